/- Lemmas and contracts of functions, joined. -/
import Derived.Test.YtoifkgkandfeiaaGreatDoorDb5
set_option linter.unusedSimpArgs false
set_option linter.unusedVariables false
set_option linter.unusedSectionVars false
namespace Go.Proofs.YtoifkgkandfeiaaGreatDoor
open Go.Tan Go.RowKit Go.Maps Go.Sort Go.Shelf
namespace Fx
theorem pt64:ptT Tryz.prog 64=true:=by kernel_rfl
theorem go17:goFn Tryz.prog 17=true:=by kernel_rfl
theorem fo115_0:fOff Tryz.prog 115 0=some 0:=by kernel_rfl
theorem ag29:aggN Tryz.prog 29=some none:=by kernel_rfl
theorem go10:goFn Tryz.prog 10=true:=by kernel_rfl
theorem go20:goFn Tryz.prog 20=true:=by kernel_rfl
end Fx
theorem lineS_ok (bk bw bd bt bq bg:Nat) (root:Nat→Y) (o:Opts) (G:PM) (hbk:PB G bk (cl [.pointer (some ⟨bw,0,none⟩)] 115)) (hbw:PB G bw (cl (wdC bd bt root o 100 (pt bq) (pt bg)) 77)) (hP:PwG Tryz.prog G):Ct Tryz.prog 25 ([.pointer (some ⟨bk,0,none⟩),.string (txt sW1)]:List Value).toArray G [.blk bg (cl [pt bq,.slice none 0 0] 140)] (fun G' μ' u=>∃ (h2 s:Sh),SlR G' 3 Wtg.cells h2 [⟨2,s,[oA6,oB6],true⟩]∧SlR G' 3 Opn.cells s [oA6,oB6]∧μ'=[.blk bg (cl [pt bq,h2.val 1] 140)]∧u=.string (txt [111,107])):=by
 refine Ct.of Tryz.func25 rfl Tryz.ntmps25 rfl fun w0 hs0=>?_
 refine .seq (rq1 rfl rfl (aS rfl rfl (.nil (.code (.seq (.seq (rq2 rfl rfl (mV rfl rfl (pe rfl .no Fx.pt64 (.u rfl) (.u rfl) ?_)))))))))
 refine .nil (.code (Wk.condF rfl rfl ?_))
 refine .skip (.code (.seq (rq10 rfl rfl (mV rfl rfl (kc rfl Fx.go17 (Evc rfl Evn) (parse_seen sW1 _ (by decide) (by decide)) ?_)))))
 rintro _ G12 μ12 hG12 ⟨e1,hO,hK1,hB,i1,cd1,hp1,rfl,rfl,hsO,hsK,hsB⟩
 obtain ⟨rfl,rfl,rfl⟩:=prsR_ok hp1 prs_W
 have hbk:=hbk.mono hG12
 have hbw:=hbw.mono hG12
 have hP:=hP.mono hG12
 refine mV rfl rfl (ex rfl .no (.u rfl) rfl (ex rfl .no (.u rfl) rfl (ex rfl .no (.u rfl) rfl ?_)))
 refine al rfl Fx.zr27 ?_; intro b5
 refine sw rfl (.u rfl) (.u rfl) rfl Fx.sz27 .here rfl (EvD.one _ rfl rfl rfl) ?_
 refine aS rfl rfl (aS rfl rfl (.nil (.code (.seq (.seq (rq1 rfl rfl (mV rfl rfl (.nil (.code (.block (.seq (rq2 rfl rfl (cp rfl .no (.u rfl) (.u rfl) rfl (aS rfl rfl (.nil (.code (.cond rfl (fun c1=>?_) (fun c1=>?_))))))))))))))))))
 ·have c1k:=c1
  try simp only [qcA,qcC,qcB] at c1
  refine .seq ?_
  refine wk_fz .here (keys_k .here rfl (keys_0)) ?_; intro Gfb5 hleb5 hbb5
  have hbk:=hbk.mono hleb5
  have hbw:=hbw.mono hleb5
  have hP:=hP.mono hleb5
  have hsO:=hsO.mono hleb5
  refine Wk.mixp ⟨true,false⟩ Fx.mix (by kernel_rfl) ?_
  refine Wp.one 1 (by kernel_rfl) ?_
  refine mV rfl rfl (.nil (Wp.one 2 (by kernel_rfl) ?_))
  refine nc rfl .no (.u rfl) (.nil (Wp.one 3 (by kernel_rfl) ?_))
  refine fa rfl .no Fx.fo115_0 (.u rfl) (.nil (Wp.one 4 (by kernel_rfl) ?_))
  refine ld rfl .no Fx.ag29 (.u rfl) (fun _=>(hbk.rd (rfl)).rd) ?_
  refine .nil (Wp.one 5 (by kernel_rfl) ?_)
  refine lA rfl .no Fx.ag27 (.u rfl) (fun _=>(hbb5.rdn (m:=11) (cs':=EvD.cells eW1 (hO.val eW1.ops.length) (hK1.val eW1.keep.length) (hB.val eW1.bytes.length)) (rfl)).rd) (fun _=>rfl) (.nil (Wp.pr 0 (by kernel_rfl) ?_))
  refine lA rfl .no Fx.ag27 (.u rfl) (fun _=>(hbb5.rdn (m:=11) (cs':=EvD.cells eW1 (hO.val eW1.ops.length) (hK1.val eW1.keep.length) (hB.val eW1.bytes.length)) (rfl)).rd) (fun _=>rfl) (.nil ⟨⟨rfl,rfl⟩,?_⟩)
  refine Wp.b1 6 (by kernel_rfl) ?_
  refine ka rfl (.inl rfl) Fx.go10 (Evc rfl (Evc rfl Evn)) (mtk1 .here) (doS_ok bw bd bt bq bg root o 100 (hK1.val eW1.keep.length) (hB.val eW1.bytes.length) 2 hO [oA6,oB6] true _ hbw hsO (.inr rfl) ok_A6 (by decide) rfl rfl) ?_
  rintro _ G25 μ25 hG25 ⟨h2,s2,hsW,hsS,rfl,rfl⟩
  have hP:=hP.mono hG25
  refine .nil (Wp.b1 7 (by kernel_rfl) ?_)
  refine kv rfl .no Fx.go20 (Evc rfl (Evc rfl Evn)) (fun _=>text_ok eW1 (hO.val eW1.ops.length) (hK1.val eW1.keep.length) (hB.val eW1.bytes.length) Rep.zero ⟨none,0⟩ ⟨none,0⟩ _ rfl rfl rfl SlR.nul SlR.nul okR0 hP) ?_
  refine .nil (Wp.one 8 (by kernel_rfl) ?_)
  refine aS rfl rfl (.nil (Wp.last (by kernel_rfl) ?_))
  refine .code (.ret (We.fin Tryz.results25 (.tmp rfl .nil) (mS .here rfl mN) ?_))
  exact ⟨h2,s2,hsW,hsS,rfl,by show Value.string (txt (textT eW1.kind eW1.n Rep.zero))=_; rw [txW]⟩
 have c1k:=c1
 exact Bool.noConfusion (id c1:true=false)
set_option maxHeartbeats 1000000 in
theorem lineP_ok (bk bw bg bq bm room bd bt held bn:Nat) (root:Nat→Y) (o:Opts) (v0:Value) (F:List Fi) (h s:Sh) (G:PM) (hbk:PB G bk (cl [.pointer (some ⟨bw,0,none⟩)] 115)) (hbw:PB G bw (cl (wdC bd bt root o 100 (pt bq) (pt bg)) 77)) (hP:PwG Tryz.prog G) (hD:DkR F 3) (hnm:F.map Fi.nm=[nmB 3 0,nmB 4 0]) (hz:szF F≤2000) (hr:5000≤room) (hr9:room≤1000000000) (hmem:0<o.mem) (hs:SlR G 3 Wtg.cells h [(⟨2,s,[oA6,oB6],true⟩ : Wtg)]) (hwo:SlR G 3 Opn.cells s [oA6,oB6]) (hK:RdNP G 6 0 (wa 64 kW)):Ct Tryz.prog 25 ([.pointer (some ⟨bk,0,none⟩),.string (txt sPk)]:List Value).toArray G [.blk bg (cl [pt bq,h.val 1] 140),.blk bq (cl (Db.cells (Db.d3 bd bt root o 1#64 held bn)) 165),.blk bd (cl (dkC bm room 5) 118),.blk bm (mO ((F).map Fi.fe) 3),.blk bn (cl [v0,.int .i64 ((0:Nat):Int)] 225),rS 16 Nd.cells v0 249 [Nd.z],.blk bt (cl [uv .u64 1#64,uv .u64 1#64] 87)] (fun G' μ' u=>∃ (oa:Option Addr) (bb cap sz:Nat) (F4:List Fi) (nn:BitVec 64),μ'=[.blk bg (cl [pt bq,.slice oa 0 0] 140),.blk bq (cl (Db.cells { Db.d3 bd bt root o 1#64 held bn with lg:=⟨⟨1#8,0#8,0#64,1#64,1#64⟩,nn,true⟩,seq:=(0#64+BitVec.ofInt 64 (([oA6,oB6].length:Nat):Int)) }) 165),.blk bd (cl (dkC bm room 7) 118),.blk bm (mO ((F4).map Fi.fe) 4),.blk bn (cl [.slice (some ⟨bb,0,none⟩) (lstW (entsF 0 [oA6,oB6]) [oA6,oB6].length).length cap,.int .i64 ((sz:Nat):Int)] 225),rS 16 Nd.cells (.slice (some ⟨bb,0,none⟩) (lstW (entsF 0 [oA6,oB6]) [oA6,oB6].length).length cap) 249 (lstW (entsF 0 [oA6,oB6]) [oA6,oB6].length),.blk bt (cl [uv .u64 2#64,uv .u64 1#64] 87)]∧u=.string (txt [100,111,110,101,32,50,58,48])):=by
 refine Ct.of Tryz.func25 rfl Tryz.ntmps25 rfl fun w0 hs0=>?_
 refine .seq (rq1 rfl rfl (aS rfl rfl (.nil (.code (.seq (.seq (rq2 rfl rfl (mV rfl rfl (pe rfl .no Fx.pt64 (.u rfl) (.u rfl) ?_)))))))))
 refine .nil (.code (Wk.condF rfl rfl ?_))
 refine .skip (.code (.seq (rq10 rfl rfl (mV rfl rfl (kc rfl Fx.go17 (Evc rfl Evn) (parse_seen sPk _ (by decide) (by decide)) ?_)))))
 rintro _ G12 μ12 hG12 ⟨e1,hO,hK1,hB,i1,cd1,hp1,rfl,rfl,hsO,hsK,hsB⟩
 obtain ⟨rfl,rfl,rfl⟩:=prsR_ok hp1 prs_Pk
 have hbk:=hbk.mono hG12
 have hbw:=hbw.mono hG12
 have hP:=hP.mono hG12
 have hs:=hs.mono hG12
 have hwo:=hwo.mono hG12
 have hK:=hK.mono hG12
 refine mV rfl rfl (ex rfl .no (.u rfl) rfl (ex rfl .no (.u rfl) rfl (ex rfl .no (.u rfl) rfl ?_)))
 refine al rfl Fx.zr27 ?_; intro b5
 refine sw rfl (.u rfl) (.u rfl) rfl Fx.sz27 .here rfl (EvD.one _ rfl rfl rfl) ?_
 refine aS rfl rfl (aS rfl rfl (.nil (.code (.seq (.seq (rq1 rfl rfl (mV rfl rfl (.nil (.code (.block (.seq (rq2 rfl rfl (cp rfl .no (.u rfl) (.u rfl) rfl (aS rfl rfl (.nil (.code (.cond rfl (fun c1=>?_) (fun c1=>?_))))))))))))))))))
 ·have c1k:=c1
  try simp only [qcA,qcC,qcB] at c1
  refine .seq ?_
  refine wk_fz .here (keys_k .here rfl (keys_k .here rfl (keys_k .here rfl (keys_k .here rfl (keys_k .here rfl (keys_k .here rfl (keys_k .here rfl (keys_0)))))))) ?_; intro Gfb5 hleb5 hbb5
  have hbk:=hbk.mono hleb5
  have hbw:=hbw.mono hleb5
  have hP:=hP.mono hleb5
  have hs:=hs.mono hleb5
  have hwo:=hwo.mono hleb5
  have hK:=hK.mono hleb5
  refine Wk.mixp ⟨true,false⟩ Fx.mix (by kernel_rfl) ?_
  refine Wp.one 1 (by kernel_rfl) ?_
  refine mV rfl rfl (.nil (Wp.one 2 (by kernel_rfl) ?_))
  refine nc rfl .no (.u rfl) (.nil (Wp.one 3 (by kernel_rfl) ?_))
  refine fa rfl .no Fx.fo115_0 (.u rfl) (.nil (Wp.one 4 (by kernel_rfl) ?_))
  refine ld rfl .no Fx.ag29 (.u rfl) (fun _=>(hbk.rd (rfl)).rd) ?_
  refine .nil (Wp.one 5 (by kernel_rfl) ?_)
  refine lA rfl .no Fx.ag27 (.u rfl) (fun _=>(hbb5.rdn (m:=11) (cs':=EvD.cells ePk (hO.val ePk.ops.length) (hK1.val ePk.keep.length) (hB.val ePk.bytes.length)) (rfl)).rd) (fun _=>rfl) (.nil (Wp.pr 0 (by kernel_rfl) ?_))
  refine lA rfl .no Fx.ag27 (.u rfl) (fun _=>(hbb5.rdn (m:=11) (cs':=EvD.cells ePk (hO.val ePk.ops.length) (hK1.val ePk.keep.length) (hB.val ePk.bytes.length)) (rfl)).rd) (fun _=>rfl) (.nil ⟨⟨rfl,rfl⟩,?_⟩)
  refine Wp.b1 6 (by kernel_rfl) ?_
  refine ka rfl (.inl rfl) Fx.go10 (Evc rfl (Evc rfl Evn)) (mtq7 .here .here .here .here .here .here .here) (doP_ok bw bg bq bm room bd bt held bn root o v0 F h (⟨2,s,[oA6,oB6],true⟩ : Wtg) 1#64 _ hbw hD hnm hz hr hr9 hmem hs hwo (.inr rfl) rfl ok_A6 (fun _=>lt_A6) hK (hO.val ePk.ops.length) (hK1.val ePk.keep.length) (hB.val ePk.bytes.length) rfl rfl rfl) ?_
  rintro _ G25 μ25 hG25 ⟨oa,hd,bb,m,cap,sz,F4,nn,hm4,hsd,rfl,rfl⟩
  have hP:=hP.mono hG25
  refine .nil (Wp.b1 7 (by kernel_rfl) ?_)
  refine kv rfl .no Fx.go20 (Evc rfl (Evc rfl Evn)) (fun _=>text_ok ePk (hO.val ePk.ops.length) (hK1.val ePk.keep.length) (hB.val ePk.bytes.length) rPk ⟨none,0⟩ hd _ rfl rfl rfl SlR.nul hsd okRP hP) ?_
  refine .nil (Wp.one 8 (by kernel_rfl) ?_)
  refine aS rfl rfl (.nil (Wp.last (by kernel_rfl) ?_))
  refine .code (.ret (We.fin Tryz.results25 (.tmp rfl .nil) (mS .here rfl (mS .here rfl (mS .here rfl (mS .here rfl (mS .here rfl (mS .here rfl (mS .here rfl mN))))))) ?_))
  obtain rfl:m=(lstW (entsF 0 [oA6,oB6]) [oA6,oB6].length).length:=hm4
  exact ⟨oa,bb,cap,sz,F4,nn,rfl,by show Value.string (txt (textT ePk.kind ePk.n rPk))=_; rw [txP]⟩
 have c1k:=c1
 exact Bool.noConfusion (id c1:true=false)
theorem lineG_ok (bk bw bg bq bd bt held bn bb cap sz:Nat) (root:Nat→Y) (o:Opts) (nn:BitVec 64) (G:PM) (hbk:PB G bk (cl [.pointer (some ⟨bw,0,none⟩)] 115)) (hbw:PB G bw (cl (wdC bd bt root o 100 (pt bq) (pt bg)) 77)) (hP:PwG Tryz.prog G):Ct Tryz.prog 25 ([.pointer (some ⟨bk,0,none⟩),.string (txt sGt)]:List Value).toArray G [.blk bq (cl (Db.cells { Db.d3 bd bt root o 1#64 held bn with lg:=⟨⟨1#8,0#8,0#64,1#64,1#64⟩,nn,true⟩,seq:=(0#64+BitVec.ofInt 64 (([oA6,oB6].length:Nat):Int)) }) 165),.blk bn (cl [.slice (some ⟨bb,0,none⟩) (lstW (entsF 0 [oA6,oB6]) [oA6,oB6].length).length cap,.int .i64 ((sz:Nat):Int)] 225),rS 16 Nd.cells (.slice (some ⟨bb,0,none⟩) (lstW (entsF 0 [oA6,oB6]) [oA6,oB6].length).length cap) 249 (lstW (entsF 0 [oA6,oB6]) [oA6,oB6].length)] (fun _ μ' u=>μ'=[.blk bq (cl (Db.cells { Db.d3 bd bt root o 1#64 held bn with lg:=⟨⟨1#8,0#8,0#64,1#64,1#64⟩,nn,true⟩,seq:=(0#64+BitVec.ofInt 64 (([oA6,oB6].length:Nat):Int)) }) 165),.blk bn (cl [.slice (some ⟨bb,0,none⟩) (lstW (entsF 0 [oA6,oB6]) [oA6,oB6].length).length cap,.int .i64 ((sz:Nat):Int)] 225),rS 16 Nd.cells (.slice (some ⟨bb,0,none⟩) (lstW (entsF 0 [oA6,oB6]) [oA6,oB6].length).length cap) 249 (lstW (entsF 0 [oA6,oB6]) [oA6,oB6].length)]∧u=.string (txt [61,120])):=by
 refine Ct.of Tryz.func25 rfl Tryz.ntmps25 rfl fun w0 hs0=>?_
 refine .seq (rq1 rfl rfl (aS rfl rfl (.nil (.code (.seq (.seq (rq2 rfl rfl (mV rfl rfl (pe rfl .no Fx.pt64 (.u rfl) (.u rfl) ?_)))))))))
 refine .nil (.code (Wk.condF rfl rfl ?_))
 refine .skip (.code (.seq (rq10 rfl rfl (mV rfl rfl (kc rfl Fx.go17 (Evc rfl Evn) (parse_seen sGt _ (by decide) (by decide)) ?_)))))
 rintro _ G12 μ12 hG12 ⟨e1,hO,hK1,hB,i1,cd1,hp1,rfl,rfl,hsO,hsK,hsB⟩
 obtain ⟨rfl,rfl,rfl⟩:=prsR_ok hp1 prs_Gt
 have hbk:=hbk.mono hG12
 have hbw:=hbw.mono hG12
 have hP:=hP.mono hG12
 refine mV rfl rfl (ex rfl .no (.u rfl) rfl (ex rfl .no (.u rfl) rfl (ex rfl .no (.u rfl) rfl ?_)))
 refine al rfl Fx.zr27 ?_; intro b5
 refine sw rfl (.u rfl) (.u rfl) rfl Fx.sz27 .here rfl (EvD.one _ rfl rfl rfl) ?_
 refine aS rfl rfl (aS rfl rfl (.nil (.code (.seq (.seq (rq1 rfl rfl (mV rfl rfl (.nil (.code (.block (.seq (rq2 rfl rfl (cp rfl .no (.u rfl) (.u rfl) rfl (aS rfl rfl (.nil (.code (.cond rfl (fun c1=>?_) (fun c1=>?_))))))))))))))))))
 ·have c1k:=c1
  try simp only [qcA,qcC,qcB] at c1
  refine .seq ?_
  refine wk_fz .here (keys_k .here rfl (keys_k .here rfl (keys_k .here rfl (keys_0)))) ?_; intro Gfb5 hleb5 hbb5
  have hbk:=hbk.mono hleb5
  have hbw:=hbw.mono hleb5
  have hP:=hP.mono hleb5
  refine Wk.mixp ⟨true,false⟩ Fx.mix (by kernel_rfl) ?_
  refine Wp.one 1 (by kernel_rfl) ?_
  refine mV rfl rfl (.nil (Wp.one 2 (by kernel_rfl) ?_))
  refine nc rfl .no (.u rfl) (.nil (Wp.one 3 (by kernel_rfl) ?_))
  refine fa rfl .no Fx.fo115_0 (.u rfl) (.nil (Wp.one 4 (by kernel_rfl) ?_))
  refine ld rfl .no Fx.ag29 (.u rfl) (fun _=>(hbk.rd (rfl)).rd) ?_
  refine .nil (Wp.one 5 (by kernel_rfl) ?_)
  refine lA rfl .no Fx.ag27 (.u rfl) (fun _=>(hbb5.rdn (m:=11) (cs':=EvD.cells eGt (hO.val eGt.ops.length) (hK1.val eGt.keep.length) (hB.val eGt.bytes.length)) (rfl)).rd) (fun _=>rfl) (.nil (Wp.pr 0 (by kernel_rfl) ?_))
  refine lA rfl .no Fx.ag27 (.u rfl) (fun _=>(hbb5.rdn (m:=11) (cs':=EvD.cells eGt (hO.val eGt.ops.length) (hK1.val eGt.keep.length) (hB.val eGt.bytes.length)) (rfl)).rd) (fun _=>rfl) (.nil ⟨⟨rfl,rfl⟩,?_⟩)
  refine Wp.b1 6 (by kernel_rfl) ?_
  refine ka rfl (.inl rfl) Fx.go10 (Evc rfl (Evc rfl Evn)) (mtk3 .here .here .here) (doG_ok bw bg bq bd bt held bn bb cap sz root o nn _ hbw (hO.val eGt.ops.length) (hK1.val eGt.keep.length) (hB.val eGt.bytes.length) rfl rfl rfl) ?_
  rintro _ G25 μ25 hG25 ⟨rfl,rfl⟩
  have hP:=hP.mono hG25
  refine .nil (Wp.b1 7 (by kernel_rfl) ?_)
  refine kv rfl .no Fx.go20 (Evc rfl (Evc rfl Evn)) (fun _=>text_ok eGt (hO.val eGt.ops.length) (hK1.val eGt.keep.length) (hB.val eGt.bytes.length) rGt ⟨none,0⟩ ⟨none,0⟩ _ rfl rfl rfl SlR.nul SlR.nul okRG hP) ?_
  refine .nil (Wp.one 8 (by kernel_rfl) ?_)
  refine aS rfl rfl (.nil (Wp.last (by kernel_rfl) ?_))
  refine .code (.ret (We.fin Tryz.results25 (.tmp rfl .nil) (mS .here rfl (mS .here rfl (mS .here rfl mN))) ?_))
  exact ⟨rfl,by show Value.string (txt (textT eGt.kind eGt.n rGt))=_; rw [txG]⟩
 have c1k:=c1
 exact Bool.noConfusion (id c1:true=false)
theorem lineF_ok (bk:Nat) (v:Value) (G:PM) (hbk:PB G bk (cl [v] 115)) (hP:PwG Tryz.prog G):Ct Tryz.prog 25 ([.pointer (some ⟨bk,0,none⟩),.string (txt sFo)]:List Value).toArray G [] (fun _ μ' u=>μ'=[]∧u=.string (txt [101,114,114,111,114,32,50,54,48,32,97,116,32,48])):=by
 refine Ct.of Tryz.func25 rfl Tryz.ntmps25 rfl fun w0 hs0=>?_
 refine .seq (rq1 rfl rfl (aS rfl rfl (.nil (.code (.seq (.seq (rq2 rfl rfl (mV rfl rfl (pe rfl .no Fx.pt64 (.u rfl) (.u rfl) ?_)))))))))
 refine .nil (.code (Wk.condF rfl rfl ?_))
 refine .skip (.code (.seq (rq10 rfl rfl (mV rfl rfl (kc rfl Fx.go17 (Evc rfl Evn) (parse_seen sFo _ (by decide) (by decide)) ?_)))))
 rintro _ G12 μ12 hG12 ⟨e1,hO,hK1,hB,i1,cd1,hp1,rfl,rfl,hsO,hsK,hsB⟩
 obtain ⟨rfl,rfl,rfl⟩:=prsR_er hp1 prs_Fo
 have hP:=hP.mono hG12
 refine mV rfl rfl (ex rfl .no (.u rfl) rfl (ex rfl .no (.u rfl) rfl (ex rfl .no (.u rfl) rfl ?_)))
 refine al rfl Fx.zr27 ?_; intro b5
 refine sw rfl (.u rfl) (.u rfl) rfl Fx.sz27 .here rfl (EvD.one _ rfl rfl rfl) ?_
 refine aS rfl rfl (aS rfl rfl (.nil (.code (.seq (.seq (rq1 rfl rfl (mV rfl rfl (.nil (.code (.block (.seq (rq2 rfl rfl (cp rfl .no (.u rfl) (.u rfl) rfl (aS rfl rfl (.nil (.code (.cond rfl (fun c1=>?_) (fun c1=>?_))))))))))))))))))
 ·have c1k:=c1
  exact Bool.noConfusion (id c1:false=true)
 have c1k:=c1
 try simp only [qcA,qcC,qcB] at c1
 refine .seq (rq2 rfl rfl (cp rfl .no (.u rfl) (.u rfl) rfl (aS rfl rfl (.nil (.code (.cond rfl (fun c2=>?_) (fun c2=>?_)))))))
 ·have c2k:=c2
  try simp only [qcA,qcC,qcB] at c2
  refine .seq (rq8 rfl rfl (mV rfl rfl (kv rfl .no Fx.go45 (Evc rfl Evn) (fun _=>itoa_ok 260 _ (by decide) (by decide) hP) ?_)))
  refine sPt (sError++Lib.itoa 260) rfl .no (.u rfl) (.u rfl) (rfl) (fun _=>by rw [txt_size,it_260]; decide) ?_
  refine sPt (sError++Lib.itoa 260++[32,97,116,32]) rfl .no (.u rfl) (.u rfl) (rfl) (fun _=>by rw [txt_size,it_260]; decide) ?_
  refine mV rfl rfl (kv rfl .no Fx.go45 (Evc rfl Evn) (fun _=>itoa_ok 0 _ (by decide) (by decide) hP) ?_)
  refine sPt (sError++Lib.itoa 260++[32,97,116,32]++Lib.itoa 0) rfl .no (.u rfl) (.u rfl) (rfl) (fun _=>by rw [txt_size,txt_size,it_260,it_0]; decide) ?_
  refine aS rfl rfl (.nil (.code (.ret (We.fin0 Tryz.results25 (.tmp rfl .nil) ?_))))
  exact ⟨rfl,by rw [it_260,it_0]; rfl⟩
 have c2k:=c2
 exact Bool.noConfusion (id c2:true=false)
end Go.Proofs.YtoifkgkandfeiaaGreatDoor
namespace Go.Proofs.YtoifkgkandfeiaaGreatDoor
open Go.Tan Go.RowKit Go.Maps Go.Sort Go.Shelf
namespace Fx
theorem zr38:zrL Tryz.prog 38=some ([.int .i64 0,.int .i64 0,.int .i64 0,.int .i64 0,.int .i64 0,.int .i64 0,.int .i64 0]):=by kernel_rfl
theorem bp36_0_1_2:bPl Tryz.prog 36 [0,1,2]=some ([.int .i64 0,.int .i64 0,.int .i64 0],[(0,1),(1,1),(2,1)]):=by kernel_rfl
theorem bp38_0_1_2_3_4:bPl Tryz.prog 38 [0,1,2,3,4]=some ([.int .i64 0,.int .i64 0,.int .i64 0,.int .i64 0,.int .i64 0,.int .i64 0,.int .i64 0],[(0,1),(1,1),(2,1),(3,1),(4,3)]):=by kernel_rfl
theorem sz38:szT Tryz.prog 38=some 7:=by kernel_rfl
theorem bp34_:bPl Tryz.prog 34 []=some (ba 32 (fun _=>0#8),[]):=by kernel_rfl
theorem go24:goFn Tryz.prog 24=true:=by kernel_rfl
theorem go23:goFn Tryz.prog 23=true:=by kernel_rfl
theorem go25:goFn Tryz.prog 25=true:=by kernel_rfl
theorem eqt71:eqT Tryz.prog 4 71 ([.int .u8,.str,.str])=true:=by kernel_rfl
end Fx
theorem opt26_ok (G:PM):Ct Tryz.prog 24 ([V 100#8]:List Value).toArray G [] (fun _ μ' u=>μ'=[]∧u=(⟨101,150,2,1500,40,4,10⟩ : Opts).val):=by
 refine Ct.of Tryz.func24 rfl Tryz.ntmps24 rfl fun w0 hs0=>?_
 refine .seq (rq1 rfl rfl ?_)
 refine al rfl Fx.zr38 ?_; intro b2
 refine .nil (.code (.seq (rq6 rfl rfl (mV rfl rfl ?_))))
 refine cn (k:=.u8) rfl .no Fx.cv5_3 (by decide) (.u rfl) ?_; intro m4 em4 lm4
 refine arn ((101:Nat):Int) rfl .no (.u rfl) (.u rfl) rfl (fun _=>by rw [em4]; rfl) (fun _=>wrap_i64 (by omega) (by omega)) ?_
 refine bCe ([.int .i64 40,.int .i64 4,.int .i64 10]) rfl .no Fx.bp36_0_1_2 (.cons (.u rfl) rfl (.cons (.u rfl) rfl (.cons (.u rfl) rfl .nil))) rfl (rfl) (bCe (Opts.cells (⟨101,150,2,1500,40,4,10⟩ : Opts)) rfl .no Fx.bp38_0_1_2_3_4 (.cons (.u rfl) rfl (.cons (.u rfl) rfl (.cons (.u rfl) rfl (.cons (.u rfl) rfl (.cons (.u rfl) rfl .nil))))) rfl (rfl) (sw rfl (.u rfl) (.u rfl) rfl Fx.sz38 .here (by first|exact qE|exact qL|rfl) (by first|exact ba_one _ _|exact wa_one _ _|exact one_V _|decide|exact one_app (wa_one _ _) (by simp [Value.oneCell'])) ?_))
 refine .nil (.code (.ret (We.fin0 Tryz.results24 (.cell rfl (fun w hw=>run_loadVarN Fx.ag38 (RdN.own .here) ((by first|exact qE|exact qL|rfl)) hw) .nil) ?_)))
 exact ⟨rfl,rfl⟩
set_option maxHeartbeats 1000000 in
theorem shown26_ok (G:PM) (hP:PwG Tryz.prog G) (hK:RdNP G 6 0 (wa 64 kW)):Ct Tryz.prog 16 ([]:List Value).toArray G [] (fun _ μ' u=>μ'=[]∧u=.bool true):=by
 refine Ct.of Tryz.func16 rfl Tryz.ntmps16 rfl fun w0 hs0=>?_
 refine .seq (rq1 rfl rfl (aS rfl rfl (.nil (.code (.seq (rq9 rfl rfl (kc rfl Fx.go17 (Evc rfl Evn) (parse_seen sW1 _ (by decide) (by decide)) ?_)))))))
 rintro _ G14 μ14 hG14 ⟨e1,hO,hK1,hB,i1,cd1,hp1,rfl,rfl,hsO,hsK,hsB⟩
 obtain ⟨rfl,rfl,rfl⟩:=prsR_ok hp1 prs_W
 have hK:=hK.mono hG14
 have hP:=hP.mono hG14
 refine mV rfl rfl (ex rfl .no (.u rfl) rfl (ex rfl .no (.u rfl) rfl (ex rfl .no (.u rfl) rfl ?_)))
 refine al rfl Fx.zr27 ?_; intro b1
 refine sw rfl (.u rfl) (.u rfl) rfl Fx.sz27 .here rfl (EvD.one _ rfl rfl rfl) ?_
 refine aS rfl rfl (aS rfl rfl (.nil (.code (.seq (rq9 rfl rfl (kc rfl Fx.go17 (Evc rfl Evn) (parse_seen sG0 _ (by decide) (by decide)) ?_))))))
 rintro _ G19 μ19 hG19 ⟨e2,hO2,hK2,hB2,i2,cd2,hp2,rfl,rfl,hsO2,hsK2,hsB2⟩
 obtain ⟨rfl,rfl,rfl⟩:=prsR_er hp2 prs_G0
 have hK:=hK.mono hG19
 have hP:=hP.mono hG19
 have hsO:=hsO.mono hG19
 refine mV rfl rfl (ex rfl .no (.u rfl) rfl (ex rfl .no (.u rfl) rfl (ex rfl .no (.u rfl) rfl ?_)))
 refine al rfl Fx.zr27 ?_; intro b4
 refine sw rfl (.u rfl) (.u rfl) rfl Fx.sz27 .here rfl (EvD.one _ rfl rfl rfl) ?_
 refine aS rfl rfl (aS rfl rfl (.nil (.code (.seq (rq8 rfl rfl (bCe (ba 32 (fun _=>0#8)) rfl .no Fx.bp34_ .nil rfl (rfl) ?_))))))
 refine kv rfl .no Fx.go24 (Evc rfl Evn) (fun _=>opt26_ok _) ?_
 refine kc rfl Fx.go23 (Evc rfl (Evc rfl (Evc rfl (Evc rfl Evn)))) (dkNew_ok 1048576 (fun _=>0#8) (⟨101,150,2,1500,40,4,10⟩ : Opts) 100 _ rfl (by decide) (by decide) hK) ?_
 rintro _ G26 μ26 hG26 ⟨bk,bd,bm,bt,bw,bq,held,now,bg,v,F,ov,hD,hn,hz,hbw,hbk,rfl,rfl⟩
 have hK:=hK.mono hG26
 have hP:=hP.mono hG26
 have hsO:=hsO.mono hG26
 refine mV rfl rfl (ex rfl .no (.u rfl) rfl (ex rfl .no (.u rfl) rfl (aS rfl rfl (aS rfl rfl (.nil (.code (.seq (.seq (Wk.rg [0,1,2,3,4,5,6,7,8,9,10,11] rfl rfl (mV rfl rfl (cp rfl .no (.u rfl) (.u rfl) rfl (mV rfl rfl (mv rfl (.f rfl rfl) (.u rfl) (pe rfl (.f rfl rfl) Fx.pt64 (.s rfl) (.u rfl) ?_))))))))))))))
 refine pkO rfl .no (.u rfl) (.s rfl) (mV rfl rfl (fz rfl (.f rfl rfl) Fx.fo27_2 (.u rfl) (ld rfl (.f rfl rfl) Fx.ag22 (.s rfl) (fun hc=>Rd.own (.there tk8) rfl) ?_)))
 refine ln rfl (.f rfl rfl) Fx.sn22 (.s rfl) (cp rfl (.f rfl rfl) (.s rfl) (.u rfl) rfl (pkO rfl .no (.u rfl) (.s rfl) (.nil (.code (.cond rfl (fun c1=>?_) (fun c1=>?_))))))
 ·have c1k:=c1
  exact Bool.noConfusion (id c1:false=true)
 have c1k:=c1
 try simp only [qcA,qcC,qcB] at c1
 refine .skip (.code (.seq (Wk.rg [0,1,2,3,4,5,6,7,8,9,10,11] rfl rfl (mV rfl rfl (ka rfl (.inr rfl) Fx.go25 (Evc rfl (Evc rfl Evn)) (mtk1 .here) (lineS_ok bk bw bd bt bq bg (fun _=>0#8) (⟨101,150,2,1500,40,4,10⟩ : Opts) _ hbk hbw hP) ?_)))))
 rintro _ G42 μ42 hG42 ⟨h2,s2,hsW,hsS,rfl,rfl⟩
 have hK:=hK.mono hG42
 have hP:=hP.mono hG42
 have hsO:=hsO.mono hG42
 have hbw:=hbw.mono hG42
 have hbk:=hbk.mono hG42
 refine mV rfl rfl (ka rfl (.inr rfl) Fx.go25 (Evc rfl (Evc rfl Evn)) (mtq7 .here .here .here .here tk1 tk1 .here) (lineP_ok bk bw bg bq bm 1048576 bd bt held now (fun _=>0#8) (⟨101,150,2,1500,40,4,10⟩ : Opts) v F h2 s2 _ hbk hbw hP hD hn hz (by decide) (by decide) (by decide) hsW hsS hK) ?_)
 rintro _ G44 μ44 hG44 ⟨oa,bb,cap,sz,F4,nn,rfl,rfl⟩
 have hP:=hP.mono hG44
 have hsO:=hsO.mono hG44
 have hbw:=hbw.mono hG44
 have hbk:=hbk.mono hG44
 refine mV rfl rfl (ka rfl (.inr rfl) Fx.go25 (Evc rfl (Evc rfl Evn)) (mtk3 tk1 tk3 tk3) (lineG_ok bk bw bg bq bd bt held now bb cap sz (fun _=>0#8) (⟨101,150,2,1500,40,4,10⟩ : Opts) nn _ hbk hbw hP) ?_)
 rintro _ G46 μ46 hG46 ⟨rfl,rfl⟩
 have hP:=hP.mono hG46
 have hsO:=hsO.mono hG46
 have hbk:=hbk.mono hG46
 refine mV rfl rfl (kv rfl .no Fx.go25 (Evc rfl (Evc rfl Evn)) (fun _=>lineF_ok bk _ _ hbk hP) ?_)
 refine aS rfl rfl (aS rfl rfl (aS rfl rfl (aS rfl rfl (.nil (.code (.seq (Wk.rg [0,1,2,3,4,5,6,7,8,9,10,11,12,13,14,15,16,17,18,19,20,21,22,23,24,25,26,27,28,29,30,31,32,33,34,35,36,37,38,39,40,41,42,43] rfl rfl (mV rfl rfl (cp rfl .no (.u rfl) (.u rfl) rfl (mV rfl rfl (fz rfl (.t rfl rfl) Fx.fo27_1 (.u rfl) (ld rfl (.t rfl rfl) Fx.ag3 (.s rfl) (fun hc=>Rd.own (.there tk8) rfl) ?_))))))))))))
 refine cp rfl (.t rfl rfl) (.s rfl) (.u rfl) rfl (pkA rfl .no (.u rfl) (.s rfl) (mV rfl rfl (fz rfl (.t rfl rfl) Fx.fo27_3 (.u rfl) (ld rfl (.t rfl rfl) Fx.ag4 (.s rfl) (fun hc=>Rd.own (.there tk8) rfl) ?_))))
 refine pkA rfl .no (.u rfl) (.s rfl) (mV rfl rfl (fz rfl (.t rfl rfl) Fx.fo27_2 (.u rfl) (ld rfl (.t rfl rfl) Fx.ag22 (.s rfl) (fun hc=>Rd.own (.there tk8) rfl) ?_)))
 refine ih rfl (.t rfl rfl) Fx.se22 (.s rfl) (.u rfl) (fun hc=>by omega) (fun hc=>by omega) (fun hc=>hsO.nn (k:=0) (by first|omega|(simp only [Bool.and_eq_true,decide_eq_true_eq] at hc; omega)|(simp only [List.length_cons,List.length_nil]; omega))) ?_
 refine lA rfl (.t rfl rfl) Fx.ag71 (.s rfl) (fun hc=>(hsO.at (k:=0) rfl rfl).rd) (fun _=>Opn.len _) ?_
 refine bCe (Opn.cells oA6) rfl (.t rfl rfl) Fx.bp71_0_1_2 (.cons (.u rfl) rfl (.cons (.u rfl) rfl (.cons (.u rfl) rfl .nil))) rfl (rfl) (eqC (true) rfl (.t rfl rfl) Fx.eqt71 (.s rfl) (.s rfl) (fun hc=>.cons (.int (by decide) (by decide)) (.cons (.str (by decide)) (.cons (.str (by decide)) .nil))) (fun hc=>.cons (.int (by decide) (by decide)) (.cons (.str (by decide)) (.cons (.str (by decide)) .nil))) (fun hc=>⟨fun _=>rfl,fun _=>rfl⟩) ?_)
 refine pkA rfl .no (.u rfl) (.s rfl) (mV rfl rfl (mv rfl (.t rfl rfl) (.u rfl) (cp rfl (.t rfl rfl) (.s rfl) (.u rfl) rfl (pkA rfl .no (.u rfl) (.s rfl) (mV rfl rfl (mv rfl (.t rfl rfl) (.u rfl) (cp rfl (.t rfl rfl) (.s rfl) (.u rfl) rfl (pkA rfl .no (.u rfl) (.s rfl) (mV rfl rfl (mv rfl (.t rfl rfl) (.u rfl) (cs rfl (.t rfl rfl) (.s rfl) (.u rfl) rfl (pkA rfl .no (.u rfl) (.s rfl) (mV rfl rfl (mv rfl (.t rfl rfl) (.u rfl) (cs rfl (.t rfl rfl) (.s rfl) (.u rfl) rfl (pkA rfl .no (.u rfl) (.s rfl) (mV rfl rfl (mv rfl (.t rfl rfl) (.u rfl) (cs rfl (.t rfl rfl) (.s rfl) (.u rfl) rfl (pkA rfl .no (.u rfl) (.s rfl) (mV rfl rfl (mv rfl (.t rfl rfl) (.u rfl) (cs rfl (.t rfl rfl) (.s rfl) (.u rfl) rfl (pkA rfl .no (.u rfl) (.s rfl) (aS rfl rfl (.nil (.code (.ret (We.fin0 Tryz.results16 (.tmp rfl .nil) ?_)))))))))))))))))))))))))))))
 exact ⟨rfl,by kernel_rfl⟩
end Go.Proofs.YtoifkgkandfeiaaGreatDoor
namespace Go.Tan
open Go.RowKit
def dieO (P:Program) (T e0 b8 b9 T8 T9:Nat) (rs:List ResultVar) (vs:List Value):List PanicEntry→Env→PM→Mem→Prop:=fun ch ρ G μ =>
 ch=[wrn T e0]∧∃ x y μ',μ.Perm (.blk b8 (cl [x] T8) :: .blk b9 (cl [y] T9) :: μ')∧Rs P ρ G (.blk b8 (cl [.pointer none] T8) :: .blk b9 (cl [.int .i64 (e0:Int)] T9) :: μ') rs vs
theorem mtk2c {μ μ1 μ2:Mem} {r1 r2:Res} (h1:MTake μ r1 μ1) (h2:MTake μ1 r2 μ2):μ.Perm (r1 :: r2 :: μ2):=h1.perm.trans (h2.perm.cons _)
theorem dieO_of {P:Program} {T e0 b8 b9 T8 T9:Nat} {x y:Value} {rs:List ResultVar} {vs:List Value} {ch:List PanicEntry} {ρ ρ':Env} {G:PM} {μ' μ₂ μ3 μ4:Mem} (hd:ch=[wrn T e0]) (he:∀ i,look ρ' i=look ρ i) (hm:μ'.Perm μ₂)
  (t1:MTake μ₂ (.blk b8 (cl [x] T8)) μ3) (t2:MTake μ3 (.blk b9 (cl [y] T9)) μ4) (hR:Rs P ρ G (.blk b8 (cl [.pointer none] T8) :: .blk b9 (cl [.int .i64 (e0:Int)] T9) :: μ4) rs vs):dieO P T e0 b8 b9 T8 T9 rs vs ch ρ' G μ' :=
 ⟨hd,x,y,μ4,hm.trans (mtk2c t1 t2),hR.congr he⟩
theorem dieO_ok {X:Cx} {q1 q2:DQ} {T e0 b8 b9 T8 T9:Nat} {rs:List ResultVar} {vs:List Value} (hf1:goFn X.P q1.f=true) (hf2:goFn X.P q2.f=true) (hr:X.fn.results=rs.toArray) (h0:X.n.ds=[q2.d])
  (hc1:∀ w G y,Sat G [.blk b9 (cl [y] T9)] w→CallsD X.P q1.f (q1.args++q1.vc).toArray (.panicking [wrn T e0]) w (fun r u' w'=>(∃ v,r=.returned v)∧u'=.panicking [wrn' T e0]∧Tr G (keys [.blk b9 (cl [y] T9)]) w G [.blk b9 (cl [.int .i64 (e0:Int)] T9)] w'))
  (hc2:∀ w G x,Sat G [.blk b8 (cl [x] T8),.blk b9 (cl [.int .i64 (e0:Int)] T9)] w→CallsD X.P q2.f (q2.args++q2.vc).toArray .returning w (fun r u' w'=>(∃ v,r=.returned v)∧u'=.returning∧Tr G (keys [.blk b8 (cl [x] T8),.blk b9 (cl [.int .i64 (e0:Int)] T9)]) w G [.blk b8 (cl [.pointer none] T8),.blk b9 (cl [.int .i64 (e0:Int)] T9)] w'))
  (hp:∀ G',X.post G' [] (tup vs)) :
  ∀ ch ρ G μ a w,dieO X.P T e0 b8 b9 T8 T9 rs vs ch ρ G μ→Ag ⟨X.n.n,q1.d :: X.n.ds,dieO X.P T e0 b8 b9 T8 T9 rs vs⟩ ρ a→Tr X.G0 X.K0 X.w0 G μ w→Leaves X.P X.fn a.tmps (RR X.post X.die X.G0 X.K0 X.w0) a.defers (.panicking ch) w:=by
 rintro ch ρ G μ a w ⟨rfl,x,y,μ',hm,hR⟩ ha ht
 rw [ha.defers,h0]
 have ht1:Tr X.G0 X.K0 X.w0 G ([.blk b9 (cl [y] T9)]++(.blk b8 (cl [x] T8) :: μ')) w:=ht.perm (hm.trans (.swap ..))
 refine leaves_cons (by simp) (f:=q1.f) (args:=(q1.args++q1.vc).toArray) (by simp [invoke,run_callFunc hf1]) ((hc1 w G y ht1.sat.left).mono ?_)
 rintro r u' w' ⟨⟨v,rfl⟩,rfl,h2⟩
 have ht2:=ht1.step h2
 show Leaves X.P X.fn a.tmps _ [q2.d] (settle (.panicking [wrn' T e0])) _
 have hs:settle (.panicking [wrn' T e0])=.returning:=by simp [settle,wrn']
 rw [hs]
 have ht3:Tr X.G0 X.K0 X.w0 G ([.blk b8 (cl [x] T8),.blk b9 (cl [.int .i64 (e0:Int)] T9)]++μ') w':=ht2.perm (.swap ..)
 refine leaves_cons (by simp) (f:=q2.f) (args:=(q2.args++q2.vc).toArray) (by simp [invoke,run_callFunc hf2]) ((hc2 w' G x ht3.sat.left).mono ?_)
 rintro r2 u2 w2 ⟨⟨v2,rfl⟩,rfl,h4⟩
 have ht4:=ht3.step h4
 show Leaves X.P X.fn a.tmps _ [] (settle .returning) _
 have hs2:settle .returning=.returning:=by simp [settle]
 rw [hs2]
 exact ⟨_,results_run (by rw [hr]; exact hR) ha ht4.sat,.inl ⟨_,G,[],rfl,mN.tr ht4,hp G⟩⟩
theorem Wk.defersO {X:Cx} {k:List KI} {ρ:Env} {G:PM} {μ:Mem} {id:Nat} {l:List Oper} (σ1:List Nat) (j:Nat) (q1 q2:DQ) (T e0 b8 b9 T8 T9:Nat) {rs:List ResultVar} (vs:List Value) (hf1:goFn X.P q1.f=true) (hf2:goFn X.P q2.f=true) (hr:X.fn.results=rs.toArray) (h0:X.n.ds=[q2.d])
  (hc1:∀ w G y,Sat G [.blk b9 (cl [y] T9)] w→CallsD X.P q1.f (q1.args++q1.vc).toArray (.panicking [wrn T e0]) w (fun r u' w'=>(∃ v,r=.returned v)∧u'=.panicking [wrn' T e0]∧Tr G (keys [.blk b9 (cl [y] T9)]) w G [.blk b9 (cl [.int .i64 (e0:Int)] T9)] w'))
  (hc2:∀ w G x,Sat G [.blk b8 (cl [x] T8),.blk b9 (cl [.int .i64 (e0:Int)] T9)] w→CallsD X.P q2.f (q2.args++q2.vc).toArray .returning w (fun r u' w'=>(∃ v,r=.returned v)∧u'=.returning∧Tr G (keys [.blk b8 (cl [x] T8),.blk b9 (cl [.int .i64 (e0:Int)] T9)]) w G [.blk b8 (cl [.pointer none] T8),.blk b9 (cl [.int .i64 (e0:Int)] T9)] w'))
  (hp:∀ G',X.post G' [] (tup vs)) (hσ:List.range l.length=σ1++[j]) (hds:dstAll X.n l=true)
  (h:Wo false ⟨false,false⟩ X.P X.n l (fun ρ G μ=>DefOp X.P X.n l j q1.d ρ∧We (X.dfs q1.d (dieO X.P T e0 b8 b9 T8 T9 rs vs) (dieO_ok hf1 hf2 hr h0 hc1 hc2 hp)) .normal k ρ G μ) σ1 ρ G μ):Wk X (.region id l.toArray false) k ρ G μ :=
 Wk.defers σ1 j q1.d _ (dieO_ok hf1 hf2 hr h0 hc1 hc2 hp) hσ hds h
end Go.Tan
namespace Go.Proofs.YtoifkgkandfeiaaGreatDoor
open Go.Tan Go.RowKit Go.Maps Go.Sort Go.Shelf
namespace Fx
theorem bp227_0:bPl Tryz.prog 227 [0]=some ([.int .i64 0],[(0,1)]):=by kernel_rfl
theorem sr227:srT Tryz.prog 227=true:=by kernel_rfl
end Fx
theorem must_p (e:Nat) (G:PM) (he:e≠0):Cp Tryz.prog 135 ([.int .i64 ((e:Nat):Int)]:List Value).toArray G [] (fun _ _ _=>False) (fun ch=>ch=[wrn 227 e]):=by
 refine Cp.of Tryz.func135 rfl Tryz.ntmps135 rfl fun w0 hs0=>?_
 refine .seq (rq2 rfl rfl (mV rfl rfl (cp rfl .no (.u rfl) (.u rfl) rfl (.nil (.code (.cond rfl (fun c1=>?_) (fun c1=>?_)))))))
 ·have c1k:=c1
  try simp only [qcA,qcB] at c1
  refine rq4 rfl rfl (mV rfl rfl (bC rfl .no Fx.bp227_0 (.cons (.u rfl) rfl .nil) rfl ?_))
  refine mkI rfl Fx.sr227 (.u rfl) ?_
  refine pnc rfl rfl (fun _ _ _ _=>rfl)
 have c1k:=c1
 simp at c1; omega
theorem dAppF_ok (bd bm room done clk:Nat) (F:List Fi) (G:PM) (hD:DkR F clk) (hd9:done≤1000000000) (hr9:room≤1000000000) (nm:ByteArray) (h:Sh) (xs:List Y) (hs:SlR G 1 encY h xs) (hn:goodN nm) (hx:xs.length≤1000000000) (hfull:room<xs.length+szF F):Ct Tryz.prog 175 ([.pointer (some ⟨bd,0,none⟩),.string nm,h.val xs.length]:List Value).toArray G [.blk bd (cl (dkC bm room (done)) 118),.blk bm (mO ((F).map Fi.fe) (clk))] (fun _ μ' u=>μ'=[.blk bd (cl (dkC bm room (done)) 118),.blk bm (mO ((F).map Fi.fe) (clk))]∧u=.int .i64 141):=by
 refine Ct.of Tryz.func175 rfl Tryz.ntmps175 rfl fun w0 hs0=>?_
 have hfw:=hD.few
 refine .seq (rq1 rfl rfl (aS rfl rfl (.nil (.code (.seq (.seq (rq4 rfl rfl (mV rfl rfl (mV rfl rfl (ka rfl (.inr rfl) Fx.go55 (Evc rfl (Evc rfl (Evc rfl (Evc rfl Evn)))) (mtk2 .here .here) (ready_ok bd bm room done clk F _ hD hd9 hr9 nm false ⟨none,0⟩ [] SlR.nul (Nat.zero_le _) (fun s hs=>absurd hs List.not_mem_nil) hn (fun h=>absurd h (by decide))) ?_))))))))))
 rintro _ G11 μ11 hG11 ⟨rfl,rfl⟩
 refine aS rfl rfl (.nil (.code (.seq (rq2 rfl rfl (mV rfl rfl (cp rfl .no (.u rfl) (.u rfl) rfl (.nil (.code (.cond rfl (fun c1=>?_) (fun c1=>?_))))))))))
 ·have c1k:=c1
  exact absurd c1 (by decide)
 have c1k:=c1
 try simp only [qcA,qcC,qcB] at c1
 refine .skip (.code (.seq (.seq (Wk.draw (mc:=⟨false,false⟩) [0,1,2,3,4,5,6,7,8,9] Fx.mix (by kernel_rfl) ?_))))
 refine mV rfl rfl (ln rfl .no Fx.sn25 (.u rfl) (mV rfl rfl (nc rfl .no (.u rfl) (fz rfl .no Fx.fo118_1 (.u rfl) (ld rfl .no Fx.ag3 (.u rfl) (fun _=>Rd.own .here rfl) ?_)))))
 refine mV rfl rfl (kp rfl .no Fx.go247 (Evc rfl Evn) (Gp.add tk1 (Gp.add .here Gp.nil)) (fun _ hle hq=>size_ok bd bm room done clk F _ hD ⟨hq.1 _ _ (PM.add_same _ _ _)⟩ ⟨PM.add_same _ _ _⟩) ?_)
 refine ar rfl .no (.u rfl) (.u rfl) rfl (fun _=>wrap_i64 (by omega) (by omega)) ?_
 refine cp rfl .no (.u rfl) (.u rfl) rfl (.nil (.code (.cond rfl (fun c2=>?_) (fun c2=>?_))))
 ·have c2k:=c2
  try simp only [qcA,qcC,qcB] at c2
  refine .seq (rq1 rfl rfl (aS rfl rfl (.nil (.code (.ret (We.fin Tryz.results175 (.tmp rfl .nil) (mS .here rfl (mS .here rfl mN)) ?_))))))
  exact ⟨rfl,rfl⟩
 have c2k:=c2
 simp only [decide_eq_false_iff_not] at c2; omega
theorem dbwF_p (bx bm room:Nat) (d:Db) (nm:ByteArray) (v:Value) (L:List Y) (G:PM) (hr9:room≤1000000000) (hn:goodN nm) (hL:L.length≤1000000) (hfull:room<L.length):Cp Tryz.prog 136 ([pt bx,.string nm,v]:List Value).toArray G [.blk bx (cl d.cells 165),rB v 5 L,.blk d.dk (cl (dkC bm room 0) 118),.blk bm (mO [] 0)] (fun _ _ _=>False) (fun ch=>ch=[wrn 227 141]):=by
 refine Cp.of Tryz.func136 rfl Tryz.ntmps136 rfl fun w0 hs0=>?_
 refine .seq (rq8 rfl rfl (mV rfl rfl (nc rfl .no (.u rfl) (fz rfl .no Fx.fo165_0 (.u rfl) (ld rfl .no Fx.ag48 (.u rfl) (fun _=>Rd.own .here rfl) ?_)))))
 refine mV rfl rfl (mV rfl rfl (ka rfl (.inr rfl) Fx.go175 (Evc rfl (Evc rfl (Evc rfl Evn))) (mtk3 tk1 tk1 tk1) (Ct.giveR fun s9 G2 hle hv hs9=>by subst hv; exact dAppF_ok d.dk bm room 0 0 [] G2 DkR0 (by decide) hr9 nm s9 L hs9 hn (by omega) (by show room<L.length+0; omega)) ?_))
 rintro _ G13 μ13 hG13 ⟨rfl,rfl⟩
 refine aS rfl rfl (.nil (.code (.seq (rq2 rfl rfl (mV rfl rfl (kpc rfl Fx.go135 (Evc rfl Evn) (must_p 141 _ (by decide)) (fun ch G9 ρ9 μ9 hle9 hd he hm=>hd) ?_))))))
 rintro _ G15 μ15 hG15 hF
 exact hF.elim
set_option maxHeartbeats 4000000 in
theorem dbegF_p (bx bm room dk tr held now:Nat) (root:Nat→Y) (o:Opts) (ep o1:BitVec 64) (G:PM) (hr:room<30) (hK:RdNP G 6 0 (wa 64 kW)):Cp Tryz.prog 90 ([pt bx]:List Value).toArray G [.blk bx (cl (Db.cells (Db.new dk tr root o ep held now)) 165),.blk dk (cl (dkC bm room 0) 118),.blk bm (mO [] 0),.blk tr (cl [uv .u64 0#64,uv .u64 o1] 87)] (fun _ _ _=>False) (fun ch=>ch=[wrn 227 141]):=by
 refine Cp.of Tryz.func90 rfl Tryz.ntmps90 rfl fun w0 hs0=>?_
 refine .seq (rq4 rfl rfl (mV rfl rfl (ka rfl (.inr rfl) Fx.go127 (Evc rfl Evn) (mtq4 tk3 .here .here .here) (lend1 fun G1 hle1 h1=>lend3 fun G2 hle h2 h3 h4=>search_ok bx (Db.new dk tr root o ep held now) bm room 0 0 [] G2 h2 h3 h4 DkR0 o1 ⟨hle _ _ h1.h⟩ rfl) ?_)))
 rintro _ G15 μ15 hG15 ⟨ν1,rfl,ν2,rfl,bl,vl,ol,rfl,rfl⟩
 have hK:=hK.mono hG15
 refine al rfl Fx.zr231 ?_; intro b2
 refine sw rfl (.u rfl) (.u rfl) rfl Fx.sz231 .here rfl (by simp [Value.oneCell']) ?_
 refine .nil (.code (.seq ?_))
 refine wk_fs tk6 (fun _ _=>rfl) (keys_k tk2 rfl (keys_k tk2 rfl (keys_k tk2 rfl (keys_k tk1 rfl (keys_0))))) ?_; intro GfRL hRL hleRL evRL hsRL; subst evRL
 have hK:=hK.mono hleRL
 refine wk_fz tk5 (keys_k tk2 rfl (keys_k tk2 rfl (keys_k tk2 rfl (keys_k tk1 rfl (keys_0))))) ?_; intro Gfbl hlebl hbbl
 have hK:=hK.mono hlebl
 have hsRL:=hsRL.mono hlebl
 refine rq4 rfl rfl (mV rfl rfl (fz rfl .no Fx.fo231_0 (.u rfl) (ld rfl .no Fx.ag97 (.u rfl) (fun _=>Rd.own .here rfl) ?_)))
 refine ka rfl (.inr rfl) Fx.go128 (Evc rfl (Evc rfl Evn)) (mtk3 tk2 tk2 tk2) (lend3 fun G2 hle h1 h2 h3=>sweep_ok bx (Db.new dk tr root o ep held now) bm room 0 0 [] G2 h1 h2 h3 DkR0 ⟨none,0⟩ [] SlR.nul (by decide) (fun f hf=>absurd hf List.not_mem_nil)) ?_
 rintro _ G19 μ19 hG19 ⟨ν3,rfl,rfl,rfl⟩
 have hK:=hK.mono hG19
 have hsRL:=hsRL.mono hG19
 have hbbl:=hbbl.mono hG19
 refine .nil (.code (.seq ?_))
 refine Wk.jn (α:=Unit) (fun _u=>[]) (fun _u=>[.blk bx (cl (Db.cells (Db.d1 dk tr root o ep held now)) 165)]) (fun _u Gl=>True) [(0,true,_),(2,true,_)] [_,_,_,_]
  (esD rfl (esD rfl eZ)) (mS tk1 rfl (mS tk1 rfl (mS tk1 rfl (mS tk1 rfl mN)))) ?_ ?_
 ·refine Wk.mixp ⟨true,false⟩ Fx.mix (by kernel_rfl) ?_
  refine Wp.one 0 (by kernel_rfl) ?_
  refine mV rfl rfl (.nil (Wp.one 1 (by kernel_rfl) ?_))
  refine mV rfl rfl (.nil (Wp.one 2 (by kernel_rfl) ?_))
  refine nc rfl .no (.u rfl) (.nil (Wp.one 3 (by kernel_rfl) ?_))
  refine fz rfl .no Fx.fo165_4 (.u rfl) (.nil (Wp.one 5 (by kernel_rfl) ?_))
  refine mV rfl rfl (.nil (Wp.b2 4 6 (by kernel_rfl) ?_ ?_))
  ·refine ld rfl .no Fx.ag23 (.u rfl) (fun _=>Rd.own .here rfl) ?_
   refine .nil (Wp.b1 6 (by kernel_rfl) ?_)
   refine ka rfl (.inl rfl) Fx.go129 (Evc rfl Evn) (mtk1 .here) (dbnum_ok bx (Db.new dk tr root o ep held now) _ (by show (0#64:BitVec 64).toNat<1000; decide)) ?_
   rintro _ G26 μ26 hG26 ⟨rfl,rfl⟩
   have hK:=hK.mono hG26
   have hsRL:=hsRL.mono hG26
   have hbbl:=hbbl.mono hG26
   refine .nil (Wp.one 7 (by kernel_rfl) ?_)
   refine bCe ([V 3#8,V 0#8,uv .u64 0#64,uv .u64 ep,uv .u64 0#64]) rfl .no Fx.bp161_0_3_4 (.cons (.u rfl) rfl (.cons (.u rfl) rfl (.cons (.u rfl) rfl .nil))) rfl (rfl) ?_
   refine .nil (Wp.one 8 (by kernel_rfl) ?_)
   refine bCe ((flM ep 0#64).cells) rfl .no Fx.bp163_0 (.cons (.u rfl) rfl .nil) rfl (rfl) ?_
   refine .nil (Wp.one 9 (by kernel_rfl) ?_)
   refine nc rfl .no (.u rfl) (.nil (Wp.one 10 (by kernel_rfl) ?_))
   refine fz rfl .no Fx.fo165_12 (.u rfl) (.nil (Wp.b1 11 (by kernel_rfl) ?_))
   refine stp rfl (.u rfl) (.u rfl) rfl Fx.sz163 .here (by show 74+7≤85; decide) (Fl.one _) (Db.p_mn _ (flM ep 0#64)) ?_
   refine .nil (Wp.last (by kernel_rfl) ?_)
   refine We.lpo () ?_ ?_ ?_ ?_ ?_
   ·exact (esD rfl (esD rfl eZ))
   ·exact (mS .here rfl (mS .here rfl (mS .here rfl (mS .here rfl (mS .here rfl mN)))))
   ·exact zro_lt _
   ·exact hG26
   trivial
  refine ka rfl (.inl rfl) Fx.go129 (Evc rfl Evn) (mtk1 .here) (dbnum_ok bx (Db.new dk tr root o ep held now) _ (by show (0#64:BitVec 64).toNat<1000; decide)) ?_
  rintro _ G26 μ26 hG26 ⟨rfl,rfl⟩
  have hK:=hK.mono hG26
  have hsRL:=hsRL.mono hG26
  have hbbl:=hbbl.mono hG26
  refine .nil (Wp.one 4 (by kernel_rfl) ?_)
  refine ld rfl .no Fx.ag23 (.u rfl) (fun _=>Rd.own .here rfl) ?_
  refine .nil (Wp.one 7 (by kernel_rfl) ?_)
  refine bCe ([V 3#8,V 0#8,uv .u64 0#64,uv .u64 ep,uv .u64 0#64]) rfl .no Fx.bp161_0_3_4 (.cons (.u rfl) rfl (.cons (.u rfl) rfl (.cons (.u rfl) rfl .nil))) rfl (rfl) ?_
  refine .nil (Wp.one 8 (by kernel_rfl) ?_)
  refine bCe ((flM ep 0#64).cells) rfl .no Fx.bp163_0 (.cons (.u rfl) rfl .nil) rfl (rfl) ?_
  refine .nil (Wp.one 9 (by kernel_rfl) ?_)
  refine nc rfl .no (.u rfl) (.nil (Wp.one 10 (by kernel_rfl) ?_))
  refine fz rfl .no Fx.fo165_12 (.u rfl) (.nil (Wp.b1 11 (by kernel_rfl) ?_))
  refine stp rfl (.u rfl) (.u rfl) rfl Fx.sz163 .here (by show 74+7≤85; decide) (Fl.one _) (Db.p_mn _ (flM ep 0#64)) ?_
  refine .nil (Wp.last (by kernel_rfl) ?_)
  refine We.lpo () ?_ ?_ ?_ ?_ ?_
  ·exact (esD rfl (esD rfl eZ))
  ·exact (mS .here rfl (mS .here rfl (mS .here rfl (mS .here rfl (mS .here rfl mN)))))
  ·exact zro_lt _
  ·exact hG26
  trivial
 intro _u Glj2 hGlj2 hFj2
 have hK:=hK.mono hGlj2
 have hsRL:=hsRL.mono hGlj2
 have hbbl:=hbbl.mono hGlj2
 refine .code (.seq ?_)
 refine Wk.jn (α:=Unit) (fun _u=>[]) (fun _u=>[.blk bx (cl (Db.cells (Db.d2 dk tr root o ep held now)) 165)]) (fun _u Gl=>True) [(0,true,_),(2,true,_)] [_,_,_,_]
  (esD rfl (esD rfl eZ)) (mS tk1 rfl (mS tk1 rfl (mS tk1 rfl (mS tk1 rfl mN)))) ?_ ?_
 ·refine Wk.mixp ⟨true,false⟩ Fx.mix (by kernel_rfl) ?_
  refine Wp.one 0 (by kernel_rfl) ?_
  refine mV rfl rfl (.nil (Wp.one 1 (by kernel_rfl) ?_))
  refine mV rfl rfl (.nil (Wp.one 2 (by kernel_rfl) ?_))
  refine nc rfl .no (.u rfl) (.nil (Wp.one 3 (by kernel_rfl) ?_))
  refine fz rfl .no Fx.fo165_4 (.u rfl) (.nil (Wp.one 5 (by kernel_rfl) ?_))
  refine mV rfl rfl (.nil (Wp.b2 4 6 (by kernel_rfl) ?_ ?_))
  ·refine ld rfl .no Fx.ag23 (.u rfl) (fun _=>Rd.own .here rfl) ?_
   refine .nil (Wp.b1 6 (by kernel_rfl) ?_)
   refine ka rfl (.inl rfl) Fx.go129 (Evc rfl Evn) (mtk1 .here) (dbnum_ok bx (Db.d1 dk tr root o ep held now) _ (by show (1#64:BitVec 64).toNat<1000; decide)) ?_
   rintro _ G37 μ37 hG37 ⟨rfl,rfl⟩
   have hK:=hK.mono hG37
   have hsRL:=hsRL.mono hG37
   have hbbl:=hbbl.mono hG37
   refine .nil (Wp.one 7 (by kernel_rfl) ?_)
   refine bCe ([V 1#8,V 0#8,uv .u64 0#64,uv .u64 ep,uv .u64 1#64]) rfl .no Fx.bp161_0_3_4 (.cons (.u rfl) rfl (.cons (.u rfl) rfl (.cons (.u rfl) rfl .nil))) rfl (rfl) ?_
   refine .nil (Wp.one 8 (by kernel_rfl) ?_)
   refine bCe ((flL ep 0#64).cells) rfl .no Fx.bp163_0 (.cons (.u rfl) rfl .nil) rfl (rfl) ?_
   refine .nil (Wp.one 9 (by kernel_rfl) ?_)
   refine nc rfl .no (.u rfl) (.nil (Wp.one 10 (by kernel_rfl) ?_))
   refine fz rfl .no Fx.fo165_10 (.u rfl) (.nil (Wp.b1 11 (by kernel_rfl) ?_))
   refine stp rfl (.u rfl) (.u rfl) rfl Fx.sz163 .here (by show 60+7≤85; decide) (Fl.one _) (Db.p_lg _ (flL ep 0#64)) ?_
   refine .nil (Wp.last (by kernel_rfl) ?_)
   refine We.lpo () ?_ ?_ ?_ ?_ ?_
   ·exact (esD rfl (esD rfl eZ))
   ·exact (mS .here rfl (mS .here rfl (mS .here rfl (mS .here rfl (mS .here rfl mN)))))
   ·exact zro_lt _
   ·exact hG37
   trivial
  refine ka rfl (.inl rfl) Fx.go129 (Evc rfl Evn) (mtk1 .here) (dbnum_ok bx (Db.d1 dk tr root o ep held now) _ (by show (1#64:BitVec 64).toNat<1000; decide)) ?_
  rintro _ G37 μ37 hG37 ⟨rfl,rfl⟩
  have hK:=hK.mono hG37
  have hsRL:=hsRL.mono hG37
  have hbbl:=hbbl.mono hG37
  refine .nil (Wp.one 4 (by kernel_rfl) ?_)
  refine ld rfl .no Fx.ag23 (.u rfl) (fun _=>Rd.own .here rfl) ?_
  refine .nil (Wp.one 7 (by kernel_rfl) ?_)
  refine bCe ([V 1#8,V 0#8,uv .u64 0#64,uv .u64 ep,uv .u64 1#64]) rfl .no Fx.bp161_0_3_4 (.cons (.u rfl) rfl (.cons (.u rfl) rfl (.cons (.u rfl) rfl .nil))) rfl (rfl) ?_
  refine .nil (Wp.one 8 (by kernel_rfl) ?_)
  refine bCe ((flL ep 0#64).cells) rfl .no Fx.bp163_0 (.cons (.u rfl) rfl .nil) rfl (rfl) ?_
  refine .nil (Wp.one 9 (by kernel_rfl) ?_)
  refine nc rfl .no (.u rfl) (.nil (Wp.one 10 (by kernel_rfl) ?_))
  refine fz rfl .no Fx.fo165_10 (.u rfl) (.nil (Wp.b1 11 (by kernel_rfl) ?_))
  refine stp rfl (.u rfl) (.u rfl) rfl Fx.sz163 .here (by show 60+7≤85; decide) (Fl.one _) (Db.p_lg _ (flL ep 0#64)) ?_
  refine .nil (Wp.last (by kernel_rfl) ?_)
  refine We.lpo () ?_ ?_ ?_ ?_ ?_
  ·exact (esD rfl (esD rfl eZ))
  ·exact (mS .here rfl (mS .here rfl (mS .here rfl (mS .here rfl (mS .here rfl mN)))))
  ·exact zro_lt _
  ·exact hG37
  trivial
 intro _u Glj3 hGlj3 hFj3
 have hK:=hK.mono hGlj3
 have hsRL:=hsRL.mono hGlj3
 have hbbl:=hbbl.mono hGlj3
 refine .code (.seq (Wk.draw (mc:=⟨false,false⟩) [0,1,2,3,4,5,6,7,8,9,10,11,12,13,14,15,16,17,18,19,20,21] Fx.mix (by kernel_rfl) ?_))
 refine mV rfl rfl (nc rfl .no (.u rfl) (fz rfl .no Fx.fo165_10 (.u rfl) (fa rfl .no Fx.fo163_0 (.u rfl) (fa rfl .no Fx.fo161_4 (.u rfl) (ld rfl .no Fx.ag23 (.u rfl) (fun _=>Rd.own .here rfl) ?_)))))
 refine mV rfl rfl (nc rfl .no (.u rfl) (fz rfl .no Fx.fo165_7 (.u rfl) (ld rfl .no Fx.ag23 (.u rfl) (fun _=>Rd.own .here rfl) ?_)))
 refine mV rfl rfl (nc rfl .no (.u rfl) (fz rfl .no Fx.fo165_7 (.u rfl) (ld rfl .no Fx.ag23 (.u rfl) (fun _=>Rd.own .here rfl) ?_)))
 refine mV rfl rfl (nc rfl .no (.u rfl) (fz rfl .no Fx.fo165_5 (.u rfl) (fa rfl .no Fx.fo159_5 (.u rfl) (lA rfl .no Fx.ag157 (.u rfl) (fun _=>RdN.part (n:=5) (cs':=(List.range 5).map (fun _=>.int .u64 0)) .here (rfl)) (fun _=>rfl) (bCe ((edF 1 0).cells ⟨none,0⟩ ⟨none,0⟩) rfl .no Fx.bp202_0_2_3_4 (.cons (.u rfl) rfl (.cons (.u rfl) rfl (.cons (.u rfl) rfl (.cons (.u rfl) rfl .nil)))) rfl (rfl) ?_)))))
 refine al rfl Fx.zq202 ?_; intro b3
 refine sw rfl (.u rfl) (.u rfl) rfl Fx.sz202 .here (by first|exact qE|exact qL|rfl) (Edit.one') ?_
 refine .nil (.code (.seq (.seq (rq6 rfl rfl (mV rfl rfl (nc rfl .no (.u rfl) (fz rfl .no Fx.fo165_5 (.u rfl) (fa rfl .no Fx.fo159_0 (.u rfl) (lA rfl .no Fx.ag156 (.u rfl) (fun _=>RdN.part (n:=5) (cs':=(List.range 5).map (fun _=>.slice none 0 0)) tk1 (rfl)) (fun _=>rfl) ?_)))))))))
 refine mV rfl rfl (.nil (.code (.block ?_)))
 refine Wk.lop (α:=Nat) (fun k=>[(67,true,.int .i64 (k:Int))]) (fun k=>[.blk b3 (cl ((edF 1 0).cells ⟨none,0⟩ ⟨none,0⟩) 202)])
  (fun k Gl=>(k≤5)) (fun k=>5-k) 0 [(0,true,_),(2,true,_),(3,true,_),(66,true,_)] [_,_,_,_,_]
  (esC rfl (by first|rfl|exact evi (by omega)) (esD rfl (esD rfl (esD rfl (esD rfl eZ)))))
  (mS .here rfl (mS .here rfl (mS .here rfl (mS .here rfl (mS .here rfl (mS .here rfl mN)))))) ?_ ?_
 ·(try dsimp only)<;>(first|omega|rfl|assumption|(simp; done))
 intro k N0 Gl0 hN0 hGl0 hF0
 try dsimp only at hF0 hN0 ⊢
 have hk:=hF0
 have hK:=hK.mono hGl0
 have hsRL:=hsRL.mono hGl0
 have hbbl:=hbbl.mono hGl0
 refine .seq (rq1 rfl rfl (cp rfl .no (.u rfl) (.u rfl) rfl (.nil (.code (.seq (.cond rfl (fun c1=>?_) (fun c1=>?_)))))))
 ·have c1k:=c1
  try simp only [qcA,qcC,qcB] at c1
  refine .skip (.code (.seq (.block (.seq (rq2 rfl rfl (ix rfl .no Fx.ar156 Fx.ag155 (.u rfl) (.u rfl) (fun _=>by omega) (fun _=>by omega) (fun _=>nil5 (by omega)) ?_))))))
  refine aS rfl rfl (.nil (.code (rq6 rfl rfl (fz rfl .no Fx.fo202_5 (.u rfl) (ld rfl .no Fx.ag155 (.u rfl) (fun _=>Rd.own .here rfl) ?_)))))
  refine mV rfl rfl (apZ rfl Fx.se155 (.u rfl) (.u rfl) ?_)
  refine fz rfl .no Fx.fo202_5 (.u rfl) (s1 rfl (.u rfl) (.u rfl) rfl Fx.sz155 .here (by first|decide | (show _<85; decide)) (edF_set) ?_)
  refine .nil (.blk (.code (rq2 rfl rfl (arn (((k+1):Nat):Int) rfl .no (.u rfl) (.u rfl) rfl (fun _=>by omega) (fun _=>wrap_i64 (by omega) (by omega)) ?_))))
  refine mV rfl rfl (.nil (We.lpo (k+1) ?_ ?_ ?_ ?_ ?_))
  ·exact (esC rfl (by first|rfl|exact evi (by omega)) (esD rfl (esD rfl (esD rfl (esD rfl eZ)))))
  ·exact (mS .here rfl (mS .here rfl (mS .here rfl (mS .here rfl (mS .here rfl (mS .here rfl mN))))))
  ·first|omega|(dsimp only; omega)
  ·exact hGl0
  (try dsimp only)<;>(first|omega|rfl|assumption|(simp; done))
 have c1k:=c1
 try simp only [qcA,qcC,qcB] at c1
 refine .exit (.xcode (.xlp (.xblk (.code (.seq (Wk.draw (mc:=⟨false,false⟩) [0,1,2,3,4,5,6,7,8,9,10,11] Fx.mix (by kernel_rfl) ?_))))))
 refine fz rfl .no Fx.fo202_5 (.u rfl) (ld rfl .no Fx.ag155 (.u rfl) (fun _=>Rd.own .here rfl) ?_)
 refine mV rfl rfl (fz rfl .no Fx.fo231_1 (.u rfl) (ld rfl .no Fx.ag153 (.u rfl) (fun _=>Rd.own tk4 rfl) ?_))
 refine kv rfl .no Fx.go104 (Evc rfl Evn) (fun _=>lAll0_ok bl hRL [Nd.z] _ (fun _=>0) _ hbbl hsRL wayZ rfl (by decide)) ?_
 refine kv rfl .no Fx.go132 (Evc rfl (Evc rfl (Evc rfl Evn))) (fun _=>keep0_ok _) ?_
 refine kv rfl .no Fx.go131 (Evc rfl (Evc rfl Evn)) (fun _=>split0_ok _ _) ?_
 refine kv rfl .no Fx.go130 (Evc rfl (Evc rfl (Evc rfl Evn))) (fun _=>tables0_ok _ 0 _) ?_
 refine apZ rfl Fx.se155 (.u rfl) (.u rfl) ?_
 refine fz rfl .no Fx.fo202_5 (.u rfl) (s1 rfl (.u rfl) (.u rfl) rfl Fx.sz155 .here (by first|decide | (show _<85; decide)) (edF_set) ?_)
 refine .nil (.code (.seq (rq6 rfl rfl (mV rfl rfl (nc rfl .no (.u rfl) (fz rfl .no Fx.fo165_6 (.u rfl) (ld rfl .no Fx.ag23 (.u rfl) (fun _=>Rd.own tk1 rfl) ?_)))))))
 refine fz rfl .no Fx.fo202_1 (.u rfl) (s1 rfl (.u rfl) (.u rfl) rfl Fx.sz23 .here (by first|decide | (show _<85; decide)) (edF_nx) ?_)
 refine .nil (.code (.seq (Wk.draw (mc:=⟨false,false⟩) [0,1,2,3,4,5,6,7,8,9,10,11,12,15,16,13,14,17,18,19,20,21,22,23,24,25] Fx.mix (by kernel_rfl) ?_)))
 refine mV rfl rfl (nc rfl .no (.u rfl) (fz rfl .no Fx.fo165_2 (.u rfl) (lA rfl .no Fx.ag34 (.u rfl) (fun _=>RdN.part (n:=32) (cs':=ba 32 root) tk1 (rfl)) (fun _=>(ba_len _ _)) ?_)))
 refine mV rfl rfl (nc rfl .no (.u rfl) (fz rfl .no Fx.fo165_12 (.u rfl) (fa rfl .no Fx.fo163_0 (.u rfl) (lA rfl .no Fx.ag161 (.u rfl) (fun _=>RdN.part (n:=5) (cs':=[V 3#8,V 0#8,uv .u64 0#64,uv .u64 ep,uv .u64 0#64]) tk1 (rfl)) (fun _=>rfl) ?_))))
 refine mV rfl rfl (nc rfl .no (.u rfl) (fz rfl .no Fx.fo165_1 (.u rfl) (ld rfl .no Fx.ag50 (.u rfl) (fun _=>Rd.own tk1 rfl) ?_)))
 refine bCe (State.zero.cells hd0) rfl .no Fx.bp159_ .nil rfl (rfl) (lA rfl .no Fx.ag202 (.u rfl) (fun _=>RdN.part (n:=11) (cs':=(edF 1 2).cells ⟨none,0⟩ ⟨none,0⟩) .here (rfl)) (fun _=>(by first|exact qE|exact qL|rfl)) ?_)
 refine kp rfl .no Fx.go134 (Evc rfl Evn) (Gp.add tk5 Gp.nil) (fun _ hle hq=>marks_ok tr 0#64 o1 _ ⟨PM.add_same _ _ _⟩) ?_
 refine bw (k:=.u64) (b:=1#64) rfl .no rfl (.u rfl) (.u rfl) rfl (kc rfl Fx.go133 (Evc rfl (Evc rfl (Evc rfl (Evc rfl (Evc rfl (Evc rfl Evn)))))) (mLayF_ok root ⟨3#8,0#8,0#64,ep,0#64⟩ 0#64 (0#64+1#64) 1 2 _ u64_1 u64_2 (by decide) hK) ?_)
 rintro _ G110 μ110 hG110 ⟨vL,LL,lLL,rfl,rfl⟩
 refine mV rfl rfl (ex rfl .no (.u rfl) rfl (ex rfl .no (.u rfl) rfl (ex rfl .no (.u rfl) rfl ?_)))
 refine al rfl Fx.zq159 ?_; intro b7
 refine aS rfl rfl (sw rfl (.u rfl) (.u rfl) rfl Fx.sz159 .here (by first|exact qE|exact qL|rfl) (State.one') ?_)
 refine aS rfl rfl (.nil (.code (.seq (.seq (rq2 rfl rfl (mV rfl rfl (cp rfl .no (.u rfl) (.u rfl) rfl (.nil (.code (.cond rfl (fun c2=>?_) (fun c2=>?_)))))))))))
 ·have c2k:=c2
  exact absurd c2 (by decide)
 have c2k:=c2
 try simp only [qcA,qcC,qcB] at c2
 refine .skip (.code (.seq (rq2 rfl rfl (mV rfl rfl (kv rfl .no Fx.go135 (Evc rfl Evn) (fun _=>must_ok _) ?_)))))
 refine .nil (.code (.seq ?_))
 refine wk_rs tk1 ?_; intro sRM bbRM evRM lcRM oaRM; subst evRM
 refine Wk.mixp ⟨true,false⟩ Fx.mix (by kernel_rfl) ?_
 refine Wp.one 0 (by kernel_rfl) ?_
 refine mV rfl rfl (.nil (Wp.one 1 (by kernel_rfl) ?_))
 refine mV rfl rfl (.nil (Wp.one 2 (by kernel_rfl) ?_))
 refine nc rfl .no (.u rfl) (.nil (Wp.one 3 (by kernel_rfl) ?_))
 refine fz rfl .no Fx.fo165_12 (.u rfl) (.nil (Wp.one 5 (by kernel_rfl) ?_))
 refine mV rfl rfl (.nil (Wp.one 6 (by kernel_rfl) ?_))
 refine nc rfl .no (.u rfl) (.nil (Wp.one 7 (by kernel_rfl) ?_))
 refine fz rfl .no Fx.fo165_12 (.u rfl) (.nil (Wp.one 8 (by kernel_rfl) ?_))
 refine fa rfl .no Fx.fo163_0 (.u rfl) (.nil (Wp.one 11 (by kernel_rfl) ?_))
 refine mV rfl rfl (.nil (Wp.b2 4 9 (by kernel_rfl) ?_ ?_))
 ·refine kp rfl .no Fx.go137 (Evc rfl Evn) (Gp.add tk3 Gp.nil) (fun _ hle hq=>called_ok bx 74 (flM ep 0#64) _ (PB.rdn (m:=7) ⟨PM.add_same _ _ _⟩ rfl) (by show (0#64:BitVec 64).toNat<10; decide)) ?_
  refine .nil (Wp.one 9 (by kernel_rfl) ?_)
  refine lA rfl .no Fx.ag161 (.u rfl) (fun _=>RdN.part (n:=5) (cs':=[V 3#8,V 0#8,uv .u64 0#64,uv .u64 ep,uv .u64 0#64]) tk3 (rfl)) (fun _=>rfl) ?_
  refine .nil (Wp.b1 10 (by kernel_rfl) ?_)
  refine kc rfl Fx.go138 (Evc rfl Evn) (Ct.rowc (nLay_ok ⟨3#8,0#8,0#64,ep,0#64⟩ _)) ?_
  rintro v128 G128 μ128 hG128 ⟨L128,ov128,eL128,rfl⟩
  refine .nil (Wp.b1 12 (by kernel_rfl) ?_)
  refine apY rfl Fx.se25 Fx.zv5 (.u rfl) (.u rfl) .here (Sc.rowS tk2 oaRM) (by rw [eL128,head_len]; omega) ?_
  intro v130 L130 ov130 eL130
  have lL130:L130.length=L128.length+LL.length:=by rw [eL130,List.length_append]
  refine .nil (Wp.bp 13 (by kernel_rfl) (by kernel_rfl) ?_)
  refine kpo rfl Fx.go136 (Evc rfl (Evc rfl (Evc rfl Evn))) (mtq4 tk4 .here tk3 tk3) (dbwF_p bx bm room (Db.d2 dk tr root o ep held now) (nmB 3 0) v130 L130 _ (by omega) nm_good3 (by have q9:L128.length=30:=(by rw [eL128,head_len]); omega) (by have q9:L128.length=30:=(by rw [eL128,head_len]); omega)) (fun ch G9 ρ9 μ9 hle9 hd he hm=>hd) ?_
  rintro _ G131 μ131 hG131 hF
  exact hF.elim
 refine lA rfl .no Fx.ag161 (.u rfl) (fun _=>RdN.part (n:=5) (cs':=[V 3#8,V 0#8,uv .u64 0#64,uv .u64 ep,uv .u64 0#64]) tk3 (rfl)) (fun _=>rfl) ?_
 refine .nil (Wp.b1 4 (by kernel_rfl) ?_)
 refine kp rfl .no Fx.go137 (Evc rfl Evn) (Gp.add tk3 Gp.nil) (fun _ hle hq=>called_ok bx 74 (flM ep 0#64) _ (PB.rdn (m:=7) ⟨PM.add_same _ _ _⟩ rfl) (by show (0#64:BitVec 64).toNat<10; decide)) ?_
 refine .nil (Wp.b1 10 (by kernel_rfl) ?_)
 refine kc rfl Fx.go138 (Evc rfl Evn) (Ct.rowc (nLay_ok ⟨3#8,0#8,0#64,ep,0#64⟩ _)) ?_
 rintro v128 G128 μ128 hG128 ⟨L128,ov128,eL128,rfl⟩
 refine .nil (Wp.b1 12 (by kernel_rfl) ?_)
 refine apY rfl Fx.se25 Fx.zv5 (.u rfl) (.u rfl) .here (Sc.rowS tk2 oaRM) (by rw [eL128,head_len]; omega) ?_
 intro v130 L130 ov130 eL130
 have lL130:L130.length=L128.length+LL.length:=by rw [eL130,List.length_append]
 refine .nil (Wp.bp 13 (by kernel_rfl) (by kernel_rfl) ?_)
 refine kpo rfl Fx.go136 (Evc rfl (Evc rfl (Evc rfl Evn))) (mtq4 tk4 .here tk3 tk3) (dbwF_p bx bm room (Db.d2 dk tr root o ep held now) (nmB 3 0) v130 L130 _ (by omega) nm_good3 (by have q9:L128.length=30:=(by rw [eL128,head_len]); omega) (by have q9:L128.length=30:=(by rw [eL128,head_len]); omega)) (fun ch G9 ρ9 μ9 hle9 hd he hm=>hd) ?_
 rintro _ G131 μ131 hG131 hF
 exact hF.elim
end Go.Proofs.YtoifkgkandfeiaaGreatDoor
namespace Go.Proofs.YtoifkgkandfeiaaGreatDoor
open Go.Tan Go.RowKit Go.Maps Go.Sort Go.Shelf
namespace Fx
theorem se229:slE Tryz.prog 229=some (30,1,8):=by kernel_rfl
theorem sn229:(slE Tryz.prog 229).isSome=true:=by kernel_rfl
theorem go189:goFn Tryz.prog 189=true:=by kernel_rfl
end Fx
theorem ixE_ok (b:Nat) (G:PM) (hb:PB G b (cl [.int .i64 141,.int .i64 230,.int .i64 4] 30)):Ct Tryz.prog 189 ([.slice (some ⟨b,0,none⟩) 3 3,.int .i64 141]:List Value).toArray G [] (fun _ μ' u=>μ'=[]∧u=.int .i64 0):=by
 refine Ct.of Tryz.func189 rfl Tryz.ntmps189 rfl fun w0 hs0=>?_
 have hsb:SlR G 1 encZ ⟨some ⟨b,0,none⟩,3⟩ [(141:Int),230,4]:=SlR.ofBlk (xs:=[(141:Int),230,4]) hb.h (fun _ _=>rfl) (Nat.le_refl 3)
 refine .seq (rq1 rfl rfl (aS rfl rfl (.nil (.code (.seq (.seq (rq3 rfl rfl (mV rfl rfl (ln rfl .no Fx.sn229 (.u rfl) (mV rfl rfl (.nil (.code (.block ?_)))))))))))))
 refine Wk.lop (α:=Nat) (fun k=>[(8,true,.int .i64 (k:Int))]) (fun _=>[])
  (fun k Gl=>(k=0)) (fun k=>0) 0 [(0,true,_),(1,true,_),(7,true,_)] []
  (esC rfl (by first|rfl|exact evi (by omega)) (esD rfl (esD rfl (esD rfl eZ))))
  mN ?_ ?_
 ·(try dsimp only)<;>(first|omega|rfl|assumption|(simp; done))
 intro k N0 Gl0 hN0 hGl0 hF0
 try dsimp only at hF0 hN0 ⊢
 have hk:=hF0
 have hsb:=hsb.mono hGl0
 refine .seq (rq1 rfl rfl (cp rfl .no (.u rfl) (.u rfl) rfl (.nil (.code (.seq (.cond rfl (fun c1=>?_) (fun c1=>?_)))))))
 ·have c1k:=c1
  try simp only [qcA,qcB] at c1
  refine .skip (.code (.seq (.block (.seq (rq2 rfl rfl (mV rfl rfl (aS rfl rfl (.nil (.code (.seq (rq6 rfl rfl (mV rfl rfl (mV rfl rfl (mV rfl rfl (ih rfl .no Fx.se229 (.u rfl) (.u rfl) (fun _=>by omega) (fun _=>by omega) (fun _=>hsb.nn (k:=k) (by first|omega|(simp only [Bool.and_eq_true,decide_eq_true_eq] at hc; omega)|(simp only [List.length_cons,List.length_nil]; omega))) ?_)))))))))))))))
  refine ld rfl .no Fx.ag30 (.u rfl) (fun _=>(hsb.at (k:=0) (by omega) rfl 0 _ rfl).rd) ?_
  refine cp rfl .no (.u rfl) (.u rfl) rfl (.nil (.code (.cond rfl (fun c2=>?_) (fun c2=>?_))))
  ·have c2k:=c2
   try simp only [qcA,qcB] at c2
   refine .seq (rq2 rfl rfl (mV rfl rfl (aS rfl rfl (.nil (.code (.ret (We.fin0 Tryz.results189 (.tmp rfl .nil) ?_)))))))
   subst hk; exact ⟨rfl,rfl⟩
  have c2k:=c2
  exact Bool.noConfusion (id c2:true=false)
 have c1k:=c1
 subst hk; exact Bool.noConfusion (id c1:true=false)
theorem ctE_ok (b:Nat) (G:PM) (hb:PB G b (cl [.int .i64 141,.int .i64 230,.int .i64 4] 30)):Ct Tryz.prog 126 ([.slice (some ⟨b,0,none⟩) 3 3,.int .i64 141]:List Value).toArray G [] (fun _ μ' u=>μ'=[]∧u=.bool true):=by
 refine Ct.of Tryz.func126 rfl Tryz.ntmps126 rfl fun w0 hs0=>?_
 refine .seq (rq1 rfl rfl (aS rfl rfl (.nil (.code (.seq (rq5 rfl rfl (mV rfl rfl (mV rfl rfl (kv rfl .no Fx.go189 (Evc rfl (Evc rfl Evn)) (fun _=>ixE_ok b _ hb) ?_)))))))))
 refine cp rfl .no (.u rfl) (.u rfl) rfl (aS rfl rfl (.nil (.code (.ret (We.fin0 Tryz.results126 (.tmp rfl .nil) ?_)))))
 exact ⟨rfl,rfl⟩
end Go.Proofs.YtoifkgkandfeiaaGreatDoor
namespace Go.Proofs.YtoifkgkandfeiaaGreatDoor
open Go.Tan Go.RowKit Go.Maps Go.Sort Go.Shelf
namespace Fx
theorem zr227:zrL Tryz.prog 227=some ([.int .i64 0]):=by kernel_rfl
theorem sz227:szT Tryz.prog 227=some 1:=by kernel_rfl
theorem fo227_0:fOff Tryz.prog 227 0=some 0:=by kernel_rfl
theorem zv30:(Tryz.prog.info? 30).bind (·.zero)=some (.int .i64 0):=by kernel_rfl
theorem go126:goFn Tryz.prog 126=true:=by kernel_rfl
end Fx
theorem guard_pan (w:World) (G:PM) (x y:Value) (b9:Nat) (hs:Sat G [.blk b9 (cl [y] 30)] w):CallsD Tryz.prog 89 #[x,.pointer (some ⟨b9,0,none⟩)] (.panicking [wrn 227 141]) w (fun r u' w'=>(∃ v,r=.returned v)∧u'=.panicking [wrn' 227 141]∧Tr G (keys [.blk b9 (cl [y] 30)]) w G [.blk b9 (cl [.int .i64 141] 30)] w'):=by
 refine callsD_of_wpS Tryz.func89 rfl fun c₀ cs hu=>(wpS_seq (wpS_region ?_))
 have hr:recoverD (c₀ :: cs)=some (.iface 227 (.agg #[.int .i64 141]),{ c₀ with mode:=.panicking [wrn' 227 141] } :: cs):=by simp [recoverD,hu,wrn,wrn']
 rw [show Tryz.f89.ntmps=25 from rfl]
 simp only [wpOpsS,List.range,List.range.loop,Array.size,List.length,List.getElem?_toArray,List.getElem?_cons_zero,List.getElem?_cons_succ,Region.wanted,if_true]
 have e1:∀ (ρ:Operand→Value) (d:Option Nat) (t:TypeId) (p:String) (af:Array Edge),(execOp ρ ⟨d,.call { callee:=.builtin .recover,args:=#[],argTypes:=#[] },t,p,af,none⟩).run Tryz.prog w=.ok .recover w:=fun ρ d t p af=>by
  simp [execOp,resolve,invoke,builtin]
 simp only [e1,hr]
 simp [execOp,Oper.upon,Exit.thenS,Act.put,Act.eval]
 refine wpS_of_wp ?_
 have e2:(binOp .eql 20 (.iface 227 (.agg #[.int .i64 141])) .nilIface).run Tryz.prog w=.ok (.bool false) w:=by
  have hu20:=ifT_some FxGrBb.if20
  obtain ⟨q,hq⟩:=hu20
  have e4:∀ d,(Op.equalIn (d+1) 20 (.iface 227 (.agg #[.int .i64 141])) .nilIface).run Tryz.prog w=.ok false w:=fun d=>by
   unfold Op.equalIn
   simp only [Sem.run_bind,run_underlying hq,Result.andThen_ok,Sem.run_pure]
  obtain ⟨d,hd⟩ : ∃ d,Op.maxDepth=d+1:=Nat.exists_eq_succ_of_ne_zero (by decide)
  simp [binOp,Op.equal,hd,e4]
 have e3:(eqGuard .eql 20 (.tmp 7) (.const .nilIface) (.iface 227 (.agg #[.int .i64 141])) .nilIface).run Tryz.prog w=.ok () w:=by unfold eqGuard; simp
 refine wp_seq_k fun K1 hK1=>wp_seq_k fun K2 hK2=>wp_region ?_
 simp [wpOps,Region.wanted,execOp,Oper.wp,Oper.upon,Exit.then,Act.put,Act.eval,List.range,List.range.loop,e2,e3]
 refine .inl (.inl (hK2 _ _ ?_))
 refine wp_cond_false ?_ ?_
 ·simp [Act.eval]
 refine wp_skip ?_
 refine hK1 _ _ ?_
 refine wp_of_wk (fn:=Tryz.f89) (n:=25) (G:=G) (G1:=G) (K0:=keys [.blk b9 (cl [y] 30)]) (w0:=w) (ρ:=[(0,true,x),(1,true,.pointer (some ⟨b9,0,none⟩)),(4,true,.iface 227 (.agg #[.int .i64 141]))]) (μ:=[.blk b9 (cl [y] 30)])
  (I:=fun a w'=>a.defers=[]∧Tr G (keys [.blk b9 (cl [y] 30)]) w G [.blk b9 (cl [.int .i64 141] 30)] w') ?_ ⟨by simp [fm0],rfl,?_⟩ (Tr.begin hs) ?_
 ·skip
  refine .seq (rq4 rfl rfl (mV rfl rfl (tA rfl Fx.sr227 (.u rfl) ?_)))
  refine al rfl Fx.zr227 ?_; intro b5
  refine sw rfl (.u rfl) (.u rfl) rfl Fx.sz227 .here rfl (one1 rfl) ?_
  refine .nil (.code (.seq (rq5 rfl rfl (mV rfl rfl (fz rfl .no Fx.fo227_0 (.u rfl) (ld rfl .no Fx.ag30 (.u rfl) (fun _=>Rd.own .here rfl) ?_))))))
  refine nc rfl .no (.u rfl) (s1 rfl (.u rfl) (.u rfl) rfl Fx.sz30 tk1 (by show 0<1; decide) (rfl) ?_)
  refine .nil (.code (.seq (rq5 rfl rfl ?_)))
  refine Go.Tan.bN rfl Fx.se229 Fx.zv30 (Evp.cons (.u rfl) (Evp.cons (.u rfl) (Evp.cons (.u rfl) Evp.nil))) rfl (by decide) (by simp [Value.oneCell',Sh.val]) ?_; intro b15
  refine fz rfl .no Fx.fo227_0 (.u rfl) (ld rfl .no Fx.ag30 (.u rfl) (fun _=>Rd.own tk2 rfl) ?_)
  refine kp rfl .no Fx.go126 (Evc rfl (Evc rfl Evn)) (Gp.add .here Gp.nil) (fun _ hle hq=>ctE_ok b15 _ ⟨PM.add_same _ _ _⟩) ?_
  refine nt rfl .no (.u rfl) (.nil (.code (.cond rfl (fun c1=>?_) (fun c1=>?_))))
  ·have c1k:=c1
   exact Bool.noConfusion (id c1:false=true)
  have c1k:=c1
  try simp only [qcA,qcB] at c1
  refine .skip ?_
  exact ⟨fun a w ha ht=>⟨ha.defers,(mS tk1 rfl mN).tr ht⟩⟩
 ·intro i c v h
  simp only [look_cons] at h
  repeat' split at h
  all_goals first
   | (rename_i hq; subst hq; cases h; simp)
   | cases h
 rintro a w' ⟨h1,h2⟩
 refine ⟨h1,.panicking [wrn' 227 141],rfl,.tuple #[],?_,⟨_,rfl⟩,rfl,h2⟩
 simp [results,Tryz.f89]
theorem open1_full (w:World) (G:PM) (x:Value) (b8 b9:Nat) (hs:Sat G [.blk b8 (cl [x] 45),.blk b9 (cl [.int .i64 141] 30)] w):CallsD Tryz.prog 88 #[.pointer (some ⟨b9,0,none⟩),.pointer (some ⟨b8,0,none⟩)] .returning w (fun r u' w'=>(∃ v,r=.returned v)∧u'=.returning∧Tr G (keys [.blk b8 (cl [x] 45),.blk b9 (cl [.int .i64 141] 30)]) w G [.blk b8 (cl [.pointer none] 45),.blk b9 (cl [.int .i64 141] 30)] w'):=by
 refine callsD_of_wpS Tryz.func88 rfl fun c₀ cs hu=>wpS_of_wp ?_
 refine wp_of_wk (fn:=Tryz.f88) (n:=4) (G:=G) (G1:=G) (K0:=keys [.blk b8 (cl [x] 45),.blk b9 (cl [.int .i64 141] 30)]) (w0:=w) (ρ:=[(0,true,.pointer (some ⟨b9,0,none⟩)),(1,true,.pointer (some ⟨b8,0,none⟩))]) (μ:=[.blk b8 (cl [x] 45),.blk b9 (cl [.int .i64 141] 30)])
  (I:=fun a w'=>a.defers=[]∧Tr G (keys [.blk b8 (cl [x] 45),.blk b9 (cl [.int .i64 141] 30)]) w G [.blk b8 (cl [.pointer none] 45),.blk b9 (cl [.int .i64 141] 30)] w') ?_ ⟨by rfl,rfl,?_⟩ (Tr.begin hs) ?_
 ·skip
  refine .seq (rq2 rfl rfl (ld rfl .no Fx.ag30 (.u rfl) (fun _=>Rd.own tk1 rfl) ?_))
  refine cp rfl .no (.u rfl) (.u rfl) rfl (.nil (.code (.cond rfl (fun c1=>?_) (fun c1=>?_))))
  ·have c1k:=c1
   try simp only [qcA,qcB] at c1
   refine rq1 rfl rfl (s1 rfl (.u rfl) (.u rfl) rfl Fx.sz45 .here (by show 0<1; decide) (rfl) ?_)
   refine .nil ?_
   exact ⟨fun a w ha ht=>⟨ha.defers,(mS .here rfl (mS .here rfl mN)).tr ht⟩⟩
  have c1k:=c1
  exact Bool.noConfusion (id c1:true=false)
 ·intro i c v h
  simp only [look_cons] at h
  repeat' split at h
  all_goals first
   | (rename_i hq; subst hq; cases h; rfl)
   | cases h
 rintro a w' ⟨h1,h2⟩
 refine ⟨h1,.returning,by rw [← hu],.tuple #[],?_,⟨_,rfl⟩,rfl,h2⟩
 simp [results,Tryz.f88]
end Go.Proofs.YtoifkgkandfeiaaGreatDoor
namespace Go.Proofs.YtoifkgkandfeiaaGreatDoor
open Go.Tan Go.RowKit Go.Maps Go.Sort Go.Shelf
set_option maxHeartbeats 1000000 in
theorem dOpenF_ok (bd bm room bt:Nat) (root:Nat→Y) (o:Opts) (G:PM) (hO:rightO o=true) (hr:room<30) (hK:RdNP G 6 0 (wa 64 kW)):Ct Tryz.prog 50 ([.pointer (some ⟨bd,0,none⟩),.pointer (some ⟨bt,0,none⟩),.agg (ba 32 root).toArray,o.val]:List Value).toArray G [.blk bd (cl (dkC bm room 0) 118),.blk bm (mO [] 0),.blk bt (cl [uv .u64 0#64,uv .u64 0#64] 87)] (fun _ μ' u=>μ'=[]∧u=.tuple #[.pointer none,.int .i64 141]):=by
 refine Ct.of Tryz.func50 rfl Tryz.ntmps50 rfl fun w0 hs0=>?_
 refine .seq (rq4 rfl rfl ?_)
 refine bx rfl (.u rfl) rfl ?_; intro b6
 refine bx rfl (.u rfl) rfl ?_; intro b7
 refine al rfl Fx.zr45 ?_; intro b8
 refine al rfl FxGrBb.zr30 ?_; intro b9
 refine .nil (.code (.seq (.block (.seq (rq7 rfl rfl (mV rfl rfl (pe rfl .no Fx.pt48 (.u rfl) (.u rfl) ?_)))))))
 refine mV rfl rfl (mv rfl (.f rfl rfl) (.u rfl) (pe rfl (.f rfl rfl) Fx.pt50 (.s rfl) (.u rfl) ?_))
 refine pkO rfl .no (.u rfl) (.s rfl) (aS rfl rfl (.nil (.code (.cond rfl (fun c1=>?_) (fun c1=>?_)))))
 ·have c1k:=c1
  cases c1
 have c1k:=c1
 try simp only [qcA,qcC,qcB] at c1
 refine .seq (rq4 rfl rfl (lA rfl .no Fx.ag38 (.u rfl) (fun _=>RdN.part (n:=7) (cs':=o.cells) tk2 (rfl)) (fun _=>rfl) ?_))
 refine kv rfl .no Fx.go84 (Evc rfl Evn) (fun _=>oright_ok o _) ?_
 refine nt rfl .no (.u rfl) (aS rfl rfl (.nil (.code (.cond rfl (fun c2=>?_) (fun c2=>?_)))))
 ·have c2k:=c2
  rw [hO] at c2; cases c2
 have c2k:=c2
 try simp only [qcA,qcC,qcB] at c2
 refine .seq (rq3 rfl rfl (mV rfl rfl (kp rfl .no Fx.go85 (Evc rfl Evn) (Gp.add tk4 Gp.nil) (fun _ hle hq=>dead_ok bd bm room 0 0 [] _ ⟨PM.add_same _ _ _⟩) ?_)))
 refine aS rfl rfl (.nil (.code (.cond rfl (fun c3=>?_) (fun c3=>?_))))
 ·have c3k:=c3
  cases c3
 have c3k:=c3
 try simp only [qcA,qcC,qcB] at c3
 refine .skip (.blk (.code (.seq (rq7 rfl rfl (mV rfl rfl (ka rfl (.inr rfl) Fx.go86 (Evc rfl Evn) (mtk1 tk6) (topen_ok bt 0#64 0#64 _ (by decide)) ?_))))))
 rintro _ G29 μ29 hG29 ⟨rfl,rfl⟩
 have hK:=hK.mono hG29
 refine mV rfl rfl (ex rfl .no (.u rfl) rfl (ex rfl .no (.u rfl) rfl (aS rfl rfl (aS rfl rfl (.nil (.code (.seq (.seq (rq2 rfl rfl (mV rfl rfl (cp rfl .no (.u rfl) (.u rfl) rfl (.nil (.code (.cond rfl (fun c4=>?_) (fun c4=>?_)))))))))))))))
 ·have c4k:=c4
  exact absurd c4 (by decide)
 have c4k:=c4
 try simp only [qcA,qcC,qcB] at c4
 refine .skip (.code (.seq ?_))
 refine Wk.jn (α:=Nat×Nat×Nat×Value) (fun gh=>[(12,true,.pointer (some ⟨gh.1,0,none⟩))]) (fun gh=>[.blk gh.1 (cl (Db.cells (Db.new bd bt root o 1#64 gh.2.1 gh.2.2.1)) 165),.mp gh.2.1 .u64 (fun _=>none),.blk gh.2.2.1 (cl [gh.2.2.2,.int .i64 ((0:Nat):Int)] 225),rS 16 Nd.cells gh.2.2.2 249 [Nd.z]]) (fun gh Gl=>(gh.2.2.2.oneCell'=true)) [(8,true,_),(9,true,_)] [_,_,_,_,_]
  (esD rfl (esD rfl eZ)) (mS .here rfl (mS .here rfl (mS .here rfl (mS tk2 rfl (mS tk2 rfl mN))))) ?_ ?_
 ·refine wk_fz tk4 (keys_k tk4 rfl (keys_k tk4 rfl (keys_k .here rfl (keys_0)))) ?_; intro Gfb6 hleb6 hbb6
  have hK:=hK.mono hleb6
  refine wk_fz tk3 (keys_k tk3 rfl (keys_k tk3 rfl (keys_k .here rfl (keys_0)))) ?_; intro Gfb7 hleb7 hbb7
  have hK:=hK.mono hleb7
  have hbb6:=hbb6.mono hleb7
  refine Wk.mixp ⟨true,false⟩ Fx.mix (by kernel_rfl) ?_
  refine Wp.one 0 (by kernel_rfl) ?_
  refine mV rfl rfl (.nil (Wp.one 1 (by kernel_rfl) ?_))
  refine mV rfl rfl (.nil (Wp.one 4 (by kernel_rfl) ?_))
  refine mV rfl rfl (.nil (Wp.pr 2 (by kernel_rfl) ?_))
  refine lA rfl .no Fx.ag34 (.u rfl) (fun _=>(hbb6.rdn (m:=32) (cs':=ba 32 root) (rfl)).rd) (fun _=>(ba_len _ _)) ?_
  refine .nil ⟨⟨rfl,rfl⟩,?_⟩
  refine Wp.pr 3 (by kernel_rfl) ?_
  refine lA rfl .no Fx.ag38 (.u rfl) (fun _=>(hbb7.rdn (m:=7) (cs':=o.cells) (rfl)).rd) (fun _=>rfl) ?_
  refine .nil ⟨⟨rfl,rfl⟩,?_⟩
  refine Wp.b2 5 6 (by kernel_rfl) ?_ ?_
  ·refine mk rfl .u64 ?_; intro b40
   refine .nil (Wp.b1 6 (by kernel_rfl) ?_)
   refine kc rfl Fx.go87 Evn (lNew_ok _) ?_
   rintro _ G41 μ41 hG41 ⟨bl,vl,ol,rfl,rfl⟩
   have hK:=hK.mono hG41
   refine .nil (Wp.one 7 (by kernel_rfl) ?_)
   refine bCe ((Db.new bd bt root o (0#64+1#64) b40 bl).cells) rfl .no Fx.bp165_0_1_2_3_4_9_13 (.cons (.u rfl) rfl (.cons (.u rfl) rfl (.cons (.u rfl) rfl (.cons (.u rfl) rfl (.cons (.u rfl) rfl (.cons (.u rfl) rfl (.cons (.u rfl) rfl .nil))))))) rfl (rfl) (.nil (Wp.b1 8 (by kernel_rfl) ?_))
   refine bx rfl (.u rfl) rfl ?_; intro b43
   refine .nil (Wp.one 9 (by kernel_rfl) ?_)
   refine aS rfl rfl (.nil (Wp.last (by kernel_rfl) ?_))
   refine We.lpo (b43,b40,bl,vl) ?_ ?_ ?_ ?_ ?_
   ·exact (esD rfl (esD rfl (esD rfl eZ)))
   ·exact (mS .here rfl (mS tk2 rfl (mS .here rfl (mS .here rfl (mS .here rfl (mS .here rfl (mS .here rfl (mS .here rfl (mS .here rfl mN)))))))))
   ·exact zro_lt _
   ·exact ((hleb6).trans hleb7).trans hG41
   (try dsimp only)<;>(first|omega|rfl|assumption|(simp; done))
  refine kc rfl Fx.go87 Evn (lNew_ok _) ?_
  rintro _ G41 μ41 hG41 ⟨bl,vl,ol,rfl,rfl⟩
  have hK:=hK.mono hG41
  refine .nil (Wp.b1 5 (by kernel_rfl) ?_)
  refine mk rfl .u64 ?_; intro b40
  refine .nil (Wp.one 7 (by kernel_rfl) ?_)
  refine bCe ((Db.new bd bt root o (0#64+1#64) b40 bl).cells) rfl .no Fx.bp165_0_1_2_3_4_9_13 (.cons (.u rfl) rfl (.cons (.u rfl) rfl (.cons (.u rfl) rfl (.cons (.u rfl) rfl (.cons (.u rfl) rfl (.cons (.u rfl) rfl (.cons (.u rfl) rfl .nil))))))) rfl (rfl) (.nil (Wp.b1 8 (by kernel_rfl) ?_))
  refine bx rfl (.u rfl) rfl ?_; intro b43
  refine .nil (Wp.one 9 (by kernel_rfl) ?_)
  refine aS rfl rfl (.nil (Wp.last (by kernel_rfl) ?_))
  refine We.lpo (b43,b40,bl,vl) ?_ ?_ ?_ ?_ ?_
  ·exact (esD rfl (esD rfl (esD rfl eZ)))
  ·exact (mS .here rfl (mS .here rfl (mS .here rfl (mS .here rfl (mS .here rfl (mS .here rfl (mS .here rfl (mS .here rfl (mS .here rfl mN)))))))))
  ·exact zro_lt _
  ·exact ((hleb6).trans hleb7).trans hG41
  (try dsimp only)<;>(first|omega|rfl|assumption|(simp; done))
 intro gh Glj10 hGlj10 hFj10
 obtain ⟨b43,b40,bl,vl⟩:=gh; dsimp only at hFj10 ⊢
 have ol:=hFj10
 have hK:=hK.mono hGlj10
 refine .code (.seq (Wk.defers [0] 1 (DQ.d ⟨88,[],[.pointer (some ⟨b9,0,none⟩),.pointer (some ⟨b8,0,none⟩)]⟩) (fun _ _ _ _=>False) (fun _ _ _ _ _ _ hq=>hq.elim) rfl rfl ?_))
 refine mf (vf:=#[]) (vc:=[Value.pointer (some ⟨b9,0,none⟩),Value.pointer (some ⟨b8,0,none⟩)].toArray) rfl .no (fun a ha _=>by simp) (fun a ha _=>by simp [(Ev.u (c:=true) rfl:Ev _ true (.tmp 9) _).eval ha rfl,(Ev.u (c:=true) rfl:Ev _ true (.tmp 8) _).eval ha rfl]) ?_
 refine .nil ⟨DefOp.clo rfl rfl,?_⟩
 refine .code (.seq (Wk.defersO [0] 1 ⟨89,[.pointer (some ⟨b43,0,none⟩),.pointer (some ⟨b9,0,none⟩)],[]⟩ ⟨88,[],[.pointer (some ⟨b9,0,none⟩),.pointer (some ⟨b8,0,none⟩)]⟩ 227 141 b8 b9 45 30 [.pointer none,.int .i64 141] Fx.go89 Fx.go88 rfl rfl (fun w G y hs=>guard_pan w G _ y b9 hs) (fun w G x hs=>open1_full w G x b8 b9 hs) (fun _=>⟨rfl,rfl⟩) rfl rfl (mV rfl rfl (.nil ⟨DefOp.fn rfl (Evc rfl (Evc rfl Evn)),?_⟩))))
 refine .code (.seq (rq2 rfl rfl (mV rfl rfl (kpo rfl Fx.go90 (Evc rfl Evn) (mtq4 .here tk6 tk6 tk3) (dbegF_p b43 bm room bd bt b40 bl root o 1#64 (0#64+1#64) _ hr hK) (fun ch G9 ρ9 μ9 hle9 hd he hm=>dieO_of hd he hm tk4 tk3 (.cell rfl (fun w hw=>run_loadVar1 Fx.ag45 (Rd.own .here rfl w hw)) (.cell rfl (fun w hw=>run_loadVar1 Fx.ag30 (Rd.own tk1 rfl w hw)) .nil))) ?_))))
 rintro _ G47 μ47 hG47 hF
 exact hF.elim
end Go.Proofs.YtoifkgkandfeiaaGreatDoor
namespace Go.Proofs.YtoifkgkandfeiaaGreatDoor
open Go.Tan Go.RowKit Go.Maps Go.Sort Go.Shelf
theorem wOpenF_ok (bw:Nat) (bd bm room bt:Nat) (root:Nat→Y) (o:Opts) (most:Int) (G:PM) (hO:rightO o=true) (hr:room<30) (hr9:room≤1000000000) (hK:RdNP G 6 0 (wa 64 kW)):Ct Tryz.prog 28 ([.pointer (some ⟨bw,0,none⟩)]:List Value).toArray G [.blk bw (cl (wdC bd bt root o most (.pointer none) (.pointer none)) 77),.blk bd (cl (dkC bm room 0) 118),.blk bm (mO [] 0),.blk bt (cl [uv .u64 0#64,uv .u64 0#64] 87)] (fun _ μ' u=>μ'=[.blk bw (cl (wdC bd bt root o most (.pointer none) (.pointer none)) 77)]∧u=.int .i64 141):=by
 refine Ct.of Tryz.func28 rfl Tryz.ntmps28 rfl fun w0 hs0=>?_
 refine .seq (rq1 rfl rfl (aS rfl rfl (.nil (.code (.seq (Wk.mixp ⟨true,false⟩ Fx.mix (by kernel_rfl) ?_))))))
 refine Wp.one 0 (by kernel_rfl) ?_
 refine mV rfl rfl (.nil (Wp.one 1 (by kernel_rfl) ?_))
 refine nc rfl .no (.u rfl) (.nil (Wp.one 2 (by kernel_rfl) ?_))
 refine fz rfl .no Fx.fo77_0 (.u rfl) (.nil (Wp.one 3 (by kernel_rfl) ?_))
 refine ld rfl .no Fx.ag48 (.u rfl) (fun _=>Rd.own .here rfl) ?_
 refine .nil (Wp.one 4 (by kernel_rfl) ?_)
 refine mV rfl rfl (.nil (Wp.one 5 (by kernel_rfl) ?_))
 refine nc rfl .no (.u rfl) (.nil (Wp.one 6 (by kernel_rfl) ?_))
 refine fz rfl .no Fx.fo77_1 (.u rfl) (.nil (Wp.one 7 (by kernel_rfl) ?_))
 refine ld rfl .no Fx.ag50 (.u rfl) (fun _=>Rd.own .here rfl) ?_
 refine .nil (Wp.one 8 (by kernel_rfl) ?_)
 refine mV rfl rfl (.nil (Wp.one 9 (by kernel_rfl) ?_))
 refine nc rfl .no (.u rfl) (.nil (Wp.one 10 (by kernel_rfl) ?_))
 refine fz rfl .no Fx.fo77_2 (.u rfl) (.nil (Wp.one 11 (by kernel_rfl) ?_))
 refine lA rfl .no Fx.ag34 (.u rfl) (fun _=>RdN.part (n:=32) (cs':=ba 32 root) .here (rfl)) (fun _=>(ba_len _ _)) ?_
 refine .nil (Wp.one 12 (by kernel_rfl) ?_)
 refine mV rfl rfl (.nil (Wp.one 13 (by kernel_rfl) ?_))
 refine nc rfl .no (.u rfl) (.nil (Wp.one 14 (by kernel_rfl) ?_))
 refine fz rfl .no Fx.fo77_3 (.u rfl) (.nil (Wp.one 15 (by kernel_rfl) ?_))
 refine lA rfl .no Fx.ag38 (.u rfl) (fun _=>RdN.part (n:=7) (cs':=o.cells) .here (rfl)) (fun _=>rfl) ?_
 refine .nil (Wp.b1 16 (by kernel_rfl) ?_)
 refine ka rfl (.inl rfl) Fx.go50 (Evc rfl (Evc rfl (Evc rfl (Evc rfl Evn)))) (mtk3 tk1 tk1 tk1) (dOpenF_ok bd bm room bt root o _ hO hr hK) ?_
 rintro _ G22 μ22 hG22 ⟨rfl,rfl⟩
 refine .nil (Wp.one 17 (by kernel_rfl) ?_)
 refine mV rfl rfl (.nil (Wp.one 18 (by kernel_rfl) ?_))
 refine ex rfl .no (.u rfl) rfl (.nil (Wp.one 19 (by kernel_rfl) ?_))
 refine ex rfl .no (.u rfl) rfl (.nil (Wp.one 20 (by kernel_rfl) ?_))
 refine aS rfl rfl (.nil (Wp.one 21 (by kernel_rfl) ?_))
 refine aS rfl rfl (.nil (Wp.last (by kernel_rfl) ?_))
 refine .code (.seq (Wk.rg [0,1,2,3,4,5,6,7,8,9,10] rfl rfl (mV rfl rfl (mV rfl rfl (mV rfl rfl (mV rfl rfl (kv rfl .no Fx.go51 (Evc rfl Evn) (fun _=>gNew0_ok _) ?_)))))))
 refine nc rfl .no (.u rfl) (fz rfl .no Fx.fo77_5 (.u rfl) (s1 rfl (.u rfl) (.u rfl) rfl Fx.sz45 .here ((by rw [wd_len]; decide)) (wd_db) ?_))
 refine nc rfl .no (.u rfl) (fz rfl .no Fx.fo77_6 (.u rfl) (s1 rfl (.u rfl) (.u rfl) rfl Fx.sz75 .here ((by rw [wd_len]; decide)) (wd_gr) ?_))
 refine .nil (.code (.seq (rq2 rfl rfl (mV rfl rfl (aS rfl rfl (.nil (.code (.ret (We.fin Tryz.results28 (.tmp rfl .nil) (mS .here rfl mN) ?_)))))))))
 exact ⟨rfl,rfl⟩
theorem wNewF_ok (room:Nat) (root:Nat→Y) (o:Opts) (most:Int) (G:PM) (hO:rightO o=true) (hr:room<30) (hr9:room≤1000000000) (hK:RdNP G 6 0 (wa 64 kW)):Ct Tryz.prog 8 ([.int .i64 ((room:Nat):Int),.agg (ba 32 root).toArray,o.val,.int .i64 most]:List Value).toArray G [] (fun _ μ' u=>μ'=[]∧u=.tuple #[.pointer none,.int .i64 141]):=by
 refine Ct.of Tryz.func8 rfl Tryz.ntmps8 rfl fun w0 hs0=>?_
 refine .seq (rq4 rfl rfl ?_)
 refine bx rfl (.u rfl) rfl ?_; intro b5
 refine bx rfl (.u rfl) rfl ?_; intro b6
 refine aS rfl rfl (aS rfl rfl (.nil (.code (.seq ?_))))
 refine wk_fz tk1 (by intro b hb; cases hb) ?_; intro Gfb5 hleb5 hbb5
 have hK:=hK.mono hleb5
 refine wk_fz .here (by intro b hb; cases hb) ?_; intro Gfb6 hleb6 hbb6
 have hK:=hK.mono hleb6
 have hbb5:=hbb5.mono hleb6
 refine Wk.mixp ⟨true,false⟩ Fx.mix (by kernel_rfl) ?_
 refine Wp.one 0 (by kernel_rfl) ?_
 refine mV rfl rfl (.nil (Wp.one 5 (by kernel_rfl) ?_))
 refine mV rfl rfl (.nil (Wp.pr 3 (by kernel_rfl) ?_))
 refine lA rfl .no Fx.ag34 (.u rfl) (fun _=>(hbb5.rdn (m:=32) (cs':=ba 32 root) (rfl)).rd) (fun _=>(ba_len _ _)) ?_
 refine .nil ⟨⟨rfl,rfl⟩,?_⟩
 refine Wp.pr 4 (by kernel_rfl) ?_
 refine lA rfl .no Fx.ag38 (.u rfl) (fun _=>(hbb6.rdn (m:=7) (cs':=o.cells) (rfl)).rd) (fun _=>rfl) ?_
 refine .nil ⟨⟨rfl,rfl⟩,?_⟩
 refine Wp.b1 1 (by kernel_rfl) ?_
 refine kc rfl Fx.go26 (Evc rfl Evn) (dnew_ok room _ hr9) ?_
 rintro _ G13 μ13 hG13 ⟨bd,bm,rfl,rfl⟩
 have hK:=hK.mono hG13
 refine .nil (Wp.b1 2 (by kernel_rfl) ?_)
 refine kc rfl Fx.go27 Evn (tnew_ok _) ?_
 rintro _ G14 μ14 hG14 ⟨bt,rfl,rfl⟩
 have hK:=hK.mono hG14
 refine .nil (Wp.one 6 (by kernel_rfl) ?_)
 refine bCe (wdC bd bt root o most (.pointer none) (.pointer none)) rfl .no Fx.bp77_0_1_2_3_4 (.cons (.u rfl) rfl (.cons (.u rfl) rfl (.cons (.u rfl) rfl (.cons (.u rfl) rfl (.cons (.u rfl) rfl .nil))))) rfl (rfl) (.nil (Wp.b1 7 (by kernel_rfl) ?_))
 refine bx rfl (.u rfl) rfl ?_; intro b19
 refine .nil (Wp.one 8 (by kernel_rfl) ?_)
 refine aS rfl rfl (.nil (Wp.last (by kernel_rfl) ?_))
 refine .code (.seq (.seq (rq3 rfl rfl (mV rfl rfl (ka rfl (.inr rfl) Fx.go28 (Evc rfl Evn) (mtq4 .here tk1 tk1 .here) (wOpenF_ok b19 bd bm room bt root o most _ hO hr hr9 hK) ?_)))))
 rintro _ G21 μ21 hG21 ⟨rfl,rfl⟩
 refine aS rfl rfl (.nil (.code (.seq (rq2 rfl rfl (mV rfl rfl (cp rfl .no (.u rfl) (.u rfl) rfl (.nil (.code (.cond rfl (fun c1=>?_) (fun c1=>?_))))))))))
 ·have c1k:=c1
  try simp only [qcA,qcC,qcB] at c1
  refine .seq (rq3 rfl rfl (mV rfl rfl (aS rfl rfl (aS rfl rfl (.nil (.code (.ret (We.fin0 Tryz.results8 (.tmp rfl (.tmp rfl .nil)) ?_))))))))
  exact ⟨rfl,rfl⟩
 have c1k:=c1
 exact Bool.noConfusion (id c1:true=false)
theorem dkNewF_ok (room:Nat) (root:Nat→Y) (o:Opts) (most:Int) (G:PM) (hO:rightO o=true) (hr:room<30) (hr9:room≤1000000000) (hK:RdNP G 6 0 (wa 64 kW)):Ct Tryz.prog 23 ([.int .i64 ((room:Nat):Int),.agg (ba 32 root).toArray,o.val,.int .i64 most]:List Value).toArray G [] (fun _ μ' u=>μ'=[]∧u=.tuple #[.pointer none,.int .i64 141]):=by
 refine Ct.of Tryz.func23 rfl Tryz.ntmps23 rfl fun w0 hs0=>?_
 refine .seq (rq4 rfl rfl ?_)
 refine bx rfl (.u rfl) rfl ?_; intro b5
 refine bx rfl (.u rfl) rfl ?_; intro b6
 refine aS rfl rfl (aS rfl rfl (.nil (.code (.seq (rq10 rfl rfl (mV rfl rfl (lA rfl .no Fx.ag34 (.u rfl) (fun _=>RdN.part (n:=32) (cs':=ba 32 root) tk1 (rfl)) (fun _=>(ba_len _ _)) ?_)))))))
 refine lA rfl .no Fx.ag38 (.u rfl) (fun _=>RdN.part (n:=7) (cs':=o.cells) .here (rfl)) (fun _=>rfl) ?_
 refine mV rfl rfl (kv rfl .no Fx.go8 (Evc rfl (Evc rfl (Evc rfl (Evc rfl Evn)))) (fun _=>wNewF_ok room root o most _ hO hr hr9 hK) ?_)
 refine mV rfl rfl (ex rfl .no (.u rfl) rfl (ex rfl .no (.u rfl) rfl (aS rfl rfl (aS rfl rfl (.nil (.code (.seq (.seq (rq2 rfl rfl (mV rfl rfl (cp rfl .no (.u rfl) (.u rfl) rfl (.nil (.code (.cond rfl (fun c1=>?_) (fun c1=>?_)))))))))))))))
 ·have c1k:=c1
  try simp only [qcA,qcC,qcB] at c1
  refine .seq (rq3 rfl rfl (mV rfl rfl (aS rfl rfl (aS rfl rfl (.nil (.code (.ret (We.fin0 Tryz.results23 (.tmp rfl (.tmp rfl .nil)) ?_))))))))
  exact ⟨rfl,rfl⟩
 have c1k:=c1
 exact Bool.noConfusion (id c1:true=false)
theorem wOpenB_ok (bw:Nat) (bd bm room bt:Nat) (root:Nat→Y) (o:Opts) (most:Int) (G:PM) (hO:rightO o=false) (hr9:room≤1000000000):Ct Tryz.prog 28 ([.pointer (some ⟨bw,0,none⟩)]:List Value).toArray G [.blk bw (cl (wdC bd bt root o most (.pointer none) (.pointer none)) 77),.blk bd (cl (dkC bm room 0) 118),.blk bm (mO [] 0),.blk bt (cl [uv .u64 0#64,uv .u64 0#64] 87)] (fun _ μ' u=>μ'=[.blk bw (cl (wdC bd bt root o most (.pointer none) (.pointer none)) 77),.blk bd (cl (dkC bm room 0) 118),.blk bm (mO [] 0),.blk bt (cl [uv .u64 0#64,uv .u64 0#64] 87)]∧u=.int .i64 1):=by
 refine Ct.of Tryz.func28 rfl Tryz.ntmps28 rfl fun w0 hs0=>?_
 refine .seq (rq1 rfl rfl (aS rfl rfl (.nil (.code (.seq (Wk.mixp ⟨true,false⟩ Fx.mix (by kernel_rfl) ?_))))))
 refine Wp.one 0 (by kernel_rfl) ?_
 refine mV rfl rfl (.nil (Wp.one 1 (by kernel_rfl) ?_))
 refine nc rfl .no (.u rfl) (.nil (Wp.one 2 (by kernel_rfl) ?_))
 refine fz rfl .no Fx.fo77_0 (.u rfl) (.nil (Wp.one 3 (by kernel_rfl) ?_))
 refine ld rfl .no Fx.ag48 (.u rfl) (fun _=>Rd.own .here rfl) ?_
 refine .nil (Wp.one 4 (by kernel_rfl) ?_)
 refine mV rfl rfl (.nil (Wp.one 5 (by kernel_rfl) ?_))
 refine nc rfl .no (.u rfl) (.nil (Wp.one 6 (by kernel_rfl) ?_))
 refine fz rfl .no Fx.fo77_1 (.u rfl) (.nil (Wp.one 7 (by kernel_rfl) ?_))
 refine ld rfl .no Fx.ag50 (.u rfl) (fun _=>Rd.own .here rfl) ?_
 refine .nil (Wp.one 8 (by kernel_rfl) ?_)
 refine mV rfl rfl (.nil (Wp.one 9 (by kernel_rfl) ?_))
 refine nc rfl .no (.u rfl) (.nil (Wp.one 10 (by kernel_rfl) ?_))
 refine fz rfl .no Fx.fo77_2 (.u rfl) (.nil (Wp.one 11 (by kernel_rfl) ?_))
 refine lA rfl .no Fx.ag34 (.u rfl) (fun _=>RdN.part (n:=32) (cs':=ba 32 root) .here (rfl)) (fun _=>(ba_len _ _)) ?_
 refine .nil (Wp.one 12 (by kernel_rfl) ?_)
 refine mV rfl rfl (.nil (Wp.one 13 (by kernel_rfl) ?_))
 refine nc rfl .no (.u rfl) (.nil (Wp.one 14 (by kernel_rfl) ?_))
 refine fz rfl .no Fx.fo77_3 (.u rfl) (.nil (Wp.one 15 (by kernel_rfl) ?_))
 refine lA rfl .no Fx.ag38 (.u rfl) (fun _=>RdN.part (n:=7) (cs':=o.cells) .here (rfl)) (fun _=>rfl) ?_
 refine .nil (Wp.b1 16 (by kernel_rfl) ?_)
 refine kv rfl .no Fx.go50 (Evc rfl (Evc rfl (Evc rfl (Evc rfl Evn)))) (fun _=>openBad_ok bd bt root o _ hO) (.nil (Wp.one 17 (by kernel_rfl) ?_))
 refine mV rfl rfl (.nil (Wp.one 18 (by kernel_rfl) ?_))
 refine ex rfl .no (.u rfl) rfl (.nil (Wp.one 19 (by kernel_rfl) ?_))
 refine ex rfl .no (.u rfl) rfl (.nil (Wp.one 20 (by kernel_rfl) ?_))
 refine aS rfl rfl (.nil (Wp.one 21 (by kernel_rfl) ?_))
 refine aS rfl rfl (.nil (Wp.last (by kernel_rfl) ?_))
 refine .code (.seq (Wk.rg [0,1,2,3,4,5,6,7,8,9,10] rfl rfl (mV rfl rfl (mV rfl rfl (mV rfl rfl (mV rfl rfl (kv rfl .no Fx.go51 (Evc rfl Evn) (fun _=>gNew0_ok _) ?_)))))))
 refine nc rfl .no (.u rfl) (fz rfl .no Fx.fo77_5 (.u rfl) (s1 rfl (.u rfl) (.u rfl) rfl Fx.sz45 .here ((by rw [wd_len]; decide)) (wd_db) ?_))
 refine nc rfl .no (.u rfl) (fz rfl .no Fx.fo77_6 (.u rfl) (s1 rfl (.u rfl) (.u rfl) rfl Fx.sz75 .here ((by rw [wd_len]; decide)) (wd_gr) ?_))
 refine .nil (.code (.seq (rq2 rfl rfl (mV rfl rfl (aS rfl rfl (.nil (.code (.ret (We.fin Tryz.results28 (.tmp rfl .nil) (mS .here rfl (mS .here rfl (mS .here rfl (mS .here rfl mN)))) ?_)))))))))
 exact ⟨rfl,rfl⟩
theorem wNewB_ok (room:Nat) (root:Nat→Y) (o:Opts) (most:Int) (G:PM) (hO:rightO o=false) (hr9:room≤1000000000):Ct Tryz.prog 8 ([.int .i64 ((room:Nat):Int),.agg (ba 32 root).toArray,o.val,.int .i64 most]:List Value).toArray G [] (fun _ μ' u=>μ'=[]∧u=.tuple #[.pointer none,.int .i64 1]):=by
 refine Ct.of Tryz.func8 rfl Tryz.ntmps8 rfl fun w0 hs0=>?_
 refine .seq (rq4 rfl rfl ?_)
 refine bx rfl (.u rfl) rfl ?_; intro b5
 refine bx rfl (.u rfl) rfl ?_; intro b6
 refine aS rfl rfl (aS rfl rfl (.nil (.code (.seq ?_))))
 refine wk_fz tk1 (by intro b hb; cases hb) ?_; intro Gfb5 hleb5 hbb5
 refine wk_fz .here (by intro b hb; cases hb) ?_; intro Gfb6 hleb6 hbb6
 have hbb5:=hbb5.mono hleb6
 refine Wk.mixp ⟨true,false⟩ Fx.mix (by kernel_rfl) ?_
 refine Wp.one 0 (by kernel_rfl) ?_
 refine mV rfl rfl (.nil (Wp.one 5 (by kernel_rfl) ?_))
 refine mV rfl rfl (.nil (Wp.pr 3 (by kernel_rfl) ?_))
 refine lA rfl .no Fx.ag34 (.u rfl) (fun _=>(hbb5.rdn (m:=32) (cs':=ba 32 root) (rfl)).rd) (fun _=>(ba_len _ _)) ?_
 refine .nil ⟨⟨rfl,rfl⟩,?_⟩
 refine Wp.pr 4 (by kernel_rfl) ?_
 refine lA rfl .no Fx.ag38 (.u rfl) (fun _=>(hbb6.rdn (m:=7) (cs':=o.cells) (rfl)).rd) (fun _=>rfl) ?_
 refine .nil ⟨⟨rfl,rfl⟩,?_⟩
 refine Wp.b1 1 (by kernel_rfl) ?_
 refine kc rfl Fx.go26 (Evc rfl Evn) (dnew_ok room _ hr9) ?_
 rintro _ G13 μ13 hG13 ⟨bd,bm,rfl,rfl⟩
 refine .nil (Wp.b1 2 (by kernel_rfl) ?_)
 refine kc rfl Fx.go27 Evn (tnew_ok _) ?_
 rintro _ G14 μ14 hG14 ⟨bt,rfl,rfl⟩
 refine .nil (Wp.one 6 (by kernel_rfl) ?_)
 refine bCe (wdC bd bt root o most (.pointer none) (.pointer none)) rfl .no Fx.bp77_0_1_2_3_4 (.cons (.u rfl) rfl (.cons (.u rfl) rfl (.cons (.u rfl) rfl (.cons (.u rfl) rfl (.cons (.u rfl) rfl .nil))))) rfl (rfl) (.nil (Wp.b1 7 (by kernel_rfl) ?_))
 refine bx rfl (.u rfl) rfl ?_; intro b19
 refine .nil (Wp.one 8 (by kernel_rfl) ?_)
 refine aS rfl rfl (.nil (Wp.last (by kernel_rfl) ?_))
 refine .code (.seq (.seq (rq3 rfl rfl (mV rfl rfl (ka rfl (.inr rfl) Fx.go28 (Evc rfl Evn) (mtq4 .here tk1 tk1 .here) (wOpenB_ok b19 bd bm room bt root o most _ hO hr9) ?_)))))
 rintro _ G21 μ21 hG21 ⟨rfl,rfl⟩
 refine aS rfl rfl (.nil (.code (.seq (rq2 rfl rfl (mV rfl rfl (cp rfl .no (.u rfl) (.u rfl) rfl (.nil (.code (.cond rfl (fun c1=>?_) (fun c1=>?_))))))))))
 ·have c1k:=c1
  try simp only [qcA,qcC,qcB] at c1
  refine .seq (rq3 rfl rfl (mV rfl rfl (aS rfl rfl (aS rfl rfl (.nil (.code (.ret (We.fin0 Tryz.results8 (.tmp rfl (.tmp rfl .nil)) ?_))))))))
  exact ⟨rfl,rfl⟩
 have c1k:=c1
 exact Bool.noConfusion (id c1:true=false)
theorem dkNewB_ok (room:Nat) (root:Nat→Y) (o:Opts) (most:Int) (G:PM) (hO:rightO o=false) (hr9:room≤1000000000):Ct Tryz.prog 23 ([.int .i64 ((room:Nat):Int),.agg (ba 32 root).toArray,o.val,.int .i64 most]:List Value).toArray G [] (fun _ μ' u=>μ'=[]∧u=.tuple #[.pointer none,.int .i64 1]):=by
 refine Ct.of Tryz.func23 rfl Tryz.ntmps23 rfl fun w0 hs0=>?_
 refine .seq (rq4 rfl rfl ?_)
 refine bx rfl (.u rfl) rfl ?_; intro b5
 refine bx rfl (.u rfl) rfl ?_; intro b6
 refine aS rfl rfl (aS rfl rfl (.nil (.code (.seq (rq10 rfl rfl (mV rfl rfl (lA rfl .no Fx.ag34 (.u rfl) (fun _=>RdN.part (n:=32) (cs':=ba 32 root) tk1 (rfl)) (fun _=>(ba_len _ _)) ?_)))))))
 refine lA rfl .no Fx.ag38 (.u rfl) (fun _=>RdN.part (n:=7) (cs':=o.cells) .here (rfl)) (fun _=>rfl) ?_
 refine mV rfl rfl (kv rfl .no Fx.go8 (Evc rfl (Evc rfl (Evc rfl (Evc rfl Evn)))) (fun _=>wNewB_ok room root o most _ hO hr9) ?_)
 refine mV rfl rfl (ex rfl .no (.u rfl) rfl (ex rfl .no (.u rfl) rfl (aS rfl rfl (aS rfl rfl (.nil (.code (.seq (.seq (rq2 rfl rfl (mV rfl rfl (cp rfl .no (.u rfl) (.u rfl) rfl (.nil (.code (.cond rfl (fun c1=>?_) (fun c1=>?_)))))))))))))))
 ·have c1k:=c1
  try simp only [qcA,qcC,qcB] at c1
  refine .seq (rq3 rfl rfl (mV rfl rfl (aS rfl rfl (aS rfl rfl (.nil (.code (.ret (We.fin0 Tryz.results23 (.tmp rfl (.tmp rfl .nil)) ?_))))))))
  exact ⟨rfl,rfl⟩
 have c1k:=c1
 exact Bool.noConfusion (id c1:true=false)
end Go.Proofs.YtoifkgkandfeiaaGreatDoor
namespace Go.Proofs.YtoifkgkandfeiaaGreatDoor
open Go.Tan Go.RowKit Go.Maps Go.Sort Go.Shelf
namespace FxNiF
theorem go16:goFn Tryz.prog 16=true:=by kernel_rfl
end FxNiF
namespace Fx
theorem go22:goFn Tryz.prog 22=true:=by kernel_rfl
theorem bp38_:bPl Tryz.prog 38 []=some ([.int .i64 0,.int .i64 0,.int .i64 0,.int .i64 0,.int .i64 0,.int .i64 0,.int .i64 0],[]):=by kernel_rfl
end Fx
theorem runN_ok (s:ByteArray) (G:PM):Ct Tryz.prog 22 ([.pointer none,.string s]:List Value).toArray G [] (fun _ μ' u=>μ'=[]∧u=.tuple #[.string ⟨#[]⟩,.int .i64 2]):=by
 refine Ct.of Tryz.func22 rfl Tryz.ntmps22 rfl fun w0 hs0=>?_
 refine .seq (rq2 rfl rfl (aS rfl rfl (aS rfl rfl (.nil (.code (.seq (.seq (rq2 rfl rfl (mV rfl rfl (pe0 rfl .no Fx.pt64 (.u rfl) (.u rfl) ?_))))))))))
 refine .nil (.code (Wk.condT rfl rfl ?_))
 refine .seq (rq2 rfl rfl (aS rfl rfl (aS rfl rfl (.nil (.code (.ret (We.fin0 Tryz.results22 (.tmp rfl (.tmp rfl .nil)) ?_)))))))
 exact ⟨rfl,rfl⟩
theorem lineN_ok (s:ByteArray) (G:PM):Ct Tryz.prog 25 ([.pointer none,.string s]:List Value).toArray G [] (fun _ μ' u=>μ'=[]∧u=.string ⟨#[101,114,114,111,114,32,50]⟩):=by
 refine Ct.of Tryz.func25 rfl Tryz.ntmps25 rfl fun w0 hs0=>?_
 refine .seq (rq1 rfl rfl (aS rfl rfl (.nil (.code (.seq (.seq (rq2 rfl rfl (mV rfl rfl (pe0 rfl .no Fx.pt64 (.u rfl) (.u rfl) ?_)))))))))
 refine .nil (.code (Wk.condT rfl rfl ?_))
 refine .seq (rq1 rfl rfl (aS rfl rfl (.nil (.code (.ret (We.fin0 Tryz.results25 (.tmp rfl .nil) ?_))))))
 exact ⟨rfl,rfl⟩
theorem opt9_ok (G:PM):Ct Tryz.prog 24 ([V 9#8]:List Value).toArray G [] (fun _ μ' u=>μ'=[]∧u=(⟨10,150,2,1500,40,4,10⟩ : Opts).val):=by
 refine Ct.of Tryz.func24 rfl Tryz.ntmps24 rfl fun w0 hs0=>?_
 refine .seq (rq1 rfl rfl ?_)
 refine al rfl Fx.zr38 ?_; intro b2
 refine .nil (.code (.seq (rq6 rfl rfl (mV rfl rfl ?_))))
 refine cn (k:=.u8) rfl .no Fx.cv5_3 (by decide) (.u rfl) ?_; intro m4 em4 lm4
 refine arn ((10:Nat):Int) rfl .no (.u rfl) (.u rfl) rfl (fun _=>by rw [em4]; rfl) (fun _=>wrap_i64 (by omega) (by omega)) ?_
 refine bCe ([.int .i64 40,.int .i64 4,.int .i64 10]) rfl .no Fx.bp36_0_1_2 (.cons (.u rfl) rfl (.cons (.u rfl) rfl (.cons (.u rfl) rfl .nil))) rfl (rfl) (bCe (Opts.cells (⟨10,150,2,1500,40,4,10⟩ : Opts)) rfl .no Fx.bp38_0_1_2_3_4 (.cons (.u rfl) rfl (.cons (.u rfl) rfl (.cons (.u rfl) rfl (.cons (.u rfl) rfl (.cons (.u rfl) rfl .nil))))) rfl (rfl) (sw rfl (.u rfl) (.u rfl) rfl Fx.sz38 .here (by first|exact qE|exact qL|rfl) (by first|exact ba_one _ _|exact wa_one _ _|exact one_V _|decide|exact one_app (wa_one _ _) (by simp [Value.oneCell'])) ?_))
 refine .nil (.code (.ret (We.fin0 Tryz.results24 (.cell rfl (fun w hw=>run_loadVarN Fx.ag38 (RdN.own .here) ((by first|exact qE|exact qL|rfl)) hw) .nil) ?_)))
 exact ⟨rfl,rfl⟩
theorem deskNil_ok (s:ByteArray) (G:PM) (hP:PwG Tryz.prog G) (hK:RdNP G 6 0 (wa 64 kW)):Ct Tryz.prog 6 ([.string s]:List Value).toArray G [] (fun _ μ' u=>μ'=[]∧u=.bool true):=by
 refine Ct.of Tryz.func6 rfl Tryz.ntmps6 rfl fun w0 hs0=>?_
 refine .seq (rq1 rfl rfl (aS rfl rfl (.nil (.code (.seq (rq2 rfl rfl (kv rfl .no FxNiF.go16 Evn (fun _=>shown26_ok _ hP hK) ?_)))))))
 refine aS rfl rfl (.nil (.code (.seq (rq1 rfl rfl (aS rfl rfl (.nil (.code (.seq (rq8 rfl rfl (mV rfl rfl (mV rfl rfl (kv rfl .no Fx.go22 (Evc rfl (Evc rfl Evn)) (fun _=>runN_ok s _) ?_))))))))))))
 refine mV rfl rfl (ex rfl .no (.u rfl) rfl (ex rfl .no (.u rfl) rfl (aS rfl rfl (aS rfl rfl (.nil (.code (.seq (rq8 rfl rfl (bCe (ba 32 (fun _=>0#8)) rfl .no Fx.bp34_ .nil rfl (rfl) ?_)))))))))
 refine kv rfl .no Fx.go24 (Evc rfl Evn) (fun _=>opt9_ok _) ?_
 refine kv rfl .no Fx.go23 (Evc rfl (Evc rfl (Evc rfl (Evc rfl Evn)))) (fun _=>dkNewF_ok 5 (fun _=>0#8) (⟨10,150,2,1500,40,4,10⟩ : Opts) 100 _ rfl (by decide) (by decide) hK) ?_
 refine mV rfl rfl (ex rfl .no (.u rfl) rfl (ex rfl .no (.u rfl) rfl (aS rfl rfl (aS rfl rfl (.nil (.code (.seq (rq8 rfl rfl (bCe (ba 32 (fun _=>0#8)) rfl .no Fx.bp34_ .nil rfl (rfl) ?_)))))))))
 refine bCe (Opts.cells (⟨0,0,0,0,0,0,0⟩ : Opts)) rfl .no Fx.bp38_ .nil rfl (rfl) (kv rfl .no Fx.go23 (Evc rfl (Evc rfl (Evc rfl (Evc rfl Evn)))) (fun _=>dkNewB_ok 1048576 (fun _=>0#8) (⟨0,0,0,0,0,0,0⟩ : Opts) 100 _ rfl (by decide)) ?_)
 refine mV rfl rfl (ex rfl .no (.u rfl) rfl (ex rfl .no (.u rfl) rfl (aS rfl rfl (aS rfl rfl (.nil (.code (.seq (Wk.rg [0,1,2,3,4,5,6,7,8,9,10,11,12,13,14,15,16,17,18,19,20,21,22,23,24,25,26,27,28,29,30,31] rfl rfl (mV rfl rfl (mV rfl rfl (mv rfl (.t rfl rfl) (.u rfl) (cs rfl (.t rfl rfl) (.s rfl) (.u rfl) rfl (pkA rfl .no (.u rfl) (.s rfl) (mV rfl rfl (mv rfl (.t rfl rfl) (.u rfl) (cp rfl (.t rfl rfl) (.s rfl) (.u rfl) rfl (pkA rfl .no (.u rfl) (.s rfl) (mV rfl rfl (mv rfl (.t rfl rfl) (.u rfl) (mv rfl (.t rfl rfl) (.u rfl) (kv rfl (.t rfl rfl) Fx.go25 (Eva.cons (.s rfl) (Eva.cons (.s rfl) Evn)) (fun hc=>lineN_ok s _) ?_)))))))))))))))))))))
 refine cs rfl (.t rfl rfl) (.s rfl) (.u rfl) rfl (pkA rfl .no (.u rfl) (.s rfl) (mV rfl rfl (mv rfl (.t rfl rfl) (.u rfl) (pe0 rfl (.t rfl rfl) Fx.pt64 (.s rfl) (.u rfl) ?_))))
 refine pkA rfl .no (.u rfl) (.s rfl) (mV rfl rfl (mv rfl (.t rfl rfl) (.u rfl) (cp rfl (.t rfl rfl) (.s rfl) (.u rfl) rfl (pkA rfl .no (.u rfl) (.s rfl) (mV rfl rfl (mv rfl (.t rfl rfl) (.u rfl) (pe0 rfl (.t rfl rfl) Fx.pt64 (.s rfl) (.u rfl) ?_)))))))
 refine pkA rfl .no (.u rfl) (.s rfl) (mV rfl rfl (mv rfl (.t rfl rfl) (.u rfl) (cp rfl (.t rfl rfl) (.s rfl) (.u rfl) rfl (pkA rfl .no (.u rfl) (.s rfl) (aS rfl rfl (.nil (.code (.ret (We.fin0 Tryz.results6 (.tmp rfl .nil) ?_)))))))))
 exact ⟨rfl,by kernel_rfl⟩
end Go.Proofs.YtoifkgkandfeiaaGreatDoor
namespace Go.Proofs.YtoifkgkandfeiaaGreatDoor
open Go.Tan Go.RowKit Go.ChangeShapes Go.WideShapes Go.ChangeAt
namespace deskNil
def zArgs:Array Value:=#[.string ByteArray.empty]
theorem laid_met (os:Os):laidMet Tryz.prog Rows.deskNilRow.laid ((laidWorld os).forCall (fun _ _=>0) ⟨#[],zArgs,[]⟩).memory :=
 laidMet_of_run' 8 (by kernel_rfl) (by kernel_rfl)
theorem reads (os:Os) {H:Type} (enc:TypeId×Value→H):∃ places,DataW.whole enc Tryz.prog ((laidWorld os).forCall (fun _ _=>0) ⟨#[],zArgs,[]⟩).memory Tryz.f6.params.toList Rows.deskNilSpec.vars false zArgs.toList 8=some ([.lit (.string [])],[],places) :=
 ⟨[],by kernel_rfl⟩
set_option maxRecDepth 100000 in
set_option maxHeartbeats 1000000 in
theorem lifted (os:Os) (started:os.Started) (H:Type) (enc:TypeId×Value→H) (F:Stop.Interp) :
  ReturnsInHanded {} Tryz.checked os 6 .any ((OpenSpec.ofChange Rows.deskNilSpec).preRow enc Tryz.prog Tryz.f6 Rows.deskNilRow.domain false Rows.deskNilRow.laid) (((OpenSpec.ofChange Rows.deskNilSpec).at F).post enc Tryz.prog Tryz.f6 false true false false):=by
 obtain ⟨places,hx⟩:=reads os enc
 refine returnsInHanded_of_row (C:=Tryz.checked) (s:=OpenSpec.ofChange Rows.deskNilSpec) tanOwn started (by kernel_rfl) Tryz.func6
  (witness_row_at (enc:=enc) (C:=Tryz.checked) false (laidWorld os) zArgs rfl (by kernel_rfl) (by kernel_rfl) (by kernel_rfl)
   (OpenSpec.preRow_of_cond 8 hx (by kernel_rfl) (fun k hk=>by cases hk) (by kernel_rfl) (laid_met os))) ?_
 intro W base args ds gs before hval0 hW _ hcond hwt0 hL _ _
 have hval:∀ (j:Nat) t v,Tryz.f6.params[j]? = some t→args[j]? = some v→Value.okWide Tryz.prog W .any base t v:=hval0
 have hW2:DataW.Whole enc Tryz.prog Tryz.f6.params.toList [] false W args.toList ds gs before:=hW
 have hwt:(DataW.weightsEach Tryz.prog (Tryz.f6.params.toList++[]) (ds++gs)).all (·≤reachBytes)=true:=hwt0
 have hW3:DataW.Whole enc Tryz.prog Tryz.f6.params.toList Rows.deskNilSpec.vars false W args.toList ds gs before:=hW
 show Calls Tryz.prog 6 args W fun e W'=>∃ v,e=.returned v∧Rows.deskNilSpec.post enc Tryz.prog Tryz.f6 false true false false W args v W'
 have hK:RdNP (fun b=>W.heap[b]?) 6 0 (wa 64 kW):=tab6 hL
 have hP:PwG Tryz.prog (fun b=>W.heap[b]?):=pw6 hL
 obtain ⟨p,q,hA,hV,hq,hfz,hnd⟩:=hW2
 rw [Tryz.params6] at hA hval hwt
 obtain ⟨v0,vs0,d0,ds0,p0,q0,hargs,rfl,rfl,r0,rr⟩:=trodAll_cons hA
 obtain ⟨rfl,rfl,rfl⟩:=trodAll_nil rr
 obtain rfl:args = #[v0]:=by cases args; simp_all
 obtain ⟨rfl,rfl⟩:=trodVars_none hV
 refine of_ct tanLaid hW3 rfl ?_ rfl (by kernel_rfl) Tryz.underlying4 ?_
 ·rw [Tryz.params6]; exact (List.forall_mem_cons.2 ⟨⟨by kernel_rfl,of_decide_eq_true (by kernel_rfl)⟩,List.forall_mem_nil _⟩)
 obtain ⟨s,hs0,_⟩:=(Rg.arg (i:=0) r0 hwt rfl rfl).str Tryz.underlying9
 obtain rfl:=str_of Tryz.underlying9 (hval 0 9 v0 rfl rfl) hs0 rfl
 exact deskNil_ok s _ hP hK
theorem c10:(Rows.deskNilRow.inPlace == Tryz.prog.inPlace 6)=true:=by kernel_rfl
theorem c11:(Rows.deskNilRow.unfollowed == Tryz.prog.unfollowed 6)=true:=by kernel_rfl
theorem c12:(Rows.deskNilRow.recurses == Tryz.prog.recurses 6)=true:=by kernel_rfl
theorem c13:(Rows.deskNilRow.named == Tryz.prog.varsNamed 6)=true:=by kernel_rfl
theorem closed:joinedFacts Tryz.prog 6 Tryz.f6 (OpenSpec.ofChange Rows.deskNilSpec).bare Rows.deskNilRow=true :=
 (tab (tab (tab (tab (tab (tab (tab (tab (tab (tab (tab (tab (tab (tab (tab (tab (tab (tab (tab (tab (tab (tab (tab (tab (tab (tab (tab (tab (tab (tab (tab (by kernel_rfl) tanLaid) tanRowed) (by kernel_rfl)) (by kernel_rfl)) (by kernel_rfl)) (by kernel_rfl)) (by kernel_rfl)) (by kernel_rfl)) c10) c11) c12) c13) (by kernel_rfl)) (by kernel_rfl)) (by kernel_rfl)) (by kernel_rfl)) (by kernel_rfl)) (by kernel_rfl)) (by kernel_rfl)) (by kernel_rfl)) (by kernel_rfl)) tanKeys) (by kernel_rfl)) tanHeard) tanEnter) (by kernel_rfl)) (by kernel_rfl)) (by kernel_rfl)) (by kernel_rfl)) (by kernel_rfl)) (by kernel_rfl))
theorem said:Rows.DeskNilSaid :=
 OpenClaim.holds_of_cond 6 Tryz.f6 rfl rfl rfl rfl rfl rfl rfl ⟨rfl,rfl,rfl,rfl,rfl⟩ rfl rfl rfl rfl rfl (by kernel_rfl) Tryz.func6 closed
  (of_decide_eq_true (by kernel_rfl)) (by unfold Func.isWrapper; first|(rw [if_pos (by decide +kernel)]; kernel_rfl) | (rw [if_neg (by decide +kernel)]; exact ⟨rfl,rfl⟩))
  (fun os started H enc _ F=>by rw [OpenClaim.pre_eq_preRow]; exact lifted os started H enc F)
theorem plain (f:FuncId) (fn:Func) (hf:Tryz.pinned.checked.prog.funcNamed "tantalus/tantaluslaw26.DeskNil" = some f) (hfn:Tryz.pinned.checked.prog.funcs[f]? = some fn) :
  true=Tryz.pinned.checked.prog.looks []∧∀ (j:Nat) t,fn.params[j]? = some t→Tryz.pinned.checked.prog.wantsStandIn t=false:=by
 obtain rfl:f=6:=Option.some.inj ((show Tryz.prog.funcNamed "tantalus/tantaluslaw26.DeskNil" = some 6 by kernel_rfl).symm.trans hf) |>.symm
 obtain rfl:fn=Tryz.f6:=(Option.some.inj (Tryz.func6.symm.trans hfn)).symm
 refine ⟨by kernel_rfl,fun j t ht=>?_⟩
 rw [Tryz.params6] at ht
 have hm:t∈([9]:List Nat):=by have:=Array.mem_of_getElem? ht; simpa using this
 have hall:∀ t∈([9]:List Nat),Tryz.prog.wantsStandIn t=false:=by
  intro t ht
  simp only [List.mem_cons,List.not_mem_nil,or_false] at ht
  rcases ht with rfl
  kernel_rfl
 exact hall t hm
end deskNil
end Go.Proofs.YtoifkgkandfeiaaGreatDoor
