/-  -/
import Derived.Test.YtdeobooblmjlfaaDoorMc5
set_option linter.unusedSimpArgs false
set_option linter.unusedVariables false
set_option linter.unusedSectionVars false
namespace Go.Proofs.YtdeobooblmjlfaaDoor
open Go.Tan Go.RowKit
namespace FxMaBk
theorem go7:goFn Tryd.prog 7=true:=by kernel_rfl
end FxMaBk
namespace Fx
theorem ag40:aggN Tryd.prog 40=some (some 37):=by kernel_rfl
theorem go11:goFn Tryd.prog 11=true:=by kernel_rfl
theorem sn44:(slE Tryd.prog 44).isSome=true:=by kernel_rfl
theorem fo49_0:fOff Tryd.prog 49 0=some 0:=by kernel_rfl
theorem eqt38:eqT Tryd.prog 4 38 ([.int .u8,.int .u8,.int .u64,.int .u64,.int .u64])=true:=by kernel_rfl
theorem go14:goFn Tryd.prog 14=true:=by kernel_rfl
end Fx
set_option maxHeartbeats 2000000 in
theorem ManifestBack_ok (root:Nat→Y) (h:Hd) (l:List MAct) (hl:Sh) (G:PM) (hAR:ActR G hl l) (hK:RdNP G 1 0 (wa 64 kW)) (hll:l.length≤100000000000000):Ct Tryd.prog 4 ([.agg (ba 32 root++[V h.kind,V h.level,uv .u64 h.gen,uv .u64 h.epoch,uv .u64 h.num]).toArray,hl.val l.length]:List Value).toArray G [] (fun _ μ' u=>μ'=[]∧u=.bool true):=by
 refine Ct.of Tryd.func4 rfl Tryd.ntmps4 rfl fun w0 hs0=>?_
 refine .seq (Wk.rg [0,1] rfl rfl ?_)
 refine bx rfl (.u rfl) rfl ?_; intro b2
 refine asg rfl .no (.u rfl) (.nil (.code (.seq (Wk.rg [0,1] rfl rfl (kv rfl .no FxMaBk.go7 Evn (fun _=>shown19_ok _ hK) ?_)))))
 refine asg rfl .no (.u rfl) (.nil (.code (.seq (Wk.rg [0,1,2,3,4,5,6,7,8,9,10,11] rfl rfl (lA rfl .no Fx.ag40 (.u rfl) (fun _=>RdN.own .here) (fun _=>(by first|exact qE|exact qL|rfl)) ?_)))))
 refine mv rfl .no (.u rfl) (kc rfl Fx.go11 (Evc rfl (Evc rfl Evn)) (laid19_ok root h l hl _ hAR hK hll) ?_)
 rintro _ G17 μ17 hG17 ⟨R,SS,ms,B,es,hb,he,hst,hmk,S,last,hL,eB,eE,lB,lR,hSS,hsB,hsE,hsS,hsM,rfl,rfl⟩
 have hK:=hK.mono hG17
 refine mv rfl .no (.u rfl) (ex rfl .no (.u rfl) rfl (ex rfl .no (.u rfl) rfl (ex rfl .no (.u rfl) rfl (ex rfl .no (.u rfl) rfl (asg rfl .no (.u rfl) (asg rfl .no (.u rfl) (asg rfl .no (.u rfl) (asg rfl .no (.u rfl) (.nil (.code (.seq ?_)))))))))))
 by_cases hg:h.kind=3#8∧h.right=true
 ·have lS:SS.length=R.length:=by have:=hL.len.1; rwa [List.length_map] at this
  have lM:=hL.len.2
  obtain ⟨Z,hZ1,hZ2⟩:=hL.all
  have hv0:=@readM_back root h R ⟨Z,last,R.length⟩
  have hv1:=@readM_kind root h R
  rw [← eB] at hv0 hv1
  refine Wk.rg [0,1,2,3,4,5,6,7,8,9] rfl rfl (fz rfl .no Fx.fo40_0 (.u rfl) (lA rfl .no Fx.ag34 (.u rfl) (fun _=>RdN.part (n:=32) (cs':=ba 32 root) .here (app_l)) (fun _=>(ba_len _ _)) ?_))
  refine mv rfl .no (.u rfl) (kc rfl Fx.go12 (Evc rfl (Evc rfl Evn)) (mRead_v root B hb _ hsB hK lB (hv0 hg.1 hg.2 hZ2)) ?_)
  rintro _ G26 μ26 hG26 ⟨X26,hX26,hM26,rfl,rfl,hR26⟩
  have hK:=hK.mono hG26
  have hSS:=hSS.mono hG26
  have hsB:=hsB.mono hG26
  have hsS:=hsS.mono hG26
  have hsM:=hsM.mono hG26
  refine mv rfl .no (.u rfl) (ex rfl .no (.u rfl) rfl (ex rfl .no (.u rfl) rfl ?_))
  refine al rfl Fx.zr49 ?_; intro b10
  refine sw rfl (.u rfl) (.u rfl) rfl Fx.sz49 .here (by first|exact qE|exact qL|rfl) (mani_one) ?_
  refine asg rfl .no (.u rfl) (.nil (.code (.seq (.seq (Wk.rg [0,1,2,3,4,5,6,7,8,9] rfl rfl (fz rfl .no Fx.fo40_1 (.u rfl) (fa rfl .no Fx.fo38_0 (.u rfl) (ld rfl .no Fx.ag5 (.u rfl) (fun _=>Rd.own (.there .here) (by first|exact wap_f rfl|rfl)) ?_))))))))
  refine cp rfl .no (.u rfl) (.u rfl) rfl (mv rfl .no (.u rfl) (fz rfl (.f rfl rfl) Fx.fo40_1 (.u rfl) (lA rfl (.f rfl rfl) Fx.ag38 (.s rfl) (fun _=>RdN.part (n:=5) (cs':=[V h.kind,V h.level,uv .u64 h.gen,uv .u64 h.epoch,uv .u64 h.num]) (.there .here) (of_r rfl)) (fun _=>rfl) ?_)))
  refine kv rfl (.f rfl rfl) Fx.go13 (Eva.cons (.s rfl) Evn) (fun hc=>nRight_ok h _) ?_
  refine nt rfl (.f rfl rfl) (.s rfl) (pkO rfl .no (.u rfl) (.s rfl) (.nil (.code (.cond rfl (fun c1=>?_) (fun c1=>?_)))))
  ·have c1k:=c1
   try simp only [qcA,qcC,qcB] at c1
   exfalso
   rcases c1 with c1 | c1
   ·exact c1 (by rw [hg.1]; rfl)
   rw [hg.2] at c1; cases c1
  have c1k:=c1
  try simp only [qcA,qcC,qcB] at c1
  refine .skip (.code (.seq (.seq (Wk.rg [0,1,2] rfl rfl (mv rfl .no (.u rfl) (ln rfl .no Fx.sn44 (.u rfl) (cp rfl .no (.u rfl) (.u rfl) rfl (.nil (.code (.cond rfl (fun c2=>?_) (fun c2=>?_)))))))))))
  ·have c2k:=c2
   try simp only [qcA,qcC,qcB] at c2
   refine .seq (Wk.rg [0,1,2,3,4,5,6,7,8,9,10,11,12,13,14,15,16,17,18,19,20,21,22] rfl rfl (mv rfl .no (.u rfl) (mv rfl .no (.u rfl) (mv rfl (.t rfl rfl) (.u rfl) (cp rfl (.t rfl rfl) (.u rfl) (.u rfl) rfl (pkA rfl .no (.u rfl) (.u rfl) (mv rfl .no (.u rfl) (fz rfl (.t rfl rfl) Fx.fo49_3 (.u rfl) (ld rfl (.t rfl rfl) Fx.ag3 (.u rfl) (fun _=>Rd.own .here (by first|exact wap_f rfl|rfl)) ?_)))))))))
   refine cp rfl (.t rfl rfl) (.u rfl) (.u rfl) rfl (wo_b true (beq_iff_eq.2 (by (try dsimp only); omega)) ?_)
   refine pkA rfl .no (.u rfl) (.u rfl) (mv rfl .no (.u rfl) (fz rfl (.t rfl rfl) Fx.fo49_2 (.u rfl) (ld rfl (.t rfl rfl) Fx.ag24 (.u rfl) (fun _=>Rd.own .here (by first|exact wap_f rfl|rfl)) ?_)))
   refine cp rfl (.t rfl rfl) (.u rfl) (.u rfl) rfl (wo_b true (by rw [hL.zero (by omega)]; rfl) ?_)
   refine pkA rfl .no (.u rfl) (.u rfl) (mv rfl .no (.u rfl) (fz rfl (.t rfl rfl) Fx.fo49_0 (.u rfl) (lA rfl (.t rfl rfl) Fx.ag38 (.u rfl) (fun _=>RdN.part (n:=5) (cs':=[V h.kind,V h.level,uv .u64 h.gen,uv .u64 h.epoch,uv .u64 h.num]) .here (mani_head)) (fun _=>rfl) ?_)))
   refine fz rfl (.t rfl rfl) Fx.fo40_1 (.u rfl) (lA rfl (.t rfl rfl) Fx.ag38 (.u rfl) (fun _=>RdN.part (n:=5) (cs':=[V h.kind,V h.level,uv .u64 h.gen,uv .u64 h.epoch,uv .u64 h.num]) (.there .here) (of_r rfl)) (fun _=>rfl) ?_)
   refine eqC (decide (h=h)) rfl (.t rfl rfl) Fx.eqt38 (.u rfl) (.u rfl) (fun _=>hd_conf _) (fun _=>hd_conf _) (fun _=>hd_iff) ?_
   refine wo_b true (decide_eq_true rfl) ?_
   refine pkA rfl .no (.u rfl) (.u rfl) (asg rfl .no (.u rfl) (.nil (.code (.ret (We.fin0 Tryd.results4 (.tmp rfl .nil) ?_)))))
   exact ⟨rfl,rfl⟩
  have c2k:=c2
  try simp only [qcA,qcC,qcB] at c2
  refine .skip (.code (.seq (Wk.rg [0,1,2,3] rfl rfl (mv rfl .no (.u rfl) (ln rfl .no Fx.sn44 (.u rfl) (arn (((SS.length-1):Nat):Int) rfl .no (.u rfl) (.u rfl) rfl (fun _=>by omega) (fun _=>wrap_i64 (by omega) (by omega)) ?_))))))
  refine asg rfl .no (.u rfl) (.nil (.code (.seq (Wk.draw (mc:=⟨false,false⟩) [0,1,2,3,4,5,6,7,8,9,10,11,12,13,14,15,16,17,18,19,20,21,22,23,24,25,26,27,28,29,30,31,32,33,34,35,36,37,38,39,40,41,42,43,44,45,46,47,48,49,50,51,52,53,54] Fx.mix (by kernel_rfl) ?_))))
  obtain ⟨mk,eM⟩:=getx (k:=SS.length-1) (xs:=ms) (by omega)
  obtain ⟨sp,eS⟩:=getx (k:=SS.length-1) (xs:=SS) (by omega)
  obtain ⟨rfl,hq1⟩:=hL.last (n:=SS.length-1) (by omega) eM (by rw [List.getElem?_map,eS]; rfl)
  have hq2:EqS X26 sp.1:=hM26.eq.trans (hZ1.symm.trans hq1)
  refine mv rfl .no (.u rfl) (mv rfl .no (.u rfl) (mv rfl (.t rfl rfl) (.u rfl) (cp rfl (.t rfl rfl) (.u rfl) (.u rfl) rfl (pkA rfl .no (.u rfl) (.u rfl) (mv rfl .no (.u rfl) (fz rfl (.t rfl rfl) Fx.fo49_3 (.u rfl) (ld rfl (.t rfl rfl) Fx.ag3 (.u rfl) (fun _=>Rd.own .here (by first|exact wap_f rfl|rfl)) ?_)))))))
  refine mv rfl (.t rfl rfl) (.u rfl) (arn ((((SS.length-1)+1):Nat):Int) rfl (.t rfl rfl) (.u rfl) (.u rfl) rfl (fun _=>by omega) (fun _=>wrap_i64 (by omega) (by omega)) ?_)
  refine cp rfl (.t rfl rfl) (.u rfl) (.u rfl) rfl (wo_b true (beq_iff_eq.2 (by (try dsimp only); omega)) ?_)
  refine pkA rfl .no (.u rfl) (.u rfl) (mv rfl .no (.u rfl) (fz rfl (.t rfl rfl) Fx.fo49_2 (.u rfl) (ld rfl (.t rfl rfl) Fx.ag24 (.u rfl) (fun _=>Rd.own .here (by first|exact wap_f rfl|rfl)) ?_)))
  refine mv rfl (.t rfl rfl) (.u rfl) (mv rfl (.t rfl rfl) (.u rfl) (ih rfl (.t rfl rfl) Fx.se45 (.u rfl) (.u rfl) (fun _=>by omega) (fun _=>by omega) (fun _=>hsM.nn (k:=(SS.length-1)) (by first|omega|(simp only [Bool.and_eq_true,decide_eq_true_eq] at hc; omega)|(simp only [List.length_cons,List.length_nil]; omega))) ?_))
  refine ld rfl (.t rfl rfl) Fx.ag24 (.u rfl) (fun _=>((hsM.at (by omega) eM) 0 _ rfl).rd) ?_
  refine cp rfl (.t rfl rfl) (.u rfl) (.u rfl) rfl (wo_b true (beq_self_eq_true _) ?_)
  refine pkA rfl .no (.u rfl) (.u rfl) (mv rfl .no (.u rfl) (fz rfl (.t rfl rfl) Fx.fo49_1 (.u rfl) (lA rfl (.t rfl rfl) Fx.ag27 (.u rfl) (fun _=>RdN.part (n:=14) (cs':=X26.cells hX26) .here (mani_st)) (fun _=>(by first|exact qE|exact qL|rfl)) ?_)))
  refine mv rfl (.t rfl rfl) (.u rfl) (mv rfl (.t rfl rfl) (.u rfl) (ih rfl (.t rfl rfl) Fx.se44 (.u rfl) (.u rfl) (fun _=>by omega) (fun _=>by omega) (fun _=>hsS.nn (k:=(SS.length-1)) (by first|omega|(simp only [Bool.and_eq_true,decide_eq_true_eq] at hc; omega)|(simp only [List.length_cons,List.length_nil]; omega))) ?_))
  refine lA rfl (.t rfl rfl) Fx.ag27 (.u rfl) (fun _=>(hsS.at (by omega) eS).rd) (fun _=>(by first|exact qE|exact qL|rfl)) ?_
  refine kv rfl (.t rfl rfl) Fx.go14 (Evc rfl (Evc rfl Evn)) (fun _=>sameS_ok X26 sp.1 hX26 sp.2 _ hR26 (hSS.all sp (List.mem_of_getElem? eS)).1 (by rw [hq2.gens]; exact (hSS.all sp (List.mem_of_getElem? eS)).2) (hSS.all sp (List.mem_of_getElem? eS)).2 (fun i hi=>by have h8:=lv_tot X26 hi; have h9:=(rightP_of hM26.right).few; omega)) ?_
  refine wo_b true (sameS_of hq2) ?_
  refine pkA rfl .no (.u rfl) (.u rfl) (mv rfl .no (.u rfl) (fz rfl (.t rfl rfl) Fx.fo49_1 (.u rfl) (lA rfl (.t rfl rfl) Fx.ag27 (.u rfl) (fun _=>RdN.part (n:=14) (cs':=X26.cells hX26) .here (mani_st)) (fun _=>(by first|exact qE|exact qL|rfl)) ?_)))
  refine kv rfl (.t rfl rfl) Fx.go15 (Evc rfl Evn) (fun _=>vRight_ok X26 hX26 _ hR26) ?_
  refine wo_b true (hM26.right) ?_
  refine pkA rfl .no (.u rfl) (.u rfl) (mv rfl .no (.u rfl) (fz rfl (.t rfl rfl) Fx.fo49_0 (.u rfl) (lA rfl (.t rfl rfl) Fx.ag38 (.u rfl) (fun _=>RdN.part (n:=5) (cs':=[V h.kind,V h.level,uv .u64 h.gen,uv .u64 h.epoch,uv .u64 h.num]) .here (mani_head)) (fun _=>rfl) ?_)))
  refine fz rfl (.t rfl rfl) Fx.fo40_1 (.u rfl) (lA rfl (.t rfl rfl) Fx.ag38 (.u rfl) (fun _=>RdN.part (n:=5) (cs':=[V h.kind,V h.level,uv .u64 h.gen,uv .u64 h.epoch,uv .u64 h.num]) (.there .here) (of_r rfl)) (fun _=>rfl) ?_)
  refine eqC (decide (h=h)) rfl (.t rfl rfl) Fx.eqt38 (.u rfl) (.u rfl) (fun _=>hd_conf _) (fun _=>hd_conf _) (fun _=>hd_iff) ?_
  refine wo_b true (decide_eq_true rfl) ?_
  refine pkA rfl .no (.u rfl) (.u rfl) (mv rfl .no (.u rfl) (fz rfl (.t rfl rfl) Fx.fo49_4 (.u rfl) (ld rfl (.t rfl rfl) Fx.ag3 (.u rfl) (fun _=>Rd.own .here (by first|exact wap_f rfl|rfl)) ?_)))
  refine mv rfl (.t rfl rfl) (.u rfl) (ln rfl (.t rfl rfl) Fx.sn42 (.u rfl) (cp rfl (.t rfl rfl) (.u rfl) (.u rfl) rfl (wo_b true (beq_self_eq_true _) ?_)))
  refine pkA rfl .no (.u rfl) (.u rfl) (mv rfl .no (.u rfl) (fz rfl (.t rfl rfl) Fx.fo49_5 (.u rfl) (ld rfl (.t rfl rfl) Fx.ag4 (.u rfl) (fun _=>Rd.own .here (by first|exact wap_f rfl|rfl)) ?_)))
  refine nt rfl (.t rfl rfl) (.u rfl) (pkA rfl .no (.u rfl) (.u rfl) (asg rfl .no (.u rfl) (.nil (.code (.ret (We.fin0 Tryd.results4 (.tmp rfl .nil) ?_))))))
  exact ⟨rfl,rfl⟩
 have lS:SS.length=R.length:=by have:=hL.len.1; rwa [List.length_map] at this
 have lM:=hL.len.2
 obtain ⟨Z,hZ1,hZ2⟩:=hL.all
 have hv0:=@readM_back root h R ⟨Z,last,R.length⟩
 have hv1:=@readM_kind root h R
 rw [← eB] at hv0 hv1
 refine Wk.rg [0,1,2,3,4,5,6,7,8,9] rfl rfl (fz rfl .no Fx.fo40_0 (.u rfl) (lA rfl .no Fx.ag34 (.u rfl) (fun _=>RdN.part (n:=32) (cs':=ba 32 root) .here (app_l)) (fun _=>(ba_len _ _)) ?_))
 refine mv rfl .no (.u rfl) (kc rfl Fx.go12 (Evc rfl (Evc rfl Evn)) (mRead_n root B hb _ hsB hK lB (hv1 (by by_cases q:h.kind=3#8; (exact .inr (by simpa [q] using hg)); exact .inl q))) ?_)
 rintro _ G26 μ26 hG26 ⟨rfl,rfl⟩
 refine mv rfl .no (.u rfl) (ex rfl .no (.u rfl) rfl (ex rfl .no (.u rfl) rfl ?_))
 refine al rfl Fx.zr49 ?_; intro b10
 refine sw rfl (.u rfl) (.u rfl) rfl Fx.sz49 .here (by first|exact qE|exact qL|rfl) (mani_one) ?_
 refine asg rfl .no (.u rfl) (.nil (.code (.seq (.seq (Wk.rg [0,1,2,3,4,5,6,7,8,9] rfl rfl (fz rfl .no Fx.fo40_1 (.u rfl) (fa rfl .no Fx.fo38_0 (.u rfl) (ld rfl .no Fx.ag5 (.u rfl) (fun _=>Rd.own (.there .here) (by first|exact wap_f rfl|rfl)) ?_))))))))
 refine cp rfl .no (.u rfl) (.u rfl) rfl (mv rfl .no (.u rfl) (fz rfl (.f rfl rfl) Fx.fo40_1 (.u rfl) (lA rfl (.f rfl rfl) Fx.ag38 (.s rfl) (fun _=>RdN.part (n:=5) (cs':=[V h.kind,V h.level,uv .u64 h.gen,uv .u64 h.epoch,uv .u64 h.num]) (.there .here) (of_r rfl)) (fun _=>rfl) ?_)))
 refine kv rfl (.f rfl rfl) Fx.go13 (Eva.cons (.s rfl) Evn) (fun hc=>nRight_ok h _) ?_
 refine nt rfl (.f rfl rfl) (.s rfl) (pkO rfl .no (.u rfl) (.s rfl) (.nil (.code (.cond rfl (fun c3=>?_) (fun c3=>?_)))))
 ·have c3k:=c3
  try simp only [qcA,qcC,qcB] at c3
  refine .seq (Wk.rg [0,1,2,3,4,5] rfl rfl (mv rfl .no (.u rfl) (mv rfl .no (.u rfl) (mv rfl (.t rfl rfl) (.u rfl) (cp rfl (.t rfl rfl) (.u rfl) (.u rfl) rfl (pkA rfl .no (.u rfl) (.u rfl) (asg rfl .no (.u rfl) (.nil (.code (.ret (We.fin0 Tryd.results4 (.tmp rfl .nil) ?_)))))))))))
  exact ⟨rfl,rfl⟩
 have c3k:=c3
 try simp only [qcA,qcC,qcB] at c3
 exfalso
 exact hg ⟨BitVec.eq_of_toNat_eq (by have:(h.kind.toNat:Int)=3:=c3.1; show _=3; omega),c3.2⟩
end Go.Proofs.YtdeobooblmjlfaaDoor
