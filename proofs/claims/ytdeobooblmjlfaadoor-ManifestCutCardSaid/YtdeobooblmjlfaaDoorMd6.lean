/-  -/
import Derived.Test.YtdeobooblmjlfaaDoorMd5
set_option linter.unusedSimpArgs false
set_option linter.unusedVariables false
set_option linter.unusedSectionVars false
namespace Go.Proofs.YtdeobooblmjlfaaDoor
open Go.Tan Go.RowKit
namespace Fx
theorem bp38_0_4:bPl Tryd.prog 38 [0,4]=some ([V 0#8,V 0#8,uv .u64 0#64,uv .u64 0#64,uv .u64 0#64],[(0,1),(4,1)]):=by kernel_rfl
theorem bp40_0_1:bPl Tryd.prog 40 [0,1]=some ([.int .u8 0,.int .u8 0,.int .u8 0,.int .u8 0,.int .u8 0,.int .u8 0,.int .u8 0,.int .u8 0,.int .u8 0,.int .u8 0,.int .u8 0,.int .u8 0,.int .u8 0,.int .u8 0,.int .u8 0,.int .u8 0,.int .u8 0,.int .u8 0,.int .u8 0,.int .u8 0,.int .u8 0,.int .u8 0,.int .u8 0,.int .u8 0,.int .u8 0,.int .u8 0,.int .u8 0,.int .u8 0,.int .u8 0,.int .u8 0,.int .u8 0,.int .u8 0,.int .u8 0,.int .u8 0,.int .u64 0,.int .u64 0,.int .u64 0],[(0,32),(32,5)]):=by kernel_rfl
theorem zr40:zrL Tryd.prog 40=some ([.int .u8 0,.int .u8 0,.int .u8 0,.int .u8 0,.int .u8 0,.int .u8 0,.int .u8 0,.int .u8 0,.int .u8 0,.int .u8 0,.int .u8 0,.int .u8 0,.int .u8 0,.int .u8 0,.int .u8 0,.int .u8 0,.int .u8 0,.int .u8 0,.int .u8 0,.int .u8 0,.int .u8 0,.int .u8 0,.int .u8 0,.int .u8 0,.int .u8 0,.int .u8 0,.int .u8 0,.int .u8 0,.int .u8 0,.int .u8 0,.int .u8 0,.int .u8 0,.int .u8 0,.int .u8 0,.int .u64 0,.int .u64 0,.int .u64 0]):=by kernel_rfl
theorem sz40:szT Tryd.prog 40=some 37:=by kernel_rfl
theorem bt4:boolT Tryd.prog 4=true:=by kernel_rfl
end Fx
set_option maxHeartbeats 2000000 in
theorem ManifestCut_ok (root:Nat→Y) (l:List MAct) (hl:Sh) (cut:BitVec 64) (G:PM) (hAR:ActR G hl l) (hK:RdNP G 1 0 (wa 64 kW)) (hll:l.length≤100000000000000):Ct Tryd.prog 5 ([.agg (ba 32 root).toArray,hl.val l.length,uv .u64 cut]:List Value).toArray G [] (fun _ μ' u=>μ'=[]∧u=.bool true):=by
 refine Ct.of Tryd.func5 rfl Tryd.ntmps5 rfl fun w0 hs0=>?_
 refine .seq (Wk.rg [0,1] rfl rfl ?_)
 refine bx rfl (.u rfl) rfl ?_; intro b3
 refine asg rfl .no (.u rfl) (.nil (.code (.seq (Wk.rg [0,1] rfl rfl (kv rfl .no FxMaBk.go7 Evn (fun _=>shown19_ok _ hK) ?_)))))
 refine asg rfl .no (.u rfl) (.nil (.code (.seq (Wk.rg [0,1,2,3,4,5] rfl rfl (lA rfl .no Fx.ag34 (.u rfl) (fun _=>RdN.own .here) (fun _=>(by first|exact qE|exact qL|rfl)) ?_)))))
 refine mv rfl .no (.u rfl) (bCe ([V 3#8,V 0#8,uv .u64 0#64,uv .u64 0#64,uv .u64 cut]) rfl .no Fx.bp38_0_4 (.cons (.u rfl) rfl (.cons (.u rfl) rfl .nil)) rfl (rfl) ?_)
 refine bCe (ba 32 root++[V 3#8,V 0#8,uv .u64 0#64,uv .u64 0#64,uv .u64 cut]) rfl .no Fx.bp40_0_1 (.cons (.u rfl) rfl (.cons (.u rfl) rfl .nil)) rfl (rfl) ?_
 refine al rfl Fx.zr40 ?_; intro b8
 refine sw rfl (.u rfl) (.u rfl) rfl Fx.sz40 .here rfl (one_app (ba_one _ _) (one5 rfl rfl rfl rfl rfl)) ?_
 refine .nil (.code (.seq (Wk.rg [0,1,2,3,4,5,6,7,8,9,10,11] rfl rfl (lA rfl .no Fx.ag40 (.u rfl) (fun _=>RdN.own .here) (fun _=>rfl) ?_))))
 refine mv rfl .no (.u rfl) (kc rfl Fx.go11 (Evc rfl (Evc rfl Evn)) (laid19_ok root (⟨3#8,0#8,0#64,0#64,cut⟩ : Hd) l hl _ hAR hK hll) ?_)
 rintro _ G25 μ25 hG25 ⟨R,SS,ms,B,es,hb,he,hst,hmk,S,last,hL,eB,eE,lB,lR,hSS,hsB,hsE,hsS,hsM,rfl,rfl⟩
 have hK:=hK.mono hG25
 refine mv rfl .no (.u rfl) (ex rfl .no (.u rfl) rfl (ex rfl .no (.u rfl) rfl (ex rfl .no (.u rfl) rfl (ex rfl .no (.u rfl) rfl (asg rfl .no (.u rfl) (asg rfl .no (.u rfl) (asg rfl .no (.u rfl) (asg rfl .no (.u rfl) (.nil (.code (.seq (.seq ?_))))))))))))
 have hB30:30≤B.length:=by rw [eB,logL,List.length_append,head_len]; exact Nat.le_add_right _ _
 have lS:SS.length=R.length:=by have:=hL.len.1; rwa [List.length_map] at this
 have lM:=hL.len.2
 have lE:es.length=R.length:=by rw [eE,ends_len]
 have eAt:∀ j x,es[j]? = some x→x=30+endL (sealAt root (⟨3#8,0#8,0#64,0#64,cut⟩ : Hd)) 0 R (j+1):=fun j x hx=>by rw [eE] at hx; exact ends_at hx
 refine Wk.rg [0,1,2] rfl rfl (mv rfl .no (.u rfl) (ln rfl .no Fx.sn42 (.u rfl) (cp rfl .no (.u rfl) (.u rfl) rfl (.nil (.code (.cond rfl (fun c1=>?_) (fun c1=>?_)))))))
 ·have c1k:=c1
  try simp only [qcA,qcC,qcB] at c1
  exfalso; omega
 have c1k:=c1
 try simp only [qcA,qcC,qcB] at c1
 refine .skip (.code (.seq (Wk.rg [0,1,2,3,4,5,6,7] rfl rfl (mv rfl .no (.u rfl) (mv rfl .no (.u rfl) (ln rfl .no Fx.sn42 (.u rfl) (arn (((B.length+1):Nat):Int) rfl .no (.u rfl) (.u rfl) rfl (fun _=>by omega) (fun _=>wrap_i64 (by omega) (by omega)) ?_)))))))
 refine ci rfl .no rfl Fx.cv3_56 (.u rfl) ?_
 refine mw (k:=.u64) rfl .no (.u rfl) (.u rfl) (fun _=>nz64 (by omega) (by omega)) ?_
 refine cnb (k:=.u64) rfl .no Fx.cv56_3 (.u rfl) (fun _=>Nat.le_trans (Nat.le_of_lt (modu (by omega) (by omega))) (by omega)) ?_; intro q eq39
 refine asg rfl .no (.u rfl) (.nil ?_)
 have hq:q<B.length+1:=by rw [eq39]; exact modu (by omega) (by omega)
 refine .code (.seq (Wk.rg [0] rfl rfl (asg rfl .no (.u rfl) (.nil (.code (.seq (.block ?_)))))))
 refine Wk.lop (α:=Nat) (fun n=>[(14,true,.int .i64 (n:Int))]) (fun _=>[])
  (fun n Gl=>(n≤es.length)∧(n=0∨30+endL (sealAt root (⟨3#8,0#8,0#64,0#64,cut⟩ : Hd)) 0 R n≤q)) (fun n=>es.length-n) 0 [(3,true,_),(7,true,_),(9,true,_),(10,true,_),(11,true,_),(12,true,_),(13,true,_)] [_,_]
  (ESub.cons rfl (by first|rfl|exact evi (by omega)) (ESub.c rfl (ESub.c rfl (ESub.c rfl (ESub.c rfl (ESub.c rfl (ESub.c rfl (ESub.c rfl ESub.nil))))))))
  (MSub.cons .here rfl (MSub.cons .here rfl MSub.nil)) ?_ ?_
 ·refine ⟨?_,?_⟩
  ·(try dsimp only)<;>(first|omega|rfl|assumption|(simp; done))
  (try dsimp only)<;>(exact .inl rfl)
 intro n N0 Gl0 hN0 hGl0 hF0
 try dsimp only at hF0 hN0 ⊢
 obtain ⟨hn,h1⟩:=hF0
 have hK:=hK.mono hGl0
 have hSS:=hSS.mono hGl0
 have hsB:=hsB.mono hGl0
 have hsE:=hsE.mono hGl0
 have hsS:=hsS.mono hGl0
 have hsM:=hsM.mono hGl0
 refine .seq (.seq (Wk.rg [0,1,2,3,4,5,6,7,8,9,10,11] rfl rfl (mv rfl .no (.u rfl) (mv rfl .no (.u rfl) (ln rfl .no Fx.sn43 (.u rfl) (cp rfl .no (.u rfl) (.u rfl) rfl (mv rfl .no (.u rfl) (mv rfl (.t rfl rfl) (.u rfl) (mv rfl (.t rfl rfl) (.u rfl) (ih rfl (.t rfl rfl) Fx.se43 (.s rfl) (.s rfl) (fun hc=>by (try simp only [Bool.and_eq_true,decide_eq_true_eq] at hc); omega) (fun hc=>by (try simp only [Bool.and_eq_true,decide_eq_true_eq] at hc); omega) (fun hc=>hsE.nn (k:=n) (by first|omega|(simp only [Bool.and_eq_true,decide_eq_true_eq] at hc; omega)|(simp only [List.length_cons,List.length_nil]; omega))) ?_))))))))))
 refine ld rfl (.t rfl rfl) Fx.ag3 (.s rfl) (fun hc=>(hsE.nD n (by (try simp only [Bool.and_eq_true,decide_eq_true_eq] at hc); omega) (by (try simp only [Bool.and_eq_true,decide_eq_true_eq] at hc); omega)).rd) ?_
 refine mv rfl (.t rfl rfl) (.u rfl) (cp rfl (.t rfl rfl) (.s rfl) (.s rfl) rfl (pkA rfl .no (.u rfl) (.s rfl) (.nil (.code (.cond rfl (fun c2=>?_) (fun c2=>?_))))))
 ·have c2k:=c2
  try simp only [qcA,qcC,qcB] at c2
  refine .skip (.code (.block (Wk.rg [0,1,2] rfl rfl (mv rfl .no (.u rfl) (arn (((n+1):Nat):Int) rfl .no (.u rfl) (.u rfl) rfl (fun _=>by omega) (fun _=>wrap_i64 (by omega) (by omega)) ?_)))))
  refine asg rfl .no (.u rfl) (.nil (.blk (We.lpo (n+1) ?_ ?_ ?_ ?_ ?_)))
  ·exact (ESub.cons rfl (by first|rfl|exact evi (by omega)) (ESub.c rfl (ESub.c rfl (ESub.c rfl (ESub.c rfl (ESub.c rfl (ESub.c rfl (ESub.c rfl ESub.nil))))))))
  ·exact (MSub.cons .here rfl (MSub.cons .here rfl MSub.nil))
  ·first|omega|(dsimp only; omega)
  ·exact hGl0
  refine ⟨?_,?_⟩
  ·(try dsimp only)<;>(first|omega|rfl|assumption|(simp; done))
  (try dsimp only)<;>(exact .inr (by have h9:=eAt n _ (show es[n]? = some (es.getD n 0) by simp [show n<es.length by omega]); omega))
 have c2k:=c2
 try simp only [qcA,qcC,qcB] at c2
 refine .exit (.xcode (.xlp (.xblk (.code (.seq ?_)))))
 obtain ⟨v,hv,hvn,hv0,hv1⟩:=readM_cut (root:=root) (h:=(⟨3#8,0#8,0#64,0#64,cut⟩ : Hd)) hL rfl rfl (q:=q) (n:=n) (by rw [← eB]; omega) (by omega) h1 (fun hlt=>by have h9:=eAt n _ (show es[n]? = some (es.getD n 0) by simp [show n<es.length by omega]); rcases c2 with c2 | c2<;>omega)
 rw [← eB] at hv
 refine Wk.draw (mc:=⟨false,false⟩) [0,1,2,3,4,5,6,7,8,9,10] Fx.mix (by kernel_rfl) ?_
 refine lA rfl .no Fx.ag34 (.u rfl) (fun _=>RdN.own (.there .here)) (fun _=>(by first|exact qE|exact qL|rfl)) ?_
 refine mv rfl .no (.u rfl) (mv rfl .no (.u rfl) (kE (q) rfl .no Fx.se42 hsB (.u rfl) (.u rfl) (fun _=>by omega) (fun _=>by omega) ?_))
 intro h58 L58 eL58 lL58 hs58
 have lL58:=lL58 rfl
 refine kc rfl Fx.go12 (Evc rfl (Evc rfl Evn)) (mRead_v root L58 h58 _ hs58 hK (by rw [eL58,List.length_take]; omega) (by rw [eL58]; exact hv)) ?_
 rintro _ G59 μ59 hG59 ⟨X59,hX59,hM59,rfl,rfl,hR59⟩
 have hSS:=hSS.mono hG59
 have hsE:=hsE.mono hG59
 have hsS:=hsS.mono hG59
 have hsM:=hsM.mono hG59
 refine mv rfl .no (.u rfl) (ex rfl .no (.u rfl) rfl (ex rfl .no (.u rfl) rfl ?_))
 refine al rfl Fx.zr49 ?_; intro b15
 refine sw rfl (.u rfl) (.u rfl) rfl Fx.sz49 .here (by first|exact qE|exact qL|rfl) (mani_one) ?_
 refine asg rfl .no (.u rfl) (.nil (.code (.seq (.seq (Wk.rg [0,1,2,3,4,5,6,7] rfl rfl (mv rfl .no (.u rfl) (cp rfl .no (.u rfl) (.u rfl) rfl (mv rfl .no (.u rfl) (fz rfl (.f rfl rfl) Fx.fo49_3 (.u rfl) (ld rfl (.f rfl rfl) Fx.ag3 (.s rfl) (fun hc=>Rd.own .here (by first|exact wap_f rfl|rfl)) ?_))))))))))
 refine mv rfl (.f rfl rfl) (.u rfl) (cp rfl (.f rfl rfl) (.s rfl) (.s rfl) rfl (pkO rfl .no (.u rfl) (.s rfl) (.nil (.code (.cond rfl (fun c3=>?_) (fun c3=>?_))))))
 ·have c3k:=c3
  try simp only [qcA,qcC,qcB] at c3
  exfalso; rcases c3 with c3 | c3; (simp at c3); (rw [hvn] at c3; exact c3 rfl)
 have c3k:=c3
 try simp only [qcA,qcC,qcB] at c3
 refine .skip (.code (.seq (.seq (Wk.rg [0,1] rfl rfl (mv rfl .no (.u rfl) (cp rfl .no (.u rfl) (.u rfl) rfl (.nil (.code (.cond rfl (fun c4=>?_) (fun c4=>?_))))))))))
 ·have c4k:=c4
  try simp only [qcA,qcC,qcB] at c4
  refine .seq ?_
  have hq0:EqS X59 State.zero:=by have:=hM59.eq; rwa [(hv0 (by omega)).2] at this
  refine Wk.rg [0,1,2,3,4,5,6,7,8,9,10,11,12] rfl rfl (mv rfl .no (.u rfl) (mv rfl .no (.u rfl) (fz rfl (.t rfl rfl) Fx.fo49_2 (.u rfl) (ld rfl (.t rfl rfl) Fx.ag24 (.u rfl) (fun _=>Rd.own .here (by first|exact wap_f rfl|rfl)) ?_))))
  refine cp rfl (.t rfl rfl) (.u rfl) (.u rfl) rfl (wo_b true (by rw [(hv0 (by omega)).1]; rfl) ?_)
  refine pkA rfl .no (.u rfl) (.u rfl) (mv rfl .no (.u rfl) (fz rfl (.t rfl rfl) Fx.fo49_1 (.u rfl) (lA rfl (.t rfl rfl) Fx.ag27 (.u rfl) (fun _=>RdN.part (n:=14) (cs':=X59.cells hX59) .here (mani_st)) (fun _=>(by first|exact qE|exact qL|rfl)) ?_)))
  refine bCe (State.zero.cells hd0) rfl (.t rfl rfl) Fx.bp27_ .nil rfl (rfl) (kv rfl (.t rfl rfl) Fx.go14 (Evc rfl (Evc rfl Evn)) (fun _=>sameS_ok X59 State.zero hX59 hd0 _ hR59 st_zero (by rw [hq0.gens]; exact StW.zero) StW.zero (fun i hi=>by have h8:=lv_tot X59 hi; have h9:=(rightP_of hM59.right).few; omega)) ?_)
  refine wo_b true (sameS_of hq0) ?_
  refine pkA rfl .no (.u rfl) (.u rfl) (asg rfl .no (.u rfl) (.nil (.code (.ret (We.fin0 Tryd.results5 (.tmp rfl .nil) ?_)))))
  exact ⟨rfl,rfl⟩
 have c4k:=c4
 try simp only [qcA,qcC,qcB] at c4
 refine .skip (.code (.seq ?_))
 obtain ⟨eM,⟨x,ex,eqx⟩,eu,et⟩:=hv1 (n-1) (by omega)
 obtain ⟨sp,eS⟩:=getx (k:=n-1) (xs:=SS) (by omega)
 obtain rfl:sp.1=x:=by rw [List.getElem?_map,eS] at ex; exact Option.some.inj ex
 have hq2:EqS X59 sp.1:=hM59.eq.trans eqx.symm
 have e9:n-1+1=n:=by omega
 refine Wk.draw (mc:=⟨false,false⟩) [0,1,2,3,4,5,6,7,8,9,10,11,12,13,14,15,16,17,18,19,20,21,22,23,24,25,26,27,28,29,30,31,32,33,34,35,36,37,38,39,40,41,42,43] Fx.mix (by kernel_rfl) ?_
 refine mv rfl .no (.u rfl) (mv rfl .no (.u rfl) (fz rfl (.t rfl rfl) Fx.fo49_2 (.u rfl) (ld rfl (.t rfl rfl) Fx.ag24 (.u rfl) (fun _=>Rd.own .here (by first|exact wap_f rfl|rfl)) ?_)))
 refine mv rfl (.t rfl rfl) (.u rfl) (mv rfl (.t rfl rfl) (.u rfl) (arn (((n-1):Nat):Int) rfl (.t rfl rfl) (.u rfl) (.u rfl) rfl (fun _=>by omega) (fun _=>wrap_i64 (by omega) (by omega)) ?_))
 refine ih rfl (.t rfl rfl) Fx.se45 (.u rfl) (.u rfl) (fun _=>by omega) (fun _=>by omega) (fun _=>hsM.nn (k:=(n-1)) (by first|omega|(simp only [Bool.and_eq_true,decide_eq_true_eq] at hc; omega)|(simp only [List.length_cons,List.length_nil]; omega))) ?_
 refine ld rfl (.t rfl rfl) Fx.ag24 (.u rfl) (fun _=>((hsM.at (by omega) eM) 0 _ rfl).rd) ?_
 refine cp rfl (.t rfl rfl) (.u rfl) (.u rfl) rfl (wo_b true (beq_self_eq_true _) ?_)
 refine pkA rfl .no (.u rfl) (.u rfl) (mv rfl .no (.u rfl) (fz rfl (.t rfl rfl) Fx.fo49_1 (.u rfl) (lA rfl (.t rfl rfl) Fx.ag27 (.u rfl) (fun _=>RdN.part (n:=14) (cs':=X59.cells hX59) .here (mani_st)) (fun _=>(by first|exact qE|exact qL|rfl)) ?_)))
 refine mv rfl (.t rfl rfl) (.u rfl) (mv rfl (.t rfl rfl) (.u rfl) (arn (((n-1):Nat):Int) rfl (.t rfl rfl) (.u rfl) (.u rfl) rfl (fun _=>by omega) (fun _=>wrap_i64 (by omega) (by omega)) ?_))
 refine ih rfl (.t rfl rfl) Fx.se44 (.u rfl) (.u rfl) (fun _=>by omega) (fun _=>by omega) (fun _=>hsS.nn (k:=(n-1)) (by first|omega|(simp only [Bool.and_eq_true,decide_eq_true_eq] at hc; omega)|(simp only [List.length_cons,List.length_nil]; omega))) ?_
 refine lA rfl (.t rfl rfl) Fx.ag27 (.u rfl) (fun _=>(hsS.at (by omega) eS).rd) (fun _=>(by first|exact qE|exact qL|rfl)) ?_
 refine kv rfl (.t rfl rfl) Fx.go14 (Evc rfl (Evc rfl Evn)) (fun _=>sameS_ok X59 sp.1 hX59 sp.2 _ hR59 (hSS.all sp (List.mem_of_getElem? eS)).1 (by rw [hq2.gens]; exact (hSS.all sp (List.mem_of_getElem? eS)).2) (hSS.all sp (List.mem_of_getElem? eS)).2 (fun i hi=>by have h8:=lv_tot X59 hi; have h9:=(rightP_of hM59.right).few; omega)) ?_
 refine wo_b true (sameS_of hq2) ?_
 refine pkA rfl .no (.u rfl) (.u rfl) (mv rfl .no (.u rfl) (fz rfl (.t rfl rfl) Fx.fo49_4 (.u rfl) (ld rfl (.t rfl rfl) Fx.ag3 (.u rfl) (fun _=>Rd.own .here (by first|exact wap_f rfl|rfl)) ?_)))
 refine mv rfl (.t rfl rfl) (.u rfl) (mv rfl (.t rfl rfl) (.u rfl) (arn (((n-1):Nat):Int) rfl (.t rfl rfl) (.u rfl) (.u rfl) rfl (fun _=>by omega) (fun _=>wrap_i64 (by omega) (by omega)) ?_))
 refine ih rfl (.t rfl rfl) Fx.se43 (.u rfl) (.u rfl) (fun _=>by omega) (fun _=>by omega) (fun _=>hsE.nn (k:=(n-1)) (by first|omega|(simp only [Bool.and_eq_true,decide_eq_true_eq] at hc; omega)|(simp only [List.length_cons,List.length_nil]; omega))) ?_
 obtain ⟨x112,ex112⟩:=getx (k:=(n-1)) (xs:=es) (by omega)
 refine ld rfl (.t rfl rfl) Fx.ag3 (.u rfl) (fun _=>(hsE.n1 ((n-1)) (by omega) ex112).rd) ?_
 refine cp rfl (.t rfl rfl) (.u rfl) (.u rfl) rfl (wo_b true (beq_iff_eq.2 (by rw [eu,eAt _ _ ex112,e9])) ?_)
 refine pkA rfl .no (.u rfl) (.u rfl) (mv rfl .no (.u rfl) (fz rfl (.t rfl rfl) Fx.fo49_5 (.u rfl) (ld rfl (.t rfl rfl) Fx.ag4 (.u rfl) (fun _=>Rd.own .here (by first|exact wap_f rfl|rfl)) ?_)))
 refine mv rfl (.t rfl rfl) (.u rfl) (mv rfl (.t rfl rfl) (.u rfl) (mv rfl (.t rfl rfl) (.u rfl) (arn (((n-1):Nat):Int) rfl (.t rfl rfl) (.u rfl) (.u rfl) rfl (fun _=>by omega) (fun _=>wrap_i64 (by omega) (by omega)) ?_)))
 refine ih rfl (.t rfl rfl) Fx.se43 (.u rfl) (.u rfl) (fun _=>by omega) (fun _=>by omega) (fun _=>hsE.nn (k:=(n-1)) (by first|omega|(simp only [Bool.and_eq_true,decide_eq_true_eq] at hc; omega)|(simp only [List.length_cons,List.length_nil]; omega))) ?_
 obtain ⟨x123,ex123⟩:=getx (k:=(n-1)) (xs:=es) (by omega)
 refine ld rfl (.t rfl rfl) Fx.ag3 (.u rfl) (fun _=>(hsE.n1 ((n-1)) (by omega) ex123).rd) ?_
 refine cp rfl (.t rfl rfl) (.u rfl) (.u rfl) rfl (eb rfl (.t rfl rfl) Fx.bt4 (.u rfl) (.u rfl) (wo_b true (by rw [et,eAt _ _ ex123,e9,beq_iff_eq]; exact decide_eq_decide.2 (by omega)) ?_))
 refine pkA rfl .no (.u rfl) (.u rfl) (asg rfl .no (.u rfl) (.nil (.code (.ret (We.fin0 Tryd.results5 (.tmp rfl .nil) ?_)))))
 exact ⟨rfl,rfl⟩
end Go.Proofs.YtdeobooblmjlfaaDoor
