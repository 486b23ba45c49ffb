/- Lemmas and contracts of functions, joined. -/
import Derived.Test.YtdeobooblmjlfaaDoorMc5
set_option linter.unusedSimpArgs false
set_option linter.unusedVariables false
set_option linter.unusedSectionVars false
namespace Go.Tan
open Go.RowKit
theorem Laid.last {R:List (List Y)} {S:List State} {M:List (BitVec 64)} {s x:State} {last mk:BitVec 64} {n:Nat} (h:Laid R S M s last) (hn:R.length=n+1) (hm:M[n]? = some mk) (hx:S[n]? = some x):mk=last∧EqS s x:=by
 obtain ⟨Z,h1,h2,h3⟩:=h.at' n (by omega)
 obtain ⟨W,h4,h5⟩:=h.all
 rw [List.take_of_length_le (by omega),h5] at h2
 simp only [Option.some.injEq,Mn.mk.injEq] at h2
 obtain ⟨rfl,h6,_⟩:=h2
 rw [List.getD_eq_getElem?_getD,hm,Option.getD_some] at h6
 rw [List.getD_eq_getElem?_getD,hx,Option.getD_some] at h1
 exact ⟨h6.symm,h4.trans h1.symm⟩
theorem Laid.zero {R:List (List Y)} {S:List State} {M:List (BitVec 64)} {s:State} {last:BitVec 64} (h:Laid R S M s last) (hn:R.length=0):last=0#64:=by
 obtain rfl:R=[]:=List.eq_nil_of_length_eq_zero hn
 obtain ⟨W,h4,h5⟩:=h.all
 cases h5; rfl
theorem Laid.cut {R:List (List Y)} {S:List State} {M:List (BitVec 64)} {s:State} {last:BitVec 64} (h:Laid R S M s last) {n:Nat} (hn:n<R.length):∃ Z mk x,stepsM (R.take (n+1)) Mn.zero=some ⟨Z,mk,n+1⟩∧M[n]? = some mk∧S[n]? = some x∧EqS x Z:=by
 obtain ⟨Z,h1,h2,h3⟩:=h.at' n hn
 have hM:n<M.length:=by rw [h.len.2]; exact hn
 have hS:n<S.length:=by rw [h.len.1]; exact hn
 refine ⟨Z,M.getD n 0#64,S.getD n State.zero,h2,by simp [hM],by simp [hS],h1⟩
section
variable {P:Program} {G:PM} {μ:Mem}
end
structure Bare (s:State) (k:Int):Prop where
 right:rightS s=true
 lv:∀ i,i<5→s.lv i=[]
 log:s.log=0
 next:s.next=k
 seq:s.seq=0
 least:s.least=0
 gens:∀ i,i<5→s.gens i=0
theorem Bare.zero:Bare State.zero 0:=⟨right_zero,fun _ _=>rfl,rfl,rfl,rfl,rfl,fun _ _=>rfl⟩
theorem Bare.cg {s s':State} {k:Int} (h:EqS s s') (b:Bare s' k):Bare s k:=⟨h.right.trans b.right,fun i hi=>(h.lv i hi).trans (b.lv i hi),h.log.trans b.log,h.next.trans b.next,h.seq.trans b.seq,h.least.trans b.least,fun i hi=>by rw [h.gens]; exact b.gens i hi⟩
end Go.Tan
namespace Go.Proofs.YtdeobooblmjlfaaDoor
open Go.Tan Go.RowKit
namespace Fx
theorem go26:goFn Tryd.prog 26=true:=by kernel_rfl
theorem eqt25:eqT Tryd.prog 4 25 (gensKs)=true:=by kernel_rfl
end Fx
theorem sameS_ok (a b:State) (ha hb:Nat→Sh) (G:PM) (hA:StR G a ha) (hB:StR G b hb) (ga:∀ i,i<5→u64 (a.gens i)) (gb:∀ i,i<5→u64 (b.gens i)) (hl:∀ i,i<5→(a.lv i).length≤100000000000):Ct Tryd.prog 14 ([a.val ha,b.val hb]:List Value).toArray G [] (fun _ μ' u=>μ'=[]∧u=.bool (sameS a b)):=by
 refine Ct.of Tryd.func14 rfl Tryd.ntmps14 rfl fun w0 hs0=>?_
 refine .seq (Wk.rg [0,1,2] rfl rfl ?_)
 refine bx rfl (.u rfl) rfl ?_; intro b2
 refine bx rfl (.u rfl) rfl ?_; intro b3
 refine asg rfl .no (.u rfl) (.nil (.code (.seq (.seq (Wk.rg [0] rfl rfl (asg rfl .no (.u rfl) (.nil (.code (.block ?_)))))))))
 refine Wk.lop (α:=Nat) (fun k=>[(5,true,.int .i64 (k:Int))]) (fun _=>[])
  (fun k Gl=>(k≤5)∧(∀ i,i<k→sameM (a.lv i) (b.lv i)=true)) (fun k=>5-k) 0 [(2,true,_),(3,true,_)] [_,_]
  (ESub.cons rfl (by first|rfl|exact evi (by omega)) (ESub.c rfl (ESub.c rfl ESub.nil)))
  (MSub.cons .here rfl (MSub.cons .here rfl MSub.nil)) ?_ ?_
 ·refine ⟨?_,?_⟩
  ·(try dsimp only)<;>(first|omega|rfl|assumption|(simp; done))
  (try dsimp only)<;>(exact fun i hi=>by omega)
 intro k N0 Gl0 hN0 hGl0 hF0
 try dsimp only at hF0 hN0 ⊢
 obtain ⟨hk,hq⟩:=hF0
 have hA:=hA.mono hGl0
 have hB:=hB.mono hGl0
 refine .seq (.seq (Wk.rg [0,1] rfl rfl (mv rfl .no (.u rfl) (cp rfl .no (.u rfl) (.u rfl) rfl (.nil (.code (.cond rfl (fun c1=>?_) (fun c1=>?_))))))))
 ·have c1k:=c1
  try simp only [qcA,qcB] at c1
  refine .skip (.code (.seq (.block (.seq (Wk.draw (mc:=⟨false,false⟩) [0,1,2,3,4,5,6,7,8,9] FxVeSa.mix (by kernel_rfl) ?_)))))
  refine mv rfl .no (.u rfl) (fz rfl .no Fx.fo27_0 (.u rfl) (iA rfl .no Fx.ar23 (.u rfl) (.u rfl) (fun _=>by omega) (fun _=>by omega) ?_))
  refine ld rfl .no Fx.ag22 (.u rfl) (fun _=>Rd.own (.there .here) (a.cell_lv ha (k:=k) (by omega))) ?_
  refine mv rfl .no (.u rfl) (fz rfl .no Fx.fo27_0 (.u rfl) (iA rfl .no Fx.ar23 (.u rfl) (.u rfl) (fun _=>by omega) (fun _=>by omega) ?_))
  refine ld rfl .no Fx.ag22 (.u rfl) (fun _=>Rd.own .here (b.cell_lv hb (k:=k) (by omega))) ?_
  refine kv rfl .no Fx.go26 (Evc rfl (Evc rfl Evn)) (fun _=>sameMetas_ok (ha k) (hb k) _ _ _ (hA.lv k (by omega)) (hB.lv k (by omega)) (hA.wf k (by omega)) (hB.wf k (by omega)) (hl k (by omega))) ?_
  refine nt rfl .no (.u rfl) (.nil (.code (.cond rfl (fun c2=>?_) (fun c2=>?_))))
  ·have c2k:=c2
   try simp only [qcA,qcB] at c2
   refine .seq (Wk.rg [0] rfl rfl (asg rfl .no (.u rfl) (.nil (.code (.ret (We.fin0 Tryd.results14 (.tmp rfl .nil) ?_))))))
   exact ⟨rfl,congrArg Value.bool (sameS_no (i:=k) (by omega) (by simpa using c2k)).symm⟩
  have c2k:=c2
  try simp only [qcA,qcB] at c2
  refine .skip (.blk (.code (Wk.rg [0,1,2] rfl rfl (mv rfl .no (.u rfl) (arn (((k+1):Nat):Int) rfl .no (.u rfl) (.u rfl) rfl (fun _=>by omega) (fun _=>wrap_i64 (by omega) (by omega)) ?_)))))
  refine asg rfl .no (.u rfl) (.nil (We.lpo (k+1) ?_ ?_ ?_ ?_ ?_))
  ·exact (ESub.cons rfl (by first|rfl|exact evi (by omega)) (ESub.c rfl (ESub.c rfl ESub.nil)))
  ·exact (MSub.cons .here rfl (MSub.cons .here rfl MSub.nil))
  ·first|omega|(dsimp only; omega)
  ·exact hGl0
  refine ⟨?_,?_⟩
  ·(try dsimp only)<;>(first|omega|rfl|assumption|(simp; done))
  (try dsimp only)<;>(exact fun i hi=>by (by_cases e9:i=k; (subst e9; simpa using c2k); exact hq i (by omega)))
 have c1k:=c1
 try simp only [qcA,qcB] at c1
 refine .exit (.xcode (.xlp (.xblk (.code (.seq (Wk.rg [0,1,2,3,4,5,6,7,8,9,10,11,12,13,14,15,16,17,18,19,20,21,22,23,24,25,26] rfl rfl (fz rfl .no Fx.fo27_1 (.u rfl) (ld rfl .no FxVerP.ag24 (.u rfl) (fun _=>Rd.own (.there .here) (by first|exact wap_f rfl|rfl)) ?_))))))))
 refine fz rfl .no Fx.fo27_1 (.u rfl) (ld rfl .no FxVerP.ag24 (.u rfl) (fun _=>Rd.own .here (by first|exact wap_f rfl|rfl)) ?_)
 refine cp rfl .no (.u rfl) (.u rfl) rfl (mv rfl .no (.u rfl) (fz rfl (.t rfl rfl) Fx.fo27_2 (.u rfl) (ld rfl (.t rfl rfl) FxVerP.ag24 (.s rfl) (fun hc=>Rd.own (.there .here) (by first|exact wap_f rfl|rfl)) ?_)))
 refine fz rfl (.t rfl rfl) Fx.fo27_2 (.u rfl) (ld rfl (.t rfl rfl) FxVerP.ag24 (.s rfl) (fun hc=>Rd.own .here (by first|exact wap_f rfl|rfl)) ?_)
 refine cp rfl (.t rfl rfl) (.s rfl) (.s rfl) rfl (pkA rfl .no (.u rfl) (.s rfl) (mv rfl .no (.u rfl) (fz rfl (.t rfl rfl) Fx.fo27_3 (.u rfl) (ld rfl (.t rfl rfl) FxVerP.ag24 (.s rfl) (fun hc=>Rd.own (.there .here) (by first|exact wap_f rfl|rfl)) ?_))))
 refine fz rfl (.t rfl rfl) Fx.fo27_3 (.u rfl) (ld rfl (.t rfl rfl) FxVerP.ag24 (.s rfl) (fun hc=>Rd.own .here (by first|exact wap_f rfl|rfl)) ?_)
 refine cp rfl (.t rfl rfl) (.s rfl) (.s rfl) rfl (pkA rfl .no (.u rfl) (.s rfl) (mv rfl .no (.u rfl) (fz rfl (.t rfl rfl) Fx.fo27_5 (.u rfl) (lA rfl (.t rfl rfl) Fx.ag25 (.s rfl) (fun _=>RdN.part (n:=5) (cs':=(List.range 5).map fun i=>Value.int .u64 (a.gens i)) (.there .here) (rfl)) (fun _=>rfl) (fz rfl (.t rfl rfl) Fx.fo27_5 (.u rfl) (lA rfl (.t rfl rfl) Fx.ag25 (.s rfl) (fun _=>RdN.part (n:=5) (cs':=(List.range 5).map fun i=>Value.int .u64 (b.gens i)) .here (rfl)) (fun _=>rfl) (eqC (eqGenS a b) rfl (.t rfl rfl) Fx.eqt25 (.s rfl) (.s rfl) (fun hc=>gensS_conf ga) (fun hc=>gensS_conf gb) (fun hc=>eqGenS_iff) ?_)))))))
 refine pkA rfl .no (.u rfl) (.s rfl) (asg rfl .no (.u rfl) (.nil (.code (.ret (We.fin0 Tryd.results14 (.tmp rfl .nil) ?_)))))
 exact ⟨rfl,congrArg Value.bool (sameS_yes (fun i hi=>hq i (by omega))).symm⟩
namespace FxMaBk
theorem go7:goFn Tryd.prog 7=true:=by kernel_rfl
end FxMaBk
namespace Fx
theorem ag40:aggN Tryd.prog 40=some (some 37):=by kernel_rfl
theorem go11:goFn Tryd.prog 11=true:=by kernel_rfl
theorem sn44:(slE Tryd.prog 44).isSome=true:=by kernel_rfl
theorem fo49_0:fOff Tryd.prog 49 0=some 0:=by kernel_rfl
theorem eqt38:eqT Tryd.prog 4 38 ([.int .u8,.int .u8,.int .u64,.int .u64,.int .u64])=true:=by kernel_rfl
theorem go14:goFn Tryd.prog 14=true:=by kernel_rfl
end Fx
set_option maxHeartbeats 2000000 in
theorem ManifestBack_ok (root:Nat→Y) (h:Hd) (l:List MAct) (hl:Sh) (G:PM) (hAR:ActR G hl l) (hK:RdNP G 1 0 (wa 64 kW)) (hll:l.length≤1000000000):Ct Tryd.prog 4 ([.agg (ba 32 root++[V h.kind,V h.level,uv .u64 h.gen,uv .u64 h.epoch,uv .u64 h.num]).toArray,hl.val l.length]:List Value).toArray G [] (fun _ μ' u=>μ'=[]∧u=.bool true):=by
 refine Ct.of Tryd.func4 rfl Tryd.ntmps4 rfl fun w0 hs0=>?_
 refine .seq (Wk.rg [0,1] rfl rfl ?_)
 refine bx rfl (.u rfl) rfl ?_; intro b2
 refine asg rfl .no (.u rfl) (.nil (.code (.seq (Wk.rg [0,1] rfl rfl (kv rfl .no FxMaBk.go7 Evn (fun _=>shown19_ok _ hK) ?_)))))
 refine asg rfl .no (.u rfl) (.nil (.code (.seq (Wk.rg [0,1,2,3,4,5,6,7,8,9,10,11] rfl rfl (lA rfl .no Fx.ag40 (.u rfl) (fun _=>RdN.own .here) (fun _=>(by first|exact qE|exact qL|rfl)) ?_)))))
 refine mv rfl .no (.u rfl) (kc rfl Fx.go11 (Evc rfl (Evc rfl Evn)) (laid19_ok root h l hl _ hAR hK hll) ?_)
 rintro _ G17 μ17 hG17 ⟨R,SS,ms,B,es,hb,he,hst,hmk,S,last,hL,eB,eE,lB,lR,hSS,hsB,hsE,hsS,hsM,rfl,rfl⟩
 have hK:=hK.mono hG17
 refine mv rfl .no (.u rfl) (ex rfl .no (.u rfl) rfl (ex rfl .no (.u rfl) rfl (ex rfl .no (.u rfl) rfl (ex rfl .no (.u rfl) rfl (asg rfl .no (.u rfl) (asg rfl .no (.u rfl) (asg rfl .no (.u rfl) (asg rfl .no (.u rfl) (.nil (.code (.seq ?_)))))))))))
 by_cases hg:h.kind=3#8∧h.right=true
 ·have lS:SS.length=R.length:=by have:=hL.len.1; rwa [List.length_map] at this
  have lM:=hL.len.2
  obtain ⟨Z,hZ1,hZ2⟩:=hL.all
  have hv0:=@readM_back root h R ⟨Z,last,R.length⟩
  have hv1:=@readM_kind root h R
  rw [← eB] at hv0 hv1
  refine Wk.rg [0,1,2,3,4,5,6,7,8,9] rfl rfl (fz rfl .no Fx.fo40_0 (.u rfl) (lA rfl .no Fx.ag34 (.u rfl) (fun _=>RdN.part (n:=32) (cs':=ba 32 root) .here (app_l)) (fun _=>(ba_len _ _)) ?_))
  refine mv rfl .no (.u rfl) (kc rfl Fx.go12 (Evc rfl (Evc rfl Evn)) (mRead_v root B hb _ hsB hK lB (hv0 hg.1 hg.2 hZ2)) ?_)
  rintro _ G26 μ26 hG26 ⟨X26,hX26,hM26,rfl,rfl,hR26⟩
  have hK:=hK.mono hG26
  have hSS:=hSS.mono hG26
  have hsB:=hsB.mono hG26
  have hsS:=hsS.mono hG26
  have hsM:=hsM.mono hG26
  refine mv rfl .no (.u rfl) (ex rfl .no (.u rfl) rfl (ex rfl .no (.u rfl) rfl ?_))
  refine al rfl Fx.zr49 ?_; intro b10
  refine sw rfl (.u rfl) (.u rfl) rfl Fx.sz49 .here (by first|exact qE|exact qL|rfl) (mani_one) ?_
  refine asg rfl .no (.u rfl) (.nil (.code (.seq (.seq (Wk.rg [0,1,2,3,4,5,6,7,8,9] rfl rfl (fz rfl .no Fx.fo40_1 (.u rfl) (fa rfl .no Fx.fo38_0 (.u rfl) (ld rfl .no Fx.ag5 (.u rfl) (fun _=>Rd.own (.there .here) (by first|exact wap_f rfl|rfl)) ?_))))))))
  refine cp rfl .no (.u rfl) (.u rfl) rfl (mv rfl .no (.u rfl) (fz rfl (.f rfl rfl) Fx.fo40_1 (.u rfl) (lA rfl (.f rfl rfl) Fx.ag38 (.s rfl) (fun _=>RdN.part (n:=5) (cs':=[V h.kind,V h.level,uv .u64 h.gen,uv .u64 h.epoch,uv .u64 h.num]) (.there .here) (of_r rfl)) (fun _=>rfl) ?_)))
  refine kv rfl (.f rfl rfl) Fx.go13 (Eva.cons (.s rfl) Evn) (fun hc=>nRight_ok h _) ?_
  refine nt rfl (.f rfl rfl) (.s rfl) (pkO rfl .no (.u rfl) (.s rfl) (.nil (.code (.cond rfl (fun c1=>?_) (fun c1=>?_)))))
  ·have c1k:=c1
   try simp only [qcA,qcC,qcB] at c1
   exfalso
   rcases c1 with c1 | c1
   ·exact c1 (by rw [hg.1]; rfl)
   rw [hg.2] at c1; cases c1
  have c1k:=c1
  try simp only [qcA,qcC,qcB] at c1
  refine .skip (.code (.seq (.seq (Wk.rg [0,1,2] rfl rfl (mv rfl .no (.u rfl) (ln rfl .no Fx.sn44 (.u rfl) (cp rfl .no (.u rfl) (.u rfl) rfl (.nil (.code (.cond rfl (fun c2=>?_) (fun c2=>?_)))))))))))
  ·have c2k:=c2
   try simp only [qcA,qcC,qcB] at c2
   refine .seq (Wk.rg [0,1,2,3,4,5,6,7,8,9,10,11,12,13,14,15,16,17,18,19,20,21,22] rfl rfl (mv rfl .no (.u rfl) (mv rfl .no (.u rfl) (mv rfl (.t rfl rfl) (.u rfl) (cp rfl (.t rfl rfl) (.u rfl) (.u rfl) rfl (pkA rfl .no (.u rfl) (.u rfl) (mv rfl .no (.u rfl) (fz rfl (.t rfl rfl) Fx.fo49_3 (.u rfl) (ld rfl (.t rfl rfl) Fx.ag3 (.u rfl) (fun _=>Rd.own .here (by first|exact wap_f rfl|rfl)) ?_)))))))))
   refine cp rfl (.t rfl rfl) (.u rfl) (.u rfl) rfl (wo_b true (beq_iff_eq.2 (by (try dsimp only); omega)) ?_)
   refine pkA rfl .no (.u rfl) (.u rfl) (mv rfl .no (.u rfl) (fz rfl (.t rfl rfl) Fx.fo49_2 (.u rfl) (ld rfl (.t rfl rfl) Fx.ag24 (.u rfl) (fun _=>Rd.own .here (by first|exact wap_f rfl|rfl)) ?_)))
   refine cp rfl (.t rfl rfl) (.u rfl) (.u rfl) rfl (wo_b true (by rw [hL.zero (by omega)]; rfl) ?_)
   refine pkA rfl .no (.u rfl) (.u rfl) (mv rfl .no (.u rfl) (fz rfl (.t rfl rfl) Fx.fo49_0 (.u rfl) (lA rfl (.t rfl rfl) Fx.ag38 (.u rfl) (fun _=>RdN.part (n:=5) (cs':=[V h.kind,V h.level,uv .u64 h.gen,uv .u64 h.epoch,uv .u64 h.num]) .here (mani_head)) (fun _=>rfl) ?_)))
   refine fz rfl (.t rfl rfl) Fx.fo40_1 (.u rfl) (lA rfl (.t rfl rfl) Fx.ag38 (.u rfl) (fun _=>RdN.part (n:=5) (cs':=[V h.kind,V h.level,uv .u64 h.gen,uv .u64 h.epoch,uv .u64 h.num]) (.there .here) (of_r rfl)) (fun _=>rfl) ?_)
   refine eqC (decide (h=h)) rfl (.t rfl rfl) Fx.eqt38 (.u rfl) (.u rfl) (fun _=>hd_conf _) (fun _=>hd_conf _) (fun _=>hd_iff) ?_
   refine wo_b true (decide_eq_true rfl) ?_
   refine pkA rfl .no (.u rfl) (.u rfl) (asg rfl .no (.u rfl) (.nil (.code (.ret (We.fin0 Tryd.results4 (.tmp rfl .nil) ?_)))))
   exact ⟨rfl,rfl⟩
  have c2k:=c2
  try simp only [qcA,qcC,qcB] at c2
  refine .skip (.code (.seq (Wk.rg [0,1,2,3] rfl rfl (mv rfl .no (.u rfl) (ln rfl .no Fx.sn44 (.u rfl) (arn (((SS.length-1):Nat):Int) rfl .no (.u rfl) (.u rfl) rfl (fun _=>by omega) (fun _=>wrap_i64 (by omega) (by omega)) ?_))))))
  refine asg rfl .no (.u rfl) (.nil (.code (.seq (Wk.draw (mc:=⟨false,false⟩) [0,1,2,3,4,5,6,7,8,9,10,11,12,13,14,15,16,17,18,19,20,21,22,23,24,25,26,27,28,29,30,31,32,33,34,35,36,37,38,39,40,41,42,43,44,45,46,47,48,49,50,51,52,53,54] Fx.mix (by kernel_rfl) ?_))))
  obtain ⟨mk,eM⟩:=getx (k:=SS.length-1) (xs:=ms) (by omega)
  obtain ⟨sp,eS⟩:=getx (k:=SS.length-1) (xs:=SS) (by omega)
  obtain ⟨rfl,hq1⟩:=hL.last (n:=SS.length-1) (by omega) eM (by rw [List.getElem?_map,eS]; rfl)
  have hq2:EqS X26 sp.1:=hM26.eq.trans (hZ1.symm.trans hq1)
  refine mv rfl .no (.u rfl) (mv rfl .no (.u rfl) (mv rfl (.t rfl rfl) (.u rfl) (cp rfl (.t rfl rfl) (.u rfl) (.u rfl) rfl (pkA rfl .no (.u rfl) (.u rfl) (mv rfl .no (.u rfl) (fz rfl (.t rfl rfl) Fx.fo49_3 (.u rfl) (ld rfl (.t rfl rfl) Fx.ag3 (.u rfl) (fun _=>Rd.own .here (by first|exact wap_f rfl|rfl)) ?_)))))))
  refine mv rfl (.t rfl rfl) (.u rfl) (arn ((((SS.length-1)+1):Nat):Int) rfl (.t rfl rfl) (.u rfl) (.u rfl) rfl (fun _=>by omega) (fun _=>wrap_i64 (by omega) (by omega)) ?_)
  refine cp rfl (.t rfl rfl) (.u rfl) (.u rfl) rfl (wo_b true (beq_iff_eq.2 (by (try dsimp only); omega)) ?_)
  refine pkA rfl .no (.u rfl) (.u rfl) (mv rfl .no (.u rfl) (fz rfl (.t rfl rfl) Fx.fo49_2 (.u rfl) (ld rfl (.t rfl rfl) Fx.ag24 (.u rfl) (fun _=>Rd.own .here (by first|exact wap_f rfl|rfl)) ?_)))
  refine mv rfl (.t rfl rfl) (.u rfl) (mv rfl (.t rfl rfl) (.u rfl) (ih rfl (.t rfl rfl) Fx.se45 (.u rfl) (.u rfl) (fun _=>by omega) (fun _=>by omega) (fun _=>hsM.nn (k:=(SS.length-1)) (by first|omega|(simp only [Bool.and_eq_true,decide_eq_true_eq] at hc; omega)|(simp only [List.length_cons,List.length_nil]; omega))) ?_))
  refine ld rfl (.t rfl rfl) Fx.ag24 (.u rfl) (fun _=>((hsM.at (by omega) eM) 0 _ rfl).rd) ?_
  refine cp rfl (.t rfl rfl) (.u rfl) (.u rfl) rfl (wo_b true (beq_self_eq_true _) ?_)
  refine pkA rfl .no (.u rfl) (.u rfl) (mv rfl .no (.u rfl) (fz rfl (.t rfl rfl) Fx.fo49_1 (.u rfl) (lA rfl (.t rfl rfl) Fx.ag27 (.u rfl) (fun _=>RdN.part (n:=14) (cs':=X26.cells hX26) .here (mani_st)) (fun _=>(by first|exact qE|exact qL|rfl)) ?_)))
  refine mv rfl (.t rfl rfl) (.u rfl) (mv rfl (.t rfl rfl) (.u rfl) (ih rfl (.t rfl rfl) Fx.se44 (.u rfl) (.u rfl) (fun _=>by omega) (fun _=>by omega) (fun _=>hsS.nn (k:=(SS.length-1)) (by first|omega|(simp only [Bool.and_eq_true,decide_eq_true_eq] at hc; omega)|(simp only [List.length_cons,List.length_nil]; omega))) ?_))
  refine lA rfl (.t rfl rfl) Fx.ag27 (.u rfl) (fun _=>(hsS.at (by omega) eS).rd) (fun _=>(by first|exact qE|exact qL|rfl)) ?_
  refine kv rfl (.t rfl rfl) Fx.go14 (Evc rfl (Evc rfl Evn)) (fun _=>sameS_ok X26 sp.1 hX26 sp.2 _ hR26 (hSS.all sp (List.mem_of_getElem? eS)).1 (by rw [hq2.gens]; exact (hSS.all sp (List.mem_of_getElem? eS)).2) (hSS.all sp (List.mem_of_getElem? eS)).2 (fun i hi=>by have h8:=lv_tot X26 hi; have h9:=(rightP_of hM26.right).few; omega)) ?_
  refine wo_b true (sameS_of hq2) ?_
  refine pkA rfl .no (.u rfl) (.u rfl) (mv rfl .no (.u rfl) (fz rfl (.t rfl rfl) Fx.fo49_1 (.u rfl) (lA rfl (.t rfl rfl) Fx.ag27 (.u rfl) (fun _=>RdN.part (n:=14) (cs':=X26.cells hX26) .here (mani_st)) (fun _=>(by first|exact qE|exact qL|rfl)) ?_)))
  refine kv rfl (.t rfl rfl) Fx.go15 (Evc rfl Evn) (fun _=>vRight_ok X26 hX26 _ hR26) ?_
  refine wo_b true (hM26.right) ?_
  refine pkA rfl .no (.u rfl) (.u rfl) (mv rfl .no (.u rfl) (fz rfl (.t rfl rfl) Fx.fo49_0 (.u rfl) (lA rfl (.t rfl rfl) Fx.ag38 (.u rfl) (fun _=>RdN.part (n:=5) (cs':=[V h.kind,V h.level,uv .u64 h.gen,uv .u64 h.epoch,uv .u64 h.num]) .here (mani_head)) (fun _=>rfl) ?_)))
  refine fz rfl (.t rfl rfl) Fx.fo40_1 (.u rfl) (lA rfl (.t rfl rfl) Fx.ag38 (.u rfl) (fun _=>RdN.part (n:=5) (cs':=[V h.kind,V h.level,uv .u64 h.gen,uv .u64 h.epoch,uv .u64 h.num]) (.there .here) (of_r rfl)) (fun _=>rfl) ?_)
  refine eqC (decide (h=h)) rfl (.t rfl rfl) Fx.eqt38 (.u rfl) (.u rfl) (fun _=>hd_conf _) (fun _=>hd_conf _) (fun _=>hd_iff) ?_
  refine wo_b true (decide_eq_true rfl) ?_
  refine pkA rfl .no (.u rfl) (.u rfl) (mv rfl .no (.u rfl) (fz rfl (.t rfl rfl) Fx.fo49_4 (.u rfl) (ld rfl (.t rfl rfl) Fx.ag3 (.u rfl) (fun _=>Rd.own .here (by first|exact wap_f rfl|rfl)) ?_)))
  refine mv rfl (.t rfl rfl) (.u rfl) (ln rfl (.t rfl rfl) Fx.sn42 (.u rfl) (cp rfl (.t rfl rfl) (.u rfl) (.u rfl) rfl (wo_b true (beq_self_eq_true _) ?_)))
  refine pkA rfl .no (.u rfl) (.u rfl) (mv rfl .no (.u rfl) (fz rfl (.t rfl rfl) Fx.fo49_5 (.u rfl) (ld rfl (.t rfl rfl) Fx.ag4 (.u rfl) (fun _=>Rd.own .here (by first|exact wap_f rfl|rfl)) ?_)))
  refine nt rfl (.t rfl rfl) (.u rfl) (pkA rfl .no (.u rfl) (.u rfl) (asg rfl .no (.u rfl) (.nil (.code (.ret (We.fin0 Tryd.results4 (.tmp rfl .nil) ?_))))))
  exact ⟨rfl,rfl⟩
 have lS:SS.length=R.length:=by have:=hL.len.1; rwa [List.length_map] at this
 have lM:=hL.len.2
 obtain ⟨Z,hZ1,hZ2⟩:=hL.all
 have hv0:=@readM_back root h R ⟨Z,last,R.length⟩
 have hv1:=@readM_kind root h R
 rw [← eB] at hv0 hv1
 refine Wk.rg [0,1,2,3,4,5,6,7,8,9] rfl rfl (fz rfl .no Fx.fo40_0 (.u rfl) (lA rfl .no Fx.ag34 (.u rfl) (fun _=>RdN.part (n:=32) (cs':=ba 32 root) .here (app_l)) (fun _=>(ba_len _ _)) ?_))
 refine mv rfl .no (.u rfl) (kc rfl Fx.go12 (Evc rfl (Evc rfl Evn)) (mRead_n root B hb _ hsB hK lB (hv1 (by by_cases q:h.kind=3#8; (exact .inr (by simpa [q] using hg)); exact .inl q))) ?_)
 rintro _ G26 μ26 hG26 ⟨rfl,rfl⟩
 refine mv rfl .no (.u rfl) (ex rfl .no (.u rfl) rfl (ex rfl .no (.u rfl) rfl ?_))
 refine al rfl Fx.zr49 ?_; intro b10
 refine sw rfl (.u rfl) (.u rfl) rfl Fx.sz49 .here (by first|exact qE|exact qL|rfl) (mani_one) ?_
 refine asg rfl .no (.u rfl) (.nil (.code (.seq (.seq (Wk.rg [0,1,2,3,4,5,6,7,8,9] rfl rfl (fz rfl .no Fx.fo40_1 (.u rfl) (fa rfl .no Fx.fo38_0 (.u rfl) (ld rfl .no Fx.ag5 (.u rfl) (fun _=>Rd.own (.there .here) (by first|exact wap_f rfl|rfl)) ?_))))))))
 refine cp rfl .no (.u rfl) (.u rfl) rfl (mv rfl .no (.u rfl) (fz rfl (.f rfl rfl) Fx.fo40_1 (.u rfl) (lA rfl (.f rfl rfl) Fx.ag38 (.s rfl) (fun _=>RdN.part (n:=5) (cs':=[V h.kind,V h.level,uv .u64 h.gen,uv .u64 h.epoch,uv .u64 h.num]) (.there .here) (of_r rfl)) (fun _=>rfl) ?_)))
 refine kv rfl (.f rfl rfl) Fx.go13 (Eva.cons (.s rfl) Evn) (fun hc=>nRight_ok h _) ?_
 refine nt rfl (.f rfl rfl) (.s rfl) (pkO rfl .no (.u rfl) (.s rfl) (.nil (.code (.cond rfl (fun c3=>?_) (fun c3=>?_)))))
 ·have c3k:=c3
  try simp only [qcA,qcC,qcB] at c3
  refine .seq (Wk.rg [0,1,2,3,4,5] rfl rfl (mv rfl .no (.u rfl) (mv rfl .no (.u rfl) (mv rfl (.t rfl rfl) (.u rfl) (cp rfl (.t rfl rfl) (.u rfl) (.u rfl) rfl (pkA rfl .no (.u rfl) (.u rfl) (asg rfl .no (.u rfl) (.nil (.code (.ret (We.fin0 Tryd.results4 (.tmp rfl .nil) ?_)))))))))))
  exact ⟨rfl,rfl⟩
 have c3k:=c3
 try simp only [qcA,qcC,qcB] at c3
 exfalso
 exact hg ⟨BitVec.eq_of_toNat_eq (by have:(h.kind.toNat:Int)=3:=c3.1; show _=3; omega),c3.2⟩
end Go.Proofs.YtdeobooblmjlfaaDoor
