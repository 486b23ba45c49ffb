/- Lemmas and contracts of functions, joined. -/
import Derived.Test.YtggleibgadkodaaGreatDoorGb3
set_option linter.unusedSimpArgs false
set_option linter.unusedVariables false
set_option linter.unusedSectionVars false
namespace Go.Proofs.YtggleibgadkodaaGreatDoor
open Go.Tan Go.RowKit
namespace Fx
theorem fo64_3:fOff Tryz.prog 64 3=some 7:=by kernel_rfl
theorem fo64_4:fOff Tryz.prog 64 4=some 8:=by kernel_rfl
theorem fo64_1:fOff Tryz.prog 64 1=some 5:=by kernel_rfl
theorem fo64_0:fOff Tryz.prog 64 0=some 0:=by kernel_rfl
theorem ag61:aggN Tryz.prog 61=some (some 5):=by kernel_rfl
theorem ar61:arE Tryz.prog 61=some (5,60,1):=by kernel_rfl
theorem ag60:aggN Tryz.prog 60=some none:=by kernel_rfl
theorem se60:slE Tryz.prog 60=some (128,40,112):=by kernel_rfl
theorem sn60:(slE Tryz.prog 60).isSome=true:=by kernel_rfl
theorem ag128:aggN Tryz.prog 128=some (some 40):=by kernel_rfl
theorem zq128:zrL Tryz.prog 128=some (Meta.zero.cells):=by kernel_rfl
theorem sz128:szT Tryz.prog 128=some 40:=by kernel_rfl
theorem mp117:mpE Tryz.prog 117=some (.u64,3):=by kernel_rfl
theorem zv3:(Tryz.prog.info? 3).bind (·.zero)=some (.int .i64 0):=by kernel_rfl
theorem cv5_3:cvK Tryz.prog 5 3=some .i64:=by kernel_rfl
theorem go74:goFn Tryz.prog 74=true:=by kernel_rfl
theorem go75:goFn Tryz.prog 75=true:=by kernel_rfl
theorem zw128:(Tryz.prog.info? 128).bind (·.zero)=some (.agg (Meta.zero.cells).toArray):=by kernel_rfl
end Fx
set_option maxHeartbeats 1000000 in
theorem vRight_ok (s:State) (hd:Nat→Sh) (G:PM) (hs:StR G s hd):Ct Tryz.prog 23 ([s.val hd]:List Value).toArray G [] (fun _ μ' u=>μ'=[]∧u=.bool (rightS s)):=by
 refine Ct.of Tryz.func23 rfl Tryz.ntmps23 rfl fun w0 hs0=>?_
 refine .seq (rq2 rfl rfl ?_)
 refine bx rfl (.u rfl) rfl ?_; intro b1
 refine aS rfl rfl (.nil (.code (.seq (.seq (Wk.rg [0,1,2,3,4,5,6,7,8,9,10,11,12] rfl rfl (fz rfl .no Fx.fo64_3 (.u rfl) (ld rfl .no FxVerP.ag41 (.u rfl) (fun _=>Rd.own .here rfl) ?_)))))))
 refine fz rfl .no Fx.fo64_4 (.u rfl) (ld rfl .no FxVerP.ag41 (.u rfl) (fun _=>Rd.own .here rfl) ?_)
 refine mA rfl .no (.u rfl) (.u rfl) ?_
 refine cp rfl .no (.u rfl) (.u rfl) rfl (mV rfl rfl (fz rfl (.f rfl rfl) Fx.fo64_1 (.u rfl) (ld rfl (.f rfl rfl) FxVerP.ag41 (.s rfl) (fun _=>Rd.own .here rfl) ?_)))
 refine fz rfl (.f rfl rfl) Fx.fo64_2 (.u rfl) (ld rfl (.f rfl rfl) FxVerP.ag41 (.s rfl) (fun _=>Rd.own .here rfl) ?_)
 refine cp rfl (.f rfl rfl) (.s rfl) (.s rfl) rfl (pkO rfl .no (.u rfl) (.s rfl) (.nil (.code (.cond rfl (fun c1=>?_) (fun c1=>?_)))))
 ·have c1k:=c1
  try simp only [qcA] at c1
  refine .seq (rq1 rfl rfl (aS rfl rfl (.nil (.code (.ret (We.fin0 Tryz.results23 (.tmp rfl .nil) ?_))))))
  exact ⟨rfl,fin_false (rs_max c1)⟩
 have c1k:=c1
 try simp only [qcA] at c1
 refine .skip (.code (.seq (rq2 rfl rfl ?_)))
 refine mk rfl .u64 ?_; intro b22
 refine aS rfl rfl (.nil (.code (.seq (rq1 rfl rfl (aS rfl rfl (.nil (.code (.seq (.seq (rq3 rfl rfl (fz rfl .no Fx.fo64_0 (.u rfl) (lA rfl .no Fx.ag61 (.u rfl) (fun _=>RdN.part (n:=5) tk1 rfl) (fun _=>rfl) ?_))))))))))))
 refine mV rfl rfl (.nil (.code (.block ?_)))
 refine Wk.lop (α:=Nat) (fun i=>[(4,true,.int .i64 (1024-tot s i)),(25,true,.int .i64 (i:Int))]) (fun i=>[.mp b22 .u64 (cntM (nums (allM s i)))])
  (fun i Gl=>i≤5∧tot s i≤1024∧(∀ j,j<i→LvOk s j (s.lv j))∧Dist (allM s i)) (fun i=>5-i) 0 [(1,true,_),(3,true,_),(24,true,_)] [.blk b1 _]
  (esD rfl (esD rfl (esD rfl (esD rfl (esD rfl eZ)))))
  (mS .here rfl (mS .here rfl mN)) ?_ ?_
 ·exact ⟨by omega,by simp [tot],fun j hj=>by omega,dist_nil⟩
 intro i N0 Gl0 hN0 hGl0 hF0
 try dsimp only at hF0 hN0 ⊢
 obtain ⟨hi,ht,hall,hdi⟩:=hF0
 refine .seq (rq1 rfl rfl (cp rfl .no (.u rfl) (.u rfl) rfl (.nil (.code (.seq (.cond rfl (fun c2=>?_) (fun c2=>?_)))))))
 ·have c2k:=c2
  try simp only [qcA] at c2
  refine .skip (.code (.seq (.block (.seq (rq4 rfl rfl ?_)))))
  have hli:=hs.len i (by omega); have htn:=tot_nonneg s i
  refine mV rfl rfl (ix rfl .no Fx.ar61 Fx.ag60 (.u rfl) (.u rfl) (fun _=>by omega) (fun _=>by omega) (fun _=>(s.arr_lv hd (k:=i) (by omega))) ?_)
  refine aS rfl rfl (aS rfl rfl (.nil (.code (.seq (.seq (rq4 rfl rfl (mV rfl rfl (ln rfl .no Fx.sn60 (.u rfl) (mV rfl rfl (cp rfl .no (.u rfl) (.u rfl) rfl (.nil (.code (.cond rfl (fun c3=>?_) (fun c3=>?_))))))))))))))
  ·have c3k:=c3
   try simp only [qcA] at c3
   refine .seq (rq1 rfl rfl (aS rfl rfl (.nil (.code (.ret (We.fin0 Tryz.results23 (.tmp rfl .nil) ?_))))))
   exact ⟨rfl,fin_false (rs_few (by omega) c3)⟩
  have c3k:=c3
  try simp only [qcA] at c3
  refine .skip (.code (.seq (rq5 rfl rfl (mV rfl rfl (mV rfl rfl (ln rfl .no Fx.sn60 (.u rfl) (ar rfl .no (.u rfl) (.u rfl) rfl (fun _=>wrap_i64 (by omega) (by omega)) ?_)))))))
  refine aS rfl rfl (.nil (.code (.seq (rq3 rfl rfl (mV rfl rfl (ln rfl .no Fx.sn60 (.u rfl) (mV rfl rfl (.nil (.code (.block ?_))))))))))
  refine Wk.lop (α:=Nat) (fun k=>[(39,true,.int .i64 (k:Int))]) (fun k=>[.mp b22 .u64 (cntM (nums (allM s i++(s.lv i).take k)))])
   (fun k Gl=>Part s i k) (fun k=>(s.lv i).length-k) 0 [(1,true,_),(3,true,_),(4,true,_),(5,true,_),(6,true,_),(24,true,_),(25,true,_),(37,true,_),(38,true,_)] [.blk b1 _]
   (esD rfl (esD rfl (esD rfl (esD rfl (esD rfl (esD rfl (esD rfl (esD rfl (esD rfl (esD rfl eZ))))))))))
   (mS .here (cnt_zero s i _) (mS .here rfl mN)) ?_ ?_
  ·exact Part.zero hdi
  intro k N1 Gl1 hN1 hGl1 hF1
  try dsimp only at hF1 hN1 ⊢
  have hP:Part s i k:=hF1; have hkl:=hP.le
  refine .seq (rq1 rfl rfl (cp rfl .no (.u rfl) (.u rfl) rfl (.nil (.code (.seq (.cond rfl (fun c4=>?_) (fun c4=>?_)))))))
  ·have c4k:=c4
   try simp only [qcA] at c4
   refine .skip (.code (.seq (.block (.seq (rq6 rfl rfl ?_)))))
   have hwf:=(hs.wf i (by omega) _ (getD_mem (k:=k) (by omega))).level; have hcb:=cnt_bd (nums (allM s i++(s.lv i).take k)) ((s.lv i).getD k Meta.zero).number
   refine mV rfl rfl (ih rfl .no Fx.se60 (.u rfl) (.u rfl) (fun _=>by omega) (fun _=>by omega) (fun _=>(hs.lv i (by omega)).nn (k:=k) (by omega)) ?_)
   refine lA rfl .no Fx.ag128 (.u rfl) (fun _=>((((hs.mono hGl0).mono hGl1).lv i (by omega)).gat k (by omega) (by omega)).rd) (fun _=>rfl) ?_
   refine al rfl Fx.zq128 ?_; intro b8
   refine aS rfl rfl (sw rfl (.u rfl) (.u rfl) rfl Fx.sz128 .here rfl (Meta.one _) ?_)
   refine .nil (.code (.seq (rq6 rfl rfl (mV rfl rfl (fz rfl .no Fx.fo128_3 (.u rfl) (ld rfl .no FxVerP.ag41 (.u rfl) (fun _=>Rd.own .here rfl) ?_))))))
   refine lk rfl .no Fx.mp117 Fx.zv3 (.u rfl) (.u rfl) tk1 (cnt_get _ _) ?_
   refine ar rfl .no (.u rfl) (.u rfl) rfl (fun _=>wrap_i64 (by omega) (by omega)) ?_
   refine mu rfl Fx.mp117 (.u rfl) (.u rfl) (.u rfl) tk1 ?_
   refine .nil (.code (.seq (Wk.draw (mc:=⟨false,false⟩) [0,1,2,3,4,5,6,7,8,9,10,11,12,13,14,15,16,17,18,19,20,21,22,23,24,25,26,27,28,29,30] FxVerP.mix (by kernel_rfl) ?_)))
   refine fz rfl .no Fx.fo128_0 (.u rfl) (ld rfl .no FxVerP.ag5 (.u rfl) (fun _=>Rd.own tk1 rfl) ?_)
   refine cw rfl .no Fx.cv5_3 (.u rfl) (fun _=>wrap_i64 (by omega) (by omega)) ?_
   refine mV rfl rfl (cp rfl .no (.u rfl) (.u rfl) rfl (mV rfl rfl (lA rfl (.f rfl rfl) Fx.ag128 (.u rfl) (fun _=>RdN.own tk1) (fun _=>rfl) ?_)))
   refine kp rfl (.f rfl rfl) Fx.go74 (Evc rfl (Eva.cons (.s rfl) Evn)) (Gp.add tk2 Gp.nil) (fun hc hle hq=>fits_ok s hd _ b1 _ RdNP.add hwf.1) ?_
   refine nt rfl (.f rfl rfl) (.s rfl) (pkO rfl .no (.u rfl) (.s rfl) (mV rfl rfl (mv rfl (.f rfl rfl) (.u rfl) (fz rfl (.f rfl rfl) Fx.fo128_3 (.u rfl) (ld rfl (.f rfl rfl) FxVerP.ag41 (.s rfl) (fun _=>Rd.own tk1 rfl) ?_)))))
   refine lk rfl (.f rfl rfl) Fx.mp117 Fx.zv3 (.s rfl) (.s rfl) .here (cnt_upd _ _ _ _) ?_
   refine cp rfl (.f rfl rfl) (.s rfl) (.u rfl) rfl (pkO rfl .no (.u rfl) (.s rfl) (mV rfl rfl (mv rfl (.f rfl rfl) (.u rfl) (cp rfl (.f rfl rfl) (.s rfl) (.u rfl) rfl (mv rfl (.f rfl rfl) (.s rfl) (mv rfl (.tc rfl rfl) (.u rfl) (mv rfl (.tc rfl rfl) (.u rfl) (ar rfl (.tc rfl rfl) (.s rfl) (.u rfl) rfl (fun hc=>wrap_i64 (by omega) (by omega)) ?_))))))))
   refine ih rfl (.tc rfl rfl) Fx.se60 (.s rfl) (.s rfl) (fun hc=>by simp only [Bool.and_eq_true,decide_eq_true_eq] at hc; omega) (fun hc=>by simp only [Bool.and_eq_true,decide_eq_true_eq] at hc; omega) (fun hc=>(hs.lv i (by omega)).nn (k:=k) (by omega)) ?_
   refine lA rfl (.tc rfl rfl) Fx.ag128 (.s rfl) (fun hc=>((((hs.mono hGl0).mono hGl1).lv i (by omega)).gat (k-1) (by simp only [Bool.and_eq_true,decide_eq_true_eq] at hc; omega) (by omega)).rd) (fun _=>rfl) ?_
   refine lA rfl (.tc rfl rfl) Fx.ag128 (.u rfl) (fun _=>RdN.own tk1) (fun _=>rfl) ?_
   refine kv rfl (.tc rfl rfl) Fx.go75 (Eva.cons (.s rfl) (Eva.cons (.s rfl) Evn)) (fun hc=>stands_ok _ _ _ (hs.wf i (by omega) _ (getD_mem (by simp only [Bool.and_eq_true,decide_eq_true_eq] at hc; omega))).level.1) ?_
   refine nt rfl (.tc rfl rfl) (.s rfl) (pkA rfl (.f rfl rfl) (.s rfl) (.s rfl) (pkO rfl .no (.u rfl) (.s rfl) (.nil (.code (.cond rfl (fun c5=>?_) (fun c5=>?_))))))
   ·have c5k:=c5
    try simp only [qcA] at c5
    refine .seq (rq1 rfl rfl (aS rfl rfl (.nil (.code (.ret (We.fin0 Tryz.results23 (.tmp rfl .nil) ?_))))))
    exact ⟨rfl,fin_false (rt_bad (by omega) (by omega) hP c5k)⟩
   have c5k:=c5
   try simp only [qcA] at c5
   refine .skip (.blk (.code (rq2 rfl rfl (ar rfl .no (.u rfl) (.u rfl) rfl (fun _=>wrap_i64 (by omega) (by omega)) ?_))))
   refine mV rfl rfl (.nil ?_)
   have hst:=rt_good (by omega) hP c5k
   refine We.lpo (k+1) ?_ ?_ ?_ ?_ ?_
   ·exact (esD rfl (esD rfl (esD rfl (esD rfl (esD rfl (esD rfl (esD rfl (esD rfl (esD rfl (esD rfl eZ))))))))))
   ·exact (mS .here (cnt_step (by omega) hst.2) (mS tk1 rfl mN))
   ·first|omega|(dsimp only; omega)
   ·exact hGl1
   exact hst.1
  have c4k:=c4
  try simp only [qcA] at c4
  refine .exit (.xcode (.xlp (.xblk (.blk (.code (rq2 rfl rfl (ar rfl .no (.u rfl) (.u rfl) rfl (fun _=>wrap_i64 (by omega) (by omega)) ?_)))))))
  refine mV rfl rfl (.nil (We.lpo (i+1) ?_ ?_ ?_ ?_ ?_))
  ·exact (esC rfl (congrArg _ (by rw [show tot s (i+1)=tot s i+(s.lv i).length from rfl]; omega)) (esD rfl (esD rfl (esD rfl (esD rfl eZ)))))
  ·exact (mS .here (cnt_next (by omega)) (mS .here rfl mN))
  ·first|omega|(dsimp only; omega)
  ·exact hGl0.trans hGl1
  exact ⟨by omega,by rw [show tot s (i+1)=tot s i+(s.lv i).length from rfl]; omega,fun j hj=>(by by_cases e:j=i; (subst e; exact hP.lvOk (by omega)); exact hall j (by omega)),hP.next (by omega)⟩
 have c2k:=c2
 try simp only [qcA] at c2
 refine .exit (.xcode (.xlp (.xblk (.code (.seq (rq1 rfl rfl (aS rfl rfl (.nil (.code (.ret (We.fin0 Tryz.results23 (.tmp rfl .nil) ?_)))))))))))
 exact ⟨rfl,fin_true (rs_done c1 (by omega) ht hall hdi)⟩
theorem over_ok (s:State) (hd:Nat→Sh) (G:PM) (hs:StR G s hd) (level:Int) (lo hi:ByteArray):Ct Tryz.prog 91 ([s.val hd,.int .i64 level,.string lo,.string hi]:List Value).toArray G [] (fun G' μ' u=>μ'=[]∧∃ h:Sh,u=h.val (ovl s level lo hi).length∧SlR G' 40 Meta.cells h (ovl s level lo hi)):=by
 refine Ct.of Tryz.func91 rfl Tryz.ntmps91 rfl fun w0 hs0=>?_
 refine .seq (rq2 rfl rfl ?_)
 refine bx rfl (.u rfl) rfl ?_; intro b4
 refine aS rfl rfl (.nil (.code (.seq (rq1 rfl rfl (aS rfl rfl (.nil (.code (.seq (.seq (rq6 rfl rfl (mV rfl rfl (cp rfl .no (.u rfl) (.u rfl) rfl (mV rfl rfl (mv rfl (.f rfl rfl) (.u rfl) (cp rfl (.f rfl rfl) (.s rfl) (.u rfl) rfl (pkO rfl .no (.u rfl) (.s rfl) (.nil (.code (.cond rfl (fun c1=>?_) (fun c1=>?_))))))))))))))))))))
 ·have c1k:=c1
  try simp only [qcA] at c1
  refine .seq (rq1 rfl rfl (aS rfl rfl (.nil (.code (.ret (We.fin0 Tryz.results91 (.tmp rfl .nil) ?_))))))
  exact ⟨rfl,⟨none,0⟩,by rw [ovl_out c1]; rfl,by rw [ovl_out c1]; exact SlR.nul⟩
 have c1k:=c1
 try simp only [qcA] at c1
 refine .skip (.code (.seq (.seq (rq6 rfl rfl ?_))))
 have hli:=hs.len level.toNat (by omega)
 refine mV rfl rfl (fz rfl .no Fx.fo64_0 (.u rfl) (iA rfl .no Fx.ar61 (.u rfl) (.u rfl) (fun _=>by omega) (fun _=>by omega) ?_))
 refine ld rfl .no Fx.ag60 (.u rfl) (fun _=>Rd.own .here (s.cell_lv hd (k:=level.toNat) (by omega))) ?_
 refine ln rfl .no Fx.sn60 (.u rfl) (mV rfl rfl (.nil (.code (.block (wk_nilRow 128 40 ?_)))))
 refine Wk.lop (α:=Nat×Value) (fun gh=>[(9,true,gh.2),(23,true,.int .i64 (gh.1:Int))]) (fun gh=>[.row gh.2 128 40 (((s.lv level.toNat).take gh.1).filter (ovp lo hi)).length ((((s.lv level.toNat).take gh.1).filter (ovp lo hi)).flatMap Meta.cells)])
  (fun gh Gl=>gh.1≤(s.lv level.toNat).length) (fun gh=>(s.lv level.toNat).length-gh.1) (0,.slice none 0 0) [(2,true,_),(3,true,_),(21,true,_),(22,true,_)] [.blk b4 _]
  (esD rfl (esD rfl (esD rfl (esD rfl (esD rfl (esD rfl eZ))))))
  (mS .here rfl (mS .here rfl mN)) ?_ ?_
 ·show 0≤(s.lv level.toNat).length; omega
 intro gh N0 Gl0 hN0 hGl0 hF0
 obtain ⟨k,v⟩:=gh; dsimp only at hF0 hN0 ⊢
 have hk:k≤(s.lv level.toNat).length:=hF0; have hfl:=filt_len (s.lv level.toNat) (ovp lo hi) k
 refine .seq (rq1 rfl rfl (cp rfl .no (.u rfl) (.u rfl) rfl (.nil (.code (.seq (.cond rfl (fun c2=>?_) (fun c2=>?_)))))))
 ·have c2k:=c2
  try simp only [qcA] at c2
  refine .skip (.code (.seq (.block (.seq (rq4 rfl rfl (ih rfl .no Fx.se60 (.u rfl) (.u rfl) (fun _=>by omega) (fun _=>by omega) (fun _=>(hs.lv level.toNat (by omega)).nn (k:=k) (by omega)) ?_))))))
  refine lA rfl .no Fx.ag128 (.u rfl) (fun _=>(((hs.mono hGl0).lv level.toNat (by omega)).gat k (by omega) (by omega)).rd) (fun _=>rfl) ?_
  refine al rfl Fx.zq128 ?_; intro b11
  refine sw rfl (.u rfl) (.u rfl) rfl Fx.sz128 .here rfl (Meta.one _) ?_
  refine .nil (.code (.seq (rq10 rfl rfl (fz rfl .no Fx.fo128_7 (.u rfl) (ld rfl .no Fx.ag9 (.u rfl) (fun _=>Rd.own .here rfl) ?_)))))
  refine mV rfl rfl (cs rfl .no (.u rfl) (.u rfl) rfl (mV rfl rfl (fz rfl (.t rfl rfl) Fx.fo128_6 (.u rfl) (ld rfl (.t rfl rfl) Fx.ag9 (.s rfl) (fun _=>Rd.own .here rfl) ?_))))
  refine mv rfl (.t rfl rfl) (.u rfl) (cs rfl (.t rfl rfl) (.s rfl) (.s rfl) rfl (pkA rfl .no (.u rfl) (.s rfl) (.nil (.code (.cond rfl (fun c3=>?_) (fun c3=>?_))))))
  ·have c3k:=c3
   try simp only [qcA] at c3
   refine rq5 rfl rfl (mV rfl rfl (lA rfl .no Fx.ag128 (.u rfl) (fun _=>RdN.own .here) (fun _=>rfl) ?_))
   refine Go.Tan.b1 rfl Fx.se60 Fx.zw128 (.u rfl) rfl rfl (by decide) ?_; intro b39
   refine ap rfl Fx.se60 Fx.zw128 rfl (.u rfl) (.u rfl) tk2 (rfl) (fun _=>⟨_,_,rfl,RdN.own .here⟩) (Meta.one _) (by omega) (by unfold maxLen; omega) ?_; intro v40
   refine aS rfl rfl (.nil (.blk (.code (rq2 rfl rfl (ar rfl .no (.u rfl) (.u rfl) rfl (fun _=>wrap_i64 (by omega) (by omega)) ?_)))))
   refine mV rfl rfl (.nil (We.lpo (k+1,v40) ?_ ?_ ?_ ?_ ?_))
   ·exact (esD rfl (esD rfl (esD rfl (esD rfl (esD rfl (esD rfl eZ))))))
   ·exact (mS .here (ov_yes (by omega) c3k) (mS tk2 rfl mN))
   ·first|omega|(dsimp only; omega)
   ·exact hGl0
   show k+1≤(s.lv level.toNat).length; omega
  have c3k:=c3
  try simp only [qcA] at c3
  refine .skip (.blk (.code (rq2 rfl rfl (ar rfl .no (.u rfl) (.u rfl) rfl (fun _=>wrap_i64 (by omega) (by omega)) ?_))))
  refine mV rfl rfl (.nil (We.lpo (k+1,v) ?_ ?_ ?_ ?_ ?_))
  ·exact (esD rfl (esD rfl (esD rfl (esD rfl (esD rfl (esD rfl eZ))))))
  ·exact (mS tk1 (ov_no (by omega) c3k) (mS tk1 rfl mN))
  ·first|omega|(dsimp only; omega)
  ·exact hGl0
  show k+1≤(s.lv level.toNat).length; omega
 have c2k:=c2
 try simp only [qcA] at c2
 refine .exit (.xcode (.xlp (.xblk (.code (.seq (rq2 rfl rfl (mV rfl rfl (aS rfl rfl (.nil (.code (.ret (we_fr .here (fun b hb=>by cases hb) ?_))))))))))))
 intro Gf hh hlef hv hcap hnn hrd; subst hv
 refine We.fin0 Tryz.results91 (.tmp rfl .nil) ?_
 have hko:k=(s.lv level.toNat).length:=by omega
 subst hko
 rw [List.take_length] at hcap hnn hrd
 exact ⟨rfl,hh,by rw [ovl_in c1,List.take_length]; rfl,by rw [ovl_in c1]; exact SlR.ofRow (metas_len _) hcap hnn hrd⟩
namespace Fx
theorem ag64:aggN Tryz.prog 64=some (some 14):=by kernel_rfl
theorem go91:goFn Tryz.prog 91=true:=by kernel_rfl
end Fx
theorem look_ok (s:State) (hd:Nat→Sh) (G:PM) (hs:StR G s hd) (hf:tot s 5≤1024) (us:ByteArray):Ct Tryz.prog 44 ([s.val hd,.string us]:List Value).toArray G [] (fun G' μ' u=>μ'=[]∧∃ h:Sh,u=h.val (lookM s us 5).length∧SlR G' 40 Meta.cells h (lookM s us 5)):=by
 refine Ct.of Tryz.func44 rfl Tryz.ntmps44 rfl fun w0 hs0=>?_
 refine .seq (rq2 rfl rfl ?_)
 refine bx rfl (.u rfl) rfl ?_; intro b2
 refine aS rfl rfl (.nil (.code (.seq (rq1 rfl rfl (aS rfl rfl (.nil (.code (.seq (.seq (rq1 rfl rfl (mV rfl rfl (.nil (.code (.block (wk_nilRow 128 40 ?_)))))))))))))))
 refine Wk.lop (α:=Nat×Value) (fun gh=>[(5,true,gh.2),(7,true,.int .i64 (gh.1:Int))]) (fun gh=>[.row gh.2 128 40 (lookM s us gh.1).length ((lookM s us gh.1).flatMap Meta.cells)])
  (fun gh Gl=>gh.1≤5) (fun gh=>5-gh.1) (0,.slice none 0 0) [(1,true,_),(2,true,_)] [.blk b2 _]
  (esD rfl (esD rfl (esD rfl (esD rfl eZ))))
  (mS .here rfl (mS .here rfl mN)) ?_ ?_
 ·show 0≤5; omega
 intro gh N0 Gl0 hN0 hGl0 hF0
 obtain ⟨k,v⟩:=gh; dsimp only at hF0 hN0 ⊢
 have hk:k≤5:=hF0; have hn:=tot_mono s (show k≤5 by omega); have hal:=lookM_len s us k
 refine .seq (rq1 rfl rfl (cp rfl .no (.u rfl) (.u rfl) rfl (.nil (.code (.seq (.cond rfl (fun c1=>?_) (fun c1=>?_)))))))
 ·have c1k:=c1
  try simp only [qcA] at c1
  refine .skip (.code (.seq (.block (.seq (rq2 rfl rfl (mV rfl rfl (aS rfl rfl (.nil (.code (rq8 rfl rfl ?_))))))))))
  have hn1:=tot_mono s (show k+1≤5 by omega); rw [show tot s (k+1)=tot s k+(s.lv k).length from rfl] at hn1; have hov:=ovu_len s k us
  refine mV rfl rfl (lA rfl .no Fx.ag64 (.u rfl) (fun _=>RdN.own tk1) (fun _=>rfl) ?_)
  refine mV rfl rfl (mV rfl rfl (mV rfl rfl (kc rfl Fx.go91 (Evc rfl (Evc rfl (Evc rfl (Evc rfl Evn)))) (over_ok s hd _ (hs.mono hGl0) (k:Int) us us) ?_)))
  rintro v Ga μa hGa ⟨rfl,ha,rfl,hsa⟩
  refine ap rfl Fx.se60 Fx.zw128 rfl (.u rfl) (.u rfl) .here (flat_len (metas_len _)) (fun h=>⟨_,_,hsa.nn h,(hsa.flat (metas_len _)).rd⟩) (metas_one _) (by omega) (by unfold maxLen; omega) ?_; intro v16
  refine aS rfl rfl (.nil (.blk (.code (rq2 rfl rfl (ar rfl .no (.u rfl) (.u rfl) rfl (fun _=>wrap_i64 (by omega) (by omega)) ?_)))))
  refine mV rfl rfl (.nil (We.lpo (k+1,v16) ?_ ?_ ?_ ?_ ?_))
  ·exact (esD rfl (esD rfl (esD rfl (esD rfl eZ))))
  ·exact (mS .here (lookM_row s us k _ _) (mS .here rfl mN))
  ·first|omega|(dsimp only; omega)
  ·exact hGl0.trans hGa
  show k+1≤5; omega
 have c1k:=c1
 try simp only [qcA] at c1
 refine .exit (.xcode (.xlp (.xblk (.code (.seq (rq2 rfl rfl (mV rfl rfl (aS rfl rfl (.nil (.code (.ret (we_fr .here (fun b hb=>by cases hb) ?_))))))))))))
 intro Gf hh hlef hv hcap hnn hrd; subst hv
 refine We.fin0 Tryz.results44 (.tmp rfl .nil) ?_
 obtain rfl:k=5:=by omega
 exact ⟨rfl,hh,rfl,SlR.ofRow (metas_len _) hcap hnn hrd⟩
end Go.Proofs.YtggleibgadkodaaGreatDoor
namespace Go.Proofs.YtggleibgadkodaaGreatDoor
open Go.Tan Go.RowKit Go.Maps Go.Sort Go.Shelf
namespace FxGrY
theorem ag29:aggN Tryz.prog 29=some none:=by kernel_rfl
end FxGrY
namespace Fx
theorem go236:goFn Tryz.prog 236=true:=by kernel_rfl
theorem go235:goFn Tryz.prog 235=true:=by kernel_rfl
theorem go234:goFn Tryz.prog 234=true:=by kernel_rfl
theorem fo124_0:fOff Tryz.prog 124 0=some 0:=by kernel_rfl
theorem ag72:aggN Tryz.prog 72=some none:=by kernel_rfl
theorem go187:goFn Tryz.prog 187=true:=by kernel_rfl
theorem go188:goFn Tryz.prog 188=true:=by kernel_rfl
theorem fo124_6:fOff Tryz.prog 124 6=some 56:=by kernel_rfl
theorem go48:goFn Tryz.prog 48=true:=by kernel_rfl
theorem fo124_1:fOff Tryz.prog 124 1=some 1:=by kernel_rfl
theorem ag68:aggN Tryz.prog 68=some none:=by kernel_rfl
theorem go60:goFn Tryz.prog 60=true:=by kernel_rfl
theorem go132:goFn Tryz.prog 132=true:=by kernel_rfl
theorem go63:goFn Tryz.prog 63=true:=by kernel_rfl
theorem fo121_0:fOff Tryz.prog 121 0=some 0:=by kernel_rfl
theorem go47:goFn Tryz.prog 47=true:=by kernel_rfl
theorem pt44:ptT Tryz.prog 44=true:=by kernel_rfl
theorem fo124_15:fOff Tryz.prog 124 15=some 83:=by kernel_rfl
theorem fo124_16:fOff Tryz.prog 124 16=some 84:=by kernel_rfl
theorem go131:goFn Tryz.prog 131=true:=by kernel_rfl
theorem go64:goFn Tryz.prog 64=true:=by kernel_rfl
theorem go66:goFn Tryz.prog 66=true:=by kernel_rfl
end Fx
theorem idxT_ok (h:Sh) (l:List ByteArray) (x:ByteArray) (G:PM) (hs:SlR G 1 encT h l) (hl:l.length≤100000000):Ct Tryz.prog 236 ([h.val l.length,.string x]:List Value).toArray G [] (fun _ μ' u=>μ'=[]∧u=.int .i64 (idxZ (fun y=>x.toList == y.toList) l)):=by
 refine Ct.of Tryz.func236 rfl Tryz.ntmps236 rfl fun w0 hs0=>?_
 refine .seq (rq1 rfl rfl (aS rfl rfl (.nil (.code (.seq (.seq (rq3 rfl rfl (mV rfl rfl (ln rfl .no FxGrQ.sn261 (.u rfl) (mV rfl rfl (.nil (.code (.block ?_)))))))))))))
 refine Wk.lop (α:=Nat) (fun k=>[(8,true,.int .i64 (k:Int))]) (fun _=>[])
  (fun k Gl=>(k≤l.length)∧(∀ j y,j<k→l[j]? = some y→(x.toList == y.toList)=false)) (fun k=>l.length-k) 0 [(0,true,_),(1,true,_),(7,true,_)] []
  (esC rfl (by first|rfl|exact evi (by omega)) (esD rfl (esD rfl (esD rfl eZ))))
  mN ?_ ?_
 ·refine ⟨?_,?_⟩
  ·(try dsimp only)<;>(first|omega|rfl|assumption|(simp; done))
  (try dsimp only)<;>(exact fun j y h=>absurd h (Nat.not_lt_zero _))
 intro k N0 Gl0 hN0 hGl0 hF0
 try dsimp only at hF0 hN0 ⊢
 obtain ⟨hk,hno⟩:=hF0
 have hs:=hs.mono hGl0
 refine .seq (rq1 rfl rfl (cp rfl .no (.u rfl) (.u rfl) rfl (.nil (.code (.seq (.cond rfl (fun c1=>?_) (fun c1=>?_)))))))
 ·have c1k:=c1
  try simp only [qcA,qcB] at c1
  refine .skip (.code (.seq (.block (.seq (rq2 rfl rfl (mV rfl rfl (aS rfl rfl (.nil (.code (.seq (rq6 rfl rfl (mV rfl rfl (mV rfl rfl (mV rfl rfl (ih rfl .no FxGrQ.se261 (.u rfl) (.u rfl) (fun _=>by omega) (fun _=>by omega) (fun _=>hs.nn (k:=k) (by first|omega|(simp only [Bool.and_eq_true,decide_eq_true_eq] at hc; omega)|(simp only [List.length_cons,List.length_nil]; omega))) ?_)))))))))))))))
  obtain ⟨y,ey⟩:=getx (k:=k) (xs:=l) (by omega)
  refine ld rfl .no Fx.ag9 (.u rfl) (fun _=>(hs.at (by omega) ey 0 _ rfl).rd) ?_
  refine cs rfl .no (.u rfl) (.u rfl) rfl (.nil (.code (.cond rfl (fun c2=>?_) (fun c2=>?_))))
  ·have c2k:=c2
   try simp only [qcA,qcB] at c2
   refine .seq (rq2 rfl rfl (mV rfl rfl (aS rfl rfl (.nil (.code (.ret (We.fin0 Tryz.results236 (.tmp rfl .nil) ?_)))))))
   exact ⟨rfl,idz_hit hno ey (by simpa using c2k)⟩
  have c2k:=c2
  try simp only [qcA,qcB] at c2
  refine .skip (.blk (.code (rq2 rfl rfl (arn (((k+1):Nat):Int) rfl .no (.u rfl) (.u rfl) rfl (fun _=>by omega) (fun _=>wrap_i64 (by omega) (by omega)) ?_))))
  refine mV rfl rfl (.nil (We.lpo (k+1) ?_ ?_ ?_ ?_ ?_))
  ·exact (esC rfl (by first|rfl|exact evi (by omega)) (esD rfl (esD rfl (esD rfl eZ))))
  ·exact mN
  ·first|omega|(dsimp only; omega)
  ·exact hGl0
  refine ⟨?_,?_⟩
  ·(try dsimp only)<;>(first|omega|rfl|assumption|(simp; done))
  (try dsimp only)<;>(exact idz_step (p:=fun y=>x.toList == y.toList) hno ey (by simpa using c2k))
 have c1k:=c1
 try simp only [qcA,qcB] at c1
 refine .exit (.xcode (.xlp (.xblk (.code (.seq (rq1 rfl rfl (aS rfl rfl (.nil (.code (.ret (We.fin0 Tryz.results236 (.tmp rfl .nil) ?_)))))))))))
 exact ⟨rfl,idz_none hno (by omega)⟩
theorem contT_ok (h:Sh) (l:List ByteArray) (x:ByteArray) (G:PM) (hs:SlR G 1 encT h l) (hl:l.length≤100000000):Ct Tryz.prog 188 ([h.val l.length,.string x]:List Value).toArray G [] (fun _ μ' u=>μ'=[]∧u=.bool (l.any (fun y=>x.toList == y.toList))):=by
 refine Ct.of Tryz.func188 rfl Tryz.ntmps188 rfl fun w0 hs0=>?_
 refine .seq (rq1 rfl rfl (aS rfl rfl (.nil (.code (.seq (rq5 rfl rfl (mV rfl rfl (mV rfl rfl (kv rfl .no Fx.go236 (Evc rfl (Evc rfl Evn)) (fun _=>idxT_ok h l x _ hs hl) ?_)))))))))
 refine cp rfl .no (.u rfl) (.u rfl) rfl (aS rfl rfl (.nil (.code (.ret (We.fin0 Tryz.results188 (.tmp rfl .nil) ?_)))))
 exact ⟨rfl,congrArg Value.bool idz_ge⟩
theorem names_ok (bd bm room done clk:Nat) (F:List Fi) (G:PM) (hbd:PB G bd (cl (dkC bm room done) 178)) (hbm:PB G bm (mO (F.map Fi.fe) clk)) (hD:DkR F clk):Ct Tryz.prog 187 ([.pointer (some ⟨bd,0,none⟩)]:List Value).toArray G [] (fun G' μ' u=>∃ (h:Sh) (L:List ByteArray),(∀ s∈L,s∈F.map Fi.nm)∧L.length≤1000∧SlR G' 1 encT h L∧μ'=[]∧u=h.val L.length):=by
 refine Ct.of Tryz.func187 rfl Tryz.ntmps187 rfl fun w0 hs0=>?_
 refine .seq (rq1 rfl rfl (aS rfl rfl (.nil (.code (.seq (.seq (rq2 rfl rfl (mV rfl rfl (pe rfl .no Fx.pt72 (.u rfl) (.u rfl) ?_)))))))))
 refine .nil (.code (Wk.condF rfl rfl ?_))
 refine .skip (.code (.seq (rq7 rfl rfl (mV rfl rfl (nc rfl .no (.u rfl) (fa rfl .no Fx.fo178_0 (.u rfl) (ld rfl .no Fx.ag176 (.u rfl) (fun _=>(hbd.rd (rfl)).rd) ?_)))))))
 refine kc rfl Fx.go235 (Evc rfl Evn) (keysF_ok bm _) ?_
 rintro _ G9 μ9 hG9 ⟨b9,rfl,rfl⟩
 have hbm:=hbm.mono hG9
 refine ka rfl (.inr rfl) Fx.go234 (Evc rfl Evn) (mtk1 .here) (Ct.give fun hle=>sortedF_ok b9 bm clk F _ hD ⟨PM.add_same _ _ _⟩ (hbm.mono hle)) ?_
 rintro v10 G10 μ10 hG10 ⟨L10,hm10,hl10,rfl⟩
 refine aS rfl rfl (.nil (.code (.ret ?_)))
 refine we_fs .here (fun _ _=>rfl) (by intro b hb; cases hb) ?_; intro GfRN hRN hleRN evRN hsRN; subst evRN
 refine We.fin0 Tryz.results187 (.tmp rfl .nil) ?_
 exact ⟨_,L10,hm10,hl10,hsRN,rfl,rfl⟩
theorem sweep_ok (bx:Nat) (d:Db) (bm room done clk:Nat) (F:List Fi) (G:PM) (hbx:PB G bx (cl d.cells 124)) (hbd:PB G d.dk (cl (dkC bm room done) 178)) (hbm:PB G bm (mO (F.map Fi.fe) clk)) (hD:DkR F clk) (h:Sh) (l:List ByteArray) (hs:SlR G 1 encT h l) (hl:l.length≤100000) (hall:∀ f∈F,f.nm∈l):Ct Tryz.prog 137 ([pt bx,h.val l.length]:List Value).toArray G [] (fun _ μ' u=>μ'=[]∧u=.tuple #[]):=by
 refine Ct.of Tryz.func137 rfl Tryz.ntmps137 rfl fun w0 hs0=>?_
 refine .seq (rq7 rfl rfl (mV rfl rfl (nc rfl .no (.u rfl) (fa rfl .no Fx.fo124_0 (.u rfl) (ld rfl .no Fx.ag72 (.u rfl) (fun _=>(hbx.rd (rfl)).rd) ?_)))))
 refine kc rfl Fx.go187 (Evc rfl Evn) (names_ok d.dk bm room done clk F _ hbd hbm hD) ?_
 rintro _ G10 μ10 hG10 ⟨h10,L10,hm10,hl10,hs10,rfl,rfl⟩
 have hs:=hs.mono hG10
 refine ln rfl .no FxGrQ.sn261 (.u rfl) (mV rfl rfl (.nil (.code (.block ?_))))
 refine Wk.lop (α:=Nat) (fun k=>[(12,true,.int .i64 (k:Int))]) (fun _=>[])
  (fun k Gl=>(k≤L10.length)) (fun k=>L10.length-k) 0 [(0,true,_),(1,true,_),(10,true,_),(11,true,_)] []
  (esC rfl (by first|rfl|exact evi (by omega)) (esD rfl (esD rfl (esD rfl (esD rfl eZ)))))
  mN ?_ ?_
 ·(try dsimp only)<;>(first|omega|rfl|assumption|(simp; done))
 intro k N0 Gl0 hN0 hGl0 hF0
 try dsimp only at hF0 hN0 ⊢
 have hk:=hF0
 have hs:=hs.mono hGl0
 have hs10:=hs10.mono hGl0
 refine .seq (rq1 rfl rfl (cp rfl .no (.u rfl) (.u rfl) rfl (.nil (.code (.seq (.cond rfl (fun c1=>?_) (fun c1=>?_)))))))
 ·have c1k:=c1
  try simp only [qcA,qcB] at c1
  refine .skip (.code (.seq (.block (.seq (rq3 rfl rfl (ih rfl .no FxGrQ.se261 (.u rfl) (.u rfl) (fun _=>by omega) (fun _=>by omega) (fun _=>hs10.nn (k:=k) (by first|omega|(simp only [Bool.and_eq_true,decide_eq_true_eq] at hc; omega)|(simp only [List.length_cons,List.length_nil]; omega))) ?_))))))
  obtain ⟨y,ey⟩:=getx (k:=k) (xs:=L10) (by omega)
  refine ld rfl .no Fx.ag9 (.u rfl) (fun _=>(hs10.at (by omega) ey 0 _ rfl).rd) ?_
  refine aS rfl rfl (.nil (.code (.seq (rq4 rfl rfl (mV rfl rfl (mV rfl rfl (kv rfl .no Fx.go188 (Evc rfl (Evc rfl Evn)) (fun _=>contT_ok h l y _ hs (by omega)) ?_)))))))
  refine nt rfl .no (.u rfl) (.nil (.code (.cond rfl (fun c2=>?_) (fun c2=>?_))))
  ·have c2k:=c2
   have hq9:(l.any fun z=>y.toList == z.toList)=true:=by
    obtain ⟨f,hf,e⟩:=List.mem_map.1 (hm10 y (List.mem_of_getElem? ey))
    exact List.any_eq_true.2 ⟨y,by rw [← e]; exact hall f hf,by simp⟩
   rw [hq9] at c2; cases c2
  have c2k:=c2
  try simp only [qcA,qcB] at c2
  refine .skip (.blk (.code (rq2 rfl rfl (arn (((k+1):Nat):Int) rfl .no (.u rfl) (.u rfl) rfl (fun _=>by omega) (fun _=>wrap_i64 (by omega) (by omega)) ?_))))
  refine mV rfl rfl (.nil (We.lpo (k+1) ?_ ?_ ?_ ?_ ?_))
  ·exact (esC rfl (by first|rfl|exact evi (by omega)) (esD rfl (esD rfl (esD rfl (esD rfl eZ)))))
  ·exact mN
  ·first|omega|(dsimp only; omega)
  ·exact hGl0
  (try dsimp only)<;>(first|omega|rfl|assumption|(simp; done))
 have c1k:=c1
 try simp only [qcA,qcB] at c1
 refine .exit (.xcode (.xlp (.xblk (.nil (We.fin0 Tryz.results137 .nil ?_)))))
 exact ⟨rfl,rfl⟩
theorem dbnum_ok (bx:Nat) (d:Db) (G:PM) (hn:d.next.toNat<1000):Ct Tryz.prog 123 ([pt bx]:List Value).toArray G [.blk bx (cl (Db.cells d) 124)] (fun _ μ' u=>μ'=[.blk bx (cl (Db.cells { d with next:=d.next+1#64 }) 124)]∧u=uv .u64 d.next):=by
 refine Ct.of Tryz.func123 rfl Tryz.ntmps123 rfl fun w0 hs0=>?_
 have hn2:@BitVec.toNat IntKind.u64.bits d.next = @BitVec.toNat 64 d.next:=rfl
 refine .seq (rq1 rfl rfl (aS rfl rfl (.nil (.code (.seq (rq6 rfl rfl (mV rfl rfl (nc rfl .no (.u rfl) (fz rfl .no Fx.fo124_6 (.u rfl) (ld rfl .no Fx.ag41 (.u rfl) (fun _=>Rd.own .here rfl) ?_))))))))))
 refine cp rfl .no (.u rfl) (.u rfl) rfl (kv rfl .no Fx.go48 (Evc rfl Evn) (fun _=>dneed_ok _ (by simp; omega) _) ?_)
 refine .nil (.code (.seq (rq8 rfl rfl (mV rfl rfl (nc rfl .no (.u rfl) (fz rfl .no Fx.fo124_6 (.u rfl) (ld rfl .no Fx.ag41 (.u rfl) (fun _=>Rd.own .here rfl) ?_)))))))
 refine bw (k:=.u64) (b:=1#64) rfl .no rfl (.u rfl) (.u rfl) rfl (nc rfl .no (.u rfl) (fz rfl .no Fx.fo124_6 (.u rfl) (s1 rfl (.u rfl) (.u rfl) rfl FxGrS.sz41 .here (by show _<85; decide) (Db.p_next d _) ?_)))
 refine .nil (.code (.seq (rq6 rfl rfl (mV rfl rfl (nc rfl .no (.u rfl) (fz rfl .no Fx.fo124_6 (.u rfl) (ld rfl .no Fx.ag41 (.u rfl) (fun _=>Rd.own .here rfl) ?_)))))))
 refine bw (k:=.u64) (b:=1#64) rfl .no rfl (.u rfl) (.u rfl) rfl (aS rfl rfl (.nil (.code (.ret (We.fin Tryz.results123 (.tmp rfl .nil) (mS .here rfl mN) ?_)))))
 exact ⟨rfl,congrArg (uv .u64) (BitVec.add_sub_cancel d.next 1#64)⟩
theorem dmark_ok (bx bt:Nat) (d:Db) (m o:BitVec 64) (G:PM) (hbx:PB G bx (cl d.cells 124)) (ht:d.tr=bt) (hm:m.toNat≤1000):Ct Tryz.prog 67 ([pt bx]:List Value).toArray G [.blk bt (cl [uv .u64 (m),uv .u64 (o)] 175)] (fun _ μ' u=>μ'=[.blk bt (cl [uv .u64 (m+1#64),uv .u64 (o)] 175)]∧u=.tuple #[]):=by
 subst ht
 refine Ct.of Tryz.func67 rfl Tryz.ntmps67 rfl fun w0 hs0=>?_
 refine Wk.mixp ⟨true,false⟩ Fx.mix (by kernel_rfl) ?_
 refine Wp.one 0 (by kernel_rfl) ?_
 refine mV rfl rfl (.nil (Wp.one 1 (by kernel_rfl) ?_))
 refine nc rfl .no (.u rfl) (.nil (Wp.one 2 (by kernel_rfl) ?_))
 refine fa rfl .no Fx.fo124_1 (.u rfl) (.nil (Wp.one 4 (by kernel_rfl) ?_))
 refine mV rfl rfl (.nil (Wp.one 5 (by kernel_rfl) ?_))
 refine nc rfl .no (.u rfl) (.nil (Wp.one 6 (by kernel_rfl) ?_))
 refine fa rfl .no Fx.fo124_1 (.u rfl) (.nil (Wp.one 7 (by kernel_rfl) ?_))
 refine ld rfl .no Fx.ag68 (.u rfl) (fun _=>(hbx.rd (rfl)).rd) ?_
 refine .nil (Wp.pr 3 (by kernel_rfl) ?_)
 refine ld rfl .no Fx.ag68 (.u rfl) (fun _=>(hbx.rd (rfl)).rd) ?_
 refine .nil ⟨⟨rfl,rfl⟩,?_⟩
 refine Wp.b1 8 (by kernel_rfl) ?_
 refine kp rfl .no Fx.go60 (Evc rfl Evn) (Gp.add .here Gp.nil) (fun _ hle hq=>marks_ok d.tr m o _ ⟨PM.add_same _ _ _⟩) ?_
 refine .nil (Wp.one 9 (by kernel_rfl) ?_)
 refine bw (k:=.u64) (b:=1#64) rfl .no rfl (.u rfl) (.u rfl) rfl (.nil (Wp.b1 10 (by kernel_rfl) ?_))
 refine ka rfl (.inl rfl) Fx.go132 (Evc rfl (Evc rfl Evn)) (mtk1 .here) (mark_ok d.tr m o _ (by omega)) ?_
 rintro _ G12 μ12 hG12 ⟨rfl,rfl⟩
 refine .nil (Wp.b1 11 (by kernel_rfl) ?_)
 refine kv rfl .no Fx.go63 (Evc rfl Evn) (fun _=>must_ok _) ?_
 refine .nil (Wp.last (by kernel_rfl) ?_)
 refine .nil (We.fin Tryz.results67 .nil (mS .here rfl mN) ?_)
 exact ⟨rfl,rfl⟩
theorem called_ok (b o:Nat) (f:Fl) (G:PM) (hf:RdNP G b o f.cells) (hn:f.h.num.toNat<10):Ct Tryz.prog 65 ([.pointer (some ⟨b,o,none⟩)]:List Value).toArray G [] (fun _ μ' u=>μ'=[]∧u=.string (nmB f.h.kind.toNat f.h.num.toNat)):=by
 refine Ct.of Tryz.func65 rfl Tryz.ntmps65 rfl fun w0 hs0=>?_
 refine .seq (rq1 rfl rfl (aS rfl rfl (.nil (.code (.seq (Wk.draw (mc:=⟨false,false⟩) [0,1,2,3,4,5,6,7,8,9,10,11] Fx.mix (by kernel_rfl) ?_))))))
 refine mV rfl rfl (nc rfl .no (.u rfl) (fa rfl .no Fx.fo121_0 (.u rfl) (fa rfl .no Fx.fo119_0 (.u rfl) (ld rfl .no Fx.ag5 (.u rfl) (fun _=>(hf 0 _ rfl).rd) ?_))))
 refine mV rfl rfl (nc rfl .no (.u rfl) (fa rfl .no Fx.fo121_0 (.u rfl) (fa rfl .no Fx.fo119_4 (.u rfl) (ld rfl .no Fx.ag41 (.u rfl) (fun _=>(hf 4 _ rfl).rd) ?_))))
 refine kv rfl .no Fx.go47 (Evc rfl (Evc rfl Evn)) (fun _=>name_ok f.h.kind f.h.num _ hn) ?_
 refine aS rfl rfl (.nil (.code (.ret (We.fin0 Tryz.results65 (.tmp rfl .nil) ?_))))
 exact ⟨rfl,rfl⟩
theorem usable_ok (bx:Nat) (d:Db) (G:PM) (hbx:PB G bx (cl d.cells 124)):Ct Tryz.prog 40 ([pt bx]:List Value).toArray G [] (fun _ μ' u=>μ'=[]∧u=.int .i64 0):=by
 refine Ct.of Tryz.func40 rfl Tryz.ntmps40 rfl fun w0 hs0=>?_
 refine .seq (rq1 rfl rfl (aS rfl rfl (.nil (.code (.seq (.block (.seq (rq3 rfl rfl (mV rfl rfl (pe rfl .no Fx.pt44 (.u rfl) (.u rfl) ?_))))))))))
 refine aS rfl rfl (.nil (.code (.cond rfl (fun c1=>?_) (fun c1=>?_))))
 ·have c1k:=c1
  cases c1
 have c1k:=c1
 try simp only [qcA,qcB] at c1
 refine .seq (rq6 rfl rfl (mV rfl rfl (nc rfl .no (.u rfl) (fa rfl .no Fx.fo124_15 (.u rfl) (ld rfl .no FxGrY.ag29 (.u rfl) (fun _=>(hbx.rd (rfl)).rd) ?_)))))
 refine cp rfl .no (.u rfl) (.u rfl) rfl (aS rfl rfl (.nil (.code (.cond rfl (fun c2=>?_) (fun c2=>?_)))))
 ·have c2k:=c2
  exact absurd c2 (by decide)
 have c2k:=c2
 try simp only [qcA,qcB] at c2
 refine .seq (rq5 rfl rfl (mV rfl rfl (nc rfl .no (.u rfl) (fa rfl .no Fx.fo124_16 (.u rfl) (ld rfl .no FxGrQ.ag4 (.u rfl) (fun _=>(hbx.rd (rfl)).rd) ?_)))))
 refine aS rfl rfl (.nil (.code (.cond rfl (fun c3=>?_) (fun c3=>?_))))
 ·have c3k:=c3
  cases c3
 have c3k:=c3
 try simp only [qcA,qcB] at c3
 refine .skip (.blk (.code (.seq (rq1 rfl rfl (aS rfl rfl (.nil (.code (.ret (We.fin0 Tryz.results40 (.tmp rfl .nil) ?_)))))))))
 exact ⟨rfl,rfl⟩
theorem dbsync_ok (bx bm room done clk:Nat) (d:Db) (F:List Fi) (G:PM) (hbx:PB G bx (cl d.cells 124)) (hD:DkR F clk) (hd9:done≤200000000) (hr9:room≤1000000000) (nm:ByteArray) (f:Fi) (hn:goodN nm) (hf:fget nm F=some f):Ct Tryz.prog 66 ([pt bx,.string nm]:List Value).toArray G [.blk d.dk (cl (dkC bm room (done)) 178),.blk bm (mO ((F).map Fi.fe) (clk))] (fun _ μ' u=>μ'=[.blk d.dk (cl (dkC bm room (done+1)) 178),.blk bm (mO ((fsy nm F).map Fi.fe) (clk))]∧u=.tuple #[]):=by
 refine Ct.of Tryz.func66 rfl Tryz.ntmps66 rfl fun w0 hs0=>?_
 refine .seq (rq7 rfl rfl (mV rfl rfl (nc rfl .no (.u rfl) (fa rfl .no Fx.fo124_0 (.u rfl) (ld rfl .no Fx.ag72 (.u rfl) (fun _=>(hbx.rd (rfl)).rd) ?_)))))
 refine mV rfl rfl (ka rfl (.inr rfl) Fx.go131 (Evc rfl (Evc rfl Evn)) (mtk2 .here .here) (dSync_ok d.dk bm room done clk F _ hD (by omega) hr9 nm f hn hf) ?_)
 rintro _ G10 μ10 hG10 ⟨rfl,rfl⟩
 refine aS rfl rfl (.nil (.code (.seq (.seq (rq2 rfl rfl (mV rfl rfl (cp rfl .no (.u rfl) (.u rfl) rfl (.nil (.code (.cond rfl (fun c1=>?_) (fun c1=>?_)))))))))))
 ·have c1k:=c1
  exact absurd c1 (by decide)
 have c1k:=c1
 try simp only [qcA,qcB] at c1
 refine .skip (.code (rq2 rfl rfl (mV rfl rfl (kv rfl .no Fx.go63 (Evc rfl Evn) (fun _=>must_ok _) ?_))))
 refine .nil (.nil (We.fin Tryz.results66 .nil (mS .here rfl (mS .here rfl mN)) ?_))
 exact ⟨rfl,rfl⟩
theorem dbwrite_ok (bx bm room done clk:Nat) (d:Db) (F:List Fi) (G:PM) (hbx:PB G bx (cl d.cells 124)) (hD:DkR F clk) (hd9:done≤100000000) (hr9:room≤1000000000) (nm:ByteArray) (h:Sh) (xs:List Y) (hs:SlR G 1 encY h xs) (hn:goodN nm) (hab:fget nm F=none) (hx:xs.length≤1000000) (hfit:xs.length+szF F≤room) (hcf:F.length<100):Ct Tryz.prog 138 ([pt bx,.string nm,h.val xs.length]:List Value).toArray G [.blk d.dk (cl (dkC bm room (done)) 178),.blk bm (mO ((F).map Fi.fe) (clk))] (fun _ μ' u=>∃ F':List Fi,DkR F' (clk+1)∧F'.map Fi.nm=F.map Fi.nm++[nm]∧szF F'=szF F+xs.length∧μ'=[.blk d.dk (cl (dkC bm room (done+1+1)) 178),.blk bm (mO ((F').map Fi.fe) (clk+1))]∧u=.tuple #[]):=by
 refine Ct.of Tryz.func138 rfl Tryz.ntmps138 rfl fun w0 hs0=>?_
 refine .seq (rq8 rfl rfl (mV rfl rfl (nc rfl .no (.u rfl) (fa rfl .no Fx.fo124_0 (.u rfl) (ld rfl .no Fx.ag72 (.u rfl) (fun _=>(hbx.rd (rfl)).rd) ?_)))))
 refine mV rfl rfl (mV rfl rfl (ka rfl (.inr rfl) Fx.go64 (Evc rfl (Evc rfl (Evc rfl Evn))) (mtk2 .here .here) (dAppend_ok d.dk bm room done clk F _ hD (by omega) hr9 nm h xs hs hn hab (by omega) hfit) ?_))
 rintro _ G13 μ13 hG13 ⟨f,hfn,hfl,hfs,hfb,rfl,rfl⟩
 have hD2:DkR (F++[f]) (clk+1):=hD.app hfb (by omega) (by rw [hfn]; exact hab) (by rw [hfn]; exact hn.2) (by omega)
 have hg2:fget nm (F++[f])=some f:=fget_app hab hfn
 have hbx:=hbx.mono hG13
 refine aS rfl rfl (.nil (.code (.seq (rq2 rfl rfl (mV rfl rfl (kv rfl .no Fx.go63 (Evc rfl Evn) (fun _=>must_ok _) ?_))))))
 refine .nil (.code (rq3 rfl rfl (mV rfl rfl (mV rfl rfl (ka rfl (.inr rfl) Fx.go66 (Evc rfl (Evc rfl Evn)) (mtk2 .here .here) (dbsync_ok bx bm room (done+1) (clk+1) d (F++[f]) _ hbx hD2 (by omega) hr9 nm f hn hg2) ?_)))))
 rintro _ G18 μ18 hG18 ⟨rfl,rfl⟩
 refine .nil (.nil (We.fin Tryz.results138 .nil (mS .here rfl (mS .here rfl mN)) ?_))
 obtain ⟨hDn,hnn,hzn⟩:=wr_facts hD hfn hfl hfb hab hn.2 (by omega) hcf
 exact ⟨_,hDn,hnn,hzn,rfl,rfl⟩
namespace FxVerR
theorem se131:slE Tryz.prog 131=some (5,1,1):=by kernel_rfl
theorem zv5:(Tryz.prog.info? 5).bind (·.zero)=some (.int .u8 0):=by kernel_rfl
theorem cv41_5:cvK Tryz.prog 41 5=some .u8:=by kernel_rfl
theorem cv3_41:cvK Tryz.prog 3 41=some .u64:=by kernel_rfl
theorem cv5_41:cvK Tryz.prog 5 41=some .u64:=by kernel_rfl
end FxVerR
namespace Fx
theorem go121:goFn Tryz.prog 121=true:=by kernel_rfl
end Fx
theorem Num_ok (xs:List Y) (h:Sh) (G:PM) (hs:SlR G 1 encY h xs) (n:BitVec 64) (hl:xs.length≤100000000000000):Ct Tryz.prog 121 ([h.val xs.length,uv .u64 n]:List Value).toArray G [] (PR 5 (fun L=>L=xs++numN n.toNat)):=by
 refine Ct.of Tryz.func121 rfl Tryz.ntmps121 rfl fun w0 hs0=>?_
 have ln:=num_len10 n.isLt
 refine .seq (rq1 rfl rfl (aS rfl rfl (.nil (.code (.seq (rq4 rfl rfl ?_))))))
 refine b0B rfl FxVerR.se131 ?_; intro b6
 refine mV rfl rfl (apY0 rfl FxVerR.se131 FxVerR.zv5 (.u rfl) (.u rfl) .here hs.sc (by (try simp only [qlA,yl_len]); omega) ?_)
 intro v8 L8 _ ov8 eL8
 have lL8:L8.length=xs.length:=by rw [eL8]
 refine aS rfl rfl (.nil (.code (.seq (.block ?_))))
 refine Wk.lop (α:=BitVec 64×Value×List Y) (fun gh=>[(1,true,uv .u64 gh.1),(5,true,gh.2.1)]) (fun gh=>[rB gh.2.1 5 gh.2.2])
  (fun gh Gl=>(gh.2.2++numN gh.1.toNat=xs++numN n.toNat)) (fun gh=>gh.1.toNat) (n,v8,L8) [] []
  (esD rfl (esD rfl eZ))
  (mS .here rfl mN) ?_ ?_
 ·(try dsimp only)<;>(rw [eL8])
 intro gh N0 Gl0 hN0 hGl0 hF0
 obtain ⟨m,v,L⟩:=gh; dsimp only at hF0 hN0 ⊢
 have eq:=hF0
 have tq:@BitVec.toNat IntKind.u64.bits m=m.toNat:=rfl
 have lq:=congrArg List.length eq
 simp only [List.length_append] at lq
 have lp:=num_pos m.toNat
 refine .seq (.seq (rq2 rfl rfl (mV rfl rfl (cp rfl .no (.u rfl) (.u rfl) rfl (.nil (.code (.cond rfl (fun c1=>?_) (fun c1=>?_))))))))
 ·have c1k:=c1
  try simp only [qcA,qcC,qcB] at c1
  refine .skip (.code (.seq (.block (rq7 rfl rfl (mV rfl rfl (mV rfl rfl (cu (k:=.u64) rfl .no rfl FxVerR.cv41_5 (.u rfl) ?_)))))))
  refine bw (k:=.u8) (b:=128#8) rfl .no rfl (.u rfl) (.u rfl) rfl ?_
  refine Go.Tan.b1 rfl FxVerR.se131 FxVerR.zv5 (.u rfl) rfl rfl (by decide) ?_; intro b17
  refine apY rfl FxVerR.se131 FxVerR.zv5 (.u rfl) (.u rfl) tk1 (Sc.one .here) (by show _+1≤_; omega) ?_
  intro v18 L18 ov18 eL18
  have lL18:L18.length=L.length+1:=by rw [eL18,List.length_append]; first|rfl | simp [yl_len]
  refine aS rfl rfl (.nil (.blk (.code (rq3 rfl rfl (mV rfl rfl (rw' (k:=.u64) rfl .no (.u rfl) (.u rfl) (fun _=>by decide) ?_))))))
  refine aS rfl rfl (.nil (We.lpo (m >>> 7,v18,L18) ?_ ?_ ?_ ?_ ?_))
  ·exact (esD rfl (esD rfl eZ))
  ·exact (mS .here rfl mN)
  ·(dsimp only; rw [shr7]; omega)
  ·exact hGl0
  (try dsimp only)<;>(rw [eL18,←eq,num_more (m:=m) (by omega),List.append_assoc]; rfl)
 have c1k:=c1
 try simp only [qcA,qcC,qcB] at c1
 refine .exit (.xcode (.xlp (.xblk (.code (.seq (rq6 rfl rfl (mV rfl rfl (mV rfl rfl (cu (k:=.u64) rfl .no rfl FxVerR.cv41_5 (.u rfl) ?_)))))))))
 refine Go.Tan.b1 rfl FxVerR.se131 FxVerR.zv5 (.u rfl) rfl rfl (by decide) ?_; intro b22
 refine apY rfl FxVerR.se131 FxVerR.zv5 (.u rfl) (.u rfl) tk1 (Sc.one .here) (by show _+1≤_; omega) ?_
 intro v23 L23 ov23 eL23
 have lL23:L23.length=L.length+1:=by rw [eL23,List.length_append]; first|rfl | simp [yl_len]
 refine aS rfl rfl (.nil (.code (.ret (We.fin Tryz.results121 (.tmp rfl .nil) (mS .here rfl mN) ?_))))
 exact ⟨L23,by rw [eL23,←eq,num_last (m:=m) (by omega)]; rfl,rfl⟩
theorem Num_i (xs:List Y) (h:Sh) (G:PM) (hs:SlR G 1 encY h xs) (x:Int) (hx:u64 x) (hl:xs.length≤100000000000000):Ct Tryz.prog 121 ([h.val xs.length,.int .u64 x]:List Value).toArray G [] (PR 5 (fun L=>L=xs++numN x.toNat)):=by
 rw [uvI hx,←ofI hx]; exact Num_ok xs h G hs _ hl
theorem Str_ok (xs:List Y) (h:Sh) (G:PM) (hs:SlR G 1 encY h xs) (s:ByteArray) (hl:xs.length+s.size≤100000000000000):Ct Tryz.prog 122 ([h.val xs.length,.string s]:List Value).toArray G [] (PR 5 (fun L=>L=xs++strL (yb s))):=by
 refine Ct.of Tryz.func122 rfl Tryz.ntmps122 rfl fun w0 hs0=>?_
 have ly:=yb_len s
 have ln:=num_len10 (n:=s.size) (by omega)
 refine .seq (rq1 rfl rfl (aS rfl rfl (.nil (.code (.seq (rq8 rfl rfl (mV rfl rfl (mV rfl rfl (ls rfl .no Fx.st9 (.u rfl) (cw rfl .no FxVerR.cv3_41 (.u rfl) (fun _=>wrap_u64 (by omega) (by omega)) ?_))))))))))
 refine kc rfl Fx.go121 (Evc rfl (Evc rfl Evn)) (Ct.rowc (Num_i xs h _ hs (s.size:Int) ⟨by omega,by omega⟩ (by omega))) ?_
 rintro v9 G9 μ9 hG9 ⟨L9,ov9,eL9,rfl⟩
 refine mV rfl rfl ?_
 have l9:L9.length=xs.length+(numN s.size).length:=by rw [eL9,List.length_append,Int.toNat_natCast]
 refine apT rfl FxVerR.se131 Fx.st9 FxVerR.zv5 (.u rfl) (.u rfl) .here (by (try simp only [List.length_append]); omega) ?_; intro v11 L11 ov11 eL11
 refine aS rfl rfl (.nil (.code (.ret (We.fin Tryz.results122 (.tmp rfl .nil) (mS .here rfl mN) ?_))))
 exact ⟨L11,by rw [eL11,eL9,strL,ly,Int.toNat_natCast,List.append_assoc],rfl⟩
namespace Fx
theorem sz29:szT Tryz.prog 29=some 1:=by kernel_rfl
end Fx
namespace Fx
theorem se142:slE Tryz.prog 142=some (41,1,8):=by kernel_rfl
theorem sn142:(slE Tryz.prog 142).isSome=true:=by kernel_rfl
end Fx
theorem numbers_ok (xs:List Y) (h:Sh) (ns:List Int) (hn:Sh) (G:PM) (hs:SlR G 1 encY h xs) (hsn:SlR G 1 encQ hn ns) (hu:∀ x∈ns,u64 x) (hl:xs.length+10*ns.length≤100000000000000):Ct Tryz.prog 225 ([h.val xs.length,hn.val ns.length]:List Value).toArray G [] (fun G' μ' u=>∃ (s:Sh) (L:List Y),L=xs++numsL ns∧μ'=[]∧u=s.val L.length∧SlR G' 1 encY s L):=by
 refine Ct.of Tryz.func225 rfl Tryz.ntmps225 rfl fun w0 hs0=>?_
 refine .seq (rq1 rfl rfl (aS rfl rfl (.nil (.code (.seq (.seq (rq3 rfl rfl (mV rfl rfl (ln rfl .no Fx.sn142 (.u rfl) (mV rfl rfl (.nil (.code (.block ?_)))))))))))))
 refine Wk.lop (α:=Nat×Sh×List Y) (fun gh=>[(0,true,gh.2.1.val gh.2.2.length),(9,true,.int .i64 (gh.1:Int))]) (fun _=>[])
  (fun gh Gl=>(gh.1≤ns.length)∧(gh.2.2=xs++numsL (ns.take gh.1))∧(SlR Gl 1 encY gh.2.1 gh.2.2)) (fun gh=>ns.length-gh.1) (0,h,xs) [(7,true,_),(8,true,_)] []
  (esD rfl (esC rfl (by first|rfl|exact evi (by omega)) (esD rfl (esD rfl eZ))))
  mN ?_ ?_
 ·refine ⟨?_,?_,?_⟩
  ·(try dsimp only)<;>(first|omega|rfl|assumption|(simp; done))
  ·(try dsimp only)<;>(simp [numsL])
  (try dsimp only)<;>(exact hs)
 intro gh N0 Gl0 hN0 hGl0 hF0
 obtain ⟨k,h0,L⟩:=gh; dsimp only at hF0 hN0 ⊢
 obtain ⟨hk,eL,hsl⟩:=hF0
 have hsn:=hsn.mono hGl0
 have lt:=numsL_take hu k
 have lL:L.length=xs.length+(numsL (ns.take k)).length:=by rw [eL,List.length_append]
 refine .seq (rq1 rfl rfl (cp rfl .no (.u rfl) (.u rfl) rfl (.nil (.code (.seq (.cond rfl (fun c1=>?_) (fun c1=>?_)))))))
 ·have c1k:=c1
  try simp only [qcA,qcB] at c1
  refine .skip (.code (.seq (.block (.seq (rq3 rfl rfl (ih rfl .no Fx.se142 (.u rfl) (.u rfl) (fun _=>by omega) (fun _=>by omega) (fun _=>hsn.nn (k:=k) (by first|omega|(simp only [Bool.and_eq_true,decide_eq_true_eq] at hc; omega)|(simp only [List.length_cons,List.length_nil]; omega))) ?_))))))
  obtain ⟨x12,ex12⟩:=getx (k:=k) (xs:=ns) (by omega)
  refine ld rfl .no FxVerP.ag41 (.u rfl) (fun _=>(hsn.u1 k (by omega) ex12).rd) ?_
  refine aS rfl rfl (.nil (.code (rq4 rfl rfl (mV rfl rfl (mV rfl rfl (kc rfl Fx.go121 (Evc rfl (Evc rfl Evn)) (Ct.frzB (Num_i L h0 _ hsl x12 (hu x12 (List.mem_of_getElem? ex12)) (by omega))) ?_))))))
  rintro _ G15 μ15 hG15 ⟨h15,L15,eL15,rfl,rfl,hs15⟩
  have hsl:=hsl.mono hG15
  refine aS rfl rfl (.nil (.blk (.code (rq2 rfl rfl (arn (((k+1):Nat):Int) rfl .no (.u rfl) (.u rfl) rfl (fun _=>by omega) (fun _=>wrap_i64 (by omega) (by omega)) ?_)))))
  refine mV rfl rfl (.nil (We.lpo (k+1,h15,L15) ?_ ?_ ?_ ?_ ?_))
  ·exact (esD rfl (esC rfl (by first|rfl|exact evi (by omega)) (esD rfl (esD rfl eZ))))
  ·exact mN
  ·first|omega|(dsimp only; omega)
  ·exact (hGl0).trans hG15
  refine ⟨?_,?_,?_⟩
  ·(try dsimp only)<;>(first|omega|rfl|assumption|(simp; done))
  ·(try dsimp only)<;>(rw [eL15,eL,numsL_snoc ex12,List.append_assoc])
  (try dsimp only)<;>(exact hs15)
 have c1k:=c1
 try simp only [qcA,qcB] at c1
 refine .exit (.xcode (.xlp (.xblk (.code (.seq (rq2 rfl rfl (mV rfl rfl (aS rfl rfl (.nil (.code (.ret (We.fin0 Tryz.results225 (.tmp rfl .nil) ?_))))))))))))
 obtain rfl:k=ns.length:=by omega
 rw [List.take_length] at eL
 exact ⟨h0,L,eL,rfl,rfl,hsl⟩
namespace Fx
theorem ag4:aggN Tryz.prog 4=some none:=by kernel_rfl
theorem sz4:szT Tryz.prog 4=some 1:=by kernel_rfl
end Fx
namespace FxVerW
theorem ar71:arE Tryz.prog 71=some (32,5,1):=by kernel_rfl
end FxVerW
namespace Fx
theorem fo128_2:fOff Tryz.prog 128 2=some 2:=by kernel_rfl
theorem fo128_8:fOff Tryz.prog 128 8=some 8:=by kernel_rfl
end Fx
namespace Fx
theorem zq163:zrL Tryz.prog 163=some (nine (fun _=>0)++[.slice none 0 0,.slice none 0 0]):=by kernel_rfl
theorem fo163_0:fOff Tryz.prog 163 0=some 0:=by kernel_rfl
theorem fo163_1:fOff Tryz.prog 163 1=some 1:=by kernel_rfl
theorem fo163_2:fOff Tryz.prog 163 2=some 2:=by kernel_rfl
theorem fo163_3:fOff Tryz.prog 163 3=some 3:=by kernel_rfl
theorem fo163_4:fOff Tryz.prog 163 4=some 4:=by kernel_rfl
theorem fo163_5:fOff Tryz.prog 163 5=some 9:=by kernel_rfl
theorem sz60:szT Tryz.prog 60=some 1:=by kernel_rfl
theorem zr240:zrL Tryz.prog 240=some ([.int .u8 0,.int .u64 0]):=by kernel_rfl
theorem sz240:szT Tryz.prog 240=some 2:=by kernel_rfl
theorem fo240_1:fOff Tryz.prog 240 1=some 1:=by kernel_rfl
theorem fo163_6:fOff Tryz.prog 163 6=some 10:=by kernel_rfl
theorem ag161:aggN Tryz.prog 161=some none:=by kernel_rfl
theorem ag240:aggN Tryz.prog 240=some (some 2):=by kernel_rfl
theorem se161:slE Tryz.prog 161=some (240,2,16):=by kernel_rfl
theorem sz163:szT Tryz.prog 163=some 11:=by kernel_rfl
theorem ag163:aggN Tryz.prog 163=some (some 11):=by kernel_rfl
end Fx
namespace Fx
theorem zv41:(Tryz.prog.info? 41).bind (·.zero)=some (.int .u64 0):=by kernel_rfl
theorem go225:goFn Tryz.prog 225=true:=by kernel_rfl
theorem go122:goFn Tryz.prog 122=true:=by kernel_rfl
theorem sn161:(slE Tryz.prog 161).isSome=true:=by kernel_rfl
theorem fo240_0:fOff Tryz.prog 240 0=some 0:=by kernel_rfl
end Fx
set_option maxHeartbeats 2000000 in
theorem encode_ok (e:Edit) (ha hd:Sh) (G:PM) (he:EdR G e ha hd) (hla:e.add.length≤1000000) (hld:e.drop.length≤1000000) (hlm:(e.add.flatMap encM).length≤10000000000000):Ct Tryz.prog 182 ([e.val ha hd]:List Value).toArray G [] (fun G' μ' u=>∃ (s:Sh) (L:List Y),L=encE e∧μ'=[]∧u=s.val L.length∧SlR G' 1 encY s L):=by
 refine Ct.of Tryz.func182 rfl Tryz.ntmps182 rfl fun w0 hs0=>?_
 have hea:=he.add; have hed:=he.drop; have hw:=he.wf; have hw1:=hw.log; have hw2:=hw.next; have hw3:=hw.seq; have hw4:=hw.least; have lgn:(gensL e).length=5:=rfl
 refine .seq (rq2 rfl rfl ?_)
 refine bx rfl (.u rfl) rfl ?_; intro b1
 refine aS rfl rfl (.nil (.code (.seq ?_)))
 refine wk_fz .here (by intro b hb; cases hb) ?_; intro Gfb1 hleb1 hbb1
 have hea:=hea.mono hleb1
 have hed:=hed.mono hleb1
 have hgn:=gens_sl hbb1
 refine Wk.rg [0,1,2,3,4,5,6,7,8,9,10] rfl rfl (fa rfl .no Fx.fo163_0 (.u rfl) (ld rfl .no FxVerP.ag41 (.u rfl) (fun _=>(hbb1.rd (by rfl)).rd) ?_))
 refine fa rfl .no Fx.fo163_1 (.u rfl) (ld rfl .no FxVerP.ag41 (.u rfl) (fun _=>(hbb1.rd (by rfl)).rd) ?_)
 refine fa rfl .no Fx.fo163_2 (.u rfl) (ld rfl .no FxVerP.ag41 (.u rfl) (fun _=>(hbb1.rd (by rfl)).rd) ?_)
 refine fa rfl .no Fx.fo163_3 (.u rfl) (ld rfl .no FxVerP.ag41 (.u rfl) (fun _=>(hbb1.rd (by rfl)).rd) ?_)
 refine bQ [e.log,e.next,e.seq,e.least] rfl Fx.se142 Fx.zv41 (Evp.cons (.u rfl) (Evp.cons (.u rfl) (Evp.cons (.u rfl) (Evp.cons (.u rfl) Evp.nil)))) rfl rfl (by decide) ?_; intro G16 h16 hG16 hs16
 have hea:=hea.mono hG16
 have hed:=hed.mono hG16
 have hbb1:=hbb1.mono hG16
 have hgn:=hgn.mono hG16
 refine kc rfl Fx.go225 (Evc rfl (Evc rfl Evn)) (numbers_ok ([]:List Y) ⟨none,0⟩ [e.log,e.next,e.seq,e.least] h16 _ SlR.nul hs16 (q4 hw1 hw2 hw3 hw4) (by simp only [List.length_cons,List.length_nil]; omega)) ?_
 rintro _ G17 μ17 hG17 ⟨h17,L17,eL17,rfl,rfl,hs17⟩
 have lL17:L17.length≤([]:List Y).length+10*([e.log,e.next,e.seq,e.least]:List Int).length:=by rw [eL17,List.length_append]; have:=numsL_len (ns:=[e.log,e.next,e.seq,e.least]) (q4 hw1 hw2 hw3 hw4); omega
 try simp only [List.length_cons,List.length_nil] at lL17
 have hea:=hea.mono hG17
 have hed:=hed.mono hG17
 have hbb1:=hbb1.mono hG17
 have hgn:=hgn.mono hG17
 refine aS rfl rfl (.nil (.code (.seq (Wk.mix ⟨false,false⟩ FxVerP.mix (by kernel_rfl) ?_))))
 refine Wt.one 0 (by kernel_rfl) ?_
 refine mV rfl rfl (.nil (Wt.one 1 (by kernel_rfl) ?_))
 refine fa rfl .no Fx.fo163_4 (.u rfl) (.nil (Wt.one 2 (by kernel_rfl) ?_))
 refine sa0 rfl .no Fx.ar62 (.u rfl) (.nil (Wt.one 4 (by kernel_rfl) ?_))
 refine fa rfl .no Fx.fo163_5 (.u rfl) (.nil (Wt.one 5 (by kernel_rfl) ?_))
 refine ld rfl .no Fx.ag60 (.u rfl) (fun _=>(hbb1.rd (by rfl)).rd) ?_
 refine .nil (Wt.one 6 (by kernel_rfl) ?_)
 refine ln rfl .no Fx.sn60 (.u rfl) (.nil (Wt.one 7 (by kernel_rfl) ?_))
 refine cw rfl .no FxVerR.cv3_41 (.u rfl) (fun _=>wrap_u64 (by omega) (by omega)) ?_
 refine .nil (Wt.b2 3 8 (by kernel_rfl) ?_ ?_)
 ·refine kc rfl Fx.go225 (Evc rfl (Evc rfl Evn)) (numbers_ok L17 h17 (gensL e) ⟨some ⟨b1,4,none⟩,5⟩ _ hs17 hgn (gens_u hw) (by show _+10*5≤_; omega)) ?_
  rintro _ G21 μ21 hG21 ⟨h21,L21,eL21,rfl,rfl,hs21⟩
  have lL21:L21.length≤L17.length+10*((gensL e):List Int).length:=by rw [eL21,List.length_append]; have:=numsL_len (ns:=(gensL e)) (gens_u hw); omega
  try simp only [List.length_cons,List.length_nil] at lL21
  have hea:=hea.mono hG21
  have hed:=hed.mono hG21
  have hbb1:=hbb1.mono hG21
  have hgn:=hgn.mono hG21
  have hs17:=hs17.mono hG21
  refine .nil (Wt.b1 8 (by kernel_rfl) ?_)
  refine bQ [(e.add.length:Int)] rfl Fx.se142 Fx.zv41 (Evp.cons (.u rfl) Evp.nil) rfl rfl (by decide) ?_; intro G26 h26 hG26 hs26
  have hea:=hea.mono hG26
  have hed:=hed.mono hG26
  have hbb1:=hbb1.mono hG26
  have hgn:=hgn.mono hG26
  have hs17:=hs17.mono hG26
  have hs21:=hs21.mono hG26
  refine .nil (Wt.b1 9 (by kernel_rfl) ?_)
  refine kc rfl Fx.go225 (Evc rfl (Evc rfl Evn)) (numbers_ok L21 h21 [(e.add.length:Int)] h26 _ hs21 hs26 (q1 (u64_len (by omega))) (by simp only [List.length_cons,List.length_nil]; omega)) ?_
  rintro _ G27 μ27 hG27 ⟨h27,L27,eL27,rfl,rfl,hs27⟩
  have lL27:L27.length≤L21.length+10*([(e.add.length:Int)]:List Int).length:=by rw [eL27,List.length_append]; have:=numsL_len (ns:=[(e.add.length:Int)]) (q1 (u64_len (by omega))); omega
  try simp only [List.length_cons,List.length_nil] at lL27
  have hea:=hea.mono hG27
  have hed:=hed.mono hG27
  have hbb1:=hbb1.mono hG27
  have hgn:=hgn.mono hG27
  have hs17:=hs17.mono hG27
  have hs21:=hs21.mono hG27
  have hs26:=hs26.mono hG27
  refine .nil (Wt.one 10 (by kernel_rfl) ?_)
  refine aS rfl rfl (.nil (Wt.last (by kernel_rfl) ?_))
  refine .code (.seq (.seq (rq4 rfl rfl (fa rfl .no Fx.fo163_5 (.u rfl) (ld rfl .no Fx.ag60 (.u rfl) (fun _=>(hbb1.rd (by rfl)).rd) ?_)))))
  refine ln rfl .no Fx.sn60 (.u rfl) (mV rfl rfl (.nil (.code (.block ?_))))
  refine Wk.lop (α:=Nat×Sh×List Y) (fun gh=>[(3,true,gh.2.1.val gh.2.2.length),(31,true,.int .i64 (gh.1:Int))]) (fun _=>[])
   (fun gh Gl=>(gh.1≤e.add.length)∧(gh.2.2=L27++(e.add.take gh.1).flatMap encM)∧(SlR Gl 1 encY gh.2.1 gh.2.2)) (fun gh=>e.add.length-gh.1) (0,h27,L27) [(1,true,_),(29,true,_),(30,true,_)] []
   (esD rfl (esC rfl (by first|rfl|exact evi (by omega)) (esD rfl (esD rfl (esD rfl eZ)))))
   mN ?_ ?_
  ·refine ⟨?_,?_,?_⟩
   ·(try dsimp only)<;>(first|omega|rfl|assumption|(simp; done))
   ·(try dsimp only)<;>(simp)
   (try dsimp only)<;>(exact hs27)
  intro gh N0 Gl0 hN0 hGl0 hF0
  obtain ⟨k,h3,L3⟩:=gh; dsimp only at hF0 hN0 ⊢
  obtain ⟨hk,eL,hsl⟩:=hF0
  have hea:=hea.mono hGl0
  have hed:=hed.mono hGl0
  have hbb1:=hbb1.mono hGl0
  have hgn:=hgn.mono hGl0
  have hs17:=hs17.mono hGl0
  have hs21:=hs21.mono hGl0
  have hs26:=hs26.mono hGl0
  have hs27:=hs27.mono hGl0
  have lk:=flat_take_le (f:=encM) (xs:=e.add) k
  have lL:L3.length=L27.length+((e.add.take k).flatMap encM).length:=by rw [eL,List.length_append]
  refine .seq (rq1 rfl rfl (cp rfl .no (.u rfl) (.u rfl) rfl (.nil (.code (.seq (.cond rfl (fun c1=>?_) (fun c1=>?_)))))))
  ·have c1k:=c1
   try simp only [qcA,qcB] at c1
   refine .skip (.code (.seq (.block (.seq (rq4 rfl rfl (ih rfl .no Fx.se60 (.u rfl) (.u rfl) (fun _=>by omega) (fun _=>by omega) (fun _=>hea.nn (k:=k) (by first|omega|(simp only [Bool.and_eq_true,decide_eq_true_eq] at hc; omega)|(simp only [List.length_cons,List.length_nil]; omega))) ?_))))))
   obtain ⟨m,em⟩:=getx (k:=k) (xs:=e.add) (by omega)
   refine lA rfl .no Fx.ag128 (.u rfl) (fun _=>(hea.at (by omega) em).rd) (fun _=>Meta.len _) ?_
   refine al rfl Fx.zq128 ?_; intro b5
   refine sw rfl (.u rfl) (.u rfl) rfl Fx.sz128 .here rfl (Meta.one _) ?_
   refine .nil (.code (.seq ?_))
   refine wk_fz .here (by intro b hb; cases hb) ?_; intro Gfb5 hleb5 hbb5
   have hea:=hea.mono hleb5
   have hed:=hed.mono hleb5
   have hbb1:=hbb1.mono hleb5
   have hgn:=hgn.mono hleb5
   have hs17:=hs17.mono hleb5
   have hs21:=hs21.mono hleb5
   have hs26:=hs26.mono hleb5
   have hs27:=hs27.mono hleb5
   have hsl:=hsl.mono hleb5
   have hwm:=hw.add m (List.mem_of_getElem? em); have w1:=hwm.level; have w2:=hwm.gen; have w3:=hwm.epoch; have w4:=hwm.number; have l6:=u64_6 hwm; have lt:=flat_take (f:=encM) em; have lg:=encM_ge m
   refine Wk.rg [0,1,2,3,4,5,6,7,8,9,10,11,12,13,14,15,16,17,18] rfl rfl (mV rfl rfl (fa rfl .no Fx.fo128_0 (.u rfl) (ld rfl .no FxVerP.ag5 (.u rfl) (fun _=>(hbb5.rd (by rfl)).rd) ?_)))
   refine cw rfl .no FxVerR.cv5_41 (.u rfl) (fun _=>wrap_u64 (by omega) (by omega)) ?_
   refine fa rfl .no Fx.fo128_1 (.u rfl) (ld rfl .no FxVerP.ag41 (.u rfl) (fun _=>(hbb5.rd (by rfl)).rd) ?_)
   refine fa rfl .no Fx.fo128_2 (.u rfl) (ld rfl .no FxVerP.ag41 (.u rfl) (fun _=>(hbb5.rd (by rfl)).rd) ?_)
   refine fa rfl .no Fx.fo128_3 (.u rfl) (ld rfl .no FxVerP.ag41 (.u rfl) (fun _=>(hbb5.rd (by rfl)).rd) ?_)
   refine fa rfl .no Fx.fo128_4 (.u rfl) (ld rfl .no FxVerP.ag3 (.u rfl) (fun _=>(hbb5.rd (by rfl)).rd) ?_)
   refine cv rfl .no FxVerR.cv3_41 (.u rfl) (fa rfl .no Fx.fo128_5 (.u rfl) (ld rfl .no FxVerP.ag3 (.u rfl) (fun _=>(hbb5.rd (by rfl)).rd) ?_))
   refine cv rfl .no FxVerR.cv3_41 (.u rfl) ?_
   refine bQ [m.level,m.gen,m.epoch,m.number,IntKind.u64.wrap m.size,IntKind.u64.wrap m.count] rfl Fx.se142 Fx.zv41 (Evp.cons (.u rfl) (Evp.cons (.u rfl) (Evp.cons (.u rfl) (Evp.cons (.u rfl) (Evp.cons (.u rfl) (Evp.cons (.u rfl) Evp.nil)))))) rfl rfl (by decide) ?_; intro G51 h51 hG51 hs51
   have hea:=hea.mono hG51
   have hed:=hed.mono hG51
   have hbb1:=hbb1.mono hG51
   have hgn:=hgn.mono hG51
   have hs17:=hs17.mono hG51
   have hs21:=hs21.mono hG51
   have hs26:=hs26.mono hG51
   have hs27:=hs27.mono hG51
   have hsl:=hsl.mono hG51
   have hbb5:=hbb5.mono hG51
   refine kc rfl Fx.go225 (Evc rfl (Evc rfl Evn)) (numbers_ok L3 h3 [m.level,m.gen,m.epoch,m.number,IntKind.u64.wrap m.size,IntKind.u64.wrap m.count] h51 _ hsl hs51 l6 (by simp only [List.length_cons,List.length_nil]; omega)) ?_
   rintro _ G52 μ52 hG52 ⟨h52,L52,eL52,rfl,rfl,hs52⟩
   have lL52:L52.length≤L3.length+10*([m.level,m.gen,m.epoch,m.number,IntKind.u64.wrap m.size,IntKind.u64.wrap m.count]:List Int).length:=by rw [eL52,List.length_append]; have:=numsL_len (ns:=[m.level,m.gen,m.epoch,m.number,IntKind.u64.wrap m.size,IntKind.u64.wrap m.count]) l6; omega
   try simp only [List.length_cons,List.length_nil] at lL52
   have hea:=hea.mono hG52
   have hed:=hed.mono hG52
   have hbb1:=hbb1.mono hG52
   have hgn:=hgn.mono hG52
   have hs17:=hs17.mono hG52
   have hs21:=hs21.mono hG52
   have hs26:=hs26.mono hG52
   have hs27:=hs27.mono hG52
   have hsl:=hsl.mono hG52
   have hbb5:=hbb5.mono hG52
   have hs51:=hs51.mono hG52
   refine aS rfl rfl (.nil (.code (Wk.draw (mc:=⟨false,false⟩) [0,1,2,4,5,7,8,3,6,9,10] FxVerP.mix (by kernel_rfl) ?_)))
   refine mV rfl rfl (fa rfl .no Fx.fo128_6 (.u rfl) (ld rfl .no Fx.ag9 (.u rfl) (fun _=>(hbb5.rd (by rfl)).rd) ?_))
   refine fa rfl .no Fx.fo128_7 (.u rfl) (ld rfl .no Fx.ag9 (.u rfl) (fun _=>(hbb5.rd (by rfl)).rd) ?_)
   refine fa rfl .no Fx.fo128_8 (.u rfl) ?_
   refine kA rfl .no FxVerW.ar71 (.u rfl) hbb5 (meta_ba hwm) ?_; intro h61 L61 eL61 lL61 hs61
   have ly:=yb_len m.min; have ly2:=yb_len m.max
   refine kc rfl Fx.go122 (Evc rfl (Evc rfl Evn)) (Ct.frzB (Str_ok L52 h52 _ hs52 m.min (by omega))) ?_
   rintro _ G56 μ56 hG56 ⟨h56,L56,eL56,rfl,rfl,hs56⟩
   have hea:=hea.mono hG56
   have hed:=hed.mono hG56
   have hbb1:=hbb1.mono hG56
   have hgn:=hgn.mono hG56
   have hs17:=hs17.mono hG56
   have hs21:=hs21.mono hG56
   have hs26:=hs26.mono hG56
   have hs27:=hs27.mono hG56
   have hsl:=hsl.mono hG56
   have hbb5:=hbb5.mono hG56
   have hs51:=hs51.mono hG56
   have hs52:=hs52.mono hG56
   have hs61:=hs61.mono hG56
   have l56:L56.length≤L52.length+(m.min.size+10):=by rw [eL56,List.length_append]; have:=strL_len (xs:=yb m.min) (by omega); omega
   refine kc rfl Fx.go122 (Evc rfl (Evc rfl Evn)) (Ct.rowc (Str_ok L56 h56 _ hs56 m.max (by omega))) ?_
   rintro v59 G59 μ59 hG59 ⟨L59,ov59,eL59,rfl⟩
   have hea:=hea.mono hG59
   have hed:=hed.mono hG59
   have hbb1:=hbb1.mono hG59
   have hgn:=hgn.mono hG59
   have hs17:=hs17.mono hG59
   have hs21:=hs21.mono hG59
   have hs26:=hs26.mono hG59
   have hs27:=hs27.mono hG59
   have hsl:=hsl.mono hG59
   have hbb5:=hbb5.mono hG59
   have hs51:=hs51.mono hG59
   have hs52:=hs52.mono hG59
   have hs61:=hs61.mono hG59
   have hs56:=hs56.mono hG59
   have l59:L59.length≤L56.length+(m.max.size+10):=by rw [eL59,List.length_append]; have:=strL_len (xs:=yb m.max) (by omega); omega
   refine apY rfl FxVerR.se131 FxVerR.zv5 (.u rfl) (.u rfl) .here hs61.sc (by (try simp only [qlA,yl_len]); omega) ?_
   intro v62 L62 ov62 eL62
   have lL62:L62.length=L59.length+L61.length:=by rw [eL62,List.length_append]
   refine aS rfl rfl (.nil (.blk (.code ?_)))
   refine wk_fb .here (by first|(intro b hb; cases hb; done) | simp [keys,Res.keys]) ?_; intro GfR59 hR59 hleR59 evR59 hsR59; subst evR59
   have hea:=hea.mono hleR59
   have hed:=hed.mono hleR59
   have hbb1:=hbb1.mono hleR59
   have hgn:=hgn.mono hleR59
   have hs17:=hs17.mono hleR59
   have hs21:=hs21.mono hleR59
   have hs26:=hs26.mono hleR59
   have hs27:=hs27.mono hleR59
   have hsl:=hsl.mono hleR59
   have hbb5:=hbb5.mono hleR59
   have hs51:=hs51.mono hleR59
   have hs52:=hs52.mono hleR59
   have hs61:=hs61.mono hleR59
   have hs56:=hs56.mono hleR59
   refine rq2 rfl rfl (arn (((k+1):Nat):Int) rfl .no (.u rfl) (.u rfl) rfl (fun _=>by omega) (fun _=>wrap_i64 (by omega) (by omega)) ?_)
   refine mV rfl rfl (.nil (We.lpo (k+1,hR59,L62) ?_ ?_ ?_ ?_ ?_))
   ·exact (esD rfl (esC rfl (by first|rfl|exact evi (by omega)) (esD rfl (esD rfl (esD rfl eZ)))))
   ·exact mN
   ·first|omega|(dsimp only; omega)
   ·exact ((((((hGl0).trans hleb5).trans hG51).trans hG52).trans hG56).trans hG59).trans hleR59
   refine ⟨?_,?_,?_⟩
   ·(try dsimp only)<;>(first|omega|rfl|assumption|(simp; done))
   ·(try dsimp only)<;>(rw [eL62,eL59,eL56,eL52,eL61,encM_eq,eL,flat_snoc em,List.append_assoc])
   (try dsimp only)<;>(exact hsR59)
  have c1k:=c1
  try simp only [qcA,qcB] at c1
  refine .exit (.xcode (.xlp (.xblk (.code (.seq (rq8 rfl rfl (mV rfl rfl (fa rfl .no Fx.fo163_6 (.u rfl) (ld rfl .no Fx.ag161 (.u rfl) (fun _=>(hbb1.rd (by rfl)).rd) ?_)))))))))
  refine ln rfl .no Fx.sn161 (.u rfl) (cw rfl .no FxVerR.cv3_41 (.u rfl) (fun _=>wrap_u64 (by omega) (by omega)) ?_)
  refine bQ [(e.drop.length:Int)] rfl Fx.se142 Fx.zv41 (Evp.cons (.u rfl) Evp.nil) rfl rfl (by decide) ?_; intro G69 h69 hG69 hs69
  have hea:=hea.mono hG69
  have hed:=hed.mono hG69
  have hbb1:=hbb1.mono hG69
  have hgn:=hgn.mono hG69
  have hs17:=hs17.mono hG69
  have hs21:=hs21.mono hG69
  have hs26:=hs26.mono hG69
  have hs27:=hs27.mono hG69
  have hsl:=hsl.mono hG69
  refine kc rfl Fx.go225 (Evc rfl (Evc rfl Evn)) (numbers_ok L3 h3 [(e.drop.length:Int)] h69 _ hsl hs69 (q1 (u64_len (by omega))) (by simp only [List.length_cons,List.length_nil]; omega)) ?_
  rintro _ G70 μ70 hG70 ⟨h70,L70,eL70,rfl,rfl,hs70⟩
  have lL70:L70.length≤L3.length+10*([(e.drop.length:Int)]:List Int).length:=by rw [eL70,List.length_append]; have:=numsL_len (ns:=[(e.drop.length:Int)]) (q1 (u64_len (by omega))); omega
  try simp only [List.length_cons,List.length_nil] at lL70
  have hea:=hea.mono hG70
  have hed:=hed.mono hG70
  have hbb1:=hbb1.mono hG70
  have hgn:=hgn.mono hG70
  have hs17:=hs17.mono hG70
  have hs21:=hs21.mono hG70
  have hs26:=hs26.mono hG70
  have hs27:=hs27.mono hG70
  have hsl:=hsl.mono hG70
  have hs69:=hs69.mono hG70
  refine aS rfl rfl (.nil (.code (.seq (.seq (rq4 rfl rfl (fa rfl .no Fx.fo163_6 (.u rfl) (ld rfl .no Fx.ag161 (.u rfl) (fun _=>(hbb1.rd (by rfl)).rd) ?_)))))))
  refine ln rfl .no Fx.sn161 (.u rfl) (mV rfl rfl (.nil (.code (.block ?_))))
  refine Wk.lop (α:=Nat×Sh×List Y) (fun gh=>[(3,true,gh.2.1.val gh.2.2.length),(74,true,.int .i64 (gh.1:Int))]) (fun _=>[])
   (fun gh Gl=>(gh.1≤e.drop.length)∧(gh.2.2=L70++(e.drop.take gh.1).flatMap encG)∧(SlR Gl 1 encY gh.2.1 gh.2.2)) (fun gh=>e.drop.length-gh.1) (0,h70,L70) [(72,true,_),(73,true,_)] []
   (esD rfl (esC rfl (by first|rfl|exact evi (by omega)) (esD rfl (esD rfl eZ))))
   mN ?_ ?_
  ·refine ⟨?_,?_,?_⟩
   ·(try dsimp only)<;>(first|omega|rfl|assumption|(simp; done))
   ·(try dsimp only)<;>(simp)
   (try dsimp only)<;>(exact hs70)
  intro gh N1 Gl1 hN1 hGl1 hF1
  obtain ⟨j,h9,L9⟩:=gh; dsimp only at hF1 hN1 ⊢
  obtain ⟨hj,eL9,hsl2⟩:=hF1
  have hea:=hea.mono hGl1
  have hed:=hed.mono hGl1
  have hbb1:=hbb1.mono hGl1
  have hgn:=hgn.mono hGl1
  have hs17:=hs17.mono hGl1
  have hs21:=hs21.mono hGl1
  have hs26:=hs26.mono hGl1
  have hs27:=hs27.mono hGl1
  have hsl:=hsl.mono hGl1
  have hs69:=hs69.mono hGl1
  have hs70:=hs70.mono hGl1
  have lk2:=flat_take_le (f:=encG) (xs:=e.drop) j
  have ld2:=gonesL hw.drop
  have lL9:L9.length=L70.length+((e.drop.take j).flatMap encG).length:=by rw [eL9,List.length_append]
  refine .seq (rq1 rfl rfl (cp rfl .no (.u rfl) (.u rfl) rfl (.nil (.code (.seq (.cond rfl (fun c2=>?_) (fun c2=>?_)))))))
  ·have c2k:=c2
   try simp only [qcA,qcB] at c2
   refine .skip (.code (.seq (.block (.seq (rq4 rfl rfl (ih rfl .no Fx.se161 (.u rfl) (.u rfl) (fun _=>by omega) (fun _=>by omega) (fun _=>hed.nn (k:=j) (by first|omega|(simp only [Bool.and_eq_true,decide_eq_true_eq] at hc; omega)|(simp only [List.length_cons,List.length_nil]; omega))) ?_))))))
   obtain ⟨g,eg⟩:=getx (k:=j) (xs:=e.drop) (by omega)
   refine lA rfl .no Fx.ag240 (.u rfl) (fun _=>(hed.at (by omega) eg).rd) (fun _=>rfl) ?_
   refine al rfl Fx.zr240 ?_; intro b7
   refine sw rfl (.u rfl) (.u rfl) rfl Fx.sz240 .here rfl (gones1) ?_
   refine .nil (.code ?_)
   refine wk_fz .here (by intro b hb; cases hb) ?_; intro Gfb7 hleb7 hbb7
   have hea:=hea.mono hleb7
   have hed:=hed.mono hleb7
   have hbb1:=hbb1.mono hleb7
   have hgn:=hgn.mono hleb7
   have hs17:=hs17.mono hleb7
   have hs21:=hs21.mono hleb7
   have hs26:=hs26.mono hleb7
   have hs27:=hs27.mono hleb7
   have hsl:=hsl.mono hleb7
   have hs69:=hs69.mono hleb7
   have hs70:=hs70.mono hleb7
   have hsl2:=hsl2.mono hleb7
   have hwg:=hw.drop g (List.mem_of_getElem? eg); have w1:=hwg.level; have w2:=hwg.number; have lt:=flat_take (f:=encG) eg
   refine rq9 rfl rfl (mV rfl rfl (fa rfl .no Fx.fo240_0 (.u rfl) (ld rfl .no FxVerP.ag5 (.u rfl) (fun _=>(hbb7.rd (by rfl)).rd) ?_)))
   refine cw rfl .no FxVerR.cv5_41 (.u rfl) (fun _=>wrap_u64 (by omega) (by omega)) ?_
   refine fa rfl .no Fx.fo240_1 (.u rfl) (ld rfl .no FxVerP.ag41 (.u rfl) (fun _=>(hbb7.rd (by rfl)).rd) ?_)
   refine bQ [g.level,g.number] rfl Fx.se142 Fx.zv41 (Evp.cons (.u rfl) (Evp.cons (.u rfl) Evp.nil)) rfl rfl (by decide) ?_; intro G84 h84 hG84 hs84
   have hea:=hea.mono hG84
   have hed:=hed.mono hG84
   have hbb1:=hbb1.mono hG84
   have hgn:=hgn.mono hG84
   have hs17:=hs17.mono hG84
   have hs21:=hs21.mono hG84
   have hs26:=hs26.mono hG84
   have hs27:=hs27.mono hG84
   have hsl:=hsl.mono hG84
   have hs69:=hs69.mono hG84
   have hs70:=hs70.mono hG84
   have hsl2:=hsl2.mono hG84
   have hbb7:=hbb7.mono hG84
   refine kc rfl Fx.go225 (Evc rfl (Evc rfl Evn)) (numbers_ok L9 h9 [g.level,g.number] h84 _ hsl2 hs84 (q2 ⟨by omega,by omega⟩ ⟨by omega,by omega⟩) (by simp only [List.length_cons,List.length_nil]; omega)) ?_
   rintro _ G85 μ85 hG85 ⟨h85,L85,eL85,rfl,rfl,hs85⟩
   have lL85:L85.length≤L9.length+10*([g.level,g.number]:List Int).length:=by rw [eL85,List.length_append]; have:=numsL_len (ns:=[g.level,g.number]) (q2 ⟨by omega,by omega⟩ ⟨by omega,by omega⟩); omega
   try simp only [List.length_cons,List.length_nil] at lL85
   have hea:=hea.mono hG85
   have hed:=hed.mono hG85
   have hbb1:=hbb1.mono hG85
   have hgn:=hgn.mono hG85
   have hs17:=hs17.mono hG85
   have hs21:=hs21.mono hG85
   have hs26:=hs26.mono hG85
   have hs27:=hs27.mono hG85
   have hsl:=hsl.mono hG85
   have hs69:=hs69.mono hG85
   have hs70:=hs70.mono hG85
   have hsl2:=hsl2.mono hG85
   have hbb7:=hbb7.mono hG85
   have hs84:=hs84.mono hG85
   refine aS rfl rfl (.nil (.blk (.code (rq2 rfl rfl (arn (((j+1):Nat):Int) rfl .no (.u rfl) (.u rfl) rfl (fun _=>by omega) (fun _=>wrap_i64 (by omega) (by omega)) ?_)))))
   refine mV rfl rfl (.nil (We.lpo (j+1,h85,L85) ?_ ?_ ?_ ?_ ?_))
   ·exact (esD rfl (esC rfl (by first|rfl|exact evi (by omega)) (esD rfl (esD rfl eZ))))
   ·exact mN
   ·first|omega|(dsimp only; omega)
   ·exact (((hGl1).trans hleb7).trans hG84).trans hG85
   refine ⟨?_,?_,?_⟩
   ·(try dsimp only)<;>(first|omega|rfl|assumption|(simp; done))
   ·(try dsimp only)<;>(rw [eL85,encG_eq,eL9,flat_snoc eg,List.append_assoc])
   (try dsimp only)<;>(exact hs85)
  have c2k:=c2
  try simp only [qcA,qcB] at c2
  refine .exit (.xcode (.xlp (.xblk (.code (.seq (rq2 rfl rfl (mV rfl rfl (aS rfl rfl (.nil (.code (.ret (We.fin0 Tryz.results182 (.tmp rfl .nil) ?_))))))))))))
  obtain rfl:k=e.add.length:=by omega
  obtain rfl:j=e.drop.length:=by omega
  rw [List.take_length] at eL eL9
  exact ⟨h9,L9,by rw [eL9,eL70,eL,eL27,eL21,eL17,List.nil_append,encE_eq],rfl,rfl,hsl2⟩
 refine bQ [(e.add.length:Int)] rfl Fx.se142 Fx.zv41 (Evp.cons (.u rfl) Evp.nil) rfl rfl (by decide) ?_; intro G26 h26 hG26 hs26
 have hea:=hea.mono hG26
 have hed:=hed.mono hG26
 have hbb1:=hbb1.mono hG26
 have hgn:=hgn.mono hG26
 have hs17:=hs17.mono hG26
 refine .nil (Wt.b1 3 (by kernel_rfl) ?_)
 refine kc rfl Fx.go225 (Evc rfl (Evc rfl Evn)) (numbers_ok L17 h17 (gensL e) ⟨some ⟨b1,4,none⟩,5⟩ _ hs17 hgn (gens_u hw) (by show _+10*5≤_; omega)) ?_
 rintro _ G21 μ21 hG21 ⟨h21,L21,eL21,rfl,rfl,hs21⟩
 have lL21:L21.length≤L17.length+10*((gensL e):List Int).length:=by rw [eL21,List.length_append]; have:=numsL_len (ns:=(gensL e)) (gens_u hw); omega
 try simp only [List.length_cons,List.length_nil] at lL21
 have hea:=hea.mono hG21
 have hed:=hed.mono hG21
 have hbb1:=hbb1.mono hG21
 have hs26:=hs26.mono hG21
 refine .nil (Wt.b1 9 (by kernel_rfl) ?_)
 refine kc rfl Fx.go225 (Evc rfl (Evc rfl Evn)) (numbers_ok L21 h21 [(e.add.length:Int)] h26 _ hs21 hs26 (q1 (u64_len (by omega))) (by simp only [List.length_cons,List.length_nil]; omega)) ?_
 rintro _ G27 μ27 hG27 ⟨h27,L27,eL27,rfl,rfl,hs27⟩
 have lL27:L27.length≤L21.length+10*([(e.add.length:Int)]:List Int).length:=by rw [eL27,List.length_append]; have:=numsL_len (ns:=[(e.add.length:Int)]) (q1 (u64_len (by omega))); omega
 try simp only [List.length_cons,List.length_nil] at lL27
 have hea:=hea.mono hG27
 have hed:=hed.mono hG27
 have hbb1:=hbb1.mono hG27
 refine .nil (Wt.one 10 (by kernel_rfl) ?_)
 refine aS rfl rfl (.nil (Wt.last (by kernel_rfl) ?_))
 refine .code (.seq (.seq (rq4 rfl rfl (fa rfl .no Fx.fo163_5 (.u rfl) (ld rfl .no Fx.ag60 (.u rfl) (fun _=>(hbb1.rd (by rfl)).rd) ?_)))))
 refine ln rfl .no Fx.sn60 (.u rfl) (mV rfl rfl (.nil (.code (.block ?_))))
 refine Wk.lop (α:=Nat×Sh×List Y) (fun gh=>[(3,true,gh.2.1.val gh.2.2.length),(31,true,.int .i64 (gh.1:Int))]) (fun _=>[])
  (fun gh Gl=>(gh.1≤e.add.length)∧(gh.2.2=L27++(e.add.take gh.1).flatMap encM)∧(SlR Gl 1 encY gh.2.1 gh.2.2)) (fun gh=>e.add.length-gh.1) (0,h27,L27) [(1,true,_),(29,true,_),(30,true,_)] []
  (esD rfl (esC rfl (by first|rfl|exact evi (by omega)) (esD rfl (esD rfl (esD rfl eZ)))))
  mN ?_ ?_
 ·refine ⟨?_,?_,?_⟩
  ·(try dsimp only)<;>(first|omega|rfl|assumption|(simp; done))
  ·(try dsimp only)<;>(simp)
  (try dsimp only)<;>(exact hs27)
 intro gh N0 Gl0 hN0 hGl0 hF0
 obtain ⟨k,h3,L3⟩:=gh; dsimp only at hF0 hN0 ⊢
 obtain ⟨hk,eL,hsl⟩:=hF0
 have hea:=hea.mono hGl0
 have hed:=hed.mono hGl0
 have hbb1:=hbb1.mono hGl0
 have lk:=flat_take_le (f:=encM) (xs:=e.add) k
 have lL:L3.length=L27.length+((e.add.take k).flatMap encM).length:=by rw [eL,List.length_append]
 refine .seq (rq1 rfl rfl (cp rfl .no (.u rfl) (.u rfl) rfl (.nil (.code (.seq (.cond rfl (fun c1=>?_) (fun c1=>?_)))))))
 ·have c1k:=c1
  try simp only [qcA,qcB] at c1
  refine .skip (.code (.seq (.block (.seq (rq4 rfl rfl (ih rfl .no Fx.se60 (.u rfl) (.u rfl) (fun _=>by omega) (fun _=>by omega) (fun _=>hea.nn (k:=k) (by first|omega|(simp only [Bool.and_eq_true,decide_eq_true_eq] at hc; omega)|(simp only [List.length_cons,List.length_nil]; omega))) ?_))))))
  obtain ⟨m,em⟩:=getx (k:=k) (xs:=e.add) (by omega)
  refine lA rfl .no Fx.ag128 (.u rfl) (fun _=>(hea.at (by omega) em).rd) (fun _=>Meta.len _) ?_
  refine al rfl Fx.zq128 ?_; intro b5
  refine sw rfl (.u rfl) (.u rfl) rfl Fx.sz128 .here rfl (Meta.one _) ?_
  refine .nil (.code (.seq ?_))
  refine wk_fz .here (by intro b hb; cases hb) ?_; intro Gfb5 hleb5 hbb5
  have hed:=hed.mono hleb5
  have hbb1:=hbb1.mono hleb5
  have hsl:=hsl.mono hleb5
  have hwm:=hw.add m (List.mem_of_getElem? em); have w1:=hwm.level; have w2:=hwm.gen; have w3:=hwm.epoch; have w4:=hwm.number; have l6:=u64_6 hwm; have lt:=flat_take (f:=encM) em; have lg:=encM_ge m
  refine Wk.rg [0,1,2,3,4,5,6,7,8,9,10,11,12,13,14,15,16,17,18] rfl rfl (mV rfl rfl (fa rfl .no Fx.fo128_0 (.u rfl) (ld rfl .no FxVerP.ag5 (.u rfl) (fun _=>(hbb5.rd (by rfl)).rd) ?_)))
  refine cw rfl .no FxVerR.cv5_41 (.u rfl) (fun _=>wrap_u64 (by omega) (by omega)) ?_
  refine fa rfl .no Fx.fo128_1 (.u rfl) (ld rfl .no FxVerP.ag41 (.u rfl) (fun _=>(hbb5.rd (by rfl)).rd) ?_)
  refine fa rfl .no Fx.fo128_2 (.u rfl) (ld rfl .no FxVerP.ag41 (.u rfl) (fun _=>(hbb5.rd (by rfl)).rd) ?_)
  refine fa rfl .no Fx.fo128_3 (.u rfl) (ld rfl .no FxVerP.ag41 (.u rfl) (fun _=>(hbb5.rd (by rfl)).rd) ?_)
  refine fa rfl .no Fx.fo128_4 (.u rfl) (ld rfl .no FxVerP.ag3 (.u rfl) (fun _=>(hbb5.rd (by rfl)).rd) ?_)
  refine cv rfl .no FxVerR.cv3_41 (.u rfl) (fa rfl .no Fx.fo128_5 (.u rfl) (ld rfl .no FxVerP.ag3 (.u rfl) (fun _=>(hbb5.rd (by rfl)).rd) ?_))
  refine cv rfl .no FxVerR.cv3_41 (.u rfl) ?_
  refine bQ [m.level,m.gen,m.epoch,m.number,IntKind.u64.wrap m.size,IntKind.u64.wrap m.count] rfl Fx.se142 Fx.zv41 (Evp.cons (.u rfl) (Evp.cons (.u rfl) (Evp.cons (.u rfl) (Evp.cons (.u rfl) (Evp.cons (.u rfl) (Evp.cons (.u rfl) Evp.nil)))))) rfl rfl (by decide) ?_; intro G51 h51 hG51 hs51
  have hed:=hed.mono hG51
  have hbb1:=hbb1.mono hG51
  have hsl:=hsl.mono hG51
  have hbb5:=hbb5.mono hG51
  refine kc rfl Fx.go225 (Evc rfl (Evc rfl Evn)) (numbers_ok L3 h3 [m.level,m.gen,m.epoch,m.number,IntKind.u64.wrap m.size,IntKind.u64.wrap m.count] h51 _ hsl hs51 l6 (by simp only [List.length_cons,List.length_nil]; omega)) ?_
  rintro _ G52 μ52 hG52 ⟨h52,L52,eL52,rfl,rfl,hs52⟩
  have lL52:L52.length≤L3.length+10*([m.level,m.gen,m.epoch,m.number,IntKind.u64.wrap m.size,IntKind.u64.wrap m.count]:List Int).length:=by rw [eL52,List.length_append]; have:=numsL_len (ns:=[m.level,m.gen,m.epoch,m.number,IntKind.u64.wrap m.size,IntKind.u64.wrap m.count]) l6; omega
  try simp only [List.length_cons,List.length_nil] at lL52
  have hed:=hed.mono hG52
  have hbb1:=hbb1.mono hG52
  have hsl:=hsl.mono hG52
  have hbb5:=hbb5.mono hG52
  refine aS rfl rfl (.nil (.code (Wk.draw (mc:=⟨false,false⟩) [0,1,2,4,5,7,8,3,6,9,10] FxVerP.mix (by kernel_rfl) ?_)))
  refine mV rfl rfl (fa rfl .no Fx.fo128_6 (.u rfl) (ld rfl .no Fx.ag9 (.u rfl) (fun _=>(hbb5.rd (by rfl)).rd) ?_))
  refine fa rfl .no Fx.fo128_7 (.u rfl) (ld rfl .no Fx.ag9 (.u rfl) (fun _=>(hbb5.rd (by rfl)).rd) ?_)
  refine fa rfl .no Fx.fo128_8 (.u rfl) ?_
  refine kA rfl .no FxVerW.ar71 (.u rfl) hbb5 (meta_ba hwm) ?_; intro h61 L61 eL61 lL61 hs61
  have ly:=yb_len m.min; have ly2:=yb_len m.max
  refine kc rfl Fx.go122 (Evc rfl (Evc rfl Evn)) (Ct.frzB (Str_ok L52 h52 _ hs52 m.min (by omega))) ?_
  rintro _ G56 μ56 hG56 ⟨h56,L56,eL56,rfl,rfl,hs56⟩
  have hed:=hed.mono hG56
  have hbb1:=hbb1.mono hG56
  have hsl:=hsl.mono hG56
  have hs61:=hs61.mono hG56
  have l56:L56.length≤L52.length+(m.min.size+10):=by rw [eL56,List.length_append]; have:=strL_len (xs:=yb m.min) (by omega); omega
  refine kc rfl Fx.go122 (Evc rfl (Evc rfl Evn)) (Ct.rowc (Str_ok L56 h56 _ hs56 m.max (by omega))) ?_
  rintro v59 G59 μ59 hG59 ⟨L59,ov59,eL59,rfl⟩
  have hed:=hed.mono hG59
  have hbb1:=hbb1.mono hG59
  have hsl:=hsl.mono hG59
  have hs61:=hs61.mono hG59
  have l59:L59.length≤L56.length+(m.max.size+10):=by rw [eL59,List.length_append]; have:=strL_len (xs:=yb m.max) (by omega); omega
  refine apY rfl FxVerR.se131 FxVerR.zv5 (.u rfl) (.u rfl) .here hs61.sc (by (try simp only [qlA,yl_len]); omega) ?_
  intro v62 L62 ov62 eL62
  have lL62:L62.length=L59.length+L61.length:=by rw [eL62,List.length_append]
  refine aS rfl rfl (.nil (.blk (.code ?_)))
  refine wk_fb .here (by first|(intro b hb; cases hb; done) | simp [keys,Res.keys]) ?_; intro GfR59 hR59 hleR59 evR59 hsR59; subst evR59
  have hed:=hed.mono hleR59
  have hbb1:=hbb1.mono hleR59
  have hsl:=hsl.mono hleR59
  refine rq2 rfl rfl (arn (((k+1):Nat):Int) rfl .no (.u rfl) (.u rfl) rfl (fun _=>by omega) (fun _=>wrap_i64 (by omega) (by omega)) ?_)
  refine mV rfl rfl (.nil (We.lpo (k+1,hR59,L62) ?_ ?_ ?_ ?_ ?_))
  ·exact (esD rfl (esC rfl (by first|rfl|exact evi (by omega)) (esD rfl (esD rfl (esD rfl eZ)))))
  ·exact mN
  ·first|omega|(dsimp only; omega)
  ·exact ((((((hGl0).trans hleb5).trans hG51).trans hG52).trans hG56).trans hG59).trans hleR59
  refine ⟨?_,?_,?_⟩
  ·(try dsimp only)<;>(first|omega|rfl|assumption|(simp; done))
  ·(try dsimp only)<;>(rw [eL62,eL59,eL56,eL52,eL61,encM_eq,eL,flat_snoc em,List.append_assoc])
  (try dsimp only)<;>(exact hsR59)
 have c1k:=c1
 try simp only [qcA,qcB] at c1
 refine .exit (.xcode (.xlp (.xblk (.code (.seq (rq8 rfl rfl (mV rfl rfl (fa rfl .no Fx.fo163_6 (.u rfl) (ld rfl .no Fx.ag161 (.u rfl) (fun _=>(hbb1.rd (by rfl)).rd) ?_)))))))))
 refine ln rfl .no Fx.sn161 (.u rfl) (cw rfl .no FxVerR.cv3_41 (.u rfl) (fun _=>wrap_u64 (by omega) (by omega)) ?_)
 refine bQ [(e.drop.length:Int)] rfl Fx.se142 Fx.zv41 (Evp.cons (.u rfl) Evp.nil) rfl rfl (by decide) ?_; intro G69 h69 hG69 hs69
 have hed:=hed.mono hG69
 have hbb1:=hbb1.mono hG69
 have hsl:=hsl.mono hG69
 refine kc rfl Fx.go225 (Evc rfl (Evc rfl Evn)) (numbers_ok L3 h3 [(e.drop.length:Int)] h69 _ hsl hs69 (q1 (u64_len (by omega))) (by simp only [List.length_cons,List.length_nil]; omega)) ?_
 rintro _ G70 μ70 hG70 ⟨h70,L70,eL70,rfl,rfl,hs70⟩
 have lL70:L70.length≤L3.length+10*([(e.drop.length:Int)]:List Int).length:=by rw [eL70,List.length_append]; have:=numsL_len (ns:=[(e.drop.length:Int)]) (q1 (u64_len (by omega))); omega
 try simp only [List.length_cons,List.length_nil] at lL70
 have hed:=hed.mono hG70
 have hbb1:=hbb1.mono hG70
 refine aS rfl rfl (.nil (.code (.seq (.seq (rq4 rfl rfl (fa rfl .no Fx.fo163_6 (.u rfl) (ld rfl .no Fx.ag161 (.u rfl) (fun _=>(hbb1.rd (by rfl)).rd) ?_)))))))
 refine ln rfl .no Fx.sn161 (.u rfl) (mV rfl rfl (.nil (.code (.block ?_))))
 refine Wk.lop (α:=Nat×Sh×List Y) (fun gh=>[(3,true,gh.2.1.val gh.2.2.length),(74,true,.int .i64 (gh.1:Int))]) (fun _=>[])
  (fun gh Gl=>(gh.1≤e.drop.length)∧(gh.2.2=L70++(e.drop.take gh.1).flatMap encG)∧(SlR Gl 1 encY gh.2.1 gh.2.2)) (fun gh=>e.drop.length-gh.1) (0,h70,L70) [(72,true,_),(73,true,_)] []
  (esD rfl (esC rfl (by first|rfl|exact evi (by omega)) (esD rfl (esD rfl eZ))))
  mN ?_ ?_
 ·refine ⟨?_,?_,?_⟩
  ·(try dsimp only)<;>(first|omega|rfl|assumption|(simp; done))
  ·(try dsimp only)<;>(simp)
  (try dsimp only)<;>(exact hs70)
 intro gh N1 Gl1 hN1 hGl1 hF1
 obtain ⟨j,h9,L9⟩:=gh; dsimp only at hF1 hN1 ⊢
 obtain ⟨hj,eL9,hsl2⟩:=hF1
 have hed:=hed.mono hGl1
 have lk2:=flat_take_le (f:=encG) (xs:=e.drop) j
 have ld2:=gonesL hw.drop
 have lL9:L9.length=L70.length+((e.drop.take j).flatMap encG).length:=by rw [eL9,List.length_append]
 refine .seq (rq1 rfl rfl (cp rfl .no (.u rfl) (.u rfl) rfl (.nil (.code (.seq (.cond rfl (fun c2=>?_) (fun c2=>?_)))))))
 ·have c2k:=c2
  try simp only [qcA,qcB] at c2
  refine .skip (.code (.seq (.block (.seq (rq4 rfl rfl (ih rfl .no Fx.se161 (.u rfl) (.u rfl) (fun _=>by omega) (fun _=>by omega) (fun _=>hed.nn (k:=j) (by first|omega|(simp only [Bool.and_eq_true,decide_eq_true_eq] at hc; omega)|(simp only [List.length_cons,List.length_nil]; omega))) ?_))))))
  obtain ⟨g,eg⟩:=getx (k:=j) (xs:=e.drop) (by omega)
  refine lA rfl .no Fx.ag240 (.u rfl) (fun _=>(hed.at (by omega) eg).rd) (fun _=>rfl) ?_
  refine al rfl Fx.zr240 ?_; intro b7
  refine sw rfl (.u rfl) (.u rfl) rfl Fx.sz240 .here rfl (gones1) ?_
  refine .nil (.code ?_)
  refine wk_fz .here (by intro b hb; cases hb) ?_; intro Gfb7 hleb7 hbb7
  have hsl2:=hsl2.mono hleb7
  have hwg:=hw.drop g (List.mem_of_getElem? eg); have w1:=hwg.level; have w2:=hwg.number; have lt:=flat_take (f:=encG) eg
  refine rq9 rfl rfl (mV rfl rfl (fa rfl .no Fx.fo240_0 (.u rfl) (ld rfl .no FxVerP.ag5 (.u rfl) (fun _=>(hbb7.rd (by rfl)).rd) ?_)))
  refine cw rfl .no FxVerR.cv5_41 (.u rfl) (fun _=>wrap_u64 (by omega) (by omega)) ?_
  refine fa rfl .no Fx.fo240_1 (.u rfl) (ld rfl .no FxVerP.ag41 (.u rfl) (fun _=>(hbb7.rd (by rfl)).rd) ?_)
  refine bQ [g.level,g.number] rfl Fx.se142 Fx.zv41 (Evp.cons (.u rfl) (Evp.cons (.u rfl) Evp.nil)) rfl rfl (by decide) ?_; intro G84 h84 hG84 hs84
  have hsl2:=hsl2.mono hG84
  refine kc rfl Fx.go225 (Evc rfl (Evc rfl Evn)) (numbers_ok L9 h9 [g.level,g.number] h84 _ hsl2 hs84 (q2 ⟨by omega,by omega⟩ ⟨by omega,by omega⟩) (by simp only [List.length_cons,List.length_nil]; omega)) ?_
  rintro _ G85 μ85 hG85 ⟨h85,L85,eL85,rfl,rfl,hs85⟩
  have lL85:L85.length≤L9.length+10*([g.level,g.number]:List Int).length:=by rw [eL85,List.length_append]; have:=numsL_len (ns:=[g.level,g.number]) (q2 ⟨by omega,by omega⟩ ⟨by omega,by omega⟩); omega
  try simp only [List.length_cons,List.length_nil] at lL85
  have hsl2:=hsl2.mono hG85
  refine aS rfl rfl (.nil (.blk (.code (rq2 rfl rfl (arn (((j+1):Nat):Int) rfl .no (.u rfl) (.u rfl) rfl (fun _=>by omega) (fun _=>wrap_i64 (by omega) (by omega)) ?_)))))
  refine mV rfl rfl (.nil (We.lpo (j+1,h85,L85) ?_ ?_ ?_ ?_ ?_))
  ·exact (esD rfl (esC rfl (by first|rfl|exact evi (by omega)) (esD rfl (esD rfl eZ))))
  ·exact mN
  ·first|omega|(dsimp only; omega)
  ·exact (((hGl1).trans hleb7).trans hG84).trans hG85
  refine ⟨?_,?_,?_⟩
  ·(try dsimp only)<;>(first|omega|rfl|assumption|(simp; done))
  ·(try dsimp only)<;>(rw [eL85,encG_eq,eL9,flat_snoc eg,List.append_assoc])
  (try dsimp only)<;>(exact hs85)
 have c2k:=c2
 try simp only [qcA,qcB] at c2
 refine .exit (.xcode (.xlp (.xblk (.code (.seq (rq2 rfl rfl (mV rfl rfl (aS rfl rfl (.nil (.code (.ret (We.fin0 Tryz.results182 (.tmp rfl .nil) ?_))))))))))))
 obtain rfl:k=e.add.length:=by omega
 obtain rfl:j=e.drop.length:=by omega
 rw [List.take_length] at eL eL9
 exact ⟨h9,L9,by rw [eL9,eL70,eL,eL27,eL21,eL17,List.nil_append,encE_eq],rfl,rfl,hsl2⟩
namespace Fx
theorem ag62:aggN Tryz.prog 62=some (some 5):=by kernel_rfl
end Fx
theorem before_ok (s:State) (hd:Nat→Sh) (G:PM) (e:Edit) (ha he:Sh):Ct Tryz.prog 217 ([s.val hd,e.val ha he]:List Value).toArray G [] (fun _ μ' u=>μ'=[]∧u=.bool (beforeB s e)):=by
 refine Ct.of Tryz.func217 rfl Tryz.ntmps217 rfl fun w0 hs0=>?_
 refine .seq (rq3 rfl rfl ?_)
 refine bx rfl (.u rfl) rfl ?_; intro b2
 refine bx rfl (.u rfl) rfl ?_; intro b3
 refine aS rfl rfl (.nil (.code (.seq (.seq (rq3 rfl rfl (fz rfl .no Fx.fo163_4 (.u rfl) (lA rfl .no Fx.ag62 (.u rfl) (fun _=>RdN.part (n:=5) (cs':=(List.range 5).map (fun i=>.int .u64 (e.gens i))) .here (rfl)) (fun _=>rfl) (mV rfl rfl (.nil (.code (.block ?_)))))))))))
 refine Wk.lop (α:=Nat) (fun k=>[(9,true,.int .i64 (k:Int))]) (fun _=>[])
  (fun k Gl=>(k≤5)∧(∀ i,i<k→¬ e.gens i<s.gens i)) (fun k=>5-k) 0 [(2,true,_),(3,true,_),(8,true,_)] [_,_]
  (esC rfl (by first|rfl|exact evi (by omega)) (esD rfl (esD rfl (esD rfl eZ))))
  (mS .here rfl (mS .here rfl mN)) ?_ ?_
 ·refine ⟨?_,?_⟩
  ·(try dsimp only)<;>(first|omega|rfl|assumption|(simp; done))
  (try dsimp only)<;>(exact fun i hi=>by omega)
 intro k N0 Gl0 hN0 hGl0 hF0
 try dsimp only at hF0 hN0 ⊢
 obtain ⟨hk,hn⟩:=hF0
 refine .seq (rq1 rfl rfl (cp rfl .no (.u rfl) (.u rfl) rfl (.nil (.code (.seq (.cond rfl (fun c1=>?_) (fun c1=>?_)))))))
 ·have c1k:=c1
  try simp only [qcA,qcB] at c1
  refine .skip (.code (.seq (.block (.seq (rq4 rfl rfl (mV rfl rfl (ix rfl .no Fx.ar62 FxVerP.ag41 (.u rfl) (.u rfl) (fun _=>by omega) (fun _=>by omega) (fun _=>(gens_at (k:=k) (by omega) (by omega))) ?_)))))))
  refine aS rfl rfl (aS rfl rfl (.nil (.code (.seq (rq6 rfl rfl (mV rfl rfl (mV rfl rfl (fz rfl .no Fx.fo64_5 (.u rfl) (iA rfl .no Fx.ar62 (.u rfl) (.u rfl) (fun _=>by omega) (fun _=>by omega) ?_)))))))))
  refine ld rfl .no FxVerP.ag41 (.u rfl) (fun _=>Rd.own tk1 (by exact s.cell_gen hd (k:=k) (by omega))) ?_
  refine cp rfl .no (.u rfl) (.u rfl) rfl (.nil (.code (.cond rfl (fun c2=>?_) (fun c2=>?_))))
  ·have c2k:=c2
   try simp only [qcA,qcB] at c2
   refine .seq (rq1 rfl rfl (aS rfl rfl (.nil (.code (.ret (We.fin0 Tryz.results217 (.tmp rfl .nil) ?_))))))
   exact ⟨rfl,congrArg Value.bool (bef_yes (i:=k) (by omega) (by omega)).symm⟩
  have c2k:=c2
  try simp only [qcA,qcB] at c2
  refine .skip (.blk (.code (rq2 rfl rfl (arn (((k+1):Nat):Int) rfl .no (.u rfl) (.u rfl) rfl (fun _=>by omega) (fun _=>wrap_i64 (by omega) (by omega)) ?_))))
  refine mV rfl rfl (.nil (We.lpo (k+1) ?_ ?_ ?_ ?_ ?_))
  ·exact (esC rfl (by first|rfl|exact evi (by omega)) (esD rfl (esD rfl (esD rfl eZ))))
  ·exact (mS .here rfl (mS .here rfl mN))
  ·first|omega|(dsimp only; omega)
  ·exact hGl0
  refine ⟨?_,?_⟩
  ·(try dsimp only)<;>(first|omega|rfl|assumption|(simp; done))
  (try dsimp only)<;>(exact fun i hi=>by (by_cases h:i=k; (subst h; omega); exact hn i (by omega)))
 have c1k:=c1
 try simp only [qcA,qcB] at c1
 refine .exit (.xcode (.xlp (.xblk (.code (.seq (Wk.rg [0,1,2,3,4,5,6,7,8,9,10,11,12,13,14,15,16,17,18,19,20,21,22,23,24,25,26] rfl rfl (fz rfl .no Fx.fo163_0 (.u rfl) (ld rfl .no FxVerP.ag41 (.u rfl) (fun _=>Rd.own .here (by first|exact wap_f rfl|rfl)) ?_))))))))
 refine fz rfl .no Fx.fo64_1 (.u rfl) (ld rfl .no FxVerP.ag41 (.u rfl) (fun _=>Rd.own tk1 (by first|exact wap_f rfl|rfl)) ?_)
 refine cp rfl .no (.u rfl) (.u rfl) rfl (mV rfl rfl (fz rfl (.f rfl rfl) Fx.fo163_1 (.u rfl) (ld rfl (.f rfl rfl) FxVerP.ag41 (.s rfl) (fun hc=>Rd.own .here (by first|exact wap_f rfl|rfl)) ?_)))
 refine fz rfl (.f rfl rfl) Fx.fo64_2 (.u rfl) (ld rfl (.f rfl rfl) FxVerP.ag41 (.s rfl) (fun hc=>Rd.own tk1 (by first|exact wap_f rfl|rfl)) ?_)
 refine cp rfl (.f rfl rfl) (.s rfl) (.s rfl) rfl (pkO rfl .no (.u rfl) (.s rfl) (mV rfl rfl (fz rfl (.f rfl rfl) Fx.fo163_2 (.u rfl) (ld rfl (.f rfl rfl) FxVerP.ag41 (.s rfl) (fun hc=>Rd.own .here (by first|exact wap_f rfl|rfl)) ?_))))
 refine fz rfl (.f rfl rfl) Fx.fo64_3 (.u rfl) (ld rfl (.f rfl rfl) FxVerP.ag41 (.s rfl) (fun hc=>Rd.own tk1 (by first|exact wap_f rfl|rfl)) ?_)
 refine cp rfl (.f rfl rfl) (.s rfl) (.s rfl) rfl (pkO rfl .no (.u rfl) (.s rfl) (mV rfl rfl (fz rfl (.f rfl rfl) Fx.fo163_3 (.u rfl) (ld rfl (.f rfl rfl) FxVerP.ag41 (.s rfl) (fun hc=>Rd.own .here (by first|exact wap_f rfl|rfl)) ?_))))
 refine fz rfl (.f rfl rfl) Fx.fo64_4 (.u rfl) (ld rfl (.f rfl rfl) FxVerP.ag41 (.s rfl) (fun hc=>Rd.own tk1 (by first|exact wap_f rfl|rfl)) ?_)
 refine cp rfl (.f rfl rfl) (.s rfl) (.s rfl) rfl (pkO rfl .no (.u rfl) (.s rfl) (aS rfl rfl (.nil (.code (.ret (We.fin0 Tryz.results217 (.tmp rfl .nil) ?_))))))
 exact ⟨rfl,congrArg Value.bool (bef_no (fun i hi=>hn i (by omega))).symm⟩
theorem clone0_ok (G:PM):Ct Tryz.prog 76 ([.slice none 0 0]:List Value).toArray G [] (fun _ μ' u=>μ'=[]∧u=.slice none 0 0):=by
 refine Ct.of Tryz.func76 rfl Tryz.ntmps76 rfl fun w0 hs0=>?_
 refine .seq (rq1 rfl rfl (aS rfl rfl (.nil (.code (.seq (.seq (rq2 rfl rfl (mV rfl rfl (sn0 (s:=⟨none,0⟩) (m:=0) rfl .no Fx.sn60 (.u rfl) (.u rfl) ?_)))))))))
 refine .nil (.code (.cond rfl (fun c1=>?_) (fun c1=>?_)))
 ·have c1k:=c1
  try simp only [qcA,qcB] at c1
  refine .seq (rq1 rfl rfl (aS rfl rfl (.nil (.code (.ret (We.fin0 Tryz.results76 (.tmp rfl .nil) ?_))))))
  exact ⟨rfl,rfl⟩
 have c1k:=c1
 cases c1
namespace Fx
theorem ag29:aggN Tryz.prog 29=some none:=by kernel_rfl
end Fx
namespace Fx
theorem sz41:szT Tryz.prog 41=some 1:=by kernel_rfl
end Fx
theorem leafS_ok {G:PM} {b7 b9 T7 T9:Nat} {kind:Y} {h:Sh} {p:List Y} (hle:PM.le G ((G.add b7 (cl [V kind] T7)).add b9 (cl [.slice (some ⟨b7,0,none⟩) 1 1,h.val p.length] T9))) (hq:PM.le (G.add b7 (cl [V kind] T7)) ((G.add b7 (cl [V kind] T7)).add b9 (cl [.slice (some ⟨b7,0,none⟩) 1 1,h.val p.length] T9))) (hs:SlR G 1 encY h p) (hK:RdNP G 0 0 (wa 64 kW)) (hl:p.length≤100000000000000) :
  Ct Tryz.prog 193 ([.slice (some ⟨b9,0,none⟩) 2 2]:List Value).toArray ((G.add b7 (cl [V kind] T7)).add b9 (cl [.slice (some ⟨b7,0,none⟩) 1 1,h.val p.length] T9)) [] (fun _ μ' u=>μ'=[]∧u=.agg (ba 32 (shaD (kind :: p))).toArray):=by
 have h1:SlR (G.add b7 (cl [V kind] T7)) 1 encY ⟨some ⟨b7,0,none⟩,1⟩ [kind]:=SlR.ofBlk (T:=T7) (PM.add_same _ _ _) (fun _ _=>rfl) (by simp)
 have hP:SlP ((G.add b7 (cl [V kind] T7)).add b9 (cl [.slice (some ⟨b7,0,none⟩) 1 1,h.val p.length] T9)) ⟨some ⟨b9,0,none⟩,2⟩ [(⟨some ⟨b7,0,none⟩,1⟩,[kind]),(h,p)] :=
  ⟨SlR.ofBlk (T:=T9) (PM.add_same _ _ _) (fun _ _=>rfl) (by simp),fun q hq'=>by
   rcases List.mem_cons.1 hq' with rfl | hq'
   ·exact h1.mono hq
   ·rw [List.mem_singleton.1 hq']; exact hs.mono hle⟩
 have hh:=shaSum_ok _ ⟨some ⟨b9,0,none⟩,2⟩ _ hP (hK.mono hle) (by simp [catL]; omega) (by simp)
 rw [show catL [((⟨some ⟨b7,0,none⟩,1⟩ : Sh),[kind]),(h,p)]=kind :: p by simp [catL]] at hh
 exact hh
theorem emptyS_ok {G:PM} {b7 b9 T7 T9:Nat} {kind:Y} (hle:PM.le G ((G.add b7 (cl [V kind] T7)).add b9 (cl [.slice (some ⟨b7,0,none⟩) 1 1] T9))) (hq:PM.le (G.add b7 (cl [V kind] T7)) ((G.add b7 (cl [V kind] T7)).add b9 (cl [.slice (some ⟨b7,0,none⟩) 1 1] T9))) (hK:RdNP G 0 0 (wa 64 kW)) :
  Ct Tryz.prog 193 ([.slice (some ⟨b9,0,none⟩) 1 1]:List Value).toArray ((G.add b7 (cl [V kind] T7)).add b9 (cl [.slice (some ⟨b7,0,none⟩) 1 1] T9)) [] (fun _ μ' u=>μ'=[]∧u=.agg (ba 32 (shaD [kind])).toArray):=by
 have h1:SlR (G.add b7 (cl [V kind] T7)) 1 encY ⟨some ⟨b7,0,none⟩,1⟩ [kind]:=SlR.ofBlk (T:=T7) (PM.add_same _ _ _) (fun _ _=>rfl) (by simp)
 have hP:SlP ((G.add b7 (cl [V kind] T7)).add b9 (cl [.slice (some ⟨b7,0,none⟩) 1 1] T9)) ⟨some ⟨b9,0,none⟩,1⟩ [(⟨some ⟨b7,0,none⟩,1⟩,[kind])] :=
  ⟨SlR.ofBlk (T:=T9) (PM.add_same _ _ _) (fun _ _=>rfl) (by simp),fun q hq'=>by rw [List.mem_singleton.1 hq']; exact h1.mono hq⟩
 have hh:=shaSum_ok _ ⟨some ⟨b9,0,none⟩,1⟩ _ hP (hK.mono hle) (by simp [catL]) (by simp)
 rw [show catL [((⟨some ⟨b7,0,none⟩,1⟩ : Sh),[kind])]=[kind] by simp [catL]] at hh
 exact hh
theorem joinS_ok {G G2 G3 G5:PM} {b2 b3 b5 b8 T2 T3 T5 T8:Nat} {a b:Nat→Y} (e2:G2=G.add b2 (cl (ba 32 a) T2)) (e3:G3=G2.add b3 (cl (ba 32 b) T3)) (e5:G5=G3.add b5 (cl [V 1#8] T5))
  (hle:PM.le G (G5.add b8 (cl [.slice (some ⟨b5,0,none⟩) 1 1,.slice (some ⟨b2,0,none⟩) 32 32,.slice (some ⟨b3,0,none⟩) 32 32] T8))) (hq:PM.le G5 (G5.add b8 (cl [.slice (some ⟨b5,0,none⟩) 1 1,.slice (some ⟨b2,0,none⟩) 32 32,.slice (some ⟨b3,0,none⟩) 32 32] T8))∧PM.le G3 G5∧PM.le G2 G3∧PM.le G G2∧True) (hK:RdNP G 0 0 (wa 64 kW)) :
  Ct Tryz.prog 193 ([.slice (some ⟨b8,0,none⟩) 3 3]:List Value).toArray (G5.add b8 (cl [.slice (some ⟨b5,0,none⟩) 1 1,.slice (some ⟨b2,0,none⟩) 32 32,.slice (some ⟨b3,0,none⟩) 32 32] T8)) [] (fun _ μ' u=>μ'=[]∧u=.agg (ba 32 (joinD a b)).toArray):=by
 have h1:SlR G5 1 encY ⟨some ⟨b5,0,none⟩,1⟩ [1#8]:=by rw [e5]; exact SlR.ofBlk (T:=T5) (PM.add_same _ _ _) (fun _ _=>rfl) (by simp)
 have h2:SlR G2 1 encY ⟨some ⟨b2,0,none⟩,32⟩ (yl 32 a):=by rw [e2]; exact ba_sl
 have h3:SlR G3 1 encY ⟨some ⟨b3,0,none⟩,32⟩ (yl 32 b):=by rw [e3]; exact ba_sl
 have l1:=yl_len 32 a
 have l2:=yl_len 32 b
 have hP:SlP (G5.add b8 (cl [.slice (some ⟨b5,0,none⟩) 1 1,.slice (some ⟨b2,0,none⟩) 32 32,.slice (some ⟨b3,0,none⟩) 32 32] T8)) ⟨some ⟨b8,0,none⟩,3⟩ [(⟨some ⟨b5,0,none⟩,1⟩,[1#8]),(⟨some ⟨b2,0,none⟩,32⟩,yl 32 a),(⟨some ⟨b3,0,none⟩,32⟩,yl 32 b)] :=
  ⟨SlR.ofBlk (T:=T8) (by simp [encP,l1,l2,Sh.val]; exact PM.add_same _ _ _) (fun _ _=>rfl) (by simp),fun q hq'=>by
   simp only [List.mem_cons,List.not_mem_nil,or_false] at hq'
   rcases hq' with rfl|rfl|rfl
   ·exact h1.mono hq.1
   ·exact h2.mono (hq.2.2.1.trans (hq.2.1.trans hq.1))
   ·exact h3.mono (hq.2.1.trans hq.1)⟩
 have hh:=shaSum_ok _ ⟨some ⟨b8,0,none⟩,3⟩ _ hP (hK.mono hle) (by simp [catL,l1,l2]) (by simp)
 rw [show catL [((⟨some ⟨b5,0,none⟩,1⟩ : Sh),[1#8]),(⟨some ⟨b2,0,none⟩,32⟩,yl 32 a),(⟨some ⟨b3,0,none⟩,32⟩,yl 32 b)]=1#8 :: (yl 32 a++yl 32 b) by simp [catL]] at hh
 exact hh
theorem leaf_ok (p:List Y) (h:Sh) (G:PM) (hs:SlR G 1 encY h p) (hK:RdNP G 0 0 (wa 64 kW)) (hl:p.length≤100000000000000):Ct Tryz.prog 152 ([h.val p.length]:List Value).toArray G [] (fun _ μ' u=>μ'=[]∧u=.agg (ba 32 (leafD p)).toArray):=by
 refine Ct.of Tryz.func152 rfl Tryz.ntmps152 rfl fun w0 hs0=>?_
 refine .seq (rq1 rfl rfl ?_)
 refine al rfl Fx.zq71 ?_; intro b2
 refine .nil (.code (.seq (rq5 rfl rfl ?_)))
 refine Go.Tan.b1 rfl Fx.se131 Fx.zv5 (.u rfl) rfl rfl (by decide) ?_; intro b3
 refine mV rfl rfl ?_
 refine Go.Tan.bN rfl Fx.se150 Fx.zv131 (Evp.cons (.u rfl) (Evp.cons (.u rfl) Evp.nil)) rfl (by decide) (by simp [Value.oneCell',Sh.val]) ?_; intro b5
 refine kp rfl .no Fx.go193 (Evc rfl Evn) (Gp.add .here (Gp.add .here Gp.nil)) (fun _ hle hq=>leafS_ok (kind:=0#8) hle hq.1 hs hK hl) ?_
 refine sw rfl (.u rfl) (.u rfl) rfl Fx.sz71 tk2 (by first|exact qE|exact qL|rfl) (by first|exact ba_one _ _|exact wa_one _ _|exact one_V _|decide|exact one_app (wa_one _ _) (by simp [Value.oneCell'])) ?_
 refine .nil (.code (.ret (We.fin0 Tryz.results152 (.cell rfl (fun w hw=>run_loadVarN Fx.ag71 (RdN.own .here) ((by first|exact qE|exact qL|rfl)) hw) .nil) ?_)))
 exact ⟨rfl,rfl⟩
theorem join_ok (a b:Dg) (G:PM) (hK:RdNP G 0 0 (wa 64 kW)):Ct Tryz.prog 194 ([.agg (ba 32 a).toArray,.agg (ba 32 b).toArray]:List Value).toArray G [] (fun _ μ' u=>μ'=[]∧u=.agg (ba 32 (joinD a b)).toArray):=by
 refine Ct.of Tryz.func194 rfl Tryz.ntmps194 rfl fun w0 hs0=>?_
 refine .seq (rq3 rfl rfl ?_)
 refine bx rfl (.u rfl) rfl ?_; intro b2
 refine bx rfl (.u rfl) rfl ?_; intro b3
 refine al rfl Fx.zq71 ?_; intro b4
 refine .nil (.code (.seq (Wk.draw (mc:=⟨false,false⟩) [1,2,0,3,4,5] Fx.mix (by kernel_rfl) ?_)))
 refine sa0 rfl .no Fx.ar71 (.u rfl) (sa0 rfl .no Fx.ar71 (.u rfl) ?_)
 refine Go.Tan.b1 rfl Fx.se131 Fx.zv5 (.u rfl) rfl rfl (by decide) ?_; intro b5
 refine Go.Tan.bN rfl Fx.se150 Fx.zv131 (Evp.cons (.u rfl) (Evp.cons (.u rfl) (Evp.cons (.u rfl) Evp.nil))) rfl (by decide) (by simp [Value.oneCell',Sh.val]) ?_; intro b8
 refine kp rfl .no Fx.go193 (Evc rfl Evn) (Gp.add .here (Gp.add .here (Gp.add tk1 (Gp.add tk1 Gp.nil)))) (fun _ hle hq=>joinS_ok rfl rfl rfl hle hq hK) ?_
 refine sw rfl (.u rfl) (.u rfl) rfl Fx.sz71 tk2 (by first|exact qE|exact qL|rfl) (by first|exact ba_one _ _|exact wa_one _ _|exact one_V _|decide|exact one_app (wa_one _ _) (by simp [Value.oneCell'])) ?_
 refine .nil (.code (.ret (We.fin0 Tryz.results194 (.cell rfl (fun w hw=>run_loadVarN Fx.ag71 (RdN.own .here) ((by first|exact qE|exact qL|rfl)) hw) .nil) ?_)))
 exact ⟨rfl,rfl⟩
namespace Fx
theorem se278:slE Tryz.prog 278=some (71,32,32):=by kernel_rfl
theorem sn278:(slE Tryz.prog 278).isSome=true:=by kernel_rfl
theorem go194:goFn Tryz.prog 194=true:=by kernel_rfl
theorem zw71:(Tryz.prog.info? 71).bind (·.zero)=some (.agg (ba 32 (fun _=>0#8)).toArray):=by kernel_rfl
end Fx
theorem root_ok (ds:List Dg) (h:Sh) (G:PM) (hs:SlR G 32 (ba 32) h ds) (hK:RdNP G 0 0 (wa 64 kW)) (hl:ds.length≤1000000):Ct Tryz.prog 151 ([h.val ds.length]:List Value).toArray G [] (fun _ μ' u=>μ'=[]∧u=.agg (ba 32 (rootD ds)).toArray):=by
 refine Ct.of Tryz.func151 rfl Tryz.ntmps151 rfl fun w0 hs0=>?_
 refine .seq (rq1 rfl rfl ?_)
 refine al rfl Fx.zq71 ?_; intro b2
 refine .nil (.code (.seq (.seq (rq3 rfl rfl (mV rfl rfl (ln rfl .no Fx.sn278 (.u rfl) (cp rfl .no (.u rfl) (.u rfl) rfl (.nil (.code (.cond rfl (fun c1=>?_) (fun c1=>?_)))))))))))
 ·have c1k:=c1
  try simp only [qcA,qcC,qcB] at c1
  refine .seq (rq4 rfl rfl ?_)
  refine Go.Tan.b1 rfl Fx.se131 Fx.zv5 (.u rfl) rfl rfl (by decide) ?_; intro b12
  refine Go.Tan.b1 rfl Fx.se150 Fx.zv131 (.u rfl) rfl rfl (by decide) ?_; intro b13
  refine kp rfl .no Fx.go193 (Evc rfl Evn) (Gp.add .here (Gp.add .here Gp.nil)) (fun _ hle hq=>emptyS_ok (kind:=2#8) hle hq.1 hK) ?_
  refine sw rfl (.u rfl) (.u rfl) rfl Fx.sz71 tk2 (by first|exact qE|exact qL|rfl) (by first|exact ba_one _ _|exact wa_one _ _|exact one_V _|decide|exact one_app (wa_one _ _) (by simp [Value.oneCell'])) ?_
  refine .nil (.code (.ret (We.fin0 Tryz.results151 (.cell rfl (fun w hw=>run_loadVarN Fx.ag71 (RdN.own .here) ((by first|exact qE|exact qL|rfl)) hw) .nil) ?_)))
  obtain rfl:ds=[]:=List.eq_nil_of_length_eq_zero (by omega)
  exact ⟨rfl,by rw [root_nil]; rfl⟩
 have c1k:=c1
 try simp only [qcA,qcC,qcB] at c1
 refine .skip (.code (.seq (rq1 rfl rfl (aS rfl rfl (.nil (.code (.seq (.seq (wk_nilS 32 (ba 32) 71 ?_)))))))))
 refine rq3 rfl rfl (mV rfl rfl (ln rfl .no Fx.sn278 (.u rfl) (mV rfl rfl (.nil (.code (.block ?_))))))
 refine Wk.lop (α:=Nat×List (Nat×Dg)×Value) (fun gh=>[(3,true,gh.2.2),(17,true,.int .i64 (gh.1:Int))]) (fun gh=>[rS 32 (ba 32) gh.2.2 71 (stkL gh.2.1)])
  (fun gh Gl=>(gh.1≤ds.length)∧(Stk gh.2.1 (ds.take gh.1))) (fun gh=>ds.length-gh.1) (0,[],.slice none 0 0) [(2,true,_),(15,true,_),(16,true,_)] [_]
  (esD rfl (esC rfl (by first|rfl|exact evi (by omega)) (esD rfl (esD rfl (esD rfl eZ)))))
  (mS .here rfl (mS .here rfl mN)) ?_ ?_
 ·refine ⟨?_,?_⟩
  ·(try dsimp only)<;>(first|omega|rfl|assumption|(simp; done))
  (try dsimp only)<;>(exact Stk.nil)
 intro gh N0 Gl0 hN0 hGl0 hF0
 obtain ⟨k,S,v⟩:=gh; dsimp only at hF0 hN0 ⊢
 obtain ⟨hk,hS⟩:=hF0
 have hs:=hs.mono hGl0
 have hK:=hK.mono hGl0
 refine .seq (rq1 rfl rfl (cp rfl .no (.u rfl) (.u rfl) rfl (.nil (.code (.seq (.cond rfl (fun c2=>?_) (fun c2=>?_)))))))
 ·have c2k:=c2
  try simp only [qcA,qcC,qcB] at c2
  refine .skip (.code (.seq (.block (.seq (rq6 rfl rfl (mV rfl rfl ?_))))))
  obtain ⟨x,ex⟩:=getx (k:=k) (xs:=ds) (by omega)
  refine ih rfl .no Fx.se278 (.u rfl) (.u rfl) (fun _=>by omega) (fun _=>by omega) (fun _=>hs.nn (k:=k) (by first|omega|(simp only [Bool.and_eq_true,decide_eq_true_eq] at hc; omega)|(simp only [List.length_cons,List.length_nil]; omega))) ?_
  refine lA rfl .no Fx.ag71 (.u rfl) (fun _=>(hs.at (by omega) ex).rd) (fun _=>ba_len _ _) ?_
  refine al rfl Fx.zq71 ?_; intro b5
  refine aS rfl rfl (sw rfl (.u rfl) (.u rfl) rfl Fx.sz71 .here rfl (ba_one _ _) ?_)
  refine .nil (.code (.seq (.seq (rq3 rfl rfl (mV rfl rfl (arn (((k+1):Nat):Int) rfl .no (.u rfl) (.u rfl) rfl (fun _=>by omega) (fun _=>wrap_i64 (by omega) (by omega)) ?_))))))
  refine aS rfl rfl (.nil (.code (.block ?_)))
  refine Wk.lop (α:=Nat×Nat×List (Nat×Dg)×Dg×Value) (fun gh=>[(3,true,gh.2.2.2.2),(6,true,.int .i64 (gh.1:Int))]) (fun gh=>[.blk b5 (cl (ba 32 gh.2.2.2.1) 71),rS 32 (ba 32) gh.2.2.2.2 71 (stkL gh.2.2.1)])
   (fun gh Gl=>(Pend gh.2.2.1 gh.2.2.2.1 gh.2.1 (ds.take (k+1)))∧(gh.1=(ds.take (k+1)).length / 2^gh.2.1)∧(gh.1≤k+1)) (fun gh=>gh.1) (k+1,0,S,x,v) [(2,true,_),(5,true,_),(15,true,_),(16,true,_),(17,true,_)] [_]
   (esD rfl (esC rfl (by first|rfl|exact evi (by omega)) (esD rfl (esD rfl (esD rfl (esD rfl (esD rfl eZ)))))))
   (mS .here rfl (mS .here rfl (mS .here rfl mN))) ?_ ?_
  ·refine ⟨?_,?_,?_⟩
   ·(try dsimp only)<;>(rw [List.take_add_one,ex]; exact Pend.start hS x)
   ·(try dsimp only)<;>(rw [Nat.pow_zero,Nat.div_one,List.length_take]; omega)
   (try dsimp only)<;>(first|omega|rfl|assumption|(simp; done))
  intro gh N1 Gl1 hN1 hGl1 hF1
  obtain ⟨q,a,S2,dd,v2⟩:=gh; dsimp only at hF1 hN1 ⊢
  obtain ⟨hP,eq,hqk⟩:=hF1
  have hK:=hK.mono hGl1
  have hq0:=pend_pos hP eq
  have hl2:=pend_len hP
  rw [← stkL_len,List.length_take] at hl2
  refine .seq (.seq (rq3 rfl rfl (mV rfl rfl (an1 q rfl .no (.u rfl) (.u rfl) rfl rfl ?_))))
  refine cp rfl .no (.u rfl) (.u rfl) rfl (.nil (.code (.cond rfl (fun c3=>?_) (fun c3=>?_))))
  ·have c3k:=c3
   try simp only [qcA,qcC,qcB] at c3
   refine .skip (.code (.seq (.block (.seq ?_))))
   obtain ⟨s,S3,hS3,hP3,hq3⟩:=pend_even hP eq (by omega)
   have hl3:(stkL S2).length=(stkL S3).length+1:=by rw [hS3,stkL_cons,List.length_append]; rfl
   refine wk_rv tk1 (by omega) ?_; intro bbRS capRS evRS lcRS; subst evRS
   refine Wk.draw (mc:=⟨false,false⟩) [0,1,2,3,4,5,6,7,8] Fx.mix (by kernel_rfl) ?_
   refine mV rfl rfl (mV rfl rfl (lr rfl .no Fx.sn278 (.u rfl) tk1 ?_))
   refine arn ((((stkL S2).length-1):Nat):Int) rfl .no (.u rfl) (.u rfl) rfl (fun _=>by omega) (fun _=>wrap_i64 (by omega) (by omega)) ?_
   refine ia rfl .no Fx.se278 (.u rfl) (.u rfl) (fun _=>by omega) (fun _=>by omega) ?_
   refine lA rfl .no Fx.ag71 (.u rfl) (fun _=>RdN.rowS tk1 (fun _ _=>ba_len _ _) (gd_at (z:=zD) (k:=((stkL S2).length-1)) (by omega)) (by omega)) (fun _=>ba_len _ _) ?_
   refine lA rfl .no Fx.ag71 (.u rfl) (fun _=>RdN.own .here) (fun _=>(by first|exact qE|exact qL|rfl)) ?_
   refine kv rfl .no Fx.go194 (Evc rfl (Evc rfl Evn)) (fun _=>join_ok _ _ _ hK) ?_
   refine sw rfl (.u rfl) (.u rfl) rfl Fx.sz71 .here (by first|exact qE|exact qL|rfl) (ba_one _ _) ?_
   refine .nil (.code (rq6 rfl rfl (mV rfl rfl (mV rfl rfl (lr rfl .no Fx.sn278 (.u rfl) tk1 ?_)))))
   refine ar rfl .no (.u rfl) (.u rfl) rfl (fun _=>wrap_i64 (by omega) (by omega)) ?_
   refine srh (stkL S3).length rfl Fx.se278 (.u rfl) (.u rfl) (by omega) (by omega) ?_
   refine aS rfl rfl (.nil (.blk (.code (wk_popS (stkL S3) [s] (fun _ _=>ba_len _ _) tk1 (by rw [hS3,stkL_cons]) ?_))))
   refine rq3 rfl rfl (mV rfl rfl (sr1 (q) rfl .no (.u rfl) (.u rfl) (by first|rfl|omega) rfl (by decide) ?_))
   refine aS rfl rfl (.nil (We.lpo (q / 2,a+1,S3,joinD ((stkL S2).getD ((stkL S2).length-1) zD) dd,.slice (some ⟨bbRS,0,none⟩) (stkL S3).length capRS) ?_ ?_ ?_ ?_ ?_))
   ·exact (esD rfl (esC rfl (by first|rfl|exact evi (by omega)) (esD rfl (esD rfl (esD rfl (esD rfl (esD rfl eZ)))))))
   ·exact (mS tk1 rfl (mS .here rfl (mS .here rfl mN)))
   ·first|omega|(dsimp only; omega)
   ·exact hGl1
   refine ⟨?_,?_,?_⟩
   ·(try dsimp only)<;>(rw [stk_top hS3]; exact hP3)
   ·(try dsimp only)<;>(exact hq3)
   (try dsimp only)<;>(first|omega|rfl|assumption|(simp; done))
  have c3k:=c3
  try simp only [qcA,qcC,qcB] at c3
  refine .exit (.xcode (.xlp (.xblk (.code (rq5 rfl rfl (mV rfl rfl (lA rfl .no Fx.ag71 (.u rfl) (fun _=>RdN.own .here) (fun _=>(by first|exact qE|exact qL|rfl)) ?_)))))))
  refine Go.Tan.b1 rfl Fx.se278 Fx.zw71 (.u rfl) rfl rfl (by decide) ?_; intro b44
  refine apS (xs:=(stkL S2)) (dd) rfl Fx.se278 Fx.zw71 rfl (.u rfl) (.u rfl) tk2 .here (ba_len _ _) (ba_one _ _) (by omega) (by unfold maxLen; omega) ?_; intro v45 ov45
  refine aS rfl rfl (.nil (.blk (.code (rq2 rfl rfl (arn (((k+1):Nat):Int) rfl .no (.u rfl) (.u rfl) rfl (fun _=>by omega) (fun _=>wrap_i64 (by omega) (by omega)) ?_)))))
  refine mV rfl rfl (.nil (We.lpo (k+1,(a,dd) :: S2,v45) ?_ ?_ ?_ ?_ ?_))
  ·exact (esD rfl (esC rfl (by first|rfl|exact evi (by omega)) (esD rfl (esD rfl (esD rfl eZ)))))
  ·exact (mS .here (by rw [stkL_cons]) (mS tk2 rfl mN))
  ·first|omega|(dsimp only; omega)
  ·exact (hGl0).trans hGl1
  refine ⟨?_,?_⟩
  ·(try dsimp only)<;>(first|omega|rfl|assumption|(simp; done))
  (try dsimp only)<;>(exact pend_odd hP eq (by omega))
 have c2k:=c2
 try simp only [qcA,qcC,qcB] at c2
 refine .exit (.xcode (.xlp (.xblk (.code (.seq ?_)))))
 obtain rfl:k=ds.length:=by omega
 rw [List.take_length] at hS
 obtain ⟨hs0,hroot⟩:=stk_done hS (by omega)
 have hsl:=hS.short
 rw [← stkL_len] at hsl
 refine wk_rv .here (by omega) ?_; intro bbRS capRS evRS lcRS; subst evRS
 refine rq8 rfl rfl (mV rfl rfl (mV rfl rfl (lr rfl .no Fx.sn278 (.u rfl) .here ?_)))
 refine arn ((((stkL S).length-1):Nat):Int) rfl .no (.u rfl) (.u rfl) rfl (fun _=>by omega) (fun _=>wrap_i64 (by omega) (by omega)) ?_
 refine ia rfl .no Fx.se278 (.u rfl) (.u rfl) (fun _=>by omega) (fun _=>by omega) ?_
 refine lA rfl .no Fx.ag71 (.u rfl) (fun _=>RdN.rowS .here (fun _ _=>ba_len _ _) (gd_at (z:=zD) (k:=((stkL S).length-1)) (by omega)) (by omega)) (fun _=>ba_len _ _) ?_
 refine al rfl Fx.zq71 ?_; intro b7
 refine sw rfl (.u rfl) (.u rfl) rfl Fx.sz71 .here rfl (ba_one _ _) ?_
 refine .nil (.code (.seq (.seq (rq4 rfl rfl (mV rfl rfl (lr rfl .no Fx.sn278 (.u rfl) tk1 ?_))))))
 refine ar rfl .no (.u rfl) (.u rfl) rfl (fun _=>wrap_i64 (by omega) (by omega)) ?_
 refine aS rfl rfl (.nil (.code (.block ?_)))
 refine Wk.lop (α:=Nat×Dg) (fun gh=>[(8,true,.int .i64 ((gh.1:Int)-1))]) (fun gh=>[.blk b7 (cl (ba 32 gh.2) 71)])
  (fun gh Gl=>(gh.1≤(stkL S).length-1)∧(rootD ds=finB gh.2 (stkL S) gh.1)) (fun gh=>gh.1) ((stkL S).length-1,(stkL S).getD ((stkL S).length-1) zD) [(2,true,_),(3,true,_),(7,true,_)] [_,_]
  (esC rfl (evi (by omega)) (esD rfl (esD rfl (esD rfl eZ))))
  (mS .here rfl (mS .here rfl (mS .here rfl mN))) ?_ ?_
 ·refine ⟨?_,?_⟩
  ·(try dsimp only)<;>(first|omega|rfl|assumption|(simp; done))
  (try dsimp only)<;>(exact hroot)
 intro gh N2 Gl2 hN2 hGl2 hF2
 obtain ⟨j,d⟩:=gh; dsimp only at hF2 hN2 ⊢
 obtain ⟨hj,hd⟩:=hF2
 have hK:=hK.mono hGl2
 refine .seq (.seq (rq2 rfl rfl (mV rfl rfl (cp rfl .no (.u rfl) (.u rfl) rfl (.nil (.code (.cond rfl (fun c4=>?_) (fun c4=>?_))))))))
 ·have c4k:=c4
  try simp only [qcA,qcC,qcB] at c4
  refine .skip (.code (.seq (.block (Wk.draw (mc:=⟨false,false⟩) [0,1,2,3,4,5,6] Fx.mix (by kernel_rfl) ?_))))
  refine mV rfl rfl (mV rfl rfl (ia rfl .no Fx.se278 (.u rfl) (.u rfl) (fun _=>by omega) (fun _=>by omega) ?_))
  refine lA rfl .no Fx.ag71 (.u rfl) (fun _=>RdN.rowS tk1 (fun _ _=>ba_len _ _) (gd_at (z:=zD) (k:=(j-1)) (by omega)) (by omega)) (fun _=>ba_len _ _) ?_
  refine lA rfl .no Fx.ag71 (.u rfl) (fun _=>RdN.own .here) (fun _=>(by first|exact qE|exact qL|rfl)) ?_
  refine kv rfl .no Fx.go194 (Evc rfl (Evc rfl Evn)) (fun _=>join_ok _ _ _ hK) ?_
  refine sw rfl (.u rfl) (.u rfl) rfl Fx.sz71 .here (by first|exact qE|exact qL|rfl) (ba_one _ _) ?_
  refine .nil (.blk (.code (rq3 rfl rfl (mV rfl rfl (ar rfl .no (.u rfl) (.u rfl) rfl (fun _=>wrap_i64 (by omega) (by omega)) ?_)))))
  refine aS rfl rfl (.nil (We.lpo (j-1,joinD ((stkL S).getD (j-1) zD) d) ?_ ?_ ?_ ?_ ?_))
  ·exact (esC rfl (evi (by omega)) (esD rfl (esD rfl (esD rfl eZ))))
  ·exact (mS .here rfl (mS .here rfl (mS .here rfl mN)))
  ·first|omega|(dsimp only; omega)
  ·exact hGl2
  refine ⟨?_,?_⟩
  ·(try dsimp only)<;>(first|omega|rfl|assumption|(simp; done))
  (try dsimp only)<;>(rw [hd,finB_pred (by omega)])
 have c4k:=c4
 try simp only [qcA,qcC,qcB] at c4
 refine .exit (.xcode (.xlp (.xblk (.code (.seq (rq2 rfl rfl (lA rfl .no Fx.ag71 (.u rfl) (fun _=>RdN.own .here) (fun _=>(by first|exact qE|exact qL|rfl)) ?_)))))))
 refine sw rfl (.u rfl) (.u rfl) rfl Fx.sz71 tk2 rfl (ba_one _ _) ?_
 refine .nil (.code (.ret (We.fin0 Tryz.results151 (.cell rfl (fun w hw=>run_loadVarN Fx.ag71 (RdN.own .here) ((by first|exact qE|exact qL|rfl)) hw) .nil) ?_)))
 obtain rfl:j=0:=by omega
 exact ⟨rfl,by rw [hd]; rfl⟩
namespace FxManR
theorem ag62:aggN Tryz.prog 62=some (some 5):=by kernel_rfl
end FxManR
namespace Fx
theorem ag278:aggN Tryz.prog 278=some none:=by kernel_rfl
theorem go182:goFn Tryz.prog 182=true:=by kernel_rfl
theorem go152:goFn Tryz.prog 152=true:=by kernel_rfl
theorem sz278:szT Tryz.prog 278=some 1:=by kernel_rfl
theorem zr278:zrL Tryz.prog 278=some ([.slice none 0 0]):=by kernel_rfl
theorem bp163_0_1_2_3_4:bPl Tryz.prog 163 [0,1,2,3,4]=some (nine (fun _=>0)++[.slice none 0 0,.slice none 0 0],[(0,1),(1,1),(2,1),(3,1),(4,5)]):=by kernel_rfl
theorem go224:goFn Tryz.prog 224=true:=by kernel_rfl
theorem bp163_5:bPl Tryz.prog 163 [5]=some (nine (fun _=>0)++[.slice none 0 0,.slice none 0 0],[(9,1)]):=by kernel_rfl
theorem go151:goFn Tryz.prog 151=true:=by kernel_rfl
end Fx
theorem add_ok (e:Edit) (ha hd:Sh) (L:List Dg) (v:Value) (bl:Nat) (G:PM) (he:EdR G e ha hd) (hla:e.add.length≤1000000) (hld:e.drop.length≤1000000) (hlm:(e.add.flatMap encM).length≤9000000000000) (hK:RdNP G 0 0 (wa 64 kW)) (hL:L.length≤1000000):Ct Tryz.prog 224 ([e.val ha hd,.pointer (some ⟨bl,0,none⟩)]:List Value).toArray G [.blk bl (cl [v] 278),rS 32 (ba 32) v 71 L] (fun _ μ' u=>∃ v',μ'=[.blk bl (cl [v'] 278),rS 32 (ba 32) v' 71 (L++[leafE e])]∧u=.tuple #[]):=by
 refine Ct.of Tryz.func224 rfl Tryz.ntmps224 rfl fun w0 hs0=>?_
 have hle:=encE_len he.wf hla hld
 refine .seq (rq1 rfl rfl ?_)
 refine bx rfl (.u rfl) rfl ?_; intro b2
 refine .nil (.code (Wk.draw (mc:=⟨false,false⟩) [0,1,2,3,4,5,6] Fx.mix (by kernel_rfl) ?_))
 refine ld rfl .no Fx.ag278 (.u rfl) (fun _=>Rd.own tk1 (by first|exact wap_f rfl|rfl)) ?_
 refine lA rfl .no Fx.ag163 (.u rfl) (fun _=>RdN.own .here) (fun _=>Edit.len) ?_
 refine kc rfl Fx.go182 (Evc rfl Evn) (encode_ok e ha hd _ he hla hld (by omega)) ?_
 rintro _ G5 μ5 hG5 ⟨h5,L5,eL5,rfl,rfl,hs5⟩
 have hK:=hK.mono hG5
 refine kv rfl .no Fx.go152 (Evc rfl Evn) (fun _=>leaf_ok _ _ _ hs5 hK (by rw [eL5]; omega)) ?_
 refine Go.Tan.b1 rfl Fx.se278 Fx.zw71 (.u rfl) rfl rfl (by decide) ?_; intro b7
 refine apS (xs:=L) ((leafD L5)) rfl Fx.se278 Fx.zw71 rfl (.u rfl) (.u rfl) tk3 .here (ba_len _ _) (ba_one _ _) (by omega) (by unfold maxLen; omega) ?_; intro v8 ov8
 refine s1v rfl (.u rfl) (.u rfl) .here Fx.sz278 tk3 (by first|decide|(simp only [wa_len,ba_len,qlA]; omega)) (rfl) ?_
 refine .nil (.nil (We.fin Tryz.results224 .nil (mS .here rfl (mS .here rfl mN)) ?_))
 exact ⟨_,by rw [eL5]; rfl,rfl⟩
theorem add_one (m:Meta) (b:Nat) (T:TypeId) (L:List Dg) (v:Value) (bl:Nat) (G:PM) (hw:m.wf) (hm:m.min.size+m.max.size≤900000000000) (hK:RdNP G 0 0 (wa 64 kW)) (hL:L.length≤1000000):Ct Tryz.prog 224 ([(oneE m).val ⟨some ⟨b,0,none⟩,1⟩ ⟨none,0⟩]++[.pointer (some ⟨bl,0,none⟩)]:List Value).toArray G [.blk b (cl m.cells T),.blk bl (cl [v] 278),rS 32 (ba 32) v 71 L] (fun _ μ' u=>∃ v',μ'=[.blk bl (cl [v'] 278),rS 32 (ba 32) v' 71 (L++[leafE (oneE m)])]∧u=.tuple #[]):=by
 refine Ct.give fun hle=>?_
 have h1:=oneE_len hw
 exact add_ok (oneE m) ⟨some ⟨b,0,none⟩,1⟩ ⟨none,0⟩ L v bl _ ⟨SlR.one1 (enc:=Meta.cells) (x:=m),SlR.nul,oneE_wf hw⟩ (by show 1≤_; decide) (by show 0≤_; decide) (by omega) (hK.mono hle) hL
theorem mRoot_ok (s:State) (hd:Nat→Sh) (G:PM) (hs:StR G s hd) (hn:StN s) (hl:StL s) (hK:RdNP G 0 0 (wa 64 kW)):Ct Tryz.prog 181 ([s.val hd]:List Value).toArray G [] (fun _ μ' u=>μ'=[]∧u=.agg (ba 32 (rootS s)).toArray):=by
 refine Ct.of Tryz.func181 rfl Tryz.ntmps181 rfl fun w0 hs0=>?_
 have hf:=hl.few
 refine .seq (rq2 rfl rfl ?_)
 refine bx rfl (.u rfl) rfl ?_; intro b1
 refine al rfl Fx.zq71 ?_; intro b2
 refine .nil (.code (.seq (rq1 rfl rfl ?_)))
 refine al rfl Fx.zr278 ?_; intro b3
 refine .nil (.code (.seq (rq2 rfl rfl (mf (vf:=#[]) (vc:=[Value.pointer (some ⟨b3,0,none⟩)].toArray) rfl .no (fun a ha _=>by simp) (fun a ha _=>by simp [(Ev.u (c:=true) rfl:Ev _ true (.tmp 3) _).eval ha rfl]) ?_))))
 refine aS rfl rfl (.nil (.code (.seq (wk_nilS 32 (ba 32) 71 ?_))))
 refine Wk.rg [0,1,2,3,4,5,6,7,8,9,10,11,12] rfl rfl (mV rfl rfl (fz rfl .no Fx.fo64_1 (.u rfl) (ld rfl .no Fx.ag41 (.u rfl) (fun _=>Rd.own tk3 (by first|exact wap_f rfl|rfl)) ?_)))
 refine fz rfl .no Fx.fo64_2 (.u rfl) (ld rfl .no Fx.ag41 (.u rfl) (fun _=>Rd.own tk3 (by first|exact wap_f rfl|rfl)) ?_)
 refine fz rfl .no Fx.fo64_3 (.u rfl) (ld rfl .no Fx.ag41 (.u rfl) (fun _=>Rd.own tk3 (by first|exact wap_f rfl|rfl)) ?_)
 refine fz rfl .no Fx.fo64_4 (.u rfl) (ld rfl .no Fx.ag41 (.u rfl) (fun _=>Rd.own tk3 (by first|exact wap_f rfl|rfl)) ?_)
 refine fz rfl .no Fx.fo64_5 (.u rfl) (lA rfl .no FxManR.ag62 (.u rfl) (fun _=>RdN.part (n:=5) (cs':=(List.range 5).map (fun i=>.int .u64 (s.gens i))) tk3 (rfl)) (fun _=>rfl) (bCe ((headE s).cells ⟨none,0⟩ ⟨none,0⟩) rfl .no Fx.bp163_0_1_2_3_4 (.cons (.u rfl) rfl (.cons (.u rfl) rfl (.cons (.u rfl) rfl (.cons (.u rfl) rfl (.cons (.u rfl) rfl .nil))))) rfl (rfl) (kaf (vs:=[_]) (vc:=[.pointer (some ⟨b3,0,none⟩)]) rfl (.inr rfl) (.u rfl) Fx.go224 (Evc rfl Evn) (mtk2 tk1 .here) (add_ok (headE s) ⟨none,0⟩ ⟨none,0⟩ [] _ b3 _ ⟨SlR.nul,SlR.nul,headE_wf hn⟩ (by show 0≤_; decide) (by show 0≤_; decide) (by have:=headE_len (s:=s); omega) hK (by simp)) ?_)))
 rintro _ G22 μ22 hG22 ⟨v22,rfl,rfl⟩
 have hs:=hs.mono hG22
 have hK:=hK.mono hG22
 refine .nil (.code (.seq (.seq (rq3 rfl rfl (fz rfl .no Fx.fo64_0 (.u rfl) (lA rfl .no Fx.ag61 (.u rfl) (fun _=>RdN.part (n:=5) (cs':=(List.range 5).map (fun i=>(hd i).val (s.lv i).length)) tk3 (rfl)) (fun _=>rfl) ?_))))))
 refine mV rfl rfl (.nil (.code (.block ?_)))
 refine Wk.lop (α:=Nat×Value) (fun gh=>[(25,true,.int .i64 (gh.1:Int))]) (fun gh=>[.blk b3 (cl [gh.2] 278),rS 32 (ba 32) gh.2 71 (leavesT s gh.1 0)])
  (fun gh Gl=>(gh.1≤5)) (fun gh=>5-gh.1) (0,v22) [(2,true,_),(3,true,_),(4,true,_),(24,true,_)] [_,_]
  (esC rfl (by first|rfl|exact evi (by omega)) (esD rfl (esD rfl (esD rfl (esD rfl eZ)))))
  (mS .here rfl (mS .here (by rw [leavesT_0]) (mS .here rfl (mS .here rfl mN)))) ?_ ?_
 ·(try dsimp only)<;>(first|omega|rfl|assumption|(simp; done))
 intro gh N0 Gl0 hN0 hGl0 hF0
 obtain ⟨k,v⟩:=gh; dsimp only at hF0 hN0 ⊢
 have hk:=hF0
 have hs:=hs.mono hGl0
 have hK:=hK.mono hGl0
 refine .seq (rq1 rfl rfl (cp rfl .no (.u rfl) (.u rfl) rfl (.nil (.code (.seq (.cond rfl (fun c1=>?_) (fun c1=>?_)))))))
 ·have c1k:=c1
  try simp only [qcA,qcC,qcB] at c1
  refine .skip (.code (.seq (.block (.seq ?_))))
  have hlv:=hs.lv k (by omega)
  have htl:=tot_lt (s:=s) (k:=k) (by omega)
  have htn:=tot_nonneg s k
  refine rq2 rfl rfl (ix rfl .no Fx.ar61 Fx.ag60 (.u rfl) (.u rfl) (fun _=>by omega) (fun _=>by omega) (fun _=>(lvs_at s hd (k:=k) (by omega) (by omega))) ?_)
  refine aS rfl rfl (.nil (.code (.seq (rq3 rfl rfl (mV rfl rfl (ln rfl .no Fx.sn60 (.u rfl) (mV rfl rfl (.nil (.code (.block ?_))))))))))
  refine Wk.lop (α:=Nat×Value) (fun gh=>[(30,true,.int .i64 (gh.1:Int))]) (fun gh=>[.blk b3 (cl [gh.2] 278),rS 32 (ba 32) gh.2 71 (leavesT s k gh.1)])
   (fun gh Gl=>(gh.1≤(s.lv k).length)) (fun gh=>(s.lv k).length-gh.1) (0,v) [(2,true,_),(3,true,_),(4,true,_),(24,true,_),(25,true,_),(28,true,_),(29,true,_)] [_,_]
   (esC rfl (by first|rfl|exact evi (by omega)) (esD rfl (esD rfl (esD rfl (esD rfl (esD rfl (esD rfl (esD rfl eZ))))))))
   (mS .here rfl (mS .here rfl (mS .here rfl (mS .here rfl mN)))) ?_ ?_
  ·(try dsimp only)<;>(first|omega|rfl|assumption|(simp; done))
  intro gh N1 Gl1 hN1 hGl1 hF1
  obtain ⟨j,w⟩:=gh; dsimp only at hF1 hN1 ⊢
  have hj:=hF1
  have hs:=hs.mono hGl1
  have hK:=hK.mono hGl1
  have hlv:=hlv.mono hGl1
  refine .seq (rq1 rfl rfl (cp rfl .no (.u rfl) (.u rfl) rfl (.nil (.code (.seq (.cond rfl (fun c2=>?_) (fun c2=>?_)))))))
  ·have c2k:=c2
   try simp only [qcA,qcC,qcB] at c2
   refine .skip (.code (.seq (.block (.seq (rq4 rfl rfl (ih rfl .no Fx.se60 (.u rfl) (.u rfl) (fun _=>by omega) (fun _=>by omega) (fun _=>hlv.nn (k:=j) (by first|omega|(simp only [Bool.and_eq_true,decide_eq_true_eq] at hc; omega)|(simp only [List.length_cons,List.length_nil]; omega))) ?_))))))
   obtain ⟨m,em⟩:=getx (k:=j) (xs:=s.lv k) (by omega)
   refine lA rfl .no Fx.ag128 (.u rfl) (fun _=>(hlv.at (by omega) em).rd) (fun _=>Meta.len _) ?_
   refine al rfl Fx.zq128 ?_; intro b8
   refine sw rfl (.u rfl) (.u rfl) rfl Fx.sz128 .here rfl (Meta.one _) ?_
   refine .nil (.code (rq5 rfl rfl (mV rfl rfl (lA rfl .no Fx.ag128 (.u rfl) (fun _=>RdN.own .here) (fun _=>Meta.len _) ?_))))
   refine Go.Tan.b1 rfl Fx.se60 Fx.zw128 (.u rfl) rfl rfl (by decide) ?_; intro b36
   refine bCe ((oneE m).cells ⟨some ⟨b36,0,none⟩,1⟩ ⟨none,0⟩) rfl .no Fx.bp163_5 (.cons (.u rfl) rfl .nil) rfl (rfl) (kaf (vs:=[_]) (vc:=[.pointer (some ⟨b3,0,none⟩)]) rfl (.inr rfl) (.u rfl) Fx.go224 (Evc rfl Evn) (mtk3 .here tk1 tk1) (add_one m b36 _ (leavesT s k j) _ b3 _ (hs.wf k (by omega) m (List.mem_of_getElem? em)) (hl.short k (by omega) m (List.mem_of_getElem? em)) hK (by have:=leavesT_len s k j; omega)) ?_)
   rintro _ G38 μ38 hG38 ⟨v38,rfl,rfl⟩
   have hK:=hK.mono hG38
   refine .nil (.blk (.code (rq2 rfl rfl (arn (((j+1):Nat):Int) rfl .no (.u rfl) (.u rfl) rfl (fun _=>by omega) (fun _=>wrap_i64 (by omega) (by omega)) ?_))))
   refine mV rfl rfl (.nil (We.lpo (j+1,v38) ?_ ?_ ?_ ?_ ?_))
   ·exact (esC rfl (by first|rfl|exact evi (by omega)) (esD rfl (esD rfl (esD rfl (esD rfl (esD rfl (esD rfl (esD rfl eZ))))))))
   ·exact (mS .here rfl (mS .here (by rw [leavesT_snoc em]) (mS tk1 rfl (mS tk1 rfl mN))))
   ·first|omega|(dsimp only; omega)
   ·exact (hGl1).trans hG38
   (try dsimp only)<;>(first|omega|rfl|assumption|(simp; done))
  have c2k:=c2
  try simp only [qcA,qcC,qcB] at c2
  refine .exit (.xcode (.xlp (.xblk (.blk (.code (rq2 rfl rfl (arn (((k+1):Nat):Int) rfl .no (.u rfl) (.u rfl) rfl (fun _=>by omega) (fun _=>wrap_i64 (by omega) (by omega)) ?_)))))))
  refine mV rfl rfl (.nil (We.lpo (k+1,w) ?_ ?_ ?_ ?_ ?_))
  ·exact (esC rfl (by first|rfl|exact evi (by omega)) (esD rfl (esD rfl (esD rfl (esD rfl eZ)))))
  ·exact (mS .here rfl (mS .here (by rw [leavesT_next (by omega)]) (mS .here rfl (mS .here rfl mN))))
  ·first|omega|(dsimp only; omega)
  ·exact (hGl0).trans hGl1
  (try dsimp only)<;>(first|omega|rfl|assumption|(simp; done))
 have c1k:=c1
 try simp only [qcA,qcC,qcB] at c1
 refine .exit (.xcode (.xlp (.xblk (.code (.seq ?_)))))
 obtain rfl:k=5:=by omega
 rw [leavesT_5]
 have hll:=leavesS_len s
 refine wk_fs tk1 (fun _ _=>rfl) (by intro b hb; cases hb) ?_; intro GfRL hRL hleRL evRL hsRL; subst evRL
 have hK:=hK.mono hleRL
 refine rq3 rfl rfl (ld rfl .no Fx.ag278 (.u rfl) (fun _=>Rd.own .here (by first|exact wap_f rfl|rfl)) ?_)
 refine kv rfl .no Fx.go151 (Evc rfl Evn) (fun _=>root_ok (leavesS s) hRL _ hsRL hK (by omega)) ?_
 refine sw rfl (.u rfl) (.u rfl) rfl Fx.sz71 tk1 (by first|exact qE|exact qL|rfl) (by first|exact ba_one _ _|exact wa_one _ _|exact one_V _|decide|exact one_app (wa_one _ _) (by simp [Value.oneCell'])) ?_
 refine .nil (.code (.ret (We.fin0 Tryz.results181 (.cell rfl (fun w hw=>run_loadVarN Fx.ag71 (RdN.own .here) ((ba_len _ _)) hw) .nil) ?_)))
 exact ⟨rfl,rfl⟩
end Go.Proofs.YtggleibgadkodaaGreatDoor
namespace Go.Proofs.YtggleibgadkodaaGreatDoor
open Go.Tan Go.RowKit Go.Maps Go.Sort Go.Shelf
namespace Fx
theorem go278:goFn Tryz.prog 278=true:=by kernel_rfl
theorem go255:goFn Tryz.prog 255=true:=by kernel_rfl
theorem zq64:zrL Tryz.prog 64=some ((State.zero.cells hd0)):=by kernel_rfl
theorem go23:goFn Tryz.prog 23=true:=by kernel_rfl
theorem go217:goFn Tryz.prog 217=true:=by kernel_rfl
theorem bp64_1_2_3_4_5_0:bPl Tryz.prog 64 [1,2,3,4,5,0]=some ((State.zero.cells hd0),[(5,1),(6,1),(7,1),(8,1),(9,5),(0,5)]):=by kernel_rfl
theorem sz64:szT Tryz.prog 64=some 14:=by kernel_rfl
theorem go76:goFn Tryz.prog 76=true:=by kernel_rfl
theorem go220:goFn Tryz.prog 220=true:=by kernel_rfl
theorem go180:goFn Tryz.prog 180=true:=by kernel_rfl
theorem go181:goFn Tryz.prog 181=true:=by kernel_rfl
theorem go62:goFn Tryz.prog 62=true:=by kernel_rfl
theorem zr263:zrL Tryz.prog 263=some ([.slice none 0 0,.pointer none,.int .u64 0]):=by kernel_rfl
theorem go79:goFn Tryz.prog 79=true:=by kernel_rfl
theorem bp263_1:bPl Tryz.prog 263 [1]=some ([.slice none 0 0,.pointer none,.int .u64 0],[(1,1)]):=by kernel_rfl
theorem sz263:szT Tryz.prog 263=some 3:=by kernel_rfl
theorem go101:goFn Tryz.prog 101=true:=by kernel_rfl
theorem ag263:aggN Tryz.prog 263=some (some 3):=by kernel_rfl
end Fx
theorem wLay_row (root:Nat→Y) (h:Hd) (n:BitVec 64) (p:List Y) (v:Value) (G:PM) (hK:RdNP G 0 0 (wa 64 kW)):Ct Tryz.prog 62 ([.agg (ba 32 root).toArray,.agg ([V h.kind,V h.level,uv .u64 h.gen,uv .u64 h.epoch,uv .u64 h.num]:List Value).toArray,uv .u64 n,v]:List Value).toArray G [rB v 5 p] (fun _ μ' u=>∃ ν,μ'=rB v 5 p :: ν∧∃ v' L e,(L,e)=layP root h n p∧ν=[rB v' 5 L]∧u=.tuple #[v',.int .i64 e]) :=
 Ct.lendB (fun hp G2 hle hv hs=>by subst hv; exact wLay_ok root h n p hp G2 hs (hK.mono hle))
theorem insM0_ok (f:Value) (G:PM):Ct Tryz.prog 278 ([.slice none 0 0,.int .i64 0,.int .i64 0,f]:List Value).toArray G [] (fun _ μ' u=>μ'=[]∧u=.tuple #[]):=by
 refine Ct.of Tryz.func278 rfl Tryz.ntmps278 rfl fun w0 hs0=>?_
 refine .seq (rq3 rfl rfl (mV rfl rfl (arn (((0+1):Nat):Int) rfl .no (.u rfl) (.u rfl) rfl (fun _=>by omega) (fun _=>wrap_i64 (by omega) (by omega)) ?_)))
 refine aS rfl rfl (.nil (.code (.block ?_)))
 refine Wk.lop (α:=Nat) (fun k=>[(8,true,.int .i64 ((k:Nat):Int))]) (fun _=>[])
  (fun k Gl=>(k=1)) (fun k=>0) 1 [(0,true,_),(1,true,_),(2,true,_),(3,true,_)] []
  (esC rfl (by first|rfl|exact evi (by omega)) (esD rfl (esD rfl (esD rfl (esD rfl eZ)))))
  mN ?_ ?_
 ·(try dsimp only)<;>(first|omega|rfl|assumption|(simp; done))
 intro k N0 Gl0 hN0 hGl0 hF0
 try dsimp only at hF0 hN0 ⊢
 have hk:=hF0
 refine .seq (.seq (rq3 rfl rfl (mV rfl rfl (mV rfl rfl (cp rfl .no (.u rfl) (.u rfl) rfl (.nil (.code (.cond rfl (fun c1=>?_) (fun c1=>?_)))))))))
 ·have c1k:=c1
  subst hk; exact absurd c1 (by decide)
 have c1k:=c1
 try simp only [qcA,qcB] at c1
 refine .exit (.xcode (.xlp (.xblk (.nil (We.fin0 Tryz.results278 .nil ?_)))))
 exact ⟨rfl,rfl⟩
theorem stabM0_ok (f:Value) (G:PM):Ct Tryz.prog 255 ([.slice none 0 0,.int .i64 0,f]:List Value).toArray G [] (fun _ μ' u=>μ'=[]∧u=.tuple #[]):=by
 refine Ct.of Tryz.func255 rfl Tryz.ntmps255 rfl fun w0 hs0=>?_
 refine .seq (rq1 rfl rfl (aS rfl rfl (.nil (.code (.seq (rq3 rfl rfl (mV rfl rfl (aS rfl rfl (aS rfl rfl (.nil (.code (.seq (.block ?_)))))))))))))
 refine Wk.lop (α:=Nat) (fun k=>[(7,true,.int .i64 0),(8,true,.int .i64 20)]) (fun _=>[])
  (fun k Gl=>True) (fun k=>0) 0 [(0,true,_),(1,true,_),(2,true,_),(6,true,_)] []
  (esC rfl (by first|rfl|exact evi (by omega)) (esC rfl (by first|rfl|exact evi (by omega)) (esD rfl (esD rfl (esD rfl (esD rfl eZ))))))
  mN ?_ ?_
 ·trivial
 intro k N0 Gl0 hN0 hGl0 hF0
 try dsimp only at hF0 hN0 ⊢
 refine .seq (.seq (rq3 rfl rfl (mV rfl rfl (mV rfl rfl (cp rfl .no (.u rfl) (.u rfl) rfl (.nil (.code (.cond rfl (fun c1=>?_) (fun c1=>?_)))))))))
 ·have c1k:=c1
  exact absurd c1 (by decide)
 have c1k:=c1
 try simp only [qcA,qcB] at c1
 refine .exit (.xcode (.xlp (.xblk (.code (.seq (rq5 rfl rfl (mV rfl rfl (mV rfl rfl (mV rfl rfl (mV rfl rfl (kv rfl .no Fx.go278 (Evc rfl (Evc rfl (Evc rfl (Evc rfl Evn)))) (fun _=>insM0_ok _ _) ?_)))))))))))
 refine .nil (.code (.block ?_))
 refine Wk.lop (α:=Nat) (fun k=>[(6,true,.int .i64 20)]) (fun _=>[])
  (fun k Gl=>True) (fun k=>0) 0 [(0,true,_),(1,true,_),(2,true,_)] []
  (esC rfl (by first|rfl|exact evi (by omega)) (esD rfl (esD rfl (esD rfl eZ))))
  mN ?_ ?_
 ·trivial
 intro k N1 Gl1 hN1 hGl1 hF1
 try dsimp only at hF1 hN1 ⊢
 refine .seq (.seq (rq3 rfl rfl (mV rfl rfl (mV rfl rfl (cp rfl .no (.u rfl) (.u rfl) rfl (.nil (.code (.cond rfl (fun c2=>?_) (fun c2=>?_)))))))))
 ·have c2k:=c2
  exact absurd c2 (by decide)
 have c2k:=c2
 try simp only [qcA,qcB] at c2
 refine .exit (.xcode (.xlp (.xblk (.nil (We.fin0 Tryz.results255 .nil ?_)))))
 exact ⟨rfl,rfl⟩
theorem sstM0_ok (f:Value) (G:PM):Ct Tryz.prog 220 ([.slice none 0 0,f]:List Value).toArray G [] (fun _ μ' u=>μ'=[]∧u=.tuple #[]):=by
 refine Ct.of Tryz.func220 rfl Tryz.ntmps220 rfl fun w0 hs0=>?_
 refine rq5 rfl rfl (mV rfl rfl (mV rfl rfl (ln rfl .no Fx.sn60 (.u rfl) (mV rfl rfl (kv rfl .no Fx.go255 (Evc rfl (Evc rfl (Evc rfl Evn))) (fun _=>stabM0_ok _ _) ?_)))))
 refine .nil (.nil (We.fin0 Tryz.results220 .nil ?_))
 exact ⟨rfl,rfl⟩
set_option maxHeartbeats 1000000 in
theorem applyF_ok (a b:Int) (G:PM) (ha:u64 a) (hb:u64 b) (hab:a≤b):Ct Tryz.prog 180 ([State.zero.val hd0,(edF a b).val ⟨none,0⟩ ⟨none,0⟩]:List Value).toArray G [] (fun _ μ' u=>μ'=[]∧u=.tuple #[(stF a b).val hd0,.int .i64 0]):=by
 refine Ct.of Tryz.func180 rfl Tryz.ntmps180 rfl fun w0 hs0=>?_
 refine .seq (rq4 rfl rfl ?_)
 refine bx rfl (.u rfl) rfl ?_; intro b2
 refine bx rfl (.u rfl) rfl ?_; intro b3
 refine al rfl Fx.zq64 ?_; intro b4
 refine aS rfl rfl (.nil (.code (.seq (.seq (rq3 rfl rfl (lA rfl .no Fx.ag64 (.u rfl) (fun _=>RdN.own tk2) (fun _=>(by first|exact qE|exact qL|rfl)) ?_))))))
 refine kv rfl .no Fx.go23 (Evc rfl Evn) (fun _=>vRight_ok State.zero hd0 _ st_zero) ?_
 refine nt rfl .no (.u rfl) (.nil (.code (.cond rfl (fun c1=>?_) (fun c1=>?_))))
 ·have c1k:=c1
  rw [right_zero] at c1; cases c1
 have c1k:=c1
 try simp only [qcA,qcC,qcB] at c1
 refine .skip (.code (.seq (.seq (Wk.rg [0,1,2,3,4,5,6,7,8,9,10,11,12,13,14] rfl rfl (fz rfl .no Fx.fo163_5 (.u rfl) (ld rfl .no Fx.ag60 (.u rfl) (fun _=>Rd.own tk1 rfl) ?_))))))
 refine ln rfl .no Fx.sn60 (.u rfl) (cp rfl .no (.u rfl) (.u rfl) rfl (mV rfl rfl (fz rfl (.f rfl rfl) Fx.fo163_6 (.u rfl) (ld rfl (.f rfl rfl) Fx.ag161 (.s rfl) (fun hc=>Rd.own tk1 rfl) ?_))))
 refine ln rfl (.f rfl rfl) Fx.sn161 (.s rfl) (cp rfl (.f rfl rfl) (.s rfl) (.u rfl) rfl (pkO rfl .no (.u rfl) (.s rfl) (mV rfl rfl (lA rfl (.f rfl rfl) Fx.ag64 (.u rfl) (fun _=>RdN.own tk2) (fun _=>(by first|exact qE|exact qL|rfl)) ?_))))
 refine lA rfl (.f rfl rfl) Fx.ag163 (.u rfl) (fun _=>RdN.own tk1) (fun _=>(by first|exact qE|exact qL|rfl)) ?_
 refine kv rfl (.f rfl rfl) Fx.go217 (Eva.cons (.s rfl) (Eva.cons (.s rfl) Evn)) (fun hc=>before_ok State.zero hd0 _ (edF a b) ⟨none,0⟩ ⟨none,0⟩) ?_
 refine pkO rfl .no (.u rfl) (.s rfl) (.nil (.code (.cond rfl (fun c2=>?_) (fun c2=>?_))))
 ·have c2k:=c2
  rw [bef_F ha.1 hb.1] at c2; cases c2
 have c2k:=c2
 try simp only [qcA,qcC,qcB] at c2
 refine .skip (.code (.seq (Wk.rg [0,1,2,3,4,5,6,7,8,9,10,11,12,13,14] rfl rfl (fz rfl .no Fx.fo163_0 (.u rfl) (ld rfl .no Fx.ag41 (.u rfl) (fun _=>Rd.own tk1 (by first|exact wap_f rfl|rfl)) ?_)))))
 refine fz rfl .no Fx.fo163_1 (.u rfl) (ld rfl .no Fx.ag41 (.u rfl) (fun _=>Rd.own tk1 (by first|exact wap_f rfl|rfl)) ?_)
 refine fz rfl .no Fx.fo163_2 (.u rfl) (ld rfl .no Fx.ag41 (.u rfl) (fun _=>Rd.own tk1 (by first|exact wap_f rfl|rfl)) ?_)
 refine fz rfl .no Fx.fo163_3 (.u rfl) (ld rfl .no Fx.ag41 (.u rfl) (fun _=>Rd.own tk1 (by first|exact wap_f rfl|rfl)) ?_)
 refine fz rfl .no Fx.fo163_4 (.u rfl) (lA rfl .no Fx.ag62 (.u rfl) (fun _=>RdN.part (n:=5) (cs':=(List.range 5).map (fun _=>.int .u64 0)) tk1 (rfl)) (fun _=>rfl) (fz rfl .no Fx.fo64_0 (.u rfl) (lA rfl .no Fx.ag61 (.u rfl) (fun _=>RdN.part (n:=5) (cs':=(List.range 5).map (fun _=>.slice none 0 0)) tk2 (rfl)) (fun _=>rfl) ?_)))
 refine bCe ((stF a b).cells hd0) rfl .no Fx.bp64_1_2_3_4_5_0 (.cons (.u rfl) rfl (.cons (.u rfl) rfl (.cons (.u rfl) rfl (.cons (.u rfl) rfl (.cons (.u rfl) rfl (.cons (.u rfl) rfl .nil)))))) rfl (rfl) ?_
 refine al rfl Fx.zq64 ?_; intro b6
 refine sw rfl (.u rfl) (.u rfl) rfl Fx.sz64 .here (by first|exact qE|exact qL|rfl) (State.one') ?_
 refine .nil (.code (.seq (.seq (rq1 rfl rfl (mV rfl rfl (.nil (.code (.block ?_))))))))
 refine Wk.lop (α:=Nat) (fun k=>[(49,true,.int .i64 (k:Int))]) (fun k=>[.blk b6 (cl ((stF a b).cells hd0) 64)])
  (fun k Gl=>(k≤5)) (fun k=>5-k) 0 [(3,true,_),(4,true,_),(6,true,_)] [_,_,_]
  (esC rfl (by first|rfl|exact evi (by omega)) (esD rfl (esD rfl (esD rfl eZ))))
  (mS .here rfl (mS .here rfl (mS .here rfl (mS .here rfl mN)))) ?_ ?_
 ·(try dsimp only)<;>(first|omega|rfl|assumption|(simp; done))
 intro k N0 Gl0 hN0 hGl0 hF0
 try dsimp only at hF0 hN0 ⊢
 have hk:=hF0
 refine .seq (rq1 rfl rfl (cp rfl .no (.u rfl) (.u rfl) rfl (.nil (.code (.seq (.cond rfl (fun c3=>?_) (fun c3=>?_)))))))
 ·have c3k:=c3
  try simp only [qcA,qcC,qcB] at c3
  refine .skip (.code (.seq (.block (.seq (rq2 rfl rfl (mV rfl rfl (aS rfl rfl (.nil (.code (rq9 rfl rfl (mV rfl rfl (mV rfl rfl (fz rfl .no Fx.fo64_0 (.u rfl) (iA rfl .no Fx.ar61 (.u rfl) (.u rfl) (fun _=>by omega) (fun _=>by omega) ?_))))))))))))))
  refine ld (v:=.slice none 0 0) rfl .no Fx.ag60 (.u rfl) (fun _=>Rd.own .here (stF_at (by omega))) ?_
  refine kv rfl .no Fx.go76 (Evc rfl Evn) (fun _=>clone0_ok _) ?_
  refine fz rfl .no Fx.fo64_0 (.u rfl) (iA rfl .no Fx.ar61 (.u rfl) (.u rfl) (fun _=>by omega) (fun _=>by omega) ?_)
  refine s1 rfl (.u rfl) (.u rfl) rfl Fx.sz60 .here (by show _<14; omega) (stF_set (by omega)) ?_
  refine .nil (.blk (.code (rq2 rfl rfl (arn (((k+1):Nat):Int) rfl .no (.u rfl) (.u rfl) rfl (fun _=>by omega) (fun _=>wrap_i64 (by omega) (by omega)) ?_))))
  refine mV rfl rfl (.nil (We.lpo (k+1) ?_ ?_ ?_ ?_ ?_))
  ·exact (esC rfl (by first|rfl|exact evi (by omega)) (esD rfl (esD rfl (esD rfl eZ))))
  ·exact (mS .here rfl (mS .here rfl (mS .here rfl (mS .here rfl mN))))
  ·first|omega|(dsimp only; omega)
  ·exact hGl0
  (try dsimp only)<;>(first|omega|rfl|assumption|(simp; done))
 have c3k:=c3
 try simp only [qcA,qcC,qcB] at c3
 refine .exit (.xcode (.xlp (.xblk (.code (.seq (.seq (rq4 rfl rfl (fz rfl .no Fx.fo163_6 (.u rfl) (ld rfl .no Fx.ag161 (.u rfl) (fun _=>Rd.own tk2 (by first|exact wap_f rfl|rfl)) ?_)))))))))
 refine ln rfl .no Fx.sn161 (.u rfl) (mV rfl rfl (.nil (.code (.block ?_))))
 refine Wk.lop (α:=Nat) (fun j=>[(64,true,.int .i64 (j:Int))]) (fun _=>[])
  (fun j Gl=>(j=0)) (fun j=>0) 0 [(3,true,_),(4,true,_),(6,true,_),(62,true,_),(63,true,_)] [_,_,_,_]
  (esC rfl (by first|rfl|exact evi (by omega)) (esD rfl (esD rfl (esD rfl (esD rfl (esD rfl eZ))))))
  (mS .here rfl (mS .here rfl (mS .here rfl (mS .here rfl mN)))) ?_ ?_
 ·(try dsimp only)<;>(first|omega|rfl|assumption|(simp; done))
 intro j N1 Gl1 hN1 hGl1 hF1
 try dsimp only at hF1 hN1 ⊢
 have hj:=hF1
 refine .seq (rq1 rfl rfl (cp rfl .no (.u rfl) (.u rfl) rfl (.nil (.code (.seq (.cond rfl (fun c4=>?_) (fun c4=>?_)))))))
 ·have c4k:=c4
  subst hj; cases c4
 have c4k:=c4
 try simp only [qcA,qcC,qcB] at c4
 refine .exit (.xcode (.xlp (.xblk (.code (.seq (.seq (rq4 rfl rfl (fz rfl .no Fx.fo163_5 (.u rfl) (ld rfl .no Fx.ag60 (.u rfl) (fun _=>Rd.own tk2 (by first|exact wap_f rfl|rfl)) ?_)))))))))
 refine ln rfl .no Fx.sn60 (.u rfl) (mV rfl rfl (.nil (.code (.block ?_))))
 refine Wk.lop (α:=Nat) (fun j=>[(97,true,.int .i64 (j:Int))]) (fun _=>[])
  (fun j Gl=>(j=0)) (fun j=>0) 0 [(4,true,_),(6,true,_),(95,true,_),(96,true,_)] [_,_,_,_]
  (esC rfl (by first|rfl|exact evi (by omega)) (esD rfl (esD rfl (esD rfl (esD rfl eZ)))))
  (mS .here rfl (mS .here rfl (mS .here rfl (mS .here rfl mN)))) ?_ ?_
 ·(try dsimp only)<;>(first|omega|rfl|assumption|(simp; done))
 intro j N2 Gl2 hN2 hGl2 hF2
 try dsimp only at hF2 hN2 ⊢
 have hj:=hF2
 refine .seq (rq1 rfl rfl (cp rfl .no (.u rfl) (.u rfl) rfl (.nil (.code (.seq (.cond rfl (fun c5=>?_) (fun c5=>?_)))))))
 ·have c5k:=c5
  subst hj; cases c5
 have c5k:=c5
 try simp only [qcA,qcC,qcB] at c5
 refine .exit (.xcode (.xlp (.xblk (.code (.seq (.seq (rq3 rfl rfl (fz rfl .no Fx.fo64_0 (.u rfl) (lA rfl .no Fx.ag61 (.u rfl) (fun _=>RdN.part (n:=5) (cs':=(List.range 5).map (fun _=>.slice none 0 0)) .here (rfl)) (fun _=>rfl) ?_)))))))))
 refine mV rfl rfl (.nil (.code (.block ?_)))
 refine Wk.lop (α:=Nat) (fun k=>[(120,true,.int .i64 (k:Int))]) (fun _=>[])
  (fun k Gl=>(k≤5)) (fun k=>5-k) 0 [(4,true,_),(6,true,_),(119,true,_)] [_,_,_,_]
  (esC rfl (by first|rfl|exact evi (by omega)) (esD rfl (esD rfl (esD rfl eZ))))
  (mS .here rfl (mS .here rfl (mS .here rfl (mS .here rfl mN)))) ?_ ?_
 ·(try dsimp only)<;>(first|omega|rfl|assumption|(simp; done))
 intro k N3 Gl3 hN3 hGl3 hF3
 try dsimp only at hF3 hN3 ⊢
 have hk:=hF3
 refine .seq (rq1 rfl rfl (cp rfl .no (.u rfl) (.u rfl) rfl (.nil (.code (.seq (.cond rfl (fun c6=>?_) (fun c6=>?_)))))))
 ·have c6k:=c6
  try simp only [qcA,qcC,qcB] at c6
  refine .skip (.code (.seq (.block (.seq (rq5 rfl rfl (mV rfl rfl (ix rfl .no Fx.ar61 Fx.ag60 (.u rfl) (.u rfl) (fun _=>by omega) (fun _=>by omega) (fun _=>nil5 (by omega)) ?_)))))))
  refine al rfl Fx.zr3 ?_; intro b14
  refine s1 rfl (.u rfl) (.u rfl) rfl Fx.sz3 .here (by decide) (rfl) ?_
  refine aS rfl rfl (.nil (.code (rq3 rfl rfl (mV rfl rfl (mf (vf:=#[]) (vc:=[Value.pointer (some ⟨b14,0,none⟩)].toArray) rfl .no (fun a ha _=>by simp) (fun a ha _=>by simp [(Ev.u (c:=true) rfl:Ev _ true (.tmp 14) _).eval ha rfl]) ?_)))))
  refine kv rfl .no Fx.go220 (Evc rfl (Evc rfl Evn)) (fun _=>sstM0_ok _ _) ?_
  refine .nil (.blk (.code (rq2 rfl rfl (arn (((k+1):Nat):Int) rfl .no (.u rfl) (.u rfl) rfl (fun _=>by omega) (fun _=>wrap_i64 (by omega) (by omega)) ?_))))
  refine mV rfl rfl (.nil (We.lpo (k+1) ?_ ?_ ?_ ?_ ?_))
  ·exact (esC rfl (by first|rfl|exact evi (by omega)) (esD rfl (esD rfl (esD rfl eZ))))
  ·exact (mS tk1 rfl (mS tk1 rfl (mS tk1 rfl (mS tk1 rfl mN))))
  ·first|omega|(dsimp only; omega)
  ·exact hGl3
  (try dsimp only)<;>(first|omega|rfl|assumption|(simp; done))
 have c6k:=c6
 try simp only [qcA,qcC,qcB] at c6
 refine .exit (.xcode (.xlp (.xblk (.code (.seq (.seq (rq3 rfl rfl (lA rfl .no Fx.ag64 (.u rfl) (fun _=>RdN.own .here) (fun _=>(by first|exact qE|exact qL|rfl)) ?_))))))))
 refine kv rfl .no Fx.go23 (Evc rfl Evn) (fun _=>vRight_ok (stF a b) hd0 _ stF_R) ?_
 refine nt rfl .no (.u rfl) (.nil (.code (.cond rfl (fun c7=>?_) (fun c7=>?_))))
 ·have c7k:=c7
  rw [right_F ha.1 hab] at c7; cases c7
 have c7k:=c7
 try simp only [qcA,qcC,qcB] at c7
 refine .skip (.code (.seq (rq3 rfl rfl (lA rfl .no Fx.ag64 (.u rfl) (fun _=>RdN.own .here) (fun _=>(by first|exact qE|exact qL|rfl)) ?_))))
 refine sw rfl (.u rfl) (.u rfl) rfl Fx.sz64 tk1 (by first|exact qE|exact qL|rfl) (State.one') ?_
 refine aS rfl rfl (.nil (.code (.ret (We.fin0 Tryz.results180 (.cell rfl (fun w hw=>run_loadVarN Fx.ag64 (RdN.own .here) ((by first|exact qE|exact qL|rfl)) hw) (.tmp rfl .nil)) ?_))))
 exact ⟨rfl,rfl⟩
set_option maxHeartbeats 2000000 in
theorem mLayF_ok (root:Nat→Y) (h:Hd) (n mark:BitVec 64) (a b:Int) (G:PM) (ha:u64 a) (hb:u64 b) (hab:a≤b) (hK:RdNP G 0 0 (wa 64 kW)):Ct Tryz.prog 134 ([.agg (ba 32 root).toArray,.agg ([V h.kind,V h.level,uv .u64 h.gen,uv .u64 h.epoch,uv .u64 h.num]:List Value).toArray,uv .u64 n,uv .u64 mark,State.zero.val hd0,(edF a b).val ⟨none,0⟩ ⟨none,0⟩]:List Value).toArray G [] (fun _ μ' u=>∃ v L,L.length≤600∧μ'=[rB v 5 L]∧u=.tuple #[v,(stF a b).val hd0,.int .i64 0]):=by
 refine Ct.of Tryz.func134 rfl Tryz.ntmps134 rfl fun w0 hs0=>?_
 have hE:EdR G (edF a b) ⟨none,0⟩ ⟨none,0⟩:=⟨SlR.nul,SlR.nul,edF_wf ha hb⟩
 have hen:=encE_len (edF_wf ha hb) (by show 0≤_; decide) (by show 0≤_; decide)
 have he0:(List.flatMap encM (edF a b).add).length=0:=rfl
 have hd0_:(edF a b).drop.length=0:=rfl
 refine .seq (rq7 rfl rfl ?_)
 refine bx rfl (.u rfl) rfl ?_; intro b6
 refine bx rfl (.u rfl) rfl ?_; intro b7
 refine bx rfl (.u rfl) rfl ?_; intro b10
 refine bx rfl (.u rfl) rfl ?_; intro b11
 refine aS rfl rfl ?_
 refine al rfl Fx.zq64 ?_; intro b13
 refine aS rfl rfl (.nil (.code (.seq ?_)))
 refine wk_fz tk4 (by intro b hb; cases hb) ?_; intro Gfb6 hleb6 hbb6
 have hK:=hK.mono hleb6
 refine wk_fz tk3 (by intro b hb; cases hb) ?_; intro Gfb7 hleb7 hbb7
 have hK:=hK.mono hleb7
 have hbb6:=hbb6.mono hleb7
 refine wk_fz tk1 (by intro b hb; cases hb) ?_; intro Gfb11 hleb11 hbb11
 have hK:=hK.mono hleb11
 have hbb6:=hbb6.mono hleb11
 have hbb7:=hbb7.mono hleb11
 refine rq9 rfl rfl (lA rfl .no Fx.ag64 (.u rfl) (fun _=>RdN.own tk1) (fun _=>(by first|exact qE|exact qL|rfl)) ?_)
 refine lA rfl .no Fx.ag163 (.u rfl) (fun _=>(hbb11.rdn (m:=11) (cs':=(edF a b).cells ⟨none,0⟩ ⟨none,0⟩) (rfl)).rd) (fun _=>(by first|exact qE|exact qL|rfl)) ?_
 refine kv rfl .no Fx.go180 (Evc rfl (Evc rfl Evn)) (fun _=>applyF_ok a b _ ha hb hab) ?_
 refine mV rfl rfl (ex rfl .no (.u rfl) rfl (ex rfl .no (.u rfl) rfl ?_))
 refine al rfl Fx.zq64 ?_; intro b15
 refine sw rfl (.u rfl) (.u rfl) rfl Fx.sz64 .here (by first|exact qE|exact qL|rfl) (State.one') ?_
 refine aS rfl rfl (.nil (.code (.seq (.seq (rq2 rfl rfl (mV rfl rfl (cp rfl .no (.u rfl) (.u rfl) rfl (.nil (.code (.cond rfl (fun c1=>?_) (fun c1=>?_)))))))))))
 ·have c1k:=c1
  exact absurd c1 (by decide)
 have c1k:=c1
 try simp only [qcA,qcC,qcB] at c1
 refine .skip (.code (.seq (rq4 rfl rfl (lA rfl .no Fx.ag64 (.u rfl) (fun _=>RdN.own .here) (fun _=>(by first|exact qE|exact qL|rfl)) ?_))))
 refine kv rfl .no Fx.go181 (Evc rfl Evn) (fun _=>mRoot_ok (stF a b) hd0 _ stF_R (stF_N ha hb) stF_L hK) ?_
 refine al rfl Fx.zq71 ?_; intro b17
 refine sw rfl (.u rfl) (.u rfl) rfl Fx.sz71 .here rfl (ba_one _ _) ?_
 refine .nil (.code (.seq (Wk.mixp ⟨true,false⟩ Fx.mix (by kernel_rfl) ?_)))
 refine Wp.one 2 (by kernel_rfl) ?_
 refine mV rfl rfl (.nil (Wp.one 3 (by kernel_rfl) ?_))
 refine mV rfl rfl (.nil (Wp.one 5 (by kernel_rfl) ?_))
 refine sa0 rfl .no Fx.ar71 (.u rfl) (.nil (Wp.pr 0 (by kernel_rfl) ?_))
 refine lA rfl .no Fx.ag71 (.u rfl) (fun _=>(hbb6.rdn (m:=32) (cs':=_) (by first|exact ba_all|exact app_l|exact app_r)).rd) (fun _=>(ba_len _ _)) ?_
 refine .nil ⟨⟨rfl,rfl⟩,?_⟩
 refine Wp.pr 1 (by kernel_rfl) ?_
 refine lA rfl .no Fx.ag119 (.u rfl) (fun _=>(hbb7.rdn (m:=5) (cs':=[V h.kind,V h.level,uv .u64 h.gen,uv .u64 h.epoch,uv .u64 h.num]) (rfl)).rd) (fun _=>rfl) ?_
 refine .nil ⟨⟨rfl,rfl⟩,?_⟩
 refine Wp.pr 7 (by kernel_rfl) ?_
 refine lA rfl .no Fx.ag163 (.u rfl) (fun _=>(hbb11.rdn (m:=11) (cs':=(edF a b).cells ⟨none,0⟩ ⟨none,0⟩) (rfl)).rd) (fun _=>(by first|exact qE|exact qL|rfl)) ?_
 refine .nil ⟨⟨rfl,rfl⟩,?_⟩
 refine Wp.b1 4 (by kernel_rfl) ?_
 refine kc rfl Fx.go59 (Evc rfl (Evc rfl (Evc rfl Evn))) (Ct.rowc (Fix_ok [] ⟨none,0⟩ mark 8 _ SlR.nul (by simp) (by decide))) ?_
 rintro v36 G36 μ36 hG36 ⟨L36,ov36,eL36,rfl⟩
 have hK:=hK.mono hG36
 refine .nil (Wp.b1 6 (by kernel_rfl) ?_)
 have lL36:L36.length=8:=by rw [eL36,List.nil_append,fix_len]
 refine apY rfl Fx.se131 Fx.zv5 (.u rfl) (.u rfl) .here (Sc.arr tk1) (by (try simp only [qlA,yl_len]); omega) ?_
 intro v38 L38 ov38 eL38
 have lL38:L38.length=L36.length+32:=by rw [eL38,List.length_append]; first|rfl | simp [yl_len]
 refine .nil (Wp.b1 8 (by kernel_rfl) ?_)
 refine kc rfl Fx.go182 (Evc rfl Evn) (encode_ok (edF a b) ⟨none,0⟩ ⟨none,0⟩ _ ⟨SlR.nul,SlR.nul,edF_wf ha hb⟩ (by show 0≤_; decide) (by show 0≤_; decide) (by omega)) ?_
 rintro _ G40 μ40 hG40 ⟨h40,L40,eL40,rfl,rfl,hs40⟩
 have hK:=hK.mono hG40
 refine .nil (Wp.b1 9 (by kernel_rfl) ?_)
 have lL40:L40.length=(encE (edF a b)).length:=by rw [eL40]
 refine apY rfl Fx.se131 Fx.zv5 (.u rfl) (.u rfl) .here hs40.sc (by (try simp only [qlA,yl_len]); omega) ?_
 intro v41 L41 ov41 eL41
 have lL41:L41.length=L38.length+L40.length:=by rw [eL41,List.length_append]
 refine .nil (Wp.b1 10 (by kernel_rfl) ?_)
 refine ka rfl (.inl rfl) Fx.go62 (Evc rfl (Evc rfl (Evc rfl (Evc rfl Evn)))) (mtk1 .here) (wLay_row root h n L41 _ _ hK) ?_
 rintro _ G42 μ42 hG42 ⟨_,rfl,v42,L42,e42,hL42,rfl,rfl⟩
 obtain ⟨rfl,hL9⟩:=lay_fit (by omega) hL42
 refine .nil (Wp.one 11 (by kernel_rfl) ?_)
 refine mV rfl rfl (.nil (Wp.one 12 (by kernel_rfl) ?_))
 refine ex rfl .no (.u rfl) rfl (.nil (Wp.one 13 (by kernel_rfl) ?_))
 refine ex rfl .no (.u rfl) rfl (.nil (Wp.one 14 (by kernel_rfl) ?_))
 refine aS rfl rfl (.nil (Wp.one 15 (by kernel_rfl) ?_))
 refine aS rfl rfl (.nil (Wp.last (by kernel_rfl) ?_))
 refine .code (.seq (.seq (rq2 rfl rfl (mV rfl rfl (cp rfl .no (.u rfl) (.u rfl) rfl (.nil (.code (.cond rfl (fun c2=>?_) (fun c2=>?_)))))))))
 ·have c2k:=c2
  exact absurd c2 (by decide)
 have c2k:=c2
 try simp only [qcA,qcC,qcB] at c2
 refine .skip (.code (.seq (Wk.draw (mc:=⟨false,false⟩) [0,1,2,3,4] Fx.mix (by kernel_rfl) ?_)))
 refine mV rfl rfl (lA rfl .no Fx.ag64 (.u rfl) (fun _=>RdN.own tk3) (fun _=>(by first|exact qE|exact qL|rfl)) ?_)
 refine aS rfl rfl (sw rfl (.u rfl) (.u rfl) rfl Fx.sz64 tk4 (by first|exact qE|exact qL|rfl) (State.one') ?_)
 refine aS rfl rfl (.nil (.code (.ret (We.fin Tryz.results134 (.tmp rfl (.cell rfl (fun w hw=>run_loadVarN Fx.ag64 (RdN.own .here) ((by first|exact qE|exact qL|rfl)) hw) (.tmp rfl .nil))) (mS tk2 rfl mN) ?_))))
 exact ⟨v42,L42,hL9,rfl,rfl⟩
theorem search_ok (bx:Nat) (d:Db) (bm room done clk:Nat) (F:List Fi) (G:PM) (hbx:PB G bx (cl d.cells 124)) (hbd:PB G d.dk (cl (dkC bm room done) 178)) (hbm:PB G bm (mO (F.map Fi.fe) clk)) (hD:DkR F clk) (o:BitVec 64) (hbt:PB G d.tr (cl [uv .u64 0#64,uv .u64 o] 175)) (hab:fget (nmB 4 0) F=none):Ct Tryz.prog 136 ([pt bx]:List Value).toArray G [] (fun _ μ' u=>∃ bl v,v.oneCell'=true∧μ'=[.blk bl (cl [v,.int .i64 ((0:Nat):Int)] 202),rS 16 Nd.cells v 199 [Nd.z]]∧u=.agg #[.slice none 0 0,.pointer (some ⟨bl,0,none⟩),.int .u64 0]):=by
 refine Ct.of Tryz.func136 rfl Tryz.ntmps136 rfl fun w0 hs0=>?_
 refine .seq (rq1 rfl rfl ?_)
 refine al rfl Fx.zr263 ?_; intro b2
 refine .nil (.code (.seq (rq4 rfl rfl (kc rfl Fx.go79 Evn (lNew_ok _) ?_))))
 rintro _ G20 μ20 hG20 ⟨bl,vl,ol,rfl,rfl⟩
 have hbx:=hbx.mono hG20
 have hbd:=hbd.mono hG20
 have hbm:=hbm.mono hG20
 have hbt:=hbt.mono hG20
 refine bCe ([.slice none 0 0,.pointer (some ⟨bl,0,none⟩),.int .u64 0]) rfl .no Fx.bp263_1 (.cons (.u rfl) rfl .nil) rfl (rfl) ?_
 refine al rfl Fx.zr263 ?_; intro b3
 refine sw rfl (.u rfl) (.u rfl) rfl Fx.sz263 .here rfl (by simp [Value.oneCell']) ?_
 refine .nil (.code (.seq (rq2 rfl rfl (kv rfl .no Fx.go47 (Evc rfl (Evc rfl Evn)) (fun _=>name_ok 4#8 0#64 _ (by decide)) ?_))))
 refine aS rfl rfl (.nil (.code (.seq (Wk.rg [0,1,2,3,4,5,6,7,8,9,10] rfl rfl (mV rfl rfl (nc rfl .no (.u rfl) (fa rfl .no Fx.fo124_0 (.u rfl) (ld rfl .no Fx.ag72 (.u rfl) (fun _=>(hbx.rd (rfl)).rd) ?_))))))))
 refine mV rfl rfl (kv rfl .no Fx.go101 (Evc rfl (Evc rfl Evn)) (fun _=>dRead_ok d.dk bm room done clk F _ hbd hbm (nmB 4 0) nm_good4 hab) ?_)
 refine mV rfl rfl (ex rfl .no (.u rfl) rfl (ex rfl .no (.u rfl) rfl (aS rfl rfl (aS rfl rfl (.nil (.code (.seq (.seq (rq2 rfl rfl (mV rfl rfl (cp rfl .no (.u rfl) (.u rfl) rfl (.nil (.code (.cond rfl (fun c1=>?_) (fun c1=>?_)))))))))))))))
 ·have c1k:=c1
  try simp only [qcA,qcB] at c1
  refine .seq (.seq (rq6 rfl rfl (mV rfl rfl (nc rfl .no (.u rfl) (fa rfl .no Fx.fo124_1 (.u rfl) (ld rfl .no Fx.ag68 (.u rfl) (fun _=>(hbx.rd (rfl)).rd) ?_))))))
  refine kv rfl .no Fx.go60 (Evc rfl Evn) (fun _=>marks_ok d.tr 0#64 o _ hbt) ?_
  refine cp rfl .no (.u rfl) (.u rfl) rfl (.nil (.code (.cond rfl (fun c2=>?_) (fun c2=>?_))))
  ·have c2k:=c2
   cases c2
  have c2k:=c2
  try simp only [qcA,qcB] at c2
  refine .skip (.code (.seq (rq2 rfl rfl (lA rfl .no Fx.ag263 (.u rfl) (fun _=>RdN.own .here) (fun _=>(by first|exact qE|exact qL|rfl)) ?_))))
  refine sw rfl (.u rfl) (.u rfl) rfl Fx.sz263 tk3 rfl (by simp [Value.oneCell']) ?_
  refine .nil (.code (.ret (We.fin Tryz.results136 (.cell rfl (fun w hw=>run_loadVarN Fx.ag263 (RdN.own .here) ((by first|exact qE|exact qL|rfl)) hw) .nil) (mS tk2 rfl (mS tk2 rfl mN)) ?_)))
  exact ⟨bl,vl,ol,rfl,rfl⟩
 have c1k:=c1
 cases c1
end Go.Proofs.YtggleibgadkodaaGreatDoor
namespace Go.Proofs.YtggleibgadkodaaGreatDoor
open Go.Tan Go.RowKit Go.Maps Go.Sort Go.Shelf
namespace FxGrBa
theorem sb9_131:sbT Tryz.prog 9 131=true:=by kernel_rfl
end FxGrBa
namespace Fx
theorem go104:goFn Tryz.prog 104=true:=by kernel_rfl
theorem go103:goFn Tryz.prog 103=true:=by kernel_rfl
theorem go136:goFn Tryz.prog 136=true:=by kernel_rfl
theorem fo263_0:fOff Tryz.prog 263 0=some 0:=by kernel_rfl
theorem ag261:aggN Tryz.prog 261=some none:=by kernel_rfl
theorem go137:goFn Tryz.prog 137=true:=by kernel_rfl
theorem fo124_4:fOff Tryz.prog 124 4=some 41:=by kernel_rfl
theorem go123:goFn Tryz.prog 123=true:=by kernel_rfl
theorem bp119_0_3_4:bPl Tryz.prog 119 [0,3,4]=some ([V 0#8,V 0#8,uv .u64 0#64,uv .u64 0#64,uv .u64 0#64],[(0,1),(3,1),(4,1)]):=by kernel_rfl
theorem bp121_0:bPl Tryz.prog 121 [0]=some ([.int .u8 0,.int .u8 0,.int .u64 0,.int .u64 0,.int .u64 0,.int .u64 0,.bool false],[(0,5)]):=by kernel_rfl
theorem fo124_12:fOff Tryz.prog 124 12=some 74:=by kernel_rfl
theorem sz121:szT Tryz.prog 121=some 7:=by kernel_rfl
theorem fo124_10:fOff Tryz.prog 124 10=some 60:=by kernel_rfl
theorem fo124_7:fOff Tryz.prog 124 7=some 57:=by kernel_rfl
theorem fo124_5:fOff Tryz.prog 124 5=some 42:=by kernel_rfl
theorem bp163_0_2_3_4:bPl Tryz.prog 163 [0,2,3,4]=some (nine (fun _=>0)++[.slice none 0 0,.slice none 0 0],[(0,1),(2,1),(3,1),(4,5)]):=by kernel_rfl
theorem fo263_1:fOff Tryz.prog 263 1=some 1:=by kernel_rfl
theorem ag122:aggN Tryz.prog 122=some none:=by kernel_rfl
theorem go49:goFn Tryz.prog 49=true:=by kernel_rfl
theorem go109:goFn Tryz.prog 109=true:=by kernel_rfl
theorem go112:goFn Tryz.prog 112=true:=by kernel_rfl
theorem go111:goFn Tryz.prog 111=true:=by kernel_rfl
theorem fo124_2:fOff Tryz.prog 124 2=some 2:=by kernel_rfl
theorem bp64_:bPl Tryz.prog 64 []=some ((State.zero.cells hd0),[]):=by kernel_rfl
theorem go134:goFn Tryz.prog 134=true:=by kernel_rfl
theorem go65:goFn Tryz.prog 65=true:=by kernel_rfl
theorem go138:goFn Tryz.prog 138=true:=by kernel_rfl
theorem go139:goFn Tryz.prog 139=true:=by kernel_rfl
theorem go67:goFn Tryz.prog 67=true:=by kernel_rfl
theorem fo121_1:fOff Tryz.prog 121 1=some 5:=by kernel_rfl
end Fx
theorem lAll0_ok (bl:Nat) (h:Sh) (xs:List Nd) (sz:Value) (w:Nat→Nat) (G:PM) (hbl:PB G bl (cl [h.val xs.length,sz] 202)) (hs:SlR G 16 Nd.cells h xs) (hW:WayN xs ⟨#[]⟩ 18446744073709551615#64 w) (hn:nxt xs (w 0) 0=0) (hl:xs.length≤1000000):Ct Tryz.prog 49 ([.pointer (some ⟨bl,0,none⟩)]:List Value).toArray G [] (fun _ μ' u=>μ'=[]∧u=.slice none 0 0):=by
 refine Ct.of Tryz.func49 rfl Tryz.ntmps49 rfl fun w0 hs0=>?_
 refine .seq (rq1 rfl rfl (aS rfl rfl (.nil (.code (.seq (rq5 rfl rfl (mV rfl rfl (mV rfl rfl (kv rfl .no Fx.go104 (Evc rfl Evn) (fun _=>lLen_ok bl h xs sz _ hbl hl) ?_)))))))))
 refine kv rfl .no Fx.go103 (Evc rfl (Evc rfl (Evc rfl (Evc rfl Evn)))) (fun _=>lFrom0 bl h xs sz _ hbl hs w ⟨#[]⟩ 18446744073709551615#64 hW _ hn) ?_
 refine aS rfl rfl (.nil (.code (.ret (We.fin0 Tryz.results49 (.tmp rfl .nil) ?_))))
 exact ⟨rfl,rfl⟩
theorem dRen2_ok (bd bm room done clk:Nat) (F:List Fi) (G:PM) (hD:DkR F clk) (hd9:done≤1000000000) (hr9:room≤1000000000) (nm to:ByteArray) (f:Fi) (hn:goodN nm) (hn2:goodN to) (hf:fget nm F=some f) (hab:fget to (fdel nm F)=none) (hc:F.length<100):Ct Tryz.prog 139 ([.pointer (some ⟨bd,0,none⟩),.string nm,.string to]:List Value).toArray G [.blk bd (cl (dkC bm room (done)) 178),.blk bm (mO ((F).map Fi.fe) (clk))] (fun _ μ' u=>∃ F':List Fi,DkR F' (clk+1)∧F'.map Fi.nm=rmv nm (F.map Fi.nm)++[to]∧szF F'=szF F∧μ'=[.blk bd (cl (dkC bm room (done+1)) 178),.blk bm (mO ((F').map Fi.fe) (clk+1))]∧u=.int .i64 0) :=
 (dRename_ok bd bm room done clk F G hD hd9 hr9 nm to f hn hn2 hf hab).mono fun G' μ' u ⟨h1,h2⟩=>by
  obtain ⟨a,b,c⟩:=rn_facts hD hf hab hn2.2 hc
  exact ⟨_,a,b,c,h1,h2⟩
theorem dbwriteR_ok (bx bm room done clk:Nat) (d:Db) (F:List Fi) (G:PM) (hD:DkR F clk) (hd9:done≤100000000) (hr9:room≤1000000000) (nm:ByteArray) (v:Value) (xs:List Y) (hn:goodN nm) (hab:fget nm F=none) (hx:xs.length≤1000000) (hfit:xs.length+szF F≤room) (hcf:F.length<100) :
  Ct Tryz.prog 138 ([pt bx,.string nm,v]:List Value).toArray G (.blk bx (cl (Db.cells d) 124) :: rB v 5 xs :: [.blk d.dk (cl (dkC bm room (done)) 178),.blk bm (mO ((F).map Fi.fe) (clk))]) (fun _ μ' u=>∃ ν,μ'=.blk bx (cl (Db.cells d) 124) :: ν∧∃ F':List Fi,DkR F' (clk+1)∧F'.map Fi.nm=F.map Fi.nm++[nm]∧szF F'=szF F+xs.length∧ν=[.blk d.dk (cl (dkC bm room (done+1+1)) 178),.blk bm (mO ((F').map Fi.fe) (clk+1))]∧u=.tuple #[]) :=
 lend1 fun G1 hle1 h1=>Ct.giveR fun s G2 hle hv hs=>by
  subst hv
  exact dbwrite_ok bx bm room done clk d F G2 ⟨hle _ _ h1.h⟩ hD hd9 hr9 nm s xs hs hn hab hx hfit hcf
set_option maxHeartbeats 4000000 in
theorem dbegin_ok (bx bm room dk tr held now:Nat) (root:Nat→Y) (o:Opts) (ep o1:BitVec 64) (G:PM) (hr:5000≤room) (hr9:room≤1000000000) (hK:RdNP G 0 0 (wa 64 kW)):Ct Tryz.prog 81 ([pt bx]:List Value).toArray G [.blk bx (cl (Db.cells (Db.new dk tr root o ep held now)) 124),.blk dk (cl (dkC bm room 0) 178),.blk bm (mO [] 0),.blk tr (cl [uv .u64 0#64,uv .u64 o1] 175)] (fun _ μ' u=>∃ F:List Fi,DkR F 3∧F.map Fi.nm=[nmB 3 0,nmB 4 0]∧szF F≤2000∧μ'=[.blk bx (cl (Db.cells (Db.d3 dk tr root o ep held now)) 124),.blk dk (cl (dkC bm room 5) 178),.blk bm (mO (F.map Fi.fe) 3),.blk tr (cl [uv .u64 1#64,uv .u64 o1] 175)]∧u=.tuple #[]):=by
 refine Ct.of Tryz.func81 rfl Tryz.ntmps81 rfl fun w0 hs0=>?_
 refine .seq (rq4 rfl rfl (mV rfl rfl (ka rfl (.inr rfl) Fx.go136 (Evc rfl Evn) (mtq4 tk3 .here .here .here) (lend1 fun G1 hle1 h1=>lend3 fun G2 hle h2 h3 h4=>search_ok bx (Db.new dk tr root o ep held now) bm room 0 0 [] G2 h2 h3 h4 DkR0 o1 ⟨hle _ _ h1.h⟩ rfl) ?_)))
 rintro _ G15 μ15 hG15 ⟨ν1,rfl,ν2,rfl,bl,vl,ol,rfl,rfl⟩
 have hK:=hK.mono hG15
 refine al rfl Fx.zr263 ?_; intro b2
 refine sw rfl (.u rfl) (.u rfl) rfl Fx.sz263 .here rfl (by simp [Value.oneCell']) ?_
 refine .nil (.code (.seq ?_))
 refine wk_fs tk6 (fun _ _=>rfl) (keys_k tk2 rfl (keys_k tk2 rfl (keys_k tk2 rfl (keys_k tk1 rfl (keys_0))))) ?_; intro GfRL hRL hleRL evRL hsRL; subst evRL
 have hK:=hK.mono hleRL
 refine wk_fz tk5 (keys_k tk2 rfl (keys_k tk2 rfl (keys_k tk2 rfl (keys_k tk1 rfl (keys_0))))) ?_; intro Gfbl hlebl hbbl
 have hK:=hK.mono hlebl
 have hsRL:=hsRL.mono hlebl
 refine rq4 rfl rfl (mV rfl rfl (fz rfl .no Fx.fo263_0 (.u rfl) (ld rfl .no Fx.ag261 (.u rfl) (fun _=>Rd.own .here rfl) ?_)))
 refine ka rfl (.inr rfl) Fx.go137 (Evc rfl (Evc rfl Evn)) (mtk3 tk2 tk2 tk2) (lend3 fun G2 hle h1 h2 h3=>sweep_ok bx (Db.new dk tr root o ep held now) bm room 0 0 [] G2 h1 h2 h3 DkR0 ⟨none,0⟩ [] SlR.nul (by decide) (fun f hf=>absurd hf List.not_mem_nil)) ?_
 rintro _ G19 μ19 hG19 ⟨ν3,rfl,rfl,rfl⟩
 have hK:=hK.mono hG19
 have hsRL:=hsRL.mono hG19
 have hbbl:=hbbl.mono hG19
 refine .nil (.code (.seq ?_))
 refine Wk.jn (α:=Unit) (fun _u=>[]) (fun _u=>[.blk bx (cl (Db.cells (Db.d1 dk tr root o ep held now)) 124)]) (fun _u Gl=>True) [(0,true,_),(2,true,_)] [_,_,_,_]
  (esD rfl (esD rfl eZ)) (mS tk1 rfl (mS tk1 rfl (mS tk1 rfl (mS tk1 rfl mN)))) ?_ ?_
 ·refine Wk.mixp ⟨true,false⟩ Fx.mix (by kernel_rfl) ?_
  refine Wp.one 0 (by kernel_rfl) ?_
  refine mV rfl rfl (.nil (Wp.one 1 (by kernel_rfl) ?_))
  refine mV rfl rfl (.nil (Wp.one 2 (by kernel_rfl) ?_))
  refine nc rfl .no (.u rfl) (.nil (Wp.one 3 (by kernel_rfl) ?_))
  refine fz rfl .no Fx.fo124_4 (.u rfl) (.nil (Wp.one 5 (by kernel_rfl) ?_))
  refine mV rfl rfl (.nil (Wp.b2 4 6 (by kernel_rfl) ?_ ?_))
  ·refine ld rfl .no Fx.ag41 (.u rfl) (fun _=>Rd.own .here rfl) ?_
   refine .nil (Wp.b1 6 (by kernel_rfl) ?_)
   refine ka rfl (.inl rfl) Fx.go123 (Evc rfl Evn) (mtk1 .here) (dbnum_ok bx (Db.new dk tr root o ep held now) _ (by show (0#64:BitVec 64).toNat<1000; decide)) ?_
   rintro _ G26 μ26 hG26 ⟨rfl,rfl⟩
   have hK:=hK.mono hG26
   have hsRL:=hsRL.mono hG26
   have hbbl:=hbbl.mono hG26
   refine .nil (Wp.one 7 (by kernel_rfl) ?_)
   refine bCe ([V 3#8,V 0#8,uv .u64 0#64,uv .u64 ep,uv .u64 0#64]) rfl .no Fx.bp119_0_3_4 (.cons (.u rfl) rfl (.cons (.u rfl) rfl (.cons (.u rfl) rfl .nil))) rfl (rfl) ?_
   refine .nil (Wp.one 8 (by kernel_rfl) ?_)
   refine bCe ((flM ep 0#64).cells) rfl .no Fx.bp121_0 (.cons (.u rfl) rfl .nil) rfl (rfl) ?_
   refine .nil (Wp.one 9 (by kernel_rfl) ?_)
   refine nc rfl .no (.u rfl) (.nil (Wp.one 10 (by kernel_rfl) ?_))
   refine fz rfl .no Fx.fo124_12 (.u rfl) (.nil (Wp.b1 11 (by kernel_rfl) ?_))
   refine stp rfl (.u rfl) (.u rfl) rfl Fx.sz121 .here (by show 74+7≤85; decide) (Fl.one _) (Db.p_mn _ (flM ep 0#64)) ?_
   refine .nil (Wp.last (by kernel_rfl) ?_)
   refine We.lpo () ?_ ?_ ?_ ?_ ?_
   ·exact (esD rfl (esD rfl eZ))
   ·exact (mS .here rfl (mS .here rfl (mS .here rfl (mS .here rfl (mS .here rfl mN)))))
   ·exact zro_lt _
   ·exact hG26
   trivial
  refine ka rfl (.inl rfl) Fx.go123 (Evc rfl Evn) (mtk1 .here) (dbnum_ok bx (Db.new dk tr root o ep held now) _ (by show (0#64:BitVec 64).toNat<1000; decide)) ?_
  rintro _ G26 μ26 hG26 ⟨rfl,rfl⟩
  have hK:=hK.mono hG26
  have hsRL:=hsRL.mono hG26
  have hbbl:=hbbl.mono hG26
  refine .nil (Wp.one 4 (by kernel_rfl) ?_)
  refine ld rfl .no Fx.ag41 (.u rfl) (fun _=>Rd.own .here rfl) ?_
  refine .nil (Wp.one 7 (by kernel_rfl) ?_)
  refine bCe ([V 3#8,V 0#8,uv .u64 0#64,uv .u64 ep,uv .u64 0#64]) rfl .no Fx.bp119_0_3_4 (.cons (.u rfl) rfl (.cons (.u rfl) rfl (.cons (.u rfl) rfl .nil))) rfl (rfl) ?_
  refine .nil (Wp.one 8 (by kernel_rfl) ?_)
  refine bCe ((flM ep 0#64).cells) rfl .no Fx.bp121_0 (.cons (.u rfl) rfl .nil) rfl (rfl) ?_
  refine .nil (Wp.one 9 (by kernel_rfl) ?_)
  refine nc rfl .no (.u rfl) (.nil (Wp.one 10 (by kernel_rfl) ?_))
  refine fz rfl .no Fx.fo124_12 (.u rfl) (.nil (Wp.b1 11 (by kernel_rfl) ?_))
  refine stp rfl (.u rfl) (.u rfl) rfl Fx.sz121 .here (by show 74+7≤85; decide) (Fl.one _) (Db.p_mn _ (flM ep 0#64)) ?_
  refine .nil (Wp.last (by kernel_rfl) ?_)
  refine We.lpo () ?_ ?_ ?_ ?_ ?_
  ·exact (esD rfl (esD rfl eZ))
  ·exact (mS .here rfl (mS .here rfl (mS .here rfl (mS .here rfl (mS .here rfl mN)))))
  ·exact zro_lt _
  ·exact hG26
  trivial
 intro _u Glj2 hGlj2 hFj2
 have hK:=hK.mono hGlj2
 have hsRL:=hsRL.mono hGlj2
 have hbbl:=hbbl.mono hGlj2
 refine .code (.seq ?_)
 refine Wk.jn (α:=Unit) (fun _u=>[]) (fun _u=>[.blk bx (cl (Db.cells (Db.d2 dk tr root o ep held now)) 124)]) (fun _u Gl=>True) [(0,true,_),(2,true,_)] [_,_,_,_]
  (esD rfl (esD rfl eZ)) (mS tk1 rfl (mS tk1 rfl (mS tk1 rfl (mS tk1 rfl mN)))) ?_ ?_
 ·refine Wk.mixp ⟨true,false⟩ Fx.mix (by kernel_rfl) ?_
  refine Wp.one 0 (by kernel_rfl) ?_
  refine mV rfl rfl (.nil (Wp.one 1 (by kernel_rfl) ?_))
  refine mV rfl rfl (.nil (Wp.one 2 (by kernel_rfl) ?_))
  refine nc rfl .no (.u rfl) (.nil (Wp.one 3 (by kernel_rfl) ?_))
  refine fz rfl .no Fx.fo124_4 (.u rfl) (.nil (Wp.one 5 (by kernel_rfl) ?_))
  refine mV rfl rfl (.nil (Wp.b2 4 6 (by kernel_rfl) ?_ ?_))
  ·refine ld rfl .no Fx.ag41 (.u rfl) (fun _=>Rd.own .here rfl) ?_
   refine .nil (Wp.b1 6 (by kernel_rfl) ?_)
   refine ka rfl (.inl rfl) Fx.go123 (Evc rfl Evn) (mtk1 .here) (dbnum_ok bx (Db.d1 dk tr root o ep held now) _ (by show (1#64:BitVec 64).toNat<1000; decide)) ?_
   rintro _ G37 μ37 hG37 ⟨rfl,rfl⟩
   have hK:=hK.mono hG37
   have hsRL:=hsRL.mono hG37
   have hbbl:=hbbl.mono hG37
   refine .nil (Wp.one 7 (by kernel_rfl) ?_)
   refine bCe ([V 1#8,V 0#8,uv .u64 0#64,uv .u64 ep,uv .u64 1#64]) rfl .no Fx.bp119_0_3_4 (.cons (.u rfl) rfl (.cons (.u rfl) rfl (.cons (.u rfl) rfl .nil))) rfl (rfl) ?_
   refine .nil (Wp.one 8 (by kernel_rfl) ?_)
   refine bCe ((flL ep 0#64).cells) rfl .no Fx.bp121_0 (.cons (.u rfl) rfl .nil) rfl (rfl) ?_
   refine .nil (Wp.one 9 (by kernel_rfl) ?_)
   refine nc rfl .no (.u rfl) (.nil (Wp.one 10 (by kernel_rfl) ?_))
   refine fz rfl .no Fx.fo124_10 (.u rfl) (.nil (Wp.b1 11 (by kernel_rfl) ?_))
   refine stp rfl (.u rfl) (.u rfl) rfl Fx.sz121 .here (by show 60+7≤85; decide) (Fl.one _) (Db.p_lg _ (flL ep 0#64)) ?_
   refine .nil (Wp.last (by kernel_rfl) ?_)
   refine We.lpo () ?_ ?_ ?_ ?_ ?_
   ·exact (esD rfl (esD rfl eZ))
   ·exact (mS .here rfl (mS .here rfl (mS .here rfl (mS .here rfl (mS .here rfl mN)))))
   ·exact zro_lt _
   ·exact hG37
   trivial
  refine ka rfl (.inl rfl) Fx.go123 (Evc rfl Evn) (mtk1 .here) (dbnum_ok bx (Db.d1 dk tr root o ep held now) _ (by show (1#64:BitVec 64).toNat<1000; decide)) ?_
  rintro _ G37 μ37 hG37 ⟨rfl,rfl⟩
  have hK:=hK.mono hG37
  have hsRL:=hsRL.mono hG37
  have hbbl:=hbbl.mono hG37
  refine .nil (Wp.one 4 (by kernel_rfl) ?_)
  refine ld rfl .no Fx.ag41 (.u rfl) (fun _=>Rd.own .here rfl) ?_
  refine .nil (Wp.one 7 (by kernel_rfl) ?_)
  refine bCe ([V 1#8,V 0#8,uv .u64 0#64,uv .u64 ep,uv .u64 1#64]) rfl .no Fx.bp119_0_3_4 (.cons (.u rfl) rfl (.cons (.u rfl) rfl (.cons (.u rfl) rfl .nil))) rfl (rfl) ?_
  refine .nil (Wp.one 8 (by kernel_rfl) ?_)
  refine bCe ((flL ep 0#64).cells) rfl .no Fx.bp121_0 (.cons (.u rfl) rfl .nil) rfl (rfl) ?_
  refine .nil (Wp.one 9 (by kernel_rfl) ?_)
  refine nc rfl .no (.u rfl) (.nil (Wp.one 10 (by kernel_rfl) ?_))
  refine fz rfl .no Fx.fo124_10 (.u rfl) (.nil (Wp.b1 11 (by kernel_rfl) ?_))
  refine stp rfl (.u rfl) (.u rfl) rfl Fx.sz121 .here (by show 60+7≤85; decide) (Fl.one _) (Db.p_lg _ (flL ep 0#64)) ?_
  refine .nil (Wp.last (by kernel_rfl) ?_)
  refine We.lpo () ?_ ?_ ?_ ?_ ?_
  ·exact (esD rfl (esD rfl eZ))
  ·exact (mS .here rfl (mS .here rfl (mS .here rfl (mS .here rfl (mS .here rfl mN)))))
  ·exact zro_lt _
  ·exact hG37
  trivial
 intro _u Glj3 hGlj3 hFj3
 have hK:=hK.mono hGlj3
 have hsRL:=hsRL.mono hGlj3
 have hbbl:=hbbl.mono hGlj3
 refine .code (.seq (Wk.draw (mc:=⟨false,false⟩) [0,1,2,3,4,5,6,7,8,9,10,11,12,13,14,15,16,17,18,19,20,21] Fx.mix (by kernel_rfl) ?_))
 refine mV rfl rfl (nc rfl .no (.u rfl) (fz rfl .no Fx.fo124_10 (.u rfl) (fa rfl .no Fx.fo121_0 (.u rfl) (fa rfl .no Fx.fo119_4 (.u rfl) (ld rfl .no Fx.ag41 (.u rfl) (fun _=>Rd.own .here rfl) ?_)))))
 refine mV rfl rfl (nc rfl .no (.u rfl) (fz rfl .no Fx.fo124_7 (.u rfl) (ld rfl .no Fx.ag41 (.u rfl) (fun _=>Rd.own .here rfl) ?_)))
 refine mV rfl rfl (nc rfl .no (.u rfl) (fz rfl .no Fx.fo124_7 (.u rfl) (ld rfl .no Fx.ag41 (.u rfl) (fun _=>Rd.own .here rfl) ?_)))
 refine mV rfl rfl (nc rfl .no (.u rfl) (fz rfl .no Fx.fo124_5 (.u rfl) (fa rfl .no Fx.fo64_5 (.u rfl) (lA rfl .no Fx.ag62 (.u rfl) (fun _=>RdN.part (n:=5) (cs':=(List.range 5).map (fun _=>.int .u64 0)) .here (rfl)) (fun _=>rfl) (bCe ((edF 1 0).cells ⟨none,0⟩ ⟨none,0⟩) rfl .no Fx.bp163_0_2_3_4 (.cons (.u rfl) rfl (.cons (.u rfl) rfl (.cons (.u rfl) rfl (.cons (.u rfl) rfl .nil)))) rfl (rfl) ?_)))))
 refine al rfl Fx.zq163 ?_; intro b3
 refine sw rfl (.u rfl) (.u rfl) rfl Fx.sz163 .here (by first|exact qE|exact qL|rfl) (Edit.one') ?_
 refine .nil (.code (.seq (.seq (rq6 rfl rfl (mV rfl rfl (nc rfl .no (.u rfl) (fz rfl .no Fx.fo124_5 (.u rfl) (fa rfl .no Fx.fo64_0 (.u rfl) (lA rfl .no Fx.ag61 (.u rfl) (fun _=>RdN.part (n:=5) (cs':=(List.range 5).map (fun _=>.slice none 0 0)) tk1 (rfl)) (fun _=>rfl) ?_)))))))))
 refine mV rfl rfl (.nil (.code (.block ?_)))
 refine Wk.lop (α:=Nat) (fun k=>[(67,true,.int .i64 (k:Int))]) (fun k=>[.blk b3 (cl ((edF 1 0).cells ⟨none,0⟩ ⟨none,0⟩) 163)])
  (fun k Gl=>(k≤5)) (fun k=>5-k) 0 [(0,true,_),(2,true,_),(3,true,_),(66,true,_)] [_,_,_,_,_]
  (esC rfl (by first|rfl|exact evi (by omega)) (esD rfl (esD rfl (esD rfl (esD rfl eZ)))))
  (mS .here rfl (mS .here rfl (mS .here rfl (mS .here rfl (mS .here rfl (mS .here rfl mN)))))) ?_ ?_
 ·(try dsimp only)<;>(first|omega|rfl|assumption|(simp; done))
 intro k N0 Gl0 hN0 hGl0 hF0
 try dsimp only at hF0 hN0 ⊢
 have hk:=hF0
 have hK:=hK.mono hGl0
 have hsRL:=hsRL.mono hGl0
 have hbbl:=hbbl.mono hGl0
 refine .seq (rq1 rfl rfl (cp rfl .no (.u rfl) (.u rfl) rfl (.nil (.code (.seq (.cond rfl (fun c1=>?_) (fun c1=>?_)))))))
 ·have c1k:=c1
  try simp only [qcA,qcC,qcB] at c1
  refine .skip (.code (.seq (.block (.seq (rq2 rfl rfl (ix rfl .no Fx.ar61 Fx.ag60 (.u rfl) (.u rfl) (fun _=>by omega) (fun _=>by omega) (fun _=>nil5 (by omega)) ?_))))))
  refine aS rfl rfl (.nil (.code (rq6 rfl rfl (fz rfl .no Fx.fo163_5 (.u rfl) (ld rfl .no Fx.ag60 (.u rfl) (fun _=>Rd.own .here rfl) ?_)))))
  refine mV rfl rfl (apZ rfl Fx.se60 (.u rfl) (.u rfl) ?_)
  refine fz rfl .no Fx.fo163_5 (.u rfl) (s1 rfl (.u rfl) (.u rfl) rfl Fx.sz60 .here (by first|decide | (show _<85; decide)) (edF_set) ?_)
  refine .nil (.blk (.code (rq2 rfl rfl (arn (((k+1):Nat):Int) rfl .no (.u rfl) (.u rfl) rfl (fun _=>by omega) (fun _=>wrap_i64 (by omega) (by omega)) ?_))))
  refine mV rfl rfl (.nil (We.lpo (k+1) ?_ ?_ ?_ ?_ ?_))
  ·exact (esC rfl (by first|rfl|exact evi (by omega)) (esD rfl (esD rfl (esD rfl (esD rfl eZ)))))
  ·exact (mS .here rfl (mS .here rfl (mS .here rfl (mS .here rfl (mS .here rfl (mS .here rfl mN))))))
  ·first|omega|(dsimp only; omega)
  ·exact hGl0
  (try dsimp only)<;>(first|omega|rfl|assumption|(simp; done))
 have c1k:=c1
 try simp only [qcA,qcC,qcB] at c1
 refine .exit (.xcode (.xlp (.xblk (.code (.seq (Wk.draw (mc:=⟨false,false⟩) [0,1,2,3,4,5,6,7,8,9,10,11] Fx.mix (by kernel_rfl) ?_))))))
 refine fz rfl .no Fx.fo163_5 (.u rfl) (ld rfl .no Fx.ag60 (.u rfl) (fun _=>Rd.own .here rfl) ?_)
 refine mV rfl rfl (fz rfl .no Fx.fo263_1 (.u rfl) (ld rfl .no Fx.ag122 (.u rfl) (fun _=>Rd.own tk4 rfl) ?_))
 refine kv rfl .no Fx.go49 (Evc rfl Evn) (fun _=>lAll0_ok bl hRL [Nd.z] _ (fun _=>0) _ hbbl hsRL wayZ rfl (by decide)) ?_
 refine kv rfl .no Fx.go109 (Evc rfl (Evc rfl (Evc rfl Evn))) (fun _=>keep0_ok _) ?_
 refine kv rfl .no Fx.go112 (Evc rfl (Evc rfl Evn)) (fun _=>split0_ok _ _) ?_
 refine kv rfl .no Fx.go111 (Evc rfl (Evc rfl (Evc rfl Evn))) (fun _=>tables0_ok _ 0 _) ?_
 refine apZ rfl Fx.se60 (.u rfl) (.u rfl) ?_
 refine fz rfl .no Fx.fo163_5 (.u rfl) (s1 rfl (.u rfl) (.u rfl) rfl Fx.sz60 .here (by first|decide | (show _<85; decide)) (edF_set) ?_)
 refine .nil (.code (.seq (rq6 rfl rfl (mV rfl rfl (nc rfl .no (.u rfl) (fz rfl .no Fx.fo124_6 (.u rfl) (ld rfl .no Fx.ag41 (.u rfl) (fun _=>Rd.own tk1 rfl) ?_)))))))
 refine fz rfl .no Fx.fo163_1 (.u rfl) (s1 rfl (.u rfl) (.u rfl) rfl Fx.sz41 .here (by first|decide | (show _<85; decide)) (edF_nx) ?_)
 refine .nil (.code (.seq (Wk.draw (mc:=⟨false,false⟩) [0,1,2,3,4,5,6,7,8,9,10,11,12,15,16,13,14,17,18,19,20,21,22,23,24,25] Fx.mix (by kernel_rfl) ?_)))
 refine mV rfl rfl (nc rfl .no (.u rfl) (fz rfl .no Fx.fo124_2 (.u rfl) (lA rfl .no Fx.ag71 (.u rfl) (fun _=>RdN.part (n:=32) (cs':=ba 32 root) tk1 (rfl)) (fun _=>(ba_len _ _)) ?_)))
 refine mV rfl rfl (nc rfl .no (.u rfl) (fz rfl .no Fx.fo124_12 (.u rfl) (fa rfl .no Fx.fo121_0 (.u rfl) (lA rfl .no Fx.ag119 (.u rfl) (fun _=>RdN.part (n:=5) (cs':=[V 3#8,V 0#8,uv .u64 0#64,uv .u64 ep,uv .u64 0#64]) tk1 (rfl)) (fun _=>rfl) ?_))))
 refine mV rfl rfl (nc rfl .no (.u rfl) (fz rfl .no Fx.fo124_1 (.u rfl) (ld rfl .no Fx.ag68 (.u rfl) (fun _=>Rd.own tk1 rfl) ?_)))
 refine bCe (State.zero.cells hd0) rfl .no Fx.bp64_ .nil rfl (rfl) (lA rfl .no Fx.ag163 (.u rfl) (fun _=>RdN.part (n:=11) (cs':=(edF 1 2).cells ⟨none,0⟩ ⟨none,0⟩) .here (rfl)) (fun _=>(by first|exact qE|exact qL|rfl)) ?_)
 refine kp rfl .no Fx.go60 (Evc rfl Evn) (Gp.add tk5 Gp.nil) (fun _ hle hq=>marks_ok tr 0#64 o1 _ ⟨PM.add_same _ _ _⟩) ?_
 refine bw (k:=.u64) (b:=1#64) rfl .no rfl (.u rfl) (.u rfl) rfl (kc rfl Fx.go134 (Evc rfl (Evc rfl (Evc rfl (Evc rfl (Evc rfl (Evc rfl Evn)))))) (mLayF_ok root ⟨3#8,0#8,0#64,ep,0#64⟩ 0#64 (0#64+1#64) 1 2 _ u64_1 u64_2 (by decide) hK) ?_)
 rintro _ G110 μ110 hG110 ⟨vL,LL,lLL,rfl,rfl⟩
 refine mV rfl rfl (ex rfl .no (.u rfl) rfl (ex rfl .no (.u rfl) rfl (ex rfl .no (.u rfl) rfl ?_)))
 refine al rfl Fx.zq64 ?_; intro b7
 refine aS rfl rfl (sw rfl (.u rfl) (.u rfl) rfl Fx.sz64 .here (by first|exact qE|exact qL|rfl) (State.one') ?_)
 refine aS rfl rfl (.nil (.code (.seq (.seq (rq2 rfl rfl (mV rfl rfl (cp rfl .no (.u rfl) (.u rfl) rfl (.nil (.code (.cond rfl (fun c2=>?_) (fun c2=>?_)))))))))))
 ·have c2k:=c2
  exact absurd c2 (by decide)
 have c2k:=c2
 try simp only [qcA,qcC,qcB] at c2
 refine .skip (.code (.seq (rq2 rfl rfl (mV rfl rfl (kv rfl .no Fx.go63 (Evc rfl Evn) (fun _=>must_ok _) ?_)))))
 refine .nil (.code (.seq ?_))
 refine Wk.jn (α:=List Fi) (fun F1=>[]) (fun F1=>[.blk dk (cl (dkC bm room (2)) 178),.blk bm (mO ((F1).map Fi.fe) (1))]) (fun F1 Gl=>(DkR F1 1)∧(F1.map Fi.nm=[nmB 3 0])∧(szF F1≤800)) [(0,true,_),(3,true,_),(7,true,_)] [_,_,_,_,_]
  (esD rfl (esD rfl (esD rfl eZ))) (mS .here rfl (mS tk1 rfl (mS tk1 rfl (mS tk3 rfl (mS tk3 rfl mN))))) ?_ ?_
 ·refine wk_rs tk1 ?_; intro sRM bbRM evRM lcRM oaRM; subst evRM
  refine Wk.mixp ⟨true,false⟩ Fx.mix (by kernel_rfl) ?_
  refine Wp.one 0 (by kernel_rfl) ?_
  refine mV rfl rfl (.nil (Wp.one 1 (by kernel_rfl) ?_))
  refine mV rfl rfl (.nil (Wp.one 2 (by kernel_rfl) ?_))
  refine nc rfl .no (.u rfl) (.nil (Wp.one 3 (by kernel_rfl) ?_))
  refine fz rfl .no Fx.fo124_12 (.u rfl) (.nil (Wp.one 5 (by kernel_rfl) ?_))
  refine mV rfl rfl (.nil (Wp.one 6 (by kernel_rfl) ?_))
  refine nc rfl .no (.u rfl) (.nil (Wp.one 7 (by kernel_rfl) ?_))
  refine fz rfl .no Fx.fo124_12 (.u rfl) (.nil (Wp.one 8 (by kernel_rfl) ?_))
  refine fa rfl .no Fx.fo121_0 (.u rfl) (.nil (Wp.one 11 (by kernel_rfl) ?_))
  refine mV rfl rfl (.nil (Wp.b2 4 9 (by kernel_rfl) ?_ ?_))
  ·refine kp rfl .no Fx.go65 (Evc rfl Evn) (Gp.add tk3 Gp.nil) (fun _ hle hq=>called_ok bx 74 (flM ep 0#64) _ (PB.rdn (m:=7) ⟨PM.add_same _ _ _⟩ rfl) (by show (0#64:BitVec 64).toNat<10; decide)) ?_
   refine .nil (Wp.one 9 (by kernel_rfl) ?_)
   refine lA rfl .no Fx.ag119 (.u rfl) (fun _=>RdN.part (n:=5) (cs':=[V 3#8,V 0#8,uv .u64 0#64,uv .u64 ep,uv .u64 0#64]) tk3 (rfl)) (fun _=>rfl) ?_
   refine .nil (Wp.b1 10 (by kernel_rfl) ?_)
   refine kc rfl Fx.go61 (Evc rfl Evn) (Ct.rowc (nLay_ok ⟨3#8,0#8,0#64,ep,0#64⟩ _)) ?_
   rintro v128 G128 μ128 hG128 ⟨L128,ov128,eL128,rfl⟩
   refine .nil (Wp.b1 12 (by kernel_rfl) ?_)
   refine apY rfl Fx.se131 Fx.zv5 (.u rfl) (.u rfl) .here (Sc.rowS tk2 oaRM) (by rw [eL128,head_len]; omega) ?_
   intro v130 L130 ov130 eL130
   have lL130:L130.length=L128.length+LL.length:=by rw [eL130,List.length_append]
   refine .nil (Wp.b1 13 (by kernel_rfl) ?_)
   refine ka rfl (.inl rfl) Fx.go138 (Evc rfl (Evc rfl (Evc rfl Evn))) (mtq4 tk4 .here tk3 tk3) (dbwriteR_ok bx bm room 0 0 (Db.d2 dk tr root o ep held now) [] _ DkR0 (by decide) hr9 (nmB 3 0) v130 L130 nm_good3 rfl (by have q9:L128.length=30:=(by rw [eL128,head_len]); omega) (by have q9:L128.length=30:=(by rw [eL128,head_len]); show _+0≤_; omega) (by decide)) ?_
   rintro _ G131 μ131 hG131 ⟨ν5,rfl,F1,hD1,hn1,hz1,rfl,rfl⟩
   refine .nil (Wp.last (by kernel_rfl) ?_)
   refine We.lpo F1 ?_ ?_ ?_ ?_ ?_
   ·exact (esD rfl (esD rfl (esD rfl eZ)))
   ·exact (mS tk1 rfl (mS tk1 rfl (mS tk1 rfl (mS tk2 rfl (mS .here rfl (mS tk1 rfl (mS tk1 rfl mN)))))))
   ·exact zro_lt _
   ·exact (hG128).trans hG131
   refine ⟨?_,?_,?_⟩
   ·(try dsimp only)<;>(exact hD1)
   ·(try dsimp only)<;>(exact hn1)
   (try dsimp only)<;>(have q8:szF []=0:=rfl; have q9:L128.length=30:=(by rw [eL128,head_len]); omega)
  refine lA rfl .no Fx.ag119 (.u rfl) (fun _=>RdN.part (n:=5) (cs':=[V 3#8,V 0#8,uv .u64 0#64,uv .u64 ep,uv .u64 0#64]) tk3 (rfl)) (fun _=>rfl) ?_
  refine .nil (Wp.b1 4 (by kernel_rfl) ?_)
  refine kp rfl .no Fx.go65 (Evc rfl Evn) (Gp.add tk3 Gp.nil) (fun _ hle hq=>called_ok bx 74 (flM ep 0#64) _ (PB.rdn (m:=7) ⟨PM.add_same _ _ _⟩ rfl) (by show (0#64:BitVec 64).toNat<10; decide)) ?_
  refine .nil (Wp.b1 10 (by kernel_rfl) ?_)
  refine kc rfl Fx.go61 (Evc rfl Evn) (Ct.rowc (nLay_ok ⟨3#8,0#8,0#64,ep,0#64⟩ _)) ?_
  rintro v128 G128 μ128 hG128 ⟨L128,ov128,eL128,rfl⟩
  refine .nil (Wp.b1 12 (by kernel_rfl) ?_)
  refine apY rfl Fx.se131 Fx.zv5 (.u rfl) (.u rfl) .here (Sc.rowS tk2 oaRM) (by rw [eL128,head_len]; omega) ?_
  intro v130 L130 ov130 eL130
  have lL130:L130.length=L128.length+LL.length:=by rw [eL130,List.length_append]
  refine .nil (Wp.b1 13 (by kernel_rfl) ?_)
  refine ka rfl (.inl rfl) Fx.go138 (Evc rfl (Evc rfl (Evc rfl Evn))) (mtq4 tk4 .here tk3 tk3) (dbwriteR_ok bx bm room 0 0 (Db.d2 dk tr root o ep held now) [] _ DkR0 (by decide) hr9 (nmB 3 0) v130 L130 nm_good3 rfl (by have q9:L128.length=30:=(by rw [eL128,head_len]); omega) (by have q9:L128.length=30:=(by rw [eL128,head_len]); show _+0≤_; omega) (by decide)) ?_
  rintro _ G131 μ131 hG131 ⟨ν5,rfl,F1,hD1,hn1,hz1,rfl,rfl⟩
  refine .nil (Wp.last (by kernel_rfl) ?_)
  refine We.lpo F1 ?_ ?_ ?_ ?_ ?_
  ·exact (esD rfl (esD rfl (esD rfl eZ)))
  ·exact (mS tk1 rfl (mS tk1 rfl (mS tk1 rfl (mS tk2 rfl (mS .here rfl (mS tk1 rfl (mS tk1 rfl mN)))))))
  ·exact zro_lt _
  ·exact (hG128).trans hG131
  refine ⟨?_,?_,?_⟩
  ·(try dsimp only)<;>(exact hD1)
  ·(try dsimp only)<;>(exact hn1)
  (try dsimp only)<;>(have q8:szF []=0:=rfl; have q9:L128.length=30:=(by rw [eL128,head_len]); omega)
 intro F1 Glj16 hGlj16 hFj16
 obtain ⟨hD1,hn1,hz1⟩:=hFj16
 refine .code (.seq (rq4 rfl rfl (kv rfl .no Fx.go47 (Evc rfl (Evc rfl Evn)) (fun _=>name_ok 5#8 0#64 _ (by decide)) ?_)))
 refine kv rfl .no Fx.go47 (Evc rfl (Evc rfl Evn)) (fun _=>name_ok 4#8 0#64 _ (by decide)) ?_
 refine aS rfl rfl (aS rfl rfl (.nil (.code (.seq (rq8 rfl rfl (mV rfl rfl (mV rfl rfl (mV rfl rfl (nc rfl .no (.u rfl) (fz rfl .no Fx.fo124_12 (.u rfl) (kp rfl .no Fx.go65 (Evc rfl Evn) (Gp.add tk4 Gp.nil) (fun _ hle hq=>called_ok bx 74 (flM ep 0#64) _ (PB.rdn (m:=7) ⟨PM.add_same _ _ _⟩ rfl) (by show (0#64:BitVec 64).toNat<10; decide)) ?_)))))))))))
 refine cvS rfl rfl FxGrBa.sb9_131 (.u rfl) ?_; intro G140 h140 hG140 hs140
 refine ka rfl (.inr rfl) Fx.go138 (Evc rfl (Evc rfl (Evc rfl Evn))) (mtk3 tk4 .here .here) (lend1 fun G1 hle1 h1=>dbwrite_ok bx bm room 2 1 (Db.d2 dk tr root o ep held now) F1 G1 h1 hD1 (by decide) hr9 (nmB 5 0) h140 (yb (nmB 3 0)) (hs140.mono hle1) nm_good5 (fget_nil (by rw [hn1]; exact nm_ne35)) (by rw [yb_len,sz3]; decide) (by rw [yb_len,sz3]; omega) (by have:=congrArg List.length hn1; simp at this; omega)) ?_
 rintro _ G141 μ141 hG141 ⟨ν6,rfl,F2,hD2,hn2,hz2,rfl,rfl⟩
 rw [yb_len,sz3] at hz2; rw [hn1] at hn2
 refine .nil (.code (.seq ?_))
 obtain ⟨f2,hf2⟩:=fget_has (F:=F2) (nm:=nmB 5 0) (by rw [hn2]; exact List.mem_cons_of_mem _ (List.mem_cons_self ..))
 have hc2:F2.length=2:=by have:=congrArg List.length hn2; simpa using this
 have hab2:fget (nmB 4 0) (fdel (nmB 5 0) F2)=none:=fget_nil (by rw [fdel_er,hn2]; show nmB 4 0∉rmv (nmB 5 0) [nmB 3 0,nmB 5 0]; rw [rmv_MT]; exact nm_ne34)
 refine rq8 rfl rfl (mV rfl rfl (nc rfl .no (.u rfl) (fz rfl .no Fx.fo124_0 (.u rfl) (ld rfl .no Fx.ag72 (.u rfl) (fun _=>Rd.own .here rfl) ?_))))
 refine mV rfl rfl (mV rfl rfl (ka rfl (.inr rfl) Fx.go139 (Evc rfl (Evc rfl (Evc rfl Evn))) (mtk2 tk1 tk1) (dRen2_ok dk bm room 4 2 F2 _ hD2 (by decide) hr9 (nmB 5 0) (nmB 4 0) f2 nm_good5 nm_good4 hf2 hab2 (by omega)) ?_))
 rintro _ G148 μ148 hG148 ⟨F3,hD3,hn3,hz3,rfl,rfl⟩
 rw [hn2] at hn3; have hn3:=hn3.trans (congrArg (·++[nmB 4 0]) rmv_MT)
 refine kv rfl .no Fx.go63 (Evc rfl Evn) (fun _=>must_ok _) ?_
 refine .nil (.code (.seq (rq2 rfl rfl (mV rfl rfl (ka rfl (.inr rfl) Fx.go67 (Evc rfl Evn) (mtk2 tk2 tk5) (lend1 fun G1 hle1 h1=>dmark_ok bx tr (Db.d2 dk tr root o ep held now) 0#64 o1 G1 h1 rfl (by decide)) ?_)))))
 rintro _ G151 μ151 hG151 ⟨ν7,rfl,rfl,rfl⟩
 refine .nil (.code (.seq ?_))
 refine wk_fz tk4 (keys_k .here rfl (keys_k tk1 rfl (keys_k tk1 rfl (keys_k .here rfl (keys_0))))) ?_; intro Gfb7 hleb7 hbb7
 refine Wk.mixp ⟨false,false⟩ Fx.mix (by kernel_rfl) ?_
 refine Wp.one 0 (by kernel_rfl) ?_
 refine mV rfl rfl (.nil (Wp.one 1 (by kernel_rfl) ?_))
 refine mV rfl rfl (.nil (Wp.one 3 (by kernel_rfl) ?_))
 refine nc rfl .no (.u rfl) (.nil (Wp.one 4 (by kernel_rfl) ?_))
 refine fz rfl .no Fx.fo124_12 (.u rfl) (.nil (Wp.one 5 (by kernel_rfl) ?_))
 refine fa rfl .no Fx.fo121_1 (.u rfl) (.nil (Wp.pr 2 (by kernel_rfl) ?_))
 refine lA rfl .no Fx.ag64 (.u rfl) (fun _=>(hbb7.rdn (m:=14) (cs':=(stF 1 2).cells hd0) (rfl)).rd) (fun _=>(by first|exact qE|exact qL|rfl)) ?_
 refine .nil ⟨⟨rfl,rfl⟩,?_⟩
 refine Wp.b1 6 (by kernel_rfl) ?_
 refine s1 rfl (.u rfl) (.u rfl) rfl Fx.sz41 .here (by first|decide | (show _<85; decide)) (Db.p_mr _ 1#64) ?_
 refine .nil (Wp.one 7 (by kernel_rfl) ?_)
 refine nc rfl .no (.u rfl) (.nil (Wp.one 8 (by kernel_rfl) ?_))
 refine fz rfl .no Fx.fo124_5 (.u rfl) (.nil (Wp.b1 9 (by kernel_rfl) ?_))
 refine stp rfl (.u rfl) (.u rfl) rfl Fx.sz64 .here (by show 42+14≤85; decide) (State.one') (Db.p_s _ (stF 1 2) hd0) ?_
 refine .nil (Wp.last (by kernel_rfl) ?_)
 refine .code (.seq (rq7 rfl rfl (mV rfl rfl (mV rfl rfl (nc rfl .no (.u rfl) (fz rfl .no Fx.fo124_12 (.u rfl) (kp rfl .no Fx.go65 (Evc rfl Evn) (Gp.add .here Gp.nil) (fun _ hle hq=>called_ok bx 74 (flM ep 1#64) _ (PB.rdn (m:=7) ⟨PM.add_same _ _ _⟩ rfl) (by show (0#64:BitVec 64).toNat<10; decide)) ?_)))))))
 refine Go.Tan.bN rfl FxGrQ.se261 FxGrQ.zv9 (Evp.cons (.u rfl) (Evp.cons (.u rfl) Evp.nil)) rfl (by decide) (by simp [Value.oneCell']) ?_; intro b165
 refine aS rfl rfl (.nil (.code (.seq (.seq (rq4 rfl rfl (fz rfl .no Fx.fo163_5 (.u rfl) (ld rfl .no Fx.ag60 (.u rfl) (fun _=>Rd.own tk5 rfl) ?_)))))))
 refine ln rfl .no Fx.sn60 (.u rfl) (mV rfl rfl (.nil (.code (.block ?_))))
 refine Wk.lop (α:=Nat) (fun k=>[(11,true,.slice (some ⟨b165,0,none⟩) 2 2),(169,true,.int .i64 (k:Int))]) (fun _=>[])
  (fun k Gl=>(k=0)) (fun k=>0) 0 [(0,true,_),(167,true,_),(168,true,_)] [_,_,_,_,_,_,_]
  (esD rfl (esC rfl (by first|rfl|exact evi (by omega)) (esD rfl (esD rfl (esD rfl eZ)))))
  (mS .here rfl (mS .here rfl (mS .here rfl (mS .here rfl (mS .here rfl (mS .here rfl (mS .here rfl mN))))))) ?_ ?_
 ·(try dsimp only)<;>(first|omega|rfl|assumption|(simp; done))
 intro k N1 Gl1 hN1 hGl1 hF1
 try dsimp only at hF1 hN1 ⊢
 have hk:=hF1
 refine .seq (rq1 rfl rfl (cp rfl .no (.u rfl) (.u rfl) rfl (.nil (.code (.seq (.cond rfl (fun c3=>?_) (fun c3=>?_)))))))
 ·have c3k:=c3
  subst hk; cases c3
 have c3k:=c3
 try simp only [qcA,qcC,qcB] at c3
 refine .exit (.xcode (.xlp (.xblk (.code (rq3 rfl rfl (mV rfl rfl (mV rfl rfl (ka rfl (.inr rfl) Fx.go137 (Evc rfl (Evc rfl Evn)) (mtq4 .here .here tk1 tk1) (Ct.give fun hle0=>lend3 fun G2 hle h1 h2 h3=>sweep_ok bx (Db.d3 dk tr root o ep held now) bm room 5 3 F3 G2 h1 h2 h3 hD3 ⟨some ⟨b165,0,none⟩,2⟩ [nmB 4 0,nmB 3 0] (SlR.ofBlk (hle _ _ (PM.add_same _ _ _)) (fun _ _=>rfl) (by decide)) (by decide) (fun f hf=>by have h9:f.nm∈F3.map Fi.nm:=List.mem_map.2 ⟨f,hf,rfl⟩; rw [hn3] at h9; simp at h9 ⊢; exact h9.symm)) ?_))))))))
 rintro _ G182 μ182 hG182 ⟨ν8,rfl,rfl,rfl⟩
 refine .nil (.nil (We.fin Tryz.results81 .nil (mS .here rfl (mS .here rfl (mS .here rfl (mS .here rfl mN)))) ?_))
 exact ⟨F3,hD3,hn3,by omega,rfl,rfl⟩
end Go.Proofs.YtggleibgadkodaaGreatDoor
namespace Go.Proofs.YtggleibgadkodaaGreatDoor
open Go.Tan Go.RowKit Go.Maps Go.Sort Go.Shelf
namespace FxGrBb
theorem if20:ifT Tryz.prog 20=true:=by kernel_rfl
theorem fo38_0:fOff Tryz.prog 38 0=some 0:=by kernel_rfl
theorem fo38_1:fOff Tryz.prog 38 1=some 1:=by kernel_rfl
theorem fo38_2:fOff Tryz.prog 38 2=some 2:=by kernel_rfl
theorem zr29:zrL Tryz.prog 29=some ([.int .i64 0]):=by kernel_rfl
end FxGrBb
namespace Fx
theorem fo40_0:fOff Tryz.prog 40 0=some 0:=by kernel_rfl
theorem go82:goFn Tryz.prog 82=true:=by kernel_rfl
theorem fo40_1:fOff Tryz.prog 40 1=some 1:=by kernel_rfl
theorem fo40_4:fOff Tryz.prog 40 4=some 4:=by kernel_rfl
theorem fo40_2:fOff Tryz.prog 40 2=some 2:=by kernel_rfl
theorem fo40_3:fOff Tryz.prog 40 3=some 3:=by kernel_rfl
theorem go41:goFn Tryz.prog 41=true:=by kernel_rfl
theorem go80:goFn Tryz.prog 80=true:=by kernel_rfl
theorem zr44:zrL Tryz.prog 44=some ([.pointer none]):=by kernel_rfl
theorem ag40:aggN Tryz.prog 40=some (some 7):=by kernel_rfl
theorem go28:goFn Tryz.prog 28=true:=by kernel_rfl
theorem go77:goFn Tryz.prog 77=true:=by kernel_rfl
theorem go78:goFn Tryz.prog 78=true:=by kernel_rfl
theorem bp124_0_1_2_3_4_9_13:bPl Tryz.prog 124 [0,1,2,3,4,9,13]=some ([.pointer none,.pointer none,.int .u8 0,.int .u8 0,.int .u8 0,.int .u8 0,.int .u8 0,.int .u8 0,.int .u8 0,.int .u8 0,.int .u8 0,.int .u8 0,.int .u8 0,.int .u8 0,.int .u8 0,.int .u8 0,.int .u8 0,.int .u8 0,.int .u8 0,.int .u8 0,.int .u8 0,.int .u8 0,.int .u8 0,.int .u8 0,.int .u8 0,.int .u8 0,.int .u8 0,.int .u8 0,.int .u8 0,.int .u8 0,.int .u8 0,.int .u8 0,.int .u8 0,.int .u8 0,.int .i64 0,.int .i64 0,.int .i64 0,.int .i64 0,.int .i64 0,.int .i64 0,.int .i64 0,.int .u64 0,.slice none 0 0,.slice none 0 0,.slice none 0 0,.slice none 0 0,.slice none 0 0,.int .u64 0,.int .u64 0,.int .u64 0,.int .u64 0,.int .u64 0,.int .u64 0,.int .u64 0,.int .u64 0,.int .u64 0,.int .u64 0,.int .u64 0,.int .u64 0,.map none,.int .u8 0,.int .u8 0,.int .u64 0,.int .u64 0,.int .u64 0,.int .u64 0,.bool false,.int .u8 0,.int .u8 0,.int .u64 0,.int .u64 0,.int .u64 0,.int .u64 0,.bool false,.int .u8 0,.int .u8 0,.int .u64 0,.int .u64 0,.int .u64 0,.int .u64 0,.bool false,.pointer none,.pointer none,.int .i64 0,.bool false],[(0,1),(1,1),(2,32),(34,7),(41,1),(59,1),(81,1)]):=by kernel_rfl
theorem go81:goFn Tryz.prog 81=true:=by kernel_rfl
theorem sz44:szT Tryz.prog 44=some 1:=by kernel_rfl
theorem ag44:aggN Tryz.prog 44=some none:=by kernel_rfl
end Fx
theorem guard_ret (w:World) (x y:Value):CallsD Tryz.prog 41 #[x,y] .returning w (fun e u' w'=>(∃ v,e=.returned v)∧u'=.returning∧w'=w):=by
 refine callsD_of_wpS Tryz.func41 rfl fun c₀ cs hu=>(wpS_seq (wpS_region ?_))
 have hr:recoverD (c₀ :: cs)=none:=by simp [recoverD,hu]
 rw [show Tryz.f41.ntmps=25 from rfl]
 simp only [wpOpsS,List.range,List.range.loop,Array.size,List.length,List.getElem?_toArray,List.getElem?_cons_zero,List.getElem?_cons_succ,Region.wanted,if_true]
 have e1:∀ (ρ:Operand→Value) (d:Option Nat) (t:TypeId) (p:String) (af:Array Edge),(execOp ρ ⟨d,.call { callee:=.builtin .recover,args:=#[],argTypes:=#[] },t,p,af,none⟩).run Tryz.prog w=.ok .recover w:=fun ρ d t p af=>by
  simp [execOp,resolve,invoke,builtin]
 simp only [e1,hr]
 simp [execOp,Oper.upon,Exit.thenS,Act.put,Act.eval]
 refine wpS_of_wp ?_
 refine wp_seq (wp_seq (wp_region ?_))
 have e2:(binOp .eql 20 .nilIface .nilIface).run Tryz.prog w=.ok (.bool true) w:=by
  have hu20:=ifT_some FxGrBb.if20
  obtain ⟨q,hq⟩:=hu20
  have e4:∀ d,(Op.equalIn (d+1) 20 .nilIface .nilIface).run Tryz.prog w=.ok true w:=fun d=>by
   unfold Op.equalIn
   simp only [Sem.run_bind,run_underlying hq,Result.andThen_ok,Sem.run_pure]
  obtain ⟨d,hd⟩ : ∃ d,Op.maxDepth=d+1:=Nat.exists_eq_succ_of_ne_zero (by decide)
  simp [binOp,Op.equal,hd,e4]
 have e3:∀ z,(eqGuard .eql 20 z (.const .nilIface) .nilIface .nilIface).run Tryz.prog w=.ok () w:=fun z=>by unfold eqGuard; simp
 simp [wpOps,Region.wanted,execOp,Oper.wp,Oper.upon,Exit.then,Act.put,Act.eval,List.range,List.range.loop,e2,e3]
 refine .inl (.inl (wp_cond_true (by simp [Act.eval]) (wp_ret ?_)))
 refine ⟨rfl,.returning,by rw [← hu],.tuple #[],?_,⟨_,rfl⟩,rfl,rfl⟩
 simp [results,Tryz.f41]
theorem open1_ret (w:World) (b c:Nat) (h:w.cell? ⟨b,0,none⟩=some (.int .i64 0)):CallsD Tryz.prog 80 #[.pointer (some ⟨b,0,none⟩),.pointer (some ⟨c,0,none⟩)] .returning w (fun e u' w'=>(∃ v,e=.returned v)∧u'=.returning∧w'=w):=by
 refine callsD_of_wpS Tryz.func80 rfl fun c₀ cs hu=>(wpS_of_wp ?_)
 rw [show Tryz.f80.ntmps=4 from rfl]
 refine wp_seq (wp_region ?_)
 have h1:(Instr.loadAt 29 (.pointer (some ⟨b,0,none⟩))).run Tryz.prog w=.ok (.int .i64 0) w:=by simp [Instr.loadAt,Instr.sureAddr,run_loadVar1 Fx.ag29 h]
 have h2:=run_cmp (P:=Tryz.prog) (op:=.neq) (k:=.i64) (a:=0) (b:=0) (r:=false) 29 rfl w
 simp [wpOps,Region.wanted,execOp,Oper.wp,Oper.upon,Exit.then,Act.put,Act.eval,List.range,List.range.loop,h1,h2,eqGuard_int]
 refine .inl (.inl (wp_cond_false (by simp [Act.eval]) (wp_skip ?_)))
 refine ⟨rfl,.returning,by rw [← hu],.tuple #[],?_,⟨_,rfl⟩,rfl,rfl⟩
 simp [results,Tryz.f80]
theorem within_ok (n m:Int) (G:PM):Ct Tryz.prog 82 ([.int .i64 n,.int .i64 m]:List Value).toArray G [] (fun _ μ' u=>μ'=[]∧u=.bool (within n m)):=by
 refine Ct.of Tryz.func82 rfl Tryz.ntmps82 rfl fun w0 hs0=>?_
 refine .seq (rq1 rfl rfl (aS rfl rfl (.nil (.code (.seq (rq8 rfl rfl (mV rfl rfl (cp rfl .no (.u rfl) (.u rfl) rfl (mV rfl rfl (mv rfl (.t rfl rfl) (.u rfl) (mv rfl (.t rfl rfl) (.u rfl) (cp rfl (.t rfl rfl) (.s rfl) (.s rfl) rfl (pkA rfl .no (.u rfl) (.s rfl) (aS rfl rfl (.nil (.code (.ret (We.fin0 Tryz.results82 (.tmp rfl .nil) ?_))))))))))))))))))
 exact ⟨rfl,rfl⟩
theorem oright_ok (o:Opts) (G:PM):Ct Tryz.prog 28 ([o.val]:List Value).toArray G [] (fun _ μ' u=>μ'=[]∧u=.bool (rightO o)):=by
 refine Ct.of Tryz.func28 rfl Tryz.ntmps28 rfl fun w0 hs0=>?_
 refine .seq (rq2 rfl rfl ?_)
 refine bx rfl (.u rfl) rfl ?_; intro b1
 refine aS rfl rfl (.nil (.code (.seq (Wk.rg [0,1,2,3,4,5,6,7,8,9,10,11,12,13,14] rfl rfl (fz rfl .no Fx.fo40_0 (.u rfl) (ld rfl .no Fx.ag3 (.u rfl) (fun _=>Rd.own .here rfl) ?_))))))
 refine kv rfl .no Fx.go82 (Evc rfl (Evc rfl Evn)) (fun _=>within_ok _ _ _) ?_
 refine mV rfl rfl (fz rfl (.t rfl rfl) Fx.fo40_1 (.u rfl) (ld rfl (.t rfl rfl) Fx.ag3 (.s rfl) (fun _=>Rd.own .here rfl) ?_))
 refine kv rfl (.t rfl rfl) Fx.go82 (Eva.cons (.s rfl) (Evc rfl Evn)) (fun hc=>within_ok _ _ _) ?_
 refine pkA rfl .no (.u rfl) (.s rfl) (mV rfl rfl (fz rfl (.t rfl rfl) Fx.fo40_4 (.u rfl) (fa rfl (.t rfl rfl) FxGrBb.fo38_0 (.s rfl) (ld rfl (.t rfl rfl) Fx.ag3 (.s rfl) (fun _=>Rd.own .here rfl) ?_))))
 refine kv rfl (.t rfl rfl) Fx.go82 (Eva.cons (.s rfl) (Evc rfl Evn)) (fun hc=>within_ok _ _ _) ?_
 refine pkA rfl .no (.u rfl) (.s rfl) (aS rfl rfl (.nil (.code (.seq (Wk.rg [0,1,2,3,4,5,6,7,8,9,10,11,12,13,14,15,16,17,18,19,20,21,22,23] rfl rfl (mV rfl rfl (mV rfl rfl (fz rfl (.t rfl rfl) Fx.fo40_2 (.u rfl) (ld rfl (.t rfl rfl) Fx.ag3 (.s rfl) (fun _=>Rd.own .here rfl) ?_)))))))))
 refine kv rfl (.t rfl rfl) Fx.go82 (Eva.cons (.s rfl) (Evc rfl Evn)) (fun hc=>within_ok _ _ _) ?_
 refine pkA rfl .no (.u rfl) (.s rfl) (mV rfl rfl (fz rfl (.t rfl rfl) Fx.fo40_3 (.u rfl) (ld rfl (.t rfl rfl) Fx.ag3 (.s rfl) (fun _=>Rd.own .here rfl) ?_)))
 refine kv rfl (.t rfl rfl) Fx.go82 (Eva.cons (.s rfl) (Evc rfl Evn)) (fun hc=>within_ok _ _ _) ?_
 refine pkA rfl .no (.u rfl) (.s rfl) (mV rfl rfl (fz rfl (.t rfl rfl) Fx.fo40_4 (.u rfl) (fa rfl (.t rfl rfl) FxGrBb.fo38_1 (.s rfl) (ld rfl (.t rfl rfl) Fx.ag3 (.s rfl) (fun _=>Rd.own .here rfl) ?_))))
 refine kv rfl (.t rfl rfl) Fx.go82 (Eva.cons (.s rfl) (Evc rfl Evn)) (fun hc=>within_ok _ _ _) ?_
 refine pkA rfl .no (.u rfl) (.s rfl) (mV rfl rfl (fz rfl (.t rfl rfl) Fx.fo40_4 (.u rfl) (fa rfl (.t rfl rfl) FxGrBb.fo38_2 (.s rfl) (ld rfl (.t rfl rfl) Fx.ag3 (.s rfl) (fun _=>Rd.own .here rfl) ?_))))
 refine kv rfl (.t rfl rfl) Fx.go82 (Eva.cons (.s rfl) (Evc rfl Evn)) (fun hc=>within_ok _ _ _) ?_
 refine pkA rfl .no (.u rfl) (.s rfl) (aS rfl rfl (.nil (.code (.ret (We.fin0 Tryz.results28 (.tmp rfl .nil) ?_)))))
 exact ⟨rfl,rfl⟩
set_option maxHeartbeats 1000000 in
theorem dOpen_ok (bd bm room bt:Nat) (root:Nat→Y) (o:Opts) (G:PM) (hO:rightO o=true) (hr:5000≤room) (hr9:room≤1000000000) (hK:RdNP G 0 0 (wa 64 kW)):Ct Tryz.prog 25 ([.pointer (some ⟨bd,0,none⟩),.pointer (some ⟨bt,0,none⟩),.agg (ba 32 root).toArray,o.val]:List Value).toArray G [.blk bd (cl (dkC bm room 0) 178),.blk bm (mO [] 0),.blk bt (cl [uv .u64 0#64,uv .u64 0#64] 175)] (fun _ μ' u=>∃ bx held now v F,v.oneCell'=true∧DkR F 3∧F.map Fi.nm=[nmB 3 0,nmB 4 0]∧szF F≤2000∧μ'=[.blk bx (cl (Db.cells (Db.d3 bd bt root o 1#64 held now)) 124),.blk bd (cl (dkC bm room 5) 178),.blk bm (mO (F.map Fi.fe) 3),.blk bt (cl [uv .u64 1#64,uv .u64 1#64] 175),.blk now (cl [v,.int .i64 ((0:Nat):Int)] 202),rS 16 Nd.cells v 199 [Nd.z],.mp held .u64 (fun _=>none)]∧u=.tuple #[pt bx,.int .i64 0]):=by
 refine Ct.of Tryz.func25 rfl Tryz.ntmps25 rfl fun w0 hs0=>?_
 refine .seq (rq4 rfl rfl ?_)
 refine bx rfl (.u rfl) rfl ?_; intro b6
 refine bx rfl (.u rfl) rfl ?_; intro b7
 refine al rfl Fx.zr44 ?_; intro b8
 refine al rfl FxGrBb.zr29 ?_; intro b9
 refine .nil (.code (.seq (.block (.seq (rq7 rfl rfl (mV rfl rfl (pe rfl .no Fx.pt72 (.u rfl) (.u rfl) ?_)))))))
 refine mV rfl rfl (mv rfl (.f rfl rfl) (.u rfl) (pe rfl (.f rfl rfl) Fx.pt68 (.s rfl) (.u rfl) ?_))
 refine pkO rfl .no (.u rfl) (.s rfl) (aS rfl rfl (.nil (.code (.cond rfl (fun c1=>?_) (fun c1=>?_)))))
 ·have c1k:=c1
  cases c1
 have c1k:=c1
 try simp only [qcA,qcC,qcB] at c1
 refine .seq (rq4 rfl rfl (lA rfl .no Fx.ag40 (.u rfl) (fun _=>RdN.part (n:=7) (cs':=o.cells) tk2 (rfl)) (fun _=>rfl) ?_))
 refine kv rfl .no Fx.go28 (Evc rfl Evn) (fun _=>oright_ok o _) ?_
 refine nt rfl .no (.u rfl) (aS rfl rfl (.nil (.code (.cond rfl (fun c2=>?_) (fun c2=>?_)))))
 ·have c2k:=c2
  rw [hO] at c2; cases c2
 have c2k:=c2
 try simp only [qcA,qcC,qcB] at c2
 refine .seq (rq3 rfl rfl (mV rfl rfl (kp rfl .no Fx.go77 (Evc rfl Evn) (Gp.add tk4 Gp.nil) (fun _ hle hq=>dead_ok bd bm room 0 0 [] _ ⟨PM.add_same _ _ _⟩) ?_)))
 refine aS rfl rfl (.nil (.code (.cond rfl (fun c3=>?_) (fun c3=>?_))))
 ·have c3k:=c3
  cases c3
 have c3k:=c3
 try simp only [qcA,qcC,qcB] at c3
 refine .skip (.blk (.code (.seq (rq7 rfl rfl (mV rfl rfl (ka rfl (.inr rfl) Fx.go78 (Evc rfl Evn) (mtk1 tk6) (topen_ok bt 0#64 0#64 _ (by decide)) ?_))))))
 rintro _ G29 μ29 hG29 ⟨rfl,rfl⟩
 have hK:=hK.mono hG29
 refine mV rfl rfl (ex rfl .no (.u rfl) rfl (ex rfl .no (.u rfl) rfl (aS rfl rfl (aS rfl rfl (.nil (.code (.seq (.seq (rq2 rfl rfl (mV rfl rfl (cp rfl .no (.u rfl) (.u rfl) rfl (.nil (.code (.cond rfl (fun c4=>?_) (fun c4=>?_)))))))))))))))
 ·have c4k:=c4
  exact absurd c4 (by decide)
 have c4k:=c4
 try simp only [qcA,qcC,qcB] at c4
 refine .skip (.code (.seq ?_))
 refine Wk.jn (α:=Nat×Nat×Nat×Value) (fun gh=>[(12,true,.pointer (some ⟨gh.1,0,none⟩))]) (fun gh=>[.blk gh.1 (cl (Db.cells (Db.new bd bt root o 1#64 gh.2.1 gh.2.2.1)) 124),.mp gh.2.1 .u64 (fun _=>none),.blk gh.2.2.1 (cl [gh.2.2.2,.int .i64 ((0:Nat):Int)] 202),rS 16 Nd.cells gh.2.2.2 199 [Nd.z]]) (fun gh Gl=>(gh.2.2.2.oneCell'=true)) [(8,true,_),(9,true,_)] [_,_,_,_,_]
  (esD rfl (esD rfl eZ)) (mS .here rfl (mS .here rfl (mS .here rfl (mS tk2 rfl (mS tk2 rfl mN))))) ?_ ?_
 ·refine wk_fz tk4 (keys_k tk4 rfl (keys_k tk4 rfl (keys_k .here rfl (keys_0)))) ?_; intro Gfb6 hleb6 hbb6
  have hK:=hK.mono hleb6
  refine wk_fz tk3 (keys_k tk3 rfl (keys_k tk3 rfl (keys_k .here rfl (keys_0)))) ?_; intro Gfb7 hleb7 hbb7
  have hK:=hK.mono hleb7
  have hbb6:=hbb6.mono hleb7
  refine Wk.mixp ⟨true,false⟩ Fx.mix (by kernel_rfl) ?_
  refine Wp.one 0 (by kernel_rfl) ?_
  refine mV rfl rfl (.nil (Wp.one 1 (by kernel_rfl) ?_))
  refine mV rfl rfl (.nil (Wp.one 4 (by kernel_rfl) ?_))
  refine mV rfl rfl (.nil (Wp.pr 2 (by kernel_rfl) ?_))
  refine lA rfl .no Fx.ag71 (.u rfl) (fun _=>(hbb6.rdn (m:=32) (cs':=ba 32 root) (rfl)).rd) (fun _=>(ba_len _ _)) ?_
  refine .nil ⟨⟨rfl,rfl⟩,?_⟩
  refine Wp.pr 3 (by kernel_rfl) ?_
  refine lA rfl .no Fx.ag40 (.u rfl) (fun _=>(hbb7.rdn (m:=7) (cs':=o.cells) (rfl)).rd) (fun _=>rfl) ?_
  refine .nil ⟨⟨rfl,rfl⟩,?_⟩
  refine Wp.b2 5 6 (by kernel_rfl) ?_ ?_
  ·refine mk rfl .u64 ?_; intro b40
   refine .nil (Wp.b1 6 (by kernel_rfl) ?_)
   refine kc rfl Fx.go79 Evn (lNew_ok _) ?_
   rintro _ G41 μ41 hG41 ⟨bl,vl,ol,rfl,rfl⟩
   have hK:=hK.mono hG41
   refine .nil (Wp.one 7 (by kernel_rfl) ?_)
   refine bCe ((Db.new bd bt root o (0#64+1#64) b40 bl).cells) rfl .no Fx.bp124_0_1_2_3_4_9_13 (.cons (.u rfl) rfl (.cons (.u rfl) rfl (.cons (.u rfl) rfl (.cons (.u rfl) rfl (.cons (.u rfl) rfl (.cons (.u rfl) rfl (.cons (.u rfl) rfl .nil))))))) rfl (rfl) (.nil (Wp.b1 8 (by kernel_rfl) ?_))
   refine bx rfl (.u rfl) rfl ?_; intro b43
   refine .nil (Wp.one 9 (by kernel_rfl) ?_)
   refine aS rfl rfl (.nil (Wp.last (by kernel_rfl) ?_))
   refine We.lpo (b43,b40,bl,vl) ?_ ?_ ?_ ?_ ?_
   ·exact (esD rfl (esD rfl (esD rfl eZ)))
   ·exact (mS .here rfl (mS tk2 rfl (mS .here rfl (mS .here rfl (mS .here rfl (mS .here rfl (mS .here rfl (mS .here rfl (mS .here rfl mN)))))))))
   ·exact zro_lt _
   ·exact ((hleb6).trans hleb7).trans hG41
   (try dsimp only)<;>(first|omega|rfl|assumption|(simp; done))
  refine kc rfl Fx.go79 Evn (lNew_ok _) ?_
  rintro _ G41 μ41 hG41 ⟨bl,vl,ol,rfl,rfl⟩
  have hK:=hK.mono hG41
  refine .nil (Wp.b1 5 (by kernel_rfl) ?_)
  refine mk rfl .u64 ?_; intro b40
  refine .nil (Wp.one 7 (by kernel_rfl) ?_)
  refine bCe ((Db.new bd bt root o (0#64+1#64) b40 bl).cells) rfl .no Fx.bp124_0_1_2_3_4_9_13 (.cons (.u rfl) rfl (.cons (.u rfl) rfl (.cons (.u rfl) rfl (.cons (.u rfl) rfl (.cons (.u rfl) rfl (.cons (.u rfl) rfl (.cons (.u rfl) rfl .nil))))))) rfl (rfl) (.nil (Wp.b1 8 (by kernel_rfl) ?_))
  refine bx rfl (.u rfl) rfl ?_; intro b43
  refine .nil (Wp.one 9 (by kernel_rfl) ?_)
  refine aS rfl rfl (.nil (Wp.last (by kernel_rfl) ?_))
  refine We.lpo (b43,b40,bl,vl) ?_ ?_ ?_ ?_ ?_
  ·exact (esD rfl (esD rfl (esD rfl eZ)))
  ·exact (mS .here rfl (mS .here rfl (mS .here rfl (mS .here rfl (mS .here rfl (mS .here rfl (mS .here rfl (mS .here rfl (mS .here rfl mN)))))))))
  ·exact zro_lt _
  ·exact ((hleb6).trans hleb7).trans hG41
  (try dsimp only)<;>(first|omega|rfl|assumption|(simp; done))
 intro gh Glj10 hGlj10 hFj10
 obtain ⟨b43,b40,bl,vl⟩:=gh; dsimp only at hFj10 ⊢
 have ol:=hFj10
 have hK:=hK.mono hGlj10
 refine .code (.seq (Wk.defers [0] 1 (DQ.d ⟨80,[],[.pointer (some ⟨b9,0,none⟩),.pointer (some ⟨b8,0,none⟩)]⟩) (fun _ _ _ _=>False) (fun _ _ _ _ _ _ hq=>hq.elim) rfl rfl ?_))
 refine mf (vf:=#[]) (vc:=[Value.pointer (some ⟨b9,0,none⟩),Value.pointer (some ⟨b8,0,none⟩)].toArray) rfl .no (fun a ha _=>by simp) (fun a ha _=>by simp [(Ev.u (c:=true) rfl:Ev _ true (.tmp 9) _).eval ha rfl,(Ev.u (c:=true) rfl:Ev _ true (.tmp 8) _).eval ha rfl]) ?_
 refine .nil ⟨DefOp.clo rfl rfl,?_⟩
 refine .code (.seq (Wk.defers [0] 1 (DQ.d ⟨41,[.pointer (some ⟨b43,0,none⟩),.pointer (some ⟨b9,0,none⟩)],[]⟩) (fun _ _ _ _=>False) (fun _ _ _ _ _ _ hq=>hq.elim) rfl rfl ?_))
 refine mV rfl rfl (.nil ⟨DefOp.fn rfl (Evc rfl (Evc rfl Evn)),?_⟩)
 refine .code (.seq (rq2 rfl rfl (mV rfl rfl (ka rfl (.inr rfl) Fx.go81 (Evc rfl Evn) (mtq4 .here tk6 tk6 tk3) (dbegin_ok b43 bm room bd bt b40 bl root o 1#64 (0#64+1#64) _ hr hr9 hK) ?_))))
 rintro _ G47 μ47 hG47 ⟨F,hD,hn,hz,rfl,rfl⟩
 refine .nil (.code (.seq (rq3 rfl rfl (mV rfl rfl (s1 rfl (.u rfl) (.u rfl) rfl Fx.sz44 tk8 (by first|decide | (show _<85; decide)) (rfl) ?_)))))
 refine s1 rfl (.u rfl) (.u rfl) rfl Fx.sz29 tk8 (by first|decide | (show _<85; decide)) (rfl) ?_
 refine .nil (.code (.ret (We.finQ [⟨41,[.pointer (some ⟨b43,0,none⟩),.pointer (some ⟨b9,0,none⟩)],[]⟩,⟨80,[],[.pointer (some ⟨b9,0,none⟩),.pointer (some ⟨b8,0,none⟩)]⟩] rfl (by intro q hq; rcases List.mem_cons.1 hq with rfl | hq; exact ⟨Fx.go41,fun w hw=>guard_ret w _ _⟩; rw [List.mem_singleton.1 hq]; exact ⟨Fx.go80,fun w hw=>open1_ret w b9 b8 (Rd.own .here rfl w hw)⟩) Tryz.results25 (.cell rfl (fun w hw=>run_loadVar1 Fx.ag44 (Rd.own tk1 rfl w hw)) (.cell rfl (fun w hw=>run_loadVar1 Fx.ag29 (Rd.own .here rfl w hw)) .nil)) (mS tk2 rfl (mS tk2 rfl (mS tk2 rfl (mS tk2 rfl (mS tk3 rfl (mS tk3 rfl (mS tk2 rfl mN))))))) ?_)))
 exact ⟨b43,b40,bl,vl,F,ol,hD,hn,hz,rfl,rfl⟩
end Go.Proofs.YtggleibgadkodaaGreatDoor
namespace Go.Proofs.YtggleibgadkodaaGreatDoor
open Go.Tan Go.RowKit Go.Maps Go.Sort Go.Shelf
namespace FxGrC
theorem zq115:zrL Tryz.prog 115=some (Ent.zero.cells):=by kernel_rfl
theorem zw115:(Tryz.prog.info? 115).bind (·.zero)=some (.agg (Ent.zero.cells).toArray):=by kernel_rfl
end FxGrC
namespace Fx
theorem fo99_1:fOff Tryz.prog 99 1=some 1:=by kernel_rfl
theorem fo99_0:fOff Tryz.prog 99 0=some 0:=by kernel_rfl
theorem fo99_2:fOff Tryz.prog 99 2=some 2:=by kernel_rfl
theorem bp115_0_1_2_3:bPl Tryz.prog 115 [0,1,2,3]=some (Ent.zero.cells,[(0,1),(1,1),(2,1),(3,1)]):=by kernel_rfl
theorem se22:slE Tryz.prog 22=some (99,3,40):=by kernel_rfl
theorem sn22:(slE Tryz.prog 22).isSome=true:=by kernel_rfl
theorem ag99:aggN Tryz.prog 99=some (some 3):=by kernel_rfl
theorem zr99:zrL Tryz.prog 99=some ([.int .u8 0,.string ByteArray.empty,.string ByteArray.empty]):=by kernel_rfl
theorem sz99:szT Tryz.prog 99=some 3:=by kernel_rfl
theorem go85:goFn Tryz.prog 85=true:=by kernel_rfl
theorem go35:goFn Tryz.prog 35=true:=by kernel_rfl
end Fx
theorem entry_ok (q:BitVec 64) (o:Opn) (G:PM):Ct Tryz.prog 85 ([uv .u64 q,o.val]:List Value).toArray G [] (fun _ μ' u=>μ'=[]∧u=(entE q o).val):=by
 refine Ct.of Tryz.func85 rfl Tryz.ntmps85 rfl fun w0 hs0=>?_
 refine .seq (rq2 rfl rfl ?_)
 refine bx rfl (.u rfl) rfl ?_; intro b3
 refine al rfl FxGrC.zq115 ?_; intro b4
 refine .nil (.code (.seq (rq9 rfl rfl (fz rfl .no Fx.fo99_1 (.u rfl) (ld rfl .no Fx.ag9 (.u rfl) (fun _=>Rd.own tk1 (by first|exact wap_f rfl|rfl)) ?_)))))
 refine mV rfl rfl (fz rfl .no Fx.fo99_0 (.u rfl) (ld rfl .no Fx.ag5 (.u rfl) (fun _=>Rd.own tk1 (by first|exact wap_f rfl|rfl)) ?_))
 refine fz rfl .no Fx.fo99_2 (.u rfl) (ld rfl .no Fx.ag9 (.u rfl) (fun _=>Rd.own tk1 (by first|exact wap_f rfl|rfl)) ?_)
 refine bCe ((entE q o).cells) rfl .no Fx.bp115_0_1_2_3 (.cons (.u rfl) rfl (.cons (.u rfl) rfl (.cons (.u rfl) rfl (.cons (.u rfl) rfl .nil)))) rfl (rfl) ?_
 refine sw rfl (.u rfl) (.u rfl) rfl Fx.sz115 .here rfl (Ent.one _) ?_
 refine .nil (.code (.ret (We.fin0 Tryz.results85 (.cell rfl (fun w hw=>run_loadVarN Fx.ag115 (RdN.own .here) (Ent.len _) hw) .nil) ?_)))
 exact ⟨rfl,rfl⟩
theorem bRight_ok (h:Sh) (l:List Opn) (G:PM) (hs:SlR G 3 Opn.cells h l) (hl:l.length=1∨l.length=2) (hok:∀ o∈l,o.ok):Ct Tryz.prog 35 ([uv .u64 1#64,h.val l.length]:List Value).toArray G [] (fun _ μ' u=>μ'=[]∧u=.bool true):=by
 refine Ct.of Tryz.func35 rfl Tryz.ntmps35 rfl fun w0 hs0=>?_
 refine .seq (rq1 rfl rfl (aS rfl rfl (.nil (.code (.seq (rq4 rfl rfl (mV rfl rfl (ln rfl .no Fx.sn22 (.u rfl) (ci rfl .no rfl Fx.cv3_41 (.u rfl) ?_)))))))))
 refine aS rfl rfl (.nil (.code (.seq (.seq (Wk.rg [0,1,2,3,4,5,6,7,8,9,10,11,12,13,14,15,16] rfl rfl (mV rfl rfl (cp rfl .no (.u rfl) (.u rfl) rfl (mV rfl rfl (mv rfl (.f rfl rfl) (.u rfl) (cp rfl (.f rfl rfl) (.s rfl) (.u rfl) rfl (pkO rfl .no (.u rfl) (.s rfl) (mV rfl rfl (mv rfl (.f rfl rfl) (.u rfl) (cp rfl (.f rfl rfl) (.s rfl) (.u rfl) rfl (pkO rfl .no (.u rfl) (.s rfl) (mV rfl rfl (mv rfl (.f rfl rfl) (.u rfl) (mv rfl (.f rfl rfl) (.u rfl) (bw (k:=.u64) (a:=72057594037927935#64) rfl (.f rfl rfl) rfl (.u rfl) (.s rfl) rfl (bw (k:=.u64) (b:=1#64) rfl (.f rfl rfl) rfl (.s rfl) (.u rfl) rfl (cp rfl (.f rfl rfl) (.s rfl) (.s rfl) rfl (pkO rfl .no (.u rfl) (.s rfl) (.nil (.code (.cond rfl (fun c1=>?_) (fun c1=>?_))))))))))))))))))))))))))
 ·have c1k:=c1
  rcases hl with e | e<;>rw [e] at c1<;>exact absurd c1 (by decide)
 have c1k:=c1
 try simp only [qcA,qcC,qcB] at c1
 refine .skip (.code (.seq (.seq (rq3 rfl rfl (mV rfl rfl (ln rfl .no Fx.sn22 (.u rfl) (mV rfl rfl (.nil (.code (.block ?_))))))))))
 refine Wk.lop (α:=Nat) (fun k=>[(30,true,.int .i64 (k:Int))]) (fun _=>[])
  (fun k Gl=>(k≤l.length)) (fun k=>l.length-k) 0 [(0,true,_),(28,true,_),(29,true,_)] []
  (esC rfl (by first|rfl|exact evi (by omega)) (esD rfl (esD rfl (esD rfl eZ))))
  mN ?_ ?_
 ·(try dsimp only)<;>(first|omega|rfl|assumption|(simp; done))
 intro k N0 Gl0 hN0 hGl0 hF0
 try dsimp only at hF0 hN0 ⊢
 have hk:=hF0
 have hs:=hs.mono hGl0
 refine .seq (rq1 rfl rfl (cp rfl .no (.u rfl) (.u rfl) rfl (.nil (.code (.seq (.cond rfl (fun c2=>?_) (fun c2=>?_)))))))
 ·have c2k:=c2
  try simp only [qcA,qcC,qcB] at c2
  refine .skip (.code (.seq (.block (.seq (rq4 rfl rfl (ih rfl .no Fx.se22 (.u rfl) (.u rfl) (fun _=>by omega) (fun _=>by omega) (fun _=>hs.nn (k:=k) (by first|omega|(simp only [Bool.and_eq_true,decide_eq_true_eq] at hc; omega)|(simp only [List.length_cons,List.length_nil]; omega))) ?_))))))
  obtain ⟨o,eo⟩:=getx (k:=k) (xs:=l) (by omega)
  have ho:=hok o (List.mem_of_getElem? eo)
  refine lA rfl .no Fx.ag99 (.u rfl) (fun _=>(hs.at (by omega) eo).rd) (fun _=>Opn.len _) ?_
  refine al rfl Fx.zr99 ?_; intro b7
  refine sw rfl (.u rfl) (.u rfl) rfl Fx.sz99 .here rfl (Opn.one _) ?_
  refine .nil (.code (.seq (rq5 rfl rfl (mV rfl rfl (lA rfl .no Fx.ag99 (.u rfl) (fun _=>RdN.own .here) (fun _=>(by first|exact Opn.len _|exact Ent.len _|rfl)) ?_)))))
  refine kv rfl .no Fx.go85 (Evc rfl (Evc rfl Evn)) (fun _=>entry_ok 1#64 o _) ?_
  refine kv rfl .no Fx.go84 (Evc rfl Evn) (fun _=>eRight_ok (entE 1#64 o) _) ?_
  refine nt rfl .no (.u rfl) (.nil (.code (.cond rfl (fun c3=>?_) (fun c3=>?_))))
  ·have c3k:=c3
   rw [right_op ho (by decide)] at c3; cases c3
  have c3k:=c3
  try simp only [qcA,qcC,qcB] at c3
  refine .skip (.blk (.code (rq2 rfl rfl (arn (((k+1):Nat):Int) rfl .no (.u rfl) (.u rfl) rfl (fun _=>by omega) (fun _=>wrap_i64 (by omega) (by omega)) ?_))))
  refine mV rfl rfl (.nil (We.lpo (k+1) ?_ ?_ ?_ ?_ ?_))
  ·exact (esC rfl (by first|rfl|exact evi (by omega)) (esD rfl (esD rfl (esD rfl eZ))))
  ·exact mN
  ·first|omega|(dsimp only; omega)
  ·exact hGl0
  (try dsimp only)<;>(first|omega|rfl|assumption|(simp; done))
 have c2k:=c2
 try simp only [qcA,qcC,qcB] at c2
 refine .exit (.xcode (.xlp (.xblk (.code (.seq (rq1 rfl rfl (aS rfl rfl (.nil (.code (.ret (We.fin0 Tryz.results35 (.tmp rfl .nil) ?_)))))))))))
 exact ⟨rfl,rfl⟩
theorem bEnc_ok (h:Sh) (l:List Opn) (G:PM) (hs:SlR G 3 Opn.cells h l) (hl:l.length=1∨l.length=2) (hok:∀ o∈l,o.ok):Ct Tryz.prog 57 ([uv .u64 1#64,h.val l.length]:List Value).toArray G [] (fun G' μ' u=>∃ (s:Sh) (L:List Y),L.length≤20+60*l.length∧μ'=[]∧u=.tuple #[s.val L.length,.int .i64 0]∧SlR G' 1 encY s L):=by
 refine Ct.of Tryz.func57 rfl Tryz.ntmps57 rfl fun w0 hs0=>?_
 refine .seq (rq2 rfl rfl (aS rfl rfl (aS rfl rfl (.nil (.code (.seq (.seq (rq4 rfl rfl (mV rfl rfl (mV rfl rfl (kv rfl .no Fx.go35 (Evc rfl (Evc rfl Evn)) (fun _=>bRight_ok h l _ hs hl hok) ?_)))))))))))
 refine nt rfl .no (.u rfl) (.nil (.code (.cond rfl (fun c1=>?_) (fun c1=>?_))))
 ·have c1k:=c1
  cases c1
 have c1k:=c1
 try simp only [qcA,qcC,qcB] at c1
 refine .skip (.code (.seq (rq7 rfl rfl (mV rfl rfl (kc rfl Fx.go59 (Evc rfl (Evc rfl (Evc rfl Evn))) (Ct.frzB (Fix_ok [] ⟨none,0⟩ 1#64 8 _ SlR.nul (by simp) (by decide))) ?_)))))
 rintro _ G15 μ15 hG15 ⟨h15,L15,eL15,rfl,rfl,hs15⟩
 have hs:=hs.mono hG15
 refine mV rfl rfl (ln rfl .no Fx.sn22 (.u rfl) (ci rfl .no rfl Fx.cv3_41 (.u rfl) ?_))
 refine kc rfl Fx.go121 (Evc rfl (Evc rfl Evn)) (Ct.rowc (Num_ok L15 h15 _ hs15 _ (by rw [eL15,List.nil_append,fix_len]; decide))) ?_
 rintro v19 G19 μ19 hG19 ⟨L19,ov19,eL19,rfl⟩
 have hs:=hs.mono hG19
 refine aS rfl rfl (.nil (.code (.seq (.seq (rq3 rfl rfl (mV rfl rfl (ln rfl .no Fx.sn22 (.u rfl) (mV rfl rfl (.nil (.code (.block ?_)))))))))))
 refine Wk.lop (α:=Nat×Value×List Y) (fun gh=>[(6,true,gh.2.1),(22,true,.int .i64 (gh.1:Int))]) (fun gh=>[rB gh.2.1 5 gh.2.2])
  (fun gh Gl=>(gh.1≤l.length)∧(gh.2.2.length≤20+60*gh.1)) (fun gh=>l.length-gh.1) (0,v19,L19) [(20,true,_),(21,true,_)] []
  (esD rfl (esC rfl (by first|rfl|exact evi (by omega)) (esD rfl (esD rfl eZ))))
  (mS .here rfl mN) ?_ ?_
 ·refine ⟨?_,?_⟩
  ·(try dsimp only)<;>(first|omega|rfl|assumption|(simp; done))
  (try dsimp only)<;>(rw [eL19,eL15,List.nil_append,List.length_append,fix_len]; exact Nat.le_trans (Nat.add_le_add_left (num_len10 (BitVec.isLt _)) 8) (by omega))
 intro gh N0 Gl0 hN0 hGl0 hF0
 obtain ⟨k,v,L⟩:=gh; dsimp only at hF0 hN0 ⊢
 obtain ⟨hk,hL⟩:=hF0
 have hs:=hs.mono hGl0
 refine .seq (rq1 rfl rfl (cp rfl .no (.u rfl) (.u rfl) rfl (.nil (.code (.seq (.cond rfl (fun c2=>?_) (fun c2=>?_)))))))
 ·have c2k:=c2
  try simp only [qcA,qcC,qcB] at c2
  refine .skip (.code (.seq (.block (.seq (rq4 rfl rfl (ih rfl .no Fx.se22 (.u rfl) (.u rfl) (fun _=>by omega) (fun _=>by omega) (fun _=>hs.nn (k:=k) (by first|omega|(simp only [Bool.and_eq_true,decide_eq_true_eq] at hc; omega)|(simp only [List.length_cons,List.length_nil]; omega))) ?_))))))
  obtain ⟨o,eo⟩:=getx (k:=k) (xs:=l) (by omega)
  have ho:=hok o (List.mem_of_getElem? eo)
  refine lA rfl .no Fx.ag99 (.u rfl) (fun _=>(hs.at (by omega) eo).rd) (fun _=>Opn.len _) ?_
  refine al rfl Fx.zr99 ?_; intro b8
  refine sw rfl (.u rfl) (.u rfl) rfl Fx.sz99 .here rfl (Opn.one _) ?_
  refine .nil (.code (.seq (rq7 rfl rfl (fz rfl .no Fx.fo99_0 (.u rfl) (ld rfl .no Fx.ag5 (.u rfl) (fun _=>Rd.own .here (by first|exact wap_f rfl|rfl)) ?_)))))
  refine Go.Tan.b1 rfl Fx.se131 Fx.zv5 (.u rfl) rfl rfl (by decide) ?_; intro b28
  refine fz rfl .no Fx.fo99_1 (.u rfl) (ld rfl .no Fx.ag9 (.u rfl) (fun _=>Rd.own tk1 (by first|exact wap_f rfl|rfl)) ?_)
  refine ka rfl (.inr rfl) Fx.go122 (Evc rfl (Evc rfl Evn)) (mtk1 .here) (Ct.give fun hle=>Ct.frzB (Str_ok [o.kind] ⟨some ⟨b28,0,none⟩,1⟩ _ (SlR.ofBlk (xs:=[o.kind]) (PM.add_same _ _ _) (fun _ _=>rfl) (Nat.le_refl 1)) o.user (by have:=ho.user; show 1+_≤_; omega))) ?_
  rintro _ G31 μ31 hG31 ⟨h31,L31,eL31,rfl,rfl,hs31⟩
  have lL31:L31.length≤21:=by have:=strl_len o.user (by have:=ho.user; omega); have:=ho.user; rw [eL31,List.length_append]; show 1+_≤_; omega
  refine aS rfl rfl (.nil (.code (.seq (.seq (rq3 rfl rfl (fz rfl .no Fx.fo99_0 (.u rfl) (ld rfl .no Fx.ag5 (.u rfl) (fun _=>Rd.own .here (by first|exact wap_f rfl|rfl)) ?_)))))))
  refine cp rfl .no (.u rfl) (.u rfl) rfl (.nil (.code (.cond rfl (fun c3=>?_) (fun c3=>?_))))
  ·have c3k:=c3
   try simp only [qcA,qcC,qcB] at c3
   refine rq5 rfl rfl (mV rfl rfl (fz rfl .no Fx.fo99_2 (.u rfl) (ld rfl .no Fx.ag9 (.u rfl) (fun _=>Rd.own .here (by first|exact wap_f rfl|rfl)) ?_)))
   refine kc rfl Fx.go122 (Evc rfl (Evc rfl Evn)) (Ct.frzB (Str_ok L31 h31 _ hs31 o.value (by have:=ho.value; omega))) ?_
   rintro _ G38 μ38 hG38 ⟨h38,L38,eL38,rfl,rfl,hs38⟩
   have lL38:L38.length≤41:=by have:=strl_len o.value (by have:=ho.value; omega); have:=ho.value; rw [eL38,List.length_append]; omega
   refine aS rfl rfl (.nil (.code (rq4 rfl rfl (mV rfl rfl (mV rfl rfl (apY rfl Fx.se131 Fx.zv5 (.u rfl) (.u rfl) tk1 hs38.sc (by (try simp only [qlA,yl_len]); omega) ?_))))))
   intro v41 L41 ov41 eL41
   have lL41:L41.length=L.length+L38.length:=by rw [eL41,List.length_append]
   refine aS rfl rfl (.nil (.blk (.code (rq2 rfl rfl (arn (((k+1):Nat):Int) rfl .no (.u rfl) (.u rfl) rfl (fun _=>by omega) (fun _=>wrap_i64 (by omega) (by omega)) ?_)))))
   refine mV rfl rfl (.nil (We.lpo (k+1,v41,L41) ?_ ?_ ?_ ?_ ?_))
   ·exact (esD rfl (esC rfl (by first|rfl|exact evi (by omega)) (esD rfl (esD rfl eZ))))
   ·exact (mS .here rfl mN)
   ·first|omega|(dsimp only; omega)
   ·exact ((hGl0).trans hG31).trans hG38
   refine ⟨?_,?_⟩
   ·(try dsimp only)<;>(first|omega|rfl|assumption|(simp; done))
   (try dsimp only)<;>(rw [lL41]; omega)
  have c3k:=c3
  rw [ho.kind] at c3; exact absurd c3 (by decide)
 have c2k:=c2
 try simp only [qcA,qcC,qcB] at c2
 refine .exit (.xcode (.xlp (.xblk (.code (.seq (rq3 rfl rfl (mV rfl rfl (aS rfl rfl (aS rfl rfl (.nil (.code (.ret ?_))))))))))))
 refine we_fb .here (by first|(intro b hb; cases hb; done) | simp [keys,Res.keys]) ?_; intro GfR19 hR19 hleR19 evR19 hsR19; subst evR19
 refine We.fin0 Tryz.results57 (.tmp rfl (.tmp rfl .nil)) ?_
 obtain rfl:k=l.length:=by omega
 exact ⟨hR19,L,hL,rfl,rfl,hsR19⟩
theorem bEnts_ok (h:Sh) (l:List Opn) (G:PM) (hs:SlR G 3 Opn.cells h l) (hl:l.length=1∨l.length=2) (hok:∀ o∈l,o.ok):Ct Tryz.prog 68 ([uv .u64 1#64,h.val l.length]:List Value).toArray G [] (fun G' μ' u=>∃ (s:Sh),μ'=[]∧u=s.val (entsF 0 l).length∧SlR G' 4 Ent.cells s (entsF 0 l)):=by
 refine Ct.of Tryz.func68 rfl Tryz.ntmps68 rfl fun w0 hs0=>?_
 refine .seq (rq1 rfl rfl (aS rfl rfl (.nil (.code (.seq (rq1 rfl rfl (aS rfl rfl (.nil (.code (.seq (.seq (wk_nilS 4 Ent.cells 115 (rq3 rfl rfl (mV rfl rfl (ln rfl .no Fx.sn22 (.u rfl) (mV rfl rfl (.nil (.code (.block ?_)))))))))))))))))))
 refine Wk.lop (α:=Nat×Value) (fun gh=>[(0,true,uv .u64 (BitVec.ofNat 64 (gh.1+1))),(5,true,gh.2),(10,true,.int .i64 (gh.1:Int))]) (fun gh=>[rS 4 Ent.cells gh.2 115 (entsF 0 (l.take gh.1))])
  (fun gh Gl=>(gh.1≤l.length)) (fun gh=>l.length-gh.1) (0,.slice none 0 0) [(8,true,_),(9,true,_)] []
  (esD rfl (esD rfl (esC rfl (by first|rfl|exact evi (by omega)) (esD rfl (esD rfl eZ)))))
  (mS .here rfl mN) ?_ ?_
 ·(try dsimp only)<;>(first|omega|rfl|assumption|(simp; done))
 intro gh N0 Gl0 hN0 hGl0 hF0
 obtain ⟨k,v⟩:=gh; dsimp only at hF0 hN0 ⊢
 have hk:=hF0
 have hs:=hs.mono hGl0
 refine .seq (rq1 rfl rfl (cp rfl .no (.u rfl) (.u rfl) rfl (.nil (.code (.seq (.cond rfl (fun c1=>?_) (fun c1=>?_)))))))
 ·have c1k:=c1
  try simp only [qcA,qcC,qcB] at c1
  refine .skip (.code (.seq (.block (.seq (rq4 rfl rfl (ih rfl .no Fx.se22 (.u rfl) (.u rfl) (fun _=>by omega) (fun _=>by omega) (fun _=>hs.nn (k:=k) (by first|omega|(simp only [Bool.and_eq_true,decide_eq_true_eq] at hc; omega)|(simp only [List.length_cons,List.length_nil]; omega))) ?_))))))
  obtain ⟨o,eo⟩:=getx (k:=k) (xs:=l) (by omega)
  have ho:=hok o (List.mem_of_getElem? eo)
  refine lA rfl .no Fx.ag99 (.u rfl) (fun _=>(hs.at (by omega) eo).rd) (fun _=>Opn.len _) ?_
  refine al rfl Fx.zr99 ?_; intro b7
  refine sw rfl (.u rfl) (.u rfl) rfl Fx.sz99 .here rfl (Opn.one _) ?_
  refine .nil (.code (.seq (rq7 rfl rfl (mV rfl rfl (mV rfl rfl (lA rfl .no Fx.ag99 (.u rfl) (fun _=>RdN.own .here) (fun _=>(by first|exact Opn.len _|exact Ent.len _|rfl)) ?_))))))
  refine kv rfl .no Fx.go85 (Evc rfl (Evc rfl Evn)) (fun _=>entry_ok (BitVec.ofNat 64 (k+1)) o _) ?_
  refine Go.Tan.b1 rfl Fx.se135 FxGrC.zw115 (.u rfl) rfl rfl (by decide) ?_; intro b18
  refine apS (xs:=(entsF 0 (l.take k))) ((entE (BitVec.ofNat 64 (k+1)) o)) rfl Fx.se135 FxGrC.zw115 rfl (.u rfl) (.u rfl) tk2 .here (Ent.len _) (Ent.one _) (by rw [entsF_len,List.length_take]; omega) (by rw [entsF_len,List.length_take]; unfold maxLen; omega) ?_; intro v19 ov19
  refine aS rfl rfl (.nil (.code (rq3 rfl rfl (mV rfl rfl (bw (k:=.u64) (b:=1#64) rfl .no rfl (.u rfl) (.u rfl) rfl (aS rfl rfl (.nil (.blk (.code (rq2 rfl rfl (arn (((k+1):Nat):Int) rfl .no (.u rfl) (.u rfl) rfl (fun _=>by omega) (fun _=>wrap_i64 (by omega) (by omega)) ?_)))))))))))
  refine mV rfl rfl (.nil (We.lpo (k+1,v19) ?_ ?_ ?_ ?_ ?_))
  ·exact (esC rfl (congrArg (uv .u64) bv_succ) (esD rfl (esC rfl (by first|rfl|exact evi (by omega)) (esD rfl (esD rfl eZ)))))
  ·exact (mS .here (by rw [← entsF_snoc eo,Nat.zero_add]) mN)
  ·first|omega|(dsimp only; omega)
  ·exact hGl0
  (try dsimp only)<;>(first|omega|rfl|assumption|(simp; done))
 have c1k:=c1
 try simp only [qcA,qcC,qcB] at c1
 refine .exit (.xcode (.xlp (.xblk (.code (.seq (rq2 rfl rfl (mV rfl rfl (aS rfl rfl (.nil (.code (.ret ?_)))))))))))
 refine we_fs .here (fun _ _=>rfl) (by intro b hb; cases hb) ?_; intro GfRE hRE hleRE evRE hsRE; subst evRE
 refine We.fin0 Tryz.results68 (.tmp rfl .nil) ?_
 obtain rfl:k=l.length:=by omega
 rw [List.take_length] at hsRE ⊢
 exact ⟨hRE,rfl,rfl,hsRE⟩
theorem height_ok (k:Nat) (G:PM) (hk:k<2):Ct Tryz.prog 70 ([uv .u64 (BitVec.ofNat 64 (k+1))]:List Value).toArray G [] (fun _ μ' u=>μ'=[]∧u=.int .i64 ((k+1:Nat):Int)):=by
 refine Ct.of Tryz.func70 rfl Tryz.ntmps70 rfl fun w0 hs0=>?_
 refine .seq (rq1 rfl rfl (aS rfl rfl (.nil (.code (.seq (rq1 rfl rfl (aS rfl rfl (.nil (.code (.seq (.block ?_)))))))))))
 refine Wk.lop (α:=Nat) (fun j=>[(0,true,uv .u64 (BitVec.ofNat 64 (k+1) >>> j)),(3,true,.int .i64 ((j+1:Nat):Int))]) (fun _=>[])
  (fun j Gl=>(j≤k)) (fun j=>k-j) 0 [] []
  (esD rfl (esC rfl (by first|rfl|exact evi (by omega)) eZ))
  mN ?_ ?_
 ·(try dsimp only)<;>(first|omega|rfl|assumption|(simp; done))
 intro j N0 Gl0 hN0 hGl0 hF0
 try dsimp only at hF0 hN0 ⊢
 have hj:=hF0
 refine .seq (.seq (rq7 rfl rfl (mV rfl rfl (cp rfl .no (.u rfl) (.u rfl) rfl (mV rfl rfl (mv rfl (.t rfl rfl) (.u rfl) (bw (k:=.u64) (b:=1#64) rfl (.t rfl rfl) rfl (.s rfl) (.u rfl) rfl (cp rfl (.t rfl rfl) (.s rfl) (.u rfl) rfl (pkA rfl .no (.u rfl) (.s rfl) (.nil (.code (.cond rfl (fun c1=>?_) (fun c1=>?_)))))))))))))
 ·have c1k:=c1
  skip
  refine .skip (.code (.seq (.block (rq3 rfl rfl (mV rfl rfl (arn ((((j+1)+1):Nat):Int) rfl .no (.u rfl) (.u rfl) rfl (fun _=>by omega) (fun _=>wrap_i64 (by omega) (by omega)) ?_))))))
  refine aS rfl rfl (.nil (.blk (.code (rq3 rfl rfl (mV rfl rfl (rw' (k:=.u64) rfl .no (.u rfl) (.u rfl) (fun _=>by decide) ?_))))))
  refine aS rfl rfl (.nil (We.lpo (j+1) ?_ ?_ ?_ ?_ ?_))
  ·exact (esC rfl (congrArg (uv .u64) (BitVec.shiftRight_add _ j 1).symm) (esC rfl (by first|rfl|exact evi (by omega)) eZ))
  ·exact mN
  ·have hjk:j<k:=hgt_t hk hj c1k; omega
  ·exact hGl0
  (try dsimp only)<;>(exact hgt_t hk hj c1k)
 have c1k:=c1
 skip
 refine .exit (.xcode (.xlp (.xblk (.code (.seq (rq2 rfl rfl (mV rfl rfl (aS rfl rfl (.nil (.code (.ret (We.fin0 Tryz.results70 (.tmp rfl .nil) ?_))))))))))))
 obtain rfl:j=k:=hgt_f hk hj c1k
 exact ⟨rfl,rfl⟩
end Go.Proofs.YtggleibgadkodaaGreatDoor
namespace Go.Proofs.YtggleibgadkodaaGreatDoor
open Go.Tan Go.RowKit Go.Maps Go.Sort Go.Shelf
namespace Fx
theorem fo124_13:fOff Tryz.prog 124 13=some 81:=by kernel_rfl
theorem fo124_3:fOff Tryz.prog 124 3=some 34:=by kernel_rfl
theorem go73:goFn Tryz.prog 73=true:=by kernel_rfl
theorem go40:goFn Tryz.prog 40=true:=by kernel_rfl
theorem go57:goFn Tryz.prog 57=true:=by kernel_rfl
theorem go58:goFn Tryz.prog 58=true:=by kernel_rfl
theorem fo121_2:fOff Tryz.prog 121 2=some 6:=by kernel_rfl
theorem go68:goFn Tryz.prog 68=true:=by kernel_rfl
theorem go70:goFn Tryz.prog 70=true:=by kernel_rfl
theorem go69:goFn Tryz.prog 69=true:=by kernel_rfl
end Fx
theorem turn0_ok (bx:Nat) (d:Db) (v:Value) (sz:Nat) (G:PM) (hbx:PB G bx (cl d.cells 124)) (hbn:PB G d.now (cl [v,.int .i64 ((sz:Nat):Int)] 202)) (hm:(sz:Int)<d.o.mem):Ct Tryz.prog 58 ([pt bx]:List Value).toArray G [] (fun _ μ' u=>μ'=[]∧u=.tuple #[]):=by
 refine Ct.of Tryz.func58 rfl Tryz.ntmps58 rfl fun w0 hs0=>?_
 refine .seq (.seq (Wk.draw (mc:=⟨false,false⟩) [0,1,2,3,5,6,7,8,9,4,10] Fx.mix (by kernel_rfl) ?_))
 refine mV rfl rfl (nc rfl .no (.u rfl) (fa rfl .no Fx.fo124_13 (.u rfl) (ld rfl .no Fx.ag122 (.u rfl) (fun _=>(hbx.rd (rfl)).rd) ?_)))
 refine mV rfl rfl (nc rfl .no (.u rfl) (fa rfl .no Fx.fo124_3 (.u rfl) (fa rfl .no Fx.fo40_0 (.u rfl) (ld rfl .no Fx.ag3 (.u rfl) (fun _=>(hbx.rd (rfl)).rd) ?_))))
 refine kv rfl .no Fx.go73 (Evc rfl Evn) (fun _=>lSize_ok d.now v sz _ hbn) ?_
 refine cp rfl .no (.u rfl) (.u rfl) rfl (.nil (.code (.cond rfl (fun c1=>?_) (fun c1=>?_))))
 ·have c1k:=c1
  try simp only [qcA,qcB] at c1
  refine .ret (We.fin0 Tryz.results58 .nil ?_)
  exact ⟨rfl,rfl⟩
 have c1k:=c1
 exact absurd hm (of_decide_eq_false c1)
set_option maxHeartbeats 4000000 in
theorem dWrite_ok (bx bm room bd bt held bn:Nat) (root:Nat→Y) (o:Opts) (v0:Value) (F:List Fi) (h:Sh) (l:List Opn) (G:PM) (hD:DkR F 3) (hnm:F.map Fi.nm=[nmB 3 0,nmB 4 0]) (hz:szF F≤2000) (hr:5000≤room) (hr9:room≤1000000000) (hmem:0<o.mem) (hs:SlR G 3 Opn.cells h l) (hl:l.length=1∨l.length=2) (hok:∀ o∈l,o.ok) (hord:l.length=2→lt (l.getD 0 Opn.zero).user (l.getD 1 Opn.zero).user=true) (hK:RdNP G 0 0 (wa 64 kW)):Ct Tryz.prog 16 ([pt bx,h.val l.length,.bool false]:List Value).toArray G [.blk bx (cl (Db.cells (Db.d3 bd bt root o 1#64 held bn)) 124),.blk bd (cl (dkC bm room 5) 178),.blk bm (mO (F.map Fi.fe) 3),.blk bn (cl [v0,.int .i64 ((0:Nat):Int)] 202),rS 16 Nd.cells v0 199 [Nd.z]] (fun _ μ' u=>∃ (bb m cap sz:Nat) (F':List Fi),m=(lstW (entsF 0 l) l.length).length∧DkR F' 4∧F'.map Fi.nm=[nmB 3 0,nmB 4 0,nmB 1 1]∧szF F'≤4000∧μ'=[.blk bx (cl (Db.cells { Db.d3 bd bt root o 1#64 held bn with lg:=⟨⟨1#8,0#8,0#64,1#64,1#64⟩,1#64,false⟩,seq:=(0#64+BitVec.ofInt 64 ((l.length:Nat):Int)) }) 124),.blk bd (cl (dkC bm room 6) 178),.blk bm (mO (F'.map Fi.fe) 4),.blk bn (cl [.slice (some ⟨bb,0,none⟩) m cap,.int .i64 ((sz:Nat):Int)] 202),rS 16 Nd.cells (.slice (some ⟨bb,0,none⟩) m cap) 199 (lstW (entsF 0 l) l.length)]∧u=.int .i64 0):=by
 refine Ct.of Tryz.func16 rfl Tryz.ntmps16 rfl fun w0 hs0=>?_
 refine .seq (rq1 rfl rfl ?_)
 refine al rfl FxGrBb.zr29 ?_; intro b6
 refine .nil (.code (.seq (.seq (rq3 rfl rfl (mV rfl rfl (kp rfl .no Fx.go40 (Evc rfl Evn) (Gp.add tk1 Gp.nil) (fun _ hle hq=>usable_ok bx (Db.d3 bd bt root o 1#64 held bn) _ ⟨PM.add_same _ _ _⟩) (aS rfl rfl (.nil (.code (.seq (rq2 rfl rfl (mV rfl rfl (cp rfl .no (.u rfl) (.u rfl) rfl (.nil (.code (.cond rfl (fun c1=>?_) (fun c1=>?_)))))))))))))))))
 ·have c1k:=c1
  exact absurd c1 (by decide)
 have c1k:=c1
 try simp only [qcA,qcC,qcB] at c1
 refine .skip (.code (.seq (Wk.defers [0] 1 (DQ.d ⟨41,[.pointer (some ⟨bx,0,none⟩),.pointer (some ⟨b6,0,none⟩)],[]⟩) (fun _ _ _ _=>False) (fun _ _ _ _ _ _ hq=>hq.elim) rfl rfl ?_)))
 refine mV rfl rfl (.nil ⟨DefOp.fn rfl (Evc rfl (Evc rfl Evn)),?_⟩)
 refine .code (.seq (Wk.rg [0,1,2,3,4,5,6,7,8,9,10,11] rfl rfl (mV rfl rfl (nc rfl .no (.u rfl) (fz rfl .no Fx.fo124_7 (.u rfl) (ld rfl .no Fx.ag41 (.u rfl) (fun _=>Rd.own tk1 rfl) ?_))))))
 refine bw (k:=.u64) (b:=1#64) rfl .no rfl (.u rfl) (.u rfl) rfl (mV rfl rfl (kc rfl Fx.go57 (Evc rfl (Evc rfl Evn)) (bEnc_ok h l _ hs hl hok) ?_))
 rintro _ G31 μ31 hG31 ⟨s31,L31,lL31,rfl,rfl,hs31⟩
 have hK:=hK.mono hG31
 have hs:=hs.mono hG31
 refine mV rfl rfl (ex rfl .no (.u rfl) rfl (ex rfl .no (.u rfl) rfl (aS rfl rfl (aS rfl rfl (.nil (.code (.seq (.seq (rq2 rfl rfl (mV rfl rfl (cp rfl .no (.u rfl) (.u rfl) rfl (.nil (.code (.cond rfl (fun c2=>?_) (fun c2=>?_)))))))))))))))
 ·have c2k:=c2
  exact absurd c2 (by decide)
 have c2k:=c2
 try simp only [qcA,qcC,qcB] at c2
 refine .skip (.code (.seq (.seq (rq3 rfl rfl (mV rfl rfl (ln rfl .no Fx.sn131 (.u rfl) (cp rfl .no (.u rfl) (.u rfl) rfl (.nil (.code (.cond rfl (fun c3=>?_) (fun c3=>?_)))))))))))
 ·have c3k:=c3
  have:=of_decide_eq_true c3; omega
 have c3k:=c3
 try simp only [qcA,qcC,qcB] at c3
 refine .skip (.code (.seq (rq2 rfl rfl (mV rfl rfl (kp rfl .no Fx.go58 (Evc rfl Evn) (Gp.add tk4 (Gp.add tk1 Gp.nil)) (fun _ hle hq=>turn0_ok bx (Db.d3 bd bt root o 1#64 held bn) v0 0 _ ⟨hq.1 _ _ (PM.add_same _ _ _)⟩ ⟨PM.add_same _ _ _⟩ hmem) (.nil (.code (.seq (rq5 rfl rfl ?_)))))))))
 refine Go.Tan.b1 rfl Fx.se131 Fx.zv5 (.u rfl) rfl rfl (by decide) ?_; intro b42
 refine mV rfl rfl ?_
 refine apB [0#8] rfl Fx.se131 Fx.zv5 (.u rfl) rfl rfl (.u rfl) .here hs31.sc (by show 1+L31.length≤_; omega) ?_; intro v44 L44 ov44 eL44
 have lL44:L44.length=1+L31.length:=by rw [eL44]; simp; omega
 refine Go.Tan.b1 (cs:=[v44]) rfl Fx.se150 Fx.zv131 (.u rfl) (cells_one ov44) rfl (by decide) ?_; intro b45
 refine aS rfl rfl (.nil (.code (.seq (.seq ?_))))
 refine wk_fb tk1 (keys_k tk2 rfl (keys_k tk2 rfl (keys_k tk2 rfl (keys_k tk2 rfl (keys_k tk2 rfl (keys_0)))))) ?_; intro GfR44 hR44 hleR44 evR44 hsR44; subst evR44
 have hK:=hK.mono hleR44
 have hs:=hs.mono hleR44
 refine wk_fz .here (keys_k tk1 rfl (keys_k tk1 rfl (keys_k tk1 rfl (keys_k tk1 rfl (keys_k tk1 rfl (keys_0)))))) ?_; intro Gfb45 hleb45 hbb45
 have hK:=hK.mono hleb45
 have hs:=hs.mono hleb45
 have hsR44:=hsR44.mono hleb45
 refine rq1 rfl rfl (mV rfl rfl (.nil (.code (.cond rfl (fun c4=>?_) (fun c4=>?_)))))
 ·have c4k:=c4
  cases c4
 have c4k:=c4
 try simp only [qcA,qcC,qcB] at c4
 refine .skip (.code (.seq (rq1 rfl rfl (aS rfl rfl (.nil (.code (.seq (.seq (rq6 rfl rfl (mV rfl rfl (nc rfl .no (.u rfl) (fz rfl .no Fx.fo124_10 (.u rfl) (fa rfl .no Fx.fo121_1 (.u rfl) (ld rfl .no Fx.ag41 (.u rfl) (fun _=>Rd.own tk1 rfl) ?_))))))))))))))
 refine cp rfl .no (.u rfl) (.u rfl) rfl (.nil (.code (.cond rfl (fun c5=>?_) (fun c5=>?_))))
 ·have c5k:=c5
  try simp only [qcA,qcC,qcB] at c5
  refine rq7 rfl rfl (mV rfl rfl (nc rfl .no (.u rfl) (fz rfl .no Fx.fo124_10 (.u rfl) (fa rfl .no Fx.fo121_0 (.u rfl) (lA rfl .no Fx.ag119 (.u rfl) (fun _=>RdN.part (n:=5) (cs':=[V 1#8,V 0#8,uv .u64 0#64,uv .u64 1#64,uv .u64 1#64]) tk1 (rfl)) (fun _=>rfl) ?_)))))
  refine kc rfl Fx.go61 (Evc rfl Evn) (Ct.rowc (nLay_ok ⟨1#8,0#8,0#64,1#64,1#64⟩ _)) ?_
  rintro v69 G69 μ69 hG69 ⟨L69,ov69,eL69,rfl⟩
  have hK:=hK.mono hG69
  have hs:=hs.mono hG69
  have hsR44:=hsR44.mono hG69
  have hbb45:=hbb45.mono hG69
  refine aS rfl rfl (.nil (.code (.seq (.seq (rq3 rfl rfl (mV rfl rfl (ln rfl .no Fx.sn150 (.u rfl) (mV rfl rfl (.nil (.code (.block ?_)))))))))))
  refine Wk.lop (α:=Nat×Value×List Y) (fun gh=>[(11,true,gh.2.1),(72,true,.int .i64 (gh.1:Int))]) (fun gh=>[rB gh.2.1 5 gh.2.2])
   (fun gh Gl=>(gh.1≤1)∧(gh.2.2.length≤30+600*gh.1)) (fun gh=>1-gh.1) (0,v69,L69) [(0,true,_),(1,true,_),(2,true,_),(6,true,_),(10,true,_),(70,true,_),(71,true,_)] [_,_,_,_,_,_]
   (esD rfl (esC rfl (by first|rfl|exact evi (by omega)) (esD rfl (esD rfl (esD rfl (esD rfl (esD rfl (esD rfl (esD rfl eZ)))))))))
   (mS .here rfl (mS .here rfl (mS .here rfl (mS .here rfl (mS .here rfl (mS .here rfl (mS .here rfl mN))))))) ?_ ?_
  ·refine ⟨?_,?_⟩
   ·(try dsimp only)<;>(first|omega|rfl|assumption|(simp; done))
   (try dsimp only)<;>(rw [eL69,head_len]; omega)
  intro gh N0 Gl0 hN0 hGl0 hF0
  obtain ⟨k,v,LO⟩:=gh; dsimp only at hF0 hN0 ⊢
  obtain ⟨hk,hLO⟩:=hF0
  have hK:=hK.mono hGl0
  have hs:=hs.mono hGl0
  have hsR44:=hsR44.mono hGl0
  have hbb45:=hbb45.mono hGl0
  refine .seq (rq1 rfl rfl (cp rfl .no (.u rfl) (.u rfl) rfl (.nil (.code (.seq (.cond rfl (fun c6=>?_) (fun c6=>?_)))))))
  ·have c6k:=c6
   try simp only [qcA,qcC,qcB] at c6
   refine .skip (.code (.seq (.block (.seq (rq5 rfl rfl (mV rfl rfl ?_))))))
   have hk0:k=0:=by omega
   refine ia rfl .no Fx.se150 (.u rfl) (.u rfl) (fun _=>by omega) (fun _=>by omega) ?_
   refine ld rfl .no Fx.ag131 (.u rfl) (fun _=>(hbb45.rd (by rw [hk0]; rfl)).rd) ?_
   refine aS rfl rfl (aS rfl rfl (.nil (.code (.seq (Wk.draw (mc:=⟨true,false⟩) [0,1,2,3,4,5,6,7,8,9,10,11,12,13,14,15,16,17,18,19,20,21,22,23] Fx.mix (by kernel_rfl) ?_)))))
   refine mV rfl rfl (nc rfl .no (.u rfl) (fz rfl .no Fx.fo124_2 (.u rfl) (lA rfl .no Fx.ag71 (.u rfl) (fun _=>RdN.part (n:=32) (cs':=ba 32 root) tk2 (rfl)) (fun _=>(ba_len _ _)) ?_)))
   refine mV rfl rfl (nc rfl .no (.u rfl) (fz rfl .no Fx.fo124_10 (.u rfl) (fa rfl .no Fx.fo121_0 (.u rfl) (lA rfl .no Fx.ag119 (.u rfl) (fun _=>RdN.part (n:=5) (cs':=[V 1#8,V 0#8,uv .u64 0#64,uv .u64 1#64,uv .u64 1#64]) tk2 (rfl)) (fun _=>rfl) ?_))))
   refine mV rfl rfl (nc rfl .no (.u rfl) (fz rfl .no Fx.fo124_10 (.u rfl) (fa rfl .no Fx.fo121_1 (.u rfl) (ld rfl .no Fx.ag41 (.u rfl) (fun _=>Rd.own tk2 rfl) ?_))))
   refine mV rfl rfl (ci rfl .no rfl Fx.cv3_41 (.u rfl) ?_)
   refine bw (k:=.u64) rfl .no rfl (.u rfl) (.u rfl) rfl (mV rfl rfl (kc rfl Fx.go62 (Evc rfl (Evc rfl (Evc rfl (Evc rfl Evn)))) (wLay_ok root ⟨1#8,0#8,0#64,1#64,1#64⟩ _ L44 hR44 _ hsR44 hK) ?_))
   rintro _ G96 μ96 hG96 ⟨vW,LW,eW,hLW,rfl,rfl⟩
   obtain ⟨rfl,lLW⟩:=lay_fit (by omega) hLW
   have hs:=hs.mono hG96
   refine mV rfl rfl (ex rfl .no (.u rfl) rfl (ex rfl .no (.u rfl) rfl (aS rfl rfl (aS rfl rfl (.nil (.code (.seq (rq2 rfl rfl (mV rfl rfl (kv rfl .no Fx.go63 (Evc rfl Evn) (fun _=>must_ok _) ?_))))))))))
   refine .nil (.code ?_)
   refine wk_rs .here ?_; intro sRW bbRW evRW lcRW oaRW; subst evRW
   refine rq4 rfl rfl (mV rfl rfl (mV rfl rfl (apY rfl Fx.se131 Fx.zv5 (.u rfl) (.u rfl) tk1 (Sc.rowS .here oaRW) (by (try simp only [qlA,yl_len]); omega) ?_)))
   intro v103 L103 ov103 eL103
   have lL103:L103.length=LO.length+LW.length:=by rw [eL103,List.length_append]
   refine aS rfl rfl (.nil (.blk (.code (rq2 rfl rfl (arn (((k+1):Nat):Int) rfl .no (.u rfl) (.u rfl) rfl (fun _=>by omega) (fun _=>wrap_i64 (by omega) (by omega)) ?_)))))
   refine mV rfl rfl (.nil (We.lpo (k+1,v103,L103) ?_ ?_ ?_ ?_ ?_))
   ·exact (esD rfl (esC rfl (by first|rfl|exact evi (by omega)) (esD rfl (esD rfl (esD rfl (esD rfl (esD rfl (esD rfl (esD rfl eZ)))))))))
   ·exact (mS .here rfl (mS tk1 rfl (mS tk1 rfl (mS tk1 rfl (mS tk1 rfl (mS tk1 rfl (mS tk1 rfl mN)))))))
   ·first|omega|(dsimp only; omega)
   ·exact (hGl0).trans hG96
   refine ⟨?_,?_⟩
   ·(try dsimp only)<;>(first|omega|rfl|assumption|(simp; done))
   (try dsimp only)<;>(rw [lL103]; omega)
  have c6k:=c6
  try simp only [qcA,qcC,qcB] at c6
  refine .exit (.xcode (.xlp (.xblk (.code (.seq ?_)))))
  refine Wk.jn (α:=List Fi) (fun F3=>[]) (fun F3=>[.blk bd (cl (dkC bm room 6) 178),.blk bm (mO (F3.map Fi.fe) 4)]) (fun F3 Gl=>(DkR F3 4)∧(F3.map Fi.nm=[nmB 3 0,nmB 4 0,nmB 1 1])∧(szF F3≤4000)) [(0,true,_),(1,true,_),(2,true,_),(6,true,_),(10,true,_)] [_,_,_,_]
   (esD rfl (esD rfl (esD rfl (esD rfl (esD rfl eZ))))) (mS tk1 rfl (mS tk1 rfl (mS tk3 rfl (mS tk3 rfl mN)))) ?_ ?_
  ·refine Wk.mixp ⟨true,false⟩ Fx.mix (by kernel_rfl) ?_
   refine Wp.one 0 (by kernel_rfl) ?_
   refine mV rfl rfl (.nil (Wp.one 1 (by kernel_rfl) ?_))
   refine nc rfl .no (.u rfl) (.nil (Wp.one 2 (by kernel_rfl) ?_))
   refine fz rfl .no Fx.fo124_0 (.u rfl) (.nil (Wp.one 4 (by kernel_rfl) ?_))
   refine mV rfl rfl (.nil (Wp.one 5 (by kernel_rfl) ?_))
   refine nc rfl .no (.u rfl) (.nil (Wp.one 6 (by kernel_rfl) ?_))
   refine fz rfl .no Fx.fo124_10 (.u rfl) (.nil (Wp.one 8 (by kernel_rfl) ?_))
   refine mV rfl rfl (.nil (Wp.b2 3 7 (by kernel_rfl) ?_ ?_))
   ·refine ld rfl .no Fx.ag72 (.u rfl) (fun _=>Rd.own tk2 rfl) ?_
    refine .nil (Wp.b1 7 (by kernel_rfl) ?_)
    refine kp rfl .no Fx.go65 (Evc rfl Evn) (Gp.add tk2 Gp.nil) (fun _ hle hq=>called_ok bx 60 (flL 1#64 0#64) _ (PB.rdn (m:=7) ⟨PM.add_same _ _ _⟩ rfl) (by show (1#64:BitVec 64).toNat<10; decide)) ?_
    refine .nil (Wp.b1 9 (by kernel_rfl) ?_)
    refine ka rfl (.inl rfl) Fx.go64 (Evc rfl (Evc rfl (Evc rfl Evn))) (mtk3 .here tk2 tk2) (Ct.giveR fun s9 G2 hle hv hs9=>by subst hv; exact dAppend_ok bd bm room 5 3 F G2 hD (by decide) hr9 (nmB 1 1) s9 LO hs9 nm_good1 (fget_nil (by rw [hnm]; exact nm_ne1)) (by omega) (by omega)) ?_
    rintro _ G114 μ114 hG114 ⟨f,hfn,hfl,hfs,hfb,rfl,rfl⟩
    have hF2:F.length=2:=by have:=congrArg List.length hnm; simpa using this
    have hD4:DkR (F++[f]) 4:=hD.app hfb (by omega) (by rw [hfn]; exact fget_nil (by rw [hnm]; exact nm_ne1)) (by rw [hfn]; exact nm_good1.2) (by omega)
    have hn4:(F++[f]).map Fi.nm=[nmB 3 0,nmB 4 0,nmB 1 1]:=by rw [List.map_append,hnm,List.map_cons,List.map_nil,hfn]; rfl
    have hz4:szF (F++[f])≤4000:=by rw [szF_app]; simp only [szF]; omega
    have hs:=hs.mono hG114
    refine .nil (Wp.b1 10 (by kernel_rfl) ?_)
    refine kv rfl .no Fx.go63 (Evc rfl Evn) (fun _=>must_ok _) ?_
    refine .nil (Wp.last (by kernel_rfl) ?_)
    refine We.lpo (F++[f]) ?_ ?_ ?_ ?_ ?_
    ·exact (esD rfl (esD rfl (esD rfl (esD rfl (esD rfl eZ)))))
    ·exact (mS .here rfl (mS .here rfl (mS .here rfl (mS .here rfl (mS .here rfl (mS .here rfl mN))))))
    ·exact zro_lt _
    ·exact hG114
    refine ⟨?_,?_,?_⟩
    ·(try dsimp only)<;>(exact hD4)
    ·(try dsimp only)<;>(exact hn4)
    (try dsimp only)<;>(exact hz4)
   refine kp rfl .no Fx.go65 (Evc rfl Evn) (Gp.add tk2 Gp.nil) (fun _ hle hq=>called_ok bx 60 (flL 1#64 0#64) _ (PB.rdn (m:=7) ⟨PM.add_same _ _ _⟩ rfl) (by show (1#64:BitVec 64).toNat<10; decide)) ?_
   refine .nil (Wp.one 3 (by kernel_rfl) ?_)
   refine ld rfl .no Fx.ag72 (.u rfl) (fun _=>Rd.own tk2 rfl) ?_
   refine .nil (Wp.b1 9 (by kernel_rfl) ?_)
   refine ka rfl (.inl rfl) Fx.go64 (Evc rfl (Evc rfl (Evc rfl Evn))) (mtk3 .here tk2 tk2) (Ct.giveR fun s9 G2 hle hv hs9=>by subst hv; exact dAppend_ok bd bm room 5 3 F G2 hD (by decide) hr9 (nmB 1 1) s9 LO hs9 nm_good1 (fget_nil (by rw [hnm]; exact nm_ne1)) (by omega) (by omega)) ?_
   rintro _ G114 μ114 hG114 ⟨f,hfn,hfl,hfs,hfb,rfl,rfl⟩
   have hF2:F.length=2:=by have:=congrArg List.length hnm; simpa using this
   have hD4:DkR (F++[f]) 4:=hD.app hfb (by omega) (by rw [hfn]; exact fget_nil (by rw [hnm]; exact nm_ne1)) (by rw [hfn]; exact nm_good1.2) (by omega)
   have hn4:(F++[f]).map Fi.nm=[nmB 3 0,nmB 4 0,nmB 1 1]:=by rw [List.map_append,hnm,List.map_cons,List.map_nil,hfn]; rfl
   have hz4:szF (F++[f])≤4000:=by rw [szF_app]; simp only [szF]; omega
   have hs:=hs.mono hG114
   refine .nil (Wp.b1 10 (by kernel_rfl) ?_)
   refine kv rfl .no Fx.go63 (Evc rfl Evn) (fun _=>must_ok _) ?_
   refine .nil (Wp.last (by kernel_rfl) ?_)
   refine We.lpo (F++[f]) ?_ ?_ ?_ ?_ ?_
   ·exact (esD rfl (esD rfl (esD rfl (esD rfl (esD rfl eZ)))))
   ·exact (mS .here rfl (mS .here rfl (mS .here rfl (mS .here rfl (mS .here rfl (mS .here rfl mN))))))
   ·exact zro_lt _
   ·exact hG114
   refine ⟨?_,?_,?_⟩
   ·(try dsimp only)<;>(exact hD4)
   ·(try dsimp only)<;>(exact hn4)
   (try dsimp only)<;>(exact hz4)
  intro F3 Glj24 hGlj24 hFj24
  obtain ⟨hD3,hn3,hz3⟩:=hFj24
  have hs:=hs.mono hGlj24
  refine .code (.seq (Wk.rg [0,1,2,3,4,5,6,7,8,9,10,11,12] rfl rfl (mV rfl rfl (nc rfl .no (.u rfl) (fz rfl .no Fx.fo124_10 (.u rfl) (fa rfl .no Fx.fo121_1 (.u rfl) (ld rfl .no Fx.ag41 (.u rfl) (fun _=>Rd.own tk3 rfl) ?_)))))))
  refine mV rfl rfl (ln rfl .no Fx.sn150 (.u rfl) (ci rfl .no rfl Fx.cv3_41 (.u rfl) ?_))
  refine bw (k:=.u64) rfl .no rfl (.u rfl) (.u rfl) rfl (nc rfl .no (.u rfl) (fz rfl .no Fx.fo124_10 (.u rfl) (fa rfl .no Fx.fo121_1 (.u rfl) (s1 rfl (.u rfl) (.u rfl) rfl Fx.sz41 tk3 (by first|decide | (show _<85; decide)) (Db.p_ln _ 1#64) (.nil (.code (.seq (rq5 rfl rfl (mV rfl rfl (nc rfl .no (.u rfl) (fz rfl .no Fx.fo124_10 (.u rfl) (fa rfl .no Fx.fo121_2 (.u rfl) (s1 rfl (.u rfl) (.u rfl) rfl Fx.sz4 .here (by first|decide | (show _<85; decide)) (Db.p_ls _ false) (.nil (.code (.seq (.seq (rq1 rfl rfl (mV rfl rfl (.nil (.code (.cond rfl (fun c7=>?_) (fun c7=>?_)))))))))))))))))))))))
  ·have c7k:=c7
   cases c7
  have c7k:=c7
  try simp only [qcA,qcC,qcB] at c7
  refine .skip (.code (.seq (.seq ?_)))
  refine wk_rv tk5 (by decide) ?_; intro bbRL capRL evRL lcRL; subst evRL
  refine rq9 rfl rfl (mV rfl rfl (nc rfl .no (.u rfl) (fz rfl .no Fx.fo124_7 (.u rfl) (ld rfl .no Fx.ag41 (.u rfl) (fun _=>Rd.own .here rfl) ?_))))
  refine bw (k:=.u64) (b:=1#64) rfl .no rfl (.u rfl) (.u rfl) rfl (mV rfl rfl (kc rfl Fx.go68 (Evc rfl (Evc rfl Evn)) (bEnts_ok h l _ hs hl hok) ?_))
  rintro _ G151 μ151 hG151 ⟨s151,rfl,rfl,hs151⟩
  have l151:(entsF 0 l).length=l.length:=entsF_len
  refine ln rfl .no Fx.sn135 (.u rfl) (mV rfl rfl (.nil (.code (.block ?_))))
  refine Wk.lop (α:=Nat×Nat×Nat×Nat×Nat) (fun gh=>[(153,true,.int .i64 (gh.1:Int))]) (fun gh=>[.blk bn (cl [.slice (some ⟨gh.2.2.1,0,none⟩) gh.2.1 gh.2.2.2.1,.int .i64 ((gh.2.2.2.2:Nat):Int)] 202),rS 16 Nd.cells (.slice (some ⟨gh.2.2.1,0,none⟩) gh.2.1 gh.2.2.2.1) 199 (lstW (entsF 0 l) gh.1)])
   (fun gh Gl=>(gh.1≤l.length)∧(gh.2.1=(lstW (entsF 0 l) gh.1).length)∧(gh.2.2.2.2≤100000*gh.1)) (fun gh=>l.length-gh.1) (0,1,bbRL,capRL,0) [(0,true,_),(1,true,_),(6,true,_),(151,true,_),(152,true,_)] [_,_,_,_]
   (esC rfl (by first|rfl|exact evi (by omega)) (esD rfl (esD rfl (esD rfl (esD rfl (esD rfl eZ))))))
   (mS tk4 rfl (mS tk4 rfl (mS .here rfl (mS .here rfl (mS .here rfl (mS .here rfl mN)))))) ?_ ?_
  ·refine ⟨?_,?_,?_⟩
   ·(try dsimp only)<;>(first|omega|rfl|assumption|(simp; done))
   ·(try dsimp only)<;>(first|omega|rfl|assumption|(simp; done))
   (try dsimp only)<;>(first|omega|rfl|assumption|(simp; done))
  intro gh N1 Gl1 hN1 hGl1 hF1
  obtain ⟨k,m,bb,cap,sz⟩:=gh; dsimp only at hF1 hN1 ⊢
  obtain ⟨hk,hm,hsz⟩:=hF1
  have hs151:=hs151.mono hGl1
  refine .seq (rq1 rfl rfl (cp rfl .no (.u rfl) (.u rfl) rfl (.nil (.code (.seq (.cond rfl (fun c8=>?_) (fun c8=>?_)))))))
  ·have c8k:=c8
   try simp only [qcA,qcC,qcB] at c8
   refine .skip (.code (.seq (.block (.seq (rq4 rfl rfl (ih rfl .no Fx.se135 (.u rfl) (.u rfl) (fun _=>by omega) (fun _=>by omega) (fun _=>hs151.nn (k:=k) (by first|omega|(simp only [Bool.and_eq_true,decide_eq_true_eq] at hc; omega)|(simp only [List.length_cons,List.length_nil]; omega))) ?_))))))
   obtain ⟨e,ee⟩:=getx (k:=k) (xs:=(entsF 0 l)) (by rw [entsF_len]; omega)
   obtain ⟨op,eop⟩:=getx (k:=k) (xs:=l) (by omega)
   have hop:=hok op (List.mem_of_getElem? eop)
   have heq:=entsF_at (j:=0) eop
   rw [ee,Nat.zero_add] at heq
   have heq:=Option.some.inj heq
   subst heq
   obtain ⟨hW,hWn⟩:=wayW (k:=k) (q:=BitVec.ofNat 64 (k+1)) (by omega) eop hord (by omega)
   refine lA rfl .no Fx.ag115 (.u rfl) (fun _=>(hs151.at (by omega) ee).rd) (fun _=>Ent.len _) ?_
   refine al rfl FxGrC.zq115 ?_; intro b17
   refine sw rfl (.u rfl) (.u rfl) rfl Fx.sz115 .here rfl (Ent.one _) ?_
   refine .nil (.code (Wk.mixp ⟨true,false⟩ Fx.mix (by kernel_rfl) ?_))
   refine Wp.one 0 (by kernel_rfl) ?_
   refine mV rfl rfl (.nil (Wp.one 1 (by kernel_rfl) ?_))
   refine nc rfl .no (.u rfl) (.nil (Wp.one 2 (by kernel_rfl) ?_))
   refine fz rfl .no Fx.fo124_13 (.u rfl) (.nil (Wp.one 5 (by kernel_rfl) ?_))
   refine fz rfl .no Fx.fo115_1 (.u rfl) (.nil (Wp.one 6 (by kernel_rfl) ?_))
   refine ld rfl .no Fx.ag41 (.u rfl) (fun _=>Rd.own .here rfl) ?_
   refine .nil (Wp.b3 3 4 7 (by kernel_rfl) ?_ ?_ ?_)
   ·refine ld rfl .no Fx.ag122 (.u rfl) (fun _=>Rd.own tk3 rfl) ?_
    refine .nil (Wp.b2 4 7 (by kernel_rfl) ?_ ?_)
    ·refine lA rfl .no Fx.ag115 (.u rfl) (fun _=>RdN.own .here) (fun _=>Ent.len _) ?_
     refine .nil (Wp.b1 7 (by kernel_rfl) ?_)
     refine kv rfl .no Fx.go70 (Evc rfl Evn) (fun _=>height_ok k _ (by omega)) ?_
     refine .nil (Wp.b1 8 (by kernel_rfl) ?_)
     refine ka rfl (.inl rfl) Fx.go69 (Evc rfl (Evc rfl (Evc rfl Evn))) (mtk2 tk1 tk1) (lPut_ok bn bb m cap sz (k+1) (lstW (entsF 0 l) k) (entE (BitVec.ofNat 64 (k+1)) op) (wyW k) _ hm hW hWn (right_op hop (by simp; omega)) (by omega) (by omega) (by rw [lstW_len]; omega) (by omega)) ?_
     rintro _ G165 μ165 hG165 ⟨bb2,cap2,rfl,rfl⟩
     refine .nil (Wp.one 9 (by kernel_rfl) ?_)
     refine cp rfl .no (.u rfl) (.u rfl) rfl (.nil (Wp.b1 10 (by kernel_rfl) ?_))
     refine kv rfl .no Fx.go48 (Evc rfl Evn) (fun _=>dneed_ok _ rfl _) ?_
     refine .nil (Wp.last (by kernel_rfl) ?_)
     refine .blk (.code (rq2 rfl rfl (arn (((k+1):Nat):Int) rfl .no (.u rfl) (.u rfl) rfl (fun _=>by omega) (fun _=>wrap_i64 (by omega) (by omega)) ?_)))
     refine mV rfl rfl (.nil (We.lpo (k+1,(lstW (entsF 0 l) k++[(entE (BitVec.ofNat 64 (k+1)) op,fun _=>0)]).length,bb2,cap2,sz+(op.user.size+op.value.size+8)) (esC rfl (by first|rfl|exact evi (by omega)) (esD rfl (esD rfl (esD rfl (esD rfl (esD rfl eZ)))))) (mS .here rfl (mS .here (by rw [lstW_step ee]) (mS tk1 rfl (mS tk1 rfl (mS tk1 rfl (mS tk1 rfl mN)))))) ?_ ?_ ?_))
     ·first|omega|(dsimp only; omega)
     ·exact (hGl1).trans hG165
     refine ⟨?_,?_,?_⟩
     ·(try dsimp only)<;>(first|omega|rfl|assumption|(simp; done))
     ·(try dsimp only)<;>(rw [lstW_step ee,lnkN_len])
     (try dsimp only)<;>(have:=hop.user; have:=hop.value; omega)
    refine kv rfl .no Fx.go70 (Evc rfl Evn) (fun _=>height_ok k _ (by omega)) ?_
    refine .nil (Wp.one 4 (by kernel_rfl) ?_)
    refine lA rfl .no Fx.ag115 (.u rfl) (fun _=>RdN.own .here) (fun _=>Ent.len _) ?_
    refine .nil (Wp.b1 8 (by kernel_rfl) ?_)
    refine ka rfl (.inl rfl) Fx.go69 (Evc rfl (Evc rfl (Evc rfl Evn))) (mtk2 tk1 tk1) (lPut_ok bn bb m cap sz (k+1) (lstW (entsF 0 l) k) (entE (BitVec.ofNat 64 (k+1)) op) (wyW k) _ hm hW hWn (right_op hop (by simp; omega)) (by omega) (by omega) (by rw [lstW_len]; omega) (by omega)) ?_
    rintro _ G165 μ165 hG165 ⟨bb2,cap2,rfl,rfl⟩
    refine .nil (Wp.one 9 (by kernel_rfl) ?_)
    refine cp rfl .no (.u rfl) (.u rfl) rfl (.nil (Wp.b1 10 (by kernel_rfl) ?_))
    refine kv rfl .no Fx.go48 (Evc rfl Evn) (fun _=>dneed_ok _ rfl _) ?_
    refine .nil (Wp.last (by kernel_rfl) ?_)
    refine .blk (.code (rq2 rfl rfl (arn (((k+1):Nat):Int) rfl .no (.u rfl) (.u rfl) rfl (fun _=>by omega) (fun _=>wrap_i64 (by omega) (by omega)) ?_)))
    refine mV rfl rfl (.nil (We.lpo (k+1,(lstW (entsF 0 l) k++[(entE (BitVec.ofNat 64 (k+1)) op,fun _=>0)]).length,bb2,cap2,sz+(op.user.size+op.value.size+8)) (esC rfl (by first|rfl|exact evi (by omega)) (esD rfl (esD rfl (esD rfl (esD rfl (esD rfl eZ)))))) (mS .here rfl (mS .here (by rw [lstW_step ee]) (mS tk1 rfl (mS tk1 rfl (mS tk1 rfl (mS tk1 rfl mN)))))) ?_ ?_ ?_))
    ·first|omega|(dsimp only; omega)
    ·exact (hGl1).trans hG165
    refine ⟨?_,?_,?_⟩
    ·(try dsimp only)<;>(first|omega|rfl|assumption|(simp; done))
    ·(try dsimp only)<;>(rw [lstW_step ee,lnkN_len])
    (try dsimp only)<;>(have:=hop.user; have:=hop.value; omega)
   ·refine lA rfl .no Fx.ag115 (.u rfl) (fun _=>RdN.own .here) (fun _=>Ent.len _) ?_
    refine .nil (Wp.b2 3 7 (by kernel_rfl) ?_ ?_)
    ·refine ld rfl .no Fx.ag122 (.u rfl) (fun _=>Rd.own tk3 rfl) ?_
     refine .nil (Wp.b1 7 (by kernel_rfl) ?_)
     refine kv rfl .no Fx.go70 (Evc rfl Evn) (fun _=>height_ok k _ (by omega)) ?_
     refine .nil (Wp.b1 8 (by kernel_rfl) ?_)
     refine ka rfl (.inl rfl) Fx.go69 (Evc rfl (Evc rfl (Evc rfl Evn))) (mtk2 tk1 tk1) (lPut_ok bn bb m cap sz (k+1) (lstW (entsF 0 l) k) (entE (BitVec.ofNat 64 (k+1)) op) (wyW k) _ hm hW hWn (right_op hop (by simp; omega)) (by omega) (by omega) (by rw [lstW_len]; omega) (by omega)) ?_
     rintro _ G165 μ165 hG165 ⟨bb2,cap2,rfl,rfl⟩
     refine .nil (Wp.one 9 (by kernel_rfl) ?_)
     refine cp rfl .no (.u rfl) (.u rfl) rfl (.nil (Wp.b1 10 (by kernel_rfl) ?_))
     refine kv rfl .no Fx.go48 (Evc rfl Evn) (fun _=>dneed_ok _ rfl _) ?_
     refine .nil (Wp.last (by kernel_rfl) ?_)
     refine .blk (.code (rq2 rfl rfl (arn (((k+1):Nat):Int) rfl .no (.u rfl) (.u rfl) rfl (fun _=>by omega) (fun _=>wrap_i64 (by omega) (by omega)) ?_)))
     refine mV rfl rfl (.nil (We.lpo (k+1,(lstW (entsF 0 l) k++[(entE (BitVec.ofNat 64 (k+1)) op,fun _=>0)]).length,bb2,cap2,sz+(op.user.size+op.value.size+8)) (esC rfl (by first|rfl|exact evi (by omega)) (esD rfl (esD rfl (esD rfl (esD rfl (esD rfl eZ)))))) (mS .here rfl (mS .here (by rw [lstW_step ee]) (mS tk1 rfl (mS tk1 rfl (mS tk1 rfl (mS tk1 rfl mN)))))) ?_ ?_ ?_))
     ·first|omega|(dsimp only; omega)
     ·exact (hGl1).trans hG165
     refine ⟨?_,?_,?_⟩
     ·(try dsimp only)<;>(first|omega|rfl|assumption|(simp; done))
     ·(try dsimp only)<;>(rw [lstW_step ee,lnkN_len])
     (try dsimp only)<;>(have:=hop.user; have:=hop.value; omega)
    refine kv rfl .no Fx.go70 (Evc rfl Evn) (fun _=>height_ok k _ (by omega)) ?_
    refine .nil (Wp.one 3 (by kernel_rfl) ?_)
    refine ld rfl .no Fx.ag122 (.u rfl) (fun _=>Rd.own tk3 rfl) ?_
    refine .nil (Wp.b1 8 (by kernel_rfl) ?_)
    refine ka rfl (.inl rfl) Fx.go69 (Evc rfl (Evc rfl (Evc rfl Evn))) (mtk2 tk1 tk1) (lPut_ok bn bb m cap sz (k+1) (lstW (entsF 0 l) k) (entE (BitVec.ofNat 64 (k+1)) op) (wyW k) _ hm hW hWn (right_op hop (by simp; omega)) (by omega) (by omega) (by rw [lstW_len]; omega) (by omega)) ?_
    rintro _ G165 μ165 hG165 ⟨bb2,cap2,rfl,rfl⟩
    refine .nil (Wp.one 9 (by kernel_rfl) ?_)
    refine cp rfl .no (.u rfl) (.u rfl) rfl (.nil (Wp.b1 10 (by kernel_rfl) ?_))
    refine kv rfl .no Fx.go48 (Evc rfl Evn) (fun _=>dneed_ok _ rfl _) ?_
    refine .nil (Wp.last (by kernel_rfl) ?_)
    refine .blk (.code (rq2 rfl rfl (arn (((k+1):Nat):Int) rfl .no (.u rfl) (.u rfl) rfl (fun _=>by omega) (fun _=>wrap_i64 (by omega) (by omega)) ?_)))
    refine mV rfl rfl (.nil (We.lpo (k+1,(lstW (entsF 0 l) k++[(entE (BitVec.ofNat 64 (k+1)) op,fun _=>0)]).length,bb2,cap2,sz+(op.user.size+op.value.size+8)) (esC rfl (by first|rfl|exact evi (by omega)) (esD rfl (esD rfl (esD rfl (esD rfl (esD rfl eZ)))))) (mS .here rfl (mS .here (by rw [lstW_step ee]) (mS tk1 rfl (mS tk1 rfl (mS tk1 rfl (mS tk1 rfl mN)))))) ?_ ?_ ?_))
    ·first|omega|(dsimp only; omega)
    ·exact (hGl1).trans hG165
    refine ⟨?_,?_,?_⟩
    ·(try dsimp only)<;>(first|omega|rfl|assumption|(simp; done))
    ·(try dsimp only)<;>(rw [lstW_step ee,lnkN_len])
    (try dsimp only)<;>(have:=hop.user; have:=hop.value; omega)
   refine kv rfl .no Fx.go70 (Evc rfl Evn) (fun _=>height_ok k _ (by omega)) ?_
   refine .nil (Wp.one 3 (by kernel_rfl) ?_)
   refine ld rfl .no Fx.ag122 (.u rfl) (fun _=>Rd.own tk3 rfl) ?_
   refine .nil (Wp.one 4 (by kernel_rfl) ?_)
   refine lA rfl .no Fx.ag115 (.u rfl) (fun _=>RdN.own .here) (fun _=>Ent.len _) ?_
   refine .nil (Wp.b1 8 (by kernel_rfl) ?_)
   refine ka rfl (.inl rfl) Fx.go69 (Evc rfl (Evc rfl (Evc rfl Evn))) (mtk2 tk1 tk1) (lPut_ok bn bb m cap sz (k+1) (lstW (entsF 0 l) k) (entE (BitVec.ofNat 64 (k+1)) op) (wyW k) _ hm hW hWn (right_op hop (by simp; omega)) (by omega) (by omega) (by rw [lstW_len]; omega) (by omega)) ?_
   rintro _ G165 μ165 hG165 ⟨bb2,cap2,rfl,rfl⟩
   refine .nil (Wp.one 9 (by kernel_rfl) ?_)
   refine cp rfl .no (.u rfl) (.u rfl) rfl (.nil (Wp.b1 10 (by kernel_rfl) ?_))
   refine kv rfl .no Fx.go48 (Evc rfl Evn) (fun _=>dneed_ok _ rfl _) ?_
   refine .nil (Wp.last (by kernel_rfl) ?_)
   refine .blk (.code (rq2 rfl rfl (arn (((k+1):Nat):Int) rfl .no (.u rfl) (.u rfl) rfl (fun _=>by omega) (fun _=>wrap_i64 (by omega) (by omega)) ?_)))
   refine mV rfl rfl (.nil (We.lpo (k+1,(lstW (entsF 0 l) k++[(entE (BitVec.ofNat 64 (k+1)) op,fun _=>0)]).length,bb2,cap2,sz+(op.user.size+op.value.size+8)) (esC rfl (by first|rfl|exact evi (by omega)) (esD rfl (esD rfl (esD rfl (esD rfl (esD rfl eZ)))))) (mS .here rfl (mS .here (by rw [lstW_step ee]) (mS tk1 rfl (mS tk1 rfl (mS tk1 rfl (mS tk1 rfl mN)))))) ?_ ?_ ?_))
   ·first|omega|(dsimp only; omega)
   ·exact (hGl1).trans hG165
   refine ⟨?_,?_,?_⟩
   ·(try dsimp only)<;>(first|omega|rfl|assumption|(simp; done))
   ·(try dsimp only)<;>(rw [lstW_step ee,lnkN_len])
   (try dsimp only)<;>(have:=hop.user; have:=hop.value; omega)
  have c8k:=c8
  try simp only [qcA,qcC,qcB] at c8
  refine .exit (.xcode (.xlp (.xblk (.code (.seq (Wk.rg [0,1,2,3,4,5,6,7,8,9,10] rfl rfl (mV rfl rfl (nc rfl .no (.u rfl) (fz rfl .no Fx.fo124_7 (.u rfl) (ld rfl .no Fx.ag41 (.u rfl) (fun _=>Rd.own tk2 rfl) ?_))))))))))
  refine mV rfl rfl (ln rfl .no Fx.sn22 (.u rfl) (ci rfl .no rfl Fx.cv3_41 (.u rfl) ?_))
  refine bw (k:=.u64) rfl .no rfl (.u rfl) (.u rfl) rfl (nc rfl .no (.u rfl) (fz rfl .no Fx.fo124_7 (.u rfl) (s1 rfl (.u rfl) (.u rfl) rfl Fx.sz41 tk2 (by first|decide | (show _<85; decide)) (Db.p_seq _ (0#64+BitVec.ofInt 64 ((l.length:Nat):Int))) (.nil (.code (.seq (rq1 rfl rfl (s1 rfl (.u rfl) (.u rfl) rfl Fx.sz29 tk5 (by first|decide | (show _<85; decide)) (rfl) ?_))))))))
  refine .nil (.code (.ret (We.finQ [⟨41,[.pointer (some ⟨bx,0,none⟩),.pointer (some ⟨b6,0,none⟩)],[]⟩] rfl (by intro q hq; rw [List.mem_singleton.1 hq]; exact ⟨Fx.go41,fun w hw=>guard_ret w _ _⟩) Tryz.results16 (.cell rfl (fun w hw=>run_loadVar1 Fx.ag29 (Rd.own .here rfl w hw)) .nil) (mS tk1 rfl (mS tk3 rfl (mS tk3 rfl (mS tk1 rfl (mS tk1 rfl mN))))) ?_)))
  obtain rfl:k=l.length:=by omega
  exact ⟨bb,m,cap,sz,F3,hm,hD3,hn3,hz3,rfl,rfl⟩
 have c5k:=c5
 cases c5
end Go.Proofs.YtggleibgadkodaaGreatDoor
namespace Go.Proofs.YtggleibgadkodaaGreatDoor
open Go.Tan Go.RowKit Go.Maps Go.Sort Go.Shelf
namespace Fx
theorem go107:goFn Tryz.prog 107=true:=by kernel_rfl
theorem sn47:(slE Tryz.prog 47).isSome=true:=by kernel_rfl
end Fx
theorem usN_ok (G:PM):Ct Tryz.prog 40 ([.pointer none]:List Value).toArray G [] (fun _ μ' u=>μ'=[]∧u=.int .i64 2):=by
 refine Ct.of Tryz.func40 rfl Tryz.ntmps40 rfl fun w0 hs0=>?_
 refine .seq (rq1 rfl rfl (aS rfl rfl (.nil (.code (.seq (.block (.seq (rq3 rfl rfl (mV rfl rfl (pe0 rfl .no Fx.pt44 (.u rfl) (.u rfl) ?_))))))))))
 refine aS rfl rfl (.nil (.code (.cond rfl (fun c1=>?_) (fun c1=>?_))))
 ·have c1k:=c1
  try simp only [qcA,qcB] at c1
  refine .seq (rq1 rfl rfl (aS rfl rfl (.nil (.code (.ret (We.fin0 Tryz.results40 (.tmp rfl .nil) ?_))))))
  exact ⟨rfl,rfl⟩
 have c1k:=c1
 cases c1
theorem getN_ok (s:ByteArray) (m:BitVec 64) (G:PM):Ct Tryz.prog 12 ([.pointer none,.string s,uv .u64 m]:List Value).toArray G [] (fun _ μ' u=>μ'=[]∧u=.tuple #[.string ⟨#[]⟩,.bool false,.int .i64 2]):=by
 refine Ct.of Tryz.func12 rfl Tryz.ntmps12 rfl fun w0 hs0=>?_
 refine .seq (rq3 rfl rfl (aS rfl rfl (aS rfl rfl ?_)))
 refine al rfl FxGrBb.zr29 ?_; intro b8
 refine .nil (.code (.seq (.seq (rq3 rfl rfl (mV rfl rfl (kv rfl .no Fx.go40 (Evc rfl Evn) (fun _=>usN_ok _) ?_))))))
 refine aS rfl rfl (.nil (.code (.seq (rq2 rfl rfl (mV rfl rfl (cp rfl .no (.u rfl) (.u rfl) rfl (.nil (.code (.cond rfl (fun c1=>?_) (fun c1=>?_))))))))))
 ·have c1k:=c1
  try simp only [qcA,qcB] at c1
  refine .seq (rq4 rfl rfl (mV rfl rfl (aS rfl rfl (aS rfl rfl (s1 rfl (.u rfl) (.u rfl) rfl Fx.sz29 .here (by first|decide|(simp only [wa_len,ba_len,qlA]; omega)) (rfl) ?_)))))
  refine .nil (.code (.ret (We.fin0 Tryz.results12 (.tmp rfl (.tmp rfl (.cell rfl (fun w hw=>run_loadVar1 Fx.ag29 (Rd.own .here rfl w hw)) .nil))) ?_)))
  exact ⟨rfl,rfl⟩
 have c1k:=c1
 cases c1
theorem scanN_ok (s s2:ByteArray) (m:BitVec 64) (G:PM):Ct Tryz.prog 13 ([.pointer none,.string s,.string s2,uv .u64 m]:List Value).toArray G [] (fun _ μ' u=>μ'=[]∧u=.tuple #[.slice none 0 0,.int .i64 2]):=by
 refine Ct.of Tryz.func13 rfl Tryz.ntmps13 rfl fun w0 hs0=>?_
 refine .seq (rq2 rfl rfl (aS rfl rfl ?_))
 refine al rfl FxGrBb.zr29 ?_; intro b9
 refine .nil (.code (.seq (.seq (rq3 rfl rfl (mV rfl rfl (kv rfl .no Fx.go40 (Evc rfl Evn) (fun _=>usN_ok _) ?_))))))
 refine aS rfl rfl (.nil (.code (.seq (rq2 rfl rfl (mV rfl rfl (cp rfl .no (.u rfl) (.u rfl) rfl (.nil (.code (.cond rfl (fun c1=>?_) (fun c1=>?_))))))))))
 ·have c1k:=c1
  try simp only [qcA,qcB] at c1
  refine .seq (rq3 rfl rfl (mV rfl rfl (aS rfl rfl (s1 rfl (.u rfl) (.u rfl) rfl Fx.sz29 .here (by first|decide|(simp only [wa_len,ba_len,qlA]; omega)) (rfl) ?_))))
  refine .nil (.code (.ret (We.fin0 Tryz.results13 (.tmp rfl (.cell rfl (fun w hw=>run_loadVar1 Fx.ag29 (Rd.own .here rfl w hw)) .nil)) ?_)))
  exact ⟨rfl,rfl⟩
 have c1k:=c1
 cases c1
theorem snapN_ok (G:PM):Ct Tryz.prog 14 ([.pointer none]:List Value).toArray G [] (fun _ μ' u=>μ'=[]∧u=.tuple #[.int .u64 0,.int .i64 2]):=by
 refine Ct.of Tryz.func14 rfl Tryz.ntmps14 rfl fun w0 hs0=>?_
 refine .seq (rq2 rfl rfl (aS rfl rfl (aS rfl rfl (.nil (.code (.seq (.seq (rq3 rfl rfl (mV rfl rfl (kv rfl .no Fx.go40 (Evc rfl Evn) (fun _=>usN_ok _) ?_))))))))))
 refine aS rfl rfl (.nil (.code (.seq (rq2 rfl rfl (mV rfl rfl (cp rfl .no (.u rfl) (.u rfl) rfl (.nil (.code (.cond rfl (fun c1=>?_) (fun c1=>?_))))))))))
 ·have c1k:=c1
  try simp only [qcA,qcB] at c1
  refine .seq (rq3 rfl rfl (mV rfl rfl (aS rfl rfl (aS rfl rfl (.nil (.code (.ret (We.fin0 Tryz.results14 (.tmp rfl (.tmp rfl .nil)) ?_))))))))
  exact ⟨rfl,rfl⟩
 have c1k:=c1
 cases c1
theorem workN_ok (G:PM):Ct Tryz.prog 15 ([.pointer none]:List Value).toArray G [] (fun _ μ' u=>μ'=[]∧u=.tuple #[.bool false,.int .i64 2]):=by
 refine Ct.of Tryz.func15 rfl Tryz.ntmps15 rfl fun w0 hs0=>?_
 refine .seq (rq2 rfl rfl (aS rfl rfl ?_))
 refine al rfl FxGrBb.zr29 ?_; intro b3
 refine .nil (.code (.seq (.seq (rq3 rfl rfl (mV rfl rfl (kv rfl .no Fx.go40 (Evc rfl Evn) (fun _=>usN_ok _) ?_))))))
 refine aS rfl rfl (.nil (.code (.seq (rq2 rfl rfl (mV rfl rfl (cp rfl .no (.u rfl) (.u rfl) rfl (.nil (.code (.cond rfl (fun c1=>?_) (fun c1=>?_))))))))))
 ·have c1k:=c1
  try simp only [qcA,qcB] at c1
  refine .seq (rq3 rfl rfl (mV rfl rfl (aS rfl rfl (s1 rfl (.u rfl) (.u rfl) rfl Fx.sz29 .here (by first|decide|(simp only [wa_len,ba_len,qlA]; omega)) (rfl) ?_))))
  refine .nil (.code (.ret (We.fin0 Tryz.results15 (.tmp rfl (.cell rfl (fun w hw=>run_loadVar1 Fx.ag29 (Rd.own .here rfl w hw)) .nil)) ?_)))
  exact ⟨rfl,rfl⟩
 have c1k:=c1
 cases c1
theorem writeN_ok (v:Value) (y:Bool) (G:PM):Ct Tryz.prog 16 ([.pointer none,v,.bool y]:List Value).toArray G [] (fun _ μ' u=>μ'=[]∧u=.int .i64 2):=by
 refine Ct.of Tryz.func16 rfl Tryz.ntmps16 rfl fun w0 hs0=>?_
 refine .seq (rq1 rfl rfl ?_)
 refine al rfl FxGrBb.zr29 ?_; intro b6
 refine .nil (.code (.seq (.seq (rq3 rfl rfl (mV rfl rfl (kv rfl .no Fx.go40 (Evc rfl Evn) (fun _=>usN_ok _) ?_))))))
 refine aS rfl rfl (.nil (.code (.seq (rq2 rfl rfl (mV rfl rfl (cp rfl .no (.u rfl) (.u rfl) rfl (.nil (.code (.cond rfl (fun c1=>?_) (fun c1=>?_))))))))))
 ·have c1k:=c1
  try simp only [qcA,qcB] at c1
  refine .seq (rq2 rfl rfl (mV rfl rfl (s1 rfl (.u rfl) (.u rfl) rfl Fx.sz29 .here (by first|decide|(simp only [wa_len,ba_len,qlA]; omega)) (rfl) ?_)))
  refine .nil (.code (.ret (We.fin0 Tryz.results16 (.cell rfl (fun w hw=>run_loadVar1 Fx.ag29 (Rd.own .here rfl w hw)) .nil) ?_)))
  exact ⟨rfl,rfl⟩
 have c1k:=c1
 cases c1
theorem relN_ok (m:BitVec 64) (G:PM):Ct Tryz.prog 17 ([.pointer none,uv .u64 m]:List Value).toArray G [] (fun _ μ' u=>μ'=[]∧u=.int .i64 2):=by
 refine Ct.of Tryz.func17 rfl Tryz.ntmps17 rfl fun w0 hs0=>?_
 refine .seq (rq1 rfl rfl (aS rfl rfl (.nil (.code (.seq (.seq (rq3 rfl rfl (mV rfl rfl (kv rfl .no Fx.go40 (Evc rfl Evn) (fun _=>usN_ok _) ?_)))))))))
 refine aS rfl rfl (.nil (.code (.seq (rq2 rfl rfl (mV rfl rfl (cp rfl .no (.u rfl) (.u rfl) rfl (.nil (.code (.cond rfl (fun c1=>?_) (fun c1=>?_))))))))))
 ·have c1k:=c1
  try simp only [qcA,qcB] at c1
  refine .seq (rq2 rfl rfl (mV rfl rfl (aS rfl rfl (.nil (.code (.ret (We.fin0 Tryz.results17 (.tmp rfl .nil) ?_)))))))
  exact ⟨rfl,rfl⟩
 have c1k:=c1
 cases c1
theorem rotN_ok (n:Int) (G:PM):Ct Tryz.prog 18 ([.pointer none,.int .i64 n]:List Value).toArray G [] (fun _ μ' u=>μ'=[]∧u=.int .i64 2):=by
 refine Ct.of Tryz.func18 rfl Tryz.ntmps18 rfl fun w0 hs0=>?_
 refine .seq (rq1 rfl rfl ?_)
 refine al rfl FxGrBb.zr29 ?_; intro b4
 refine .nil (.code (.seq (.seq (rq3 rfl rfl (mV rfl rfl (kv rfl .no Fx.go40 (Evc rfl Evn) (fun _=>usN_ok _) ?_))))))
 refine aS rfl rfl (.nil (.code (.seq (rq2 rfl rfl (mV rfl rfl (cp rfl .no (.u rfl) (.u rfl) rfl (.nil (.code (.cond rfl (fun c1=>?_) (fun c1=>?_))))))))))
 ·have c1k:=c1
  try simp only [qcA,qcB] at c1
  refine .seq (rq2 rfl rfl (mV rfl rfl (s1 rfl (.u rfl) (.u rfl) rfl Fx.sz29 .here (by first|decide|(simp only [wa_len,ba_len,qlA]; omega)) (rfl) ?_)))
  refine .nil (.code (.ret (We.fin0 Tryz.results18 (.cell rfl (fun w hw=>run_loadVar1 Fx.ag29 (Rd.own .here rfl w hw)) .nil) ?_)))
  exact ⟨rfl,rfl⟩
 have c1k:=c1
 cases c1
theorem faultN_ok (G:PM):Ct Tryz.prog 19 ([.pointer none]:List Value).toArray G [] (fun _ μ' u=>μ'=[]∧u=.int .i64 2):=by
 refine Ct.of Tryz.func19 rfl Tryz.ntmps19 rfl fun w0 hs0=>?_
 refine .seq (rq1 rfl rfl (aS rfl rfl (.nil (.code (.seq (.seq (rq2 rfl rfl (mV rfl rfl (pe0 rfl .no Fx.pt44 (.u rfl) (.u rfl) ?_)))))))))
 refine .nil (.code (Wk.condT rfl rfl ?_))
 refine .seq (rq1 rfl rfl (aS rfl rfl (.nil (.code (.ret (We.fin0 Tryz.results19 (.tmp rfl .nil) ?_))))))
 exact ⟨rfl,rfl⟩
theorem closeN_ok (G:PM):Ct Tryz.prog 20 ([.pointer none]:List Value).toArray G [] (fun _ μ' u=>μ'=[]∧u=.int .i64 2):=by
 refine Ct.of Tryz.func20 rfl Tryz.ntmps20 rfl fun w0 hs0=>?_
 refine .seq (rq1 rfl rfl (aS rfl rfl (.nil (.code (.seq (rq3 rfl rfl (mV rfl rfl (kv rfl .no Fx.go40 (Evc rfl Evn) (fun _=>usN_ok _) ?_))))))))
 refine aS rfl rfl (.nil (.code (.seq (.seq (rq2 rfl rfl (mV rfl rfl (cp rfl .no (.u rfl) (.u rfl) rfl (.nil (.code (.cond rfl (fun c1=>?_) (fun c1=>?_)))))))))))
 ·have c1k:=c1
  cases c1
 have c1k:=c1
 try simp only [qcA,qcB] at c1
 refine .skip (.code (.seq (rq2 rfl rfl (mV rfl rfl (aS rfl rfl (.nil (.code (.ret (We.fin0 Tryz.results20 (.tmp rfl .nil) ?_)))))))))
 exact ⟨rfl,rfl⟩
theorem momN_ok (G:PM):Ct Tryz.prog 21 ([.pointer none]:List Value).toArray G [] (fun _ μ' u=>μ'=[]∧u=.int .u64 0):=by
 refine Ct.of Tryz.func21 rfl Tryz.ntmps21 rfl fun w0 hs0=>?_
 refine .seq (rq1 rfl rfl (aS rfl rfl (.nil (.code (.seq (.seq (rq2 rfl rfl (mV rfl rfl (pe0 rfl .no Fx.pt44 (.u rfl) (.u rfl) ?_)))))))))
 refine .nil (.code (Wk.condT rfl rfl ?_))
 refine .seq (rq1 rfl rfl (aS rfl rfl (.nil (.code (.ret (We.fin0 Tryz.results21 (.tmp rfl .nil) ?_))))))
 exact ⟨rfl,rfl⟩
theorem stallN_ok (G:PM):Ct Tryz.prog 22 ([.pointer none]:List Value).toArray G [] (fun _ μ' u=>μ'=[]∧u=.bool false):=by
 refine Ct.of Tryz.func22 rfl Tryz.ntmps22 rfl fun w0 hs0=>?_
 refine .seq (rq1 rfl rfl (aS rfl rfl (.nil (.code (.seq (Wk.draw (mc:=⟨false,false⟩) [0,1,2,3,4,5,6,7,8,9,10,11,12,13,15,16,17,18,19,14,20,21,22] Fx.mix (by kernel_rfl) ?_))))))
 refine mV rfl rfl (pn0 rfl .no Fx.pt44 (.u rfl) (.u rfl) ?_)
 refine mV rfl rfl (skp (.bool false) rfl rfl (Gd.t (b:=false) rfl rfl) ?_)
 refine skp (.bool false) rfl rfl (Gd.t (b:=false) rfl rfl) ?_
 refine skp (.bool false) rfl rfl (Gd.t (b:=false) rfl rfl) ?_
 refine skr (.bool false) rfl rfl (Gd.t (b:=false) rfl rfl) ?_
 refine skp (.bool false) rfl rfl (Gd.t (b:=false) rfl rfl) ?_
 refine pkA rfl .no (.u rfl) (.s rfl) (mV rfl rfl (skp (.bool false) rfl rfl (Gd.t (b:=false) rfl rfl) ?_))
 refine skp (.bool false) rfl rfl (Gd.t (b:=false) rfl rfl) ?_
 refine skp (.bool false) rfl rfl (Gd.t (b:=false) rfl rfl) ?_
 refine skr (.bool false) rfl rfl (Gd.t (b:=false) rfl rfl) ?_
 refine skp (.bool false) rfl rfl (Gd.t (b:=false) rfl rfl) ?_
 refine skp (.bool false) rfl rfl (Gd.t (b:=false) rfl rfl) ?_
 refine skp (.bool false) rfl rfl (Gd.t (b:=false) rfl rfl) ?_
 refine skp (.bool false) rfl rfl (Gd.t (b:=false) rfl rfl) ?_
 refine skr (.bool false) rfl rfl (Gd.t (b:=false) rfl rfl) ?_
 refine skc (.bool false) rfl rfl (Gd.t (b:=false) rfl rfl) ?_
 refine skp (.bool false) rfl rfl (Gd.t (b:=false) rfl rfl) ?_
 refine pkA rfl .no (.u rfl) (.s rfl) (aS rfl rfl (.nil (.code (.ret (We.fin0 Tryz.results22 (.tmp rfl .nil) ?_)))))
 exact ⟨rfl,rfl⟩
theorem stateN_ok (G:PM):Ct Tryz.prog 24 ([.pointer none]:List Value).toArray G [] (fun _ μ' u=>μ'=[]∧u=State.zero.val hd0):=by
 refine Ct.of Tryz.func24 rfl Tryz.ntmps24 rfl fun w0 hs0=>?_
 refine .seq (rq1 rfl rfl ?_)
 refine al rfl Fx.zq64 ?_; intro b2
 refine .nil (.code (.seq (.seq (rq2 rfl rfl (mV rfl rfl (pe0 rfl .no Fx.pt44 (.u rfl) (.u rfl) ?_))))))
 refine .nil (.code (Wk.condT rfl rfl ?_))
 refine .seq (rq2 rfl rfl (bCe (State.zero.cells hd0) rfl .no Fx.bp64_ .nil rfl (rfl) (sw rfl (.u rfl) (.u rfl) rfl Fx.sz64 .here rfl (State.one') ?_)))
 refine .nil (.code (.ret (We.fin0 Tryz.results24 (.cell rfl (fun w hw=>run_loadVarN Fx.ag64 (RdN.own .here) ((by first|exact qE|exact qL|rfl)) hw) .nil) ?_)))
 exact ⟨rfl,rfl⟩
theorem mom_ok (bx:Nat) (d:Db) (G:PM) (hbx:PB G bx (cl d.cells 124)):Ct Tryz.prog 21 ([pt bx]:List Value).toArray G [] (fun _ μ' u=>μ'=[]∧u=uv .u64 d.seq):=by
 refine Ct.of Tryz.func21 rfl Tryz.ntmps21 rfl fun w0 hs0=>?_
 refine .seq (rq1 rfl rfl (aS rfl rfl (.nil (.code (.seq (.seq (rq2 rfl rfl (mV rfl rfl (pe rfl .no Fx.pt44 (.u rfl) (.u rfl) ?_)))))))))
 refine .nil (.code (Wk.condF rfl rfl ?_))
 refine .skip (.code (.seq (rq5 rfl rfl (mV rfl rfl (nc rfl .no (.u rfl) (fa rfl .no Fx.fo124_7 (.u rfl) (ld rfl .no Fx.ag41 (.u rfl) (fun _=>(hbx.rd (rfl)).rd) ?_)))))))
 refine aS rfl rfl (.nil (.code (.ret (We.fin0 Tryz.results21 (.tmp rfl .nil) ?_))))
 exact ⟨rfl,rfl⟩
theorem opens_ok (bt:Nat) (m o:BitVec 64) (G:PM) (hbt:PB G bt (cl [uv .u64 m,uv .u64 o] 175)):Ct Tryz.prog 29 ([.pointer (some ⟨bt,0,none⟩)]:List Value).toArray G [] (fun _ μ' u=>μ'=[]∧u=uv .u64 o):=by
 refine Ct.of Tryz.func29 rfl Tryz.ntmps29 rfl fun w0 hs0=>?_
 refine .seq (rq1 rfl rfl (aS rfl rfl (.nil (.code (.seq (.seq (rq2 rfl rfl (mV rfl rfl (pe rfl .no Fx.pt68 (.u rfl) (.u rfl) ?_)))))))))
 refine .nil (.code (Wk.condF rfl rfl ?_))
 refine .skip (.code (.seq (rq6 rfl rfl (mV rfl rfl (nc rfl .no (.u rfl) (fa rfl .no Fx.fo175_0 (.u rfl) (fa rfl .no Fx.fo173_1 (.u rfl) (ld rfl .no Fx.ag41 (.u rfl) (fun _=>(hbt.rd (rfl)).rd) ?_))))))))
 refine aS rfl rfl (.nil (.code (.ret (We.fin0 Tryz.results29 (.tmp rfl .nil) ?_))))
 exact ⟨rfl,rfl⟩
theorem lLenN_ok (G:PM):Ct Tryz.prog 104 ([.pointer none]:List Value).toArray G [] (fun _ μ' u=>μ'=[]∧u=.int .i64 0):=by
 refine Ct.of Tryz.func104 rfl Tryz.ntmps104 rfl fun w0 hs0=>?_
 refine .seq (rq1 rfl rfl (aS rfl rfl (.nil (.code (.seq (.seq (rq2 rfl rfl (mV rfl rfl (pe0 rfl .no Fx.pt122 (.u rfl) (.u rfl) ?_)))))))))
 refine .nil (.code (Wk.condT rfl rfl ?_))
 refine .seq (rq1 rfl rfl (aS rfl rfl (.nil (.code (.ret (We.fin0 Tryz.results104 (.tmp rfl .nil) ?_))))))
 exact ⟨rfl,rfl⟩
theorem firstN_ok (s:ByteArray) (q:BitVec 64) (G:PM):Ct Tryz.prog 90 ([.pointer none,.string s,uv .u64 q]:List Value).toArray G [] (fun _ μ' u=>μ'=[]∧u=.int .i64 0):=by
 refine Ct.of Tryz.func90 rfl Tryz.ntmps90 rfl fun w0 hs0=>?_
 refine .seq (rq1 rfl rfl (aS rfl rfl (.nil (.code (.seq (.seq (rq2 rfl rfl (mV rfl rfl (pe0 rfl .no Fx.pt122 (.u rfl) (.u rfl) ?_)))))))))
 refine .nil (.code (Wk.condT rfl rfl ?_))
 refine .seq (rq1 rfl rfl (aS rfl rfl (.nil (.code (.ret (We.fin0 Tryz.results90 (.tmp rfl .nil) ?_))))))
 exact ⟨rfl,rfl⟩
theorem fromN_ok (s:ByteArray) (q:BitVec 64) (n:Int) (G:PM):Ct Tryz.prog 103 ([.pointer none,.string s,uv .u64 q,.int .i64 n]:List Value).toArray G [] (fun _ μ' u=>μ'=[]∧u=.slice none 0 0):=by
 refine Ct.of Tryz.func103 rfl Tryz.ntmps103 rfl fun w0 hs0=>?_
 refine .seq (rq1 rfl rfl (aS rfl rfl (.nil (.code (.seq (rq1 rfl rfl (aS rfl rfl (.nil (.code (.seq (.seq (rq5 rfl rfl (mV rfl rfl (mV rfl rfl (mV rfl rfl (kv rfl .no Fx.go90 (Evc rfl (Evc rfl (Evc rfl Evn))) (fun _=>firstN_ok s q _) ?_))))))))))))))))
 refine aS rfl rfl (.nil (.code (.block ?_)))
 refine Wk.lop (α:=Nat) (fun k=>[(9,true,.slice none 0 0),(10,true,.int .i64 0)]) (fun _=>[])
  (fun k Gl=>True) (fun k=>0) 0 [(0,true,_),(3,true,_)] []
  (esD rfl (esC rfl (by first|rfl|exact evi (by omega)) (esD rfl (esD rfl eZ))))
  mN ?_ ?_
 ·trivial
 intro k N0 Gl0 hN0 hGl0 hF0
 try dsimp only at hF0 hN0 ⊢
 refine .seq (.seq (rq8 rfl rfl (mV rfl rfl (cp rfl .no (.u rfl) (.u rfl) rfl (mV rfl rfl (mv rfl (.t rfl rfl) (.u rfl) (ln rfl (.t rfl rfl) Fx.sn135 (.s rfl) (mv rfl (.t rfl rfl) (.u rfl) (cp rfl (.t rfl rfl) (.s rfl) (.s rfl) rfl (pkA rfl .no (.u rfl) (.s rfl) (.nil (.code (.cond rfl (fun c1=>?_) (fun c1=>?_))))))))))))))
 ·have c1k:=c1
  cases c1
 have c1k:=c1
 try simp only [qcA,qcB] at c1
 refine .exit (.xcode (.xlp (.xblk (.code (.seq (rq2 rfl rfl (mV rfl rfl (aS rfl rfl (.nil (.code (.ret (We.fin0 Tryz.results103 (.tmp rfl .nil) ?_))))))))))))
 exact ⟨rfl,rfl⟩
theorem allN_ok (G:PM):Ct Tryz.prog 49 ([.pointer none]:List Value).toArray G [] (fun _ μ' u=>μ'=[]∧u=.slice none 0 0):=by
 refine Ct.of Tryz.func49 rfl Tryz.ntmps49 rfl fun w0 hs0=>?_
 refine .seq (rq1 rfl rfl (aS rfl rfl (.nil (.code (.seq (rq5 rfl rfl (mV rfl rfl (mV rfl rfl (kv rfl .no Fx.go104 (Evc rfl Evn) (fun _=>lLenN_ok _) ?_)))))))))
 refine kv rfl .no Fx.go103 (Evc rfl (Evc rfl (Evc rfl (Evc rfl Evn)))) (fun _=>fromN_ok ⟨#[]⟩ 18446744073709551615#64 0 _) ?_
 refine aS rfl rfl (.nil (.code (.ret (We.fin0 Tryz.results49 (.tmp rfl .nil) ?_))))
 exact ⟨rfl,rfl⟩
theorem idxU_ok (h:Sh) (l:List Unit) (G:PM) (hs:SlR G 1 encNl h l) (hl:l.length≤10):Ct Tryz.prog 199 ([h.val l.length,.func (.func 160) #[] #[]]:List Value).toArray G [] (fun _ μ' u=>μ'=[]∧u=.int .i64 (-1)):=by
 refine Ct.of Tryz.func199 rfl Tryz.ntmps199 rfl fun w0 hs0=>?_
 refine .seq (rq1 rfl rfl (aS rfl rfl (.nil (.code (.seq (.seq (rq3 rfl rfl (mV rfl rfl (ln rfl .no Fx.sn137 (.u rfl) (mV rfl rfl (.nil (.code (.block ?_)))))))))))))
 refine Wk.lop (α:=Nat) (fun k=>[(8,true,.int .i64 (k:Int))]) (fun _=>[])
  (fun k Gl=>(k≤l.length)) (fun k=>l.length-k) 0 [(0,true,_),(1,true,_),(7,true,_)] []
  (esC rfl (by first|rfl|exact evi (by omega)) (esD rfl (esD rfl (esD rfl eZ))))
  mN ?_ ?_
 ·(try dsimp only)<;>(first|omega|rfl|assumption|(simp; done))
 intro k N0 Gl0 hN0 hGl0 hF0
 try dsimp only at hF0 hN0 ⊢
 have hk:=hF0
 have hs:=hs.mono hGl0
 refine .seq (rq1 rfl rfl (cp rfl .no (.u rfl) (.u rfl) rfl (.nil (.code (.seq (.cond rfl (fun c1=>?_) (fun c1=>?_)))))))
 ·have c1k:=c1
  try simp only [qcA,qcB] at c1
  refine .skip (.code (.seq (.block (.seq (rq2 rfl rfl (mV rfl rfl (aS rfl rfl (.nil (.code (.seq (rq6 rfl rfl (mV rfl rfl (mV rfl rfl (mV rfl rfl ?_))))))))))))))
  obtain ⟨x,ex⟩:=getx (k:=k) (xs:=l) (by omega)
  refine ih rfl .no Fx.se137 (.u rfl) (.u rfl) (fun _=>by omega) (fun _=>by omega) (fun _=>hs.nn (k:=k) (by first|omega|(simp only [Bool.and_eq_true,decide_eq_true_eq] at hc; omega)|(simp only [List.length_cons,List.length_nil]; omega))) ?_
  refine ld rfl .no Fx.ag135 (.u rfl) (fun _=>(hs.at (by omega) ex 0 _ rfl).rd) (kf rfl .no (.u rfl) Fx.go160 (Evc rfl Evn) (fun _=>mr1_ok _) ?_)
  refine .nil (.code (.cond rfl (fun c2=>?_) (fun c2=>?_)))
  ·have c2k:=c2
   cases c2
  have c2k:=c2
  try simp only [qcA,qcB] at c2
  refine .skip (.blk (.code (rq2 rfl rfl (arn (((k+1):Nat):Int) rfl .no (.u rfl) (.u rfl) rfl (fun _=>by omega) (fun _=>wrap_i64 (by omega) (by omega)) ?_))))
  refine mV rfl rfl (.nil (We.lpo (k+1) ?_ ?_ ?_ ?_ ?_))
  ·exact (esC rfl (by first|rfl|exact evi (by omega)) (esD rfl (esD rfl (esD rfl eZ))))
  ·exact mN
  ·first|omega|(dsimp only; omega)
  ·exact hGl0
  (try dsimp only)<;>(first|omega|rfl|assumption|(simp; done))
 have c1k:=c1
 try simp only [qcA,qcB] at c1
 refine .exit (.xcode (.xlp (.xblk (.code (.seq (rq1 rfl rfl (aS rfl rfl (.nil (.code (.ret (We.fin0 Tryz.results199 (.tmp rfl .nil) ?_)))))))))))
 exact ⟨rfl,rfl⟩
theorem contU_ok (h:Sh) (l:List Unit) (G:PM) (hs:SlR G 1 encNl h l) (hl:l.length≤10):Ct Tryz.prog 159 ([h.val l.length,.func (.func 160) #[] #[]]:List Value).toArray G [] (fun _ μ' u=>μ'=[]∧u=.bool false):=by
 refine Ct.of Tryz.func159 rfl Tryz.ntmps159 rfl fun w0 hs0=>?_
 refine .seq (rq1 rfl rfl (aS rfl rfl (.nil (.code (.seq (rq5 rfl rfl (mV rfl rfl (mV rfl rfl (kv rfl .no Fx.go199 (Evc rfl (Evc rfl Evn)) (fun _=>idxU_ok h l _ hs hl) ?_)))))))))
 refine cp rfl .no (.u rfl) (.u rfl) rfl (aS rfl rfl (.nil (.code (.ret (We.fin0 Tryz.results159 (.tmp rfl .nil) ?_)))))
 exact ⟨rfl,rfl⟩
theorem mrisesU_ok (h:Sh) (l:List Unit) (G:PM) (hs:SlR G 1 encNl h l) (hl:l.length≤10):Ct Tryz.prog 106 ([h.val l.length]:List Value).toArray G [] (fun _ μ' u=>μ'=[]∧u=.bool true):=by
 refine Ct.of Tryz.func106 rfl Tryz.ntmps106 rfl fun w0 hs0=>?_
 refine .seq (rq1 rfl rfl (aS rfl rfl (.nil (.code (.seq (rq4 rfl rfl (mV rfl rfl (kv rfl .no Fx.go159 (Evc rfl (Evc rfl Evn)) (fun _=>contU_ok h l _ hs hl) ?_))))))))
 refine nt rfl .no (.u rfl) (aS rfl rfl (.nil (.code (.ret (We.fin0 Tryz.results106 (.tmp rfl .nil) ?_)))))
 exact ⟨rfl,rfl⟩
theorem cloneU_ok (h:Sh) (l:List Unit) (G:PM) (hs:SlR G 1 encNl h l) (hl:l.length≤10) (h0:0<l.length):Ct Tryz.prog 107 ([h.val l.length]:List Value).toArray G [] (fun G' μ' u=>∃ s,μ'=[]∧u=s.val l.length∧SlR G' 1 encNl s l):=by
 refine Ct.of Tryz.func107 rfl Tryz.ntmps107 rfl fun w0 hs0=>?_
 refine .seq (rq1 rfl rfl (aS rfl rfl (.nil (.code (.seq (.seq (rq2 rfl rfl (mV rfl rfl (sn0 rfl .no Fx.sn137 (.u rfl) (.u rfl) ?_)))))))))
 refine .nil (.code (.cond rfl (fun c1=>?_) (fun c1=>?_)))
 ·have c1k:=c1
  rw [hs.nn h0] at c1; cases c1
 have c1k:=c1
 try simp only [qcA,qcB] at c1
 refine .skip (.code (.seq (rq4 rfl rfl ?_)))
 refine b0B rfl Fx.se137 ?_; intro b5
 refine mV rfl rfl ?_
 refine apE (enc:=encNl) rfl Fx.se137 Fx.zv135 rfl (.u rfl) (.u rfl) hs h0 (fun _ _=>rfl) (fun u hu=>by obtain ⟨x,_,hx⟩:=List.mem_flatMap.1 hu; rw [List.mem_singleton.1 hx]; rfl) (by omega) (by unfold maxLen; omega) ?_; intro v7 ov7
 refine aS rfl rfl (.nil (.code (.ret ?_)))
 refine we_fs .here (fun _ _=>rfl) (by intro b hb; cases hb) ?_; intro GfR7 hR7 hleR7 evR7 hsR7; subst evR7
 refine We.fin0 Tryz.results107 (.tmp rfl .nil) ?_
 exact ⟨hR7,rfl,rfl,hsR7⟩
theorem merge0_ok (h:Sh) (l:List Unit) (G:PM) (hs:SlR G 1 encNl h l) (hl:l.length≤10) (h0:0<l.length):Ct Tryz.prog 53 ([h.val l.length]:List Value).toArray G [] (fun _ μ' u=>μ'=[]∧u=.slice none 0 0):=by
 refine Ct.of Tryz.func53 rfl Tryz.ntmps53 rfl fun w0 hs0=>?_
 refine .seq (rq1 rfl rfl (aS rfl rfl (.nil (.code (.seq (.seq (rq3 rfl rfl (mV rfl rfl (kv rfl .no Fx.go106 (Evc rfl Evn) (fun _=>mrisesU_ok h l _ hs hl) ?_)))))))))
 refine nt rfl .no (.u rfl) (.nil (.code (.cond rfl (fun c1=>?_) (fun c1=>?_))))
 ·have c1k:=c1
  cases c1
 have c1k:=c1
 try simp only [qcA,qcB] at c1
 refine .skip (.code (.seq (rq3 rfl rfl (mV rfl rfl (kc rfl Fx.go107 (Evc rfl Evn) (cloneU_ok h l _ hs hl h0) ?_)))))
 rintro _ G15 μ15 hG15 ⟨s15,rfl,rfl,hs15⟩
 refine aS rfl rfl (.nil (.code (.seq (rq1 rfl rfl (aS rfl rfl (.nil (.code (.block ?_))))))))
 refine Wk.lop (α:=Nat) (fun q=>[(4,true,.slice none 0 0)]) (fun _=>[])
  (fun q Gl=>True) (fun q=>0) 0 [(3,true,_)] []
  (esD rfl (esD rfl eZ))
  mN ?_ ?_
 ·trivial
 intro q N0 Gl0 hN0 hGl0 hF0
 try dsimp only at hF0 hN0 ⊢
 have hs15:=hs15.mono hGl0
 refine .block (.seq (rq1 rfl rfl (aS rfl rfl (.nil (.code (.seq (.seq (rq3 rfl rfl (mV rfl rfl (ln rfl .no Fx.sn137 (.u rfl) (mV rfl rfl (.nil (.code (.block ?_))))))))))))))
 refine Wk.lop (α:=Nat) (fun k=>[(5,true,.int .i64 (-1)),(18,true,.int .i64 (k:Int))]) (fun _=>[])
  (fun k Gl=>(k≤l.length)) (fun k=>l.length-k) 0 [(3,true,_),(4,true,_),(16,true,_),(17,true,_)] []
  (esC rfl (by first|rfl|exact evi (by omega)) (esC rfl (by first|rfl|exact evi (by omega)) (esD rfl (esD rfl (esD rfl (esD rfl eZ))))))
  mN ?_ ?_
 ·(try dsimp only)<;>(first|omega|rfl|assumption|(simp; done))
 intro k N1 Gl1 hN1 hGl1 hF1
 try dsimp only at hF1 hN1 ⊢
 have hk:=hF1
 have hs15:=hs15.mono hGl1
 refine .seq (rq1 rfl rfl (cp rfl .no (.u rfl) (.u rfl) rfl (.nil (.code (.seq (.cond rfl (fun c2=>?_) (fun c2=>?_)))))))
 ·have c2k:=c2
  try simp only [qcA,qcB] at c2
  refine .skip (.code (.seq (.block (.seq (rq5 rfl rfl (mV rfl rfl (ih rfl .no Fx.se137 (.u rfl) (.u rfl) (fun _=>by omega) (fun _=>by omega) (fun _=>hs15.nn (k:=k) (by first|omega|(simp only [Bool.and_eq_true,decide_eq_true_eq] at hc; omega)|(simp only [List.length_cons,List.length_nil]; omega))) ?_)))))))
  obtain ⟨x,ex⟩:=getx (k:=k) (xs:=l) (by omega)
  refine ld rfl .no Fx.ag135 (.u rfl) (fun _=>(hs15.at (by omega) ex 0 _ rfl).rd) (aS rfl rfl (aS rfl rfl (.nil (.code (.seq (Wk.draw (mc:=⟨false,false⟩) [0,1,2,3,4,5,6,7,8,9,10,11,12,13,14,15,16,17,18] Fx.mix (by kernel_rfl) ?_))))))
  refine mV rfl rfl (ln rfl .no Fx.sn135 (.u rfl) (cp rfl .no (.u rfl) (.u rfl) rfl (wo_b false (rfl) ?_)))
  refine mV rfl rfl (skp (.bool false) rfl rfl (Gd.t (b:=false) rfl rfl) ?_)
  refine skp (.bool false) rfl rfl (Gd.t (b:=false) rfl rfl) ?_
  refine skp (.bool false) rfl rfl (Gd.t (b:=false) rfl rfl) ?_
  refine skp (.bool false) rfl rfl (Gd.fc (c:=false) (b:=false) rfl rfl) ?_
  refine skp (.bool false) rfl rfl (Gd.fc (c:=false) (b:=false) rfl rfl) ?_
  refine skr (.bool false) rfl rfl (Gd.fc (c:=false) (b:=false) rfl rfl) ?_
  refine skp (.bool false) rfl rfl (Gd.fc (c:=false) (b:=false) rfl rfl) ?_
  refine skp (.bool false) rfl rfl (Gd.fc (c:=false) (b:=false) rfl rfl) ?_
  refine skp (.bool false) rfl rfl (Gd.fc (c:=false) (b:=false) rfl rfl) ?_
  refine skr (.bool false) rfl rfl (Gd.fc (c:=false) (b:=false) rfl rfl) ?_
  refine skp (.bool false) rfl rfl (Gd.fc (c:=false) (b:=false) rfl rfl) ?_
  refine skr (.bool false) rfl rfl (Gd.fc (c:=false) (b:=false) rfl rfl) ?_
  refine skc (.bool false) rfl rfl (Gd.fc (c:=false) (b:=false) rfl rfl) ?_
  refine skp (.bool false) rfl rfl (Gd.t (b:=false) rfl rfl) ?_
  refine pkA rfl .no (.u rfl) (.s rfl) (.nil (.code (.cond rfl (fun c3=>?_) (fun c3=>?_))))
  ·have c3k:=c3
   cases c3
  have c3k:=c3
  try simp only [qcA,qcB] at c3
  refine .skip (.blk (.code (rq2 rfl rfl (arn (((k+1):Nat):Int) rfl .no (.u rfl) (.u rfl) rfl (fun _=>by omega) (fun _=>wrap_i64 (by omega) (by omega)) ?_))))
  refine mV rfl rfl (.nil (We.lpo (k+1) ?_ ?_ ?_ ?_ ?_))
  ·exact (esC rfl (by first|rfl|exact evi (by omega)) (esC rfl (by first|rfl|exact evi (by omega)) (esD rfl (esD rfl (esD rfl (esD rfl eZ))))))
  ·exact mN
  ·first|omega|(dsimp only; omega)
  ·exact hGl1
  (try dsimp only)<;>(first|omega|rfl|assumption|(simp; done))
 have c2k:=c2
 try simp only [qcA,qcB] at c2
 refine .exit (.xcode (.xlp (.xblk (.code (.seq (.seq (rq2 rfl rfl (mV rfl rfl (cp rfl .no (.u rfl) (.u rfl) rfl (.nil (.code (.cond rfl (fun c4=>?_) (fun c4=>?_)))))))))))))
 ·have c4k:=c4
  try simp only [qcA,qcB] at c4
  refine .seq (rq2 rfl rfl (mV rfl rfl (aS rfl rfl (.nil (.code (.ret (We.fin0 Tryz.results53 (.tmp rfl .nil) ?_)))))))
  exact ⟨rfl,rfl⟩
 have c4k:=c4
 cases c4
theorem view0_ok (q:BitVec 64) (G:PM):Ct Tryz.prog 52 ([.slice none 0 0,uv .u64 q]:List Value).toArray G [] (fun _ μ' u=>μ'=[]∧u=.slice none 0 0):=by
 refine Ct.of Tryz.func52 rfl Tryz.ntmps52 rfl fun w0 hs0=>?_
 refine .seq (rq1 rfl rfl (aS rfl rfl (.nil (.code (.seq (.seq (rq4 rfl rfl (mV rfl rfl ?_))))))))
 refine Go.Tan.b1 rfl Fx.se137 Fx.zv135 (.u rfl) rfl rfl (by decide) ?_; intro b10
 refine kp rfl .no Fx.go106 (Evc rfl Evn) (Gp.add .here Gp.nil) (fun _ hle hq=>mrises0_ok b10 _ ⟨PM.add_same _ _ _⟩) ?_
 refine nt rfl .no (.u rfl) (.nil (.code (.cond rfl (fun c1=>?_) (fun c1=>?_))))
 ·have c1k:=c1
  cases c1
 have c1k:=c1
 try simp only [qcA,qcB] at c1
 refine .skip (.code (.seq (rq1 rfl rfl (aS rfl rfl (.nil (.code (.seq (rq1 rfl rfl (aS rfl rfl (.nil (.code (.seq (.seq (rq3 rfl rfl (mV rfl rfl (ln rfl .no Fx.sn135 (.u rfl) (mV rfl rfl (.nil (.code (.block ?_))))))))))))))))))))
 refine Wk.lop (α:=Nat) (fun k=>[(5,true,.slice none 0 0),(6,true,.int .i64 (-1)),(15,true,.int .i64 (k:Int))]) (fun _=>[])
  (fun k Gl=>(k=0)) (fun k=>0) 0 [(0,true,_),(1,true,_),(13,true,_),(14,true,_)] [_]
  (esD rfl (esC rfl (by first|rfl|exact evi (by omega)) (esC rfl (by first|rfl|exact evi (by omega)) (esD rfl (esD rfl (esD rfl (esD rfl eZ)))))))
  (mS .here rfl mN) ?_ ?_
 ·(try dsimp only)<;>(first|omega|rfl|assumption|(simp; done))
 intro k N0 Gl0 hN0 hGl0 hF0
 try dsimp only at hF0 hN0 ⊢
 have hk:=hF0
 refine .seq (rq1 rfl rfl (cp rfl .no (.u rfl) (.u rfl) rfl (.nil (.code (.seq (.cond rfl (fun c2=>?_) (fun c2=>?_)))))))
 ·have c2k:=c2
  subst hk; cases c2
 have c2k:=c2
 try simp only [qcA,qcB] at c2
 refine .exit (.xcode (.xlp (.xblk (.code (.seq (rq2 rfl rfl (mV rfl rfl (aS rfl rfl (.nil (.code (.ret (We.fin0 Tryz.results52 (.tmp rfl .nil) ?_))))))))))))
 exact ⟨rfl,rfl⟩
theorem range0_ok (a b:ByteArray) (G:PM):Ct Tryz.prog 51 ([.slice none 0 0,.string a,.string b]:List Value).toArray G [] (fun _ μ' u=>μ'=[]∧u=.slice none 0 0):=by
 refine Ct.of Tryz.func51 rfl Tryz.ntmps51 rfl fun w0 hs0=>?_
 refine .seq (rq1 rfl rfl (aS rfl rfl (.nil (.code (.seq (rq1 rfl rfl (aS rfl rfl (.nil (.code (.seq (.seq (rq3 rfl rfl (mV rfl rfl (ln rfl .no Fx.sn47 (.u rfl) (mV rfl rfl (.nil (.code (.block ?_))))))))))))))))))
 refine Wk.lop (α:=Nat) (fun k=>[(7,true,.slice none 0 0),(12,true,.int .i64 (k:Int))]) (fun _=>[])
  (fun k Gl=>(k=0)) (fun k=>0) 0 [(1,true,_),(2,true,_),(10,true,_),(11,true,_)] []
  (esD rfl (esC rfl (by first|rfl|exact evi (by omega)) (esD rfl (esD rfl (esD rfl (esD rfl eZ))))))
  mN ?_ ?_
 ·(try dsimp only)<;>(first|omega|rfl|assumption|(simp; done))
 intro k N0 Gl0 hN0 hGl0 hF0
 try dsimp only at hF0 hN0 ⊢
 have hk:=hF0
 refine .seq (rq1 rfl rfl (cp rfl .no (.u rfl) (.u rfl) rfl (.nil (.code (.seq (.cond rfl (fun c1=>?_) (fun c1=>?_)))))))
 ·have c1k:=c1
  subst hk; cases c1
 have c1k:=c1
 try simp only [qcA,qcB] at c1
 refine .exit (.xcode (.xlp (.xblk (.code (.seq (rq2 rfl rfl (mV rfl rfl (aS rfl rfl (.nil (.code (.ret (We.fin0 Tryz.results51 (.tmp rfl .nil) ?_))))))))))))
 exact ⟨rfl,rfl⟩
end Go.Proofs.YtggleibgadkodaaGreatDoor
