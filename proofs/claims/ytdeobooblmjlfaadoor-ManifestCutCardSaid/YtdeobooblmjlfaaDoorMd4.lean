/- Lemmas and contracts of functions, joined. -/
import Derived.Test.YtdeobooblmjlfaaDoorMd3
set_option linter.unusedSimpArgs false
set_option linter.unusedVariables false
set_option linter.unusedSectionVars false
namespace Go.Proofs.YtdeobooblmjlfaaDoor
open Go.Tan Go.RowKit
namespace FxVerP
theorem ag5:aggN Tryd.prog 5=some none:=by kernel_rfl
theorem ag24:aggN Tryd.prog 24=some none:=by kernel_rfl
theorem ag3:aggN Tryd.prog 3=some none:=by kernel_rfl
theorem mix:Tryd.prog.follows .mixedOrders=true:=by kernel_rfl
end FxVerP
namespace Fx
theorem fo67_0:fOff Tryd.prog 67 0=some 0:=by kernel_rfl
theorem fo67_3:fOff Tryd.prog 67 3=some 3:=by kernel_rfl
theorem fo67_7:fOff Tryd.prog 67 7=some 7:=by kernel_rfl
theorem ag9:aggN Tryd.prog 9=some none:=by kernel_rfl
theorem fo67_6:fOff Tryd.prog 67 6=some 6:=by kernel_rfl
theorem st9:strT Tryd.prog 9=true:=by kernel_rfl
theorem fo67_5:fOff Tryd.prog 67 5=some 5:=by kernel_rfl
theorem fo67_4:fOff Tryd.prog 67 4=some 4:=by kernel_rfl
theorem fo27_2:fOff Tryd.prog 27 2=some 6:=by kernel_rfl
theorem fo67_1:fOff Tryd.prog 67 1=some 1:=by kernel_rfl
theorem fo27_5:fOff Tryd.prog 27 5=some 9:=by kernel_rfl
theorem ar25:arE Tryd.prog 25=some (5,24,1):=by kernel_rfl
end Fx
theorem stands_ok (a b:Meta) (G:PM) (h0:0≤a.level):Ct Tryd.prog 28 ([a.val,b.val]:List Value).toArray G [] (fun _ μ' u=>μ'=[]∧u=.bool (pairOk a.level a b)):=by
 refine Ct.of Tryd.func28 rfl Tryd.ntmps28 rfl fun w0 hs0=>?_
 refine .seq (Wk.rg [0,1,2] rfl rfl ?_)
 refine bx rfl (.u rfl) rfl ?_; intro b2
 refine bx rfl (.u rfl) rfl ?_; intro b3
 refine asg rfl .no (.u rfl) (.nil (.code (.seq (.seq (Wk.rg [0,1,2] rfl rfl (fz rfl .no Fx.fo67_0 (.u rfl) (ld rfl .no FxVerP.ag5 (.u rfl) (fun _=>Rd.own (.there .here) rfl) ?_)))))))
 refine cp rfl .no (.u rfl) (.u rfl) rfl (.nil (.code (.cond rfl (fun c1=>?_) (fun c1=>?_))))
 ·have c1k:=c1
  try simp only [qcA] at c1
  refine .seq (Wk.rg [0,1,2,3,4,5] rfl rfl (fz rfl .no Fx.fo67_3 (.u rfl) (ld rfl .no FxVerP.ag24 (.u rfl) (fun _=>Rd.own (.there .here) rfl) ?_)))
  refine fz rfl .no Fx.fo67_3 (.u rfl) (ld rfl .no FxVerP.ag24 (.u rfl) (fun _=>Rd.own .here rfl) ?_)
  refine cp rfl .no (.u rfl) (.u rfl) rfl (asg rfl .no (.u rfl) (.nil (.code (.ret (We.fin0 Tryd.results28 (.tmp rfl .nil) ?_)))))
  exact ⟨rfl,congrArg Value.bool (by rw [← stands_eq a b h0,if_pos c1k])⟩
 have c1k:=c1
 try simp only [qcA] at c1
 refine .skip (.code (.seq (Wk.rg [0,1,2,3,4,5] rfl rfl (fz rfl .no Fx.fo67_7 (.u rfl) (ld rfl .no Fx.ag9 (.u rfl) (fun _=>Rd.own (.there .here) rfl) ?_)))))
 refine fz rfl .no Fx.fo67_6 (.u rfl) (ld rfl .no Fx.ag9 (.u rfl) (fun _=>Rd.own .here rfl) ?_)
 refine cs rfl .no (.u rfl) (.u rfl) rfl (asg rfl .no (.u rfl) (.nil (.code (.ret (We.fin0 Tryd.results28 (.tmp rfl .nil) ?_)))))
 exact ⟨rfl,congrArg Value.bool (by rw [← stands_eq a b h0,if_neg (by rw [c1k]; simp)]; rfl)⟩
theorem fits_ok (s:State) (hd:Nat→Sh) (m:Meta) (b:Nat) (G:PM) (hp:RdNP G b 0 (s.cells hd)) (h0:0≤m.level):Ct Tryd.prog 27 ([.pointer (some ⟨b,0,none⟩),m.val]:List Value).toArray G [] (fun _ μ' u=>μ'=[]∧u=.bool (good s m)):=by
 refine Ct.of Tryd.func27 rfl Tryd.ntmps27 rfl fun w0 hs0=>?_
 refine .seq (Wk.rg [0,1] rfl rfl ?_)
 refine bx rfl (.u rfl) rfl ?_; intro b3
 refine asg rfl .no (.u rfl) (.nil (.code (.seq (.block (.seq (.seq (Wk.rg [0,1,2,3] rfl rfl (fz rfl .no Fx.fo67_0 (.u rfl) (ld rfl .no FxVerP.ag5 (.u rfl) (fun _=>Rd.own .here rfl) ?_)))))))))
 refine cp rfl .no (.u rfl) (.u rfl) rfl (asg rfl .no (.u rfl) (.nil (.code (.cond rfl (fun c1=>?_) (fun c1=>?_)))))
 ·have c1k:=c1
  try simp only [qcA] at c1
  refine .skip (.code (Wk.condT rfl c1k ?_))
  refine .seq (Wk.rg [0] rfl rfl (asg rfl .no (.u rfl) (.nil (.code (.ret (We.fin0 Tryd.results27 (.tmp rfl .nil) ?_))))))
  exact ⟨rfl,by simp [tup,good]; omega⟩
 have c1k:=c1
 try simp only [qcA] at c1
 refine .seq (Wk.rg [0,1,2,3,4,5] rfl rfl (fz rfl .no Fx.fo67_6 (.u rfl) (ld rfl .no Fx.ag9 (.u rfl) (fun _=>Rd.own .here rfl) ?_)))
 refine fz rfl .no Fx.fo67_7 (.u rfl) (ld rfl .no Fx.ag9 (.u rfl) (fun _=>Rd.own .here rfl) ?_)
 refine cs rfl .no (.u rfl) (.u rfl) rfl (asg rfl .no (.u rfl) (.nil (.code (.cond rfl (fun c2=>?_) (fun c2=>?_)))))
 ·have c2k:=c2
  try simp only [qcA] at c2
  refine .skip (.code (Wk.condT rfl c2k ?_))
  refine .seq (Wk.rg [0] rfl rfl (asg rfl .no (.u rfl) (.nil (.code (.ret (We.fin0 Tryd.results27 (.tmp rfl .nil) ?_))))))
  exact ⟨rfl,by have h:le m.min m.max=false:=(by simpa [le] using c2k); simp [tup,good,h]⟩
 have c2k:=c2
 try simp only [qcA] at c2
 refine .seq (Wk.rg [0,1,2,3,4,5,6,7,8] rfl rfl (fz rfl .no Fx.fo67_6 (.u rfl) (ld rfl .no Fx.ag9 (.u rfl) (fun _=>Rd.own .here rfl) ?_)))
 refine ls rfl .no Fx.st9 (.u rfl) (fz rfl .no Fx.fo67_7 (.u rfl) (ld rfl .no Fx.ag9 (.u rfl) (fun _=>Rd.own .here rfl) ?_))
 refine ls rfl .no Fx.st9 (.u rfl) (mA rfl .no (.u rfl) (.u rfl) ?_)
 refine cp rfl .no (.u rfl) (.u rfl) rfl (asg rfl .no (.u rfl) (.nil (.code (.cond rfl (fun c3=>?_) (fun c3=>?_)))))
 ·have c3k:=c3
  try simp only [qcA] at c3
  refine .skip (.code (Wk.condT rfl c3k ?_))
  refine .seq (Wk.rg [0] rfl rfl (asg rfl .no (.u rfl) (.nil (.code (.ret (We.fin0 Tryd.results27 (.tmp rfl .nil) ?_))))))
  exact ⟨rfl,by simp [tup,good]; omega⟩
 have c3k:=c3
 try simp only [qcA] at c3
 refine .seq (Wk.rg [0,1,2,3] rfl rfl (fz rfl .no Fx.fo67_5 (.u rfl) (ld rfl .no FxVerP.ag3 (.u rfl) (fun _=>Rd.own .here rfl) ?_)))
 refine cp rfl .no (.u rfl) (.u rfl) rfl (asg rfl .no (.u rfl) (.nil (.code (.cond rfl (fun c4=>?_) (fun c4=>?_)))))
 ·have c4k:=c4
  try simp only [qcA] at c4
  refine .skip (.code (Wk.condT rfl c4k ?_))
  refine .seq (Wk.rg [0] rfl rfl (asg rfl .no (.u rfl) (.nil (.code (.ret (We.fin0 Tryd.results27 (.tmp rfl .nil) ?_))))))
  exact ⟨rfl,by simp [tup,good]; omega⟩
 have c4k:=c4
 try simp only [qcA] at c4
 refine Wk.rg [0,1,2,3] rfl rfl (fz rfl .no Fx.fo67_4 (.u rfl) (ld rfl .no FxVerP.ag3 (.u rfl) (fun _=>Rd.own .here rfl) ?_))
 refine cp rfl .no (.u rfl) (.u rfl) rfl (asg rfl .no (.u rfl) (.nil (.code (.cond rfl (fun c5=>?_) (fun c5=>?_)))))
 ·have c5k:=c5
  try simp only [qcA] at c5
  refine .seq (Wk.rg [0] rfl rfl (asg rfl .no (.u rfl) (.nil (.code (.ret (We.fin0 Tryd.results27 (.tmp rfl .nil) ?_))))))
  exact ⟨rfl,by simp [tup,good]; omega⟩
 have c5k:=c5
 try simp only [qcA] at c5
 refine .skip (.blk (.code (.seq (Wk.draw (mc:=⟨false,false⟩) [0,1,2,3,4,5,6,7,8,9,10,11,12,13,14,15,16,17,18,19] FxVerP.mix (by kernel_rfl) ?_))))
 refine fz rfl .no Fx.fo67_3 (.u rfl) (ld rfl .no FxVerP.ag24 (.u rfl) (fun _=>Rd.own .here rfl) ?_)
 refine mv rfl .no (.u rfl) (nc rfl .no (.u rfl) (fz rfl .no Fx.fo27_2 (.u rfl) (ld rfl .no FxVerP.ag24 (.u rfl) (fun _=>(hp.z rfl).rd) ?_)))
 refine cp rfl .no (.u rfl) (.u rfl) rfl (mv rfl .no (.u rfl) (fz rfl (.t rfl rfl) Fx.fo67_1 (.u rfl) (ld rfl (.t rfl rfl) FxVerP.ag24 (.s rfl) (fun _=>Rd.own .here rfl) ?_)))
 refine mv rfl (.t rfl rfl) (.u rfl) (fz rfl (.t rfl rfl) Fx.fo67_0 (.u rfl) (ld rfl (.t rfl rfl) FxVerP.ag5 (.s rfl) (fun _=>Rd.own .here rfl) ?_))
 refine nc rfl (.t rfl rfl) (.s rfl) (fz rfl (.t rfl rfl) Fx.fo27_5 (.s rfl) (iA rfl (.t rfl rfl) Fx.ar25 (.s rfl) (.s rfl) (fun hc=>by omega) (fun hc=>by omega) ?_))
 refine ld rfl (.t rfl rfl) FxVerP.ag24 (.s rfl) (fun hc=>(hp.z (s.cell_gen hd (by omega))).rd) ?_
 refine cp rfl (.t rfl rfl) (.s rfl) (.s rfl) rfl (pkA rfl .no (.u rfl) (.s rfl) (asg rfl .no (.u rfl) (.nil (.code (.ret (We.fin0 Tryd.results27 (.tmp rfl .nil) ?_))))))
 exact ⟨rfl,fits_fin c1 c2k c3 c4 c5⟩
namespace FxVerQ
theorem cv5_3:cvK Tryd.prog 5 3=some .i64:=by kernel_rfl
end FxVerQ
namespace Fx
theorem fo27_3:fOff Tryd.prog 27 3=some 7:=by kernel_rfl
theorem fo27_4:fOff Tryd.prog 27 4=some 8:=by kernel_rfl
theorem fo27_1:fOff Tryd.prog 27 1=some 5:=by kernel_rfl
theorem fo27_0:fOff Tryd.prog 27 0=some 0:=by kernel_rfl
theorem ag23:aggN Tryd.prog 23=some (some 5):=by kernel_rfl
theorem ar23:arE Tryd.prog 23=some (5,22,1):=by kernel_rfl
theorem ag22:aggN Tryd.prog 22=some none:=by kernel_rfl
theorem se22:slE Tryd.prog 22=some (67,40,112):=by kernel_rfl
theorem sn22:(slE Tryd.prog 22).isSome=true:=by kernel_rfl
theorem ag67:aggN Tryd.prog 67=some (some 40):=by kernel_rfl
theorem zq67:zrL Tryd.prog 67=some (Meta.zero.cells):=by kernel_rfl
theorem sz67:szT Tryd.prog 67=some 40:=by kernel_rfl
theorem mp80:mpE Tryd.prog 80=some (.u64,3):=by kernel_rfl
theorem zv3:(Tryd.prog.info? 3).bind (·.zero)=some (.int .i64 0):=by kernel_rfl
theorem go27:goFn Tryd.prog 27=true:=by kernel_rfl
theorem go28:goFn Tryd.prog 28=true:=by kernel_rfl
end Fx
set_option maxHeartbeats 1000000 in
theorem vRight_ok (s:State) (hd:Nat→Sh) (G:PM) (hs:StR G s hd):Ct Tryd.prog 15 ([s.val hd]:List Value).toArray G [] (fun _ μ' u=>μ'=[]∧u=.bool (rightS s)):=by
 refine Ct.of Tryd.func15 rfl Tryd.ntmps15 rfl fun w0 hs0=>?_
 refine .seq (Wk.rg [0,1] rfl rfl ?_)
 refine bx rfl (.u rfl) rfl ?_; intro b1
 refine asg rfl .no (.u rfl) (.nil (.code (.seq (.seq (Wk.rg [0,1,2,3,4,5,6,7,8,9,10,11,12] rfl rfl (fz rfl .no Fx.fo27_3 (.u rfl) (ld rfl .no FxVerP.ag24 (.u rfl) (fun _=>Rd.own .here rfl) ?_)))))))
 refine fz rfl .no Fx.fo27_4 (.u rfl) (ld rfl .no FxVerP.ag24 (.u rfl) (fun _=>Rd.own .here rfl) ?_)
 refine mA rfl .no (.u rfl) (.u rfl) ?_
 refine cp rfl .no (.u rfl) (.u rfl) rfl (mv rfl .no (.u rfl) (fz rfl (.f rfl rfl) Fx.fo27_1 (.u rfl) (ld rfl (.f rfl rfl) FxVerP.ag24 (.s rfl) (fun _=>Rd.own .here rfl) ?_)))
 refine fz rfl (.f rfl rfl) Fx.fo27_2 (.u rfl) (ld rfl (.f rfl rfl) FxVerP.ag24 (.s rfl) (fun _=>Rd.own .here rfl) ?_)
 refine cp rfl (.f rfl rfl) (.s rfl) (.s rfl) rfl (pkO rfl .no (.u rfl) (.s rfl) (.nil (.code (.cond rfl (fun c1=>?_) (fun c1=>?_)))))
 ·have c1k:=c1
  try simp only [qcA] at c1
  refine .seq (Wk.rg [0] rfl rfl (asg rfl .no (.u rfl) (.nil (.code (.ret (We.fin0 Tryd.results15 (.tmp rfl .nil) ?_))))))
  exact ⟨rfl,fin_false (rs_max c1)⟩
 have c1k:=c1
 try simp only [qcA] at c1
 refine .skip (.code (.seq (Wk.rg [0,1] rfl rfl ?_)))
 refine mk rfl .u64 ?_; intro b22
 refine asg rfl .no (.u rfl) (.nil (.code (.seq (Wk.rg [0] rfl rfl (asg rfl .no (.u rfl) (.nil (.code (.seq (.seq (Wk.rg [0,1,2] rfl rfl (fz rfl .no Fx.fo27_0 (.u rfl) (lA rfl .no Fx.ag23 (.u rfl) (fun _=>RdN.part (n:=5) (.there .here) rfl) (fun _=>rfl) ?_))))))))))))
 refine mv rfl .no (.u rfl) (.nil (.code (.block ?_)))
 refine Wk.lop (α:=Nat) (fun i=>[(4,true,.int .i64 (1024-tot s i)),(25,true,.int .i64 (i:Int))]) (fun i=>[.mp b22 .u64 (cntM (nums (allM s i)))])
  (fun i Gl=>i≤5∧tot s i≤1024∧(∀ j,j<i→LvOk s j (s.lv j))∧Dist (allM s i)) (fun i=>5-i) 0 [(1,true,_),(3,true,_),(24,true,_)] [.blk b1 _]
  (ESub.c rfl (ESub.c rfl (ESub.c rfl (ESub.c rfl (ESub.c rfl ESub.nil)))))
  (MSub.cons .here rfl (MSub.cons .here rfl MSub.nil)) ?_ ?_
 ·exact ⟨by omega,by simp [tot],fun j hj=>by omega,dist_nil⟩
 intro i N0 Gl0 hN0 hGl0 hF0
 try dsimp only at hF0 hN0 ⊢
 obtain ⟨hi,ht,hall,hdi⟩:=hF0
 refine .seq (Wk.rg [0] rfl rfl (cp rfl .no (.u rfl) (.u rfl) rfl (.nil (.code (.seq (.cond rfl (fun c2=>?_) (fun c2=>?_)))))))
 ·have c2k:=c2
  try simp only [qcA] at c2
  refine .skip (.code (.seq (.block (.seq (Wk.rg [0,1,2,3] rfl rfl ?_)))))
  have hli:=hs.len i (by omega); have htn:=tot_nonneg s i
  refine mv rfl .no (.u rfl) (ix rfl .no Fx.ar23 Fx.ag22 (.u rfl) (.u rfl) (fun _=>by omega) (fun _=>by omega) (fun _=>(s.arr_lv hd (k:=i) (by omega))) ?_)
  refine asg rfl .no (.u rfl) (asg rfl .no (.u rfl) (.nil (.code (.seq (.seq (Wk.rg [0,1,2,3] rfl rfl (mv rfl .no (.u rfl) (ln rfl .no Fx.sn22 (.u rfl) (mv rfl .no (.u rfl) (cp rfl .no (.u rfl) (.u rfl) rfl (.nil (.code (.cond rfl (fun c3=>?_) (fun c3=>?_))))))))))))))
  ·have c3k:=c3
   try simp only [qcA] at c3
   refine .seq (Wk.rg [0] rfl rfl (asg rfl .no (.u rfl) (.nil (.code (.ret (We.fin0 Tryd.results15 (.tmp rfl .nil) ?_))))))
   exact ⟨rfl,fin_false (rs_few (by omega) c3)⟩
  have c3k:=c3
  try simp only [qcA] at c3
  refine .skip (.code (.seq (Wk.rg [0,1,2,3,4] rfl rfl (mv rfl .no (.u rfl) (mv rfl .no (.u rfl) (ln rfl .no Fx.sn22 (.u rfl) (ar rfl .no (.u rfl) (.u rfl) rfl (fun _=>wrap_i64 (by omega) (by omega)) ?_)))))))
  refine asg rfl .no (.u rfl) (.nil (.code (.seq (Wk.rg [0,1,2] rfl rfl (mv rfl .no (.u rfl) (ln rfl .no Fx.sn22 (.u rfl) (mv rfl .no (.u rfl) (.nil (.code (.block ?_))))))))))
  refine Wk.lop (α:=Nat) (fun k=>[(39,true,.int .i64 (k:Int))]) (fun k=>[.mp b22 .u64 (cntM (nums (allM s i++(s.lv i).take k)))])
   (fun k Gl=>Part s i k) (fun k=>(s.lv i).length-k) 0 [(1,true,_),(3,true,_),(4,true,_),(5,true,_),(6,true,_),(24,true,_),(25,true,_),(37,true,_),(38,true,_)] [.blk b1 _]
   (ESub.c rfl (ESub.c rfl (ESub.c rfl (ESub.c rfl (ESub.c rfl (ESub.c rfl (ESub.c rfl (ESub.c rfl (ESub.c rfl (ESub.c rfl ESub.nil))))))))))
   (MSub.cons .here (cnt_zero s i _) (MSub.cons .here rfl MSub.nil)) ?_ ?_
  ·exact Part.zero hdi
  intro k N1 Gl1 hN1 hGl1 hF1
  try dsimp only at hF1 hN1 ⊢
  have hP:Part s i k:=hF1; have hkl:=hP.le
  refine .seq (Wk.rg [0] rfl rfl (cp rfl .no (.u rfl) (.u rfl) rfl (.nil (.code (.seq (.cond rfl (fun c4=>?_) (fun c4=>?_)))))))
  ·have c4k:=c4
   try simp only [qcA] at c4
   refine .skip (.code (.seq (.block (.seq (Wk.rg [0,1,2,3,4,5] rfl rfl ?_)))))
   have hwf:=(hs.wf i (by omega) _ (getD_mem (k:=k) (by omega))).level; have hcb:=cnt_bd (nums (allM s i++(s.lv i).take k)) ((s.lv i).getD k Meta.zero).number
   refine mv rfl .no (.u rfl) (ih rfl .no Fx.se22 (.u rfl) (.u rfl) (fun _=>by omega) (fun _=>by omega) (fun _=>(hs.lv i (by omega)).nn (k:=k) (by omega)) ?_)
   refine lA rfl .no Fx.ag67 (.u rfl) (fun _=>((((hs.mono hGl0).mono hGl1).lv i (by omega)).gat k (by omega) (by omega)).rd) (fun _=>rfl) ?_
   refine al rfl Fx.zq67 ?_; intro b8
   refine asg rfl .no (.u rfl) (sw rfl (.u rfl) (.u rfl) rfl Fx.sz67 .here rfl (Meta.one _) ?_)
   refine .nil (.code (.seq (Wk.rg [0,1,2,3,4,5] rfl rfl (mv rfl .no (.u rfl) (fz rfl .no Fx.fo67_3 (.u rfl) (ld rfl .no FxVerP.ag24 (.u rfl) (fun _=>Rd.own .here rfl) ?_))))))
   refine lk rfl .no Fx.mp80 Fx.zv3 (.u rfl) (.u rfl) (.there .here) (cnt_get _ _) ?_
   refine ar rfl .no (.u rfl) (.u rfl) rfl (fun _=>wrap_i64 (by omega) (by omega)) ?_
   refine mu rfl Fx.mp80 (.u rfl) (.u rfl) (.u rfl) (.there .here) ?_
   refine .nil (.code (.seq (Wk.draw (mc:=⟨false,false⟩) [0,1,2,3,4,5,6,7,8,9,10,11,12,13,14,15,16,17,18,19,20,21,22,23,24,25,26,27,28,29,30] FxVerP.mix (by kernel_rfl) ?_)))
   refine fz rfl .no Fx.fo67_0 (.u rfl) (ld rfl .no FxVerP.ag5 (.u rfl) (fun _=>Rd.own (.there .here) rfl) ?_)
   refine cw rfl .no FxVerQ.cv5_3 (.u rfl) (fun _=>wrap_i64 (by omega) (by omega)) ?_
   refine mv rfl .no (.u rfl) (cp rfl .no (.u rfl) (.u rfl) rfl (mv rfl .no (.u rfl) (lA rfl (.f rfl rfl) Fx.ag67 (.u rfl) (fun _=>RdN.own (.there .here)) (fun _=>rfl) ?_)))
   refine kp rfl (.f rfl rfl) Fx.go27 (Evc rfl (Eva.cons (.s rfl) Evn)) (Gp.add (.there (.there .here)) Gp.nil) (fun hc hle hq=>fits_ok s hd _ b1 _ RdNP.add hwf.1) ?_
   refine nt rfl (.f rfl rfl) (.s rfl) (pkO rfl .no (.u rfl) (.s rfl) (mv rfl .no (.u rfl) (mv rfl (.f rfl rfl) (.u rfl) (fz rfl (.f rfl rfl) Fx.fo67_3 (.u rfl) (ld rfl (.f rfl rfl) FxVerP.ag24 (.s rfl) (fun _=>Rd.own (.there .here) rfl) ?_)))))
   refine lk rfl (.f rfl rfl) Fx.mp80 Fx.zv3 (.s rfl) (.s rfl) .here (cnt_upd _ _ _ _) ?_
   refine cp rfl (.f rfl rfl) (.s rfl) (.u rfl) rfl (pkO rfl .no (.u rfl) (.s rfl) (mv rfl .no (.u rfl) (mv rfl (.f rfl rfl) (.u rfl) (cp rfl (.f rfl rfl) (.s rfl) (.u rfl) rfl (mv rfl (.f rfl rfl) (.s rfl) (mv rfl (.tc rfl rfl) (.u rfl) (mv rfl (.tc rfl rfl) (.u rfl) (ar rfl (.tc rfl rfl) (.s rfl) (.u rfl) rfl (fun hc=>wrap_i64 (by omega) (by omega)) ?_))))))))
   refine ih rfl (.tc rfl rfl) Fx.se22 (.s rfl) (.s rfl) (fun hc=>by simp only [Bool.and_eq_true,decide_eq_true_eq] at hc; omega) (fun hc=>by simp only [Bool.and_eq_true,decide_eq_true_eq] at hc; omega) (fun hc=>(hs.lv i (by omega)).nn (k:=k) (by omega)) ?_
   refine lA rfl (.tc rfl rfl) Fx.ag67 (.s rfl) (fun hc=>((((hs.mono hGl0).mono hGl1).lv i (by omega)).gat (k-1) (by simp only [Bool.and_eq_true,decide_eq_true_eq] at hc; omega) (by omega)).rd) (fun _=>rfl) ?_
   refine lA rfl (.tc rfl rfl) Fx.ag67 (.u rfl) (fun _=>RdN.own (.there .here)) (fun _=>rfl) ?_
   refine kv rfl (.tc rfl rfl) Fx.go28 (Eva.cons (.s rfl) (Eva.cons (.s rfl) Evn)) (fun hc=>stands_ok _ _ _ (hs.wf i (by omega) _ (getD_mem (by simp only [Bool.and_eq_true,decide_eq_true_eq] at hc; omega))).level.1) ?_
   refine nt rfl (.tc rfl rfl) (.s rfl) (pkA rfl (.f rfl rfl) (.s rfl) (.s rfl) (pkO rfl .no (.u rfl) (.s rfl) (.nil (.code (.cond rfl (fun c5=>?_) (fun c5=>?_))))))
   ·have c5k:=c5
    try simp only [qcA] at c5
    refine .seq (Wk.rg [0] rfl rfl (asg rfl .no (.u rfl) (.nil (.code (.ret (We.fin0 Tryd.results15 (.tmp rfl .nil) ?_))))))
    exact ⟨rfl,fin_false (rt_bad (by omega) (by omega) hP c5k)⟩
   have c5k:=c5
   try simp only [qcA] at c5
   refine .skip (.blk (.code (Wk.rg [0,1] rfl rfl (ar rfl .no (.u rfl) (.u rfl) rfl (fun _=>wrap_i64 (by omega) (by omega)) ?_))))
   refine mv rfl .no (.u rfl) (.nil ?_)
   have hst:=rt_good (by omega) hP c5k
   refine We.lpo (k+1) ?_ ?_ ?_ ?_ ?_
   ·exact (ESub.c rfl (ESub.c rfl (ESub.c rfl (ESub.c rfl (ESub.c rfl (ESub.c rfl (ESub.c rfl (ESub.c rfl (ESub.c rfl (ESub.c rfl ESub.nil))))))))))
   ·exact (MSub.cons .here (cnt_step (by omega) hst.2) (MSub.cons (.there .here) rfl MSub.nil))
   ·first|omega|(dsimp only; omega)
   ·exact hGl1
   exact hst.1
  have c4k:=c4
  try simp only [qcA] at c4
  refine .exit (.xcode (.xlp (.xblk (.blk (.code (Wk.rg [0,1] rfl rfl (ar rfl .no (.u rfl) (.u rfl) rfl (fun _=>wrap_i64 (by omega) (by omega)) ?_)))))))
  refine mv rfl .no (.u rfl) (.nil (We.lpo (i+1) ?_ ?_ ?_ ?_ ?_))
  ·exact (ESub.cons rfl (congrArg _ (by rw [show tot s (i+1)=tot s i+(s.lv i).length from rfl]; omega)) (ESub.c rfl (ESub.c rfl (ESub.c rfl (ESub.c rfl ESub.nil)))))
  ·exact (MSub.cons .here (cnt_next (by omega)) (MSub.cons .here rfl MSub.nil))
  ·first|omega|(dsimp only; omega)
  ·exact hGl0.trans hGl1
  exact ⟨by omega,by rw [show tot s (i+1)=tot s i+(s.lv i).length from rfl]; omega,fun j hj=>(by by_cases e:j=i; (subst e; exact hP.lvOk (by omega)); exact hall j (by omega)),hP.next (by omega)⟩
 have c2k:=c2
 try simp only [qcA] at c2
 refine .exit (.xcode (.xlp (.xblk (.code (.seq (Wk.rg [0] rfl rfl (asg rfl .no (.u rfl) (.nil (.code (.ret (We.fin0 Tryd.results15 (.tmp rfl .nil) ?_)))))))))))
 exact ⟨rfl,fin_true (rs_done c1 (by omega) ht hall hdi)⟩
theorem idx_ok (h:Sh) (l:List Meta) (G:PM) (hs:SlR G 40 Meta.cells h l) (hl:l.length*112≤140737488351232) (f:Nat) (hf:goFn Tryd.prog f=true) (vc:List Value) (p:Meta→Bool) (hc:∀ G',PM.le G G'→∀ m∈l,Ct Tryd.prog f ([m.val]++vc).toArray G' [] fun _ μ' u=>μ'=[]∧u=.bool (p m)):Ct Tryd.prog 51 ([h.val l.length,.func (.func f) #[] vc.toArray]:List Value).toArray G [] (fun _ μ' u=>μ'=[]∧u=.int .i64 (idxI p l)):=by
 refine Ct.of Tryd.func51 rfl Tryd.ntmps51 rfl fun w0 hs0=>?_
 refine .seq (Wk.rg [0] rfl rfl (asg rfl .no (.u rfl) (.nil (.code (.seq (.seq (Wk.rg [0,1,2] rfl rfl (mv rfl .no (.u rfl) (ln rfl .no Fx.sn22 (.u rfl) (mv rfl .no (.u rfl) (.nil (.code (.block ?_)))))))))))))
 refine Wk.lop (α:=Nat) (fun k=>[(8,true,.int .i64 (k:Int))]) (fun _=>[])
  (fun k Gl=>k≤l.length∧∀ j,j<k→p (l.getD j Meta.zero)=false) (fun k=>l.length-k) 0 [(0,true,_),(1,true,_),(7,true,_)] []
  (ESub.c rfl (ESub.c rfl (ESub.c rfl (ESub.c rfl ESub.nil))))
  MSub.nil ?_ ?_
 ·exact ⟨by omega,fun j hj=>by omega⟩
 intro k N0 Gl0 hN0 hGl0 hF0
 try dsimp only at hF0 hN0 ⊢
 obtain ⟨hk,hno⟩:=hF0
 refine .seq (Wk.rg [0] rfl rfl (cp rfl .no (.u rfl) (.u rfl) rfl (.nil (.code (.seq (.cond rfl (fun c1=>?_) (fun c1=>?_)))))))
 ·have c1k:=c1
  try simp only [qcA] at c1
  refine .skip (.code (.seq (.block (.seq (Wk.rg [0,1] rfl rfl (mv rfl .no (.u rfl) (asg rfl .no (.u rfl) (.nil (.code (.seq (Wk.rg [0,1,2,3,4,5] rfl rfl (mv rfl .no (.u rfl) (mv rfl .no (.u rfl) (mv rfl .no (.u rfl) (ih rfl .no Fx.se22 (.u rfl) (.u rfl) (fun _=>by omega) (fun _=>by omega) (fun _=>hs.nn (k:=k) (by omega)) ?_)))))))))))))))
  refine lA rfl .no Fx.ag67 (.u rfl) (fun _=>((hs.mono hGl0).gat k (by omega) (by omega)).rd) (fun _=>rfl) ?_
  refine kf rfl .no (.u rfl) hf (Evc rfl Evn) (fun _=>hc _ hGl0 _ (getD_mem (k:=k) (by omega))) ?_
  refine .nil (.code (.cond rfl (fun c2=>?_) (fun c2=>?_)))
  ·have c2k:=c2
   try simp only [qcA] at c2
   refine .seq (Wk.rg [0,1] rfl rfl (mv rfl .no (.u rfl) (asg rfl .no (.u rfl) (.nil (.code (.ret (We.fin0 Tryd.results51 (.tmp rfl .nil) ?_)))))))
   exact ⟨rfl,idx_hit (by omega) hno c2k⟩
  have c2k:=c2
  try simp only [qcA] at c2
  refine .skip (.blk (.code (Wk.rg [0,1] rfl rfl (ar rfl .no (.u rfl) (.u rfl) rfl (fun _=>wrap_i64 (by omega) (by omega)) ?_))))
  refine mv rfl .no (.u rfl) (.nil (We.lpo (k+1) ?_ ?_ ?_ ?_ ?_))
  ·exact (ESub.c rfl (ESub.c rfl (ESub.c rfl (ESub.c rfl ESub.nil))))
  ·exact MSub.nil
  ·first|omega|(dsimp only; omega)
  ·exact hGl0
  exact ⟨by omega,idx_step hno c2k⟩
 have c1k:=c1
 try simp only [qcA] at c1
 refine .exit (.xcode (.xlp (.xblk (.code (.seq (Wk.rg [0] rfl rfl (asg rfl .no (.u rfl) (.nil (.code (.ret (We.fin0 Tryd.results51 (.tmp rfl .nil) ?_)))))))))))
 exact ⟨rfl,idx_none (by omega) hno⟩
namespace FxVerR
theorem se42:slE Tryd.prog 42=some (5,1,1):=by kernel_rfl
theorem zv5:(Tryd.prog.info? 5).bind (·.zero)=some (.int .u8 0):=by kernel_rfl
theorem cv24_5:cvK Tryd.prog 24 5=some .u8:=by kernel_rfl
theorem cv3_24:cvK Tryd.prog 3 24=some .u64:=by kernel_rfl
theorem sn42:(slE Tryd.prog 42).isSome=true:=by kernel_rfl
theorem cv5_24:cvK Tryd.prog 5 24=some .u64:=by kernel_rfl
end FxVerR
namespace Fx
theorem go63:goFn Tryd.prog 63=true:=by kernel_rfl
end Fx
theorem Num_ok (xs:List Y) (h:Sh) (G:PM) (hs:SlR G 1 encY h xs) (n:BitVec 64) (hl:xs.length≤100000000000000):Ct Tryd.prog 63 ([h.val xs.length,uv .u64 n]:List Value).toArray G [] (PR 5 (fun L=>L=xs++numN n.toNat)):=by
 refine Ct.of Tryd.func63 rfl Tryd.ntmps63 rfl fun w0 hs0=>?_
 have ln:=num_len10 n.isLt
 refine .seq (Wk.rg [0] rfl rfl (asg rfl .no (.u rfl) (.nil (.code (.seq (Wk.rg [0,1,2,3] rfl rfl ?_))))))
 refine b0B rfl FxVerR.se42 ?_; intro b6
 refine mv rfl .no (.u rfl) (apY0 rfl FxVerR.se42 FxVerR.zv5 (.u rfl) (.u rfl) .here hs.sc (by (try simp only [qlA,yl_len]); omega) ?_)
 intro v8 L8 _ ov8 eL8
 have lL8:L8.length=xs.length:=by rw [eL8]
 refine asg rfl .no (.u rfl) (.nil (.code (.seq (.block ?_))))
 refine Wk.lop (α:=BitVec 64×Value×List Y) (fun gh=>[(1,true,uv .u64 gh.1),(5,true,gh.2.1)]) (fun gh=>[rB gh.2.1 5 gh.2.2])
  (fun gh Gl=>(gh.2.2++numN gh.1.toNat=xs++numN n.toNat)) (fun gh=>gh.1.toNat) (n,v8,L8) [] []
  (ESub.c rfl (ESub.c rfl ESub.nil))
  (MSub.cons .here rfl MSub.nil) ?_ ?_
 ·(try dsimp only)<;>(rw [eL8])
 intro gh N0 Gl0 hN0 hGl0 hF0
 obtain ⟨m,v,L⟩:=gh; dsimp only at hF0 hN0 ⊢
 have eq:=hF0
 have tq:@BitVec.toNat IntKind.u64.bits m=m.toNat:=rfl
 have lq:=congrArg List.length eq
 simp only [List.length_append] at lq
 have lp:=num_pos m.toNat
 refine .seq (.seq (Wk.rg [0,1] rfl rfl (mv rfl .no (.u rfl) (cp rfl .no (.u rfl) (.u rfl) rfl (.nil (.code (.cond rfl (fun c1=>?_) (fun c1=>?_))))))))
 ·have c1k:=c1
  try simp only [qcA,qcC,qcB] at c1
  refine .skip (.code (.seq (.block (Wk.rg [0,1,2,3,4,5,6] rfl rfl (mv rfl .no (.u rfl) (mv rfl .no (.u rfl) (cu (k:=.u64) rfl .no rfl FxVerR.cv24_5 (.u rfl) ?_)))))))
  refine bw (k:=.u8) (b:=128#8) rfl .no rfl (.u rfl) (.u rfl) rfl ?_
  refine Go.Tan.b1 rfl FxVerR.se42 FxVerR.zv5 (.u rfl) rfl rfl (by decide) ?_; intro b17
  refine apY rfl FxVerR.se42 FxVerR.zv5 (.u rfl) (.u rfl) (.there .here) (Sc.one .here) (by show _+1≤_; omega) ?_
  intro v18 L18 ov18 eL18
  have lL18:L18.length=L.length+1:=by rw [eL18,List.length_append]; first|rfl | simp [yl_len]
  refine asg rfl .no (.u rfl) (.nil (.blk (.code (Wk.rg [0,1,2] rfl rfl (mv rfl .no (.u rfl) (rw' (k:=.u64) rfl .no (.u rfl) (.u rfl) (fun _=>by decide) ?_))))))
  refine asg rfl .no (.u rfl) (.nil (We.lpo (m >>> 7,v18,L18) ?_ ?_ ?_ ?_ ?_))
  ·exact (ESub.c rfl (ESub.c rfl ESub.nil))
  ·exact (MSub.cons .here rfl MSub.nil)
  ·(dsimp only; rw [shr7]; omega)
  ·exact hGl0
  (try dsimp only)<;>(rw [eL18,←eq,num_more (m:=m) (by omega),List.append_assoc]; rfl)
 have c1k:=c1
 try simp only [qcA,qcC,qcB] at c1
 refine .exit (.xcode (.xlp (.xblk (.code (.seq (Wk.rg [0,1,2,3,4,5] rfl rfl (mv rfl .no (.u rfl) (mv rfl .no (.u rfl) (cu (k:=.u64) rfl .no rfl FxVerR.cv24_5 (.u rfl) ?_)))))))))
 refine Go.Tan.b1 rfl FxVerR.se42 FxVerR.zv5 (.u rfl) rfl rfl (by decide) ?_; intro b22
 refine apY rfl FxVerR.se42 FxVerR.zv5 (.u rfl) (.u rfl) (.there .here) (Sc.one .here) (by show _+1≤_; omega) ?_
 intro v23 L23 ov23 eL23
 have lL23:L23.length=L.length+1:=by rw [eL23,List.length_append]; first|rfl | simp [yl_len]
 refine asg rfl .no (.u rfl) (.nil (.code (.ret (We.fin Tryd.results63 (.tmp rfl .nil) (MSub.cons .here rfl MSub.nil) ?_))))
 exact ⟨L23,by rw [eL23,←eq,num_last (m:=m) (by omega)]; rfl,rfl⟩
theorem Num_i (xs:List Y) (h:Sh) (G:PM) (hs:SlR G 1 encY h xs) (x:Int) (hx:u64 x) (hl:xs.length≤100000000000000):Ct Tryd.prog 63 ([h.val xs.length,.int .u64 x]:List Value).toArray G [] (PR 5 (fun L=>L=xs++numN x.toNat)):=by
 rw [uvI hx,←ofI hx]; exact Num_ok xs h G hs _ hl
theorem Str_ok (xs:List Y) (h:Sh) (G:PM) (hs:SlR G 1 encY h xs) (s:ByteArray) (hl:xs.length+s.size≤100000000000000):Ct Tryd.prog 34 ([h.val xs.length,.string s]:List Value).toArray G [] (PR 5 (fun L=>L=xs++strL (yb s))):=by
 refine Ct.of Tryd.func34 rfl Tryd.ntmps34 rfl fun w0 hs0=>?_
 have ly:=yb_len s
 have ln:=num_len10 (n:=s.size) (by omega)
 refine .seq (Wk.rg [0] rfl rfl (asg rfl .no (.u rfl) (.nil (.code (.seq (Wk.rg [0,1,2,3,4,5,6,7] rfl rfl (mv rfl .no (.u rfl) (mv rfl .no (.u rfl) (ls rfl .no Fx.st9 (.u rfl) (cw rfl .no FxVerR.cv3_24 (.u rfl) (fun _=>wrap_u64 (by omega) (by omega)) ?_))))))))))
 refine kc rfl Fx.go63 (Evc rfl (Evc rfl Evn)) (Ct.rowc (Num_i xs h _ hs (s.size:Int) ⟨by omega,by omega⟩ (by omega))) ?_
 rintro v9 G9 μ9 hG9 ⟨L9,ov9,eL9,rfl⟩
 refine mv rfl .no (.u rfl) ?_
 have l9:L9.length=xs.length+(numN s.size).length:=by rw [eL9,List.length_append,Int.toNat_natCast]
 refine apT rfl FxVerR.se42 Fx.st9 FxVerR.zv5 (.u rfl) (.u rfl) .here (by (try simp only [List.length_append]); omega) ?_; intro v11 L11 ov11 eL11
 refine asg rfl .no (.u rfl) (.nil (.code (.ret (We.fin Tryd.results34 (.tmp rfl .nil) (MSub.cons .here rfl MSub.nil) ?_))))
 exact ⟨L11,by rw [eL11,eL9,strL,ly,Int.toNat_natCast,List.append_assoc],rfl⟩
theorem number_ok (xs:List Y) (h:Sh) (G:PM) (hs:SlR G 1 encY h xs) (hl:xs.length≤100000000000000):Ct Tryd.prog 90 ([h.val xs.length]:List Value).toArray G [] (fun _ μ' u=>∃ n k e,NumR xs n k e∧μ'=[]∧u=.tuple #[.int .u64 (n:Int),.int .i64 (k:Int),.int .i64 e]):=by
 refine Ct.of Tryd.func90 rfl Tryd.ntmps90 rfl fun w0 hs0=>?_
 refine .seq (Wk.rg [0,1,2] rfl rfl (asg rfl .no (.u rfl) (asg rfl .no (.u rfl) (asg rfl .no (.u rfl) (.nil (.code (.seq (Wk.rg [0] rfl rfl (asg rfl .no (.u rfl) (.nil (.code (.seq (.seq (Wk.rg [0,1,2] rfl rfl (mv rfl .no (.u rfl) (ln rfl .no FxVerR.sn42 (.u rfl) (mv rfl .no (.u rfl) (.nil (.code (.block ?_))))))))))))))))))))
 refine Wk.lop (α:=Nat×BitVec 64) (fun gh=>[(5,true,uv .u64 gh.2),(10,true,.int .i64 (gh.1:Int))]) (fun _=>[])
  (fun gh Gl=>(gh.1≤xs.length)∧(gh.1≤9)∧(gh.2.toNat<128^gh.1)∧(numP xs=numG gh.1 gh.2.toNat (xs.drop gh.1))) (fun gh=>xs.length-gh.1) (0,0#64) [(8,true,_),(9,true,_)] []
  (ESub.c rfl (ESub.cons rfl (by first|rfl|exact evi (by omega)) (ESub.c rfl (ESub.c rfl ESub.nil))))
  MSub.nil ?_ ?_
 ·refine ⟨?_,?_,?_,?_⟩
  ·(try dsimp only)<;>(first|omega|rfl|assumption|(simp; done))
  ·(try dsimp only)<;>(first|omega|rfl|assumption|(simp; done))
  ·(try dsimp only)<;>(decide)
  (try dsimp only)<;>(rfl)
 intro gh N0 Gl0 hN0 hGl0 hF0
 obtain ⟨k,w⟩:=gh; dsimp only at hF0 hN0 ⊢
 obtain ⟨hk,h9,hw,e⟩:=hF0
 have hs:=hs.mono hGl0
 have tq:@BitVec.toNat IntKind.u8.bits (xs.getD k 0)=(xs.getD k 0).toNat:=rfl
 refine .seq (Wk.rg [0] rfl rfl (cp rfl .no (.u rfl) (.u rfl) rfl (.nil (.code (.seq (.cond rfl (fun c1=>?_) (fun c1=>?_)))))))
 ·have c1k:=c1
  try simp only [qcA,qcC,qcB] at c1
  refine .skip (.code (.seq (.block (.seq (Wk.rg [0,1,2,3,4] rfl rfl (mv rfl .no (.u rfl) (ih rfl .no FxVerR.se42 (.u rfl) (.u rfl) (fun _=>by omega) (fun _=>by omega) (fun _=>hs.nn (k:=k) (by omega)) ?_)))))))
  refine ld rfl .no FxVerP.ag5 (.u rfl) (fun _=>(hs.yat (k) (by omega) (by omega)).rd) ?_
  refine asg rfl .no (.u rfl) (asg rfl .no (.u rfl) (.nil (.code (.seq (.seq (Wk.rg [0,1,2,3,4,5] rfl rfl (mv rfl .no (.u rfl) (cp rfl .no (.u rfl) (.u rfl) rfl (mv rfl .no (.u rfl) (mv rfl (.t rfl rfl) (.u rfl) (cp rfl (.t rfl rfl) (.s rfl) (.u rfl) rfl (pkA rfl .no (.u rfl) (.s rfl) (.nil (.code (.cond rfl (fun c2=>?_) (fun c2=>?_))))))))))))))))
  ·have c2k:=c2
   try simp only [qcA,qcC,qcB] at c2
   refine .seq (Wk.rg [0,1,2] rfl rfl (asg rfl .no (.u rfl) (asg rfl .no (.u rfl) (asg rfl .no (.u rfl) (.nil (.code (.ret (We.fin0 Tryd.results90 (.tmp rfl (.tmp rfl (.tmp rfl .nil))) ?_))))))))
   exact ⟨0,0,11,.of (np_form e (by omega) (by omega) (by omega)),rfl,rfl⟩
  have c2k:=c2
  try simp only [qcA,qcC,qcB] at c2
  refine .skip (.code (.seq (Wk.rg [0,1,2,3,4,5,6,7,8] rfl rfl (mv rfl .no (.u rfl) (mv rfl .no (.u rfl) (bw (k:=.u8) (b:=127#8) rfl .no rfl (.u rfl) (.u rfl) rfl (cu (k:=.u8) rfl .no rfl FxVerR.cv5_24 (.u rfl) ?_)))))))
  refine mv rfl .no (.u rfl) (arn (((7*k):Nat):Int) rfl .no (.u rfl) (.u rfl) rfl (fun _=>by omega) (fun _=>wrap_i64 (by omega) (by omega)) ?_)
  refine lw (k:=.u64) rfl .no rfl (.u rfl) (.u rfl) (fun _=>by omega) ?_
  refine bw (k:=.u64) rfl .no rfl (.u rfl) (.u rfl) rfl (asg rfl .no (.u rfl) (.nil (.code (.seq (Wk.rg [0,1] rfl rfl (mv rfl .no (.u rfl) (cp rfl .no (.u rfl) (.u rfl) rfl (.nil (.code (.cond rfl (fun c3=>?_) (fun c3=>?_)))))))))))
  ·have c3k:=c3
   try simp only [qcA,qcC,qcB] at c3
   refine .seq (.seq (Wk.rg [0,1,2,3,4,5] rfl rfl (mv rfl .no (.u rfl) (cp rfl .no (.u rfl) (.u rfl) rfl (mv rfl .no (.u rfl) (mv rfl (.t rfl rfl) (.u rfl) (cp rfl (.t rfl rfl) (.s rfl) (.u rfl) rfl (pkA rfl .no (.u rfl) (.s rfl) (.nil (.code (.cond rfl (fun c4=>?_) (fun c4=>?_))))))))))))
   ·have c4k:=c4
    try simp only [qcA,qcC,qcB] at c4
    refine .seq (Wk.rg [0,1,2] rfl rfl (asg rfl .no (.u rfl) (asg rfl .no (.u rfl) (asg rfl .no (.u rfl) (.nil (.code (.ret (We.fin0 Tryd.results90 (.tmp rfl (.tmp rfl (.tmp rfl .nil))) ?_))))))))
    exact ⟨0,0,11,.of (np_zero e (by omega) (by omega) (by omega)),rfl,rfl⟩
   have c4k:=c4
   try simp only [qcA,qcC,qcB] at c4
   refine .skip (.code (.seq (Wk.rg [0,1,2,3,4,5] rfl rfl (mv rfl .no (.u rfl) (mv rfl .no (.u rfl) (arn (((k+1):Nat):Int) rfl .no (.u rfl) (.u rfl) rfl (fun _=>by omega) (fun _=>wrap_i64 (by omega) (by omega)) ?_))))))
   refine asg rfl .no (.u rfl) (asg rfl .no (.u rfl) (asg rfl .no (.u rfl) (.nil (.code (.ret (We.fin0 Tryd.results90 (.tmp rfl (.tmp rfl (.tmp rfl .nil))) ?_))))))
   exact ⟨_,_,0,.of (np_end e hw h9 (by omega) (by omega) (by omega) (by omega)),rfl,rfl⟩
  have c3k:=c3
  try simp only [qcA,qcC,qcB] at c3
  refine .skip (.blk (.code (Wk.rg [0,1] rfl rfl (arn (((k+1):Nat):Int) rfl .no (.u rfl) (.u rfl) rfl (fun _=>by omega) (fun _=>wrap_i64 (by omega) (by omega)) ?_))))
  refine mv rfl .no (.u rfl) (.nil (We.lpo (k+1,w ||| (xs.getD k 0 &&& 127#8).setWidth 64 <<< (7*k)) ?_ ?_ ?_ ?_ ?_))
  ·exact (ESub.c rfl (ESub.cons rfl (by first|rfl|exact evi (by omega)) (ESub.c rfl (ESub.c rfl ESub.nil))))
  ·exact MSub.nil
  ·first|omega|(dsimp only; omega)
  ·exact hGl0
  refine ⟨?_,?_,?_,?_⟩
  ·(try dsimp only)<;>(first|omega|rfl|assumption|(simp; done))
  ·(try dsimp only)<;>(exact (np_more e hw h9 (by omega) (by omega) (by omega)).2.2)
  ·(try dsimp only)<;>(exact (np_more e hw h9 (by omega) (by omega) (by omega)).2.1)
  (try dsimp only)<;>(exact (np_more e hw h9 (by omega) (by omega) (by omega)).1)
 have c1k:=c1
 try simp only [qcA,qcC,qcB] at c1
 refine .exit (.xcode (.xlp (.xblk (.code (.seq (Wk.rg [0,1,2] rfl rfl (asg rfl .no (.u rfl) (asg rfl .no (.u rfl) (asg rfl .no (.u rfl) (.nil (.code (.ret (We.fin0 Tryd.results90 (.tmp rfl (.tmp rfl (.tmp rfl .nil))) ?_)))))))))))))
 exact ⟨0,0,10,.of (np_short e (by omega)),rfl,rfl⟩
namespace FxVerS
theorem bp143_0:bPl Tryd.prog 143 [0]=some ([.slice none 0 0,.int .i64 0],[(0,1)]):=by kernel_rfl
theorem pt107:ptT Tryd.prog 107=true:=by kernel_rfl
theorem fo143_1:fOff Tryd.prog 143 1=some 1:=by kernel_rfl
theorem ag50:aggN Tryd.prog 50=some none:=by kernel_rfl
theorem fo143_0:fOff Tryd.prog 143 0=some 0:=by kernel_rfl
theorem ag42:aggN Tryd.prog 42=some none:=by kernel_rfl
theorem sz42:szT Tryd.prog 42=some 1:=by kernel_rfl
theorem bs42_9:bsT Tryd.prog 42 9=true:=by kernel_rfl
end FxVerS
namespace Fx
theorem go90:goFn Tryd.prog 90=true:=by kernel_rfl
theorem sz50:szT Tryd.prog 50=some 1:=by kernel_rfl
theorem cv24_3:cvK Tryd.prog 24 3=some .i64:=by kernel_rfl
theorem go91:goFn Tryd.prog 91=true:=by kernel_rfl
theorem go93:goFn Tryd.prog 93=true:=by kernel_rfl
end Fx
theorem cNew_ok (xs:List Y) (h:Sh) (G:PM) (hs:SlR G 1 encY h xs) (hl:xs.length≤100000000000000):Ct Tryd.prog 46 ([h.val xs.length]:List Value).toArray G [] (fun G' μ' u=>∃ b s,μ'=[.blk b (cl [Sh.val s xs.length,.int .i64 0] 143)]∧u=.pointer (some ⟨b,0,none⟩)∧SlR G' 1 encY s xs):=by
 refine Ct.of Tryd.func46 rfl Tryd.ntmps46 rfl fun w0 hs0=>?_
 refine .seq (Wk.rg [0] rfl rfl (asg rfl .no (.u rfl) (.nil (.code (.seq (Wk.rg [0,1,2,3,4,5] rfl rfl ?_))))))
 refine b0B rfl FxVerR.se42 ?_; intro b3
 refine mv rfl .no (.u rfl) (apY0 rfl FxVerR.se42 FxVerR.zv5 (.u rfl) (.u rfl) .here hs.sc (by (try simp only [qlA,yl_len]); omega) ?_)
 intro v5 L5 _ ov5 eL5
 have lL5:L5.length=xs.length:=by rw [eL5]
 refine bCe ([v5,.int .i64 0]) rfl .no FxVerS.bp143_0 (.cons (.u rfl) (cells_one ov5) .nil) rfl (rfl) ?_
 refine bx rfl (.u rfl) rfl ?_; intro b7
 refine asg rfl .no (.u rfl) (.nil (.code (.ret ?_)))
 refine we_fb (.there .here) (by first|(intro b hb; cases hb; done) | simp [keys,Res.keys]) ?_; intro GfR5 hR5 hleR5 evR5 hsR5; subst evR5
 refine We.fin Tryd.results46 (.tmp rfl .nil) (MSub.cons .here rfl MSub.nil) ?_
 subst eL5
 exact ⟨b7,hR5,rfl,rfl,hsR5⟩
theorem rNum_ok (xs:List Y) (e:Int) (s:Sh) (b:Nat) (G:PM) (hs:SlR G 1 encY s xs) (hl:xs.length≤100000000000000):Ct Tryd.prog 72 ([.pointer (some ⟨b,0,none⟩)]:List Value).toArray G [.blk b (cl [s.val xs.length,.int .i64 e] 143)] (fun G' μ' u=>∃ n L e' s',rdNum ⟨xs,e⟩=(n,⟨L,e'⟩)∧μ'=[.blk b (cl [Sh.val s' L.length,.int .i64 e'] 143)]∧u=.int .u64 (n:Int)∧SlR G' 1 encY s' L):=by
 refine Ct.of Tryd.func72 rfl Tryd.ntmps72 rfl fun w0 hs0=>?_
 refine .seq (Wk.rg [0] rfl rfl (asg rfl .no (.u rfl) (.nil (.code (.seq (.seq (Wk.rg [0,1,2,3,4,5,6,7,8] rfl rfl (mv rfl .no (.u rfl) (pe rfl .no FxVerS.pt107 (.u rfl) (.u rfl) ?_)))))))))
 refine mv rfl .no (.u rfl) (mv rfl (Gd.f (b:=false) rfl rfl) (.u rfl) (nc rfl (Gd.f (b:=false) rfl rfl) (.u rfl) (fz rfl (Gd.f (b:=false) rfl rfl) FxVerS.fo143_1 (.u rfl) (ld rfl (Gd.f (b:=false) rfl rfl) FxVerS.ag50 (.u rfl) (fun _=>Rd.own .here (by first|exact wap_f rfl|rfl)) ?_))))
 refine cp rfl (Gd.f (b:=false) rfl rfl) (.u rfl) (.u rfl) rfl (pkO rfl .no (.u rfl) (.u rfl) (.nil (.code (.cond rfl (fun c1=>?_) (fun c1=>?_)))))
 ·have c1k:=c1
  try simp only [qcA,qcC,qcB] at c1
  refine .seq (Wk.rg [0] rfl rfl (asg rfl .no (.u rfl) (.nil (.code (.ret (We.fin Tryd.results72 (.tmp rfl .nil) (MSub.cons .here rfl MSub.nil) ?_))))))
  exact ⟨0,xs,e,s,rd_num_bad (by simpa using c1k),rfl,rfl,hs⟩
 have c1k:=c1
 try simp only [qcA,qcC,qcB] at c1
 refine .skip (.code (.seq (Wk.rg [0,1,2,3,4,5,6,7,8,9,10,11] rfl rfl (mv rfl .no (.u rfl) (nc rfl .no (.u rfl) (fz rfl .no FxVerS.fo143_0 (.u rfl) (ld rfl .no FxVerS.ag42 (.u rfl) (fun _=>Rd.own .here (by first|exact wap_f rfl|rfl)) ?_)))))))
 refine kc rfl Fx.go90 (Evc rfl Evn) (number_ok xs s _ hs hl) ?_
 rintro _ G20 μ20 hG20 ⟨n20,k20,e20,hN,rfl,rfl⟩
 have hNl:=hN.le; have hNt:=hN.lt
 have hs:=hs.mono hG20
 refine mv rfl .no (.u rfl) (ex rfl .no (.u rfl) rfl (ex rfl .no (.u rfl) rfl (ex rfl .no (.u rfl) rfl (asg rfl .no (.u rfl) (asg rfl .no (.u rfl) (asg rfl .no (.u rfl) (.nil (.code (.seq (Wk.rg [0,1,2,3,4] rfl rfl (mv rfl .no (.u rfl) (mv rfl .no (.u rfl) (nc rfl .no (.u rfl) (fz rfl .no FxVerS.fo143_1 (.u rfl) (s1 rfl (.u rfl) (.u rfl) rfl Fx.sz50 .here (by first|decide|(simp only [wa_len,ba_len,qlA]; omega)) (rfl) ?_)))))))))))))))
 refine .nil (.code (.seq (Wk.rg [0,1,2,3,4,5,6,7,8,9] rfl rfl (mv rfl .no (.u rfl) (mv rfl .no (.u rfl) (nc rfl .no (.u rfl) (fz rfl .no FxVerS.fo143_0 (.u rfl) (ld rfl .no FxVerS.ag42 (.u rfl) (fun _=>Rd.own .here (by first|exact wap_f rfl|rfl)) ?_))))))))
 refine mv rfl .no (.u rfl) (kD (k20) rfl .no FxVerR.se42 hs (.u rfl) (.u rfl) (fun _=>by omega) (fun _=>by omega) ?_)
 intro h34 L34 eL34 lL34 hs34
 have lL34:=lL34 rfl
 refine nc rfl .no (.u rfl) (fz rfl .no FxVerS.fo143_0 (.u rfl) (s1 rfl (.u rfl) (.u rfl) rfl FxVerS.sz42 .here (show 0<2 by decide) (rfl) ?_))
 refine .nil (.code (.seq (Wk.rg [0,1] rfl rfl (mv rfl .no (.u rfl) (asg rfl .no (.u rfl) (.nil (.code (.ret (We.fin Tryd.results72 (.tmp rfl .nil) (MSub.cons .here rfl MSub.nil) ?_)))))))))
 exact ⟨n20,L34,e20,h34,rd_num_ok (by simpa using c1k) hN eL34,rfl,rfl,hs34⟩
theorem rStr_ok (xs:List Y) (e:Int) (s:Sh) (b:Nat) (G:PM) (hs:SlR G 1 encY s xs) (hl:xs.length≤100000000000000) (most:Nat) (hm:most≤100000000000000):Ct Tryd.prog 92 ([.pointer (some ⟨b,0,none⟩),.int .i64 (most:Int)]:List Value).toArray G [.blk b (cl [s.val xs.length,.int .i64 e] 143)] (fun G' μ' u=>∃ M L e' s',rdStr most ⟨xs,e⟩=(M,⟨L,e'⟩)∧μ'=[.blk b (cl [Sh.val s' L.length,.int .i64 e'] 143)]∧u=.string (bstr M)∧SlR G' 1 encY s' L):=by
 refine Ct.of Tryd.func92 rfl Tryd.ntmps92 rfl fun w0 hs0=>?_
 refine .seq (Wk.rg [0] rfl rfl (asg rfl .no (.u rfl) (.nil (.code (.seq (.seq (Wk.rg [0,1,2,3,4,5,6,7,8] rfl rfl (mv rfl .no (.u rfl) (pe rfl .no FxVerS.pt107 (.u rfl) (.u rfl) ?_)))))))))
 refine mv rfl .no (.u rfl) (mv rfl (Gd.f (b:=false) rfl rfl) (.u rfl) (nc rfl (Gd.f (b:=false) rfl rfl) (.u rfl) (fz rfl (Gd.f (b:=false) rfl rfl) FxVerS.fo143_1 (.u rfl) (ld rfl (Gd.f (b:=false) rfl rfl) FxVerS.ag50 (.u rfl) (fun _=>Rd.own .here (by first|exact wap_f rfl|rfl)) ?_))))
 refine cp rfl (Gd.f (b:=false) rfl rfl) (.u rfl) (.u rfl) rfl (pkO rfl .no (.u rfl) (.u rfl) (.nil (.code (.cond rfl (fun c1=>?_) (fun c1=>?_)))))
 ·have c1k:=c1
  try simp only [qcA,qcC,qcB] at c1
  refine .seq (Wk.rg [0] rfl rfl (asg rfl .no (.u rfl) (.nil (.code (.ret (We.fin Tryd.results92 (.tmp rfl .nil) (MSub.cons .here rfl MSub.nil) ?_))))))
  exact ⟨[],xs,e,s,rd_str_bad (by simpa using c1k),rfl,rfl,hs⟩
 have c1k:=c1
 try simp only [qcA,qcC,qcB] at c1
 refine .skip (.code (.seq (Wk.rg [0,1,2,3,4,5,6,7,8,9,10,11] rfl rfl (mv rfl .no (.u rfl) (nc rfl .no (.u rfl) (fz rfl .no FxVerS.fo143_0 (.u rfl) (ld rfl .no FxVerS.ag42 (.u rfl) (fun _=>Rd.own .here (by first|exact wap_f rfl|rfl)) ?_)))))))
 refine kc rfl Fx.go90 (Evc rfl Evn) (number_ok xs s _ hs hl) ?_
 rintro _ G24 μ24 hG24 ⟨n20,k20,e20,hN,rfl,rfl⟩
 have hNl:=hN.le; have hNt:=hN.lt
 have hs:=hs.mono hG24
 refine mv rfl .no (.u rfl) (ex rfl .no (.u rfl) rfl (ex rfl .no (.u rfl) rfl (ex rfl .no (.u rfl) rfl (asg rfl .no (.u rfl) (asg rfl .no (.u rfl) (asg rfl .no (.u rfl) (.nil (.code (.seq (.block (.seq (Wk.rg [0,1,2] rfl rfl (mv rfl .no (.u rfl) (cp rfl .no (.u rfl) (.u rfl) rfl (asg rfl .no (.u rfl) (.nil (.code (.cond rfl (fun c2=>?_) (fun c2=>?_)))))))))))))))))))
 ·have c2k:=c2
  try simp only [qcA,qcC,qcB] at c2
  refine .seq (Wk.rg [0,1,2,3,4] rfl rfl (mv rfl .no (.u rfl) (mv rfl .no (.u rfl) (nc rfl .no (.u rfl) (fz rfl .no FxVerS.fo143_1 (.u rfl) (s1 rfl (.u rfl) (.u rfl) rfl Fx.sz50 .here (by first|decide|(simp only [wa_len,ba_len,qlA]; omega)) (rfl) ?_))))))
  refine .nil (.code (.seq (Wk.rg [0] rfl rfl (asg rfl .no (.u rfl) (.nil (.code (.ret (We.fin Tryd.results92 (.tmp rfl .nil) (MSub.cons .here rfl MSub.nil) ?_))))))))
  exact ⟨[],xs,e20,s,rd_str_form (by simpa using c1k) hN (by simpa using c2k),rfl,rfl,hs⟩
 have c2k:=c2
 try simp only [qcA,qcC,qcB] at c2
 refine .seq (Wk.rg [0,1,2,3,4,5] rfl rfl (mv rfl .no (.u rfl) (mv rfl .no (.u rfl) (mAn (0) (most) rfl .no (.u rfl) (.u rfl) (fun _=>by omega) (fun _=>by omega) ?_))))
 refine cw rfl .no FxVerR.cv3_24 (.u rfl) (fun _=>wrap_u64 (by omega) (by omega)) ?_
 refine cp rfl .no (.u rfl) (.u rfl) rfl (asg rfl .no (.u rfl) (.nil (.code (.cond rfl (fun c3=>?_) (fun c3=>?_)))))
 ·have c3k:=c3
  try simp only [qcA,qcC,qcB] at c3
  refine .seq (Wk.rg [0,1,2,3] rfl rfl (mv rfl .no (.u rfl) (nc rfl .no (.u rfl) (fz rfl .no FxVerS.fo143_1 (.u rfl) (s1 rfl (.u rfl) (.u rfl) rfl Fx.sz50 .here (by first|decide|(simp only [wa_len,ba_len,qlA]; omega)) (rfl) ?_)))))
  refine .nil (.code (.seq (Wk.rg [0] rfl rfl (asg rfl .no (.u rfl) (.nil (.code (.ret (We.fin Tryd.results92 (.tmp rfl .nil) (MSub.cons .here rfl MSub.nil) ?_))))))))
  exact ⟨[],xs,4,s,rd_str_long (by simpa using c1k) hN (by simpa using c2k) (by omega),rfl,rfl,hs⟩
 have c3k:=c3
 try simp only [qcA,qcC,qcB] at c3
 refine .seq (Wk.rg [0,1,2,3,4,5,6,7,8,9,10] rfl rfl (mv rfl .no (.u rfl) (mv rfl .no (.u rfl) (nc rfl .no (.u rfl) (fz rfl .no FxVerS.fo143_0 (.u rfl) (ld rfl .no FxVerS.ag42 (.u rfl) (fun _=>Rd.own .here (by first|exact wap_f rfl|rfl)) ?_))))))
 refine ln rfl .no FxVerR.sn42 (.u rfl) (mv rfl .no (.u rfl) (ar rfl .no (.u rfl) (.u rfl) rfl (fun _=>wrap_i64 (by omega) (by omega)) ?_))
 refine cw rfl .no FxVerR.cv3_24 (.u rfl) (fun _=>wrap_u64 (by omega) (by omega)) ?_
 refine cp rfl .no (.u rfl) (.u rfl) rfl (asg rfl .no (.u rfl) (.nil (.code (.cond rfl (fun c4=>?_) (fun c4=>?_)))))
 ·have c4k:=c4
  try simp only [qcA,qcC,qcB] at c4
  refine .seq (Wk.rg [0,1,2,3] rfl rfl (mv rfl .no (.u rfl) (nc rfl .no (.u rfl) (fz rfl .no FxVerS.fo143_1 (.u rfl) (s1 rfl (.u rfl) (.u rfl) rfl Fx.sz50 .here (by first|decide|(simp only [wa_len,ba_len,qlA]; omega)) (rfl) ?_)))))
  refine .nil (.code (.seq (Wk.rg [0] rfl rfl (asg rfl .no (.u rfl) (.nil (.code (.ret (We.fin Tryd.results92 (.tmp rfl .nil) (MSub.cons .here rfl MSub.nil) ?_))))))))
  exact ⟨[],xs,10,s,rd_str_short (by simpa using c1k) hN (by simpa using c2k) (by omega) (by omega),rfl,rfl,hs⟩
 have c4k:=c4
 try simp only [qcA,qcC,qcB] at c4
 refine .skip (.blk (.code (.seq (Wk.rg [0,1,2,3,4] rfl rfl (mv rfl .no (.u rfl) (mv rfl .no (.u rfl) (cw rfl .no Fx.cv24_3 (.u rfl) (fun _=>wrap_i64 (by omega) (by omega)) ?_)))))))
 refine arn (((k20+n20):Nat):Int) rfl .no (.u rfl) (.u rfl) rfl (fun _=>by omega) (fun _=>wrap_i64 (by omega) (by omega)) ?_
 refine asg rfl .no (.u rfl) (.nil (.code (.seq (Wk.rg [0,1,2,3,4,5,6,7,8] rfl rfl (mv rfl .no (.u rfl) (nc rfl .no (.u rfl) (fz rfl .no FxVerS.fo143_0 (.u rfl) (ld rfl .no FxVerS.ag42 (.u rfl) (fun _=>Rd.own .here (by first|exact wap_f rfl|rfl)) ?_))))))))
 refine mv rfl .no (.u rfl) (mv rfl .no (.u rfl) (kS (k20) ((k20+n20)) rfl .no FxVerR.se42 hs (.u rfl) (.u rfl) (.u rfl) (fun _=>by omega) (fun _=>by omega) (fun _=>by omega) (fun _=>by omega) ?_))
 intro h68 L68 eL68 lL68 hs68
 have lL68:=lL68 rfl
 refine sB rfl .no FxVerS.bs42_9 (.u rfl) (fun _=>hs68.sc) ?_
 refine asg rfl .no (.u rfl) (.nil (.code (.seq (Wk.rg [0,1,2,3,4,5,6,7,8,9] rfl rfl (mv rfl .no (.u rfl) (mv rfl .no (.u rfl) (nc rfl .no (.u rfl) (fz rfl .no FxVerS.fo143_0 (.u rfl) (ld rfl .no FxVerS.ag42 (.u rfl) (fun _=>Rd.own .here (by first|exact wap_f rfl|rfl)) ?_)))))))))
 refine mv rfl .no (.u rfl) (kD ((k20+n20)) rfl .no FxVerR.se42 hs (.u rfl) (.u rfl) (fun _=>by omega) (fun _=>by omega) ?_)
 intro h76 L76 eL76 lL76 hs76
 have lL76:=lL76 rfl
 refine nc rfl .no (.u rfl) (fz rfl .no FxVerS.fo143_0 (.u rfl) (s1 rfl (.u rfl) (.u rfl) rfl FxVerS.sz42 .here (by first|decide|(simp only [wa_len,ba_len,qlA]; omega)) (rfl) ?_))
 refine .nil (.code (.seq (Wk.rg [0,1] rfl rfl (mv rfl .no (.u rfl) (asg rfl .no (.u rfl) (.nil (.code (.ret (We.fin Tryd.results92 (.tmp rfl .nil) (MSub.cons .here rfl MSub.nil) ?_)))))))))
 obtain rfl:e=0:=by simpa using c1k
 exact ⟨L68,L76,0,h76,rd_str_ok rfl hN (by simpa using c2k) (by omega) (by omega) eL68 eL76,rfl,rfl,hs76⟩
theorem rFix_ok (xs:List Y) (e:Int) (s:Sh) (b:Nat) (G:PM) (hs:SlR G 1 encY s xs) (hl:xs.length≤100000000000000):Ct Tryd.prog 47 ([.pointer (some ⟨b,0,none⟩),.int .i64 ((1:Nat):Int)]:List Value).toArray G [.blk b (cl [s.val xs.length,.int .i64 e] 143)] (fun G' μ' u=>∃ y L e' s',rdByte ⟨xs,e⟩=(y,⟨L,e'⟩)∧μ'=[.blk b (cl [Sh.val s' L.length,.int .i64 e'] 143)]∧u=uv .u64 (y.setWidth 64)∧SlR G' 1 encY s' L):=by
 refine Ct.of Tryd.func47 rfl Tryd.ntmps47 rfl fun w0 hs0=>?_
 refine .seq (Wk.rg [0] rfl rfl (asg rfl .no (.u rfl) (.nil (.code (.seq (.seq (Wk.rg [0,1,2,3,4,5,6,7,8] rfl rfl (mv rfl .no (.u rfl) (pe rfl .no FxVerS.pt107 (.u rfl) (.u rfl) ?_)))))))))
 refine mv rfl .no (.u rfl) (mv rfl (Gd.f (b:=false) rfl rfl) (.u rfl) (nc rfl (Gd.f (b:=false) rfl rfl) (.u rfl) (fz rfl (Gd.f (b:=false) rfl rfl) FxVerS.fo143_1 (.u rfl) (ld rfl (Gd.f (b:=false) rfl rfl) FxVerS.ag50 (.u rfl) (fun _=>Rd.own .here (by first|exact wap_f rfl|rfl)) ?_))))
 refine cp rfl (Gd.f (b:=false) rfl rfl) (.u rfl) (.u rfl) rfl (pkO rfl .no (.u rfl) (.u rfl) (.nil (.code (.cond rfl (fun c1=>?_) (fun c1=>?_)))))
 ·have c1k:=c1
  try simp only [qcA,qcC,qcB] at c1
  refine .seq (Wk.rg [0] rfl rfl (asg rfl .no (.u rfl) (.nil (.code (.ret (We.fin Tryd.results47 (.tmp rfl .nil) (MSub.cons .here rfl MSub.nil) ?_))))))
  exact ⟨0,xs,e,s,rd_byte_bad (by simpa using c1k),rfl,rfl,hs⟩
 have c1k:=c1
 try simp only [qcA,qcC,qcB] at c1
 refine .skip (.code (.seq (.seq (Wk.rg [0,1,2,3,4,5] rfl rfl (mv rfl .no (.u rfl) (cp rfl .no (.u rfl) (.u rfl) rfl (mv rfl .no (.u rfl) (mv rfl (.f rfl rfl) (.u rfl) (cp rfl (.f rfl rfl) (.s rfl) (.u rfl) rfl (pkO rfl .no (.u rfl) (.s rfl) (.nil (.code (.cond rfl (fun c2=>?_) (fun c2=>?_))))))))))))))
 ·have c2k:=c2
  exact absurd c2 (by decide)
 have c2k:=c2
 try simp only [qcA,qcC,qcB] at c2
 refine .skip (.code (.seq (.seq (Wk.rg [0,1,2,3,4,5,6] rfl rfl (mv rfl .no (.u rfl) (mv rfl .no (.u rfl) (nc rfl .no (.u rfl) (fz rfl .no FxVerS.fo143_0 (.u rfl) (ld rfl .no FxVerS.ag42 (.u rfl) (fun _=>Rd.own .here (by first|exact wap_f rfl|rfl)) ?_)))))))))
 refine ln rfl .no FxVerR.sn42 (.u rfl) (cp rfl .no (.u rfl) (.u rfl) rfl (.nil (.code (.cond rfl (fun c3=>?_) (fun c3=>?_)))))
 ·have c3k:=c3
  try simp only [qcA,qcC,qcB] at c3
  refine .seq (Wk.rg [0,1,2,3] rfl rfl (mv rfl .no (.u rfl) (nc rfl .no (.u rfl) (fz rfl .no FxVerS.fo143_1 (.u rfl) (s1 rfl (.u rfl) (.u rfl) rfl Fx.sz50 .here (by first|decide|(simp only [wa_len,ba_len,qlA]; omega)) (rfl) ?_)))))
  refine .nil (.code (.seq (Wk.rg [0] rfl rfl (asg rfl .no (.u rfl) (.nil (.code (.ret (We.fin Tryd.results47 (.tmp rfl .nil) (MSub.cons .here rfl MSub.nil) ?_))))))))
  exact ⟨0,xs,10,s,rd_byte_short (by simpa using c1k) (by omega),rfl,rfl,hs⟩
 have c3k:=c3
 try simp only [qcA,qcC,qcB] at c3
 refine .skip (.code (.seq (Wk.rg [0] rfl rfl (asg rfl .no (.u rfl) (.nil (.code (.seq (.seq (Wk.rg [0,1] rfl rfl (mv rfl .no (.u rfl) (mv rfl .no (.u rfl) (.nil (.code (.block ?_))))))))))))))
 refine Wk.lop (α:=Nat×BitVec 64) (fun gh=>[(5,true,uv .u64 gh.2),(36,true,.int .i64 (gh.1:Int))]) (fun _=>[])
  (fun gh Gl=>(gh.1≤1)∧(gh.2=if gh.1=0 then 0#64 else (xs.getD 0 0).setWidth 64)) (fun gh=>1-gh.1) (0,0#64) [(0,true,_),(1,true,_),(35,true,_)] [_]
  (ESub.c rfl (ESub.cons rfl (by first|rfl|exact evi (by omega)) (ESub.c rfl (ESub.c rfl (ESub.c rfl ESub.nil)))))
  (MSub.cons .here rfl MSub.nil) ?_ ?_
 ·refine ⟨?_,?_⟩
  ·(try dsimp only)<;>(first|omega|rfl|assumption|(simp; done))
  (try dsimp only)<;>(rfl)
 intro gh N0 Gl0 hN0 hGl0 hF0
 obtain ⟨k,m⟩:=gh; dsimp only at hF0 hN0 ⊢
 obtain ⟨hk,em⟩:=hF0
 have hs:=hs.mono hGl0
 refine .seq (Wk.rg [0] rfl rfl (cp rfl .no (.u rfl) (.u rfl) rfl (.nil (.code (.seq (.cond rfl (fun c4=>?_) (fun c4=>?_)))))))
 ·have c4k:=c4
  try simp only [qcA,qcC,qcB] at c4
  refine .skip (.code (.seq (.block (.seq (Wk.rg [0,1] rfl rfl (mv rfl .no (.u rfl) (asg rfl .no (.u rfl) (.nil (.code (Wk.rg [0,1,2,3,4,5,6,7,8,9,10,11,12,13] rfl rfl (mv rfl .no (.u rfl) (mv rfl .no (.u rfl) (nc rfl .no (.u rfl) (fz rfl .no FxVerS.fo143_0 (.u rfl) (ld rfl .no FxVerS.ag42 (.u rfl) (fun _=>Rd.own .here (by first|exact wap_f rfl|rfl)) ?_)))))))))))))))
  refine mv rfl .no (.u rfl) (ih rfl .no FxVerR.se42 (.u rfl) (.u rfl) (fun _=>by omega) (fun _=>by omega) (fun _=>hs.nn (k:=k) (by omega)) ?_)
  refine ld rfl .no FxVerP.ag5 (.u rfl) (fun _=>(hs.yat (k) (by omega) (by omega)).rd) ?_
  refine cu (k:=.u8) rfl .no rfl FxVerR.cv5_24 (.u rfl) ?_
  refine mv rfl .no (.u rfl) (arn (((8*k):Nat):Int) rfl .no (.u rfl) (.u rfl) rfl (fun _=>by omega) (fun _=>wrap_i64 (by omega) (by omega)) ?_)
  refine lw (k:=.u64) rfl .no rfl (.u rfl) (.u rfl) (fun _=>by omega) ?_
  refine bw (k:=.u64) rfl .no rfl (.u rfl) (.u rfl) rfl (asg rfl .no (.u rfl) (.nil (.blk (.code (Wk.rg [0,1] rfl rfl (arn (((k+1):Nat):Int) rfl .no (.u rfl) (.u rfl) rfl (fun _=>by omega) (fun _=>wrap_i64 (by omega) (by omega)) ?_))))))
  refine mv rfl .no (.u rfl) (.nil (We.lpo (k+1,m ||| (xs.getD k 0).setWidth 64 <<< (8*k)) ?_ ?_ ?_ ?_ ?_))
  ·exact (ESub.c rfl (ESub.cons rfl (by first|rfl|exact evi (by omega)) (ESub.c rfl (ESub.c rfl (ESub.c rfl ESub.nil)))))
  ·exact (MSub.cons .here rfl MSub.nil)
  ·first|omega|(dsimp only; omega)
  ·exact hGl0
  refine ⟨?_,?_⟩
  ·(try dsimp only)<;>(first|omega|rfl|assumption|(simp; done))
  (try dsimp only)<;>((obtain rfl:k=0:=by omega); rw [em,if_pos rfl]; simp)
 have c4k:=c4
 try simp only [qcA,qcC,qcB] at c4
 refine .exit (.xcode (.xlp (.xblk (.code (.seq (Wk.rg [0,1,2,3,4,5,6,7,8,9] rfl rfl (mv rfl .no (.u rfl) (mv rfl .no (.u rfl) (nc rfl .no (.u rfl) (fz rfl .no FxVerS.fo143_0 (.u rfl) (ld rfl .no FxVerS.ag42 (.u rfl) (fun _=>Rd.own .here (by first|exact wap_f rfl|rfl)) ?_)))))))))))
 refine mv rfl .no (.u rfl) (kD (1) rfl .no FxVerR.se42 hs (.u rfl) (.u rfl) (fun _=>by omega) (fun _=>by omega) ?_)
 intro h59 L59 eL59 lL59 hs59
 have lL59:=lL59 rfl
 refine nc rfl .no (.u rfl) (fz rfl .no FxVerS.fo143_0 (.u rfl) (s1 rfl (.u rfl) (.u rfl) rfl FxVerS.sz42 .here (by first|decide|(simp only [wa_len,ba_len,qlA]; omega)) (rfl) ?_))
 refine .nil (.code (.seq (Wk.rg [0,1] rfl rfl (mv rfl .no (.u rfl) (asg rfl .no (.u rfl) (.nil (.code (.ret (We.fin Tryd.results47 (.tmp rfl .nil) (MSub.cons .here rfl MSub.nil) ?_)))))))))
 obtain rfl:k=1:=by omega
 obtain rfl:e=0:=by simpa using c1k
 exact ⟨_,L59,0,h59,rd_byte_ok rfl (by omega) eL59,rfl,by rw [em]; rfl,hs59⟩
theorem rFault_ok (xs:List Y) (e:Int) (s:Sh) (b:Nat) (G:PM) (hp:RdNP G b 0 [s.val xs.length,.int .i64 e]):Ct Tryd.prog 91 ([.pointer (some ⟨b,0,none⟩)]:List Value).toArray G [] (fun _ μ' u=>μ'=[]∧u=.int .i64 e):=by
 refine Ct.of Tryd.func91 rfl Tryd.ntmps91 rfl fun w0 hs0=>?_
 refine .seq (Wk.rg [0] rfl rfl (asg rfl .no (.u rfl) (.nil (.code (.seq (.seq (Wk.rg [0,1] rfl rfl (mv rfl .no (.u rfl) (pe rfl .no FxVerS.pt107 (.u rfl) (.u rfl) ?_)))))))))
 refine .nil (.code (Wk.condF rfl rfl ?_))
 refine .skip (.code (.seq (Wk.rg [0,1,2,3,4] rfl rfl (mv rfl .no (.u rfl) (nc rfl .no (.u rfl) (fz rfl .no FxVerS.fo143_1 (.u rfl) (ld rfl .no FxVerS.ag50 (.u rfl) (fun _=>(hp.z rfl).rd) ?_)))))))
 refine asg rfl .no (.u rfl) (.nil (.code (.ret (We.fin0 Tryd.results91 (.tmp rfl .nil) ?_))))
 exact ⟨rfl,rfl⟩
theorem rLeft_ok (xs:List Y) (e:Int) (s:Sh) (b:Nat) (G:PM) (hp:RdNP G b 0 [s.val xs.length,.int .i64 e]):Ct Tryd.prog 93 ([.pointer (some ⟨b,0,none⟩)]:List Value).toArray G [] (fun _ μ' u=>μ'=[]∧u=.int .i64 (xs.length:Int)):=by
 refine Ct.of Tryd.func93 rfl Tryd.ntmps93 rfl fun w0 hs0=>?_
 refine .seq (Wk.rg [0] rfl rfl (asg rfl .no (.u rfl) (.nil (.code (.seq (.seq (Wk.rg [0,1] rfl rfl (mv rfl .no (.u rfl) (pe rfl .no FxVerS.pt107 (.u rfl) (.u rfl) ?_)))))))))
 refine .nil (.code (Wk.condF rfl rfl ?_))
 refine .skip (.code (.seq (Wk.rg [0,1,2,3,4,5] rfl rfl (mv rfl .no (.u rfl) (nc rfl .no (.u rfl) (fz rfl .no FxVerS.fo143_0 (.u rfl) (ld rfl .no FxVerS.ag42 (.u rfl) (fun _=>(hp.z rfl).rd) ?_)))))))
 refine ln rfl .no FxVerR.sn42 (.u rfl) (asg rfl .no (.u rfl) (.nil (.code (.ret (We.fin0 Tryd.results93 (.tmp rfl .nil) ?_)))))
 exact ⟨rfl,rfl⟩
theorem rEnd_ok (xs:List Y) (e:Int) (s:Sh) (b:Nat) (G:PM) (hp:RdNP G b 0 [s.val xs.length,.int .i64 e]):Ct Tryd.prog 75 ([.pointer (some ⟨b,0,none⟩)]:List Value).toArray G [] (fun _ μ' u=>μ'=[]∧u=.int .i64 (endI xs e)):=by
 refine Ct.of Tryd.func75 rfl Tryd.ntmps75 rfl fun w0 hs0=>?_
 refine .seq (Wk.rg [0] rfl rfl (asg rfl .no (.u rfl) (.nil (.code (.seq (.seq (Wk.rg [0,1,2,3,4,5,6,7] rfl rfl (mv rfl .no (.u rfl) (kv rfl .no Fx.go91 (Evc rfl Evn) (fun _=>rFault_ok xs e s b _ hp) ?_)))))))))
 refine cp rfl .no (.u rfl) (.u rfl) rfl (mv rfl .no (.u rfl) (mv rfl (.t rfl rfl) (.u rfl) (kv rfl (.t rfl rfl) Fx.go93 (Eva.cons (.s rfl) Evn) (fun hc=>rLeft_ok xs e s b _ hp) ?_)))
 refine cp rfl (.t rfl rfl) (.s rfl) (.u rfl) rfl (pkA rfl .no (.u rfl) (.s rfl) (.nil (.code (.cond rfl (fun c1=>?_) (fun c1=>?_)))))
 ·have c1k:=c1
  try simp only [qcA,qcB] at c1
  refine .seq (Wk.rg [0] rfl rfl (asg rfl .no (.u rfl) (.nil (.code (.ret (We.fin0 Tryd.results75 (.tmp rfl .nil) ?_))))))
  exact ⟨rfl,congrArg (Value.int .i64) (by unfold endI; rw [if_pos (by simpa using c1k)])⟩
 have c1k:=c1
 try simp only [qcA,qcB] at c1
 refine .skip (.code (.seq (Wk.rg [0,1,2] rfl rfl (mv rfl .no (.u rfl) (kv rfl .no Fx.go91 (Evc rfl Evn) (fun _=>rFault_ok xs e s b _ hp) ?_)))))
 refine asg rfl .no (.u rfl) (.nil (.code (.ret (We.fin0 Tryd.results75 (.tmp rfl .nil) ?_))))
 exact ⟨rfl,congrArg (Value.int .i64) (by unfold endI; rw [if_neg (by simpa using c1k)])⟩
namespace Fx
end Fx
namespace Fx
theorem se45:slE Tryd.prog 45=some (24,1,8):=by kernel_rfl
theorem sn45:(slE Tryd.prog 45).isSome=true:=by kernel_rfl
end Fx
theorem numbers_ok (xs:List Y) (h:Sh) (ns:List Int) (hn:Sh) (G:PM) (hs:SlR G 1 encY h xs) (hsn:SlR G 1 encQ hn ns) (hu:∀ x∈ns,u64 x) (hl:xs.length+10*ns.length≤100000000000000):Ct Tryd.prog 33 ([h.val xs.length,hn.val ns.length]:List Value).toArray G [] (fun G' μ' u=>∃ (s:Sh) (L:List Y),L=xs++numsL ns∧μ'=[]∧u=s.val L.length∧SlR G' 1 encY s L):=by
 refine Ct.of Tryd.func33 rfl Tryd.ntmps33 rfl fun w0 hs0=>?_
 refine .seq (Wk.rg [0] rfl rfl (asg rfl .no (.u rfl) (.nil (.code (.seq (.seq (Wk.rg [0,1,2] rfl rfl (mv rfl .no (.u rfl) (ln rfl .no Fx.sn45 (.u rfl) (mv rfl .no (.u rfl) (.nil (.code (.block ?_)))))))))))))
 refine Wk.lop (α:=Nat×Sh×List Y) (fun gh=>[(0,true,gh.2.1.val gh.2.2.length),(9,true,.int .i64 (gh.1:Int))]) (fun _=>[])
  (fun gh Gl=>(gh.1≤ns.length)∧(gh.2.2=xs++numsL (ns.take gh.1))∧(SlR Gl 1 encY gh.2.1 gh.2.2)) (fun gh=>ns.length-gh.1) (0,h,xs) [(7,true,_),(8,true,_)] []
  (ESub.c rfl (ESub.cons rfl (by first|rfl|exact evi (by omega)) (ESub.c rfl (ESub.c rfl ESub.nil))))
  MSub.nil ?_ ?_
 ·refine ⟨?_,?_,?_⟩
  ·(try dsimp only)<;>(first|omega|rfl|assumption|(simp; done))
  ·(try dsimp only)<;>(simp [numsL])
  (try dsimp only)<;>(exact hs)
 intro gh N0 Gl0 hN0 hGl0 hF0
 obtain ⟨k,h0,L⟩:=gh; dsimp only at hF0 hN0 ⊢
 obtain ⟨hk,eL,hsl⟩:=hF0
 have hsn:=hsn.mono hGl0
 have lt:=numsL_take hu k
 have lL:L.length=xs.length+(numsL (ns.take k)).length:=by rw [eL,List.length_append]
 refine .seq (Wk.rg [0] rfl rfl (cp rfl .no (.u rfl) (.u rfl) rfl (.nil (.code (.seq (.cond rfl (fun c1=>?_) (fun c1=>?_)))))))
 ·have c1k:=c1
  try simp only [qcA,qcB] at c1
  refine .skip (.code (.seq (.block (.seq (Wk.rg [0,1,2] rfl rfl (ih rfl .no Fx.se45 (.u rfl) (.u rfl) (fun _=>by omega) (fun _=>by omega) (fun _=>hsn.nn (k:=k) (by first|omega|(simp only [Bool.and_eq_true,decide_eq_true_eq] at hc; omega)|(simp only [List.length_cons,List.length_nil]; omega))) ?_))))))
  obtain ⟨x12,ex12⟩:=getx (k:=k) (xs:=ns) (by omega)
  refine ld rfl .no FxVerP.ag24 (.u rfl) (fun _=>(hsn.u1 k (by omega) ex12).rd) ?_
  refine asg rfl .no (.u rfl) (.nil (.code (Wk.rg [0,1,2,3] rfl rfl (mv rfl .no (.u rfl) (mv rfl .no (.u rfl) (kc rfl Fx.go63 (Evc rfl (Evc rfl Evn)) (Ct.frzB (Num_i L h0 _ hsl x12 (hu x12 (List.mem_of_getElem? ex12)) (by omega))) ?_))))))
  rintro _ G15 μ15 hG15 ⟨h15,L15,eL15,rfl,rfl,hs15⟩
  have hsl:=hsl.mono hG15
  refine asg rfl .no (.u rfl) (.nil (.blk (.code (Wk.rg [0,1] rfl rfl (arn (((k+1):Nat):Int) rfl .no (.u rfl) (.u rfl) rfl (fun _=>by omega) (fun _=>wrap_i64 (by omega) (by omega)) ?_)))))
  refine mv rfl .no (.u rfl) (.nil (We.lpo (k+1,h15,L15) ?_ ?_ ?_ ?_ ?_))
  ·exact (ESub.c rfl (ESub.cons rfl (by first|rfl|exact evi (by omega)) (ESub.c rfl (ESub.c rfl ESub.nil))))
  ·exact MSub.nil
  ·first|omega|(dsimp only; omega)
  ·exact (hGl0).trans hG15
  refine ⟨?_,?_,?_⟩
  ·(try dsimp only)<;>(first|omega|rfl|assumption|(simp; done))
  ·(try dsimp only)<;>(rw [eL15,eL,numsL_snoc ex12,List.append_assoc])
  (try dsimp only)<;>(exact hs15)
 have c1k:=c1
 try simp only [qcA,qcB] at c1
 refine .exit (.xcode (.xlp (.xblk (.code (.seq (Wk.rg [0,1] rfl rfl (mv rfl .no (.u rfl) (asg rfl .no (.u rfl) (.nil (.code (.ret (We.fin0 Tryd.results33 (.tmp rfl .nil) ?_))))))))))))
 obtain rfl:k=ns.length:=by omega
 rw [List.take_length] at eL
 exact ⟨h0,L,eL,rfl,rfl,hsl⟩
namespace FxVerV
theorem sz4:szT Tryd.prog 4=some 1:=by kernel_rfl
end FxVerV
namespace Fx
theorem fo146_0:fOff Tryd.prog 146 0=some 0:=by kernel_rfl
theorem ag107:aggN Tryd.prog 107=some none:=by kernel_rfl
theorem go72:goFn Tryd.prog 72=true:=by kernel_rfl
theorem fo146_1:fOff Tryd.prog 146 1=some 1:=by kernel_rfl
theorem ag4:aggN Tryd.prog 4=some none:=by kernel_rfl
end Fx
theorem upTo_ok (xs:List Y) (e:Int) (bad:Bool) (s:Sh) (br b:Nat) (G:PM) (hs:SlR G 1 encY s xs) (hl:xs.length≤100000000000000) (most:Nat):Ct Tryd.prog 73 ([.pointer (some ⟨br,0,none⟩),.int .u64 (most:Int)]:List Value).toArray G [.blk br (cl [.pointer (some ⟨b,0,none⟩),.bool bad] 146),.blk b (cl [Sh.val s xs.length,.int .i64 e] 143)] (fun G' μ' u=>∃ n L e' s' bad',rdNum ⟨xs,e⟩=(n,⟨L,e'⟩)∧bad'=(bad||(decide (most<n) || !decide (e'=0)))∧μ'=[.blk br (cl [.pointer (some ⟨b,0,none⟩),.bool bad'] 146),.blk b (cl [Sh.val s' L.length,.int .i64 e'] 143)]∧u=.int .u64 (n:Int)∧SlR G' 1 encY s' L):=by
 refine Ct.of Tryd.func73 rfl Tryd.ntmps73 rfl fun w0 hs0=>?_
 refine .seq (Wk.rg [0] rfl rfl (asg rfl .no (.u rfl) (.nil (.code (.seq (Wk.rg [0,1,2,3,4,5] rfl rfl (mv rfl .no (.u rfl) (nc rfl .no (.u rfl) (fz rfl .no Fx.fo146_0 (.u rfl) (ld rfl .no Fx.ag107 (.u rfl) (fun _=>Rd.own .here (by first|exact wap_f rfl|rfl)) ?_))))))))))
 refine ka rfl (.inr rfl) Fx.go72 (Evc rfl Evn) (mtk1 (.there .here)) (rNum_ok xs e s b _ hs hl) ?_
 rintro _ G10 μ10 hG10 ⟨n10,L10,e10,s10,hN,rfl,rfl,hs10⟩
 refine asg rfl .no (.u rfl) (.nil (.code (.seq (Wk.rg [0,1,2,3,4,5,6,7,8,9,10,11,12,13,14,15,16,17,18,19,20] rfl rfl (mv rfl .no (.u rfl) (mv rfl .no (.u rfl) (nc rfl .no (.u rfl) (fz rfl .no Fx.fo146_1 (.u rfl) (ld rfl .no Fx.ag4 (.u rfl) (fun _=>Rd.own (.there .here) (by first|exact wap_f rfl|rfl)) ?_)))))))))
 refine mv rfl .no (.u rfl) (mv rfl (.f rfl rfl) (.u rfl) (mv rfl (.f rfl rfl) (.u rfl) (cp rfl (.f rfl rfl) (.s rfl) (.s rfl) rfl (pkO rfl .no (.u rfl) (.s rfl) (mv rfl .no (.u rfl) (mv rfl (.f rfl rfl) (.u rfl) (nc rfl (.f rfl rfl) (.s rfl) (fz rfl (.f rfl rfl) Fx.fo146_0 (.s rfl) (ld rfl (.f rfl rfl) Fx.ag107 (.s rfl) (fun hc=>Rd.own (.there .here) (by first|exact wap_f rfl|rfl)) ?_)))))))))
 refine kp rfl (.f rfl rfl) Fx.go91 (Eva.cons (.s rfl) Evn) (Gp.add .here Gp.nil) (fun hc hle hq=>rFault_ok L10 e10 s10 b _ RdNP.add) ?_
 refine cp rfl (.f rfl rfl) (.s rfl) (.u rfl) rfl (pkO rfl .no (.u rfl) (.s rfl) (nc rfl .no (.u rfl) (fz rfl .no Fx.fo146_1 (.u rfl) (s1 rfl (.u rfl) (.u rfl) rfl FxVerV.sz4 (.there .here) (show 1<2 by decide) (rfl) ?_))))
 refine .nil (.code (.seq (Wk.rg [0,1] rfl rfl (mv rfl .no (.u rfl) (asg rfl .no (.u rfl) (.nil (.code (.ret (We.fin Tryd.results73 (.tmp rfl .nil) (MSub.cons .here rfl (MSub.cons .here rfl MSub.nil)) ?_)))))))))
 exact ⟨n10,L10,e10,s10,_,hN,up_bad,rfl,rfl,hs10⟩
namespace FxVerW
theorem sz24:szT Tryd.prog 24=some 1:=by kernel_rfl
theorem sz3:szT Tryd.prog 3=some 1:=by kernel_rfl
theorem go47:goFn Tryd.prog 47=true:=by kernel_rfl
theorem ar34:arE Tryd.prog 34=some (32,5,1):=by kernel_rfl
theorem sz5:szT Tryd.prog 5=some 1:=by kernel_rfl
end FxVerW
namespace Fx
theorem go73:goFn Tryd.prog 73=true:=by kernel_rfl
theorem bp67_0:bPl Tryd.prog 67 [0]=some (Meta.zero.cells,[(0,1)]):=by kernel_rfl
theorem fo67_2:fOff Tryd.prog 67 2=some 2:=by kernel_rfl
theorem go92:goFn Tryd.prog 92=true:=by kernel_rfl
theorem sz9:szT Tryd.prog 9=some 1:=by kernel_rfl
theorem fo67_8:fOff Tryd.prog 67 8=some 8:=by kernel_rfl
end Fx
set_option maxHeartbeats 1000000 in
theorem meta_ok (xs:List Y) (e:Int) (bad:Bool) (s:Sh) (br b:Nat) (G:PM) (hs:SlR G 1 encY s xs) (hl:xs.length≤100000000000000):Ct Tryd.prog 74 ([.pointer (some ⟨br,0,none⟩)]:List Value).toArray G [.blk br (cl [.pointer (some ⟨b,0,none⟩),.bool bad] 146),.blk b (cl [Sh.val s xs.length,.int .i64 e] 143)] (fun G' μ' u=>∃ m L e' s' bad',MetaT ⟨xs,e⟩ ⟨L,e'⟩ bad bad' m∧L.length≤xs.length∧μ'=[.blk br (cl [.pointer (some ⟨b,0,none⟩),.bool bad'] 146),.blk b (cl [Sh.val s' L.length,.int .i64 e'] 143)]∧u=Meta.val m∧SlR G' 1 encY s' L):=by
 refine Ct.of Tryd.func74 rfl Tryd.ntmps74 rfl fun w0 hs0=>?_
 refine .seq (Wk.rg [0] rfl rfl ?_)
 refine al rfl Fx.zq67 ?_; intro b2
 refine .nil (.code (.seq (Wk.rg [0,1,2,3,4,5] rfl rfl (mv rfl .no (.u rfl) (ka rfl (.inr rfl) Fx.go73 (Evc rfl (Evc rfl Evn)) (mtk2 (.there .here) (.there .here)) (upTo_ok xs e bad s br b _ hs (by omega) 255) ?_)))))
 rintro _ G6 μ6 hG6 ⟨n6,L6,e6,s6,bad6,hN6,hb6,rfl,rfl,hs6⟩
 have lL6:=rdnum_le hN6; have nL6:=rdnum_lt hN6; simp only at lL6
 refine cv rfl .no FxVerR.cv24_5 (.u rfl) (bCe (([.int .u8 (IntKind.u8.wrap (n6:Int)),.int .u64 0,.int .u64 0,.int .u64 0,.int .i64 0,.int .i64 0,.string ByteArray.empty,.string ByteArray.empty]++ba 32 (fun _=>0#8))) rfl .no Fx.bp67_0 (.cons (.u rfl) rfl .nil) rfl (rfl) ?_)
 refine al rfl Fx.zq67 ?_; intro b3
 refine sw rfl (.u rfl) (.u rfl) rfl Fx.sz67 .here (by first|exact qE|exact qL|rfl) (mone rfl rfl rfl rfl rfl rfl rfl rfl) ?_
 refine .nil (.code (.seq (Wk.rg [0,1,2,3,4,5,6] rfl rfl (mv rfl .no (.u rfl) (nc rfl .no (.u rfl) (fz rfl .no Fx.fo146_0 (.u rfl) (ld rfl .no Fx.ag107 (.u rfl) (fun _=>Rd.own (.there .here) (by first|exact wap_f rfl|rfl)) ?_)))))))
 refine ka rfl (.inr rfl) Fx.go72 (Evc rfl Evn) (mtk1 (.there (.there .here))) (rNum_ok L6 e6 s6 b _ hs6 (by omega)) ?_
 rintro _ G13 μ13 hG13 ⟨n13,L13,e13,s13,hN13,rfl,rfl,hs13⟩
 have lL13:=rdnum_le hN13; have nL13:=rdnum_lt hN13; simp only at lL13
 refine fz rfl .no Fx.fo67_1 (.u rfl) (s1 rfl (.u rfl) (.u rfl) rfl FxVerW.sz24 (.there .here) (show 1<40 by decide) (rfl) ?_)
 refine .nil (.code (.seq (Wk.rg [0,1,2,3,4,5,6] rfl rfl (mv rfl .no (.u rfl) (nc rfl .no (.u rfl) (fz rfl .no Fx.fo146_0 (.u rfl) (ld rfl .no Fx.ag107 (.u rfl) (fun _=>Rd.own (.there (.there .here)) (by first|exact wap_f rfl|rfl)) ?_)))))))
 refine ka rfl (.inr rfl) Fx.go72 (Evc rfl Evn) (mtk1 (.there .here)) (rNum_ok L13 e13 s13 b _ hs13 (by omega)) ?_
 rintro _ G19 μ19 hG19 ⟨n19,L19,e19,s19,hN19,rfl,rfl,hs19⟩
 have lL19:=rdnum_le hN19; have nL19:=rdnum_lt hN19; simp only at lL19
 refine fz rfl .no Fx.fo67_2 (.u rfl) (s1 rfl (.u rfl) (.u rfl) rfl FxVerW.sz24 (.there .here) (show 2<40 by decide) (rfl) ?_)
 refine .nil (.code (.seq (Wk.rg [0,1,2,3,4,5,6] rfl rfl (mv rfl .no (.u rfl) (nc rfl .no (.u rfl) (fz rfl .no Fx.fo146_0 (.u rfl) (ld rfl .no Fx.ag107 (.u rfl) (fun _=>Rd.own (.there (.there .here)) (by first|exact wap_f rfl|rfl)) ?_)))))))
 refine ka rfl (.inr rfl) Fx.go72 (Evc rfl Evn) (mtk1 (.there .here)) (rNum_ok L19 e19 s19 b _ hs19 (by omega)) ?_
 rintro _ G25 μ25 hG25 ⟨n25,L25,e25,s25,hN25,rfl,rfl,hs25⟩
 have lL25:=rdnum_le hN25; have nL25:=rdnum_lt hN25; simp only at lL25
 refine fz rfl .no Fx.fo67_3 (.u rfl) (s1 rfl (.u rfl) (.u rfl) rfl FxVerW.sz24 (.there .here) (show 3<40 by decide) (rfl) ?_)
 refine .nil (.code (.seq (Wk.rg [0,1,2,3,4] rfl rfl (mv rfl .no (.u rfl) (ka rfl (.inr rfl) Fx.go73 (Evc rfl (Evc rfl Evn)) (mtk2 (.there (.there .here)) (.there .here)) (upTo_ok L25 e25 bad6 s25 br b _ hs25 (by omega) 9223372036854775807) ?_)))))
 rintro _ G28 μ28 hG28 ⟨n28,L28,e28,s28,bad28,hN28,hb28,rfl,rfl,hs28⟩
 have lL28:=rdnum_le hN28; have nL28:=rdnum_lt hN28; simp only at lL28
 refine cv rfl .no Fx.cv24_3 (.u rfl) (fz rfl .no Fx.fo67_4 (.u rfl) (s1 rfl (.u rfl) (.u rfl) rfl FxVerW.sz3 (.there (.there .here)) (show 4<40 by decide) (rfl) ?_))
 refine .nil (.code (.seq (Wk.rg [0,1,2,3,4] rfl rfl (mv rfl .no (.u rfl) (ka rfl (.inr rfl) Fx.go73 (Evc rfl (Evc rfl Evn)) (mtk2 (.there .here) (.there .here)) (upTo_ok L28 e28 bad28 s28 br b _ hs28 (by omega) 9223372036854775807) ?_)))))
 rintro _ G32 μ32 hG32 ⟨n32,L32,e32,s32,bad32,hN32,hb32,rfl,rfl,hs32⟩
 have lL32:=rdnum_le hN32; have nL32:=rdnum_lt hN32; simp only at lL32
 refine cv rfl .no Fx.cv24_3 (.u rfl) (fz rfl .no Fx.fo67_5 (.u rfl) (s1 rfl (.u rfl) (.u rfl) rfl FxVerW.sz3 (.there (.there .here)) (show 5<40 by decide) (rfl) ?_))
 refine .nil (.code (.seq (Wk.rg [0,1,2,3,4,5,6] rfl rfl (mv rfl .no (.u rfl) (nc rfl .no (.u rfl) (fz rfl .no Fx.fo146_0 (.u rfl) (ld rfl .no Fx.ag107 (.u rfl) (fun _=>Rd.own (.there .here) (by first|exact wap_f rfl|rfl)) ?_)))))))
 refine ka rfl (.inr rfl) Fx.go92 (Evc rfl (Evc rfl Evn)) (mtk1 (.there (.there .here))) (rStr_ok L32 e32 s32 b _ hs32 (by omega) 1024 (by decide)) ?_
 rintro _ G39 μ39 hG39 ⟨M39,L39,e39,s39,hN39,rfl,rfl,hs39⟩
 have lL39:=rdstr_le hN39; simp only at lL39
 refine fz rfl .no Fx.fo67_6 (.u rfl) (s1 rfl (.u rfl) (.u rfl) rfl Fx.sz9 (.there .here) (show 6<40 by decide) (rfl) ?_)
 refine .nil (.code (.seq (Wk.rg [0,1,2,3,4,5,6] rfl rfl (mv rfl .no (.u rfl) (nc rfl .no (.u rfl) (fz rfl .no Fx.fo146_0 (.u rfl) (ld rfl .no Fx.ag107 (.u rfl) (fun _=>Rd.own (.there (.there .here)) (by first|exact wap_f rfl|rfl)) ?_)))))))
 refine ka rfl (.inr rfl) Fx.go92 (Evc rfl (Evc rfl Evn)) (mtk1 (.there .here)) (rStr_ok L39 e39 s39 b _ hs39 (by omega) 1024 (by decide)) ?_
 rintro _ G45 μ45 hG45 ⟨M45,L45,e45,s45,hN45,rfl,rfl,hs45⟩
 have lL45:=rdstr_le hN45; simp only at lL45
 refine fz rfl .no Fx.fo67_7 (.u rfl) (s1 rfl (.u rfl) (.u rfl) rfl Fx.sz9 (.there .here) (show 7<40 by decide) (rfl) ?_)
 refine .nil (.code (.seq (.seq (Wk.rg [0] rfl rfl (mv rfl .no (.u rfl) (.nil (.code (.block ?_))))))))
 refine Wk.lop (α:=Nat×List Y×Int×Sh×(Nat→Y)×List Y) (fun gh=>[(47,true,.int .i64 (gh.1:Int))]) (fun gh=>[.blk b3 (cl ([.int .u8 (IntKind.u8.wrap (n6:Int)),.int .u64 (n13:Int),.int .u64 (n19:Int),.int .u64 (n25:Int),.int .i64 (IntKind.i64.wrap (n28:Int)),.int .i64 (IntKind.i64.wrap (n32:Int)),.string (bstr M39),.string (bstr M45)]++ba 32 gh.2.2.2.2.1) 67),.blk b (cl [Sh.val gh.2.2.2.1 gh.2.1.length,.int .i64 gh.2.2.1] 143)])
  (fun gh Gl=>(gh.1≤32)∧(gh.2.2.2.2.2.length=gh.1)∧(ByR ⟨L45,e45⟩ ⟨gh.2.1,gh.2.2.1⟩ bad32 gh.2.2.2.2.2)∧(∀ i,gh.2.2.2.2.1 i=gh.2.2.2.2.2.getD i 0)∧(gh.2.1.length≤100000000000000)∧(gh.2.1.length≤xs.length)∧(SlR Gl 1 encY gh.2.2.2.1 gh.2.1)) (fun gh=>32-gh.1) (0,L45,e45,s45,(fun _=>0#8),[]) [(0,true,_),(2,true,_),(3,true,_)] [_,_]
  (ESub.cons rfl (by first|rfl|exact evi (by omega)) (ESub.c rfl (ESub.c rfl (ESub.c rfl ESub.nil))))
  (MSub.cons .here rfl (MSub.cons .here rfl (MSub.cons .here rfl (MSub.cons .here rfl MSub.nil)))) ?_ ?_
 ·refine ⟨?_,?_,?_,?_,?_,?_,?_⟩
  ·(try dsimp only)<;>(first|omega|rfl|assumption|(simp; done))
  ·(try dsimp only)<;>(first|omega|rfl|assumption|(simp; done))
  ·(try dsimp only)<;>(exact ByR.zero)
  ·(try dsimp only)<;>(exact fun i=>by simp)
  ·(try dsimp only)<;>(first|omega|rfl|assumption|(simp; done))
  ·(try dsimp only)<;>(first|omega|rfl|assumption|(simp; done))
  (try dsimp only)<;>(exact hs45)
 intro gh N0 Gl0 hN0 hGl0 hF0
 obtain ⟨k,L,ee,s9,f,rt⟩:=gh; dsimp only at hF0 hN0 ⊢
 obtain ⟨hk,hr,hB,ef,lL,lX,hsl⟩:=hF0
 refine .seq (Wk.rg [0] rfl rfl (cp rfl .no (.u rfl) (.u rfl) rfl (.nil (.code (.seq (.cond rfl (fun c1=>?_) (fun c1=>?_)))))))
 ·have c1k:=c1
  try simp only [qcA,qcC,qcB] at c1
  refine .skip (.code (.seq (.block (.seq (Wk.rg [0,1] rfl rfl (mv rfl .no (.u rfl) (asg rfl .no (.u rfl) (.nil (.code (Wk.rg [0,1,2,3,4,5,6,7,8,9] rfl rfl (mv rfl .no (.u rfl) (mv rfl .no (.u rfl) (nc rfl .no (.u rfl) (fz rfl .no Fx.fo146_0 (.u rfl) (ld rfl .no Fx.ag107 (.u rfl) (fun _=>Rd.own (.there (.there .here)) (by first|exact wap_f rfl|rfl)) ?_)))))))))))))))
  refine ka rfl (.inr rfl) FxVerW.go47 (Evc rfl (Evc rfl Evn)) (mtk1 (.there .here)) (rFix_ok L ee s9 b _ hsl lL) ?_
  rintro _ G55 μ55 hG55 ⟨y55,L55,e55,s55,hN55,rfl,rfl,hs55⟩
  have lL55:=rdbyte_le hN55; simp only at lL55
  have hsl:=hsl.mono hG55
  refine cu (k:=.u64) rfl .no rfl FxVerR.cv24_5 (.u rfl) ?_
  refine fz rfl .no Fx.fo67_8 (.u rfl) (iA rfl .no FxVerW.ar34 (.u rfl) (.u rfl) (fun _=>by omega) (fun _=>by omega) ?_)
  refine s1 rfl (.u rfl) (.u rfl) rfl FxVerW.sz5 (.there .here) (by show _<40; omega) (mset (k:=k) (by omega)) ?_
  refine .nil (.blk (.code (Wk.rg [0,1] rfl rfl (arn (((k+1):Nat):Int) rfl .no (.u rfl) (.u rfl) rfl (fun _=>by omega) (fun _=>wrap_i64 (by omega) (by omega)) ?_))))
  refine mv rfl .no (.u rfl) (.nil (We.lpo (k+1,L55,e55,s55,upd f k ((y55.setWidth 64).setWidth 8),rt++[y55]) ?_ ?_ ?_ ?_ ?_))
  ·exact (ESub.cons rfl (by first|rfl|exact evi (by omega)) (ESub.c rfl (ESub.c rfl (ESub.c rfl ESub.nil))))
  ·exact (MSub.cons .here rfl (MSub.cons .here rfl (MSub.cons .here rfl (MSub.cons .here rfl MSub.nil))))
  ·first|omega|(dsimp only; omega)
  ·exact (hGl0).trans hG55
  refine ⟨?_,?_,?_,?_,?_,?_,?_⟩
  ·(try dsimp only)<;>(first|omega|rfl|assumption|(simp; done))
  ·(try dsimp only)<;>(simp [hr])
  ·(try dsimp only)<;>(exact hB.step (by omega) hN55)
  ·(try dsimp only)<;>(exact rt_step hr ef)
  ·(try dsimp only)<;>(first|omega|rfl|assumption|(simp; done))
  ·(try dsimp only)<;>(first|omega|rfl|assumption|(simp; done))
  (try dsimp only)<;>(exact hs55)
 have c1k:=c1
 try simp only [qcA,qcC,qcB] at c1
 refine .exit (.xcode (.xlp (.xblk (.code (.seq (Wk.rg [0,1] rfl rfl (lA rfl .no Fx.ag67 (.u rfl) (fun _=>RdN.own .here) (fun _=>(by first|exact qE|exact qL|rfl)) ?_)))))))
 refine sw rfl (.u rfl) (.u rfl) rfl Fx.sz67 (.there (.there (.there .here))) (by first|exact qE|exact qL|rfl) (mone rfl rfl rfl rfl rfl rfl rfl rfl) ?_
 refine .nil (.code (.ret (We.fin Tryd.results74 (.cell rfl (fun w hw=>run_loadVarN Fx.ag67 (RdN.own .here) ((by first|exact qE|exact qL|rfl)) hw) .nil) (MSub.cons (.there (.there (.there .here))) rfl (MSub.cons (.there (.there .here)) rfl MSub.nil)) ?_)))
 obtain rfl:k=32:=by omega
 exact ⟨_,L,ee,s9,bad32,metaT hN6 hb6 w_u8 hN13 hN19 hN25 hN28 hb28 w_i64 hN32 hb32 w_i64 hN39 hN45 hB hr (funext fun i=>by rw [← ef i]; rfl),lX,rfl,rfl,hsl⟩
namespace FxVeDa
theorem go46:goFn Tryd.prog 46=true:=by kernel_rfl
end FxVeDa
namespace Fx
theorem se148:slE Tryd.prog 148=some (147,1,8):=by kernel_rfl
theorem zq32:zrL Tryd.prog 32=some (nine (fun _=>0)++[.slice none 0 0,.slice none 0 0]):=by kernel_rfl
theorem bp146_0:bPl Tryd.prog 146 [0]=some ([.pointer none,.bool false],[(0,1)]):=by kernel_rfl
theorem fo32_0:fOff Tryd.prog 32 0=some 0:=by kernel_rfl
theorem fo32_1:fOff Tryd.prog 32 1=some 1:=by kernel_rfl
theorem fo32_2:fOff Tryd.prog 32 2=some 2:=by kernel_rfl
theorem fo32_3:fOff Tryd.prog 32 3=some 3:=by kernel_rfl
theorem zv147:(Tryd.prog.info? 147).bind (·.zero)=some (.pointer none):=by kernel_rfl
theorem sn148:(slE Tryd.prog 148).isSome=true:=by kernel_rfl
theorem ag147:aggN Tryd.prog 147=some none:=by kernel_rfl
theorem fo32_4:fOff Tryd.prog 32 4=some 4:=by kernel_rfl
theorem fo32_5:fOff Tryd.prog 32 5=some 9:=by kernel_rfl
theorem go74:goFn Tryd.prog 74=true:=by kernel_rfl
theorem zw67:(Tryd.prog.info? 67).bind (·.zero)=some (.agg (Meta.zero.cells).toArray):=by kernel_rfl
theorem sz22:szT Tryd.prog 22=some 1:=by kernel_rfl
theorem bp94_0:bPl Tryd.prog 94 [0]=some ([.int .u8 0,.int .u64 0],[(0,1)]):=by kernel_rfl
theorem zr94:zrL Tryd.prog 94=some ([.int .u8 0,.int .u64 0]):=by kernel_rfl
theorem sz94:szT Tryd.prog 94=some 2:=by kernel_rfl
theorem fo94_1:fOff Tryd.prog 94 1=some 1:=by kernel_rfl
theorem fo32_6:fOff Tryd.prog 32 6=some 10:=by kernel_rfl
theorem ag30:aggN Tryd.prog 30=some none:=by kernel_rfl
theorem ag94:aggN Tryd.prog 94=some (some 2):=by kernel_rfl
theorem se30:slE Tryd.prog 30=some (94,2,16):=by kernel_rfl
theorem zv94:(Tryd.prog.info? 94).bind (·.zero)=some (.agg #[.int .u8 0,.int .u64 0]):=by kernel_rfl
theorem sz30:szT Tryd.prog 30=some 1:=by kernel_rfl
theorem go75:goFn Tryd.prog 75=true:=by kernel_rfl
theorem bp32_:bPl Tryd.prog 32 []=some (nine (fun _=>0)++[.slice none 0 0,.slice none 0 0],[]):=by kernel_rfl
theorem sz32:szT Tryd.prog 32=some 11:=by kernel_rfl
theorem ag32:aggN Tryd.prog 32=some (some 11):=by kernel_rfl
end Fx
set_option maxHeartbeats 2000000 in
theorem decode_ok (xs:List Y) (h:Sh) (G:PM) (hs:SlR G 1 encY h xs) (hl:xs.length≤100000000000000):Ct Tryd.prog 48 ([h.val xs.length]:List Value).toArray G [] (fun G' μ' u=>∃ e err ha hd,DecR xs e err∧μ'=[]∧u=.tuple #[Edit.val e ha hd,.int .i64 err]∧EdR G' e ha hd):=by
 refine Ct.of Tryd.func48 rfl Tryd.ntmps48 rfl fun w0 hs0=>?_
 refine .seq (Wk.rg [0,1] rfl rfl ?_)
 refine al rfl Fx.zq32 ?_; intro b2
 refine asg rfl .no (.u rfl) (.nil (.code (.seq (Wk.rg [0,1,2,3,4] rfl rfl (mv rfl .no (.u rfl) (kc rfl FxVeDa.go46 (Evc rfl Evn) (cNew_ok xs h _ hs hl) ?_))))))
 rintro _ G13 μ13 hG13 ⟨b13,s13,rfl,rfl,hs13⟩
 refine bCe ([.pointer (some ⟨b13,0,none⟩),.bool false]) rfl .no Fx.bp146_0 (.cons (.u rfl) rfl .nil) rfl (rfl) ?_
 refine bx rfl (.u rfl) rfl ?_; intro b15
 refine asg rfl .no (.u rfl) (.nil (.code (.seq (Wk.rg [0] rfl rfl ?_))))
 refine al rfl Fx.zq32 ?_; intro b5
 refine .nil (.code (.seq (.seq (Wk.rg [0,1,2,3,4,5,6] rfl rfl (fz rfl .no Fx.fo32_0 (.u rfl) (fz rfl .no Fx.fo32_1 (.u rfl) (fz rfl .no Fx.fo32_2 (.u rfl) (fz rfl .no Fx.fo32_3 (.u rfl) ?_))))))))
 refine Go.Tan.bN rfl Fx.se148 Fx.zv147 (Evp.cons (.u rfl) (Evp.cons (.u rfl) (Evp.cons (.u rfl) (Evp.cons (.u rfl) Evp.nil)))) rfl (by decide) (by simp [Value.oneCell',Sh.val]) ?_; intro b20
 refine ln rfl .no Fx.sn148 (.u rfl) (mv rfl .no (.u rfl) (.nil (.code (.block ?_))))
 refine Wk.lop (α:=Nat×List Y×Int×Sh×(Nat→Int)×List Nat) (fun gh=>[(22,true,.int .i64 (gh.1:Int))]) (fun gh=>[.blk b5 (cl (nine gh.2.2.2.2.1++[.slice none 0 0,.slice none 0 0]) 32),.blk b13 (cl [Sh.val gh.2.2.2.1 gh.2.1.length,.int .i64 gh.2.2.1] 143)])
  (fun gh Gl=>(gh.1≤4)∧(gh.2.2.2.2.2.length=gh.1)∧(RpR (fun α=>@pNum α) 9 ⟨xs,0⟩ ⟨gh.2.1,gh.2.2.1⟩ false false gh.2.2.2.2.2)∧(∀ i,gh.2.2.2.2.1 i=((gh.2.2.2.2.2.getD i 0:Nat):Int))∧(gh.2.1.length≤xs.length)∧(SlR Gl 1 encY gh.2.2.2.1 gh.2.1)) (fun gh=>4-gh.1) (0,xs,0,s13,(fun _=>0),[]) [(2,true,_),(4,true,_),(5,true,_),(20,true,_),(21,true,_)] [_,_,_]
  (ESub.cons rfl (by first|rfl|exact evi (by omega)) (ESub.c rfl (ESub.c rfl (ESub.c rfl (ESub.c rfl (ESub.c rfl ESub.nil))))))
  (MSub.cons (.there .here) rfl (MSub.cons (.there (.there .here)) rfl (MSub.cons .here rfl (MSub.cons .here rfl (MSub.cons .here rfl MSub.nil))))) ?_ ?_
 ·refine ⟨?_,?_,?_,?_,?_,?_⟩
  ·(try dsimp only)<;>(first|omega|rfl|assumption|(simp; done))
  ·(try dsimp only)<;>(first|omega|rfl|assumption|(simp; done))
  ·(try dsimp only)<;>(exact RpR.zero)
  ·(try dsimp only)<;>(exact fun i=>by simp)
  ·(try dsimp only)<;>(first|omega|rfl|assumption|(simp; done))
  (try dsimp only)<;>(exact hs13)
 intro gh N0 Gl0 hN0 hGl0 hF0
 obtain ⟨k,L,ee,s9,g,rt⟩:=gh; dsimp only at hF0 hN0 ⊢
 obtain ⟨hk,hr,hR,eg,lL,hsl⟩:=hF0
 refine .seq (Wk.rg [0] rfl rfl (cp rfl .no (.u rfl) (.u rfl) rfl (.nil (.code (.seq (.cond rfl (fun c1=>?_) (fun c1=>?_)))))))
 ·have c1k:=c1
  try simp only [qcA,qcC,qcB] at c1
  refine .skip (.code (.seq (.block (.seq (Wk.rg [0,1,2] rfl rfl (ia rfl .no Fx.se148 (.u rfl) (.u rfl) (fun _=>by omega) (fun _=>by omega) ?_))))))
  refine ld (v:=.pointer (some ⟨b5,k,none⟩)) rfl .no Fx.ag147 (.u rfl) (fun _=>Rd.own (.there (.there .here)) (four_at rfl (by omega))) ?_
  refine asg rfl .no (.u rfl) (.nil (.code (Wk.rg [0,1,2,3,4,5,6,7] rfl rfl (mv rfl .no (.u rfl) (mv rfl .no (.u rfl) (nc rfl .no (.u rfl) (fz rfl .no Fx.fo146_0 (.u rfl) (ld rfl .no Fx.ag107 (.u rfl) (fun _=>Rd.own (.there (.there (.there .here))) (by first|exact wap_f rfl|rfl)) ?_))))))))
  refine ka rfl (.inr rfl) Fx.go72 (Evc rfl Evn) (mtk1 (.there .here)) (rNum_ok L ee s9 b13 _ hsl (by omega)) ?_
  rintro _ G31 μ31 hG31 ⟨n31,L31,e31,s31,hN31,rfl,rfl,hs31⟩
  have lL31:=rdnum_le hN31; have nL31:=rdnum_lt hN31; simp only at lL31
  have hsl:=hsl.mono hG31
  refine nc rfl .no (.u rfl) (s1 rfl (.u rfl) (.u rfl) rfl FxVerW.sz24 (.there .here) (by first|decide|(simp only [List.length_append,nine_len,List.length_cons,List.length_nil]; omega)) (nine_st (k:=k) rfl (by omega)) ?_)
  refine .nil (.blk (.code (Wk.rg [0,1] rfl rfl (arn (((k+1):Nat):Int) rfl .no (.u rfl) (.u rfl) rfl (fun _=>by omega) (fun _=>wrap_i64 (by omega) (by omega)) ?_))))
  refine mv rfl .no (.u rfl) (.nil (We.lpo (k+1,L31,e31,s31,upd g k (n31:Int),rt++[n31]) ?_ ?_ ?_ ?_ ?_))
  ·exact (ESub.cons rfl (by first|rfl|exact evi (by omega)) (ESub.c rfl (ESub.c rfl (ESub.c rfl (ESub.c rfl (ESub.c rfl ESub.nil))))))
  ·exact (MSub.cons .here rfl (MSub.cons .here rfl (MSub.cons .here rfl (MSub.cons .here rfl (MSub.cons .here rfl MSub.nil)))))
  ·first|omega|(dsimp only; omega)
  ·exact (hGl0).trans hG31
  refine ⟨?_,?_,?_,?_,?_,?_⟩
  ·(try dsimp only)<;>(first|omega|rfl|assumption|(simp; done))
  ·(try dsimp only)<;>(simp [hr])
  ·(try dsimp only)<;>(exact hR.step (by omega) (fun α O k h=>h.numE hN31))
  ·(try dsimp only)<;>(exact gs_step hr eg)
  ·(try dsimp only)<;>(first|omega|rfl|assumption|(simp; done))
  (try dsimp only)<;>(exact hs31)
 have c1k:=c1
 try simp only [qcA,qcC,qcB] at c1
 refine .exit (.xcode (.xlp (.xblk (.code (.seq (.seq (Wk.rg [0] rfl rfl (mv rfl .no (.u rfl) (.nil (.code (.block ?_)))))))))))
 refine Wk.lop (α:=Nat×List Y×Int×Sh×(Nat→Int)×List Nat) (fun gh=>[(34,true,.int .i64 (gh.1:Int))]) (fun gh=>[.blk b5 (cl (nine gh.2.2.2.2.1++[.slice none 0 0,.slice none 0 0]) 32),.blk b13 (cl [Sh.val gh.2.2.2.1 gh.2.1.length,.int .i64 gh.2.2.1] 143)])
  (fun gh Gl=>(gh.1≤5)∧(gh.2.2.2.2.2.length=4+gh.1)∧(RpR (fun α=>@pNum α) 9 ⟨xs,0⟩ ⟨gh.2.1,gh.2.2.1⟩ false false gh.2.2.2.2.2)∧(∀ i,gh.2.2.2.2.1 i=((gh.2.2.2.2.2.getD i 0:Nat):Int))∧(gh.2.1.length≤xs.length)∧(SlR Gl 1 encY gh.2.2.2.1 gh.2.1)) (fun gh=>5-gh.1) (0,L,ee,s9,g,rt) [(2,true,_),(4,true,_),(5,true,_)] [_,_,_]
  (ESub.cons rfl (by first|rfl|exact evi (by omega)) (ESub.c rfl (ESub.c rfl (ESub.c rfl ESub.nil))))
  (MSub.cons .here rfl (MSub.cons .here rfl (MSub.cons .here rfl (MSub.cons .here rfl (MSub.cons .here rfl MSub.nil))))) ?_ ?_
 ·refine ⟨?_,?_,?_,?_,?_,?_⟩
  ·(try dsimp only)<;>(first|omega|rfl|assumption|(simp; done))
  ·(try dsimp only)<;>(first|omega|rfl|assumption|(simp; done))
  ·(try dsimp only)<;>(exact hR)
  ·(try dsimp only)<;>(exact eg)
  ·(try dsimp only)<;>(first|omega|rfl|assumption|(simp; done))
  (try dsimp only)<;>(exact hsl)
 intro gh N1 Gl1 hN1 hGl1 hF1
 obtain ⟨k2,L2,e2,s2,g2,rt2⟩:=gh; dsimp only at hF1 hN1 ⊢
 obtain ⟨hk2,hr2,hR2,eg2,lL2,hsl2⟩:=hF1
 refine .seq (Wk.rg [0] rfl rfl (cp rfl .no (.u rfl) (.u rfl) rfl (.nil (.code (.seq (.cond rfl (fun c2=>?_) (fun c2=>?_)))))))
 ·have c2k:=c2
  try simp only [qcA,qcC,qcB] at c2
  refine .skip (.code (.seq (.block (.seq (Wk.rg [0,1] rfl rfl (mv rfl .no (.u rfl) (asg rfl .no (.u rfl) (.nil (.code (Wk.rg [0,1,2,3,4,5,6,7,8] rfl rfl (mv rfl .no (.u rfl) (mv rfl .no (.u rfl) (nc rfl .no (.u rfl) (fz rfl .no Fx.fo146_0 (.u rfl) (ld rfl .no Fx.ag107 (.u rfl) (fun _=>Rd.own (.there (.there (.there .here))) (by first|exact wap_f rfl|rfl)) ?_)))))))))))))))
  refine ka rfl (.inr rfl) Fx.go72 (Evc rfl Evn) (mtk1 (.there .here)) (rNum_ok L2 e2 s2 b13 _ hsl2 (by omega)) ?_
  rintro _ G42 μ42 hG42 ⟨n42,L42,e42,s42,hN42,rfl,rfl,hs42⟩
  have lL42:=rdnum_le hN42; have nL42:=rdnum_lt hN42; simp only at lL42
  have hsl2:=hsl2.mono hG42
  refine fz rfl .no Fx.fo32_4 (.u rfl) (iA rfl .no Fx.ar25 (.u rfl) (.u rfl) (fun _=>by omega) (fun _=>by omega) ?_)
  refine s1 rfl (.u rfl) (.u rfl) rfl FxVerW.sz24 (.there .here) (by first|decide|(simp only [List.length_append,nine_len,List.length_cons,List.length_nil]; omega)) (nine_st (k:=4+k2) (by omega) (by omega)) ?_
  refine .nil (.blk (.code (Wk.rg [0,1] rfl rfl (arn (((k2+1):Nat):Int) rfl .no (.u rfl) (.u rfl) rfl (fun _=>by omega) (fun _=>wrap_i64 (by omega) (by omega)) ?_))))
  refine mv rfl .no (.u rfl) (.nil (We.lpo (k2+1,L42,e42,s42,upd g2 (4+k2) (n42:Int),rt2++[n42]) ?_ ?_ ?_ ?_ ?_))
  ·exact (ESub.cons rfl (by first|rfl|exact evi (by omega)) (ESub.c rfl (ESub.c rfl (ESub.c rfl ESub.nil))))
  ·exact (MSub.cons .here rfl (MSub.cons .here rfl (MSub.cons .here rfl (MSub.cons .here rfl (MSub.cons .here rfl MSub.nil)))))
  ·first|omega|(dsimp only; omega)
  ·exact (hGl1).trans hG42
  refine ⟨?_,?_,?_,?_,?_,?_⟩
  ·(try dsimp only)<;>(first|omega|rfl|assumption|(simp; done))
  ·(try dsimp only)<;>(simp [hr2]; omega)
  ·(try dsimp only)<;>(exact hR2.step (by omega) (fun α O k h=>h.numE hN42))
  ·(try dsimp only)<;>(exact gs_step hr2 eg2)
  ·(try dsimp only)<;>(first|omega|rfl|assumption|(simp; done))
  (try dsimp only)<;>(exact hs42)
 have c2k:=c2
 try simp only [qcA,qcC,qcB] at c2
 refine .exit (.xcode (.xlp (.xblk (.code (.seq (.seq (wk_nilS 40 Meta.cells 67 (Wk.rg [0,1,2] rfl rfl (mv rfl .no (.u rfl) (ka rfl (.inr rfl) Fx.go73 (Evc rfl (Evc rfl Evn)) (mtk2 (.there (.there (.there (.there .here)))) (.there (.there .here))) (upTo_ok L2 e2 false s2 b15 b13 _ hsl2 (by omega) 1024) ?_))))))))))
 rintro _ G47 μ47 hG47 ⟨n47,L47,e47,s47,bad47,hN47,hb47,rfl,rfl,hs47⟩
 have lL47:=rdnum_le hN47; have nL47:=rdnum_lt hN47; simp only at lL47
 refine asg rfl .no (.u rfl) (.nil (.code (.block ?_)))
 have hT1:=dec_b (dec_a hR2 (by omega)) hN47 hb47
 refine Wk.lop (α:=Nat×Value×List Y×Int×Sh×Bool×List Meta) (fun gh=>[(9,true,.int .u64 (gh.1:Int))]) (fun gh=>[.blk b15 (cl [.pointer (some ⟨b13,0,none⟩),.bool gh.2.2.2.2.2.1] 146),.blk b13 (cl [Sh.val gh.2.2.2.2.1 gh.2.2.1.length,.int .i64 gh.2.2.2.1] 143),rS 40 Meta.cells gh.2.1 67 gh.2.2.2.2.2.2,.blk b5 (cl (nine g2++[gh.2.1,.slice none 0 0]) 32)])
  (fun gh Gl=>(gh.1+gh.2.2.2.2.2.2.length=n47)∧(RpR (fun α=>@pMeta α) n47 ⟨L47,e47⟩ ⟨gh.2.2.1,gh.2.2.2.1⟩ bad47 gh.2.2.2.2.2.1 gh.2.2.2.2.2.2)∧(gh.2.2.2.2.2.1=false→n47≤1024)∧(gh.2.2.1.length≤xs.length)∧(SlR Gl 1 encY gh.2.2.2.2.1 gh.2.2.1)) (fun gh=>gh.1) (n47,.slice none 0 0,L47,e47,s47,bad47,[]) [(2,true,_),(4,true,_),(5,true,_)] [_,_]
  (ESub.c rfl (ESub.c rfl (ESub.c rfl (ESub.c rfl ESub.nil))))
  (MSub.cons .here rfl (MSub.cons .here rfl (MSub.cons .here rfl (MSub.cons .here rfl (MSub.cons .here rfl (MSub.cons .here rfl MSub.nil)))))) ?_ ?_
 ·refine ⟨?_,?_,?_,?_,?_⟩
  ·(try dsimp only)<;>(first|omega|rfl|assumption|(simp; done))
  ·(try dsimp only)<;>(exact RpR.zero)
  ·(try dsimp only)<;>(exact fun h=>up_le hb47 h)
  ·(try dsimp only)<;>(first|omega|rfl|assumption|(simp; done))
  (try dsimp only)<;>(exact hs47)
 intro gh N2 Gl2 hN2 hGl2 hF2
 obtain ⟨n,va,L3,e3,s3,bad3,add⟩:=gh; dsimp only at hF2 hN2 ⊢
 obtain ⟨hn3,hR3,hbd,lL3,hsl3⟩:=hF2
 refine .seq (.seq (Wk.rg [0,1,2,3,4,5,6,7,8] rfl rfl (mv rfl .no (.u rfl) (cp rfl .no (.u rfl) (.u rfl) rfl (mv rfl .no (.u rfl) (mv rfl (.t rfl rfl) (.u rfl) (nc rfl (.t rfl rfl) (.s rfl) (fz rfl (.t rfl rfl) Fx.fo146_1 (.s rfl) (ld rfl (.t rfl rfl) Fx.ag4 (.s rfl) (fun hc=>Rd.own .here (by first|exact wap_f rfl|rfl)) ?_)))))))))
 refine nt rfl (.t rfl rfl) (.s rfl) (pkA rfl .no (.u rfl) (.s rfl) (.nil (.code (.cond rfl (fun c3=>?_) (fun c3=>?_)))))
 ·have c3k:=c3
  try simp only [qcA,qcC,qcB] at c3
  refine .skip (.code (.seq (.block (Wk.drawT FxVerP.mix rfl ?_))))
  refine WoT.n2 0 2 (by kernel_rfl) ?_ ?_
  ·refine fz rfl .no Fx.fo32_5 (.u rfl) (.nil (WoT.n2 1 2 (by kernel_rfl) ?_ ?_))
   ·refine ld rfl .no Fx.ag22 (.u rfl) (fun _=>Rd.own (.there (.there (.there .here))) nine_a) ?_
    refine .nil (WoT.n1 2 (by kernel_rfl) ?_)
    refine mv rfl .no (.u rfl) (.nil (WoT.n1 3 (by kernel_rfl) ?_))
    refine ka rfl (.inr rfl) Fx.go74 (Evc rfl Evn) (mtk2 .here .here) (meta_ok L3 e3 bad3 s3 b15 b13 _ hsl3 (by omega)) ?_
    rintro _ G62 μ62 hG62 ⟨m62,L62,e62,s62,bad62,hM62,lL62,rfl,rfl,hs62⟩
    have hsl3:=hsl3.mono hG62
    refine .nil (WoT.n1 4 (by kernel_rfl) ?_)
    refine Go.Tan.b1 rfl Fx.se22 Fx.zw67 (.u rfl) rfl rfl (by decide) ?_; intro b63
    refine .nil (WoT.n1 5 (by kernel_rfl) ?_)
    refine apS (xs:=add) (m62) rfl Fx.se22 Fx.zw67 rfl (.u rfl) (.u rfl) (.there (.there (.there .here))) .here (Meta.len _) (Meta.one _) (by have:=hbd c3.2; omega) (by have:=hbd c3.2; unfold maxLen; omega) ?_; intro v64 ov64
    refine .nil (WoT.n1 6 (by kernel_rfl) ?_)
    refine fz rfl .no Fx.fo32_5 (.u rfl) (.nil (WoT.n1 7 (by kernel_rfl) ?_))
    refine s1v rfl (.u rfl) (.u rfl) .here Fx.sz22 (.there (.there (.there (.there .here)))) (by first|decide|(simp only [List.length_append,nine_len,List.length_cons,List.length_nil]; omega)) (nine_sa) ?_
    refine .nil (WoT.last (by kernel_rfl) ?_)
    refine .blk (.code (Wk.rg [0,1,2] rfl rfl (mv rfl .no (.u rfl) (ar rfl .no (.u rfl) (.u rfl) rfl (fun _=>wrap_u64 (by omega) (by omega)) ?_))))
    refine asg rfl .no (.u rfl) (.nil (We.lpo (n-1,v64,L62,e62,s62,bad62,add++[m62]) ?_ ?_ ?_ ?_ ?_))
    ·exact (ESub.cons rfl (evi (by omega)) (ESub.c rfl (ESub.c rfl (ESub.c rfl ESub.nil))))
    ·exact (MSub.cons (.there (.there (.there .here))) rfl (MSub.cons (.there (.there (.there .here))) rfl (MSub.cons (.there .here) rfl (MSub.cons .here rfl (MSub.cons (.there .here) rfl (MSub.cons (.there .here) rfl MSub.nil))))))
    ·first|omega|(dsimp only; omega)
    ·exact (hGl2).trans hG62
    refine ⟨?_,?_,?_,?_,?_⟩
    ·(try dsimp only)<;>(rw [List.length_append]; show _+(_+1)=_; omega)
    ·(try dsimp only)<;>(exact hR3.step (by omega) hM62)
    ·(try dsimp only)<;>(exact fun _=>hbd c3.2)
    ·(try dsimp only)<;>(first|omega|rfl|assumption|(simp; done))
    (try dsimp only)<;>(exact hs62)
   refine mv rfl .no (.u rfl) (.nil (WoT.n2 1 3 (by kernel_rfl) ?_ ?_))
   ·refine ld rfl .no Fx.ag22 (.u rfl) (fun _=>Rd.own (.there (.there (.there .here))) nine_a) ?_
    refine .nil (WoT.n1 3 (by kernel_rfl) ?_)
    refine ka rfl (.inr rfl) Fx.go74 (Evc rfl Evn) (mtk2 .here .here) (meta_ok L3 e3 bad3 s3 b15 b13 _ hsl3 (by omega)) ?_
    rintro _ G62 μ62 hG62 ⟨m62,L62,e62,s62,bad62,hM62,lL62,rfl,rfl,hs62⟩
    have hsl3:=hsl3.mono hG62
    refine .nil (WoT.n1 4 (by kernel_rfl) ?_)
    refine Go.Tan.b1 rfl Fx.se22 Fx.zw67 (.u rfl) rfl rfl (by decide) ?_; intro b63
    refine .nil (WoT.n1 5 (by kernel_rfl) ?_)
    refine apS (xs:=add) (m62) rfl Fx.se22 Fx.zw67 rfl (.u rfl) (.u rfl) (.there (.there (.there .here))) .here (Meta.len _) (Meta.one _) (by have:=hbd c3.2; omega) (by have:=hbd c3.2; unfold maxLen; omega) ?_; intro v64 ov64
    refine .nil (WoT.n1 6 (by kernel_rfl) ?_)
    refine fz rfl .no Fx.fo32_5 (.u rfl) (.nil (WoT.n1 7 (by kernel_rfl) ?_))
    refine s1v rfl (.u rfl) (.u rfl) .here Fx.sz22 (.there (.there (.there (.there .here)))) (by first|decide|(simp only [List.length_append,nine_len,List.length_cons,List.length_nil]; omega)) (nine_sa) ?_
    refine .nil (WoT.last (by kernel_rfl) ?_)
    refine .blk (.code (Wk.rg [0,1,2] rfl rfl (mv rfl .no (.u rfl) (ar rfl .no (.u rfl) (.u rfl) rfl (fun _=>wrap_u64 (by omega) (by omega)) ?_))))
    refine asg rfl .no (.u rfl) (.nil (We.lpo (n-1,v64,L62,e62,s62,bad62,add++[m62]) ?_ ?_ ?_ ?_ ?_))
    ·exact (ESub.cons rfl (evi (by omega)) (ESub.c rfl (ESub.c rfl (ESub.c rfl ESub.nil))))
    ·exact (MSub.cons (.there (.there (.there .here))) rfl (MSub.cons (.there (.there (.there .here))) rfl (MSub.cons (.there .here) rfl (MSub.cons .here rfl (MSub.cons (.there .here) rfl (MSub.cons (.there .here) rfl MSub.nil))))))
    ·first|omega|(dsimp only; omega)
    ·exact (hGl2).trans hG62
    refine ⟨?_,?_,?_,?_,?_⟩
    ·(try dsimp only)<;>(rw [List.length_append]; show _+(_+1)=_; omega)
    ·(try dsimp only)<;>(exact hR3.step (by omega) hM62)
    ·(try dsimp only)<;>(exact fun _=>hbd c3.2)
    ·(try dsimp only)<;>(first|omega|rfl|assumption|(simp; done))
    (try dsimp only)<;>(exact hs62)
   refine ka rfl (.inr rfl) Fx.go74 (Evc rfl Evn) (mtk2 .here .here) (meta_ok L3 e3 bad3 s3 b15 b13 _ hsl3 (by omega)) ?_
   rintro _ G62 μ62 hG62 ⟨m62,L62,e62,s62,bad62,hM62,lL62,rfl,rfl,hs62⟩
   have hsl3:=hsl3.mono hG62
   refine .nil (WoT.n2 1 4 (by kernel_rfl) ?_ ?_)
   ·refine ld rfl .no Fx.ag22 (.u rfl) (fun _=>Rd.own (.there (.there (.there .here))) nine_a) ?_
    refine .nil (WoT.n1 4 (by kernel_rfl) ?_)
    refine Go.Tan.b1 rfl Fx.se22 Fx.zw67 (.u rfl) rfl rfl (by decide) ?_; intro b63
    refine .nil (WoT.n1 5 (by kernel_rfl) ?_)
    refine apS (xs:=add) (m62) rfl Fx.se22 Fx.zw67 rfl (.u rfl) (.u rfl) (.there (.there (.there .here))) .here (Meta.len _) (Meta.one _) (by have:=hbd c3.2; omega) (by have:=hbd c3.2; unfold maxLen; omega) ?_; intro v64 ov64
    refine .nil (WoT.n1 6 (by kernel_rfl) ?_)
    refine fz rfl .no Fx.fo32_5 (.u rfl) (.nil (WoT.n1 7 (by kernel_rfl) ?_))
    refine s1v rfl (.u rfl) (.u rfl) .here Fx.sz22 (.there (.there (.there (.there .here)))) (by first|decide|(simp only [List.length_append,nine_len,List.length_cons,List.length_nil]; omega)) (nine_sa) ?_
    refine .nil (WoT.last (by kernel_rfl) ?_)
    refine .blk (.code (Wk.rg [0,1,2] rfl rfl (mv rfl .no (.u rfl) (ar rfl .no (.u rfl) (.u rfl) rfl (fun _=>wrap_u64 (by omega) (by omega)) ?_))))
    refine asg rfl .no (.u rfl) (.nil (We.lpo (n-1,v64,L62,e62,s62,bad62,add++[m62]) ?_ ?_ ?_ ?_ ?_))
    ·exact (ESub.cons rfl (evi (by omega)) (ESub.c rfl (ESub.c rfl (ESub.c rfl ESub.nil))))
    ·exact (MSub.cons (.there (.there (.there .here))) rfl (MSub.cons (.there (.there (.there .here))) rfl (MSub.cons (.there .here) rfl (MSub.cons .here rfl (MSub.cons (.there .here) rfl (MSub.cons (.there .here) rfl MSub.nil))))))
    ·first|omega|(dsimp only; omega)
    ·exact (hGl2).trans hG62
    refine ⟨?_,?_,?_,?_,?_⟩
    ·(try dsimp only)<;>(rw [List.length_append]; show _+(_+1)=_; omega)
    ·(try dsimp only)<;>(exact hR3.step (by omega) hM62)
    ·(try dsimp only)<;>(exact fun _=>hbd c3.2)
    ·(try dsimp only)<;>(first|omega|rfl|assumption|(simp; done))
    (try dsimp only)<;>(exact hs62)
   refine Go.Tan.b1 rfl Fx.se22 Fx.zw67 (.u rfl) rfl rfl (by decide) ?_; intro b63
   refine .nil (WoT.n1 1 (by kernel_rfl) ?_)
   refine ld rfl .no Fx.ag22 (.u rfl) (fun _=>Rd.own (.there (.there (.there (.there .here)))) nine_a) ?_
   refine .nil (WoT.n1 5 (by kernel_rfl) ?_)
   refine apS (xs:=add) (m62) rfl Fx.se22 Fx.zw67 rfl (.u rfl) (.u rfl) (.there (.there (.there .here))) .here (Meta.len _) (Meta.one _) (by have:=hbd c3.2; omega) (by have:=hbd c3.2; unfold maxLen; omega) ?_; intro v64 ov64
   refine .nil (WoT.n1 6 (by kernel_rfl) ?_)
   refine fz rfl .no Fx.fo32_5 (.u rfl) (.nil (WoT.n1 7 (by kernel_rfl) ?_))
   refine s1v rfl (.u rfl) (.u rfl) .here Fx.sz22 (.there (.there (.there (.there .here)))) (by first|decide|(simp only [List.length_append,nine_len,List.length_cons,List.length_nil]; omega)) (nine_sa) ?_
   refine .nil (WoT.last (by kernel_rfl) ?_)
   refine .blk (.code (Wk.rg [0,1,2] rfl rfl (mv rfl .no (.u rfl) (ar rfl .no (.u rfl) (.u rfl) rfl (fun _=>wrap_u64 (by omega) (by omega)) ?_))))
   refine asg rfl .no (.u rfl) (.nil (We.lpo (n-1,v64,L62,e62,s62,bad62,add++[m62]) ?_ ?_ ?_ ?_ ?_))
   ·exact (ESub.cons rfl (evi (by omega)) (ESub.c rfl (ESub.c rfl (ESub.c rfl ESub.nil))))
   ·exact (MSub.cons (.there (.there (.there .here))) rfl (MSub.cons (.there (.there (.there .here))) rfl (MSub.cons (.there .here) rfl (MSub.cons .here rfl (MSub.cons (.there .here) rfl (MSub.cons (.there .here) rfl MSub.nil))))))
   ·first|omega|(dsimp only; omega)
   ·exact (hGl2).trans hG62
   refine ⟨?_,?_,?_,?_,?_⟩
   ·(try dsimp only)<;>(rw [List.length_append]; show _+(_+1)=_; omega)
   ·(try dsimp only)<;>(exact hR3.step (by omega) hM62)
   ·(try dsimp only)<;>(exact fun _=>hbd c3.2)
   ·(try dsimp only)<;>(first|omega|rfl|assumption|(simp; done))
   (try dsimp only)<;>(exact hs62)
  refine mv rfl .no (.u rfl) (.nil (WoT.n2 0 3 (by kernel_rfl) ?_ ?_))
  ·refine fz rfl .no Fx.fo32_5 (.u rfl) (.nil (WoT.n2 1 3 (by kernel_rfl) ?_ ?_))
   ·refine ld rfl .no Fx.ag22 (.u rfl) (fun _=>Rd.own (.there (.there (.there .here))) nine_a) ?_
    refine .nil (WoT.n1 3 (by kernel_rfl) ?_)
    refine ka rfl (.inr rfl) Fx.go74 (Evc rfl Evn) (mtk2 .here .here) (meta_ok L3 e3 bad3 s3 b15 b13 _ hsl3 (by omega)) ?_
    rintro _ G62 μ62 hG62 ⟨m62,L62,e62,s62,bad62,hM62,lL62,rfl,rfl,hs62⟩
    have hsl3:=hsl3.mono hG62
    refine .nil (WoT.n1 4 (by kernel_rfl) ?_)
    refine Go.Tan.b1 rfl Fx.se22 Fx.zw67 (.u rfl) rfl rfl (by decide) ?_; intro b63
    refine .nil (WoT.n1 5 (by kernel_rfl) ?_)
    refine apS (xs:=add) (m62) rfl Fx.se22 Fx.zw67 rfl (.u rfl) (.u rfl) (.there (.there (.there .here))) .here (Meta.len _) (Meta.one _) (by have:=hbd c3.2; omega) (by have:=hbd c3.2; unfold maxLen; omega) ?_; intro v64 ov64
    refine .nil (WoT.n1 6 (by kernel_rfl) ?_)
    refine fz rfl .no Fx.fo32_5 (.u rfl) (.nil (WoT.n1 7 (by kernel_rfl) ?_))
    refine s1v rfl (.u rfl) (.u rfl) .here Fx.sz22 (.there (.there (.there (.there .here)))) (by first|decide|(simp only [List.length_append,nine_len,List.length_cons,List.length_nil]; omega)) (nine_sa) ?_
    refine .nil (WoT.last (by kernel_rfl) ?_)
    refine .blk (.code (Wk.rg [0,1,2] rfl rfl (mv rfl .no (.u rfl) (ar rfl .no (.u rfl) (.u rfl) rfl (fun _=>wrap_u64 (by omega) (by omega)) ?_))))
    refine asg rfl .no (.u rfl) (.nil (We.lpo (n-1,v64,L62,e62,s62,bad62,add++[m62]) ?_ ?_ ?_ ?_ ?_))
    ·exact (ESub.cons rfl (evi (by omega)) (ESub.c rfl (ESub.c rfl (ESub.c rfl ESub.nil))))
    ·exact (MSub.cons (.there (.there (.there .here))) rfl (MSub.cons (.there (.there (.there .here))) rfl (MSub.cons (.there .here) rfl (MSub.cons .here rfl (MSub.cons (.there .here) rfl (MSub.cons (.there .here) rfl MSub.nil))))))
    ·first|omega|(dsimp only; omega)
    ·exact (hGl2).trans hG62
    refine ⟨?_,?_,?_,?_,?_⟩
    ·(try dsimp only)<;>(rw [List.length_append]; show _+(_+1)=_; omega)
    ·(try dsimp only)<;>(exact hR3.step (by omega) hM62)
    ·(try dsimp only)<;>(exact fun _=>hbd c3.2)
    ·(try dsimp only)<;>(first|omega|rfl|assumption|(simp; done))
    (try dsimp only)<;>(exact hs62)
   refine ka rfl (.inr rfl) Fx.go74 (Evc rfl Evn) (mtk2 .here .here) (meta_ok L3 e3 bad3 s3 b15 b13 _ hsl3 (by omega)) ?_
   rintro _ G62 μ62 hG62 ⟨m62,L62,e62,s62,bad62,hM62,lL62,rfl,rfl,hs62⟩
   have hsl3:=hsl3.mono hG62
   refine .nil (WoT.n2 1 4 (by kernel_rfl) ?_ ?_)
   ·refine ld rfl .no Fx.ag22 (.u rfl) (fun _=>Rd.own (.there (.there (.there .here))) nine_a) ?_
    refine .nil (WoT.n1 4 (by kernel_rfl) ?_)
    refine Go.Tan.b1 rfl Fx.se22 Fx.zw67 (.u rfl) rfl rfl (by decide) ?_; intro b63
    refine .nil (WoT.n1 5 (by kernel_rfl) ?_)
    refine apS (xs:=add) (m62) rfl Fx.se22 Fx.zw67 rfl (.u rfl) (.u rfl) (.there (.there (.there .here))) .here (Meta.len _) (Meta.one _) (by have:=hbd c3.2; omega) (by have:=hbd c3.2; unfold maxLen; omega) ?_; intro v64 ov64
    refine .nil (WoT.n1 6 (by kernel_rfl) ?_)
    refine fz rfl .no Fx.fo32_5 (.u rfl) (.nil (WoT.n1 7 (by kernel_rfl) ?_))
    refine s1v rfl (.u rfl) (.u rfl) .here Fx.sz22 (.there (.there (.there (.there .here)))) (by first|decide|(simp only [List.length_append,nine_len,List.length_cons,List.length_nil]; omega)) (nine_sa) ?_
    refine .nil (WoT.last (by kernel_rfl) ?_)
    refine .blk (.code (Wk.rg [0,1,2] rfl rfl (mv rfl .no (.u rfl) (ar rfl .no (.u rfl) (.u rfl) rfl (fun _=>wrap_u64 (by omega) (by omega)) ?_))))
    refine asg rfl .no (.u rfl) (.nil (We.lpo (n-1,v64,L62,e62,s62,bad62,add++[m62]) ?_ ?_ ?_ ?_ ?_))
    ·exact (ESub.cons rfl (evi (by omega)) (ESub.c rfl (ESub.c rfl (ESub.c rfl ESub.nil))))
    ·exact (MSub.cons (.there (.there (.there .here))) rfl (MSub.cons (.there (.there (.there .here))) rfl (MSub.cons (.there .here) rfl (MSub.cons .here rfl (MSub.cons (.there .here) rfl (MSub.cons (.there .here) rfl MSub.nil))))))
    ·first|omega|(dsimp only; omega)
    ·exact (hGl2).trans hG62
    refine ⟨?_,?_,?_,?_,?_⟩
    ·(try dsimp only)<;>(rw [List.length_append]; show _+(_+1)=_; omega)
    ·(try dsimp only)<;>(exact hR3.step (by omega) hM62)
    ·(try dsimp only)<;>(exact fun _=>hbd c3.2)
    ·(try dsimp only)<;>(first|omega|rfl|assumption|(simp; done))
    (try dsimp only)<;>(exact hs62)
   refine Go.Tan.b1 rfl Fx.se22 Fx.zw67 (.u rfl) rfl rfl (by decide) ?_; intro b63
   refine .nil (WoT.n1 1 (by kernel_rfl) ?_)
   refine ld rfl .no Fx.ag22 (.u rfl) (fun _=>Rd.own (.there (.there (.there (.there .here)))) nine_a) ?_
   refine .nil (WoT.n1 5 (by kernel_rfl) ?_)
   refine apS (xs:=add) (m62) rfl Fx.se22 Fx.zw67 rfl (.u rfl) (.u rfl) (.there (.there (.there .here))) .here (Meta.len _) (Meta.one _) (by have:=hbd c3.2; omega) (by have:=hbd c3.2; unfold maxLen; omega) ?_; intro v64 ov64
   refine .nil (WoT.n1 6 (by kernel_rfl) ?_)
   refine fz rfl .no Fx.fo32_5 (.u rfl) (.nil (WoT.n1 7 (by kernel_rfl) ?_))
   refine s1v rfl (.u rfl) (.u rfl) .here Fx.sz22 (.there (.there (.there (.there .here)))) (by first|decide|(simp only [List.length_append,nine_len,List.length_cons,List.length_nil]; omega)) (nine_sa) ?_
   refine .nil (WoT.last (by kernel_rfl) ?_)
   refine .blk (.code (Wk.rg [0,1,2] rfl rfl (mv rfl .no (.u rfl) (ar rfl .no (.u rfl) (.u rfl) rfl (fun _=>wrap_u64 (by omega) (by omega)) ?_))))
   refine asg rfl .no (.u rfl) (.nil (We.lpo (n-1,v64,L62,e62,s62,bad62,add++[m62]) ?_ ?_ ?_ ?_ ?_))
   ·exact (ESub.cons rfl (evi (by omega)) (ESub.c rfl (ESub.c rfl (ESub.c rfl ESub.nil))))
   ·exact (MSub.cons (.there (.there (.there .here))) rfl (MSub.cons (.there (.there (.there .here))) rfl (MSub.cons (.there .here) rfl (MSub.cons .here rfl (MSub.cons (.there .here) rfl (MSub.cons (.there .here) rfl MSub.nil))))))
   ·first|omega|(dsimp only; omega)
   ·exact (hGl2).trans hG62
   refine ⟨?_,?_,?_,?_,?_⟩
   ·(try dsimp only)<;>(rw [List.length_append]; show _+(_+1)=_; omega)
   ·(try dsimp only)<;>(exact hR3.step (by omega) hM62)
   ·(try dsimp only)<;>(exact fun _=>hbd c3.2)
   ·(try dsimp only)<;>(first|omega|rfl|assumption|(simp; done))
   (try dsimp only)<;>(exact hs62)
  refine ka rfl (.inr rfl) Fx.go74 (Evc rfl Evn) (mtk2 .here .here) (meta_ok L3 e3 bad3 s3 b15 b13 _ hsl3 (by omega)) ?_
  rintro _ G62 μ62 hG62 ⟨m62,L62,e62,s62,bad62,hM62,lL62,rfl,rfl,hs62⟩
  have hsl3:=hsl3.mono hG62
  refine .nil (WoT.n2 0 4 (by kernel_rfl) ?_ ?_)
  ·refine fz rfl .no Fx.fo32_5 (.u rfl) (.nil (WoT.n2 1 4 (by kernel_rfl) ?_ ?_))
   ·refine ld rfl .no Fx.ag22 (.u rfl) (fun _=>Rd.own (.there (.there (.there .here))) nine_a) ?_
    refine .nil (WoT.n1 4 (by kernel_rfl) ?_)
    refine Go.Tan.b1 rfl Fx.se22 Fx.zw67 (.u rfl) rfl rfl (by decide) ?_; intro b63
    refine .nil (WoT.n1 5 (by kernel_rfl) ?_)
    refine apS (xs:=add) (m62) rfl Fx.se22 Fx.zw67 rfl (.u rfl) (.u rfl) (.there (.there (.there .here))) .here (Meta.len _) (Meta.one _) (by have:=hbd c3.2; omega) (by have:=hbd c3.2; unfold maxLen; omega) ?_; intro v64 ov64
    refine .nil (WoT.n1 6 (by kernel_rfl) ?_)
    refine fz rfl .no Fx.fo32_5 (.u rfl) (.nil (WoT.n1 7 (by kernel_rfl) ?_))
    refine s1v rfl (.u rfl) (.u rfl) .here Fx.sz22 (.there (.there (.there (.there .here)))) (by first|decide|(simp only [List.length_append,nine_len,List.length_cons,List.length_nil]; omega)) (nine_sa) ?_
    refine .nil (WoT.last (by kernel_rfl) ?_)
    refine .blk (.code (Wk.rg [0,1,2] rfl rfl (mv rfl .no (.u rfl) (ar rfl .no (.u rfl) (.u rfl) rfl (fun _=>wrap_u64 (by omega) (by omega)) ?_))))
    refine asg rfl .no (.u rfl) (.nil (We.lpo (n-1,v64,L62,e62,s62,bad62,add++[m62]) ?_ ?_ ?_ ?_ ?_))
    ·exact (ESub.cons rfl (evi (by omega)) (ESub.c rfl (ESub.c rfl (ESub.c rfl ESub.nil))))
    ·exact (MSub.cons (.there (.there (.there .here))) rfl (MSub.cons (.there (.there (.there .here))) rfl (MSub.cons (.there .here) rfl (MSub.cons .here rfl (MSub.cons (.there .here) rfl (MSub.cons (.there .here) rfl MSub.nil))))))
    ·first|omega|(dsimp only; omega)
    ·exact (hGl2).trans hG62
    refine ⟨?_,?_,?_,?_,?_⟩
    ·(try dsimp only)<;>(rw [List.length_append]; show _+(_+1)=_; omega)
    ·(try dsimp only)<;>(exact hR3.step (by omega) hM62)
    ·(try dsimp only)<;>(exact fun _=>hbd c3.2)
    ·(try dsimp only)<;>(first|omega|rfl|assumption|(simp; done))
    (try dsimp only)<;>(exact hs62)
   refine Go.Tan.b1 rfl Fx.se22 Fx.zw67 (.u rfl) rfl rfl (by decide) ?_; intro b63
   refine .nil (WoT.n1 1 (by kernel_rfl) ?_)
   refine ld rfl .no Fx.ag22 (.u rfl) (fun _=>Rd.own (.there (.there (.there (.there .here)))) nine_a) ?_
   refine .nil (WoT.n1 5 (by kernel_rfl) ?_)
   refine apS (xs:=add) (m62) rfl Fx.se22 Fx.zw67 rfl (.u rfl) (.u rfl) (.there (.there (.there .here))) .here (Meta.len _) (Meta.one _) (by have:=hbd c3.2; omega) (by have:=hbd c3.2; unfold maxLen; omega) ?_; intro v64 ov64
   refine .nil (WoT.n1 6 (by kernel_rfl) ?_)
   refine fz rfl .no Fx.fo32_5 (.u rfl) (.nil (WoT.n1 7 (by kernel_rfl) ?_))
   refine s1v rfl (.u rfl) (.u rfl) .here Fx.sz22 (.there (.there (.there (.there .here)))) (by first|decide|(simp only [List.length_append,nine_len,List.length_cons,List.length_nil]; omega)) (nine_sa) ?_
   refine .nil (WoT.last (by kernel_rfl) ?_)
   refine .blk (.code (Wk.rg [0,1,2] rfl rfl (mv rfl .no (.u rfl) (ar rfl .no (.u rfl) (.u rfl) rfl (fun _=>wrap_u64 (by omega) (by omega)) ?_))))
   refine asg rfl .no (.u rfl) (.nil (We.lpo (n-1,v64,L62,e62,s62,bad62,add++[m62]) ?_ ?_ ?_ ?_ ?_))
   ·exact (ESub.cons rfl (evi (by omega)) (ESub.c rfl (ESub.c rfl (ESub.c rfl ESub.nil))))
   ·exact (MSub.cons (.there (.there (.there .here))) rfl (MSub.cons (.there (.there (.there .here))) rfl (MSub.cons (.there .here) rfl (MSub.cons .here rfl (MSub.cons (.there .here) rfl (MSub.cons (.there .here) rfl MSub.nil))))))
   ·first|omega|(dsimp only; omega)
   ·exact (hGl2).trans hG62
   refine ⟨?_,?_,?_,?_,?_⟩
   ·(try dsimp only)<;>(rw [List.length_append]; show _+(_+1)=_; omega)
   ·(try dsimp only)<;>(exact hR3.step (by omega) hM62)
   ·(try dsimp only)<;>(exact fun _=>hbd c3.2)
   ·(try dsimp only)<;>(first|omega|rfl|assumption|(simp; done))
   (try dsimp only)<;>(exact hs62)
  refine Go.Tan.b1 rfl Fx.se22 Fx.zw67 (.u rfl) rfl rfl (by decide) ?_; intro b63
  refine .nil (WoT.n1 0 (by kernel_rfl) ?_)
  refine fz rfl .no Fx.fo32_5 (.u rfl) (.nil (WoT.n1 1 (by kernel_rfl) ?_))
  refine ld rfl .no Fx.ag22 (.u rfl) (fun _=>Rd.own (.there (.there (.there (.there .here)))) nine_a) ?_
  refine .nil (WoT.n1 5 (by kernel_rfl) ?_)
  refine apS (xs:=add) (m62) rfl Fx.se22 Fx.zw67 rfl (.u rfl) (.u rfl) (.there (.there (.there .here))) .here (Meta.len _) (Meta.one _) (by have:=hbd c3.2; omega) (by have:=hbd c3.2; unfold maxLen; omega) ?_; intro v64 ov64
  refine .nil (WoT.n1 6 (by kernel_rfl) ?_)
  refine fz rfl .no Fx.fo32_5 (.u rfl) (.nil (WoT.n1 7 (by kernel_rfl) ?_))
  refine s1v rfl (.u rfl) (.u rfl) .here Fx.sz22 (.there (.there (.there (.there .here)))) (by first|decide|(simp only [List.length_append,nine_len,List.length_cons,List.length_nil]; omega)) (nine_sa) ?_
  refine .nil (WoT.last (by kernel_rfl) ?_)
  refine .blk (.code (Wk.rg [0,1,2] rfl rfl (mv rfl .no (.u rfl) (ar rfl .no (.u rfl) (.u rfl) rfl (fun _=>wrap_u64 (by omega) (by omega)) ?_))))
  refine asg rfl .no (.u rfl) (.nil (We.lpo (n-1,v64,L62,e62,s62,bad62,add++[m62]) ?_ ?_ ?_ ?_ ?_))
  ·exact (ESub.cons rfl (evi (by omega)) (ESub.c rfl (ESub.c rfl (ESub.c rfl ESub.nil))))
  ·exact (MSub.cons (.there (.there (.there .here))) rfl (MSub.cons (.there (.there (.there .here))) rfl (MSub.cons (.there .here) rfl (MSub.cons .here rfl (MSub.cons (.there .here) rfl (MSub.cons (.there .here) rfl MSub.nil))))))
  ·first|omega|(dsimp only; omega)
  ·exact (hGl2).trans hG62
  refine ⟨?_,?_,?_,?_,?_⟩
  ·(try dsimp only)<;>(rw [List.length_append]; show _+(_+1)=_; omega)
  ·(try dsimp only)<;>(exact hR3.step (by omega) hM62)
  ·(try dsimp only)<;>(exact fun _=>hbd c3.2)
  ·(try dsimp only)<;>(first|omega|rfl|assumption|(simp; done))
  (try dsimp only)<;>(exact hs62)
 have c3k:=c3
 try simp only [qcA,qcC,qcB] at c3
 refine .exit (.xcode (.xlp (.xblk (.code (.seq (.seq ?_))))))
 have hT2:=dec_c hT1 hR3 hn3 (by first|exact c3.imp (fun h=>by omega) (fun h=>h) | (rcases c3 with c3 | c3; (exact .inl (by omega)); (exact .inr (by simpa using c3))))
 refine wk_nilS 2 Gone.cells 94 (Wk.rg [0,1,2] rfl rfl (mv rfl .no (.u rfl) (ka rfl (.inr rfl) Fx.go73 (Evc rfl (Evc rfl Evn)) (mtk2 (.there .here) (.there .here)) (upTo_ok L3 e3 bad3 s3 b15 b13 _ hsl3 (by omega) 1024) ?_)))
 rintro _ G67 μ67 hG67 ⟨n67,L67,e67,s67,bad67,hN67,hb67,rfl,rfl,hs67⟩
 have lL67:=rdnum_le hN67; have nL67:=rdnum_lt hN67; simp only at lL67
 refine asg rfl .no (.u rfl) (.nil (.code (.block ?_)))
 have hT3:=dec_d hT2 hN67 hb67
 refine Wk.lop (α:=Nat×Value×List Y×Int×Sh×Bool×List Gone) (fun gh=>[(10,true,.int .u64 (gh.1:Int))]) (fun gh=>[.blk b15 (cl [.pointer (some ⟨b13,0,none⟩),.bool gh.2.2.2.2.2.1] 146),.blk b13 (cl [Sh.val gh.2.2.2.2.1 gh.2.2.1.length,.int .i64 gh.2.2.2.1] 143),rS 2 Gone.cells gh.2.1 94 gh.2.2.2.2.2.2,.blk b5 (cl (nine g2++[va,gh.2.1]) 32)])
  (fun gh Gl=>(gh.1+gh.2.2.2.2.2.2.length=n67)∧(RpR (fun α=>@pGone α) n67 ⟨L67,e67⟩ ⟨gh.2.2.1,gh.2.2.2.1⟩ bad67 gh.2.2.2.2.2.1 gh.2.2.2.2.2.2)∧(gh.2.2.2.2.2.1=false→n67≤1024)∧(gh.2.2.1.length≤xs.length)∧(SlR Gl 1 encY gh.2.2.2.2.1 gh.2.2.1)) (fun gh=>gh.1) (n67,.slice none 0 0,L67,e67,s67,bad67,[]) [(2,true,_),(4,true,_),(5,true,_)] [_,_,_]
  (ESub.c rfl (ESub.c rfl (ESub.c rfl (ESub.c rfl ESub.nil))))
  (MSub.cons .here rfl (MSub.cons .here rfl (MSub.cons .here rfl (MSub.cons (.there .here) rfl (MSub.cons .here rfl (MSub.cons .here rfl (MSub.cons .here rfl MSub.nil))))))) ?_ ?_
 ·refine ⟨?_,?_,?_,?_,?_⟩
  ·(try dsimp only)<;>(first|omega|rfl|assumption|(simp; done))
  ·(try dsimp only)<;>(exact RpR.zero)
  ·(try dsimp only)<;>(exact fun h=>up_le hb67 h)
  ·(try dsimp only)<;>(first|omega|rfl|assumption|(simp; done))
  (try dsimp only)<;>(exact hs67)
 intro gh N3 Gl3 hN3 hGl3 hF3
 obtain ⟨q,vd,L4,e4,s4,bad4,dr⟩:=gh; dsimp only at hF3 hN3 ⊢
 obtain ⟨hn4,hR4,hbd4,lL4,hsl4⟩:=hF3
 refine .seq (.seq (Wk.rg [0,1,2,3,4,5,6,7,8] rfl rfl (mv rfl .no (.u rfl) (cp rfl .no (.u rfl) (.u rfl) rfl (mv rfl .no (.u rfl) (mv rfl (.t rfl rfl) (.u rfl) (nc rfl (.t rfl rfl) (.s rfl) (fz rfl (.t rfl rfl) Fx.fo146_1 (.s rfl) (ld rfl (.t rfl rfl) Fx.ag4 (.s rfl) (fun hc=>Rd.own .here (by first|exact wap_f rfl|rfl)) ?_)))))))))
 refine nt rfl (.t rfl rfl) (.s rfl) (pkA rfl .no (.u rfl) (.s rfl) (.nil (.code (.cond rfl (fun c4=>?_) (fun c4=>?_)))))
 ·have c4k:=c4
  try simp only [qcA,qcC,qcB] at c4
  refine .skip (.code (.seq (.block (.seq (Wk.rg [0,1,2,3,4,5] rfl rfl (mv rfl .no (.u rfl) (ka rfl (.inr rfl) Fx.go73 (Evc rfl (Evc rfl Evn)) (mtk2 .here .here) (upTo_ok L4 e4 bad4 s4 b15 b13 _ hsl4 (by omega) 255) ?_)))))))
  rintro _ G80 μ80 hG80 ⟨n80,L80,e80,s80,bad80,hN80,hb80,rfl,rfl,hs80⟩
  have lL80:=rdnum_le hN80; have nL80:=rdnum_lt hN80; simp only at lL80
  refine cv rfl .no FxVerR.cv24_5 (.u rfl) (bCe ([.int .u8 (IntKind.u8.wrap (n80:Int)),.int .u64 0]) rfl .no Fx.bp94_0 (.cons (.u rfl) rfl .nil) rfl (rfl) ?_)
  refine al rfl Fx.zr94 ?_; intro b11
  refine sw rfl (.u rfl) (.u rfl) rfl Fx.sz94 .here (by first|exact nine2_len|exact nine2_len.trans nine2_len.symm|rfl) (one2 rfl rfl) ?_
  refine .nil (.code (.seq (Wk.rg [0,1,2,3,4,5,6] rfl rfl (mv rfl .no (.u rfl) (nc rfl .no (.u rfl) (fz rfl .no Fx.fo146_0 (.u rfl) (ld rfl .no Fx.ag107 (.u rfl) (fun _=>Rd.own (.there .here) (by first|exact wap_f rfl|rfl)) ?_)))))))
  refine ka rfl (.inr rfl) Fx.go72 (Evc rfl Evn) (mtk1 (.there (.there .here))) (rNum_ok L80 e80 s80 b13 _ hs80 (by omega)) ?_
  rintro _ G87 μ87 hG87 ⟨n87,L87,e87,s87,hN87,rfl,rfl,hs87⟩
  have lL87:=rdnum_le hN87; have nL87:=rdnum_lt hN87; simp only at lL87
  refine fz rfl .no Fx.fo94_1 (.u rfl) (s1 rfl (.u rfl) (.u rfl) rfl FxVerW.sz24 (.there .here) (by first|decide|(simp only [List.length_append,nine_len,List.length_cons,List.length_nil]; omega)) (rfl) ?_)
  refine .nil (.code (Wk.rg [0,1,2,3,4,5,6] rfl rfl (fz rfl .no Fx.fo32_6 (.u rfl) (ld rfl .no Fx.ag30 (.u rfl) (fun _=>Rd.own (.there (.there (.there (.there .here)))) nine_d) ?_))))
  refine lA rfl .no Fx.ag94 (.u rfl) (fun _=>RdN.own .here) (fun _=>(by first|exact nine2_len|exact nine2_len.trans nine2_len.symm|rfl)) ?_
  refine Go.Tan.b1 rfl Fx.se30 Fx.zv94 (.u rfl) rfl rfl (by decide) ?_; intro b92
  refine apS (xs:=dr) ((⟨IntKind.u8.wrap (n80:Int),(n87:Int)⟩ : Gone)) rfl Fx.se30 Fx.zv94 rfl (.u rfl) (.u rfl) (.there (.there (.there (.there .here)))) .here (rfl) (gones1) (by have:=hbd4 c4.2; omega) (by have:=hbd4 c4.2; unfold maxLen; omega) ?_; intro v93 ov93
  refine fz rfl .no Fx.fo32_6 (.u rfl) (s1v rfl (.u rfl) (.u rfl) .here Fx.sz30 (.there (.there (.there (.there (.there .here))))) (by first|decide|(simp only [List.length_append,nine_len,List.length_cons,List.length_nil]; omega)) (nine_sd) ?_)
  refine .nil (.blk (.code (Wk.rg [0,1,2] rfl rfl (mv rfl .no (.u rfl) (ar rfl .no (.u rfl) (.u rfl) rfl (fun _=>wrap_u64 (by omega) (by omega)) ?_)))))
  refine asg rfl .no (.u rfl) (.nil (We.lpo (q-1,v93,L87,e87,s87,bad80,dr++[⟨IntKind.u8.wrap (n80:Int),(n87:Int)⟩]) ?_ ?_ ?_ ?_ ?_))
  ·exact (ESub.cons rfl (evi (by omega)) (ESub.c rfl (ESub.c rfl (ESub.c rfl ESub.nil))))
  ·exact (MSub.cons (.there (.there (.there (.there (.there .here))))) rfl (MSub.cons (.there (.there (.there (.there .here)))) rfl (MSub.cons (.there .here) rfl (MSub.cons .here rfl (MSub.cons (.there (.there .here)) rfl (MSub.cons (.there (.there .here)) rfl (MSub.cons (.there (.there .here)) rfl MSub.nil)))))))
  ·first|omega|(dsimp only; omega)
  ·exact ((hGl3).trans hG80).trans hG87
  refine ⟨?_,?_,?_,?_,?_⟩
  ·(try dsimp only)<;>(rw [List.length_append]; show _+(_+1)=_; omega)
  ·(try dsimp only)<;>(exact hR4.step (by omega) (goneT hN80 hb80 w_u8 hN87))
  ·(try dsimp only)<;>(exact fun _=>hbd4 c4.2)
  ·(try dsimp only)<;>(first|omega|rfl|assumption|(simp; done))
  (try dsimp only)<;>(exact hs87)
 have c4k:=c4
 try simp only [qcA,qcC,qcB] at c4
 refine .exit (.xcode (.xlp (.xblk (.code (.seq (.seq ?_))))))
 have hT4:=dec_e hT3 hR4 hn4 (by first|exact c4.imp (fun h=>by omega) (fun h=>h) | (rcases c4 with c4 | c4; (exact .inl (by omega)); (exact .inr (by simpa using c4))))
 refine Wk.rg [0,1,2,3,4,5,6,7,8,9,10,11] rfl rfl (mv rfl .no (.u rfl) (nc rfl .no (.u rfl) (fz rfl .no Fx.fo146_1 (.u rfl) (ld rfl .no Fx.ag4 (.u rfl) (fun _=>Rd.own .here (by first|exact wap_f rfl|rfl)) ?_))))
 refine mv rfl .no (.u rfl) (mv rfl (.f rfl rfl) (.u rfl) (nc rfl (.f rfl rfl) (.s rfl) (fz rfl (.f rfl rfl) Fx.fo146_0 (.s rfl) (ld rfl (.f rfl rfl) Fx.ag107 (.s rfl) (fun hc=>Rd.own .here (by first|exact wap_f rfl|rfl)) ?_))))
 refine kp rfl (.f rfl rfl) Fx.go75 (Eva.cons (.s rfl) Evn) (Gp.add (.there .here) Gp.nil) (fun hc hle hq=>rEnd_ok L4 e4 s4 b13 _ RdNP.add) ?_
 refine cp rfl (.f rfl rfl) (.s rfl) (.u rfl) rfl (pkO rfl .no (.u rfl) (.s rfl) (.nil (.code (.cond rfl (fun c5=>?_) (fun c5=>?_)))))
 ·have c5k:=c5
  try simp only [qcA,qcC,qcB] at c5
  refine .seq (Wk.rg [0,1,2] rfl rfl (bC rfl .no Fx.bp32_ .nil rfl ?_))
  refine sw rfl (.u rfl) (.u rfl) rfl Fx.sz32 (.there (.there (.there (.there (.there (.there .here)))))) (by first|exact nine2_len|exact nine2_len.trans nine2_len.symm|rfl) (nine_one rfl rfl) ?_
  refine asg rfl .no (.u rfl) (.nil (.code (.ret (We.fin0 Tryd.results48 (.cell rfl (fun w hw=>run_loadVarN Fx.ag32 (RdN.own .here) ((by first|exact nine2_len|exact nine2_len.trans nine2_len.symm|rfl)) hw) (.tmp rfl .nil)) ?_))))
  exact ⟨Edit.zero,180,⟨none,0⟩,⟨none,0⟩,.inr ⟨dec_no hT4 (by first|exact c5.imp id id | simpa using c5k),rfl,rfl⟩,rfl,rfl,EdR.zero⟩
 have c5k:=c5
 try simp only [qcA,qcC,qcB] at c5
 refine .skip (.code (.seq ?_))
 refine wk_fs (.there (.there (.there (.there .here)))) (fun _ _=>rfl) (by intro b hb; cases hb) ?_; intro GfRA hRA hleRA evRA hsRA; subst evRA
 refine wk_fs (.there (.there .here)) (fun _ _=>rfl) (by intro b hb; cases hb) ?_; intro GfRD hRD hleRD evRD hsRD; subst evRD
 have hsRA:=hsRA.mono hleRD
 refine Wk.rg [0,1,2] rfl rfl (lA rfl .no Fx.ag32 (.u rfl) (fun _=>RdN.own (.there (.there .here))) (fun _=>(by first|exact nine2_len|exact nine2_len.trans nine2_len.symm|rfl)) ?_)
 refine sw rfl (.u rfl) (.u rfl) rfl Fx.sz32 (.there (.there (.there (.there .here)))) (by first|exact nine2_len|exact nine2_len.trans nine2_len.symm|rfl) (nine_one rfl rfl) ?_
 refine asg rfl .no (.u rfl) (.nil (.code (.ret (We.fin0 Tryd.results48 (.cell rfl (fun w hw=>run_loadVarN Fx.ag32 (RdN.own .here) ((by first|exact nine2_len|exact nine2_len.trans nine2_len.symm|rfl)) hw) (.tmp rfl .nil)) ?_))))
 have hO:=dec_yes hT4 (by simpa using c5.1) (by simpa using c5.2)
 exact ⟨_,0,hRA,hRD,.inl ⟨hO,rfl⟩,rfl,by rw [Edit.val,←edE_cells eg2]; rfl,⟨hsRA,hsRD,(edit_inv hO).2.1⟩⟩
namespace Fx
theorem eqt67:eqT Tryd.prog 4 67 (metaKs)=true:=by kernel_rfl
end Fx
theorem sameMetas_ok (ha hb:Sh) (a b:List Meta) (G:PM) (hsa:SlR G 40 Meta.cells ha a) (hsb:SlR G 40 Meta.cells hb b) (hwa:∀ m∈a,m.wf) (hwb:∀ m∈b,m.wf) (hla:a.length≤100000000000):Ct Tryd.prog 26 ([ha.val a.length,hb.val b.length]:List Value).toArray G [] (fun _ μ' u=>μ'=[]∧u=.bool (sameM a b)):=by
 refine Ct.of Tryd.func26 rfl Tryd.ntmps26 rfl fun w0 hs0=>?_
 refine .seq (Wk.rg [0] rfl rfl (asg rfl .no (.u rfl) (.nil (.code (.seq (.seq (Wk.rg [0,1,2,3,4] rfl rfl (mv rfl .no (.u rfl) (ln rfl .no Fx.sn22 (.u rfl) (mv rfl .no (.u rfl) (ln rfl .no Fx.sn22 (.u rfl) (cp rfl .no (.u rfl) (.u rfl) rfl (.nil (.code (.cond rfl (fun c1=>?_) (fun c1=>?_))))))))))))))))
 ·have c1k:=c1
  try simp only [qcA,qcB] at c1
  refine .seq (Wk.rg [0] rfl rfl (asg rfl .no (.u rfl) (.nil (.code (.ret (We.fin0 Tryd.results26 (.tmp rfl .nil) ?_))))))
  exact ⟨rfl,congrArg Value.bool (sameM_len (by simp at c1k; omega)).symm⟩
 have c1k:=c1
 try simp only [qcA,qcB] at c1
 refine .skip (.code (.seq (.seq (Wk.rg [0] rfl rfl (asg rfl .no (.u rfl) (.nil (.code (.block ?_))))))))
 refine Wk.lop (α:=Nat) (fun k=>[(5,true,.int .i64 (k:Int))]) (fun _=>[])
  (fun k Gl=>(k≤a.length)∧(∀ j,j<k→eqM (a.getD j Meta.zero) (b.getD j Meta.zero)=true)) (fun k=>a.length-k) 0 [(0,true,_),(1,true,_)] []
  (ESub.cons rfl (by first|rfl|exact evi (by omega)) (ESub.c rfl (ESub.c rfl ESub.nil)))
  MSub.nil ?_ ?_
 ·refine ⟨?_,?_⟩
  ·(try dsimp only)<;>(first|omega|rfl|assumption|(simp; done))
  (try dsimp only)<;>(exact fun j hj=>by omega)
 intro k N0 Gl0 hN0 hGl0 hF0
 try dsimp only at hF0 hN0 ⊢
 obtain ⟨hk,hq⟩:=hF0
 have hsa:=hsa.mono hGl0
 have hsb:=hsb.mono hGl0
 refine .seq (.seq (Wk.rg [0,1,2,3] rfl rfl (mv rfl .no (.u rfl) (mv rfl .no (.u rfl) (ln rfl .no Fx.sn22 (.u rfl) (cp rfl .no (.u rfl) (.u rfl) rfl (.nil (.code (.cond rfl (fun c2=>?_) (fun c2=>?_))))))))))
 ·have c2k:=c2
  try simp only [qcA,qcB] at c2
  refine .skip (.code (.seq (.block (.seq (Wk.draw (mc:=⟨false,false⟩) [0,1,2,3,4,5,6,7,8] FxVerP.mix (by kernel_rfl) ?_)))))
  refine mv rfl .no (.u rfl) (mv rfl .no (.u rfl) (ih rfl .no Fx.se22 (.u rfl) (.u rfl) (fun _=>by omega) (fun _=>by omega) (fun _=>hsa.nn (k:=k) (by first|omega|(simp only [Bool.and_eq_true,decide_eq_true_eq] at hc; omega)|(simp only [List.length_cons,List.length_nil]; omega))) ?_))
  refine lA rfl .no Fx.ag67 (.u rfl) (fun _=>(hsa.gat k (by omega) (by omega)).rd) (fun _=>Meta.len _) ?_
  refine mv rfl .no (.u rfl) (mv rfl .no (.u rfl) (ih rfl .no Fx.se22 (.u rfl) (.u rfl) (fun _=>by omega) (fun _=>by omega) (fun _=>hsb.nn (k:=k) (by first|omega|(simp only [Bool.and_eq_true,decide_eq_true_eq] at hc; omega)|(simp only [List.length_cons,List.length_nil]; omega))) ?_))
  refine lA rfl .no Fx.ag67 (.u rfl) (fun _=>(hsb.gat k (by omega) (by omega)).rd) (fun _=>Meta.len _) ?_
  refine nqC (eqM (a.getD k Meta.zero) (b.getD k Meta.zero)) rfl .no Fx.eqt67 (.u rfl) (.u rfl) (fun _=>meta_conf (hwa _ (getD_mem (by omega)))) (fun _=>meta_conf (hwb _ (getD_mem (by omega)))) (fun _=>eqM_iff) ?_
  refine .nil (.code (.cond rfl (fun c3=>?_) (fun c3=>?_)))
  ·have c3k:=c3
   try simp only [qcA,qcB] at c3
   refine .seq (Wk.rg [0] rfl rfl (asg rfl .no (.u rfl) (.nil (.code (.ret (We.fin0 Tryd.results26 (.tmp rfl .nil) ?_))))))
   exact ⟨rfl,congrArg Value.bool (sameM_no (k:=k) (by omega) (by simp at c1k; omega) (by simpa using c3k)).symm⟩
  have c3k:=c3
  try simp only [qcA,qcB] at c3
  refine .skip (.blk (.code (Wk.rg [0,1,2] rfl rfl (mv rfl .no (.u rfl) (arn (((k+1):Nat):Int) rfl .no (.u rfl) (.u rfl) rfl (fun _=>by omega) (fun _=>wrap_i64 (by omega) (by omega)) ?_)))))
  refine asg rfl .no (.u rfl) (.nil (We.lpo (k+1) ?_ ?_ ?_ ?_ ?_))
  ·exact (ESub.cons rfl (by first|rfl|exact evi (by omega)) (ESub.c rfl (ESub.c rfl ESub.nil)))
  ·exact MSub.nil
  ·first|omega|(dsimp only; omega)
  ·exact hGl0
  refine ⟨?_,?_⟩
  ·(try dsimp only)<;>(first|omega|rfl|assumption|(simp; done))
  (try dsimp only)<;>(exact fun j hj=>by (by_cases e:j=k; (subst e; simpa using c3k); exact hq j (by omega)))
 have c2k:=c2
 try simp only [qcA,qcB] at c2
 refine .exit (.xcode (.xlp (.xblk (.code (.seq (Wk.rg [0] rfl rfl (asg rfl .no (.u rfl) (.nil (.code (.ret (We.fin0 Tryd.results26 (.tmp rfl .nil) ?_)))))))))))
 exact ⟨rfl,congrArg Value.bool (sameM_yes (by simp at c1k; omega) (fun j hj=>hq j (by omega))).symm⟩
namespace FxVerZ
theorem sn45:(slE Tryd.prog 45).isSome=true:=by kernel_rfl
theorem se45:slE Tryd.prog 45=some (24,1,8):=by kernel_rfl
end FxVerZ
namespace Fx
theorem zv24:(Tryd.prog.info? 24).bind (·.zero)=some (.int .u64 0):=by kernel_rfl
theorem go33:goFn Tryd.prog 33=true:=by kernel_rfl
theorem go34:goFn Tryd.prog 34=true:=by kernel_rfl
theorem sn30:(slE Tryd.prog 30).isSome=true:=by kernel_rfl
theorem fo94_0:fOff Tryd.prog 94 0=some 0:=by kernel_rfl
end Fx
set_option maxHeartbeats 2000000 in
theorem encode_ok (e:Edit) (ha hd:Sh) (G:PM) (he:EdR G e ha hd) (hla:e.add.length≤1000000) (hld:e.drop.length≤1000000) (hlm:(e.add.flatMap encM).length≤10000000000000):Ct Tryd.prog 20 ([e.val ha hd]:List Value).toArray G [] (fun G' μ' u=>∃ (s:Sh) (L:List Y),L=encE e∧μ'=[]∧u=s.val L.length∧SlR G' 1 encY s L):=by
 refine Ct.of Tryd.func20 rfl Tryd.ntmps20 rfl fun w0 hs0=>?_
 have hea:=he.add; have hed:=he.drop; have hw:=he.wf; have hw1:=hw.log; have hw2:=hw.next; have hw3:=hw.seq; have hw4:=hw.least; have lgn:(gensL e).length=5:=rfl
 refine .seq (Wk.rg [0,1] rfl rfl ?_)
 refine bx rfl (.u rfl) rfl ?_; intro b1
 refine asg rfl .no (.u rfl) (.nil (.code (.seq ?_)))
 refine wk_fz .here (by intro b hb; cases hb) ?_; intro Gfb1 hleb1 hbb1
 have hea:=hea.mono hleb1
 have hed:=hed.mono hleb1
 have hgn:=gens_sl hbb1
 refine Wk.rg [0,1,2,3,4,5,6,7,8,9,10] rfl rfl (fa rfl .no Fx.fo32_0 (.u rfl) (ld rfl .no FxVerP.ag24 (.u rfl) (fun _=>(hbb1.rd (by rfl)).rd) ?_))
 refine fa rfl .no Fx.fo32_1 (.u rfl) (ld rfl .no FxVerP.ag24 (.u rfl) (fun _=>(hbb1.rd (by rfl)).rd) ?_)
 refine fa rfl .no Fx.fo32_2 (.u rfl) (ld rfl .no FxVerP.ag24 (.u rfl) (fun _=>(hbb1.rd (by rfl)).rd) ?_)
 refine fa rfl .no Fx.fo32_3 (.u rfl) (ld rfl .no FxVerP.ag24 (.u rfl) (fun _=>(hbb1.rd (by rfl)).rd) ?_)
 refine bQ [e.log,e.next,e.seq,e.least] rfl Fx.se45 Fx.zv24 (Evp.cons (.u rfl) (Evp.cons (.u rfl) (Evp.cons (.u rfl) (Evp.cons (.u rfl) Evp.nil)))) rfl rfl (by decide) ?_; intro G16 h16 hG16 hs16
 have hea:=hea.mono hG16
 have hed:=hed.mono hG16
 have hbb1:=hbb1.mono hG16
 have hgn:=hgn.mono hG16
 refine kc rfl Fx.go33 (Evc rfl (Evc rfl Evn)) (numbers_ok ([]:List Y) ⟨none,0⟩ [e.log,e.next,e.seq,e.least] h16 _ SlR.nul hs16 (q4 hw1 hw2 hw3 hw4) (by simp only [List.length_cons,List.length_nil]; omega)) ?_
 rintro _ G17 μ17 hG17 ⟨h17,L17,eL17,rfl,rfl,hs17⟩
 have lL17:L17.length≤([]:List Y).length+10*([e.log,e.next,e.seq,e.least]:List Int).length:=by rw [eL17,List.length_append]; have:=numsL_len (ns:=[e.log,e.next,e.seq,e.least]) (q4 hw1 hw2 hw3 hw4); omega
 try simp only [List.length_cons,List.length_nil] at lL17
 have hea:=hea.mono hG17
 have hed:=hed.mono hG17
 have hbb1:=hbb1.mono hG17
 have hgn:=hgn.mono hG17
 refine asg rfl .no (.u rfl) (.nil (.code (.seq (Wk.mix ⟨false,false⟩ FxVerP.mix (by kernel_rfl) ?_))))
 refine Wt.one 0 (by kernel_rfl) ?_
 refine mv rfl .no (.u rfl) (.nil (Wt.one 1 (by kernel_rfl) ?_))
 refine fa rfl .no Fx.fo32_4 (.u rfl) (.nil (Wt.one 2 (by kernel_rfl) ?_))
 refine sa0 rfl .no Fx.ar25 (.u rfl) (.nil (Wt.one 4 (by kernel_rfl) ?_))
 refine fa rfl .no Fx.fo32_5 (.u rfl) (.nil (Wt.one 5 (by kernel_rfl) ?_))
 refine ld rfl .no Fx.ag22 (.u rfl) (fun _=>(hbb1.rd (by rfl)).rd) ?_
 refine .nil (Wt.one 6 (by kernel_rfl) ?_)
 refine ln rfl .no Fx.sn22 (.u rfl) (.nil (Wt.one 7 (by kernel_rfl) ?_))
 refine cw rfl .no FxVerR.cv3_24 (.u rfl) (fun _=>wrap_u64 (by omega) (by omega)) ?_
 refine .nil (Wt.b2 3 8 (by kernel_rfl) ?_ ?_)
 ·refine kc rfl Fx.go33 (Evc rfl (Evc rfl Evn)) (numbers_ok L17 h17 (gensL e) ⟨some ⟨b1,4,none⟩,5⟩ _ hs17 hgn (gens_u hw) (by show _+10*5≤_; omega)) ?_
  rintro _ G21 μ21 hG21 ⟨h21,L21,eL21,rfl,rfl,hs21⟩
  have lL21:L21.length≤L17.length+10*((gensL e):List Int).length:=by rw [eL21,List.length_append]; have:=numsL_len (ns:=(gensL e)) (gens_u hw); omega
  try simp only [List.length_cons,List.length_nil] at lL21
  have hea:=hea.mono hG21
  have hed:=hed.mono hG21
  have hbb1:=hbb1.mono hG21
  have hgn:=hgn.mono hG21
  have hs17:=hs17.mono hG21
  refine .nil (Wt.b1 8 (by kernel_rfl) ?_)
  refine bQ [(e.add.length:Int)] rfl Fx.se45 Fx.zv24 (Evp.cons (.u rfl) Evp.nil) rfl rfl (by decide) ?_; intro G26 h26 hG26 hs26
  have hea:=hea.mono hG26
  have hed:=hed.mono hG26
  have hbb1:=hbb1.mono hG26
  have hgn:=hgn.mono hG26
  have hs17:=hs17.mono hG26
  have hs21:=hs21.mono hG26
  refine .nil (Wt.b1 9 (by kernel_rfl) ?_)
  refine kc rfl Fx.go33 (Evc rfl (Evc rfl Evn)) (numbers_ok L21 h21 [(e.add.length:Int)] h26 _ hs21 hs26 (q1 (u64_len (by omega))) (by simp only [List.length_cons,List.length_nil]; omega)) ?_
  rintro _ G27 μ27 hG27 ⟨h27,L27,eL27,rfl,rfl,hs27⟩
  have lL27:L27.length≤L21.length+10*([(e.add.length:Int)]:List Int).length:=by rw [eL27,List.length_append]; have:=numsL_len (ns:=[(e.add.length:Int)]) (q1 (u64_len (by omega))); omega
  try simp only [List.length_cons,List.length_nil] at lL27
  have hea:=hea.mono hG27
  have hed:=hed.mono hG27
  have hbb1:=hbb1.mono hG27
  have hgn:=hgn.mono hG27
  have hs17:=hs17.mono hG27
  have hs21:=hs21.mono hG27
  have hs26:=hs26.mono hG27
  refine .nil (Wt.one 10 (by kernel_rfl) ?_)
  refine asg rfl .no (.u rfl) (.nil (Wt.last (by kernel_rfl) ?_))
  refine .code (.seq (.seq (Wk.rg [0,1,2,3] rfl rfl (fa rfl .no Fx.fo32_5 (.u rfl) (ld rfl .no Fx.ag22 (.u rfl) (fun _=>(hbb1.rd (by rfl)).rd) ?_)))))
  refine ln rfl .no Fx.sn22 (.u rfl) (mv rfl .no (.u rfl) (.nil (.code (.block ?_))))
  refine Wk.lop (α:=Nat×Sh×List Y) (fun gh=>[(3,true,gh.2.1.val gh.2.2.length),(31,true,.int .i64 (gh.1:Int))]) (fun _=>[])
   (fun gh Gl=>(gh.1≤e.add.length)∧(gh.2.2=L27++(e.add.take gh.1).flatMap encM)∧(SlR Gl 1 encY gh.2.1 gh.2.2)) (fun gh=>e.add.length-gh.1) (0,h27,L27) [(1,true,_),(29,true,_),(30,true,_)] []
   (ESub.c rfl (ESub.cons rfl (by first|rfl|exact evi (by omega)) (ESub.c rfl (ESub.c rfl (ESub.c rfl ESub.nil)))))
   MSub.nil ?_ ?_
  ·refine ⟨?_,?_,?_⟩
   ·(try dsimp only)<;>(first|omega|rfl|assumption|(simp; done))
   ·(try dsimp only)<;>(simp)
   (try dsimp only)<;>(exact hs27)
  intro gh N0 Gl0 hN0 hGl0 hF0
  obtain ⟨k,h3,L3⟩:=gh; dsimp only at hF0 hN0 ⊢
  obtain ⟨hk,eL,hsl⟩:=hF0
  have hea:=hea.mono hGl0
  have hed:=hed.mono hGl0
  have hbb1:=hbb1.mono hGl0
  have hgn:=hgn.mono hGl0
  have hs17:=hs17.mono hGl0
  have hs21:=hs21.mono hGl0
  have hs26:=hs26.mono hGl0
  have hs27:=hs27.mono hGl0
  have lk:=flat_take_le (f:=encM) (xs:=e.add) k
  have lL:L3.length=L27.length+((e.add.take k).flatMap encM).length:=by rw [eL,List.length_append]
  refine .seq (Wk.rg [0] rfl rfl (cp rfl .no (.u rfl) (.u rfl) rfl (.nil (.code (.seq (.cond rfl (fun c1=>?_) (fun c1=>?_)))))))
  ·have c1k:=c1
   try simp only [qcA,qcB] at c1
   refine .skip (.code (.seq (.block (.seq (Wk.rg [0,1,2,3] rfl rfl (ih rfl .no Fx.se22 (.u rfl) (.u rfl) (fun _=>by omega) (fun _=>by omega) (fun _=>hea.nn (k:=k) (by first|omega|(simp only [Bool.and_eq_true,decide_eq_true_eq] at hc; omega)|(simp only [List.length_cons,List.length_nil]; omega))) ?_))))))
   obtain ⟨m,em⟩:=getx (k:=k) (xs:=e.add) (by omega)
   refine lA rfl .no Fx.ag67 (.u rfl) (fun _=>(hea.at (by omega) em).rd) (fun _=>Meta.len _) ?_
   refine al rfl Fx.zq67 ?_; intro b5
   refine sw rfl (.u rfl) (.u rfl) rfl Fx.sz67 .here rfl (Meta.one _) ?_
   refine .nil (.code (.seq ?_))
   refine wk_fz .here (by intro b hb; cases hb) ?_; intro Gfb5 hleb5 hbb5
   have hea:=hea.mono hleb5
   have hed:=hed.mono hleb5
   have hbb1:=hbb1.mono hleb5
   have hgn:=hgn.mono hleb5
   have hs17:=hs17.mono hleb5
   have hs21:=hs21.mono hleb5
   have hs26:=hs26.mono hleb5
   have hs27:=hs27.mono hleb5
   have hsl:=hsl.mono hleb5
   have hwm:=hw.add m (List.mem_of_getElem? em); have w1:=hwm.level; have w2:=hwm.gen; have w3:=hwm.epoch; have w4:=hwm.number; have l6:=u64_6 hwm; have lt:=flat_take (f:=encM) em; have lg:=encM_ge m
   refine Wk.rg [0,1,2,3,4,5,6,7,8,9,10,11,12,13,14,15,16,17,18] rfl rfl (mv rfl .no (.u rfl) (fa rfl .no Fx.fo67_0 (.u rfl) (ld rfl .no FxVerP.ag5 (.u rfl) (fun _=>(hbb5.rd (by rfl)).rd) ?_)))
   refine cw rfl .no FxVerR.cv5_24 (.u rfl) (fun _=>wrap_u64 (by omega) (by omega)) ?_
   refine fa rfl .no Fx.fo67_1 (.u rfl) (ld rfl .no FxVerP.ag24 (.u rfl) (fun _=>(hbb5.rd (by rfl)).rd) ?_)
   refine fa rfl .no Fx.fo67_2 (.u rfl) (ld rfl .no FxVerP.ag24 (.u rfl) (fun _=>(hbb5.rd (by rfl)).rd) ?_)
   refine fa rfl .no Fx.fo67_3 (.u rfl) (ld rfl .no FxVerP.ag24 (.u rfl) (fun _=>(hbb5.rd (by rfl)).rd) ?_)
   refine fa rfl .no Fx.fo67_4 (.u rfl) (ld rfl .no FxVerP.ag3 (.u rfl) (fun _=>(hbb5.rd (by rfl)).rd) ?_)
   refine cv rfl .no FxVerR.cv3_24 (.u rfl) (fa rfl .no Fx.fo67_5 (.u rfl) (ld rfl .no FxVerP.ag3 (.u rfl) (fun _=>(hbb5.rd (by rfl)).rd) ?_))
   refine cv rfl .no FxVerR.cv3_24 (.u rfl) ?_
   refine bQ [m.level,m.gen,m.epoch,m.number,IntKind.u64.wrap m.size,IntKind.u64.wrap m.count] rfl Fx.se45 Fx.zv24 (Evp.cons (.u rfl) (Evp.cons (.u rfl) (Evp.cons (.u rfl) (Evp.cons (.u rfl) (Evp.cons (.u rfl) (Evp.cons (.u rfl) Evp.nil)))))) rfl rfl (by decide) ?_; intro G51 h51 hG51 hs51
   have hea:=hea.mono hG51
   have hed:=hed.mono hG51
   have hbb1:=hbb1.mono hG51
   have hgn:=hgn.mono hG51
   have hs17:=hs17.mono hG51
   have hs21:=hs21.mono hG51
   have hs26:=hs26.mono hG51
   have hs27:=hs27.mono hG51
   have hsl:=hsl.mono hG51
   have hbb5:=hbb5.mono hG51
   refine kc rfl Fx.go33 (Evc rfl (Evc rfl Evn)) (numbers_ok L3 h3 [m.level,m.gen,m.epoch,m.number,IntKind.u64.wrap m.size,IntKind.u64.wrap m.count] h51 _ hsl hs51 l6 (by simp only [List.length_cons,List.length_nil]; omega)) ?_
   rintro _ G52 μ52 hG52 ⟨h52,L52,eL52,rfl,rfl,hs52⟩
   have lL52:L52.length≤L3.length+10*([m.level,m.gen,m.epoch,m.number,IntKind.u64.wrap m.size,IntKind.u64.wrap m.count]:List Int).length:=by rw [eL52,List.length_append]; have:=numsL_len (ns:=[m.level,m.gen,m.epoch,m.number,IntKind.u64.wrap m.size,IntKind.u64.wrap m.count]) l6; omega
   try simp only [List.length_cons,List.length_nil] at lL52
   have hea:=hea.mono hG52
   have hed:=hed.mono hG52
   have hbb1:=hbb1.mono hG52
   have hgn:=hgn.mono hG52
   have hs17:=hs17.mono hG52
   have hs21:=hs21.mono hG52
   have hs26:=hs26.mono hG52
   have hs27:=hs27.mono hG52
   have hsl:=hsl.mono hG52
   have hbb5:=hbb5.mono hG52
   have hs51:=hs51.mono hG52
   refine asg rfl .no (.u rfl) (.nil (.code (Wk.draw (mc:=⟨false,false⟩) [0,1,2,4,5,7,8,3,6,9,10] FxVerP.mix (by kernel_rfl) ?_)))
   refine mv rfl .no (.u rfl) (fa rfl .no Fx.fo67_6 (.u rfl) (ld rfl .no Fx.ag9 (.u rfl) (fun _=>(hbb5.rd (by rfl)).rd) ?_))
   refine fa rfl .no Fx.fo67_7 (.u rfl) (ld rfl .no Fx.ag9 (.u rfl) (fun _=>(hbb5.rd (by rfl)).rd) ?_)
   refine fa rfl .no Fx.fo67_8 (.u rfl) ?_
   refine kA rfl .no FxVerW.ar34 (.u rfl) hbb5 (meta_ba hwm) ?_; intro h61 L61 eL61 lL61 hs61
   have ly:=yb_len m.min; have ly2:=yb_len m.max
   refine kc rfl Fx.go34 (Evc rfl (Evc rfl Evn)) (Ct.frzB (Str_ok L52 h52 _ hs52 m.min (by omega))) ?_
   rintro _ G56 μ56 hG56 ⟨h56,L56,eL56,rfl,rfl,hs56⟩
   have hea:=hea.mono hG56
   have hed:=hed.mono hG56
   have hbb1:=hbb1.mono hG56
   have hgn:=hgn.mono hG56
   have hs17:=hs17.mono hG56
   have hs21:=hs21.mono hG56
   have hs26:=hs26.mono hG56
   have hs27:=hs27.mono hG56
   have hsl:=hsl.mono hG56
   have hbb5:=hbb5.mono hG56
   have hs51:=hs51.mono hG56
   have hs52:=hs52.mono hG56
   have hs61:=hs61.mono hG56
   have l56:L56.length≤L52.length+(m.min.size+10):=by rw [eL56,List.length_append]; have:=strL_len (xs:=yb m.min) (by omega); omega
   refine kc rfl Fx.go34 (Evc rfl (Evc rfl Evn)) (Ct.rowc (Str_ok L56 h56 _ hs56 m.max (by omega))) ?_
   rintro v59 G59 μ59 hG59 ⟨L59,ov59,eL59,rfl⟩
   have hea:=hea.mono hG59
   have hed:=hed.mono hG59
   have hbb1:=hbb1.mono hG59
   have hgn:=hgn.mono hG59
   have hs17:=hs17.mono hG59
   have hs21:=hs21.mono hG59
   have hs26:=hs26.mono hG59
   have hs27:=hs27.mono hG59
   have hsl:=hsl.mono hG59
   have hbb5:=hbb5.mono hG59
   have hs51:=hs51.mono hG59
   have hs52:=hs52.mono hG59
   have hs61:=hs61.mono hG59
   have hs56:=hs56.mono hG59
   have l59:L59.length≤L56.length+(m.max.size+10):=by rw [eL59,List.length_append]; have:=strL_len (xs:=yb m.max) (by omega); omega
   refine apY rfl FxVerR.se42 FxVerR.zv5 (.u rfl) (.u rfl) .here hs61.sc (by (try simp only [qlA,yl_len]); omega) ?_
   intro v62 L62 ov62 eL62
   have lL62:L62.length=L59.length+L61.length:=by rw [eL62,List.length_append]
   refine asg rfl .no (.u rfl) (.nil (.blk (.code ?_)))
   refine wk_fb .here (by first|(intro b hb; cases hb; done) | simp [keys,Res.keys]) ?_; intro GfR59 hR59 hleR59 evR59 hsR59; subst evR59
   have hea:=hea.mono hleR59
   have hed:=hed.mono hleR59
   have hbb1:=hbb1.mono hleR59
   have hgn:=hgn.mono hleR59
   have hs17:=hs17.mono hleR59
   have hs21:=hs21.mono hleR59
   have hs26:=hs26.mono hleR59
   have hs27:=hs27.mono hleR59
   have hsl:=hsl.mono hleR59
   have hbb5:=hbb5.mono hleR59
   have hs51:=hs51.mono hleR59
   have hs52:=hs52.mono hleR59
   have hs61:=hs61.mono hleR59
   have hs56:=hs56.mono hleR59
   refine Wk.rg [0,1] rfl rfl (arn (((k+1):Nat):Int) rfl .no (.u rfl) (.u rfl) rfl (fun _=>by omega) (fun _=>wrap_i64 (by omega) (by omega)) ?_)
   refine mv rfl .no (.u rfl) (.nil (We.lpo (k+1,hR59,L62) ?_ ?_ ?_ ?_ ?_))
   ·exact (ESub.c rfl (ESub.cons rfl (by first|rfl|exact evi (by omega)) (ESub.c rfl (ESub.c rfl (ESub.c rfl ESub.nil)))))
   ·exact MSub.nil
   ·first|omega|(dsimp only; omega)
   ·exact ((((((hGl0).trans hleb5).trans hG51).trans hG52).trans hG56).trans hG59).trans hleR59
   refine ⟨?_,?_,?_⟩
   ·(try dsimp only)<;>(first|omega|rfl|assumption|(simp; done))
   ·(try dsimp only)<;>(rw [eL62,eL59,eL56,eL52,eL61,encM_eq,eL,flat_snoc em,List.append_assoc])
   (try dsimp only)<;>(exact hsR59)
  have c1k:=c1
  try simp only [qcA,qcB] at c1
  refine .exit (.xcode (.xlp (.xblk (.code (.seq (Wk.rg [0,1,2,3,4,5,6,7] rfl rfl (mv rfl .no (.u rfl) (fa rfl .no Fx.fo32_6 (.u rfl) (ld rfl .no Fx.ag30 (.u rfl) (fun _=>(hbb1.rd (by rfl)).rd) ?_)))))))))
  refine ln rfl .no Fx.sn30 (.u rfl) (cw rfl .no FxVerR.cv3_24 (.u rfl) (fun _=>wrap_u64 (by omega) (by omega)) ?_)
  refine bQ [(e.drop.length:Int)] rfl Fx.se45 Fx.zv24 (Evp.cons (.u rfl) Evp.nil) rfl rfl (by decide) ?_; intro G69 h69 hG69 hs69
  have hea:=hea.mono hG69
  have hed:=hed.mono hG69
  have hbb1:=hbb1.mono hG69
  have hgn:=hgn.mono hG69
  have hs17:=hs17.mono hG69
  have hs21:=hs21.mono hG69
  have hs26:=hs26.mono hG69
  have hs27:=hs27.mono hG69
  have hsl:=hsl.mono hG69
  refine kc rfl Fx.go33 (Evc rfl (Evc rfl Evn)) (numbers_ok L3 h3 [(e.drop.length:Int)] h69 _ hsl hs69 (q1 (u64_len (by omega))) (by simp only [List.length_cons,List.length_nil]; omega)) ?_
  rintro _ G70 μ70 hG70 ⟨h70,L70,eL70,rfl,rfl,hs70⟩
  have lL70:L70.length≤L3.length+10*([(e.drop.length:Int)]:List Int).length:=by rw [eL70,List.length_append]; have:=numsL_len (ns:=[(e.drop.length:Int)]) (q1 (u64_len (by omega))); omega
  try simp only [List.length_cons,List.length_nil] at lL70
  have hea:=hea.mono hG70
  have hed:=hed.mono hG70
  have hbb1:=hbb1.mono hG70
  have hgn:=hgn.mono hG70
  have hs17:=hs17.mono hG70
  have hs21:=hs21.mono hG70
  have hs26:=hs26.mono hG70
  have hs27:=hs27.mono hG70
  have hsl:=hsl.mono hG70
  have hs69:=hs69.mono hG70
  refine asg rfl .no (.u rfl) (.nil (.code (.seq (.seq (Wk.rg [0,1,2,3] rfl rfl (fa rfl .no Fx.fo32_6 (.u rfl) (ld rfl .no Fx.ag30 (.u rfl) (fun _=>(hbb1.rd (by rfl)).rd) ?_)))))))
  refine ln rfl .no Fx.sn30 (.u rfl) (mv rfl .no (.u rfl) (.nil (.code (.block ?_))))
  refine Wk.lop (α:=Nat×Sh×List Y) (fun gh=>[(3,true,gh.2.1.val gh.2.2.length),(74,true,.int .i64 (gh.1:Int))]) (fun _=>[])
   (fun gh Gl=>(gh.1≤e.drop.length)∧(gh.2.2=L70++(e.drop.take gh.1).flatMap encG)∧(SlR Gl 1 encY gh.2.1 gh.2.2)) (fun gh=>e.drop.length-gh.1) (0,h70,L70) [(72,true,_),(73,true,_)] []
   (ESub.c rfl (ESub.cons rfl (by first|rfl|exact evi (by omega)) (ESub.c rfl (ESub.c rfl ESub.nil))))
   MSub.nil ?_ ?_
  ·refine ⟨?_,?_,?_⟩
   ·(try dsimp only)<;>(first|omega|rfl|assumption|(simp; done))
   ·(try dsimp only)<;>(simp)
   (try dsimp only)<;>(exact hs70)
  intro gh N1 Gl1 hN1 hGl1 hF1
  obtain ⟨j,h9,L9⟩:=gh; dsimp only at hF1 hN1 ⊢
  obtain ⟨hj,eL9,hsl2⟩:=hF1
  have hea:=hea.mono hGl1
  have hed:=hed.mono hGl1
  have hbb1:=hbb1.mono hGl1
  have hgn:=hgn.mono hGl1
  have hs17:=hs17.mono hGl1
  have hs21:=hs21.mono hGl1
  have hs26:=hs26.mono hGl1
  have hs27:=hs27.mono hGl1
  have hsl:=hsl.mono hGl1
  have hs69:=hs69.mono hGl1
  have hs70:=hs70.mono hGl1
  have lk2:=flat_take_le (f:=encG) (xs:=e.drop) j
  have ld2:=gonesL hw.drop
  have lL9:L9.length=L70.length+((e.drop.take j).flatMap encG).length:=by rw [eL9,List.length_append]
  refine .seq (Wk.rg [0] rfl rfl (cp rfl .no (.u rfl) (.u rfl) rfl (.nil (.code (.seq (.cond rfl (fun c2=>?_) (fun c2=>?_)))))))
  ·have c2k:=c2
   try simp only [qcA,qcB] at c2
   refine .skip (.code (.seq (.block (.seq (Wk.rg [0,1,2,3] rfl rfl (ih rfl .no Fx.se30 (.u rfl) (.u rfl) (fun _=>by omega) (fun _=>by omega) (fun _=>hed.nn (k:=j) (by first|omega|(simp only [Bool.and_eq_true,decide_eq_true_eq] at hc; omega)|(simp only [List.length_cons,List.length_nil]; omega))) ?_))))))
   obtain ⟨g,eg⟩:=getx (k:=j) (xs:=e.drop) (by omega)
   refine lA rfl .no Fx.ag94 (.u rfl) (fun _=>(hed.at (by omega) eg).rd) (fun _=>rfl) ?_
   refine al rfl Fx.zr94 ?_; intro b7
   refine sw rfl (.u rfl) (.u rfl) rfl Fx.sz94 .here rfl (gones1) ?_
   refine .nil (.code ?_)
   refine wk_fz .here (by intro b hb; cases hb) ?_; intro Gfb7 hleb7 hbb7
   have hea:=hea.mono hleb7
   have hed:=hed.mono hleb7
   have hbb1:=hbb1.mono hleb7
   have hgn:=hgn.mono hleb7
   have hs17:=hs17.mono hleb7
   have hs21:=hs21.mono hleb7
   have hs26:=hs26.mono hleb7
   have hs27:=hs27.mono hleb7
   have hsl:=hsl.mono hleb7
   have hs69:=hs69.mono hleb7
   have hs70:=hs70.mono hleb7
   have hsl2:=hsl2.mono hleb7
   have hwg:=hw.drop g (List.mem_of_getElem? eg); have w1:=hwg.level; have w2:=hwg.number; have lt:=flat_take (f:=encG) eg
   refine Wk.rg [0,1,2,3,4,5,6,7,8] rfl rfl (mv rfl .no (.u rfl) (fa rfl .no Fx.fo94_0 (.u rfl) (ld rfl .no FxVerP.ag5 (.u rfl) (fun _=>(hbb7.rd (by rfl)).rd) ?_)))
   refine cw rfl .no FxVerR.cv5_24 (.u rfl) (fun _=>wrap_u64 (by omega) (by omega)) ?_
   refine fa rfl .no Fx.fo94_1 (.u rfl) (ld rfl .no FxVerP.ag24 (.u rfl) (fun _=>(hbb7.rd (by rfl)).rd) ?_)
   refine bQ [g.level,g.number] rfl Fx.se45 Fx.zv24 (Evp.cons (.u rfl) (Evp.cons (.u rfl) Evp.nil)) rfl rfl (by decide) ?_; intro G84 h84 hG84 hs84
   have hea:=hea.mono hG84
   have hed:=hed.mono hG84
   have hbb1:=hbb1.mono hG84
   have hgn:=hgn.mono hG84
   have hs17:=hs17.mono hG84
   have hs21:=hs21.mono hG84
   have hs26:=hs26.mono hG84
   have hs27:=hs27.mono hG84
   have hsl:=hsl.mono hG84
   have hs69:=hs69.mono hG84
   have hs70:=hs70.mono hG84
   have hsl2:=hsl2.mono hG84
   have hbb7:=hbb7.mono hG84
   refine kc rfl Fx.go33 (Evc rfl (Evc rfl Evn)) (numbers_ok L9 h9 [g.level,g.number] h84 _ hsl2 hs84 (q2 ⟨by omega,by omega⟩ ⟨by omega,by omega⟩) (by simp only [List.length_cons,List.length_nil]; omega)) ?_
   rintro _ G85 μ85 hG85 ⟨h85,L85,eL85,rfl,rfl,hs85⟩
   have lL85:L85.length≤L9.length+10*([g.level,g.number]:List Int).length:=by rw [eL85,List.length_append]; have:=numsL_len (ns:=[g.level,g.number]) (q2 ⟨by omega,by omega⟩ ⟨by omega,by omega⟩); omega
   try simp only [List.length_cons,List.length_nil] at lL85
   have hea:=hea.mono hG85
   have hed:=hed.mono hG85
   have hbb1:=hbb1.mono hG85
   have hgn:=hgn.mono hG85
   have hs17:=hs17.mono hG85
   have hs21:=hs21.mono hG85
   have hs26:=hs26.mono hG85
   have hs27:=hs27.mono hG85
   have hsl:=hsl.mono hG85
   have hs69:=hs69.mono hG85
   have hs70:=hs70.mono hG85
   have hsl2:=hsl2.mono hG85
   have hbb7:=hbb7.mono hG85
   have hs84:=hs84.mono hG85
   refine asg rfl .no (.u rfl) (.nil (.blk (.code (Wk.rg [0,1] rfl rfl (arn (((j+1):Nat):Int) rfl .no (.u rfl) (.u rfl) rfl (fun _=>by omega) (fun _=>wrap_i64 (by omega) (by omega)) ?_)))))
   refine mv rfl .no (.u rfl) (.nil (We.lpo (j+1,h85,L85) ?_ ?_ ?_ ?_ ?_))
   ·exact (ESub.c rfl (ESub.cons rfl (by first|rfl|exact evi (by omega)) (ESub.c rfl (ESub.c rfl ESub.nil))))
   ·exact MSub.nil
   ·first|omega|(dsimp only; omega)
   ·exact (((hGl1).trans hleb7).trans hG84).trans hG85
   refine ⟨?_,?_,?_⟩
   ·(try dsimp only)<;>(first|omega|rfl|assumption|(simp; done))
   ·(try dsimp only)<;>(rw [eL85,encG_eq,eL9,flat_snoc eg,List.append_assoc])
   (try dsimp only)<;>(exact hs85)
  have c2k:=c2
  try simp only [qcA,qcB] at c2
  refine .exit (.xcode (.xlp (.xblk (.code (.seq (Wk.rg [0,1] rfl rfl (mv rfl .no (.u rfl) (asg rfl .no (.u rfl) (.nil (.code (.ret (We.fin0 Tryd.results20 (.tmp rfl .nil) ?_))))))))))))
  obtain rfl:k=e.add.length:=by omega
  obtain rfl:j=e.drop.length:=by omega
  rw [List.take_length] at eL eL9
  exact ⟨h9,L9,by rw [eL9,eL70,eL,eL27,eL21,eL17,List.nil_append,encE_eq],rfl,rfl,hsl2⟩
 refine bQ [(e.add.length:Int)] rfl Fx.se45 Fx.zv24 (Evp.cons (.u rfl) Evp.nil) rfl rfl (by decide) ?_; intro G26 h26 hG26 hs26
 have hea:=hea.mono hG26
 have hed:=hed.mono hG26
 have hbb1:=hbb1.mono hG26
 have hgn:=hgn.mono hG26
 have hs17:=hs17.mono hG26
 refine .nil (Wt.b1 3 (by kernel_rfl) ?_)
 refine kc rfl Fx.go33 (Evc rfl (Evc rfl Evn)) (numbers_ok L17 h17 (gensL e) ⟨some ⟨b1,4,none⟩,5⟩ _ hs17 hgn (gens_u hw) (by show _+10*5≤_; omega)) ?_
 rintro _ G21 μ21 hG21 ⟨h21,L21,eL21,rfl,rfl,hs21⟩
 have lL21:L21.length≤L17.length+10*((gensL e):List Int).length:=by rw [eL21,List.length_append]; have:=numsL_len (ns:=(gensL e)) (gens_u hw); omega
 try simp only [List.length_cons,List.length_nil] at lL21
 have hea:=hea.mono hG21
 have hed:=hed.mono hG21
 have hbb1:=hbb1.mono hG21
 have hs26:=hs26.mono hG21
 refine .nil (Wt.b1 9 (by kernel_rfl) ?_)
 refine kc rfl Fx.go33 (Evc rfl (Evc rfl Evn)) (numbers_ok L21 h21 [(e.add.length:Int)] h26 _ hs21 hs26 (q1 (u64_len (by omega))) (by simp only [List.length_cons,List.length_nil]; omega)) ?_
 rintro _ G27 μ27 hG27 ⟨h27,L27,eL27,rfl,rfl,hs27⟩
 have lL27:L27.length≤L21.length+10*([(e.add.length:Int)]:List Int).length:=by rw [eL27,List.length_append]; have:=numsL_len (ns:=[(e.add.length:Int)]) (q1 (u64_len (by omega))); omega
 try simp only [List.length_cons,List.length_nil] at lL27
 have hea:=hea.mono hG27
 have hed:=hed.mono hG27
 have hbb1:=hbb1.mono hG27
 refine .nil (Wt.one 10 (by kernel_rfl) ?_)
 refine asg rfl .no (.u rfl) (.nil (Wt.last (by kernel_rfl) ?_))
 refine .code (.seq (.seq (Wk.rg [0,1,2,3] rfl rfl (fa rfl .no Fx.fo32_5 (.u rfl) (ld rfl .no Fx.ag22 (.u rfl) (fun _=>(hbb1.rd (by rfl)).rd) ?_)))))
 refine ln rfl .no Fx.sn22 (.u rfl) (mv rfl .no (.u rfl) (.nil (.code (.block ?_))))
 refine Wk.lop (α:=Nat×Sh×List Y) (fun gh=>[(3,true,gh.2.1.val gh.2.2.length),(31,true,.int .i64 (gh.1:Int))]) (fun _=>[])
  (fun gh Gl=>(gh.1≤e.add.length)∧(gh.2.2=L27++(e.add.take gh.1).flatMap encM)∧(SlR Gl 1 encY gh.2.1 gh.2.2)) (fun gh=>e.add.length-gh.1) (0,h27,L27) [(1,true,_),(29,true,_),(30,true,_)] []
  (ESub.c rfl (ESub.cons rfl (by first|rfl|exact evi (by omega)) (ESub.c rfl (ESub.c rfl (ESub.c rfl ESub.nil)))))
  MSub.nil ?_ ?_
 ·refine ⟨?_,?_,?_⟩
  ·(try dsimp only)<;>(first|omega|rfl|assumption|(simp; done))
  ·(try dsimp only)<;>(simp)
  (try dsimp only)<;>(exact hs27)
 intro gh N0 Gl0 hN0 hGl0 hF0
 obtain ⟨k,h3,L3⟩:=gh; dsimp only at hF0 hN0 ⊢
 obtain ⟨hk,eL,hsl⟩:=hF0
 have hea:=hea.mono hGl0
 have hed:=hed.mono hGl0
 have hbb1:=hbb1.mono hGl0
 have lk:=flat_take_le (f:=encM) (xs:=e.add) k
 have lL:L3.length=L27.length+((e.add.take k).flatMap encM).length:=by rw [eL,List.length_append]
 refine .seq (Wk.rg [0] rfl rfl (cp rfl .no (.u rfl) (.u rfl) rfl (.nil (.code (.seq (.cond rfl (fun c1=>?_) (fun c1=>?_)))))))
 ·have c1k:=c1
  try simp only [qcA,qcB] at c1
  refine .skip (.code (.seq (.block (.seq (Wk.rg [0,1,2,3] rfl rfl (ih rfl .no Fx.se22 (.u rfl) (.u rfl) (fun _=>by omega) (fun _=>by omega) (fun _=>hea.nn (k:=k) (by first|omega|(simp only [Bool.and_eq_true,decide_eq_true_eq] at hc; omega)|(simp only [List.length_cons,List.length_nil]; omega))) ?_))))))
  obtain ⟨m,em⟩:=getx (k:=k) (xs:=e.add) (by omega)
  refine lA rfl .no Fx.ag67 (.u rfl) (fun _=>(hea.at (by omega) em).rd) (fun _=>Meta.len _) ?_
  refine al rfl Fx.zq67 ?_; intro b5
  refine sw rfl (.u rfl) (.u rfl) rfl Fx.sz67 .here rfl (Meta.one _) ?_
  refine .nil (.code (.seq ?_))
  refine wk_fz .here (by intro b hb; cases hb) ?_; intro Gfb5 hleb5 hbb5
  have hed:=hed.mono hleb5
  have hbb1:=hbb1.mono hleb5
  have hsl:=hsl.mono hleb5
  have hwm:=hw.add m (List.mem_of_getElem? em); have w1:=hwm.level; have w2:=hwm.gen; have w3:=hwm.epoch; have w4:=hwm.number; have l6:=u64_6 hwm; have lt:=flat_take (f:=encM) em; have lg:=encM_ge m
  refine Wk.rg [0,1,2,3,4,5,6,7,8,9,10,11,12,13,14,15,16,17,18] rfl rfl (mv rfl .no (.u rfl) (fa rfl .no Fx.fo67_0 (.u rfl) (ld rfl .no FxVerP.ag5 (.u rfl) (fun _=>(hbb5.rd (by rfl)).rd) ?_)))
  refine cw rfl .no FxVerR.cv5_24 (.u rfl) (fun _=>wrap_u64 (by omega) (by omega)) ?_
  refine fa rfl .no Fx.fo67_1 (.u rfl) (ld rfl .no FxVerP.ag24 (.u rfl) (fun _=>(hbb5.rd (by rfl)).rd) ?_)
  refine fa rfl .no Fx.fo67_2 (.u rfl) (ld rfl .no FxVerP.ag24 (.u rfl) (fun _=>(hbb5.rd (by rfl)).rd) ?_)
  refine fa rfl .no Fx.fo67_3 (.u rfl) (ld rfl .no FxVerP.ag24 (.u rfl) (fun _=>(hbb5.rd (by rfl)).rd) ?_)
  refine fa rfl .no Fx.fo67_4 (.u rfl) (ld rfl .no FxVerP.ag3 (.u rfl) (fun _=>(hbb5.rd (by rfl)).rd) ?_)
  refine cv rfl .no FxVerR.cv3_24 (.u rfl) (fa rfl .no Fx.fo67_5 (.u rfl) (ld rfl .no FxVerP.ag3 (.u rfl) (fun _=>(hbb5.rd (by rfl)).rd) ?_))
  refine cv rfl .no FxVerR.cv3_24 (.u rfl) ?_
  refine bQ [m.level,m.gen,m.epoch,m.number,IntKind.u64.wrap m.size,IntKind.u64.wrap m.count] rfl Fx.se45 Fx.zv24 (Evp.cons (.u rfl) (Evp.cons (.u rfl) (Evp.cons (.u rfl) (Evp.cons (.u rfl) (Evp.cons (.u rfl) (Evp.cons (.u rfl) Evp.nil)))))) rfl rfl (by decide) ?_; intro G51 h51 hG51 hs51
  have hed:=hed.mono hG51
  have hbb1:=hbb1.mono hG51
  have hsl:=hsl.mono hG51
  have hbb5:=hbb5.mono hG51
  refine kc rfl Fx.go33 (Evc rfl (Evc rfl Evn)) (numbers_ok L3 h3 [m.level,m.gen,m.epoch,m.number,IntKind.u64.wrap m.size,IntKind.u64.wrap m.count] h51 _ hsl hs51 l6 (by simp only [List.length_cons,List.length_nil]; omega)) ?_
  rintro _ G52 μ52 hG52 ⟨h52,L52,eL52,rfl,rfl,hs52⟩
  have lL52:L52.length≤L3.length+10*([m.level,m.gen,m.epoch,m.number,IntKind.u64.wrap m.size,IntKind.u64.wrap m.count]:List Int).length:=by rw [eL52,List.length_append]; have:=numsL_len (ns:=[m.level,m.gen,m.epoch,m.number,IntKind.u64.wrap m.size,IntKind.u64.wrap m.count]) l6; omega
  try simp only [List.length_cons,List.length_nil] at lL52
  have hed:=hed.mono hG52
  have hbb1:=hbb1.mono hG52
  have hsl:=hsl.mono hG52
  have hbb5:=hbb5.mono hG52
  refine asg rfl .no (.u rfl) (.nil (.code (Wk.draw (mc:=⟨false,false⟩) [0,1,2,4,5,7,8,3,6,9,10] FxVerP.mix (by kernel_rfl) ?_)))
  refine mv rfl .no (.u rfl) (fa rfl .no Fx.fo67_6 (.u rfl) (ld rfl .no Fx.ag9 (.u rfl) (fun _=>(hbb5.rd (by rfl)).rd) ?_))
  refine fa rfl .no Fx.fo67_7 (.u rfl) (ld rfl .no Fx.ag9 (.u rfl) (fun _=>(hbb5.rd (by rfl)).rd) ?_)
  refine fa rfl .no Fx.fo67_8 (.u rfl) ?_
  refine kA rfl .no FxVerW.ar34 (.u rfl) hbb5 (meta_ba hwm) ?_; intro h61 L61 eL61 lL61 hs61
  have ly:=yb_len m.min; have ly2:=yb_len m.max
  refine kc rfl Fx.go34 (Evc rfl (Evc rfl Evn)) (Ct.frzB (Str_ok L52 h52 _ hs52 m.min (by omega))) ?_
  rintro _ G56 μ56 hG56 ⟨h56,L56,eL56,rfl,rfl,hs56⟩
  have hed:=hed.mono hG56
  have hbb1:=hbb1.mono hG56
  have hsl:=hsl.mono hG56
  have hs61:=hs61.mono hG56
  have l56:L56.length≤L52.length+(m.min.size+10):=by rw [eL56,List.length_append]; have:=strL_len (xs:=yb m.min) (by omega); omega
  refine kc rfl Fx.go34 (Evc rfl (Evc rfl Evn)) (Ct.rowc (Str_ok L56 h56 _ hs56 m.max (by omega))) ?_
  rintro v59 G59 μ59 hG59 ⟨L59,ov59,eL59,rfl⟩
  have hed:=hed.mono hG59
  have hbb1:=hbb1.mono hG59
  have hsl:=hsl.mono hG59
  have hs61:=hs61.mono hG59
  have l59:L59.length≤L56.length+(m.max.size+10):=by rw [eL59,List.length_append]; have:=strL_len (xs:=yb m.max) (by omega); omega
  refine apY rfl FxVerR.se42 FxVerR.zv5 (.u rfl) (.u rfl) .here hs61.sc (by (try simp only [qlA,yl_len]); omega) ?_
  intro v62 L62 ov62 eL62
  have lL62:L62.length=L59.length+L61.length:=by rw [eL62,List.length_append]
  refine asg rfl .no (.u rfl) (.nil (.blk (.code ?_)))
  refine wk_fb .here (by first|(intro b hb; cases hb; done) | simp [keys,Res.keys]) ?_; intro GfR59 hR59 hleR59 evR59 hsR59; subst evR59
  have hed:=hed.mono hleR59
  have hbb1:=hbb1.mono hleR59
  have hsl:=hsl.mono hleR59
  refine Wk.rg [0,1] rfl rfl (arn (((k+1):Nat):Int) rfl .no (.u rfl) (.u rfl) rfl (fun _=>by omega) (fun _=>wrap_i64 (by omega) (by omega)) ?_)
  refine mv rfl .no (.u rfl) (.nil (We.lpo (k+1,hR59,L62) ?_ ?_ ?_ ?_ ?_))
  ·exact (ESub.c rfl (ESub.cons rfl (by first|rfl|exact evi (by omega)) (ESub.c rfl (ESub.c rfl (ESub.c rfl ESub.nil)))))
  ·exact MSub.nil
  ·first|omega|(dsimp only; omega)
  ·exact ((((((hGl0).trans hleb5).trans hG51).trans hG52).trans hG56).trans hG59).trans hleR59
  refine ⟨?_,?_,?_⟩
  ·(try dsimp only)<;>(first|omega|rfl|assumption|(simp; done))
  ·(try dsimp only)<;>(rw [eL62,eL59,eL56,eL52,eL61,encM_eq,eL,flat_snoc em,List.append_assoc])
  (try dsimp only)<;>(exact hsR59)
 have c1k:=c1
 try simp only [qcA,qcB] at c1
 refine .exit (.xcode (.xlp (.xblk (.code (.seq (Wk.rg [0,1,2,3,4,5,6,7] rfl rfl (mv rfl .no (.u rfl) (fa rfl .no Fx.fo32_6 (.u rfl) (ld rfl .no Fx.ag30 (.u rfl) (fun _=>(hbb1.rd (by rfl)).rd) ?_)))))))))
 refine ln rfl .no Fx.sn30 (.u rfl) (cw rfl .no FxVerR.cv3_24 (.u rfl) (fun _=>wrap_u64 (by omega) (by omega)) ?_)
 refine bQ [(e.drop.length:Int)] rfl Fx.se45 Fx.zv24 (Evp.cons (.u rfl) Evp.nil) rfl rfl (by decide) ?_; intro G69 h69 hG69 hs69
 have hed:=hed.mono hG69
 have hbb1:=hbb1.mono hG69
 have hsl:=hsl.mono hG69
 refine kc rfl Fx.go33 (Evc rfl (Evc rfl Evn)) (numbers_ok L3 h3 [(e.drop.length:Int)] h69 _ hsl hs69 (q1 (u64_len (by omega))) (by simp only [List.length_cons,List.length_nil]; omega)) ?_
 rintro _ G70 μ70 hG70 ⟨h70,L70,eL70,rfl,rfl,hs70⟩
 have lL70:L70.length≤L3.length+10*([(e.drop.length:Int)]:List Int).length:=by rw [eL70,List.length_append]; have:=numsL_len (ns:=[(e.drop.length:Int)]) (q1 (u64_len (by omega))); omega
 try simp only [List.length_cons,List.length_nil] at lL70
 have hed:=hed.mono hG70
 have hbb1:=hbb1.mono hG70
 refine asg rfl .no (.u rfl) (.nil (.code (.seq (.seq (Wk.rg [0,1,2,3] rfl rfl (fa rfl .no Fx.fo32_6 (.u rfl) (ld rfl .no Fx.ag30 (.u rfl) (fun _=>(hbb1.rd (by rfl)).rd) ?_)))))))
 refine ln rfl .no Fx.sn30 (.u rfl) (mv rfl .no (.u rfl) (.nil (.code (.block ?_))))
 refine Wk.lop (α:=Nat×Sh×List Y) (fun gh=>[(3,true,gh.2.1.val gh.2.2.length),(74,true,.int .i64 (gh.1:Int))]) (fun _=>[])
  (fun gh Gl=>(gh.1≤e.drop.length)∧(gh.2.2=L70++(e.drop.take gh.1).flatMap encG)∧(SlR Gl 1 encY gh.2.1 gh.2.2)) (fun gh=>e.drop.length-gh.1) (0,h70,L70) [(72,true,_),(73,true,_)] []
  (ESub.c rfl (ESub.cons rfl (by first|rfl|exact evi (by omega)) (ESub.c rfl (ESub.c rfl ESub.nil))))
  MSub.nil ?_ ?_
 ·refine ⟨?_,?_,?_⟩
  ·(try dsimp only)<;>(first|omega|rfl|assumption|(simp; done))
  ·(try dsimp only)<;>(simp)
  (try dsimp only)<;>(exact hs70)
 intro gh N1 Gl1 hN1 hGl1 hF1
 obtain ⟨j,h9,L9⟩:=gh; dsimp only at hF1 hN1 ⊢
 obtain ⟨hj,eL9,hsl2⟩:=hF1
 have hed:=hed.mono hGl1
 have lk2:=flat_take_le (f:=encG) (xs:=e.drop) j
 have ld2:=gonesL hw.drop
 have lL9:L9.length=L70.length+((e.drop.take j).flatMap encG).length:=by rw [eL9,List.length_append]
 refine .seq (Wk.rg [0] rfl rfl (cp rfl .no (.u rfl) (.u rfl) rfl (.nil (.code (.seq (.cond rfl (fun c2=>?_) (fun c2=>?_)))))))
 ·have c2k:=c2
  try simp only [qcA,qcB] at c2
  refine .skip (.code (.seq (.block (.seq (Wk.rg [0,1,2,3] rfl rfl (ih rfl .no Fx.se30 (.u rfl) (.u rfl) (fun _=>by omega) (fun _=>by omega) (fun _=>hed.nn (k:=j) (by first|omega|(simp only [Bool.and_eq_true,decide_eq_true_eq] at hc; omega)|(simp only [List.length_cons,List.length_nil]; omega))) ?_))))))
  obtain ⟨g,eg⟩:=getx (k:=j) (xs:=e.drop) (by omega)
  refine lA rfl .no Fx.ag94 (.u rfl) (fun _=>(hed.at (by omega) eg).rd) (fun _=>rfl) ?_
  refine al rfl Fx.zr94 ?_; intro b7
  refine sw rfl (.u rfl) (.u rfl) rfl Fx.sz94 .here rfl (gones1) ?_
  refine .nil (.code ?_)
  refine wk_fz .here (by intro b hb; cases hb) ?_; intro Gfb7 hleb7 hbb7
  have hsl2:=hsl2.mono hleb7
  have hwg:=hw.drop g (List.mem_of_getElem? eg); have w1:=hwg.level; have w2:=hwg.number; have lt:=flat_take (f:=encG) eg
  refine Wk.rg [0,1,2,3,4,5,6,7,8] rfl rfl (mv rfl .no (.u rfl) (fa rfl .no Fx.fo94_0 (.u rfl) (ld rfl .no FxVerP.ag5 (.u rfl) (fun _=>(hbb7.rd (by rfl)).rd) ?_)))
  refine cw rfl .no FxVerR.cv5_24 (.u rfl) (fun _=>wrap_u64 (by omega) (by omega)) ?_
  refine fa rfl .no Fx.fo94_1 (.u rfl) (ld rfl .no FxVerP.ag24 (.u rfl) (fun _=>(hbb7.rd (by rfl)).rd) ?_)
  refine bQ [g.level,g.number] rfl Fx.se45 Fx.zv24 (Evp.cons (.u rfl) (Evp.cons (.u rfl) Evp.nil)) rfl rfl (by decide) ?_; intro G84 h84 hG84 hs84
  have hsl2:=hsl2.mono hG84
  refine kc rfl Fx.go33 (Evc rfl (Evc rfl Evn)) (numbers_ok L9 h9 [g.level,g.number] h84 _ hsl2 hs84 (q2 ⟨by omega,by omega⟩ ⟨by omega,by omega⟩) (by simp only [List.length_cons,List.length_nil]; omega)) ?_
  rintro _ G85 μ85 hG85 ⟨h85,L85,eL85,rfl,rfl,hs85⟩
  have lL85:L85.length≤L9.length+10*([g.level,g.number]:List Int).length:=by rw [eL85,List.length_append]; have:=numsL_len (ns:=[g.level,g.number]) (q2 ⟨by omega,by omega⟩ ⟨by omega,by omega⟩); omega
  try simp only [List.length_cons,List.length_nil] at lL85
  have hsl2:=hsl2.mono hG85
  refine asg rfl .no (.u rfl) (.nil (.blk (.code (Wk.rg [0,1] rfl rfl (arn (((j+1):Nat):Int) rfl .no (.u rfl) (.u rfl) rfl (fun _=>by omega) (fun _=>wrap_i64 (by omega) (by omega)) ?_)))))
  refine mv rfl .no (.u rfl) (.nil (We.lpo (j+1,h85,L85) ?_ ?_ ?_ ?_ ?_))
  ·exact (ESub.c rfl (ESub.cons rfl (by first|rfl|exact evi (by omega)) (ESub.c rfl (ESub.c rfl ESub.nil))))
  ·exact MSub.nil
  ·first|omega|(dsimp only; omega)
  ·exact (((hGl1).trans hleb7).trans hG84).trans hG85
  refine ⟨?_,?_,?_⟩
  ·(try dsimp only)<;>(first|omega|rfl|assumption|(simp; done))
  ·(try dsimp only)<;>(rw [eL85,encG_eq,eL9,flat_snoc eg,List.append_assoc])
  (try dsimp only)<;>(exact hs85)
 have c2k:=c2
 try simp only [qcA,qcB] at c2
 refine .exit (.xcode (.xlp (.xblk (.code (.seq (Wk.rg [0,1] rfl rfl (mv rfl .no (.u rfl) (asg rfl .no (.u rfl) (.nil (.code (.ret (We.fin0 Tryd.results20 (.tmp rfl .nil) ?_))))))))))))
 obtain rfl:k=e.add.length:=by omega
 obtain rfl:j=e.drop.length:=by omega
 rw [List.take_length] at eL eL9
 exact ⟨h9,L9,by rw [eL9,eL70,eL,eL27,eL21,eL17,List.nil_append,encE_eq],rfl,rfl,hsl2⟩
namespace FxManR
theorem ag25:aggN Tryd.prog 25=some (some 5):=by kernel_rfl
end FxManR
namespace Fx
theorem ag62:aggN Tryd.prog 62=some none:=by kernel_rfl
theorem go20:goFn Tryd.prog 20=true:=by kernel_rfl
theorem go19:goFn Tryd.prog 19=true:=by kernel_rfl
theorem sz62:szT Tryd.prog 62=some 1:=by kernel_rfl
theorem zr62:zrL Tryd.prog 62=some ([.slice none 0 0]):=by kernel_rfl
theorem bp32_0_1_2_3_4:bPl Tryd.prog 32 [0,1,2,3,4]=some (nine (fun _=>0)++[.slice none 0 0,.slice none 0 0],[(0,1),(1,1),(2,1),(3,1),(4,5)]):=by kernel_rfl
theorem go18:goFn Tryd.prog 18=true:=by kernel_rfl
theorem bp32_5:bPl Tryd.prog 32 [5]=some (nine (fun _=>0)++[.slice none 0 0,.slice none 0 0],[(9,1)]):=by kernel_rfl
theorem go21:goFn Tryd.prog 21=true:=by kernel_rfl
end Fx
theorem add_ok (e:Edit) (ha hd:Sh) (L:List Dg) (v:Value) (bl:Nat) (G:PM) (he:EdR G e ha hd) (hla:e.add.length≤1000000) (hld:e.drop.length≤1000000) (hlm:(e.add.flatMap encM).length≤9000000000000) (hK:RdNP G 1 0 (wa 64 kW)) (hL:L.length≤1000000):Ct Tryd.prog 18 ([e.val ha hd,.pointer (some ⟨bl,0,none⟩)]:List Value).toArray G [.blk bl (cl [v] 62),rS 32 (ba 32) v 34 L] (fun _ μ' u=>∃ v',μ'=[.blk bl (cl [v'] 62),rS 32 (ba 32) v' 34 (L++[leafE e])]∧u=.tuple #[]):=by
 refine Ct.of Tryd.func18 rfl Tryd.ntmps18 rfl fun w0 hs0=>?_
 have hle:=encE_len he.wf hla hld
 refine .seq (Wk.rg [0] rfl rfl ?_)
 refine bx rfl (.u rfl) rfl ?_; intro b2
 refine .nil (.code (Wk.draw (mc:=⟨false,false⟩) [0,1,2,3,4,5,6] Fx.mix (by kernel_rfl) ?_))
 refine ld rfl .no Fx.ag62 (.u rfl) (fun _=>Rd.own (.there .here) (by first|exact wap_f rfl|rfl)) ?_
 refine lA rfl .no Fx.ag32 (.u rfl) (fun _=>RdN.own .here) (fun _=>Edit.len) ?_
 refine kc rfl Fx.go20 (Evc rfl Evn) (encode_ok e ha hd _ he hla hld (by omega)) ?_
 rintro _ G5 μ5 hG5 ⟨h5,L5,eL5,rfl,rfl,hs5⟩
 have hK:=hK.mono hG5
 refine kv rfl .no Fx.go19 (Evc rfl Evn) (fun _=>leaf_ok _ _ _ hs5 hK (by rw [eL5]; omega)) ?_
 refine Go.Tan.b1 rfl Fx.se62 Fx.zw34 (.u rfl) rfl rfl (by decide) ?_; intro b7
 refine apS (xs:=L) ((leafD L5)) rfl Fx.se62 Fx.zw34 rfl (.u rfl) (.u rfl) (.there (.there (.there .here))) .here (ba_len _ _) (ba_one _ _) (by omega) (by unfold maxLen; omega) ?_; intro v8 ov8
 refine s1v rfl (.u rfl) (.u rfl) .here Fx.sz62 (.there (.there (.there .here))) (by first|decide|(simp only [wa_len,ba_len,qlA]; omega)) (rfl) ?_
 refine .nil (.nil (We.fin Tryd.results18 .nil (MSub.cons .here rfl (MSub.cons .here rfl MSub.nil)) ?_))
 exact ⟨_,by rw [eL5]; rfl,rfl⟩
theorem add_one (m:Meta) (b:Nat) (T:TypeId) (L:List Dg) (v:Value) (bl:Nat) (G:PM) (hw:m.wf) (hm:m.min.size+m.max.size≤900000000000) (hK:RdNP G 1 0 (wa 64 kW)) (hL:L.length≤1000000):Ct Tryd.prog 18 ([(oneE m).val ⟨some ⟨b,0,none⟩,1⟩ ⟨none,0⟩]++[.pointer (some ⟨bl,0,none⟩)]:List Value).toArray G [.blk b (cl m.cells T),.blk bl (cl [v] 62),rS 32 (ba 32) v 34 L] (fun _ μ' u=>∃ v',μ'=[.blk bl (cl [v'] 62),rS 32 (ba 32) v' 34 (L++[leafE (oneE m)])]∧u=.tuple #[]):=by
 refine Ct.give fun hle=>?_
 have h1:=oneE_len hw
 exact add_ok (oneE m) ⟨some ⟨b,0,none⟩,1⟩ ⟨none,0⟩ L v bl _ ⟨SlR.one1 (enc:=Meta.cells) (x:=m),SlR.nul,oneE_wf hw⟩ (by show 1≤_; decide) (by show 0≤_; decide) (by omega) (hK.mono hle) hL
theorem mRoot_ok (s:State) (hd:Nat→Sh) (G:PM) (hs:StR G s hd) (hn:StN s) (hl:StL s) (hK:RdNP G 1 0 (wa 64 kW)):Ct Tryd.prog 9 ([s.val hd]:List Value).toArray G [] (fun _ μ' u=>μ'=[]∧u=.agg (ba 32 (rootS s)).toArray):=by
 refine Ct.of Tryd.func9 rfl Tryd.ntmps9 rfl fun w0 hs0=>?_
 have hf:=hl.few
 refine .seq (Wk.rg [0,1] rfl rfl ?_)
 refine bx rfl (.u rfl) rfl ?_; intro b1
 refine al rfl Fx.zq34 ?_; intro b2
 refine .nil (.code (.seq (Wk.rg [0] rfl rfl ?_)))
 refine al rfl Fx.zr62 ?_; intro b3
 refine .nil (.code (.seq (Wk.rg [0,1] rfl rfl (mf (vf:=#[]) (vc:=[Value.pointer (some ⟨b3,0,none⟩)].toArray) rfl .no (fun a ha _=>by simp) (fun a ha _=>by simp [(Ev.u (c:=true) rfl:Ev _ true (.tmp 3) _).eval ha rfl]) ?_))))
 refine asg rfl .no (.u rfl) (.nil (.code (.seq (wk_nilS 32 (ba 32) 34 ?_))))
 refine Wk.rg [0,1,2,3,4,5,6,7,8,9,10,11,12] rfl rfl (mv rfl .no (.u rfl) (fz rfl .no Fx.fo27_1 (.u rfl) (ld rfl .no Fx.ag24 (.u rfl) (fun _=>Rd.own (.there (.there (.there .here))) (by first|exact wap_f rfl|rfl)) ?_)))
 refine fz rfl .no Fx.fo27_2 (.u rfl) (ld rfl .no Fx.ag24 (.u rfl) (fun _=>Rd.own (.there (.there (.there .here))) (by first|exact wap_f rfl|rfl)) ?_)
 refine fz rfl .no Fx.fo27_3 (.u rfl) (ld rfl .no Fx.ag24 (.u rfl) (fun _=>Rd.own (.there (.there (.there .here))) (by first|exact wap_f rfl|rfl)) ?_)
 refine fz rfl .no Fx.fo27_4 (.u rfl) (ld rfl .no Fx.ag24 (.u rfl) (fun _=>Rd.own (.there (.there (.there .here))) (by first|exact wap_f rfl|rfl)) ?_)
 refine fz rfl .no Fx.fo27_5 (.u rfl) (lA rfl .no FxManR.ag25 (.u rfl) (fun _=>RdN.part (n:=5) (cs':=(List.range 5).map (fun i=>.int .u64 (s.gens i))) (.there (.there (.there .here))) (rfl)) (fun _=>rfl) (bCe ((headE s).cells ⟨none,0⟩ ⟨none,0⟩) rfl .no Fx.bp32_0_1_2_3_4 (.cons (.u rfl) rfl (.cons (.u rfl) rfl (.cons (.u rfl) rfl (.cons (.u rfl) rfl (.cons (.u rfl) rfl .nil))))) rfl (rfl) (kaf (vs:=[_]) (vc:=[.pointer (some ⟨b3,0,none⟩)]) rfl (.inr rfl) (.u rfl) Fx.go18 (Evc rfl Evn) (mtk2 (.there .here) .here) (add_ok (headE s) ⟨none,0⟩ ⟨none,0⟩ [] _ b3 _ ⟨SlR.nul,SlR.nul,headE_wf hn⟩ (by show 0≤_; decide) (by show 0≤_; decide) (by have:=headE_len (s:=s); omega) hK (by simp)) ?_)))
 rintro _ G22 μ22 hG22 ⟨v22,rfl,rfl⟩
 have hs:=hs.mono hG22
 have hK:=hK.mono hG22
 refine .nil (.code (.seq (.seq (Wk.rg [0,1,2] rfl rfl (fz rfl .no Fx.fo27_0 (.u rfl) (lA rfl .no Fx.ag23 (.u rfl) (fun _=>RdN.part (n:=5) (cs':=(List.range 5).map (fun i=>(hd i).val (s.lv i).length)) (.there (.there (.there .here))) (rfl)) (fun _=>rfl) ?_))))))
 refine mv rfl .no (.u rfl) (.nil (.code (.block ?_)))
 refine Wk.lop (α:=Nat×Value) (fun gh=>[(25,true,.int .i64 (gh.1:Int))]) (fun gh=>[.blk b3 (cl [gh.2] 62),rS 32 (ba 32) gh.2 34 (leavesT s gh.1 0)])
  (fun gh Gl=>(gh.1≤5)) (fun gh=>5-gh.1) (0,v22) [(2,true,_),(3,true,_),(4,true,_),(24,true,_)] [_,_]
  (ESub.cons rfl (by first|rfl|exact evi (by omega)) (ESub.c rfl (ESub.c rfl (ESub.c rfl (ESub.c rfl ESub.nil)))))
  (MSub.cons .here rfl (MSub.cons .here (by rw [leavesT_0]) (MSub.cons .here rfl (MSub.cons .here rfl MSub.nil)))) ?_ ?_
 ·(try dsimp only)<;>(first|omega|rfl|assumption|(simp; done))
 intro gh N0 Gl0 hN0 hGl0 hF0
 obtain ⟨k,v⟩:=gh; dsimp only at hF0 hN0 ⊢
 have hk:=hF0
 have hs:=hs.mono hGl0
 have hK:=hK.mono hGl0
 refine .seq (Wk.rg [0] rfl rfl (cp rfl .no (.u rfl) (.u rfl) rfl (.nil (.code (.seq (.cond rfl (fun c1=>?_) (fun c1=>?_)))))))
 ·have c1k:=c1
  try simp only [qcA,qcC,qcB] at c1
  refine .skip (.code (.seq (.block (.seq ?_))))
  have hlv:=hs.lv k (by omega)
  have htl:=tot_lt (s:=s) (k:=k) (by omega)
  have htn:=tot_nonneg s k
  refine Wk.rg [0,1] rfl rfl (ix rfl .no Fx.ar23 Fx.ag22 (.u rfl) (.u rfl) (fun _=>by omega) (fun _=>by omega) (fun _=>(lvs_at s hd (k:=k) (by omega) (by omega))) ?_)
  refine asg rfl .no (.u rfl) (.nil (.code (.seq (Wk.rg [0,1,2] rfl rfl (mv rfl .no (.u rfl) (ln rfl .no Fx.sn22 (.u rfl) (mv rfl .no (.u rfl) (.nil (.code (.block ?_))))))))))
  refine Wk.lop (α:=Nat×Value) (fun gh=>[(30,true,.int .i64 (gh.1:Int))]) (fun gh=>[.blk b3 (cl [gh.2] 62),rS 32 (ba 32) gh.2 34 (leavesT s k gh.1)])
   (fun gh Gl=>(gh.1≤(s.lv k).length)) (fun gh=>(s.lv k).length-gh.1) (0,v) [(2,true,_),(3,true,_),(4,true,_),(24,true,_),(25,true,_),(28,true,_),(29,true,_)] [_,_]
   (ESub.cons rfl (by first|rfl|exact evi (by omega)) (ESub.c rfl (ESub.c rfl (ESub.c rfl (ESub.c rfl (ESub.c rfl (ESub.c rfl (ESub.c rfl ESub.nil))))))))
   (MSub.cons .here rfl (MSub.cons .here rfl (MSub.cons .here rfl (MSub.cons .here rfl MSub.nil)))) ?_ ?_
  ·(try dsimp only)<;>(first|omega|rfl|assumption|(simp; done))
  intro gh N1 Gl1 hN1 hGl1 hF1
  obtain ⟨j,w⟩:=gh; dsimp only at hF1 hN1 ⊢
  have hj:=hF1
  have hs:=hs.mono hGl1
  have hK:=hK.mono hGl1
  have hlv:=hlv.mono hGl1
  refine .seq (Wk.rg [0] rfl rfl (cp rfl .no (.u rfl) (.u rfl) rfl (.nil (.code (.seq (.cond rfl (fun c2=>?_) (fun c2=>?_)))))))
  ·have c2k:=c2
   try simp only [qcA,qcC,qcB] at c2
   refine .skip (.code (.seq (.block (.seq (Wk.rg [0,1,2,3] rfl rfl (ih rfl .no Fx.se22 (.u rfl) (.u rfl) (fun _=>by omega) (fun _=>by omega) (fun _=>hlv.nn (k:=j) (by first|omega|(simp only [Bool.and_eq_true,decide_eq_true_eq] at hc; omega)|(simp only [List.length_cons,List.length_nil]; omega))) ?_))))))
   obtain ⟨m,em⟩:=getx (k:=j) (xs:=s.lv k) (by omega)
   refine lA rfl .no Fx.ag67 (.u rfl) (fun _=>(hlv.at (by omega) em).rd) (fun _=>Meta.len _) ?_
   refine al rfl Fx.zq67 ?_; intro b8
   refine sw rfl (.u rfl) (.u rfl) rfl Fx.sz67 .here rfl (Meta.one _) ?_
   refine .nil (.code (Wk.rg [0,1,2,3,4] rfl rfl (mv rfl .no (.u rfl) (lA rfl .no Fx.ag67 (.u rfl) (fun _=>RdN.own .here) (fun _=>Meta.len _) ?_))))
   refine Go.Tan.b1 rfl Fx.se22 Fx.zw67 (.u rfl) rfl rfl (by decide) ?_; intro b36
   refine bCe ((oneE m).cells ⟨some ⟨b36,0,none⟩,1⟩ ⟨none,0⟩) rfl .no Fx.bp32_5 (.cons (.u rfl) rfl .nil) rfl (rfl) (kaf (vs:=[_]) (vc:=[.pointer (some ⟨b3,0,none⟩)]) rfl (.inr rfl) (.u rfl) Fx.go18 (Evc rfl Evn) (mtk3 .here (.there .here) (.there .here)) (add_one m b36 _ (leavesT s k j) _ b3 _ (hs.wf k (by omega) m (List.mem_of_getElem? em)) (hl.short k (by omega) m (List.mem_of_getElem? em)) hK (by have:=leavesT_len s k j; omega)) ?_)
   rintro _ G38 μ38 hG38 ⟨v38,rfl,rfl⟩
   have hK:=hK.mono hG38
   refine .nil (.blk (.code (Wk.rg [0,1] rfl rfl (arn (((j+1):Nat):Int) rfl .no (.u rfl) (.u rfl) rfl (fun _=>by omega) (fun _=>wrap_i64 (by omega) (by omega)) ?_))))
   refine mv rfl .no (.u rfl) (.nil (We.lpo (j+1,v38) ?_ ?_ ?_ ?_ ?_))
   ·exact (ESub.cons rfl (by first|rfl|exact evi (by omega)) (ESub.c rfl (ESub.c rfl (ESub.c rfl (ESub.c rfl (ESub.c rfl (ESub.c rfl (ESub.c rfl ESub.nil))))))))
   ·exact (MSub.cons .here rfl (MSub.cons .here (by rw [leavesT_snoc em]) (MSub.cons (.there .here) rfl (MSub.cons (.there .here) rfl MSub.nil))))
   ·first|omega|(dsimp only; omega)
   ·exact (hGl1).trans hG38
   (try dsimp only)<;>(first|omega|rfl|assumption|(simp; done))
  have c2k:=c2
  try simp only [qcA,qcC,qcB] at c2
  refine .exit (.xcode (.xlp (.xblk (.blk (.code (Wk.rg [0,1] rfl rfl (arn (((k+1):Nat):Int) rfl .no (.u rfl) (.u rfl) rfl (fun _=>by omega) (fun _=>wrap_i64 (by omega) (by omega)) ?_)))))))
  refine mv rfl .no (.u rfl) (.nil (We.lpo (k+1,w) ?_ ?_ ?_ ?_ ?_))
  ·exact (ESub.cons rfl (by first|rfl|exact evi (by omega)) (ESub.c rfl (ESub.c rfl (ESub.c rfl (ESub.c rfl ESub.nil)))))
  ·exact (MSub.cons .here rfl (MSub.cons .here (by rw [leavesT_next (by omega)]) (MSub.cons .here rfl (MSub.cons .here rfl MSub.nil))))
  ·first|omega|(dsimp only; omega)
  ·exact (hGl0).trans hGl1
  (try dsimp only)<;>(first|omega|rfl|assumption|(simp; done))
 have c1k:=c1
 try simp only [qcA,qcC,qcB] at c1
 refine .exit (.xcode (.xlp (.xblk (.code (.seq ?_)))))
 obtain rfl:k=5:=by omega
 rw [leavesT_5]
 have hll:=leavesS_len s
 refine wk_fs (.there .here) (fun _ _=>rfl) (by intro b hb; cases hb) ?_; intro GfRL hRL hleRL evRL hsRL; subst evRL
 have hK:=hK.mono hleRL
 refine Wk.rg [0,1,2] rfl rfl (ld rfl .no Fx.ag62 (.u rfl) (fun _=>Rd.own .here (by first|exact wap_f rfl|rfl)) ?_)
 refine kv rfl .no Fx.go21 (Evc rfl Evn) (fun _=>root_ok (leavesS s) hRL _ hsRL hK (by omega)) ?_
 refine sw rfl (.u rfl) (.u rfl) rfl Fx.sz34 (.there .here) (by first|exact qE|exact qL|rfl) (by first|exact ba_one _ _|exact wa_one _ _|exact one_V _|decide|exact one_app (wa_one _ _) (by simp [Value.oneCell'])) ?_
 refine .nil (.code (.ret (We.fin0 Tryd.results9 (.cell rfl (fun w hw=>run_loadVarN Fx.ag34 (RdN.own .here) ((ba_len _ _)) hw) .nil) ?_)))
 exact ⟨rfl,rfl⟩
namespace Fx
end Fx
namespace FxManS
theorem ag25:aggN Tryd.prog 25=some (some 5):=by kernel_rfl
theorem bp32_0_1_2_3_4:bPl Tryd.prog 32 [0,1,2,3,4]=some (nine (fun _=>0)++[.slice none 0 0,.slice none 0 0],[(0,1),(1,1),(2,1),(3,1),(4,5)]):=by kernel_rfl
theorem bp32_5:bPl Tryd.prog 32 [5]=some (nine (fun _=>0)++[.slice none 0 0,.slice none 0 0],[(9,1)]):=by kernel_rfl
theorem ag27:aggN Tryd.prog 27=some (some 14):=by kernel_rfl
end FxManS
namespace Fx
end Fx
theorem light19_ok (s:State) (hd:Nat→Sh) (e:Edit) (ha he:Sh) (G:PM):Ct Tryd.prog 8 ([s.val hd,e.val ha he]:List Value).toArray G [] (fun _ μ' u=>μ'=[]∧u=.bool (lightP s e)):=by
 refine Ct.of Tryd.func8 rfl Tryd.ntmps8 rfl fun w0 hs0=>?_
 refine .seq (Wk.rg [0,1,2] rfl rfl ?_)
 refine bx rfl (.u rfl) rfl ?_; intro b2
 refine bx rfl (.u rfl) rfl ?_; intro b3
 refine asg rfl .no (.u rfl) (.nil (.code (.seq (Wk.rg [0] rfl rfl (asg rfl .no (.u rfl) (.nil (.code (.seq (.seq (Wk.rg [0] rfl rfl (mv rfl .no (.u rfl) (.nil (.code (.block ?_))))))))))))))
 refine Wk.lop (α:=Nat) (fun k=>[(5,true,.int .i64 (200-tot s k)),(7,true,.int .i64 (k:Int))]) (fun _=>[])
  (fun k Gl=>(k≤5)∧(tot s k≤200)) (fun k=>5-k) 0 [(2,true,_),(3,true,_)] [_,_]
  (ESub.c rfl (ESub.cons rfl (by first|rfl|exact evi (by omega)) (ESub.c rfl (ESub.c rfl ESub.nil))))
  (MSub.cons .here rfl (MSub.cons .here rfl MSub.nil)) ?_ ?_
 ·refine ⟨?_,?_⟩
  ·(try dsimp only)<;>(first|omega|rfl|assumption|(simp; done))
  (try dsimp only)<;>(exact (by decide:(0:Int)≤200))
 intro k N0 Gl0 hN0 hGl0 hF0
 try dsimp only at hF0 hN0 ⊢
 obtain ⟨hk,ht⟩:=hF0
 have hn:=tot_nonneg s k
 refine .seq (Wk.rg [0] rfl rfl (cp rfl .no (.u rfl) (.u rfl) rfl (.nil (.code (.seq (.cond rfl (fun c1=>?_) (fun c1=>?_)))))))
 ·have c1k:=c1
  try simp only [qcA,qcC,qcB] at c1
  refine .skip (.code (.seq (.block (.seq (Wk.rg [0,1] rfl rfl (mv rfl .no (.u rfl) (asg rfl .no (.u rfl) (.nil (.code (.seq (.seq (Wk.rg [0,1,2,3,4,5,6] rfl rfl (mv rfl .no (.u rfl) (fz rfl .no Fx.fo27_0 (.u rfl) (iA rfl .no Fx.ar23 (.u rfl) (.u rfl) (fun _=>by omega) (fun _=>by omega) ?_)))))))))))))))
  refine ld rfl .no Fx.ag22 (.u rfl) (fun _=>Rd.own (.there .here) (s.cell_lv hd (k:=k) (by omega))) ?_
  refine ln rfl .no Fx.sn22 (.u rfl) (mv rfl .no (.u rfl) (cp rfl .no (.u rfl) (.u rfl) rfl (.nil (.code (.cond rfl (fun c2=>?_) (fun c2=>?_))))))
  ·have c2k:=c2
   try simp only [qcA,qcC,qcB] at c2
   refine .seq (Wk.rg [0] rfl rfl (asg rfl .no (.u rfl) (.nil (.code (.ret (We.fin0 Tryd.results8 (.tmp rfl .nil) ?_))))))
   exact ⟨rfl,congrArg Value.bool (light_no (by have:=tot_lt (s:=s) (k:=k) (by omega); omega)).symm⟩
  have c2k:=c2
  try simp only [qcA,qcC,qcB] at c2
  refine .skip (.code (Wk.rg [0,1,2,3,4,5,6,7] rfl rfl (mv rfl .no (.u rfl) (mv rfl .no (.u rfl) (fz rfl .no Fx.fo27_0 (.u rfl) (iA rfl .no Fx.ar23 (.u rfl) (.u rfl) (fun _=>by omega) (fun _=>by omega) ?_))))))
  refine ld rfl .no Fx.ag22 (.u rfl) (fun _=>Rd.own (.there .here) (s.cell_lv hd (k:=k) (by omega))) ?_
  refine ln rfl .no Fx.sn22 (.u rfl) (ar rfl .no (.u rfl) (.u rfl) rfl (fun _=>wrap_i64 (by omega) (by omega)) ?_)
  refine asg rfl .no (.u rfl) (.nil (.blk (.code (Wk.rg [0,1] rfl rfl (arn (((k+1):Nat):Int) rfl .no (.u rfl) (.u rfl) rfl (fun _=>by omega) (fun _=>wrap_i64 (by omega) (by omega)) ?_)))))
  refine mv rfl .no (.u rfl) (.nil (We.lpo (k+1) ?_ ?_ ?_ ?_ ?_))
  ·exact (ESub.cons rfl (evi (by simp only [tot]; omega)) (ESub.cons rfl (by first|rfl|exact evi (by omega)) (ESub.c rfl (ESub.c rfl ESub.nil))))
  ·exact (MSub.cons .here rfl (MSub.cons .here rfl MSub.nil))
  ·first|omega|(dsimp only; omega)
  ·exact hGl0
  refine ⟨?_,?_⟩
  ·(try dsimp only)<;>(first|omega|rfl|assumption|(simp; done))
  (try dsimp only)<;>(simp only [tot]; omega)
 have c1k:=c1
 try simp only [qcA,qcC,qcB] at c1
 refine .exit (.xcode (.xlp (.xblk (.code (.seq (Wk.rg [0,1,2,3,4,5,6,7,8,9,10] rfl rfl (fz rfl .no Fx.fo32_5 (.u rfl) (ld rfl .no Fx.ag22 (.u rfl) (fun _=>Rd.own .here rfl) ?_))))))))
 refine ln rfl .no Fx.sn22 (.u rfl) (cp rfl .no (.u rfl) (.u rfl) rfl (mv rfl .no (.u rfl) (fz rfl (.t rfl rfl) Fx.fo32_6 (.u rfl) (ld rfl (.t rfl rfl) Fx.ag30 (.s rfl) (fun hc=>Rd.own .here rfl) ?_))))
 refine ln rfl (.t rfl rfl) Fx.sn30 (.s rfl) (cp rfl (.t rfl rfl) (.s rfl) (.u rfl) rfl (pkA rfl .no (.u rfl) (.s rfl) (asg rfl .no (.u rfl) (.nil (.code (.ret (We.fin0 Tryd.results8 (.tmp rfl .nil) ?_)))))))
 obtain rfl:k=5:=by omega
 exact ⟨rfl,congrArg Value.bool (light_yes ht).symm⟩
namespace FxVeSa
theorem mix:Tryd.prog.follows .mixedOrders=true:=by kernel_rfl
theorem se22:slE Tryd.prog 22=some (67,40,112):=by kernel_rfl
theorem ag67:aggN Tryd.prog 67=some (some 40):=by kernel_rfl
theorem sz67:szT Tryd.prog 67=some 40:=by kernel_rfl
end FxVeSa
namespace Fx
theorem go107:goFn Tryd.prog 107=true:=by kernel_rfl
end Fx
theorem swapR_ok (P A Q B S:List Meta) (v fv:Value) (a b n:Int) (G:PM) (ha:a=P.length) (hb:b=((P.length+A.length+Q.length:Nat):Int)) (hn:n=A.length) (hAB:A.length=B.length) (xs:List Meta) (hx:xs=P++A++Q++B++S) (hl:xs.length≤1000000000):Ct Tryd.prog 107 ([v,.int .i64 a,.int .i64 b,.int .i64 n,fv]:List Value).toArray G [rS 40 Meta.cells v 67 xs] (fun _ μ' u=>μ'=[rS 40 Meta.cells v 67 (P++B++Q++A++S)]∧u=.tuple #[]):=by
 refine Ct.of Tryd.func107 rfl Tryd.ntmps107 rfl fun w0 hs0=>?_
 subst hx; subst ha; subst hb; subst hn; simp only [List.length_append] at hl
 refine .seq (Wk.rg [0] rfl rfl (asg rfl .no (.u rfl) (.nil (.code (.block ?_)))))
 refine Wk.lop (α:=Nat) (fun k=>[(10,true,.int .i64 (k:Int))]) (fun k=>[rS 40 Meta.cells v 67 (swL P A Q B S k)])
  (fun k Gl=>(k≤A.length)) (fun k=>A.length-k) 0 [(0,true,_),(1,true,_),(2,true,_),(3,true,_)] []
  (ESub.cons rfl (by first|rfl|exact evi (by omega)) (ESub.c rfl (ESub.c rfl (ESub.c rfl (ESub.c rfl ESub.nil)))))
  (MSub.cons .here (by rw [swL_zero]) MSub.nil) ?_ ?_
 ·(try dsimp only)<;>(first|omega|rfl|assumption|(simp; done))
 intro k N0 Gl0 hN0 hGl0 hF0
 try dsimp only at hF0 hN0 ⊢
 have hk:=hF0
 have hsl:=swL_len P A Q B S hAB hk
 refine .seq (.seq (Wk.rg [0,1,2] rfl rfl (mv rfl .no (.u rfl) (mv rfl .no (.u rfl) (cp rfl .no (.u rfl) (.u rfl) rfl (.nil (.code (.cond rfl (fun c1=>?_) (fun c1=>?_)))))))))
 ·have c1k:=c1
  try simp only [qcA,qcB] at c1
  refine .skip (.code (.seq (.block ?_)))
  refine wk_rv .here (by omega) ?_; intro bbR capR evR lcR; subst evR
  refine Wk.draw (mc:=⟨false,false⟩) [0,1,2,3,4,5,6,7,8,9,10,11,12,13,14,15,16,17,18,19,20,21,22,23] FxVeSa.mix (by kernel_rfl) ?_
  refine mv rfl .no (.u rfl) (mv rfl .no (.u rfl) (mv rfl .no (.u rfl) (arn (((P.length+k):Nat):Int) rfl .no (.u rfl) (.u rfl) rfl (fun _=>by omega) (fun _=>wrap_i64 (by omega) (by omega)) ?_)))
  refine mv rfl .no (.u rfl) (mv rfl .no (.u rfl) (mv rfl .no (.u rfl) (arn (((P.length+A.length+Q.length+k):Nat):Int) rfl .no (.u rfl) (.u rfl) rfl (fun _=>by omega) (fun _=>wrap_i64 (by omega) (by omega)) ?_)))
  refine mv rfl .no (.u rfl) (mv rfl .no (.u rfl) (mv rfl .no (.u rfl) (arn (((P.length+A.length+Q.length+k):Nat):Int) rfl .no (.u rfl) (.u rfl) rfl (fun _=>by omega) (fun _=>wrap_i64 (by omega) (by omega)) ?_)))
  refine ia rfl .no FxVeSa.se22 (.u rfl) (.u rfl) (fun _=>by omega) (fun _=>by omega) ?_
  refine lA rfl .no FxVeSa.ag67 (.u rfl) (fun _=>RdN.rowS .here (fun _ _=>Meta.len _) (gd_at (z:=Meta.zero) (k:=(P.length+A.length+Q.length+k)) (by omega)) (by omega)) (fun _=>Meta.len _) ?_
  refine mv rfl .no (.u rfl) (mv rfl .no (.u rfl) (mv rfl .no (.u rfl) (arn (((P.length+k):Nat):Int) rfl .no (.u rfl) (.u rfl) rfl (fun _=>by omega) (fun _=>wrap_i64 (by omega) (by omega)) ?_)))
  refine ia rfl .no FxVeSa.se22 (.u rfl) (.u rfl) (fun _=>by omega) (fun _=>by omega) ?_
  refine lA rfl .no FxVeSa.ag67 (.u rfl) (fun _=>RdN.rowS .here (fun _ _=>Meta.len _) (gd_at (z:=Meta.zero) (k:=(P.length+k)) (by omega)) (by omega)) (fun _=>Meta.len _) ?_
  refine ia rfl .no FxVeSa.se22 (.u rfl) (.u rfl) (fun _=>by omega) (fun _=>by omega) ?_
  refine stS (k:=(P.length+k)) (u:=((swL P A Q B S k).getD ((P.length+A.length+Q.length+k)) Meta.zero)) rfl (.u rfl) (.u rfl) rfl FxVeSa.sz67 .here (fun _ _=>Meta.len _) (Meta.len _) (Meta.one _) (by omega) (by (try simp only [List.length_set]); omega) ?_
  refine ia rfl .no FxVeSa.se22 (.u rfl) (.u rfl) (fun _=>by omega) (fun _=>by omega) ?_
  refine stS (k:=(P.length+A.length+Q.length+k)) (u:=((swL P A Q B S k).getD ((P.length+k)) Meta.zero)) rfl (.u rfl) (.u rfl) rfl FxVeSa.sz67 .here (fun _ _=>Meta.len _) (Meta.len _) (Meta.one _) (by omega) (by (try simp only [List.length_set]); omega) ?_
  refine .nil (.blk (.code (Wk.rg [0,1,2] rfl rfl (mv rfl .no (.u rfl) (arn (((k+1):Nat):Int) rfl .no (.u rfl) (.u rfl) rfl (fun _=>by omega) (fun _=>wrap_i64 (by omega) (by omega)) ?_)))))
  refine asg rfl .no (.u rfl) (.nil (We.lpo (k+1) ?_ ?_ ?_ ?_ ?_))
  ·exact (ESub.cons rfl (by first|rfl|exact evi (by omega)) (ESub.c rfl (ESub.c rfl (ESub.c rfl (ESub.c rfl ESub.nil)))))
  ·exact (MSub.cons .here (by rw [swL_step hAB (by omega) rfl rfl]) MSub.nil)
  ·first|omega|(dsimp only; omega)
  ·exact hGl0
  (try dsimp only)<;>(first|omega|rfl|assumption|(simp; done))
 have c1k:=c1
 try simp only [qcA,qcB] at c1
 refine .exit (.xcode (.xlp (.xblk (.nil (We.fin Tryd.results107 .nil (MSub.cons .here rfl MSub.nil) ?_)))))
 rw [swL_all hAB (by omega)]; exact ⟨rfl,rfl⟩
theorem rotM_ok (P A B S:List Meta) (v fv:Value) (a m b:Int) (G:PM) (ha:a=P.length) (hm:m=((P.length+A.length:Nat):Int)) (hb:b=((P.length+A.length+B.length:Nat):Int)) (hA:0<A.length) (hB:0<B.length) (xs:List Meta) (hx:xs=P++A++B++S) (hl:xs.length≤1000000000):Ct Tryd.prog 101 ([v,.int .i64 a,.int .i64 m,.int .i64 b,fv]:List Value).toArray G [rS 40 Meta.cells v 67 xs] (fun _ μ' u=>μ'=[rS 40 Meta.cells v 67 (P++B++A++S)]∧u=.tuple #[]):=by
 refine Ct.of Tryd.func101 rfl Tryd.ntmps101 rfl fun w0 hs0=>?_
 subst hx; subst ha; subst hm; subst hb; simp only [List.length_append] at hl
 refine .seq (Wk.rg [0,1,2,3] rfl rfl (mv rfl .no (.u rfl) (mv rfl .no (.u rfl) (arn ((A.length:Nat):Int) rfl .no (.u rfl) (.u rfl) rfl (fun _=>by omega) (fun _=>wrap_i64 (by omega) (by omega)) ?_))))
 refine asg rfl .no (.u rfl) (.nil (.code (.seq (Wk.rg [0,1,2,3] rfl rfl (mv rfl .no (.u rfl) (mv rfl .no (.u rfl) (arn ((B.length:Nat):Int) rfl .no (.u rfl) (.u rfl) rfl (fun _=>by omega) (fun _=>wrap_i64 (by omega) (by omega)) ?_)))))))
 refine asg rfl .no (.u rfl) (.nil (.code (.seq (.block ?_))))
 refine Wk.lop (α:=List Meta×List Meta×List Meta×List Meta) (fun gh=>[(10,true,.int .i64 (gh.2.1.length:Int)),(11,true,.int .i64 (gh.2.2.1.length:Int))]) (fun gh=>[rS 40 Meta.cells v 67 (gh.1++gh.2.1++gh.2.2.1++gh.2.2.2)])
  (fun gh Gl=>(0<gh.2.1.length)∧(0<gh.2.2.1.length)∧(gh.1.length+gh.2.1.length=P.length+A.length)∧(gh.1++gh.2.2.1++gh.2.1++gh.2.2.2=P++B++A++S)) (fun gh=>gh.2.1.length+gh.2.2.1.length) (P,A,B,S) [(0,true,_),(2,true,_),(4,true,_)] []
  (ESub.cons rfl (by first|rfl|exact evi (by omega)) (ESub.cons rfl (by first|rfl|exact evi (by omega)) (ESub.c rfl (ESub.c rfl (ESub.c rfl ESub.nil)))))
  (MSub.cons .here rfl MSub.nil) ?_ ?_
 ·refine ⟨?_,?_,?_,?_⟩
  ·(try dsimp only)<;>(first|omega|rfl|assumption|(simp; done))
  ·(try dsimp only)<;>(first|omega|rfl|assumption|(simp; done))
  ·(try dsimp only)<;>(first|omega|rfl|assumption|(simp; done))
  (try dsimp only)<;>(first|omega|rfl|assumption|(simp; done))
 intro gh N0 Gl0 hN0 hGl0 hF0
 obtain ⟨X,U,V,Y⟩:=gh; dsimp only at hF0 hN0 ⊢
 obtain ⟨hU,hV,hX,hT⟩:=hF0
 have hlen:=congrArg List.length hT; simp only [List.length_append] at hlen
 refine .seq (.seq (Wk.rg [0,1,2] rfl rfl (mv rfl .no (.u rfl) (mv rfl .no (.u rfl) (cp rfl .no (.u rfl) (.u rfl) rfl (.nil (.code (.cond rfl (fun c1=>?_) (fun c1=>?_)))))))))
 ·have c1k:=c1
  try simp only [qcA,qcB] at c1
  refine .skip (.code (.block (.seq (Wk.rg [0,1,2] rfl rfl (mv rfl .no (.u rfl) (mv rfl .no (.u rfl) (cp rfl .no (.u rfl) (.u rfl) rfl (.nil (.code (.cond rfl (fun c2=>?_) (fun c2=>?_)))))))))))
  ·have c2k:=c2
   try simp only [qcA,qcB] at c2
   refine .seq (Wk.rg [0,1,2,3,4,5,6,7] rfl rfl (mv rfl .no (.u rfl) (mv rfl .no (.u rfl) (mv rfl .no (.u rfl) (arn ((X.length:Nat):Int) rfl .no (.u rfl) (.u rfl) rfl (fun _=>by omega) (fun _=>wrap_i64 (by omega) (by omega)) ?_)))))
   refine mv rfl .no (.u rfl) (mv rfl .no (.u rfl) (mv rfl .no (.u rfl) ?_))
   refine ka rfl (.inr rfl) Fx.go107 (Evc rfl (Evc rfl (Evc rfl (Evc rfl (Evc rfl Evn))))) (mtk1 .here) (swapR_ok X (U.take V.length) (U.drop V.length) V Y _ _ _ _ _ _ (by first|omega|(simp only [qlB,List.length_nil]<;>omega)) (by first|omega|(simp only [qlB,List.length_nil]<;>omega)) (by first|omega|(simp only [qlB,List.length_nil]<;>omega)) (by first|omega|(simp only [qlB,List.length_nil]<;>omega)) _ (by rw [List.append_assoc X (U.take _) (U.drop _),List.take_append_drop]) (by first|omega|(simp only [qlB,List.length_nil]<;>omega))) ?_
   rintro _ G31 μ31 hG31 ⟨rfl,rfl⟩
   refine .nil (.code (Wk.rg [0,1,2,3] rfl rfl (mv rfl .no (.u rfl) (mv rfl .no (.u rfl) (arn (((U.length-V.length):Nat):Int) rfl .no (.u rfl) (.u rfl) rfl (fun _=>by omega) (fun _=>wrap_i64 (by omega) (by omega)) ?_)))))
   refine asg rfl .no (.u rfl) (.nil (.blk (We.lpo (X++V,U.drop V.length,U.take V.length,Y) ?_ ?_ ?_ ?_ ?_)))
   ·exact (ESub.cons rfl (evi (by first|omega|(simp only [qlB,List.length_nil]<;>omega))) (ESub.cons rfl (evi (by first|omega|(simp only [qlB,List.length_nil]<;>omega))) (ESub.c rfl (ESub.c rfl (ESub.c rfl ESub.nil)))))
   ·exact (MSub.cons .here rfl MSub.nil)
   ·exact (by first|omega|(simp only [qlB,List.length_nil]<;>omega))
   ·exact (hGl0).trans hG31
   refine ⟨?_,?_,?_,?_⟩
   ·(try dsimp only)<;>(exact (by first|omega|(simp only [qlB,List.length_nil]<;>omega)))
   ·(try dsimp only)<;>(exact (by first|omega|(simp only [qlB,List.length_nil]<;>omega)))
   ·(try dsimp only)<;>(exact (by first|omega|(simp only [qlB,List.length_nil]<;>omega)))
   (try dsimp only)<;>(rw [List.append_assoc (X++V),List.take_append_drop]; exact hT)
  have c2k:=c2
  try simp only [qcA,qcB] at c2
  refine .seq (Wk.rg [0,1,2,3,4,5,6,7,8,9,10,11] rfl rfl (mv rfl .no (.u rfl) (mv rfl .no (.u rfl) (mv rfl .no (.u rfl) (arn ((X.length:Nat):Int) rfl .no (.u rfl) (.u rfl) rfl (fun _=>by omega) (fun _=>wrap_i64 (by omega) (by omega)) ?_)))))
  refine mv rfl .no (.u rfl) (mv rfl .no (.u rfl) (arn (((P.length+A.length+V.length):Nat):Int) rfl .no (.u rfl) (.u rfl) rfl (fun _=>by omega) (fun _=>wrap_i64 (by omega) (by omega)) ?_))
  refine mv rfl .no (.u rfl) (arn (((X.length+U.length+(V.length-U.length)):Nat):Int) rfl .no (.u rfl) (.u rfl) rfl (fun _=>by omega) (fun _=>wrap_i64 (by omega) (by omega)) ?_)
  refine mv rfl .no (.u rfl) (mv rfl .no (.u rfl) ?_)
  refine ka rfl (.inr rfl) Fx.go107 (Evc rfl (Evc rfl (Evc rfl (Evc rfl (Evc rfl Evn))))) (mtk1 .here) (swapR_ok X U (V.take (V.length-U.length)) (V.drop (V.length-U.length)) Y _ _ _ _ _ _ (by first|omega|(simp only [qlB,List.length_nil]<;>omega)) (by first|omega|(simp only [qlB,List.length_nil]<;>omega)) (by first|omega|(simp only [qlB,List.length_nil]<;>omega)) (by first|omega|(simp only [qlB,List.length_nil]<;>omega)) _ (by rw [List.append_assoc (X++U) (V.take _) (V.drop _),List.take_append_drop]) (by first|omega|(simp only [qlB,List.length_nil]<;>omega))) ?_
  rintro _ G46 μ46 hG46 ⟨rfl,rfl⟩
  refine .nil (.code (Wk.rg [0,1,2,3] rfl rfl (mv rfl .no (.u rfl) (mv rfl .no (.u rfl) (arn (((V.length-U.length):Nat):Int) rfl .no (.u rfl) (.u rfl) rfl (fun _=>by omega) (fun _=>wrap_i64 (by omega) (by omega)) ?_)))))
  refine asg rfl .no (.u rfl) (.nil (.blk (We.lpo (X,V.drop (V.length-U.length),V.take (V.length-U.length),U++Y) ?_ ?_ ?_ ?_ ?_)))
  ·exact (ESub.cons rfl (evi (by first|omega|(simp only [qlB,List.length_nil]<;>omega))) (ESub.cons rfl (evi (by first|omega|(simp only [qlB,List.length_nil]<;>omega))) (ESub.c rfl (ESub.c rfl (ESub.c rfl ESub.nil)))))
  ·exact (MSub.cons .here (by rw [← List.append_assoc (X++_++_) U Y]) MSub.nil)
  ·exact (by first|omega|(simp only [qlB,List.length_nil]<;>omega))
  ·exact (hGl0).trans hG46
  refine ⟨?_,?_,?_,?_⟩
  ·(try dsimp only)<;>(exact (by first|omega|(simp only [qlB,List.length_nil]<;>omega)))
  ·(try dsimp only)<;>(exact (by first|omega|(simp only [qlB,List.length_nil]<;>omega)))
  ·(try dsimp only)<;>(exact (by first|omega|(simp only [qlB,List.length_nil]<;>omega)))
  (try dsimp only)<;>(rw [List.append_assoc X,List.take_append_drop,←List.append_assoc]; exact hT)
 have c1k:=c1
 try simp only [qcA,qcB] at c1
 refine .exit (.xcode (.xlp (.xblk (.code (Wk.rg [0,1,2,3,4,5,6,7] rfl rfl (mv rfl .no (.u rfl) (mv rfl .no (.u rfl) (mv rfl .no (.u rfl) (arn ((X.length:Nat):Int) rfl .no (.u rfl) (.u rfl) rfl (fun _=>by omega) (fun _=>wrap_i64 (by omega) (by omega)) ?_)))))))))
 refine mv rfl .no (.u rfl) (mv rfl .no (.u rfl) (mv rfl .no (.u rfl) ?_))
 refine ka rfl (.inr rfl) Fx.go107 (Evc rfl (Evc rfl (Evc rfl (Evc rfl (Evc rfl Evn))))) (mtk1 .here) (swapR_ok X U [] V Y _ _ _ _ _ _ (by first|omega|(simp only [qlB,List.length_nil]<;>omega)) (by first|omega|(simp only [qlB,List.length_nil]<;>omega)) (by first|omega|(simp only [qlB,List.length_nil]<;>omega)) (by first|omega|(simp only [qlB,List.length_nil]<;>omega)) _ (by simp) (by first|omega|(simp only [qlB,List.length_nil]<;>omega))) ?_
 rintro _ G57 μ57 hG57 ⟨rfl,rfl⟩
 refine .nil (.nil (We.fin Tryd.results101 .nil (MSub.cons .here rfl MSub.nil) ?_))
 rw [← hT,List.append_nil]; exact ⟨rfl,rfl⟩
theorem ins_ok (P S R:List TM) (v:Value) (a b:Int) (f:Nat) (hf:goFn Tryd.prog f=true) (vc:List Value) (cv:Meta→Meta→Int) (G:PM) (hcm:CmpR Tryd.prog f vc cv G) (hw:Wk0 (ltv cv)) (ha:a=P.length) (hb:b=((P.length+S.length:Nat):Int)) (hS:S.Pairwise fun x y=>x.2<y.2) (xs:List Meta) (hx:xs=ms (P++S++R)) (hl:xs.length≤1000000000):Ct Tryd.prog 94 ([v,.int .i64 a,.int .i64 b,.func (.func f) #[] vc.toArray]:List Value).toArray G [rS 40 Meta.cells v 67 xs] (fun _ μ' u=>∃ S',S'.Perm S∧Srt (ltv cv) S'∧μ'=[rS 40 Meta.cells v 67 (ms (P++S'++R))]∧u=.tuple #[]):=by
 refine Ct.of Tryd.func94 rfl Tryd.ntmps94 rfl fun w0 hs0=>?_
 subst hx; subst ha; subst hb; rw [ms_len] at hl; simp only [List.length_append] at hl
 refine .seq (Wk.rg [0,1,2] rfl rfl (mv rfl .no (.u rfl) (arn (((P.length+1):Nat):Int) rfl .no (.u rfl) (.u rfl) rfl (fun _=>by omega) (fun _=>wrap_i64 (by omega) (by omega)) ?_)))
 refine asg rfl .no (.u rfl) (.nil (.code (.block ?_)))
 refine Wk.lop (α:=Nat×List TM) (fun gh=>[(8,true,.int .i64 ((P.length+gh.1:Nat):Int))]) (fun gh=>[rS 40 Meta.cells v 67 (ms (P++(gh.2++S.drop gh.1)++R))])
  (fun gh Gl=>(1≤gh.1)∧(gh.1≤S.length∨S.length=0)∧(gh.2.Perm (S.take gh.1))∧(Srt (ltv cv) gh.2)) (fun gh=>S.length-gh.1) (1,S.take 1) [(0,true,_),(1,true,_),(2,true,_),(3,true,_)] []
  (ESub.cons rfl (by first|rfl|exact evi (by omega)) (ESub.c rfl (ESub.c rfl (ESub.c rfl (ESub.c rfl ESub.nil)))))
  (MSub.cons .here (by rw [List.take_append_drop]) MSub.nil) ?_ ?_
 ·refine ⟨?_,?_,?_,?_⟩
  ·(try dsimp only)<;>(first|omega|rfl|assumption|(simp; done))
  ·(try dsimp only)<;>(omega)
  ·(try dsimp only)<;>(exact List.Perm.refl _)
  (try dsimp only)<;>(exact srt_take1 S)
 intro gh N0 Gl0 hN0 hGl0 hF0
 obtain ⟨q,S1⟩:=gh; dsimp only at hF0 hN0 ⊢
 obtain ⟨hq1,hq2,hp,hs⟩:=hF0
 have hcm:=hcm.mono hGl0
 have hS1:=hp.length_eq; rw [List.length_take] at hS1
 refine .seq (.seq (Wk.rg [0,1,2] rfl rfl (mv rfl .no (.u rfl) (mv rfl .no (.u rfl) (cp rfl .no (.u rfl) (.u rfl) rfl (.nil (.code (.cond rfl (fun c1=>?_) (fun c1=>?_)))))))))
 ·have c1k:=c1
  try simp only [qcA,qcC,qcB] at c1
  refine .skip (.code (.seq (.block (.seq (Wk.rg [0,1] rfl rfl (mv rfl .no (.u rfl) (asg rfl .no (.u rfl) (.nil (.code (.block ?_))))))))))
  refine Wk.lop (α:=List TM×List TM) (fun gh=>[(9,true,.int .i64 ((P.length+gh.1.length:Nat):Int))]) (fun gh=>[rS 40 Meta.cells v 67 (ms (P++(gh.1++S.getD q z0 :: gh.2++S.drop (q+1))++R))])
   (fun gh Gl=>(gh.1++gh.2=S1)∧(∀ z∈gh.2,TL (ltv cv) (S.getD q z0) z)) (fun gh=>gh.1.length) (S1,[]) [(0,true,_),(1,true,_),(2,true,_),(3,true,_),(8,true,_)] []
   (ESub.cons rfl (evi (by first|rfl|omega|(dsimp only; omega))) (ESub.c rfl (ESub.c rfl (ESub.c rfl (ESub.c rfl (ESub.c rfl ESub.nil))))))
   (MSub.cons .here (by rw [drop_getD (by omega)]; simp) MSub.nil) ?_ ?_
  ·refine ⟨?_,?_⟩
   ·(try dsimp only)<;>(simp)
   (try dsimp only)<;>(exact fun z h=>by cases h)
  intro gh N1 Gl1 hN1 hGl1 hF1
  obtain ⟨A,B⟩:=gh; dsimp only at hF1 hN1 ⊢
  obtain ⟨hAB,hB⟩:=hF1
  have hcm:=hcm.mono hGl1
  have hAl:=congrArg List.length hAB; rw [List.length_append] at hAl; have hLl:(ms (P++(A++S.getD q z0 :: B++S.drop (q+1))++R)).length=P.length+S.length+R.length:=by rw [ms_len]; simp only [List.length_append,List.length_cons,List.length_drop]; omega
  refine .seq (.seq ?_)
  refine wk_rv .here (by omega) ?_; intro bbR capR evR lcR; subst evR
  refine Wk.draw (mc:=⟨false,false⟩) [0,1,2,3,4,5,6,7,8,9,10,11,12,13,14,15,16] FxVeSa.mix (by kernel_rfl) ?_
  refine mv rfl .no (.u rfl) (mv rfl .no (.u rfl) (cp rfl .no (.u rfl) (.u rfl) rfl (mv rfl .no (.u rfl) (mv rfl (.t rfl rfl) (.u rfl) (mv rfl (.t rfl rfl) (.u rfl) (mv rfl (.t rfl rfl) (.u rfl) (ia rfl (.t rfl rfl) FxVeSa.se22 (.s rfl) (.s rfl) (fun hc=>by (try simp only [Bool.and_eq_true,decide_eq_true_eq] at hc); omega) (fun hc=>by (try simp only [Bool.and_eq_true,decide_eq_true_eq] at hc); omega) ?_)))))))
  refine lA rfl (.t rfl rfl) FxVeSa.ag67 (.s rfl) (fun hc=>RdN.rowS .here (fun _ _=>Meta.len _) (gd_at (z:=Meta.zero) (k:=((P.length+A.length:Nat))) (by (try simp only [Bool.and_eq_true,decide_eq_true_eq] at hc); omega)) (by (try simp only [Bool.and_eq_true,decide_eq_true_eq] at hc); omega)) (fun _=>Meta.len _) ?_
  refine mv rfl (.t rfl rfl) (.u rfl) (mv rfl (.t rfl rfl) (.u rfl) (arn (((P.length+A.length-1):Nat):Int) rfl (.t rfl rfl) (.s rfl) (.u rfl) rfl (fun hc=>by (try simp only [Bool.and_eq_true,decide_eq_true_eq] at hc); omega) (fun hc=>wrap_i64 (by (try simp only [Bool.and_eq_true,decide_eq_true_eq] at hc); omega) (by (try simp only [Bool.and_eq_true,decide_eq_true_eq] at hc); omega)) ?_))
  refine ia rfl (.t rfl rfl) FxVeSa.se22 (.s rfl) (.s rfl) (fun hc=>by (try simp only [Bool.and_eq_true,decide_eq_true_eq] at hc); omega) (fun hc=>by (try simp only [Bool.and_eq_true,decide_eq_true_eq] at hc); omega) ?_
  refine lA rfl (.t rfl rfl) FxVeSa.ag67 (.s rfl) (fun hc=>RdN.rowS .here (fun _ _=>Meta.len _) (gd_at (z:=Meta.zero) (k:=(P.length+A.length-1)) (by (try simp only [Bool.and_eq_true,decide_eq_true_eq] at hc); omega)) (by (try simp only [Bool.and_eq_true,decide_eq_true_eq] at hc); omega)) (fun _=>Meta.len _) ?_
  refine kf rfl (.t rfl rfl) (.s rfl) hf (Eva.cons (.s rfl) (Eva.cons (.s rfl) Evn)) (fun _=>hcm.ok _ (PM.le.refl _) _ _) ?_
  refine cp rfl (.t rfl rfl) (.s rfl) (.u rfl) rfl (pkA rfl .no (.u rfl) (.s rfl) (.nil (.code (.cond rfl (fun c2=>?_) (fun c2=>?_)))))
  ·have c2k:=c2
   try simp only [qcA,qcC,qcB] at c2
   refine .skip (.code (.seq (.block (Wk.draw (mc:=⟨false,false⟩) [0,1,2,3,4,5,6,7,8,9,10,11,12,13,14,15,16,17] FxVeSa.mix (by kernel_rfl) ?_))))
   refine mv rfl .no (.u rfl) (mv rfl .no (.u rfl) (mv rfl .no (.u rfl) (mv rfl .no (.u rfl) (arn (((P.length+A.length-1):Nat):Int) rfl .no (.u rfl) (.u rfl) rfl (fun _=>by omega) (fun _=>wrap_i64 (by omega) (by omega)) ?_))))
   refine mv rfl .no (.u rfl) (mv rfl .no (.u rfl) (arn (((P.length+A.length-1):Nat):Int) rfl .no (.u rfl) (.u rfl) rfl (fun _=>by omega) (fun _=>wrap_i64 (by omega) (by omega)) ?_))
   refine ia rfl .no FxVeSa.se22 (.u rfl) (.u rfl) (fun _=>by omega) (fun _=>by omega) ?_
   refine lA rfl .no FxVeSa.ag67 (.u rfl) (fun _=>RdN.rowS .here (fun _ _=>Meta.len _) (gd_at (z:=Meta.zero) (k:=(P.length+A.length-1)) (by omega)) (by omega)) (fun _=>Meta.len _) ?_
   refine mv rfl .no (.u rfl) (mv rfl .no (.u rfl) (ia rfl .no FxVeSa.se22 (.u rfl) (.u rfl) (fun _=>by omega) (fun _=>by omega) ?_))
   refine lA rfl .no FxVeSa.ag67 (.u rfl) (fun _=>RdN.rowS .here (fun _ _=>Meta.len _) (gd_at (z:=Meta.zero) (k:=((P.length+A.length:Nat))) (by omega)) (by omega)) (fun _=>Meta.len _) ?_
   refine ia rfl .no FxVeSa.se22 (.u rfl) (.u rfl) (fun _=>by omega) (fun _=>by omega) ?_
   refine stS (k:=((P.length+A.length:Nat))) (u:=((ms (P++(A++S.getD q z0 :: B++S.drop (q+1))++R)).getD ((P.length+A.length-1)) Meta.zero)) rfl (.u rfl) (.u rfl) rfl FxVeSa.sz67 .here (fun _ _=>Meta.len _) (Meta.len _) (Meta.one _) (by omega) (by (try simp only [List.length_set]); omega) ?_
   refine ia rfl .no FxVeSa.se22 (.u rfl) (.u rfl) (fun _=>by omega) (fun _=>by omega) ?_
   refine stS (k:=(P.length+A.length-1)) (u:=((ms (P++(A++S.getD q z0 :: B++S.drop (q+1))++R)).getD (((P.length+A.length:Nat))) Meta.zero)) rfl (.u rfl) (.u rfl) rfl FxVeSa.sz67 .here (fun _ _=>Meta.len _) (Meta.len _) (Meta.one _) (by omega) (by (try simp only [List.length_set]); omega) ?_
   refine .nil (.blk (.code (Wk.rg [0,1,2] rfl rfl (mv rfl .no (.u rfl) (arn (((P.length+A.length-1):Nat):Int) rfl .no (.u rfl) (.u rfl) rfl (fun _=>by omega) (fun _=>wrap_i64 (by omega) (by omega)) ?_)))))
   refine asg rfl .no (.u rfl) (.nil (We.lpo (A.take (A.length-1),A.getD (A.length-1) z0 :: B) ?_ ?_ ?_ ?_ ?_))
   ·exact (ESub.cons rfl (evi (by first|omega|(simp only [qlB,List.length_nil]<;>omega))) (ESub.c rfl (ESub.c rfl (ESub.c rfl (ESub.c rfl (ESub.c rfl ESub.nil))))))
   ·exact (MSub.cons .here (by rw [ins_sw (by omega) rfl rfl]) MSub.nil)
   ·exact (by first|omega|(simp only [qlB,List.length_nil]<;>omega))
   ·exact hGl1
   refine ⟨?_,?_⟩
   ·(try dsimp only)<;>(rw [← hAB]; exact take_last (by omega))
   (try dsimp only)<;>(exact ins_B (P:=P) (D:=S.drop (q+1)) (R:=R) hB ⟨by omega,c2.2⟩)
  have c2k:=c2
  try simp only [qcA,qcC,qcB] at c2
  refine .exit (.xcode (.xlp (.xblk (.blk (.code (Wk.rg [0,1,2] rfl rfl (mv rfl .no (.u rfl) (arn (((((P.length+q:Nat))+1):Nat):Int) rfl .no (.u rfl) (.u rfl) rfl (fun _=>by omega) (fun _=>wrap_i64 (by omega) (by omega)) ?_))))))))
  refine asg rfl .no (.u rfl) (.nil (We.lpo (q+1,A++S.getD q z0 :: B) ?_ ?_ ?_ ?_ ?_))
  ·exact (ESub.cons rfl (by first|rfl|exact evi (by omega)) (ESub.c rfl (ESub.c rfl (ESub.c rfl (ESub.c rfl ESub.nil)))))
  ·exact (MSub.cons .here (by simp) MSub.nil)
  ·first|omega|(dsimp only; omega)
  ·exact (hGl0).trans hGl1
  refine ⟨?_,?_,?_,?_⟩
  ·(try dsimp only)<;>(first|omega|rfl|assumption|(simp; done))
  ·(try dsimp only)<;>(omega)
  ·(try dsimp only)<;>(exact ins_perm (by omega) hAB hp)
  (try dsimp only)<;>(exact ins_srt (P:=P) (R:=R) hw hs hAB hB hS hp (by omega) (fun h0=>c2.resolve_left (by omega)))
 have c1k:=c1
 try simp only [qcA,qcC,qcB] at c1
 refine .exit (.xcode (.xlp (.xblk (.nil (We.fin Tryd.results94 .nil (MSub.cons .here rfl MSub.nil) ?_)))))
 have hqq:S.length≤q:=by omega
 rw [List.take_of_length_le hqq] at hp
 exact ⟨S1,hp,hs,by rw [List.drop_of_length_le hqq,List.append_nil],rfl⟩
namespace FxVeSc
theorem cv3_56:cvK Tryd.prog 3 56=some .u64:=by kernel_rfl
theorem cv56_3:cvK Tryd.prog 56 3=some .i64:=by kernel_rfl
end FxVeSc
namespace Fx
theorem go101:goFn Tryd.prog 101=true:=by kernel_rfl
theorem go95:goFn Tryd.prog 95=true:=by kernel_rfl
end Fx
structure SymI (v:Value) (f:Nat) (vc:List Value) (cv:Meta→Meta→Int) (N:Nat) (G:PM):Prop where
 ok:∀ G',PM.le G G'→∀ (P A B R:List TM) (a m b:Int) (xs:List Meta),A.length+B.length<N→a=P.length→m=((P.length+A.length:Nat):Int)→b=((P.length+A.length+B.length:Nat):Int)→0<A.length→0<B.length→Srt (ltv cv) A→Srt (ltv cv) B→(∀ x∈A,∀ y∈B,x.2<y.2)→xs=ms (P++A++B++R)→xs.length≤1000000000 →
  Ct Tryd.prog 95 #[v,.int .i64 a,.int .i64 m,.int .i64 b,.func (.func f) #[] vc.toArray] G' [rS 40 Meta.cells v 67 xs] (fun _ μ' u=>∃ S',S'.Perm (A++B)∧Srt (ltv cv) S'∧μ'=[rS 40 Meta.cells v 67 (ms (P++S'++R))]∧u=.tuple #[])
theorem SymI.mono {v:Value} {f:Nat} {vc:List Value} {cv:Meta→Meta→Int} {N:Nat} {G G':PM} (h:SymI v f vc cv N G) (hle:PM.le G G'):SymI v f vc cv N G':=⟨fun G2 h2=>h.ok G2 (hle.trans h2)⟩
set_option maxHeartbeats 4000000 in
theorem symM_step (P A B R:List TM) (v:Value) (a m b:Int) (f:Nat) (hf:goFn Tryd.prog f=true) (vc:List Value) (cv:Meta→Meta→Int) (G:PM) (hcm:CmpR Tryd.prog f vc cv G) (hw:Wk0 (ltv cv)) (ha:a=P.length) (hm:m=((P.length+A.length:Nat):Int)) (hb:b=((P.length+A.length+B.length:Nat):Int)) (hA:0<A.length) (hB:0<B.length) (sA:Srt (ltv cv) A) (sB:Srt (ltv cv) B) (ht:∀ x∈A,∀ y∈B,x.2<y.2) (xs:List Meta) (hx:xs=(ms (P++A++B++R))) (hl:xs.length≤1000000000) (ih:SymI v f vc cv (A.length+B.length) G):Ct Tryd.prog 95 ([v,.int .i64 a,.int .i64 m,.int .i64 b,.func (.func f) #[] vc.toArray]:List Value).toArray G [rS 40 Meta.cells v 67 xs] (fun _ μ' u=>∃ S',S'.Perm (A++B)∧Srt (ltv cv) S'∧μ'=[rS 40 Meta.cells v 67 (ms (P++S'++R))]∧u=.tuple #[]):=by
 refine Ct.of Tryd.func95 rfl Tryd.ntmps95 rfl fun w0 hs0=>?_
 subst hx; subst ha; subst hm; subst hb; rw [ms_len] at hl; simp only [List.length_append] at hl
 have hlen:(ms (P++A++B++R)).length=P.length+A.length+B.length+R.length:=by rw [ms_len]; simp only [List.length_append]
 refine .seq (.seq (Wk.rg [0,1,2,3] rfl rfl (mv rfl .no (.u rfl) (mv rfl .no (.u rfl) (arn ((A.length:Nat):Int) rfl .no (.u rfl) (.u rfl) rfl (fun _=>by omega) (fun _=>wrap_i64 (by omega) (by omega)) ?_)))))
 refine cp rfl .no (.u rfl) (.u rfl) rfl (.nil (.code (.cond rfl (fun c1=>?_) (fun c1=>?_))))
 ·have c1k:=c1
  try simp only [qcA,qcC,qcB] at c1
  refine .seq (Wk.rg [0,1] rfl rfl (mv rfl .no (.u rfl) (asg rfl .no (.u rfl) (.nil (.code (.seq (Wk.rg [0,1] rfl rfl (mv rfl .no (.u rfl) (asg rfl .no (.u rfl) (.nil (.code (.seq (.block ?_)))))))))))))
  have hA1:A.length=1:=by omega
  refine Wk.lop (α:=Nat×Nat) (fun gh=>[(10,true,.int .i64 ((P.length+A.length+gh.1:Nat):Int)),(11,true,.int .i64 ((P.length+A.length+gh.2:Nat):Int))]) (fun _=>[])
   (fun gh Gl=>(gh.1≤gh.2)∧(gh.2≤B.length)∧(gh.1=0∨TL (ltv cv) (B.getD (gh.1-1) z0) (A.getD 0 z0))∧(gh.2=B.length∨TL (ltv cv) (A.getD 0 z0) (B.getD gh.2 z0))) (fun gh=>gh.2-gh.1) (0,B.length) [(0,true,_),(1,true,_),(4,true,_)] [_]
   (ESub.cons rfl (by first|rfl|exact evi (by omega)) (ESub.cons rfl (by first|rfl|exact evi (by omega)) (ESub.c rfl (ESub.c rfl (ESub.c rfl ESub.nil)))))
   (MSub.cons .here rfl MSub.nil) ?_ ?_
  ·refine ⟨?_,?_,?_,?_⟩
   ·(try dsimp only)<;>(first|omega|rfl|assumption|(simp; done))
   ·(try dsimp only)<;>(first|omega|rfl|assumption|(simp; done))
   ·(try dsimp only)<;>(exact .inl rfl)
   (try dsimp only)<;>(exact .inl rfl)
  intro gh N0 Gl0 hN0 hGl0 hF0
  obtain ⟨q,r⟩:=gh; dsimp only at hF0 hN0 ⊢
  obtain ⟨hq,hr,f1,f2⟩:=hF0
  have hcm:=hcm.mono hGl0
  have ih:=ih.mono hGl0
  refine .seq (.seq (Wk.rg [0,1,2] rfl rfl (mv rfl .no (.u rfl) (mv rfl .no (.u rfl) (cp rfl .no (.u rfl) (.u rfl) rfl (.nil (.code (.cond rfl (fun c2=>?_) (fun c2=>?_)))))))))
  ·have c2k:=c2
   try simp only [qcA,qcC,qcB] at c2
   refine .skip (.code (.block (.seq (Wk.rg [0,1,2,3,4,5,6] rfl rfl (mv rfl .no (.u rfl) (mv rfl .no (.u rfl) (arn (((((P.length+A.length+q:Nat))+((P.length+A.length+r:Nat))):Nat):Int) rfl .no (.u rfl) (.u rfl) rfl (fun _=>by omega) (fun _=>wrap_i64 (by omega) (by omega)) ?_)))))))
   refine cw rfl .no FxVeSc.cv3_56 (.u rfl) (fun _=>wrap_u64 (by omega) (by omega)) ?_
   refine sr1 ((((P.length+A.length+q:Nat))+((P.length+A.length+r:Nat)))) rfl .no (.u rfl) (.u rfl) (by first|rfl|omega) rfl (by decide) ?_
   refine cw rfl .no FxVeSc.cv56_3 (.u rfl) (fun _=>wrap_i64 (by omega) (by omega)) ?_
   refine asg rfl .no (.u rfl) (.nil (.code (.seq ?_)))
   obtain ⟨d,hd⟩ : ∃ d,((P.length+A.length+q)+(P.length+A.length+r)) / 2=P.length+A.length+d:=⟨(q+r) / 2,by omega⟩
   have hdq:q≤d∧d<r:=by omega
   rw [hd]
   have hg:=seg_b (P:=P) (A:=A) (B:=B) (R:=R) (i:=d) (by omega)
   have hg0:=seg_a0 (P:=P) (A:=A) (B:=B) (R:=R) hA
   refine wk_rv .here (by omega) ?_; intro bbR capR evR lcR; subst evR
   refine Wk.draw (mc:=⟨false,false⟩) [0,1,2,3,4,5,6,7,8,9,10] FxVeSa.mix (by kernel_rfl) ?_
   refine mv rfl .no (.u rfl) (mv rfl .no (.u rfl) (mv rfl .no (.u rfl) (ia rfl .no FxVeSa.se22 (.u rfl) (.u rfl) (fun _=>by omega) (fun _=>by omega) ?_)))
   refine lA rfl .no FxVeSa.ag67 (.u rfl) (fun _=>RdN.rowS .here (fun _ _=>Meta.len _) (gd_at (z:=Meta.zero) (k:=(P.length+A.length+d)) (by omega)) (by omega)) (fun _=>Meta.len _) ?_
   refine mv rfl .no (.u rfl) (mv rfl .no (.u rfl) (ia rfl .no FxVeSa.se22 (.u rfl) (.u rfl) (fun _=>by omega) (fun _=>by omega) ?_))
   refine lA rfl .no FxVeSa.ag67 (.u rfl) (fun _=>RdN.rowS .here (fun _ _=>Meta.len _) (gd_at (z:=Meta.zero) (k:=P.length) (by omega)) (by omega)) (fun _=>Meta.len _) ?_
   refine kf rfl .no (.u rfl) hf (Evc rfl (Evc rfl Evn)) (fun _=>hcm.ok _ (PM.le.refl _) _ _) ?_
   refine cp rfl .no (.u rfl) (.u rfl) rfl (.nil (.code (.cond rfl (fun c3=>?_) (fun c3=>?_))))
   ·have c3k:=c3
    try simp only [qcA,qcC,qcB] at c3
    refine Wk.rg [0,1,2] rfl rfl (mv rfl .no (.u rfl) (arn ((((P.length+A.length+d)+1):Nat):Int) rfl .no (.u rfl) (.u rfl) rfl (fun _=>by omega) (fun _=>wrap_i64 (by omega) (by omega)) ?_))
    refine asg rfl .no (.u rfl) (.nil (.blk (We.lpo (d+1,r) ?_ ?_ ?_ ?_ ?_)))
    ·exact (ESub.cons rfl (evi (by first|rfl|omega|(dsimp only; omega))) (ESub.cons rfl (evi (by first|rfl|omega|(dsimp only; omega))) (ESub.c rfl (ESub.c rfl (ESub.c rfl ESub.nil)))))
    ·exact (MSub.cons .here rfl MSub.nil)
    ·first|omega|(dsimp only; omega)
    ·exact hGl0
    refine ⟨?_,?_,?_,?_⟩
    ·(try dsimp only)<;>(first|omega|rfl|assumption|(simp; done))
    ·(try dsimp only)<;>(first|omega|rfl|assumption|(simp; done))
    ·(try dsimp only)<;>(exact .inr (by rw [show d+1-1=d by omega]; exact ab_back hw ht hA (by omega) (by rw [← hg,←hg0]; assumption)))
    (try dsimp only)<;>(exact f2)
   have c3k:=c3
   try simp only [qcA,qcC,qcB] at c3
   refine Wk.rg [0,1] rfl rfl (mv rfl .no (.u rfl) (asg rfl .no (.u rfl) (.nil (.blk (We.lpo (q,d) ?_ ?_ ?_ ?_ ?_)))))
   ·exact (ESub.cons rfl (evi (by first|rfl|omega|(dsimp only; omega))) (ESub.cons rfl (evi (by first|rfl|omega|(dsimp only; omega))) (ESub.c rfl (ESub.c rfl (ESub.c rfl ESub.nil)))))
   ·exact (MSub.cons .here rfl MSub.nil)
   ·first|omega|(dsimp only; omega)
   ·exact hGl0
   refine ⟨?_,?_,?_,?_⟩
   ·(try dsimp only)<;>(first|omega|rfl|assumption|(simp; done))
   ·(try dsimp only)<;>(first|omega|rfl|assumption|(simp; done))
   ·(try dsimp only)<;>(exact f1)
   (try dsimp only)<;>(exact .inr (ab_fore hw ht hA (by omega) (by rw [← hg,←hg0]; assumption)))
  have c2k:=c2
  try simp only [qcA,qcC,qcB] at c2
  refine .exit (.xcode (.xlp (.xblk (.code (.seq (.seq (Wk.rg [0,1] rfl rfl (mv rfl .no (.u rfl) (asg rfl .no (.u rfl) (.nil (.code (.block ?_))))))))))))
  obtain rfl:q=r:=by omega
  refine Wk.lop (α:=Nat) (fun k=>[(13,true,.int .i64 ((P.length+k:Nat):Int))]) (fun k=>[rS 40 Meta.cells v 67 (ms (P++(B.take k++A.getD 0 z0 :: B.drop k)++R))])
   (fun k Gl=>(k≤q)) (fun k=>q-k) 0 [(0,true,_),(10,true,_)] []
   (ESub.cons rfl (by first|rfl|exact evi (by omega)) (ESub.c rfl (ESub.c rfl ESub.nil)))
   (MSub.cons .here (by rw [List.take_zero,List.drop_zero,List.nil_append,←List.singleton_append,←one_eq hA1,←List.append_assoc]) MSub.nil) ?_ ?_
  ·(try dsimp only)<;>(first|omega|rfl|assumption|(simp; done))
  intro k N1 Gl1 hN1 hGl1 hF1
  try dsimp only at hF1 hN1 ⊢
  have hk:=hF1
  have hcm:=hcm.mono hGl1
  have ih:=ih.mono hGl1
  have hlu:(ms (P++(B.take k++A.getD 0 z0 :: B.drop k)++R)).length=P.length+B.length+1+R.length:=by rw [ms_len]; simp only [List.length_append,List.length_cons,List.length_take,List.length_drop]; omega
  refine .seq (.seq (Wk.rg [0,1,2,3] rfl rfl (mv rfl .no (.u rfl) (mv rfl .no (.u rfl) (arn (((P.length+q):Nat):Int) rfl .no (.u rfl) (.u rfl) rfl (fun _=>by omega) (fun _=>wrap_i64 (by omega) (by omega)) ?_)))))
  refine cp rfl .no (.u rfl) (.u rfl) rfl (.nil (.code (.cond rfl (fun c4=>?_) (fun c4=>?_))))
  ·have c4k:=c4
   try simp only [qcA,qcC,qcB] at c4
   refine .skip (.code (.seq (.block ?_)))
   refine wk_rv .here (by omega) ?_; intro bbR capR evR lcR; subst evR
   refine Wk.draw (mc:=⟨false,false⟩) [0,1,2,3,4,5,6,7,8,9,10,11,12,13,14,15,16,17] FxVeSa.mix (by kernel_rfl) ?_
   refine mv rfl .no (.u rfl) (mv rfl .no (.u rfl) (mv rfl .no (.u rfl) (mv rfl .no (.u rfl) (arn (((((P.length+k:Nat))+1):Nat):Int) rfl .no (.u rfl) (.u rfl) rfl (fun _=>by omega) (fun _=>wrap_i64 (by omega) (by omega)) ?_))))
   refine mv rfl .no (.u rfl) (mv rfl .no (.u rfl) (arn (((((P.length+k:Nat))+1):Nat):Int) rfl .no (.u rfl) (.u rfl) rfl (fun _=>by omega) (fun _=>wrap_i64 (by omega) (by omega)) ?_))
   refine ia rfl .no FxVeSa.se22 (.u rfl) (.u rfl) (fun _=>by omega) (fun _=>by omega) ?_
   refine lA rfl .no FxVeSa.ag67 (.u rfl) (fun _=>RdN.rowS .here (fun _ _=>Meta.len _) (gd_at (z:=Meta.zero) (k:=(((P.length+k:Nat))+1)) (by omega)) (by omega)) (fun _=>Meta.len _) ?_
   refine mv rfl .no (.u rfl) (mv rfl .no (.u rfl) (ia rfl .no FxVeSa.se22 (.u rfl) (.u rfl) (fun _=>by omega) (fun _=>by omega) ?_))
   refine lA rfl .no FxVeSa.ag67 (.u rfl) (fun _=>RdN.rowS .here (fun _ _=>Meta.len _) (gd_at (z:=Meta.zero) (k:=((P.length+k:Nat))) (by omega)) (by omega)) (fun _=>Meta.len _) ?_
   refine ia rfl .no FxVeSa.se22 (.u rfl) (.u rfl) (fun _=>by omega) (fun _=>by omega) ?_
   refine stS (k:=((P.length+k:Nat))) (u:=((ms (P++(B.take k++A.getD 0 z0 :: B.drop k)++R)).getD ((((P.length+k:Nat))+1)) Meta.zero)) rfl (.u rfl) (.u rfl) rfl FxVeSa.sz67 .here (fun _ _=>Meta.len _) (Meta.len _) (Meta.one _) (by omega) (by (try simp only [List.length_set]); omega) ?_
   refine ia rfl .no FxVeSa.se22 (.u rfl) (.u rfl) (fun _=>by omega) (fun _=>by omega) ?_
   refine stS (k:=(((P.length+k:Nat))+1)) (u:=((ms (P++(B.take k++A.getD 0 z0 :: B.drop k)++R)).getD (((P.length+k:Nat))) Meta.zero)) rfl (.u rfl) (.u rfl) rfl FxVeSa.sz67 .here (fun _ _=>Meta.len _) (Meta.len _) (Meta.one _) (by omega) (by (try simp only [List.length_set]); omega) ?_
   refine .nil (.blk (.code (Wk.rg [0,1,2] rfl rfl (mv rfl .no (.u rfl) (arn (((((P.length+k:Nat))+1):Nat):Int) rfl .no (.u rfl) (.u rfl) rfl (fun _=>by omega) (fun _=>wrap_i64 (by omega) (by omega)) ?_)))))
   refine asg rfl .no (.u rfl) (.nil (We.lpo (k+1) ?_ ?_ ?_ ?_ ?_))
   ·exact (ESub.cons rfl (evi (by omega)) (ESub.c rfl (ESub.c rfl ESub.nil)))
   ·exact (MSub.cons .here (by rw [sh_up (by omega) rfl rfl]) MSub.nil)
   ·first|omega|(dsimp only; omega)
   ·exact hGl1
   (try dsimp only)<;>(first|omega|rfl|assumption|(simp; done))
  have c4k:=c4
  try simp only [qcA,qcC,qcB] at c4
  refine .exit (.xcode (.xlp (.xblk (.code (.ret (We.fin Tryd.results95 .nil (MSub.cons .here rfl MSub.nil) ?_))))))
  obtain rfl:k=q:=by omega
  exact ⟨_,put_up hA1 k,srt_put hw sB f1 f2 (by omega),rfl,rfl⟩
 have c1k:=c1
 try simp only [qcA,qcC,qcB] at c1
 refine .skip (.code (.seq (.seq (Wk.rg [0,1,2,3] rfl rfl (mv rfl .no (.u rfl) (mv rfl .no (.u rfl) (arn ((B.length:Nat):Int) rfl .no (.u rfl) (.u rfl) rfl (fun _=>by omega) (fun _=>wrap_i64 (by omega) (by omega)) ?_)))))))
 refine cp rfl .no (.u rfl) (.u rfl) rfl (.nil (.code (.cond rfl (fun c5=>?_) (fun c5=>?_))))
 ·have c5k:=c5
  try simp only [qcA,qcC,qcB] at c5
  refine .seq (Wk.rg [0,1] rfl rfl (mv rfl .no (.u rfl) (asg rfl .no (.u rfl) (.nil (.code (.seq (Wk.rg [0,1] rfl rfl (mv rfl .no (.u rfl) (asg rfl .no (.u rfl) (.nil (.code (.seq (.block ?_)))))))))))))
  have hB1:B.length=1:=by omega
  refine Wk.lop (α:=Nat×Nat) (fun gh=>[(14,true,.int .i64 ((P.length+gh.1:Nat):Int)),(15,true,.int .i64 ((P.length+gh.2:Nat):Int))]) (fun _=>[])
   (fun gh Gl=>(gh.1≤gh.2)∧(gh.2≤A.length)∧(gh.1=0∨TL (ltv cv) (A.getD (gh.1-1) z0) (B.getD 0 z0))∧(gh.2=A.length∨TL (ltv cv) (B.getD 0 z0) (A.getD gh.2 z0))) (fun gh=>gh.2-gh.1) (0,A.length) [(0,true,_),(2,true,_),(4,true,_)] [_]
   (ESub.cons rfl (by first|rfl|exact evi (by omega)) (ESub.cons rfl (by first|rfl|exact evi (by omega)) (ESub.c rfl (ESub.c rfl (ESub.c rfl ESub.nil)))))
   (MSub.cons .here rfl MSub.nil) ?_ ?_
  ·refine ⟨?_,?_,?_,?_⟩
   ·(try dsimp only)<;>(first|omega|rfl|assumption|(simp; done))
   ·(try dsimp only)<;>(first|omega|rfl|assumption|(simp; done))
   ·(try dsimp only)<;>(exact .inl rfl)
   (try dsimp only)<;>(exact .inl rfl)
  intro gh N2 Gl2 hN2 hGl2 hF2
  obtain ⟨q,r⟩:=gh; dsimp only at hF2 hN2 ⊢
  obtain ⟨hq,hr,f1,f2⟩:=hF2
  have hcm:=hcm.mono hGl2
  have ih:=ih.mono hGl2
  refine .seq (.seq (Wk.rg [0,1,2] rfl rfl (mv rfl .no (.u rfl) (mv rfl .no (.u rfl) (cp rfl .no (.u rfl) (.u rfl) rfl (.nil (.code (.cond rfl (fun c6=>?_) (fun c6=>?_)))))))))
  ·have c6k:=c6
   try simp only [qcA,qcC,qcB] at c6
   refine .skip (.code (.block (.seq (Wk.rg [0,1,2,3,4,5,6] rfl rfl (mv rfl .no (.u rfl) (mv rfl .no (.u rfl) (arn (((((P.length+q:Nat))+((P.length+r:Nat))):Nat):Int) rfl .no (.u rfl) (.u rfl) rfl (fun _=>by omega) (fun _=>wrap_i64 (by omega) (by omega)) ?_)))))))
   refine cw rfl .no FxVeSc.cv3_56 (.u rfl) (fun _=>wrap_u64 (by omega) (by omega)) ?_
   refine sr1 ((((P.length+q:Nat))+((P.length+r:Nat)))) rfl .no (.u rfl) (.u rfl) (by first|rfl|omega) rfl (by decide) ?_
   refine cw rfl .no FxVeSc.cv56_3 (.u rfl) (fun _=>wrap_i64 (by omega) (by omega)) ?_
   refine asg rfl .no (.u rfl) (.nil (.code (.seq ?_)))
   obtain ⟨d,hd⟩ : ∃ d,((P.length+q)+(P.length+r)) / 2=P.length+d:=⟨(q+r) / 2,by omega⟩
   have hdq:q≤d∧d<r:=by omega
   rw [hd]
   have hg:=seg_a (P:=P) (A:=A) (B:=B) (R:=R) (i:=d) (by omega)
   have hg0:=seg_b0 (P:=P) (A:=A) (B:=B) (R:=R) hB
   refine wk_rv .here (by omega) ?_; intro bbR capR evR lcR; subst evR
   refine Wk.draw (mc:=⟨false,false⟩) [0,1,2,3,4,5,6,7,8,9,10,11] FxVeSa.mix (by kernel_rfl) ?_
   refine mv rfl .no (.u rfl) (mv rfl .no (.u rfl) (mv rfl .no (.u rfl) (ia rfl .no FxVeSa.se22 (.u rfl) (.u rfl) (fun _=>by omega) (fun _=>by omega) ?_)))
   refine lA rfl .no FxVeSa.ag67 (.u rfl) (fun _=>RdN.rowS .here (fun _ _=>Meta.len _) (gd_at (z:=Meta.zero) (k:=(P.length+A.length)) (by omega)) (by omega)) (fun _=>Meta.len _) ?_
   refine mv rfl .no (.u rfl) (mv rfl .no (.u rfl) (ia rfl .no FxVeSa.se22 (.u rfl) (.u rfl) (fun _=>by omega) (fun _=>by omega) ?_))
   refine lA rfl .no FxVeSa.ag67 (.u rfl) (fun _=>RdN.rowS .here (fun _ _=>Meta.len _) (gd_at (z:=Meta.zero) (k:=(P.length+d)) (by omega)) (by omega)) (fun _=>Meta.len _) ?_
   refine kf rfl .no (.u rfl) hf (Evc rfl (Evc rfl Evn)) (fun _=>hcm.ok _ (PM.le.refl _) _ _) ?_
   refine cp rfl .no (.u rfl) (.u rfl) rfl (nt rfl .no (.u rfl) (.nil (.code (.cond rfl (fun c7=>?_) (fun c7=>?_)))))
   ·have c7k:=c7
    try simp only [qcA,qcC,qcB] at c7
    refine Wk.rg [0,1,2] rfl rfl (mv rfl .no (.u rfl) (arn ((((P.length+d)+1):Nat):Int) rfl .no (.u rfl) (.u rfl) rfl (fun _=>by omega) (fun _=>wrap_i64 (by omega) (by omega)) ?_))
    refine asg rfl .no (.u rfl) (.nil (.blk (We.lpo (d+1,r) ?_ ?_ ?_ ?_ ?_)))
    ·exact (ESub.cons rfl (evi (by first|rfl|omega|(dsimp only; omega))) (ESub.cons rfl (evi (by first|rfl|omega|(dsimp only; omega))) (ESub.c rfl (ESub.c rfl (ESub.c rfl ESub.nil)))))
    ·exact (MSub.cons .here rfl MSub.nil)
    ·first|omega|(dsimp only; omega)
    ·exact hGl2
    refine ⟨?_,?_,?_,?_⟩
    ·(try dsimp only)<;>(first|omega|rfl|assumption|(simp; done))
    ·(try dsimp only)<;>(first|omega|rfl|assumption|(simp; done))
    ·(try dsimp only)<;>(exact .inr (by rw [show d+1-1=d by omega]; exact ab_fore hw ht (by omega) hB (by rw [← hg,←hg0]; assumption)))
    (try dsimp only)<;>(exact f2)
   have c7k:=c7
   try simp only [qcA,qcC,qcB] at c7
   refine Wk.rg [0,1] rfl rfl (mv rfl .no (.u rfl) (asg rfl .no (.u rfl) (.nil (.blk (We.lpo (q,d) ?_ ?_ ?_ ?_ ?_)))))
   ·exact (ESub.cons rfl (evi (by first|rfl|omega|(dsimp only; omega))) (ESub.cons rfl (evi (by first|rfl|omega|(dsimp only; omega))) (ESub.c rfl (ESub.c rfl (ESub.c rfl ESub.nil)))))
   ·exact (MSub.cons .here rfl MSub.nil)
   ·first|omega|(dsimp only; omega)
   ·exact hGl2
   refine ⟨?_,?_,?_,?_⟩
   ·(try dsimp only)<;>(first|omega|rfl|assumption|(simp; done))
   ·(try dsimp only)<;>(first|omega|rfl|assumption|(simp; done))
   ·(try dsimp only)<;>(exact f1)
   (try dsimp only)<;>(exact .inr (ab_back hw ht (by omega) hB (by rw [← hg,←hg0]; assumption)))
  have c6k:=c6
  try simp only [qcA,qcC,qcB] at c6
  refine .exit (.xcode (.xlp (.xblk (.code (.seq (.seq (Wk.rg [0,1] rfl rfl (mv rfl .no (.u rfl) (asg rfl .no (.u rfl) (.nil (.code (.block ?_))))))))))))
  obtain rfl:q=r:=by omega
  refine Wk.lop (α:=Nat) (fun e=>[(17,true,.int .i64 ((P.length+e:Nat):Int))]) (fun e=>[rS 40 Meta.cells v 67 (ms (P++(A.take e++B.getD 0 z0 :: A.drop e)++R))])
   (fun e Gl=>(q≤e)∧(e≤A.length)) (fun e=>e) A.length [(0,true,_),(14,true,_)] []
   (ESub.cons rfl (by first|rfl|exact evi (by omega)) (ESub.c rfl (ESub.c rfl ESub.nil)))
   (MSub.cons .here (by rw [List.take_length,List.drop_length,←one_eq hB1,←List.append_assoc]) MSub.nil) ?_ ?_
  ·refine ⟨?_,?_⟩
   ·(try dsimp only)<;>(first|omega|rfl|assumption|(simp; done))
   (try dsimp only)<;>(first|omega|rfl|assumption|(simp; done))
  intro e N3 Gl3 hN3 hGl3 hF3
  try dsimp only at hF3 hN3 ⊢
  obtain ⟨he,hel⟩:=hF3
  have hcm:=hcm.mono hGl3
  have ih:=ih.mono hGl3
  have hld:(ms (P++(A.take e++B.getD 0 z0 :: A.drop e)++R)).length=P.length+A.length+1+R.length:=by rw [ms_len]; simp only [List.length_append,List.length_cons,List.length_take,List.length_drop]; omega
  refine .seq (.seq (Wk.rg [0,1,2] rfl rfl (mv rfl .no (.u rfl) (mv rfl .no (.u rfl) (cp rfl .no (.u rfl) (.u rfl) rfl (.nil (.code (.cond rfl (fun c8=>?_) (fun c8=>?_)))))))))
  ·have c8k:=c8
   try simp only [qcA,qcC,qcB] at c8
   refine .skip (.code (.seq (.block ?_)))
   refine wk_rv .here (by omega) ?_; intro bbR capR evR lcR; subst evR
   refine Wk.draw (mc:=⟨false,false⟩) [0,1,2,3,4,5,6,7,8,9,10,11,12,13,14,15,16,17] FxVeSa.mix (by kernel_rfl) ?_
   refine mv rfl .no (.u rfl) (mv rfl .no (.u rfl) (mv rfl .no (.u rfl) (mv rfl .no (.u rfl) (arn (((P.length+e-1):Nat):Int) rfl .no (.u rfl) (.u rfl) rfl (fun _=>by omega) (fun _=>wrap_i64 (by omega) (by omega)) ?_))))
   refine mv rfl .no (.u rfl) (mv rfl .no (.u rfl) (arn (((P.length+e-1):Nat):Int) rfl .no (.u rfl) (.u rfl) rfl (fun _=>by omega) (fun _=>wrap_i64 (by omega) (by omega)) ?_))
   refine ia rfl .no FxVeSa.se22 (.u rfl) (.u rfl) (fun _=>by omega) (fun _=>by omega) ?_
   refine lA rfl .no FxVeSa.ag67 (.u rfl) (fun _=>RdN.rowS .here (fun _ _=>Meta.len _) (gd_at (z:=Meta.zero) (k:=(P.length+e-1)) (by omega)) (by omega)) (fun _=>Meta.len _) ?_
   refine mv rfl .no (.u rfl) (mv rfl .no (.u rfl) (ia rfl .no FxVeSa.se22 (.u rfl) (.u rfl) (fun _=>by omega) (fun _=>by omega) ?_))
   refine lA rfl .no FxVeSa.ag67 (.u rfl) (fun _=>RdN.rowS .here (fun _ _=>Meta.len _) (gd_at (z:=Meta.zero) (k:=((P.length+e:Nat))) (by omega)) (by omega)) (fun _=>Meta.len _) ?_
   refine ia rfl .no FxVeSa.se22 (.u rfl) (.u rfl) (fun _=>by omega) (fun _=>by omega) ?_
   refine stS (k:=((P.length+e:Nat))) (u:=((ms (P++(A.take e++B.getD 0 z0 :: A.drop e)++R)).getD ((P.length+e-1)) Meta.zero)) rfl (.u rfl) (.u rfl) rfl FxVeSa.sz67 .here (fun _ _=>Meta.len _) (Meta.len _) (Meta.one _) (by omega) (by (try simp only [List.length_set]); omega) ?_
   refine ia rfl .no FxVeSa.se22 (.u rfl) (.u rfl) (fun _=>by omega) (fun _=>by omega) ?_
   refine stS (k:=(P.length+e-1)) (u:=((ms (P++(A.take e++B.getD 0 z0 :: A.drop e)++R)).getD (((P.length+e:Nat))) Meta.zero)) rfl (.u rfl) (.u rfl) rfl FxVeSa.sz67 .here (fun _ _=>Meta.len _) (Meta.len _) (Meta.one _) (by omega) (by (try simp only [List.length_set]); omega) ?_
   refine .nil (.blk (.code (Wk.rg [0,1,2] rfl rfl (mv rfl .no (.u rfl) (arn (((P.length+e-1):Nat):Int) rfl .no (.u rfl) (.u rfl) rfl (fun _=>by omega) (fun _=>wrap_i64 (by omega) (by omega)) ?_)))))
   refine asg rfl .no (.u rfl) (.nil (We.lpo (e-1) ?_ ?_ ?_ ?_ ?_))
   ·exact (ESub.cons rfl (evi (by omega)) (ESub.c rfl (ESub.c rfl ESub.nil)))
   ·exact (MSub.cons .here (by rw [sh_dn (by omega) (by omega) rfl rfl]) MSub.nil)
   ·first|omega|(dsimp only; omega)
   ·exact hGl3
   refine ⟨?_,?_⟩
   ·(try dsimp only)<;>(first|omega|rfl|assumption|(simp; done))
   (try dsimp only)<;>(first|omega|rfl|assumption|(simp; done))
  have c8k:=c8
  try simp only [qcA,qcC,qcB] at c8
  refine .exit (.xcode (.xlp (.xblk (.code (.ret (We.fin Tryd.results95 .nil (MSub.cons .here rfl MSub.nil) ?_))))))
  obtain rfl:e=q:=by omega
  exact ⟨_,put_dn hB1 e,srt_put hw sA f1 f2 (by omega),rfl,rfl⟩
 have c5k:=c5
 try simp only [qcA,qcC,qcB] at c5
 refine .skip (.code (.seq (Wk.rg [0,1,2,3,4,5,6] rfl rfl (mv rfl .no (.u rfl) (mv rfl .no (.u rfl) (arn (((P.length+(P.length+A.length+B.length)):Nat):Int) rfl .no (.u rfl) (.u rfl) rfl (fun _=>by omega) (fun _=>wrap_i64 (by omega) (by omega)) ?_))))))
 refine cw rfl .no FxVeSc.cv3_56 (.u rfl) (fun _=>wrap_u64 (by omega) (by omega)) ?_
 refine sr1 ((P.length+(P.length+A.length+B.length))) rfl .no (.u rfl) (.u rfl) (by first|rfl|omega) rfl (by decide) ?_
 refine cw rfl .no FxVeSc.cv56_3 (.u rfl) (fun _=>wrap_i64 (by omega) (by omega)) ?_
 refine asg rfl .no (.u rfl) (.nil (.code (.seq ?_)))
 obtain ⟨h,hh⟩ : ∃ h,(P.length+(P.length+A.length+B.length)) / 2=P.length+h:=⟨(A.length+B.length) / 2,by omega⟩
 have hh2:A.length+B.length=2*h∨A.length+B.length=2*h+1:=by omega
 rw [hh]
 refine Wk.rg [0,1,2,3] rfl rfl (mv rfl .no (.u rfl) (mv rfl .no (.u rfl) (arn ((((P.length+h)+(P.length+A.length)):Nat):Int) rfl .no (.u rfl) (.u rfl) rfl (fun _=>by omega) (fun _=>wrap_i64 (by omega) (by omega)) ?_)))
 refine asg rfl .no (.u rfl) (.nil (.code (.seq (Wk.rg [0,1] rfl rfl (asg rfl .no (.u rfl) (asg rfl .no (.u rfl) (.nil (.code (.seq (.seq (Wk.rg [0,1,2] rfl rfl (mv rfl .no (.u rfl) (mv rfl .no (.u rfl) (cp rfl .no (.u rfl) (.u rfl) rfl (.nil (.code (.cond rfl (fun c9=>?_) (fun c9=>?_))))))))))))))))))
 ·have c9k:=c9
  try simp only [qcA,qcC,qcB] at c9
  refine .seq (Wk.rg [0,1,2,3] rfl rfl (mv rfl .no (.u rfl) (mv rfl .no (.u rfl) (arn (((P.length+(h-B.length)):Nat):Int) rfl .no (.u rfl) (.u rfl) rfl (fun _=>by omega) (fun _=>wrap_i64 (by omega) (by omega)) ?_))))
  refine asg rfl .no (.u rfl) (.nil (.code (Wk.rg [0,1] rfl rfl (mv rfl .no (.u rfl) (asg rfl .no (.u rfl) (.nil (.code (.seq (Wk.rg [0,1,2] rfl rfl (mv rfl .no (.u rfl) (arn (((P.length+h+(P.length+A.length)-1):Nat):Int) rfl .no (.u rfl) (.u rfl) rfl (fun _=>by omega) (fun _=>wrap_i64 (by omega) (by omega)) ?_)))))))))))
  refine asg rfl .no (.u rfl) (.nil (.code (.seq (.block ?_))))
  refine Wk.lop (α:=Nat×Nat) (fun gh=>[(20,true,.int .i64 ((P.length+gh.1:Nat):Int)),(21,true,.int .i64 ((P.length+gh.2:Nat):Int))]) (fun _=>[])
   (fun gh Gl=>(h-B.length≤gh.1)∧(gh.1≤gh.2)∧(gh.2≤h)∧(gh.2≤A.length)∧(gh.1=h-B.length∨TL (ltv cv) (A.getD (gh.1-1) z0) (B.getD (h-gh.1) z0))∧((gh.2=h∨gh.2=A.length)∨TL (ltv cv) (B.getD (h-1-gh.2) z0) (A.getD gh.2 z0))) (fun gh=>gh.2-gh.1) (h-B.length,h) [(0,true,_),(1,true,_),(2,true,_),(3,true,_),(4,true,_),(18,true,_),(19,true,_),(22,true,_)] [_]
   (ESub.cons rfl (evi (by first|rfl|omega|(dsimp only; omega))) (ESub.cons rfl (evi (by first|rfl|omega|(dsimp only; omega))) (ESub.c rfl (ESub.c rfl (ESub.c rfl (ESub.c rfl (ESub.c rfl (ESub.c rfl (ESub.c rfl (ESub.c rfl ESub.nil))))))))))
   (MSub.cons .here rfl MSub.nil) ?_ ?_
  ·refine ⟨?_,?_,?_,?_,?_,?_⟩
   ·(try dsimp only)<;>(first|omega|rfl|assumption|(simp; done))
   ·(try dsimp only)<;>(first|omega|rfl|assumption|(simp; done))
   ·(try dsimp only)<;>(first|omega|rfl|assumption|(simp; done))
   ·(try dsimp only)<;>(first|omega|rfl|assumption|(simp; done))
   ·(try dsimp only)<;>(exact .inl (by omega))
   (try dsimp only)<;>(exact .inl (by omega))
  intro gh N4 Gl4 hN4 hGl4 hF4
  obtain ⟨s,r⟩:=gh; dsimp only at hF4 hN4 ⊢
  obtain ⟨h1,h2,h3,h4,f1,f2⟩:=hF4
  have hcm:=hcm.mono hGl4
  have ih:=ih.mono hGl4
  refine .seq (.seq (Wk.rg [0,1,2] rfl rfl (mv rfl .no (.u rfl) (mv rfl .no (.u rfl) (cp rfl .no (.u rfl) (.u rfl) rfl (.nil (.code (.cond rfl (fun c10=>?_) (fun c10=>?_)))))))))
  ·have c10k:=c10
   try simp only [qcA,qcC,qcB] at c10
   refine .skip (.code (.block (.seq (Wk.rg [0,1,2,3,4,5,6] rfl rfl (mv rfl .no (.u rfl) (mv rfl .no (.u rfl) (arn (((((P.length+s:Nat))+((P.length+r:Nat))):Nat):Int) rfl .no (.u rfl) (.u rfl) rfl (fun _=>by omega) (fun _=>wrap_i64 (by omega) (by omega)) ?_)))))))
   refine cw rfl .no FxVeSc.cv3_56 (.u rfl) (fun _=>wrap_u64 (by omega) (by omega)) ?_
   refine sr1 ((((P.length+s:Nat))+((P.length+r:Nat)))) rfl .no (.u rfl) (.u rfl) (by first|rfl|omega) rfl (by decide) ?_
   refine cw rfl .no FxVeSc.cv56_3 (.u rfl) (fun _=>wrap_i64 (by omega) (by omega)) ?_
   refine asg rfl .no (.u rfl) (.nil (.code (.seq ?_)))
   obtain ⟨d,hd⟩ : ∃ d,((P.length+s)+(P.length+r)) / 2=P.length+d:=⟨(s+r) / 2,by omega⟩
   have hdq:s≤d∧d<r:=by omega
   rw [hd]
   have hg:=seg_a (P:=P) (A:=A) (B:=B) (R:=R) (i:=d) (by omega)
   have hg0:=seg_b (P:=P) (A:=A) (B:=B) (R:=R) (i:=h-1-d) (by omega)
   refine wk_rv .here (by omega) ?_; intro bbR capR evR lcR; subst evR
   refine Wk.draw (mc:=⟨false,false⟩) [0,1,2,3,4,5,6,7,8,9,10,11,12,13] FxVeSa.mix (by kernel_rfl) ?_
   refine mv rfl .no (.u rfl) (mv rfl .no (.u rfl) (mv rfl .no (.u rfl) (mv rfl .no (.u rfl) (arn (((P.length+A.length+(h-1-d)):Nat):Int) rfl .no (.u rfl) (.u rfl) rfl (fun _=>by omega) (fun _=>wrap_i64 (by omega) (by omega)) ?_))))
   refine ia rfl .no FxVeSa.se22 (.u rfl) (.u rfl) (fun _=>by omega) (fun _=>by omega) ?_
   refine lA rfl .no FxVeSa.ag67 (.u rfl) (fun _=>RdN.rowS .here (fun _ _=>Meta.len _) (gd_at (z:=Meta.zero) (k:=(P.length+A.length+(h-1-d))) (by omega)) (by omega)) (fun _=>Meta.len _) ?_
   refine mv rfl .no (.u rfl) (mv rfl .no (.u rfl) (ia rfl .no FxVeSa.se22 (.u rfl) (.u rfl) (fun _=>by omega) (fun _=>by omega) ?_))
   refine lA rfl .no FxVeSa.ag67 (.u rfl) (fun _=>RdN.rowS .here (fun _ _=>Meta.len _) (gd_at (z:=Meta.zero) (k:=(P.length+d)) (by omega)) (by omega)) (fun _=>Meta.len _) ?_
   refine kf rfl .no (.u rfl) hf (Evc rfl (Evc rfl Evn)) (fun _=>hcm.ok _ (PM.le.refl _) _ _) ?_
   refine cp rfl .no (.u rfl) (.u rfl) rfl (nt rfl .no (.u rfl) (.nil (.code (.cond rfl (fun c11=>?_) (fun c11=>?_)))))
   ·have c11k:=c11
    try simp only [qcA,qcC,qcB] at c11
    have hyes:=ab_fore hw ht (i:=d) (j:=h-1-d) (by omega) (by omega) (by rw [← hg,←hg0]; assumption)
    refine Wk.rg [0,1,2] rfl rfl (mv rfl .no (.u rfl) (arn ((((P.length+d)+1):Nat):Int) rfl .no (.u rfl) (.u rfl) rfl (fun _=>by omega) (fun _=>wrap_i64 (by omega) (by omega)) ?_))
    refine asg rfl .no (.u rfl) (.nil (.blk (We.lpo (d+1,r) ?_ ?_ ?_ ?_ ?_)))
    ·exact (ESub.cons rfl (evi (by first|rfl|omega|(dsimp only; omega))) (ESub.cons rfl (evi (by first|rfl|omega|(dsimp only; omega))) (ESub.c rfl (ESub.c rfl (ESub.c rfl (ESub.c rfl (ESub.c rfl (ESub.c rfl (ESub.c rfl (ESub.c rfl ESub.nil))))))))))
    ·exact (MSub.cons .here rfl MSub.nil)
    ·first|omega|(dsimp only; omega)
    ·exact hGl4
    refine ⟨?_,?_,?_,?_,?_,?_⟩
    ·(try dsimp only)<;>(first|omega|rfl|assumption|(simp; done))
    ·(try dsimp only)<;>(first|omega|rfl|assumption|(simp; done))
    ·(try dsimp only)<;>(first|omega|rfl|assumption|(simp; done))
    ·(try dsimp only)<;>(first|omega|rfl|assumption|(simp; done))
    ·(try dsimp only)<;>(exact .inr (by rw [show d+1-1=d by omega,show h-(d+1)=h-1-d by omega]; exact hyes))
    (try dsimp only)<;>(exact f2)
   have c11k:=c11
   try simp only [qcA,qcC,qcB] at c11
   have hno:=ab_back hw ht (i:=d) (j:=h-1-d) (by omega) (by omega) (by rw [← hg,←hg0]; assumption)
   refine Wk.rg [0,1] rfl rfl (mv rfl .no (.u rfl) (asg rfl .no (.u rfl) (.nil (.blk (We.lpo (s,d) ?_ ?_ ?_ ?_ ?_)))))
   ·exact (ESub.cons rfl (evi (by first|rfl|omega|(dsimp only; omega))) (ESub.cons rfl (evi (by first|rfl|omega|(dsimp only; omega))) (ESub.c rfl (ESub.c rfl (ESub.c rfl (ESub.c rfl (ESub.c rfl (ESub.c rfl (ESub.c rfl (ESub.c rfl ESub.nil))))))))))
   ·exact (MSub.cons .here rfl MSub.nil)
   ·first|omega|(dsimp only; omega)
   ·exact hGl4
   refine ⟨?_,?_,?_,?_,?_,?_⟩
   ·(try dsimp only)<;>(first|omega|rfl|assumption|(simp; done))
   ·(try dsimp only)<;>(first|omega|rfl|assumption|(simp; done))
   ·(try dsimp only)<;>(first|omega|rfl|assumption|(simp; done))
   ·(try dsimp only)<;>(first|omega|rfl|assumption|(simp; done))
   ·(try dsimp only)<;>(exact f1)
   (try dsimp only)<;>(exact .inr hno)
  have c10k:=c10
  try simp only [qcA,qcC,qcB] at c10
  refine .exit (.xcode (.xlp (.xblk (.code (.seq ?_)))))
  obtain rfl:s=r:=by omega
  have hcut:=sym_cut hw sA sB h1 h3 h4 f1 f2
  refine Wk.rg [0,1,2,3] rfl rfl (mv rfl .no (.u rfl) (mv rfl .no (.u rfl) (arn (((P.length+A.length+(h-s)):Nat):Int) rfl .no (.u rfl) (.u rfl) rfl (fun _=>by omega) (fun _=>wrap_i64 (by omega) (by omega)) ?_)))
  refine asg rfl .no (.u rfl) (.nil (.code (.seq (.seq (Wk.rg [0,1,2,3,4,5,6,7] rfl rfl (mv rfl .no (.u rfl) (mv rfl .no (.u rfl) (cp rfl .no (.u rfl) (.u rfl) rfl (mv rfl .no (.u rfl) (mv rfl (.t rfl rfl) (.u rfl) (mv rfl (.t rfl rfl) (.u rfl) (cp rfl (.t rfl rfl) (.s rfl) (.s rfl) rfl (pkA rfl .no (.u rfl) (.s rfl) (.nil (.code (.cond rfl (fun c12=>?_) (fun c12=>?_)))))))))))))))))
  ·have c12k:=c12
   try simp only [qcA,qcC,qcB] at c12
   refine Wk.rg [0,1,2,3,4,5] rfl rfl (mv rfl .no (.u rfl) (mv rfl .no (.u rfl) (mv rfl .no (.u rfl) (mv rfl .no (.u rfl) (mv rfl .no (.u rfl) (ka rfl (.inr rfl) Fx.go101 (Evc rfl (Evc rfl (Evc rfl (Evc rfl (Evc rfl Evn))))) (mtk1 .here) (rotM_ok (ms (P++A.take s)) (ms (A.drop s)) (ms (B.take (h-s))) (ms (B.drop (h-s)++R)) _ _ _ _ _ _ (by simp only [ms_len,qlB]; omega) (by simp only [ms_len,qlB]; omega) (by simp only [ms_len,qlB]; omega) (by simp only [ms_len,qlB]; omega) (by simp only [ms_len,qlB]; omega) _ sym_in (by rw [hlen]; omega)) ?_))))))
   rintro _ G191 μ191 hG191 ⟨rfl,rfl⟩
   have hcm:=hcm.mono hG191
   have ih:=ih.mono hG191
   refine .nil (.code (.seq (.seq ?_)))
   rw [sym_rot (P:=P) (A:=A) (B:=B) (R:=R) (s:=s) (q:=h-s)]
   refine Wk.rg [0,1,2,3,4,5,6,7] rfl rfl (mv rfl .no (.u rfl) (mv rfl .no (.u rfl) (cp rfl .no (.u rfl) (.u rfl) rfl (mv rfl .no (.u rfl) (mv rfl (.t rfl rfl) (.u rfl) (mv rfl (.t rfl rfl) (.u rfl) (cp rfl (.t rfl rfl) (.s rfl) (.s rfl) rfl (pkA rfl .no (.u rfl) (.s rfl) (.nil (.code (.cond rfl (fun c13=>?_) (fun c13=>?_))))))))))))
   ·have c13k:=c13
    try simp only [qcA,qcC,qcB] at c13
    refine Wk.rg [0,1,2,3,4,5] rfl rfl (mv rfl .no (.u rfl) (mv rfl .no (.u rfl) (mv rfl .no (.u rfl) (mv rfl .no (.u rfl) (mv rfl .no (.u rfl) ?_)))))
    refine ka rfl (.inr rfl) Fx.go95 (Evc rfl (Evc rfl (Evc rfl (Evc rfl (Evc rfl Evn))))) (mtk1 .here) (ih.ok _ (PM.le.refl _) P (A.take s) (B.take (h-s)) (A.drop s++B.drop (h-s)++R) _ _ _ _ (by first|omega|(simp only [qlB]<;>omega)) (by first|omega|(simp only [qlB]<;>omega)) (by first|omega|(simp only [qlB]<;>omega)) (by first|omega|(simp only [qlB]<;>omega)) (by first|omega|(simp only [qlB]<;>omega)) (by first|omega|(simp only [qlB]<;>omega)) (srt_parts sA s).1 (srt_parts sB (h-s)).1 (fun x hx y hy=>ht x (List.mem_of_mem_take hx) y (List.mem_of_mem_take hy)) (by simp only [ms,List.map_append,List.append_assoc]) (by rw [ms_len]; simp only [qlB]; omega)) ?_
    rintro _ G205 μ205 hG205 ⟨S205,p205,s205,rfl,rfl⟩
    have l205:=p205.length_eq; simp only [qlB] at l205
    have hcm:=hcm.mono hG205
    have ih:=ih.mono hG205
    refine .nil (.code (.seq (Wk.rg [0,1,2,3,4,5,6,7] rfl rfl (mv rfl .no (.u rfl) (mv rfl .no (.u rfl) (cp rfl .no (.u rfl) (.u rfl) rfl (mv rfl .no (.u rfl) (mv rfl (.t rfl rfl) (.u rfl) (mv rfl (.t rfl rfl) (.u rfl) (cp rfl (.t rfl rfl) (.s rfl) (.s rfl) rfl (pkA rfl .no (.u rfl) (.s rfl) (.nil (.code (.cond rfl (fun c14=>?_) (fun c14=>?_)))))))))))))))
    ·have c14k:=c14
     try simp only [qcA,qcC,qcB] at c14
     refine Wk.rg [0,1,2,3,4,5] rfl rfl (mv rfl .no (.u rfl) (mv rfl .no (.u rfl) (mv rfl .no (.u rfl) (mv rfl .no (.u rfl) (mv rfl .no (.u rfl) ?_)))))
     refine ka rfl (.inr rfl) Fx.go95 (Evc rfl (Evc rfl (Evc rfl (Evc rfl (Evc rfl Evn))))) (mtk1 .here) (ih.ok _ (PM.le.refl _) (P++S205) (A.drop s) (B.drop (h-s)) R _ _ _ _ (by first|omega|(simp only [qlB]<;>omega)) (by first|omega|(simp only [qlB]<;>omega)) (by first|omega|(simp only [qlB]<;>omega)) (by first|omega|(simp only [qlB]<;>omega)) (by first|omega|(simp only [qlB]<;>omega)) (by first|omega|(simp only [qlB]<;>omega)) (srt_parts sA s).2.1 (srt_parts sB (h-s)).2.1 (fun x hx y hy=>ht x (List.mem_of_mem_drop hx) y (List.mem_of_mem_drop hy)) (by simp only [ms,List.map_append,List.append_assoc]) (by rw [ms_len]; simp only [qlB]; omega)) ?_
     rintro _ G219 μ219 hG219 ⟨S219,p219,s219,rfl,rfl⟩
     have l219:=p219.length_eq; simp only [qlB] at l219
     have hcm:=hcm.mono hG219
     have ih:=ih.mono hG219
     refine .nil (.nil (We.fin Tryd.results95 .nil (MSub.cons .here rfl MSub.nil) ?_))
     have hq1:s≤h:=by omega
     obtain ⟨a1,a2,_⟩:=srt_parts sA s
     obtain ⟨b1,b2,_⟩:=srt_parts sB (h-s)
     have p1:=p205; have s1:=s205
     have p2:=p219; have s2:=s219
     obtain ⟨q1,q2⟩:=sym_fin hcut p1 s1 p2 s2
     exact ⟨_,q1,q2,by simp only [ms,List.map_append,List.append_assoc],rfl⟩
    have c14k:=c14
    try simp only [qcA,qcC,qcB] at c14
    refine .skip (.nil (We.fin Tryd.results95 .nil (MSub.cons .here rfl MSub.nil) ?_))
    have hq1:s≤h:=by omega
    obtain ⟨a1,a2,_⟩:=srt_parts sA s
    obtain ⟨b1,b2,_⟩:=srt_parts sB (h-s)
    have p1:=p205; have s1:=s205
    have p2:=List.Perm.refl (A.drop s++B.drop (h-s))
    have s2:=half_srt a2 b2 (by simp only [List.length_drop]; omega)
    obtain ⟨q1,q2⟩:=sym_fin hcut p1 s1 p2 s2
    exact ⟨_,q1,q2,by simp only [ms,List.map_append,List.append_assoc],rfl⟩
   have c13k:=c13
   try simp only [qcA,qcC,qcB] at c13
   refine .skip (.code (.seq (Wk.rg [0,1,2,3,4,5,6,7] rfl rfl (mv rfl .no (.u rfl) (mv rfl .no (.u rfl) (cp rfl .no (.u rfl) (.u rfl) rfl (mv rfl .no (.u rfl) (mv rfl (.t rfl rfl) (.u rfl) (mv rfl (.t rfl rfl) (.u rfl) (cp rfl (.t rfl rfl) (.s rfl) (.s rfl) rfl (pkA rfl .no (.u rfl) (.s rfl) (.nil (.code (.cond rfl (fun c15=>?_) (fun c15=>?_)))))))))))))))
   ·have c15k:=c15
    try simp only [qcA,qcC,qcB] at c15
    refine Wk.rg [0,1,2,3,4,5] rfl rfl (mv rfl .no (.u rfl) (mv rfl .no (.u rfl) (mv rfl .no (.u rfl) (mv rfl .no (.u rfl) (mv rfl .no (.u rfl) ?_)))))
    refine ka rfl (.inr rfl) Fx.go95 (Evc rfl (Evc rfl (Evc rfl (Evc rfl (Evc rfl Evn))))) (mtk1 .here) (ih.ok _ (PM.le.refl _) (P++(A.take s++B.take (h-s))) (A.drop s) (B.drop (h-s)) R _ _ _ _ (by first|omega|(simp only [qlB]<;>omega)) (by first|omega|(simp only [qlB]<;>omega)) (by first|omega|(simp only [qlB]<;>omega)) (by first|omega|(simp only [qlB]<;>omega)) (by first|omega|(simp only [qlB]<;>omega)) (by first|omega|(simp only [qlB]<;>omega)) (srt_parts sA s).2.1 (srt_parts sB (h-s)).2.1 (fun x hx y hy=>ht x (List.mem_of_mem_drop hx) y (List.mem_of_mem_drop hy)) (by simp only [ms,List.map_append,List.append_assoc]) (by rw [ms_len]; simp only [qlB]; omega)) ?_
    rintro _ G219 μ219 hG219 ⟨S219,p219,s219,rfl,rfl⟩
    have l219:=p219.length_eq; simp only [qlB] at l219
    have hcm:=hcm.mono hG219
    have ih:=ih.mono hG219
    refine .nil (.nil (We.fin Tryd.results95 .nil (MSub.cons .here rfl MSub.nil) ?_))
    have hq1:s≤h:=by omega
    obtain ⟨a1,a2,_⟩:=srt_parts sA s
    obtain ⟨b1,b2,_⟩:=srt_parts sB (h-s)
    have p1:=List.Perm.refl (A.take s++B.take (h-s))
    have s1:=half_srt a1 b1 (by simp only [List.length_take]; omega)
    have p2:=p219; have s2:=s219
    obtain ⟨q1,q2⟩:=sym_fin hcut p1 s1 p2 s2
    exact ⟨_,q1,q2,by simp only [ms,List.map_append,List.append_assoc],rfl⟩
   have c15k:=c15
   try simp only [qcA,qcC,qcB] at c15
   refine .skip (.nil (We.fin Tryd.results95 .nil (MSub.cons .here rfl MSub.nil) ?_))
   have hq1:s≤h:=by omega
   obtain ⟨a1,a2,_⟩:=srt_parts sA s
   obtain ⟨b1,b2,_⟩:=srt_parts sB (h-s)
   have p1:=List.Perm.refl (A.take s++B.take (h-s))
   have s1:=half_srt a1 b1 (by simp only [List.length_take]; omega)
   have p2:=List.Perm.refl (A.drop s++B.drop (h-s))
   have s2:=half_srt a2 b2 (by simp only [List.length_drop]; omega)
   obtain ⟨q1,q2⟩:=sym_fin hcut p1 s1 p2 s2
   exact ⟨_,q1,q2,by simp only [ms,List.map_append,List.append_assoc],rfl⟩
  have c12k:=c12
  try simp only [qcA,qcC,qcB] at c12
  refine .skip (.code (.seq (.seq ?_)))
  rw [sym_norot (P:=P) (A:=A) (B:=B) (R:=R) (s:=s) (q:=h-s) (by omega)]
  refine Wk.rg [0,1,2,3,4,5,6,7] rfl rfl (mv rfl .no (.u rfl) (mv rfl .no (.u rfl) (cp rfl .no (.u rfl) (.u rfl) rfl (mv rfl .no (.u rfl) (mv rfl (.t rfl rfl) (.u rfl) (mv rfl (.t rfl rfl) (.u rfl) (cp rfl (.t rfl rfl) (.s rfl) (.s rfl) rfl (pkA rfl .no (.u rfl) (.s rfl) (.nil (.code (.cond rfl (fun c16=>?_) (fun c16=>?_))))))))))))
  ·have c16k:=c16
   try simp only [qcA,qcC,qcB] at c16
   refine Wk.rg [0,1,2,3,4,5] rfl rfl (mv rfl .no (.u rfl) (mv rfl .no (.u rfl) (mv rfl .no (.u rfl) (mv rfl .no (.u rfl) (mv rfl .no (.u rfl) ?_)))))
   refine ka rfl (.inr rfl) Fx.go95 (Evc rfl (Evc rfl (Evc rfl (Evc rfl (Evc rfl Evn))))) (mtk1 .here) (ih.ok _ (PM.le.refl _) P (A.take s) (B.take (h-s)) (A.drop s++B.drop (h-s)++R) _ _ _ _ (by first|omega|(simp only [qlB]<;>omega)) (by first|omega|(simp only [qlB]<;>omega)) (by first|omega|(simp only [qlB]<;>omega)) (by first|omega|(simp only [qlB]<;>omega)) (by first|omega|(simp only [qlB]<;>omega)) (by first|omega|(simp only [qlB]<;>omega)) (srt_parts sA s).1 (srt_parts sB (h-s)).1 (fun x hx y hy=>ht x (List.mem_of_mem_take hx) y (List.mem_of_mem_take hy)) (by simp only [ms,List.map_append,List.append_assoc]) (by rw [ms_len]; simp only [qlB]; omega)) ?_
   rintro _ G205 μ205 hG205 ⟨S205,p205,s205,rfl,rfl⟩
   have l205:=p205.length_eq; simp only [qlB] at l205
   have hcm:=hcm.mono hG205
   have ih:=ih.mono hG205
   refine .nil (.code (.seq (Wk.rg [0,1,2,3,4,5,6,7] rfl rfl (mv rfl .no (.u rfl) (mv rfl .no (.u rfl) (cp rfl .no (.u rfl) (.u rfl) rfl (mv rfl .no (.u rfl) (mv rfl (.t rfl rfl) (.u rfl) (mv rfl (.t rfl rfl) (.u rfl) (cp rfl (.t rfl rfl) (.s rfl) (.s rfl) rfl (pkA rfl .no (.u rfl) (.s rfl) (.nil (.code (.cond rfl (fun c17=>?_) (fun c17=>?_)))))))))))))))
   ·have c17k:=c17
    try simp only [qcA,qcC,qcB] at c17
    refine Wk.rg [0,1,2,3,4,5] rfl rfl (mv rfl .no (.u rfl) (mv rfl .no (.u rfl) (mv rfl .no (.u rfl) (mv rfl .no (.u rfl) (mv rfl .no (.u rfl) ?_)))))
    refine ka rfl (.inr rfl) Fx.go95 (Evc rfl (Evc rfl (Evc rfl (Evc rfl (Evc rfl Evn))))) (mtk1 .here) (ih.ok _ (PM.le.refl _) (P++S205) (A.drop s) (B.drop (h-s)) R _ _ _ _ (by first|omega|(simp only [qlB]<;>omega)) (by first|omega|(simp only [qlB]<;>omega)) (by first|omega|(simp only [qlB]<;>omega)) (by first|omega|(simp only [qlB]<;>omega)) (by first|omega|(simp only [qlB]<;>omega)) (by first|omega|(simp only [qlB]<;>omega)) (srt_parts sA s).2.1 (srt_parts sB (h-s)).2.1 (fun x hx y hy=>ht x (List.mem_of_mem_drop hx) y (List.mem_of_mem_drop hy)) (by simp only [ms,List.map_append,List.append_assoc]) (by rw [ms_len]; simp only [qlB]; omega)) ?_
    rintro _ G219 μ219 hG219 ⟨S219,p219,s219,rfl,rfl⟩
    have l219:=p219.length_eq; simp only [qlB] at l219
    have hcm:=hcm.mono hG219
    have ih:=ih.mono hG219
    refine .nil (.nil (We.fin Tryd.results95 .nil (MSub.cons .here rfl MSub.nil) ?_))
    have hq1:s≤h:=by omega
    obtain ⟨a1,a2,_⟩:=srt_parts sA s
    obtain ⟨b1,b2,_⟩:=srt_parts sB (h-s)
    have p1:=p205; have s1:=s205
    have p2:=p219; have s2:=s219
    obtain ⟨q1,q2⟩:=sym_fin hcut p1 s1 p2 s2
    exact ⟨_,q1,q2,by simp only [ms,List.map_append,List.append_assoc],rfl⟩
   have c17k:=c17
   try simp only [qcA,qcC,qcB] at c17
   refine .skip (.nil (We.fin Tryd.results95 .nil (MSub.cons .here rfl MSub.nil) ?_))
   have hq1:s≤h:=by omega
   obtain ⟨a1,a2,_⟩:=srt_parts sA s
   obtain ⟨b1,b2,_⟩:=srt_parts sB (h-s)
   have p1:=p205; have s1:=s205
   have p2:=List.Perm.refl (A.drop s++B.drop (h-s))
   have s2:=half_srt a2 b2 (by simp only [List.length_drop]; omega)
   obtain ⟨q1,q2⟩:=sym_fin hcut p1 s1 p2 s2
   exact ⟨_,q1,q2,by simp only [ms,List.map_append,List.append_assoc],rfl⟩
  have c16k:=c16
  try simp only [qcA,qcC,qcB] at c16
  refine .skip (.code (.seq (Wk.rg [0,1,2,3,4,5,6,7] rfl rfl (mv rfl .no (.u rfl) (mv rfl .no (.u rfl) (cp rfl .no (.u rfl) (.u rfl) rfl (mv rfl .no (.u rfl) (mv rfl (.t rfl rfl) (.u rfl) (mv rfl (.t rfl rfl) (.u rfl) (cp rfl (.t rfl rfl) (.s rfl) (.s rfl) rfl (pkA rfl .no (.u rfl) (.s rfl) (.nil (.code (.cond rfl (fun c18=>?_) (fun c18=>?_)))))))))))))))
  ·have c18k:=c18
   try simp only [qcA,qcC,qcB] at c18
   refine Wk.rg [0,1,2,3,4,5] rfl rfl (mv rfl .no (.u rfl) (mv rfl .no (.u rfl) (mv rfl .no (.u rfl) (mv rfl .no (.u rfl) (mv rfl .no (.u rfl) ?_)))))
   refine ka rfl (.inr rfl) Fx.go95 (Evc rfl (Evc rfl (Evc rfl (Evc rfl (Evc rfl Evn))))) (mtk1 .here) (ih.ok _ (PM.le.refl _) (P++(A.take s++B.take (h-s))) (A.drop s) (B.drop (h-s)) R _ _ _ _ (by first|omega|(simp only [qlB]<;>omega)) (by first|omega|(simp only [qlB]<;>omega)) (by first|omega|(simp only [qlB]<;>omega)) (by first|omega|(simp only [qlB]<;>omega)) (by first|omega|(simp only [qlB]<;>omega)) (by first|omega|(simp only [qlB]<;>omega)) (srt_parts sA s).2.1 (srt_parts sB (h-s)).2.1 (fun x hx y hy=>ht x (List.mem_of_mem_drop hx) y (List.mem_of_mem_drop hy)) (by simp only [ms,List.map_append,List.append_assoc]) (by rw [ms_len]; simp only [qlB]; omega)) ?_
   rintro _ G219 μ219 hG219 ⟨S219,p219,s219,rfl,rfl⟩
   have l219:=p219.length_eq; simp only [qlB] at l219
   have hcm:=hcm.mono hG219
   have ih:=ih.mono hG219
   refine .nil (.nil (We.fin Tryd.results95 .nil (MSub.cons .here rfl MSub.nil) ?_))
   have hq1:s≤h:=by omega
   obtain ⟨a1,a2,_⟩:=srt_parts sA s
   obtain ⟨b1,b2,_⟩:=srt_parts sB (h-s)
   have p1:=List.Perm.refl (A.take s++B.take (h-s))
   have s1:=half_srt a1 b1 (by simp only [List.length_take]; omega)
   have p2:=p219; have s2:=s219
   obtain ⟨q1,q2⟩:=sym_fin hcut p1 s1 p2 s2
   exact ⟨_,q1,q2,by simp only [ms,List.map_append,List.append_assoc],rfl⟩
  have c18k:=c18
  try simp only [qcA,qcC,qcB] at c18
  refine .skip (.nil (We.fin Tryd.results95 .nil (MSub.cons .here rfl MSub.nil) ?_))
  have hq1:s≤h:=by omega
  obtain ⟨a1,a2,_⟩:=srt_parts sA s
  obtain ⟨b1,b2,_⟩:=srt_parts sB (h-s)
  have p1:=List.Perm.refl (A.take s++B.take (h-s))
  have s1:=half_srt a1 b1 (by simp only [List.length_take]; omega)
  have p2:=List.Perm.refl (A.drop s++B.drop (h-s))
  have s2:=half_srt a2 b2 (by simp only [List.length_drop]; omega)
  obtain ⟨q1,q2⟩:=sym_fin hcut p1 s1 p2 s2
  exact ⟨_,q1,q2,by simp only [ms,List.map_append,List.append_assoc],rfl⟩
 have c9k:=c9
 try simp only [qcA,qcC,qcB] at c9
 refine .seq (Wk.rg [0,1] rfl rfl (mv rfl .no (.u rfl) (asg rfl .no (.u rfl) (.nil (.code (Wk.rg [0,1] rfl rfl (mv rfl .no (.u rfl) (asg rfl .no (.u rfl) (.nil (.code (.seq (Wk.rg [0,1,2] rfl rfl (mv rfl .no (.u rfl) (arn (((P.length+h+(P.length+A.length)-1):Nat):Int) rfl .no (.u rfl) (.u rfl) rfl (fun _=>by omega) (fun _=>wrap_i64 (by omega) (by omega)) ?_))))))))))))))
 refine asg rfl .no (.u rfl) (.nil (.code (.seq (.block ?_))))
 refine Wk.lop (α:=Nat×Nat) (fun gh=>[(20,true,.int .i64 ((P.length+gh.1:Nat):Int)),(21,true,.int .i64 ((P.length+gh.2:Nat):Int))]) (fun _=>[])
  (fun gh Gl=>(h-B.length≤gh.1)∧(gh.1≤gh.2)∧(gh.2≤h)∧(gh.2≤A.length)∧(gh.1=h-B.length∨TL (ltv cv) (A.getD (gh.1-1) z0) (B.getD (h-gh.1) z0))∧((gh.2=h∨gh.2=A.length)∨TL (ltv cv) (B.getD (h-1-gh.2) z0) (A.getD gh.2 z0))) (fun gh=>gh.2-gh.1) (0,A.length) [(0,true,_),(1,true,_),(2,true,_),(3,true,_),(4,true,_),(18,true,_),(19,true,_),(22,true,_)] [_]
  (ESub.cons rfl (evi (by first|rfl|omega|(dsimp only; omega))) (ESub.cons rfl (evi (by first|rfl|omega|(dsimp only; omega))) (ESub.c rfl (ESub.c rfl (ESub.c rfl (ESub.c rfl (ESub.c rfl (ESub.c rfl (ESub.c rfl (ESub.c rfl ESub.nil))))))))))
  (MSub.cons .here rfl MSub.nil) ?_ ?_
 ·refine ⟨?_,?_,?_,?_,?_,?_⟩
  ·(try dsimp only)<;>(first|omega|rfl|assumption|(simp; done))
  ·(try dsimp only)<;>(first|omega|rfl|assumption|(simp; done))
  ·(try dsimp only)<;>(first|omega|rfl|assumption|(simp; done))
  ·(try dsimp only)<;>(first|omega|rfl|assumption|(simp; done))
  ·(try dsimp only)<;>(exact .inl (by omega))
  (try dsimp only)<;>(exact .inl (by omega))
 intro gh N5 Gl5 hN5 hGl5 hF5
 obtain ⟨s,r⟩:=gh; dsimp only at hF5 hN5 ⊢
 obtain ⟨h1,h2,h3,h4,f1,f2⟩:=hF5
 have hcm:=hcm.mono hGl5
 have ih:=ih.mono hGl5
 refine .seq (.seq (Wk.rg [0,1,2] rfl rfl (mv rfl .no (.u rfl) (mv rfl .no (.u rfl) (cp rfl .no (.u rfl) (.u rfl) rfl (.nil (.code (.cond rfl (fun c19=>?_) (fun c19=>?_)))))))))
 ·have c19k:=c19
  try simp only [qcA,qcC,qcB] at c19
  refine .skip (.code (.block (.seq (Wk.rg [0,1,2,3,4,5,6] rfl rfl (mv rfl .no (.u rfl) (mv rfl .no (.u rfl) (arn (((((P.length+s:Nat))+((P.length+r:Nat))):Nat):Int) rfl .no (.u rfl) (.u rfl) rfl (fun _=>by omega) (fun _=>wrap_i64 (by omega) (by omega)) ?_)))))))
  refine cw rfl .no FxVeSc.cv3_56 (.u rfl) (fun _=>wrap_u64 (by omega) (by omega)) ?_
  refine sr1 ((((P.length+s:Nat))+((P.length+r:Nat)))) rfl .no (.u rfl) (.u rfl) (by first|rfl|omega) rfl (by decide) ?_
  refine cw rfl .no FxVeSc.cv56_3 (.u rfl) (fun _=>wrap_i64 (by omega) (by omega)) ?_
  refine asg rfl .no (.u rfl) (.nil (.code (.seq ?_)))
  obtain ⟨d,hd⟩ : ∃ d,((P.length+s)+(P.length+r)) / 2=P.length+d:=⟨(s+r) / 2,by omega⟩
  have hdq:s≤d∧d<r:=by omega
  rw [hd]
  have hg:=seg_a (P:=P) (A:=A) (B:=B) (R:=R) (i:=d) (by omega)
  have hg0:=seg_b (P:=P) (A:=A) (B:=B) (R:=R) (i:=h-1-d) (by omega)
  refine wk_rv .here (by omega) ?_; intro bbR capR evR lcR; subst evR
  refine Wk.draw (mc:=⟨false,false⟩) [0,1,2,3,4,5,6,7,8,9,10,11,12,13] FxVeSa.mix (by kernel_rfl) ?_
  refine mv rfl .no (.u rfl) (mv rfl .no (.u rfl) (mv rfl .no (.u rfl) (mv rfl .no (.u rfl) (arn (((P.length+A.length+(h-1-d)):Nat):Int) rfl .no (.u rfl) (.u rfl) rfl (fun _=>by omega) (fun _=>wrap_i64 (by omega) (by omega)) ?_))))
  refine ia rfl .no FxVeSa.se22 (.u rfl) (.u rfl) (fun _=>by omega) (fun _=>by omega) ?_
  refine lA rfl .no FxVeSa.ag67 (.u rfl) (fun _=>RdN.rowS .here (fun _ _=>Meta.len _) (gd_at (z:=Meta.zero) (k:=(P.length+A.length+(h-1-d))) (by omega)) (by omega)) (fun _=>Meta.len _) ?_
  refine mv rfl .no (.u rfl) (mv rfl .no (.u rfl) (ia rfl .no FxVeSa.se22 (.u rfl) (.u rfl) (fun _=>by omega) (fun _=>by omega) ?_))
  refine lA rfl .no FxVeSa.ag67 (.u rfl) (fun _=>RdN.rowS .here (fun _ _=>Meta.len _) (gd_at (z:=Meta.zero) (k:=(P.length+d)) (by omega)) (by omega)) (fun _=>Meta.len _) ?_
  refine kf rfl .no (.u rfl) hf (Evc rfl (Evc rfl Evn)) (fun _=>hcm.ok _ (PM.le.refl _) _ _) ?_
  refine cp rfl .no (.u rfl) (.u rfl) rfl (nt rfl .no (.u rfl) (.nil (.code (.cond rfl (fun c20=>?_) (fun c20=>?_)))))
  ·have c20k:=c20
   try simp only [qcA,qcC,qcB] at c20
   have hyes:=ab_fore hw ht (i:=d) (j:=h-1-d) (by omega) (by omega) (by rw [← hg,←hg0]; assumption)
   refine Wk.rg [0,1,2] rfl rfl (mv rfl .no (.u rfl) (arn ((((P.length+d)+1):Nat):Int) rfl .no (.u rfl) (.u rfl) rfl (fun _=>by omega) (fun _=>wrap_i64 (by omega) (by omega)) ?_))
   refine asg rfl .no (.u rfl) (.nil (.blk (We.lpo (d+1,r) ?_ ?_ ?_ ?_ ?_)))
   ·exact (ESub.cons rfl (evi (by first|rfl|omega|(dsimp only; omega))) (ESub.cons rfl (evi (by first|rfl|omega|(dsimp only; omega))) (ESub.c rfl (ESub.c rfl (ESub.c rfl (ESub.c rfl (ESub.c rfl (ESub.c rfl (ESub.c rfl (ESub.c rfl ESub.nil))))))))))
   ·exact (MSub.cons .here rfl MSub.nil)
   ·first|omega|(dsimp only; omega)
   ·exact hGl5
   refine ⟨?_,?_,?_,?_,?_,?_⟩
   ·(try dsimp only)<;>(first|omega|rfl|assumption|(simp; done))
   ·(try dsimp only)<;>(first|omega|rfl|assumption|(simp; done))
   ·(try dsimp only)<;>(first|omega|rfl|assumption|(simp; done))
   ·(try dsimp only)<;>(first|omega|rfl|assumption|(simp; done))
   ·(try dsimp only)<;>(exact .inr (by rw [show d+1-1=d by omega,show h-(d+1)=h-1-d by omega]; exact hyes))
   (try dsimp only)<;>(exact f2)
  have c20k:=c20
  try simp only [qcA,qcC,qcB] at c20
  have hno:=ab_back hw ht (i:=d) (j:=h-1-d) (by omega) (by omega) (by rw [← hg,←hg0]; assumption)
  refine Wk.rg [0,1] rfl rfl (mv rfl .no (.u rfl) (asg rfl .no (.u rfl) (.nil (.blk (We.lpo (s,d) ?_ ?_ ?_ ?_ ?_)))))
  ·exact (ESub.cons rfl (evi (by first|rfl|omega|(dsimp only; omega))) (ESub.cons rfl (evi (by first|rfl|omega|(dsimp only; omega))) (ESub.c rfl (ESub.c rfl (ESub.c rfl (ESub.c rfl (ESub.c rfl (ESub.c rfl (ESub.c rfl (ESub.c rfl ESub.nil))))))))))
  ·exact (MSub.cons .here rfl MSub.nil)
  ·first|omega|(dsimp only; omega)
  ·exact hGl5
  refine ⟨?_,?_,?_,?_,?_,?_⟩
  ·(try dsimp only)<;>(first|omega|rfl|assumption|(simp; done))
  ·(try dsimp only)<;>(first|omega|rfl|assumption|(simp; done))
  ·(try dsimp only)<;>(first|omega|rfl|assumption|(simp; done))
  ·(try dsimp only)<;>(first|omega|rfl|assumption|(simp; done))
  ·(try dsimp only)<;>(exact f1)
  (try dsimp only)<;>(exact .inr hno)
 have c19k:=c19
 try simp only [qcA,qcC,qcB] at c19
 refine .exit (.xcode (.xlp (.xblk (.code (.seq ?_)))))
 obtain rfl:s=r:=by omega
 have hcut:=sym_cut hw sA sB h1 h3 h4 f1 f2
 refine Wk.rg [0,1,2,3] rfl rfl (mv rfl .no (.u rfl) (mv rfl .no (.u rfl) (arn (((P.length+A.length+(h-s)):Nat):Int) rfl .no (.u rfl) (.u rfl) rfl (fun _=>by omega) (fun _=>wrap_i64 (by omega) (by omega)) ?_)))
 refine asg rfl .no (.u rfl) (.nil (.code (.seq (.seq (Wk.rg [0,1,2,3,4,5,6,7] rfl rfl (mv rfl .no (.u rfl) (mv rfl .no (.u rfl) (cp rfl .no (.u rfl) (.u rfl) rfl (mv rfl .no (.u rfl) (mv rfl (.t rfl rfl) (.u rfl) (mv rfl (.t rfl rfl) (.u rfl) (cp rfl (.t rfl rfl) (.s rfl) (.s rfl) rfl (pkA rfl .no (.u rfl) (.s rfl) (.nil (.code (.cond rfl (fun c21=>?_) (fun c21=>?_)))))))))))))))))
 ·have c21k:=c21
  try simp only [qcA,qcC,qcB] at c21
  refine Wk.rg [0,1,2,3,4,5] rfl rfl (mv rfl .no (.u rfl) (mv rfl .no (.u rfl) (mv rfl .no (.u rfl) (mv rfl .no (.u rfl) (mv rfl .no (.u rfl) (ka rfl (.inr rfl) Fx.go101 (Evc rfl (Evc rfl (Evc rfl (Evc rfl (Evc rfl Evn))))) (mtk1 .here) (rotM_ok (ms (P++A.take s)) (ms (A.drop s)) (ms (B.take (h-s))) (ms (B.drop (h-s)++R)) _ _ _ _ _ _ (by simp only [ms_len,qlB]; omega) (by simp only [ms_len,qlB]; omega) (by simp only [ms_len,qlB]; omega) (by simp only [ms_len,qlB]; omega) (by simp only [ms_len,qlB]; omega) _ sym_in (by rw [hlen]; omega)) ?_))))))
  rintro _ G191 μ191 hG191 ⟨rfl,rfl⟩
  have ih:=ih.mono hG191
  refine .nil (.code (.seq (.seq ?_)))
  rw [sym_rot (P:=P) (A:=A) (B:=B) (R:=R) (s:=s) (q:=h-s)]
  refine Wk.rg [0,1,2,3,4,5,6,7] rfl rfl (mv rfl .no (.u rfl) (mv rfl .no (.u rfl) (cp rfl .no (.u rfl) (.u rfl) rfl (mv rfl .no (.u rfl) (mv rfl (.t rfl rfl) (.u rfl) (mv rfl (.t rfl rfl) (.u rfl) (cp rfl (.t rfl rfl) (.s rfl) (.s rfl) rfl (pkA rfl .no (.u rfl) (.s rfl) (.nil (.code (.cond rfl (fun c22=>?_) (fun c22=>?_))))))))))))
  ·have c22k:=c22
   try simp only [qcA,qcC,qcB] at c22
   refine Wk.rg [0,1,2,3,4,5] rfl rfl (mv rfl .no (.u rfl) (mv rfl .no (.u rfl) (mv rfl .no (.u rfl) (mv rfl .no (.u rfl) (mv rfl .no (.u rfl) ?_)))))
   refine ka rfl (.inr rfl) Fx.go95 (Evc rfl (Evc rfl (Evc rfl (Evc rfl (Evc rfl Evn))))) (mtk1 .here) (ih.ok _ (PM.le.refl _) P (A.take s) (B.take (h-s)) (A.drop s++B.drop (h-s)++R) _ _ _ _ (by first|omega|(simp only [qlB]<;>omega)) (by first|omega|(simp only [qlB]<;>omega)) (by first|omega|(simp only [qlB]<;>omega)) (by first|omega|(simp only [qlB]<;>omega)) (by first|omega|(simp only [qlB]<;>omega)) (by first|omega|(simp only [qlB]<;>omega)) (srt_parts sA s).1 (srt_parts sB (h-s)).1 (fun x hx y hy=>ht x (List.mem_of_mem_take hx) y (List.mem_of_mem_take hy)) (by simp only [ms,List.map_append,List.append_assoc]) (by rw [ms_len]; simp only [qlB]; omega)) ?_
   rintro _ G205 μ205 hG205 ⟨S205,p205,s205,rfl,rfl⟩
   have l205:=p205.length_eq; simp only [qlB] at l205
   have ih:=ih.mono hG205
   refine .nil (.code (.seq (Wk.rg [0,1,2,3,4,5,6,7] rfl rfl (mv rfl .no (.u rfl) (mv rfl .no (.u rfl) (cp rfl .no (.u rfl) (.u rfl) rfl (mv rfl .no (.u rfl) (mv rfl (.t rfl rfl) (.u rfl) (mv rfl (.t rfl rfl) (.u rfl) (cp rfl (.t rfl rfl) (.s rfl) (.s rfl) rfl (pkA rfl .no (.u rfl) (.s rfl) (.nil (.code (.cond rfl (fun c23=>?_) (fun c23=>?_)))))))))))))))
   ·have c23k:=c23
    try simp only [qcA,qcC,qcB] at c23
    refine Wk.rg [0,1,2,3,4,5] rfl rfl (mv rfl .no (.u rfl) (mv rfl .no (.u rfl) (mv rfl .no (.u rfl) (mv rfl .no (.u rfl) (mv rfl .no (.u rfl) ?_)))))
    refine ka rfl (.inr rfl) Fx.go95 (Evc rfl (Evc rfl (Evc rfl (Evc rfl (Evc rfl Evn))))) (mtk1 .here) (ih.ok _ (PM.le.refl _) (P++S205) (A.drop s) (B.drop (h-s)) R _ _ _ _ (by first|omega|(simp only [qlB]<;>omega)) (by first|omega|(simp only [qlB]<;>omega)) (by first|omega|(simp only [qlB]<;>omega)) (by first|omega|(simp only [qlB]<;>omega)) (by first|omega|(simp only [qlB]<;>omega)) (by first|omega|(simp only [qlB]<;>omega)) (srt_parts sA s).2.1 (srt_parts sB (h-s)).2.1 (fun x hx y hy=>ht x (List.mem_of_mem_drop hx) y (List.mem_of_mem_drop hy)) (by simp only [ms,List.map_append,List.append_assoc]) (by rw [ms_len]; simp only [qlB]; omega)) ?_
    rintro _ G219 μ219 hG219 ⟨S219,p219,s219,rfl,rfl⟩
    have l219:=p219.length_eq; simp only [qlB] at l219
    have ih:=ih.mono hG219
    refine .nil (.nil (We.fin Tryd.results95 .nil (MSub.cons .here rfl MSub.nil) ?_))
    have hq1:s≤h:=by omega
    obtain ⟨a1,a2,_⟩:=srt_parts sA s
    obtain ⟨b1,b2,_⟩:=srt_parts sB (h-s)
    have p1:=p205; have s1:=s205
    have p2:=p219; have s2:=s219
    obtain ⟨q1,q2⟩:=sym_fin hcut p1 s1 p2 s2
    exact ⟨_,q1,q2,by simp only [ms,List.map_append,List.append_assoc],rfl⟩
   have c23k:=c23
   try simp only [qcA,qcC,qcB] at c23
   refine .skip (.nil (We.fin Tryd.results95 .nil (MSub.cons .here rfl MSub.nil) ?_))
   have hq1:s≤h:=by omega
   obtain ⟨a1,a2,_⟩:=srt_parts sA s
   obtain ⟨b1,b2,_⟩:=srt_parts sB (h-s)
   have p1:=p205; have s1:=s205
   have p2:=List.Perm.refl (A.drop s++B.drop (h-s))
   have s2:=half_srt a2 b2 (by simp only [List.length_drop]; omega)
   obtain ⟨q1,q2⟩:=sym_fin hcut p1 s1 p2 s2
   exact ⟨_,q1,q2,by simp only [ms,List.map_append,List.append_assoc],rfl⟩
  have c22k:=c22
  try simp only [qcA,qcC,qcB] at c22
  refine .skip (.code (.seq (Wk.rg [0,1,2,3,4,5,6,7] rfl rfl (mv rfl .no (.u rfl) (mv rfl .no (.u rfl) (cp rfl .no (.u rfl) (.u rfl) rfl (mv rfl .no (.u rfl) (mv rfl (.t rfl rfl) (.u rfl) (mv rfl (.t rfl rfl) (.u rfl) (cp rfl (.t rfl rfl) (.s rfl) (.s rfl) rfl (pkA rfl .no (.u rfl) (.s rfl) (.nil (.code (.cond rfl (fun c24=>?_) (fun c24=>?_)))))))))))))))
  ·have c24k:=c24
   try simp only [qcA,qcC,qcB] at c24
   refine Wk.rg [0,1,2,3,4,5] rfl rfl (mv rfl .no (.u rfl) (mv rfl .no (.u rfl) (mv rfl .no (.u rfl) (mv rfl .no (.u rfl) (mv rfl .no (.u rfl) ?_)))))
   refine ka rfl (.inr rfl) Fx.go95 (Evc rfl (Evc rfl (Evc rfl (Evc rfl (Evc rfl Evn))))) (mtk1 .here) (ih.ok _ (PM.le.refl _) (P++(A.take s++B.take (h-s))) (A.drop s) (B.drop (h-s)) R _ _ _ _ (by first|omega|(simp only [qlB]<;>omega)) (by first|omega|(simp only [qlB]<;>omega)) (by first|omega|(simp only [qlB]<;>omega)) (by first|omega|(simp only [qlB]<;>omega)) (by first|omega|(simp only [qlB]<;>omega)) (by first|omega|(simp only [qlB]<;>omega)) (srt_parts sA s).2.1 (srt_parts sB (h-s)).2.1 (fun x hx y hy=>ht x (List.mem_of_mem_drop hx) y (List.mem_of_mem_drop hy)) (by simp only [ms,List.map_append,List.append_assoc]) (by rw [ms_len]; simp only [qlB]; omega)) ?_
   rintro _ G219 μ219 hG219 ⟨S219,p219,s219,rfl,rfl⟩
   have l219:=p219.length_eq; simp only [qlB] at l219
   have ih:=ih.mono hG219
   refine .nil (.nil (We.fin Tryd.results95 .nil (MSub.cons .here rfl MSub.nil) ?_))
   have hq1:s≤h:=by omega
   obtain ⟨a1,a2,_⟩:=srt_parts sA s
   obtain ⟨b1,b2,_⟩:=srt_parts sB (h-s)
   have p1:=List.Perm.refl (A.take s++B.take (h-s))
   have s1:=half_srt a1 b1 (by simp only [List.length_take]; omega)
   have p2:=p219; have s2:=s219
   obtain ⟨q1,q2⟩:=sym_fin hcut p1 s1 p2 s2
   exact ⟨_,q1,q2,by simp only [ms,List.map_append,List.append_assoc],rfl⟩
  have c24k:=c24
  try simp only [qcA,qcC,qcB] at c24
  refine .skip (.nil (We.fin Tryd.results95 .nil (MSub.cons .here rfl MSub.nil) ?_))
  have hq1:s≤h:=by omega
  obtain ⟨a1,a2,_⟩:=srt_parts sA s
  obtain ⟨b1,b2,_⟩:=srt_parts sB (h-s)
  have p1:=List.Perm.refl (A.take s++B.take (h-s))
  have s1:=half_srt a1 b1 (by simp only [List.length_take]; omega)
  have p2:=List.Perm.refl (A.drop s++B.drop (h-s))
  have s2:=half_srt a2 b2 (by simp only [List.length_drop]; omega)
  obtain ⟨q1,q2⟩:=sym_fin hcut p1 s1 p2 s2
  exact ⟨_,q1,q2,by simp only [ms,List.map_append,List.append_assoc],rfl⟩
 have c21k:=c21
 try simp only [qcA,qcC,qcB] at c21
 refine .skip (.code (.seq (.seq ?_)))
 rw [sym_norot (P:=P) (A:=A) (B:=B) (R:=R) (s:=s) (q:=h-s) (by omega)]
 refine Wk.rg [0,1,2,3,4,5,6,7] rfl rfl (mv rfl .no (.u rfl) (mv rfl .no (.u rfl) (cp rfl .no (.u rfl) (.u rfl) rfl (mv rfl .no (.u rfl) (mv rfl (.t rfl rfl) (.u rfl) (mv rfl (.t rfl rfl) (.u rfl) (cp rfl (.t rfl rfl) (.s rfl) (.s rfl) rfl (pkA rfl .no (.u rfl) (.s rfl) (.nil (.code (.cond rfl (fun c25=>?_) (fun c25=>?_))))))))))))
 ·have c25k:=c25
  try simp only [qcA,qcC,qcB] at c25
  refine Wk.rg [0,1,2,3,4,5] rfl rfl (mv rfl .no (.u rfl) (mv rfl .no (.u rfl) (mv rfl .no (.u rfl) (mv rfl .no (.u rfl) (mv rfl .no (.u rfl) ?_)))))
  refine ka rfl (.inr rfl) Fx.go95 (Evc rfl (Evc rfl (Evc rfl (Evc rfl (Evc rfl Evn))))) (mtk1 .here) (ih.ok _ (PM.le.refl _) P (A.take s) (B.take (h-s)) (A.drop s++B.drop (h-s)++R) _ _ _ _ (by first|omega|(simp only [qlB]<;>omega)) (by first|omega|(simp only [qlB]<;>omega)) (by first|omega|(simp only [qlB]<;>omega)) (by first|omega|(simp only [qlB]<;>omega)) (by first|omega|(simp only [qlB]<;>omega)) (by first|omega|(simp only [qlB]<;>omega)) (srt_parts sA s).1 (srt_parts sB (h-s)).1 (fun x hx y hy=>ht x (List.mem_of_mem_take hx) y (List.mem_of_mem_take hy)) (by simp only [ms,List.map_append,List.append_assoc]) (by rw [ms_len]; simp only [qlB]; omega)) ?_
  rintro _ G205 μ205 hG205 ⟨S205,p205,s205,rfl,rfl⟩
  have l205:=p205.length_eq; simp only [qlB] at l205
  have ih:=ih.mono hG205
  refine .nil (.code (.seq (Wk.rg [0,1,2,3,4,5,6,7] rfl rfl (mv rfl .no (.u rfl) (mv rfl .no (.u rfl) (cp rfl .no (.u rfl) (.u rfl) rfl (mv rfl .no (.u rfl) (mv rfl (.t rfl rfl) (.u rfl) (mv rfl (.t rfl rfl) (.u rfl) (cp rfl (.t rfl rfl) (.s rfl) (.s rfl) rfl (pkA rfl .no (.u rfl) (.s rfl) (.nil (.code (.cond rfl (fun c26=>?_) (fun c26=>?_)))))))))))))))
  ·have c26k:=c26
   try simp only [qcA,qcC,qcB] at c26
   refine Wk.rg [0,1,2,3,4,5] rfl rfl (mv rfl .no (.u rfl) (mv rfl .no (.u rfl) (mv rfl .no (.u rfl) (mv rfl .no (.u rfl) (mv rfl .no (.u rfl) ?_)))))
   refine ka rfl (.inr rfl) Fx.go95 (Evc rfl (Evc rfl (Evc rfl (Evc rfl (Evc rfl Evn))))) (mtk1 .here) (ih.ok _ (PM.le.refl _) (P++S205) (A.drop s) (B.drop (h-s)) R _ _ _ _ (by first|omega|(simp only [qlB]<;>omega)) (by first|omega|(simp only [qlB]<;>omega)) (by first|omega|(simp only [qlB]<;>omega)) (by first|omega|(simp only [qlB]<;>omega)) (by first|omega|(simp only [qlB]<;>omega)) (by first|omega|(simp only [qlB]<;>omega)) (srt_parts sA s).2.1 (srt_parts sB (h-s)).2.1 (fun x hx y hy=>ht x (List.mem_of_mem_drop hx) y (List.mem_of_mem_drop hy)) (by simp only [ms,List.map_append,List.append_assoc]) (by rw [ms_len]; simp only [qlB]; omega)) ?_
   rintro _ G219 μ219 hG219 ⟨S219,p219,s219,rfl,rfl⟩
   have l219:=p219.length_eq; simp only [qlB] at l219
   have ih:=ih.mono hG219
   refine .nil (.nil (We.fin Tryd.results95 .nil (MSub.cons .here rfl MSub.nil) ?_))
   have hq1:s≤h:=by omega
   obtain ⟨a1,a2,_⟩:=srt_parts sA s
   obtain ⟨b1,b2,_⟩:=srt_parts sB (h-s)
   have p1:=p205; have s1:=s205
   have p2:=p219; have s2:=s219
   obtain ⟨q1,q2⟩:=sym_fin hcut p1 s1 p2 s2
   exact ⟨_,q1,q2,by simp only [ms,List.map_append,List.append_assoc],rfl⟩
  have c26k:=c26
  try simp only [qcA,qcC,qcB] at c26
  refine .skip (.nil (We.fin Tryd.results95 .nil (MSub.cons .here rfl MSub.nil) ?_))
  have hq1:s≤h:=by omega
  obtain ⟨a1,a2,_⟩:=srt_parts sA s
  obtain ⟨b1,b2,_⟩:=srt_parts sB (h-s)
  have p1:=p205; have s1:=s205
  have p2:=List.Perm.refl (A.drop s++B.drop (h-s))
  have s2:=half_srt a2 b2 (by simp only [List.length_drop]; omega)
  obtain ⟨q1,q2⟩:=sym_fin hcut p1 s1 p2 s2
  exact ⟨_,q1,q2,by simp only [ms,List.map_append,List.append_assoc],rfl⟩
 have c25k:=c25
 try simp only [qcA,qcC,qcB] at c25
 refine .skip (.code (.seq (Wk.rg [0,1,2,3,4,5,6,7] rfl rfl (mv rfl .no (.u rfl) (mv rfl .no (.u rfl) (cp rfl .no (.u rfl) (.u rfl) rfl (mv rfl .no (.u rfl) (mv rfl (.t rfl rfl) (.u rfl) (mv rfl (.t rfl rfl) (.u rfl) (cp rfl (.t rfl rfl) (.s rfl) (.s rfl) rfl (pkA rfl .no (.u rfl) (.s rfl) (.nil (.code (.cond rfl (fun c27=>?_) (fun c27=>?_)))))))))))))))
 ·have c27k:=c27
  try simp only [qcA,qcC,qcB] at c27
  refine Wk.rg [0,1,2,3,4,5] rfl rfl (mv rfl .no (.u rfl) (mv rfl .no (.u rfl) (mv rfl .no (.u rfl) (mv rfl .no (.u rfl) (mv rfl .no (.u rfl) ?_)))))
  refine ka rfl (.inr rfl) Fx.go95 (Evc rfl (Evc rfl (Evc rfl (Evc rfl (Evc rfl Evn))))) (mtk1 .here) (ih.ok _ (PM.le.refl _) (P++(A.take s++B.take (h-s))) (A.drop s) (B.drop (h-s)) R _ _ _ _ (by first|omega|(simp only [qlB]<;>omega)) (by first|omega|(simp only [qlB]<;>omega)) (by first|omega|(simp only [qlB]<;>omega)) (by first|omega|(simp only [qlB]<;>omega)) (by first|omega|(simp only [qlB]<;>omega)) (by first|omega|(simp only [qlB]<;>omega)) (srt_parts sA s).2.1 (srt_parts sB (h-s)).2.1 (fun x hx y hy=>ht x (List.mem_of_mem_drop hx) y (List.mem_of_mem_drop hy)) (by simp only [ms,List.map_append,List.append_assoc]) (by rw [ms_len]; simp only [qlB]; omega)) ?_
  rintro _ G219 μ219 hG219 ⟨S219,p219,s219,rfl,rfl⟩
  have l219:=p219.length_eq; simp only [qlB] at l219
  refine .nil (.nil (We.fin Tryd.results95 .nil (MSub.cons .here rfl MSub.nil) ?_))
  have hq1:s≤h:=by omega
  obtain ⟨a1,a2,_⟩:=srt_parts sA s
  obtain ⟨b1,b2,_⟩:=srt_parts sB (h-s)
  have p1:=List.Perm.refl (A.take s++B.take (h-s))
  have s1:=half_srt a1 b1 (by simp only [List.length_take]; omega)
  have p2:=p219; have s2:=s219
  obtain ⟨q1,q2⟩:=sym_fin hcut p1 s1 p2 s2
  exact ⟨_,q1,q2,by simp only [ms,List.map_append,List.append_assoc],rfl⟩
 have c27k:=c27
 try simp only [qcA,qcC,qcB] at c27
 refine .skip (.nil (We.fin Tryd.results95 .nil (MSub.cons .here rfl MSub.nil) ?_))
 have hq1:s≤h:=by omega
 obtain ⟨a1,a2,_⟩:=srt_parts sA s
 obtain ⟨b1,b2,_⟩:=srt_parts sB (h-s)
 have p1:=List.Perm.refl (A.take s++B.take (h-s))
 have s1:=half_srt a1 b1 (by simp only [List.length_take]; omega)
 have p2:=List.Perm.refl (A.drop s++B.drop (h-s))
 have s2:=half_srt a2 b2 (by simp only [List.length_drop]; omega)
 obtain ⟨q1,q2⟩:=sym_fin hcut p1 s1 p2 s2
 exact ⟨_,q1,q2,by simp only [ms,List.map_append,List.append_assoc],rfl⟩
namespace FxVeSd
theorem sn22:(slE Tryd.prog 22).isSome=true:=by kernel_rfl
end FxVeSd
namespace Fx
theorem go94:goFn Tryd.prog 94=true:=by kernel_rfl
theorem go76:goFn Tryd.prog 76=true:=by kernel_rfl
end Fx
theorem symI {v:Value} {f:Nat} {vc:List Value} {cv:Meta→Meta→Int} {G:PM} (hf:goFn Tryd.prog f=true) (hcm:CmpR Tryd.prog f vc cv G) (hw:Wk0 (ltv cv)):∀ N,SymI v f vc cv N G
 | 0=>⟨fun G' hle P A B R a m b xs hN=>absurd hN (Nat.not_lt_zero _)⟩
 | N+1=>⟨fun G' hle P A B R a m b xs hN ha hm hb hA hB sA sB ht hx hl =>
   symM_step P A B R v a m b f hf vc cv G' (hcm.mono hle) hw ha hm hb hA hB sA sB ht xs hx hl ⟨fun G2 h2 P' A' B' R' a' m' b' xs' hN'=>(symI hf hcm hw N).ok G2 (hle.trans h2) P' A' B' R' a' m' b' xs' (by omega)⟩⟩
theorem symM_ok (P A B R:List TM) (v:Value) (a m b:Int) (f:Nat) (hf:goFn Tryd.prog f=true) (vc:List Value) (cv:Meta→Meta→Int) (G:PM) (hcm:CmpR Tryd.prog f vc cv G) (hw:Wk0 (ltv cv)) (ha:a=P.length) (hm:m=((P.length+A.length:Nat):Int)) (hb:b=((P.length+A.length+B.length:Nat):Int)) (hA:0<A.length) (hB:0<B.length) (sA:Srt (ltv cv) A) (sB:Srt (ltv cv) B) (ht:∀ x∈A,∀ y∈B,x.2<y.2) (xs:List Meta) (hx:xs=ms (P++A++B++R)) (hl:xs.length≤1000000000) :
  Ct Tryd.prog 95 #[v,.int .i64 a,.int .i64 m,.int .i64 b,.func (.func f) #[] vc.toArray] G [rS 40 Meta.cells v 67 xs] (fun _ μ' u=>∃ S',S'.Perm (A++B)∧Srt (ltv cv) S'∧μ'=[rS 40 Meta.cells v 67 (ms (P++S'++R))]∧u=.tuple #[]):=(symI hf hcm hw (A.length+B.length+1)).ok G (PM.le.refl G) P A B R a m b xs (by omega) ha hm hb hA hB sA sB ht hx hl
set_option maxHeartbeats 1000000 in
theorem stb_ok (xs:List Meta) (v:Value) (n:Int) (f:Nat) (hf:goFn Tryd.prog f=true) (vc:List Value) (cv:Meta→Meta→Int) (G:PM) (hcm:CmpR Tryd.prog f vc cv G) (hw:Wk0 (ltv cv)) (hn:n=xs.length) (hl:xs.length≤500000000):Ct Tryd.prog 76 ([v,.int .i64 n,.func (.func f) #[] vc.toArray]:List Value).toArray G [rS 40 Meta.cells v 67 xs] (fun _ μ' u=>μ'=[rS 40 Meta.cells v 67 (sortS (ltv cv) xs)]∧u=.tuple #[]):=by
 refine Ct.of Tryd.func76 rfl Tryd.ntmps76 rfl fun w0 hs0=>?_
 subst hn; have hT0:=tags_srt xs; have hT0l:(xs.zipIdx 0).length=xs.length:=List.length_zipIdx
 refine .seq (Wk.rg [0] rfl rfl (asg rfl .no (.u rfl) (.nil (.code (.seq (Wk.rg [0,1,2] rfl rfl (mv rfl .no (.u rfl) (asg rfl .no (.u rfl) (asg rfl .no (.u rfl) (.nil (.code (.seq (.block ?_)))))))))))))
 refine Wk.lop (α:=List TM×List TM×List TM) (fun gh=>[(7,true,.int .i64 (gh.1.length:Int)),(8,true,.int .i64 ((gh.1.length+20:Nat):Int))]) (fun gh=>[rS 40 Meta.cells v 67 (ms (gh.1++gh.2.2))])
  (fun gh Gl=>(∀ r ro,Ck (ltv cv) 20 r ro→Ck (ltv cv) 20 (gh.1++r) (gh.2.1++ro))∧(gh.2.1++gh.2.2=(xs.zipIdx 0))∧(gh.1.length=gh.2.1.length)) (fun gh=>gh.2.2.length) ([],[],(xs.zipIdx 0)) [(0,true,_),(1,true,_),(2,true,_),(6,true,_)] []
  (ESub.cons rfl (by first|rfl|exact evi (by omega)) (ESub.cons rfl (by first|rfl|exact evi (by omega)) (ESub.c rfl (ESub.c rfl (ESub.c rfl (ESub.c rfl ESub.nil))))))
  (MSub.cons .here (by rw [List.nil_append,ms_tags]) MSub.nil) ?_ ?_
 ·refine ⟨?_,?_,?_⟩
  ·(try dsimp only)<;>(exact fun r ro h=>h)
  ·(try dsimp only)<;>(rfl)
  (try dsimp only)<;>(rfl)
 intro gh N0 Gl0 hN0 hGl0 hF0
 obtain ⟨D,DO,T⟩:=gh; dsimp only at hF0 hN0 ⊢
 obtain ⟨hD,hT,hDl⟩:=hF0
 have hcm:=hcm.mono hGl0
 have hTl:=congrArg List.length hT; rw [List.length_append,hT0l] at hTl
 refine .seq (.seq (Wk.rg [0,1,2] rfl rfl (mv rfl .no (.u rfl) (mv rfl .no (.u rfl) (cp rfl .no (.u rfl) (.u rfl) rfl (.nil (.code (.cond rfl (fun c1=>?_) (fun c1=>?_)))))))))
 ·have c1k:=c1
  try simp only [qcA,qcC,qcB] at c1
  refine .skip (.code (.block (.seq (Wk.rg [0,1,2,3,4] rfl rfl (mv rfl .no (.u rfl) (mv rfl .no (.u rfl) (mv rfl .no (.u rfl) (mv rfl .no (.u rfl) ?_))))))))
  refine ka rfl (.inr rfl) Fx.go94 (Evc rfl (Evc rfl (Evc rfl (Evc rfl Evn)))) (mtk1 .here) (ins_ok D (T.take 20) (T.drop 20) _ _ _ f hf vc cv _ hcm hw (by first|omega|(simp only [qlB,ms_len,List.length_nil]<;>omega)) (by first|omega|(simp only [qlB,ms_len,List.length_nil]<;>omega)) (tag_sub (X:=DO) (Z:=T.drop 20) hT0 (by rw [List.take_append_drop]; exact hT)) _ (by rw [List.append_assoc,List.take_append_drop]) (by first|omega|(simp only [qlB,ms_len,List.length_nil]<;>omega))) ?_
  rintro _ G18 μ18 hG18 ⟨S',pS,sS,rfl,rfl⟩
  have lS:=pS.length_eq; (try simp only [List.length_take] at lS)
  have hcm:=hcm.mono hG18
  refine .nil (.code (.seq (Wk.rg [0,1] rfl rfl (mv rfl .no (.u rfl) (asg rfl .no (.u rfl) (.nil (.code (Wk.rg [0,1,2,3] rfl rfl (mv rfl .no (.u rfl) (mv rfl .no (.u rfl) (arn (((((D.length+20:Nat))+20):Nat):Int) rfl .no (.u rfl) (.u rfl) rfl (fun _=>by omega) (fun _=>wrap_i64 (by omega) (by omega)) ?_)))))))))))
  refine asg rfl .no (.u rfl) (.nil (.blk (We.lpo (D++S',DO++T.take 20,T.drop 20) ?_ ?_ ?_ ?_ ?_)))
  ·exact (ESub.cons rfl (evi (by first|omega|(simp only [qlB,ms_len,List.length_nil]<;>omega))) (ESub.cons rfl (evi (by first|omega|(simp only [qlB,ms_len,List.length_nil]<;>omega))) (ESub.c rfl (ESub.c rfl (ESub.c rfl (ESub.c rfl ESub.nil))))))
  ·exact (MSub.cons .here rfl MSub.nil)
  ·exact (by first|omega|(simp only [qlB,ms_len,List.length_nil]<;>omega))
  ·exact (hGl0).trans hG18
  refine ⟨?_,?_,?_⟩
  ·(try dsimp only)<;>(exact fun r ro h=>by (rw [List.append_assoc,List.append_assoc]; exact hD _ _ (.cons (by omega) sS pS h)))
  ·(try dsimp only)<;>(rw [List.append_assoc,List.take_append_drop]; exact hT)
  (try dsimp only)<;>(exact (by first|omega|(simp only [qlB,ms_len,List.length_nil]<;>omega)))
 have c1k:=c1
 try simp only [qcA,qcC,qcB] at c1
 refine .exit (.xcode (.xlp (.xblk (.code (.seq (Wk.rg [0,1,2,3,4] rfl rfl (mv rfl .no (.u rfl) (mv rfl .no (.u rfl) (mv rfl .no (.u rfl) (mv rfl .no (.u rfl) ?_))))))))))
 refine ka rfl (.inr rfl) Fx.go94 (Evc rfl (Evc rfl (Evc rfl (Evc rfl Evn)))) (mtk1 .here) (ins_ok D T [] _ _ _ f hf vc cv _ hcm hw (by first|omega|(simp only [qlB,ms_len,List.length_nil]<;>omega)) (by first|omega|(simp only [qlB,ms_len,List.length_nil]<;>omega)) (tag_sub (X:=DO) (Z:=[]) hT0 (by rw [List.append_nil]; exact hT)) _ (by rw [List.append_nil]) (by first|omega|(simp only [qlB,ms_len,List.length_nil]<;>omega))) ?_
 rintro _ G27 μ27 hG27 ⟨S',pS,sS,rfl,rfl⟩
 have lS:=pS.length_eq; (try simp only [List.length_take] at lS)
 have hcm:=hcm.mono hG27
 refine .nil (.code (.block ?_))
 have hCk:=hD S' T (.last (by omega) sS pS)
 rw [hT] at hCk
 rw [List.append_nil]
 have hW:=hCk.perm.length_eq
 rw [hT0l] at hW
 refine Wk.lop (α:=Nat×List TM) (fun gh=>[(6,true,.int .i64 (gh.1:Int))]) (fun gh=>[rS 40 Meta.cells v 67 (ms gh.2)])
  (fun gh Gl=>(0<gh.1)∧(gh.1≤20+2*xs.length)∧(Ck (ltv cv) gh.1 gh.2 (xs.zipIdx 0))) (fun gh=>xs.length-gh.1) (20,D++S') [(0,true,_),(1,true,_),(2,true,_)] []
  (ESub.cons rfl (by first|rfl|exact evi (by omega)) (ESub.c rfl (ESub.c rfl (ESub.c rfl ESub.nil))))
  (MSub.cons .here rfl MSub.nil) ?_ ?_
 ·refine ⟨?_,?_,?_⟩
  ·(try dsimp only)<;>(first|omega|rfl|assumption|(simp; done))
  ·(try dsimp only)<;>(first|omega|rfl|assumption|(simp; done))
  (try dsimp only)<;>(exact hCk)
 intro gh N1 Gl1 hN1 hGl1 hF1
 obtain ⟨bs,W⟩:=gh; dsimp only at hF1 hN1 ⊢
 obtain ⟨hb,hb2,hCk⟩:=hF1
 have hcm:=hcm.mono hGl1
 have hW:=hCk.perm.length_eq; rw [hT0l] at hW
 refine .seq (.seq (Wk.rg [0,1,2] rfl rfl (mv rfl .no (.u rfl) (mv rfl .no (.u rfl) (cp rfl .no (.u rfl) (.u rfl) rfl (.nil (.code (.cond rfl (fun c2=>?_) (fun c2=>?_)))))))))
 ·have c2k:=c2
  try simp only [qcA,qcC,qcB] at c2
  refine .skip (.code (.block (.seq (Wk.rg [0,1,2,3] rfl rfl (mv rfl .no (.u rfl) (arn (((bs+bs):Nat):Int) rfl .no (.u rfl) (.u rfl) rfl (fun _=>by omega) (fun _=>wrap_i64 (by omega) (by omega)) ?_))))))
  refine asg rfl .no (.u rfl) (asg rfl .no (.u rfl) (.nil (.code (.seq (.block ?_)))))
  refine Wk.lop (α:=List TM×List TM×List TM×List TM) (fun gh=>[(7,true,.int .i64 (gh.1.length:Int)),(8,true,.int .i64 ((gh.1.length+(bs+bs):Nat):Int))]) (fun gh=>[rS 40 Meta.cells v 67 (ms (gh.1++gh.2.2.1))])
   (fun gh Gl=>(∀ r ro,Ck (ltv cv) (bs+bs) r ro→Ck (ltv cv) (bs+bs) (gh.1++r) (gh.2.1++ro))∧(Ck (ltv cv) bs gh.2.2.1 gh.2.2.2)∧(gh.2.1++gh.2.2.2=(xs.zipIdx 0))∧(gh.1.length+gh.2.2.1.length=xs.length)) (fun gh=>gh.2.2.1.length) ([],[],W,(xs.zipIdx 0)) [(0,true,_),(1,true,_),(2,true,_),(6,true,_)] []
   (ESub.c rfl (ESub.cons rfl (evi (by first|rfl|omega|(dsimp only; omega)|(simp only [List.length_nil]; omega))) (ESub.c rfl (ESub.c rfl (ESub.c rfl (ESub.c rfl ESub.nil))))))
   (MSub.cons .here (by rw [List.nil_append]) MSub.nil) ?_ ?_
  ·refine ⟨?_,?_,?_,?_⟩
   ·(try dsimp only)<;>(exact fun r ro h=>h)
   ·(try dsimp only)<;>(exact hCk)
   ·(try dsimp only)<;>(rfl)
   (try dsimp only)<;>(exact (by first|omega|(simp only [qlB,ms_len,List.length_nil]<;>omega)))
  intro gh N2 Gl2 hN2 hGl2 hF2
  obtain ⟨D,DO,T,O⟩:=gh; dsimp only at hF2 hN2 ⊢
  obtain ⟨hD,hC,hO,hDT⟩:=hF2
  have hcm:=hcm.mono hGl2
  refine .seq (.seq (Wk.rg [0,1,2] rfl rfl (mv rfl .no (.u rfl) (mv rfl .no (.u rfl) (cp rfl .no (.u rfl) (.u rfl) rfl (.nil (.code (.cond rfl (fun c3=>?_) (fun c3=>?_)))))))))
  ·have c3k:=c3
   try simp only [qcA,qcC,qcB] at c3
   refine .skip (.code (.block (.seq ?_)))
   obtain ⟨s1,s2,o1,o2,T1,O1,rfl,rfl,l1,l2,l3,l4,hs1,hs2,hp1,hp2,hC1⟩:=hC.two hb (by omega)
   simp only [List.length_append] at hDT
   refine Wk.rg [0,1,2,3,4,5,6,7] rfl rfl (mv rfl .no (.u rfl) (mv rfl .no (.u rfl) (mv rfl .no (.u rfl) (mv rfl .no (.u rfl) (arn (((D.length+bs):Nat):Int) rfl .no (.u rfl) (.u rfl) rfl (fun _=>by omega) (fun _=>wrap_i64 (by omega) (by omega)) ?_)))))
   refine mv rfl .no (.u rfl) (mv rfl .no (.u rfl) ?_)
   refine ka rfl (.inr rfl) Fx.go95 (Evc rfl (Evc rfl (Evc rfl (Evc rfl (Evc rfl Evn))))) (mtk1 .here) (symM_ok D s1 s2 T1 _ _ _ _ f hf vc cv _ hcm hw (by first|omega|(simp only [qlB,ms_len,List.length_nil]<;>omega)) (by first|omega|(simp only [qlB,ms_len,List.length_nil]<;>omega)) (by first|omega|(simp only [qlB,ms_len,List.length_nil]<;>omega)) (by first|omega|(simp only [qlB,ms_len,List.length_nil]<;>omega)) (by first|omega|(simp only [qlB,ms_len,List.length_nil]<;>omega)) hs1 hs2 (tag_lt hT0 hO hp1 hp2) _ (by simp only [ms,List.map_append,List.append_assoc]) (by first|omega|(simp only [qlB,ms_len,List.length_nil]<;>omega))) ?_
   rintro _ G43 μ43 hG43 ⟨S',pS,sS,rfl,rfl⟩
   have lS:=pS.length_eq; rw [List.length_append] at lS
   have hcm:=hcm.mono hG43
   refine .nil (.code (.seq (Wk.rg [0,1] rfl rfl (mv rfl .no (.u rfl) (asg rfl .no (.u rfl) (.nil (.code (Wk.rg [0,1,2,3,4] rfl rfl (mv rfl .no (.u rfl) (mv rfl .no (.u rfl) (arn (((bs+bs):Nat):Int) rfl .no (.u rfl) (.u rfl) rfl (fun _=>by omega) (fun _=>wrap_i64 (by omega) (by omega)) ?_)))))))))))
   refine arn (((D.length+S'.length+(bs+bs)):Nat):Int) rfl .no (.u rfl) (.u rfl) rfl (fun _=>by (try simp only [List.length_append]); omega) (fun _=>wrap_i64 (by omega) (by omega)) ?_
   refine asg rfl .no (.u rfl) (.nil (.blk (We.lpo (D++S',DO++(o1++o2),T1,O1) ?_ ?_ ?_ ?_ ?_)))
   ·exact (ESub.cons rfl (evi (by first|omega|(simp only [qlB,ms_len,List.length_nil]<;>omega))) (ESub.cons rfl (evi (by first|omega|(simp only [qlB,ms_len,List.length_nil]<;>omega))) (ESub.c rfl (ESub.c rfl (ESub.c rfl (ESub.c rfl ESub.nil))))))
   ·exact (MSub.cons .here rfl MSub.nil)
   ·simp only [List.length_append] at hN2; dsimp only; omega
   ·exact (hGl2).trans hG43
   refine ⟨?_,?_,?_,?_⟩
   ·(try dsimp only)<;>(exact fun r ro h=>by (rw [List.append_assoc,List.append_assoc]; exact hD _ _ (.cons (by omega) sS (pS.trans (hp1.append hp2)) h)))
   ·(try dsimp only)<;>(exact hC1)
   ·(try dsimp only)<;>(rw [List.append_assoc]; exact hO)
   (try dsimp only)<;>(exact (by first|omega|(simp only [qlB,ms_len,List.length_nil]<;>omega)))
  have c3k:=c3
  try simp only [qcA,qcC,qcB] at c3
  refine .exit (.xcode (.xlp (.xblk (.code (.seq (.seq (Wk.rg [0,1,2,3] rfl rfl (mv rfl .no (.u rfl) (mv rfl .no (.u rfl) (arn (((D.length+bs):Nat):Int) rfl .no (.u rfl) (.u rfl) rfl (fun _=>by omega) (fun _=>wrap_i64 (by omega) (by omega)) ?_))))))))))
  refine asg rfl .no (.u rfl) (.nil (.code (.seq (Wk.rg [0,1,2] rfl rfl (mv rfl .no (.u rfl) (mv rfl .no (.u rfl) (cp rfl .no (.u rfl) (.u rfl) rfl (.nil (.code (.cond rfl (fun c4=>?_) (fun c4=>?_)))))))))))
  ·have c4k:=c4
   try simp only [qcA,qcC,qcB] at c4
   obtain ⟨s1,s2,o1,o2,rfl,rfl,l1,l2,l3,hs1,hs2,hp1,hp2⟩:=hC.rest hb (by omega) (by omega)
   simp only [List.length_append] at hDT
   refine Wk.rg [0,1,2,3,4,5] rfl rfl (mv rfl .no (.u rfl) (mv rfl .no (.u rfl) (mv rfl .no (.u rfl) (mv rfl .no (.u rfl) (mv rfl .no (.u rfl) ?_)))))
   refine ka rfl (.inr rfl) Fx.go95 (Evc rfl (Evc rfl (Evc rfl (Evc rfl (Evc rfl Evn))))) (mtk1 .here) (symM_ok D s1 s2 [] _ _ _ _ f hf vc cv _ hcm hw (by first|omega|(simp only [qlB,ms_len,List.length_nil]<;>omega)) (by first|omega|(simp only [qlB,ms_len,List.length_nil]<;>omega)) (by first|omega|(simp only [qlB,ms_len,List.length_nil]<;>omega)) (by first|omega|(simp only [qlB,ms_len,List.length_nil]<;>omega)) (by first|omega|(simp only [qlB,ms_len,List.length_nil]<;>omega)) hs1 hs2 (tag_lt (X:=DO) (Z:=[]) hT0 (by rw [List.append_nil]; exact hO) hp1 hp2) _ (by simp only [ms,List.map_append,List.append_assoc,List.append_nil]) (by first|omega|(simp only [qlB,ms_len,List.length_nil]<;>omega))) ?_
   rintro _ G60 μ60 hG60 ⟨S',pS,sS,rfl,rfl⟩
   have lS:=pS.length_eq; rw [List.length_append] at lS
   refine .nil (.code (Wk.rg [0,1,2] rfl rfl (mv rfl .no (.u rfl) (arn (((bs+bs):Nat):Int) rfl .no (.u rfl) (.u rfl) rfl (fun _=>by omega) (fun _=>wrap_i64 (by omega) (by omega)) ?_))))
   refine asg rfl .no (.u rfl) (.nil (.blk (We.lpo (bs+bs,D++S') ?_ ?_ ?_ ?_ ?_)))
   ·exact (ESub.cons rfl (by first|rfl|exact evi (by omega)) (ESub.c rfl (ESub.c rfl (ESub.c rfl ESub.nil))))
   ·exact (MSub.cons .here (by rw [List.append_nil]) MSub.nil)
   ·first|omega|(dsimp only; omega)
   ·exact ((hGl1).trans hGl2).trans hG60
   refine ⟨?_,?_,?_⟩
   ·(try dsimp only)<;>(first|omega|rfl|assumption|(simp; done))
   ·(try dsimp only)<;>(first|omega|rfl|assumption|(simp; done))
   (try dsimp only)<;>(rw [← hO]; exact hD _ _ (.last (by omega) sS (pS.trans (hp1.append hp2))))
  have c4k:=c4
  try simp only [qcA,qcC,qcB] at c4
  refine .skip (.code (Wk.rg [0,1,2] rfl rfl (mv rfl .no (.u rfl) (arn (((bs+bs):Nat):Int) rfl .no (.u rfl) (.u rfl) rfl (fun _=>by omega) (fun _=>wrap_i64 (by omega) (by omega)) ?_))))
  refine asg rfl .no (.u rfl) (.nil (.blk (We.lpo (bs+bs,D++T) ?_ ?_ ?_ ?_ ?_)))
  ·exact (ESub.cons rfl (by first|rfl|exact evi (by omega)) (ESub.c rfl (ESub.c rfl (ESub.c rfl ESub.nil))))
  ·exact (MSub.cons .here rfl MSub.nil)
  ·first|omega|(dsimp only; omega)
  ·exact (hGl1).trans hGl2
  refine ⟨?_,?_,?_⟩
  ·(try dsimp only)<;>(first|omega|rfl|assumption|(simp; done))
  ·(try dsimp only)<;>(first|omega|rfl|assumption|(simp; done))
  (try dsimp only)<;>(rw [← hO]; exact hD _ _ (.last (by omega) (hC.big hb (by omega)).1 (hC.big hb (by omega)).2))
 have c2k:=c2
 try simp only [qcA,qcC,qcB] at c2
 refine .exit (.xcode (.xlp (.xblk (.nil (We.fin Tryd.results76 .nil (MSub.cons .here rfl MSub.nil) ?_)))))
 obtain ⟨q1,q2⟩:=hCk.big hb (by omega)
 rw [ms_sort hw q1 q2]; exact ⟨rfl,rfl⟩
theorem ssf_ok (xs:List Meta) (v:Value) (f:Nat) (hf:goFn Tryd.prog f=true) (vc:List Value) (cv:Meta→Meta→Int) (G:PM) (hcm:CmpR Tryd.prog f vc cv G) (hw:Wk0 (ltv cv)) (hl:xs.length≤500000000):Ct Tryd.prog 54 ([v,.func (.func f) #[] vc.toArray]:List Value).toArray G [rS 40 Meta.cells v 67 xs] (fun _ μ' u=>μ'=[rS 40 Meta.cells v 67 (sortS (ltv cv) xs)]∧u=.tuple #[]):=by
 refine Ct.of Tryd.func54 rfl Tryd.ntmps54 rfl fun w0 hs0=>?_
 refine Wk.rg [0,1,2,3,4] rfl rfl (mv rfl .no (.u rfl) (mv rfl .no (.u rfl) (lr rfl .no FxVeSd.sn22 (.u rfl) .here ?_)))
 refine mv rfl .no (.u rfl) (ka rfl (.inr rfl) Fx.go76 (Evc rfl (Evc rfl (Evc rfl Evn))) (mtk1 .here) (stb_ok xs _ _ f hf vc cv _ hcm hw rfl hl) ?_)
 rintro _ G8 μ8 hG8 ⟨rfl,rfl⟩
 refine .nil (.nil (We.fin Tryd.results54 .nil (MSub.cons .here rfl MSub.nil) ?_))
 exact ⟨rfl,rfl⟩
end Go.Proofs.YtdeobooblmjlfaaDoor
