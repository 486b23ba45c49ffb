/- Lemmas and contracts of functions, joined. -/
import Derived.Test.YtdeobooblmjlfaaDoorMd4
import Derived.Test.YtdeobooblmjlfaaDoorCards
import Derived.Test.YtdeobooblmjlfaaDoorTie
import Derived.OpenShut
import Derived.Deep.DeepHandedRow
import Derived.Deep.CondSized
import Derived.JoinedCond
set_option linter.unusedSimpArgs false
set_option linter.unusedVariables false
set_option linter.unusedSectionVars false
namespace Go.Proofs.YtdeobooblmjlfaaDoor
open Go.Tan Go.RowKit
namespace Fx
theorem ag25:aggN Tryd.prog 25=some (some 5):=by kernel_rfl
theorem go52:goFn Tryd.prog 52=true:=by kernel_rfl
theorem zq27:zrL Tryd.prog 27=some ((State.zero.cells hd0)):=by kernel_rfl
theorem ag27:aggN Tryd.prog 27=some (some 14):=by kernel_rfl
theorem go15:goFn Tryd.prog 15=true:=by kernel_rfl
theorem go49:goFn Tryd.prog 49=true:=by kernel_rfl
theorem bp27_1_2_3_4_5_0:bPl Tryd.prog 27 [1,2,3,4,5,0]=some ((State.zero.cells hd0),[(5,1),(6,1),(7,1),(8,1),(9,5),(0,5)]):=by kernel_rfl
theorem sz27:szT Tryd.prog 27=some 14:=by kernel_rfl
theorem go50:goFn Tryd.prog 50=true:=by kernel_rfl
theorem go51:goFn Tryd.prog 51=true:=by kernel_rfl
theorem bp27_:bPl Tryd.prog 27 []=some ((State.zero.cells hd0),[]):=by kernel_rfl
end Fx
theorem before_ok (s:State) (hd:Nat→Sh) (G:PM) (e:Edit) (ha he:Sh):Ct Tryd.prog 49 ([s.val hd,e.val ha he]:List Value).toArray G [] (fun _ μ' u=>μ'=[]∧u=.bool (beforeB s e)):=by
 refine Ct.of Tryd.func49 rfl Tryd.ntmps49 rfl fun w0 hs0=>?_
 refine .seq (Wk.rg [0,1,2] rfl rfl ?_)
 refine bx rfl (.u rfl) rfl ?_; intro b2
 refine bx rfl (.u rfl) rfl ?_; intro b3
 refine asg rfl .no (.u rfl) (.nil (.code (.seq (.seq (Wk.rg [0,1,2] rfl rfl (fz rfl .no Fx.fo32_4 (.u rfl) (lA rfl .no Fx.ag25 (.u rfl) (fun _=>RdN.part (n:=5) (cs':=(List.range 5).map (fun i=>.int .u64 (e.gens i))) .here (rfl)) (fun _=>rfl) (mv rfl .no (.u rfl) (.nil (.code (.block ?_)))))))))))
 refine Wk.lop (α:=Nat) (fun k=>[(9,true,.int .i64 (k:Int))]) (fun _=>[])
  (fun k Gl=>(k≤5)∧(∀ i,i<k→¬ e.gens i<s.gens i)) (fun k=>5-k) 0 [(2,true,_),(3,true,_),(8,true,_)] [_,_]
  (ESub.cons rfl (by first|rfl|exact evi (by omega)) (ESub.c rfl (ESub.c rfl (ESub.c rfl ESub.nil))))
  (MSub.cons .here rfl (MSub.cons .here rfl MSub.nil)) ?_ ?_
 ·refine ⟨?_,?_⟩
  ·(try dsimp only)<;>(first|omega|rfl|assumption|(simp; done))
  (try dsimp only)<;>(exact fun i hi=>by omega)
 intro k N0 Gl0 hN0 hGl0 hF0
 try dsimp only at hF0 hN0 ⊢
 obtain ⟨hk,hn⟩:=hF0
 refine .seq (Wk.rg [0] rfl rfl (cp rfl .no (.u rfl) (.u rfl) rfl (.nil (.code (.seq (.cond rfl (fun c1=>?_) (fun c1=>?_)))))))
 ·have c1k:=c1
  try simp only [qcA,qcB] at c1
  refine .skip (.code (.seq (.block (.seq (Wk.rg [0,1,2,3] rfl rfl (mv rfl .no (.u rfl) (ix rfl .no Fx.ar25 FxVerP.ag24 (.u rfl) (.u rfl) (fun _=>by omega) (fun _=>by omega) (fun _=>(gens_at (k:=k) (by omega) (by omega))) ?_)))))))
  refine asg rfl .no (.u rfl) (asg rfl .no (.u rfl) (.nil (.code (.seq (Wk.rg [0,1,2,3,4,5] rfl rfl (mv rfl .no (.u rfl) (mv rfl .no (.u rfl) (fz rfl .no Fx.fo27_5 (.u rfl) (iA rfl .no Fx.ar25 (.u rfl) (.u rfl) (fun _=>by omega) (fun _=>by omega) ?_)))))))))
  refine ld rfl .no FxVerP.ag24 (.u rfl) (fun _=>Rd.own (.there .here) (by exact s.cell_gen hd (k:=k) (by omega))) ?_
  refine cp rfl .no (.u rfl) (.u rfl) rfl (.nil (.code (.cond rfl (fun c2=>?_) (fun c2=>?_))))
  ·have c2k:=c2
   try simp only [qcA,qcB] at c2
   refine .seq (Wk.rg [0] rfl rfl (asg rfl .no (.u rfl) (.nil (.code (.ret (We.fin0 Tryd.results49 (.tmp rfl .nil) ?_))))))
   exact ⟨rfl,congrArg Value.bool (bef_yes (i:=k) (by omega) (by omega)).symm⟩
  have c2k:=c2
  try simp only [qcA,qcB] at c2
  refine .skip (.blk (.code (Wk.rg [0,1] rfl rfl (arn (((k+1):Nat):Int) rfl .no (.u rfl) (.u rfl) rfl (fun _=>by omega) (fun _=>wrap_i64 (by omega) (by omega)) ?_))))
  refine mv rfl .no (.u rfl) (.nil (We.lpo (k+1) ?_ ?_ ?_ ?_ ?_))
  ·exact (ESub.cons rfl (by first|rfl|exact evi (by omega)) (ESub.c rfl (ESub.c rfl (ESub.c rfl ESub.nil))))
  ·exact (MSub.cons .here rfl (MSub.cons .here rfl MSub.nil))
  ·first|omega|(dsimp only; omega)
  ·exact hGl0
  refine ⟨?_,?_⟩
  ·(try dsimp only)<;>(first|omega|rfl|assumption|(simp; done))
  (try dsimp only)<;>(exact fun i hi=>by (by_cases h:i=k; (subst h; omega); exact hn i (by omega)))
 have c1k:=c1
 try simp only [qcA,qcB] at c1
 refine .exit (.xcode (.xlp (.xblk (.code (.seq (Wk.rg [0,1,2,3,4,5,6,7,8,9,10,11,12,13,14,15,16,17,18,19,20,21,22,23,24,25,26] rfl rfl (fz rfl .no Fx.fo32_0 (.u rfl) (ld rfl .no FxVerP.ag24 (.u rfl) (fun _=>Rd.own .here (by first|exact wap_f rfl|rfl)) ?_))))))))
 refine fz rfl .no Fx.fo27_1 (.u rfl) (ld rfl .no FxVerP.ag24 (.u rfl) (fun _=>Rd.own (.there .here) (by first|exact wap_f rfl|rfl)) ?_)
 refine cp rfl .no (.u rfl) (.u rfl) rfl (mv rfl .no (.u rfl) (fz rfl (.f rfl rfl) Fx.fo32_1 (.u rfl) (ld rfl (.f rfl rfl) FxVerP.ag24 (.s rfl) (fun hc=>Rd.own .here (by first|exact wap_f rfl|rfl)) ?_)))
 refine fz rfl (.f rfl rfl) Fx.fo27_2 (.u rfl) (ld rfl (.f rfl rfl) FxVerP.ag24 (.s rfl) (fun hc=>Rd.own (.there .here) (by first|exact wap_f rfl|rfl)) ?_)
 refine cp rfl (.f rfl rfl) (.s rfl) (.s rfl) rfl (pkO rfl .no (.u rfl) (.s rfl) (mv rfl .no (.u rfl) (fz rfl (.f rfl rfl) Fx.fo32_2 (.u rfl) (ld rfl (.f rfl rfl) FxVerP.ag24 (.s rfl) (fun hc=>Rd.own .here (by first|exact wap_f rfl|rfl)) ?_))))
 refine fz rfl (.f rfl rfl) Fx.fo27_3 (.u rfl) (ld rfl (.f rfl rfl) FxVerP.ag24 (.s rfl) (fun hc=>Rd.own (.there .here) (by first|exact wap_f rfl|rfl)) ?_)
 refine cp rfl (.f rfl rfl) (.s rfl) (.s rfl) rfl (pkO rfl .no (.u rfl) (.s rfl) (mv rfl .no (.u rfl) (fz rfl (.f rfl rfl) Fx.fo32_3 (.u rfl) (ld rfl (.f rfl rfl) FxVerP.ag24 (.s rfl) (fun hc=>Rd.own .here (by first|exact wap_f rfl|rfl)) ?_))))
 refine fz rfl (.f rfl rfl) Fx.fo27_4 (.u rfl) (ld rfl (.f rfl rfl) FxVerP.ag24 (.s rfl) (fun hc=>Rd.own (.there .here) (by first|exact wap_f rfl|rfl)) ?_)
 refine cp rfl (.f rfl rfl) (.s rfl) (.s rfl) rfl (pkO rfl .no (.u rfl) (.s rfl) (asg rfl .no (.u rfl) (.nil (.code (.ret (We.fin0 Tryd.results49 (.tmp rfl .nil) ?_))))))
 exact ⟨rfl,congrArg Value.bool (bef_no (fun i hi=>hn i (by omega))).symm⟩
namespace Fx
theorem go77:goFn Tryd.prog 77=true:=by kernel_rfl
theorem go78:goFn Tryd.prog 78=true:=by kernel_rfl
theorem go56:goFn Tryd.prog 56=true:=by kernel_rfl
theorem go57:goFn Tryd.prog 57=true:=by kernel_rfl
end Fx
theorem del_ok (xs:List Meta) (v:Value) (k:Nat) (G:PM) (hk:k<xs.length) (hl:xs.length≤1000000000):Ct Tryd.prog 53 ([v,.int .i64 (k:Int),.int .i64 ((k+1:Nat):Int)]:List Value).toArray G [rS 40 Meta.cells v 67 xs] (fun _ μ' u=>μ'=[rS 40 Meta.cells u 67 (xs.take k++xs.drop (k+1))]):=by
 refine Ct.of Tryd.func53 rfl Tryd.ntmps53 rfl fun w0 hs0=>?_
 have hxr:(xs.take k++xs.drop (k+1)).length=xs.length-1:=by simp; omega
 refine .seq (Wk.rg [0] rfl rfl (asg rfl .no (.u rfl) (.nil (.code (.seq ?_)))))
 refine wk_rv .here (by omega) ?_; intro bbR capR evR lcR; subst evR
 refine Wk.rg [0,1,2,3,4,5] rfl rfl (mv rfl .no (.u rfl) (mv rfl .no (.u rfl) (mv rfl .no (.u rfl) (mv rfl .no (.u rfl) (lr rfl .no Fx.sn22 (.u rfl) .here ?_)))))
 refine s3 rfl Fx.se22 (.u rfl) (.u rfl) (.u rfl) (.u rfl) (by omega) (by omega) (by omega) (by omega) ?_; intro v13
 refine .nil (.code (.seq (.seq (Wk.rg [0,1,2] rfl rfl (mv rfl .no (.u rfl) (mv rfl .no (.u rfl) (cp rfl .no (.u rfl) (.u rfl) rfl (.nil (.code (.cond rfl (fun c1=>?_) (fun c1=>?_)))))))))))
 ·have c1k:=c1
  exfalso; simp at c1; omega
 have c1k:=c1
 try simp only [qcA,qcB] at c1
 refine .skip (.code (.seq (Wk.rg [0,1,2] rfl rfl (mv rfl .no (.u rfl) (lr rfl .no Fx.sn22 (.u rfl) .here ?_)))))
 refine asg rfl .no (.u rfl) (.nil (.code (.seq (Wk.draw (mc:=⟨false,false⟩) [0,1,2,3,4,5,6,7] FxVeSa.mix (by kernel_rfl) ?_))))
 refine mv rfl .no (.u rfl) (mv rfl .no (.u rfl) (srh k rfl Fx.se22 (.u rfl) (.u rfl) rfl (by omega) ?_))
 refine mv rfl .no (.u rfl) (mv rfl .no (.u rfl) ?_)
 refine slz (k+1) rfl Fx.se22 (.u rfl) (.u rfl) rfl (by omega) (by omega) ?_; intro oa25 hoa25
 refine apD (q:=k) (r:=k+1) rfl Fx.se22 (.u rfl) (.u rfl) .here hoa25 (fun _ _=>Meta.len _) (metas_one _) (by omega) (by omega) ?_
 refine asg rfl .no (.u rfl) (.nil (.code (.seq (Wk.rg [0,1,2,3,4,5] rfl rfl (mv rfl .no (.u rfl) (mv rfl .no (.u rfl) (lr rfl .no Fx.sn22 (.u rfl) .here ?_)))))))
 refine mv rfl .no (.u rfl) (sll (xs.take k++xs.drop (k+1)).length xs.length rfl Fx.se22 (.u rfl) (.u rfl) (.u rfl) rfl rfl (by omega) (by omega) (by omega) ?_)
 refine clT rfl Fx.se22 Fx.zw67 rfl (by decide) (.u rfl) .here (by omega) (by omega) (fun _ _=>Meta.len _) ?_
 refine .nil (.code (.seq (Wk.rg [0,1] rfl rfl (mv rfl .no (.u rfl) (asg rfl .no (.u rfl) (.nil (.code (.ret (We.fin Tryd.results53 (.tmp rfl .nil) (MSub.cons .here rfl MSub.nil) ?_)))))))))
 exact rfl
theorem clone_ok (h:Sh) (l:List Meta) (G:PM) (hs:SlR G 40 Meta.cells h l) (hl:l.length≤1000000):Ct Tryd.prog 50 ([h.val l.length]:List Value).toArray G [] (fun _ μ' u=>u.oneCell'=true∧μ'=[rS 40 Meta.cells u 67 l]):=by
 refine Ct.of Tryd.func50 rfl Tryd.ntmps50 rfl fun w0 hs0=>?_
 refine .seq (Wk.rg [0] rfl rfl (asg rfl .no (.u rfl) (.nil (.code (.seq (.seq (Wk.rg [0,1] rfl rfl (mv rfl .no (.u rfl) (sn0 rfl .no Fx.sn22 (.u rfl) (.u rfl) ?_)))))))))
 refine .nil (.code (.cond rfl (fun c1=>?_) (fun c1=>?_)))
 ·have c1k:=c1
  try simp only [qcA,qcB] at c1
  refine .seq (Wk.rg [0] rfl rfl (asg rfl .no (.u rfl) (.nil (.code (.ret ?_)))))
  have hn:l=[]:=by
   cases l with
   | nil=>rfl
   | cons x l=>have:=hs.there (by simp); rw [this] at c1; cases c1
  refine we_nilS 40 Meta.cells 67 (We.fin Tryd.results50 (.tmp rfl .nil) (MSub.cons .here rfl MSub.nil) ?_)
  exact ⟨rfl,by rw [hn]; rfl⟩
 have c1k:=c1
 try simp only [qcA,qcB] at c1
 refine .skip (.code (.seq (Wk.rg [0,1,2,3] rfl rfl ?_)))
 refine b0 rfl rfl Fx.se22 ?_; intro v5
 refine mv rfl .no (.u rfl) ?_
 refine apL (xs:=([]:List Meta)) rfl Fx.se22 Fx.zw67 rfl (.u rfl) (.u rfl) .here hs (fun _ _=>Meta.len _) (metas_one _) (by simp only [List.length_nil]; omega) (by unfold maxLen; simp only [List.length_nil]; omega) ?_; intro v7 ov7
 refine asg rfl .no (.u rfl) (.nil (.code (.ret (We.fin Tryd.results50 (.tmp rfl .nil) (MSub.cons .here rfl MSub.nil) ?_))))
 exact ⟨ov7,rfl⟩
theorem nanU (x:Int) (G:PM):Ct Tryd.prog 77 ([.int .u64 x]:List Value).toArray G [] (fun _ μ' u=>μ'=[]∧u=.bool false):=by
 refine Ct.of Tryd.func77 rfl Tryd.ntmps77 rfl fun w0 hs0=>?_
 refine .seq (Wk.rg [0] rfl rfl (asg rfl .no (.u rfl) (.nil (.code (.seq (Wk.rg [0,1,2,3] rfl rfl (mv rfl .no (.u rfl) (mv rfl .no (.u rfl) (cp rfl .no (.u rfl) (.u rfl) rfl (asg rfl .no (.u rfl) (.nil (.code (.ret (We.fin0 Tryd.results77 (.tmp rfl .nil) ?_))))))))))))))
 exact ⟨rfl,congrArg Value.bool (by simp)⟩
theorem nanS (x:ByteArray) (G:PM):Ct Tryd.prog 78 ([.string x]:List Value).toArray G [] (fun _ μ' u=>μ'=[]∧u=.bool false):=by
 refine Ct.of Tryd.func78 rfl Tryd.ntmps78 rfl fun w0 hs0=>?_
 refine .seq (Wk.rg [0] rfl rfl (asg rfl .no (.u rfl) (.nil (.code (.seq (Wk.rg [0,1,2,3] rfl rfl (mv rfl .no (.u rfl) (mv rfl .no (.u rfl) (cs rfl .no (.u rfl) (.u rfl) rfl (asg rfl .no (.u rfl) (.nil (.code (.ret (We.fin0 Tryd.results78 (.tmp rfl .nil) ?_))))))))))))))
 exact ⟨rfl,congrArg Value.bool (by simp)⟩
theorem cmpU_ok (x y:Int) (G:PM):Ct Tryd.prog 56 ([.int .u64 x,.int .u64 y]:List Value).toArray G [] (fun _ μ' u=>μ'=[]∧u=.int .i64 (cmpN x y)):=by
 refine Ct.of Tryd.func56 rfl Tryd.ntmps56 rfl fun w0 hs0=>?_
 refine .seq (Wk.rg [0] rfl rfl (asg rfl .no (.u rfl) (.nil (.code (.seq (Wk.rg [0,1,2] rfl rfl (mv rfl .no (.u rfl) (kv rfl .no Fx.go77 (Evc rfl Evn) (fun _=>nanU _ _) ?_))))))))
 refine asg rfl .no (.u rfl) (.nil (.code (.seq (Wk.rg [0,1,2] rfl rfl (mv rfl .no (.u rfl) (kv rfl .no Fx.go77 (Evc rfl Evn) (fun _=>nanU _ _) ?_))))))
 refine asg rfl .no (.u rfl) (.nil (.code (.seq (.seq (Wk.rg [0] rfl rfl (mv rfl .no (.u rfl) (.nil (.code (.cond rfl (fun c1=>?_) (fun c1=>?_))))))))))
 ·have c1k:=c1
  cases c1
 have c1k:=c1
 try simp only [qcA,qcB] at c1
 refine .skip (.code (.seq (.seq (Wk.rg [0] rfl rfl (mv rfl .no (.u rfl) (.nil (.code (.cond rfl (fun c2=>?_) (fun c2=>?_)))))))))
 ·have c2k:=c2
  cases c2
 have c2k:=c2
 try simp only [qcA,qcB] at c2
 refine .skip (.code (.seq (.seq (Wk.rg [0,1,2] rfl rfl (mv rfl .no (.u rfl) (mv rfl .no (.u rfl) (cp rfl .no (.u rfl) (.u rfl) rfl (.nil (.code (.cond rfl (fun c3=>?_) (fun c3=>?_)))))))))))
 ·have c3k:=c3
  try simp only [qcA,qcB] at c3
  refine .seq (Wk.rg [0] rfl rfl (asg rfl .no (.u rfl) (.nil (.code (.ret (We.fin0 Tryd.results56 (.tmp rfl .nil) ?_))))))
  exact ⟨rfl,by unfold cmpN; rw [if_pos c3]; rfl⟩
 have c3k:=c3
 try simp only [qcA,qcB] at c3
 refine .skip (.code (.seq (.seq (Wk.rg [0,1,2] rfl rfl (mv rfl .no (.u rfl) (mv rfl .no (.u rfl) (cp rfl .no (.u rfl) (.u rfl) rfl (.nil (.code (.cond rfl (fun c4=>?_) (fun c4=>?_)))))))))))
 ·have c4k:=c4
  try simp only [qcA,qcB] at c4
  refine .seq (Wk.rg [0] rfl rfl (asg rfl .no (.u rfl) (.nil (.code (.ret (We.fin0 Tryd.results56 (.tmp rfl .nil) ?_))))))
  exact ⟨rfl,by unfold cmpN; rw [if_neg (by omega),if_pos c4]; rfl⟩
 have c4k:=c4
 try simp only [qcA,qcB] at c4
 refine .skip (.code (.seq (Wk.rg [0] rfl rfl (asg rfl .no (.u rfl) (.nil (.code (.ret (We.fin0 Tryd.results56 (.tmp rfl .nil) ?_))))))))
 exact ⟨rfl,by unfold cmpN; rw [if_neg (by omega),if_neg (by omega)]; rfl⟩
theorem cmpT_ok (x y:ByteArray) (G:PM):Ct Tryd.prog 57 ([.string x,.string y]:List Value).toArray G [] (fun _ μ' u=>μ'=[]∧u=.int .i64 (cmpT x y)):=by
 refine Ct.of Tryd.func57 rfl Tryd.ntmps57 rfl fun w0 hs0=>?_
 refine .seq (Wk.rg [0] rfl rfl (asg rfl .no (.u rfl) (.nil (.code (.seq (Wk.rg [0,1,2] rfl rfl (mv rfl .no (.u rfl) (kv rfl .no Fx.go78 (Evc rfl Evn) (fun _=>nanS _ _) ?_))))))))
 refine asg rfl .no (.u rfl) (.nil (.code (.seq (Wk.rg [0,1,2] rfl rfl (mv rfl .no (.u rfl) (kv rfl .no Fx.go78 (Evc rfl Evn) (fun _=>nanS _ _) ?_))))))
 refine asg rfl .no (.u rfl) (.nil (.code (.seq (.seq (Wk.rg [0] rfl rfl (mv rfl .no (.u rfl) (.nil (.code (.cond rfl (fun c1=>?_) (fun c1=>?_))))))))))
 ·have c1k:=c1
  cases c1
 have c1k:=c1
 try simp only [qcA,qcB] at c1
 refine .skip (.code (.seq (.seq (Wk.rg [0] rfl rfl (mv rfl .no (.u rfl) (.nil (.code (.cond rfl (fun c2=>?_) (fun c2=>?_)))))))))
 ·have c2k:=c2
  cases c2
 have c2k:=c2
 try simp only [qcA,qcB] at c2
 refine .skip (.code (.seq (.seq (Wk.rg [0,1,2] rfl rfl (mv rfl .no (.u rfl) (mv rfl .no (.u rfl) (cs rfl .no (.u rfl) (.u rfl) rfl (.nil (.code (.cond rfl (fun c3=>?_) (fun c3=>?_)))))))))))
 ·have c3k:=c3
  try simp only [qcA,qcB] at c3
  refine .seq (Wk.rg [0] rfl rfl (asg rfl .no (.u rfl) (.nil (.code (.ret (We.fin0 Tryd.results57 (.tmp rfl .nil) ?_))))))
  exact ⟨rfl,by rw [cmpT_lt c3k]; rfl⟩
 have c3k:=c3
 try simp only [qcA,qcB] at c3
 refine .skip (.code (.seq (.seq (Wk.rg [0,1,2] rfl rfl (mv rfl .no (.u rfl) (mv rfl .no (.u rfl) (cs rfl .no (.u rfl) (.u rfl) rfl (.nil (.code (.cond rfl (fun c4=>?_) (fun c4=>?_)))))))))))
 ·have c4k:=c4
  try simp only [qcA,qcB] at c4
  refine .seq (Wk.rg [0] rfl rfl (asg rfl .no (.u rfl) (.nil (.code (.ret (We.fin0 Tryd.results57 (.tmp rfl .nil) ?_))))))
  exact ⟨rfl,by rw [cmpT_gt c3k c4k]; rfl⟩
 have c4k:=c4
 try simp only [qcA,qcB] at c4
 refine .skip (.code (.seq (Wk.rg [0] rfl rfl (asg rfl .no (.u rfl) (.nil (.code (.ret (We.fin0 Tryd.results57 (.tmp rfl .nil) ?_))))))))
 exact ⟨rfl,by rw [cmpT_eq c3k c4k]; rfl⟩
theorem same1_ok (m:Meta) (g:Gone) (b:Nat) (G:PM) (hb:PB G b (cl g.cells 94)):Ct Tryd.prog 52 ([m.val,.pointer (some ⟨b,0,none⟩)]:List Value).toArray G [] (fun _ μ' u=>μ'=[]∧u=.bool (m.number == g.number)):=by
 refine Ct.of Tryd.func52 rfl Tryd.ntmps52 rfl fun w0 hs0=>?_
 refine .seq (Wk.rg [0,1] rfl rfl ?_)
 refine bx rfl (.u rfl) rfl ?_; intro b2
 refine asg rfl .no (.u rfl) (.nil (.code (.seq (Wk.rg [0,1,2,3,4,5] rfl rfl (fz rfl .no Fx.fo67_3 (.u rfl) (ld rfl .no FxVerP.ag24 (.u rfl) (fun _=>Rd.own .here (by first|exact wap_f rfl|rfl)) ?_))))))
 refine fa rfl .no Fx.fo94_1 (.u rfl) (ld rfl .no FxVerP.ag24 (.u rfl) (fun _=>(hb.rd (by rfl)).rd) ?_)
 refine cp rfl .no (.u rfl) (.u rfl) rfl (asg rfl .no (.u rfl) (.nil (.code (.ret (We.fin0 Tryd.results52 (.tmp rfl .nil) ?_)))))
 exact ⟨rfl,rfl⟩
theorem cmp2_ok (a b:Meta) (i:Int) (q:Nat) (G:PM) (hb:PB G q (cl [.int .i64 i] 3)):Ct Tryd.prog 55 ([a.val,b.val,.pointer (some ⟨q,0,none⟩)]:List Value).toArray G [] (fun _ μ' u=>μ'=[]∧u=.int .i64 (lvC i a b)):=by
 refine Ct.of Tryd.func55 rfl Tryd.ntmps55 rfl fun w0 hs0=>?_
 refine .seq (Wk.rg [0,1,2] rfl rfl ?_)
 refine bx rfl (.u rfl) rfl ?_; intro b3
 refine bx rfl (.u rfl) rfl ?_; intro b4
 refine asg rfl .no (.u rfl) (.nil (.code (.seq (.seq (Wk.rg [0,1] rfl rfl (ld rfl .no FxVerP.ag3 (.u rfl) (fun _=>(hb.rd (by rfl)).rd) ?_))))))
 refine cp rfl .no (.u rfl) (.u rfl) rfl (.nil (.code (.cond rfl (fun c1=>?_) (fun c1=>?_))))
 ·have c1k:=c1
  try simp only [qcA,qcB] at c1
  refine .seq (Wk.rg [0,1,2,3,4,5] rfl rfl (fz rfl .no Fx.fo67_3 (.u rfl) (ld rfl .no FxVerP.ag24 (.u rfl) (fun _=>Rd.own .here (by first|exact wap_f rfl|rfl)) ?_)))
  refine fz rfl .no Fx.fo67_3 (.u rfl) (ld rfl .no FxVerP.ag24 (.u rfl) (fun _=>Rd.own (.there .here) (by first|exact wap_f rfl|rfl)) ?_)
  refine kv rfl .no Fx.go56 (Evc rfl (Evc rfl Evn)) (fun _=>cmpU_ok _ _ _) ?_
  refine asg rfl .no (.u rfl) (.nil (.code (.ret (We.fin0 Tryd.results55 (.tmp rfl .nil) ?_))))
  exact ⟨rfl,by unfold lvC; rw [if_pos (by simpa using c1k)]; rfl⟩
 have c1k:=c1
 try simp only [qcA,qcB] at c1
 refine .skip (.code (.seq (Wk.rg [0,1,2,3,4,5] rfl rfl (fz rfl .no Fx.fo67_6 (.u rfl) (ld rfl .no Fx.ag9 (.u rfl) (fun _=>Rd.own (.there .here) (by first|exact wap_f rfl|rfl)) ?_)))))
 refine fz rfl .no Fx.fo67_6 (.u rfl) (ld rfl .no Fx.ag9 (.u rfl) (fun _=>Rd.own .here (by first|exact wap_f rfl|rfl)) ?_)
 refine kv rfl .no Fx.go57 (Evc rfl (Evc rfl Evn)) (fun _=>cmpT_ok _ _ _) ?_
 refine asg rfl .no (.u rfl) (.nil (.code (.ret (We.fin0 Tryd.results55 (.tmp rfl .nil) ?_))))
 exact ⟨rfl,by unfold lvC; rw [if_neg (by simpa using c1k)]; rfl⟩
theorem lvC_cmp (i:Int) (q:Nat) {G:PM} (hb:PB G q (cl [.int .i64 i] 3)):CmpR Tryd.prog 55 [.pointer (some ⟨q,0,none⟩)] (lvC i) G:=⟨fun G' hle a b=>cmp2_ok a b i q G' (hb.mono hle)⟩
theorem lvC_wk (i:Int):Wk0 (ltv (lvC i)):=by rw [ltv_lvC]; exact lvLt_wk i
namespace Fx
theorem go55:goFn Tryd.prog 55=true:=by kernel_rfl
theorem go53:goFn Tryd.prog 53=true:=by kernel_rfl
theorem zr3:zrL Tryd.prog 3=some ([.int .i64 0]):=by kernel_rfl
theorem go54:goFn Tryd.prog 54=true:=by kernel_rfl
end Fx
set_option maxHeartbeats 8000000 in
theorem apply_ok (s:State) (hd:Nat→Sh) (e:Edit) (ha he:Sh) (G:PM) (hs:StR G s hd) (hE:EdR G e ha he):Ct Tryd.prog 29 ([s.val hd,e.val ha he]:List Value).toArray G [] (fun G' μ' u=>∃ X hdX err,AppR s e X err∧μ'=[]∧u=.tuple #[State.val X hdX,.int .i64 err]∧StR G' X hdX):=by
 refine Ct.of Tryd.func29 rfl Tryd.ntmps29 rfl fun w0 hs0=>?_
 have hea:=hE.add; have hed:=hE.drop
 refine .seq (Wk.rg [0,1,2,3] rfl rfl ?_)
 refine bx rfl (.u rfl) rfl ?_; intro b2
 refine bx rfl (.u rfl) rfl ?_; intro b3
 refine al rfl Fx.zq27 ?_; intro b4
 refine asg rfl .no (.u rfl) (.nil (.code (.seq (.seq (Wk.rg [0,1,2] rfl rfl (lA rfl .no Fx.ag27 (.u rfl) (fun _=>RdN.own (.there (.there .here))) (fun _=>(by first|exact qE|exact qL|rfl)) ?_))))))
 refine kv rfl .no Fx.go15 (Evc rfl Evn) (fun _=>vRight_ok s hd _ hs) ?_
 refine nt rfl .no (.u rfl) (.nil (.code (.cond rfl (fun c1=>?_) (fun c1=>?_))))
 ·have c1k:=c1
  try simp only [qcA,qcC,qcB] at c1
  refine .seq (Wk.rg [0,1,2] rfl rfl (bC rfl .no Fx.bp27_ .nil rfl ?_))
  refine sw rfl (.u rfl) (.u rfl) rfl Fx.sz27 .here (by first|exact qE|exact qL|rfl) (State.one') ?_
  refine asg rfl .no (.u rfl) (.nil (.code (.ret (We.fin0 Tryd.results29 (.cell rfl (fun w hw=>run_loadVarN Fx.ag27 (RdN.own .here) ((by first|exact qE|exact qL|rfl)) hw) (.tmp rfl .nil)) ?_))))
  exact ⟨State.zero,hd0,1,.inl ⟨by simpa using c1k,rfl,rfl⟩,rfl,rfl,st_zero⟩
 have c1k:=c1
 try simp only [qcA,qcC,qcB] at c1
 refine .skip (.code (.seq (.seq ?_)))
 have hri:rightS s=true:=by simpa using c1k
 have hri':=rightP_of hri
 refine Wk.rg [0,1,2,3,4,5,6,7,8,9,10,11,12,13,14] rfl rfl (fz rfl .no Fx.fo32_5 (.u rfl) (ld rfl .no Fx.ag22 (.u rfl) (fun _=>Rd.own (.there .here) (by first|exact wap_f rfl|rfl)) ?_))
 refine ln rfl .no Fx.sn22 (.u rfl) (cp rfl .no (.u rfl) (.u rfl) rfl (mv rfl .no (.u rfl) (fz rfl (.f rfl rfl) Fx.fo32_6 (.u rfl) (ld rfl (.f rfl rfl) Fx.ag30 (.s rfl) (fun hc=>Rd.own (.there .here) (by first|exact wap_f rfl|rfl)) ?_))))
 refine ln rfl (.f rfl rfl) Fx.sn30 (.s rfl) (cp rfl (.f rfl rfl) (.s rfl) (.u rfl) rfl (pkO rfl .no (.u rfl) (.s rfl) (mv rfl .no (.u rfl) (lA rfl (.f rfl rfl) Fx.ag27 (.u rfl) (fun _=>RdN.own (.there (.there .here))) (fun _=>(by first|exact qE|exact qL|rfl)) ?_))))
 refine lA rfl (.f rfl rfl) Fx.ag32 (.u rfl) (fun _=>RdN.own (.there .here)) (fun _=>(by first|exact qE|exact qL|rfl)) ?_
 refine kv rfl (.f rfl rfl) Fx.go49 (Eva.cons (.s rfl) (Eva.cons (.s rfl) Evn)) (fun hc=>before_ok s hd _ e ha he) ?_
 refine pkO rfl .no (.u rfl) (.s rfl) (.nil (.code (.cond rfl (fun c2=>?_) (fun c2=>?_))))
 ·have c2k:=c2
  try simp only [qcA,qcC,qcB] at c2
  refine .seq (Wk.rg [0,1,2] rfl rfl (bC rfl .no Fx.bp27_ .nil rfl ?_))
  refine sw rfl (.u rfl) (.u rfl) rfl Fx.sz27 .here (by first|exact qE|exact qL|rfl) (State.one') ?_
  refine asg rfl .no (.u rfl) (.nil (.code (.ret (We.fin0 Tryd.results29 (.cell rfl (fun w hw=>run_loadVarN Fx.ag27 (RdN.own .here) ((by first|exact qE|exact qL|rfl)) hw) (.tmp rfl .nil)) ?_))))
  exact ⟨State.zero,hd0,180,.inr (.inl ⟨hri,ap_head c2k,rfl,rfl⟩),rfl,rfl,st_zero⟩
 have c2k:=c2
 try simp only [qcA,qcC,qcB] at c2
 refine .skip (.code (.seq ?_))
 obtain ⟨hok,hla,hld⟩:=ok_head c2k
 have hfw:=hri'.few
 refine Wk.rg [0,1,2,3,4,5,6,7,8,9,10,11,12,13,14] rfl rfl (fz rfl .no Fx.fo32_0 (.u rfl) (ld rfl .no FxVerP.ag24 (.u rfl) (fun _=>Rd.own (.there .here) (by first|exact wap_f rfl|rfl)) ?_))
 refine fz rfl .no Fx.fo32_1 (.u rfl) (ld rfl .no FxVerP.ag24 (.u rfl) (fun _=>Rd.own (.there .here) (by first|exact wap_f rfl|rfl)) ?_)
 refine fz rfl .no Fx.fo32_2 (.u rfl) (ld rfl .no FxVerP.ag24 (.u rfl) (fun _=>Rd.own (.there .here) (by first|exact wap_f rfl|rfl)) ?_)
 refine fz rfl .no Fx.fo32_3 (.u rfl) (ld rfl .no FxVerP.ag24 (.u rfl) (fun _=>Rd.own (.there .here) (by first|exact wap_f rfl|rfl)) ?_)
 refine fz rfl .no Fx.fo32_4 (.u rfl) (lA rfl .no Fx.ag25 (.u rfl) (fun _=>RdN.part (n:=5) (cs':=(List.range 5).map (fun i=>.int .u64 (e.gens i))) (.there .here) (rfl)) (fun _=>rfl) (fz rfl .no Fx.fo27_0 (.u rfl) (lA rfl .no Fx.ag23 (.u rfl) (fun _=>RdN.part (n:=5) (cs':=(List.range 5).map (fun i=>(hd i).val (s.lv i).length)) (.there (.there .here)) (rfl)) (fun _=>rfl) ?_)))
 refine bCe (xC ((hd 0).val (s.lv 0).length) ((hd 1).val (s.lv 1).length) ((hd 2).val (s.lv 2).length) ((hd 3).val (s.lv 3).length) ((hd 4).val (s.lv 4).length) e) rfl .no Fx.bp27_1_2_3_4_5_0 (.cons (.u rfl) rfl (.cons (.u rfl) rfl (.cons (.u rfl) rfl (.cons (.u rfl) rfl (.cons (.u rfl) rfl (.cons (.u rfl) rfl .nil)))))) rfl (rfl) ?_
 refine al rfl Fx.zq27 ?_; intro b6
 refine sw rfl (.u rfl) (.u rfl) rfl Fx.sz27 .here (by first|exact qE|exact qL|rfl) (xC_one rfl rfl rfl rfl rfl) ?_
 refine .nil (.code (.seq (.seq (wk_nilS 40 Meta.cells 67 (wk_nilS 40 Meta.cells 67 (wk_nilS 40 Meta.cells 67 (wk_nilS 40 Meta.cells 67 (wk_nilS 40 Meta.cells 67 (Wk.rg [0] rfl rfl (mv rfl .no (.u rfl) (.nil (.code (.block ?_)))))))))))))
 refine Wk.lop (α:=Nat×Value×Value×Value×Value×Value) (fun gh=>[(49,true,.int .i64 (gh.1:Int))]) (fun gh=>[rS 40 Meta.cells gh.2.2.2.2.2 67 (pk gh.1 4 (s.lv 4) []),rS 40 Meta.cells gh.2.2.2.2.1 67 (pk gh.1 3 (s.lv 3) []),rS 40 Meta.cells gh.2.2.2.1 67 (pk gh.1 2 (s.lv 2) []),rS 40 Meta.cells gh.2.2.1 67 (pk gh.1 1 (s.lv 1) []),rS 40 Meta.cells gh.2.1 67 (pk gh.1 0 (s.lv 0) []),.blk b6 (cl (xC (pk gh.1 0 gh.2.1 ((hd 0).val (s.lv 0).length)) (pk gh.1 1 gh.2.2.1 ((hd 1).val (s.lv 1).length)) (pk gh.1 2 gh.2.2.2.1 ((hd 2).val (s.lv 2).length)) (pk gh.1 3 gh.2.2.2.2.1 ((hd 3).val (s.lv 3).length)) (pk gh.1 4 gh.2.2.2.2.2 ((hd 4).val (s.lv 4).length)) e) 27)])
  (fun gh Gl=>(gh.1≤5)) (fun gh=>5-gh.1) (0,.slice none 0 0,.slice none 0 0,.slice none 0 0,.slice none 0 0,.slice none 0 0) [(3,true,_),(4,true,_),(6,true,_)] [_,_,_]
  (ESub.cons rfl (by first|rfl|exact evi (by omega)) (ESub.c rfl (ESub.c rfl (ESub.c rfl ESub.nil))))
  (MSub.cons .here rfl (MSub.cons .here rfl (MSub.cons .here rfl (MSub.cons .here rfl (MSub.cons .here rfl (MSub.cons .here rfl (MSub.cons .here rfl (MSub.cons .here rfl (MSub.cons .here rfl MSub.nil))))))))) ?_ ?_
 ·(try dsimp only)<;>(first|omega|rfl|assumption|(simp; done))
 intro gh N0 Gl0 hN0 hGl0 hF0
 obtain ⟨k,w0,w1,w2,w3,w4⟩:=gh; dsimp only at hF0 hN0 ⊢
 have hk:=hF0
 have hs:=hs.mono hGl0
 have hea:=hea.mono hGl0
 have hed:=hed.mono hGl0
 refine .seq (Wk.rg [0] rfl rfl (cp rfl .no (.u rfl) (.u rfl) rfl (.nil (.code (.seq (.cond rfl (fun c3=>?_) (fun c3=>?_)))))))
 ·have c3k:=c3
  try simp only [qcA,qcC,qcB] at c3
  refine .skip (.code (.seq (.block (.seq (Wk.rg [0,1] rfl rfl (mv rfl .no (.u rfl) (asg rfl .no (.u rfl) (.nil (.code ?_)))))))))
  rcases (show k=0∨k=1∨k=2∨k=3∨k=4 by omega) with rfl|rfl|rfl|rfl|rfl
  ·refine Wk.rg [0,1,2,3,4,5,6,7,8] rfl rfl (mv rfl .no (.u rfl) (mv rfl .no (.u rfl) (fz rfl .no Fx.fo27_0 (.u rfl) (iA rfl .no Fx.ar23 (.u rfl) (.u rfl) (fun _=>by omega) (fun _=>by omega) ?_))))
   refine ld (v:=((hd 0).val (s.lv 0).length)) rfl .no Fx.ag22 (.u rfl) (fun _=>Rd.own (.there (.there (.there (.there (.there .here))))) rfl) ?_
   refine kc rfl Fx.go50 (Evc rfl Evn) (clone_ok (hd 0) (s.lv 0) _ (hs.lv 0 (by decide)) (by have:=lv_tot s (i:=0) (by decide); omega)) ?_
   rintro v57 G57 μ57 hG57 ⟨ov57,rfl⟩
   have hs:=hs.mono hG57
   have hea:=hea.mono hG57
   have hed:=hed.mono hG57
   refine fz rfl .no Fx.fo27_0 (.u rfl) (iA rfl .no Fx.ar23 (.u rfl) (.u rfl) (fun _=>by omega) (fun _=>by omega) ?_)
   refine s1v rfl (.u rfl) (.u rfl) .here Fx.sz22 (.there (.there (.there (.there (.there (.there .here)))))) (by show _<14; decide) (rfl) ?_
   refine .nil (.blk (.code (Wk.rg [0,1] rfl rfl (arn (((0+1):Nat):Int) rfl .no (.u rfl) (.u rfl) rfl (fun _=>by omega) (fun _=>wrap_i64 (by omega) (by omega)) ?_))))
   refine mv rfl .no (.u rfl) (.nil (We.lpo (1,v57,w1,w2,w3,w4) ?_ ?_ ?_ ?_ ?_))
   ·exact (ESub.cons rfl (by first|rfl|exact evi (by omega)) (ESub.c rfl (ESub.c rfl (ESub.c rfl ESub.nil))))
   ·exact (MSub.cons (.there (.there .here)) rfl (MSub.cons (.there (.there .here)) rfl (MSub.cons (.there (.there .here)) rfl (MSub.cons (.there (.there .here)) rfl (MSub.cons (.there .here) rfl (MSub.cons .here rfl (MSub.cons (.there .here) rfl (MSub.cons (.there .here) rfl (MSub.cons (.there .here) rfl MSub.nil)))))))))
   ·first|omega|(dsimp only; omega)
   ·exact (hGl0).trans hG57
   (try dsimp only)<;>(first|omega|rfl|assumption|(simp; done))
  ·refine Wk.rg [0,1,2,3,4,5,6,7,8] rfl rfl (mv rfl .no (.u rfl) (mv rfl .no (.u rfl) (fz rfl .no Fx.fo27_0 (.u rfl) (iA rfl .no Fx.ar23 (.u rfl) (.u rfl) (fun _=>by omega) (fun _=>by omega) ?_))))
   refine ld (v:=((hd 1).val (s.lv 1).length)) rfl .no Fx.ag22 (.u rfl) (fun _=>Rd.own (.there (.there (.there (.there (.there .here))))) rfl) ?_
   refine kc rfl Fx.go50 (Evc rfl Evn) (clone_ok (hd 1) (s.lv 1) _ (hs.lv 1 (by decide)) (by have:=lv_tot s (i:=1) (by decide); omega)) ?_
   rintro v57 G57 μ57 hG57 ⟨ov57,rfl⟩
   have hs:=hs.mono hG57
   have hea:=hea.mono hG57
   have hed:=hed.mono hG57
   refine fz rfl .no Fx.fo27_0 (.u rfl) (iA rfl .no Fx.ar23 (.u rfl) (.u rfl) (fun _=>by omega) (fun _=>by omega) ?_)
   refine s1v rfl (.u rfl) (.u rfl) .here Fx.sz22 (.there (.there (.there (.there (.there (.there .here)))))) (by show _<14; decide) (rfl) ?_
   refine .nil (.blk (.code (Wk.rg [0,1] rfl rfl (arn (((1+1):Nat):Int) rfl .no (.u rfl) (.u rfl) rfl (fun _=>by omega) (fun _=>wrap_i64 (by omega) (by omega)) ?_))))
   refine mv rfl .no (.u rfl) (.nil (We.lpo (2,w0,v57,w2,w3,w4) ?_ ?_ ?_ ?_ ?_))
   ·exact (ESub.cons rfl (by first|rfl|exact evi (by omega)) (ESub.c rfl (ESub.c rfl (ESub.c rfl ESub.nil))))
   ·exact (MSub.cons (.there (.there .here)) rfl (MSub.cons (.there (.there .here)) rfl (MSub.cons (.there (.there .here)) rfl (MSub.cons (.there .here) rfl (MSub.cons (.there (.there .here)) rfl (MSub.cons .here rfl (MSub.cons (.there .here) rfl (MSub.cons (.there .here) rfl (MSub.cons (.there .here) rfl MSub.nil)))))))))
   ·first|omega|(dsimp only; omega)
   ·exact (hGl0).trans hG57
   (try dsimp only)<;>(first|omega|rfl|assumption|(simp; done))
  ·refine Wk.rg [0,1,2,3,4,5,6,7,8] rfl rfl (mv rfl .no (.u rfl) (mv rfl .no (.u rfl) (fz rfl .no Fx.fo27_0 (.u rfl) (iA rfl .no Fx.ar23 (.u rfl) (.u rfl) (fun _=>by omega) (fun _=>by omega) ?_))))
   refine ld (v:=((hd 2).val (s.lv 2).length)) rfl .no Fx.ag22 (.u rfl) (fun _=>Rd.own (.there (.there (.there (.there (.there .here))))) rfl) ?_
   refine kc rfl Fx.go50 (Evc rfl Evn) (clone_ok (hd 2) (s.lv 2) _ (hs.lv 2 (by decide)) (by have:=lv_tot s (i:=2) (by decide); omega)) ?_
   rintro v57 G57 μ57 hG57 ⟨ov57,rfl⟩
   have hs:=hs.mono hG57
   have hea:=hea.mono hG57
   have hed:=hed.mono hG57
   refine fz rfl .no Fx.fo27_0 (.u rfl) (iA rfl .no Fx.ar23 (.u rfl) (.u rfl) (fun _=>by omega) (fun _=>by omega) ?_)
   refine s1v rfl (.u rfl) (.u rfl) .here Fx.sz22 (.there (.there (.there (.there (.there (.there .here)))))) (by show _<14; decide) (rfl) ?_
   refine .nil (.blk (.code (Wk.rg [0,1] rfl rfl (arn (((2+1):Nat):Int) rfl .no (.u rfl) (.u rfl) rfl (fun _=>by omega) (fun _=>wrap_i64 (by omega) (by omega)) ?_))))
   refine mv rfl .no (.u rfl) (.nil (We.lpo (3,w0,w1,v57,w3,w4) ?_ ?_ ?_ ?_ ?_))
   ·exact (ESub.cons rfl (by first|rfl|exact evi (by omega)) (ESub.c rfl (ESub.c rfl (ESub.c rfl ESub.nil))))
   ·exact (MSub.cons (.there (.there .here)) rfl (MSub.cons (.there (.there .here)) rfl (MSub.cons (.there .here) rfl (MSub.cons (.there (.there .here)) rfl (MSub.cons (.there (.there .here)) rfl (MSub.cons .here rfl (MSub.cons (.there .here) rfl (MSub.cons (.there .here) rfl (MSub.cons (.there .here) rfl MSub.nil)))))))))
   ·first|omega|(dsimp only; omega)
   ·exact (hGl0).trans hG57
   (try dsimp only)<;>(first|omega|rfl|assumption|(simp; done))
  ·refine Wk.rg [0,1,2,3,4,5,6,7,8] rfl rfl (mv rfl .no (.u rfl) (mv rfl .no (.u rfl) (fz rfl .no Fx.fo27_0 (.u rfl) (iA rfl .no Fx.ar23 (.u rfl) (.u rfl) (fun _=>by omega) (fun _=>by omega) ?_))))
   refine ld (v:=((hd 3).val (s.lv 3).length)) rfl .no Fx.ag22 (.u rfl) (fun _=>Rd.own (.there (.there (.there (.there (.there .here))))) rfl) ?_
   refine kc rfl Fx.go50 (Evc rfl Evn) (clone_ok (hd 3) (s.lv 3) _ (hs.lv 3 (by decide)) (by have:=lv_tot s (i:=3) (by decide); omega)) ?_
   rintro v57 G57 μ57 hG57 ⟨ov57,rfl⟩
   have hs:=hs.mono hG57
   have hea:=hea.mono hG57
   have hed:=hed.mono hG57
   refine fz rfl .no Fx.fo27_0 (.u rfl) (iA rfl .no Fx.ar23 (.u rfl) (.u rfl) (fun _=>by omega) (fun _=>by omega) ?_)
   refine s1v rfl (.u rfl) (.u rfl) .here Fx.sz22 (.there (.there (.there (.there (.there (.there .here)))))) (by show _<14; decide) (rfl) ?_
   refine .nil (.blk (.code (Wk.rg [0,1] rfl rfl (arn (((3+1):Nat):Int) rfl .no (.u rfl) (.u rfl) rfl (fun _=>by omega) (fun _=>wrap_i64 (by omega) (by omega)) ?_))))
   refine mv rfl .no (.u rfl) (.nil (We.lpo (4,w0,w1,w2,v57,w4) ?_ ?_ ?_ ?_ ?_))
   ·exact (ESub.cons rfl (by first|rfl|exact evi (by omega)) (ESub.c rfl (ESub.c rfl (ESub.c rfl ESub.nil))))
   ·exact (MSub.cons (.there (.there .here)) rfl (MSub.cons (.there .here) rfl (MSub.cons (.there (.there .here)) rfl (MSub.cons (.there (.there .here)) rfl (MSub.cons (.there (.there .here)) rfl (MSub.cons .here rfl (MSub.cons (.there .here) rfl (MSub.cons (.there .here) rfl (MSub.cons (.there .here) rfl MSub.nil)))))))))
   ·first|omega|(dsimp only; omega)
   ·exact (hGl0).trans hG57
   (try dsimp only)<;>(first|omega|rfl|assumption|(simp; done))
  refine Wk.rg [0,1,2,3,4,5,6,7,8] rfl rfl (mv rfl .no (.u rfl) (mv rfl .no (.u rfl) (fz rfl .no Fx.fo27_0 (.u rfl) (iA rfl .no Fx.ar23 (.u rfl) (.u rfl) (fun _=>by omega) (fun _=>by omega) ?_))))
  refine ld (v:=((hd 4).val (s.lv 4).length)) rfl .no Fx.ag22 (.u rfl) (fun _=>Rd.own (.there (.there (.there (.there (.there .here))))) rfl) ?_
  refine kc rfl Fx.go50 (Evc rfl Evn) (clone_ok (hd 4) (s.lv 4) _ (hs.lv 4 (by decide)) (by have:=lv_tot s (i:=4) (by decide); omega)) ?_
  rintro v57 G57 μ57 hG57 ⟨ov57,rfl⟩
  have hs:=hs.mono hG57
  have hea:=hea.mono hG57
  have hed:=hed.mono hG57
  refine fz rfl .no Fx.fo27_0 (.u rfl) (iA rfl .no Fx.ar23 (.u rfl) (.u rfl) (fun _=>by omega) (fun _=>by omega) ?_)
  refine s1v rfl (.u rfl) (.u rfl) .here Fx.sz22 (.there (.there (.there (.there (.there (.there .here)))))) (by show _<14; decide) (rfl) ?_
  refine .nil (.blk (.code (Wk.rg [0,1] rfl rfl (arn (((4+1):Nat):Int) rfl .no (.u rfl) (.u rfl) rfl (fun _=>by omega) (fun _=>wrap_i64 (by omega) (by omega)) ?_))))
  refine mv rfl .no (.u rfl) (.nil (We.lpo (5,w0,w1,w2,w3,v57) ?_ ?_ ?_ ?_ ?_))
  ·exact (ESub.cons rfl (by first|rfl|exact evi (by omega)) (ESub.c rfl (ESub.c rfl (ESub.c rfl ESub.nil))))
  ·exact (MSub.cons (.there .here) rfl (MSub.cons (.there (.there .here)) rfl (MSub.cons (.there (.there .here)) rfl (MSub.cons (.there (.there .here)) rfl (MSub.cons (.there (.there .here)) rfl (MSub.cons .here rfl (MSub.cons (.there .here) rfl (MSub.cons (.there .here) rfl (MSub.cons (.there .here) rfl MSub.nil)))))))))
  ·first|omega|(dsimp only; omega)
  ·exact (hGl0).trans hG57
  (try dsimp only)<;>(first|omega|rfl|assumption|(simp; done))
 have c3k:=c3
 try simp only [qcA,qcC,qcB] at c3
 refine .exit (.xcode (.xlp (.xblk (.code (.seq (.seq (Wk.rg [0,1,2,3] rfl rfl (fz rfl .no Fx.fo32_6 (.u rfl) (ld rfl .no Fx.ag30 (.u rfl) (fun _=>Rd.own (.there (.there (.there (.there (.there (.there (.there .here))))))) (by first|exact wap_f rfl|rfl)) ?_)))))))))
 refine ln rfl .no Fx.sn30 (.u rfl) (mv rfl .no (.u rfl) (.nil (.code (.block ?_))))
 obtain rfl:k=5:=by omega
 refine Wk.lop (α:=Nat×Value×Value×Value×Value×Value×Lvs) (fun gh=>[(64,true,.int .i64 (gh.1:Int))]) (fun gh=>[rS 40 Meta.cells gh.2.2.2.2.2.1 67 (gh.2.2.2.2.2.2 4),rS 40 Meta.cells gh.2.2.2.2.1 67 (gh.2.2.2.2.2.2 3),rS 40 Meta.cells gh.2.2.2.1 67 (gh.2.2.2.2.2.2 2),rS 40 Meta.cells gh.2.2.1 67 (gh.2.2.2.2.2.2 1),rS 40 Meta.cells gh.2.1 67 (gh.2.2.2.2.2.2 0),.blk b6 (cl (xC gh.2.1 gh.2.2.1 gh.2.2.2.1 gh.2.2.2.2.1 gh.2.2.2.2.2.1 e) 27)])
  (fun gh Gl=>(gh.1≤e.drop.length)∧(foldO dropF (e.drop.take gh.1) s.lv=some gh.2.2.2.2.2.2)) (fun gh=>e.drop.length-gh.1) (0,w0,w1,w2,w3,w4,s.lv) [(3,true,_),(4,true,_),(6,true,_),(62,true,_),(63,true,_)] [_,_,_]
  (ESub.cons rfl (by first|rfl|exact evi (by omega)) (ESub.c rfl (ESub.c rfl (ESub.c rfl (ESub.c rfl (ESub.c rfl ESub.nil))))))
  (MSub.cons .here rfl (MSub.cons .here rfl (MSub.cons .here rfl (MSub.cons .here rfl (MSub.cons .here rfl (MSub.cons .here rfl (MSub.cons .here rfl (MSub.cons .here rfl (MSub.cons .here rfl MSub.nil))))))))) ?_ ?_
 ·refine ⟨?_,?_⟩
  ·(try dsimp only)<;>(first|omega|rfl|assumption|(simp; done))
  (try dsimp only)<;>(rfl)
 intro gh N1 Gl1 hN1 hGl1 hF1
 obtain ⟨j,w0,w1,w2,w3,w4,L⟩:=gh; dsimp only at hF1 hN1 ⊢
 obtain ⟨hj,hL⟩:=hF1
 have hs:=hs.mono hGl1
 have hea:=hea.mono hGl1
 have hed:=hed.mono hGl1
 refine .seq (Wk.rg [0] rfl rfl (cp rfl .no (.u rfl) (.u rfl) rfl (.nil (.code (.seq (.cond rfl (fun c4=>?_) (fun c4=>?_)))))))
 ·have c4k:=c4
  try simp only [qcA,qcC,qcB] at c4
  refine .skip (.code (.seq (.block (.seq (Wk.rg [0,1,2,3] rfl rfl ?_)))))
  obtain ⟨g,eg⟩:=getx (k:=j) (xs:=e.drop) (by omega)
  have hwg:=(hE.wf.drop g (List.mem_of_getElem? eg)).level
  refine ih rfl .no Fx.se30 (.u rfl) (.u rfl) (fun _=>by omega) (fun _=>by omega) (fun _=>hed.nn (k:=j) (by first|omega|(simp only [Bool.and_eq_true,decide_eq_true_eq] at hc; omega)|(simp only [List.length_cons,List.length_nil]; omega))) ?_
  refine lA rfl .no Fx.ag94 (.u rfl) (fun _=>(hed.at (by omega) eg).rd) (fun _=>rfl) ?_
  refine al rfl Fx.zr94 ?_; intro b9
  refine sw rfl (.u rfl) (.u rfl) rfl Fx.sz94 .here rfl (gones1) ?_
  refine .nil (.code (.seq (.seq (Wk.rg [0,1,2] rfl rfl (fz rfl .no Fx.fo94_0 (.u rfl) (ld rfl .no FxVerP.ag5 (.u rfl) (fun _=>Rd.own .here (by first|exact wap_f rfl|rfl)) ?_))))))
  refine cp rfl .no (.u rfl) (.u rfl) rfl (.nil (.code (.cond rfl (fun c5=>?_) (fun c5=>?_))))
  ·have c5k:=c5
   try simp only [qcA,qcC,qcB] at c5
   refine .seq (Wk.rg [0,1,2] rfl rfl (bC rfl .no Fx.bp27_ .nil rfl ?_))
   refine sw rfl (.u rfl) (.u rfl) rfl Fx.sz27 (.there (.there (.there (.there (.there (.there (.there .here))))))) (by first|exact qE|exact qL|rfl) (State.one') ?_
   refine asg rfl .no (.u rfl) (.nil (.code (.ret (We.fin0 Tryd.results29 (.cell rfl (fun w hw=>run_loadVarN Fx.ag27 (RdN.own .here) ((by first|exact qE|exact qL|rfl)) hw) (.tmp rfl .nil)) ?_))))
   exact ⟨State.zero,hd0,180,.inr (.inl ⟨hri,ap_drop (fold_stop eg hL (dropF_high (by omega))),rfl,rfl⟩),rfl,rfl,st_zero⟩
  have c5k:=c5
  try simp only [qcA,qcC,qcB] at c5
  refine .skip (.code (.seq ?_))
  have hg5:g.level=0∨g.level=1∨g.level=2∨g.level=3∨g.level=4:=by omega
  rcases hg5 with hg5 | hg5 | hg5 | hg5 | hg5
  ·refine wk_fz .here (by intro b hb; cases hb) ?_; intro Gfb9 hleb9 hbb9
   have hs:=hs.mono hleb9
   have hea:=hea.mono hleb9
   refine Wk.rg [0,1,2,3,4] rfl rfl (fa rfl .no Fx.fo94_0 (.u rfl) (ld rfl .no FxVerP.ag5 (.u rfl) (fun _=>(hbb9.rd (by rfl)).rd) ?_))
   refine fz rfl .no Fx.fo27_0 (.u rfl) (iA rfl .no Fx.ar23 (.u rfl) (.u rfl) (fun _=>by omega) (fun _=>by omega) ?_)
   rw [show 0+g.level.toNat*1=0 from by rw [hg5]; rfl]
   refine asg rfl .no (.u rfl) (.nil (.code (.seq ?_)))
   have hll:=dropL_len hri' hL (i:=0) (by decide)
   refine Wk.rg [0,1,2,3,4,5] rfl rfl (mv rfl .no (.u rfl) (nc rfl .no (.u rfl) (ld rfl .no Fx.ag22 (.u rfl) (fun _=>Rd.own (.there (.there (.there (.there (.there .here))))) (by first|exact wap_f rfl|rfl)) ?_)))
   refine mf (vf:=#[]) (vc:=[Value.pointer (some ⟨b9,0,none⟩)].toArray) rfl .no (fun a ha _=>by simp) (fun a ha _=>by simp [(Ev.u (c:=true) rfl:Ev _ true (.tmp 9) _).eval ha rfl]) ?_
   refine ka rfl (.inr rfl) Fx.go51 (Evc rfl (Evc rfl Evn)) (mtk1 (.there (.there (.there (.there .here))))) (Ct.lendS (Q:=fun ν u=>ν=[]∧u=.int .i64 (idxI (isN g) (L 0))) (fun _ _=>Meta.len _) (fun sh G2 hle hv hsl=>by subst hv; exact idx_ok sh (L 0) G2 hsl (by omega) 52 Fx.go52 [.pointer (some ⟨b9,0,none⟩)] (isN g) (fun G3 h3 m _=>same1_ok m g b9 G3 (hbb9.mono (hle.trans h3))))) ?_
   rintro _ G80 μ80 hG80 ⟨_,rfl,rfl,rfl⟩
   have hs:=hs.mono hG80
   have hea:=hea.mono hG80
   have hbb9:=hbb9.mono hG80
   refine asg rfl .no (.u rfl) (.nil (.code (.seq (.seq (Wk.rg [0,1] rfl rfl (mv rfl .no (.u rfl) (cp rfl .no (.u rfl) (.u rfl) rfl (.nil (.code (.cond rfl (fun c6=>?_) (fun c6=>?_)))))))))))
   ·have c6k:=c6
    try simp only [qcA,qcC,qcB] at c6
    refine .seq (Wk.rg [0,1,2] rfl rfl (bC rfl .no Fx.bp27_ .nil rfl ?_))
    refine sw rfl (.u rfl) (.u rfl) rfl Fx.sz27 (.there (.there (.there (.there (.there (.there .here)))))) (by first|exact qE|exact qL|rfl) (State.one') ?_
    refine asg rfl .no (.u rfl) (.nil (.code (.ret (We.fin0 Tryd.results29 (.cell rfl (fun w hw=>run_loadVarN Fx.ag27 (RdN.own .here) ((by first|exact qE|exact qL|rfl)) hw) (.tmp rfl .nil)) ?_))))
    exact ⟨State.zero,hd0,180,.inr (.inl ⟨hri,ap_drop (fold_stop eg hL (dropF_miss (q:=0) hg5 (by assumption))),rfl,rfl⟩),rfl,rfl,st_zero⟩
   have c6k:=c6
   try simp only [qcA,qcC,qcB] at c6
   refine .skip (.code ?_)
   obtain ⟨kk,hk1,hk2⟩ : ∃ kk:Nat,idxI (isN g) (L 0)=(kk:Int)∧kk<(L 0).length:=⟨_,(idx_lt (by omega)).2,(idx_lt (by omega)).1⟩
   rw [hk1]
   refine Wk.rg [0,1,2,3,4,5,6,7,8,9] rfl rfl (mv rfl .no (.u rfl) (mv rfl .no (.u rfl) (nc rfl .no (.u rfl) (ld rfl .no Fx.ag22 (.u rfl) (fun _=>Rd.own (.there (.there (.there (.there (.there .here))))) (by first|exact wap_f rfl|rfl)) ?_))))
   refine mv rfl .no (.u rfl) (mv rfl .no (.u rfl) (arn (((kk+1):Nat):Int) rfl .no (.u rfl) (.u rfl) rfl (fun _=>by omega) (fun _=>wrap_i64 (by omega) (by omega)) ?_))
   refine ka rfl (.inr rfl) Fx.go53 (Evc rfl (Evc rfl (Evc rfl Evn))) (mtk1 .here) (del_ok (L 0) w0 kk _ hk2 (by omega)) ?_
   rintro v91 G91 μ91 hG91 rfl
   have hs:=hs.mono hG91
   have hea:=hea.mono hG91
   have hbb9:=hbb9.mono hG91
   refine nc rfl .no (.u rfl) (s1v rfl (.u rfl) (.u rfl) .here Fx.sz22 (.there (.there (.there (.there (.there .here))))) (by show _<14; first|decide|omega) (rfl) ?_)
   refine .nil (.blk (.code (Wk.rg [0,1] rfl rfl (arn (((j+1):Nat):Int) rfl .no (.u rfl) (.u rfl) rfl (fun _=>by omega) (fun _=>wrap_i64 (by omega) (by omega)) ?_))))
   refine mv rfl .no (.u rfl) (.nil (We.lpo (j+1,v91,w1,w2,w3,w4,updL L 0 ((L 0).take kk++(L 0).drop (kk+1))) ?_ ?_ ?_ ?_ ?_))
   ·exact (ESub.cons rfl (by first|rfl|exact evi (by omega)) (ESub.c rfl (ESub.c rfl (ESub.c rfl (ESub.c rfl (ESub.c rfl ESub.nil))))))
   ·exact (MSub.cons (.there (.there .here)) rfl (MSub.cons (.there (.there .here)) rfl (MSub.cons (.there (.there .here)) rfl (MSub.cons (.there (.there .here)) rfl (MSub.cons (.there .here) rfl (MSub.cons .here rfl (MSub.cons .here rfl (MSub.cons .here rfl (MSub.cons .here rfl MSub.nil)))))))))
   ·first|omega|(dsimp only; omega)
   ·exact (((hGl1).trans hleb9).trans hG80).trans hG91
   refine ⟨?_,?_⟩
   ·(try dsimp only)<;>(first|omega|rfl|assumption|(simp; done))
   (try dsimp only)<;>(exact fold_step eg hL (dropF_hit hg5 (by decide) hk1))
  ·refine wk_fz .here (by intro b hb; cases hb) ?_; intro Gfb9 hleb9 hbb9
   have hs:=hs.mono hleb9
   have hea:=hea.mono hleb9
   refine Wk.rg [0,1,2,3,4] rfl rfl (fa rfl .no Fx.fo94_0 (.u rfl) (ld rfl .no FxVerP.ag5 (.u rfl) (fun _=>(hbb9.rd (by rfl)).rd) ?_))
   refine fz rfl .no Fx.fo27_0 (.u rfl) (iA rfl .no Fx.ar23 (.u rfl) (.u rfl) (fun _=>by omega) (fun _=>by omega) ?_)
   rw [show 0+g.level.toNat*1=1 from by rw [hg5]; rfl]
   refine asg rfl .no (.u rfl) (.nil (.code (.seq ?_)))
   have hll:=dropL_len hri' hL (i:=1) (by decide)
   refine Wk.rg [0,1,2,3,4,5] rfl rfl (mv rfl .no (.u rfl) (nc rfl .no (.u rfl) (ld rfl .no Fx.ag22 (.u rfl) (fun _=>Rd.own (.there (.there (.there (.there (.there .here))))) (by first|exact wap_f rfl|rfl)) ?_)))
   refine mf (vf:=#[]) (vc:=[Value.pointer (some ⟨b9,0,none⟩)].toArray) rfl .no (fun a ha _=>by simp) (fun a ha _=>by simp [(Ev.u (c:=true) rfl:Ev _ true (.tmp 9) _).eval ha rfl]) ?_
   refine ka rfl (.inr rfl) Fx.go51 (Evc rfl (Evc rfl Evn)) (mtk1 (.there (.there (.there .here)))) (Ct.lendS (Q:=fun ν u=>ν=[]∧u=.int .i64 (idxI (isN g) (L 1))) (fun _ _=>Meta.len _) (fun sh G2 hle hv hsl=>by subst hv; exact idx_ok sh (L 1) G2 hsl (by omega) 52 Fx.go52 [.pointer (some ⟨b9,0,none⟩)] (isN g) (fun G3 h3 m _=>same1_ok m g b9 G3 (hbb9.mono (hle.trans h3))))) ?_
   rintro _ G80 μ80 hG80 ⟨_,rfl,rfl,rfl⟩
   have hs:=hs.mono hG80
   have hea:=hea.mono hG80
   have hbb9:=hbb9.mono hG80
   refine asg rfl .no (.u rfl) (.nil (.code (.seq (.seq (Wk.rg [0,1] rfl rfl (mv rfl .no (.u rfl) (cp rfl .no (.u rfl) (.u rfl) rfl (.nil (.code (.cond rfl (fun c7=>?_) (fun c7=>?_)))))))))))
   ·have c7k:=c7
    try simp only [qcA,qcC,qcB] at c7
    refine .seq (Wk.rg [0,1,2] rfl rfl (bC rfl .no Fx.bp27_ .nil rfl ?_))
    refine sw rfl (.u rfl) (.u rfl) rfl Fx.sz27 (.there (.there (.there (.there (.there (.there .here)))))) (by first|exact qE|exact qL|rfl) (State.one') ?_
    refine asg rfl .no (.u rfl) (.nil (.code (.ret (We.fin0 Tryd.results29 (.cell rfl (fun w hw=>run_loadVarN Fx.ag27 (RdN.own .here) ((by first|exact qE|exact qL|rfl)) hw) (.tmp rfl .nil)) ?_))))
    exact ⟨State.zero,hd0,180,.inr (.inl ⟨hri,ap_drop (fold_stop eg hL (dropF_miss (q:=1) hg5 (by assumption))),rfl,rfl⟩),rfl,rfl,st_zero⟩
   have c7k:=c7
   try simp only [qcA,qcC,qcB] at c7
   refine .skip (.code ?_)
   obtain ⟨kk,hk1,hk2⟩ : ∃ kk:Nat,idxI (isN g) (L 1)=(kk:Int)∧kk<(L 1).length:=⟨_,(idx_lt (by omega)).2,(idx_lt (by omega)).1⟩
   rw [hk1]
   refine Wk.rg [0,1,2,3,4,5,6,7,8,9] rfl rfl (mv rfl .no (.u rfl) (mv rfl .no (.u rfl) (nc rfl .no (.u rfl) (ld rfl .no Fx.ag22 (.u rfl) (fun _=>Rd.own (.there (.there (.there (.there (.there .here))))) (by first|exact wap_f rfl|rfl)) ?_))))
   refine mv rfl .no (.u rfl) (mv rfl .no (.u rfl) (arn (((kk+1):Nat):Int) rfl .no (.u rfl) (.u rfl) rfl (fun _=>by omega) (fun _=>wrap_i64 (by omega) (by omega)) ?_))
   refine ka rfl (.inr rfl) Fx.go53 (Evc rfl (Evc rfl (Evc rfl Evn))) (mtk1 .here) (del_ok (L 1) w1 kk _ hk2 (by omega)) ?_
   rintro v91 G91 μ91 hG91 rfl
   have hs:=hs.mono hG91
   have hea:=hea.mono hG91
   have hbb9:=hbb9.mono hG91
   refine nc rfl .no (.u rfl) (s1v rfl (.u rfl) (.u rfl) .here Fx.sz22 (.there (.there (.there (.there (.there .here))))) (by show _<14; first|decide|omega) (rfl) ?_)
   refine .nil (.blk (.code (Wk.rg [0,1] rfl rfl (arn (((j+1):Nat):Int) rfl .no (.u rfl) (.u rfl) rfl (fun _=>by omega) (fun _=>wrap_i64 (by omega) (by omega)) ?_))))
   refine mv rfl .no (.u rfl) (.nil (We.lpo (j+1,w0,v91,w2,w3,w4,updL L 1 ((L 1).take kk++(L 1).drop (kk+1))) ?_ ?_ ?_ ?_ ?_))
   ·exact (ESub.cons rfl (by first|rfl|exact evi (by omega)) (ESub.c rfl (ESub.c rfl (ESub.c rfl (ESub.c rfl (ESub.c rfl ESub.nil))))))
   ·exact (MSub.cons (.there (.there .here)) rfl (MSub.cons (.there (.there .here)) rfl (MSub.cons (.there (.there .here)) rfl (MSub.cons (.there .here) rfl (MSub.cons (.there .here) rfl (MSub.cons .here rfl (MSub.cons .here rfl (MSub.cons .here rfl (MSub.cons .here rfl MSub.nil)))))))))
   ·first|omega|(dsimp only; omega)
   ·exact (((hGl1).trans hleb9).trans hG80).trans hG91
   refine ⟨?_,?_⟩
   ·(try dsimp only)<;>(first|omega|rfl|assumption|(simp; done))
   (try dsimp only)<;>(exact fold_step eg hL (dropF_hit hg5 (by decide) hk1))
  ·refine wk_fz .here (by intro b hb; cases hb) ?_; intro Gfb9 hleb9 hbb9
   have hs:=hs.mono hleb9
   have hea:=hea.mono hleb9
   refine Wk.rg [0,1,2,3,4] rfl rfl (fa rfl .no Fx.fo94_0 (.u rfl) (ld rfl .no FxVerP.ag5 (.u rfl) (fun _=>(hbb9.rd (by rfl)).rd) ?_))
   refine fz rfl .no Fx.fo27_0 (.u rfl) (iA rfl .no Fx.ar23 (.u rfl) (.u rfl) (fun _=>by omega) (fun _=>by omega) ?_)
   rw [show 0+g.level.toNat*1=2 from by rw [hg5]; rfl]
   refine asg rfl .no (.u rfl) (.nil (.code (.seq ?_)))
   have hll:=dropL_len hri' hL (i:=2) (by decide)
   refine Wk.rg [0,1,2,3,4,5] rfl rfl (mv rfl .no (.u rfl) (nc rfl .no (.u rfl) (ld rfl .no Fx.ag22 (.u rfl) (fun _=>Rd.own (.there (.there (.there (.there (.there .here))))) (by first|exact wap_f rfl|rfl)) ?_)))
   refine mf (vf:=#[]) (vc:=[Value.pointer (some ⟨b9,0,none⟩)].toArray) rfl .no (fun a ha _=>by simp) (fun a ha _=>by simp [(Ev.u (c:=true) rfl:Ev _ true (.tmp 9) _).eval ha rfl]) ?_
   refine ka rfl (.inr rfl) Fx.go51 (Evc rfl (Evc rfl Evn)) (mtk1 (.there (.there .here))) (Ct.lendS (Q:=fun ν u=>ν=[]∧u=.int .i64 (idxI (isN g) (L 2))) (fun _ _=>Meta.len _) (fun sh G2 hle hv hsl=>by subst hv; exact idx_ok sh (L 2) G2 hsl (by omega) 52 Fx.go52 [.pointer (some ⟨b9,0,none⟩)] (isN g) (fun G3 h3 m _=>same1_ok m g b9 G3 (hbb9.mono (hle.trans h3))))) ?_
   rintro _ G80 μ80 hG80 ⟨_,rfl,rfl,rfl⟩
   have hs:=hs.mono hG80
   have hea:=hea.mono hG80
   have hbb9:=hbb9.mono hG80
   refine asg rfl .no (.u rfl) (.nil (.code (.seq (.seq (Wk.rg [0,1] rfl rfl (mv rfl .no (.u rfl) (cp rfl .no (.u rfl) (.u rfl) rfl (.nil (.code (.cond rfl (fun c8=>?_) (fun c8=>?_)))))))))))
   ·have c8k:=c8
    try simp only [qcA,qcC,qcB] at c8
    refine .seq (Wk.rg [0,1,2] rfl rfl (bC rfl .no Fx.bp27_ .nil rfl ?_))
    refine sw rfl (.u rfl) (.u rfl) rfl Fx.sz27 (.there (.there (.there (.there (.there (.there .here)))))) (by first|exact qE|exact qL|rfl) (State.one') ?_
    refine asg rfl .no (.u rfl) (.nil (.code (.ret (We.fin0 Tryd.results29 (.cell rfl (fun w hw=>run_loadVarN Fx.ag27 (RdN.own .here) ((by first|exact qE|exact qL|rfl)) hw) (.tmp rfl .nil)) ?_))))
    exact ⟨State.zero,hd0,180,.inr (.inl ⟨hri,ap_drop (fold_stop eg hL (dropF_miss (q:=2) hg5 (by assumption))),rfl,rfl⟩),rfl,rfl,st_zero⟩
   have c8k:=c8
   try simp only [qcA,qcC,qcB] at c8
   refine .skip (.code ?_)
   obtain ⟨kk,hk1,hk2⟩ : ∃ kk:Nat,idxI (isN g) (L 2)=(kk:Int)∧kk<(L 2).length:=⟨_,(idx_lt (by omega)).2,(idx_lt (by omega)).1⟩
   rw [hk1]
   refine Wk.rg [0,1,2,3,4,5,6,7,8,9] rfl rfl (mv rfl .no (.u rfl) (mv rfl .no (.u rfl) (nc rfl .no (.u rfl) (ld rfl .no Fx.ag22 (.u rfl) (fun _=>Rd.own (.there (.there (.there (.there (.there .here))))) (by first|exact wap_f rfl|rfl)) ?_))))
   refine mv rfl .no (.u rfl) (mv rfl .no (.u rfl) (arn (((kk+1):Nat):Int) rfl .no (.u rfl) (.u rfl) rfl (fun _=>by omega) (fun _=>wrap_i64 (by omega) (by omega)) ?_))
   refine ka rfl (.inr rfl) Fx.go53 (Evc rfl (Evc rfl (Evc rfl Evn))) (mtk1 .here) (del_ok (L 2) w2 kk _ hk2 (by omega)) ?_
   rintro v91 G91 μ91 hG91 rfl
   have hs:=hs.mono hG91
   have hea:=hea.mono hG91
   have hbb9:=hbb9.mono hG91
   refine nc rfl .no (.u rfl) (s1v rfl (.u rfl) (.u rfl) .here Fx.sz22 (.there (.there (.there (.there (.there .here))))) (by show _<14; first|decide|omega) (rfl) ?_)
   refine .nil (.blk (.code (Wk.rg [0,1] rfl rfl (arn (((j+1):Nat):Int) rfl .no (.u rfl) (.u rfl) rfl (fun _=>by omega) (fun _=>wrap_i64 (by omega) (by omega)) ?_))))
   refine mv rfl .no (.u rfl) (.nil (We.lpo (j+1,w0,w1,v91,w3,w4,updL L 2 ((L 2).take kk++(L 2).drop (kk+1))) ?_ ?_ ?_ ?_ ?_))
   ·exact (ESub.cons rfl (by first|rfl|exact evi (by omega)) (ESub.c rfl (ESub.c rfl (ESub.c rfl (ESub.c rfl (ESub.c rfl ESub.nil))))))
   ·exact (MSub.cons (.there (.there .here)) rfl (MSub.cons (.there (.there .here)) rfl (MSub.cons (.there .here) rfl (MSub.cons (.there .here) rfl (MSub.cons (.there .here) rfl (MSub.cons .here rfl (MSub.cons .here rfl (MSub.cons .here rfl (MSub.cons .here rfl MSub.nil)))))))))
   ·first|omega|(dsimp only; omega)
   ·exact (((hGl1).trans hleb9).trans hG80).trans hG91
   refine ⟨?_,?_⟩
   ·(try dsimp only)<;>(first|omega|rfl|assumption|(simp; done))
   (try dsimp only)<;>(exact fold_step eg hL (dropF_hit hg5 (by decide) hk1))
  ·refine wk_fz .here (by intro b hb; cases hb) ?_; intro Gfb9 hleb9 hbb9
   have hs:=hs.mono hleb9
   have hea:=hea.mono hleb9
   refine Wk.rg [0,1,2,3,4] rfl rfl (fa rfl .no Fx.fo94_0 (.u rfl) (ld rfl .no FxVerP.ag5 (.u rfl) (fun _=>(hbb9.rd (by rfl)).rd) ?_))
   refine fz rfl .no Fx.fo27_0 (.u rfl) (iA rfl .no Fx.ar23 (.u rfl) (.u rfl) (fun _=>by omega) (fun _=>by omega) ?_)
   rw [show 0+g.level.toNat*1=3 from by rw [hg5]; rfl]
   refine asg rfl .no (.u rfl) (.nil (.code (.seq ?_)))
   have hll:=dropL_len hri' hL (i:=3) (by decide)
   refine Wk.rg [0,1,2,3,4,5] rfl rfl (mv rfl .no (.u rfl) (nc rfl .no (.u rfl) (ld rfl .no Fx.ag22 (.u rfl) (fun _=>Rd.own (.there (.there (.there (.there (.there .here))))) (by first|exact wap_f rfl|rfl)) ?_)))
   refine mf (vf:=#[]) (vc:=[Value.pointer (some ⟨b9,0,none⟩)].toArray) rfl .no (fun a ha _=>by simp) (fun a ha _=>by simp [(Ev.u (c:=true) rfl:Ev _ true (.tmp 9) _).eval ha rfl]) ?_
   refine ka rfl (.inr rfl) Fx.go51 (Evc rfl (Evc rfl Evn)) (mtk1 (.there .here)) (Ct.lendS (Q:=fun ν u=>ν=[]∧u=.int .i64 (idxI (isN g) (L 3))) (fun _ _=>Meta.len _) (fun sh G2 hle hv hsl=>by subst hv; exact idx_ok sh (L 3) G2 hsl (by omega) 52 Fx.go52 [.pointer (some ⟨b9,0,none⟩)] (isN g) (fun G3 h3 m _=>same1_ok m g b9 G3 (hbb9.mono (hle.trans h3))))) ?_
   rintro _ G80 μ80 hG80 ⟨_,rfl,rfl,rfl⟩
   have hs:=hs.mono hG80
   have hea:=hea.mono hG80
   have hbb9:=hbb9.mono hG80
   refine asg rfl .no (.u rfl) (.nil (.code (.seq (.seq (Wk.rg [0,1] rfl rfl (mv rfl .no (.u rfl) (cp rfl .no (.u rfl) (.u rfl) rfl (.nil (.code (.cond rfl (fun c9=>?_) (fun c9=>?_)))))))))))
   ·have c9k:=c9
    try simp only [qcA,qcC,qcB] at c9
    refine .seq (Wk.rg [0,1,2] rfl rfl (bC rfl .no Fx.bp27_ .nil rfl ?_))
    refine sw rfl (.u rfl) (.u rfl) rfl Fx.sz27 (.there (.there (.there (.there (.there (.there .here)))))) (by first|exact qE|exact qL|rfl) (State.one') ?_
    refine asg rfl .no (.u rfl) (.nil (.code (.ret (We.fin0 Tryd.results29 (.cell rfl (fun w hw=>run_loadVarN Fx.ag27 (RdN.own .here) ((by first|exact qE|exact qL|rfl)) hw) (.tmp rfl .nil)) ?_))))
    exact ⟨State.zero,hd0,180,.inr (.inl ⟨hri,ap_drop (fold_stop eg hL (dropF_miss (q:=3) hg5 (by assumption))),rfl,rfl⟩),rfl,rfl,st_zero⟩
   have c9k:=c9
   try simp only [qcA,qcC,qcB] at c9
   refine .skip (.code ?_)
   obtain ⟨kk,hk1,hk2⟩ : ∃ kk:Nat,idxI (isN g) (L 3)=(kk:Int)∧kk<(L 3).length:=⟨_,(idx_lt (by omega)).2,(idx_lt (by omega)).1⟩
   rw [hk1]
   refine Wk.rg [0,1,2,3,4,5,6,7,8,9] rfl rfl (mv rfl .no (.u rfl) (mv rfl .no (.u rfl) (nc rfl .no (.u rfl) (ld rfl .no Fx.ag22 (.u rfl) (fun _=>Rd.own (.there (.there (.there (.there (.there .here))))) (by first|exact wap_f rfl|rfl)) ?_))))
   refine mv rfl .no (.u rfl) (mv rfl .no (.u rfl) (arn (((kk+1):Nat):Int) rfl .no (.u rfl) (.u rfl) rfl (fun _=>by omega) (fun _=>wrap_i64 (by omega) (by omega)) ?_))
   refine ka rfl (.inr rfl) Fx.go53 (Evc rfl (Evc rfl (Evc rfl Evn))) (mtk1 .here) (del_ok (L 3) w3 kk _ hk2 (by omega)) ?_
   rintro v91 G91 μ91 hG91 rfl
   have hs:=hs.mono hG91
   have hea:=hea.mono hG91
   have hbb9:=hbb9.mono hG91
   refine nc rfl .no (.u rfl) (s1v rfl (.u rfl) (.u rfl) .here Fx.sz22 (.there (.there (.there (.there (.there .here))))) (by show _<14; first|decide|omega) (rfl) ?_)
   refine .nil (.blk (.code (Wk.rg [0,1] rfl rfl (arn (((j+1):Nat):Int) rfl .no (.u rfl) (.u rfl) rfl (fun _=>by omega) (fun _=>wrap_i64 (by omega) (by omega)) ?_))))
   refine mv rfl .no (.u rfl) (.nil (We.lpo (j+1,w0,w1,w2,v91,w4,updL L 3 ((L 3).take kk++(L 3).drop (kk+1))) ?_ ?_ ?_ ?_ ?_))
   ·exact (ESub.cons rfl (by first|rfl|exact evi (by omega)) (ESub.c rfl (ESub.c rfl (ESub.c rfl (ESub.c rfl (ESub.c rfl ESub.nil))))))
   ·exact (MSub.cons (.there (.there .here)) rfl (MSub.cons (.there .here) rfl (MSub.cons (.there .here) rfl (MSub.cons (.there .here) rfl (MSub.cons (.there .here) rfl (MSub.cons .here rfl (MSub.cons .here rfl (MSub.cons .here rfl (MSub.cons .here rfl MSub.nil)))))))))
   ·first|omega|(dsimp only; omega)
   ·exact (((hGl1).trans hleb9).trans hG80).trans hG91
   refine ⟨?_,?_⟩
   ·(try dsimp only)<;>(first|omega|rfl|assumption|(simp; done))
   (try dsimp only)<;>(exact fold_step eg hL (dropF_hit hg5 (by decide) hk1))
  refine wk_fz .here (by intro b hb; cases hb) ?_; intro Gfb9 hleb9 hbb9
  have hs:=hs.mono hleb9
  have hea:=hea.mono hleb9
  refine Wk.rg [0,1,2,3,4] rfl rfl (fa rfl .no Fx.fo94_0 (.u rfl) (ld rfl .no FxVerP.ag5 (.u rfl) (fun _=>(hbb9.rd (by rfl)).rd) ?_))
  refine fz rfl .no Fx.fo27_0 (.u rfl) (iA rfl .no Fx.ar23 (.u rfl) (.u rfl) (fun _=>by omega) (fun _=>by omega) ?_)
  rw [show 0+g.level.toNat*1=4 from by rw [hg5]; rfl]
  refine asg rfl .no (.u rfl) (.nil (.code (.seq ?_)))
  have hll:=dropL_len hri' hL (i:=4) (by decide)
  refine Wk.rg [0,1,2,3,4,5] rfl rfl (mv rfl .no (.u rfl) (nc rfl .no (.u rfl) (ld rfl .no Fx.ag22 (.u rfl) (fun _=>Rd.own (.there (.there (.there (.there (.there .here))))) (by first|exact wap_f rfl|rfl)) ?_)))
  refine mf (vf:=#[]) (vc:=[Value.pointer (some ⟨b9,0,none⟩)].toArray) rfl .no (fun a ha _=>by simp) (fun a ha _=>by simp [(Ev.u (c:=true) rfl:Ev _ true (.tmp 9) _).eval ha rfl]) ?_
  refine ka rfl (.inr rfl) Fx.go51 (Evc rfl (Evc rfl Evn)) (mtk1 .here) (Ct.lendS (Q:=fun ν u=>ν=[]∧u=.int .i64 (idxI (isN g) (L 4))) (fun _ _=>Meta.len _) (fun sh G2 hle hv hsl=>by subst hv; exact idx_ok sh (L 4) G2 hsl (by omega) 52 Fx.go52 [.pointer (some ⟨b9,0,none⟩)] (isN g) (fun G3 h3 m _=>same1_ok m g b9 G3 (hbb9.mono (hle.trans h3))))) ?_
  rintro _ G80 μ80 hG80 ⟨_,rfl,rfl,rfl⟩
  have hs:=hs.mono hG80
  have hea:=hea.mono hG80
  refine asg rfl .no (.u rfl) (.nil (.code (.seq (.seq (Wk.rg [0,1] rfl rfl (mv rfl .no (.u rfl) (cp rfl .no (.u rfl) (.u rfl) rfl (.nil (.code (.cond rfl (fun c10=>?_) (fun c10=>?_)))))))))))
  ·have c10k:=c10
   try simp only [qcA,qcC,qcB] at c10
   refine .seq (Wk.rg [0,1,2] rfl rfl (bC rfl .no Fx.bp27_ .nil rfl ?_))
   refine sw rfl (.u rfl) (.u rfl) rfl Fx.sz27 (.there (.there (.there (.there (.there (.there .here)))))) (by first|exact qE|exact qL|rfl) (State.one') ?_
   refine asg rfl .no (.u rfl) (.nil (.code (.ret (We.fin0 Tryd.results29 (.cell rfl (fun w hw=>run_loadVarN Fx.ag27 (RdN.own .here) ((by first|exact qE|exact qL|rfl)) hw) (.tmp rfl .nil)) ?_))))
   exact ⟨State.zero,hd0,180,.inr (.inl ⟨hri,ap_drop (fold_stop eg hL (dropF_miss (q:=4) hg5 (by assumption))),rfl,rfl⟩),rfl,rfl,st_zero⟩
  have c10k:=c10
  try simp only [qcA,qcC,qcB] at c10
  refine .skip (.code ?_)
  obtain ⟨kk,hk1,hk2⟩ : ∃ kk:Nat,idxI (isN g) (L 4)=(kk:Int)∧kk<(L 4).length:=⟨_,(idx_lt (by omega)).2,(idx_lt (by omega)).1⟩
  rw [hk1]
  refine Wk.rg [0,1,2,3,4,5,6,7,8,9] rfl rfl (mv rfl .no (.u rfl) (mv rfl .no (.u rfl) (nc rfl .no (.u rfl) (ld rfl .no Fx.ag22 (.u rfl) (fun _=>Rd.own (.there (.there (.there (.there (.there .here))))) (by first|exact wap_f rfl|rfl)) ?_))))
  refine mv rfl .no (.u rfl) (mv rfl .no (.u rfl) (arn (((kk+1):Nat):Int) rfl .no (.u rfl) (.u rfl) rfl (fun _=>by omega) (fun _=>wrap_i64 (by omega) (by omega)) ?_))
  refine ka rfl (.inr rfl) Fx.go53 (Evc rfl (Evc rfl (Evc rfl Evn))) (mtk1 .here) (del_ok (L 4) w4 kk _ hk2 (by omega)) ?_
  rintro v91 G91 μ91 hG91 rfl
  have hs:=hs.mono hG91
  have hea:=hea.mono hG91
  refine nc rfl .no (.u rfl) (s1v rfl (.u rfl) (.u rfl) .here Fx.sz22 (.there (.there (.there (.there (.there .here))))) (by show _<14; first|decide|omega) (rfl) ?_)
  refine .nil (.blk (.code (Wk.rg [0,1] rfl rfl (arn (((j+1):Nat):Int) rfl .no (.u rfl) (.u rfl) rfl (fun _=>by omega) (fun _=>wrap_i64 (by omega) (by omega)) ?_))))
  refine mv rfl .no (.u rfl) (.nil (We.lpo (j+1,w0,w1,w2,w3,v91,updL L 4 ((L 4).take kk++(L 4).drop (kk+1))) ?_ ?_ ?_ ?_ ?_))
  ·exact (ESub.cons rfl (by first|rfl|exact evi (by omega)) (ESub.c rfl (ESub.c rfl (ESub.c rfl (ESub.c rfl (ESub.c rfl ESub.nil))))))
  ·exact (MSub.cons (.there .here) rfl (MSub.cons (.there .here) rfl (MSub.cons (.there .here) rfl (MSub.cons (.there .here) rfl (MSub.cons (.there .here) rfl (MSub.cons .here rfl (MSub.cons .here rfl (MSub.cons .here rfl (MSub.cons .here rfl MSub.nil)))))))))
  ·first|omega|(dsimp only; omega)
  ·exact (((hGl1).trans hleb9).trans hG80).trans hG91
  refine ⟨?_,?_⟩
  ·(try dsimp only)<;>(first|omega|rfl|assumption|(simp; done))
  (try dsimp only)<;>(exact fold_step eg hL (dropF_hit hg5 (by decide) hk1))
 have c4k:=c4
 try simp only [qcA,qcC,qcB] at c4
 refine .exit (.xcode (.xlp (.xblk (.code (.seq (.seq (Wk.rg [0,1,2,3] rfl rfl (fz rfl .no Fx.fo32_5 (.u rfl) (ld rfl .no Fx.ag22 (.u rfl) (fun _=>Rd.own (.there (.there (.there (.there (.there (.there (.there .here))))))) (by first|exact wap_f rfl|rfl)) ?_)))))))))
 refine ln rfl .no Fx.sn22 (.u rfl) (mv rfl .no (.u rfl) (.nil (.code (.block ?_))))
 obtain rfl:j=e.drop.length:=by omega
 rw [List.take_length] at hL
 refine Wk.lop (α:=Nat×Value×Value×Value×Value×Value×Lvs) (fun gh=>[(97,true,.int .i64 (gh.1:Int))]) (fun gh=>[rS 40 Meta.cells gh.2.2.2.2.2.1 67 (gh.2.2.2.2.2.2 4),rS 40 Meta.cells gh.2.2.2.2.1 67 (gh.2.2.2.2.2.2 3),rS 40 Meta.cells gh.2.2.2.1 67 (gh.2.2.2.2.2.2 2),rS 40 Meta.cells gh.2.2.1 67 (gh.2.2.2.2.2.2 1),rS 40 Meta.cells gh.2.1 67 (gh.2.2.2.2.2.2 0),.blk b6 (cl (xC gh.2.1 gh.2.2.1 gh.2.2.2.1 gh.2.2.2.2.1 gh.2.2.2.2.2.1 e) 27)])
  (fun gh Gl=>(gh.1≤e.add.length)∧(foldO addF (e.add.take gh.1) L=some gh.2.2.2.2.2.2)) (fun gh=>e.add.length-gh.1) (0,w0,w1,w2,w3,w4,L) [(4,true,_),(6,true,_),(95,true,_),(96,true,_)] [_,_,_]
  (ESub.cons rfl (by first|rfl|exact evi (by omega)) (ESub.c rfl (ESub.c rfl (ESub.c rfl (ESub.c rfl ESub.nil)))))
  (MSub.cons .here rfl (MSub.cons .here rfl (MSub.cons .here rfl (MSub.cons .here rfl (MSub.cons .here rfl (MSub.cons .here rfl (MSub.cons .here rfl (MSub.cons .here rfl (MSub.cons .here rfl MSub.nil))))))))) ?_ ?_
 ·refine ⟨?_,?_⟩
  ·(try dsimp only)<;>(first|omega|rfl|assumption|(simp; done))
  (try dsimp only)<;>(rfl)
 intro gh N2 Gl2 hN2 hGl2 hF2
 obtain ⟨j,w0,w1,w2,w3,w4,L2⟩:=gh; dsimp only at hF2 hN2 ⊢
 obtain ⟨hj,hA⟩:=hF2
 have hs:=hs.mono hGl2
 have hea:=hea.mono hGl2
 refine .seq (Wk.rg [0] rfl rfl (cp rfl .no (.u rfl) (.u rfl) rfl (.nil (.code (.seq (.cond rfl (fun c11=>?_) (fun c11=>?_)))))))
 ·have c11k:=c11
  try simp only [qcA,qcC,qcB] at c11
  refine .skip (.code (.seq (.block (.seq (Wk.rg [0,1,2,3] rfl rfl ?_)))))
  obtain ⟨m,em⟩:=getx (k:=j) (xs:=e.add) (by omega)
  have hwm:=(hE.wf.add m (List.mem_of_getElem? em)).level
  refine ih rfl .no Fx.se22 (.u rfl) (.u rfl) (fun _=>by omega) (fun _=>by omega) (fun _=>hea.nn (k:=j) (by first|omega|(simp only [Bool.and_eq_true,decide_eq_true_eq] at hc; omega)|(simp only [List.length_cons,List.length_nil]; omega))) ?_
  refine lA rfl .no Fx.ag67 (.u rfl) (fun _=>(hea.at (by omega) em).rd) (fun _=>Meta.len _) ?_
  refine al rfl Fx.zq67 ?_; intro b13
  refine sw rfl (.u rfl) (.u rfl) rfl Fx.sz67 .here rfl (Meta.one _) ?_
  refine .nil (.code (.seq (.seq (Wk.rg [0,1,2] rfl rfl (fz rfl .no Fx.fo67_0 (.u rfl) (ld rfl .no FxVerP.ag5 (.u rfl) (fun _=>Rd.own .here (by first|exact wap_f rfl|rfl)) ?_))))))
  refine cp rfl .no (.u rfl) (.u rfl) rfl (.nil (.code (.cond rfl (fun c12=>?_) (fun c12=>?_))))
  ·have c12k:=c12
   try simp only [qcA,qcC,qcB] at c12
   refine .seq (Wk.rg [0,1,2] rfl rfl (bC rfl .no Fx.bp27_ .nil rfl ?_))
   refine sw rfl (.u rfl) (.u rfl) rfl Fx.sz27 (.there (.there (.there (.there (.there (.there (.there .here))))))) (by first|exact qE|exact qL|rfl) (State.one') ?_
   refine asg rfl .no (.u rfl) (.nil (.code (.ret (We.fin0 Tryd.results29 (.cell rfl (fun w hw=>run_loadVarN Fx.ag27 (RdN.own .here) ((by first|exact qE|exact qL|rfl)) hw) (.tmp rfl .nil)) ?_))))
   exact ⟨State.zero,hd0,180,.inr (.inl ⟨hri,ap_add hL (fold_stop em hA (addF_high (by omega))),rfl,rfl⟩),rfl,rfl,st_zero⟩
  have c12k:=c12
  try simp only [qcA,qcC,qcB] at c12
  refine .skip (.code ?_)
  have hm5:m.level=0∨m.level=1∨m.level=2∨m.level=3∨m.level=4:=by omega
  rcases hm5 with hm5 | hm5 | hm5 | hm5 | hm5
  ·refine Wk.mix ⟨false,false⟩ FxVeSa.mix (by kernel_rfl) ?_
   have hll:=addL_len (N:=1024) hA (i:=0) (dropL_len hri' hL (by decide))
   have htk:=List.length_take_le j e.add
   refine Wt.one 0 (by kernel_rfl) ?_
   refine fz rfl .no Fx.fo67_0 (.u rfl) (.nil (Wt.one 2 (by kernel_rfl) ?_))
   refine fz rfl .no Fx.fo67_0 (.u rfl) (.nil (Wt.one 3 (by kernel_rfl) ?_))
   refine ld rfl .no FxVerP.ag5 (.u rfl) (fun _=>Rd.own .here (by first|exact wap_f rfl|rfl)) ?_
   refine .nil (Wt.one 4 (by kernel_rfl) ?_)
   refine fz rfl .no Fx.fo27_0 (.u rfl) (.nil (Wt.one 5 (by kernel_rfl) ?_))
   refine iA rfl .no Fx.ar23 (.u rfl) (.u rfl) (fun _=>by omega) (fun _=>by omega) ?_
   rw [show 0+m.level.toNat*1=0 from by rw [hm5]; rfl]
   refine .nil (Wt.one 6 (by kernel_rfl) ?_)
   refine ld rfl .no Fx.ag22 (.u rfl) (fun _=>Rd.own (.there (.there (.there (.there (.there (.there .here)))))) (by first|exact wap_f rfl|rfl)) ?_
   refine .nil (Wt.one 7 (by kernel_rfl) ?_)
   refine lA rfl .no Fx.ag67 (.u rfl) (fun _=>RdN.own .here) (fun _=>Meta.len _) ?_
   refine .nil (Wt.one 10 (by kernel_rfl) ?_)
   refine fz rfl .no Fx.fo27_0 (.u rfl) (.nil (Wt.b2 1 8 (by kernel_rfl) ?_ ?_))
   ·refine ld rfl .no FxVerP.ag5 (.u rfl) (fun _=>Rd.own .here (by first|exact wap_f rfl|rfl)) ?_
    refine .nil (Wt.b1 8 (by kernel_rfl) ?_)
    refine Go.Tan.b1 rfl Fx.se22 Fx.zw67 (.u rfl) rfl rfl (by decide) ?_; intro b113
    refine .nil (Wt.b1 9 (by kernel_rfl) ?_)
    refine apS (xs:=(L2 0)) (m) rfl Fx.se22 Fx.zw67 rfl (.u rfl) (.u rfl) (.there (.there (.there (.there (.there (.there .here)))))) .here (Meta.len _) (Meta.one _) (by omega) (by unfold maxLen; omega) ?_; intro v114 ov114
    refine .nil (Wt.one 11 (by kernel_rfl) ?_)
    refine iA rfl .no Fx.ar23 (.u rfl) (.u rfl) (fun _=>by omega) (fun _=>by omega) ?_
    rw [show 0+m.level.toNat*1=0 from by rw [hm5]; rfl]
    refine .nil (Wt.b1 12 (by kernel_rfl) ?_)
    refine s1v rfl (.u rfl) (.u rfl) .here Fx.sz22 (.there (.there (.there (.there (.there (.there (.there .here))))))) (by show _<14; first|decide|omega) (rfl) ?_
    refine .nil (Wt.last (by kernel_rfl) ?_)
    refine .blk (.code (Wk.rg [0,1] rfl rfl (arn (((j+1):Nat):Int) rfl .no (.u rfl) (.u rfl) rfl (fun _=>by omega) (fun _=>wrap_i64 (by omega) (by omega)) ?_)))
    refine mv rfl .no (.u rfl) (.nil (We.lpo (j+1,v114,w1,w2,w3,w4,updL L2 0 (L2 0++[m])) ?_ ?_ ?_ ?_ ?_))
    ·exact (ESub.cons rfl (by first|rfl|exact evi (by omega)) (ESub.c rfl (ESub.c rfl (ESub.c rfl (ESub.c rfl ESub.nil)))))
    ·exact (MSub.cons (.there (.there (.there (.there .here)))) rfl (MSub.cons (.there (.there (.there (.there .here)))) rfl (MSub.cons (.there (.there (.there (.there .here)))) rfl (MSub.cons (.there (.there (.there (.there .here)))) rfl (MSub.cons (.there .here) rfl (MSub.cons .here rfl (MSub.cons (.there (.there .here)) rfl (MSub.cons (.there (.there .here)) rfl (MSub.cons (.there (.there .here)) rfl MSub.nil)))))))))
    ·first|omega|(dsimp only; omega)
    ·exact hGl2
    refine ⟨?_,?_⟩
    ·(try dsimp only)<;>(first|omega|rfl|assumption|(simp; done))
    (try dsimp only)<;>(exact fold_step em hA (addF_hit hm5 (by decide)))
   refine Go.Tan.b1 rfl Fx.se22 Fx.zw67 (.u rfl) rfl rfl (by decide) ?_; intro b113
   refine .nil (Wt.b2 1 9 (by kernel_rfl) ?_ ?_)
   ·refine ld rfl .no FxVerP.ag5 (.u rfl) (fun _=>Rd.own (.there .here) (by first|exact wap_f rfl|rfl)) ?_
    refine .nil (Wt.b1 9 (by kernel_rfl) ?_)
    refine apS (xs:=(L2 0)) (m) rfl Fx.se22 Fx.zw67 rfl (.u rfl) (.u rfl) (.there (.there (.there (.there (.there (.there .here)))))) .here (Meta.len _) (Meta.one _) (by omega) (by unfold maxLen; omega) ?_; intro v114 ov114
    refine .nil (Wt.one 11 (by kernel_rfl) ?_)
    refine iA rfl .no Fx.ar23 (.u rfl) (.u rfl) (fun _=>by omega) (fun _=>by omega) ?_
    rw [show 0+m.level.toNat*1=0 from by rw [hm5]; rfl]
    refine .nil (Wt.b1 12 (by kernel_rfl) ?_)
    refine s1v rfl (.u rfl) (.u rfl) .here Fx.sz22 (.there (.there (.there (.there (.there (.there (.there .here))))))) (by show _<14; first|decide|omega) (rfl) ?_
    refine .nil (Wt.last (by kernel_rfl) ?_)
    refine .blk (.code (Wk.rg [0,1] rfl rfl (arn (((j+1):Nat):Int) rfl .no (.u rfl) (.u rfl) rfl (fun _=>by omega) (fun _=>wrap_i64 (by omega) (by omega)) ?_)))
    refine mv rfl .no (.u rfl) (.nil (We.lpo (j+1,v114,w1,w2,w3,w4,updL L2 0 (L2 0++[m])) ?_ ?_ ?_ ?_ ?_))
    ·exact (ESub.cons rfl (by first|rfl|exact evi (by omega)) (ESub.c rfl (ESub.c rfl (ESub.c rfl (ESub.c rfl ESub.nil)))))
    ·exact (MSub.cons (.there (.there (.there (.there .here)))) rfl (MSub.cons (.there (.there (.there (.there .here)))) rfl (MSub.cons (.there (.there (.there (.there .here)))) rfl (MSub.cons (.there (.there (.there (.there .here)))) rfl (MSub.cons (.there .here) rfl (MSub.cons .here rfl (MSub.cons (.there (.there .here)) rfl (MSub.cons (.there (.there .here)) rfl (MSub.cons (.there (.there .here)) rfl MSub.nil)))))))))
    ·first|omega|(dsimp only; omega)
    ·exact hGl2
    refine ⟨?_,?_⟩
    ·(try dsimp only)<;>(first|omega|rfl|assumption|(simp; done))
    (try dsimp only)<;>(exact fold_step em hA (addF_hit hm5 (by decide)))
   refine apS (xs:=(L2 0)) (m) rfl Fx.se22 Fx.zw67 rfl (.u rfl) (.u rfl) (.there (.there (.there (.there (.there (.there .here)))))) .here (Meta.len _) (Meta.one _) (by omega) (by unfold maxLen; omega) ?_; intro v114 ov114
   refine .nil (Wt.one 1 (by kernel_rfl) ?_)
   refine ld rfl .no FxVerP.ag5 (.u rfl) (fun _=>Rd.own (.there (.there .here)) (by first|exact wap_f rfl|rfl)) ?_
   refine .nil (Wt.one 11 (by kernel_rfl) ?_)
   refine iA rfl .no Fx.ar23 (.u rfl) (.u rfl) (fun _=>by omega) (fun _=>by omega) ?_
   rw [show 0+m.level.toNat*1=0 from by rw [hm5]; rfl]
   refine .nil (Wt.b1 12 (by kernel_rfl) ?_)
   refine s1v rfl (.u rfl) (.u rfl) .here Fx.sz22 (.there (.there (.there (.there (.there (.there (.there .here))))))) (by show _<14; first|decide|omega) (rfl) ?_
   refine .nil (Wt.last (by kernel_rfl) ?_)
   refine .blk (.code (Wk.rg [0,1] rfl rfl (arn (((j+1):Nat):Int) rfl .no (.u rfl) (.u rfl) rfl (fun _=>by omega) (fun _=>wrap_i64 (by omega) (by omega)) ?_)))
   refine mv rfl .no (.u rfl) (.nil (We.lpo (j+1,v114,w1,w2,w3,w4,updL L2 0 (L2 0++[m])) ?_ ?_ ?_ ?_ ?_))
   ·exact (ESub.cons rfl (by first|rfl|exact evi (by omega)) (ESub.c rfl (ESub.c rfl (ESub.c rfl (ESub.c rfl ESub.nil)))))
   ·exact (MSub.cons (.there (.there (.there (.there .here)))) rfl (MSub.cons (.there (.there (.there (.there .here)))) rfl (MSub.cons (.there (.there (.there (.there .here)))) rfl (MSub.cons (.there (.there (.there (.there .here)))) rfl (MSub.cons (.there .here) rfl (MSub.cons .here rfl (MSub.cons (.there (.there .here)) rfl (MSub.cons (.there (.there .here)) rfl (MSub.cons (.there (.there .here)) rfl MSub.nil)))))))))
   ·first|omega|(dsimp only; omega)
   ·exact hGl2
   refine ⟨?_,?_⟩
   ·(try dsimp only)<;>(first|omega|rfl|assumption|(simp; done))
   (try dsimp only)<;>(exact fold_step em hA (addF_hit hm5 (by decide)))
  ·refine Wk.mix ⟨false,false⟩ FxVeSa.mix (by kernel_rfl) ?_
   have hll:=addL_len (N:=1024) hA (i:=1) (dropL_len hri' hL (by decide))
   have htk:=List.length_take_le j e.add
   refine Wt.one 0 (by kernel_rfl) ?_
   refine fz rfl .no Fx.fo67_0 (.u rfl) (.nil (Wt.one 2 (by kernel_rfl) ?_))
   refine fz rfl .no Fx.fo67_0 (.u rfl) (.nil (Wt.one 3 (by kernel_rfl) ?_))
   refine ld rfl .no FxVerP.ag5 (.u rfl) (fun _=>Rd.own .here (by first|exact wap_f rfl|rfl)) ?_
   refine .nil (Wt.one 4 (by kernel_rfl) ?_)
   refine fz rfl .no Fx.fo27_0 (.u rfl) (.nil (Wt.one 5 (by kernel_rfl) ?_))
   refine iA rfl .no Fx.ar23 (.u rfl) (.u rfl) (fun _=>by omega) (fun _=>by omega) ?_
   rw [show 0+m.level.toNat*1=1 from by rw [hm5]; rfl]
   refine .nil (Wt.one 6 (by kernel_rfl) ?_)
   refine ld rfl .no Fx.ag22 (.u rfl) (fun _=>Rd.own (.there (.there (.there (.there (.there (.there .here)))))) (by first|exact wap_f rfl|rfl)) ?_
   refine .nil (Wt.one 7 (by kernel_rfl) ?_)
   refine lA rfl .no Fx.ag67 (.u rfl) (fun _=>RdN.own .here) (fun _=>Meta.len _) ?_
   refine .nil (Wt.one 10 (by kernel_rfl) ?_)
   refine fz rfl .no Fx.fo27_0 (.u rfl) (.nil (Wt.b2 1 8 (by kernel_rfl) ?_ ?_))
   ·refine ld rfl .no FxVerP.ag5 (.u rfl) (fun _=>Rd.own .here (by first|exact wap_f rfl|rfl)) ?_
    refine .nil (Wt.b1 8 (by kernel_rfl) ?_)
    refine Go.Tan.b1 rfl Fx.se22 Fx.zw67 (.u rfl) rfl rfl (by decide) ?_; intro b113
    refine .nil (Wt.b1 9 (by kernel_rfl) ?_)
    refine apS (xs:=(L2 1)) (m) rfl Fx.se22 Fx.zw67 rfl (.u rfl) (.u rfl) (.there (.there (.there (.there (.there .here))))) .here (Meta.len _) (Meta.one _) (by omega) (by unfold maxLen; omega) ?_; intro v114 ov114
    refine .nil (Wt.one 11 (by kernel_rfl) ?_)
    refine iA rfl .no Fx.ar23 (.u rfl) (.u rfl) (fun _=>by omega) (fun _=>by omega) ?_
    rw [show 0+m.level.toNat*1=1 from by rw [hm5]; rfl]
    refine .nil (Wt.b1 12 (by kernel_rfl) ?_)
    refine s1v rfl (.u rfl) (.u rfl) .here Fx.sz22 (.there (.there (.there (.there (.there (.there (.there .here))))))) (by show _<14; first|decide|omega) (rfl) ?_
    refine .nil (Wt.last (by kernel_rfl) ?_)
    refine .blk (.code (Wk.rg [0,1] rfl rfl (arn (((j+1):Nat):Int) rfl .no (.u rfl) (.u rfl) rfl (fun _=>by omega) (fun _=>wrap_i64 (by omega) (by omega)) ?_)))
    refine mv rfl .no (.u rfl) (.nil (We.lpo (j+1,w0,v114,w2,w3,w4,updL L2 1 (L2 1++[m])) ?_ ?_ ?_ ?_ ?_))
    ·exact (ESub.cons rfl (by first|rfl|exact evi (by omega)) (ESub.c rfl (ESub.c rfl (ESub.c rfl (ESub.c rfl ESub.nil)))))
    ·exact (MSub.cons (.there (.there (.there (.there .here)))) rfl (MSub.cons (.there (.there (.there (.there .here)))) rfl (MSub.cons (.there (.there (.there (.there .here)))) rfl (MSub.cons (.there .here) rfl (MSub.cons (.there (.there (.there .here))) rfl (MSub.cons .here rfl (MSub.cons (.there (.there .here)) rfl (MSub.cons (.there (.there .here)) rfl (MSub.cons (.there (.there .here)) rfl MSub.nil)))))))))
    ·first|omega|(dsimp only; omega)
    ·exact hGl2
    refine ⟨?_,?_⟩
    ·(try dsimp only)<;>(first|omega|rfl|assumption|(simp; done))
    (try dsimp only)<;>(exact fold_step em hA (addF_hit hm5 (by decide)))
   refine Go.Tan.b1 rfl Fx.se22 Fx.zw67 (.u rfl) rfl rfl (by decide) ?_; intro b113
   refine .nil (Wt.b2 1 9 (by kernel_rfl) ?_ ?_)
   ·refine ld rfl .no FxVerP.ag5 (.u rfl) (fun _=>Rd.own (.there .here) (by first|exact wap_f rfl|rfl)) ?_
    refine .nil (Wt.b1 9 (by kernel_rfl) ?_)
    refine apS (xs:=(L2 1)) (m) rfl Fx.se22 Fx.zw67 rfl (.u rfl) (.u rfl) (.there (.there (.there (.there (.there .here))))) .here (Meta.len _) (Meta.one _) (by omega) (by unfold maxLen; omega) ?_; intro v114 ov114
    refine .nil (Wt.one 11 (by kernel_rfl) ?_)
    refine iA rfl .no Fx.ar23 (.u rfl) (.u rfl) (fun _=>by omega) (fun _=>by omega) ?_
    rw [show 0+m.level.toNat*1=1 from by rw [hm5]; rfl]
    refine .nil (Wt.b1 12 (by kernel_rfl) ?_)
    refine s1v rfl (.u rfl) (.u rfl) .here Fx.sz22 (.there (.there (.there (.there (.there (.there (.there .here))))))) (by show _<14; first|decide|omega) (rfl) ?_
    refine .nil (Wt.last (by kernel_rfl) ?_)
    refine .blk (.code (Wk.rg [0,1] rfl rfl (arn (((j+1):Nat):Int) rfl .no (.u rfl) (.u rfl) rfl (fun _=>by omega) (fun _=>wrap_i64 (by omega) (by omega)) ?_)))
    refine mv rfl .no (.u rfl) (.nil (We.lpo (j+1,w0,v114,w2,w3,w4,updL L2 1 (L2 1++[m])) ?_ ?_ ?_ ?_ ?_))
    ·exact (ESub.cons rfl (by first|rfl|exact evi (by omega)) (ESub.c rfl (ESub.c rfl (ESub.c rfl (ESub.c rfl ESub.nil)))))
    ·exact (MSub.cons (.there (.there (.there (.there .here)))) rfl (MSub.cons (.there (.there (.there (.there .here)))) rfl (MSub.cons (.there (.there (.there (.there .here)))) rfl (MSub.cons (.there .here) rfl (MSub.cons (.there (.there (.there .here))) rfl (MSub.cons .here rfl (MSub.cons (.there (.there .here)) rfl (MSub.cons (.there (.there .here)) rfl (MSub.cons (.there (.there .here)) rfl MSub.nil)))))))))
    ·first|omega|(dsimp only; omega)
    ·exact hGl2
    refine ⟨?_,?_⟩
    ·(try dsimp only)<;>(first|omega|rfl|assumption|(simp; done))
    (try dsimp only)<;>(exact fold_step em hA (addF_hit hm5 (by decide)))
   refine apS (xs:=(L2 1)) (m) rfl Fx.se22 Fx.zw67 rfl (.u rfl) (.u rfl) (.there (.there (.there (.there (.there .here))))) .here (Meta.len _) (Meta.one _) (by omega) (by unfold maxLen; omega) ?_; intro v114 ov114
   refine .nil (Wt.one 1 (by kernel_rfl) ?_)
   refine ld rfl .no FxVerP.ag5 (.u rfl) (fun _=>Rd.own (.there (.there .here)) (by first|exact wap_f rfl|rfl)) ?_
   refine .nil (Wt.one 11 (by kernel_rfl) ?_)
   refine iA rfl .no Fx.ar23 (.u rfl) (.u rfl) (fun _=>by omega) (fun _=>by omega) ?_
   rw [show 0+m.level.toNat*1=1 from by rw [hm5]; rfl]
   refine .nil (Wt.b1 12 (by kernel_rfl) ?_)
   refine s1v rfl (.u rfl) (.u rfl) .here Fx.sz22 (.there (.there (.there (.there (.there (.there (.there .here))))))) (by show _<14; first|decide|omega) (rfl) ?_
   refine .nil (Wt.last (by kernel_rfl) ?_)
   refine .blk (.code (Wk.rg [0,1] rfl rfl (arn (((j+1):Nat):Int) rfl .no (.u rfl) (.u rfl) rfl (fun _=>by omega) (fun _=>wrap_i64 (by omega) (by omega)) ?_)))
   refine mv rfl .no (.u rfl) (.nil (We.lpo (j+1,w0,v114,w2,w3,w4,updL L2 1 (L2 1++[m])) ?_ ?_ ?_ ?_ ?_))
   ·exact (ESub.cons rfl (by first|rfl|exact evi (by omega)) (ESub.c rfl (ESub.c rfl (ESub.c rfl (ESub.c rfl ESub.nil)))))
   ·exact (MSub.cons (.there (.there (.there (.there .here)))) rfl (MSub.cons (.there (.there (.there (.there .here)))) rfl (MSub.cons (.there (.there (.there (.there .here)))) rfl (MSub.cons (.there .here) rfl (MSub.cons (.there (.there (.there .here))) rfl (MSub.cons .here rfl (MSub.cons (.there (.there .here)) rfl (MSub.cons (.there (.there .here)) rfl (MSub.cons (.there (.there .here)) rfl MSub.nil)))))))))
   ·first|omega|(dsimp only; omega)
   ·exact hGl2
   refine ⟨?_,?_⟩
   ·(try dsimp only)<;>(first|omega|rfl|assumption|(simp; done))
   (try dsimp only)<;>(exact fold_step em hA (addF_hit hm5 (by decide)))
  ·refine Wk.mix ⟨false,false⟩ FxVeSa.mix (by kernel_rfl) ?_
   have hll:=addL_len (N:=1024) hA (i:=2) (dropL_len hri' hL (by decide))
   have htk:=List.length_take_le j e.add
   refine Wt.one 0 (by kernel_rfl) ?_
   refine fz rfl .no Fx.fo67_0 (.u rfl) (.nil (Wt.one 2 (by kernel_rfl) ?_))
   refine fz rfl .no Fx.fo67_0 (.u rfl) (.nil (Wt.one 3 (by kernel_rfl) ?_))
   refine ld rfl .no FxVerP.ag5 (.u rfl) (fun _=>Rd.own .here (by first|exact wap_f rfl|rfl)) ?_
   refine .nil (Wt.one 4 (by kernel_rfl) ?_)
   refine fz rfl .no Fx.fo27_0 (.u rfl) (.nil (Wt.one 5 (by kernel_rfl) ?_))
   refine iA rfl .no Fx.ar23 (.u rfl) (.u rfl) (fun _=>by omega) (fun _=>by omega) ?_
   rw [show 0+m.level.toNat*1=2 from by rw [hm5]; rfl]
   refine .nil (Wt.one 6 (by kernel_rfl) ?_)
   refine ld rfl .no Fx.ag22 (.u rfl) (fun _=>Rd.own (.there (.there (.there (.there (.there (.there .here)))))) (by first|exact wap_f rfl|rfl)) ?_
   refine .nil (Wt.one 7 (by kernel_rfl) ?_)
   refine lA rfl .no Fx.ag67 (.u rfl) (fun _=>RdN.own .here) (fun _=>Meta.len _) ?_
   refine .nil (Wt.one 10 (by kernel_rfl) ?_)
   refine fz rfl .no Fx.fo27_0 (.u rfl) (.nil (Wt.b2 1 8 (by kernel_rfl) ?_ ?_))
   ·refine ld rfl .no FxVerP.ag5 (.u rfl) (fun _=>Rd.own .here (by first|exact wap_f rfl|rfl)) ?_
    refine .nil (Wt.b1 8 (by kernel_rfl) ?_)
    refine Go.Tan.b1 rfl Fx.se22 Fx.zw67 (.u rfl) rfl rfl (by decide) ?_; intro b113
    refine .nil (Wt.b1 9 (by kernel_rfl) ?_)
    refine apS (xs:=(L2 2)) (m) rfl Fx.se22 Fx.zw67 rfl (.u rfl) (.u rfl) (.there (.there (.there (.there .here)))) .here (Meta.len _) (Meta.one _) (by omega) (by unfold maxLen; omega) ?_; intro v114 ov114
    refine .nil (Wt.one 11 (by kernel_rfl) ?_)
    refine iA rfl .no Fx.ar23 (.u rfl) (.u rfl) (fun _=>by omega) (fun _=>by omega) ?_
    rw [show 0+m.level.toNat*1=2 from by rw [hm5]; rfl]
    refine .nil (Wt.b1 12 (by kernel_rfl) ?_)
    refine s1v rfl (.u rfl) (.u rfl) .here Fx.sz22 (.there (.there (.there (.there (.there (.there (.there .here))))))) (by show _<14; first|decide|omega) (rfl) ?_
    refine .nil (Wt.last (by kernel_rfl) ?_)
    refine .blk (.code (Wk.rg [0,1] rfl rfl (arn (((j+1):Nat):Int) rfl .no (.u rfl) (.u rfl) rfl (fun _=>by omega) (fun _=>wrap_i64 (by omega) (by omega)) ?_)))
    refine mv rfl .no (.u rfl) (.nil (We.lpo (j+1,w0,w1,v114,w3,w4,updL L2 2 (L2 2++[m])) ?_ ?_ ?_ ?_ ?_))
    ·exact (ESub.cons rfl (by first|rfl|exact evi (by omega)) (ESub.c rfl (ESub.c rfl (ESub.c rfl (ESub.c rfl ESub.nil)))))
    ·exact (MSub.cons (.there (.there (.there (.there .here)))) rfl (MSub.cons (.there (.there (.there (.there .here)))) rfl (MSub.cons (.there .here) rfl (MSub.cons (.there (.there (.there .here))) rfl (MSub.cons (.there (.there (.there .here))) rfl (MSub.cons .here rfl (MSub.cons (.there (.there .here)) rfl (MSub.cons (.there (.there .here)) rfl (MSub.cons (.there (.there .here)) rfl MSub.nil)))))))))
    ·first|omega|(dsimp only; omega)
    ·exact hGl2
    refine ⟨?_,?_⟩
    ·(try dsimp only)<;>(first|omega|rfl|assumption|(simp; done))
    (try dsimp only)<;>(exact fold_step em hA (addF_hit hm5 (by decide)))
   refine Go.Tan.b1 rfl Fx.se22 Fx.zw67 (.u rfl) rfl rfl (by decide) ?_; intro b113
   refine .nil (Wt.b2 1 9 (by kernel_rfl) ?_ ?_)
   ·refine ld rfl .no FxVerP.ag5 (.u rfl) (fun _=>Rd.own (.there .here) (by first|exact wap_f rfl|rfl)) ?_
    refine .nil (Wt.b1 9 (by kernel_rfl) ?_)
    refine apS (xs:=(L2 2)) (m) rfl Fx.se22 Fx.zw67 rfl (.u rfl) (.u rfl) (.there (.there (.there (.there .here)))) .here (Meta.len _) (Meta.one _) (by omega) (by unfold maxLen; omega) ?_; intro v114 ov114
    refine .nil (Wt.one 11 (by kernel_rfl) ?_)
    refine iA rfl .no Fx.ar23 (.u rfl) (.u rfl) (fun _=>by omega) (fun _=>by omega) ?_
    rw [show 0+m.level.toNat*1=2 from by rw [hm5]; rfl]
    refine .nil (Wt.b1 12 (by kernel_rfl) ?_)
    refine s1v rfl (.u rfl) (.u rfl) .here Fx.sz22 (.there (.there (.there (.there (.there (.there (.there .here))))))) (by show _<14; first|decide|omega) (rfl) ?_
    refine .nil (Wt.last (by kernel_rfl) ?_)
    refine .blk (.code (Wk.rg [0,1] rfl rfl (arn (((j+1):Nat):Int) rfl .no (.u rfl) (.u rfl) rfl (fun _=>by omega) (fun _=>wrap_i64 (by omega) (by omega)) ?_)))
    refine mv rfl .no (.u rfl) (.nil (We.lpo (j+1,w0,w1,v114,w3,w4,updL L2 2 (L2 2++[m])) ?_ ?_ ?_ ?_ ?_))
    ·exact (ESub.cons rfl (by first|rfl|exact evi (by omega)) (ESub.c rfl (ESub.c rfl (ESub.c rfl (ESub.c rfl ESub.nil)))))
    ·exact (MSub.cons (.there (.there (.there (.there .here)))) rfl (MSub.cons (.there (.there (.there (.there .here)))) rfl (MSub.cons (.there .here) rfl (MSub.cons (.there (.there (.there .here))) rfl (MSub.cons (.there (.there (.there .here))) rfl (MSub.cons .here rfl (MSub.cons (.there (.there .here)) rfl (MSub.cons (.there (.there .here)) rfl (MSub.cons (.there (.there .here)) rfl MSub.nil)))))))))
    ·first|omega|(dsimp only; omega)
    ·exact hGl2
    refine ⟨?_,?_⟩
    ·(try dsimp only)<;>(first|omega|rfl|assumption|(simp; done))
    (try dsimp only)<;>(exact fold_step em hA (addF_hit hm5 (by decide)))
   refine apS (xs:=(L2 2)) (m) rfl Fx.se22 Fx.zw67 rfl (.u rfl) (.u rfl) (.there (.there (.there (.there .here)))) .here (Meta.len _) (Meta.one _) (by omega) (by unfold maxLen; omega) ?_; intro v114 ov114
   refine .nil (Wt.one 1 (by kernel_rfl) ?_)
   refine ld rfl .no FxVerP.ag5 (.u rfl) (fun _=>Rd.own (.there (.there .here)) (by first|exact wap_f rfl|rfl)) ?_
   refine .nil (Wt.one 11 (by kernel_rfl) ?_)
   refine iA rfl .no Fx.ar23 (.u rfl) (.u rfl) (fun _=>by omega) (fun _=>by omega) ?_
   rw [show 0+m.level.toNat*1=2 from by rw [hm5]; rfl]
   refine .nil (Wt.b1 12 (by kernel_rfl) ?_)
   refine s1v rfl (.u rfl) (.u rfl) .here Fx.sz22 (.there (.there (.there (.there (.there (.there (.there .here))))))) (by show _<14; first|decide|omega) (rfl) ?_
   refine .nil (Wt.last (by kernel_rfl) ?_)
   refine .blk (.code (Wk.rg [0,1] rfl rfl (arn (((j+1):Nat):Int) rfl .no (.u rfl) (.u rfl) rfl (fun _=>by omega) (fun _=>wrap_i64 (by omega) (by omega)) ?_)))
   refine mv rfl .no (.u rfl) (.nil (We.lpo (j+1,w0,w1,v114,w3,w4,updL L2 2 (L2 2++[m])) ?_ ?_ ?_ ?_ ?_))
   ·exact (ESub.cons rfl (by first|rfl|exact evi (by omega)) (ESub.c rfl (ESub.c rfl (ESub.c rfl (ESub.c rfl ESub.nil)))))
   ·exact (MSub.cons (.there (.there (.there (.there .here)))) rfl (MSub.cons (.there (.there (.there (.there .here)))) rfl (MSub.cons (.there .here) rfl (MSub.cons (.there (.there (.there .here))) rfl (MSub.cons (.there (.there (.there .here))) rfl (MSub.cons .here rfl (MSub.cons (.there (.there .here)) rfl (MSub.cons (.there (.there .here)) rfl (MSub.cons (.there (.there .here)) rfl MSub.nil)))))))))
   ·first|omega|(dsimp only; omega)
   ·exact hGl2
   refine ⟨?_,?_⟩
   ·(try dsimp only)<;>(first|omega|rfl|assumption|(simp; done))
   (try dsimp only)<;>(exact fold_step em hA (addF_hit hm5 (by decide)))
  ·refine Wk.mix ⟨false,false⟩ FxVeSa.mix (by kernel_rfl) ?_
   have hll:=addL_len (N:=1024) hA (i:=3) (dropL_len hri' hL (by decide))
   have htk:=List.length_take_le j e.add
   refine Wt.one 0 (by kernel_rfl) ?_
   refine fz rfl .no Fx.fo67_0 (.u rfl) (.nil (Wt.one 2 (by kernel_rfl) ?_))
   refine fz rfl .no Fx.fo67_0 (.u rfl) (.nil (Wt.one 3 (by kernel_rfl) ?_))
   refine ld rfl .no FxVerP.ag5 (.u rfl) (fun _=>Rd.own .here (by first|exact wap_f rfl|rfl)) ?_
   refine .nil (Wt.one 4 (by kernel_rfl) ?_)
   refine fz rfl .no Fx.fo27_0 (.u rfl) (.nil (Wt.one 5 (by kernel_rfl) ?_))
   refine iA rfl .no Fx.ar23 (.u rfl) (.u rfl) (fun _=>by omega) (fun _=>by omega) ?_
   rw [show 0+m.level.toNat*1=3 from by rw [hm5]; rfl]
   refine .nil (Wt.one 6 (by kernel_rfl) ?_)
   refine ld rfl .no Fx.ag22 (.u rfl) (fun _=>Rd.own (.there (.there (.there (.there (.there (.there .here)))))) (by first|exact wap_f rfl|rfl)) ?_
   refine .nil (Wt.one 7 (by kernel_rfl) ?_)
   refine lA rfl .no Fx.ag67 (.u rfl) (fun _=>RdN.own .here) (fun _=>Meta.len _) ?_
   refine .nil (Wt.one 10 (by kernel_rfl) ?_)
   refine fz rfl .no Fx.fo27_0 (.u rfl) (.nil (Wt.b2 1 8 (by kernel_rfl) ?_ ?_))
   ·refine ld rfl .no FxVerP.ag5 (.u rfl) (fun _=>Rd.own .here (by first|exact wap_f rfl|rfl)) ?_
    refine .nil (Wt.b1 8 (by kernel_rfl) ?_)
    refine Go.Tan.b1 rfl Fx.se22 Fx.zw67 (.u rfl) rfl rfl (by decide) ?_; intro b113
    refine .nil (Wt.b1 9 (by kernel_rfl) ?_)
    refine apS (xs:=(L2 3)) (m) rfl Fx.se22 Fx.zw67 rfl (.u rfl) (.u rfl) (.there (.there (.there .here))) .here (Meta.len _) (Meta.one _) (by omega) (by unfold maxLen; omega) ?_; intro v114 ov114
    refine .nil (Wt.one 11 (by kernel_rfl) ?_)
    refine iA rfl .no Fx.ar23 (.u rfl) (.u rfl) (fun _=>by omega) (fun _=>by omega) ?_
    rw [show 0+m.level.toNat*1=3 from by rw [hm5]; rfl]
    refine .nil (Wt.b1 12 (by kernel_rfl) ?_)
    refine s1v rfl (.u rfl) (.u rfl) .here Fx.sz22 (.there (.there (.there (.there (.there (.there (.there .here))))))) (by show _<14; first|decide|omega) (rfl) ?_
    refine .nil (Wt.last (by kernel_rfl) ?_)
    refine .blk (.code (Wk.rg [0,1] rfl rfl (arn (((j+1):Nat):Int) rfl .no (.u rfl) (.u rfl) rfl (fun _=>by omega) (fun _=>wrap_i64 (by omega) (by omega)) ?_)))
    refine mv rfl .no (.u rfl) (.nil (We.lpo (j+1,w0,w1,w2,v114,w4,updL L2 3 (L2 3++[m])) ?_ ?_ ?_ ?_ ?_))
    ·exact (ESub.cons rfl (by first|rfl|exact evi (by omega)) (ESub.c rfl (ESub.c rfl (ESub.c rfl (ESub.c rfl ESub.nil)))))
    ·exact (MSub.cons (.there (.there (.there (.there .here)))) rfl (MSub.cons (.there .here) rfl (MSub.cons (.there (.there (.there .here))) rfl (MSub.cons (.there (.there (.there .here))) rfl (MSub.cons (.there (.there (.there .here))) rfl (MSub.cons .here rfl (MSub.cons (.there (.there .here)) rfl (MSub.cons (.there (.there .here)) rfl (MSub.cons (.there (.there .here)) rfl MSub.nil)))))))))
    ·first|omega|(dsimp only; omega)
    ·exact hGl2
    refine ⟨?_,?_⟩
    ·(try dsimp only)<;>(first|omega|rfl|assumption|(simp; done))
    (try dsimp only)<;>(exact fold_step em hA (addF_hit hm5 (by decide)))
   refine Go.Tan.b1 rfl Fx.se22 Fx.zw67 (.u rfl) rfl rfl (by decide) ?_; intro b113
   refine .nil (Wt.b2 1 9 (by kernel_rfl) ?_ ?_)
   ·refine ld rfl .no FxVerP.ag5 (.u rfl) (fun _=>Rd.own (.there .here) (by first|exact wap_f rfl|rfl)) ?_
    refine .nil (Wt.b1 9 (by kernel_rfl) ?_)
    refine apS (xs:=(L2 3)) (m) rfl Fx.se22 Fx.zw67 rfl (.u rfl) (.u rfl) (.there (.there (.there .here))) .here (Meta.len _) (Meta.one _) (by omega) (by unfold maxLen; omega) ?_; intro v114 ov114
    refine .nil (Wt.one 11 (by kernel_rfl) ?_)
    refine iA rfl .no Fx.ar23 (.u rfl) (.u rfl) (fun _=>by omega) (fun _=>by omega) ?_
    rw [show 0+m.level.toNat*1=3 from by rw [hm5]; rfl]
    refine .nil (Wt.b1 12 (by kernel_rfl) ?_)
    refine s1v rfl (.u rfl) (.u rfl) .here Fx.sz22 (.there (.there (.there (.there (.there (.there (.there .here))))))) (by show _<14; first|decide|omega) (rfl) ?_
    refine .nil (Wt.last (by kernel_rfl) ?_)
    refine .blk (.code (Wk.rg [0,1] rfl rfl (arn (((j+1):Nat):Int) rfl .no (.u rfl) (.u rfl) rfl (fun _=>by omega) (fun _=>wrap_i64 (by omega) (by omega)) ?_)))
    refine mv rfl .no (.u rfl) (.nil (We.lpo (j+1,w0,w1,w2,v114,w4,updL L2 3 (L2 3++[m])) ?_ ?_ ?_ ?_ ?_))
    ·exact (ESub.cons rfl (by first|rfl|exact evi (by omega)) (ESub.c rfl (ESub.c rfl (ESub.c rfl (ESub.c rfl ESub.nil)))))
    ·exact (MSub.cons (.there (.there (.there (.there .here)))) rfl (MSub.cons (.there .here) rfl (MSub.cons (.there (.there (.there .here))) rfl (MSub.cons (.there (.there (.there .here))) rfl (MSub.cons (.there (.there (.there .here))) rfl (MSub.cons .here rfl (MSub.cons (.there (.there .here)) rfl (MSub.cons (.there (.there .here)) rfl (MSub.cons (.there (.there .here)) rfl MSub.nil)))))))))
    ·first|omega|(dsimp only; omega)
    ·exact hGl2
    refine ⟨?_,?_⟩
    ·(try dsimp only)<;>(first|omega|rfl|assumption|(simp; done))
    (try dsimp only)<;>(exact fold_step em hA (addF_hit hm5 (by decide)))
   refine apS (xs:=(L2 3)) (m) rfl Fx.se22 Fx.zw67 rfl (.u rfl) (.u rfl) (.there (.there (.there .here))) .here (Meta.len _) (Meta.one _) (by omega) (by unfold maxLen; omega) ?_; intro v114 ov114
   refine .nil (Wt.one 1 (by kernel_rfl) ?_)
   refine ld rfl .no FxVerP.ag5 (.u rfl) (fun _=>Rd.own (.there (.there .here)) (by first|exact wap_f rfl|rfl)) ?_
   refine .nil (Wt.one 11 (by kernel_rfl) ?_)
   refine iA rfl .no Fx.ar23 (.u rfl) (.u rfl) (fun _=>by omega) (fun _=>by omega) ?_
   rw [show 0+m.level.toNat*1=3 from by rw [hm5]; rfl]
   refine .nil (Wt.b1 12 (by kernel_rfl) ?_)
   refine s1v rfl (.u rfl) (.u rfl) .here Fx.sz22 (.there (.there (.there (.there (.there (.there (.there .here))))))) (by show _<14; first|decide|omega) (rfl) ?_
   refine .nil (Wt.last (by kernel_rfl) ?_)
   refine .blk (.code (Wk.rg [0,1] rfl rfl (arn (((j+1):Nat):Int) rfl .no (.u rfl) (.u rfl) rfl (fun _=>by omega) (fun _=>wrap_i64 (by omega) (by omega)) ?_)))
   refine mv rfl .no (.u rfl) (.nil (We.lpo (j+1,w0,w1,w2,v114,w4,updL L2 3 (L2 3++[m])) ?_ ?_ ?_ ?_ ?_))
   ·exact (ESub.cons rfl (by first|rfl|exact evi (by omega)) (ESub.c rfl (ESub.c rfl (ESub.c rfl (ESub.c rfl ESub.nil)))))
   ·exact (MSub.cons (.there (.there (.there (.there .here)))) rfl (MSub.cons (.there .here) rfl (MSub.cons (.there (.there (.there .here))) rfl (MSub.cons (.there (.there (.there .here))) rfl (MSub.cons (.there (.there (.there .here))) rfl (MSub.cons .here rfl (MSub.cons (.there (.there .here)) rfl (MSub.cons (.there (.there .here)) rfl (MSub.cons (.there (.there .here)) rfl MSub.nil)))))))))
   ·first|omega|(dsimp only; omega)
   ·exact hGl2
   refine ⟨?_,?_⟩
   ·(try dsimp only)<;>(first|omega|rfl|assumption|(simp; done))
   (try dsimp only)<;>(exact fold_step em hA (addF_hit hm5 (by decide)))
  refine Wk.mix ⟨false,false⟩ FxVeSa.mix (by kernel_rfl) ?_
  have hll:=addL_len (N:=1024) hA (i:=4) (dropL_len hri' hL (by decide))
  have htk:=List.length_take_le j e.add
  refine Wt.one 0 (by kernel_rfl) ?_
  refine fz rfl .no Fx.fo67_0 (.u rfl) (.nil (Wt.one 2 (by kernel_rfl) ?_))
  refine fz rfl .no Fx.fo67_0 (.u rfl) (.nil (Wt.one 3 (by kernel_rfl) ?_))
  refine ld rfl .no FxVerP.ag5 (.u rfl) (fun _=>Rd.own .here (by first|exact wap_f rfl|rfl)) ?_
  refine .nil (Wt.one 4 (by kernel_rfl) ?_)
  refine fz rfl .no Fx.fo27_0 (.u rfl) (.nil (Wt.one 5 (by kernel_rfl) ?_))
  refine iA rfl .no Fx.ar23 (.u rfl) (.u rfl) (fun _=>by omega) (fun _=>by omega) ?_
  rw [show 0+m.level.toNat*1=4 from by rw [hm5]; rfl]
  refine .nil (Wt.one 6 (by kernel_rfl) ?_)
  refine ld rfl .no Fx.ag22 (.u rfl) (fun _=>Rd.own (.there (.there (.there (.there (.there (.there .here)))))) (by first|exact wap_f rfl|rfl)) ?_
  refine .nil (Wt.one 7 (by kernel_rfl) ?_)
  refine lA rfl .no Fx.ag67 (.u rfl) (fun _=>RdN.own .here) (fun _=>Meta.len _) ?_
  refine .nil (Wt.one 10 (by kernel_rfl) ?_)
  refine fz rfl .no Fx.fo27_0 (.u rfl) (.nil (Wt.b2 1 8 (by kernel_rfl) ?_ ?_))
  ·refine ld rfl .no FxVerP.ag5 (.u rfl) (fun _=>Rd.own .here (by first|exact wap_f rfl|rfl)) ?_
   refine .nil (Wt.b1 8 (by kernel_rfl) ?_)
   refine Go.Tan.b1 rfl Fx.se22 Fx.zw67 (.u rfl) rfl rfl (by decide) ?_; intro b113
   refine .nil (Wt.b1 9 (by kernel_rfl) ?_)
   refine apS (xs:=(L2 4)) (m) rfl Fx.se22 Fx.zw67 rfl (.u rfl) (.u rfl) (.there (.there .here)) .here (Meta.len _) (Meta.one _) (by omega) (by unfold maxLen; omega) ?_; intro v114 ov114
   refine .nil (Wt.one 11 (by kernel_rfl) ?_)
   refine iA rfl .no Fx.ar23 (.u rfl) (.u rfl) (fun _=>by omega) (fun _=>by omega) ?_
   rw [show 0+m.level.toNat*1=4 from by rw [hm5]; rfl]
   refine .nil (Wt.b1 12 (by kernel_rfl) ?_)
   refine s1v rfl (.u rfl) (.u rfl) .here Fx.sz22 (.there (.there (.there (.there (.there (.there (.there .here))))))) (by show _<14; first|decide|omega) (rfl) ?_
   refine .nil (Wt.last (by kernel_rfl) ?_)
   refine .blk (.code (Wk.rg [0,1] rfl rfl (arn (((j+1):Nat):Int) rfl .no (.u rfl) (.u rfl) rfl (fun _=>by omega) (fun _=>wrap_i64 (by omega) (by omega)) ?_)))
   refine mv rfl .no (.u rfl) (.nil (We.lpo (j+1,w0,w1,w2,w3,v114,updL L2 4 (L2 4++[m])) ?_ ?_ ?_ ?_ ?_))
   ·exact (ESub.cons rfl (by first|rfl|exact evi (by omega)) (ESub.c rfl (ESub.c rfl (ESub.c rfl (ESub.c rfl ESub.nil)))))
   ·exact (MSub.cons (.there .here) rfl (MSub.cons (.there (.there (.there .here))) rfl (MSub.cons (.there (.there (.there .here))) rfl (MSub.cons (.there (.there (.there .here))) rfl (MSub.cons (.there (.there (.there .here))) rfl (MSub.cons .here rfl (MSub.cons (.there (.there .here)) rfl (MSub.cons (.there (.there .here)) rfl (MSub.cons (.there (.there .here)) rfl MSub.nil)))))))))
   ·first|omega|(dsimp only; omega)
   ·exact hGl2
   refine ⟨?_,?_⟩
   ·(try dsimp only)<;>(first|omega|rfl|assumption|(simp; done))
   (try dsimp only)<;>(exact fold_step em hA (addF_hit hm5 (by decide)))
  refine Go.Tan.b1 rfl Fx.se22 Fx.zw67 (.u rfl) rfl rfl (by decide) ?_; intro b113
  refine .nil (Wt.b2 1 9 (by kernel_rfl) ?_ ?_)
  ·refine ld rfl .no FxVerP.ag5 (.u rfl) (fun _=>Rd.own (.there .here) (by first|exact wap_f rfl|rfl)) ?_
   refine .nil (Wt.b1 9 (by kernel_rfl) ?_)
   refine apS (xs:=(L2 4)) (m) rfl Fx.se22 Fx.zw67 rfl (.u rfl) (.u rfl) (.there (.there .here)) .here (Meta.len _) (Meta.one _) (by omega) (by unfold maxLen; omega) ?_; intro v114 ov114
   refine .nil (Wt.one 11 (by kernel_rfl) ?_)
   refine iA rfl .no Fx.ar23 (.u rfl) (.u rfl) (fun _=>by omega) (fun _=>by omega) ?_
   rw [show 0+m.level.toNat*1=4 from by rw [hm5]; rfl]
   refine .nil (Wt.b1 12 (by kernel_rfl) ?_)
   refine s1v rfl (.u rfl) (.u rfl) .here Fx.sz22 (.there (.there (.there (.there (.there (.there (.there .here))))))) (by show _<14; first|decide|omega) (rfl) ?_
   refine .nil (Wt.last (by kernel_rfl) ?_)
   refine .blk (.code (Wk.rg [0,1] rfl rfl (arn (((j+1):Nat):Int) rfl .no (.u rfl) (.u rfl) rfl (fun _=>by omega) (fun _=>wrap_i64 (by omega) (by omega)) ?_)))
   refine mv rfl .no (.u rfl) (.nil (We.lpo (j+1,w0,w1,w2,w3,v114,updL L2 4 (L2 4++[m])) ?_ ?_ ?_ ?_ ?_))
   ·exact (ESub.cons rfl (by first|rfl|exact evi (by omega)) (ESub.c rfl (ESub.c rfl (ESub.c rfl (ESub.c rfl ESub.nil)))))
   ·exact (MSub.cons (.there .here) rfl (MSub.cons (.there (.there (.there .here))) rfl (MSub.cons (.there (.there (.there .here))) rfl (MSub.cons (.there (.there (.there .here))) rfl (MSub.cons (.there (.there (.there .here))) rfl (MSub.cons .here rfl (MSub.cons (.there (.there .here)) rfl (MSub.cons (.there (.there .here)) rfl (MSub.cons (.there (.there .here)) rfl MSub.nil)))))))))
   ·first|omega|(dsimp only; omega)
   ·exact hGl2
   refine ⟨?_,?_⟩
   ·(try dsimp only)<;>(first|omega|rfl|assumption|(simp; done))
   (try dsimp only)<;>(exact fold_step em hA (addF_hit hm5 (by decide)))
  refine apS (xs:=(L2 4)) (m) rfl Fx.se22 Fx.zw67 rfl (.u rfl) (.u rfl) (.there (.there .here)) .here (Meta.len _) (Meta.one _) (by omega) (by unfold maxLen; omega) ?_; intro v114 ov114
  refine .nil (Wt.one 1 (by kernel_rfl) ?_)
  refine ld rfl .no FxVerP.ag5 (.u rfl) (fun _=>Rd.own (.there (.there .here)) (by first|exact wap_f rfl|rfl)) ?_
  refine .nil (Wt.one 11 (by kernel_rfl) ?_)
  refine iA rfl .no Fx.ar23 (.u rfl) (.u rfl) (fun _=>by omega) (fun _=>by omega) ?_
  rw [show 0+m.level.toNat*1=4 from by rw [hm5]; rfl]
  refine .nil (Wt.b1 12 (by kernel_rfl) ?_)
  refine s1v rfl (.u rfl) (.u rfl) .here Fx.sz22 (.there (.there (.there (.there (.there (.there (.there .here))))))) (by show _<14; first|decide|omega) (rfl) ?_
  refine .nil (Wt.last (by kernel_rfl) ?_)
  refine .blk (.code (Wk.rg [0,1] rfl rfl (arn (((j+1):Nat):Int) rfl .no (.u rfl) (.u rfl) rfl (fun _=>by omega) (fun _=>wrap_i64 (by omega) (by omega)) ?_)))
  refine mv rfl .no (.u rfl) (.nil (We.lpo (j+1,w0,w1,w2,w3,v114,updL L2 4 (L2 4++[m])) ?_ ?_ ?_ ?_ ?_))
  ·exact (ESub.cons rfl (by first|rfl|exact evi (by omega)) (ESub.c rfl (ESub.c rfl (ESub.c rfl (ESub.c rfl ESub.nil)))))
  ·exact (MSub.cons (.there .here) rfl (MSub.cons (.there (.there (.there .here))) rfl (MSub.cons (.there (.there (.there .here))) rfl (MSub.cons (.there (.there (.there .here))) rfl (MSub.cons (.there (.there (.there .here))) rfl (MSub.cons .here rfl (MSub.cons (.there (.there .here)) rfl (MSub.cons (.there (.there .here)) rfl (MSub.cons (.there (.there .here)) rfl MSub.nil)))))))))
  ·first|omega|(dsimp only; omega)
  ·exact hGl2
  refine ⟨?_,?_⟩
  ·(try dsimp only)<;>(first|omega|rfl|assumption|(simp; done))
  (try dsimp only)<;>(exact fold_step em hA (addF_hit hm5 (by decide)))
 have c11k:=c11
 try simp only [qcA,qcC,qcB] at c11
 refine .exit (.xcode (.xlp (.xblk (.code (.seq (.seq (Wk.rg [0,1,2] rfl rfl (fz rfl .no Fx.fo27_0 (.u rfl) (lA rfl .no Fx.ag23 (.u rfl) (fun _=>RdN.part (n:=5) (cs':=[w0,w1,w2,w3,w4]) (.there (.there (.there (.there (.there .here))))) (rfl)) (fun _=>rfl) ?_)))))))))
 refine mv rfl .no (.u rfl) (.nil (.code (.block ?_)))
 obtain rfl:j=e.add.length:=by omega
 rw [List.take_length] at hA
 have hL2l:∀ i,i<5→(L2 i).length≤2048:=fun i hi=>by have:=addL_len (N:=1024) hA (i:=i) (dropL_len hri' hL hi); omega
 refine Wk.lop (α:=Nat×Lvs) (fun gh=>[(120,true,.int .i64 (gh.1:Int))]) (fun gh=>[rS 40 Meta.cells w4 67 (gh.2 4),rS 40 Meta.cells w3 67 (gh.2 3),rS 40 Meta.cells w2 67 (gh.2 2),rS 40 Meta.cells w1 67 (gh.2 1),rS 40 Meta.cells w0 67 (gh.2 0)])
  (fun gh Gl=>(gh.1≤5)∧(∀ i,gh.2 i=if i<gh.1 then srtL L2 i else L2 i)) (fun gh=>5-gh.1) (0,L2) [(4,true,_),(6,true,_),(119,true,_)] [_,_,_,_]
  (ESub.cons rfl (by first|rfl|exact evi (by omega)) (ESub.c rfl (ESub.c rfl (ESub.c rfl ESub.nil))))
  (MSub.cons .here rfl (MSub.cons .here rfl (MSub.cons .here rfl (MSub.cons .here rfl (MSub.cons .here rfl (MSub.cons .here rfl (MSub.cons .here rfl (MSub.cons .here rfl (MSub.cons .here rfl MSub.nil))))))))) ?_ ?_
 ·refine ⟨?_,?_⟩
  ·(try dsimp only)<;>(first|omega|rfl|assumption|(simp; done))
  (try dsimp only)<;>(exact fun i=>rfl)
 intro gh N3 Gl3 hN3 hGl3 hF3
 obtain ⟨k,M⟩:=gh; dsimp only at hF3 hN3 ⊢
 obtain ⟨hk,hM⟩:=hF3
 have hs:=hs.mono hGl3
 refine .seq (Wk.rg [0] rfl rfl (cp rfl .no (.u rfl) (.u rfl) rfl (.nil (.code (.seq (.cond rfl (fun c13=>?_) (fun c13=>?_)))))))
 ·have c13k:=c13
  try simp only [qcA,qcC,qcB] at c13
  refine .skip (.code (.seq (.block (.seq ?_))))
  rcases (show k=0∨k=1∨k=2∨k=3∨k=4 by omega) with rfl|rfl|rfl|rfl|rfl
  ·refine Wk.rg [0,1,2,3,4] rfl rfl (mv rfl .no (.u rfl) (ix rfl .no Fx.ar23 Fx.ag22 (.u rfl) (.u rfl) (fun _=>by decide) (fun _=>by decide) (fun _=>rfl) ?_))
   refine al rfl Fx.zr3 ?_; intro b14
   refine s1 rfl (.u rfl) (.u rfl) rfl FxVerW.sz3 .here (by decide) (rfl) ?_
   refine asg rfl .no (.u rfl) (.nil (.code ?_))
   refine wk_fz .here (by intro b hb; cases hb) ?_; intro Gfb14 hleb14 hbb14
   have hs:=hs.mono hleb14
   refine Wk.rg [0,1,2] rfl rfl (mv rfl .no (.u rfl) (mf (vf:=#[]) (vc:=[Value.pointer (some ⟨b14,0,none⟩)].toArray) rfl .no (fun a ha _=>by simp) (fun a ha _=>by simp [(Ev.u (c:=true) rfl:Ev _ true (.tmp 14) _).eval ha rfl]) ?_))
   refine ka rfl (.inr rfl) Fx.go54 (Evc rfl (Evc rfl Evn)) (mtk1 (.there (.there (.there (.there .here))))) (ssf_ok (M 0) w0 55 Fx.go55 [.pointer (some ⟨b14,0,none⟩)] (lvC 0) _ (lvC_cmp 0 b14 hbb14) (lvC_wk 0) (by rw [hM 0,if_neg (by decide)]; have:=hL2l 0 (by decide); omega)) ?_
   rintro _ G126 μ126 hG126 ⟨rfl,rfl⟩
   have hs:=hs.mono hG126
   have hbb14:=hbb14.mono hG126
   refine .nil (.blk (.code (Wk.rg [0,1] rfl rfl (arn (((0+1):Nat):Int) rfl .no (.u rfl) (.u rfl) rfl (fun _=>by omega) (fun _=>wrap_i64 (by omega) (by omega)) ?_))))
   refine mv rfl .no (.u rfl) (.nil (We.lpo (1,updL M 0 (sortS (ltv (lvC 0)) (M 0))) ?_ ?_ ?_ ?_ ?_))
   ·exact (ESub.cons rfl (by first|rfl|exact evi (by omega)) (ESub.c rfl (ESub.c rfl (ESub.c rfl ESub.nil))))
   ·exact (MSub.cons (.there .here) rfl (MSub.cons (.there .here) rfl (MSub.cons (.there .here) rfl (MSub.cons (.there .here) rfl (MSub.cons .here rfl (MSub.cons .here rfl (MSub.cons .here rfl (MSub.cons .here rfl (MSub.cons .here rfl MSub.nil)))))))))
   ·first|omega|(dsimp only; omega)
   ·exact ((hGl3).trans hleb14).trans hG126
   refine ⟨?_,?_⟩
   ·(try dsimp only)<;>(first|omega|rfl|assumption|(simp; done))
   (try dsimp only)<;>(exact srt_step5 hM)
  ·refine Wk.rg [0,1,2,3,4] rfl rfl (mv rfl .no (.u rfl) (ix rfl .no Fx.ar23 Fx.ag22 (.u rfl) (.u rfl) (fun _=>by decide) (fun _=>by decide) (fun _=>rfl) ?_))
   refine al rfl Fx.zr3 ?_; intro b14
   refine s1 rfl (.u rfl) (.u rfl) rfl FxVerW.sz3 .here (by decide) (rfl) ?_
   refine asg rfl .no (.u rfl) (.nil (.code ?_))
   refine wk_fz .here (by intro b hb; cases hb) ?_; intro Gfb14 hleb14 hbb14
   have hs:=hs.mono hleb14
   refine Wk.rg [0,1,2] rfl rfl (mv rfl .no (.u rfl) (mf (vf:=#[]) (vc:=[Value.pointer (some ⟨b14,0,none⟩)].toArray) rfl .no (fun a ha _=>by simp) (fun a ha _=>by simp [(Ev.u (c:=true) rfl:Ev _ true (.tmp 14) _).eval ha rfl]) ?_))
   refine ka rfl (.inr rfl) Fx.go54 (Evc rfl (Evc rfl Evn)) (mtk1 (.there (.there (.there .here)))) (ssf_ok (M 1) w1 55 Fx.go55 [.pointer (some ⟨b14,0,none⟩)] (lvC 1) _ (lvC_cmp 1 b14 hbb14) (lvC_wk 1) (by rw [hM 1,if_neg (by decide)]; have:=hL2l 1 (by decide); omega)) ?_
   rintro _ G126 μ126 hG126 ⟨rfl,rfl⟩
   have hs:=hs.mono hG126
   have hbb14:=hbb14.mono hG126
   refine .nil (.blk (.code (Wk.rg [0,1] rfl rfl (arn (((1+1):Nat):Int) rfl .no (.u rfl) (.u rfl) rfl (fun _=>by omega) (fun _=>wrap_i64 (by omega) (by omega)) ?_))))
   refine mv rfl .no (.u rfl) (.nil (We.lpo (2,updL M 1 (sortS (ltv (lvC 1)) (M 1))) ?_ ?_ ?_ ?_ ?_))
   ·exact (ESub.cons rfl (by first|rfl|exact evi (by omega)) (ESub.c rfl (ESub.c rfl (ESub.c rfl ESub.nil))))
   ·exact (MSub.cons (.there .here) rfl (MSub.cons (.there .here) rfl (MSub.cons (.there .here) rfl (MSub.cons .here rfl (MSub.cons .here rfl (MSub.cons .here rfl (MSub.cons .here rfl (MSub.cons .here rfl (MSub.cons .here rfl MSub.nil)))))))))
   ·first|omega|(dsimp only; omega)
   ·exact ((hGl3).trans hleb14).trans hG126
   refine ⟨?_,?_⟩
   ·(try dsimp only)<;>(first|omega|rfl|assumption|(simp; done))
   (try dsimp only)<;>(exact srt_step5 hM)
  ·refine Wk.rg [0,1,2,3,4] rfl rfl (mv rfl .no (.u rfl) (ix rfl .no Fx.ar23 Fx.ag22 (.u rfl) (.u rfl) (fun _=>by decide) (fun _=>by decide) (fun _=>rfl) ?_))
   refine al rfl Fx.zr3 ?_; intro b14
   refine s1 rfl (.u rfl) (.u rfl) rfl FxVerW.sz3 .here (by decide) (rfl) ?_
   refine asg rfl .no (.u rfl) (.nil (.code ?_))
   refine wk_fz .here (by intro b hb; cases hb) ?_; intro Gfb14 hleb14 hbb14
   have hs:=hs.mono hleb14
   refine Wk.rg [0,1,2] rfl rfl (mv rfl .no (.u rfl) (mf (vf:=#[]) (vc:=[Value.pointer (some ⟨b14,0,none⟩)].toArray) rfl .no (fun a ha _=>by simp) (fun a ha _=>by simp [(Ev.u (c:=true) rfl:Ev _ true (.tmp 14) _).eval ha rfl]) ?_))
   refine ka rfl (.inr rfl) Fx.go54 (Evc rfl (Evc rfl Evn)) (mtk1 (.there (.there .here))) (ssf_ok (M 2) w2 55 Fx.go55 [.pointer (some ⟨b14,0,none⟩)] (lvC 2) _ (lvC_cmp 2 b14 hbb14) (lvC_wk 2) (by rw [hM 2,if_neg (by decide)]; have:=hL2l 2 (by decide); omega)) ?_
   rintro _ G126 μ126 hG126 ⟨rfl,rfl⟩
   have hs:=hs.mono hG126
   have hbb14:=hbb14.mono hG126
   refine .nil (.blk (.code (Wk.rg [0,1] rfl rfl (arn (((2+1):Nat):Int) rfl .no (.u rfl) (.u rfl) rfl (fun _=>by omega) (fun _=>wrap_i64 (by omega) (by omega)) ?_))))
   refine mv rfl .no (.u rfl) (.nil (We.lpo (3,updL M 2 (sortS (ltv (lvC 2)) (M 2))) ?_ ?_ ?_ ?_ ?_))
   ·exact (ESub.cons rfl (by first|rfl|exact evi (by omega)) (ESub.c rfl (ESub.c rfl (ESub.c rfl ESub.nil))))
   ·exact (MSub.cons (.there .here) rfl (MSub.cons (.there .here) rfl (MSub.cons .here rfl (MSub.cons .here rfl (MSub.cons .here rfl (MSub.cons .here rfl (MSub.cons .here rfl (MSub.cons .here rfl (MSub.cons .here rfl MSub.nil)))))))))
   ·first|omega|(dsimp only; omega)
   ·exact ((hGl3).trans hleb14).trans hG126
   refine ⟨?_,?_⟩
   ·(try dsimp only)<;>(first|omega|rfl|assumption|(simp; done))
   (try dsimp only)<;>(exact srt_step5 hM)
  ·refine Wk.rg [0,1,2,3,4] rfl rfl (mv rfl .no (.u rfl) (ix rfl .no Fx.ar23 Fx.ag22 (.u rfl) (.u rfl) (fun _=>by decide) (fun _=>by decide) (fun _=>rfl) ?_))
   refine al rfl Fx.zr3 ?_; intro b14
   refine s1 rfl (.u rfl) (.u rfl) rfl FxVerW.sz3 .here (by decide) (rfl) ?_
   refine asg rfl .no (.u rfl) (.nil (.code ?_))
   refine wk_fz .here (by intro b hb; cases hb) ?_; intro Gfb14 hleb14 hbb14
   have hs:=hs.mono hleb14
   refine Wk.rg [0,1,2] rfl rfl (mv rfl .no (.u rfl) (mf (vf:=#[]) (vc:=[Value.pointer (some ⟨b14,0,none⟩)].toArray) rfl .no (fun a ha _=>by simp) (fun a ha _=>by simp [(Ev.u (c:=true) rfl:Ev _ true (.tmp 14) _).eval ha rfl]) ?_))
   refine ka rfl (.inr rfl) Fx.go54 (Evc rfl (Evc rfl Evn)) (mtk1 (.there .here)) (ssf_ok (M 3) w3 55 Fx.go55 [.pointer (some ⟨b14,0,none⟩)] (lvC 3) _ (lvC_cmp 3 b14 hbb14) (lvC_wk 3) (by rw [hM 3,if_neg (by decide)]; have:=hL2l 3 (by decide); omega)) ?_
   rintro _ G126 μ126 hG126 ⟨rfl,rfl⟩
   have hs:=hs.mono hG126
   have hbb14:=hbb14.mono hG126
   refine .nil (.blk (.code (Wk.rg [0,1] rfl rfl (arn (((3+1):Nat):Int) rfl .no (.u rfl) (.u rfl) rfl (fun _=>by omega) (fun _=>wrap_i64 (by omega) (by omega)) ?_))))
   refine mv rfl .no (.u rfl) (.nil (We.lpo (4,updL M 3 (sortS (ltv (lvC 3)) (M 3))) ?_ ?_ ?_ ?_ ?_))
   ·exact (ESub.cons rfl (by first|rfl|exact evi (by omega)) (ESub.c rfl (ESub.c rfl (ESub.c rfl ESub.nil))))
   ·exact (MSub.cons (.there .here) rfl (MSub.cons .here rfl (MSub.cons .here rfl (MSub.cons .here rfl (MSub.cons .here rfl (MSub.cons .here rfl (MSub.cons .here rfl (MSub.cons .here rfl (MSub.cons .here rfl MSub.nil)))))))))
   ·first|omega|(dsimp only; omega)
   ·exact ((hGl3).trans hleb14).trans hG126
   refine ⟨?_,?_⟩
   ·(try dsimp only)<;>(first|omega|rfl|assumption|(simp; done))
   (try dsimp only)<;>(exact srt_step5 hM)
  refine Wk.rg [0,1,2,3,4] rfl rfl (mv rfl .no (.u rfl) (ix rfl .no Fx.ar23 Fx.ag22 (.u rfl) (.u rfl) (fun _=>by decide) (fun _=>by decide) (fun _=>rfl) ?_))
  refine al rfl Fx.zr3 ?_; intro b14
  refine s1 rfl (.u rfl) (.u rfl) rfl FxVerW.sz3 .here (by decide) (rfl) ?_
  refine asg rfl .no (.u rfl) (.nil (.code ?_))
  refine wk_fz .here (by intro b hb; cases hb) ?_; intro Gfb14 hleb14 hbb14
  have hs:=hs.mono hleb14
  refine Wk.rg [0,1,2] rfl rfl (mv rfl .no (.u rfl) (mf (vf:=#[]) (vc:=[Value.pointer (some ⟨b14,0,none⟩)].toArray) rfl .no (fun a ha _=>by simp) (fun a ha _=>by simp [(Ev.u (c:=true) rfl:Ev _ true (.tmp 14) _).eval ha rfl]) ?_))
  refine ka rfl (.inr rfl) Fx.go54 (Evc rfl (Evc rfl Evn)) (mtk1 .here) (ssf_ok (M 4) w4 55 Fx.go55 [.pointer (some ⟨b14,0,none⟩)] (lvC 4) _ (lvC_cmp 4 b14 hbb14) (lvC_wk 4) (by rw [hM 4,if_neg (by decide)]; have:=hL2l 4 (by decide); omega)) ?_
  rintro _ G126 μ126 hG126 ⟨rfl,rfl⟩
  have hs:=hs.mono hG126
  refine .nil (.blk (.code (Wk.rg [0,1] rfl rfl (arn (((4+1):Nat):Int) rfl .no (.u rfl) (.u rfl) rfl (fun _=>by omega) (fun _=>wrap_i64 (by omega) (by omega)) ?_))))
  refine mv rfl .no (.u rfl) (.nil (We.lpo (5,updL M 4 (sortS (ltv (lvC 4)) (M 4))) ?_ ?_ ?_ ?_ ?_))
  ·exact (ESub.cons rfl (by first|rfl|exact evi (by omega)) (ESub.c rfl (ESub.c rfl (ESub.c rfl ESub.nil))))
  ·exact (MSub.cons .here rfl (MSub.cons .here rfl (MSub.cons .here rfl (MSub.cons .here rfl (MSub.cons .here rfl (MSub.cons .here rfl (MSub.cons .here rfl (MSub.cons .here rfl (MSub.cons .here rfl MSub.nil)))))))))
  ·first|omega|(dsimp only; omega)
  ·exact ((hGl3).trans hleb14).trans hG126
  refine ⟨?_,?_⟩
  ·(try dsimp only)<;>(first|omega|rfl|assumption|(simp; done))
  (try dsimp only)<;>(exact srt_step5 hM)
 have c13k:=c13
 try simp only [qcA,qcC,qcB] at c13
 refine .exit (.xcode (.xlp (.xblk (.code (.seq (.seq ?_))))))
 obtain rfl:k=5:=by omega
 rw [show M 0=srtL L2 0 from by rw [hM]; rfl,show M 1=srtL L2 1 from by rw [hM]; rfl,show M 2=srtL L2 2 from by rw [hM]; rfl,show M 3=srtL L2 3 from by rw [hM]; rfl,show M 4=srtL L2 4 from by rw [hM]; rfl]
 refine wk_fs (.there (.there (.there (.there .here)))) (fun _ _=>rfl) (by intro b hb; cases hb) ?_; intro GfR0 hR0 hleR0 evR0 hsR0; subst evR0
 have hs:=hs.mono hleR0
 refine wk_fs (.there (.there (.there .here))) (fun _ _=>rfl) (by intro b hb; cases hb) ?_; intro GfR1 hR1 hleR1 evR1 hsR1; subst evR1
 have hs:=hs.mono hleR1
 have hsR0:=hsR0.mono hleR1
 refine wk_fs (.there (.there .here)) (fun _ _=>rfl) (by intro b hb; cases hb) ?_; intro GfR2 hR2 hleR2 evR2 hsR2; subst evR2
 have hs:=hs.mono hleR2
 have hsR0:=hsR0.mono hleR2
 have hsR1:=hsR1.mono hleR2
 refine wk_fs (.there .here) (fun _ _=>rfl) (by intro b hb; cases hb) ?_; intro GfR3 hR3 hleR3 evR3 hsR3; subst evR3
 have hs:=hs.mono hleR3
 have hsR0:=hsR0.mono hleR3
 have hsR1:=hsR1.mono hleR3
 have hsR2:=hsR2.mono hleR3
 refine wk_fs .here (fun _ _=>rfl) (by intro b hb; cases hb) ?_; intro GfR4 hR4 hleR4 evR4 hsR4; subst evR4
 have hs:=hs.mono hleR4
 have hsR0:=hsR0.mono hleR4
 have hsR1:=hsR1.mono hleR4
 have hsR2:=hsR2.mono hleR4
 have hsR3:=hsR3.mono hleR4
 rw [xC_cells (e:=e) (L:=srtL L2)]
 have hXR:=stR5 (X:=(mkX e (srtL L2))) hsR0 hsR1 hsR2 hsR3 hsR4 (fun i hi=>by show (srtL L2 i).length≤_; rw [srtL_len]; have:=hL2l i hi; omega) (fun i hi m hm=>addL_wf (dropL_wf hs.wf hL) hE.wf.add hA i hi m (srtL_mem.1 hm))
 refine Wk.rg [0,1,2] rfl rfl (lA rfl .no Fx.ag27 (.u rfl) (fun _=>RdN.own .here) (fun _=>(by first|exact qE|exact qL|rfl)) ?_)
 refine kv rfl .no Fx.go15 (Evc rfl Evn) (fun _=>vRight_ok (mkX e (srtL L2)) (hx5 hR0 hR1 hR2 hR3 hR4) _ hXR) ?_
 refine nt rfl .no (.u rfl) (.nil (.code (.cond rfl (fun c14=>?_) (fun c14=>?_))))
 ·have c14k:=c14
  try simp only [qcA,qcC,qcB] at c14
  refine .seq (Wk.rg [0,1,2] rfl rfl (bC rfl .no Fx.bp27_ .nil rfl ?_))
  refine sw rfl (.u rfl) (.u rfl) rfl Fx.sz27 (.there .here) (by first|exact qE|exact qL|rfl) (State.one') ?_
  refine asg rfl .no (.u rfl) (.nil (.code (.ret (We.fin0 Tryd.results29 (.cell rfl (fun w hw=>run_loadVarN Fx.ag27 (RdN.own .here) ((by first|exact qE|exact qL|rfl)) hw) (.tmp rfl .nil)) ?_))))
  exact ⟨State.zero,hd0,180,.inr (.inl ⟨hri,by rw [ap_end hok hL hA]; exact chk_no (EqS.refl _) (by assumption),rfl,rfl⟩),rfl,rfl,st_zero⟩
 have c14k:=c14
 try simp only [qcA,qcC,qcB] at c14
 refine .skip (.code (.seq (Wk.rg [0,1,2] rfl rfl (lA rfl .no Fx.ag27 (.u rfl) (fun _=>RdN.own .here) (fun _=>(by first|exact qE|exact qL|rfl)) ?_))))
 refine sw rfl (.u rfl) (.u rfl) rfl Fx.sz27 (.there .here) (by first|exact qE|exact qL|rfl) (State.one') ?_
 refine asg rfl .no (.u rfl) (.nil (.code (.ret (We.fin0 Tryd.results29 (.cell rfl (fun w hw=>run_loadVarN Fx.ag27 (RdN.own .here) ((by first|exact qE|exact qL|rfl)) hw) (.tmp rfl .nil)) ?_))))
 exact ⟨(mkX e (srtL L2)),(hx5 hR0 hR1 hR2 hR3 hR4),0,.inr (.inr ⟨hri,rfl,_,by rw [ap_end hok hL hA]; exact chk_eq (EqS.refl _) (by assumption),EqS.refl _⟩),rfl,rfl,hXR⟩
end Go.Proofs.YtdeobooblmjlfaaDoor
namespace Go.Tan
open Go.RowKit
section
variable {P:Program} {n:Nat} {l:List Oper} {K K':Env→PM→Mem→Prop} {mc:Md}
theorem Sat.nil {G:PM} {w:World} (h:∀ b o,G b=some o→w.heap[b]? = some o):Sat G [] w:=⟨h,by simp,by simp [keys],by simp [keys]⟩
theorem Wo.unlay {j:Nat} {ρ:Env} {G:PM} {μ:Mem} {oi oj:Oper} {c:Bool} {v:Value} (hK:KOk K) (hoj:nth l j=some oj) (hap:Apart l oi oj) (hd:dstOk n oi.dst)
  (H:Wo true mc P n l K [j] (lay ρ oi.dst c v) G μ):Wo true mc P n l (fun ρ' G' μ'=>PM.le G G'∧(∃ c' v',ρ'=lay ρ oj.dst c' v')∧K (lay ρ' oi.dst c v) G' μ') [j] ρ G μ:=by
 have h0:∀ {ρ G μ},Wo true mc P n l K [] ρ G μ→K ρ G μ:=fun h=>by cases h with | nil h=>exact h
 have sw:∀ {c':Bool} {v':Value} {G':PM} {μ':Mem},Wo true mc P n l K [] (lay (lay ρ oi.dst c v) oj.dst c' v') G' μ'→K (lay (lay ρ oj.dst c' v') oi.dst c v) G' μ':=fun h=>hK.1 _ _ _ _ (look_swap hap.dd) (h0 h)
 cases H with
 | @pure _ _ _ _ _ o cj vj ho hk hg hr h =>
  obtain rfl:oj=o:=Option.some.inj (hoj.symm.trans ho)
  refine .pure hoj hk (gd_drop hap.ij hg) (fun hc a w ha=>drop_put hd hap.sj hap.ij (Φ:=fun s=>s.run P w=.ok (.value vj) w) (fun a ha=>hr hc a w ha) a ha) (.nil ⟨PM.le.refl G,⟨_,_,rfl⟩,sw h⟩)
 | @read _ _ _ _ _ o cj vj ho hk hg hr h =>
  obtain rfl:oj=o:=Option.some.inj (hoj.symm.trans ho)
  refine .read hoj hk (gd_drop hap.ij hg) (fun hc a w ha hs=>drop_put hd hap.sj hap.ij (Φ:=fun s=>s.run P w=.ok (.value vj) w) (fun a ha=>hr hc a w ha hs) a ha) (.nil ⟨PM.le.refl G,⟨_,_,rfl⟩,sw h⟩)
 | @make _ _ _ _ _ o ob mkv ho hk hg hr h =>
  obtain rfl:oj=o:=Option.some.inj (hoj.symm.trans ho)
  exact .make hoj hk hg hr fun b=>.nil ⟨PM.le.refl G,⟨_,_,rfl⟩,sw (h b)⟩
 | @box _ _ _ _ _ o ob mkv ho hk hg hr h =>
  obtain rfl:oj=o:=Option.some.inj (hoj.symm.trans ho)
  exact .box hoj hk hg (fun a w ha=>drop_put hd hap.sj hap.ij (Φ:=fun s=>s.run P w=.ok (.value (mkv w.heap.size)) (w.alloc ob)) (fun a ha=>hr a w ha) a ha) fun b=>.nil ⟨PM.le.refl G,⟨_,_,rfl⟩,sw (h b)⟩
 | @callv _ _ _ _ _ o cj f args vj Gp ho hk hg hr hf h =>
  obtain rfl:oj=o:=Option.some.inj (hoj.symm.trans ho)
  exact .callv hoj hk (gd_drop hap.ij hg) (fun hc a w ha=>drop_put hd hap.sj hap.ij (Φ:=fun s=>s.run P w=.ok (.enter f args) w) (fun a ha=>hr hc a w ha) a ha) hf (.nil ⟨PM.le.refl G,⟨_,_,rfl⟩,sw h⟩)
 | @call _ _ _ _ _ o f args post ho hk hg hr hf h =>
  obtain rfl:oj=o:=Option.some.inj (hoj.symm.trans ho)
  exact .call hoj hk (gd_drop hap.ij hg) (fun a w ha=>drop_put hd hap.sj hap.ij (Φ:=fun s=>s.run P w=.ok (.enter f args) w) (fun a ha=>hr a w ha) a ha) hf fun v' G' μ' hle hp=>.nil ⟨hle,⟨_,_,rfl⟩,sw (h v' G' μ' hle hp)⟩
 | callg hdf _ _ _ _ _=>cases hdf
 | @fresh _ _ _ _ _ o μ₁ μ₂ post ho hk hg hp hr hw h =>
  obtain rfl:oj=o:=Option.some.inj (hoj.symm.trans ho)
  exact .fresh hoj hk hg hp (fun a w ha hs=>drop_put hd hap.sj hap.ij (Φ:=fun s=>∃ v w' G' μa μb,s.run P w=.ok (.value v) w'∧Tr G (keys μ₁) w G' (μa++μb) w'∧post G' μa μb v) (fun a ha=>hr a w ha hs) a ha) hw fun v' G' μa μb hle hq=>.nil ⟨hle,⟨_,_,rfl⟩,sw (h v' G' μa μb hle hq)⟩
 | @act _ _ _ _ _ o μ₁ μ₂ post ho hk hg hp hr h =>
  obtain rfl:oj=o:=Option.some.inj (hoj.symm.trans ho)
  exact .act hoj hk (gd_drop hap.ij hg) hp (fun a w ha hs=>drop_put hd hap.sj hap.ij (Φ:=fun s=>(∃ v w' G' μ',(s.run P w=.ok (.value v) w'∨s.run P w=.ok .skip w'∧v=undef)∧Tr G (keys μ₁) w G' μ' w'∧post G' μ' v) ∨
    (∃ f args,s.run P w=.ok (.enter f args) w∧Ct P f args G μ₁ post)) (fun a ha=>hr a w ha hs) a ha) fun v' G' μ' hle hq=>.nil ⟨hle,⟨_,_,rfl⟩,sw (h v' G' μ' hle hq)⟩
def oneP (mc:Md) (l:List Oper) (listed:Array Bool) (i:Nat):Bool :=
 (rdy l listed).contains i&&match nth l i with
 | some oi=>(kindOf mc oi.op == .read)&&(List.range l.length).all fun j=>listed.getD j true||j == i||match nth l j with
  | some oj=>dep l l.length j i||oi.apart l.toArray oj
  | none=>false
 | none=>false
def PRd (P:Program) (n:Nat) (l:List Oper) (o:Oper) (c:Bool) (v:Value) (ρ:Env) (G:PM):Prop :=
 Gd l ρ o.guard c∧(c=true→∀ a w,Ag n ρ a→(∀ b u,G b=some u→w.heap[b]? = some u)→(execOp a.eval o).run P w=.ok (.value v) w)
def Wp (mc:Md) (P:Program) (n:Nat) (l:List Oper) (K:Env→PM→Mem→Prop):Nat→Array Bool→Env→PM→Mem→Prop
 | 0,listed,ρ,G,μ=>rdy l listed=[]∧K ρ G μ
 | m+1,listed,ρ,G,μ=>(∃ i,oneOk mc l listed i=true∧Wo true mc P n l (fun ρ' G' μ'=>Wp mc P n l K m (listed.setIfInBounds i true) ρ' G' μ') [i] ρ G μ) ∨
   (rdy l listed≠[]∧∀ j∈rdy l listed,Wo true mc P n l (fun ρ' G' μ'=>Wp mc P n l K m (listed.setIfInBounds j true) ρ' G' μ') [j] ρ G μ) ∨
   (∃ i o c v,oneP mc l listed i=true∧nth l i=some o∧PRd P n l o c v ρ G∧Wp mc P n l K m (listed.setIfInBounds i true) (lay ρ o.dst c v) G μ)
theorem PRd.congr {o:Oper} {c:Bool} {v:Value} {ρ ρ':Env} {G:PM} (h:PRd P n l o c v ρ G) (e:∀ i,look ρ i=look ρ' i):PRd P n l o c v ρ' G :=
 ⟨h.1.congr fun _ t _ _ _=>e t,fun hc a w ha hs=>h.2 hc a w (ha.congr e) hs⟩
theorem Wp.kok (hK:KOk K):∀ (m:Nat) (listed:Array Bool),KOk (fun ρ G μ=>Wp mc P n l K m listed ρ G μ)
 | 0,listed=>⟨fun ρ ρ' G μ e h=>⟨h.1,hK.1 _ _ _ _ e h.2⟩,fun ρ G μ μ' p h=>⟨h.1,hK.2 _ _ _ _ p h.2⟩⟩
 | m+1,listed=>by
  refine ⟨fun ρ ρ' G μ e h=>?_,fun ρ G μ μ' p h=>?_⟩
  ·rcases h with ⟨i,h1,h2⟩ | ⟨h1,h2⟩ | ⟨i,o,c,v,h1,h2,h3,h4⟩
   ·exact .inl ⟨i,h1,h2.congr (Wp.kok hK m _) e⟩
   ·exact .inr (.inl ⟨h1,fun j hj=>(h2 j hj).congr (Wp.kok hK m _) e⟩)
   exact .inr (.inr ⟨i,o,c,v,h1,h2,h3.congr e,(Wp.kok hK m _).1 _ _ _ _ (look_lay_congr e _ _ _) h4⟩)
  rcases h with ⟨i,h1,h2⟩ | ⟨h1,h2⟩ | ⟨i,o,c,v,h1,h2,h3,h4⟩
  ·exact .inl ⟨i,h1,h2.perm (Wp.kok hK m _) p⟩
  ·exact .inr (.inl ⟨h1,fun j hj=>(h2 j hj).perm (Wp.kok hK m _) p⟩)
  exact .inr (.inr ⟨i,o,c,v,h1,h2,h3,(Wp.kok hK m _).2 _ _ _ _ p h4⟩)
theorem oneP_mono {listed:Array Bool} {i j:Nat} (hne:i≠j) (h:oneP mc l listed i=true):oneP mc l (listed.setIfInBounds j true) i=true:=by
 unfold oneP at h ⊢
 simp only [Bool.and_eq_true] at h ⊢
 obtain ⟨h1,h2⟩:=h
 refine ⟨by simpa using rdy_mono (by simpa using h1) hne,?_⟩
 cases hi:nth l i with
 | none=>rw [hi] at h2; cases h2
 | some oi =>
  simp only [hi,Bool.and_eq_true] at h2 ⊢
  refine ⟨h2.1,List.all_eq_true.2 fun k hk=>?_⟩
  have h3:=List.all_eq_true.1 h2.2 k hk
  by_cases e:j=k
  ·subst e
   have:(listed.setIfInBounds j true).getD j true=true:=by
    rcases Nat.lt_or_ge j listed.size with h' | h'<;>simp [h']
   rw [this]; rfl
  rw [getD_set_ne true e]; exact h3
theorem Wp.front (hK:KOk K) (hs:Region.noSelect l.toArray=true) (hmk:∀ j oj,nth l j=some oj→kindOf mc oj.op=.make→Makes P oj) (hds:∀ j oj,nth l j=some oj→dstOk n oj.dst) :
  ∀ (m:Nat) (listed:Array Bool) (j:Nat) (ρ:Env) (G:PM) (μ:Mem),unlN listed=m+1→Closed l listed→j∈rdy l listed→Wp mc P n l K (m+1) listed ρ G μ→Wo true mc P n l (fun ρ' G' μ'=>Wp mc P n l K m (listed.setIfInBounds j true) ρ' G' μ') [j] ρ G μ
 | m,listed,j,ρ,G,μ,hu,hcl,hj,H=>by
  rcases H with ⟨i,h1,h2⟩ | ⟨_,h2⟩ | ⟨i,oi,c,v,h1,hoi,h2,h3⟩
  ·by_cases e:j=i
   ·subst e; exact h2
   have hi:i∈rdy l listed:=by unfold oneOk at h1; simp only [Bool.and_eq_true] at h1; simpa using h1.1
   have hj':=rdy_mono hj e
   have hiun:=(rdy_iff.1 hi).1
   have hjun:=(rdy_iff.1 hj).1
   have hu1:=unlN_set hiun
   have hjun':(listed.setIfInBounds i true).getD j true=false:=by rw [getD_set_ne true (Ne.symm e)]; exact hjun
   have hp:=unlN_pos hjun'
   obtain ⟨m',rfl⟩ : ∃ m',m=m'+1:=⟨m-1,by omega⟩
   obtain ⟨_,oi,hoi,_⟩:=rdy_iff.1 hi
   obtain ⟨_,oj,hoj,_⟩:=rdy_iff.1 hj
   have h3:Wo true mc P n l (fun ρ' G' μ'=>Wp mc P n l K m' ((listed.setIfInBounds i true).setIfInBounds j true) ρ' G' μ') (i :: [j]) ρ G μ :=
    h2.bind1 fun ρ' G' μ' h=>Wp.front hK hs hmk hds m' (listed.setIfInBounds i true) j ρ' G' μ' (by omega) (hcl.set hi) hj' h
   have hnoe:=not_dep hcl hiun hj l.length
   have hjl:j<l.length:=by
    have:=(nth_eq l j).trans hoj
    exact (by simpa using (Array.getElem?_eq_some_iff.1 this).1)
   have h1':=h1
   unfold oneOk at h1'
   simp only [Bool.and_eq_true,hoi] at h1'
   obtain ⟨_,hki,hall⟩:=h1'
   have h4:=List.all_eq_true.1 hall j (List.mem_range.2 hjl)
   simp only [hjun,hoj,hnoe,Bool.false_or,Bool.or_eq_true,beq_iff_eq,e,false_or,Bool.and_eq_true,bne_iff_ne] at h4
   simp only [Bool.or_eq_true,beq_iff_eq] at hki
   have hkk:kindOf mc oi.op=.pure∨(kindOf mc oi.op=.read∧kindOf mc oj.op≠.act)∨kindOf mc oj.op=.make:=by
    rcases hki with h5 | h5
    ·exact .inl h5
    rcases h4.2 with h6 | h6
    ·exact .inl h6
    exact .inr (.inl ⟨h5,h6⟩)
   have h5:=Wo.swap (Wp.kok hK m' _) rfl hoi hoj (apart_of hs hoi hoj h4.1) hds (hmk j oj hoj) hkk h3
   refine h5.cut1.bind1 fun ρ' G' μ' h=>.nil (.inl ⟨i,oneOk_mono (Ne.symm e) h1,?_⟩)
   rw [Array.setIfInBounds_comm _ _ e]
   exact h
  ·exact h2 j hj
  by_cases e:j=i
  ·subst e
   have hkr:kindOf mc oi.op=.read:=by
    unfold oneP at h1; simp only [Bool.and_eq_true,hoi,beq_iff_eq] at h1; exact h1.2.1
   exact .read hoi (.inl hkr) h2.1 (fun hc a w ha hs=>h2.2 hc a w ha hs.sub) (.nil h3)
  have hi:i∈rdy l listed:=by unfold oneP at h1; simp only [Bool.and_eq_true] at h1; simpa using h1.1
  have hj':=rdy_mono hj e
  have hiun:=(rdy_iff.1 hi).1
  have hjun:=(rdy_iff.1 hj).1
  have hu1:=unlN_set hiun
  have hjun':(listed.setIfInBounds i true).getD j true=false:=by rw [getD_set_ne true (Ne.symm e)]; exact hjun
  have hp:=unlN_pos hjun'
  obtain ⟨m',rfl⟩ : ∃ m',m=m'+1:=⟨m-1,by omega⟩
  obtain ⟨_,oj,hoj,_⟩:=rdy_iff.1 hj
  have hnoe:=not_dep hcl hiun hj l.length
  have hjl:j<l.length:=by
   have:=(nth_eq l j).trans hoj
   exact (by simpa using (Array.getElem?_eq_some_iff.1 this).1)
  have h1':=h1
  unfold oneP at h1'
  simp only [Bool.and_eq_true,hoi] at h1'
  obtain ⟨_,_,hall⟩:=h1'
  have h4:=List.all_eq_true.1 hall j (List.mem_range.2 hjl)
  simp only [hjun,hoj,hnoe,Bool.false_or,Bool.or_eq_true,beq_iff_eq,e,false_or] at h4
  have hap:=apart_of hs hoi hoj h4
  have h5:=Wp.front hK hs hmk hds m' (listed.setIfInBounds i true) j _ G μ (by omega) (hcl.set hi) hj' h3
  refine (Wo.unlay (Wp.kok hK m' _) hoj hap (hds i oi hoi) h5).bind1 fun ρ' G' μ' ⟨hle,⟨c',v',hρ⟩,h⟩=>.nil (.inr (.inr ⟨i,oi,c,v,oneP_mono (Ne.symm e) h1,hoi,?_,?_⟩))
  ·subst hρ
   refine ⟨gd_put hap.ji h2.1,fun hc a w ha hs=>?_⟩
   exact keep_put (hds j oj hoj) hap.si hap.ji (Φ:=fun s=>s.run P w=.ok (.value v) w) (fun a ha=>h2.2 hc a w ha (fun b u hb=>hs b u (hle b u hb))) a ha
  rw [Array.setIfInBounds_comm _ _ e]
  exact h
theorem Wp.any {Q:Exit→Act→World→Prop} {G0:PM} {K0:List Nat} {w0:World} (hK:KOk K) (hs:Region.noSelect l.toArray=true) (hmk:∀ j oj,nth l j=some oj→kindOf mc oj.op=.make→Makes P oj) (hds:∀ j oj,nth l j=some oj→dstOk n oj.dst)
  (hQ:∀ ρ G μ,K ρ G μ→∀ a w,Ag n ρ a→Tr G0 K0 w0 G μ w→Q .normal a w) :
  ∀ (m:Nat) (listed:Array Bool) (ρ:Env) (G:PM) (μ:Mem) (a:Act) (w:World),unlN listed=m→Closed l listed→Wp mc P n l K m listed ρ G μ→Ag n ρ a→Tr G0 K0 w0 G μ w→wpAny P .any l.toArray Q m listed a w
 | 0,listed,ρ,G,μ,a,w,_,_,H,ha,ht=>⟨H.1,hQ _ _ _ H.2 a w ha ht⟩
 | m+1,listed,ρ,G,μ,a,w,hu,hcl,H,ha,ht=>by
  refine ⟨fun h0=>?_,fun j hj=>?_⟩
  ·rcases H with ⟨i,h1,_⟩ | ⟨h1,_⟩ | ⟨i,oi,c,v,h1,_⟩
   ·have hi:i∈rdy l listed:=by unfold oneOk at h1; simp only [Bool.and_eq_true] at h1; simpa using h1.1
    unfold rdy at hi
    rw [h0] at hi; cases hi
   ·exact absurd h0 h1
   have hi:i∈rdy l listed:=by unfold oneP at h1; simp only [Bool.and_eq_true] at h1; simpa using h1.1
   unfold rdy at hi
   rw [h0] at hi; cases hi
  have hj':j∈rdy l listed:=hj
  have hu1:=unlN_set (rdy_iff.1 hj').1
  obtain ⟨o,ho,h⟩:=(Wp.front hK hs hmk hds m listed j ρ G μ hu hcl hj' H).head ha ht (next:=wpAny P .any l.toArray Q m (listed.setIfInBounds j true)) (Q:=Q) hds
   (fun ρ' G' μ' a' w' H' ha' ht'=>by cases H' with | nil h=>exact Wp.any hK hs hmk hds hQ m _ ρ' G' μ' a' w' (by omega) (hcl.set hj') h ha' ht')
  simp only [wpOp,nth_eq,ho]
  split
  ·rename_i hw; rw [if_pos hw] at h; exact .inl h
  rename_i hw; rw [if_neg hw] at h; exact h
theorem Wk.mixp {X:Cx} {k:List KI} {id:Nat} {ρ:Env} {G:PM} {μ:Mem} (mc:Md) (hm:X.P.follows .mixedOrders=true) (hok:mixOk X.P X.n l=true)
  (h:Wp mc X.P X.n l (fun ρ G μ=>We X .normal k ρ G μ) l.length (Array.replicate l.length false) ρ G μ):Wk X (.region id l.toArray true) k ρ G μ:=by
 simp only [mixOk,Bool.and_eq_true] at hok
 obtain ⟨⟨h1,h2⟩,h3⟩:=hok
 refine ⟨fun a w ha ht=>wp_region_any hm ?_⟩
 have hu:unlN (Array.replicate l.length false)=l.length:=by simp [unlN]
 have:=Wp.any (Q:=Qof X k) (We.kok .normal) h1 (fun j oj hj hk=>makes_of hk (List.all_eq_true.1 h3 oj (mem_of_nth hj)))
  (fun j oj hj=>by
   have:=List.all_eq_true.1 h2 oj (mem_of_nth hj)
   cases hd:oj.dst with
   | none=>trivial
   | some d=>rw [hd] at this; show d<X.n; exact of_decide_eq_true this) (fun _ _ _ h a w ha ht=>h.out a w ha ht) l.length _ ρ G μ a _ hu (Closed.none l.length) h ha ht.drew
 simpa using this
variable {ρ:Env} {G:PM} {μ:Mem} {m:Nat} {listed:Array Bool}
theorem Wp.last (hr:rdy l listed=[]) (h:K ρ G μ):Wp mc P n l K 0 listed ρ G μ:=⟨hr,h⟩
theorem Wp.one (i:Nat) (hc:oneOk mc l listed i=true) (h:Wo true mc P n l (fun ρ' G' μ'=>Wp mc P n l K m (listed.setIfInBounds i true) ρ' G' μ') [i] ρ G μ):Wp mc P n l K (m+1) listed ρ G μ:=.inl ⟨i,hc,h⟩
theorem Wp.pr (i:Nat) (hc:oneP mc l listed i=true) (h:Wo true mc P n l (fun ρ' G' μ'=>(G'=G∧μ'=[])∧Wp mc P n l K m (listed.setIfInBounds i true) ρ' G μ) [i] ρ G []):Wp mc P n l K (m+1) listed ρ G μ:=by
 have h1:=hc
 unfold oneP at h1
 simp only [Bool.and_eq_true] at h1
 cases hoi:nth l i with
 | none=>rw [hoi] at h1; cases h1.2
 | some oi =>
  have hkr:kindOf mc oi.op=.read:=by simp only [hoi,Bool.and_eq_true,beq_iff_eq] at h1; exact h1.2.1
  cases h with
  | @read _ _ _ _ _ o c v ho hk hg hr h =>
   obtain rfl:oi=o:=Option.some.inj (hoi.symm.trans ho)
   cases h with
   | nil h=>exact .inr (.inr ⟨i,oi,c,v,hc,hoi,⟨hg,fun hc' a w ha hs=>hr hc' a w ha (Sat.nil hs)⟩,h.2⟩)
  | @pure _ _ _ _ _ o cj vj ho hk _ _ _=>obtain rfl:oi=o:=Option.some.inj (hoi.symm.trans ho); rcases hk with hk | hk<;>simp_all
  | @make _ _ _ _ _ o _ _ ho hk _ _ _=>obtain rfl:oi=o:=Option.some.inj (hoi.symm.trans ho); rcases hk with hk | hk<;>simp_all
  | @box _ _ _ _ _ o _ _ ho hk _ _ _=>obtain rfl:oi=o:=Option.some.inj (hoi.symm.trans ho); rcases hk with hk | hk<;>simp_all
  | @callv _ _ _ _ _ o cj f args vj Gp ho hk _ _ _ _=>obtain rfl:oi=o:=Option.some.inj (hoi.symm.trans ho); rcases hk with hk | hk | hk<;>simp_all
  | @call _ _ _ _ _ o f args post ho hk _ _ _ _=>obtain rfl:oi=o:=Option.some.inj (hoi.symm.trans ho); rcases hk with hk | hk | hk<;>simp_all
  | callg hdf _ _ _ _ _=>cases hdf
  | @fresh _ _ _ _ _ o μ₁ μ₂ post ho hk _ _ _ _ _=>obtain rfl:oi=o:=Option.some.inj (hoi.symm.trans ho); rcases hk with hk | hk<;>simp_all
  | @act _ _ _ _ _ o μ₁ μ₂ post ho hk _ _ _ _=>obtain rfl:oi=o:=Option.some.inj (hoi.symm.trans ho); rcases hk with hk | hk<;>simp_all
theorem Wp.b1 (j:Nat) (hr:rdy l listed=[j]) (h:Wo true mc P n l (fun ρ' G' μ'=>Wp mc P n l K m (listed.setIfInBounds j true) ρ' G' μ') [j] ρ G μ):Wp mc P n l K (m+1) listed ρ G μ :=
 .inr (.inl ⟨by rw [hr]; simp,fun j' hj'=>by rw [hr] at hj'; obtain rfl:=List.mem_singleton.1 hj'; exact h⟩)
theorem Wp.b2 (j j2:Nat) (hr:rdy l listed=[j,j2]) (h:Wo true mc P n l (fun ρ' G' μ'=>Wp mc P n l K m (listed.setIfInBounds j true) ρ' G' μ') [j] ρ G μ)
  (h2:Wo true mc P n l (fun ρ' G' μ'=>Wp mc P n l K m (listed.setIfInBounds j2 true) ρ' G' μ') [j2] ρ G μ):Wp mc P n l K (m+1) listed ρ G μ :=
 .inr (.inl ⟨by rw [hr]; simp,fun j' hj'=>by
  rw [hr] at hj'
  rcases List.mem_cons.1 hj' with rfl | hj'
  ·exact h
  ·obtain rfl:=List.mem_singleton.1 hj'; exact h2⟩)
theorem Wp.b3 (j j2 j3:Nat) (hr:rdy l listed=[j,j2,j3]) (h:Wo true mc P n l (fun ρ' G' μ'=>Wp mc P n l K m (listed.setIfInBounds j true) ρ' G' μ') [j] ρ G μ)
  (h2:Wo true mc P n l (fun ρ' G' μ'=>Wp mc P n l K m (listed.setIfInBounds j2 true) ρ' G' μ') [j2] ρ G μ) (h3:Wo true mc P n l (fun ρ' G' μ'=>Wp mc P n l K m (listed.setIfInBounds j3 true) ρ' G' μ') [j3] ρ G μ):Wp mc P n l K (m+1) listed ρ G μ :=
 .inr (.inl ⟨by rw [hr]; simp,fun j' hj'=>by
  rw [hr] at hj'
  rcases List.mem_cons.1 hj' with rfl | hj'
  ·exact h
  ·rcases List.mem_cons.1 hj' with rfl | hj'
   ·exact h2
   ·obtain rfl:=List.mem_singleton.1 hj'; exact h3⟩)
end
theorem StN.zero:StN State.zero:=by
 have z:u64 0:=⟨by decide,by decide⟩
 exact ⟨z,z,z,z,fun _ _=>z⟩
theorem StL.zero:StL State.zero:=⟨by decide,fun i _ m hm=>absurd hm List.not_mem_nil⟩
theorem StN.cg {s s':State} (h:EqS s s') (k:StN s'):StN s:=⟨h.log▸k.log,h.next▸k.next,h.seq▸k.seq,h.least▸k.least,fun i hi=>by rw [h.gens]; exact k.gens i hi⟩
theorem StL.right {s:State} (h:rightS s=true):StL s:=by
 have h1:=(rightP_of h).few
 exact ⟨by omega,fun i hi m hm=>by have:=right_fits h hi m hm; omega⟩
theorem AppR.stN {s:State} {e:Edit} {X:State} {r:Int} (h:AppR s e X r) (hw:e.wf):StN X:=by
 rcases h with ⟨_,_,rfl⟩ | ⟨_,_,_,rfl⟩ | ⟨_,_,Y,h1,h2⟩
 ·exact StN.zero
 ·exact StN.zero
 ·obtain ⟨_,_,L1,L2,_,_,rfl⟩:=applyO_inv h1
  exact StN.cg h2 ⟨hw.log,hw.next,hw.seq,hw.least,hw.gens⟩
theorem AppR.stL {s:State} {e:Edit} {X:State} {r:Int} (h:AppR s e X r):StL X:=by
 rcases h with ⟨_,_,rfl⟩ | ⟨_,_,_,rfl⟩ | ⟨h1,h2,Y,h3,h4⟩
 ·exact StL.zero
 ·exact StL.zero
 ·obtain ⟨_,h5,_⟩:=applyO_inv h3
  exact StL.right (by rw [h4.right]; exact h5)
theorem AppR.few {s:State} {e:Edit} {X:State} (h:AppR s e X 0) (hw:e.wf):e.add.length≤1000000∧e.drop.length≤1000000∧(e.add.flatMap encM).length≤900000000000:=by
 obtain ⟨_,Z,h1,_⟩:=h.right
 obtain ⟨a1,a2,a3⟩:=added h1
 have h4:=metas_len' (R:=1024) e.add fun m hm=>⟨hw.add m hm,(a1 m hm).2.2.1,(a1 m hm).2.2.2⟩
 have h5:e.add.length*(2*1024+112)≤1024*(2*1024+112):=Nat.mul_le_mul_right _ a2
 exact ⟨by omega,by omega,by omega⟩
def maniC (h:Hd) (s:State) (hd:Nat→Sh) (mark:BitVec 64) (n used:Int) (torn:Bool):List Value :=
 [V h.kind,V h.level,uv .u64 h.gen,uv .u64 h.epoch,uv .u64 h.num]++s.cells hd++[uv .u64 mark,.int .i64 n,.int .i64 used,.bool torn]
section
variable {h:Hd} {s s':State} {hd hd':Nat→Sh} {mark mark':BitVec 64} {n n' used used':Int} {torn torn':Bool}
theorem mani_len:(maniC h s hd mark n used torn).length=23:=rfl
theorem mani_one:∀ u∈maniC h s hd mark n used torn,u.oneCell'=true:=by
 intro u hu
 unfold maniC at hu
 rcases List.mem_append.1 hu with hu | hu
 ·rcases List.mem_append.1 hu with hu | hu
  ·simp only [List.mem_cons,List.not_mem_nil,or_false] at hu
   rcases hu with rfl|rfl|rfl|rfl|rfl<;>rfl
  ·exact State.one' _ hu
 ·simp only [List.mem_cons,List.not_mem_nil,or_false] at hu
  rcases hu with rfl|rfl|rfl|rfl<;>rfl
theorem mani_st:((maniC h s hd mark n used torn).drop 5).take 14=s.cells hd:=rfl
end
structure MnR (S:State) (m:Mn):Prop where
 eq:EqS S m.st
 right:rightS S=true
theorem leU {a b:BitVec 64}:((a.toNat:Int)≤(b.toNat:Int))↔a≤b:=by rw [BitVec.le_def]; omega
theorem MnR.bad {S:State} {m:Mn} {p:List Y} {e:Edit} {X:State} {r:Int} (h:MnR S m) (h40:¬ p.length<40) (hd:decO (p.drop 40)=some e) (ha:AppR S e X r) (hr:r≠0):stepM m p=none:=by
 rcases ha.cg h.eq with ⟨h1,_⟩ | ⟨_,h2,_⟩ | ⟨_,h1,_⟩
 ·rw [← h.eq.right,h.right] at h1; cases h1
 ·exact st_app h40 hd h2
 ·exact absurd h1 hr
theorem MnR.good {S:State} {m:Mn} {e:Edit} {X:State} (h:MnR S m) (ha:AppR S e X 0):∃ Z,applyO m.st e=some Z∧EqS X Z∧rightS X=true:=by
 obtain ⟨_,Z,h1,h2,_,h4⟩:=(ha.cg h.eq).right
 exact ⟨Z,h1,h2,h4⟩
theorem MnR.root {S:State} {m:Mn} {p:List Y} {e:Edit} {X:State} (h:MnR S m) (h40:¬ p.length<40) (hd:decO (p.drop 40)=some e) (ha:AppR S e X 0) (hr:¬ yl 32 (rootS X)=(p.drop 8).take 32):stepM m p=none:=by
 obtain ⟨Z,h1,h2,_⟩:=h.good ha
 exact st_root h40 hd h1 (by rw [← rootS_congr h2]; exact hr)
theorem MnR.next {S:State} {m:Mn} {p:List Y} {e:Edit} {X:State} (h:MnR S m) (h40:¬ p.length<40) (hd:decO (p.drop 40)=some e) (hm:¬ unfK p 8≤m.mark) (ha:AppR S e X 0) (hr:yl 32 (rootS X)=(p.drop 8).take 32) :
  ∃ m',stepM m p=some m'∧MnR X m'∧m'.mark=unfK p 8∧m'.n=m.n+1:=by
 obtain ⟨Z,h1,h2,h3⟩:=h.good ha
 exact ⟨_,st_good h40 hd hm h1 (by rw [← rootS_congr h2]; exact hr),⟨h2,h3⟩,rfl,rfl⟩
theorem yl_take {L:List Y} {n:Nat} (h:L.length=n):yl n (fun i=>L.getD i 0)=L:=by
 refine List.ext_getElem? fun i=>?_
 by_cases hi:i<n
 ·have:i<L.length:=by omega
  simp [yl,hi,this]
 rw [List.getElem?_eq_none (by rw [yl_len]; omega),List.getElem?_eq_none (by omega)]
theorem step_c2 {m:Mn} {p:List Y} {e:Edit} {er:Int} (h40:¬ p.length<40) (hD:DecR (p.drop 40) e er) (h:er≠0∨unfK p 8≤m.mark):stepM m p=none:=by
 rcases h with h | h
 ·rcases hD with ⟨_,h2⟩ | ⟨h1,_,_⟩
  ·exact absurd h2 h
  ·exact st_dec h40 h1
 ·exact st_mark h40 h
theorem dec_ok {p:List Y} {e:Edit} {er:Int} (hD:DecR p e er) (h:er=0):decO p=some e:=by
 rcases hD with ⟨h1,_⟩ | ⟨_,_,h2⟩
 ·exact h1
 ·rw [h] at h2; cases h2
theorem step_c3 {S:State} {m:Mn} {p L:List Y} {e:Edit} {X:State} {r:Int} (h:MnR S m) (h40:¬ p.length<40) (hd:decO (p.drop 40)=some e) (ha:AppR S e X r) (eL:L=(p.drop 8).take 32) (hc:r≠0∨¬ yl 32 (rootS X)=yl 32 (fun i=>L.getD i 0)):stepM m p=none:=by
 by_cases hr:r=0
 ·subst hr
  rcases hc with hc | hc
  ·exact absurd rfl hc
  ·rw [yl_take (by rw [eL,List.length_take,List.length_drop]; omega),eL] at hc
   exact h.root h40 hd ha hc
 ·exact h.bad h40 hd ha hr
theorem step_c4 {S:State} {m:Mn} {p L:List Y} {e:Edit} {X:State} {r:Int} (h:MnR S m) (h40:¬ p.length<40) (hd:decO (p.drop 40)=some e) (hm:¬ unfK p 8≤m.mark) (ha:AppR S e X r) (eL:L=(p.drop 8).take 32) (hr:r=0) (hc:yl 32 (rootS X)=yl 32 (fun i=>L.getD i 0)) :
  ∃ m',stepM m p=some m'∧MnR X m'∧m'.mark=unfK p 8∧m'.n=m.n+1:=by
 subst hr
 rw [yl_take (by rw [eL,List.length_take,List.length_drop]; omega),eL] at hc
 exact h.next h40 hd hm ha hc
theorem MnR.zero:MnR State.zero Mn.zero:=⟨EqS.refl _,right_zero⟩
theorem open_few {enc mac nonce:Nat→Y} {ad s x:List Y} (h:openL enc mac nonce ad s=some x):x.length≤s.length:=by
 unfold openL at h
 split at h
 ·cases h
 ·split at h
  ·cases h; rw [cross_len,List.length_take]; omega
  ·cases h
theorem readL_few {op:Nat→List Y→Option (List Y)} {tot:Nat} (hop:∀ i s x,op i s=some x→x.length≤s.length):∀ (N:Nat) (r parts:List Y) (recs R:List (List Y)) (used u:Nat),r.length≤N→readL op tot r parts recs used=some (R,u) →
  (∀ x∈R,x∈recs∨x.length≤parts.length+r.length)∧R.length≤recs.length+r.length
 | N,r,parts,recs,R,used,u,hN,h=>by
  by_cases h7:r.length<7
  ·rw [rd_short h7] at h; cases h; exact ⟨fun x hx=>.inl hx,by omega⟩
  by_cases hn:pieceN r=0∨128<pieceN r
  ·rw [rd_bad h7 hn] at h; cases h
  by_cases ht:r.length<7+pieceN r
  ·rw [rd_torn h7 hn ht] at h; cases h; exact ⟨fun x hx=>.inl hx,by omega⟩
  by_cases hf:frameL (r.getD 6 0) ((r.drop 7).take (pieceN r))≠r.take 7∨wrongP (r.getD 6 0) (pieceN r) (!parts.isEmpty)=true
  ·rw [rd_no h7 hn ht hf] at h; cases h
  have lt:((r.drop 7).take (pieceN r)).length=pieceN r:=by rw [List.length_take,List.length_drop]; omega
  have ld:(r.drop (7+pieceN r)).length=r.length-(7+pieceN r):=List.length_drop
  obtain ⟨N',rfl⟩ : ∃ N',N=N'+1:=⟨N-1,by omega⟩
  by_cases hk:r.getD 6 0=1#8∨r.getD 6 0=4#8
  ·cases hx:op recs.length (parts++(r.drop 7).take (pieceN r)) with
   | none=>rw [rd_shut h7 hn ht hf hk hx] at h; cases h
   | some x =>
    rw [rd_rec h7 hn ht hf hk hx] at h
    have hs:=hop _ _ _ hx
    rw [List.length_append,lt] at hs
    obtain ⟨h1,h2⟩:=readL_few hop N' _ _ _ _ _ _ (by omega) h
    refine ⟨fun y hy=>?_,by rw [List.length_append,List.length_cons,List.length_nil,ld] at h2; omega⟩
    rcases h1 y hy with h3 | h3
    ·rcases List.mem_append.1 h3 with h4 | h4
     ·exact .inl h4
     rw [List.mem_singleton.1 h4]; exact .inr (by omega)
    rw [List.length_nil,ld] at h3; exact .inr (by omega)
  rw [rd_go h7 hn ht hf hk] at h
  obtain ⟨h1,h2⟩:=readL_few hop N' _ _ _ _ _ _ (by omega) h
  refine ⟨fun y hy=>?_,by rw [ld] at h2; omega⟩
  rcases h1 y hy with h3 | h3
  ·exact .inl h3
  rw [List.length_append,lt,ld] at h3; exact .inr (by omega)
theorem readP_few (root:Nat→Y) (xs:List Y):(∀ x∈(readP root xs).1.recs,x.length≤xs.length)∧(readP root xs).1.recs.length≤xs.length:=by
 by_cases h:xs.length<30
 ·rw [read_short h]; exact ⟨fun x hx=>absurd hx List.not_mem_nil,Nat.zero_le _⟩
 by_cases he:(takeH xs).2=0
 ·cases hb:bodyR root (takeH xs).1 xs with
  | none=>rw [read_none h he hb]; exact ⟨fun x hx=>absurd hx List.not_mem_nil,Nat.zero_le _⟩
  | some q =>
   obtain ⟨R,u⟩:=q
   rw [read_some h he hb]
   obtain ⟨h1,h2⟩:=readL_few (fun i s x hx=>open_few hx) xs.length _ _ _ _ _ _ (by rw [List.length_drop]; omega) hb
   rw [List.length_drop] at h1 h2
   refine ⟨fun x hx=>?_,by rw [List.length_nil] at h2; show R.length≤_; omega⟩
   rcases h1 x hx with h3 | h3
   ·cases h3
   rw [List.length_nil] at h3; omega
 rw [read_head h he]; exact ⟨fun x hx=>absurd hx List.not_mem_nil,Nat.zero_le _⟩
structure ManV where
 hd:Hd
 m:Mn
 used:Nat
 torn:Bool
noncomputable def readM (root:Nat→Y) (xs:List Y):Option ManV :=
 if (readP root xs).2≠0∨30≤xs.length∧(readP root xs).1.hd.kind≠3#8 then none else (stepsM (readP root xs).1.recs Mn.zero).map fun m=>⟨(readP root xs).1.hd,m,(readP root xs).1.used,(readP root xs).1.torn⟩
theorem readM_bad {root:Nat→Y} {xs:List Y} (h:(readP root xs).2≠0∨30≤xs.length∧(readP root xs).1.hd.kind≠3#8):readM root xs=none:=by unfold readM; rw [if_pos h]
theorem readM_no {root:Nat→Y} {xs:List Y} (h:stepsM (readP root xs).1.recs Mn.zero=none):readM root xs=none:=by
 unfold readM; split
 ·rfl
 ·rw [h]; rfl
theorem readM_yes {root:Nat→Y} {xs:List Y} {m:Mn} (h:¬ ((readP root xs).2≠0∨30≤xs.length∧(readP root xs).1.hd.kind≠3#8)) (hs:stepsM (readP root xs).1.recs Mn.zero=some m):readM root xs=some ⟨(readP root xs).1.hd,m,(readP root xs).1.used,(readP root xs).1.torn⟩:=by
 unfold readM; rw [if_neg h,hs]; rfl
instance {h:Hd} {s:State} {hd:Nat→Sh} {mark:BitVec 64} {n used:Int} {torn:Bool}:QLen (maniC h s hd mark n used torn) 23:=⟨mani_len⟩
end Go.Tan
namespace Go.Proofs.YtdeobooblmjlfaaDoor
open Go.Tan Go.RowKit
namespace Fx
theorem go29:goFn Tryd.prog 29=true:=by kernel_rfl
theorem go9:goFn Tryd.prog 9=true:=by kernel_rfl
theorem go30:goFn Tryd.prog 30=true:=by kernel_rfl
end Fx
theorem wLay_row (root:Nat→Y) (h:Hd) (n:BitVec 64) (p:List Y) (v:Value) (G:PM) (hK:RdNP G 1 0 (wa 64 kW)):Ct Tryd.prog 30 ([.agg (ba 32 root).toArray,.agg ([V h.kind,V h.level,uv .u64 h.gen,uv .u64 h.epoch,uv .u64 h.num]:List Value).toArray,uv .u64 n,v]:List Value).toArray G [rB v 5 p] (fun _ μ' u=>∃ ν,μ'=rB v 5 p :: ν∧∃ v' L e,(L,e)=layP root h n p∧ν=[rB v' 5 L]∧u=.tuple #[v',.int .i64 e]) :=
 Ct.lendB (fun hp G2 hle hv hs=>by subst hv; exact wLay_ok root h n p hp G2 hs (hK.mono hle))
set_option maxHeartbeats 2000000 in
theorem mLay_ok (root:Nat→Y) (h:Hd) (n mark:BitVec 64) (s:State) (hd:Nat→Sh) (e:Edit) (ha he:Sh) (G:PM) (hs:StR G s hd) (hE:EdR G e ha he) (hK:RdNP G 1 0 (wa 64 kW)):Ct Tryd.prog 16 ([.agg (ba 32 root).toArray,.agg ([V h.kind,V h.level,uv .u64 h.gen,uv .u64 h.epoch,uv .u64 h.num]:List Value).toArray,uv .u64 n,uv .u64 mark,s.val hd,e.val ha he]:List Value).toArray G [] (fun G' μ' u=>∃ v L X hdX r,LayR root h n mark s e L X r∧μ'=[rB v 5 L]∧u=.tuple #[v,State.val X hdX,.int .i64 r]∧StR G' X hdX):=by
 refine Ct.of Tryd.func16 rfl Tryd.ntmps16 rfl fun w0 hs0=>?_
 refine .seq (Wk.rg [0,1,2,3,4,5,6] rfl rfl ?_)
 refine bx rfl (.u rfl) rfl ?_; intro b6
 refine bx rfl (.u rfl) rfl ?_; intro b7
 refine bx rfl (.u rfl) rfl ?_; intro b10
 refine bx rfl (.u rfl) rfl ?_; intro b11
 refine asg rfl .no (.u rfl) ?_
 refine al rfl Fx.zq27 ?_; intro b13
 refine asg rfl .no (.u rfl) (.nil (.code (.seq ?_)))
 refine wk_fz (.there (.there (.there (.there .here)))) (by intro b hb; cases hb) ?_; intro Gfb6 hleb6 hbb6
 have hs:=hs.mono hleb6
 have hE:=hE.mono hleb6
 have hK:=hK.mono hleb6
 refine wk_fz (.there (.there (.there .here))) (by intro b hb; cases hb) ?_; intro Gfb7 hleb7 hbb7
 have hs:=hs.mono hleb7
 have hE:=hE.mono hleb7
 have hK:=hK.mono hleb7
 have hbb6:=hbb6.mono hleb7
 refine wk_fz (.there .here) (by intro b hb; cases hb) ?_; intro Gfb11 hleb11 hbb11
 have hs:=hs.mono hleb11
 have hE:=hE.mono hleb11
 have hK:=hK.mono hleb11
 have hbb6:=hbb6.mono hleb11
 have hbb7:=hbb7.mono hleb11
 refine Wk.rg [0,1,2,3,4,5,6,7,8] rfl rfl (lA rfl .no Fx.ag27 (.u rfl) (fun _=>RdN.own (.there .here)) (fun _=>(by first|exact qE|exact qL|rfl)) ?_)
 refine lA rfl .no Fx.ag32 (.u rfl) (fun _=>(hbb11.rdn (m:=11) (cs':=e.cells ha he) (rfl)).rd) (fun _=>(by first|exact qE|exact qL|rfl)) ?_
 refine kc rfl Fx.go29 (Evc rfl (Evc rfl Evn)) (apply_ok s hd e ha he _ hs hE) ?_
 rintro _ G22 μ22 hG22 ⟨X22,hX22,er22,hA22,rfl,rfl,hR22⟩
 have hE:=hE.mono hG22
 have hK:=hK.mono hG22
 have hbb6:=hbb6.mono hG22
 have hbb7:=hbb7.mono hG22
 have hbb11:=hbb11.mono hG22
 refine mv rfl .no (.u rfl) (ex rfl .no (.u rfl) rfl (ex rfl .no (.u rfl) rfl ?_))
 refine al rfl Fx.zq27 ?_; intro b15
 refine sw rfl (.u rfl) (.u rfl) rfl Fx.sz27 .here (by first|exact qE|exact qL|rfl) (State.one') ?_
 refine asg rfl .no (.u rfl) (.nil (.code (.seq (.seq (Wk.rg [0,1] rfl rfl (mv rfl .no (.u rfl) (cp rfl .no (.u rfl) (.u rfl) rfl (.nil (.code (.cond rfl (fun c1=>?_) (fun c1=>?_)))))))))))
 ·have c1k:=c1
  try simp only [qcA,qcC,qcB] at c1
  refine .seq (Wk.rg [0,1,2,3,4] rfl rfl (bC rfl .no Fx.bp27_ .nil rfl ?_))
  refine mv rfl .no (.u rfl) (asg rfl .no (.u rfl) (sw rfl (.u rfl) (.u rfl) rfl Fx.sz27 (.there .here) (by first|exact qE|exact qL|rfl) (State.one') ?_))
  refine asg rfl .no (.u rfl) (.nil (.code (.ret (we_nilB 5 ?_))))
  refine We.fin Tryd.results16 (.tmp rfl (.cell rfl (fun w hw=>run_loadVarN Fx.ag27 (RdN.own (.there .here)) ((by first|exact qE|exact qL|rfl)) hw) (.tmp rfl .nil))) (MSub.cons .here rfl MSub.nil) ?_
  exact ⟨_,[],State.zero,hd0,er22,⟨X22,er22,hA22,.inl ⟨c1,rfl,rfl,rfl⟩⟩,rfl,rfl,st_zero⟩
 have c1k:=c1
 try simp only [qcA,qcC,qcB] at c1
 refine .skip (.code (.seq ?_))
 have hfe:=AppR.few (s:=s) (e:=e) (X:=X22) (by rw [show er22=0 by omega] at hA22; exact hA22) hE.wf
 have hen:=encE_len hE.wf hfe.1 hfe.2.1
 refine Wk.rg [0,1,2,3] rfl rfl (lA rfl .no Fx.ag27 (.u rfl) (fun _=>RdN.own .here) (fun _=>(by first|exact qE|exact qL|rfl)) ?_)
 refine kv rfl .no Fx.go9 (Evc rfl Evn) (fun _=>mRoot_ok X22 hX22 _ hR22 (hA22.stN hE.wf) hA22.stL hK) ?_
 refine al rfl Fx.zq34 ?_; intro b17
 refine sw rfl (.u rfl) (.u rfl) rfl Fx.sz34 .here rfl (ba_one _ _) ?_
 refine .nil (.code (.seq (Wk.mixp ⟨true,false⟩ Fx.mix (by kernel_rfl) ?_)))
 refine Wp.one 2 (by kernel_rfl) ?_
 refine mv rfl .no (.u rfl) (.nil (Wp.one 3 (by kernel_rfl) ?_))
 refine mv rfl .no (.u rfl) (.nil (Wp.one 5 (by kernel_rfl) ?_))
 refine sa0 rfl .no Fx.ar34 (.u rfl) (.nil (Wp.pr 0 (by kernel_rfl) ?_))
 refine lA rfl .no Fx.ag34 (.u rfl) (fun _=>(hbb6.rdn (m:=32) (cs':=_) (by first|exact ba_all|exact app_l|exact app_r)).rd) (fun _=>(ba_len _ _)) ?_
 refine .nil ⟨⟨rfl,rfl⟩,?_⟩
 refine Wp.pr 1 (by kernel_rfl) ?_
 refine lA rfl .no Fx.ag38 (.u rfl) (fun _=>(hbb7.rdn (m:=5) (cs':=[V h.kind,V h.level,uv .u64 h.gen,uv .u64 h.epoch,uv .u64 h.num]) (rfl)).rd) (fun _=>rfl) ?_
 refine .nil ⟨⟨rfl,rfl⟩,?_⟩
 refine Wp.pr 7 (by kernel_rfl) ?_
 refine lA rfl .no Fx.ag32 (.u rfl) (fun _=>(hbb11.rdn (m:=11) (cs':=e.cells ha he) (rfl)).rd) (fun _=>(by first|exact qE|exact qL|rfl)) ?_
 refine .nil ⟨⟨rfl,rfl⟩,?_⟩
 refine Wp.b1 4 (by kernel_rfl) ?_
 refine kc rfl Fx.go31 (Evc rfl (Evc rfl (Evc rfl Evn))) (Ct.rowc (Fix_ok [] ⟨none,0⟩ mark 8 _ SlR.nul (by simp) (by decide))) ?_
 rintro v36 G36 μ36 hG36 ⟨L36,ov36,eL36,rfl⟩
 have hE:=hE.mono hG36
 have hK:=hK.mono hG36
 have hR22:=hR22.mono hG36
 refine .nil (Wp.b1 6 (by kernel_rfl) ?_)
 have lL36:L36.length=8:=by rw [eL36,List.nil_append,fix_len]
 refine apY rfl Fx.se42 Fx.zv5 (.u rfl) (.u rfl) .here (Sc.arr (.there .here)) (by (try simp only [qlA,yl_len]); omega) ?_
 intro v38 L38 ov38 eL38
 have lL38:L38.length=L36.length+32:=by rw [eL38,List.length_append]; first|rfl | simp [yl_len]
 refine .nil (Wp.b1 8 (by kernel_rfl) ?_)
 refine kc rfl Fx.go20 (Evc rfl Evn) (encode_ok e ha he _ hE hfe.1 hfe.2.1 (by omega)) ?_
 rintro _ G40 μ40 hG40 ⟨h40,L40,eL40,rfl,rfl,hs40⟩
 have hK:=hK.mono hG40
 have hR22:=hR22.mono hG40
 refine .nil (Wp.b1 9 (by kernel_rfl) ?_)
 have lL40:L40.length=(encE e).length:=by rw [eL40]
 refine apY rfl Fx.se42 Fx.zv5 (.u rfl) (.u rfl) .here hs40.sc (by (try simp only [qlA,yl_len]); omega) ?_
 intro v41 L41 ov41 eL41
 have lL41:L41.length=L38.length+L40.length:=by rw [eL41,List.length_append]
 refine .nil (Wp.b1 10 (by kernel_rfl) ?_)
 refine ka rfl (.inl rfl) Fx.go30 (Evc rfl (Evc rfl (Evc rfl (Evc rfl Evn)))) (mtk1 .here) (wLay_row root h n L41 _ _ hK) ?_
 rintro _ G42 μ42 hG42 ⟨_,rfl,v42,L42,e42,hL42,rfl,rfl⟩
 have hR22:=hR22.mono hG42
 refine .nil (Wp.one 11 (by kernel_rfl) ?_)
 refine mv rfl .no (.u rfl) (.nil (Wp.one 12 (by kernel_rfl) ?_))
 refine ex rfl .no (.u rfl) rfl (.nil (Wp.one 13 (by kernel_rfl) ?_))
 refine ex rfl .no (.u rfl) rfl (.nil (Wp.one 14 (by kernel_rfl) ?_))
 refine asg rfl .no (.u rfl) (.nil (Wp.one 15 (by kernel_rfl) ?_))
 refine asg rfl .no (.u rfl) (.nil (Wp.last (by kernel_rfl) ?_))
 refine .code (.seq (.seq (Wk.rg [0,1] rfl rfl (mv rfl .no (.u rfl) (cp rfl .no (.u rfl) (.u rfl) rfl (.nil (.code (.cond rfl (fun c2=>?_) (fun c2=>?_)))))))))
 ·have c2k:=c2
  try simp only [qcA,qcC,qcB] at c2
  refine .seq (Wk.rg [0,1,2,3,4] rfl rfl (bC rfl .no Fx.bp27_ .nil rfl ?_))
  refine mv rfl .no (.u rfl) (asg rfl .no (.u rfl) (sw rfl (.u rfl) (.u rfl) rfl Fx.sz27 (.there (.there (.there (.there .here)))) (by first|exact qE|exact qL|rfl) (State.one') ?_))
  refine asg rfl .no (.u rfl) (.nil (.code (.ret (we_nilB 5 ?_))))
  refine We.fin Tryd.results16 (.tmp rfl (.cell rfl (fun w hw=>run_loadVarN Fx.ag27 (RdN.own (.there .here)) ((by first|exact qE|exact qL|rfl)) hw) (.tmp rfl .nil))) (MSub.cons .here rfl MSub.nil) ?_
  rw [eL41,eL38,eL36,eL40] at hL42
  exact ⟨_,[],State.zero,hd0,e42,⟨X22,er22,hA22,.inr ⟨by omega,L42,e42,hL42,.inl ⟨c2,rfl,rfl,rfl⟩⟩⟩,rfl,rfl,st_zero⟩
 have c2k:=c2
 try simp only [qcA,qcC,qcB] at c2
 refine .skip (.code (.seq (Wk.draw (mc:=⟨false,false⟩) [0,1,2,3,4] Fx.mix (by kernel_rfl) ?_)))
 refine mv rfl .no (.u rfl) (lA rfl .no Fx.ag27 (.u rfl) (fun _=>RdN.own (.there (.there (.there .here)))) (fun _=>(by first|exact qE|exact qL|rfl)) ?_)
 refine asg rfl .no (.u rfl) (sw rfl (.u rfl) (.u rfl) rfl Fx.sz27 (.there (.there (.there (.there .here)))) (by first|exact qE|exact qL|rfl) (State.one') ?_)
 refine asg rfl .no (.u rfl) (.nil (.code (.ret (We.fin Tryd.results16 (.tmp rfl (.cell rfl (fun w hw=>run_loadVarN Fx.ag27 (RdN.own .here) ((by first|exact qE|exact qL|rfl)) hw) (.tmp rfl .nil))) (MSub.cons (.there (.there .here)) rfl MSub.nil) ?_))))
 rw [eL41,eL38,eL36,eL40] at hL42
 exact ⟨v42,L42,X22,hX22,0,⟨X22,er22,hA22,.inr ⟨by omega,L42,e42,hL42,.inr ⟨by omega,rfl,rfl,rfl⟩⟩⟩,rfl,rfl,hR22⟩
namespace Fx
theorem fo103_3:fOff Tryd.prog 103 3=some 73:=by kernel_rfl
theorem fo103_0:fOff Tryd.prog 103 0=some 0:=by kernel_rfl
theorem fo103_2:fOff Tryd.prog 103 2=some 65:=by kernel_rfl
theorem fo74_1:fOff Tryd.prog 74 1=some 5:=by kernel_rfl
theorem ag72:aggN Tryd.prog 72=some none:=by kernel_rfl
theorem fo103_1:fOff Tryd.prog 103 1=some 64:=by kernel_rfl
theorem go71:goFn Tryd.prog 71=true:=by kernel_rfl
theorem sz72:szT Tryd.prog 72=some 1:=by kernel_rfl
end Fx
theorem take_eq_step {A B:List Y} {k:Nat} (he:A.take k=B.take k) (h1:k<A.length) (h2:k<B.length) (h:A.getD k 0=B.getD k 0):A.take (k+1)=B.take (k+1):=by
 rw [List.take_succ_eq_append_getElem h1,List.take_succ_eq_append_getElem h2,he]
 have e1:A.getD k 0=A[k]:=by simp [h1]
 have e2:B.getD k 0=B[k]:=by simp [h2]
 rw [← e1,←e2,h]
theorem byte_ne {a b:Y} {A B:List Y} {k:Nat} (ha:A.getD k 0=a) (hb:B.getD k 0=b) (h:¬ (a.toNat:Int)=b.toNat):¬ A=B:=fun e=>h (by rw [← ha,←hb,e])
theorem byte_same {a b:Y} (h:(a.toNat:Int)=b.toNat):a=b:=BitVec.eq_of_toNat_eq (by omega)
theorem sEqual_ok (A B:List Y) (ha hb:Sh) (G:PM) (hsa:SlR G 1 encY ha A) (hsb:SlR G 1 encY hb B) (hl:A.length≤100000000000000):Ct Tryd.prog 43 ([ha.val A.length,hb.val B.length]:List Value).toArray G [] (fun _ μ' u=>μ'=[]∧u=.bool (decide (A=B))):=by
 refine Ct.of Tryd.func43 rfl Tryd.ntmps43 rfl fun w0 hs0=>?_
 refine .seq (Wk.rg [0] rfl rfl (asg rfl .no (.u rfl) (.nil (.code (.seq (.seq (Wk.rg [0,1,2,3,4] rfl rfl (mv rfl .no (.u rfl) (ln rfl .no Fx.sn42 (.u rfl) (mv rfl .no (.u rfl) (ln rfl .no Fx.sn42 (.u rfl) (cp rfl .no (.u rfl) (.u rfl) rfl (.nil (.code (.cond rfl (fun c1=>?_) (fun c1=>?_))))))))))))))))
 ·have c1k:=c1
  try simp only [qcA,qcB] at c1
  refine .seq (Wk.rg [0] rfl rfl (asg rfl .no (.u rfl) (.nil (.code (.ret (We.fin0 Tryd.results43 (.tmp rfl .nil) ?_))))))
  exact ⟨rfl,congrArg Value.bool (decide_eq_false (fun e=>c1 (by rw [e]))).symm⟩
 have c1k:=c1
 try simp only [qcA,qcB] at c1
 refine .skip (.code (.seq (.seq (Wk.rg [0,1,2] rfl rfl (mv rfl .no (.u rfl) (ln rfl .no Fx.sn42 (.u rfl) (mv rfl .no (.u rfl) (.nil (.code (.block ?_))))))))))
 refine Wk.lop (α:=Nat) (fun k=>[(13,true,.int .i64 (k:Int))]) (fun _=>[])
  (fun k Gl=>(k≤A.length)∧(A.take k=B.take k)) (fun k=>A.length-k) 0 [(0,true,_),(1,true,_),(12,true,_)] []
  (ESub.cons rfl (by first|rfl|exact evi (by omega)) (ESub.c rfl (ESub.c rfl (ESub.c rfl ESub.nil))))
  MSub.nil ?_ ?_
 ·refine ⟨?_,?_⟩
  ·(try dsimp only)<;>(first|omega|rfl|assumption|(simp; done))
  (try dsimp only)<;>(rfl)
 intro k N0 Gl0 hN0 hGl0 hF0
 try dsimp only at hF0 hN0 ⊢
 obtain ⟨hk,he⟩:=hF0
 have hsa:=hsa.mono hGl0
 have hsb:=hsb.mono hGl0
 refine .seq (Wk.rg [0] rfl rfl (cp rfl .no (.u rfl) (.u rfl) rfl (.nil (.code (.seq (.cond rfl (fun c2=>?_) (fun c2=>?_)))))))
 ·have c2k:=c2
  try simp only [qcA,qcB] at c2
  refine .skip (.code (.seq (.block (.seq (Wk.rg [0,1] rfl rfl (mv rfl .no (.u rfl) (asg rfl .no (.u rfl) (.nil (.code (.seq (Wk.draw (mc:=⟨false,false⟩) [0,1,2,3,4,5,6,7,8] Fx.mix (by kernel_rfl) ?_)))))))))))
  refine mv rfl .no (.u rfl) (mv rfl .no (.u rfl) (ih rfl .no Fx.se42 (.u rfl) (.u rfl) (fun _=>by omega) (fun _=>by omega) (fun _=>hsa.nn (k:=k) (by omega)) ?_))
  refine ld rfl .no Fx.ag5 (.u rfl) (fun _=>(hsa.yat (k) (by omega) (by omega)).rd) ?_
  refine mv rfl .no (.u rfl) (mv rfl .no (.u rfl) (ih rfl .no Fx.se42 (.u rfl) (.u rfl) (fun _=>by omega) (fun _=>by omega) (fun _=>hsb.nn (k:=k) (by omega)) ?_))
  refine ld rfl .no Fx.ag5 (.u rfl) (fun _=>(hsb.yat (k) (by omega) (by omega)).rd) ?_
  refine cp rfl .no (.u rfl) (.u rfl) rfl (.nil (.code (.cond rfl (fun c3=>?_) (fun c3=>?_))))
  ·have c3k:=c3
   try simp only [qcA,qcB] at c3
   refine .seq (Wk.rg [0] rfl rfl (asg rfl .no (.u rfl) (.nil (.code (.ret (We.fin0 Tryd.results43 (.tmp rfl .nil) ?_))))))
   exact ⟨rfl,congrArg Value.bool (decide_eq_false (byte_ne rfl rfl c3)).symm⟩
  have c3k:=c3
  try simp only [qcA,qcB] at c3
  refine .skip (.blk (.code (Wk.rg [0,1] rfl rfl (arn (((k+1):Nat):Int) rfl .no (.u rfl) (.u rfl) rfl (fun _=>by omega) (fun _=>wrap_i64 (by omega) (by omega)) ?_))))
  refine mv rfl .no (.u rfl) (.nil (We.lpo (k+1) ?_ ?_ ?_ ?_ ?_))
  ·exact (ESub.cons rfl (by first|rfl|exact evi (by omega)) (ESub.c rfl (ESub.c rfl (ESub.c rfl ESub.nil))))
  ·exact MSub.nil
  ·first|omega|(dsimp only; omega)
  ·exact hGl0
  refine ⟨?_,?_⟩
  ·(try dsimp only)<;>(first|omega|rfl|assumption|(simp; done))
  (try dsimp only)<;>(exact take_eq_step he (by omega) (by omega) (byte_same c3))
 have c2k:=c2
 try simp only [qcA,qcB] at c2
 refine .exit (.xcode (.xlp (.xblk (.code (.seq (Wk.rg [0] rfl rfl (asg rfl .no (.u rfl) (.nil (.code (.ret (We.fin0 Tryd.results43 (.tmp rfl .nil) ?_)))))))))))
 exact ⟨rfl,congrArg Value.bool (decide_eq_true (by have h1:=he; rw [show k=A.length by omega,List.take_length,List.take_of_length_le (by omega)] at h1; exact h1)).symm⟩
theorem copy_two {X A B L M:List Y} (h1:L=X.take 0++A++X.drop (0+A.length)) (h2:M=L.take (A.length*1)++B++L.drop (A.length*1+B.length)) (hX:X.length=A.length+B.length):M=A++B:=by
 rw [List.take_zero,List.nil_append,Nat.zero_add] at h1
 subst h1
 rw [h2,Nat.mul_one,List.take_left,List.drop_of_length_le (by rw [List.length_append,List.length_drop]; omega),List.append_nil]
theorem ne_emp {A B:List Y} (h:0<B.length) {P:Prop}:A++B=[]→P:=fun e=>by have:=congrArg List.length e; rw [List.length_append,List.length_nil] at this; omega
theorem take_ok (root:Nat→Y) (h:Hd) (kind:Y) (p:List Y) (hp:Sh) (parts:List Y) (sp:Sh) (ps:List (Sh×List Y)) (vr:Value) (ha:Sh) (b:Nat) (used:Int) (G:PM) (hs:SlR G 1 encY hp p) (hsq:SlR G 1 encY sp parts) (h0:parts=[]→sp=⟨none,0⟩) (hA:AllS G ps) (hsa:SlR G 1 encY ha (headL h)) (hK:RdNP G 1 0 (wa 64 kW)) (hp0:0<p.length) (hl:parts.length+p.length≤10000000000000) (hn:ps.length≤100000000):Ct Tryd.prog 45 ([.pointer (some ⟨b,0,none⟩),V kind,hp.val p.length]:List Value).toArray G [.blk b (cl (rdC (keyEnc root (headL h)) (keyMac root (headL h)) (ha.val (headL h).length) h vr used false (sp.val parts.length)) 103),rS 1 encP vr 42 ps] (fun G' μ' u=>(takeS (openAt root h) parts (ps.map (·.2)) kind p=none∧u=.bool false∧μ'=[])∨∃ Q ps' sQ vr',takeS (openAt root h) parts (ps.map (·.2)) kind p=some (Q,ps'.map (·.2))∧u=.bool true∧μ'=[.blk b (cl (rdC (keyEnc root (headL h)) (keyMac root (headL h)) (ha.val (headL h).length) h vr' used false (sQ.val Q.length)) 103),rS 1 encP vr' 42 ps']∧SlR G' 1 encY sQ Q∧(Q=[]→sQ=⟨none,0⟩)∧AllS G' ps'∧ps'.length≤ps.length+1∧Q.length≤parts.length+p.length):=by
 refine Ct.of Tryd.func45 rfl Tryd.ntmps45 rfl fun w0 hs0=>?_
 have eo:=emp_oa hsq h0
 have lh:=head_len h
 refine .seq (Wk.rg [0] rfl rfl (asg rfl .no (.u rfl) (.nil (.code (.seq (Wk.rg [0] rfl rfl (asg rfl .no (.u rfl) (.nil (.code (.seq (.seq (Wk.rg [0] rfl rfl (mv rfl .no (.u rfl) (.nil (.code (.block (.seq (.block (.seq (.block (.seq (.block (.seq (.block (.seq (.block (.seq (.seq (.seq (Wk.rg [0,1] rfl rfl (cp rfl .no (.u rfl) (.u rfl) rfl (asg rfl .no (.u rfl) (.nil (.code (.cond rfl (fun c1=>?_) (fun c1=>?_))))))))))))))))))))))))))))))))))))
 ·have c1k:=c1
  try simp only [qcA,qcC,qcB] at c1
  refine .exit (.xcode (.xcode (.xblk (.code (Wk.rg [0] rfl rfl (asg rfl .no (.u rfl) (.nil (.blk (.code (.seq (.seq (Wk.rg [0,1,2,3,4] rfl rfl (mv rfl .no (.u rfl) (nc rfl .no (.u rfl) (fz rfl .no Fx.fo103_3 (.u rfl) (ld rfl .no Fx.ag42 (.u rfl) (fun _=>Rd.own .here rdc_parts) ?_))))))))))))))))
  refine sn1 rfl .no Fx.sn42 (.u rfl) (.u rfl) ?_
  refine .nil (.code (.cond rfl (fun c2=>?_) (fun c2=>?_)))
  ·have c2k:=c2
   try simp only [qcA,qcC,qcB] at c2
   refine .seq (Wk.rg [0] rfl rfl (asg rfl .no (.u rfl) (.nil (.code (.ret (We.fin0 Tryd.results45 (.tmp rfl .nil) ?_))))))
   exact .inl ⟨take_full ((byte_eq (n:=1) (by decide)).1 c1) (eo.symm.trans c2),rfl,rfl⟩
  have c2k:=c2
  try simp only [qcA,qcC,qcB] at c2
  refine .skip (.code (.exit (.xnot rfl (.xcode (.xnot rfl (.xcode (.xnot rfl (.xcode (.xblk (.code (.seq (.seq (Wk.rg [0,1,2,3,4,5,6] rfl rfl (mv rfl .no (.u rfl) (nt rfl .no (.u rfl) (mv rfl .no (.u rfl) (mv rfl (.t rfl rfl) (.u rfl) (ln rfl (.t rfl rfl) Fx.sn42 (.s rfl) (cp rfl (.t rfl rfl) (.s rfl) (.u rfl) rfl (pkA rfl .no (.u rfl) (.s rfl) (.nil (.code (Wk.condF rfl rfl ?_)))))))))))))))))))))))
  refine .skip (.code (.seq (Wk.rg [0,1,2,3,4,5,6,7,8,9] rfl rfl (mv rfl .no (.u rfl) (nc rfl .no (.u rfl) (fz rfl .no Fx.fo103_3 (.u rfl) (ld rfl .no Fx.ag42 (.u rfl) (fun _=>Rd.own .here rdc_parts) ?_)))))))
  refine ln rfl .no Fx.sn42 (.u rfl) (mv rfl .no (.u rfl) (ln rfl .no Fx.sn42 (.u rfl) (arn (((parts.length+p.length):Nat):Int) rfl .no (.u rfl) (.u rfl) rfl (fun _=>by omega) (fun _=>wrap_i64 (by omega) (by omega)) ?_)))
  refine mkY ((parts.length+p.length)) ((parts.length+p.length)) rfl Fx.se42 Fx.zv5 (.u rfl) (.u rfl) (by first|rfl|omega) (by first|rfl|omega) (by omega) (by omega) ?_; intro b45
  have lR45:(List.replicate ((parts.length+p.length)) (0#8:Y)).length=(parts.length+p.length):=List.length_replicate
  refine asg rfl .no (.u rfl) (.nil (.code (.seq (Wk.rg [0,1,2,3,4,5,6,7,8,9] rfl rfl (mv rfl .no (.u rfl) (mv rfl .no (.u rfl) (mv rfl .no (.u rfl) (nc rfl .no (.u rfl) (fz rfl .no Fx.fo103_3 (.u rfl) (ld rfl .no Fx.ag42 (.u rfl) (fun _=>Rd.own (.there .here) rdc_parts) ?_))))))))))
  refine cpY rfl Fx.se42 (.u rfl) (.u rfl) .here hsq.sc (by omega) (by omega) ?_; intro L52 eL52 lL52
  refine slr (parts.length) rfl Fx.se42 (.u rfl) (.u rfl) (by omega) (by omega) (by omega) (by omega) ?_
  refine mv rfl .no (.u rfl) ?_
  refine cpY rfl Fx.se42 (.u rfl) (.u rfl) .here hs.sc (by omega) (by omega) ?_; intro L55 eL55 lL55
  refine .nil ?_
  have eL55':L55=parts++p:=copy_two eL52 eL55 (by omega)
  refine .code (.seq ?_)
  refine wk_fb .here (keys_k .here rfl (keys_k .here rfl (keys_0))) ?_; intro GfR45 hR45 hleR45 evR45 hsR45; try rw [ evR45]
  have hs:=hs.mono hleR45
  have hsq:=hsq.mono hleR45
  have hA:=hA.mono hleR45
  have hsa:=hsa.mono hleR45
  have hK:=hK.mono hleR45
  refine Wk.rg [0,1,2,3,4] rfl rfl (mv rfl .no (.u rfl) (mv rfl .no (.u rfl) (nc rfl .no (.u rfl) (fz rfl .no Fx.fo103_3 (.u rfl) (s1 rfl (.u rfl) (.u rfl) rfl Fx.sz42 .here (by (try rw [rdc_len]); decide) (rds_parts) ?_)))))
  refine .nil (.code (.seq (.seq (Wk.rg [0,1] rfl rfl (mv rfl .no (.u rfl) (nt rfl .no (.u rfl) (.nil (.code (Wk.condF rfl rfl ?_)))))))))
  refine .skip (.code (.seq (Wk.draw (mc:=⟨false,false⟩) [0,1,2,3,4,5,6,7,8,9,10,12,13,14,15,16,17,18,19,11,20,21,22,23,24,25] Fx.mix (by kernel_rfl) ?_)))
  refine mv rfl .no (.u rfl) (nc rfl .no (.u rfl) (fz rfl .no Fx.fo103_0 (.u rfl) (lA rfl .no Fx.ag100 (.u rfl) (fun _=>RdN.part (n:=64) (cs':=ba 32 (keyEnc root (headL h))++ba 32 (keyMac root (headL h))) .here (rdc_key)) (fun _=>(by first|exact qE|exact qL|rfl)) ?_)))
  refine mv rfl .no (.u rfl) (nc rfl .no (.u rfl) (fz rfl .no Fx.fo103_2 (.u rfl) (fa rfl .no Fx.fo74_1 (.u rfl) (ld rfl .no Fx.ag72 (.u rfl) (fun _=>Rd.own .here rdc_rec) ?_))))
  refine lr rfl .no Fx.sn72 (.u rfl) (.there .here) ?_
  refine ci rfl .no rfl Fx.cv3_24 (.u rfl) ?_
  refine mv rfl .no (.u rfl) (nc rfl .no (.u rfl) (fz rfl .no Fx.fo103_1 (.u rfl) (ld rfl .no Fx.ag42 (.u rfl) (fun _=>Rd.own .here rdc_ad) ?_)))
  refine mv rfl .no (.u rfl) (nc rfl .no (.u rfl) (fz rfl .no Fx.fo103_3 (.u rfl) (ld rfl .no Fx.ag42 (.u rfl) (fun _=>Rd.own .here rdc_parts) ?_)))
  refine kv rfl .no Fx.go59 (Evc rfl Evn) (fun _=>Nonce_ok _ _) ?_
  refine kc rfl Fx.go71 (Evc rfl (Evc rfl (Evc rfl (Evc rfl Evn)))) (Open_ok (keyEnc root (headL h)) (keyMac root (headL h)) _ (headL h) ha L55 hR45 _ hsa hsR45 hK (by omega) (by omega)) ?_
  rintro _ G83 μ83 hG83 ⟨v83,L83,e83,hO83,rfl,rfl⟩
  have hs:=hs.mono hG83
  have hsq:=hsq.mono hG83
  have hA:=hA.mono hG83
  have hsa:=hsa.mono hG83
  have hK:=hK.mono hG83
  have hsR45:=hsR45.mono hG83
  refine mv rfl .no (.u rfl) (ex rfl .no (.u rfl) rfl (ex rfl .no (.u rfl) rfl (asg rfl .no (.u rfl) (asg rfl .no (.u rfl) (.nil (.code (.seq ?_)))))))
  refine wk_fb .here (keys_k .here rfl (keys_k .here rfl (keys_0))) ?_; intro GfR83 hR83 hleR83 evR83 hsR83; subst evR83
  have hs:=hs.mono hleR83
  have hsq:=hsq.mono hleR83
  have hA:=hA.mono hleR83
  have hsa:=hsa.mono hleR83
  have hK:=hK.mono hleR83
  have hsR45:=hsR45.mono hleR83
  refine Wk.rg [0,1,2,3] rfl rfl (mv rfl .no (.u rfl) (nc rfl .no (.u rfl) (fz rfl .no Fx.fo103_3 (.u rfl) (s1 rfl (.u rfl) (.u rfl) rfl Fx.sz42 .here (by (try rw [rdc_len]); decide) (rds_parts) ?_))))
  refine .nil (.code (.seq (Wk.rg [0,1,2,3,4,5,6,7,8,9,10,11,12] rfl rfl (mv rfl .no (.u rfl) (mv rfl .no (.u rfl) (nc rfl .no (.u rfl) (fz rfl .no Fx.fo103_2 (.u rfl) (fa rfl .no Fx.fo74_1 (.u rfl) (ld rfl .no Fx.ag72 (.u rfl) (fun _=>Rd.own .here rdc_rec) ?_)))))))))
  refine mv rfl .no (.u rfl) ?_
  refine Go.Tan.b1 rfl Fx.se72 Fx.zv42 (.u rfl) rfl rfl (by decide) ?_; intro b96
  refine apS (xs:=ps) ((hR83,L83)) rfl Fx.se72 Fx.zv42 rfl (.u rfl) (.u rfl) (.there (.there .here)) .here (rfl) (one1 rfl) (by omega) (by unfold maxLen; omega) ?_; intro v97 ov97
  refine nc rfl .no (.u rfl) (fz rfl .no Fx.fo103_2 (.u rfl) (fa rfl .no Fx.fo74_1 (.u rfl) (s1v rfl (.u rfl) (.u rfl) .here Fx.sz72 (.there (.there .here)) (by (try rw [rdc_len]); decide) (rds_rec) ?_)))
  refine .nil (.code (.seq (Wk.rg [0,1,2] rfl rfl (mv rfl .no (.u rfl) (cp rfl .no (.u rfl) (.u rfl) rfl (asg rfl .no (.u rfl) (.nil (.code (.ret ?_)))))))))
  rcases hO83 with ⟨ho,rfl⟩ | ⟨ho,rfl,rfl⟩
  ·refine We.fin Tryd.results45 (.tmp rfl .nil) (MSub.cons .here rfl (MSub.cons .here rfl MSub.nil)) ?_
   refine .inr ⟨[],ps++[(hR83,L83)],⟨none,0⟩,v97,?_,rfl,rfl,SlR.nul,fun _=>rfl,AllS.snoc hA hsR83,by simp,by simp⟩
   rw [eL55'] at ho
   have ho':openAt root h (ps.map (·.2)).length (parts++p)=some L83:=by rw [List.length_map]; exact ho
   rw [take_end (.inl ⟨(byte_eq (n:=1) (by decide)).1 c1,eo.symm.trans c2⟩),ho',List.map_append]; rfl
  refine We.fin0 Tryd.results45 (.tmp rfl .nil) ?_
  refine .inl ⟨?_,rfl,rfl⟩
  rw [eL55'] at ho
  have ho':openAt root h (ps.map (·.2)).length (parts++p)=none:=by rw [List.length_map]; exact ho
  rw [take_end (.inl ⟨(byte_eq (n:=1) (by decide)).1 c1,eo.symm.trans c2⟩),ho']; rfl
 have c1k:=c1
 try simp only [qcA,qcC,qcB] at c1
 refine .skip (.code (.seq (.seq (Wk.rg [0,1] rfl rfl (cp rfl .no (.u rfl) (.u rfl) rfl (asg rfl .no (.u rfl) (.nil (.code (.cond rfl (fun c3=>?_) (fun c3=>?_))))))))))
 ·have c3k:=c3
  try simp only [qcA,qcC,qcB] at c3
  refine .exit (.xcode (.xcode (.xnot rfl (.xcode (.xblk (.code (.seq (.seq (Wk.rg [0,1,2,3,4] rfl rfl (mv rfl .no (.u rfl) (nc rfl .no (.u rfl) (fz rfl .no Fx.fo103_3 (.u rfl) (ld rfl .no Fx.ag42 (.u rfl) (fun _=>Rd.own .here rdc_parts) ?_)))))))))))))
  refine sn1 rfl .no Fx.sn42 (.u rfl) (.u rfl) ?_
  refine .nil (.code (.cond rfl (fun c4=>?_) (fun c4=>?_)))
  ·have c4k:=c4
   try simp only [qcA,qcC,qcB] at c4
   refine .seq (Wk.rg [0] rfl rfl (asg rfl .no (.u rfl) (.nil (.code (.ret (We.fin0 Tryd.results45 (.tmp rfl .nil) ?_))))))
   exact .inl ⟨take_first ((byte_eq (n:=2) (by decide)).1 c3) (.inl (eo.symm.trans c4)),rfl,rfl⟩
  have c4k:=c4
  try simp only [qcA,qcC,qcB] at c4
  refine .skip (.code (.exit (.xnot rfl (.xcode (.xnot rfl (.xcode (.xnot rfl (.xcode (.xblk (.code (.seq (.seq (Wk.rg [0,1,2,3,4,5,6] rfl rfl (mv rfl .no (.u rfl) (nt rfl .no (.u rfl) (mv rfl .no (.u rfl) (mv rfl (.t rfl rfl) (.u rfl) (ln rfl (.t rfl rfl) Fx.sn42 (.s rfl) (cp rfl (.t rfl rfl) (.s rfl) (.u rfl) rfl (pkA rfl .no (.u rfl) (.s rfl) (.nil (.code (.cond rfl (fun c5=>?_) (fun c5=>?_))))))))))))))))))))))))
  ·have c5k:=c5
   try simp only [qcA,qcC,qcB] at c5
   refine .seq (Wk.rg [0] rfl rfl (asg rfl .no (.u rfl) (.nil (.code (.ret (We.fin0 Tryd.results45 (.tmp rfl .nil) ?_))))))
   exact .inl ⟨take_first ((byte_eq (n:=2) (by decide)).1 c3) (.inr (by omega)),rfl,rfl⟩
  have c5k:=c5
  try simp only [qcA,qcC,qcB] at c5
  refine .skip (.code (.seq (Wk.rg [0,1,2,3,4,5,6,7,8,9] rfl rfl (mv rfl .no (.u rfl) (nc rfl .no (.u rfl) (fz rfl .no Fx.fo103_3 (.u rfl) (ld rfl .no Fx.ag42 (.u rfl) (fun _=>Rd.own .here rdc_parts) ?_)))))))
  refine ln rfl .no Fx.sn42 (.u rfl) (mv rfl .no (.u rfl) (ln rfl .no Fx.sn42 (.u rfl) (arn (((parts.length+p.length):Nat):Int) rfl .no (.u rfl) (.u rfl) rfl (fun _=>by omega) (fun _=>wrap_i64 (by omega) (by omega)) ?_)))
  refine mkY ((parts.length+p.length)) ((parts.length+p.length)) rfl Fx.se42 Fx.zv5 (.u rfl) (.u rfl) (by first|rfl|omega) (by first|rfl|omega) (by omega) (by omega) ?_; intro b45
  have lR45:(List.replicate ((parts.length+p.length)) (0#8:Y)).length=(parts.length+p.length):=List.length_replicate
  refine asg rfl .no (.u rfl) (.nil (.code (.seq (Wk.rg [0,1,2,3,4,5,6,7,8,9] rfl rfl (mv rfl .no (.u rfl) (mv rfl .no (.u rfl) (mv rfl .no (.u rfl) (nc rfl .no (.u rfl) (fz rfl .no Fx.fo103_3 (.u rfl) (ld rfl .no Fx.ag42 (.u rfl) (fun _=>Rd.own (.there .here) rdc_parts) ?_))))))))))
  refine cpY rfl Fx.se42 (.u rfl) (.u rfl) .here hsq.sc (by omega) (by omega) ?_; intro L52 eL52 lL52
  refine slr (parts.length) rfl Fx.se42 (.u rfl) (.u rfl) (by omega) (by omega) (by omega) (by omega) ?_
  refine mv rfl .no (.u rfl) ?_
  refine cpY rfl Fx.se42 (.u rfl) (.u rfl) .here hs.sc (by omega) (by omega) ?_; intro L55 eL55 lL55
  refine .nil ?_
  have eL55':L55=parts++p:=copy_two eL52 eL55 (by omega)
  refine .code (.seq ?_)
  refine wk_fb .here (keys_k .here rfl (keys_k .here rfl (keys_0))) ?_; intro GfR45 hR45 hleR45 evR45 hsR45; try rw [ evR45]
  have hs:=hs.mono hleR45
  have hsq:=hsq.mono hleR45
  have hA:=hA.mono hleR45
  have hsa:=hsa.mono hleR45
  have hK:=hK.mono hleR45
  refine Wk.rg [0,1,2,3,4] rfl rfl (mv rfl .no (.u rfl) (mv rfl .no (.u rfl) (nc rfl .no (.u rfl) (fz rfl .no Fx.fo103_3 (.u rfl) (s1 rfl (.u rfl) (.u rfl) rfl Fx.sz42 .here (by (try rw [rdc_len]); decide) (rds_parts) ?_)))))
  refine .nil (.code (.seq (.seq (Wk.rg [0,1] rfl rfl (mv rfl .no (.u rfl) (nt rfl .no (.u rfl) (.nil (.code (Wk.condT rfl rfl ?_)))))))))
  refine .seq (Wk.rg [0] rfl rfl (asg rfl .no (.u rfl) (.nil (.code (.ret (We.fin Tryd.results45 (.tmp rfl .nil) (MSub.cons .here rfl (MSub.cons .here rfl MSub.nil)) ?_))))))
  have q5:¬ ((p.length:Int)<128):=by simpa using c5k
  exact .inr ⟨L55,ps,hR45,vr,by rw [take_go (.inl ⟨(byte_eq (n:=2) (by decide)).1 c3,eo.symm.trans c4⟩) (by omega),eL55'],rfl,rfl,hsR45,fun e=>ne_emp hp0 (eL55'.symm.trans e),hA,by omega,by omega⟩
 have c3k:=c3
 try simp only [qcA,qcC,qcB] at c3
 refine .skip (.code (.seq (.seq (Wk.rg [0,1] rfl rfl (cp rfl .no (.u rfl) (.u rfl) rfl (asg rfl .no (.u rfl) (.nil (.code (.cond rfl (fun c6=>?_) (fun c6=>?_))))))))))
 ·have c6k:=c6
  try simp only [qcA,qcC,qcB] at c6
  refine .exit (.xcode (.xcode (.xnot rfl (.xcode (.xnot rfl (.xcode (.xblk (.code (Wk.rg [0] rfl rfl (asg rfl .no (.u rfl) (.nil (.blk (.code (.seq (.seq (Wk.rg [0,1,2,3,4] rfl rfl (mv rfl .no (.u rfl) (nc rfl .no (.u rfl) (fz rfl .no Fx.fo103_3 (.u rfl) (ld rfl .no Fx.ag42 (.u rfl) (fun _=>Rd.own .here rdc_parts) ?_))))))))))))))))))))
  refine sn0 rfl .no Fx.sn42 (.u rfl) (.u rfl) ?_
  refine .nil (.code (.cond rfl (fun c7=>?_) (fun c7=>?_)))
  ·have c7k:=c7
   try simp only [qcA,qcC,qcB] at c7
   refine .seq (Wk.rg [0] rfl rfl (asg rfl .no (.u rfl) (.nil (.code (.ret (We.fin0 Tryd.results45 (.tmp rfl .nil) ?_))))))
   exact .inl ⟨wtake_last ((byte_eq (n:=4) (by decide)).1 c6) (eo.symm.trans c7),rfl,rfl⟩
  have c7k:=c7
  try simp only [qcA,qcC,qcB] at c7
  refine .skip (.code (.exit (.xnot rfl (.xcode (.xblk (.code (.seq (.seq (Wk.rg [0,1,2,3,4,5,6] rfl rfl (mv rfl .no (.u rfl) (nt rfl .no (.u rfl) (mv rfl .no (.u rfl) (mv rfl (.t rfl rfl) (.u rfl) (ln rfl (.t rfl rfl) Fx.sn42 (.s rfl) (cp rfl (.t rfl rfl) (.s rfl) (.u rfl) rfl (pkA rfl .no (.u rfl) (.s rfl) (.nil (.code (Wk.condF rfl rfl ?_)))))))))))))))))))
  refine .skip (.code (.seq (Wk.rg [0,1,2,3,4,5,6,7,8,9] rfl rfl (mv rfl .no (.u rfl) (nc rfl .no (.u rfl) (fz rfl .no Fx.fo103_3 (.u rfl) (ld rfl .no Fx.ag42 (.u rfl) (fun _=>Rd.own .here rdc_parts) ?_)))))))
  refine ln rfl .no Fx.sn42 (.u rfl) (mv rfl .no (.u rfl) (ln rfl .no Fx.sn42 (.u rfl) (arn (((parts.length+p.length):Nat):Int) rfl .no (.u rfl) (.u rfl) rfl (fun _=>by omega) (fun _=>wrap_i64 (by omega) (by omega)) ?_)))
  refine mkY ((parts.length+p.length)) ((parts.length+p.length)) rfl Fx.se42 Fx.zv5 (.u rfl) (.u rfl) (by first|rfl|omega) (by first|rfl|omega) (by omega) (by omega) ?_; intro b45
  have lR45:(List.replicate ((parts.length+p.length)) (0#8:Y)).length=(parts.length+p.length):=List.length_replicate
  refine asg rfl .no (.u rfl) (.nil (.code (.seq (Wk.rg [0,1,2,3,4,5,6,7,8,9] rfl rfl (mv rfl .no (.u rfl) (mv rfl .no (.u rfl) (mv rfl .no (.u rfl) (nc rfl .no (.u rfl) (fz rfl .no Fx.fo103_3 (.u rfl) (ld rfl .no Fx.ag42 (.u rfl) (fun _=>Rd.own (.there .here) rdc_parts) ?_))))))))))
  refine cpY rfl Fx.se42 (.u rfl) (.u rfl) .here hsq.sc (by omega) (by omega) ?_; intro L52 eL52 lL52
  refine slr (parts.length) rfl Fx.se42 (.u rfl) (.u rfl) (by omega) (by omega) (by omega) (by omega) ?_
  refine mv rfl .no (.u rfl) ?_
  refine cpY rfl Fx.se42 (.u rfl) (.u rfl) .here hs.sc (by omega) (by omega) ?_; intro L55 eL55 lL55
  refine .nil ?_
  have eL55':L55=parts++p:=copy_two eL52 eL55 (by omega)
  refine .code (.seq ?_)
  refine wk_fb .here (keys_k .here rfl (keys_k .here rfl (keys_0))) ?_; intro GfR45 hR45 hleR45 evR45 hsR45; try rw [ evR45]
  have hs:=hs.mono hleR45
  have hsq:=hsq.mono hleR45
  have hA:=hA.mono hleR45
  have hsa:=hsa.mono hleR45
  have hK:=hK.mono hleR45
  refine Wk.rg [0,1,2,3,4] rfl rfl (mv rfl .no (.u rfl) (mv rfl .no (.u rfl) (nc rfl .no (.u rfl) (fz rfl .no Fx.fo103_3 (.u rfl) (s1 rfl (.u rfl) (.u rfl) rfl Fx.sz42 .here (by (try rw [rdc_len]); decide) (rds_parts) ?_)))))
  refine .nil (.code (.seq (.seq (Wk.rg [0,1] rfl rfl (mv rfl .no (.u rfl) (nt rfl .no (.u rfl) (.nil (.code (Wk.condF rfl rfl ?_)))))))))
  refine .skip (.code (.seq (Wk.draw (mc:=⟨false,false⟩) [0,1,2,3,4,5,6,7,8,9,10,12,13,14,15,16,17,18,19,11,20,21,22,23,24,25] Fx.mix (by kernel_rfl) ?_)))
  refine mv rfl .no (.u rfl) (nc rfl .no (.u rfl) (fz rfl .no Fx.fo103_0 (.u rfl) (lA rfl .no Fx.ag100 (.u rfl) (fun _=>RdN.part (n:=64) (cs':=ba 32 (keyEnc root (headL h))++ba 32 (keyMac root (headL h))) .here (rdc_key)) (fun _=>(by first|exact qE|exact qL|rfl)) ?_)))
  refine mv rfl .no (.u rfl) (nc rfl .no (.u rfl) (fz rfl .no Fx.fo103_2 (.u rfl) (fa rfl .no Fx.fo74_1 (.u rfl) (ld rfl .no Fx.ag72 (.u rfl) (fun _=>Rd.own .here rdc_rec) ?_))))
  refine lr rfl .no Fx.sn72 (.u rfl) (.there .here) ?_
  refine ci rfl .no rfl Fx.cv3_24 (.u rfl) ?_
  refine mv rfl .no (.u rfl) (nc rfl .no (.u rfl) (fz rfl .no Fx.fo103_1 (.u rfl) (ld rfl .no Fx.ag42 (.u rfl) (fun _=>Rd.own .here rdc_ad) ?_)))
  refine mv rfl .no (.u rfl) (nc rfl .no (.u rfl) (fz rfl .no Fx.fo103_3 (.u rfl) (ld rfl .no Fx.ag42 (.u rfl) (fun _=>Rd.own .here rdc_parts) ?_)))
  refine kv rfl .no Fx.go59 (Evc rfl Evn) (fun _=>Nonce_ok _ _) ?_
  refine kc rfl Fx.go71 (Evc rfl (Evc rfl (Evc rfl (Evc rfl Evn)))) (Open_ok (keyEnc root (headL h)) (keyMac root (headL h)) _ (headL h) ha L55 hR45 _ hsa hsR45 hK (by omega) (by omega)) ?_
  rintro _ G83 μ83 hG83 ⟨v83,L83,e83,hO83,rfl,rfl⟩
  have hs:=hs.mono hG83
  have hsq:=hsq.mono hG83
  have hA:=hA.mono hG83
  have hsR45:=hsR45.mono hG83
  refine mv rfl .no (.u rfl) (ex rfl .no (.u rfl) rfl (ex rfl .no (.u rfl) rfl (asg rfl .no (.u rfl) (asg rfl .no (.u rfl) (.nil (.code (.seq ?_)))))))
  refine wk_fb .here (keys_k .here rfl (keys_k .here rfl (keys_0))) ?_; intro GfR83 hR83 hleR83 evR83 hsR83; subst evR83
  have hs:=hs.mono hleR83
  have hsq:=hsq.mono hleR83
  have hA:=hA.mono hleR83
  have hsR45:=hsR45.mono hleR83
  refine Wk.rg [0,1,2,3] rfl rfl (mv rfl .no (.u rfl) (nc rfl .no (.u rfl) (fz rfl .no Fx.fo103_3 (.u rfl) (s1 rfl (.u rfl) (.u rfl) rfl Fx.sz42 .here (by (try rw [rdc_len]); decide) (rds_parts) ?_))))
  refine .nil (.code (.seq (Wk.rg [0,1,2,3,4,5,6,7,8,9,10,11,12] rfl rfl (mv rfl .no (.u rfl) (mv rfl .no (.u rfl) (nc rfl .no (.u rfl) (fz rfl .no Fx.fo103_2 (.u rfl) (fa rfl .no Fx.fo74_1 (.u rfl) (ld rfl .no Fx.ag72 (.u rfl) (fun _=>Rd.own .here rdc_rec) ?_)))))))))
  refine mv rfl .no (.u rfl) ?_
  refine Go.Tan.b1 rfl Fx.se72 Fx.zv42 (.u rfl) rfl rfl (by decide) ?_; intro b96
  refine apS (xs:=ps) ((hR83,L83)) rfl Fx.se72 Fx.zv42 rfl (.u rfl) (.u rfl) (.there (.there .here)) .here (rfl) (one1 rfl) (by omega) (by unfold maxLen; omega) ?_; intro v97 ov97
  refine nc rfl .no (.u rfl) (fz rfl .no Fx.fo103_2 (.u rfl) (fa rfl .no Fx.fo74_1 (.u rfl) (s1v rfl (.u rfl) (.u rfl) .here Fx.sz72 (.there (.there .here)) (by (try rw [rdc_len]); decide) (rds_rec) ?_)))
  refine .nil (.code (.seq (Wk.rg [0,1,2] rfl rfl (mv rfl .no (.u rfl) (cp rfl .no (.u rfl) (.u rfl) rfl (asg rfl .no (.u rfl) (.nil (.code (.ret ?_)))))))))
  rcases hO83 with ⟨ho,rfl⟩ | ⟨ho,rfl,rfl⟩
  ·refine We.fin Tryd.results45 (.tmp rfl .nil) (MSub.cons .here rfl (MSub.cons .here rfl MSub.nil)) ?_
   refine .inr ⟨[],ps++[(hR83,L83)],⟨none,0⟩,v97,?_,rfl,rfl,SlR.nul,fun _=>rfl,AllS.snoc hA hsR83,by simp,by simp⟩
   rw [eL55'] at ho
   have ho':openAt root h (ps.map (·.2)).length (parts++p)=some L83:=by rw [List.length_map]; exact ho
   rw [take_end (.inr ⟨(byte_eq (n:=4) (by decide)).1 c6,eo.symm.trans c7⟩),ho',List.map_append]; rfl
  refine We.fin0 Tryd.results45 (.tmp rfl .nil) ?_
  refine .inl ⟨?_,rfl,rfl⟩
  rw [eL55'] at ho
  have ho':openAt root h (ps.map (·.2)).length (parts++p)=none:=by rw [List.length_map]; exact ho
  rw [take_end (.inr ⟨(byte_eq (n:=4) (by decide)).1 c6,eo.symm.trans c7⟩),ho']; rfl
 have c6k:=c6
 try simp only [qcA,qcC,qcB] at c6
 refine .skip (.code (.seq (Wk.rg [0,1] rfl rfl (cp rfl .no (.u rfl) (.u rfl) rfl (asg rfl .no (.u rfl) (.nil (.code (.cond rfl (fun c8=>?_) (fun c8=>?_)))))))))
 ·have c8k:=c8
  try simp only [qcA,qcC,qcB] at c8
  refine .exit (.xcode (.xnot rfl (.xcode (.xnot rfl (.xcode (.xnot rfl (.xcode (.xblk (.code (.seq (.seq (Wk.rg [0,1,2,3,4] rfl rfl (mv rfl .no (.u rfl) (nc rfl .no (.u rfl) (fz rfl .no Fx.fo103_3 (.u rfl) (ld rfl .no Fx.ag42 (.u rfl) (fun _=>Rd.own .here rdc_parts) ?_))))))))))))))))
  refine sn0 rfl .no Fx.sn42 (.u rfl) (.u rfl) ?_
  refine .nil (.code (.cond rfl (fun c9=>?_) (fun c9=>?_)))
  ·have c9k:=c9
   try simp only [qcA,qcC,qcB] at c9
   refine .seq (Wk.rg [0] rfl rfl (asg rfl .no (.u rfl) (.nil (.code (.ret (We.fin0 Tryd.results45 (.tmp rfl .nil) ?_))))))
   exact .inl ⟨take_mid ((byte_eq (n:=3) (by decide)).1 c8) (.inl (eo.symm.trans c9)),rfl,rfl⟩
  have c9k:=c9
  try simp only [qcA,qcC,qcB] at c9
  refine .skip (.code (.exit (.xnot rfl (.xcode (.xblk (.code (.seq (.seq (Wk.rg [0,1,2,3,4,5,6] rfl rfl (mv rfl .no (.u rfl) (nt rfl .no (.u rfl) (mv rfl .no (.u rfl) (mv rfl (.t rfl rfl) (.u rfl) (ln rfl (.t rfl rfl) Fx.sn42 (.s rfl) (cp rfl (.t rfl rfl) (.s rfl) (.u rfl) rfl (pkA rfl .no (.u rfl) (.s rfl) (.nil (.code (.cond rfl (fun c10=>?_) (fun c10=>?_))))))))))))))))))))
  ·have c10k:=c10
   try simp only [qcA,qcC,qcB] at c10
   refine .seq (Wk.rg [0] rfl rfl (asg rfl .no (.u rfl) (.nil (.code (.ret (We.fin0 Tryd.results45 (.tmp rfl .nil) ?_))))))
   exact .inl ⟨take_mid ((byte_eq (n:=3) (by decide)).1 c8) (.inr (by omega)),rfl,rfl⟩
  have c10k:=c10
  try simp only [qcA,qcC,qcB] at c10
  refine .skip (.code (.seq (Wk.rg [0,1,2,3,4,5,6,7,8,9] rfl rfl (mv rfl .no (.u rfl) (nc rfl .no (.u rfl) (fz rfl .no Fx.fo103_3 (.u rfl) (ld rfl .no Fx.ag42 (.u rfl) (fun _=>Rd.own .here rdc_parts) ?_)))))))
  refine ln rfl .no Fx.sn42 (.u rfl) (mv rfl .no (.u rfl) (ln rfl .no Fx.sn42 (.u rfl) (arn (((parts.length+p.length):Nat):Int) rfl .no (.u rfl) (.u rfl) rfl (fun _=>by omega) (fun _=>wrap_i64 (by omega) (by omega)) ?_)))
  refine mkY ((parts.length+p.length)) ((parts.length+p.length)) rfl Fx.se42 Fx.zv5 (.u rfl) (.u rfl) (by first|rfl|omega) (by first|rfl|omega) (by omega) (by omega) ?_; intro b45
  have lR45:(List.replicate ((parts.length+p.length)) (0#8:Y)).length=(parts.length+p.length):=List.length_replicate
  refine asg rfl .no (.u rfl) (.nil (.code (.seq (Wk.rg [0,1,2,3,4,5,6,7,8,9] rfl rfl (mv rfl .no (.u rfl) (mv rfl .no (.u rfl) (mv rfl .no (.u rfl) (nc rfl .no (.u rfl) (fz rfl .no Fx.fo103_3 (.u rfl) (ld rfl .no Fx.ag42 (.u rfl) (fun _=>Rd.own (.there .here) rdc_parts) ?_))))))))))
  refine cpY rfl Fx.se42 (.u rfl) (.u rfl) .here hsq.sc (by omega) (by omega) ?_; intro L52 eL52 lL52
  refine slr (parts.length) rfl Fx.se42 (.u rfl) (.u rfl) (by omega) (by omega) (by omega) (by omega) ?_
  refine mv rfl .no (.u rfl) ?_
  refine cpY rfl Fx.se42 (.u rfl) (.u rfl) .here hs.sc (by omega) (by omega) ?_; intro L55 eL55 lL55
  refine .nil ?_
  have eL55':L55=parts++p:=copy_two eL52 eL55 (by omega)
  refine .code (.seq ?_)
  refine wk_fb .here (keys_k .here rfl (keys_k .here rfl (keys_0))) ?_; intro GfR45 hR45 hleR45 evR45 hsR45; try rw [ evR45]
  have hA:=hA.mono hleR45
  refine Wk.rg [0,1,2,3,4] rfl rfl (mv rfl .no (.u rfl) (mv rfl .no (.u rfl) (nc rfl .no (.u rfl) (fz rfl .no Fx.fo103_3 (.u rfl) (s1 rfl (.u rfl) (.u rfl) rfl Fx.sz42 .here (by (try rw [rdc_len]); decide) (rds_parts) ?_)))))
  refine .nil (.code (.seq (.seq (Wk.rg [0,1] rfl rfl (mv rfl .no (.u rfl) (nt rfl .no (.u rfl) (.nil (.code (Wk.condT rfl rfl ?_)))))))))
  refine .seq (Wk.rg [0] rfl rfl (asg rfl .no (.u rfl) (.nil (.code (.ret (We.fin Tryd.results45 (.tmp rfl .nil) (MSub.cons .here rfl (MSub.cons .here rfl MSub.nil)) ?_))))))
  have q5:¬ ((p.length:Int)<128):=by simpa using c10k
  exact .inr ⟨L55,ps,hR45,vr,by rw [take_go (.inr ⟨(byte_eq (n:=3) (by decide)).1 c8,eo.symm.trans c9⟩) (by omega),eL55'],rfl,rfl,hsR45,fun e=>ne_emp hp0 (eL55'.symm.trans e),hA,by omega,by omega⟩
 have c8k:=c8
 try simp only [qcA,qcC,qcB] at c8
 refine .skip (.code (.exit (.xnot rfl (.xcode (.xnot rfl (.xcode (.xnot rfl (.xcode (.xnot rfl (.xcode (.xblk (.code (.seq (.seq (Wk.rg [0] rfl rfl (asg rfl .no (.u rfl) (.nil (.code (.ret (We.fin0 Tryd.results45 (.tmp rfl .nil) ?_))))))))))))))))))))
 exact .inl ⟨take_other (fun e=>c1 ((byte_eq (n:=1) (by decide)).2 e)) (fun e=>c3 ((byte_eq (n:=2) (by decide)).2 e)) (fun e=>c8 ((byte_eq (n:=3) (by decide)).2 e)) (fun e=>c6 ((byte_eq (n:=4) (by decide)).2 e)),rfl,rfl⟩
theorem take_no (root:Nat→Y) (h:Hd) (kind:Y) (p:List Y) (hp:Sh) (parts:List Y) (sp:Sh) (ps:List (Sh×List Y)) (vr:Value) (ha:Sh) (b:Nat) (used:Int) (G:PM) (hs:SlR G 1 encY hp p) (hsq:SlR G 1 encY sp parts) (h0:parts=[]→sp=⟨none,0⟩) (hA:AllS G ps) (hsa:SlR G 1 encY ha (headL h)) (hK:RdNP G 1 0 (wa 64 kW)) (hp0:0<p.length) (hl:parts.length+p.length≤10000000000000) (hn:ps.length≤100000000) (hq:takeS (openAt root h) parts (ps.map (·.2)) kind p=none):Ct Tryd.prog 45 ([.pointer (some ⟨b,0,none⟩),V kind,hp.val p.length]:List Value).toArray G [.blk b (cl (rdC (keyEnc root (headL h)) (keyMac root (headL h)) (ha.val (headL h).length) h vr used false (sp.val parts.length)) 103),rS 1 encP vr 42 ps] (fun _ μ' u=>u=.bool false∧μ'=[]) :=
 (take_ok root h kind p hp parts sp ps vr ha b used G hs hsq h0 hA hsa hK hp0 hl hn).mono fun G' μ' u hh=>by
  rcases hh with ⟨_,h1,h2⟩ | ⟨Q,ps',sQ,vr',h1,_⟩
  ·exact ⟨h1,h2⟩
  ·rw [hq] at h1; cases h1
theorem take_yes (root:Nat→Y) (h:Hd) (kind:Y) (p:List Y) (hp:Sh) (parts:List Y) (sp:Sh) (ps:List (Sh×List Y)) (vr:Value) (ha:Sh) (b:Nat) (used:Int) (G:PM) (hs:SlR G 1 encY hp p) (hsq:SlR G 1 encY sp parts) (h0:parts=[]→sp=⟨none,0⟩) (hA:AllS G ps) (hsa:SlR G 1 encY ha (headL h)) (hK:RdNP G 1 0 (wa 64 kW)) (hp0:0<p.length) (hl:parts.length+p.length≤10000000000000) (hn:ps.length≤100000000) {Q:List Y} {R:List (List Y)} (hq:takeS (openAt root h) parts (ps.map (·.2)) kind p=some (Q,R)):Ct Tryd.prog 45 ([.pointer (some ⟨b,0,none⟩),V kind,hp.val p.length]:List Value).toArray G [.blk b (cl (rdC (keyEnc root (headL h)) (keyMac root (headL h)) (ha.val (headL h).length) h vr used false (sp.val parts.length)) 103),rS 1 encP vr 42 ps]
  (fun G' μ' u=>∃ ps' sQ vr',R=ps'.map (·.2)∧u=.bool true∧μ'=[.blk b (cl (rdC (keyEnc root (headL h)) (keyMac root (headL h)) (ha.val (headL h).length) h vr' used false (sQ.val Q.length)) 103),rS 1 encP vr' 42 ps']∧SlR G' 1 encY sQ Q∧(Q=[]→sQ=⟨none,0⟩)∧AllS G' ps'∧ps'.length≤ps.length+1∧Q.length≤parts.length+p.length) :=
 (take_ok root h kind p hp parts sp ps vr ha b used G hs hsq h0 hA hsa hK hp0 hl hn).mono fun G' μ' u hh=>by
  rcases hh with ⟨h1,_⟩ | ⟨Q',ps',sQ,vr',h1,h2,h3,h4,h5,h6,h7,h8⟩
  ·rw [hq] at h1; cases h1
  ·rw [hq] at h1
   simp only [Option.some.injEq,Prod.mk.injEq] at h1
   obtain ⟨rfl,rfl⟩:=h1
   exact ⟨ps',sQ,vr',rfl,h2,h3,h4,h5,h6,h7,h8⟩
namespace Fx
theorem sz103:szT Tryd.prog 103=some 74:=by kernel_rfl
theorem bp74_0_2:bPl Tryd.prog 74 [0,2]=some ([V 0#8,V 0#8,uv .u64 0#64,uv .u64 0#64,uv .u64 0#64,.slice none 0 0,.int .i64 0,.bool false],[(0,5),(6,1)]):=by kernel_rfl
theorem bp103_0_1_2:bPl Tryd.prog 103 [0,1,2]=some (ba 32 zF++ba 32 zF++[.slice none 0 0,V 0#8,V 0#8,uv .u64 0#64,uv .u64 0#64,uv .u64 0#64,.slice none 0 0,.int .i64 0,.bool false,.slice none 0 0],[(0,64),(64,1),(65,8)]):=by kernel_rfl
theorem zq103:zrL Tryd.prog 103=some (ba 32 zF++ba 32 zF++[.slice none 0 0,V 0#8,V 0#8,uv .u64 0#64,uv .u64 0#64,uv .u64 0#64,.slice none 0 0,.int .i64 0,.bool false,.slice none 0 0]):=by kernel_rfl
theorem cv5_3:cvK Tryd.prog 5 3=some .i64:=by kernel_rfl
theorem fo74_2:fOff Tryd.prog 74 2=some 6:=by kernel_rfl
theorem fo74_3:fOff Tryd.prog 74 3=some 7:=by kernel_rfl
theorem sz4:szT Tryd.prog 4=some 1:=by kernel_rfl
theorem go43:goFn Tryd.prog 43=true:=by kernel_rfl
theorem go45:goFn Tryd.prog 45=true:=by kernel_rfl
end Fx
theorem cells_l8 {h h':Hd} {v v':Value} {u u':Int} {t t':Bool} (e1:h=h') (e2:v=v') (e3:u=u') (e4:t=t'):([V h.kind,V h.level,uv .u64 h.gen,uv .u64 h.epoch,uv .u64 h.num,v,.int .i64 u,.bool t]:List Value)=[V h'.kind,V h'.level,uv .u64 h'.gen,uv .u64 h'.epoch,uv .u64 h'.num,v',.int .i64 u',.bool t']:=by rw [e1,e2,e3,e4]
theorem three {α β γ:Type} [DecidableEq α] (A B:α) (o:Option (β×γ)):A≠B∨(A=B∧o=none)∨(A=B∧∃ Q R,o=some (Q,R)):=by
 by_cases h:A=B
 ·rcases o with _ | ⟨Q,R⟩
  ·exact .inr (.inl ⟨h,rfl⟩)
  ·exact .inr (.inr ⟨h,Q,R,rfl⟩)
 ·exact .inl h
theorem sh8 {m:Nat} (h:m<256):IntKind.i64.wrap ((m:Int)*2^(min (8:Int).toNat IntKind.i64.bits))=((256*m:Nat):Int):=by
 rw [show min (8:Int).toNat IntKind.i64.bits=8 from rfl,show (2:Int)^8=256 from rfl,wrap_i64 (by omega) (by omega)]; omega
theorem rd_on {op:Nat→List Y→Option (List Y)} {tot:Nat} {r parts p Q r':List Y} {recs R:List (List Y)} {used n u:Nat} {X:Option (List (List Y)×Nat)} (eB:X=readL op tot r parts recs used) (h:¬ r.length<7) (en:n=pieceN r) (hn:¬ (n=0∨128<n)) (ht:¬ r.length<7+n) (ep:p=(r.drop 7).take n) (hf:frameL (r.getD 6 0) p=r.take 7)
  (hT:takeS op parts recs (r.getD 6 0) p=some (Q,R)) (er:r'=r.drop (7+n)) (eu:u=if Q.isEmpty then tot-r'.length else used):X=readL op tot r' Q R u:=by
 rw [eB,rd_take h en hn ht ep hf,hT,er,eu,er]
theorem wRead_ok (root:Nat→Y) (xs:List Y) (hx:Sh) (G:PM) (hs:SlR G 1 encY hx xs) (hK:RdNP G 1 0 (wa 64 kW)) (hm:xs.length≤100000000):Ct Tryd.prog 24 ([.agg (ba 32 root).toArray,hx.val xs.length]:List Value).toArray G [] (fun G' μ' u=>∃ s ps,SlP G' s ps∧ps.map (·.2)=(readP root xs).1.recs∧μ'=[]∧u=.tuple #[.agg ([V (readP root xs).1.hd.kind,V (readP root xs).1.hd.level,uv .u64 (readP root xs).1.hd.gen,uv .u64 (readP root xs).1.hd.epoch,uv .u64 (readP root xs).1.hd.num,(s.val ps.length),.int .i64 ((readP root xs).1.used:Int),.bool (readP root xs).1.torn]:List Value).toArray,.int .i64 (readP root xs).2]):=by
 refine Ct.of Tryd.func24 rfl Tryd.ntmps24 rfl fun w0 hs0=>?_
 refine .seq (Wk.rg [0,1,2] rfl rfl ?_)
 refine bx rfl (.u rfl) rfl ?_; intro b2
 refine al rfl Fx.zq74 ?_; intro b4
 refine asg rfl .no (.u rfl) (.nil (.code (.seq (.seq (Wk.rg [0,1,2] rfl rfl (mv rfl .no (.u rfl) (ln rfl .no Fx.sn42 (.u rfl) (cp rfl .no (.u rfl) (.u rfl) rfl (.nil (.code (.cond rfl (fun c1=>?_) (fun c1=>?_))))))))))))
 ·have c1k:=c1
  try simp only [qcA,qcC,qcB] at c1
  refine .seq (Wk.rg [0,1,2] rfl rfl (bC rfl .no Fx.bp74_3 (.cons (.u rfl) rfl .nil) rfl ?_))
  refine sw rfl (.u rfl) (.u rfl) rfl Fx.sz74 .here (by first|exact qE|exact qL|rfl) (one8 rfl rfl rfl rfl rfl rfl rfl rfl) ?_
  refine asg rfl .no (.u rfl) (.nil (.code (.ret (We.fin0 Tryd.results24 (.cell rfl (fun w hw=>run_loadVarN Fx.ag74 (RdN.own .here) ((by first|exact qE|exact qL|rfl)) hw) (.tmp rfl .nil)) ?_))))
  refine ⟨⟨none,0⟩,[],SlP.nul,by rw [read_short (by omega)]; rfl,rfl,?_⟩
  rw [read_short (by omega)]; rfl
 have c1k:=c1
 try simp only [qcA,qcC,qcB] at c1
 refine .skip (.code (.seq (Wk.rg [0,1,2,3,4,5,6,7] rfl rfl (mv rfl .no (.u rfl) (kv rfl .no Fx.go41 (Evc rfl Evn) (fun _=>Take_ok xs hx _ hs (by omega)) ?_)))))
 refine mv rfl .no (.u rfl) (ex rfl .no (.u rfl) rfl (ex rfl .no (.u rfl) rfl ?_))
 refine al rfl Fx.zq38 ?_; intro b6
 refine sw rfl (.u rfl) (.u rfl) rfl Fx.sz38 .here (by first|exact qE|exact qL|rfl) (one5 rfl rfl rfl rfl rfl) ?_
 refine asg rfl .no (.u rfl) (.nil (.code (.seq (.seq (Wk.rg [0,1] rfl rfl (mv rfl .no (.u rfl) (cp rfl .no (.u rfl) (.u rfl) rfl (.nil (.code (.cond rfl (fun c2=>?_) (fun c2=>?_)))))))))))
 ·have c2k:=c2
  try simp only [qcA,qcC,qcB] at c2
  refine .seq (Wk.rg [0,1,2,3] rfl rfl (bC rfl .no Fx.bp74_ .nil rfl ?_))
  refine mv rfl .no (.u rfl) (sw rfl (.u rfl) (.u rfl) rfl Fx.sz74 (.there .here) (by first|exact qE|exact qL|rfl) (one8 rfl rfl rfl rfl rfl rfl rfl rfl) ?_)
  refine asg rfl .no (.u rfl) (.nil (.code (.ret (We.fin0 Tryd.results24 (.cell rfl (fun w hw=>run_loadVarN Fx.ag74 (RdN.own .here) ((by first|exact qE|exact qL|rfl)) hw) (.tmp rfl .nil)) ?_))))
  refine ⟨⟨none,0⟩,[],SlP.nul,by rw [read_head (by omega) c2]; rfl,rfl,?_⟩
  rw [read_head (by omega) c2]; rfl
 have c2k:=c2
 try simp only [qcA,qcC,qcB] at c2
 refine .skip (.code (.seq (Wk.draw (mc:=⟨false,false⟩) [0,1,3,5,6,2,4,7,8,9] Fx.mix (by kernel_rfl) ?_)))
 refine lA rfl .no Fx.ag34 (.u rfl) (fun _=>RdN.own (.there (.there .here))) (fun _=>(by first|exact qE|exact qL|rfl)) ?_
 refine lA rfl .no Fx.ag38 (.u rfl) (fun _=>RdN.own .here) (fun _=>(by first|exact qE|exact qL|rfl)) ?_
 refine lA rfl .no Fx.ag38 (.u rfl) (fun _=>RdN.own .here) (fun _=>(by first|exact qE|exact qL|rfl)) ?_
 refine lA rfl .no Fx.ag38 (.u rfl) (fun _=>RdN.own .here) (fun _=>(by first|exact qE|exact qL|rfl)) ?_
 refine bCe ([V (takeH xs).1.kind,V (takeH xs).1.level,uv .u64 (takeH xs).1.gen,uv .u64 (takeH xs).1.epoch,uv .u64 (takeH xs).1.num,.slice none 0 0,.int .i64 30,.bool false]) rfl .no Fx.bp74_0_2 (.cons (.u rfl) rfl (.cons (.u rfl) rfl .nil)) rfl (rfl) (kv rfl .no Fx.go42 (Evc rfl (Evc rfl Evn)) (fun _=>KeyOf_ok root (takeH xs).1 _ hK) ?_)
 refine kc rfl Fx.go17 (Evc rfl Evn) (Ct.frzB (nLay_ok (takeH xs).1 _)) ?_
 rintro _ G29 μ29 hG29 ⟨h29,L29,eL29,rfl,rfl,hs29⟩
 have hs:=hs.mono hG29
 have hK:=hK.mono hG29
 refine bCe (rdC (keyEnc root (headL (takeH xs).1)) (keyMac root (headL (takeH xs).1)) (h29.val L29.length) (takeH xs).1 (.slice none 0 0) 30 false (.slice none 0 0)) rfl .no Fx.bp103_0_1_2 (.cons (.u rfl) rfl (.cons (.u rfl) rfl (.cons (.u rfl) rfl .nil))) (rd_ok rdz_len k64 rfl) (rd_built rfl k64 _ _ rfl) ?_
 refine al rfl Fx.zq103 ?_; intro b8
 refine sw rfl (.u rfl) (.u rfl) rfl (by rw [rdc_len]; exact Fx.sz103) .here (rdc_len.trans rdz_len.symm) (rdc_one rfl rfl rfl) ?_
 refine .nil ?_
 subst eL29
 have lh:=head_len (takeH xs).1
 refine .code (.seq (wk_nilS 1 encP 42 ?_))
 refine Wk.rg [0,1,2] rfl rfl (mv rfl .no (.u rfl) (kD (30) rfl .no Fx.se42 hs (.u rfl) (.u rfl) (fun _=>by omega) (fun _=>by omega) ?_))
 intro h34 L34 eL34 lL34 hs34
 have lL34:=lL34 rfl
 refine asg rfl .no (.u rfl) (.nil (.code (.seq (.block ?_))))
 refine Wk.lop (α:=List Y×Sh×List Y×Sh×List (Sh×List Y)×Value×Nat) (fun gh=>[(9,true,gh.2.1.val gh.1.length)]) (fun gh=>[rS 1 encP gh.2.2.2.2.2.1 42 gh.2.2.2.2.1,.blk b8 (cl (rdC (keyEnc root (headL (takeH xs).1)) (keyMac root (headL (takeH xs).1)) (h29.val (headL (takeH xs).1).length) (takeH xs).1 gh.2.2.2.2.2.1 (gh.2.2.2.2.2.2:Int) false (gh.2.2.2.1.val gh.2.2.1.length)) 103)])
  (fun gh Gl=>(SlR Gl 1 encY gh.2.1 gh.1)∧(SlR Gl 1 encY gh.2.2.2.1 gh.2.2.1)∧(AllS Gl gh.2.2.2.2.1)∧(gh.2.2.1=[]→gh.2.2.2.1=⟨none,0⟩)∧(bodyR root (takeH xs).1 xs=readL (openAt root (takeH xs).1) xs.length gh.1 gh.2.2.1 (gh.2.2.2.2.1.map (·.2)) gh.2.2.2.2.2.2)∧(gh.2.2.2.2.1.length+gh.1.length≤xs.length)∧(gh.2.2.1.length+gh.1.length≤xs.length)) (fun gh=>gh.1.length) (L34,h34,[],⟨none,0⟩,[],.slice none 0 0,30) [(1,true,_),(4,true,_),(8,true,_)] [_,_,_]
  (ESub.c rfl (ESub.c rfl (ESub.c rfl (ESub.c rfl ESub.nil))))
  (MSub.cons .here rfl (MSub.cons .here rfl (MSub.cons .here rfl (MSub.cons .here rfl (MSub.cons .here rfl MSub.nil))))) ?_ ?_
 ·refine ⟨?_,?_,?_,?_,?_,?_,?_⟩
  ·(try dsimp only)<;>(exact hs34)
  ·(try dsimp only)<;>(exact SlR.nul)
  ·(try dsimp only)<;>(exact AllS.nil)
  ·(try dsimp only)<;>(exact fun _=>rfl)
  ·(try dsimp only)<;>(rw [eL34]; rfl)
  ·(try dsimp only)<;>(simp; omega)
  (try dsimp only)<;>(simp; omega)
 intro gh N0 Gl0 hN0 hGl0 hF0
 obtain ⟨M,r,Q,sQ,ps,vr,used⟩:=gh; dsimp only at hF0 hN0 ⊢
 obtain ⟨hr,hq,hA,h0,eB,hps,hQ⟩:=hF0
 have hK:=hK.mono hGl0
 have hs29:=hs29.mono hGl0
 refine .seq (.seq (Wk.rg [0,1,2] rfl rfl (mv rfl .no (.u rfl) (ln rfl .no Fx.sn42 (.u rfl) (cp rfl .no (.u rfl) (.u rfl) rfl (.nil (.code (.cond rfl (fun c3=>?_) (fun c3=>?_)))))))))
 ·have c3k:=c3
  try simp only [qcA,qcC,qcB] at c3
  refine .skip (.code (.block (.seq (Wk.draw (mc:=⟨false,false⟩) [0,1,2,3,4,5,6,7,8,9,10] Fx.mix (by kernel_rfl) ?_))))
  refine mv rfl .no (.u rfl) (ih rfl .no Fx.se42 (.u rfl) (.u rfl) (fun _=>by omega) (fun _=>by omega) (fun _=>hr.nn (k:=4) (by omega)) ?_)
  refine ld rfl .no Fx.ag5 (.u rfl) (fun _=>(hr.yat (4) (by omega) (by omega)).rd) ?_
  refine cn (k:=.u8) rfl .no Fx.cv5_3 (by decide) (.u rfl) ?_; intro m41 em41 lm41
  refine mv rfl .no (.u rfl) (ih rfl .no Fx.se42 (.u rfl) (.u rfl) (fun _=>by omega) (fun _=>by omega) (fun _=>hr.nn (k:=5) (by omega)) ?_)
  refine ld rfl .no Fx.ag5 (.u rfl) (fun _=>(hr.yat (5) (by omega) (by omega)).rd) ?_
  refine cn (k:=.u8) rfl .no Fx.cv5_3 (by decide) (.u rfl) ?_; intro m45 em45 lm45
  refine sl rfl .no (.u rfl) (.u rfl) (fun _=>by decide) ?_
  have lm41:m41<256:=lm41
  have lm45:m45<256:=lm45
  refine or8r (m41) (m45) rfl .no (.u rfl) (.u rfl) (fun _=>rfl) (fun _=>sh8 lm45) (by omega) (by omega) ?_
  refine asg rfl .no (.u rfl) (.nil ?_)
  have en:m41+256*m45=pieceN M:=by rw [em41,em45]; rfl
  refine .code (.seq (.seq (Wk.rg [0,1,2,3,4,5] rfl rfl (mv rfl .no (.u rfl) (cp rfl .no (.u rfl) (.u rfl) rfl (mv rfl .no (.u rfl) (mv rfl (.f rfl rfl) (.u rfl) (cp rfl (.f rfl rfl) (.s rfl) (.u rfl) rfl (pkO rfl .no (.u rfl) (.s rfl) (.nil (.code (.cond rfl (fun c4=>?_) (fun c4=>?_)))))))))))))
  ·have c4k:=c4
   try simp only [qcA,qcC,qcB] at c4
   refine .seq (Wk.rg [0,1,2] rfl rfl (bC rfl .no Fx.bp74_ .nil rfl ?_))
   refine sw rfl (.u rfl) (.u rfl) rfl Fx.sz74 (.there (.there (.there .here))) (by first|exact qE|exact qL|rfl) (one8 rfl rfl rfl rfl rfl rfl rfl rfl) ?_
   refine asg rfl .no (.u rfl) (.nil (.code (.ret (We.fin0 Tryd.results24 (.cell rfl (fun w hw=>run_loadVarN Fx.ag74 (RdN.own .here) ((by first|exact qE|exact qL|rfl)) hw) (.tmp rfl .nil)) ?_))))
   refine ⟨⟨none,0⟩,[],SlP.nul,by rw [read_none (by omega) c2 (eB.trans (rd_bad (by omega) (by omega)))]; rfl,rfl,?_⟩
   rw [read_none (by omega) c2 (eB.trans (rd_bad (by omega) (by omega)))]; rfl
  have c4k:=c4
  try simp only [qcA,qcC,qcB] at c4
  refine .skip (.code (.seq (.seq (Wk.rg [0,1,2,3,4] rfl rfl (mv rfl .no (.u rfl) (ln rfl .no Fx.sn42 (.u rfl) (mv rfl .no (.u rfl) (arn (((7+(m41+256*m45)):Nat):Int) rfl .no (.u rfl) (.u rfl) rfl (fun _=>by omega) (fun _=>wrap_i64 (by omega) (by omega)) ?_))))))))
  refine cp rfl .no (.u rfl) (.u rfl) rfl (.nil (.code (.cond rfl (fun c5=>?_) (fun c5=>?_))))
  ·have c5k:=c5
   try simp only [qcA,qcC,qcB] at c5
   refine .exit (.xcode (.xnot rfl (.xlp (.xblk (.code (.seq ?_))))))
   refine wk_fs .here (fun _ _=>rfl) (by intro b hb; cases hb) ?_; intro GfRR hRR hleRR evRR hsRR; subst evRR
   have hK:=hK.mono hleRR
   have hs29:=hs29.mono hleRR
   have hr:=hr.mono hleRR
   have hq:=hq.mono hleRR
   have hA:=hA.mono hleRR
   have hsRR:=SlP.of hsRR hA
   refine Wk.rg [0,1,2,3,4,5,6,7,8] rfl rfl (fz rfl .no Fx.fo103_2 (.u rfl) (fa rfl .no Fx.fo74_2 (.u rfl) (ld rfl .no Fx.ag3 (.u rfl) (fun _=>Rd.own .here rdc_used) ?_)))
   refine mv rfl .no (.u rfl) (ln rfl .no Fx.sn42 (.u rfl) (cp rfl .no (.u rfl) (.u rfl) rfl (fz rfl .no Fx.fo103_2 (.u rfl) (fa rfl .no Fx.fo74_3 (.u rfl) (s1 rfl (.u rfl) (.u rfl) rfl Fx.sz4 .here (by (try rw [rdc_len]); decide) (rds_torn) ?_)))))
   refine .nil (.code (.seq (Wk.rg [0,1,2,3] rfl rfl (fz rfl .no Fx.fo103_2 (.u rfl) (lA rfl .no Fx.ag74 (.u rfl) (fun _=>RdN.part (n:=8) (cs':=[V (takeH xs).1.kind,V (takeH xs).1.level,uv .u64 (takeH xs).1.gen,uv .u64 (takeH xs).1.epoch,uv .u64 (takeH xs).1.num,(hRR.val ps.length),.int .i64 (used:Int),.bool (decide ((used:Int)<(xs.length:Int)))]) .here (rdc_log)) (fun _=>rfl) (sw rfl (.u rfl) (.u rfl) rfl Fx.sz74 (.there (.there .here)) (by first|exact qE|exact qL|rfl) (one8 rfl rfl rfl rfl rfl rfl rfl rfl) ?_))))))
   refine asg rfl .no (.u rfl) (.nil (.code (.ret (We.fin0 Tryd.results24 (.cell rfl (fun w hw=>run_loadVarN Fx.ag74 (RdN.own .here) ((by first|exact qE|exact qL|rfl)) hw) (.tmp rfl .nil)) ?_))))
   have E:=read_some (root:=root) (by omega) c2 (eB.trans (rd_torn (by omega) (by omega) (by omega)))
   refine ⟨hRR,ps,hsRR,by rw [E],rfl,?_⟩
   rw [E]
   exact congrArg (fun z=>Value.tuple #[.agg (List.toArray z),.int .i64 0]) (cells_l8 rfl rfl rfl (by simp))
  have c5k:=c5
  try simp only [qcA,qcC,qcB] at c5
  refine .skip (.code (.seq (Wk.rg [0,1,2,3,4] rfl rfl (mv rfl .no (.u rfl) (mv rfl .no (.u rfl) (arn (((7+(m41+256*m45)):Nat):Int) rfl .no (.u rfl) (.u rfl) rfl (fun _=>by omega) (fun _=>wrap_i64 (by omega) (by omega)) ?_))))))
  refine kS (7) ((7+(m41+256*m45))) rfl .no Fx.se42 hr (.u rfl) (.u rfl) (.u rfl) (fun _=>by omega) (fun _=>by omega) (fun _=>by omega) (fun _=>by omega) ?_
  intro h63 L63 eL63 lL63 hs63
  have lL63:=lL63 rfl
  refine asg rfl .no (.u rfl) (.nil ?_)
  have eP:L63=(M.drop 7).take (m41+256*m45):=by rw [eL63]; congr 1; omega
  refine .code (.seq (.seq ?_))
  rcases three (frameL (M.getD 6 0) L63) (M.take 7) (takeS (openAt root (takeH xs).1) Q (ps.map (·.2)) (M.getD 6 0) L63) with hf | ⟨hf,hT⟩ | ⟨hf,Q2,R2,hT⟩
  ·refine Wk.draw (mc:=⟨true,false⟩) [0,1,2,3,5,6,4,7,8,9,10,11,12,13,14,15,16] Fx.mix (by kernel_rfl) ?_
   refine mv rfl .no (.u rfl) (ih rfl .no Fx.se42 (.u rfl) (.u rfl) (fun _=>by omega) (fun _=>by omega) (fun _=>hr.nn (k:=6) (by omega)) ?_)
   refine ld rfl .no Fx.ag5 (.u rfl) (fun _=>(hr.yat (6) (by omega) (by omega)).rd) ?_
   refine mv rfl .no (.u rfl) (mv rfl .no (.u rfl) (kE (7) rfl .no Fx.se42 hr (.u rfl) (.u rfl) (fun _=>by omega) (fun _=>by omega) ?_))
   intro h70 L70 eL70 lL70 hs70
   have lL70:=lL70 rfl
   refine kc rfl Fx.go44 (Evc rfl (Evc rfl Evn)) (Ct.frzB (whead_ok (M.getD 6 0) L63 h63 _ hs63 (by omega))) ?_
   rintro _ G68 μ68 hG68 ⟨h68,L68,eL68,rfl,rfl,hs68⟩
   have hK:=hK.mono hG68
   have hs29:=hs29.mono hG68
   have hr:=hr.mono hG68
   have hq:=hq.mono hG68
   have hA:=hA.mono hG68
   have hs63:=hs63.mono hG68
   have hs70:=hs70.mono hG68
   refine kv rfl .no Fx.go43 (Evc rfl (Evc rfl Evn)) (fun _=>sEqual_ok L68 L70 h68 h70 _ hs68 hs70 (by rw [show L68=frameL (M.getD 6 0) L63 from eL68,frame_len]; decide)) ?_
   refine wo_b false (decide_eq_false (by rw [eL68,eL70]; exact hf)) ?_
   refine nt rfl .no (.u rfl) (mv rfl .no (.u rfl) (skp (.bool false) rfl rfl (Gd.f (b:=true) rfl rfl) ?_))
   refine skp (.bool false) rfl rfl (Gd.f (b:=true) rfl rfl) ?_
   refine skr (.bool false) rfl rfl (Gd.f (b:=true) rfl rfl) ?_
   refine skp (.bool false) rfl rfl (Gd.f (b:=true) rfl rfl) ?_
   refine ska (.bool false) rfl rfl (Gd.f (b:=true) rfl rfl) ?_
   refine skp (.bool false) rfl rfl (Gd.f (b:=true) rfl rfl) ?_
   refine pkO rfl .no (.u rfl) (.s rfl) (.nil (.code (Wk.condT rfl rfl ?_)))
   refine .seq (Wk.rg [0,1,2] rfl rfl (bC rfl .no Fx.bp74_ .nil rfl ?_))
   refine sw rfl (.u rfl) (.u rfl) rfl Fx.sz74 (.there (.there (.there .here))) (by first|exact qE|exact qL|rfl) (one8 rfl rfl rfl rfl rfl rfl rfl rfl) ?_
   refine asg rfl .no (.u rfl) (.nil (.code (.ret (We.fin0 Tryd.results24 (.cell rfl (fun w hw=>run_loadVarN Fx.ag74 (RdN.own .here) ((by first|exact qE|exact qL|rfl)) hw) (.tmp rfl .nil)) ?_))))
   refine ⟨⟨none,0⟩,[],SlP.nul,by rw [read_none (by omega) c2 (eB.trans (rd_no (by omega) (by omega) (by omega) (.inl (by rw [← en,←eP]; exact hf))))]; rfl,rfl,?_⟩
   rw [read_none (by omega) c2 (eB.trans (rd_no (by omega) (by omega) (by omega) (.inl (by rw [← en,←eP]; exact hf))))]; rfl
  ·refine Wk.draw (mc:=⟨true,false⟩) [0,1,2,3,5,6,4,7,8,9,10,11,12,13,14,15,16] Fx.mix (by kernel_rfl) ?_
   refine mv rfl .no (.u rfl) (ih rfl .no Fx.se42 (.u rfl) (.u rfl) (fun _=>by omega) (fun _=>by omega) (fun _=>hr.nn (k:=6) (by omega)) ?_)
   refine ld rfl .no Fx.ag5 (.u rfl) (fun _=>(hr.yat (6) (by omega) (by omega)).rd) ?_
   refine mv rfl .no (.u rfl) (mv rfl .no (.u rfl) (kE (7) rfl .no Fx.se42 hr (.u rfl) (.u rfl) (fun _=>by omega) (fun _=>by omega) ?_))
   intro h70 L70 eL70 lL70 hs70
   have lL70:=lL70 rfl
   refine kc rfl Fx.go44 (Evc rfl (Evc rfl Evn)) (Ct.frzB (whead_ok (M.getD 6 0) L63 h63 _ hs63 (by omega))) ?_
   rintro _ G68 μ68 hG68 ⟨h68,L68,eL68,rfl,rfl,hs68⟩
   have hK:=hK.mono hG68
   have hs29:=hs29.mono hG68
   have hr:=hr.mono hG68
   have hq:=hq.mono hG68
   have hA:=hA.mono hG68
   have hs63:=hs63.mono hG68
   have hs70:=hs70.mono hG68
   refine kv rfl .no Fx.go43 (Evc rfl (Evc rfl Evn)) (fun _=>sEqual_ok L68 L70 h68 h70 _ hs68 hs70 (by rw [show L68=frameL (M.getD 6 0) L63 from eL68,frame_len]; decide)) ?_
   refine wo_b true (decide_eq_true (by rw [eL68,eL70]; exact hf)) ?_
   refine nt rfl .no (.u rfl) (mv rfl .no (.u rfl) (mv rfl (Gd.f (b:=false) rfl rfl) (.u rfl) (ih rfl (Gd.f (b:=false) rfl rfl) Fx.se42 (.u rfl) (.u rfl) (fun _=>by omega) (fun _=>by omega) (fun _=>hr.nn (k:=6) (by omega)) ?_)))
   refine ld rfl (Gd.f (b:=false) rfl rfl) Fx.ag5 (.u rfl) (fun _=>(hr.yat (6) (by omega) (by omega)).rd) ?_
   refine mv rfl (Gd.f (b:=false) rfl rfl) (.u rfl) (kag rfl (Gd.f (b:=false) rfl rfl) (.inl rfl) Fx.go45 (Evc rfl (Evc rfl (Evc rfl Evn))) (mtk2 (.there .here) .here) (take_no root (takeH xs).1 (M.getD 6 0) L63 h63 Q sQ ps vr h29 b8 (used:Int) _ hs63 hq h0 hA hs29 hK (by omega) (by omega) (by omega) hT) ?_)
   rintro _ G78 μ78 hG78 ⟨rfl,rfl⟩
   have hK:=hK.mono hG78
   have hs29:=hs29.mono hG78
   have hr:=hr.mono hG78
   have hq:=hq.mono hG78
   have hA:=hA.mono hG78
   have hs63:=hs63.mono hG78
   have hs70:=hs70.mono hG78
   have hs68:=hs68.mono hG78
   refine nt rfl (Gd.f (b:=false) rfl rfl) (.u rfl) (pkO rfl .no (.u rfl) (.u rfl) (.nil (.code (Wk.condT rfl rfl ?_))))
   refine .seq (Wk.rg [0,1,2] rfl rfl (bC rfl .no Fx.bp74_ .nil rfl ?_))
   refine sw rfl (.u rfl) (.u rfl) rfl Fx.sz74 (.there .here) (by first|exact qE|exact qL|rfl) (one8 rfl rfl rfl rfl rfl rfl rfl rfl) ?_
   refine asg rfl .no (.u rfl) (.nil (.code (.ret (We.fin0 Tryd.results24 (.cell rfl (fun w hw=>run_loadVarN Fx.ag74 (RdN.own .here) ((by first|exact qE|exact qL|rfl)) hw) (.tmp rfl .nil)) ?_))))
   refine ⟨⟨none,0⟩,[],SlP.nul,by rw [read_none (by omega) c2 (eB.trans ((rd_take (by omega) en (by omega) (by omega) eP hf).trans (by rw [hT])))]; rfl,rfl,?_⟩
   rw [read_none (by omega) c2 (eB.trans ((rd_take (by omega) en (by omega) (by omega) eP hf).trans (by rw [hT])))]; rfl
  refine Wk.draw (mc:=⟨true,false⟩) [0,1,2,3,5,6,4,7,8,9,10,11,12,13,14,15,16] Fx.mix (by kernel_rfl) ?_
  refine mv rfl .no (.u rfl) (ih rfl .no Fx.se42 (.u rfl) (.u rfl) (fun _=>by omega) (fun _=>by omega) (fun _=>hr.nn (k:=6) (by omega)) ?_)
  refine ld rfl .no Fx.ag5 (.u rfl) (fun _=>(hr.yat (6) (by omega) (by omega)).rd) ?_
  refine mv rfl .no (.u rfl) (mv rfl .no (.u rfl) (kE (7) rfl .no Fx.se42 hr (.u rfl) (.u rfl) (fun _=>by omega) (fun _=>by omega) ?_))
  intro h70 L70 eL70 lL70 hs70
  have lL70:=lL70 rfl
  refine kc rfl Fx.go44 (Evc rfl (Evc rfl Evn)) (Ct.frzB (whead_ok (M.getD 6 0) L63 h63 _ hs63 (by omega))) ?_
  rintro _ G68 μ68 hG68 ⟨h68,L68,eL68,rfl,rfl,hs68⟩
  have hK:=hK.mono hG68
  have hs29:=hs29.mono hG68
  have hr:=hr.mono hG68
  have hq:=hq.mono hG68
  have hA:=hA.mono hG68
  have hs63:=hs63.mono hG68
  have hs70:=hs70.mono hG68
  refine kv rfl .no Fx.go43 (Evc rfl (Evc rfl Evn)) (fun _=>sEqual_ok L68 L70 h68 h70 _ hs68 hs70 (by rw [show L68=frameL (M.getD 6 0) L63 from eL68,frame_len]; decide)) ?_
  refine wo_b true (decide_eq_true (by rw [eL68,eL70]; exact hf)) ?_
  refine nt rfl .no (.u rfl) (mv rfl .no (.u rfl) (mv rfl (Gd.f (b:=false) rfl rfl) (.u rfl) (ih rfl (Gd.f (b:=false) rfl rfl) Fx.se42 (.u rfl) (.u rfl) (fun _=>by omega) (fun _=>by omega) (fun _=>hr.nn (k:=6) (by omega)) ?_)))
  refine ld rfl (Gd.f (b:=false) rfl rfl) Fx.ag5 (.u rfl) (fun _=>(hr.yat (6) (by omega) (by omega)).rd) ?_
  refine mv rfl (Gd.f (b:=false) rfl rfl) (.u rfl) (kag rfl (Gd.f (b:=false) rfl rfl) (.inl rfl) Fx.go45 (Evc rfl (Evc rfl (Evc rfl Evn))) (mtk2 (.there .here) .here) (take_yes root (takeH xs).1 (M.getD 6 0) L63 h63 Q sQ ps vr h29 b8 (used:Int) _ hs63 hq h0 hA hs29 hK (by omega) (by omega) (by omega) hT) ?_)
  rintro _ G78 μ78 hG78 ⟨ps2,sQ2,vr2,rfl,rfl,rfl,hq2,h02,hA2,ln2,lQ2⟩
  have hr:=hr.mono hG78
  have hA:=hA.mono hG78
  refine nt rfl (Gd.f (b:=false) rfl rfl) (.u rfl) (pkO rfl .no (.u rfl) (.u rfl) (.nil (.code (Wk.condF rfl rfl ?_))))
  refine .skip (.code (.seq (Wk.rg [0,1,2,3,4] rfl rfl (mv rfl .no (.u rfl) (mv rfl .no (.u rfl) (arn (((7+(m41+256*m45)):Nat):Int) rfl .no (.u rfl) (.u rfl) rfl (fun _=>by omega) (fun _=>wrap_i64 (by omega) (by omega)) ?_))))))
  refine kD ((7+(m41+256*m45))) rfl .no Fx.se42 hr (.u rfl) (.u rfl) (fun _=>by omega) (fun _=>by omega) ?_
  intro h85 L85 eL85 lL85 hs85
  have lL85:=lL85 rfl
  refine asg rfl .no (.u rfl) (.nil ?_)
  have eE:=emp_oa hq2 h02
  refine .code (.seq (Wk.rg [0,1,2] rfl rfl (fz rfl .no Fx.fo103_3 (.u rfl) (ld rfl .no Fx.ag42 (.u rfl) (fun _=>Rd.own .here rdc_parts) ?_))))
  refine sn0 rfl .no Fx.sn42 (.u rfl) (.u rfl) ?_
  refine .nil (.code (.cond rfl (fun c6=>?_) (fun c6=>?_)))
  ·have c6k:=c6
   try simp only [qcA,qcC,qcB] at c6
   refine Wk.rg [0,1,2,3,4,5,6,7] rfl rfl (mv rfl .no (.u rfl) (ln rfl .no Fx.sn42 (.u rfl) (mv rfl .no (.u rfl) (ln rfl .no Fx.sn42 (.u rfl) (arn (((xs.length-L85.length):Nat):Int) rfl .no (.u rfl) (.u rfl) rfl (fun _=>by omega) (fun _=>wrap_i64 (by omega) (by omega)) ?_)))))
   refine fz rfl .no Fx.fo103_2 (.u rfl) (fa rfl .no Fx.fo74_2 (.u rfl) (s1 rfl (.u rfl) (.u rfl) rfl Fx.sz3 .here (by (try rw [rdc_len]); decide) (rds_used) ?_))
   refine .nil (.blk (We.lpo (L85,h85,Q2,sQ2,ps2,vr2,xs.length-L85.length) ?_ ?_ ?_ ?_ ?_))
   ·exact (ESub.c rfl (ESub.c rfl (ESub.c rfl (ESub.c rfl ESub.nil))))
   ·exact (MSub.cons (.there .here) rfl (MSub.cons .here rfl (MSub.cons .here rfl (MSub.cons .here rfl (MSub.cons .here rfl MSub.nil)))))
   ·first|omega|(dsimp only; omega)
   ·exact ((hGl0).trans hG68).trans hG78
   refine ⟨?_,?_,?_,?_,?_,?_,?_⟩
   ·(try dsimp only)<;>(exact hs85)
   ·(try dsimp only)<;>(exact hq2)
   ·(try dsimp only)<;>(exact hA2)
   ·(try dsimp only)<;>(exact h02)
   ·(try dsimp only)<;>(exact rd_on eB (by omega) en (by omega) (by omega) eP hf hT eL85 (by rw [show Q2.isEmpty=true from eE.symm.trans c6]; rfl))
   ·(try dsimp only)<;>(first|omega|rfl|assumption|(simp; done))
   (try dsimp only)<;>(first|omega|rfl|assumption|(simp; done))
  have c6k:=c6
  try simp only [qcA,qcC,qcB] at c6
  refine .skip (.blk (We.lpo (L85,h85,Q2,sQ2,ps2,vr2,used) ?_ ?_ ?_ ?_ ?_))
  ·exact (ESub.c rfl (ESub.c rfl (ESub.c rfl (ESub.c rfl ESub.nil))))
  ·exact (MSub.cons (.there .here) rfl (MSub.cons .here rfl (MSub.cons .here rfl (MSub.cons .here rfl (MSub.cons .here rfl MSub.nil)))))
  ·first|omega|(dsimp only; omega)
  ·exact ((hGl0).trans hG68).trans hG78
  refine ⟨?_,?_,?_,?_,?_,?_,?_⟩
  ·(try dsimp only)<;>(exact hs85)
  ·(try dsimp only)<;>(exact hq2)
  ·(try dsimp only)<;>(exact hA2)
  ·(try dsimp only)<;>(exact h02)
  ·(try dsimp only)<;>(exact rd_on eB (by omega) en (by omega) (by omega) eP hf hT eL85 (by rw [show Q2.isEmpty=false from eE.symm.trans c6]; rfl))
  ·(try dsimp only)<;>(first|omega|rfl|assumption|(simp; done))
  (try dsimp only)<;>(first|omega|rfl|assumption|(simp; done))
 have c3k:=c3
 try simp only [qcA,qcC,qcB] at c3
 refine .exit (.xcode (.xlp (.xblk (.code (.seq ?_)))))
 refine wk_fs .here (fun _ _=>rfl) (by intro b hb; cases hb) ?_; intro GfRR hRR hleRR evRR hsRR; subst evRR
 have hA:=hA.mono hleRR
 have hsRR:=SlP.of hsRR hA
 refine Wk.rg [0,1,2,3,4,5,6,7,8] rfl rfl (fz rfl .no Fx.fo103_2 (.u rfl) (fa rfl .no Fx.fo74_2 (.u rfl) (ld rfl .no Fx.ag3 (.u rfl) (fun _=>Rd.own .here rdc_used) ?_)))
 refine mv rfl .no (.u rfl) (ln rfl .no Fx.sn42 (.u rfl) (cp rfl .no (.u rfl) (.u rfl) rfl (fz rfl .no Fx.fo103_2 (.u rfl) (fa rfl .no Fx.fo74_3 (.u rfl) (s1 rfl (.u rfl) (.u rfl) rfl Fx.sz4 .here (by (try rw [rdc_len]); decide) (rds_torn) ?_)))))
 refine .nil (.code (.seq (Wk.rg [0,1,2,3] rfl rfl (fz rfl .no Fx.fo103_2 (.u rfl) (lA rfl .no Fx.ag74 (.u rfl) (fun _=>RdN.part (n:=8) (cs':=[V (takeH xs).1.kind,V (takeH xs).1.level,uv .u64 (takeH xs).1.gen,uv .u64 (takeH xs).1.epoch,uv .u64 (takeH xs).1.num,(hRR.val ps.length),.int .i64 (used:Int),.bool (decide ((used:Int)<(xs.length:Int)))]) .here (rdc_log)) (fun _=>rfl) (sw rfl (.u rfl) (.u rfl) rfl Fx.sz74 (.there (.there .here)) (by first|exact qE|exact qL|rfl) (one8 rfl rfl rfl rfl rfl rfl rfl rfl) ?_))))))
 refine asg rfl .no (.u rfl) (.nil (.code (.ret (We.fin0 Tryd.results24 (.cell rfl (fun w hw=>run_loadVarN Fx.ag74 (RdN.own .here) ((by first|exact qE|exact qL|rfl)) hw) (.tmp rfl .nil)) ?_))))
 have E:=read_some (root:=root) (by omega) c2 (eB.trans (rd_short (by omega)))
 refine ⟨hRR,ps,hsRR,by rw [E],rfl,?_⟩
 rw [E]
 exact congrArg (fun z=>Value.tuple #[.agg (List.toArray z),.int .i64 0]) (cells_l8 rfl rfl rfl (by simp))
namespace Fx
theorem go48:goFn Tryd.prog 48=true:=by kernel_rfl
theorem fo49_2:fOff Tryd.prog 49 2=some 19:=by kernel_rfl
theorem fo49_1:fOff Tryd.prog 49 1=some 5:=by kernel_rfl
theorem baT34:baT Tryd.prog 34 32=true:=by kernel_rfl
theorem fo49_3:fOff Tryd.prog 49 3=some 20:=by kernel_rfl
end Fx
set_option maxHeartbeats 2000000 in
theorem step_ok (h:Hd) (S:State) (hS:Nat→Sh) (m:Mn) (used:Int) (torn:Bool) (bm:Nat) (p:List Y) (hp:Sh) (G:PM) (hs:SlR G 1 encY hp p) (hSR:StR G S hS) (hM:MnR S m) (hl:p.length≤100000000) (hmn:m.n≤1000000000) (hK:RdNP G 1 0 (wa 64 kW)):Ct Tryd.prog 25 ([.pointer (some ⟨bm,0,none⟩),hp.val p.length]:List Value).toArray G [.blk bm (cl (maniC h S hS m.mark (m.n:Int) used torn) 49)] (fun G' μ' u=>(stepM m p=none∧μ'=[]∧u=.bool false)∨∃ m' X hX,stepM m p=some m'∧MnR X m'∧m'.n=m.n+1∧μ'=[.blk bm (cl (maniC h X hX m'.mark (m'.n:Int) used torn) 49)]∧u=.bool true∧StR G' X hX):=by
 refine Ct.of Tryd.func25 rfl Tryd.ntmps25 rfl fun w0 hs0=>?_
 refine .seq (Wk.rg [0] rfl rfl (asg rfl .no (.u rfl) (.nil (.code (.seq (.seq (Wk.rg [0,1,2] rfl rfl (mv rfl .no (.u rfl) (ln rfl .no Fx.sn42 (.u rfl) (cp rfl .no (.u rfl) (.u rfl) rfl (.nil (.code (.cond rfl (fun c1=>?_) (fun c1=>?_))))))))))))))
 ·have c1k:=c1
  try simp only [qcA,qcC,qcB] at c1
  refine .seq (Wk.rg [0] rfl rfl (asg rfl .no (.u rfl) (.nil (.code (.ret (We.fin0 Tryd.results25 (.tmp rfl .nil) ?_))))))
  exact .inl ⟨st_short (by omega),rfl,rfl⟩
 have c1k:=c1
 try simp only [qcA,qcC,qcB] at c1
 refine .skip (.code (.seq (Wk.rg [0,1,2] rfl rfl (mv rfl .no (.u rfl) (kc rfl Fx.go46 (Evc rfl Evn) (wcNew_ok p hp _ hs (by omega)) ?_)))))
 rintro _ G14 μ14 hG14 ⟨b14,s14,rfl,rfl,hs14⟩
 have hs:=hs.mono hG14
 have hSR:=hSR.mono hG14
 have hK:=hK.mono hG14
 refine asg rfl .no (.u rfl) (.nil (.code (.seq (Wk.rg [0,1,2] rfl rfl (mv rfl .no (.u rfl) (ka rfl (.inr rfl) Fx.go47 (Evc rfl (Evc rfl Evn)) (mtk1 .here) (rdFix_ok p s14 _ _ hs14 (by omega) (by omega)) ?_))))))
 rintro _ G16 μ16 hG16 ⟨s16,rfl,rfl,hs16⟩
 have hs:=hs.mono hG16
 have hSR:=hSR.mono hG16
 have hK:=hK.mono hG16
 refine asg rfl .no (.u rfl) (.nil (.code (.seq (Wk.rg [0,1,2,3,4,5,6,7,8] rfl rfl (mv rfl .no (.u rfl) (kD (40) rfl .no Fx.se42 hs (.u rfl) (.u rfl) (fun _=>by omega) (fun _=>by omega) ?_))))))
 intro h19 L19 eL19 lL19 hs19
 have lL19:=lL19 rfl
 refine kc rfl Fx.go48 (Evc rfl Evn) (decode_ok L19 h19 _ hs19 (by omega)) ?_
 rintro _ G20 μ20 hG20 ⟨e20,er20,ha20,hd20,hD20,rfl,rfl,hE20⟩
 have hs:=hs.mono hG20
 have hSR:=hSR.mono hG20
 have hK:=hK.mono hG20
 refine mv rfl .no (.u rfl) (ex rfl .no (.u rfl) rfl (ex rfl .no (.u rfl) rfl ?_))
 refine al rfl Fx.zq32 ?_; intro b7
 refine sw rfl (.u rfl) (.u rfl) rfl Fx.sz32 .here (by first|exact qE|exact qL|rfl) (Edit.one') ?_
 refine asg rfl .no (.u rfl) (.nil ?_)
 rw [eL19] at hD20
 refine .code (.seq (.seq (Wk.rg [0,1,2,3,4,5,6,7,8,9] rfl rfl (mv rfl .no (.u rfl) (cp rfl .no (.u rfl) (.u rfl) rfl (mv rfl .no (.u rfl) (mv rfl (.f rfl rfl) (.u rfl) (mv rfl (.f rfl rfl) (.u rfl) (nc rfl (.f rfl rfl) (.s rfl) (fz rfl (.f rfl rfl) Fx.fo49_2 (.s rfl) (ld rfl (.f rfl rfl) Fx.ag24 (.s rfl) (fun hc=>Rd.own (.there (.there .here)) rfl) ?_)))))))))))
 refine cp rfl (.f rfl rfl) (.s rfl) (.s rfl) rfl (pkO rfl .no (.u rfl) (.s rfl) (.nil (.code (.cond rfl (fun c2=>?_) (fun c2=>?_)))))
 ·have c2k:=c2
  try simp only [qcA,qcC,qcB] at c2
  refine .seq (Wk.rg [0] rfl rfl (asg rfl .no (.u rfl) (.nil (.code (.ret (We.fin0 Tryd.results25 (.tmp rfl .nil) ?_))))))
  exact .inl ⟨step_c2 (by omega) hD20 (c2.imp id leU.1),rfl,rfl⟩
 have c2k:=c2
 try simp only [qcA,qcC,qcB] at c2
 refine .skip (.code (.seq (Wk.draw (mc:=⟨false,false⟩) [0,1,2,3,4,5,6,7,8,9,10,11] Fx.mix (by kernel_rfl) ?_)))
 refine mv rfl .no (.u rfl) (nc rfl .no (.u rfl) (fz rfl .no Fx.fo49_1 (.u rfl) (lA rfl .no Fx.ag27 (.u rfl) (fun _=>RdN.part (n:=14) (cs':=S.cells hS) (.there (.there .here)) (mani_st)) (fun _=>(by first|exact qE|exact qL|rfl)) ?_)))
 refine lA rfl .no Fx.ag32 (.u rfl) (fun _=>RdN.own .here) (fun _=>(by first|exact qE|exact qL|rfl)) ?_
 refine kc rfl Fx.go29 (Evc rfl (Evc rfl Evn)) (apply_ok S hS e20 ha20 hd20 _ hSR hE20) ?_
 rintro _ G39 μ39 hG39 ⟨X39,hX39,er39,hA39,rfl,rfl,hR39⟩
 have hs:=hs.mono hG39
 have hK:=hK.mono hG39
 have hE20:=hE20.mono hG39
 refine mv rfl .no (.u rfl) (ex rfl .no (.u rfl) rfl (ex rfl .no (.u rfl) rfl ?_))
 refine al rfl Fx.zq27 ?_; intro b9
 refine sw rfl (.u rfl) (.u rfl) rfl Fx.sz27 .here (by first|exact qE|exact qL|rfl) (State.one') ?_
 refine asg rfl .no (.u rfl) (.nil (.code (.seq (.seq (Wk.draw (mc:=⟨false,false⟩) [0,1,2,3,5,6,7,8,4,9,10] Fx.mix (by kernel_rfl) ?_)))))
 refine mv rfl .no (.u rfl) (cp rfl .no (.u rfl) (.u rfl) rfl (mv rfl .no (.u rfl) (lA rfl (.f rfl rfl) Fx.ag27 (.u rfl) (fun _=>RdN.own .here) (fun _=>(by first|exact qE|exact qL|rfl)) ?_)))
 refine mv rfl (.f rfl rfl) (.u rfl) (kS (8) (40) rfl (.f rfl rfl) Fx.se42 hs (.s rfl) (.u rfl) (.u rfl) (fun hc=>by omega) (fun hc=>by omega) (fun hc=>by omega) (fun hc=>by omega) ?_)
 intro h48 L48 eL48 lL48 hs48
 have lL48:L48.length=32:=by rw [eL48,List.length_take,List.length_drop]; omega
 refine spS rfl (.f rfl rfl) Fx.ar34 hs48 (.s rfl) (fun hc=>by omega) (by decide) ?_
 refine lA rfl (.f rfl rfl) Fx.ag34 (.s rfl) (fun hc=>(hs48.arr (m:=32) (by omega)).rd) (fun _=>ba_len _ _) ?_
 refine kv rfl (.f rfl rfl) Fx.go9 (Eva.cons (.s rfl) Evn) (fun hc=>mRoot_ok X39 hX39 _ hR39 (hA39.stN hE20.wf) hA39.stL hK) ?_
 refine nqB rfl (.f rfl rfl) Fx.baT34 (.s rfl) (.s rfl) ?_
 refine pkO rfl .no (.u rfl) (.s rfl) (.nil (.code (.cond rfl (fun c3=>?_) (fun c3=>?_))))
 ·have c3k:=c3
  try simp only [qcA,qcC,qcB] at c3
  refine .seq (Wk.rg [0] rfl rfl (asg rfl .no (.u rfl) (.nil (.code (.ret (We.fin0 Tryd.results25 (.tmp rfl .nil) ?_))))))
  exact .inl ⟨step_c3 hM (by omega) (dec_ok hD20 (by omega)) hA39 eL48 (by simpa using c3),rfl,rfl⟩
 have c3k:=c3
 try simp only [qcA,qcC,qcB] at c3
 refine .skip (.code (.seq (Wk.rg [0,1,2,3,4,5,6,7,8,9] rfl rfl (mv rfl .no (.u rfl) (mv rfl .no (.u rfl) (lA rfl .no Fx.ag27 (.u rfl) (fun _=>RdN.own .here) (fun _=>(by first|exact qE|exact qL|rfl)) ?_))))))
 refine mv rfl .no (.u rfl) (nc rfl .no (.u rfl) (fz rfl .no Fx.fo49_1 (.u rfl) (st rfl (.u rfl) (.u rfl) rfl Fx.sz27 (.there (.there (.there .here))) (by show 5+14≤23; decide) (State.one') ?_)))
 refine nc rfl .no (.u rfl) (fz rfl .no Fx.fo49_2 (.u rfl) (s1 rfl (.u rfl) (.u rfl) rfl Fx.sz24 .here (by show 19<23; decide) (rfl) ?_))
 refine .nil (.code (.seq (Wk.rg [0,1,2,3,4,5,6,7] rfl rfl (mv rfl .no (.u rfl) (nc rfl .no (.u rfl) (fz rfl .no Fx.fo49_3 (.u rfl) (ld rfl .no Fx.ag3 (.u rfl) (fun _=>Rd.own .here rfl) ?_)))))))
 refine arn (((m.n+1):Nat):Int) rfl .no (.u rfl) (.u rfl) rfl (fun _=>by omega) (fun _=>wrap_i64 (by omega) (by omega)) ?_
 refine nc rfl .no (.u rfl) (fz rfl .no Fx.fo49_3 (.u rfl) (s1 rfl (.u rfl) (.u rfl) rfl Fx.sz3 .here (by show 20<23; decide) (rfl) ?_))
 refine .nil (.code (.seq (Wk.rg [0] rfl rfl (asg rfl .no (.u rfl) (.nil (.code (.ret (We.fin Tryd.results25 (.tmp rfl .nil) (MSub.cons .here rfl MSub.nil) ?_))))))))
 obtain ⟨m2,q1,q2,q3,q4⟩:=step_c4 hM (by omega) (dec_ok hD20 (by omega)) (fun q=>absurd (leU.2 q) (Int.not_le.2 c2.2)) hA39 eL48 (by omega) (by simpa using c3.2)
 refine .inr ⟨m2,X39,hX39,q1,q2,q4,?_,rfl,hR39⟩
 rw [q3,q4]; rfl
namespace Fx
theorem zr49:zrL Tryd.prog 49=some ([.int .u8 0,.int .u8 0,.int .u64 0,.int .u64 0,.int .u64 0,.slice none 0 0,.slice none 0 0,.slice none 0 0,.slice none 0 0,.slice none 0 0,.int .u64 0,.int .u64 0,.int .u64 0,.int .u64 0,.int .u64 0,.int .u64 0,.int .u64 0,.int .u64 0,.int .u64 0,.int .u64 0,.int .i64 0,.int .i64 0,.bool false]):=by kernel_rfl
theorem go24:goFn Tryd.prog 24=true:=by kernel_rfl
theorem fo74_0:fOff Tryd.prog 74 0=some 0:=by kernel_rfl
theorem bp49_:bPl Tryd.prog 49 []=some ([.int .u8 0,.int .u8 0,.int .u64 0,.int .u64 0,.int .u64 0,.slice none 0 0,.slice none 0 0,.slice none 0 0,.slice none 0 0,.slice none 0 0,.int .u64 0,.int .u64 0,.int .u64 0,.int .u64 0,.int .u64 0,.int .u64 0,.int .u64 0,.int .u64 0,.int .u64 0,.int .u64 0,.int .i64 0,.int .i64 0,.bool false],[]):=by kernel_rfl
theorem sz49:szT Tryd.prog 49=some 23:=by kernel_rfl
theorem ag49:aggN Tryd.prog 49=some (some 23):=by kernel_rfl
theorem bp49_0_4_5:bPl Tryd.prog 49 [0,4,5]=some ([.int .u8 0,.int .u8 0,.int .u64 0,.int .u64 0,.int .u64 0,.slice none 0 0,.slice none 0 0,.slice none 0 0,.slice none 0 0,.slice none 0 0,.int .u64 0,.int .u64 0,.int .u64 0,.int .u64 0,.int .u64 0,.int .u64 0,.int .u64 0,.int .u64 0,.int .u64 0,.int .u64 0,.int .i64 0,.int .i64 0,.bool false],[(0,5),(21,1),(22,1)]):=by kernel_rfl
theorem go25:goFn Tryd.prog 25=true:=by kernel_rfl
end Fx
theorem step_no (h:Hd) (S:State) (hS:Nat→Sh) (m:Mn) (used:Int) (torn:Bool) (bm:Nat) (p:List Y) (hp:Sh) (G:PM) (hs:SlR G 1 encY hp p) (hSR:StR G S hS) (hM:MnR S m) (hl:p.length≤100000000) (hmn:m.n≤1000000000) (hK:RdNP G 1 0 (wa 64 kW)) (hq:stepM m p=none):Ct Tryd.prog 25 ([.pointer (some ⟨bm,0,none⟩),hp.val p.length]:List Value).toArray G [.blk bm (cl (maniC h S hS m.mark (m.n:Int) used torn) 49)] (fun _ μ' u=>μ'=[]∧u=.bool false) :=
 (step_ok h S hS m used torn bm p hp G hs hSR hM hl hmn hK).mono fun G' μ' u hh=>by
  rcases hh with ⟨_,h1,h2⟩ | ⟨m',X,hX,h1,_⟩
  ·exact ⟨h1,h2⟩
  ·rw [hq] at h1; cases h1
theorem step_yes (h:Hd) (S:State) (hS:Nat→Sh) (m:Mn) (used:Int) (torn:Bool) (bm:Nat) (p:List Y) (hp:Sh) (G:PM) (hs:SlR G 1 encY hp p) (hSR:StR G S hS) (hM:MnR S m) (hl:p.length≤100000000) (hmn:m.n≤1000000000) (hK:RdNP G 1 0 (wa 64 kW)) {m2:Mn} (hq:stepM m p=some m2):Ct Tryd.prog 25 ([.pointer (some ⟨bm,0,none⟩),hp.val p.length]:List Value).toArray G [.blk bm (cl (maniC h S hS m.mark (m.n:Int) used torn) 49)] (fun G' μ' u=>∃ X hX,MnR X m2∧m2.n=m.n+1∧μ'=[.blk bm (cl (maniC h X hX m2.mark (m2.n:Int) used torn) 49)]∧u=.bool true∧StR G' X hX) :=
 (step_ok h S hS m used torn bm p hp G hs hSR hM hl hmn hK).mono fun G' μ' u hh=>by
  rcases hh with ⟨h1,_⟩ | ⟨m',X,hX,h1,h2,h3,h4⟩
  ·rw [hq] at h1; cases h1
  ·rw [hq] at h1; cases h1; exact ⟨X,hX,h2,h3,h4⟩
theorem mRead_ok (root:Nat→Y) (xs:List Y) (hx:Sh) (G:PM) (hs:SlR G 1 encY hx xs) (hK:RdNP G 1 0 (wa 64 kW)) (hm:xs.length≤100000000):Ct Tryd.prog 12 ([.agg (ba 32 root).toArray,hx.val xs.length]:List Value).toArray G [] (fun G' μ' u=>(readM root xs=none∧μ'=[]∧u=.tuple #[.agg (maniC Hd.zero State.zero hd0 0#64 0 0 false).toArray,.int .i64 190])∨∃ v X hX,readM root xs=some v∧MnR X v.m∧μ'=[]∧u=.tuple #[.agg (maniC v.hd X hX v.m.mark (v.m.n:Int) (v.used:Int) v.torn).toArray,.int .i64 0]∧StR G' X hX):=by
 refine Ct.of Tryd.func12 rfl Tryd.ntmps12 rfl fun w0 hs0=>?_
 refine .seq (Wk.rg [0,1,2] rfl rfl ?_)
 refine bx rfl (.u rfl) rfl ?_; intro b2
 refine al rfl Fx.zr49 ?_; intro b4
 refine asg rfl .no (.u rfl) (.nil (.code (.seq (Wk.rg [0,1,2,3,4,5,6,7,8] rfl rfl (lA rfl .no Fx.ag34 (.u rfl) (fun _=>RdN.own (.there .here)) (fun _=>(by first|exact mani_len|rfl)) ?_)))))
 refine mv rfl .no (.u rfl) (kc rfl Fx.go24 (Evc rfl (Evc rfl Evn)) (wRead_ok root xs hx _ hs hK hm) ?_)
 rintro _ G14 μ14 hG14 ⟨s14,ps14,hp14,ep14,rfl,rfl⟩
 have hfw:=readP_few root xs
 rw [← ep14] at hfw
 have hfl:=hfw.2; rw [List.length_map] at hfl
 have hK:=hK.mono hG14
 refine mv rfl .no (.u rfl) (ex rfl .no (.u rfl) rfl (ex rfl .no (.u rfl) rfl ?_))
 refine al rfl Fx.zq74 ?_; intro b6
 refine sw rfl (.u rfl) (.u rfl) rfl Fx.sz74 .here (by first|exact mani_len|rfl) (one8 rfl rfl rfl rfl rfl rfl rfl rfl) ?_
 refine asg rfl .no (.u rfl) (.nil (.code (.seq (.seq (Wk.rg [0,1,2,3,4,5,6,7,8,9,10,11,12] rfl rfl (mv rfl .no (.u rfl) (cp rfl .no (.u rfl) (.u rfl) rfl (mv rfl .no (.u rfl) (mv rfl (.f rfl rfl) (.u rfl) (ln rfl (.f rfl rfl) Fx.sn42 (.s rfl) (cp rfl (.f rfl rfl) (.s rfl) (.u rfl) rfl (mv rfl (.f rfl rfl) (.s rfl) (fz rfl (.tc rfl rfl) Fx.fo74_0 (.u rfl) (fz rfl (.tc rfl rfl) Fx.fo38_0 (.s rfl) (ld rfl (.tc rfl rfl) Fx.ag5 (.s rfl) (fun hc=>Rd.own .here rfl) ?_)))))))))))))))
 refine cp rfl (.tc rfl rfl) (.s rfl) (.u rfl) rfl (pkA rfl (.f rfl rfl) (.s rfl) (.s rfl) (pkO rfl .no (.u rfl) (.s rfl) (.nil (.code (.cond rfl (fun c1=>?_) (fun c1=>?_))))))
 ·have c1k:=c1
  try simp only [qcA,qcC,qcB] at c1
  refine .seq (Wk.rg [0,1,2] rfl rfl (bCe (maniC Hd.zero State.zero hd0 0#64 0 0 false) rfl .no Fx.bp49_ .nil rfl (rfl) ?_))
  refine sw rfl (.u rfl) (.u rfl) rfl Fx.sz49 (.there .here) (by first|exact mani_len|rfl) (mani_one) ?_
  refine asg rfl .no (.u rfl) (.nil (.code (.ret (We.fin0 Tryd.results12 (.cell rfl (fun w hw=>run_loadVarN Fx.ag49 (RdN.own .here) (mani_len) hw) (.tmp rfl .nil)) ?_))))
  exact .inl ⟨readM_bad (c1.imp id (fun q=>⟨by omega,fun e=>q.2 (by rw [e]; rfl)⟩)),rfl,rfl⟩
 have c1k:=c1
 try simp only [qcA,qcC,qcB] at c1
 refine .skip (.code (.seq (Wk.rg [0,1,2,3,4,5,6,7,8] rfl rfl (fz rfl .no Fx.fo74_0 (.u rfl) (lA rfl .no Fx.ag38 (.u rfl) (fun _=>RdN.part (n:=5) (cs':=[V (readP root xs).1.hd.kind,V (readP root xs).1.hd.level,uv .u64 (readP root xs).1.hd.gen,uv .u64 (readP root xs).1.hd.epoch,uv .u64 (readP root xs).1.hd.num]) .here (rfl)) (fun _=>rfl) ?_)))))
 refine fz rfl .no Fx.fo74_2 (.u rfl) (ld rfl .no Fx.ag3 (.u rfl) (fun _=>Rd.own .here (by first|exact wap_f rfl|rfl)) ?_)
 refine fz rfl .no Fx.fo74_3 (.u rfl) (ld rfl .no Fx.ag4 (.u rfl) (fun _=>Rd.own .here (by first|exact wap_f rfl|rfl)) ?_)
 refine bCe (maniC (readP root xs).1.hd State.zero hd0 0#64 0 ((readP root xs).1.used:Int) (readP root xs).1.torn) rfl .no Fx.bp49_0_4_5 (.cons (.u rfl) rfl (.cons (.u rfl) rfl (.cons (.u rfl) rfl .nil))) rfl (rfl) ?_
 refine al rfl Fx.zr49 ?_; intro b8
 refine sw rfl (.u rfl) (.u rfl) rfl Fx.sz49 .here (by first|exact mani_len|rfl) (mani_one) ?_
 refine .nil (.code (.seq (.seq (Wk.rg [0,1,2,3] rfl rfl (fz rfl .no Fx.fo74_1 (.u rfl) (ld rfl .no Fx.ag72 (.u rfl) (fun _=>Rd.own (.there .here) rfl) ?_))))))
 refine ln rfl .no Fx.sn72 (.u rfl) (mv rfl .no (.u rfl) (.nil (.code (.block ?_))))
 refine Wk.lop (α:=Nat×Mn×State×(Nat→Sh)) (fun gh=>[(41,true,.int .i64 (gh.1:Int))]) (fun gh=>[.blk b8 (cl (maniC (readP root xs).1.hd gh.2.2.1 gh.2.2.2 gh.2.1.mark (gh.2.1.n:Int) ((readP root xs).1.used:Int) (readP root xs).1.torn) 49)])
  (fun gh Gl=>(gh.1≤ps14.length)∧(stepsM ((ps14.map (·.2)).take gh.1) Mn.zero=some gh.2.1)∧(MnR gh.2.2.1 gh.2.1)∧(gh.2.1.n=gh.1)∧(StR Gl gh.2.2.1 gh.2.2.2)) (fun gh=>ps14.length-gh.1) (0,Mn.zero,State.zero,hd0) [(4,true,_),(8,true,_),(39,true,_),(40,true,_)] [_,_,_]
  (ESub.cons rfl (by first|rfl|exact evi (by omega)) (ESub.c rfl (ESub.c rfl (ESub.c rfl (ESub.c rfl ESub.nil)))))
  (MSub.cons .here rfl (MSub.cons .here rfl (MSub.cons .here rfl (MSub.cons .here rfl MSub.nil)))) ?_ ?_
 ·refine ⟨?_,?_,?_,?_,?_⟩
  ·(try dsimp only)<;>(first|omega|rfl|assumption|(simp; done))
  ·(try dsimp only)<;>(rfl)
  ·(try dsimp only)<;>(exact MnR.zero)
  ·(try dsimp only)<;>(rfl)
  (try dsimp only)<;>(exact st_zero)
 intro gh N0 Gl0 hN0 hGl0 hF0
 obtain ⟨k,m,X,hX⟩:=gh; dsimp only at hF0 hN0 ⊢
 obtain ⟨hk,hq,hM,hmn,hXR⟩:=hF0
 have hK:=hK.mono hGl0
 have hp14:=hp14.mono hGl0
 refine .seq (Wk.rg [0] rfl rfl (cp rfl .no (.u rfl) (.u rfl) rfl (.nil (.code (.seq (.cond rfl (fun c2=>?_) (fun c2=>?_)))))))
 ·have c2k:=c2
  try simp only [qcA,qcC,qcB] at c2
  refine .skip (.code (.seq (.block (.seq (Wk.rg [0,1,2] rfl rfl (ih rfl .no Fx.se72 (.u rfl) (.u rfl) (fun _=>by omega) (fun _=>by omega) (fun _=>hp14.sl.nn (k:=k) (by omega)) ?_))))))
  obtain ⟨p44,ep44⟩:=getx (k:=k) (xs:=ps14) (by omega)
  have hq44:=hp14.get ep44
  refine ld rfl .no Fx.ag42 (.u rfl) (fun _=>(hp14.at (k) (by omega) ep44).rd) ?_
  refine asg rfl .no (.u rfl) (.nil (.code (.seq ?_)))
  rcases hst:stepM m p44.2 with _ | m2
  ·have hlp:=hfw.1 p44.2 (List.mem_of_getElem? (map_at ep44))
   refine Wk.rg [0,1,2] rfl rfl (mv rfl .no (.u rfl) (ka rfl (.inr rfl) Fx.go25 (Evc rfl (Evc rfl Evn)) (mtk1 .here) (step_no (readP root xs).1.hd X hX m (((readP root xs).1.used:Nat):Int) (readP root xs).1.torn b8 p44.2 p44.1 _ hq44 hXR hM (by omega) (by omega) hK hst) ?_))
   rintro _ G46 μ46 hG46 ⟨rfl,rfl⟩
   have hK:=hK.mono hG46
   have hXR:=hXR.mono hG46
   have hq44:=hq44.mono hG46
   refine nt rfl .no (.u rfl) (.nil (.code (Wk.condT rfl rfl ?_)))
   refine .seq (Wk.rg [0,1,2] rfl rfl (bCe (maniC Hd.zero State.zero hd0 0#64 0 0 false) rfl .no Fx.bp49_ .nil rfl (rfl) ?_))
   refine sw rfl (.u rfl) (.u rfl) rfl Fx.sz49 (.there .here) (by first|exact mani_len|rfl) (mani_one) ?_
   refine asg rfl .no (.u rfl) (.nil (.code (.ret (We.fin0 Tryd.results12 (.cell rfl (fun w hw=>run_loadVarN Fx.ag49 (RdN.own .here) (mani_len) hw) (.tmp rfl .nil)) ?_))))
   exact .inl ⟨readM_no (by rw [← ep14]; exact stepsM_none (k:=k+1) (by rw [stepsM_take (map_at ep44),hq]; exact hst)),rfl,rfl⟩
  have hlp:=hfw.1 p44.2 (List.mem_of_getElem? (map_at ep44))
  refine Wk.rg [0,1,2] rfl rfl (mv rfl .no (.u rfl) (ka rfl (.inr rfl) Fx.go25 (Evc rfl (Evc rfl Evn)) (mtk1 .here) (step_yes (readP root xs).1.hd X hX m (((readP root xs).1.used:Nat):Int) (readP root xs).1.torn b8 p44.2 p44.1 _ hq44 hXR hM (by omega) (by omega) hK hst) ?_))
  rintro _ G46 μ46 hG46 ⟨X2,hX2,hM2,hn2,rfl,rfl,hR2⟩
  have hXR:=hXR.mono hG46
  refine nt rfl .no (.u rfl) (.nil (.code (Wk.condF rfl rfl ?_)))
  refine .skip (.blk (.code (Wk.rg [0,1] rfl rfl (arn (((k+1):Nat):Int) rfl .no (.u rfl) (.u rfl) rfl (fun _=>by omega) (fun _=>wrap_i64 (by omega) (by omega)) ?_))))
  refine mv rfl .no (.u rfl) (.nil (We.lpo (k+1,m2,X2,hX2) ?_ ?_ ?_ ?_ ?_))
  ·exact (ESub.cons rfl (by first|rfl|exact evi (by omega)) (ESub.c rfl (ESub.c rfl (ESub.c rfl (ESub.c rfl ESub.nil)))))
  ·exact (MSub.cons .here rfl (MSub.cons .here rfl (MSub.cons .here rfl (MSub.cons .here rfl MSub.nil))))
  ·first|omega|(dsimp only; omega)
  ·exact (hGl0).trans hG46
  refine ⟨?_,?_,?_,?_,?_⟩
  ·(try dsimp only)<;>(first|omega|rfl|assumption|(simp; done))
  ·(try dsimp only)<;>(rw [stepsM_take (map_at ep44),hq]; exact hst)
  ·(try dsimp only)<;>(exact hM2)
  ·(try dsimp only)<;>(omega)
  (try dsimp only)<;>(exact hR2)
 have c2k:=c2
 try simp only [qcA,qcC,qcB] at c2
 refine .exit (.xcode (.xlp (.xblk (.code (.seq (Wk.rg [0,1,2] rfl rfl (lA rfl .no Fx.ag49 (.u rfl) (fun _=>RdN.own .here) (fun _=>(by first|exact mani_len|rfl)) ?_)))))))
 refine sw rfl (.u rfl) (.u rfl) rfl Fx.sz49 (.there (.there .here)) (by first|exact mani_len|rfl) (mani_one) ?_
 refine asg rfl .no (.u rfl) (.nil (.code (.ret (We.fin0 Tryd.results12 (.cell rfl (fun w hw=>run_loadVarN Fx.ag49 (RdN.own .here) (mani_len) hw) (.tmp rfl .nil)) ?_))))
 obtain rfl:k=ps14.length:=by omega
 rw [List.take_of_length_le (by rw [List.length_map]; exact Nat.le_refl _),ep14] at hq
 exact .inr ⟨_,X,hX,readM_yes (fun q=>by rcases q with q | q; (exact q c1.1); (rcases c1.2 with c | c; (omega); (exact q.2 (BitVec.eq_of_toNat_eq (by have:((readP root xs).1.hd.kind.toNat:Int)=3:=c; show _=3; omega))))) hq,hM,rfl,rfl,hXR⟩
end Go.Proofs.YtdeobooblmjlfaaDoor
namespace Go.Tan
open Go.RowKit
structure MAct where
 mark:BitVec 64
 e:Edit
 ha:Sh
 he:Sh
def MAct.cells (a:MAct):List Value:=uv .u64 a.mark :: a.e.cells a.ha a.he
theorem MAct.len (a:MAct):a.cells.length=12:=rfl
structure ActR (G:PM) (h:Sh) (l:List MAct):Prop where
 sl:SlR G 12 MAct.cells h l
 all:∀ a∈l,EdR G a.e a.ha a.he∧a.e.canon=a.e
theorem ActR.mono {G G':PM} {h:Sh} {l:List MAct} (k:ActR G h l) (hle:PM.le G G'):ActR G' h l:=⟨k.sl.mono hle,fun a ha=>⟨(k.all a ha).1.mono hle,(k.all a ha).2⟩⟩
theorem RdNP.tl {G:PM} {b o:Nat} {v:Value} {cs:List Value} (h:RdNP G b o (v :: cs)):RdNP G b (o+1) cs:=fun j u hj=>by
 have:=h (j+1) u hj
 rwa [show o+(j+1)=o+1+j by omega] at this
theorem RdNP.hd {G:PM} {b o:Nat} {v:Value} {cs:List Value} (h:RdNP G b o (v :: cs)):RdP G ⟨b,o+0,none⟩ v:=h 0 v rfl
def encMk (x:BitVec 64):List Value:=[uv .u64 x]
def encS (p:State×(Nat→Sh)):List Value:=p.1.cells p.2
structure AllSt (G:PM) (l:List (State×(Nat→Sh))):Prop where
 all:∀ p∈l,StR G p.1 p.2∧∀ i,i<5→u64 (p.1.gens i)
theorem AllSt.mono {G G':PM} {l:List (State×(Nat→Sh))} (h:AllSt G l) (hle:PM.le G G'):AllSt G' l:=⟨fun p hp=>⟨(h.all p hp).1.mono hle,(h.all p hp).2⟩⟩
theorem AllSt.nil {G:PM}:AllSt G []:=⟨fun p hp=>absurd hp List.not_mem_nil⟩
theorem AllSt.snoc {G:PM} {l:List (State×(Nat→Sh))} {s:State} {hd:Nat→Sh} (h:AllSt G l) (hs:StR G s hd) (hg:∀ i,i<5→u64 (s.gens i)):AllSt G (l++[(s,hd)]):=⟨fun p hp=>by
 rcases List.mem_append.1 hp with hp | hp
 ·exact h.all p hp
 ·rw [List.mem_singleton.1 hp]; exact ⟨hs,hg⟩⟩
theorem log_snoc {root:Nat→Y} {h:Hd} {R:List (List Y)} {p L:List Y} (hL:(L,(0:Int))=layP root h (BitVec.ofInt 64 (R.length:Int)) p):logL root h (R++[p])=logL root h R++L∧L.length≤4430000:=by
 unfold layP at hL
 split at hL
 ·rename_i hp
  obtain ⟨h1,_⟩:=Prod.mk.inj hL
  constructor
  ·unfold logL
   rw [body_app,←List.append_assoc,Nat.zero_add,h1]
   simp [bodyL,sealAt]
  ·rw [h1]
   have:=rec_len (sealL (keyEnc root (headL h)) (keyMac root (headL h)) (nonceF (BitVec.ofInt 64 (R.length:Int))) (headL h) p)
   rw [seal_len] at this
   omega
 ·cases (Prod.mk.inj hL).2
theorem ends_snoc {root:Nat→Y} {h:Hd} {R:List (List Y)} {p:List Y}:endsL root h (R++[p]) (R++[p]).length=endsL root h R R.length++[(logL root h (R++[p])).length]:=by
 rw [List.length_append,List.length_cons,List.length_nil,ends_succ]
 congr 1
 ·unfold endsL
  refine List.map_congr_left fun j hj=>?_
  rw [List.mem_range] at hj
  rw [endL,endL,List.take_append_of_le_length (by omega)]
 have:=log_len root h (R++[p]) (R.length+1)
 rw [List.take_of_length_le (by simp)] at this
 rw [this]
theorem readM_back {root:Nat→Y} {h:Hd} {R:List (List Y)} {m:Mn} (hk:h.kind=3#8) (hr:h.right=true) (hs:stepsM R Mn.zero=some m):readM root (logL root h R)=some ⟨h,m,(logL root h R).length,false⟩:=by
 have e:=log_back (root:=root) (h:=h) R hr
 have:=readM_yes (root:=root) (xs:=logL root h R) (m:=m) (by rw [e]; rintro (q | q); (exact q rfl); (exact q.2 hk)) (by rw [e]; exact hs)
 rw [e] at this; exact this
theorem readM_kind {root:Nat→Y} {h:Hd} {R:List (List Y)} (hk:h.kind≠3#8∨h.right=false):readM root (logL root h R)=none:=by
 by_cases hr:h.right=true
 ·have e:=log_back (root:=root) (h:=h) R hr
  refine readM_bad (.inr ⟨?_,by rw [e]; exact hk.resolve_right (by simp [hr])⟩)
  rw [logL,List.length_append,head_len]; omega
 exact readM_bad (.inl (by rw [log_wrong R (by simpa using hr)]; decide))
theorem readM_nil {root:Nat→Y}:readM root []=some ⟨Hd.zero,Mn.zero,0,true⟩:=by
 have e:readP root []=(⟨Hd.zero,[],0,true⟩,0):=read_short (by decide)
 have:=readM_yes (root:=root) (xs:=[]) (m:=Mn.zero) (by rw [e]; rintro (q | q); (exact q rfl); (exact absurd q.1 (by decide))) (by rw [e]; rfl)
 rw [e] at this; exact this
theorem readM_head {root:Nat→Y} {h:Hd} (hk:h.kind=3#8) (hr:h.right=true):readM root (headL h)=some ⟨h,Mn.zero,30,false⟩:=by
 have:=readM_back (root:=root) (R:=[]) hk hr rfl
 have e:logL root h []=headL h:=by simp [logL,bodyL]
 rw [e,head_len] at this; exact this
theorem readM_other {root:Nat→Y} {h:Hd} (hk:h.kind≠3#8):readM root (headL h)=none:=by
 have:=readM_kind (root:=root) (h:=h) (R:=[]) (.inl hk)
 have e:logL root h []=headL h:=by simp [logL,bodyL]
 rw [e] at this; exact this
end Go.Tan
namespace Go.Proofs.YtdeobooblmjlfaaDoor
open Go.Tan Go.RowKit
namespace Fx
theorem bp34_:bPl Tryd.prog 34 []=some (ba 32 (fun _=>0#8),[]):=by kernel_rfl
theorem go12:goFn Tryd.prog 12=true:=by kernel_rfl
theorem bp38_0:bPl Tryd.prog 38 [0]=some ([V 0#8,V 0#8,uv .u64 0#64,uv .u64 0#64,uv .u64 0#64],[(0,1)]):=by kernel_rfl
theorem fo49_5:fOff Tryd.prog 49 5=some 22:=by kernel_rfl
theorem fo49_4:fOff Tryd.prog 49 4=some 21:=by kernel_rfl
theorem fo40_1:fOff Tryd.prog 40 1=some 32:=by kernel_rfl
theorem se41:slE Tryd.prog 41=some (71,12,128):=by kernel_rfl
theorem sn41:(slE Tryd.prog 41).isSome=true:=by kernel_rfl
theorem fo71_1:fOff Tryd.prog 71 1=some 1:=by kernel_rfl
theorem go8:goFn Tryd.prog 8=true:=by kernel_rfl
theorem fo71_0:fOff Tryd.prog 71 0=some 0:=by kernel_rfl
theorem fo40_0:fOff Tryd.prog 40 0=some 0:=by kernel_rfl
theorem se43:slE Tryd.prog 43=some (3,1,8):=by kernel_rfl
theorem sn43:(slE Tryd.prog 43).isSome=true:=by kernel_rfl
theorem go16:goFn Tryd.prog 16=true:=by kernel_rfl
theorem se44:slE Tryd.prog 44=some (27,14,192):=by kernel_rfl
theorem zw27:(Tryd.prog.info? 27).bind (·.zero)=some (.agg ((State.zero.cells hd0)).toArray):=by kernel_rfl
end Fx
theorem mRead_v (root:Nat→Y) (xs:List Y) (hx:Sh) (G:PM) (hs:SlR G 1 encY hx xs) (hK:RdNP G 1 0 (wa 64 kW)) (hm:xs.length≤100000000) {v:ManV} (hv:readM root xs=some v):Ct Tryd.prog 12 ([.agg (ba 32 root).toArray,hx.val xs.length]:List Value).toArray G [] (fun G' μ' u=>∃ X hX,MnR X v.m∧μ'=[]∧u=.tuple #[.agg (maniC v.hd X hX v.m.mark (v.m.n:Int) (v.used:Int) v.torn).toArray,.int .i64 0]∧StR G' X hX) :=
 (mRead_ok root xs hx G hs hK hm).mono fun G' μ' u hh=>by
  rcases hh with ⟨h1,_⟩ | ⟨w,X,hX,h1,h2⟩
  ·rw [hv] at h1; cases h1
  ·rw [hv] at h1; cases h1; exact ⟨X,hX,h2⟩
theorem mRead_n (root:Nat→Y) (xs:List Y) (hx:Sh) (G:PM) (hs:SlR G 1 encY hx xs) (hK:RdNP G 1 0 (wa 64 kW)) (hm:xs.length≤100000000) (hv:readM root xs=none):Ct Tryd.prog 12 ([.agg (ba 32 root).toArray,hx.val xs.length]:List Value).toArray G [] (fun _ μ' u=>μ'=[]∧u=.tuple #[.agg (maniC Hd.zero State.zero hd0 0#64 0 0 false).toArray,.int .i64 190]) :=
 (mRead_ok root xs hx G hs hK hm).mono fun G' μ' u hh=>by
  rcases hh with ⟨_,h2⟩ | ⟨w,X,hX,h1,h2⟩
  ·exact h2
  ·rw [hv] at h1; cases h1
theorem shown19_ok (G:PM) (hK:RdNP G 1 0 (wa 64 kW)):Ct Tryd.prog 7 ([]:List Value).toArray G [] (fun _ μ' u=>μ'=[]∧u=.bool true):=by
 refine Ct.of Tryd.func7 rfl Tryd.ntmps7 rfl fun w0 hs0=>?_
 refine .seq (Wk.rg [0] rfl rfl (asg rfl .no (.u rfl) (.nil (.code (.seq (Wk.rg [0,1,2,3,4,5,6,7] rfl rfl (bCe (ba 32 zF) rfl .no Fx.bp34_ .nil rfl (rfl) ?_)))))))
 refine kc rfl Fx.go12 (Evc rfl (Evc rfl Evn)) (mRead_v zF [] ⟨none,0⟩ _ SlR.nul hK (by simp) readM_nil) ?_
 rintro _ G9 μ9 hG9 ⟨X9,hX9,hM9,rfl,rfl,hR9⟩
 have hK:=hK.mono hG9
 refine mv rfl .no (.u rfl) (ex rfl .no (.u rfl) rfl (ex rfl .no (.u rfl) rfl ?_))
 refine al rfl Fx.zr49 ?_; intro b1
 refine sw rfl (.u rfl) (.u rfl) rfl Fx.sz49 .here (by first|exact mani_len|rfl) (mani_one) ?_
 refine asg rfl .no (.u rfl) (.nil (.code (.seq (Wk.rg [0,1,2,3,4,5,6,7,8,9] rfl rfl (bCe (ba 32 zF) rfl .no Fx.bp34_ .nil rfl (rfl) ?_)))))
 refine bCe ([V 1#8,V 0#8,uv .u64 0#64,uv .u64 0#64,uv .u64 0#64]) rfl .no Fx.bp38_0 (.cons (.u rfl) rfl .nil) rfl (rfl) ?_
 refine kc rfl Fx.go17 (Evc rfl Evn) (Ct.frzB (nLay_ok ⟨1#8,0#8,0#64,0#64,0#64⟩ _)) ?_
 rintro _ G15 μ15 hG15 ⟨h15,L15,eL15,rfl,rfl,hs15⟩
 have hK:=hK.mono hG15
 refine kc rfl Fx.go12 (Evc rfl (Evc rfl Evn)) (mRead_n zF L15 h15 _ hs15 hK (by rw [eL15,head_len]; decide) (by rw [eL15]; exact readM_other (by decide))) ?_
 rintro _ G16 μ16 hG16 ⟨rfl,rfl⟩
 have hK:=hK.mono hG16
 refine mv rfl .no (.u rfl) (ex rfl .no (.u rfl) rfl (ex rfl .no (.u rfl) rfl ?_))
 refine al rfl Fx.zr49 ?_; intro b3
 refine sw rfl (.u rfl) (.u rfl) rfl Fx.sz49 .here (by first|exact mani_len|rfl) (mani_one) ?_
 refine asg rfl .no (.u rfl) (.nil (.code (.seq (Wk.rg [0,1,2,3,4,5,6,7,8,9] rfl rfl (bCe (ba 32 zF) rfl .no Fx.bp34_ .nil rfl (rfl) ?_)))))
 refine bCe ([V 3#8,V 0#8,uv .u64 0#64,uv .u64 0#64,uv .u64 0#64]) rfl .no Fx.bp38_0 (.cons (.u rfl) rfl .nil) rfl (rfl) ?_
 refine kc rfl Fx.go17 (Evc rfl Evn) (Ct.frzB (nLay_ok ⟨3#8,0#8,0#64,0#64,0#64⟩ _)) ?_
 rintro _ G22 μ22 hG22 ⟨h22,L22,eL22,rfl,rfl,hs22⟩
 have hK:=hK.mono hG22
 refine kc rfl Fx.go12 (Evc rfl (Evc rfl Evn)) (mRead_v zF L22 h22 _ hs22 hK (by rw [eL22,head_len]; decide) (by rw [eL22]; exact readM_head rfl rfl)) ?_
 rintro _ G23 μ23 hG23 ⟨X23,hX23,hM23,rfl,rfl,hR23⟩
 refine mv rfl .no (.u rfl) (ex rfl .no (.u rfl) rfl (ex rfl .no (.u rfl) rfl ?_))
 refine al rfl Fx.zr49 ?_; intro b5
 refine sw rfl (.u rfl) (.u rfl) rfl Fx.sz49 .here (by first|exact mani_len|rfl) (mani_one) ?_
 refine asg rfl .no (.u rfl) (.nil (.code (.seq (Wk.rg [0,1,2,3,4,5,6,7,8,9,10,11,12,13,14,15,16,17,18,19,20,21,22,23,24,25,26,27,28,29] rfl rfl (mv rfl .no (.u rfl) (cp rfl .no (.u rfl) (.u rfl) rfl (mv rfl .no (.u rfl) (fz rfl (.t rfl rfl) Fx.fo49_5 (.u rfl) (ld rfl (.t rfl rfl) Fx.ag4 (.s rfl) (fun hc=>Rd.own (.there (.there .here)) (by first|exact wap_f rfl|rfl)) ?_)))))))))
 refine pkA rfl .no (.u rfl) (.s rfl) (mv rfl .no (.u rfl) (fz rfl (.t rfl rfl) Fx.fo49_4 (.u rfl) (ld rfl (.t rfl rfl) Fx.ag3 (.s rfl) (fun hc=>Rd.own (.there (.there .here)) (by first|exact wap_f rfl|rfl)) ?_)))
 refine cp rfl (.t rfl rfl) (.s rfl) (.u rfl) rfl (pkA rfl .no (.u rfl) (.s rfl) (mv rfl .no (.u rfl) (mv rfl (.t rfl rfl) (.u rfl) (cp rfl (.t rfl rfl) (.s rfl) (.u rfl) rfl (pkA rfl .no (.u rfl) (.s rfl) (mv rfl .no (.u rfl) (mv rfl (.t rfl rfl) (.u rfl) (cp rfl (.t rfl rfl) (.s rfl) (.u rfl) rfl (pkA rfl .no (.u rfl) (.s rfl) (mv rfl .no (.u rfl) (fz rfl (.t rfl rfl) Fx.fo49_3 (.u rfl) (ld rfl (.t rfl rfl) Fx.ag3 (.s rfl) (fun hc=>Rd.own .here (by first|exact wap_f rfl|rfl)) ?_))))))))))))
 refine cp rfl (.t rfl rfl) (.s rfl) (.u rfl) rfl (pkA rfl .no (.u rfl) (.s rfl) (mv rfl .no (.u rfl) (fz rfl (.t rfl rfl) Fx.fo49_5 (.u rfl) (ld rfl (.t rfl rfl) Fx.ag4 (.s rfl) (fun hc=>Rd.own .here (by first|exact wap_f rfl|rfl)) ?_))))
 refine nt rfl (.t rfl rfl) (.s rfl) (pkA rfl .no (.u rfl) (.s rfl) (asg rfl .no (.u rfl) (.nil (.code (.ret (We.fin0 Tryd.results7 (.tmp rfl .nil) ?_))))))
 exact ⟨rfl,rfl⟩
set_option maxHeartbeats 2000000 in
theorem laid19_ok (root:Nat→Y) (h:Hd) (l:List MAct) (hl:Sh) (G:PM) (hAR:ActR G hl l) (hK:RdNP G 1 0 (wa 64 kW)) (hll:l.length≤100000000000000):Ct Tryd.prog 11 ([.agg (ba 32 root++[V h.kind,V h.level,uv .u64 h.gen,uv .u64 h.epoch,uv .u64 h.num]).toArray,hl.val l.length]:List Value).toArray G [] (fun G' μ' u=>∃ (R:List (List Y)) (SS:List (State×(Nat→Sh))) (ms:List (BitVec 64)) (B:List Y) (es:List Nat) (hb he hst hmk:Sh) (S:State) (last:BitVec 64),Laid R (SS.map (·.1)) ms S last∧B=logL root h R∧es=endsL root h R R.length∧B.length≤100000000∧R.length≤20∧AllSt G' SS∧SlR G' 1 encY hb B∧SlR G' 1 encN he es∧SlR G' 14 encS hst SS∧SlR G' 1 encMk hmk ms∧μ'=[]∧u=.tuple #[hb.val B.length,he.val es.length,hst.val SS.length,hmk.val ms.length]):=by
 refine Ct.of Tryd.func11 rfl Tryd.ntmps11 rfl fun w0 hs0=>?_
 have hasl:=hAR.sl
 refine .seq (Wk.rg [0,1,2,3,4] rfl rfl ?_)
 refine bx rfl (.u rfl) rfl ?_; intro b2
 refine asg rfl .no (.u rfl) (asg rfl .no (.u rfl) (asg rfl .no (.u rfl) (asg rfl .no (.u rfl) (.nil (.code (.seq (Wk.rg [0,1,2,3] rfl rfl (fz rfl .no Fx.fo40_1 (.u rfl) (lA rfl .no Fx.ag38 (.u rfl) (fun _=>RdN.part (n:=5) (cs':=[V h.kind,V h.level,uv .u64 h.gen,uv .u64 h.epoch,uv .u64 h.num]) .here (of_r rfl)) (fun _=>rfl) ?_)))))))))
 refine kc rfl Fx.go17 (Evc rfl Evn) (Ct.rowc (nLay_ok h _)) ?_
 rintro v20 G20 μ20 hG20 ⟨L20,ov20,eL20,rfl⟩
 have hAR:=hAR.mono hG20
 have hasl:=hasl.mono hG20
 have hK:=hK.mono hG20
 refine asg rfl .no (.u rfl) (.nil (.code (.seq (Wk.rg [0] rfl rfl ?_))))
 refine al rfl Fx.zq27 ?_; intro b9
 refine .nil (.code (.seq (wk_nilS 1 encN 3 ?_)))
 refine Wk.rg [0] rfl rfl (asg rfl .no (.u rfl) (.nil (.code (.seq (wk_nilS 14 encS 27 ?_)))))
 refine Wk.rg [0] rfl rfl (asg rfl .no (.u rfl) (.nil (.code (.seq (wk_nilS 1 encMk 24 ?_)))))
 refine Wk.rg [0] rfl rfl (asg rfl .no (.u rfl) (.nil (.code (.seq (Wk.rg [0] rfl rfl (asg rfl .no (.u rfl) (.nil (.code (.seq (.seq (Wk.rg [0,1,2] rfl rfl (mv rfl .no (.u rfl) (ln rfl .no Fx.sn41 (.u rfl) (mv rfl .no (.u rfl) (.nil (.code (.block ?_)))))))))))))))))
 refine Wk.lop (α:=Nat×Value×List Y×Value×List Nat×Value×List (State×(Nat→Sh))×Value×List (BitVec 64)×List (List Y)×State×(Nat→Sh)×BitVec 64) (fun gh=>[(8,true,gh.2.1),(10,true,gh.2.2.2.1),(11,true,gh.2.2.2.2.2.1),(12,true,gh.2.2.2.2.2.2.2.1),(13,true,uv .u64 gh.2.2.2.2.2.2.2.2.2.2.2.2),(23,true,.int .i64 (gh.1:Int))]) (fun gh=>[rS 1 encMk gh.2.2.2.2.2.2.2.1 24 gh.2.2.2.2.2.2.2.2.1,rS 14 encS gh.2.2.2.2.2.1 27 gh.2.2.2.2.2.2.1,rS 1 encN gh.2.2.2.1 3 gh.2.2.2.2.1,.blk b9 (cl (gh.2.2.2.2.2.2.2.2.2.2.1.cells gh.2.2.2.2.2.2.2.2.2.2.2.1) 27),rB gh.2.1 5 gh.2.2.1])
  (fun gh Gl=>(gh.1≤l.length)∧(Laid gh.2.2.2.2.2.2.2.2.2.1 (gh.2.2.2.2.2.2.1.map (·.1)) gh.2.2.2.2.2.2.2.2.1 gh.2.2.2.2.2.2.2.2.2.2.1 gh.2.2.2.2.2.2.2.2.2.2.2.2)∧(gh.2.2.1=logL root h gh.2.2.2.2.2.2.2.2.2.1)∧(gh.2.2.2.2.1=endsL root h gh.2.2.2.2.2.2.2.2.2.1 gh.2.2.2.2.2.2.2.2.2.1.length)∧(gh.2.2.2.2.2.2.2.2.2.1.length≤gh.1)∧(gh.2.2.2.2.2.2.2.2.2.1.length≤20)∧(gh.2.2.1.length≤30+4430000*gh.2.2.2.2.2.2.2.2.2.1.length)∧(StR Gl gh.2.2.2.2.2.2.2.2.2.2.1 gh.2.2.2.2.2.2.2.2.2.2.2.1)∧(AllSt Gl gh.2.2.2.2.2.2.1)) (fun gh=>l.length-gh.1) (0,v20,L20,.slice none 0 0,[],.slice none 0 0,[],.slice none 0 0,[],[],State.zero,hd0,0#64) [(1,true,_),(2,true,_),(9,true,_),(22,true,_)] [_]
  (ESub.c rfl (ESub.c rfl (ESub.c rfl (ESub.c rfl (ESub.c rfl (ESub.cons rfl (by first|rfl|exact evi (by omega)) (ESub.c rfl (ESub.c rfl (ESub.c rfl (ESub.c rfl ESub.nil))))))))))
  (MSub.cons .here rfl (MSub.cons .here rfl (MSub.cons .here rfl (MSub.cons .here rfl (MSub.cons .here rfl (MSub.cons .here rfl MSub.nil)))))) ?_ ?_
 ·refine ⟨?_,?_,?_,?_,?_,?_,?_,?_,?_⟩
  ·(try dsimp only)<;>(first|omega|rfl|assumption|(simp; done))
  ·(try dsimp only)<;>(exact Laid.nil)
  ·(try dsimp only)<;>(rw [eL20]; simp [logL,bodyL])
  ·(try dsimp only)<;>(rfl)
  ·(try dsimp only)<;>(exact Nat.zero_le _)
  ·(try dsimp only)<;>(exact Nat.zero_le _)
  ·(try dsimp only)<;>(rw [eL20,head_len]; exact Nat.le_add_right _ _)
  ·(try dsimp only)<;>(exact st_zero)
  (try dsimp only)<;>(exact AllSt.nil)
 intro gh N0 Gl0 hN0 hGl0 hF0
 obtain ⟨k,vb,B,ve,es,vs,Ss,vm,ms,R,S,hS,last⟩:=gh; dsimp only at hF0 hN0 ⊢
 obtain ⟨hk,hL,eB,eE,hRk,hRtw,lB,hSR2,hSs2⟩:=hF0
 have hAR:=hAR.mono hGl0
 have hasl:=hasl.mono hGl0
 have hK:=hK.mono hGl0
 have lE:es.length=R.length:=by rw [eE,ends_len]
 have lS:Ss.length=R.length:=by have:=hL.len.1; rwa [List.length_map] at this
 have lM:=hL.len.2
 refine .seq (Wk.rg [0] rfl rfl (cp rfl .no (.u rfl) (.u rfl) rfl (.nil (.code (.seq (.cond rfl (fun c1=>?_) (fun c1=>?_)))))))
 ·have c1k:=c1
  try simp only [qcA,qcC,qcB] at c1
  refine .skip (.code (.seq (.block (.seq (Wk.rg [0,1] rfl rfl (mv rfl .no (.u rfl) (asg rfl .no (.u rfl) (.nil (.code (.seq (.seq (Wk.draw (mc:=⟨false,false⟩) [0,1,2,3,4,5,6,7,8,9,10,11,12,13,14,15,16,17,18,19,20] Fx.mix (by kernel_rfl) ?_))))))))))))
  obtain ⟨a,eA⟩:=getx (k:=k) (xs:=l) (by omega)
  have hAc:=hAR.all a (List.mem_of_getElem? eA)
  refine mv rfl .no (.u rfl) (cp rfl .no (.u rfl) (.u rfl) rfl (mv rfl .no (.u rfl) (lA rfl (.f rfl rfl) Fx.ag27 (.u rfl) (fun _=>RdN.own (.there (.there (.there .here)))) (fun _=>(by first|exact qE|exact qL|rfl)) ?_)))
  refine mv rfl (.f rfl rfl) (.u rfl) (mv rfl (.f rfl rfl) (.u rfl) (ih rfl (.f rfl rfl) Fx.se41 (.s rfl) (.s rfl) (fun hc=>by omega) (fun hc=>by omega) (fun hc=>hasl.nn (k:=k) (by first|omega|(simp only [Bool.and_eq_true,decide_eq_true_eq] at hc; omega)|(simp only [List.length_cons,List.length_nil]; omega))) ?_))
  refine fa rfl (.f rfl rfl) Fx.fo71_1 (.s rfl) (lA rfl (.f rfl rfl) Fx.ag32 (.s rfl) (fun hc=>((hasl.at (by omega) eA).tl).rd) (fun _=>(by first|exact qE|exact qL|rfl)) ?_)
  refine kv rfl (.f rfl rfl) Fx.go8 (Eva.cons (.s rfl) (Eva.cons (.s rfl) Evn)) (fun hc=>light19_ok S hS a.e a.ha a.he _) ?_
  refine nt rfl (.f rfl rfl) (.s rfl) (pkO rfl .no (.u rfl) (.s rfl) (mv rfl .no (.u rfl) (mv rfl (.f rfl rfl) (.u rfl) (mv rfl (.f rfl rfl) (.u rfl) (ih rfl (.f rfl rfl) Fx.se41 (.s rfl) (.s rfl) (fun hc=>by omega) (fun hc=>by omega) (fun hc=>hasl.nn (k:=k) (by first|omega|(simp only [Bool.and_eq_true,decide_eq_true_eq] at hc; omega)|(simp only [List.length_cons,List.length_nil]; omega))) ?_)))))
  refine fa rfl (.f rfl rfl) Fx.fo71_0 (.s rfl) (ld rfl (.f rfl rfl) Fx.ag24 (.s rfl) (fun hc=>((hasl.at (by omega) eA).hd).rd) ?_)
  refine mv rfl (.f rfl rfl) (.u rfl) (cp rfl (.f rfl rfl) (.s rfl) (.s rfl) rfl (pkO rfl .no (.u rfl) (.s rfl) (.nil (.code (.cond rfl (fun c2=>?_) (fun c2=>?_))))))
  ·have c2k:=c2
   try simp only [qcA,qcC,qcB] at c2
   refine .exit (.xcode (.xblk (.code (Wk.rg [0,1] rfl rfl (arn (((k+1):Nat):Int) rfl .no (.u rfl) (.u rfl) rfl (fun _=>by omega) (fun _=>wrap_i64 (by omega) (by omega)) ?_)))))
   refine mv rfl .no (.u rfl) (.nil (We.lpo (k+1,vb,B,ve,es,vs,Ss,vm,ms,R,S,hS,last) ?_ ?_ ?_ ?_ ?_))
   ·exact (ESub.c rfl (ESub.c rfl (ESub.c rfl (ESub.c rfl (ESub.c rfl (ESub.cons rfl (by first|rfl|exact evi (by omega)) (ESub.c rfl (ESub.c rfl (ESub.c rfl (ESub.c rfl ESub.nil))))))))))
   ·exact (MSub.cons .here rfl (MSub.cons .here rfl (MSub.cons .here rfl (MSub.cons .here rfl (MSub.cons .here rfl (MSub.cons .here rfl MSub.nil))))))
   ·first|omega|(dsimp only; omega)
   ·exact hGl0
   refine ⟨?_,?_,?_,?_,?_,?_,?_,?_,?_⟩
   ·(try dsimp only)<;>(first|omega|rfl|assumption|(simp; done))
   ·(try dsimp only)<;>(exact hL)
   ·(try dsimp only)<;>(exact eB)
   ·(try dsimp only)<;>(exact eE)
   ·(try dsimp only)<;>(omega)
   ·(try dsimp only)<;>(exact hRtw)
   ·(try dsimp only)<;>(exact lB)
   ·(try dsimp only)<;>(exact hSR2)
   (try dsimp only)<;>(exact hSs2)
  have c2k:=c2
  try simp only [qcA,qcC,qcB] at c2
  have hmk:¬ a.mark≤last:=fun q=>absurd (leU.2 q) (Int.not_le.2 c2.2)
  refine .skip (.code (.seq (Wk.draw (mc:=⟨false,false⟩) [0,1,2,3,4,5,6,7,8,9,10,11,12,13,14,15,16,17,18,19,20,21,22,23,24,25,26] Fx.mix (by kernel_rfl) ?_)))
  refine fz rfl .no Fx.fo40_0 (.u rfl) (lA rfl .no Fx.ag34 (.u rfl) (fun _=>RdN.part (n:=32) (cs':=ba 32 root) (.there (.there (.there (.there (.there .here))))) (app_l)) (fun _=>(ba_len _ _)) ?_)
  refine fz rfl .no Fx.fo40_1 (.u rfl) (lA rfl .no Fx.ag38 (.u rfl) (fun _=>RdN.part (n:=5) (cs':=[V h.kind,V h.level,uv .u64 h.gen,uv .u64 h.epoch,uv .u64 h.num]) (.there (.there (.there (.there (.there .here))))) (of_r rfl)) (fun _=>rfl) ?_)
  refine mv rfl .no (.u rfl) (lr rfl .no Fx.sn43 (.u rfl) (.there (.there .here)) ?_)
  refine ci rfl .no rfl Fx.cv3_24 (.u rfl) ?_
  refine mv rfl .no (.u rfl) (mv rfl .no (.u rfl) (ih rfl .no Fx.se41 (.u rfl) (.u rfl) (fun _=>by omega) (fun _=>by omega) (fun _=>hasl.nn (k:=k) (by first|omega|(simp only [Bool.and_eq_true,decide_eq_true_eq] at hc; omega)|(simp only [List.length_cons,List.length_nil]; omega))) ?_))
  refine fa rfl .no Fx.fo71_0 (.u rfl) (ld rfl .no Fx.ag24 (.u rfl) (fun _=>((hasl.at (by omega) eA).hd).rd) ?_)
  refine lA rfl .no Fx.ag27 (.u rfl) (fun _=>RdN.own (.there (.there (.there .here)))) (fun _=>(by first|exact qE|exact qL|rfl)) ?_
  refine mv rfl .no (.u rfl) (mv rfl .no (.u rfl) (ih rfl .no Fx.se41 (.u rfl) (.u rfl) (fun _=>by omega) (fun _=>by omega) (fun _=>hasl.nn (k:=k) (by first|omega|(simp only [Bool.and_eq_true,decide_eq_true_eq] at hc; omega)|(simp only [List.length_cons,List.length_nil]; omega))) ?_))
  refine fa rfl .no Fx.fo71_1 (.u rfl) (lA rfl .no Fx.ag32 (.u rfl) (fun _=>((hasl.at (by omega) eA).tl).rd) (fun _=>(by first|exact qE|exact qL|rfl)) ?_)
  refine kc rfl Fx.go16 (Evc rfl (Evc rfl (Evc rfl (Evc rfl (Evc rfl (Evc rfl Evn)))))) (mLay_ok root h (BitVec.ofInt 64 (es.length:Int)) a.mark S hS a.e a.ha a.he _ hSR2 hAc.1 hK) ?_
  rintro _ G66 μ66 hG66 ⟨v66,L66,X66,hX66,r66,hL66,rfl,rfl,hRr66⟩
  have hasl:=hasl.mono hG66
  have hSR2:=hSR2.mono hG66
  have hSs2:=hSs2.mono hG66
  refine mv rfl .no (.u rfl) (ex rfl .no (.u rfl) rfl (ex rfl .no (.u rfl) rfl (ex rfl .no (.u rfl) rfl ?_)))
  refine al rfl Fx.zq27 ?_; intro b16
  refine asg rfl .no (.u rfl) (sw rfl (.u rfl) (.u rfl) rfl Fx.sz27 .here (by first|exact qE|exact qL|rfl) (State.one') ?_)
  refine asg rfl .no (.u rfl) (.nil (.code (.seq (.seq (Wk.rg [0,1] rfl rfl (mv rfl .no (.u rfl) (cp rfl .no (.u rfl) (.u rfl) rfl (.nil (.code (.cond rfl (fun c3=>?_) (fun c3=>?_)))))))))))
  ·have c3k:=c3
   try simp only [qcA,qcC,qcB] at c3
   refine .exit (.xcode (.xblk (.code (Wk.rg [0,1] rfl rfl (arn (((k+1):Nat):Int) rfl .no (.u rfl) (.u rfl) rfl (fun _=>by omega) (fun _=>wrap_i64 (by omega) (by omega)) ?_)))))
   refine mv rfl .no (.u rfl) (.nil (We.lpo (k+1,vb,B,ve,es,vs,Ss,vm,ms,R,S,hS,last) ?_ ?_ ?_ ?_ ?_))
   ·exact (ESub.c rfl (ESub.c rfl (ESub.c rfl (ESub.c rfl (ESub.c rfl (ESub.cons rfl (by first|rfl|exact evi (by omega)) (ESub.c rfl (ESub.c rfl (ESub.c rfl (ESub.c rfl ESub.nil))))))))))
   ·exact (MSub.cons (.there (.there .here)) rfl (MSub.cons (.there (.there .here)) rfl (MSub.cons (.there (.there .here)) rfl (MSub.cons (.there (.there .here)) rfl (MSub.cons (.there (.there .here)) rfl (MSub.cons (.there (.there .here)) rfl MSub.nil))))))
   ·first|omega|(dsimp only; omega)
   ·exact (hGl0).trans hG66
   refine ⟨?_,?_,?_,?_,?_,?_,?_,?_,?_⟩
   ·(try dsimp only)<;>(first|omega|rfl|assumption|(simp; done))
   ·(try dsimp only)<;>(exact hL)
   ·(try dsimp only)<;>(exact eB)
   ·(try dsimp only)<;>(exact eE)
   ·(try dsimp only)<;>(omega)
   ·(try dsimp only)<;>(exact hRtw)
   ·(try dsimp only)<;>(exact lB)
   ·(try dsimp only)<;>(exact hSR2)
   (try dsimp only)<;>(exact hSs2)
  have c3k:=c3
  try simp only [qcA,qcC,qcB] at c3
  obtain rfl:r66=0:=c3
  have hgd:=hL66.good
  rw [lE] at hgd
  have hlg2:=log_snoc hgd.2
  refine .skip (.code (.seq ?_))
  refine wk_fb (.there .here) (by first|(intro b hb; cases hb; done) | simp [keys,Res.keys]) ?_; intro GfR66 hR66 hleR66 evR66 hsR66; subst evR66
  have hasl:=hasl.mono hleR66
  have hSs2:=hSs2.mono hleR66
  have hRr66:=hRr66.mono hleR66
  refine Wk.rg [0,1,2,3] rfl rfl (mv rfl .no (.u rfl) (mv rfl .no (.u rfl) (apY rfl Fx.se42 Fx.zv5 (.u rfl) (.u rfl) (.there (.there (.there (.there (.there .here))))) hsR66.sc (by (try simp only [qlA,yl_len]); omega) ?_)))
  intro v74 L74 ov74 eL74
  have lL74:L74.length=B.length+L66.length:=by rw [eL74,List.length_append]
  refine asg rfl .no (.u rfl) (.nil (.code (.seq (Wk.rg [0,1] rfl rfl (lA rfl .no Fx.ag27 (.u rfl) (fun _=>RdN.own (.there .here)) (fun _=>(by first|exact qE|exact qL|rfl)) ?_)))))
  refine sw rfl (.u rfl) (.u rfl) rfl Fx.sz27 (.there (.there (.there (.there (.there .here))))) (by first|exact qE|exact qL|rfl) (State.one') ?_
  refine .nil (.code (.seq (Wk.rg [0,1,2,3,4,5] rfl rfl (mv rfl .no (.u rfl) (mv rfl .no (.u rfl) (ih rfl .no Fx.se41 (.u rfl) (.u rfl) (fun _=>by omega) (fun _=>by omega) (fun _=>hasl.nn (k:=k) (by first|omega|(simp only [Bool.and_eq_true,decide_eq_true_eq] at hc; omega)|(simp only [List.length_cons,List.length_nil]; omega))) ?_))))))
  refine fa rfl .no Fx.fo71_0 (.u rfl) (ld rfl .no Fx.ag24 (.u rfl) (fun _=>((hasl.at (by omega) eA).hd).rd) ?_)
  refine asg rfl .no (.u rfl) (.nil (.code (.seq (Wk.rg [0,1,2,3,4,5] rfl rfl (mv rfl .no (.u rfl) (mv rfl .no (.u rfl) (lr rfl .no Fx.sn42 (.u rfl) (.there .here) ?_)))))))
  refine Go.Tan.b1 rfl Fx.se43 Fx.zv3 (.u rfl) rfl rfl (by decide) ?_; intro b84
  refine apS (xs:=es) (L74.length) rfl Fx.se43 Fx.zv3 rfl (.u rfl) (.u rfl) (.there (.there (.there (.there (.there (.there .here)))))) .here (rfl) (one1 rfl) (by omega) (by unfold maxLen; omega) ?_; intro v85 ov85
  refine asg rfl .no (.u rfl) (.nil (.code (.seq (Wk.rg [0,1,2,3,4] rfl rfl (mv rfl .no (.u rfl) (lA rfl .no Fx.ag27 (.u rfl) (fun _=>RdN.own (.there (.there (.there (.there .here))))) (fun _=>(by first|exact qE|exact qL|rfl)) ?_))))))
  refine Go.Tan.b1 rfl Fx.se44 Fx.zw27 (.u rfl) rfl rfl (by decide) ?_; intro b88
  refine apS (xs:=Ss) ((X66,hX66)) rfl Fx.se44 Fx.zw27 rfl (.u rfl) (.u rfl) (.there (.there (.there (.there (.there (.there (.there .here))))))) .here ((by first|exact qE|exact qL|rfl)) (State.one') (by omega) (by unfold maxLen; omega) ?_; intro v89 ov89
  refine asg rfl .no (.u rfl) (.nil (.code (Wk.rg [0,1,2,3,4] rfl rfl (mv rfl .no (.u rfl) (mv rfl .no (.u rfl) ?_)))))
  refine Go.Tan.b1 rfl Fx.se45 Fx.zv24 (.u rfl) rfl rfl (by decide) ?_; intro b92
  refine apS (xs:=ms) (a.mark) rfl Fx.se45 Fx.zv24 rfl (.u rfl) (.u rfl) (.there (.there (.there (.there (.there (.there (.there (.there .here)))))))) .here (rfl) (one1 rfl) (by omega) (by unfold maxLen; omega) ?_; intro v93 ov93
  refine asg rfl .no (.u rfl) (.nil (.blk (.code (Wk.rg [0,1] rfl rfl (arn (((k+1):Nat):Int) rfl .no (.u rfl) (.u rfl) rfl (fun _=>by omega) (fun _=>wrap_i64 (by omega) (by omega)) ?_)))))
  refine mv rfl .no (.u rfl) (.nil (We.lpo (k+1,v74,L74,v85,es++[L74.length],v89,Ss++[(X66,hX66)],v93,ms++[a.mark],R++[recP a.mark X66 a.e],X66,hX66,a.mark) ?_ ?_ ?_ ?_ ?_))
  ·exact (ESub.c rfl (ESub.c rfl (ESub.c rfl (ESub.c rfl (ESub.c rfl (ESub.cons rfl (by first|rfl|exact evi (by omega)) (ESub.c rfl (ESub.c rfl (ESub.c rfl (ESub.c rfl ESub.nil))))))))))
  ·exact (MSub.cons .here rfl (MSub.cons (.there .here) rfl (MSub.cons (.there (.there .here)) rfl (MSub.cons (.there (.there (.there .here))) rfl (MSub.cons (.there (.there (.there .here))) rfl (MSub.cons (.there (.there (.there (.there .here)))) rfl MSub.nil))))))
  ·first|omega|(dsimp only; omega)
  ·exact ((hGl0).trans hG66).trans hleR66
  refine ⟨?_,?_,?_,?_,?_,?_,?_,?_,?_⟩
  ·(try dsimp only)<;>(first|omega|rfl|assumption|(simp; done))
  ·(try dsimp only)<;>(rw [List.map_append]; exact hL.snoc hgd.1 hAc.1.wf hAc.2 hmk)
  ·(try dsimp only)<;>(rw [eL74,eB]; exact hlg2.1.symm)
  ·(try dsimp only)<;>(rw [ends_snoc,←eE,hlg2.1,←eB,←eL74])
  ·(try dsimp only)<;>(rw [List.length_append,List.length_cons,List.length_nil]; omega)
  ·(try dsimp only)<;>(rw [List.length_append,List.length_cons,List.length_nil]; omega)
  ·(try dsimp only)<;>(rw [List.length_append,List.length_cons,List.length_nil]; omega)
  ·(try dsimp only)<;>(exact hRr66)
  (try dsimp only)<;>(exact hSs2.snoc hRr66 (hL66.good.1.gens hAc.1.wf))
 have c1k:=c1
 try simp only [qcA,qcC,qcB] at c1
 refine .exit (.xcode (.xlp (.xblk (.code (.seq (Wk.rg [0,1,2,3,4,5,6,7] rfl rfl (mv rfl .no (.u rfl) (mv rfl .no (.u rfl) (mv rfl .no (.u rfl) (mv rfl .no (.u rfl) (asg rfl .no (.u rfl) (asg rfl .no (.u rfl) (asg rfl .no (.u rfl) (asg rfl .no (.u rfl) (.nil (.code (.ret ?_)))))))))))))))))
 refine we_fb (.there (.there (.there (.there .here)))) (by first|(intro b hb; cases hb; done) | simp [keys,Res.keys]) ?_; intro GfR20 hR20 hleR20 evR20 hsR20; subst evR20
 have hSs2:=hSs2.mono hleR20
 refine we_fs (.there (.there .here)) (fun _ _=>rfl) (by intro b hb; cases hb) ?_; intro GfRE hRE hleRE evRE hsRE; subst evRE
 have hSs2:=hSs2.mono hleRE
 have hsR20:=hsR20.mono hleRE
 refine we_fs (.there .here) (fun _ _=>rfl) (by intro b hb; cases hb) ?_; intro GfRS hRS hleRS evRS hsRS; subst evRS
 have hSs2:=hSs2.mono hleRS
 have hsR20:=hsR20.mono hleRS
 have hsRE:=hsRE.mono hleRS
 refine we_fs .here (fun _ _=>rfl) (by intro b hb; cases hb) ?_; intro GfRM hRM hleRM evRM hsRM; subst evRM
 have hSs2:=hSs2.mono hleRM
 have hsR20:=hsR20.mono hleRM
 have hsRE:=hsRE.mono hleRM
 have hsRS:=hsRS.mono hleRM
 refine We.fin0 Tryd.results11 (.tmp rfl (.tmp rfl (.tmp rfl (.tmp rfl .nil)))) ?_
 exact ⟨R,Ss,ms,B,es,_,_,_,_,S,last,hL,eB,eE,by omega,hRtw,hSs2,hsR20,hsRE,hsRS,hsRM,rfl,rfl⟩
set_option maxRecDepth 100000
namespace FxManOa
theorem co67:Tryd.prog.cellsOf 67=40:=by kernel_rfl
theorem co5:Tryd.prog.cellsOf 5=1:=by kernel_rfl
theorem co24:Tryd.prog.cellsOf 24=1:=by kernel_rfl
theorem co3:Tryd.prog.cellsOf 3=1:=by kernel_rfl
theorem co9:Tryd.prog.cellsOf 9=1:=by kernel_rfl
theorem co34:Tryd.prog.cellsOf 34=32:=by kernel_rfl
theorem co94:Tryd.prog.cellsOf 94=2:=by kernel_rfl
theorem co25:Tryd.prog.cellsOf 25=5:=by kernel_rfl
theorem co22:Tryd.prog.cellsOf 22=1:=by kernel_rfl
theorem co32:Tryd.prog.cellsOf 32=11:=by kernel_rfl
theorem co30:Tryd.prog.cellsOf 30=1:=by kernel_rfl
end FxManOa
namespace Fx
theorem by67:Tryd.prog.bytesOf 67=112:=by kernel_rfl
theorem by94:Tryd.prog.bytesOf 94=16:=by kernel_rfl
theorem co125:Tryd.prog.cellsOf 125=1:=by kernel_rfl
theorem co163:Tryd.prog.cellsOf 163=64:=by kernel_rfl
end Fx
section
variable {H:Type} {R:Nat} {enc:TypeId×Value→H} {W:World} {cs:List Value}
def mQ (R:Nat) (m:Meta):Prop:=m.wf∧m.min.size≤R∧m.max.size≤R
theorem meta_of (hR:R≤140737488351232) (h:Rg R enc Tryd.prog W 67 cs):∃ m:Meta,cs=m.cells∧mQ R m:=by
 have hl:=h.len Tryd.underlying67
 rw [FxManOa.co67] at hl
 obtain ⟨n0,h0,w0⟩:=h.intAt Tryd.underlying67 0 5 0 rfl Tryd.underlying5 FxManOa.co5
 obtain ⟨n1,h1,w1⟩:=h.intAt Tryd.underlying67 1 24 1 rfl Tryd.underlying24 FxManOa.co24
 obtain ⟨n2,h2,w2⟩:=h.intAt Tryd.underlying67 2 24 2 rfl Tryd.underlying24 FxManOa.co24
 obtain ⟨n3,h3,w3⟩:=h.intAt Tryd.underlying67 3 24 3 rfl Tryd.underlying24 FxManOa.co24
 obtain ⟨n4,h4,w4⟩:=h.intAt Tryd.underlying67 4 3 4 rfl Tryd.underlying3 FxManOa.co3
 obtain ⟨n5,h5,w5⟩:=h.intAt Tryd.underlying67 5 3 5 rfl Tryd.underlying3 FxManOa.co3
 obtain ⟨s6,h6,w6⟩:=h.strAt Tryd.underlying67 6 9 6 rfl Tryd.underlying9 FxManOa.co9
 obtain ⟨s7,h7,w7⟩:=h.strAt Tryd.underlying67 7 9 7 rfl Tryd.underlying9 FxManOa.co9
 obtain ⟨r,hr⟩:=(h.fld Tryd.underlying67 8 34 8 rfl FxManOa.co34).ints Tryd.underlying34 Tryd.underlying5 FxManOa.co5
 rw [show IntKind.u8.min=0 by decide,show IntKind.u8.max=255 by decide] at w0
 rw [show IntKind.u64.min=0 by decide,show IntKind.u64.max=18446744073709551615 by decide] at w1
 rw [show IntKind.u64.min=0 by decide,show IntKind.u64.max=18446744073709551615 by decide] at w2
 rw [show IntKind.u64.min=0 by decide,show IntKind.u64.max=18446744073709551615 by decide] at w3
 rw [show IntKind.i64.min = -9223372036854775808 by decide,show IntKind.i64.max=9223372036854775807 by decide] at w4
 rw [show IntKind.i64.min = -9223372036854775808 by decide,show IntKind.i64.max=9223372036854775807 by decide] at w5
 refine ⟨⟨n0,n1,n2,n3,n4,n5,s6,s7,r⟩,list_eq hl fun i hi=>?_,⟨⟨w0.1,by show n0<_; omega⟩,⟨w3.1,by show n3<_; omega⟩,w4,Nat.le_trans w6 (by omega),Nat.le_trans w7 (by omega),w1,w2,w5,fun j hj=>?_⟩,w6,w7⟩
 ·match i,hi with
  | 0,_=>exact h0
  | 1,_=>exact h1
  | 2,_=>exact h2
  | 3,_=>exact h3
  | 4,_=>exact h4
  | 5,_=>exact h5
  | 6,_=>exact h6
  | 7,_=>exact h7
  | n+8,hi =>
   have hn:n<32:=by have:n+8<40:=hi; omega
   rw [show n+8=8+n by omega,take_at (hr n hn).1]
   rw [Meta.cells,List.getElem?_append_right (by simp)]
   simp [hn]
 have w8:=(hr j hj).2; rw [show IntKind.u8.min=0 by decide,show IntKind.u8.max=255 by decide] at w8; exact w8
theorem gone_of (h:Rg R enc Tryd.prog W 94 cs):∃ g:Gone,cs=g.cells∧g.wf:=by
 have hl:=h.len Tryd.underlying94
 rw [FxManOa.co94] at hl
 obtain ⟨n0,h0,w0⟩:=h.intAt Tryd.underlying94 0 5 0 rfl Tryd.underlying5 FxManOa.co5
 obtain ⟨n1,h1,w1⟩:=h.intAt Tryd.underlying94 1 24 1 rfl Tryd.underlying24 FxManOa.co24
 rw [show IntKind.u8.min=0 by decide,show IntKind.u8.max=255 by decide] at w0
 rw [show IntKind.u64.min=0 by decide,show IntKind.u64.max=18446744073709551615 by decide] at w1
 refine ⟨⟨n0,n1⟩,list_eq hl fun i hi=>?_,⟨w0.1,by show n0<_; omega⟩,⟨w1.1,by show n1<_; omega⟩⟩
 match i,hi with
 | 0,_=>exact h0
 | 1,_=>exact h1
 | n+2,hi=>exact absurd hi (by show ¬ n+2<2; omega)
theorem edit_of (hR:R≤140737488351232) (h:Rg R enc Tryd.prog W 32 cs):∃ (e:Edit) (ha hd:Sh),cs=e.cells ha hd∧EdR (fun b=>W.heap[b]?) e ha hd∧e.add.length*112≤R∧e.drop.length*16≤R∧∀ m∈e.add,mQ R m:=by
 have hl:=h.len Tryd.underlying32
 rw [FxManOa.co32] at hl
 obtain ⟨n0,h0,w0⟩:=h.intAt Tryd.underlying32 0 24 0 rfl Tryd.underlying24 FxManOa.co24
 obtain ⟨n1,h1,w1⟩:=h.intAt Tryd.underlying32 1 24 1 rfl Tryd.underlying24 FxManOa.co24
 obtain ⟨n2,h2,w2⟩:=h.intAt Tryd.underlying32 2 24 2 rfl Tryd.underlying24 FxManOa.co24
 obtain ⟨n3,h3,w3⟩:=h.intAt Tryd.underlying32 3 24 3 rfl Tryd.underlying24 FxManOa.co24
 obtain ⟨r,hr⟩:=(h.fld Tryd.underlying32 4 25 4 rfl FxManOa.co25).ints Tryd.underlying25 Tryd.underlying24 FxManOa.co24
 rw [show IntKind.u64.min=0 by decide,show IntKind.u64.max=18446744073709551615 by decide] at w0
 rw [show IntKind.u64.min=0 by decide,show IntKind.u64.max=18446744073709551615 by decide] at w1
 rw [show IntKind.u64.min=0 by decide,show IntKind.u64.max=18446744073709551615 by decide] at w2
 rw [show IntKind.u64.min=0 by decide,show IntKind.u64.max=18446744073709551615 by decide] at w3
 obtain ⟨ha,la,ea,hsa,hca,hqa⟩:=(h.fld Tryd.underlying32 5 22 9 rfl FxManOa.co22).sl Meta.cells (mQ R) Tryd.underlying22 FxManOa.co67 (by decide) Fx.by67 (fun cs' h'=>meta_of hR h')
 obtain ⟨hd,ld,ed,hsd,hcd,hqd⟩:=(h.fld Tryd.underlying32 6 30 10 rfl FxManOa.co30).sl Gone.cells Gone.wf Tryd.underlying30 FxManOa.co94 (by decide) Fx.by94 (fun cs' h'=>gone_of h')
 refine ⟨⟨n0,n1,n2,n3,r,la,ld⟩,ha,hd,list_eq hl fun i hi=>?_,⟨hsa,hsd,⟨w0.1,by show n0<_; omega⟩,⟨w1.1,by show n1<_; omega⟩,⟨w2.1,by show n2<_; omega⟩,⟨w3.1,by show n3<_; omega⟩,fun j hj=>?_,fun m hm=>(hqa m hm).1,hqd⟩,Nat.le_trans (Nat.mul_le_mul_right _ hsa.le) hca,Nat.le_trans (Nat.mul_le_mul_right _ hsd.le) hcd,hqa⟩
 rotate_left
 ·have w8:=(hr j hj).2; rw [show IntKind.u64.min=0 by decide,show IntKind.u64.max=18446744073709551615 by decide] at w8; exact ⟨w8.1,by show r j<_; omega⟩
 match i,hi with
 | 0,_=>exact h0
 | 1,_=>exact h1
 | 2,_=>exact h2
 | 3,_=>exact h3
 | 4,_=>exact take_at (hr 0 (by decide)).1
 | 5,_=>exact take_at (hr 1 (by decide)).1
 | 6,_=>exact take_at (hr 2 (by decide)).1
 | 7,_=>exact take_at (hr 3 (by decide)).1
 | 8,_=>exact take_at (hr 4 (by decide)).1
 | 9,_=>exact take1 ea
 | 10,_=>exact take1 ed
 | n+11,hi=>exact absurd hi (by show ¬ n+11<11; omega)
theorem arr_of {t n e:Nat} {base:Nat} {v:Value} (ht:Tryd.prog.underlying t=some (.array n e)) (h:Value.okWide Tryd.prog W .any base t v) {l:List Value} (hl:v.cells.toList=l):v=.agg l.toArray:=by
 unfold Value.okWide at h
 rw [ht] at h
 obtain ⟨c,rfl,_⟩:=h
 rw [← hl]; rfl
theorem one_of {v u:Value} (h:v.cells.toList=[u]) (hu:u.oneCell'=true) (hn:∀ c,v≠.agg c):v=u:=by
 cases v<;>first|(exact absurd rfl (hn _))|(simp [Value.cells] at h; exact h)
theorem sl_of {t e:TypeId} {base:Nat} {v u:Value} (ht:Tryd.prog.underlying t=some (.slice e)) (h:Value.okWide Tryd.prog W .any base t v) (hl:v.cells.toList=[u]) (hu:u.oneCell'=true):v=u:=by
 refine one_of hl hu fun c hc=>?_
 subst hc
 unfold Value.okWide at h
 rw [ht] at h
 simp [Cell.okWide,ht,Cell.ok] at h
end
theorem tanOwn:ownKnob Tryd.prog.godebug=none:=by kernel_rfl
theorem tanLaid:laidOutB Tryd.prog=true:=by kernel_rfl
theorem gC:Tryd.prog.globalNamed "tantalus/sha.constants" = some 1:=by kernel_rfl
theorem gCT:(Tryd.prog.globals[1]?).map (·.type)=some 163:=by kernel_rfl
def kInts:List Int:=[1116352408,1899447441,3049323471,3921009573,961987163,1508970993,2453635748,2870763221,3624381080,310598401,607225278,1426881987,1925078388,2162078206,2614888103,3248222580,3835390401,4022224774,264347078,604807628,770255983,1249150122,1555081692,1996064986,2554220882,2821834349,2952996808,3210313671,3336571891,3584528711,113926993,338241895,666307205,773529912,1294757372,1396182291,1695183700,1986661051,2177026350,2456956037,2730485921,2820302411,3259730800,3345764771,3516065817,3600352804,4094571909,275423344,430227734,506948616,659060556,883997877,958139571,1322822218,1537002063,1747873779,1955562222,2024104815,2227730452,2361852424,2428436474,2756734187,3204031479,3329325298]
theorem kInts_at:∀ j,j<64→kInts.getD j 0=((kW j).toNat:Int):=by decide
theorem tabC {W:World} {rest:List (String×DataW Unit)} (h:laidMet Tryd.prog (("tantalus/sha.constants",Rows.laid_tantalus_sha_constants) :: rest) W):RdNP (fun b=>W.heap[b]?) 1 0 (wa 64 kW) :=
 tab_rd (Lib.tabIs_of_head (zs:=kInts) (rest:=rest) gC gCT Tryd.underlying163 Tryd.underlying125 Fx.co125 Fx.co163 h) gC rfl kInts_at
def kCells:Array Value:=#[.int .u32 1116352408,.int .u32 1899447441,.int .u32 3049323471,.int .u32 3921009573,.int .u32 961987163,.int .u32 1508970993,.int .u32 2453635748,.int .u32 2870763221,.int .u32 3624381080,.int .u32 310598401,.int .u32 607225278,.int .u32 1426881987,.int .u32 1925078388,.int .u32 2162078206,.int .u32 2614888103,.int .u32 3248222580,.int .u32 3835390401,.int .u32 4022224774,.int .u32 264347078,.int .u32 604807628,.int .u32 770255983,.int .u32 1249150122,.int .u32 1555081692,.int .u32 1996064986,.int .u32 2554220882,.int .u32 2821834349,.int .u32 2952996808,.int .u32 3210313671,.int .u32 3336571891,.int .u32 3584528711,.int .u32 113926993,.int .u32 338241895,.int .u32 666307205,.int .u32 773529912,.int .u32 1294757372,.int .u32 1396182291,.int .u32 1695183700,.int .u32 1986661051,.int .u32 2177026350,.int .u32 2456956037,.int .u32 2730485921,.int .u32 2820302411,.int .u32 3259730800,.int .u32 3345764771,.int .u32 3516065817,.int .u32 3600352804,.int .u32 4094571909,.int .u32 275423344,.int .u32 430227734,.int .u32 506948616,.int .u32 659060556,.int .u32 883997877,.int .u32 958139571,.int .u32 1322822218,.int .u32 1537002063,.int .u32 1747873779,.int .u32 1955562222,.int .u32 2024104815,.int .u32 2227730452,.int .u32 2361852424,.int .u32 2428436474,.int .u32 2756734187,.int .u32 3204031479,.int .u32 3329325298]
def setO:Obj→Obj
 | .cells _ t frozen=>.cells kCells t frozen
 | o=>o
noncomputable def laidWorld (os:Os):World :=
 { World.holding Tryd.prog os ⟨#[], #[],[]⟩ with heap:=((World.holding Tryd.prog os ⟨#[], #[],[]⟩).heap.modify 0 setO).modify 1 setO }
set_option maxRecDepth 100000
namespace Fx
theorem co71:Tryd.prog.cellsOf 71=12:=by kernel_rfl
theorem by71:Tryd.prog.bytesOf 71=128:=by kernel_rfl
end Fx
section
variable {H:Type} {M:Nat}
end
section
variable {H:Type} {R:Nat} {enc:TypeId×Value→H} {W:World} {cs:List Value}
theorem int_is {t:TypeId} {k:IntKind} {base:Nat} {v u:Value} (ht:Tryd.prog.underlying t=some (.int k)) (h:Value.okWide Tryd.prog W .any base t v) (hl:v.cells.toList=[u]) (hu:u.oneCell'=true):v=u:=by
 refine one_of hl hu fun c hc=>?_
 subst hc
 unfold Value.okWide at h
 rw [ht] at h
 simp [Cell.okWide,ht,Cell.ok] at h
theorem canon_edit (e:Edit) (ha he:Sh):e.canon.cells ha he=e.cells ha he∧e.canon.canon=e.canon:=by
 constructor
 ·have e1:((List.range 5).map fun i=>Value.int .u64 (e.canon.gens i))=(List.range 5).map fun i=>Value.int .u64 (e.gens i):=List.map_congr_left fun i hi=>by show Value.int .u64 (if i<5 then e.gens i else 0)=_; rw [if_pos (List.mem_range.1 hi)]
  have e2:e.canon.add.length=e.add.length:=by show (e.add.map Meta.canon).length=_; rw [List.length_map]
  unfold Edit.cells; rw [e1,e2]; rfl
 unfold Edit.canon
 simp only [List.map_map]
 congr 1
 ·funext i; by_cases h:i<5<;>simp [h]
 refine List.map_congr_left fun m _=>?_
 show Meta.canon (Meta.canon m)=Meta.canon m
 unfold Meta.canon
 congr 1
 funext i; by_cases h:i<32<;>simp [h]
theorem canon_r {G:PM} {e:Edit} {ha he:Sh} (h:EdR G e ha he):EdR G e.canon ha he:=by
 have hm:∀ (l:List Meta),SlR G 40 Meta.cells ha l→SlR G 40 Meta.cells ha (l.map Meta.canon):=fun l hs=>by
  refine ⟨fun hne=>hs.there (fun e=>hne (by rw [e]; rfl)),by rw [List.length_map]; exact hs.le,fun i x hx=>?_⟩
  rw [List.getElem?_map] at hx
  cases hy:l[i]? with
  | none=>rw [hy] at hx; cases hx
  | some y=>rw [hy] at hx; obtain rfl:=Option.some.inj hx; rw [canon_cells]; exact hs.rd i y hy
 refine ⟨hm _ h.add,h.drop,h.wf.log,h.wf.next,h.wf.seq,h.wf.least,fun i hi=>?_,fun m hmm=>?_,h.wf.drop⟩
 ·show u64 (if i<5 then e.gens i else 0); rw [if_pos hi]; exact h.wf.gens i hi
 obtain ⟨y,hy,rfl⟩:=List.mem_map.1 hmm
 have w:=h.wf.add y hy
 exact ⟨w.level,w.number,w.size,w.minL,w.maxL,w.gen,w.epoch,w.count,fun j hj=>by show 0≤(if j<32 then y.root j else 0)∧_; rw [show (Meta.canon y).root j=y.root j from if_pos hj,if_pos hj]; exact w.root j hj⟩
theorem act_of (hR:R≤140737488351232) (h:Rg R enc Tryd.prog W 71 cs):∃ a:MAct,cs=a.cells∧EdR (fun b=>W.heap[b]?) a.e a.ha a.he∧a.e.canon=a.e:=by
 have hl:=h.len Tryd.underlying71
 rw [Fx.co71] at hl
 obtain ⟨mk,hmk⟩:=(h.fld Tryd.underlying71 0 24 0 rfl FxManOa.co24).uw rfl Tryd.underlying24
 obtain ⟨e,ha,he,h1,h2,_⟩:=edit_of hR (h.fld Tryd.underlying71 1 32 1 rfl FxManOa.co32)
 obtain ⟨c1,c2⟩:=canon_edit e ha he
 refine ⟨⟨mk,e.canon,ha,he⟩,?_,canon_r h2,c2⟩
 rw [split2 (cs:=cs) (a:=1) (b:=11) hl,hmk,h1,←c1]; rfl
theorem acts_of (hR:R≤140737488351232) (h:Rg R enc Tryd.prog W 41 cs):∃ (hd:Sh) (l:List MAct),cs=[hd.val l.length]∧ActR (fun b=>W.heap[b]?) hd l∧l.length≤100000000000000:=by
 obtain ⟨hd,l,h1,h2,h3,h4⟩:=h.sl MAct.cells (fun a=>EdR (fun b=>W.heap[b]?) a.e a.ha a.he∧a.e.canon=a.e) Tryd.underlying41 Fx.co71 (by decide) Fx.by71 (fun cs' h'=>act_of hR h')
 have:=h2.le
 exact ⟨hd,l,h1,⟨h2,h4⟩,by omega⟩
end
end Go.Proofs.YtdeobooblmjlfaaDoor
namespace Go.Tan
open Go.RowKit
theorem Laid.last {R:List (List Y)} {S:List State} {M:List (BitVec 64)} {s x:State} {last mk:BitVec 64} {n:Nat} (h:Laid R S M s last) (hn:R.length=n+1) (hm:M[n]? = some mk) (hx:S[n]? = some x):mk=last∧EqS s x:=by
 obtain ⟨Z,h1,h2,h3⟩:=h.at' n (by omega)
 obtain ⟨W,h4,h5⟩:=h.all
 rw [List.take_of_length_le (by omega),h5] at h2
 simp only [Option.some.injEq,Mn.mk.injEq] at h2
 obtain ⟨rfl,h6,_⟩:=h2
 rw [List.getD_eq_getElem?_getD,hm,Option.getD_some] at h6
 rw [List.getD_eq_getElem?_getD,hx,Option.getD_some] at h1
 exact ⟨h6.symm,h4.trans h1.symm⟩
theorem Laid.zero {R:List (List Y)} {S:List State} {M:List (BitVec 64)} {s:State} {last:BitVec 64} (h:Laid R S M s last) (hn:R.length=0):last=0#64:=by
 obtain rfl:R=[]:=List.eq_nil_of_length_eq_zero hn
 obtain ⟨W,h4,h5⟩:=h.all
 cases h5; rfl
theorem Laid.cut {R:List (List Y)} {S:List State} {M:List (BitVec 64)} {s:State} {last:BitVec 64} (h:Laid R S M s last) {n:Nat} (hn:n<R.length):∃ Z mk x,stepsM (R.take (n+1)) Mn.zero=some ⟨Z,mk,n+1⟩∧M[n]? = some mk∧S[n]? = some x∧EqS x Z:=by
 obtain ⟨Z,h1,h2,h3⟩:=h.at' n hn
 have hM:n<M.length:=by rw [h.len.2]; exact hn
 have hS:n<S.length:=by rw [h.len.1]; exact hn
 refine ⟨Z,M.getD n 0#64,S.getD n State.zero,h2,by simp [hM],by simp [hS],h1⟩
theorem readM_cut {root:Nat→Y} {h:Hd} {R:List (List Y)} {S:List State} {M:List (BitVec 64)} {s:State} {last:BitVec 64} (hL:Laid R S M s last) (hk:h.kind=3#8) (hr:h.right=true) {q n:Nat} (hq:q≤(logL root h R).length) (hn:n≤R.length)
  (h1:n=0∨30+endL (sealAt root h) 0 R n≤q) (h2:n<R.length→q<30+endL (sealAt root h) 0 R (n+1)):∃ v,readM root ((logL root h R).take q)=some v∧v.m.n=n∧(n=0→v.m.mark=0#64∧v.m.st=State.zero) ∧
   ∀ j,n=j+1→M[j]? = some v.m.mark∧(∃ x,S[j]? = some x∧EqS x v.m.st)∧v.used=30+endL (sealAt root h) 0 R n∧v.torn=decide (30+endL (sealAt root h) 0 R n<q):=by
 have hlt:((logL root h R).take q).length=q:=by rw [List.length_take]; omega
 by_cases h30:q<30
 ·obtain rfl:n=0:=by rcases h1 with h1 | h1<;>omega
  have e:readP root ((logL root h R).take q)=(⟨Hd.zero,[],0,true⟩,0):=read_short (by omega)
  refine ⟨⟨Hd.zero,Mn.zero,0,true⟩,?_,rfl,fun _=>⟨rfl,rfl⟩,fun j hj=>by omega⟩
  have:=readM_yes (root:=root) (xs:=(logL root h R).take q) (m:=Mn.zero) (by rw [e]; rintro (w | w); (exact w rfl); (exact absurd w.1 (by omega))) (by rw [e]; rfl)
  rw [e] at this; exact this
 obtain ⟨n2,g1,g2,g3,e⟩:=log_cut (root:=root) (h:=h) R (k:=q) hr (by omega) hq
 obtain rfl:n=n2:=cut_same h1 (fun j a b=>by
  have h3:=h2 (by omega)
  have h4:=end_mono (sealAt root h) 0 R (show n+1≤j+1 by omega)
  omega) hn g1 g2 g3
 have key:∀ m,stepsM (R.take n) Mn.zero=some m→readM root ((logL root h R).take q)=some ⟨h,m,30+endL (sealAt root h) 0 R n,decide (30+endL (sealAt root h) 0 R n<q)⟩:=fun m hm=>by
  have:=readM_yes (root:=root) (xs:=(logL root h R).take q) (m:=m) (by rw [e]; rintro (w | w); (exact w rfl); (exact w.2 hk)) (by rw [e]; exact hm)
  rw [e] at this; exact this
 by_cases h0:n=0
 ·subst h0
  exact ⟨_,key Mn.zero rfl,rfl,fun _=>⟨rfl,rfl⟩,fun j hj=>by omega⟩
 obtain ⟨j,rfl⟩ : ∃ j,n=j+1:=⟨n-1,by omega⟩
 obtain ⟨Z,mk,x,k1,k2,k3,k4⟩:=hL.cut (n:=j) (by omega)
 refine ⟨_,key _ k1,rfl,fun h=>absurd h h0,fun i hi=>?_⟩
 obtain rfl:j=i:=by omega
 exact ⟨k2,⟨x,k3,k4⟩,rfl,rfl⟩
section
variable {P:Program} {G:PM} {μ:Mem}
end
structure Bare (s:State) (k:Int):Prop where
 right:rightS s=true
 lv:∀ i,i<5→s.lv i=[]
 log:s.log=0
 next:s.next=k
 seq:s.seq=0
 least:s.least=0
 gens:∀ i,i<5→s.gens i=0
theorem Bare.zero:Bare State.zero 0:=⟨right_zero,fun _ _=>rfl,rfl,rfl,rfl,rfl,fun _ _=>rfl⟩
theorem Bare.cg {s s':State} {k:Int} (h:EqS s s') (b:Bare s' k):Bare s k:=⟨h.right.trans b.right,fun i hi=>(h.lv i hi).trans (b.lv i hi),h.log.trans b.log,h.next.trans b.next,h.seq.trans b.seq,h.least.trans b.least,fun i hi=>by rw [h.gens]; exact b.gens i hi⟩
theorem SlR.nD {G:PM} {s:Sh} {xs:List Nat} (h:SlR G 1 encN s xs) {j:Int} (k:Nat) (hj:j.toNat=k) (hk:k<xs.length):RdP G ⟨s.b,s.o+j.toNat*1,none⟩ (.int .i64 ((xs.getD k 0:Nat):Int)) :=
 h.n1 k hj (by simp [hk])
end Go.Tan
namespace Go.Proofs.YtdeobooblmjlfaaDoor
open Go.Tan Go.RowKit
namespace Fx
theorem go26:goFn Tryd.prog 26=true:=by kernel_rfl
theorem eqt25:eqT Tryd.prog 4 25 (gensKs)=true:=by kernel_rfl
end Fx
theorem sameS_ok (a b:State) (ha hb:Nat→Sh) (G:PM) (hA:StR G a ha) (hB:StR G b hb) (ga:∀ i,i<5→u64 (a.gens i)) (gb:∀ i,i<5→u64 (b.gens i)) (hl:∀ i,i<5→(a.lv i).length≤100000000000):Ct Tryd.prog 14 ([a.val ha,b.val hb]:List Value).toArray G [] (fun _ μ' u=>μ'=[]∧u=.bool (sameS a b)):=by
 refine Ct.of Tryd.func14 rfl Tryd.ntmps14 rfl fun w0 hs0=>?_
 refine .seq (Wk.rg [0,1,2] rfl rfl ?_)
 refine bx rfl (.u rfl) rfl ?_; intro b2
 refine bx rfl (.u rfl) rfl ?_; intro b3
 refine asg rfl .no (.u rfl) (.nil (.code (.seq (.seq (Wk.rg [0] rfl rfl (asg rfl .no (.u rfl) (.nil (.code (.block ?_)))))))))
 refine Wk.lop (α:=Nat) (fun k=>[(5,true,.int .i64 (k:Int))]) (fun _=>[])
  (fun k Gl=>(k≤5)∧(∀ i,i<k→sameM (a.lv i) (b.lv i)=true)) (fun k=>5-k) 0 [(2,true,_),(3,true,_)] [_,_]
  (ESub.cons rfl (by first|rfl|exact evi (by omega)) (ESub.c rfl (ESub.c rfl ESub.nil)))
  (MSub.cons .here rfl (MSub.cons .here rfl MSub.nil)) ?_ ?_
 ·refine ⟨?_,?_⟩
  ·(try dsimp only)<;>(first|omega|rfl|assumption|(simp; done))
  (try dsimp only)<;>(exact fun i hi=>by omega)
 intro k N0 Gl0 hN0 hGl0 hF0
 try dsimp only at hF0 hN0 ⊢
 obtain ⟨hk,hq⟩:=hF0
 have hA:=hA.mono hGl0
 have hB:=hB.mono hGl0
 refine .seq (.seq (Wk.rg [0,1] rfl rfl (mv rfl .no (.u rfl) (cp rfl .no (.u rfl) (.u rfl) rfl (.nil (.code (.cond rfl (fun c1=>?_) (fun c1=>?_))))))))
 ·have c1k:=c1
  try simp only [qcA,qcB] at c1
  refine .skip (.code (.seq (.block (.seq (Wk.draw (mc:=⟨false,false⟩) [0,1,2,3,4,5,6,7,8,9] FxVeSa.mix (by kernel_rfl) ?_)))))
  refine mv rfl .no (.u rfl) (fz rfl .no Fx.fo27_0 (.u rfl) (iA rfl .no Fx.ar23 (.u rfl) (.u rfl) (fun _=>by omega) (fun _=>by omega) ?_))
  refine ld rfl .no Fx.ag22 (.u rfl) (fun _=>Rd.own (.there .here) (a.cell_lv ha (k:=k) (by omega))) ?_
  refine mv rfl .no (.u rfl) (fz rfl .no Fx.fo27_0 (.u rfl) (iA rfl .no Fx.ar23 (.u rfl) (.u rfl) (fun _=>by omega) (fun _=>by omega) ?_))
  refine ld rfl .no Fx.ag22 (.u rfl) (fun _=>Rd.own .here (b.cell_lv hb (k:=k) (by omega))) ?_
  refine kv rfl .no Fx.go26 (Evc rfl (Evc rfl Evn)) (fun _=>sameMetas_ok (ha k) (hb k) _ _ _ (hA.lv k (by omega)) (hB.lv k (by omega)) (hA.wf k (by omega)) (hB.wf k (by omega)) (hl k (by omega))) ?_
  refine nt rfl .no (.u rfl) (.nil (.code (.cond rfl (fun c2=>?_) (fun c2=>?_))))
  ·have c2k:=c2
   try simp only [qcA,qcB] at c2
   refine .seq (Wk.rg [0] rfl rfl (asg rfl .no (.u rfl) (.nil (.code (.ret (We.fin0 Tryd.results14 (.tmp rfl .nil) ?_))))))
   exact ⟨rfl,congrArg Value.bool (sameS_no (i:=k) (by omega) (by simpa using c2k)).symm⟩
  have c2k:=c2
  try simp only [qcA,qcB] at c2
  refine .skip (.blk (.code (Wk.rg [0,1,2] rfl rfl (mv rfl .no (.u rfl) (arn (((k+1):Nat):Int) rfl .no (.u rfl) (.u rfl) rfl (fun _=>by omega) (fun _=>wrap_i64 (by omega) (by omega)) ?_)))))
  refine asg rfl .no (.u rfl) (.nil (We.lpo (k+1) ?_ ?_ ?_ ?_ ?_))
  ·exact (ESub.cons rfl (by first|rfl|exact evi (by omega)) (ESub.c rfl (ESub.c rfl ESub.nil)))
  ·exact (MSub.cons .here rfl (MSub.cons .here rfl MSub.nil))
  ·first|omega|(dsimp only; omega)
  ·exact hGl0
  refine ⟨?_,?_⟩
  ·(try dsimp only)<;>(first|omega|rfl|assumption|(simp; done))
  (try dsimp only)<;>(exact fun i hi=>by (by_cases e9:i=k; (subst e9; simpa using c2k); exact hq i (by omega)))
 have c1k:=c1
 try simp only [qcA,qcB] at c1
 refine .exit (.xcode (.xlp (.xblk (.code (.seq (Wk.rg [0,1,2,3,4,5,6,7,8,9,10,11,12,13,14,15,16,17,18,19,20,21,22,23,24,25,26] rfl rfl (fz rfl .no Fx.fo27_1 (.u rfl) (ld rfl .no FxVerP.ag24 (.u rfl) (fun _=>Rd.own (.there .here) (by first|exact wap_f rfl|rfl)) ?_))))))))
 refine fz rfl .no Fx.fo27_1 (.u rfl) (ld rfl .no FxVerP.ag24 (.u rfl) (fun _=>Rd.own .here (by first|exact wap_f rfl|rfl)) ?_)
 refine cp rfl .no (.u rfl) (.u rfl) rfl (mv rfl .no (.u rfl) (fz rfl (.t rfl rfl) Fx.fo27_2 (.u rfl) (ld rfl (.t rfl rfl) FxVerP.ag24 (.s rfl) (fun hc=>Rd.own (.there .here) (by first|exact wap_f rfl|rfl)) ?_)))
 refine fz rfl (.t rfl rfl) Fx.fo27_2 (.u rfl) (ld rfl (.t rfl rfl) FxVerP.ag24 (.s rfl) (fun hc=>Rd.own .here (by first|exact wap_f rfl|rfl)) ?_)
 refine cp rfl (.t rfl rfl) (.s rfl) (.s rfl) rfl (pkA rfl .no (.u rfl) (.s rfl) (mv rfl .no (.u rfl) (fz rfl (.t rfl rfl) Fx.fo27_3 (.u rfl) (ld rfl (.t rfl rfl) FxVerP.ag24 (.s rfl) (fun hc=>Rd.own (.there .here) (by first|exact wap_f rfl|rfl)) ?_))))
 refine fz rfl (.t rfl rfl) Fx.fo27_3 (.u rfl) (ld rfl (.t rfl rfl) FxVerP.ag24 (.s rfl) (fun hc=>Rd.own .here (by first|exact wap_f rfl|rfl)) ?_)
 refine cp rfl (.t rfl rfl) (.s rfl) (.s rfl) rfl (pkA rfl .no (.u rfl) (.s rfl) (mv rfl .no (.u rfl) (fz rfl (.t rfl rfl) Fx.fo27_5 (.u rfl) (lA rfl (.t rfl rfl) Fx.ag25 (.s rfl) (fun _=>RdN.part (n:=5) (cs':=(List.range 5).map fun i=>Value.int .u64 (a.gens i)) (.there .here) (rfl)) (fun _=>rfl) (fz rfl (.t rfl rfl) Fx.fo27_5 (.u rfl) (lA rfl (.t rfl rfl) Fx.ag25 (.s rfl) (fun _=>RdN.part (n:=5) (cs':=(List.range 5).map fun i=>Value.int .u64 (b.gens i)) .here (rfl)) (fun _=>rfl) (eqC (eqGenS a b) rfl (.t rfl rfl) Fx.eqt25 (.s rfl) (.s rfl) (fun hc=>gensS_conf ga) (fun hc=>gensS_conf gb) (fun hc=>eqGenS_iff) ?_)))))))
 refine pkA rfl .no (.u rfl) (.s rfl) (asg rfl .no (.u rfl) (.nil (.code (.ret (We.fin0 Tryd.results14 (.tmp rfl .nil) ?_)))))
 exact ⟨rfl,congrArg Value.bool (sameS_yes (fun i hi=>hq i (by omega))).symm⟩
namespace FxMaBk
theorem go7:goFn Tryd.prog 7=true:=by kernel_rfl
end FxMaBk
namespace Fx
theorem ag40:aggN Tryd.prog 40=some (some 37):=by kernel_rfl
theorem go11:goFn Tryd.prog 11=true:=by kernel_rfl
theorem go14:goFn Tryd.prog 14=true:=by kernel_rfl
end Fx
namespace Fx
theorem cv56_3:cvK Tryd.prog 56 3=some .i64:=by kernel_rfl
end Fx
end Go.Proofs.YtdeobooblmjlfaaDoor
