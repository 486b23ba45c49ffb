/- Lemmas and contracts of functions, joined. -/
import Derived.Test.YtoifkgkandfeiaaGreatDoorDb3
import Derived.Shelf.SlIter.Nil
import Derived.Shelf.SlIter.Sorted
import Derived.Shelf.SortM.Plain
import Derived.Shelf.SortM.SortNone
set_option linter.unusedSimpArgs false
set_option linter.unusedVariables false
set_option linter.unusedSectionVars false
namespace Go.Proofs.YtoifkgkandfeiaaGreatDoor
open Go.Tan Go.RowKit
namespace FxVerP
theorem ag5:aggN Tryz.prog 5=some none:=by kernel_rfl
theorem ag23:aggN Tryz.prog 23=some none:=by kernel_rfl
theorem ag3:aggN Tryz.prog 3=some none:=by kernel_rfl
theorem mix:Tryz.prog.follows .mixedOrders=true:=by kernel_rfl
end FxVerP
namespace Fx
theorem fo184_0:fOff Tryz.prog 184 0=some 0:=by kernel_rfl
theorem fo184_3:fOff Tryz.prog 184 3=some 3:=by kernel_rfl
theorem fo184_7:fOff Tryz.prog 184 7=some 7:=by kernel_rfl
theorem ag9:aggN Tryz.prog 9=some none:=by kernel_rfl
theorem fo184_6:fOff Tryz.prog 184 6=some 6:=by kernel_rfl
theorem st9:strT Tryz.prog 9=true:=by kernel_rfl
theorem fo184_5:fOff Tryz.prog 184 5=some 5:=by kernel_rfl
theorem fo184_4:fOff Tryz.prog 184 4=some 4:=by kernel_rfl
theorem fo159_2:fOff Tryz.prog 159 2=some 6:=by kernel_rfl
theorem fo184_1:fOff Tryz.prog 184 1=some 1:=by kernel_rfl
theorem fo159_5:fOff Tryz.prog 159 5=some 9:=by kernel_rfl
theorem ar157:arE Tryz.prog 157=some (5,23,1):=by kernel_rfl
end Fx
theorem stands_ok (a b:Meta) (G:PM) (h0:0≤a.level):Ct Tryz.prog 320 ([a.val,b.val]:List Value).toArray G [] (fun _ μ' u=>μ'=[]∧u=.bool (pairOk a.level a b)):=by
 refine Ct.of Tryz.func320 rfl Tryz.ntmps320 rfl fun w0 hs0=>?_
 refine .seq (rq3 rfl rfl ?_)
 refine bx rfl (.u rfl) rfl ?_; intro b2
 refine bx rfl (.u rfl) rfl ?_; intro b3
 refine aS rfl rfl (.nil (.code (.seq (.seq (rq3 rfl rfl (fz rfl .no Fx.fo184_0 (.u rfl) (ld rfl .no FxVerP.ag5 (.u rfl) (fun _=>Rd.own tk1 rfl) ?_)))))))
 refine cp rfl .no (.u rfl) (.u rfl) rfl (.nil (.code (.cond rfl (fun c1=>?_) (fun c1=>?_))))
 ·have c1k:=c1
  try simp only [qcA] at c1
  refine .seq (rq6 rfl rfl (fz rfl .no Fx.fo184_3 (.u rfl) (ld rfl .no FxVerP.ag23 (.u rfl) (fun _=>Rd.own tk1 rfl) ?_)))
  refine fz rfl .no Fx.fo184_3 (.u rfl) (ld rfl .no FxVerP.ag23 (.u rfl) (fun _=>Rd.own .here rfl) ?_)
  refine cp rfl .no (.u rfl) (.u rfl) rfl (aS rfl rfl (.nil (.code (.ret (We.fin0 Tryz.results320 (.tmp rfl .nil) ?_)))))
  exact ⟨rfl,congrArg Value.bool (by rw [← stands_eq a b h0,if_pos c1k])⟩
 have c1k:=c1
 try simp only [qcA] at c1
 refine .skip (.code (.seq (rq6 rfl rfl (fz rfl .no Fx.fo184_7 (.u rfl) (ld rfl .no Fx.ag9 (.u rfl) (fun _=>Rd.own tk1 rfl) ?_)))))
 refine fz rfl .no Fx.fo184_6 (.u rfl) (ld rfl .no Fx.ag9 (.u rfl) (fun _=>Rd.own .here rfl) ?_)
 refine cs rfl .no (.u rfl) (.u rfl) rfl (aS rfl rfl (.nil (.code (.ret (We.fin0 Tryz.results320 (.tmp rfl .nil) ?_)))))
 exact ⟨rfl,congrArg Value.bool (by rw [← stands_eq a b h0,if_neg (by rw [c1k]; simp)]; rfl)⟩
theorem fits_ok (s:State) (hd:Nat→Sh) (m:Meta) (b:Nat) (G:PM) (hp:RdNP G b 0 (s.cells hd)) (h0:0≤m.level):Ct Tryz.prog 319 ([.pointer (some ⟨b,0,none⟩),m.val]:List Value).toArray G [] (fun _ μ' u=>μ'=[]∧u=.bool (good s m)):=by
 refine Ct.of Tryz.func319 rfl Tryz.ntmps319 rfl fun w0 hs0=>?_
 refine .seq (rq2 rfl rfl ?_)
 refine bx rfl (.u rfl) rfl ?_; intro b3
 refine aS rfl rfl (.nil (.code (.seq (.block (.seq (.seq (rq4 rfl rfl (fz rfl .no Fx.fo184_0 (.u rfl) (ld rfl .no FxVerP.ag5 (.u rfl) (fun _=>Rd.own .here rfl) ?_)))))))))
 refine cp rfl .no (.u rfl) (.u rfl) rfl (aS rfl rfl (.nil (.code (.cond rfl (fun c1=>?_) (fun c1=>?_)))))
 ·have c1k:=c1
  try simp only [qcA] at c1
  refine .skip (.code (Wk.condT rfl c1k ?_))
  refine .seq (rq1 rfl rfl (aS rfl rfl (.nil (.code (.ret (We.fin0 Tryz.results319 (.tmp rfl .nil) ?_))))))
  exact ⟨rfl,by simp [tup,good]; omega⟩
 have c1k:=c1
 try simp only [qcA] at c1
 refine .seq (rq6 rfl rfl (fz rfl .no Fx.fo184_6 (.u rfl) (ld rfl .no Fx.ag9 (.u rfl) (fun _=>Rd.own .here rfl) ?_)))
 refine fz rfl .no Fx.fo184_7 (.u rfl) (ld rfl .no Fx.ag9 (.u rfl) (fun _=>Rd.own .here rfl) ?_)
 refine cs rfl .no (.u rfl) (.u rfl) rfl (aS rfl rfl (.nil (.code (.cond rfl (fun c2=>?_) (fun c2=>?_)))))
 ·have c2k:=c2
  try simp only [qcA] at c2
  refine .skip (.code (Wk.condT rfl c2k ?_))
  refine .seq (rq1 rfl rfl (aS rfl rfl (.nil (.code (.ret (We.fin0 Tryz.results319 (.tmp rfl .nil) ?_))))))
  exact ⟨rfl,by have h:le m.min m.max=false:=(by simpa [le] using c2k); simp [tup,good,h]⟩
 have c2k:=c2
 try simp only [qcA] at c2
 refine .seq (rq9 rfl rfl (fz rfl .no Fx.fo184_6 (.u rfl) (ld rfl .no Fx.ag9 (.u rfl) (fun _=>Rd.own .here rfl) ?_)))
 refine ls rfl .no Fx.st9 (.u rfl) (fz rfl .no Fx.fo184_7 (.u rfl) (ld rfl .no Fx.ag9 (.u rfl) (fun _=>Rd.own .here rfl) ?_))
 refine ls rfl .no Fx.st9 (.u rfl) (mA rfl .no (.u rfl) (.u rfl) ?_)
 refine cp rfl .no (.u rfl) (.u rfl) rfl (aS rfl rfl (.nil (.code (.cond rfl (fun c3=>?_) (fun c3=>?_)))))
 ·have c3k:=c3
  try simp only [qcA] at c3
  refine .skip (.code (Wk.condT rfl c3k ?_))
  refine .seq (rq1 rfl rfl (aS rfl rfl (.nil (.code (.ret (We.fin0 Tryz.results319 (.tmp rfl .nil) ?_))))))
  exact ⟨rfl,by simp [tup,good]; omega⟩
 have c3k:=c3
 try simp only [qcA] at c3
 refine .seq (rq4 rfl rfl (fz rfl .no Fx.fo184_5 (.u rfl) (ld rfl .no FxVerP.ag3 (.u rfl) (fun _=>Rd.own .here rfl) ?_)))
 refine cp rfl .no (.u rfl) (.u rfl) rfl (aS rfl rfl (.nil (.code (.cond rfl (fun c4=>?_) (fun c4=>?_)))))
 ·have c4k:=c4
  try simp only [qcA] at c4
  refine .skip (.code (Wk.condT rfl c4k ?_))
  refine .seq (rq1 rfl rfl (aS rfl rfl (.nil (.code (.ret (We.fin0 Tryz.results319 (.tmp rfl .nil) ?_))))))
  exact ⟨rfl,by simp [tup,good]; omega⟩
 have c4k:=c4
 try simp only [qcA] at c4
 refine rq4 rfl rfl (fz rfl .no Fx.fo184_4 (.u rfl) (ld rfl .no FxVerP.ag3 (.u rfl) (fun _=>Rd.own .here rfl) ?_))
 refine cp rfl .no (.u rfl) (.u rfl) rfl (aS rfl rfl (.nil (.code (.cond rfl (fun c5=>?_) (fun c5=>?_)))))
 ·have c5k:=c5
  try simp only [qcA] at c5
  refine .seq (rq1 rfl rfl (aS rfl rfl (.nil (.code (.ret (We.fin0 Tryz.results319 (.tmp rfl .nil) ?_))))))
  exact ⟨rfl,by simp [tup,good]; omega⟩
 have c5k:=c5
 try simp only [qcA] at c5
 refine .skip (.blk (.code (.seq (Wk.draw (mc:=⟨false,false⟩) [0,1,2,3,4,5,6,7,8,9,10,11,12,13,14,15,16,17,18,19] FxVerP.mix (by kernel_rfl) ?_))))
 refine fz rfl .no Fx.fo184_3 (.u rfl) (ld rfl .no FxVerP.ag23 (.u rfl) (fun _=>Rd.own .here rfl) ?_)
 refine mV rfl rfl (nc rfl .no (.u rfl) (fz rfl .no Fx.fo159_2 (.u rfl) (ld rfl .no FxVerP.ag23 (.u rfl) (fun _=>(hp.z rfl).rd) ?_)))
 refine cp rfl .no (.u rfl) (.u rfl) rfl (mV rfl rfl (fz rfl (.t rfl rfl) Fx.fo184_1 (.u rfl) (ld rfl (.t rfl rfl) FxVerP.ag23 (.s rfl) (fun _=>Rd.own .here rfl) ?_)))
 refine mv rfl (.t rfl rfl) (.u rfl) (fz rfl (.t rfl rfl) Fx.fo184_0 (.u rfl) (ld rfl (.t rfl rfl) FxVerP.ag5 (.s rfl) (fun _=>Rd.own .here rfl) ?_))
 refine nc rfl (.t rfl rfl) (.s rfl) (fz rfl (.t rfl rfl) Fx.fo159_5 (.s rfl) (iA rfl (.t rfl rfl) Fx.ar157 (.s rfl) (.s rfl) (fun hc=>by omega) (fun hc=>by omega) ?_))
 refine ld rfl (.t rfl rfl) FxVerP.ag23 (.s rfl) (fun hc=>(hp.z (s.cell_gen hd (by omega))).rd) ?_
 refine cp rfl (.t rfl rfl) (.s rfl) (.s rfl) rfl (pkA rfl .no (.u rfl) (.s rfl) (aS rfl rfl (.nil (.code (.ret (We.fin0 Tryz.results319 (.tmp rfl .nil) ?_))))))
 exact ⟨rfl,fits_fin c1 c2k c3 c4 c5⟩
namespace Fx
theorem fo179_0:fOff Tryz.prog 179 0=some 0:=by kernel_rfl
theorem fo179_3:fOff Tryz.prog 179 3=some 3:=by kernel_rfl
theorem fo179_1:fOff Tryz.prog 179 1=some 1:=by kernel_rfl
theorem fo179_2:fOff Tryz.prog 179 2=some 2:=by kernel_rfl
theorem se189:slE Tryz.prog 189=some (179,4,48):=by kernel_rfl
theorem sn189:(slE Tryz.prog 189).isSome=true:=by kernel_rfl
theorem ag179:aggN Tryz.prog 179=some (some 4):=by kernel_rfl
theorem go144:goFn Tryz.prog 144=true:=by kernel_rfl
theorem zr179:zrL Tryz.prog 179=some ([.string ByteArray.empty,.int .u64 0,.int .u8 0,.string ByteArray.empty]):=by kernel_rfl
theorem sz179:szT Tryz.prog 179=some 4:=by kernel_rfl
end Fx
theorem eRight_ok (e:Ent) (G:PM):Ct Tryz.prog 144 ([e.val]:List Value).toArray G [] (fun _ μ' u=>μ'=[]∧u=.bool (rightE e)):=by
 refine Ct.of Tryz.func144 rfl Tryz.ntmps144 rfl fun w0 hs0=>?_
 refine .seq (rq2 rfl rfl ?_)
 refine bx rfl (.u rfl) rfl ?_; intro b1
 refine aS rfl rfl (.nil (.code (.seq (.block (.seq (.seq (rq5 rfl rfl (fz rfl .no Fx.fo179_0 (.u rfl) (ld rfl .no Fx.ag9 (.u rfl) (fun _=>Rd.own .here (by first|exact wap_f rfl|rfl)) ?_)))))))))
 refine ls rfl .no Fx.st9 (.u rfl) (cp rfl .no (.u rfl) (.u rfl) rfl (aS rfl rfl (.nil (.code (.cond rfl (fun c1=>?_) (fun c1=>?_))))))
 ·have c1k:=c1
  try simp only [qcA,qcC,qcB] at c1
  refine .skip (.code (Wk.condT rfl c1k ?_))
  refine .seq (rq1 rfl rfl (aS rfl rfl (.nil (.code (.ret (We.fin0 Tryz.results144 (.tmp rfl .nil) ?_))))))
  exact ⟨rfl,congrArg Value.bool (eR1 c1).symm⟩
 have c1k:=c1
 try simp only [qcA,qcC,qcB] at c1
 refine .seq (rq5 rfl rfl (fz rfl .no Fx.fo179_3 (.u rfl) (ld rfl .no Fx.ag9 (.u rfl) (fun _=>Rd.own .here (by first|exact wap_f rfl|rfl)) ?_)))
 refine ls rfl .no Fx.st9 (.u rfl) (cp rfl .no (.u rfl) (.u rfl) rfl (aS rfl rfl (.nil (.code (.cond rfl (fun c2=>?_) (fun c2=>?_))))))
 ·have c2k:=c2
  try simp only [qcA,qcC,qcB] at c2
  refine .skip (.code (Wk.condT rfl c2k ?_))
  refine .seq (rq1 rfl rfl (aS rfl rfl (.nil (.code (.ret (We.fin0 Tryz.results144 (.tmp rfl .nil) ?_))))))
  exact ⟨rfl,congrArg Value.bool (eR2 c2).symm⟩
 have c2k:=c2
 try simp only [qcA,qcC,qcB] at c2
 refine rq4 rfl rfl (fz rfl .no Fx.fo179_1 (.u rfl) (ld rfl .no FxVerP.ag23 (.u rfl) (fun _=>Rd.own .here (by first|exact wap_f rfl|rfl)) ?_))
 refine cp rfl .no (.u rfl) (.u rfl) rfl (aS rfl rfl (.nil (.code (.cond rfl (fun c3=>?_) (fun c3=>?_)))))
 ·have c3k:=c3
  try simp only [qcA,qcC,qcB] at c3
  refine .seq (rq1 rfl rfl (aS rfl rfl (.nil (.code (.ret (We.fin0 Tryz.results144 (.tmp rfl .nil) ?_))))))
  exact ⟨rfl,congrArg Value.bool (eR3 c3).symm⟩
 have c3k:=c3
 try simp only [qcA,qcC,qcB] at c3
 refine .seq (rq4 rfl rfl (fz rfl .no Fx.fo179_2 (.u rfl) (ld rfl .no FxVerP.ag5 (.u rfl) (fun _=>Rd.own .here (by first|exact wap_f rfl|rfl)) ?_)))
 refine cp rfl .no (.u rfl) (.u rfl) rfl (aS rfl rfl (.nil (.code (.cond rfl (fun c4=>?_) (fun c4=>?_)))))
 ·have c4k:=c4
  try simp only [qcA,qcC,qcB] at c4
  refine .seq (rq4 rfl rfl (fz rfl .no Fx.fo179_3 (.u rfl) (ld rfl .no Fx.ag9 (.u rfl) (fun _=>Rd.own .here (by first|exact wap_f rfl|rfl)) ?_)))
  refine cs rfl .no (.u rfl) (.u rfl) rfl (aS rfl rfl (.nil (.code (.ret (We.fin0 Tryz.results144 (.tmp rfl .nil) ?_)))))
  exact ⟨rfl,congrArg Value.bool (eR4 c1 c2 c3 c4).symm⟩
 have c4k:=c4
 try simp only [qcA,qcC,qcB] at c4
 refine .skip (.blk (.code (.seq (rq4 rfl rfl (fz rfl .no Fx.fo179_2 (.u rfl) (ld rfl .no FxVerP.ag5 (.u rfl) (fun _=>Rd.own .here (by first|exact wap_f rfl|rfl)) ?_))))))
 refine cp rfl .no (.u rfl) (.u rfl) rfl (aS rfl rfl (.nil (.code (.ret (We.fin0 Tryz.results144 (.tmp rfl .nil) ?_)))))
 exact ⟨rfl,congrArg Value.bool (eR5 c1 c2 c3 c4).symm⟩
theorem rises_ok (h:Sh) (l:List Ent) (G:PM) (hs:SlR G 4 Ent.cells h l) (hl:l.length≤10000000000000):Ct Tryz.prog 196 ([h.val l.length]:List Value).toArray G [] (fun _ μ' u=>μ'=[]∧u=.bool (risesE l)):=by
 refine Ct.of Tryz.func196 rfl Tryz.ntmps196 rfl fun w0 hs0=>?_
 refine .seq (rq1 rfl rfl (aS rfl rfl (.nil (.code (.seq (.seq (rq1 rfl rfl (aS rfl rfl (.nil (.code (.block ?_)))))))))))
 refine Wk.lop (α:=Nat) (fun k=>[(3,true,.int .i64 (k:Int))]) (fun _=>[])
  (fun k Gl=>(1≤k∧(k≤l.length∨l.length=0))∧(∀ j,j+1<k→aheadE (l.getD j Ent.zero) (l.getD (j+1) Ent.zero)=true)) (fun k=>l.length-k) 1 [(0,true,_)] []
  (esC rfl (by first|rfl|exact evi (by omega)) (esD rfl eZ))
  mN ?_ ?_
 ·refine ⟨?_,?_⟩
  ·(try dsimp only)<;>(first|omega|rfl|assumption|(simp; done))
  (try dsimp only)<;>(exact fun j h=>absurd h (by omega))
 intro k N0 Gl0 hN0 hGl0 hF0
 try dsimp only at hF0 hN0 ⊢
 obtain ⟨hk,hj⟩:=hF0
 have hs:=hs.mono hGl0
 refine .seq (.seq (rq4 rfl rfl (mV rfl rfl (mV rfl rfl (ln rfl .no Fx.sn189 (.u rfl) (cp rfl .no (.u rfl) (.u rfl) rfl (.nil (.code (.cond rfl (fun c1=>?_) (fun c1=>?_))))))))))
 ·have c1k:=c1
  try simp only [qcA,qcB] at c1
  refine .skip (.code (.seq (.block (.seq (Wk.mixp ⟨false,false⟩ FxVerP.mix (by kernel_rfl) ?_)))))
  refine Wp.one 0 (by kernel_rfl) ?_
  refine mV rfl rfl (.nil (Wp.one 1 (by kernel_rfl) ?_))
  refine mV rfl rfl (.nil (Wp.one 2 (by kernel_rfl) ?_))
  refine ar rfl .no (.u rfl) (.u rfl) rfl (fun _=>wrap_i64 (by omega) (by omega)) ?_
  refine .nil (Wp.one 3 (by kernel_rfl) ?_)
  refine ih rfl .no Fx.se189 (.u rfl) (.u rfl) (fun _=>by omega) (fun _=>by omega) (fun _=>hs.nn (k:=((((k:Nat):Int)-(1:Int))).toNat) (by first|omega|(simp only [Bool.and_eq_true,decide_eq_true_eq] at hc; omega)|(simp only [List.length_cons,List.length_nil]; omega))) ?_
  refine .nil (Wp.one 4 (by kernel_rfl) ?_)
  obtain ⟨x,ex⟩:=getx (k:=k-1) (xs:=l) (by omega)
  refine lA rfl .no Fx.ag179 (.u rfl) (fun _=>(hs.at (by omega) ex).rd) (fun _=>Ent.len _) ?_
  refine .nil (Wp.one 5 (by kernel_rfl) ?_)
  refine mV rfl rfl (.nil (Wp.one 6 (by kernel_rfl) ?_))
  refine mV rfl rfl (.nil (Wp.one 7 (by kernel_rfl) ?_))
  refine ih rfl .no Fx.se189 (.u rfl) (.u rfl) (fun _=>by omega) (fun _=>by omega) (fun _=>hs.nn (k:=k) (by first|omega|(simp only [Bool.and_eq_true,decide_eq_true_eq] at hc; omega)|(simp only [List.length_cons,List.length_nil]; omega))) ?_
  refine .nil (Wp.pr 8 (by kernel_rfl) ?_)
  obtain ⟨y,ey⟩:=getx (k:=k) (xs:=l) (by omega)
  refine lA rfl .no Fx.ag179 (.u rfl) (fun _=>(hs.at (by omega) ey).rd) (fun _=>Ent.len _) ?_
  refine .nil ⟨⟨rfl,rfl⟩,?_⟩
  refine Wp.b2 9 10 (by kernel_rfl) ?_ ?_
  ·refine al rfl Fx.zr179 ?_; intro b4
   refine .nil (Wp.b1 10 (by kernel_rfl) ?_)
   refine al rfl Fx.zr179 ?_; intro b5
   refine .nil (Wp.b1 11 (by kernel_rfl) ?_)
   refine sw rfl (.u rfl) (.u rfl) rfl Fx.sz179 tk1 (by first|rfl|exact Ent.len _) (Ent.one _) ?_
   refine .nil (Wp.b1 12 (by kernel_rfl) ?_)
   refine sw rfl (.u rfl) (.u rfl) rfl Fx.sz179 tk1 (by first|rfl|exact Ent.len _) (Ent.one _) ?_
   refine .nil (Wp.last (by kernel_rfl) ?_)
   refine .code (.seq (Wk.rg [0,1,2,3,4,5,6,7,8,9,10,11,12,13,14,15,16,17,18] rfl rfl (fz rfl .no Fx.fo179_0 (.u rfl) (ld rfl .no Fx.ag9 (.u rfl) (fun _=>Rd.own tk1 (by first|exact wap_f rfl|rfl)) ?_))))
   refine fz rfl .no Fx.fo179_0 (.u rfl) (ld rfl .no Fx.ag9 (.u rfl) (fun _=>Rd.own .here (by first|exact wap_f rfl|rfl)) ?_)
   refine cs rfl .no (.u rfl) (.u rfl) rfl (mV rfl rfl (fz rfl (.f rfl rfl) Fx.fo179_0 (.u rfl) (ld rfl (.f rfl rfl) Fx.ag9 (.s rfl) (fun hc=>Rd.own tk1 (by first|exact wap_f rfl|rfl)) ?_)))
   refine fz rfl (.f rfl rfl) Fx.fo179_0 (.u rfl) (ld rfl (.f rfl rfl) Fx.ag9 (.s rfl) (fun hc=>Rd.own .here (by first|exact wap_f rfl|rfl)) ?_)
   refine cs rfl (.f rfl rfl) (.s rfl) (.s rfl) rfl (mv rfl (.f rfl rfl) (.s rfl) (fz rfl (.tc rfl rfl) Fx.fo179_1 (.u rfl) (ld rfl (.tc rfl rfl) FxVerP.ag23 (.s rfl) (fun hc=>Rd.own tk1 (by first|exact wap_f rfl|rfl)) ?_)))
   refine fz rfl (.tc rfl rfl) Fx.fo179_1 (.u rfl) (ld rfl (.tc rfl rfl) FxVerP.ag23 (.s rfl) (fun hc=>Rd.own .here (by first|exact wap_f rfl|rfl)) ?_)
   refine cp rfl (.tc rfl rfl) (.s rfl) (.s rfl) rfl (pkA rfl (.f rfl rfl) (.s rfl) (.s rfl) (pkO rfl .no (.u rfl) (.s rfl) (.nil (.code (.cond rfl (fun c2=>?_) (fun c2=>?_))))))
   ·have c2k:=c2
    try simp only [qcA,qcB] at c2
    refine .seq (rq1 rfl rfl (aS rfl rfl (.nil (.code (.ret (We.fin0 Tryz.results196 (.tmp rfl .nil) ?_))))))
    exact ⟨rfl,congrArg Value.bool (ri_no hk.1 ex ey c2k).symm⟩
   have c2k:=c2
   try simp only [qcA,qcB] at c2
   refine .skip (.blk (.code (rq3 rfl rfl (mV rfl rfl (arn (((k+1):Nat):Int) rfl .no (.u rfl) (.u rfl) rfl (fun _=>by omega) (fun _=>wrap_i64 (by omega) (by omega)) ?_)))))
   refine aS rfl rfl (.nil (We.lpo (k+1) ?_ ?_ ?_ ?_ ?_))
   ·exact (esC rfl (by first|rfl|exact evi (by omega)) (esD rfl eZ))
   ·exact mN
   ·first|omega|(dsimp only; omega)
   ·exact hGl0
   refine ⟨?_,?_⟩
   ·(try dsimp only)<;>(first|omega|rfl|assumption|(simp; done))
   (try dsimp only)<;>(exact ri_step hk.1 hj ex ey c2k)
  refine al rfl Fx.zr179 ?_; intro b5
  refine .nil (Wp.b1 9 (by kernel_rfl) ?_)
  refine al rfl Fx.zr179 ?_; intro b4
  refine .nil (Wp.b1 11 (by kernel_rfl) ?_)
  refine sw rfl (.u rfl) (.u rfl) rfl Fx.sz179 .here (by first|rfl|exact Ent.len _) (Ent.one _) ?_
  refine .nil (Wp.b1 12 (by kernel_rfl) ?_)
  refine sw rfl (.u rfl) (.u rfl) rfl Fx.sz179 tk1 (by first|rfl|exact Ent.len _) (Ent.one _) ?_
  refine .nil (Wp.last (by kernel_rfl) ?_)
  refine .code (.seq (Wk.rg [0,1,2,3,4,5,6,7,8,9,10,11,12,13,14,15,16,17,18] rfl rfl (fz rfl .no Fx.fo179_0 (.u rfl) (ld rfl .no Fx.ag9 (.u rfl) (fun _=>Rd.own tk1 (by first|exact wap_f rfl|rfl)) ?_))))
  refine fz rfl .no Fx.fo179_0 (.u rfl) (ld rfl .no Fx.ag9 (.u rfl) (fun _=>Rd.own .here (by first|exact wap_f rfl|rfl)) ?_)
  refine cs rfl .no (.u rfl) (.u rfl) rfl (mV rfl rfl (fz rfl (.f rfl rfl) Fx.fo179_0 (.u rfl) (ld rfl (.f rfl rfl) Fx.ag9 (.s rfl) (fun hc=>Rd.own tk1 (by first|exact wap_f rfl|rfl)) ?_)))
  refine fz rfl (.f rfl rfl) Fx.fo179_0 (.u rfl) (ld rfl (.f rfl rfl) Fx.ag9 (.s rfl) (fun hc=>Rd.own .here (by first|exact wap_f rfl|rfl)) ?_)
  refine cs rfl (.f rfl rfl) (.s rfl) (.s rfl) rfl (mv rfl (.f rfl rfl) (.s rfl) (fz rfl (.tc rfl rfl) Fx.fo179_1 (.u rfl) (ld rfl (.tc rfl rfl) FxVerP.ag23 (.s rfl) (fun hc=>Rd.own tk1 (by first|exact wap_f rfl|rfl)) ?_)))
  refine fz rfl (.tc rfl rfl) Fx.fo179_1 (.u rfl) (ld rfl (.tc rfl rfl) FxVerP.ag23 (.s rfl) (fun hc=>Rd.own .here (by first|exact wap_f rfl|rfl)) ?_)
  refine cp rfl (.tc rfl rfl) (.s rfl) (.s rfl) rfl (pkA rfl (.f rfl rfl) (.s rfl) (.s rfl) (pkO rfl .no (.u rfl) (.s rfl) (.nil (.code (.cond rfl (fun c2=>?_) (fun c2=>?_))))))
  ·have c2k:=c2
   try simp only [qcA,qcB] at c2
   refine .seq (rq1 rfl rfl (aS rfl rfl (.nil (.code (.ret (We.fin0 Tryz.results196 (.tmp rfl .nil) ?_))))))
   exact ⟨rfl,congrArg Value.bool (ri_no hk.1 ex ey c2k).symm⟩
  have c2k:=c2
  try simp only [qcA,qcB] at c2
  refine .skip (.blk (.code (rq3 rfl rfl (mV rfl rfl (arn (((k+1):Nat):Int) rfl .no (.u rfl) (.u rfl) rfl (fun _=>by omega) (fun _=>wrap_i64 (by omega) (by omega)) ?_)))))
  refine aS rfl rfl (.nil (We.lpo (k+1) ?_ ?_ ?_ ?_ ?_))
  ·exact (esC rfl (by first|rfl|exact evi (by omega)) (esD rfl eZ))
  ·exact mN
  ·first|omega|(dsimp only; omega)
  ·exact hGl0
  refine ⟨?_,?_⟩
  ·(try dsimp only)<;>(first|omega|rfl|assumption|(simp; done))
  (try dsimp only)<;>(exact ri_step hk.1 hj ex ey c2k)
 have c1k:=c1
 try simp only [qcA,qcB] at c1
 refine .exit (.xcode (.xlp (.xblk (.code (.seq (rq1 rfl rfl (aS rfl rfl (.nil (.code (.ret (We.fin0 Tryz.results196 (.tmp rfl .nil) ?_)))))))))))
 exact ⟨rfl,congrArg Value.bool (ri_yes (by omega) hj).symm⟩
namespace Fx
theorem se223:slE Tryz.prog 223=some (249,16,144):=by kernel_rfl
theorem zq247:zrL Tryz.prog 247=some (wA (fun _=>0)):=by kernel_rfl
theorem fo225_0:fOff Tryz.prog 225 0=some 0:=by kernel_rfl
theorem ag223:aggN Tryz.prog 223=some none:=by kernel_rfl
theorem fo249_1:fOff Tryz.prog 249 1=some 4:=by kernel_rfl
theorem ar247:arE Tryz.prog 247=some (12,3,1):=by kernel_rfl
theorem fo249_0:fOff Tryz.prog 249 0=some 0:=by kernel_rfl
theorem go306:goFn Tryz.prog 306=true:=by kernel_rfl
theorem ag247:aggN Tryz.prog 247=some (some 12):=by kernel_rfl
theorem sz247:szT Tryz.prog 247=some 12:=by kernel_rfl
theorem pt153:ptT Tryz.prog 153=true:=by kernel_rfl
theorem go213:goFn Tryz.prog 213=true:=by kernel_rfl
theorem sn223:(slE Tryz.prog 223).isSome=true:=by kernel_rfl
theorem fo225_1:fOff Tryz.prog 225 1=some 1:=by kernel_rfl
theorem go148:goFn Tryz.prog 148=true:=by kernel_rfl
theorem zv249:(Tryz.prog.info? 249).bind (·.zero)=some (.agg #[.string ByteArray.empty,.int .u64 0,.int .u8 0,.string ByteArray.empty,.int .i64 0,.int .i64 0,.int .i64 0,.int .i64 0,.int .i64 0,.int .i64 0,.int .i64 0,.int .i64 0,.int .i64 0,.int .i64 0,.int .i64 0,.int .i64 0]):=by kernel_rfl
theorem bp225_0:bPl Tryz.prog 225 [0]=some ([.slice none 0 0,.int .i64 0],[(0,1)]):=by kernel_rfl
theorem bp249_0:bPl Tryz.prog 249 [0]=some ([.string ByteArray.empty,.int .u64 0,.int .u8 0,.string ByteArray.empty,.int .i64 0,.int .i64 0,.int .i64 0,.int .i64 0,.int .i64 0,.int .i64 0,.int .i64 0,.int .i64 0,.int .i64 0,.int .i64 0,.int .i64 0,.int .i64 0],[(0,4)]):=by kernel_rfl
theorem sz223:szT Tryz.prog 223=some 1:=by kernel_rfl
end Fx
theorem sAhead_ok (e:Ent) (us:ByteArray) (q:BitVec 64) (G:PM):Ct Tryz.prog 306 ([e.val,.string us,uv .u64 q]:List Value).toArray G [] (fun _ μ' u=>μ'=[]∧u=.bool (aheadK e us q)):=by
 refine Ct.of Tryz.func306 rfl Tryz.ntmps306 rfl fun w0 hs0=>?_
 refine .seq (rq2 rfl rfl ?_)
 refine bx rfl (.u rfl) rfl ?_; intro b3
 refine aS rfl rfl (.nil (.code (.seq (Wk.rg [0,1,2,3,4,5,6,7,8,9,10,11,12,13,14,15,16] rfl rfl (fz rfl .no Fx.fo179_0 (.u rfl) (ld rfl .no Fx.ag9 (.u rfl) (fun _=>Rd.own .here (by first|exact wap_f rfl|rfl)) ?_))))))
 refine mV rfl rfl (cs rfl .no (.u rfl) (.u rfl) rfl (mV rfl rfl (fz rfl (.f rfl rfl) Fx.fo179_0 (.u rfl) (ld rfl (.f rfl rfl) Fx.ag9 (.s rfl) (fun hc=>Rd.own .here (by first|exact wap_f rfl|rfl)) ?_))))
 refine mv rfl (.f rfl rfl) (.u rfl) (cs rfl (.f rfl rfl) (.s rfl) (.s rfl) rfl (mv rfl (.f rfl rfl) (.s rfl) (fz rfl (.tc rfl rfl) Fx.fo179_1 (.u rfl) (ld rfl (.tc rfl rfl) Fx.ag23 (.s rfl) (fun hc=>Rd.own .here (by first|exact wap_f rfl|rfl)) ?_))))
 refine mv rfl (.tc rfl rfl) (.u rfl) (cp rfl (.tc rfl rfl) (.s rfl) (.s rfl) rfl (pkA rfl (.f rfl rfl) (.s rfl) (.s rfl) (pkO rfl .no (.u rfl) (.s rfl) (aS rfl rfl (.nil (.code (.ret (We.fin0 Tryz.results306 (.tmp rfl .nil) ?_))))))))
 exact ⟨rfl,congrArg Value.bool (by unfold aheadK lt; simp [gt_iff_lt]; rfl)⟩
theorem seek_ok (bl:Nat) (h:Sh) (xs:List Nd) (sz:Value) (G:PM) (hbl:PB G bl (cl [h.val xs.length,sz] 225)) (hs:SlR G 16 Nd.cells h xs) (w:Nat→Nat) (us:ByteArray) (q:BitVec 64) (hW:WayN xs us q w):Ct Tryz.prog 213 ([.pointer (some ⟨bl,0,none⟩),.string us,uv .u64 q]:List Value).toArray G [] (fun _ μ' u=>μ'=[]∧u=.agg (wA w).toArray):=by
 refine Ct.of Tryz.func213 rfl Tryz.ntmps213 rfl fun w0 hs0=>?_
 refine .seq (rq1 rfl rfl ?_)
 refine al rfl Fx.zq247 ?_; intro b6
 refine .nil (.code (.seq (rq1 rfl rfl ?_)))
 refine al rfl Fx.zq247 ?_; intro b7
 refine .nil (.code (.seq (rq1 rfl rfl (aS rfl rfl (.nil (.code (.seq (.seq (rq1 rfl rfl (aS rfl rfl (.nil (.code (.block ?_)))))))))))))
 refine Wk.lop (α:=Nat) (fun k=>[(8,true,.int .i64 ((w k:Nat):Int)),(9,true,.int .i64 ((k:Int)-1))]) (fun k=>[.blk b7 (cl (wA (wK w k)) 247)])
  (fun k Gl=>(k≤12)) (fun k=>k) 12 [(0,true,_),(1,true,_),(2,true,_),(6,true,_),(7,true,_)] [_]
  (esC rfl (by rw [hW.top]; rfl) (esD rfl (esD rfl (esD rfl (esD rfl (esD rfl (esD rfl eZ)))))))
  (mS .here rfl (mS .here rfl mN)) ?_ ?_
 ·(try dsimp only)<;>(first|omega|rfl|assumption|(simp; done))
 intro k N0 Gl0 hN0 hGl0 hF0
 try dsimp only at hF0 hN0 ⊢
 have hk:=hF0
 have hbl:=hbl.mono hGl0
 have hs:=hs.mono hGl0
 refine .seq (.seq (rq2 rfl rfl (mV rfl rfl (cp rfl .no (.u rfl) (.u rfl) rfl (.nil (.code (.cond rfl (fun c1=>?_) (fun c1=>?_))))))))
 ·have c1k:=c1
  try simp only [qcA,qcC,qcB] at c1
  refine .skip (.code (.seq (.block (.seq (.seq (Wk.rg [0,1,2,3,4,5,6,7,8,9,10] rfl rfl (mV rfl rfl (nc rfl .no (.u rfl) (fa rfl .no Fx.fo225_0 (.u rfl) (ld rfl .no Fx.ag223 (.u rfl) (fun _=>(hbl.rd (rfl)).rd) ?_))))))))))
  refine mV rfl rfl (mV rfl rfl (ih rfl .no Fx.se223 (.u rfl) (.u rfl) (fun _=>by omega) (fun _=>by have:=hW.lt k (by omega); omega) (fun _=>hs.nn (k:=w k) (hW.lt k (by omega))) ?_))
  refine fa rfl .no Fx.fo249_1 (.u rfl) (iA rfl .no Fx.ar247 (.u rfl) (.u rfl) (fun _=>by omega) (fun _=>by omega) ?_)
  refine ld rfl .no Fx.ag3 (.u rfl) (fun _=>(Nd.rdx hs (a:=w k) (k:=k-1) (hW.lt k (by omega)) (by omega) (by first|omega|(simp; omega))).rd) ?_
  refine aS rfl rfl (.nil (.code (.block ?_)))
  refine Wk.lop (α:=Nat) (fun p=>[(8,true,.int .i64 ((wq w (k-1) p:Nat):Int)),(10,true,.int .i64 ((nxt xs (wq w (k-1) p) (k-1):Nat):Int))]) (fun _=>[])
   (fun p Gl=>(p=0∨p=1∧stopN xs us q (w (k-1)) (k-1))) (fun p=>1-p) 0 [(0,true,_),(1,true,_),(2,true,_),(6,true,_),(7,true,_),(9,true,_)] [_,_]
   (esC rfl (by rw [wq,if_pos rfl,show k-1+1=k by omega]) (esC rfl (by rw [wq,if_pos rfl,show k-1+1=k by omega]) (esD rfl (esD rfl (esD rfl (esD rfl (esD rfl (esD rfl eZ))))))))
   (mS .here rfl (mS .here rfl mN)) ?_ ?_
  ·(try dsimp only)<;>(first|omega|rfl|assumption|(simp; done))
  intro p N1 Gl1 hN1 hGl1 hF1
  try dsimp only at hF1 hN1 ⊢
  have hp:=hF1
  have hbl:=hbl.mono hGl1
  have hs:=hs.mono hGl1
  have hwl:wq w (k-1) p<xs.length:=by unfold wq; split; exact hW.lt _ (by omega); exact hW.lt _ (by omega)
  have hwq1:wq w (k-1) 1<xs.length:=hW.lt _ (by omega)
  have hnx:=hW.inb _ hwl (k-1) (by omega)
  refine .seq (.seq (Wk.rg [0,1,2,3,4,5,6,7,8,9,10,11,12,13,14] rfl rfl (mV rfl rfl (cp rfl .no (.u rfl) (.u rfl) rfl (mV rfl rfl (mv rfl (.t rfl rfl) (.u rfl) (nc rfl (.t rfl rfl) (.s rfl) (fa rfl (.t rfl rfl) Fx.fo225_0 (.s rfl) (ld rfl (.t rfl rfl) Fx.ag223 (.s rfl) (fun hc=>(hbl.rd (rfl)).rd) ?_)))))))))
  refine mv rfl (.t rfl rfl) (.u rfl) (ih rfl (.t rfl rfl) Fx.se223 (.s rfl) (.s rfl) (fun _=>by omega) (fun _=>by omega) (fun _=>hs.nn (k:=nxt xs (wq w (k-1) p) (k-1)) hnx) ?_)
  refine fa rfl (.t rfl rfl) Fx.fo249_0 (.s rfl) (lA rfl (.t rfl rfl) Fx.ag179 (.s rfl) (fun hc=>(Nd.rde hs (a:=nxt xs (wq w (k-1) p) (k-1)) hnx (by simp)).rd) (fun _=>Ent.len _) ?_)
  refine mv rfl (.t rfl rfl) (.u rfl) (mv rfl (.t rfl rfl) (.u rfl) (kv rfl (.t rfl rfl) Fx.go306 (Eva.cons (.s rfl) (Eva.cons (.s rfl) (Eva.cons (.s rfl) Evn))) (fun hc=>sAhead_ok _ _ _ _) ?_))
  refine pkA rfl .no (.u rfl) (.s rfl) (.nil (.code (.cond rfl (fun c2=>?_) (fun c2=>?_))))
  ·have c2k:=c2
   obtain ⟨hp0,hstp,hwk⟩:=way_t hW (by omega) hp c2
   subst hp0
   have hwe:nxt xs (wq w (k-1) 0) (k-1)=wq w (k-1) 1:=hwk.symm
   refine .skip (.code (.seq (.block (rq2 rfl rfl (mV rfl rfl (aS rfl rfl (.nil (.blk (.code (Wk.rg [0,1,2,3,4,5,6,7,8,9,10] rfl rfl (mV rfl rfl (nc rfl .no (.u rfl) (fa rfl .no Fx.fo225_0 (.u rfl) (ld rfl .no Fx.ag223 (.u rfl) (fun _=>(hbl.rd (rfl)).rd) ?_))))))))))))))
   refine mV rfl rfl (mV rfl rfl (ih rfl .no Fx.se223 (.u rfl) (.u rfl) (fun _=>by omega) (fun _=>by have:=hnx; omega) (fun _=>hs.nn (k:=nxt xs (wq w (k-1) 0) (k-1)) (hnx)) ?_))
   refine fa rfl .no Fx.fo249_1 (.u rfl) (iA rfl .no Fx.ar247 (.u rfl) (.u rfl) (fun _=>by omega) (fun _=>by omega) ?_)
   refine ld rfl .no Fx.ag3 (.u rfl) (fun _=>(Nd.rdx hs (a:=nxt xs (wq w (k-1) 0) (k-1)) (k:=k-1) (hnx) (by omega) (by first|omega|(simp; omega))).rd) ?_
   refine aS rfl rfl (.nil (We.lpo 1 ?_ ?_ ?_ ?_ ?_))
   ·exact (esC rfl (by rw [hwe]) (esC rfl (by rw [hwe]) (esD rfl (esD rfl (esD rfl (esD rfl (esD rfl (esD rfl eZ))))))))
   ·exact (mS .here rfl (mS .here rfl mN))
   ·first|omega|(dsimp only; omega)
   ·exact hGl1
   (try dsimp only)<;>(exact .inr ⟨rfl,hstp⟩)
  have c2k:=c2
  have hex9:wq w (k-1) p=w (k-1):=way_f hW (by omega) hp c2
  refine .exit (.xcode (.xlp (.xblk (.code (rq4 rfl rfl (mV rfl rfl (mV rfl rfl (iA rfl .no Fx.ar247 (.u rfl) (.u rfl) (fun _=>by omega) (fun _=>by omega) ?_))))))))
  refine s1 rfl (.u rfl) (.u rfl) rfl Fx.sz3 .here (by simp [wA_len]; omega) (wA_set (k:=k-1) (w':=wK w (k-1)) (by omega) (by first|omega|(simp; omega)) (by rw [hex9]; simp [wK]) (fun j hj=>by unfold wK; by_cases h:j<k-1; rw [if_pos h,if_pos (by omega)]; rw [if_neg h,if_neg (by omega)])) ?_
  refine .nil (.blk (.code (rq3 rfl rfl (mV rfl rfl (ar rfl .no (.u rfl) (.u rfl) rfl (fun _=>wrap_i64 (by omega) (by omega)) ?_)))))
  refine aS rfl rfl (.nil (We.lpo (k-1) ?_ ?_ ?_ ?_ ?_))
  ·exact (esC rfl (by rw [← hex9]) (esC rfl (evi (by omega)) (esD rfl (esD rfl (esD rfl (esD rfl (esD rfl eZ)))))))
  ·exact (mS .here rfl (mS .here rfl mN))
  ·first|omega|(dsimp only; omega)
  ·exact (hGl0).trans hGl1
  (try dsimp only)<;>(first|omega|rfl|assumption|(simp; done))
 have c1k:=c1
 try simp only [qcA,qcC,qcB] at c1
 refine .exit (.xcode (.xlp (.xblk (.code (.seq (rq2 rfl rfl (lA rfl .no Fx.ag247 (.u rfl) (fun _=>RdN.own .here) (fun _=>wA_len) ?_)))))))
 refine sw rfl (.u rfl) (.u rfl) rfl Fx.sz247 tk1 (wA_len.trans wA_len.symm) (wA_one _) ?_
 refine .nil (.code (.ret (We.fin0 Tryz.results213 (.cell rfl (fun w hw=>run_loadVarN Fx.ag247 (RdN.own .here) (wA_len) hw) .nil) ?_)))
 obtain rfl:k=0:=by omega
 exact ⟨rfl,by rw [wK_z]; rfl⟩
theorem first_l (bl:Nat) (h:Sh) (xs:List Nd) (sz:Value) (G:PM) (hbl:PB G bl (cl [h.val xs.length,sz] 225)) (hs:SlR G 16 Nd.cells h xs) (w:Nat→Nat) (us:ByteArray) (q:BitVec 64) (hW:WayN xs us q w):Ct Tryz.prog 148 ([.pointer (some ⟨bl,0,none⟩),.string us,uv .u64 q]:List Value).toArray G [] (fun _ μ' u=>μ'=[]∧u=.int .i64 ((nxt xs (w 0) 0:Nat):Int)):=by
 refine Ct.of Tryz.func148 rfl Tryz.ntmps148 rfl fun w0 hs0=>?_
 refine .seq (rq1 rfl rfl (aS rfl rfl (.nil (.code (.seq (.seq (rq2 rfl rfl (mV rfl rfl (pe rfl .no Fx.pt153 (.u rfl) (.u rfl) ?_)))))))))
 refine .nil (.code (Wk.condF rfl rfl ?_))
 refine .skip (.code (.seq (Wk.draw (mc:=⟨false,false⟩) [0,1,2,3,4,5,6,7,8,9,10,11,12,13] Fx.mix (by kernel_rfl) ?_)))
 refine mV rfl rfl (nc rfl .no (.u rfl) (fa rfl .no Fx.fo225_0 (.u rfl) (ld rfl .no Fx.ag223 (.u rfl) (fun _=>(hbl.rd (rfl)).rd) ?_)))
 refine mV rfl rfl (mV rfl rfl (mV rfl rfl (kv rfl .no Fx.go213 (Evc rfl (Evc rfl (Evc rfl Evn))) (fun _=>seek_ok bl h xs sz _ hbl hs w us q hW) ?_)))
 refine ix rfl .no Fx.ar247 Fx.ag3 (.u rfl) (.u rfl) (fun _=>by omega) (fun _=>by omega) (fun _=>wA_at (k:=0) (by omega) rfl) ?_
 refine ih rfl .no Fx.se223 (.u rfl) (.u rfl) (fun _=>by omega) (fun _=>by have:=hW.lt 0 (by omega); omega) (fun _=>hs.nn (k:=w 0) (hW.lt 0 (by omega))) ?_
 refine fa rfl .no Fx.fo249_1 (.u rfl) (iA rfl .no Fx.ar247 (.u rfl) (.u rfl) (fun _=>by decide) (fun _=>by decide) ?_)
 refine ld rfl .no Fx.ag3 (.u rfl) (fun _=>(Nd.rdx hs (a:=w 0) (k:=0) (hW.lt 0 (by omega)) (by omega) (by first|omega|(simp; omega))).rd) ?_
 refine aS rfl rfl (.nil (.code (.ret (We.fin0 Tryz.results148 (.tmp rfl .nil) ?_))))
 exact ⟨rfl,rfl⟩
theorem lLen_ok (bl:Nat) (h:Sh) (xs:List Nd) (sz:Value) (G:PM) (hbl:PB G bl (cl [h.val xs.length,sz] 225)) (hl:xs.length≤1000000):Ct Tryz.prog 162 ([.pointer (some ⟨bl,0,none⟩)]:List Value).toArray G [] (fun _ μ' u=>μ'=[]∧u=.int .i64 ((xs.length:Int)-1)):=by
 refine Ct.of Tryz.func162 rfl Tryz.ntmps162 rfl fun w0 hs0=>?_
 refine .seq (rq1 rfl rfl (aS rfl rfl (.nil (.code (.seq (.seq (rq2 rfl rfl (mV rfl rfl (pe rfl .no Fx.pt153 (.u rfl) (.u rfl) ?_)))))))))
 refine .nil (.code (Wk.condF rfl rfl ?_))
 refine .skip (.code (.seq (rq7 rfl rfl (mV rfl rfl (nc rfl .no (.u rfl) (fa rfl .no Fx.fo225_0 (.u rfl) (ld rfl .no Fx.ag223 (.u rfl) (fun _=>(hbl.rd (rfl)).rd) ?_)))))))
 refine ln rfl .no Fx.sn223 (.u rfl) (ar rfl .no (.u rfl) (.u rfl) rfl (fun _=>wrap_i64 (by omega) (by omega)) ?_)
 refine aS rfl rfl (.nil (.code (.ret (We.fin0 Tryz.results162 (.tmp rfl .nil) ?_))))
 exact ⟨rfl,rfl⟩
theorem lSize_ok (bl:Nat) (v:Value) (sz:Nat) (G:PM) (hbl:PB G bl (cl [v,.int .i64 ((sz:Nat):Int)] 225)):Ct Tryz.prog 317 ([.pointer (some ⟨bl,0,none⟩)]:List Value).toArray G [] (fun _ μ' u=>μ'=[]∧u=.int .i64 ((sz:Nat):Int)):=by
 refine Ct.of Tryz.func317 rfl Tryz.ntmps317 rfl fun w0 hs0=>?_
 refine .seq (rq1 rfl rfl (aS rfl rfl (.nil (.code (.seq (.seq (rq2 rfl rfl (mV rfl rfl (pe rfl .no Fx.pt153 (.u rfl) (.u rfl) ?_)))))))))
 refine .nil (.code (Wk.condF rfl rfl ?_))
 refine .skip (.code (.seq (rq5 rfl rfl (mV rfl rfl (nc rfl .no (.u rfl) (fa rfl .no Fx.fo225_1 (.u rfl) (ld rfl .no Fx.ag3 (.u rfl) (fun _=>(hbl.rd (rfl)).rd) ?_)))))))
 refine aS rfl rfl (.nil (.code (.ret (We.fin0 Tryz.results317 (.tmp rfl .nil) ?_))))
 exact ⟨rfl,rfl⟩
theorem lFrom0 (bl:Nat) (h:Sh) (xs:List Nd) (sz:Value) (G:PM) (hbl:PB G bl (cl [h.val xs.length,sz] 225)) (hs:SlR G 16 Nd.cells h xs) (w:Nat→Nat) (us:ByteArray) (q:BitVec 64) (hW:WayN xs us q w) (n:Int) (hn:nxt xs (w 0) 0=0):Ct Tryz.prog 161 ([.pointer (some ⟨bl,0,none⟩),.string us,uv .u64 q,.int .i64 n]:List Value).toArray G [] (fun _ μ' u=>μ'=[]∧u=.slice none 0 0):=by
 refine Ct.of Tryz.func161 rfl Tryz.ntmps161 rfl fun w0 hs0=>?_
 refine .seq (rq1 rfl rfl (aS rfl rfl (.nil (.code (.seq (rq1 rfl rfl (aS rfl rfl (.nil (.code (.seq (.seq (rq5 rfl rfl (mV rfl rfl (mV rfl rfl (mV rfl rfl (kv rfl .no Fx.go148 (Evc rfl (Evc rfl (Evc rfl Evn))) (fun _=>first_l bl h xs sz _ hbl hs w us q hW) ?_))))))))))))))))
 refine aS rfl rfl (.nil (.code (.block ?_)))
 refine Wk.lop (α:=Nat) (fun k=>[(9,true,.slice none 0 0),(10,true,.int .i64 0)]) (fun _=>[])
  (fun k Gl=>True) (fun k=>0) 0 [(0,true,_),(3,true,_)] []
  (esD rfl (esC rfl (by rw [hn]; rfl) (esD rfl (esD rfl eZ))))
  mN ?_ ?_
 ·trivial
 intro k N0 Gl0 hN0 hGl0 hF0
 try dsimp only at hF0 hN0 ⊢
 refine .seq (.seq (rq8 rfl rfl (mV rfl rfl (cp rfl .no (.u rfl) (.u rfl) rfl (mV rfl rfl (mv rfl (.t rfl rfl) (.u rfl) (ln rfl (.t rfl rfl) Fx.sn189 (.s rfl) (mv rfl (.t rfl rfl) (.u rfl) (cp rfl (.t rfl rfl) (.s rfl) (.s rfl) rfl (pkA rfl .no (.u rfl) (.s rfl) (.nil (.code (.cond rfl (fun c1=>?_) (fun c1=>?_))))))))))))))
 ·have c1k:=c1
  cases c1
 have c1k:=c1
 try simp only [qcA,qcB] at c1
 refine .exit (.xcode (.xlp (.xblk (.code (.seq (rq2 rfl rfl (mV rfl rfl (aS rfl rfl (.nil (.code (.ret (We.fin0 Tryz.results161 (.tmp rfl .nil) ?_))))))))))))
 exact ⟨rfl,rfl⟩
theorem lNew_ok (G:PM):Ct Tryz.prog 87 ([]:List Value).toArray G [] (fun _ μ' u=>∃ bl v,v.oneCell'=true∧μ'=[.blk bl (cl [v,.int .i64 ((0:Nat):Int)] 225),rS 16 Nd.cells v 249 [Nd.z]]∧u=.pointer (some ⟨bl,0,none⟩)):=by
 refine Ct.of Tryz.func87 rfl Tryz.ntmps87 rfl fun w0 hs0=>?_
 refine .seq (rq1 rfl rfl (aS rfl rfl (.nil (.code (.seq (rq4 rfl rfl ?_))))))
 refine mk1S (enc:=Nd.cells) Nd.z rfl Fx.se223 Fx.zv249 (.u rfl) (.u rfl) rfl rfl (by decide) ?_; intro b1
 refine bC rfl .no Fx.bp225_0 (.cons (.u rfl) rfl .nil) rfl ?_
 refine bx rfl (.u rfl) rfl ?_; intro b3
 refine aS rfl rfl (.nil (.code (.ret (We.fin Tryz.results87 (.tmp rfl .nil) (mS .here rfl (mS .here rfl mN)) ?_))))
 exact ⟨b3,_,rfl,rfl,rfl⟩
theorem lPut_ok (bl bb m cap sz ht:Nat) (xs:List Nd) (e:Ent) (w:Nat→Nat) (G:PM) (hm:m=xs.length) (hW:WayN xs e.user e.seq w) (hn:nxt xs (w 0) 0=0) (hR:rightE e=true) (h1:1≤ht) (h12:ht≤12) (hl:xs.length≤1000) (hsz:sz≤1000000000):Ct Tryz.prog 235 ([.pointer (some ⟨bl,0,none⟩),e.val,.int .i64 ((ht:Nat):Int)]:List Value).toArray G [.blk bl (cl [(.slice (some ⟨bb,0,none⟩) m cap),.int .i64 ((sz:Nat):Int)] 225),rS 16 Nd.cells (.slice (some ⟨bb,0,none⟩) m cap) 249 (xs)] (fun _ μ' u=>∃ bb2 cap2,μ'=[.blk bl (cl [.slice (some ⟨bb2,0,none⟩) (xs++[(e,fun _=>0)]).length cap2,.int .i64 ((sz+(e.user.size+e.value.size+8):Nat):Int)] 225),rS 16 Nd.cells (.slice (some ⟨bb2,0,none⟩) (xs++[(e,fun _=>0)]).length cap2) 249 (lnkN w xs.length (xs++[(e,fun _=>0)]) ht)]∧u=.int .i64 0):=by
 subst hm
 refine Ct.of Tryz.func235 rfl Tryz.ntmps235 rfl fun w0 hs0=>?_
 have hRs:=rightE_sz hR; have hxl:0<xs.length:=by have:=hW.lt 0 (by omega); omega
 have hlen:(xs++[(e,fun _=>0)]:List Nd).length=xs.length+1:=by simp
 refine .seq (rq2 rfl rfl ?_)
 refine bx rfl (.u rfl) rfl ?_; intro b4
 refine aS rfl rfl (.nil (.code (.seq (.block (.seq (rq3 rfl rfl (mV rfl rfl (pe rfl .no Fx.pt153 (.u rfl) (.u rfl) ?_))))))))
 refine aS rfl rfl (.nil (.code (.cond rfl (fun c1=>?_) (fun c1=>?_))))
 ·have c1k:=c1
  cases c1
 have c1k:=c1
 try simp only [qcA,qcC,qcB] at c1
 refine .seq (rq4 rfl rfl (lA rfl .no Fx.ag179 (.u rfl) (fun _=>RdN.own .here) (fun _=>(by first|exact Ent.len _|exact wA_len|rfl)) ?_))
 refine kv rfl .no Fx.go144 (Evc rfl Evn) (fun _=>eRight_ok e _) ?_
 refine nt rfl .no (.u rfl) (aS rfl rfl (.nil (.code (.cond rfl (fun c2=>?_) (fun c2=>?_)))))
 ·have c2k:=c2
  rw [hR] at c2; cases c2
 have c2k:=c2
 try simp only [qcA,qcC,qcB] at c2
 refine .skip (.blk (.code (.seq (rq8 rfl rfl (mV rfl rfl (fz rfl .no Fx.fo179_0 (.u rfl) (ld rfl .no Fx.ag9 (.u rfl) (fun _=>Rd.own .here (by first|exact wap_f rfl|rfl)) ?_)))))))
 refine fz rfl .no Fx.fo179_1 (.u rfl) (ld rfl .no Fx.ag23 (.u rfl) (fun _=>Rd.own .here (by first|exact wap_f rfl|rfl)) ?_)
 refine ka rfl (.inr rfl) Fx.go213 (Evc rfl (Evc rfl (Evc rfl Evn))) (mtk2 tk1 tk1) (lendL fun s G2 hv hs2 hb2=>by rw [hv] at hb2; exact seek_ok bl s xs _ G2 hb2 hs2 w e.user e.seq hW) ?_
 rintro _ G23 μ23 hG23 ⟨rfl,rfl⟩
 refine al rfl Fx.zq247 ?_; intro b7
 refine sw rfl (.u rfl) (.u rfl) rfl Fx.sz247 .here (wA_len.trans wA_len.symm) (wA_one _) ?_
 refine .nil (.code (.seq (Wk.draw (mc:=⟨false,false⟩) [0,1,2,3,4,5,6,7,8,9,10] Fx.mix (by kernel_rfl) ?_)))
 refine mV rfl rfl (nc rfl .no (.u rfl) (fz rfl .no Fx.fo225_0 (.u rfl) (ld rfl .no Fx.ag223 (.u rfl) (fun _=>Rd.own tk1 rfl) ?_)))
 refine iA rfl .no Fx.ar247 (.u rfl) (.u rfl) (fun _=>by decide) (fun _=>by decide) ?_
 refine ld rfl .no Fx.ag3 (.u rfl) (fun _=>Rd.own .here (wA_at (k:=0) (by omega) rfl)) ?_
 refine ia rfl .no Fx.se223 (.u rfl) (.u rfl) (fun _=>by omega) (fun _=>by have:=hW.lt 0 (by omega); omega) ?_
 refine fa rfl .no Fx.fo249_1 (.u rfl) (iA rfl .no Fx.ar247 (.u rfl) (.u rfl) (fun _=>by decide) (fun _=>by decide) ?_)
 refine ld rfl .no Fx.ag3 (.u rfl) (fun _=>Nd.rdo tk2 (a:=w 0) (k:=0) (hW.lt 0 (by omega)) (by omega) (by simp)) ?_
 refine aS rfl rfl (.nil (.code (.seq (.seq (Wk.draw (mc:=⟨false,false⟩) [0,1,2,3,4,5,6,7,8,9,10,11,12,13,14,15,16,17,18,19,20,21,22,23,24,25,26,27,28,29] Fx.mix (by kernel_rfl) ?_)))))
 refine mV rfl rfl (cp rfl .no (.u rfl) (.u rfl) rfl (wo_b false (by rw [hn]; rfl) ?_))
 refine mV rfl rfl (skp (.bool false) rfl rfl (Gd.t (b:=false) rfl rfl) ?_)
 refine skp (.bool false) rfl rfl (Gd.t (b:=false) rfl rfl) ?_
 refine skp (.bool false) rfl rfl (Gd.t (b:=false) rfl rfl) ?_
 refine skr (.bool false) rfl rfl (Gd.t (b:=false) rfl rfl) ?_
 refine skp (.bool false) rfl rfl (Gd.t (b:=false) rfl rfl) ?_
 refine skp (.bool false) rfl rfl (Gd.t (b:=false) rfl rfl) ?_
 refine skp (.bool false) rfl rfl (Gd.t (b:=false) rfl rfl) ?_
 refine skp (.bool false) rfl rfl (Gd.t (b:=false) rfl rfl) ?_
 refine skr (.bool false) rfl rfl (Gd.t (b:=false) rfl rfl) ?_
 refine skp (.bool false) rfl rfl (Gd.t (b:=false) rfl rfl) ?_
 refine skr (.bool false) rfl rfl (Gd.t (b:=false) rfl rfl) ?_
 refine skp (.bool false) rfl rfl (Gd.t (b:=false) rfl rfl) ?_
 refine pkA rfl .no (.u rfl) (.s rfl) (mV rfl rfl (skp (.bool false) rfl rfl (Gd.t (b:=false) rfl rfl) ?_))
 refine skp (.bool false) rfl rfl (Gd.t (b:=false) rfl rfl) ?_
 refine skp (.bool false) rfl rfl (Gd.t (b:=false) rfl rfl) ?_
 refine skr (.bool false) rfl rfl (Gd.t (b:=false) rfl rfl) ?_
 refine skp (.bool false) rfl rfl (Gd.t (b:=false) rfl rfl) ?_
 refine skp (.bool false) rfl rfl (Gd.t (b:=false) rfl rfl) ?_
 refine skp (.bool false) rfl rfl (Gd.t (b:=false) rfl rfl) ?_
 refine skp (.bool false) rfl rfl (Gd.t (b:=false) rfl rfl) ?_
 refine skr (.bool false) rfl rfl (Gd.t (b:=false) rfl rfl) ?_
 refine skp (.bool false) rfl rfl (Gd.t (b:=false) rfl rfl) ?_
 refine skr (.bool false) rfl rfl (Gd.t (b:=false) rfl rfl) ?_
 refine skp (.bool false) rfl rfl (Gd.t (b:=false) rfl rfl) ?_
 refine pkA rfl .no (.u rfl) (.s rfl) (.nil (.code (.cond rfl (fun c3=>?_) (fun c3=>?_))))
 ·have c3k:=c3
  cases c3
 have c3k:=c3
 try simp only [qcA,qcC,qcB] at c3
 refine .skip (.code (.seq (rq6 rfl rfl (mV rfl rfl (nc rfl .no (.u rfl) (fz rfl .no Fx.fo225_0 (.u rfl) (ld rfl .no Fx.ag223 (.u rfl) (fun _=>Rd.own tk1 rfl) ?_)))))))
 refine lr rfl .no Fx.sn223 (.u rfl) tk2 ?_
 refine aS rfl rfl (.nil (.code (.seq (Wk.draw (mc:=⟨false,false⟩) [0,1,2,3,4,5,6,7,8,9,10,11] Fx.mix (by kernel_rfl) ?_))))
 refine mV rfl rfl (mV rfl rfl (nc rfl .no (.u rfl) (fz rfl .no Fx.fo225_0 (.u rfl) (ld rfl .no Fx.ag223 (.u rfl) (fun _=>Rd.own tk1 rfl) ?_))))
 refine lA rfl .no Fx.ag179 (.u rfl) (fun _=>RdN.own tk3) (fun _=>(by first|exact Ent.len _|exact wA_len|rfl)) ?_
 refine bCe (Nd.cells (e,fun _=>0)) rfl .no Fx.bp249_0 (.cons (.u rfl) rfl .nil) rfl (rfl) ?_
 refine Go.Tan.b1 rfl Fx.se223 Fx.zv249 (.u rfl) rfl rfl (by decide) ?_; intro b76
 refine apS (xs:=xs) ((e,fun _=>0)) rfl Fx.se223 Fx.zv249 rfl (.u rfl) (.u rfl) tk3 .here (Nd.len _) (Nd.one _) (by omega) (by unfold maxLen; omega) ?_; intro v77 ov77
 refine nc rfl .no (.u rfl) (fz rfl .no Fx.fo225_0 (.u rfl) (s1v rfl (.u rfl) (.u rfl) .here Fx.sz223 tk3 (by first|decide|(simp [wA_len]; done)) (rfl) ?_))
 refine .nil (.code (.seq (.seq ?_)))
 refine wk_rv tk1 (by omega) ?_; intro bbRL capRL evRL lcRL; subst evRL
 refine rq4 rfl rfl (mV rfl rfl (mIn (ht) (12) rfl .no (.u rfl) (.u rfl) (fun _=>by omega) (fun _=>by omega) ?_))
 refine mAn (1) ((min ht 12)) rfl .no (.u rfl) (.u rfl) (fun _=>by omega) (fun _=>by omega) ?_
 refine mV rfl rfl (.nil (.code (.block ?_)))
 refine Wk.lop (α:=Nat) (fun k=>[(83,true,.int .i64 ((k:Nat):Int))]) (fun k=>[rS 16 Nd.cells (.slice (some ⟨bbRL,0,none⟩) (xs++[(e,fun _=>0)]).length capRL) 249 (lnkN w xs.length (xs++[(e,fun _=>0)]) k)])
  (fun k Gl=>(k≤ht)) (fun k=>ht-k) 0 [(0,true,_),(4,true,_),(7,true,_),(9,true,_),(82,true,_)] [_,_,_,_]
  (esC rfl (by first|rfl|exact evi (by omega)) (esD rfl (esD rfl (esD rfl (esD rfl (esD rfl eZ))))))
  (mS tk1 rfl (mS .here rfl (mS .here rfl (mS .here rfl (mS .here rfl mN))))) ?_ ?_
 ·(try dsimp only)<;>(first|omega|rfl|assumption|(simp; done))
 intro k N0 Gl0 hN0 hGl0 hF0
 try dsimp only at hF0 hN0 ⊢
 have hk:=hF0
 refine .seq (rq1 rfl rfl (cp rfl .no (.u rfl) (.u rfl) rfl (.nil (.code (.seq (.cond rfl (fun c4=>?_) (fun c4=>?_)))))))
 ·have c4k:=c4
  try simp only [qcA,qcC,qcB] at c4
  refine .skip (.code (.seq (.block (.seq (rq2 rfl rfl (mV rfl rfl (aS rfl rfl (.nil (.code (.seq (Wk.draw (mc:=⟨false,false⟩) [0,1,2,3,4,5,6,7,8,9,10,11,12,13,14,15,16,17,18,19,20,21] Fx.mix (by kernel_rfl) ?_)))))))))))
  refine mV rfl rfl (nc rfl .no (.u rfl) (fz rfl .no Fx.fo225_0 (.u rfl) (ld rfl .no Fx.ag223 (.u rfl) (fun _=>Rd.own tk1 rfl) ?_)))
  refine mV rfl rfl (mV rfl rfl (mV rfl rfl (nc rfl .no (.u rfl) (fz rfl .no Fx.fo225_0 (.u rfl) (ld rfl .no Fx.ag223 (.u rfl) (fun _=>Rd.own tk1 rfl) ?_)))))
  refine mV rfl rfl (iA rfl .no Fx.ar247 (.u rfl) (.u rfl) (fun _=>by omega) (fun _=>by omega) ?_)
  refine ld rfl .no Fx.ag3 (.u rfl) (fun _=>Rd.own tk3 (wA_at (k:=k) (by omega) (by simp))) ?_
  refine mV rfl rfl (ia rfl .no Fx.se223 (.u rfl) (.u rfl) (fun _=>by omega) (fun _=>by have:=hW.lt k (by omega); omega) ?_)
  refine fa rfl .no Fx.fo249_1 (.u rfl) (iA rfl .no Fx.ar247 (.u rfl) (.u rfl) (fun _=>by omega) (fun _=>by omega) ?_)
  refine ld rfl .no Fx.ag3 (.u rfl) (fun _=>Nd.rdo .here (a:=w k) (k:=k) (by (try rw [lnkA_len]); (try simp only [List.length_set]); (try rw [lnkN_len]); have:=hW.lt k (by omega); omega) (by omega) (by simp)) ?_
  refine ia rfl .no Fx.se223 (.u rfl) (.u rfl) (fun _=>by omega) (fun _=>by omega) ?_
  refine fa rfl .no Fx.fo249_1 (.u rfl) (iA rfl .no Fx.ar247 (.u rfl) (.u rfl) (fun _=>by omega) (fun _=>by omega) ?_)
  refine stE (k:=xs.length) (q:=4+k) (e:=(lnkN w xs.length (xs++[(e,fun _=>0)]) k).getD (xs.length) Nd.z) (u:=nsL ((lnkN w xs.length (xs++[(e,fun _=>0)]) k).getD (xs.length) Nd.z) k (nxt (lnkN w xs.length (xs++[(e,fun _=>0)]) k) (w k) k)) rfl (.u rfl) (.u rfl) Fx.sz3 .here (fun y _=>Nd.len y) (getN (by (try rw [lnkA_len]); (try simp only [List.length_set]); (try rw [lnkN_len]); have:=hW.lt k (by omega); omega)) (nsL_cells (by omega)) (by simp; omega) (by omega) rfl ?_
  refine .nil (.code (Wk.draw (mc:=⟨false,false⟩) [0,1,2,3,4,5,6,7,8,9,10,11,12] Fx.mix (by kernel_rfl) ?_))
  refine mV rfl rfl (nc rfl .no (.u rfl) (fz rfl .no Fx.fo225_0 (.u rfl) (ld rfl .no Fx.ag223 (.u rfl) (fun _=>Rd.own tk1 rfl) ?_)))
  refine mV rfl rfl (iA rfl .no Fx.ar247 (.u rfl) (.u rfl) (fun _=>by omega) (fun _=>by omega) ?_)
  refine ld rfl .no Fx.ag3 (.u rfl) (fun _=>Rd.own tk3 (wA_at (k:=k) (by omega) (by simp))) ?_
  refine mV rfl rfl (mV rfl rfl (ia rfl .no Fx.se223 (.u rfl) (.u rfl) (fun _=>by omega) (fun _=>by have:=hW.lt k (by omega); omega) ?_))
  refine fa rfl .no Fx.fo249_1 (.u rfl) (iA rfl .no Fx.ar247 (.u rfl) (.u rfl) (fun _=>by omega) (fun _=>by omega) ?_)
  refine stE (k:=w k) (q:=4+k) (e:=(lnkA w xs.length (lnkN w xs.length (xs++[(e,fun _=>0)]) k) k).getD (w k) Nd.z) (u:=nsL ((lnkA w xs.length (lnkN w xs.length (xs++[(e,fun _=>0)]) k) k).getD (w k) Nd.z) k (xs.length)) rfl (.u rfl) (.u rfl) Fx.sz3 .here (fun y _=>Nd.len y) (getN (by (try rw [lnkA_len]); (try simp only [List.length_set]); (try rw [lnkN_len]); have:=hW.lt k (by omega); omega)) (nsL_cells (by omega)) (by simp; omega) (by omega) rfl ?_
  refine .nil (.blk (.code (rq2 rfl rfl (arn (((k+1):Nat):Int) rfl .no (.u rfl) (.u rfl) rfl (fun _=>by omega) (fun _=>wrap_i64 (by omega) (by omega)) ?_))))
  refine mV rfl rfl (.nil (We.lpo (k+1) ?_ ?_ ?_ ?_ ?_))
  ·exact (esC rfl (by first|rfl|exact evi (by omega)) (esD rfl (esD rfl (esD rfl (esD rfl (esD rfl eZ))))))
  ·exact (mS .here rfl (mS .here rfl (mS .here rfl (mS .here rfl (mS .here rfl mN)))))
  ·first|omega|(dsimp only; omega)
  ·exact hGl0
  (try dsimp only)<;>(first|omega|rfl|assumption|(simp; done))
 have c4k:=c4
 try simp only [qcA,qcC,qcB] at c4
 refine .exit (.xcode (.xlp (.xblk (.code (.seq (Wk.draw (mc:=⟨false,false⟩) [0,1,2,3,4,5,6,7,8,9,10,11,12,13,14,15] Fx.mix (by kernel_rfl) ?_))))))
 refine mV rfl rfl (nc rfl .no (.u rfl) (fz rfl .no Fx.fo225_1 (.u rfl) (ld rfl .no Fx.ag3 (.u rfl) (fun _=>Rd.own tk1 (by first|exact wap_f rfl|rfl)) ?_)))
 refine fz rfl .no Fx.fo179_0 (.u rfl) (ld rfl .no Fx.ag9 (.u rfl) (fun _=>Rd.own tk4 (by first|exact wap_f rfl|rfl)) ?_)
 refine ls rfl .no Fx.st9 (.u rfl) (fz rfl .no Fx.fo179_3 (.u rfl) (ld rfl .no Fx.ag9 (.u rfl) (fun _=>Rd.own tk4 (by first|exact wap_f rfl|rfl)) ?_))
 refine ls rfl .no Fx.st9 (.u rfl) (arn (((e.user.size+e.value.size):Nat):Int) rfl .no (.u rfl) (.u rfl) rfl (fun _=>by omega) (fun _=>wrap_i64 (by omega) (by omega)) ?_)
 refine arn (((e.user.size+e.value.size+8):Nat):Int) rfl .no (.u rfl) (.u rfl) rfl (fun _=>by omega) (fun _=>wrap_i64 (by omega) (by omega)) ?_
 refine arn (((sz+(e.user.size+e.value.size+8)):Nat):Int) rfl .no (.u rfl) (.u rfl) rfl (fun _=>by omega) (fun _=>wrap_i64 (by omega) (by omega)) ?_
 refine nc rfl .no (.u rfl) (fz rfl .no Fx.fo225_1 (.u rfl) (s1 rfl (.u rfl) (.u rfl) rfl Fx.sz3 tk1 (by first|decide|(simp [wA_len]; done)) (rfl) ?_))
 refine .nil (.code (.seq (rq1 rfl rfl (aS rfl rfl (.nil (.code (.ret (We.fin Tryz.results235 (.tmp rfl .nil) (mS .here rfl (mS .here rfl mN)) ?_))))))))
 obtain rfl:k=ht:=by omega
 exact ⟨bbRL,capRL,rfl,rfl⟩
end Go.Proofs.YtoifkgkandfeiaaGreatDoor
namespace Go.Proofs.YtoifkgkandfeiaaGreatDoor
open Go.Tan Go.RowKit Go.Maps Go.Sort Go.Shelf
def Tryz.keys235_ren:Go.Shelf.Ren:=⟨fun | 7=>92 | 10=>143 | n=>n,fun | 23=>116 | 26=>9 | 3=>124 | 28=>170 | 0=>0 | 27=>169 | 33=>57 | 4=>4 | n=>n,fun | n=>n⟩
theorem Tryz.keys235:Go.Proofs.SlLaysZ.n7 Tryz.prog Tryz.keys235_ren:={
 mixed:=by kernel_rfl
 f7:=⟨"maps.Keys[map[string]tantalus/disk.file,string,tantalus/disk.file]",by decide,Tryz.func92.trans (congrArg some (by kernel_rfl))⟩
 f10:=⟨"maps.Keys[map[string]tantalus/disk.file,string,tantalus/disk.file]$1",by decide,Tryz.func143.trans (congrArg some (by kernel_rfl))⟩
 t0:=Tryz.underlying0
 a0:=Tryz.isAgg0
 z0:=Tryz.sizeOf0
 v0:=Tryz.zeroValue0
 t4:=Tryz.underlying4
 a4:=Tryz.isAgg4
 z4:=Tryz.sizeOf4
 v4:=Tryz.zeroValue4
 t23:=Tryz.underlying116
 a23:=Tryz.isAgg116
 z23:=Tryz.sizeOf116
 v23:=Tryz.zeroValue116
 t26:=Tryz.underlying9
 a26:=Tryz.isAgg9
 z26:=Tryz.sizeOf9
 v26:=Tryz.zeroValue9
 t27:=Tryz.underlying169
 a27:=Tryz.isAgg169
 z27:=Tryz.sizeOf169
 v27:=Tryz.zeroValue169
 t28:=Tryz.underlying170
 a28:=Tryz.isAgg170
 z28:=Tryz.sizeOf170
 v28:=Tryz.zeroValue170
 t33:=Tryz.underlying57
 a33:=Tryz.isAgg57
 z33:=Tryz.sizeOf57
 v33:=Tryz.zeroValue57 }
def Tryz.sorted234_ren:Go.Shelf.Ren:=⟨fun | 6=>91 | 8=>141 | 9=>142 | 11=>210 | 13=>212 | 12=>211 | 23=>305 | 24=>250 | 14=>296 | 15=>297 | 16=>298 | 17=>299 | 18=>300 | 19=>301 | 20=>302 | 21=>303 | 22=>304 | 25=>343 | 26=>344 | 27=>345 | 28=>346 | 29=>347 | 30=>339 | 31=>382 | n=>n,fun | 26=>9 | 28=>170 | 24=>97 | 0=>0 | 3=>3 | 37=>206 | 48=>344 | 50=>23 | 4=>4 | 40=>411 | 39=>410 | 45=>212 | 5=>5 | 9=>9 | 51=>454 | 55=>457 | 57=>495 | 58=>496 | 33=>57 | n=>n,fun | n=>n⟩
theorem Tryz.sorted234:Go.Proofs.SlLaysZ.n6 Tryz.prog Tryz.sorted234_ren:={
 mixed:=by kernel_rfl
 f6:=⟨"slices.Sorted[string]",by decide,Tryz.func91.trans (congrArg some (by kernel_rfl))⟩
 f8:=⟨"slices.Collect[string]",by decide,Tryz.func141.trans (congrArg some (by kernel_rfl))⟩
 f11:=⟨"slices.AppendSeq[[]string,string]",by decide,Tryz.func210.trans (congrArg some (by kernel_rfl))⟩
 t0:=Tryz.underlying0
 a0:=Tryz.isAgg0
 z0:=Tryz.sizeOf0
 v0:=Tryz.zeroValue0
 t24:=Tryz.underlying97
 a24:=Tryz.isAgg97
 z24:=Tryz.sizeOf97
 v24:=Tryz.zeroValue97
 t26:=Tryz.underlying9
 a26:=Tryz.isAgg9
 z26:=Tryz.sizeOf9
 v26:=Tryz.zeroValue9
 t28:=Tryz.underlying170
 a28:=Tryz.isAgg170
 z28:=Tryz.sizeOf170
 v28:=Tryz.zeroValue170
 i26:=by kernel_rfl }
def Tryz.sort263_ren:Go.Shelf.Ren:=⟨fun | 6=>142 | 8=>212 | 9=>211 | 19=>305 | 20=>250 | 21=>296 | 22=>297 | 23=>298 | 24=>299 | 25=>300 | 26=>301 | 27=>302 | 28=>303 | 29=>304 | 36=>343 | 31=>344 | 32=>345 | 37=>346 | 38=>347 | 39=>339 | 41=>382 | n=>n,fun | 27=>97 | 29=>9 | 3=>3 | 32=>206 | 26=>97 | 0=>0 | 44=>344 | 46=>23 | 4=>4 | 36=>411 | 35=>410 | 41=>212 | 5=>5 | 9=>9 | 53=>454 | 57=>457 | 63=>495 | 64=>496 | n=>n,fun | n=>n⟩
theorem Tryz.sort263:Go.Proofs.SlLaysM.n6 Tryz.prog Tryz.sort263_ren:={
 mixed:=by kernel_rfl
 f6:=⟨"slices.Sort[[]string,string]",by decide,Tryz.func142.trans (congrArg some (by kernel_rfl))⟩
 f8:=Tryz.func212.trans (congrArg some (by kernel_rfl))
 f9:=⟨"slices.pdqsortOrdered[string]",by decide,Tryz.func211.trans (congrArg some (by kernel_rfl))⟩
 f19:=Tryz.func305.trans (congrArg some (by kernel_rfl))
 f20:=Tryz.func250.trans (congrArg some (by kernel_rfl))
 f21:=⟨"slices.insertionSortOrdered[string]",by decide,Tryz.func296.trans (congrArg some (by kernel_rfl))⟩
 f22:=⟨"slices.heapSortOrdered[string]",by decide,Tryz.func297.trans (congrArg some (by kernel_rfl))⟩
 f23:=⟨"slices.breakPatternsOrdered[string]",by decide,Tryz.func298.trans (congrArg some (by kernel_rfl))⟩
 f24:=⟨"slices.choosePivotOrdered[string]",by decide,Tryz.func299.trans (congrArg some (by kernel_rfl))⟩
 f25:=⟨"slices.reverseRangeOrdered[string]",by decide,Tryz.func300.trans (congrArg some (by kernel_rfl))⟩
 f26:=⟨"slices.partialInsertionSortOrdered[string]",by decide,Tryz.func301.trans (congrArg some (by kernel_rfl))⟩
 f27:=⟨"cmp.Less[string]",by decide,Tryz.func302.trans (congrArg some (by kernel_rfl))⟩
 f28:=⟨"slices.partitionEqualOrdered[string]",by decide,Tryz.func303.trans (congrArg some (by kernel_rfl))⟩
 f29:=⟨"slices.partitionOrdered[string]",by decide,Tryz.func304.trans (congrArg some (by kernel_rfl))⟩
 f31:=Tryz.func344.trans (congrArg some (by kernel_rfl))
 f32:=Tryz.func345.trans (congrArg some (by kernel_rfl))
 f36:=⟨"slices.siftDownOrdered[string]",by decide,Tryz.func343.trans (congrArg some (by kernel_rfl))⟩
 f37:=⟨"slices.medianAdjacentOrdered[string]",by decide,Tryz.func346.trans (congrArg some (by kernel_rfl))⟩
 f38:=⟨"slices.medianOrdered[string]",by decide,Tryz.func347.trans (congrArg some (by kernel_rfl))⟩
 f39:=⟨"cmp.isNaN[string]",by decide,Tryz.func339.trans (congrArg some (by kernel_rfl))⟩
 f41:=⟨"slices.order2Ordered[string]",by decide,Tryz.func382.trans (congrArg some (by kernel_rfl))⟩
 t0:=Tryz.underlying0
 a0:=Tryz.isAgg0
 z0:=Tryz.sizeOf0
 v0:=Tryz.zeroValue0
 t3:=Tryz.underlying3
 a3:=Tryz.isAgg3
 z3:=Tryz.sizeOf3
 v3:=Tryz.zeroValue3
 t4:=Tryz.underlying4
 a4:=Tryz.isAgg4
 z4:=Tryz.sizeOf4
 v4:=Tryz.zeroValue4
 t5:=Tryz.underlying5
 a5:=Tryz.isAgg5
 z5:=Tryz.sizeOf5
 v5:=Tryz.zeroValue5
 t9:=Tryz.underlying9
 a9:=Tryz.isAgg9
 z9:=Tryz.sizeOf9
 v9:=Tryz.zeroValue9
 t26:=Tryz.underlying97
 a26:=Tryz.isAgg97
 z26:=Tryz.sizeOf97
 v26:=Tryz.zeroValue97
 t27:=Tryz.underlying97
 a27:=Tryz.isAgg97
 z27:=Tryz.sizeOf97
 v27:=Tryz.zeroValue97
 t29:=Tryz.underlying9
 a29:=Tryz.isAgg9
 z29:=Tryz.sizeOf9
 v29:=Tryz.zeroValue9
 t32:=Tryz.underlying206
 a32:=Tryz.isAgg206
 z32:=Tryz.sizeOf206
 v32:=Tryz.zeroValue206
 t35:=Tryz.underlying410
 a35:=Tryz.isAgg410
 z35:=Tryz.sizeOf410
 v35:=Tryz.zeroValue410
 t36:=Tryz.underlying411
 a36:=Tryz.isAgg411
 z36:=Tryz.sizeOf411
 v36:=Tryz.zeroValue411
 t41:=Tryz.underlying212
 a41:=Tryz.isAgg212
 z41:=Tryz.sizeOf212
 v41:=Tryz.zeroValue212
 t44:=Tryz.underlying344
 a44:=Tryz.isAgg344
 z44:=Tryz.sizeOf344
 v44:=Tryz.zeroValue344
 t46:=Tryz.underlying23
 a46:=Tryz.isAgg23
 z46:=Tryz.sizeOf23
 v46:=Tryz.zeroValue23
 t53:=Tryz.underlying454
 a53:=Tryz.isAgg454
 z53:=Tryz.sizeOf454
 v53:=Tryz.zeroValue454
 t57:=Tryz.underlying457
 a57:=Tryz.isAgg457
 z57:=Tryz.sizeOf457
 v57:=Tryz.zeroValue457
 t63:=Tryz.underlying495
 a63:=Tryz.isAgg495
 z63:=Tryz.sizeOf495
 v63:=Tryz.zeroValue495
 t64:=Tryz.underlying496
 a64:=Tryz.isAgg496
 z64:=Tryz.sizeOf496
 v64:=Tryz.zeroValue496 }
theorem Tryz.sorts234 (m:Nat):AnyZ.SortsIn Tryz.prog Tryz.sorted234_ren Fence.wide m :=
 ⟨fun blk off cap ss W hH hblk hsz=>callsIn_wide.2 (AnyM.slices_Sort_string Tryz.sort263 blk off cap ss W hH hblk hsz),
  fun p cap W=>callsIn_wide.2 (AnyM.slices_Sort_string_none Tryz.sort263 p cap W)⟩
theorem keysF_ok (mb:Nat) (G:PM):Ct Tryz.prog 92 #[.map (some mb)] G [] (fun _ μ' u=>∃ bk,μ'=[.blk bk (cl [.map (some mb)] 116)]∧u=.func (.func 143) #[] #[.pointer (some ⟨bk,0,none⟩)]):=fun w hs=>by
 refine (callsIn_wide.1 (AnyZ.keys_in Tryz.keys235 Fence.wide 5 trivial rfl (some mb) w)).mono ?_
 rintro e w' ⟨rfl,rfl⟩
 exact ⟨_,G,_,rfl,(Tr.begin (μ:=[]) hs).alloc _,w.heap.size,rfl,rfl⟩
theorem key_of_ins {l:List (Lit×DataW Unit)}:∀ {y},y∈l.foldr DataW.insert []→y∈l:=by
 induction l with
 | nil=>intro y h; exact h
 | cons x r ih =>
  intro y h
  rcases ChangeMaps.mem_insert_iff.1 h with rfl | h
  ·exact List.mem_cons_self ..
  ·exact List.mem_cons_of_mem _ (ih h)
theorem ins_len {l:List (Lit×DataW Unit)}:(l.foldr DataW.insert []).length=l.length:=by
 have h1:∀ (x:Lit×DataW Unit) (r:List (Lit×DataW Unit)),(DataW.insert x r).length=r.length+1:=by
  intro x r
  induction r with
  | nil=>rfl
  | cons y r ih=>rw [DataW.insert]; split<;>simp [ih]
 induction l with
 | nil=>rfl
 | cons x r ih=>rw [List.foldr_cons,h1,ih]; rfl
theorem rd_fe {f:Fi} (h:f.nm.size≤100):WideElems.rd (H:=Unit) Tryz.prog 9 (fun _=>some (.nil,[])) (mE f.fe)=some (.string f.nm.data.toList,.nil):=by
 unfold WideElems.rd
 rw [show (mE f.fe).key=.string f.nm from rfl,Go.WideMaps.keyOf_string_mk Tryz.underlying9 (by unfold maxLen; omega)]
 rfl
theorem sortedF_ok (bk bm clk:Nat) (F:List Fi) (G:PM) (hD:DkR F clk) (hbk:PB G bk (cl [.map (some bm)] 116)) (hbm:PB G bm (mO (F.map Fi.fe) clk)) :
  Ct Tryz.prog 91 #[.func (.func 143) #[] #[.pointer (some ⟨bk,0,none⟩)]] G [] (fun _ μ' u=>∃ L:List ByteArray,(∀ s∈L,s∈F.map Fi.nm)∧L.length≤1000∧μ'=[rS 1 encT u 9 L]):=fun w hs=>by
 have hk:w.heap[bk]? = some (cl [.map (some bm)] 116):=hs.sub _ _ hbk.h
 have hm:w.heap[bm]? = some (mO (F.map Fi.fe) clk):=hs.sub _ _ hbm.h
 have hc:=hD.cnt
 have hown:w.ownsMap (H:=Unit) Tryz.prog 9 (fun _=>some (.nil,[])) bm F.length (.map ((((F.map Fi.fe).map mE).map (WideElems.rg Tryz.prog 9 (fun _=>some (.nil,[])))).foldr DataW.insert [])):=by
  refine ⟨((F.map Fi.fe).map mE).toArray,clk,hm,⟨by simp [maxLen]; omega,⟨fun x hx=>?_,?_,?_⟩,fun x hx=>?_⟩,by simp,rfl⟩
  ·simp only [List.mem_map] at hx
   obtain ⟨_,⟨f,hf,rfl⟩,rfl⟩:=hx
   exact hD.old f hf
  ·have:((F.map Fi.fe).map mE).map (·.born)=F.map Fi.born:=by simp [Function.comp_def,mE,Fi.fe]
   rw [show ((F.map Fi.fe).map mE).toArray.toList=(F.map Fi.fe).map mE from rfl,this]; exact hD.nd
  ·have:((F.map Fi.fe).map mE).map (·.key)=(F.map Fi.nm).map Value.string:=by simp [Function.comp_def,mE,Fi.fe]
   rw [show ((F.map Fi.fe).map mE).toArray.toList=(F.map Fi.fe).map mE from rfl,this]
   exact List.Pairwise.map _ (fun a b h e=>h (Value.string.inj e)) hD.un
  simp only [List.mem_map] at hx
  obtain ⟨_,⟨f,hf,rfl⟩,rfl⟩:=hx
  exact ⟨_,rd_fe (hD.gn f hf)⟩
 have hsz:Maps.size (DataW.map ((((F.map Fi.fe).map mE).map (WideElems.rg (H:=Unit) Tryz.prog 9 (fun _=>some (.nil,[])))).foldr DataW.insert []))=F.length:=by
  show List.length _=_
  rw [ins_len]; simp
 have hcell:w.cell? ⟨bk,0,none⟩=some (.map (some bm)):=by simp [World.cell?,hk,cl]
 have hseq:=AnyZ.keys_gives (ρ:=Tryz.keys235_ren) { Tryz.keys235 with } Fence.wide 2 trivial rfl (by omega) bk bm F.length _ w (Array.getElem?_eq_some_iff.1 hk).1 hcell hown
 refine (callsIn_wide.1 (AnyZ.sorted_in Tryz.sorted234 Fence.wide 5 trivial trivial trivial trivial rfl (by omega) (Tryz.sorts234 _) (enters_of Tryz.func142 (by kernel_rfl) rfl) 143 #[.pointer (some ⟨bk,0,none⟩)] trivial (enters_of Tryz.func143 (by kernel_rfl) rfl) _ _ (by rw [hsz]; unfold maxLen; omega) (by rw [hsz]; omega) _ hseq)).mono ?_
 rintro e w' ⟨v,ss,rfl,hS,hrow,hnil,hb⟩
 obtain ⟨L,hL⟩ : ∃ L:List ByteArray,L=(ss.mergeSort (fun x y=>decide (x≤y))).map fun l=>⟨l.toArray⟩:=⟨_,rfl⟩
 have hLl:L.length=ss.length:=by rw [hL,List.length_map,List.length_mergeSort]
 have hLe:(ss.mergeSort (fun x y=>decide (x≤y))).map encStr=L.flatMap encT:=by
  rw [hL]
  generalize ss.mergeSort (fun x y=>decide (x≤y))=q
  induction q with
  | nil=>rfl
  | cons x r ih=>simp only [List.map_cons,List.flatMap_cons,ih,encT,List.singleton_append]
 rw [hLe,←hLl] at hrow
 have hmem:∀ s∈L,s∈F.map Fi.nm:=fun s hsm=>by
  rw [hL] at hsm
  obtain ⟨l,hl,rfl⟩:=List.mem_map.1 hsm
  have h1:l∈ss:=List.mem_mergeSort.1 hl
  have h2:=hS.mem_iff.1 h1
  obtain ⟨p,hp,rfl⟩:=List.mem_map.1 h2
  obtain ⟨x,hx,rfl⟩:=List.mem_map.1 (key_of_ins hp)
  simp only [List.mem_map] at hx
  obtain ⟨_,⟨f,hf,rfl⟩,rfl⟩:=hx
  rw [WideElems.rg_of (rd_fe (hD.gn f hf))]
  exact List.mem_map.2 ⟨f,hf,by simp [strOf]⟩
 have hlen:L.length≤1000:=by
  rw [hLl,hS.length_eq]
  have:(strKeys (DataW.map ((((F.map Fi.fe).map mE).map (WideElems.rg (H:=Unit) Tryz.prog 9 (fun _=>some (.nil,[])))).foldr DataW.insert []))).length=F.length:=by rw [← hsz]; exact List.length_map _
  omega
 have hsub:∀ b o,G b=some o→w'.heap[b]? = some o:=fun b o hbo=>by
  have h1:=hs.sub b o hbo
  rw [hb.block b (Array.getElem?_eq_some_iff.1 h1).1]; exact h1
 have hkeys:∀ b∈keys [rS 1 encT v 9 L],w.heap.size≤b:=fun b hbk'=>by
  simp only [keys,Res.keys,List.flatMap_cons,List.flatMap_nil,List.append_nil] at hbk'
  rcases hrow.2 with ⟨rfl,_⟩ | ⟨g,cap,cur,rfl,hg,_⟩
  ·simp [Value.ownBlock] at hbk'
  simp [Value.ownBlock] at hbk'; omega
 refine ⟨v,G,_,rfl,⟨⟨hsub,fun r hr=>?_,fun b hbk'=>?_,?_⟩,hb.os,hb.tape,hb.output,hb.size,fun b hbl _=>⟨hb.block b hbl,rfl⟩,fun b hbk'=>.inr (hkeys b hbk'),fun _ _ _ h=>h⟩,L,hmem,hlen,rfl⟩
 ·rw [List.mem_singleton.1 hr]
  refine ⟨hrow.1,hrow.2.imp id ?_⟩
  rintro ⟨g,cap,cur,h1,h2,h3⟩
  exact ⟨g,cap,cur,h1,Nat.zero_le _,h3⟩
 ·cases hG:G b with
  | none=>rfl
  | some o =>
   have h1:=(Array.getElem?_eq_some_iff.1 (hs.sub b o hG)).1
   have h2:=hkeys b hbk'
   omega
 simp only [keys,Res.keys,List.flatMap_cons,List.flatMap_nil,List.append_nil]
 cases v.ownBlock<;>simp
end Go.Proofs.YtoifkgkandfeiaaGreatDoor
namespace Go.Proofs.YtoifkgkandfeiaaGreatDoor
open Go.Tan Go.RowKit Go.Maps Go.Sort Go.Shelf
namespace FxGrU
theorem sn279:(slE Tryz.prog 279).isSome=true:=by kernel_rfl
theorem cv5_3:cvK Tryz.prog 5 3=some .i64:=by kernel_rfl
end FxGrU
namespace Fx
theorem ag279:aggN Tryz.prog 279=some none:=by kernel_rfl
theorem go250:goFn Tryz.prog 250=true:=by kernel_rfl
theorem go370:goFn Tryz.prog 370=true:=by kernel_rfl
theorem go212:goFn Tryz.prog 212=true:=by kernel_rfl
theorem go337:goFn Tryz.prog 337=true:=by kernel_rfl
end Fx
theorem vals1_ok (y:Value) (bk:Nat) (G:PM) (hbk:PB G bk (cl [.slice none 0 0] 279)):Ct Tryz.prog 280 ([y,.pointer (some ⟨bk,0,none⟩)]:List Value).toArray G [] (fun _ μ' u=>μ'=[]∧u=.tuple #[]):=by
 refine Ct.of Tryz.func280 rfl Tryz.ntmps280 rfl fun w0 hs0=>?_
 refine .seq (rq3 rfl rfl (ld rfl .no Fx.ag279 (.u rfl) (fun _=>(hbk.rd (rfl)).rd) ?_))
 refine ln rfl .no FxGrU.sn279 (.u rfl) (mV rfl rfl (.nil (.code (.block ?_))))
 refine Wk.lop (α:=Nat) (fun k=>[(7,true,.int .i64 ((k:Nat):Int))]) (fun _=>[])
  (fun k Gl=>(k=0)) (fun k=>0) 0 [(0,true,_),(5,true,_),(6,true,_)] []
  (esC rfl (by first|rfl|exact evi (by omega)) (esD rfl (esD rfl (esD rfl eZ))))
  mN ?_ ?_
 ·(try dsimp only)<;>(first|omega|rfl|assumption|(simp; done))
 intro k N0 Gl0 hN0 hGl0 hF0
 try dsimp only at hF0 hN0 ⊢
 have hk:=hF0
 refine .seq (rq1 rfl rfl (cp rfl .no (.u rfl) (.u rfl) rfl (.nil (.code (.seq (.cond rfl (fun c1=>?_) (fun c1=>?_)))))))
 ·have c1k:=c1
  subst hk; exact absurd c1 (by decide)
 have c1k:=c1
 try simp only [qcA,qcB] at c1
 refine .exit (.xcode (.xlp (.xblk (.nil (We.fin0 Tryz.results280 .nil ?_)))))
 exact ⟨rfl,rfl⟩
theorem vals_ok (G:PM):Ct Tryz.prog 201 ([.slice none 0 0]:List Value).toArray G [] (fun _ μ' u=>∃ bk,μ'=[.blk bk (cl [.slice none 0 0] 279)]∧u=.func (.func 280) #[] #[.pointer (some ⟨bk,0,none⟩)]):=by
 refine Ct.of Tryz.func201 rfl Tryz.ntmps201 rfl fun w0 hs0=>?_
 refine .seq (rq2 rfl rfl ?_)
 refine bx rfl (.u rfl) rfl ?_; intro b1
 refine aS rfl rfl (.nil (.code (.seq (rq2 rfl rfl (mf (vf:=#[]) (vc:=[Value.pointer (some ⟨b1,0,none⟩)].toArray) rfl .no (fun a ha _=>by simp) (fun a ha _=>by simp [(Ev.u (c:=true) rfl:Ev _ true (.tmp 1) _).eval ha rfl]) ?_)))))
 refine aS rfl rfl (.nil (.code (.ret (We.fin Tryz.results201 (.tmp rfl .nil) (mS .here rfl mN) ?_))))
 exact ⟨b1,rfl,rfl⟩
theorem len64_ok (G:PM):Ct Tryz.prog 250 ([.int .u64 0]:List Value).toArray G [] (fun _ μ' u=>μ'=[]):=by
 refine Ct.of Tryz.func250 rfl Tryz.ntmps250 rfl fun w0 hs0=>?_
 refine .seq (rq1 rfl rfl (aS rfl rfl (.nil (.code (.seq (.seq (rq2 rfl rfl (mV rfl rfl (cp rfl .no (.u rfl) (.u rfl) rfl (.nil (.code (.cond rfl (fun c1=>?_) (fun c1=>?_)))))))))))))
 ·have c1k:=c1
  exact absurd c1 (by decide)
 have c1k:=c1
 try simp only [qcA,qcC,qcB] at c1
 refine .skip (.code (.seq (.seq (rq2 rfl rfl (mV rfl rfl (cp rfl .no (.u rfl) (.u rfl) rfl (.nil (.code (.cond rfl (fun c2=>?_) (fun c2=>?_))))))))))
 ·have c2k:=c2
  exact absurd c2 (by decide)
 have c2k:=c2
 try simp only [qcA,qcC,qcB] at c2
 refine .skip (.code (.seq (.seq (rq2 rfl rfl (mV rfl rfl (cp rfl .no (.u rfl) (.u rfl) rfl (.nil (.code (.cond rfl (fun c3=>?_) (fun c3=>?_))))))))))
 ·have c3k:=c3
  exact absurd c3 (by decide)
 have c3k:=c3
 try simp only [qcA,qcC,qcB] at c3
 refine .skip (.code (.seq (rq7 rfl rfl (mV rfl rfl (mV rfl rfl (cv rfl .no Fx.cv23_5 (.u rfl) (sI 0 rfl .no FxGrQ.st9 (.u rfl) (.u rfl) (fun _=>rfl) (fun _=>of_decide_eq_true (by kernel_rfl)) ?_)))))))
 refine cv rfl .no FxGrU.cv5_3 (.u rfl) (aw rfl .no (.u rfl) (.u rfl) rfl (aS rfl rfl (.nil (.code (.ret (We.fin0 Tryz.results250 (.tmp rfl .nil) ?_))))))
 exact rfl
theorem blen_ok (G:PM):Ct Tryz.prog 212 ([.int .u64 0]:List Value).toArray G [] (fun _ μ' u=>μ'=[]):=by
 refine Ct.of Tryz.func212 rfl Tryz.ntmps212 rfl fun w0 hs0=>?_
 refine .seq (rq1 rfl rfl (aS rfl rfl (.nil (.code (.seq (.cond rfl (fun c1=>?_) (fun c1=>?_)))))))
 ·exact absurd c1 (by decide)
 try simp only [qcA,qcB] at c1
 refine .skip (.code (.seq (rq3 rfl rfl (mV rfl rfl (kc rfl Fx.go250 (Evc rfl Evn) (len64_ok _) ?_)))))
 rintro v7 G7 μ7 hG7 rfl
 refine aS rfl rfl (.nil (.code (.ret (We.fin0 Tryz.results212 (.tmp rfl .nil) ?_))))
 exact rfl
theorem ins0_ok (G:PM):Ct Tryz.prog 370 ([.slice none 0 0,.int .i64 0,.int .i64 0]:List Value).toArray G [] (fun _ μ' u=>μ'=[]∧u=.tuple #[]):=by
 refine Ct.of Tryz.func370 rfl Tryz.ntmps370 rfl fun w0 hs0=>?_
 refine .seq (rq3 rfl rfl (mV rfl rfl (arn (((0+1):Nat):Int) rfl .no (.u rfl) (.u rfl) rfl (fun _=>by omega) (fun _=>wrap_i64 (by omega) (by omega)) ?_)))
 refine aS rfl rfl (.nil (.code (.block ?_)))
 refine Wk.lop (α:=Nat) (fun k=>[(6,true,.int .i64 ((k:Nat):Int))]) (fun _=>[])
  (fun k Gl=>(k=1)) (fun k=>0) 1 [(0,true,_),(1,true,_),(2,true,_)] []
  (esC rfl (by first|rfl|exact evi (by omega)) (esD rfl (esD rfl (esD rfl eZ))))
  mN ?_ ?_
 ·(try dsimp only)<;>(first|omega|rfl|assumption|(simp; done))
 intro k N0 Gl0 hN0 hGl0 hF0
 try dsimp only at hF0 hN0 ⊢
 have hk:=hF0
 refine .seq (.seq (rq3 rfl rfl (mV rfl rfl (mV rfl rfl (cp rfl .no (.u rfl) (.u rfl) rfl (.nil (.code (.cond rfl (fun c1=>?_) (fun c1=>?_)))))))))
 ·have c1k:=c1
  subst hk; exact absurd c1 (by decide)
 have c1k:=c1
 try simp only [qcA,qcB] at c1
 refine .exit (.xcode (.xlp (.xblk (.nil (We.fin0 Tryz.results370 .nil ?_)))))
 exact ⟨rfl,rfl⟩
theorem pdq0_ok (v:Value) (G:PM):Ct Tryz.prog 337 ([.slice none 0 0,.int .i64 0,.int .i64 0,v]:List Value).toArray G [] (fun _ μ' u=>μ'=[]∧u=.tuple #[]):=by
 refine Ct.of Tryz.func337 rfl Tryz.ntmps337 rfl fun w0 hs0=>?_
 refine .seq (rq1 rfl rfl (aS rfl rfl (.nil (.code (.seq (rq1 rfl rfl (aS rfl rfl (.nil (.code (.block ?_))))))))))
 refine Wk.lop (α:=Nat) (fun k=>[(1,true,.int .i64 0),(2,true,.int .i64 0),(3,true,v),(8,true,.bool true),(9,true,.bool true)]) (fun _=>[])
  (fun k Gl=>True) (fun k=>0) 0 [(0,true,_)] []
  (esC rfl (by first|rfl|exact evi (by omega)) (esC rfl (by first|rfl|exact evi (by omega)) (esD rfl (esD rfl (esD rfl (esD rfl eZ))))))
  mN ?_ ?_
 ·trivial
 intro k N0 Gl0 hN0 hGl0 hF0
 try dsimp only at hF0 hN0 ⊢
 refine .block (.seq (rq4 rfl rfl (mV rfl rfl (mV rfl rfl (ar rfl .no (.u rfl) (.u rfl) rfl (fun _=>wrap_i64 (by omega) (by omega)) ?_)))))
 refine aS rfl rfl (.nil (.code (.seq (.seq (rq2 rfl rfl (mV rfl rfl (cp rfl .no (.u rfl) (.u rfl) rfl (.nil (.code (.cond rfl (fun c1=>?_) (fun c1=>?_)))))))))))
 ·have c1k:=c1
  try simp only [qcA,qcB] at c1
  refine .seq (rq4 rfl rfl (mV rfl rfl (mV rfl rfl (mV rfl rfl (kv rfl .no Fx.go370 (Evc rfl (Evc rfl (Evc rfl Evn))) (fun _=>ins0_ok _) ?_)))))
  refine .nil (.code (.ret (We.fin0 Tryz.results337 .nil ?_)))
  exact ⟨rfl,rfl⟩
 have c1k:=c1
 exact absurd c1 (by decide)
theorem sort0_ok (G:PM):Ct Tryz.prog 279 ([.slice none 0 0]:List Value).toArray G [] (fun _ μ' u=>μ'=[]∧u=.tuple #[]):=by
 refine Ct.of Tryz.func279 rfl Tryz.ntmps279 rfl fun w0 hs0=>?_
 refine .seq (rq3 rfl rfl (mV rfl rfl (ln rfl .no FxGrU.sn279 (.u rfl) (aS rfl rfl (.nil (.code (rq6 rfl rfl (mV rfl rfl (mV rfl rfl (mV rfl rfl (cw rfl .no Fx.cv3_206 (.u rfl) (fun _=>wrap_u64 (by omega) (by omega)) ?_)))))))))))
 refine kc rfl Fx.go212 (Evc rfl Evn) (blen_ok _) ?_
 rintro v9 G9 μ9 hG9 rfl
 refine kv rfl .no Fx.go337 (Evc rfl (Evc rfl (Evc rfl (Evc rfl Evn)))) (fun _=>pdq0_ok _ _) ?_
 refine .nil (.nil (We.fin0 Tryz.results279 .nil ?_))
 exact ⟨rfl,rfl⟩
theorem rangeNone {P:Program} {g:Operand} {ps:Array Tmp} {assign body:Code} {Q:Exit→Act→World→Prop} {a:Act} {w:World} {gf:Nat} {lb:Array Value} (hg:a.eval g=.func (.func gf) #[] lb)
  (eg:∀ args w,(callFunc gf args).run P w=.ok (.enter gf args) w)
  (hcall:∀ l W,Below w.heap.size w W→Calls P gf (#[.func (.yield l) #[] #[]]++lb) W fun e W'=>(∃ v,e=.returned v)∧Below W.heap.size W W')
  (hQ:∀ D W,Below w.heap.size w W→w.heap.size≤D→W.heap[D]? = some (.deferred (some []))→Q .normal { a with defers:={ target:=.collected D,args:=#[] } :: a.defers } W) :
  (Code.rangeFunc g ps assign body).wpIn Fence.wide 5 P Q a w:=by
 refine wpIn_rangeFunc fun fn hfn=>?_
 obtain ⟨lp,hlp⟩ : ∃ lp:Loop,lp = { state:=.ready,pending:=none,fn,tmps:=a.tmps,params:=ps,assign,body,defers:=w.heap.size }:=⟨_,rfl⟩
 obtain ⟨W1,hW1⟩ : ∃ W1,(w.alloc (.deferred (some []))).alloc (.loop lp)=W1:=⟨_,rfl⟩
 have hL1:W1.heap[w.heap.size+1]? = some (.loop lp):=by
  rw [← hW1]; have:=World.alloc_heap_new (w.alloc (.deferred (some []))) (.loop lp); rwa [World.size_alloc] at this
 have hK1:W1.heap[w.heap.size]? = some (.deferred (some [])):=by
  rw [← hW1]; exact (Below.heap_alloc _ _ _ (by simp)).trans (World.alloc_heap_new w _)
 have hb1:Below w.heap.size w W1:=by
  rw [← hW1]; exact ((Below.refl _ w).alloc (Nat.le_refl _) _).alloc (by simp) _
 refine ⟨w.heap.size+1,[{ target:=.collected w.heap.size,args:=#[] }],W1,{ target:=.fn (.func gf) lb,args:=#[.func (.yield (w.heap.size+1)) #[] #[]] },W1,gf, #[.func (.yield (w.heap.size+1)) #[] #[]]++lb,W1,?_,?_,?_,?_,fun _=>by omega,?_⟩
 ·rw [← hW1,hlp]; exact run_enterLoop_outer _ _ _ _ _
 ·simp only [resolve,hg]; simp [go_sem]
 ·intro f' _; trivial
 ·simp [invoke,go_sem,eg]
 refine callsIn_wide.2 ((hcall _ W1 hb1).mono ?_)
 rintro e W2 ⟨⟨v,rfl⟩,hb2⟩
 have hL2:W2.heap[w.heap.size+1]? = some (.loop lp):=(hb2.block _ (Array.getElem?_eq_some_iff.1 hL1).1).trans hL1
 have hK2:W2.heap[w.heap.size]? = some (.deferred (some [])):=(hb2.block _ (Array.getElem?_eq_some_iff.1 hK1).1).trans hK1
 have hend:=run_endLoop (P:=P) hL2 (by rw [hlp]; simp)
 have hpe:lp.pending=none:=by rw [hlp]
 rw [hpe] at hend
 have hb12:Below w.heap.size w W2:=hb1.trans (hb2.mono hb1.size)
 refine ⟨none,_,hend,hQ w.heap.size _ (hb12.grown (grownBy_putObj_a _ _ _) hb12.size (fun k e=>by cases e; omega)) (Nat.le_refl _) ((World.putObj_heap_other (by omega)).trans hK2)⟩
theorem appU_ok (bk:Nat) (G:PM) (hbk:PB G bk (cl [.slice none 0 0] 279)):Ct Tryz.prog 336 #[.slice none 0 0,.func (.func 280) #[] #[.pointer (some ⟨bk,0,none⟩)]] G [] (fun _ μ' u=>μ'=[]∧u=.slice none 0 0):=fun w hs=>by
 refine (callsIn_wide (n:=5)).1 ?_
 refine callsIn_of_wp_marks Tryz.func336 rfl trivial ?_ rfl
 simp only [Tryz.ntmps336,List.size_toArray,List.length_cons,List.length_nil,Nat.reduceAdd,Nat.reduceSub,Array.replicate_succ,Array.replicate_zero,List.push_toArray,List.append_toArray,List.nil_append,List.cons_append]
 gi_wp2
 have hbl:Below w.heap.size w (w.alloc (.cells #[.slice none 0 0] 279)):=(Below.refl _ w).alloc (Nat.le_refl _) _
 have hv0:(w.alloc (.cells #[.slice none 0 0] 279)).heap[w.heap.size]? = some (.cells #[.slice none 0 0] 279 (0,0)):=World.alloc_heap_new w _
 have hs0:(w.alloc (.cells #[.slice none 0 0] 279)).heap.size=w.heap.size+1:=by simp
 refine rangeNone (gf:=280) (lb:=#[.pointer (some ⟨bk,0,none⟩)]) rfl (enters_of Tryz.func280 (by kernel_rfl) rfl) (fun l W hb=>?_) (fun D W hb hD hK=>?_)
 ·have hsub:∀ b o,G b=some o→W.heap[b]? = some o:=fun b o h=>by
   have h1:=hs.sub b o h
   have h2:=(Array.getElem?_eq_some_iff.1 h1).1
   rw [hb.block b (by omega),hbl.block b h2]; exact h1
  refine (vals1_ok (.func (.yield l) #[] #[]) bk G hbk W ⟨hsub,fun r hr=>(by cases hr),fun b hb=>(by cases hb),List.nodup_nil⟩).mono ?_
  rintro e W' ⟨v,G',μ',rfl,ht,_⟩
  exact ⟨⟨v,rfl⟩,ht.os,ht.tape,ht.output,ht.size,fun k hk=>(ht.old k hk (fun h=>by cases h)).1⟩
 have hv3:W.heap[w.heap.size]? = some (.cells #[.slice none 0 0] 279 (0,0)):=(hb.block _ (by omega)).trans hv0
 obtain ⟨hc3,hf3⟩:=cell_of_box_a hv3
 have hbw:Below w.heap.size w W:=hbl.trans (hb.mono (by omega))
 gi_wp2
 refine ⟨by simp,.inl ⟨_,_,rfl,run_takeDeferred hK,?_⟩⟩
 have hbz:=hbw.grown (grownBy_putObj_a W D (.deferred none)) hbw.size (fun k e=>by cases e; omega)
 refine ⟨_,results_tmp rfl _ _ _,_,G,[],rfl,⟨⟨fun b o h=>?_,fun r hr=>(by cases hr),fun b hb=>(by cases hb),List.nodup_nil⟩,hbz.os,hbz.tape,hbz.output,hbz.size,fun b hb _=>⟨hbz.block b hb,rfl⟩,fun b hb=>(by cases hb),fun _ _ _ h=>h⟩,rfl,rfl⟩
 have h1:=hs.sub b o h
 exact (hbz.block b (Array.getElem?_eq_some_iff.1 h1).1).trans h1
end Go.Proofs.YtoifkgkandfeiaaGreatDoor
namespace Go.Proofs.YtoifkgkandfeiaaGreatDoor
open Go.Tan Go.RowKit Go.Maps Go.Sort Go.Shelf
namespace FxGrX
theorem go196:goFn Tryz.prog 196=true:=by kernel_rfl
end FxGrX
namespace Fx
theorem se191:slE Tryz.prog 191=some (189,1,24):=by kernel_rfl
theorem sn191:(slE Tryz.prog 191).isSome=true:=by kernel_rfl
theorem go231:goFn Tryz.prog 231=true:=by kernel_rfl
theorem ag189:aggN Tryz.prog 189=some none:=by kernel_rfl
theorem go316:goFn Tryz.prog 316=true:=by kernel_rfl
theorem go230:goFn Tryz.prog 230=true:=by kernel_rfl
theorem go336:goFn Tryz.prog 336=true:=by kernel_rfl
theorem go278:goFn Tryz.prog 278=true:=by kernel_rfl
theorem go279:goFn Tryz.prog 279=true:=by kernel_rfl
theorem zv189:(Tryz.prog.info? 189).bind (·.zero)=some (.slice none 0 0):=by kernel_rfl
theorem go164:goFn Tryz.prog 164=true:=by kernel_rfl
theorem go201:goFn Tryz.prog 201=true:=by kernel_rfl
theorem go200:goFn Tryz.prog 200=true:=by kernel_rfl
theorem zr191:zrL Tryz.prog 191=some ([.slice none 0 0]):=by kernel_rfl
theorem zr3:zrL Tryz.prog 3=some ([.int .i64 0]):=by kernel_rfl
theorem go197:goFn Tryz.prog 197=true:=by kernel_rfl
theorem ag191:aggN Tryz.prog 191=some none:=by kernel_rfl
end Fx
theorem rises_nil:risesE []=true:=B_true fun j h=>absurd h (by simp)
theorem mr1_ok (G:PM):Ct Tryz.prog 231 ([.slice none 0 0]:List Value).toArray G [] (fun _ μ' u=>μ'=[]∧u=.bool false):=by
 refine Ct.of Tryz.func231 rfl Tryz.ntmps231 rfl fun w0 hs0=>?_
 refine .seq (rq1 rfl rfl (aS rfl rfl (.nil (.code (.seq (rq4 rfl rfl (mV rfl rfl (kv rfl .no FxGrX.go196 (Evc rfl Evn) (fun _=>rises_ok ⟨none,0⟩ [] _ SlR.nul (by decide)) ?_))))))))
 refine nt rfl .no (.u rfl) (aS rfl rfl (.nil (.code (.ret (We.fin0 Tryz.results231 (.tmp rfl .nil) ?_)))))
 exact ⟨rfl,congrArg Value.bool (by rw [rises_nil]; rfl)⟩
theorem idxN_ok (b:Nat) (G:PM) (hb:PB G b (cl [.slice none 0 0] 189)):Ct Tryz.prog 316 ([.slice (some ⟨b,0,none⟩) 1 1,.func (.func 231) #[] #[]]:List Value).toArray G [] (fun _ μ' u=>μ'=[]∧u=.int .i64 (-1)):=by
 refine Ct.of Tryz.func316 rfl Tryz.ntmps316 rfl fun w0 hs0=>?_
 refine .seq (rq1 rfl rfl (aS rfl rfl (.nil (.code (.seq (.seq (rq3 rfl rfl (mV rfl rfl (ln rfl .no Fx.sn191 (.u rfl) (mV rfl rfl (.nil (.code (.block ?_)))))))))))))
 refine Wk.lop (α:=Nat) (fun k=>[(8,true,.int .i64 (k:Int))]) (fun _=>[])
  (fun k Gl=>(k≤1)) (fun k=>1-k) 0 [(0,true,_),(1,true,_),(7,true,_)] []
  (esC rfl (by first|rfl|exact evi (by omega)) (esD rfl (esD rfl (esD rfl eZ))))
  mN ?_ ?_
 ·(try dsimp only)<;>(first|omega|rfl|assumption|(simp; done))
 intro k N0 Gl0 hN0 hGl0 hF0
 try dsimp only at hF0 hN0 ⊢
 have hk:=hF0
 have hb:=hb.mono hGl0
 refine .seq (rq1 rfl rfl (cp rfl .no (.u rfl) (.u rfl) rfl (.nil (.code (.seq (.cond rfl (fun c1=>?_) (fun c1=>?_)))))))
 ·have c1k:=c1
  try simp only [qcA,qcB] at c1
  refine .skip (.code (.seq (.block (.seq (rq2 rfl rfl (mV rfl rfl (aS rfl rfl (.nil (.code (.seq (rq6 rfl rfl (mV rfl rfl (mV rfl rfl (mV rfl rfl ?_))))))))))))))
  have hk0:k=0:=by omega
  refine ia rfl .no Fx.se191 (.u rfl) (.u rfl) (fun _=>by omega) (fun _=>by omega) ?_
  refine ld rfl .no Fx.ag189 (.u rfl) (fun _=>(hb.rd (by rw [hk0]; rfl)).rd) ?_
  refine kf rfl .no (.u rfl) Fx.go231 (Evc rfl Evn) (fun _=>mr1_ok _) ?_
  refine .nil (.code (.cond rfl (fun c2=>?_) (fun c2=>?_)))
  ·have c2k:=c2
   cases c2
  have c2k:=c2
  try simp only [qcA,qcB] at c2
  refine .skip (.blk (.code (rq2 rfl rfl (arn (((k+1):Nat):Int) rfl .no (.u rfl) (.u rfl) rfl (fun _=>by omega) (fun _=>wrap_i64 (by omega) (by omega)) ?_))))
  refine mV rfl rfl (.nil (We.lpo (k+1) ?_ ?_ ?_ ?_ ?_))
  ·exact (esC rfl (by first|rfl|exact evi (by omega)) (esD rfl (esD rfl (esD rfl eZ))))
  ·exact mN
  ·first|omega|(dsimp only; omega)
  ·exact hGl0
  (try dsimp only)<;>(first|omega|rfl|assumption|(simp; done))
 have c1k:=c1
 try simp only [qcA,qcB] at c1
 refine .exit (.xcode (.xlp (.xblk (.code (.seq (rq1 rfl rfl (aS rfl rfl (.nil (.code (.ret (We.fin0 Tryz.results316 (.tmp rfl .nil) ?_)))))))))))
 exact ⟨rfl,rfl⟩
theorem contN_ok (b:Nat) (G:PM) (hb:PB G b (cl [.slice none 0 0] 189)):Ct Tryz.prog 230 ([.slice (some ⟨b,0,none⟩) 1 1,.func (.func 231) #[] #[]]:List Value).toArray G [] (fun _ μ' u=>μ'=[]∧u=.bool false):=by
 refine Ct.of Tryz.func230 rfl Tryz.ntmps230 rfl fun w0 hs0=>?_
 refine .seq (rq1 rfl rfl (aS rfl rfl (.nil (.code (.seq (rq5 rfl rfl (mV rfl rfl (mV rfl rfl (kv rfl .no Fx.go316 (Evc rfl (Evc rfl Evn)) (fun _=>idxN_ok b _ hb) ?_)))))))))
 refine cp rfl .no (.u rfl) (.u rfl) rfl (aS rfl rfl (.nil (.code (.ret (We.fin0 Tryz.results230 (.tmp rfl .nil) ?_)))))
 exact ⟨rfl,rfl⟩
theorem mrises0_ok (b:Nat) (G:PM) (hb:PB G b (cl [.slice none 0 0] 189)):Ct Tryz.prog 164 ([.slice (some ⟨b,0,none⟩) 1 1]:List Value).toArray G [] (fun _ μ' u=>μ'=[]∧u=.bool true):=by
 refine Ct.of Tryz.func164 rfl Tryz.ntmps164 rfl fun w0 hs0=>?_
 refine .seq (rq1 rfl rfl (aS rfl rfl (.nil (.code (.seq (rq4 rfl rfl (mV rfl rfl (kv rfl .no Fx.go230 (Evc rfl (Evc rfl Evn)) (fun _=>contN_ok b _ hb) ?_))))))))
 refine nt rfl .no (.u rfl) (aS rfl rfl (.nil (.code (.ret (We.fin0 Tryz.results164 (.tmp rfl .nil) ?_)))))
 exact ⟨rfl,rfl⟩
theorem coll0_ok (bk:Nat) (G:PM) (hbk:PB G bk (cl [.slice none 0 0] 279)):Ct Tryz.prog 278 ([.func (.func 280) #[] #[.pointer (some ⟨bk,0,none⟩)]]:List Value).toArray G [] (fun _ μ' u=>μ'=[]∧u=.slice none 0 0):=by
 refine Ct.of Tryz.func278 rfl Tryz.ntmps278 rfl fun w0 hs0=>?_
 refine .seq (rq1 rfl rfl (aS rfl rfl (.nil (.code (.seq (rq3 rfl rfl (mV rfl rfl (kv rfl .no Fx.go336 (Evc rfl (Evc rfl Evn)) (fun _=>appU_ok bk _ hbk) ?_))))))))
 refine aS rfl rfl (.nil (.code (.ret (We.fin0 Tryz.results278 (.tmp rfl .nil) ?_))))
 exact ⟨rfl,rfl⟩
theorem sorted0_ok (bk:Nat) (G:PM) (hbk:PB G bk (cl [.slice none 0 0] 279)):Ct Tryz.prog 200 ([.func (.func 280) #[] #[.pointer (some ⟨bk,0,none⟩)]]:List Value).toArray G [] (fun _ μ' u=>μ'=[]∧u=.slice none 0 0):=by
 refine Ct.of Tryz.func200 rfl Tryz.ntmps200 rfl fun w0 hs0=>?_
 refine .seq (rq1 rfl rfl (aS rfl rfl (.nil (.code (.seq (rq3 rfl rfl (mV rfl rfl (kv rfl .no Fx.go278 (Evc rfl Evn) (fun _=>coll0_ok bk _ hbk) ?_))))))))
 refine aS rfl rfl (.nil (.code (.seq (rq2 rfl rfl (mV rfl rfl (kv rfl .no Fx.go279 (Evc rfl Evn) (fun _=>sort0_ok _) ?_))))))
 refine .nil (.code (.seq (rq2 rfl rfl (mV rfl rfl (aS rfl rfl (.nil (.code (.ret (We.fin0 Tryz.results200 (.tmp rfl .nil) ?_)))))))))
 exact ⟨rfl,rfl⟩
theorem keep0_ok (G:PM):Ct Tryz.prog 132 ([.slice none 0 0,.slice none 0 0,.bool false]:List Value).toArray G [] (fun _ μ' u=>μ'=[]∧u=.slice none 0 0):=by
 refine Ct.of Tryz.func132 rfl Tryz.ntmps132 rfl fun w0 hs0=>?_
 refine .seq (rq2 rfl rfl ?_)
 refine bx rfl (.u rfl) rfl ?_; intro b3
 refine aS rfl rfl (.nil (.code (.seq (.seq (rq4 rfl rfl (ld rfl .no Fx.ag189 (.u rfl) (fun _=>Rd.own .here (by first|exact wap_f rfl|rfl)) ?_))))))
 refine Go.Tan.b1 rfl Fx.se191 Fx.zv189 (.u rfl) rfl rfl (by decide) ?_; intro b15
 refine kp rfl .no Fx.go164 (Evc rfl Evn) (Gp.add .here Gp.nil) (fun _ hle hq=>mrises0_ok b15 _ ⟨PM.add_same _ _ _⟩) ?_
 refine nt rfl .no (.u rfl) (.nil (.code (.cond rfl (fun c1=>?_) (fun c1=>?_))))
 ·have c1k:=c1
  cases c1
 have c1k:=c1
 try simp only [qcA,qcB] at c1
 refine .skip (.code (.seq (rq4 rfl rfl (mV rfl rfl (kc rfl Fx.go201 (Evc rfl Evn) (vals_ok _) ?_)))))
 rintro _ G19 μ19 hG19 ⟨b19,rfl,rfl⟩
 refine kp rfl .no Fx.go200 (Evc rfl Evn) (Gp.add .here Gp.nil) (fun _ hle hq=>sorted0_ok b19 _ ⟨PM.add_same _ _ _⟩) ?_
 refine aS rfl rfl (.nil (.code (.seq (rq1 rfl rfl (aS rfl rfl (.nil (.code (.seq (.block ?_)))))))))
 refine Wk.lop (α:=Nat) (fun k=>[(8,true,.slice none 0 0)]) (fun k=>[.blk b3 (cl [.slice none 0 0] 189)])
  (fun k Gl=>True) (fun k=>0) 0 [(2,true,_),(3,true,_),(7,true,_)] [_,_]
  (esD rfl (esD rfl (esD rfl (esD rfl eZ))))
  (mS tk2 rfl (mS .here rfl (mS .here rfl mN))) ?_ ?_
 ·trivial
 intro k N0 Gl0 hN0 hGl0 hF0
 try dsimp only at hF0 hN0 ⊢
 refine .seq (.seq (rq3 rfl rfl (ld rfl .no Fx.ag189 (.u rfl) (fun _=>Rd.own .here (by first|exact wap_f rfl|rfl)) ?_)))
 refine ln rfl .no Fx.sn189 (.u rfl) (cp rfl .no (.u rfl) (.u rfl) rfl (.nil (.code (.cond rfl (fun c2=>?_) (fun c2=>?_)))))
 ·have c2k:=c2
  cases c2
 have c2k:=c2
 try simp only [qcA,qcB] at c2
 refine .exit (.xcode (.xlp (.xblk (.code (.seq (rq2 rfl rfl (mV rfl rfl (aS rfl rfl (.nil (.code (.ret (We.fin0 Tryz.results132 (.tmp rfl .nil) ?_))))))))))))
 exact ⟨rfl,rfl⟩
theorem skeys0_ok (f:Value) (G:PM):Ct Tryz.prog 197 ([.slice none 0 0,f]:List Value).toArray G [] (fun _ μ' u=>μ'=[]∧u=.tuple #[]):=by
 refine Ct.of Tryz.func197 rfl Tryz.ntmps197 rfl fun w0 hs0=>?_
 refine .block ?_
 refine Wk.lop (α:=Nat) (fun k=>[(0,true,.slice none 0 0)]) (fun _=>[])
  (fun k Gl=>True) (fun k=>0) 0 [(1,true,_)] []
  (esD rfl (esD rfl eZ))
  mN ?_ ?_
 ·trivial
 intro k N0 Gl0 hN0 hGl0 hF0
 try dsimp only at hF0 hN0 ⊢
 refine .seq (.seq (rq3 rfl rfl (mV rfl rfl (ln rfl .no Fx.sn189 (.u rfl) (cp rfl .no (.u rfl) (.u rfl) rfl (.nil (.code (.cond rfl (fun c1=>?_) (fun c1=>?_)))))))))
 ·have c1k:=c1
  cases c1
 have c1k:=c1
 try simp only [qcA,qcB] at c1
 refine .exit (.xcode (.xlp (.xblk (.nil (We.fin0 Tryz.results197 .nil ?_)))))
 exact ⟨rfl,rfl⟩
theorem split0_ok (n:Int) (G:PM):Ct Tryz.prog 131 ([.slice none 0 0,.int .i64 n]:List Value).toArray G [] (fun _ μ' u=>μ'=[]∧u=.slice none 0 0):=by
 refine Ct.of Tryz.func131 rfl Tryz.ntmps131 rfl fun w0 hs0=>?_
 refine .seq (rq2 rfl rfl ?_)
 refine bx rfl (.u rfl) rfl ?_; intro b3
 refine aS rfl rfl (.nil (.code (.seq (.seq (rq3 rfl rfl (mV rfl rfl (kv rfl .no FxGrX.go196 (Evc rfl Evn) (fun _=>rises_ok ⟨none,0⟩ [] _ SlR.nul (by decide)) ?_)))))))
 refine nt rfl .no (.u rfl) (.nil (.code (.cond rfl (fun c1=>?_) (fun c1=>?_))))
 ·have c1k:=c1
  rw [rises_nil] at c1; cases c1
 have c1k:=c1
 try simp only [qcA,qcB] at c1
 refine .skip (.code (.seq (rq1 rfl rfl ?_)))
 refine al rfl Fx.zr191 ?_; intro b5
 refine .nil (.code (.seq (rq2 rfl rfl ?_)))
 refine al rfl Fx.zr3 ?_; intro b6
 refine s1 rfl (.u rfl) (.u rfl) rfl Fx.sz3 .here (by first|decide|(simp only [wa_len,ba_len,qlA]; omega)) (rfl) ?_
 refine .nil (.code (.seq (rq3 rfl rfl (mV rfl rfl (mf (vf:=#[]) (vc:=[Value.pointer (some ⟨b5,0,none⟩),Value.pointer (some ⟨b6,0,none⟩),Value.pointer (some ⟨b3,0,none⟩)].toArray) rfl .no (fun a ha _=>by simp) (fun a ha _=>by simp [(Ev.u (c:=true) rfl:Ev _ true (.tmp 5) _).eval ha rfl,(Ev.u (c:=true) rfl:Ev _ true (.tmp 6) _).eval ha rfl,(Ev.u (c:=true) rfl:Ev _ true (.tmp 3) _).eval ha rfl]) ?_)))))
 refine kv rfl .no Fx.go197 (Evc rfl (Evc rfl Evn)) (fun _=>skeys0_ok _ _) ?_
 refine .nil (.code (.seq (rq2 rfl rfl (ld rfl .no Fx.ag191 (.u rfl) (fun _=>Rd.own tk1 (by first|exact wap_f rfl|rfl)) ?_))))
 refine aS rfl rfl (.nil (.code (.ret (We.fin0 Tryz.results131 (.tmp rfl .nil) ?_))))
 exact ⟨rfl,rfl⟩
theorem tables0_ok (y:Value) (n:Int) (G:PM):Ct Tryz.prog 130 ([y,.int .i64 n,.slice none 0 0]:List Value).toArray G [] (fun _ μ' u=>μ'=[]∧u=.slice none 0 0):=by
 refine Ct.of Tryz.func130 rfl Tryz.ntmps130 rfl fun w0 hs0=>?_
 refine .seq (rq1 rfl rfl (aS rfl rfl (.nil (.code (.seq (rq1 rfl rfl (aS rfl rfl (.nil (.code (.seq (.seq (rq3 rfl rfl (mV rfl rfl (ln rfl .no Fx.sn191 (.u rfl) (mV rfl rfl (.nil (.code (.block ?_))))))))))))))))))
 refine Wk.lop (α:=Nat) (fun k=>[(7,true,.slice none 0 0),(16,true,.int .i64 (k:Int))]) (fun _=>[])
  (fun k Gl=>(k=0)) (fun k=>0) 0 [(0,true,_),(1,true,_),(14,true,_),(15,true,_)] []
  (esD rfl (esC rfl (by first|rfl|exact evi (by omega)) (esD rfl (esD rfl (esD rfl (esD rfl eZ))))))
  mN ?_ ?_
 ·(try dsimp only)<;>(first|omega|rfl|assumption|(simp; done))
 intro k N0 Gl0 hN0 hGl0 hF0
 try dsimp only at hF0 hN0 ⊢
 have hk:=hF0
 refine .seq (rq1 rfl rfl (cp rfl .no (.u rfl) (.u rfl) rfl (.nil (.code (.seq (.cond rfl (fun c1=>?_) (fun c1=>?_)))))))
 ·have c1k:=c1
  subst hk; cases c1
 have c1k:=c1
 try simp only [qcA,qcB] at c1
 refine .exit (.xcode (.xlp (.xblk (.code (.seq (rq2 rfl rfl (mV rfl rfl (aS rfl rfl (.nil (.code (.ret (We.fin0 Tryz.results130 (.tmp rfl .nil) ?_))))))))))))
 exact ⟨rfl,rfl⟩
end Go.Proofs.YtoifkgkandfeiaaGreatDoor
namespace Go.Proofs.YtoifkgkandfeiaaGreatDoor
open Go.Tan Go.RowKit Go.Maps Go.Sort Go.Shelf
namespace FxGrY
theorem ag30:aggN Tryz.prog 30=some none:=by kernel_rfl
end FxGrY
namespace Fx
theorem go266:goFn Tryz.prog 266=true:=by kernel_rfl
theorem go92:goFn Tryz.prog 92=true:=by kernel_rfl
theorem go91:goFn Tryz.prog 91=true:=by kernel_rfl
theorem fo165_0:fOff Tryz.prog 165 0=some 0:=by kernel_rfl
theorem ag48:aggN Tryz.prog 48=some none:=by kernel_rfl
theorem go52:goFn Tryz.prog 52=true:=by kernel_rfl
theorem go194:goFn Tryz.prog 194=true:=by kernel_rfl
theorem fo165_6:fOff Tryz.prog 165 6=some 56:=by kernel_rfl
theorem go103:goFn Tryz.prog 103=true:=by kernel_rfl
theorem fo165_1:fOff Tryz.prog 165 1=some 1:=by kernel_rfl
theorem ag50:aggN Tryz.prog 50=some none:=by kernel_rfl
theorem go134:goFn Tryz.prog 134=true:=by kernel_rfl
theorem go209:goFn Tryz.prog 209=true:=by kernel_rfl
theorem go135:goFn Tryz.prog 135=true:=by kernel_rfl
theorem fo163_0:fOff Tryz.prog 163 0=some 0:=by kernel_rfl
theorem go102:goFn Tryz.prog 102=true:=by kernel_rfl
theorem pt45:ptT Tryz.prog 45=true:=by kernel_rfl
theorem fo165_15:fOff Tryz.prog 165 15=some 83:=by kernel_rfl
theorem fo165_16:fOff Tryz.prog 165 16=some 84:=by kernel_rfl
theorem go246:goFn Tryz.prog 246=true:=by kernel_rfl
theorem go175:goFn Tryz.prog 175=true:=by kernel_rfl
theorem go174:goFn Tryz.prog 174=true:=by kernel_rfl
end Fx
theorem idxT_ok (h:Sh) (l:List ByteArray) (x:ByteArray) (G:PM) (hs:SlR G 1 encT h l) (hl:l.length≤100000000):Ct Tryz.prog 266 ([h.val l.length,.string x]:List Value).toArray G [] (fun _ μ' u=>μ'=[]∧u=.int .i64 (idxZ (fun y=>x.toList == y.toList) l)):=by
 refine Ct.of Tryz.func266 rfl Tryz.ntmps266 rfl fun w0 hs0=>?_
 refine .seq (rq1 rfl rfl (aS rfl rfl (.nil (.code (.seq (.seq (rq3 rfl rfl (mV rfl rfl (ln rfl .no FxGrQ.sn97 (.u rfl) (mV rfl rfl (.nil (.code (.block ?_)))))))))))))
 refine Wk.lop (α:=Nat) (fun k=>[(8,true,.int .i64 (k:Int))]) (fun _=>[])
  (fun k Gl=>(k≤l.length)∧(∀ j y,j<k→l[j]? = some y→(x.toList == y.toList)=false)) (fun k=>l.length-k) 0 [(0,true,_),(1,true,_),(7,true,_)] []
  (esC rfl (by first|rfl|exact evi (by omega)) (esD rfl (esD rfl (esD rfl eZ))))
  mN ?_ ?_
 ·refine ⟨?_,?_⟩
  ·(try dsimp only)<;>(first|omega|rfl|assumption|(simp; done))
  (try dsimp only)<;>(exact fun j y h=>absurd h (Nat.not_lt_zero _))
 intro k N0 Gl0 hN0 hGl0 hF0
 try dsimp only at hF0 hN0 ⊢
 obtain ⟨hk,hno⟩:=hF0
 have hs:=hs.mono hGl0
 refine .seq (rq1 rfl rfl (cp rfl .no (.u rfl) (.u rfl) rfl (.nil (.code (.seq (.cond rfl (fun c1=>?_) (fun c1=>?_)))))))
 ·have c1k:=c1
  try simp only [qcA,qcB] at c1
  refine .skip (.code (.seq (.block (.seq (rq2 rfl rfl (mV rfl rfl (aS rfl rfl (.nil (.code (.seq (rq6 rfl rfl (mV rfl rfl (mV rfl rfl (mV rfl rfl (ih rfl .no FxGrQ.se97 (.u rfl) (.u rfl) (fun _=>by omega) (fun _=>by omega) (fun _=>hs.nn (k:=k) (by first|omega|(simp only [Bool.and_eq_true,decide_eq_true_eq] at hc; omega)|(simp only [List.length_cons,List.length_nil]; omega))) ?_)))))))))))))))
  obtain ⟨y,ey⟩:=getx (k:=k) (xs:=l) (by omega)
  refine ld rfl .no Fx.ag9 (.u rfl) (fun _=>(hs.at (by omega) ey 0 _ rfl).rd) ?_
  refine cs rfl .no (.u rfl) (.u rfl) rfl (.nil (.code (.cond rfl (fun c2=>?_) (fun c2=>?_))))
  ·have c2k:=c2
   try simp only [qcA,qcB] at c2
   refine .seq (rq2 rfl rfl (mV rfl rfl (aS rfl rfl (.nil (.code (.ret (We.fin0 Tryz.results266 (.tmp rfl .nil) ?_)))))))
   exact ⟨rfl,idz_hit hno ey (by simpa using c2k)⟩
  have c2k:=c2
  try simp only [qcA,qcB] at c2
  refine .skip (.blk (.code (rq2 rfl rfl (arn (((k+1):Nat):Int) rfl .no (.u rfl) (.u rfl) rfl (fun _=>by omega) (fun _=>wrap_i64 (by omega) (by omega)) ?_))))
  refine mV rfl rfl (.nil (We.lpo (k+1) ?_ ?_ ?_ ?_ ?_))
  ·exact (esC rfl (by first|rfl|exact evi (by omega)) (esD rfl (esD rfl (esD rfl eZ))))
  ·exact mN
  ·first|omega|(dsimp only; omega)
  ·exact hGl0
  refine ⟨?_,?_⟩
  ·(try dsimp only)<;>(first|omega|rfl|assumption|(simp; done))
  (try dsimp only)<;>(exact idz_step (p:=fun y=>x.toList == y.toList) hno ey (by simpa using c2k))
 have c1k:=c1
 try simp only [qcA,qcB] at c1
 refine .exit (.xcode (.xlp (.xblk (.code (.seq (rq1 rfl rfl (aS rfl rfl (.nil (.code (.ret (We.fin0 Tryz.results266 (.tmp rfl .nil) ?_)))))))))))
 exact ⟨rfl,idz_none hno (by omega)⟩
theorem contT_ok (h:Sh) (l:List ByteArray) (x:ByteArray) (G:PM) (hs:SlR G 1 encT h l) (hl:l.length≤100000000):Ct Tryz.prog 194 ([h.val l.length,.string x]:List Value).toArray G [] (fun _ μ' u=>μ'=[]∧u=.bool (l.any (fun y=>x.toList == y.toList))):=by
 refine Ct.of Tryz.func194 rfl Tryz.ntmps194 rfl fun w0 hs0=>?_
 refine .seq (rq1 rfl rfl (aS rfl rfl (.nil (.code (.seq (rq5 rfl rfl (mV rfl rfl (mV rfl rfl (kv rfl .no Fx.go266 (Evc rfl (Evc rfl Evn)) (fun _=>idxT_ok h l x _ hs hl) ?_)))))))))
 refine cp rfl .no (.u rfl) (.u rfl) rfl (aS rfl rfl (.nil (.code (.ret (We.fin0 Tryz.results194 (.tmp rfl .nil) ?_)))))
 exact ⟨rfl,congrArg Value.bool idz_ge⟩
theorem names_ok (bd bm room done clk:Nat) (F:List Fi) (G:PM) (hbd:PB G bd (cl (dkC bm room done) 118)) (hbm:PB G bm (mO (F.map Fi.fe) clk)) (hD:DkR F clk):Ct Tryz.prog 52 ([.pointer (some ⟨bd,0,none⟩)]:List Value).toArray G [] (fun G' μ' u=>∃ (h:Sh) (L:List ByteArray),(∀ s∈L,s∈F.map Fi.nm)∧L.length≤1000∧SlR G' 1 encT h L∧μ'=[]∧u=h.val L.length):=by
 refine Ct.of Tryz.func52 rfl Tryz.ntmps52 rfl fun w0 hs0=>?_
 refine .seq (rq1 rfl rfl (aS rfl rfl (.nil (.code (.seq (.seq (rq2 rfl rfl (mV rfl rfl (pe rfl .no Fx.pt48 (.u rfl) (.u rfl) ?_)))))))))
 refine .nil (.code (Wk.condF rfl rfl ?_))
 refine .skip (.code (.seq (rq7 rfl rfl (mV rfl rfl (nc rfl .no (.u rfl) (fa rfl .no Fx.fo118_0 (.u rfl) (ld rfl .no Fx.ag116 (.u rfl) (fun _=>(hbd.rd (rfl)).rd) ?_)))))))
 refine kc rfl Fx.go92 (Evc rfl Evn) (keysF_ok bm _) ?_
 rintro _ G9 μ9 hG9 ⟨b9,rfl,rfl⟩
 have hbm:=hbm.mono hG9
 refine ka rfl (.inr rfl) Fx.go91 (Evc rfl Evn) (mtk1 .here) (Ct.give fun hle=>sortedF_ok b9 bm clk F _ hD ⟨PM.add_same _ _ _⟩ (hbm.mono hle)) ?_
 rintro v10 G10 μ10 hG10 ⟨L10,hm10,hl10,rfl⟩
 refine aS rfl rfl (.nil (.code (.ret ?_)))
 refine we_fs .here (fun _ _=>rfl) (by intro b hb; cases hb) ?_; intro GfRN hRN hleRN evRN hsRN; subst evRN
 refine We.fin0 Tryz.results52 (.tmp rfl .nil) ?_
 exact ⟨_,L10,hm10,hl10,hsRN,rfl,rfl⟩
theorem sweep_ok (bx:Nat) (d:Db) (bm room done clk:Nat) (F:List Fi) (G:PM) (hbx:PB G bx (cl d.cells 165)) (hbd:PB G d.dk (cl (dkC bm room done) 118)) (hbm:PB G bm (mO (F.map Fi.fe) clk)) (hD:DkR F clk) (h:Sh) (l:List ByteArray) (hs:SlR G 1 encT h l) (hl:l.length≤100000) (hall:∀ f∈F,f.nm∈l):Ct Tryz.prog 128 ([pt bx,h.val l.length]:List Value).toArray G [] (fun _ μ' u=>μ'=[]∧u=.tuple #[]):=by
 refine Ct.of Tryz.func128 rfl Tryz.ntmps128 rfl fun w0 hs0=>?_
 refine .seq (rq7 rfl rfl (mV rfl rfl (nc rfl .no (.u rfl) (fa rfl .no Fx.fo165_0 (.u rfl) (ld rfl .no Fx.ag48 (.u rfl) (fun _=>(hbx.rd (rfl)).rd) ?_)))))
 refine kc rfl Fx.go52 (Evc rfl Evn) (names_ok d.dk bm room done clk F _ hbd hbm hD) ?_
 rintro _ G10 μ10 hG10 ⟨h10,L10,hm10,hl10,hs10,rfl,rfl⟩
 have hs:=hs.mono hG10
 refine ln rfl .no FxGrQ.sn97 (.u rfl) (mV rfl rfl (.nil (.code (.block ?_))))
 refine Wk.lop (α:=Nat) (fun k=>[(12,true,.int .i64 (k:Int))]) (fun _=>[])
  (fun k Gl=>(k≤L10.length)) (fun k=>L10.length-k) 0 [(0,true,_),(1,true,_),(10,true,_),(11,true,_)] []
  (esC rfl (by first|rfl|exact evi (by omega)) (esD rfl (esD rfl (esD rfl (esD rfl eZ)))))
  mN ?_ ?_
 ·(try dsimp only)<;>(first|omega|rfl|assumption|(simp; done))
 intro k N0 Gl0 hN0 hGl0 hF0
 try dsimp only at hF0 hN0 ⊢
 have hk:=hF0
 have hs:=hs.mono hGl0
 have hs10:=hs10.mono hGl0
 refine .seq (rq1 rfl rfl (cp rfl .no (.u rfl) (.u rfl) rfl (.nil (.code (.seq (.cond rfl (fun c1=>?_) (fun c1=>?_)))))))
 ·have c1k:=c1
  try simp only [qcA,qcB] at c1
  refine .skip (.code (.seq (.block (.seq (rq3 rfl rfl (ih rfl .no FxGrQ.se97 (.u rfl) (.u rfl) (fun _=>by omega) (fun _=>by omega) (fun _=>hs10.nn (k:=k) (by first|omega|(simp only [Bool.and_eq_true,decide_eq_true_eq] at hc; omega)|(simp only [List.length_cons,List.length_nil]; omega))) ?_))))))
  obtain ⟨y,ey⟩:=getx (k:=k) (xs:=L10) (by omega)
  refine ld rfl .no Fx.ag9 (.u rfl) (fun _=>(hs10.at (by omega) ey 0 _ rfl).rd) ?_
  refine aS rfl rfl (.nil (.code (.seq (rq4 rfl rfl (mV rfl rfl (mV rfl rfl (kv rfl .no Fx.go194 (Evc rfl (Evc rfl Evn)) (fun _=>contT_ok h l y _ hs (by omega)) ?_)))))))
  refine nt rfl .no (.u rfl) (.nil (.code (.cond rfl (fun c2=>?_) (fun c2=>?_))))
  ·have c2k:=c2
   have hq9:(l.any fun z=>y.toList == z.toList)=true:=by
    obtain ⟨f,hf,e⟩:=List.mem_map.1 (hm10 y (List.mem_of_getElem? ey))
    exact List.any_eq_true.2 ⟨y,by rw [← e]; exact hall f hf,by simp⟩
   rw [hq9] at c2; cases c2
  have c2k:=c2
  try simp only [qcA,qcB] at c2
  refine .skip (.blk (.code (rq2 rfl rfl (arn (((k+1):Nat):Int) rfl .no (.u rfl) (.u rfl) rfl (fun _=>by omega) (fun _=>wrap_i64 (by omega) (by omega)) ?_))))
  refine mV rfl rfl (.nil (We.lpo (k+1) ?_ ?_ ?_ ?_ ?_))
  ·exact (esC rfl (by first|rfl|exact evi (by omega)) (esD rfl (esD rfl (esD rfl (esD rfl eZ)))))
  ·exact mN
  ·first|omega|(dsimp only; omega)
  ·exact hGl0
  (try dsimp only)<;>(first|omega|rfl|assumption|(simp; done))
 have c1k:=c1
 try simp only [qcA,qcB] at c1
 refine .exit (.xcode (.xlp (.xblk (.nil (We.fin0 Tryz.results128 .nil ?_)))))
 exact ⟨rfl,rfl⟩
theorem dbnum_ok (bx:Nat) (d:Db) (G:PM) (hn:d.next.toNat<1000):Ct Tryz.prog 129 ([pt bx]:List Value).toArray G [.blk bx (cl (Db.cells d) 165)] (fun _ μ' u=>μ'=[.blk bx (cl (Db.cells { d with next:=d.next+1#64 }) 165)]∧u=uv .u64 d.next):=by
 refine Ct.of Tryz.func129 rfl Tryz.ntmps129 rfl fun w0 hs0=>?_
 have hn2:@BitVec.toNat IntKind.u64.bits d.next = @BitVec.toNat 64 d.next:=rfl
 refine .seq (rq1 rfl rfl (aS rfl rfl (.nil (.code (.seq (rq6 rfl rfl (mV rfl rfl (nc rfl .no (.u rfl) (fz rfl .no Fx.fo165_6 (.u rfl) (ld rfl .no Fx.ag23 (.u rfl) (fun _=>Rd.own .here rfl) ?_))))))))))
 refine cp rfl .no (.u rfl) (.u rfl) rfl (kv rfl .no Fx.go103 (Evc rfl Evn) (fun _=>dneed_ok _ (by simp; omega) _) ?_)
 refine .nil (.code (.seq (rq8 rfl rfl (mV rfl rfl (nc rfl .no (.u rfl) (fz rfl .no Fx.fo165_6 (.u rfl) (ld rfl .no Fx.ag23 (.u rfl) (fun _=>Rd.own .here rfl) ?_)))))))
 refine bw (k:=.u64) (b:=1#64) rfl .no rfl (.u rfl) (.u rfl) rfl (nc rfl .no (.u rfl) (fz rfl .no Fx.fo165_6 (.u rfl) (s1 rfl (.u rfl) (.u rfl) rfl FxGrS.sz23 .here (by show _<85; decide) (Db.p_next d _) ?_)))
 refine .nil (.code (.seq (rq6 rfl rfl (mV rfl rfl (nc rfl .no (.u rfl) (fz rfl .no Fx.fo165_6 (.u rfl) (ld rfl .no Fx.ag23 (.u rfl) (fun _=>Rd.own .here rfl) ?_)))))))
 refine bw (k:=.u64) (b:=1#64) rfl .no rfl (.u rfl) (.u rfl) rfl (aS rfl rfl (.nil (.code (.ret (We.fin Tryz.results129 (.tmp rfl .nil) (mS .here rfl mN) ?_)))))
 exact ⟨rfl,congrArg (uv .u64) (BitVec.add_sub_cancel d.next 1#64)⟩
theorem dmark_ok (bx bt:Nat) (d:Db) (m o:BitVec 64) (G:PM) (hbx:PB G bx (cl d.cells 165)) (ht:d.tr=bt) (hm:m.toNat≤1000):Ct Tryz.prog 140 ([pt bx]:List Value).toArray G [.blk bt (cl [uv .u64 (m),uv .u64 (o)] 87)] (fun _ μ' u=>μ'=[.blk bt (cl [uv .u64 (m+1#64),uv .u64 (o)] 87)]∧u=.tuple #[]):=by
 subst ht
 refine Ct.of Tryz.func140 rfl Tryz.ntmps140 rfl fun w0 hs0=>?_
 refine Wk.mixp ⟨true,false⟩ Fx.mix (by kernel_rfl) ?_
 refine Wp.one 0 (by kernel_rfl) ?_
 refine mV rfl rfl (.nil (Wp.one 1 (by kernel_rfl) ?_))
 refine nc rfl .no (.u rfl) (.nil (Wp.one 2 (by kernel_rfl) ?_))
 refine fa rfl .no Fx.fo165_1 (.u rfl) (.nil (Wp.one 4 (by kernel_rfl) ?_))
 refine mV rfl rfl (.nil (Wp.one 5 (by kernel_rfl) ?_))
 refine nc rfl .no (.u rfl) (.nil (Wp.one 6 (by kernel_rfl) ?_))
 refine fa rfl .no Fx.fo165_1 (.u rfl) (.nil (Wp.one 7 (by kernel_rfl) ?_))
 refine ld rfl .no Fx.ag50 (.u rfl) (fun _=>(hbx.rd (rfl)).rd) ?_
 refine .nil (Wp.pr 3 (by kernel_rfl) ?_)
 refine ld rfl .no Fx.ag50 (.u rfl) (fun _=>(hbx.rd (rfl)).rd) ?_
 refine .nil ⟨⟨rfl,rfl⟩,?_⟩
 refine Wp.b1 8 (by kernel_rfl) ?_
 refine kp rfl .no Fx.go134 (Evc rfl Evn) (Gp.add .here Gp.nil) (fun _ hle hq=>marks_ok d.tr m o _ ⟨PM.add_same _ _ _⟩) ?_
 refine .nil (Wp.one 9 (by kernel_rfl) ?_)
 refine bw (k:=.u64) (b:=1#64) rfl .no rfl (.u rfl) (.u rfl) rfl (.nil (Wp.b1 10 (by kernel_rfl) ?_))
 refine ka rfl (.inl rfl) Fx.go209 (Evc rfl (Evc rfl Evn)) (mtk1 .here) (mark_ok d.tr m o _ (by omega)) ?_
 rintro _ G12 μ12 hG12 ⟨rfl,rfl⟩
 refine .nil (Wp.b1 11 (by kernel_rfl) ?_)
 refine kv rfl .no Fx.go135 (Evc rfl Evn) (fun _=>must_ok _) ?_
 refine .nil (Wp.last (by kernel_rfl) ?_)
 refine .nil (We.fin Tryz.results140 .nil (mS .here rfl mN) ?_)
 exact ⟨rfl,rfl⟩
theorem called_ok (b o:Nat) (f:Fl) (G:PM) (hf:RdNP G b o f.cells) (hn:f.h.num.toNat<10):Ct Tryz.prog 137 ([.pointer (some ⟨b,o,none⟩)]:List Value).toArray G [] (fun _ μ' u=>μ'=[]∧u=.string (nmB f.h.kind.toNat f.h.num.toNat)):=by
 refine Ct.of Tryz.func137 rfl Tryz.ntmps137 rfl fun w0 hs0=>?_
 refine .seq (rq1 rfl rfl (aS rfl rfl (.nil (.code (.seq (Wk.draw (mc:=⟨false,false⟩) [0,1,2,3,4,5,6,7,8,9,10,11] Fx.mix (by kernel_rfl) ?_))))))
 refine mV rfl rfl (nc rfl .no (.u rfl) (fa rfl .no Fx.fo163_0 (.u rfl) (fa rfl .no Fx.fo161_0 (.u rfl) (ld rfl .no Fx.ag5 (.u rfl) (fun _=>(hf 0 _ rfl).rd) ?_))))
 refine mV rfl rfl (nc rfl .no (.u rfl) (fa rfl .no Fx.fo163_0 (.u rfl) (fa rfl .no Fx.fo161_4 (.u rfl) (ld rfl .no Fx.ag23 (.u rfl) (fun _=>(hf 4 _ rfl).rd) ?_))))
 refine kv rfl .no Fx.go102 (Evc rfl (Evc rfl Evn)) (fun _=>name_ok f.h.kind f.h.num _ hn) ?_
 refine aS rfl rfl (.nil (.code (.ret (We.fin0 Tryz.results137 (.tmp rfl .nil) ?_))))
 exact ⟨rfl,rfl⟩
theorem usable_ok (bx:Nat) (d:Db) (G:PM) (hbx:PB G bx (cl d.cells 165)):Ct Tryz.prog 96 ([pt bx]:List Value).toArray G [] (fun _ μ' u=>μ'=[]∧u=.int .i64 0):=by
 refine Ct.of Tryz.func96 rfl Tryz.ntmps96 rfl fun w0 hs0=>?_
 refine .seq (rq1 rfl rfl (aS rfl rfl (.nil (.code (.seq (.block (.seq (rq3 rfl rfl (mV rfl rfl (pe rfl .no Fx.pt45 (.u rfl) (.u rfl) ?_))))))))))
 refine aS rfl rfl (.nil (.code (.cond rfl (fun c1=>?_) (fun c1=>?_))))
 ·have c1k:=c1
  cases c1
 have c1k:=c1
 try simp only [qcA,qcB] at c1
 refine .seq (rq6 rfl rfl (mV rfl rfl (nc rfl .no (.u rfl) (fa rfl .no Fx.fo165_15 (.u rfl) (ld rfl .no FxGrY.ag30 (.u rfl) (fun _=>(hbx.rd (rfl)).rd) ?_)))))
 refine cp rfl .no (.u rfl) (.u rfl) rfl (aS rfl rfl (.nil (.code (.cond rfl (fun c2=>?_) (fun c2=>?_)))))
 ·have c2k:=c2
  exact absurd c2 (by decide)
 have c2k:=c2
 try simp only [qcA,qcB] at c2
 refine .seq (rq5 rfl rfl (mV rfl rfl (nc rfl .no (.u rfl) (fa rfl .no Fx.fo165_16 (.u rfl) (ld rfl .no FxGrQ.ag4 (.u rfl) (fun _=>(hbx.rd (rfl)).rd) ?_)))))
 refine aS rfl rfl (.nil (.code (.cond rfl (fun c3=>?_) (fun c3=>?_))))
 ·have c3k:=c3
  cases c3
 have c3k:=c3
 try simp only [qcA,qcB] at c3
 refine .skip (.blk (.code (.seq (rq1 rfl rfl (aS rfl rfl (.nil (.code (.ret (We.fin0 Tryz.results96 (.tmp rfl .nil) ?_)))))))))
 exact ⟨rfl,rfl⟩
theorem dbsync_ok (bx bm room done clk:Nat) (d:Db) (F:List Fi) (G:PM) (hbx:PB G bx (cl d.cells 165)) (hD:DkR F clk) (hd9:done≤200000000) (hr9:room≤1000000000) (nm:ByteArray) (f:Fi) (hn:goodN nm) (hf:fget nm F=some f):Ct Tryz.prog 174 ([pt bx,.string nm]:List Value).toArray G [.blk d.dk (cl (dkC bm room (done)) 118),.blk bm (mO ((F).map Fi.fe) (clk))] (fun _ μ' u=>μ'=[.blk d.dk (cl (dkC bm room (done+1)) 118),.blk bm (mO ((fsy nm F).map Fi.fe) (clk))]∧u=.tuple #[]):=by
 refine Ct.of Tryz.func174 rfl Tryz.ntmps174 rfl fun w0 hs0=>?_
 refine .seq (rq7 rfl rfl (mV rfl rfl (nc rfl .no (.u rfl) (fa rfl .no Fx.fo165_0 (.u rfl) (ld rfl .no Fx.ag48 (.u rfl) (fun _=>(hbx.rd (rfl)).rd) ?_)))))
 refine mV rfl rfl (ka rfl (.inr rfl) Fx.go246 (Evc rfl (Evc rfl Evn)) (mtk2 .here .here) (dSync_ok d.dk bm room done clk F _ hD (by omega) hr9 nm f hn hf) ?_)
 rintro _ G10 μ10 hG10 ⟨rfl,rfl⟩
 refine aS rfl rfl (.nil (.code (.seq (.seq (rq2 rfl rfl (mV rfl rfl (cp rfl .no (.u rfl) (.u rfl) rfl (.nil (.code (.cond rfl (fun c1=>?_) (fun c1=>?_)))))))))))
 ·have c1k:=c1
  exact absurd c1 (by decide)
 have c1k:=c1
 try simp only [qcA,qcB] at c1
 refine .skip (.code (rq2 rfl rfl (mV rfl rfl (kv rfl .no Fx.go135 (Evc rfl Evn) (fun _=>must_ok _) ?_))))
 refine .nil (.nil (We.fin Tryz.results174 .nil (mS .here rfl (mS .here rfl mN)) ?_))
 exact ⟨rfl,rfl⟩
theorem dbwrite_ok (bx bm room done clk:Nat) (d:Db) (F:List Fi) (G:PM) (hbx:PB G bx (cl d.cells 165)) (hD:DkR F clk) (hd9:done≤100000000) (hr9:room≤1000000000) (nm:ByteArray) (h:Sh) (xs:List Y) (hs:SlR G 1 encY h xs) (hn:goodN nm) (hab:fget nm F=none) (hx:xs.length≤1000000) (hfit:xs.length+szF F≤room) (hcf:F.length<100):Ct Tryz.prog 136 ([pt bx,.string nm,h.val xs.length]:List Value).toArray G [.blk d.dk (cl (dkC bm room (done)) 118),.blk bm (mO ((F).map Fi.fe) (clk))] (fun _ μ' u=>∃ F':List Fi,DkR F' (clk+1)∧F'.map Fi.nm=F.map Fi.nm++[nm]∧szF F'=szF F+xs.length∧μ'=[.blk d.dk (cl (dkC bm room (done+1+1)) 118),.blk bm (mO ((F').map Fi.fe) (clk+1))]∧u=.tuple #[]):=by
 refine Ct.of Tryz.func136 rfl Tryz.ntmps136 rfl fun w0 hs0=>?_
 refine .seq (rq8 rfl rfl (mV rfl rfl (nc rfl .no (.u rfl) (fa rfl .no Fx.fo165_0 (.u rfl) (ld rfl .no Fx.ag48 (.u rfl) (fun _=>(hbx.rd (rfl)).rd) ?_)))))
 refine mV rfl rfl (mV rfl rfl (ka rfl (.inr rfl) Fx.go175 (Evc rfl (Evc rfl (Evc rfl Evn))) (mtk2 .here .here) (dAppend_ok d.dk bm room done clk F _ hD (by omega) hr9 nm h xs hs hn hab (by omega) hfit) ?_))
 rintro _ G13 μ13 hG13 ⟨f,hfn,hfl,hfs,hfb,rfl,rfl⟩
 have hD2:DkR (F++[f]) (clk+1):=hD.app hfb (by omega) (by rw [hfn]; exact hab) (by rw [hfn]; exact hn.2) (by omega)
 have hg2:fget nm (F++[f])=some f:=fget_app hab hfn
 have hbx:=hbx.mono hG13
 refine aS rfl rfl (.nil (.code (.seq (rq2 rfl rfl (mV rfl rfl (kv rfl .no Fx.go135 (Evc rfl Evn) (fun _=>must_ok _) ?_))))))
 refine .nil (.code (rq3 rfl rfl (mV rfl rfl (mV rfl rfl (ka rfl (.inr rfl) Fx.go174 (Evc rfl (Evc rfl Evn)) (mtk2 .here .here) (dbsync_ok bx bm room (done+1) (clk+1) d (F++[f]) _ hbx hD2 (by omega) hr9 nm f hn hg2) ?_)))))
 rintro _ G18 μ18 hG18 ⟨rfl,rfl⟩
 refine .nil (.nil (We.fin Tryz.results136 .nil (mS .here rfl (mS .here rfl mN)) ?_))
 obtain ⟨hDn,hnn,hzn⟩:=wr_facts hD hfn hfl hfb hab hn.2 (by omega) hcf
 exact ⟨_,hDn,hnn,hzn,rfl,rfl⟩
namespace Fx
theorem fo159_3:fOff Tryz.prog 159 3=some 7:=by kernel_rfl
theorem fo159_4:fOff Tryz.prog 159 4=some 8:=by kernel_rfl
theorem fo159_1:fOff Tryz.prog 159 1=some 5:=by kernel_rfl
theorem fo159_0:fOff Tryz.prog 159 0=some 0:=by kernel_rfl
theorem ag156:aggN Tryz.prog 156=some (some 5):=by kernel_rfl
theorem ar156:arE Tryz.prog 156=some (5,155,1):=by kernel_rfl
theorem ag155:aggN Tryz.prog 155=some none:=by kernel_rfl
theorem se155:slE Tryz.prog 155=some (184,40,112):=by kernel_rfl
theorem sn155:(slE Tryz.prog 155).isSome=true:=by kernel_rfl
theorem ag184:aggN Tryz.prog 184=some (some 40):=by kernel_rfl
theorem zq184:zrL Tryz.prog 184=some (Meta.zero.cells):=by kernel_rfl
theorem sz184:szT Tryz.prog 184=some 40:=by kernel_rfl
theorem mp152:mpE Tryz.prog 152=some (.u64,3):=by kernel_rfl
theorem zv3:(Tryz.prog.info? 3).bind (·.zero)=some (.int .i64 0):=by kernel_rfl
theorem cv5_3:cvK Tryz.prog 5 3=some .i64:=by kernel_rfl
theorem go319:goFn Tryz.prog 319=true:=by kernel_rfl
theorem go320:goFn Tryz.prog 320=true:=by kernel_rfl
theorem zw184:(Tryz.prog.info? 184).bind (·.zero)=some (.agg (Meta.zero.cells).toArray):=by kernel_rfl
end Fx
set_option maxHeartbeats 1000000 in
theorem vRight_ok (s:State) (hd:Nat→Sh) (G:PM) (hs:StR G s hd):Ct Tryz.prog 238 ([s.val hd]:List Value).toArray G [] (fun _ μ' u=>μ'=[]∧u=.bool (rightS s)):=by
 refine Ct.of Tryz.func238 rfl Tryz.ntmps238 rfl fun w0 hs0=>?_
 refine .seq (rq2 rfl rfl ?_)
 refine bx rfl (.u rfl) rfl ?_; intro b1
 refine aS rfl rfl (.nil (.code (.seq (.seq (Wk.rg [0,1,2,3,4,5,6,7,8,9,10,11,12] rfl rfl (fz rfl .no Fx.fo159_3 (.u rfl) (ld rfl .no FxVerP.ag23 (.u rfl) (fun _=>Rd.own .here rfl) ?_)))))))
 refine fz rfl .no Fx.fo159_4 (.u rfl) (ld rfl .no FxVerP.ag23 (.u rfl) (fun _=>Rd.own .here rfl) ?_)
 refine mA rfl .no (.u rfl) (.u rfl) ?_
 refine cp rfl .no (.u rfl) (.u rfl) rfl (mV rfl rfl (fz rfl (.f rfl rfl) Fx.fo159_1 (.u rfl) (ld rfl (.f rfl rfl) FxVerP.ag23 (.s rfl) (fun _=>Rd.own .here rfl) ?_)))
 refine fz rfl (.f rfl rfl) Fx.fo159_2 (.u rfl) (ld rfl (.f rfl rfl) FxVerP.ag23 (.s rfl) (fun _=>Rd.own .here rfl) ?_)
 refine cp rfl (.f rfl rfl) (.s rfl) (.s rfl) rfl (pkO rfl .no (.u rfl) (.s rfl) (.nil (.code (.cond rfl (fun c1=>?_) (fun c1=>?_)))))
 ·have c1k:=c1
  try simp only [qcA] at c1
  refine .seq (rq1 rfl rfl (aS rfl rfl (.nil (.code (.ret (We.fin0 Tryz.results238 (.tmp rfl .nil) ?_))))))
  exact ⟨rfl,fin_false (rs_max c1)⟩
 have c1k:=c1
 try simp only [qcA] at c1
 refine .skip (.code (.seq (rq2 rfl rfl ?_)))
 refine mk rfl .u64 ?_; intro b22
 refine aS rfl rfl (.nil (.code (.seq (rq1 rfl rfl (aS rfl rfl (.nil (.code (.seq (.seq (rq3 rfl rfl (fz rfl .no Fx.fo159_0 (.u rfl) (lA rfl .no Fx.ag156 (.u rfl) (fun _=>RdN.part (n:=5) tk1 rfl) (fun _=>rfl) ?_))))))))))))
 refine mV rfl rfl (.nil (.code (.block ?_)))
 refine Wk.lop (α:=Nat) (fun i=>[(4,true,.int .i64 (1024-tot s i)),(25,true,.int .i64 (i:Int))]) (fun i=>[.mp b22 .u64 (cntM (nums (allM s i)))])
  (fun i Gl=>i≤5∧tot s i≤1024∧(∀ j,j<i→LvOk s j (s.lv j))∧Dist (allM s i)) (fun i=>5-i) 0 [(1,true,_),(3,true,_),(24,true,_)] [.blk b1 _]
  (esD rfl (esD rfl (esD rfl (esD rfl (esD rfl eZ)))))
  (mS .here rfl (mS .here rfl mN)) ?_ ?_
 ·exact ⟨by omega,by simp [tot],fun j hj=>by omega,dist_nil⟩
 intro i N0 Gl0 hN0 hGl0 hF0
 try dsimp only at hF0 hN0 ⊢
 obtain ⟨hi,ht,hall,hdi⟩:=hF0
 refine .seq (rq1 rfl rfl (cp rfl .no (.u rfl) (.u rfl) rfl (.nil (.code (.seq (.cond rfl (fun c2=>?_) (fun c2=>?_)))))))
 ·have c2k:=c2
  try simp only [qcA] at c2
  refine .skip (.code (.seq (.block (.seq (rq4 rfl rfl ?_)))))
  have hli:=hs.len i (by omega); have htn:=tot_nonneg s i
  refine mV rfl rfl (ix rfl .no Fx.ar156 Fx.ag155 (.u rfl) (.u rfl) (fun _=>by omega) (fun _=>by omega) (fun _=>(s.arr_lv hd (k:=i) (by omega))) ?_)
  refine aS rfl rfl (aS rfl rfl (.nil (.code (.seq (.seq (rq4 rfl rfl (mV rfl rfl (ln rfl .no Fx.sn155 (.u rfl) (mV rfl rfl (cp rfl .no (.u rfl) (.u rfl) rfl (.nil (.code (.cond rfl (fun c3=>?_) (fun c3=>?_))))))))))))))
  ·have c3k:=c3
   try simp only [qcA] at c3
   refine .seq (rq1 rfl rfl (aS rfl rfl (.nil (.code (.ret (We.fin0 Tryz.results238 (.tmp rfl .nil) ?_))))))
   exact ⟨rfl,fin_false (rs_few (by omega) c3)⟩
  have c3k:=c3
  try simp only [qcA] at c3
  refine .skip (.code (.seq (rq5 rfl rfl (mV rfl rfl (mV rfl rfl (ln rfl .no Fx.sn155 (.u rfl) (ar rfl .no (.u rfl) (.u rfl) rfl (fun _=>wrap_i64 (by omega) (by omega)) ?_)))))))
  refine aS rfl rfl (.nil (.code (.seq (rq3 rfl rfl (mV rfl rfl (ln rfl .no Fx.sn155 (.u rfl) (mV rfl rfl (.nil (.code (.block ?_))))))))))
  refine Wk.lop (α:=Nat) (fun k=>[(39,true,.int .i64 (k:Int))]) (fun k=>[.mp b22 .u64 (cntM (nums (allM s i++(s.lv i).take k)))])
   (fun k Gl=>Part s i k) (fun k=>(s.lv i).length-k) 0 [(1,true,_),(3,true,_),(4,true,_),(5,true,_),(6,true,_),(24,true,_),(25,true,_),(37,true,_),(38,true,_)] [.blk b1 _]
   (esD rfl (esD rfl (esD rfl (esD rfl (esD rfl (esD rfl (esD rfl (esD rfl (esD rfl (esD rfl eZ))))))))))
   (mS .here (cnt_zero s i _) (mS .here rfl mN)) ?_ ?_
  ·exact Part.zero hdi
  intro k N1 Gl1 hN1 hGl1 hF1
  try dsimp only at hF1 hN1 ⊢
  have hP:Part s i k:=hF1; have hkl:=hP.le
  refine .seq (rq1 rfl rfl (cp rfl .no (.u rfl) (.u rfl) rfl (.nil (.code (.seq (.cond rfl (fun c4=>?_) (fun c4=>?_)))))))
  ·have c4k:=c4
   try simp only [qcA] at c4
   refine .skip (.code (.seq (.block (.seq (rq6 rfl rfl ?_)))))
   have hwf:=(hs.wf i (by omega) _ (getD_mem (k:=k) (by omega))).level; have hcb:=cnt_bd (nums (allM s i++(s.lv i).take k)) ((s.lv i).getD k Meta.zero).number
   refine mV rfl rfl (ih rfl .no Fx.se155 (.u rfl) (.u rfl) (fun _=>by omega) (fun _=>by omega) (fun _=>(hs.lv i (by omega)).nn (k:=k) (by omega)) ?_)
   refine lA rfl .no Fx.ag184 (.u rfl) (fun _=>((((hs.mono hGl0).mono hGl1).lv i (by omega)).gat k (by omega) (by omega)).rd) (fun _=>rfl) ?_
   refine al rfl Fx.zq184 ?_; intro b8
   refine aS rfl rfl (sw rfl (.u rfl) (.u rfl) rfl Fx.sz184 .here rfl (Meta.one _) ?_)
   refine .nil (.code (.seq (rq6 rfl rfl (mV rfl rfl (fz rfl .no Fx.fo184_3 (.u rfl) (ld rfl .no FxVerP.ag23 (.u rfl) (fun _=>Rd.own .here rfl) ?_))))))
   refine lk rfl .no Fx.mp152 Fx.zv3 (.u rfl) (.u rfl) tk1 (cnt_get _ _) ?_
   refine ar rfl .no (.u rfl) (.u rfl) rfl (fun _=>wrap_i64 (by omega) (by omega)) ?_
   refine mu rfl Fx.mp152 (.u rfl) (.u rfl) (.u rfl) tk1 ?_
   refine .nil (.code (.seq (Wk.draw (mc:=⟨false,false⟩) [0,1,2,3,4,5,6,7,8,9,10,11,12,13,14,15,16,17,18,19,20,21,22,23,24,25,26,27,28,29,30] FxVerP.mix (by kernel_rfl) ?_)))
   refine fz rfl .no Fx.fo184_0 (.u rfl) (ld rfl .no FxVerP.ag5 (.u rfl) (fun _=>Rd.own tk1 rfl) ?_)
   refine cw rfl .no Fx.cv5_3 (.u rfl) (fun _=>wrap_i64 (by omega) (by omega)) ?_
   refine mV rfl rfl (cp rfl .no (.u rfl) (.u rfl) rfl (mV rfl rfl (lA rfl (.f rfl rfl) Fx.ag184 (.u rfl) (fun _=>RdN.own tk1) (fun _=>rfl) ?_)))
   refine kp rfl (.f rfl rfl) Fx.go319 (Evc rfl (Eva.cons (.s rfl) Evn)) (Gp.add tk2 Gp.nil) (fun hc hle hq=>fits_ok s hd _ b1 _ RdNP.add hwf.1) ?_
   refine nt rfl (.f rfl rfl) (.s rfl) (pkO rfl .no (.u rfl) (.s rfl) (mV rfl rfl (mv rfl (.f rfl rfl) (.u rfl) (fz rfl (.f rfl rfl) Fx.fo184_3 (.u rfl) (ld rfl (.f rfl rfl) FxVerP.ag23 (.s rfl) (fun _=>Rd.own tk1 rfl) ?_)))))
   refine lk rfl (.f rfl rfl) Fx.mp152 Fx.zv3 (.s rfl) (.s rfl) .here (cnt_upd _ _ _ _) ?_
   refine cp rfl (.f rfl rfl) (.s rfl) (.u rfl) rfl (pkO rfl .no (.u rfl) (.s rfl) (mV rfl rfl (mv rfl (.f rfl rfl) (.u rfl) (cp rfl (.f rfl rfl) (.s rfl) (.u rfl) rfl (mv rfl (.f rfl rfl) (.s rfl) (mv rfl (.tc rfl rfl) (.u rfl) (mv rfl (.tc rfl rfl) (.u rfl) (ar rfl (.tc rfl rfl) (.s rfl) (.u rfl) rfl (fun hc=>wrap_i64 (by omega) (by omega)) ?_))))))))
   refine ih rfl (.tc rfl rfl) Fx.se155 (.s rfl) (.s rfl) (fun hc=>by simp only [Bool.and_eq_true,decide_eq_true_eq] at hc; omega) (fun hc=>by simp only [Bool.and_eq_true,decide_eq_true_eq] at hc; omega) (fun hc=>(hs.lv i (by omega)).nn (k:=k) (by omega)) ?_
   refine lA rfl (.tc rfl rfl) Fx.ag184 (.s rfl) (fun hc=>((((hs.mono hGl0).mono hGl1).lv i (by omega)).gat (k-1) (by simp only [Bool.and_eq_true,decide_eq_true_eq] at hc; omega) (by omega)).rd) (fun _=>rfl) ?_
   refine lA rfl (.tc rfl rfl) Fx.ag184 (.u rfl) (fun _=>RdN.own tk1) (fun _=>rfl) ?_
   refine kv rfl (.tc rfl rfl) Fx.go320 (Eva.cons (.s rfl) (Eva.cons (.s rfl) Evn)) (fun hc=>stands_ok _ _ _ (hs.wf i (by omega) _ (getD_mem (by simp only [Bool.and_eq_true,decide_eq_true_eq] at hc; omega))).level.1) ?_
   refine nt rfl (.tc rfl rfl) (.s rfl) (pkA rfl (.f rfl rfl) (.s rfl) (.s rfl) (pkO rfl .no (.u rfl) (.s rfl) (.nil (.code (.cond rfl (fun c5=>?_) (fun c5=>?_))))))
   ·have c5k:=c5
    try simp only [qcA] at c5
    refine .seq (rq1 rfl rfl (aS rfl rfl (.nil (.code (.ret (We.fin0 Tryz.results238 (.tmp rfl .nil) ?_))))))
    exact ⟨rfl,fin_false (rt_bad (by omega) (by omega) hP c5k)⟩
   have c5k:=c5
   try simp only [qcA] at c5
   refine .skip (.blk (.code (rq2 rfl rfl (ar rfl .no (.u rfl) (.u rfl) rfl (fun _=>wrap_i64 (by omega) (by omega)) ?_))))
   refine mV rfl rfl (.nil ?_)
   have hst:=rt_good (by omega) hP c5k
   refine We.lpo (k+1) ?_ ?_ ?_ ?_ ?_
   ·exact (esD rfl (esD rfl (esD rfl (esD rfl (esD rfl (esD rfl (esD rfl (esD rfl (esD rfl (esD rfl eZ))))))))))
   ·exact (mS .here (cnt_step (by omega) hst.2) (mS tk1 rfl mN))
   ·first|omega|(dsimp only; omega)
   ·exact hGl1
   exact hst.1
  have c4k:=c4
  try simp only [qcA] at c4
  refine .exit (.xcode (.xlp (.xblk (.blk (.code (rq2 rfl rfl (ar rfl .no (.u rfl) (.u rfl) rfl (fun _=>wrap_i64 (by omega) (by omega)) ?_)))))))
  refine mV rfl rfl (.nil (We.lpo (i+1) ?_ ?_ ?_ ?_ ?_))
  ·exact (esC rfl (congrArg _ (by rw [show tot s (i+1)=tot s i+(s.lv i).length from rfl]; omega)) (esD rfl (esD rfl (esD rfl (esD rfl eZ)))))
  ·exact (mS .here (cnt_next (by omega)) (mS .here rfl mN))
  ·first|omega|(dsimp only; omega)
  ·exact hGl0.trans hGl1
  exact ⟨by omega,by rw [show tot s (i+1)=tot s i+(s.lv i).length from rfl]; omega,fun j hj=>(by by_cases e:j=i; (subst e; exact hP.lvOk (by omega)); exact hall j (by omega)),hP.next (by omega)⟩
 have c2k:=c2
 try simp only [qcA] at c2
 refine .exit (.xcode (.xlp (.xblk (.code (.seq (rq1 rfl rfl (aS rfl rfl (.nil (.code (.ret (We.fin0 Tryz.results238 (.tmp rfl .nil) ?_)))))))))))
 exact ⟨rfl,fin_true (rs_done c1 (by omega) ht hall hdi)⟩
theorem over_ok (s:State) (hd:Nat→Sh) (G:PM) (hs:StR G s hd) (level:Int) (lo hi:ByteArray):Ct Tryz.prog 149 ([s.val hd,.int .i64 level,.string lo,.string hi]:List Value).toArray G [] (fun G' μ' u=>μ'=[]∧∃ h:Sh,u=h.val (ovl s level lo hi).length∧SlR G' 40 Meta.cells h (ovl s level lo hi)):=by
 refine Ct.of Tryz.func149 rfl Tryz.ntmps149 rfl fun w0 hs0=>?_
 refine .seq (rq2 rfl rfl ?_)
 refine bx rfl (.u rfl) rfl ?_; intro b4
 refine aS rfl rfl (.nil (.code (.seq (rq1 rfl rfl (aS rfl rfl (.nil (.code (.seq (.seq (rq6 rfl rfl (mV rfl rfl (cp rfl .no (.u rfl) (.u rfl) rfl (mV rfl rfl (mv rfl (.f rfl rfl) (.u rfl) (cp rfl (.f rfl rfl) (.s rfl) (.u rfl) rfl (pkO rfl .no (.u rfl) (.s rfl) (.nil (.code (.cond rfl (fun c1=>?_) (fun c1=>?_))))))))))))))))))))
 ·have c1k:=c1
  try simp only [qcA] at c1
  refine .seq (rq1 rfl rfl (aS rfl rfl (.nil (.code (.ret (We.fin0 Tryz.results149 (.tmp rfl .nil) ?_))))))
  exact ⟨rfl,⟨none,0⟩,by rw [ovl_out c1]; rfl,by rw [ovl_out c1]; exact SlR.nul⟩
 have c1k:=c1
 try simp only [qcA] at c1
 refine .skip (.code (.seq (.seq (rq6 rfl rfl ?_))))
 have hli:=hs.len level.toNat (by omega)
 refine mV rfl rfl (fz rfl .no Fx.fo159_0 (.u rfl) (iA rfl .no Fx.ar156 (.u rfl) (.u rfl) (fun _=>by omega) (fun _=>by omega) ?_))
 refine ld rfl .no Fx.ag155 (.u rfl) (fun _=>Rd.own .here (s.cell_lv hd (k:=level.toNat) (by omega))) ?_
 refine ln rfl .no Fx.sn155 (.u rfl) (mV rfl rfl (.nil (.code (.block (wk_nilRow 184 40 ?_)))))
 refine Wk.lop (α:=Nat×Value) (fun gh=>[(9,true,gh.2),(23,true,.int .i64 (gh.1:Int))]) (fun gh=>[.row gh.2 184 40 (((s.lv level.toNat).take gh.1).filter (ovp lo hi)).length ((((s.lv level.toNat).take gh.1).filter (ovp lo hi)).flatMap Meta.cells)])
  (fun gh Gl=>gh.1≤(s.lv level.toNat).length) (fun gh=>(s.lv level.toNat).length-gh.1) (0,.slice none 0 0) [(2,true,_),(3,true,_),(21,true,_),(22,true,_)] [.blk b4 _]
  (esD rfl (esD rfl (esD rfl (esD rfl (esD rfl (esD rfl eZ))))))
  (mS .here rfl (mS .here rfl mN)) ?_ ?_
 ·show 0≤(s.lv level.toNat).length; omega
 intro gh N0 Gl0 hN0 hGl0 hF0
 obtain ⟨k,v⟩:=gh; dsimp only at hF0 hN0 ⊢
 have hk:k≤(s.lv level.toNat).length:=hF0; have hfl:=filt_len (s.lv level.toNat) (ovp lo hi) k
 refine .seq (rq1 rfl rfl (cp rfl .no (.u rfl) (.u rfl) rfl (.nil (.code (.seq (.cond rfl (fun c2=>?_) (fun c2=>?_)))))))
 ·have c2k:=c2
  try simp only [qcA] at c2
  refine .skip (.code (.seq (.block (.seq (rq4 rfl rfl (ih rfl .no Fx.se155 (.u rfl) (.u rfl) (fun _=>by omega) (fun _=>by omega) (fun _=>(hs.lv level.toNat (by omega)).nn (k:=k) (by omega)) ?_))))))
  refine lA rfl .no Fx.ag184 (.u rfl) (fun _=>(((hs.mono hGl0).lv level.toNat (by omega)).gat k (by omega) (by omega)).rd) (fun _=>rfl) ?_
  refine al rfl Fx.zq184 ?_; intro b11
  refine sw rfl (.u rfl) (.u rfl) rfl Fx.sz184 .here rfl (Meta.one _) ?_
  refine .nil (.code (.seq (rq10 rfl rfl (fz rfl .no Fx.fo184_7 (.u rfl) (ld rfl .no Fx.ag9 (.u rfl) (fun _=>Rd.own .here rfl) ?_)))))
  refine mV rfl rfl (cs rfl .no (.u rfl) (.u rfl) rfl (mV rfl rfl (fz rfl (.t rfl rfl) Fx.fo184_6 (.u rfl) (ld rfl (.t rfl rfl) Fx.ag9 (.s rfl) (fun _=>Rd.own .here rfl) ?_))))
  refine mv rfl (.t rfl rfl) (.u rfl) (cs rfl (.t rfl rfl) (.s rfl) (.s rfl) rfl (pkA rfl .no (.u rfl) (.s rfl) (.nil (.code (.cond rfl (fun c3=>?_) (fun c3=>?_))))))
  ·have c3k:=c3
   try simp only [qcA] at c3
   refine rq5 rfl rfl (mV rfl rfl (lA rfl .no Fx.ag184 (.u rfl) (fun _=>RdN.own .here) (fun _=>rfl) ?_))
   refine Go.Tan.b1 rfl Fx.se155 Fx.zw184 (.u rfl) rfl rfl (by decide) ?_; intro b39
   refine ap rfl Fx.se155 Fx.zw184 rfl (.u rfl) (.u rfl) tk2 (rfl) (fun _=>⟨_,_,rfl,RdN.own .here⟩) (Meta.one _) (by omega) (by unfold maxLen; omega) ?_; intro v40
   refine aS rfl rfl (.nil (.blk (.code (rq2 rfl rfl (ar rfl .no (.u rfl) (.u rfl) rfl (fun _=>wrap_i64 (by omega) (by omega)) ?_)))))
   refine mV rfl rfl (.nil (We.lpo (k+1,v40) ?_ ?_ ?_ ?_ ?_))
   ·exact (esD rfl (esD rfl (esD rfl (esD rfl (esD rfl (esD rfl eZ))))))
   ·exact (mS .here (ov_yes (by omega) c3k) (mS tk2 rfl mN))
   ·first|omega|(dsimp only; omega)
   ·exact hGl0
   show k+1≤(s.lv level.toNat).length; omega
  have c3k:=c3
  try simp only [qcA] at c3
  refine .skip (.blk (.code (rq2 rfl rfl (ar rfl .no (.u rfl) (.u rfl) rfl (fun _=>wrap_i64 (by omega) (by omega)) ?_))))
  refine mV rfl rfl (.nil (We.lpo (k+1,v) ?_ ?_ ?_ ?_ ?_))
  ·exact (esD rfl (esD rfl (esD rfl (esD rfl (esD rfl (esD rfl eZ))))))
  ·exact (mS tk1 (ov_no (by omega) c3k) (mS tk1 rfl mN))
  ·first|omega|(dsimp only; omega)
  ·exact hGl0
  show k+1≤(s.lv level.toNat).length; omega
 have c2k:=c2
 try simp only [qcA] at c2
 refine .exit (.xcode (.xlp (.xblk (.code (.seq (rq2 rfl rfl (mV rfl rfl (aS rfl rfl (.nil (.code (.ret (we_fr .here (fun b hb=>by cases hb) ?_))))))))))))
 intro Gf hh hlef hv hcap hnn hrd; subst hv
 refine We.fin0 Tryz.results149 (.tmp rfl .nil) ?_
 have hko:k=(s.lv level.toNat).length:=by omega
 subst hko
 rw [List.take_length] at hcap hnn hrd
 exact ⟨rfl,hh,by rw [ovl_in c1,List.take_length]; rfl,by rw [ovl_in c1]; exact SlR.ofRow (metas_len _) hcap hnn hrd⟩
namespace FxVerR
theorem se25:slE Tryz.prog 25=some (5,1,1):=by kernel_rfl
theorem zv5:(Tryz.prog.info? 5).bind (·.zero)=some (.int .u8 0):=by kernel_rfl
theorem cv23_5:cvK Tryz.prog 23 5=some .u8:=by kernel_rfl
theorem cv3_23:cvK Tryz.prog 3 23=some .u64:=by kernel_rfl
theorem cv5_23:cvK Tryz.prog 5 23=some .u64:=by kernel_rfl
end FxVerR
namespace Fx
theorem go277:goFn Tryz.prog 277=true:=by kernel_rfl
end Fx
theorem Num_ok (xs:List Y) (h:Sh) (G:PM) (hs:SlR G 1 encY h xs) (n:BitVec 64) (hl:xs.length≤100000000000000):Ct Tryz.prog 277 ([h.val xs.length,uv .u64 n]:List Value).toArray G [] (PR 5 (fun L=>L=xs++numN n.toNat)):=by
 refine Ct.of Tryz.func277 rfl Tryz.ntmps277 rfl fun w0 hs0=>?_
 have ln:=num_len10 n.isLt
 refine .seq (rq1 rfl rfl (aS rfl rfl (.nil (.code (.seq (rq4 rfl rfl ?_))))))
 refine b0B rfl FxVerR.se25 ?_; intro b6
 refine mV rfl rfl (apY0 rfl FxVerR.se25 FxVerR.zv5 (.u rfl) (.u rfl) .here hs.sc (by (try simp only [qlA,yl_len]); omega) ?_)
 intro v8 L8 _ ov8 eL8
 have lL8:L8.length=xs.length:=by rw [eL8]
 refine aS rfl rfl (.nil (.code (.seq (.block ?_))))
 refine Wk.lop (α:=BitVec 64×Value×List Y) (fun gh=>[(1,true,uv .u64 gh.1),(5,true,gh.2.1)]) (fun gh=>[rB gh.2.1 5 gh.2.2])
  (fun gh Gl=>(gh.2.2++numN gh.1.toNat=xs++numN n.toNat)) (fun gh=>gh.1.toNat) (n,v8,L8) [] []
  (esD rfl (esD rfl eZ))
  (mS .here rfl mN) ?_ ?_
 ·(try dsimp only)<;>(rw [eL8])
 intro gh N0 Gl0 hN0 hGl0 hF0
 obtain ⟨m,v,L⟩:=gh; dsimp only at hF0 hN0 ⊢
 have eq:=hF0
 have tq:@BitVec.toNat IntKind.u64.bits m=m.toNat:=rfl
 have lq:=congrArg List.length eq
 simp only [List.length_append] at lq
 have lp:=num_pos m.toNat
 refine .seq (.seq (rq2 rfl rfl (mV rfl rfl (cp rfl .no (.u rfl) (.u rfl) rfl (.nil (.code (.cond rfl (fun c1=>?_) (fun c1=>?_))))))))
 ·have c1k:=c1
  try simp only [qcA,qcC,qcB] at c1
  refine .skip (.code (.seq (.block (rq7 rfl rfl (mV rfl rfl (mV rfl rfl (cu (k:=.u64) rfl .no rfl FxVerR.cv23_5 (.u rfl) ?_)))))))
  refine bw (k:=.u8) (b:=128#8) rfl .no rfl (.u rfl) (.u rfl) rfl ?_
  refine Go.Tan.b1 rfl FxVerR.se25 FxVerR.zv5 (.u rfl) rfl rfl (by decide) ?_; intro b17
  refine apY rfl FxVerR.se25 FxVerR.zv5 (.u rfl) (.u rfl) tk1 (Sc.one .here) (by show _+1≤_; omega) ?_
  intro v18 L18 ov18 eL18
  have lL18:L18.length=L.length+1:=by rw [eL18,List.length_append]; first|rfl | simp [yl_len]
  refine aS rfl rfl (.nil (.blk (.code (rq3 rfl rfl (mV rfl rfl (rw' (k:=.u64) rfl .no (.u rfl) (.u rfl) (fun _=>by decide) ?_))))))
  refine aS rfl rfl (.nil (We.lpo (m >>> 7,v18,L18) ?_ ?_ ?_ ?_ ?_))
  ·exact (esD rfl (esD rfl eZ))
  ·exact (mS .here rfl mN)
  ·(dsimp only; rw [shr7]; omega)
  ·exact hGl0
  (try dsimp only)<;>(rw [eL18,←eq,num_more (m:=m) (by omega),List.append_assoc]; rfl)
 have c1k:=c1
 try simp only [qcA,qcC,qcB] at c1
 refine .exit (.xcode (.xlp (.xblk (.code (.seq (rq6 rfl rfl (mV rfl rfl (mV rfl rfl (cu (k:=.u64) rfl .no rfl FxVerR.cv23_5 (.u rfl) ?_)))))))))
 refine Go.Tan.b1 rfl FxVerR.se25 FxVerR.zv5 (.u rfl) rfl rfl (by decide) ?_; intro b22
 refine apY rfl FxVerR.se25 FxVerR.zv5 (.u rfl) (.u rfl) tk1 (Sc.one .here) (by show _+1≤_; omega) ?_
 intro v23 L23 ov23 eL23
 have lL23:L23.length=L.length+1:=by rw [eL23,List.length_append]; first|rfl | simp [yl_len]
 refine aS rfl rfl (.nil (.code (.ret (We.fin Tryz.results277 (.tmp rfl .nil) (mS .here rfl mN) ?_))))
 exact ⟨L23,by rw [eL23,←eq,num_last (m:=m) (by omega)]; rfl,rfl⟩
theorem Num_i (xs:List Y) (h:Sh) (G:PM) (hs:SlR G 1 encY h xs) (x:Int) (hx:u64 x) (hl:xs.length≤100000000000000):Ct Tryz.prog 277 ([h.val xs.length,.int .u64 x]:List Value).toArray G [] (PR 5 (fun L=>L=xs++numN x.toNat)):=by
 rw [uvI hx,←ofI hx]; exact Num_ok xs h G hs _ hl
theorem Str_ok (xs:List Y) (h:Sh) (G:PM) (hs:SlR G 1 encY h xs) (s:ByteArray) (hl:xs.length+s.size≤100000000000000):Ct Tryz.prog 273 ([h.val xs.length,.string s]:List Value).toArray G [] (PR 5 (fun L=>L=xs++strL (yb s))):=by
 refine Ct.of Tryz.func273 rfl Tryz.ntmps273 rfl fun w0 hs0=>?_
 have ly:=yb_len s
 have ln:=num_len10 (n:=s.size) (by omega)
 refine .seq (rq1 rfl rfl (aS rfl rfl (.nil (.code (.seq (rq8 rfl rfl (mV rfl rfl (mV rfl rfl (ls rfl .no Fx.st9 (.u rfl) (cw rfl .no FxVerR.cv3_23 (.u rfl) (fun _=>wrap_u64 (by omega) (by omega)) ?_))))))))))
 refine kc rfl Fx.go277 (Evc rfl (Evc rfl Evn)) (Ct.rowc (Num_i xs h _ hs (s.size:Int) ⟨by omega,by omega⟩ (by omega))) ?_
 rintro v9 G9 μ9 hG9 ⟨L9,ov9,eL9,rfl⟩
 refine mV rfl rfl ?_
 have l9:L9.length=xs.length+(numN s.size).length:=by rw [eL9,List.length_append,Int.toNat_natCast]
 refine apT rfl FxVerR.se25 Fx.st9 FxVerR.zv5 (.u rfl) (.u rfl) .here (by (try simp only [List.length_append]); omega) ?_; intro v11 L11 ov11 eL11
 refine aS rfl rfl (.nil (.code (.ret (We.fin Tryz.results273 (.tmp rfl .nil) (mS .here rfl mN) ?_))))
 exact ⟨L11,by rw [eL11,eL9,strL,ly,Int.toNat_natCast,List.append_assoc],rfl⟩
namespace Fx
theorem sz30:szT Tryz.prog 30=some 1:=by kernel_rfl
end Fx
namespace Fx
theorem se279:slE Tryz.prog 279=some (23,1,8):=by kernel_rfl
theorem sn279:(slE Tryz.prog 279).isSome=true:=by kernel_rfl
end Fx
theorem numbers_ok (xs:List Y) (h:Sh) (ns:List Int) (hn:Sh) (G:PM) (hs:SlR G 1 encY h xs) (hsn:SlR G 1 encQ hn ns) (hu:∀ x∈ns,u64 x) (hl:xs.length+10*ns.length≤100000000000000):Ct Tryz.prog 295 ([h.val xs.length,hn.val ns.length]:List Value).toArray G [] (fun G' μ' u=>∃ (s:Sh) (L:List Y),L=xs++numsL ns∧μ'=[]∧u=s.val L.length∧SlR G' 1 encY s L):=by
 refine Ct.of Tryz.func295 rfl Tryz.ntmps295 rfl fun w0 hs0=>?_
 refine .seq (rq1 rfl rfl (aS rfl rfl (.nil (.code (.seq (.seq (rq3 rfl rfl (mV rfl rfl (ln rfl .no Fx.sn279 (.u rfl) (mV rfl rfl (.nil (.code (.block ?_)))))))))))))
 refine Wk.lop (α:=Nat×Sh×List Y) (fun gh=>[(0,true,gh.2.1.val gh.2.2.length),(9,true,.int .i64 (gh.1:Int))]) (fun _=>[])
  (fun gh Gl=>(gh.1≤ns.length)∧(gh.2.2=xs++numsL (ns.take gh.1))∧(SlR Gl 1 encY gh.2.1 gh.2.2)) (fun gh=>ns.length-gh.1) (0,h,xs) [(7,true,_),(8,true,_)] []
  (esD rfl (esC rfl (by first|rfl|exact evi (by omega)) (esD rfl (esD rfl eZ))))
  mN ?_ ?_
 ·refine ⟨?_,?_,?_⟩
  ·(try dsimp only)<;>(first|omega|rfl|assumption|(simp; done))
  ·(try dsimp only)<;>(simp [numsL])
  (try dsimp only)<;>(exact hs)
 intro gh N0 Gl0 hN0 hGl0 hF0
 obtain ⟨k,h0,L⟩:=gh; dsimp only at hF0 hN0 ⊢
 obtain ⟨hk,eL,hsl⟩:=hF0
 have hsn:=hsn.mono hGl0
 have lt:=numsL_take hu k
 have lL:L.length=xs.length+(numsL (ns.take k)).length:=by rw [eL,List.length_append]
 refine .seq (rq1 rfl rfl (cp rfl .no (.u rfl) (.u rfl) rfl (.nil (.code (.seq (.cond rfl (fun c1=>?_) (fun c1=>?_)))))))
 ·have c1k:=c1
  try simp only [qcA,qcB] at c1
  refine .skip (.code (.seq (.block (.seq (rq3 rfl rfl (ih rfl .no Fx.se279 (.u rfl) (.u rfl) (fun _=>by omega) (fun _=>by omega) (fun _=>hsn.nn (k:=k) (by first|omega|(simp only [Bool.and_eq_true,decide_eq_true_eq] at hc; omega)|(simp only [List.length_cons,List.length_nil]; omega))) ?_))))))
  obtain ⟨x12,ex12⟩:=getx (k:=k) (xs:=ns) (by omega)
  refine ld rfl .no FxVerP.ag23 (.u rfl) (fun _=>(hsn.u1 k (by omega) ex12).rd) ?_
  refine aS rfl rfl (.nil (.code (rq4 rfl rfl (mV rfl rfl (mV rfl rfl (kc rfl Fx.go277 (Evc rfl (Evc rfl Evn)) (Ct.frzB (Num_i L h0 _ hsl x12 (hu x12 (List.mem_of_getElem? ex12)) (by omega))) ?_))))))
  rintro _ G15 μ15 hG15 ⟨h15,L15,eL15,rfl,rfl,hs15⟩
  have hsl:=hsl.mono hG15
  refine aS rfl rfl (.nil (.blk (.code (rq2 rfl rfl (arn (((k+1):Nat):Int) rfl .no (.u rfl) (.u rfl) rfl (fun _=>by omega) (fun _=>wrap_i64 (by omega) (by omega)) ?_)))))
  refine mV rfl rfl (.nil (We.lpo (k+1,h15,L15) ?_ ?_ ?_ ?_ ?_))
  ·exact (esD rfl (esC rfl (by first|rfl|exact evi (by omega)) (esD rfl (esD rfl eZ))))
  ·exact mN
  ·first|omega|(dsimp only; omega)
  ·exact (hGl0).trans hG15
  refine ⟨?_,?_,?_⟩
  ·(try dsimp only)<;>(first|omega|rfl|assumption|(simp; done))
  ·(try dsimp only)<;>(rw [eL15,eL,numsL_snoc ex12,List.append_assoc])
  (try dsimp only)<;>(exact hs15)
 have c1k:=c1
 try simp only [qcA,qcB] at c1
 refine .exit (.xcode (.xlp (.xblk (.code (.seq (rq2 rfl rfl (mV rfl rfl (aS rfl rfl (.nil (.code (.ret (We.fin0 Tryz.results295 (.tmp rfl .nil) ?_))))))))))))
 obtain rfl:k=ns.length:=by omega
 rw [List.take_length] at eL
 exact ⟨h0,L,eL,rfl,rfl,hsl⟩
namespace Fx
theorem ag4:aggN Tryz.prog 4=some none:=by kernel_rfl
theorem sz4:szT Tryz.prog 4=some 1:=by kernel_rfl
end Fx
namespace FxVerW
theorem ar34:arE Tryz.prog 34=some (32,5,1):=by kernel_rfl
end FxVerW
namespace Fx
theorem fo184_2:fOff Tryz.prog 184 2=some 2:=by kernel_rfl
theorem sz9:szT Tryz.prog 9=some 1:=by kernel_rfl
theorem fo184_8:fOff Tryz.prog 184 8=some 8:=by kernel_rfl
end Fx
namespace Fx
theorem zq202:zrL Tryz.prog 202=some (nine (fun _=>0)++[.slice none 0 0,.slice none 0 0]):=by kernel_rfl
theorem fo202_0:fOff Tryz.prog 202 0=some 0:=by kernel_rfl
theorem fo202_1:fOff Tryz.prog 202 1=some 1:=by kernel_rfl
theorem fo202_2:fOff Tryz.prog 202 2=some 2:=by kernel_rfl
theorem fo202_3:fOff Tryz.prog 202 3=some 3:=by kernel_rfl
theorem fo202_4:fOff Tryz.prog 202 4=some 4:=by kernel_rfl
theorem fo202_5:fOff Tryz.prog 202 5=some 9:=by kernel_rfl
theorem sz155:szT Tryz.prog 155=some 1:=by kernel_rfl
theorem zr289:zrL Tryz.prog 289=some ([.int .u8 0,.int .u64 0]):=by kernel_rfl
theorem sz289:szT Tryz.prog 289=some 2:=by kernel_rfl
theorem fo289_1:fOff Tryz.prog 289 1=some 1:=by kernel_rfl
theorem fo202_6:fOff Tryz.prog 202 6=some 10:=by kernel_rfl
theorem ag200:aggN Tryz.prog 200=some none:=by kernel_rfl
theorem ag289:aggN Tryz.prog 289=some (some 2):=by kernel_rfl
theorem se200:slE Tryz.prog 200=some (289,2,16):=by kernel_rfl
theorem sz202:szT Tryz.prog 202=some 11:=by kernel_rfl
theorem ag202:aggN Tryz.prog 202=some (some 11):=by kernel_rfl
end Fx
namespace Fx
theorem ag159:aggN Tryz.prog 159=some (some 14):=by kernel_rfl
theorem go149:goFn Tryz.prog 149=true:=by kernel_rfl
end Fx
theorem look_ok (s:State) (hd:Nat→Sh) (G:PM) (hs:StR G s hd) (hf:tot s 5≤1024) (us:ByteArray):Ct Tryz.prog 99 ([s.val hd,.string us]:List Value).toArray G [] (fun G' μ' u=>μ'=[]∧∃ h:Sh,u=h.val (lookM s us 5).length∧SlR G' 40 Meta.cells h (lookM s us 5)):=by
 refine Ct.of Tryz.func99 rfl Tryz.ntmps99 rfl fun w0 hs0=>?_
 refine .seq (rq2 rfl rfl ?_)
 refine bx rfl (.u rfl) rfl ?_; intro b2
 refine aS rfl rfl (.nil (.code (.seq (rq1 rfl rfl (aS rfl rfl (.nil (.code (.seq (.seq (rq1 rfl rfl (mV rfl rfl (.nil (.code (.block (wk_nilRow 184 40 ?_)))))))))))))))
 refine Wk.lop (α:=Nat×Value) (fun gh=>[(5,true,gh.2),(7,true,.int .i64 (gh.1:Int))]) (fun gh=>[.row gh.2 184 40 (lookM s us gh.1).length ((lookM s us gh.1).flatMap Meta.cells)])
  (fun gh Gl=>gh.1≤5) (fun gh=>5-gh.1) (0,.slice none 0 0) [(1,true,_),(2,true,_)] [.blk b2 _]
  (esD rfl (esD rfl (esD rfl (esD rfl eZ))))
  (mS .here rfl (mS .here rfl mN)) ?_ ?_
 ·show 0≤5; omega
 intro gh N0 Gl0 hN0 hGl0 hF0
 obtain ⟨k,v⟩:=gh; dsimp only at hF0 hN0 ⊢
 have hk:k≤5:=hF0; have hn:=tot_mono s (show k≤5 by omega); have hal:=lookM_len s us k
 refine .seq (rq1 rfl rfl (cp rfl .no (.u rfl) (.u rfl) rfl (.nil (.code (.seq (.cond rfl (fun c1=>?_) (fun c1=>?_)))))))
 ·have c1k:=c1
  try simp only [qcA] at c1
  refine .skip (.code (.seq (.block (.seq (rq2 rfl rfl (mV rfl rfl (aS rfl rfl (.nil (.code (rq8 rfl rfl ?_))))))))))
  have hn1:=tot_mono s (show k+1≤5 by omega); rw [show tot s (k+1)=tot s k+(s.lv k).length from rfl] at hn1; have hov:=ovu_len s k us
  refine mV rfl rfl (lA rfl .no Fx.ag159 (.u rfl) (fun _=>RdN.own tk1) (fun _=>rfl) ?_)
  refine mV rfl rfl (mV rfl rfl (mV rfl rfl (kc rfl Fx.go149 (Evc rfl (Evc rfl (Evc rfl (Evc rfl Evn)))) (over_ok s hd _ (hs.mono hGl0) (k:Int) us us) ?_)))
  rintro v Ga μa hGa ⟨rfl,ha,rfl,hsa⟩
  refine ap rfl Fx.se155 Fx.zw184 rfl (.u rfl) (.u rfl) .here (flat_len (metas_len _)) (fun h=>⟨_,_,hsa.nn h,(hsa.flat (metas_len _)).rd⟩) (metas_one _) (by omega) (by unfold maxLen; omega) ?_; intro v16
  refine aS rfl rfl (.nil (.blk (.code (rq2 rfl rfl (ar rfl .no (.u rfl) (.u rfl) rfl (fun _=>wrap_i64 (by omega) (by omega)) ?_)))))
  refine mV rfl rfl (.nil (We.lpo (k+1,v16) ?_ ?_ ?_ ?_ ?_))
  ·exact (esD rfl (esD rfl (esD rfl (esD rfl eZ))))
  ·exact (mS .here (lookM_row s us k _ _) (mS .here rfl mN))
  ·first|omega|(dsimp only; omega)
  ·exact hGl0.trans hGa
  show k+1≤5; omega
 have c1k:=c1
 try simp only [qcA] at c1
 refine .exit (.xcode (.xlp (.xblk (.code (.seq (rq2 rfl rfl (mV rfl rfl (aS rfl rfl (.nil (.code (.ret (we_fr .here (fun b hb=>by cases hb) ?_))))))))))))
 intro Gf hh hlef hv hcap hnn hrd; subst hv
 refine We.fin0 Tryz.results99 (.tmp rfl .nil) ?_
 obtain rfl:k=5:=by omega
 exact ⟨rfl,hh,rfl,SlR.ofRow (metas_len _) hcap hnn hrd⟩
namespace Fx
theorem zv23:(Tryz.prog.info? 23).bind (·.zero)=some (.int .u64 0):=by kernel_rfl
theorem go295:goFn Tryz.prog 295=true:=by kernel_rfl
theorem go273:goFn Tryz.prog 273=true:=by kernel_rfl
theorem sn200:(slE Tryz.prog 200).isSome=true:=by kernel_rfl
theorem fo289_0:fOff Tryz.prog 289 0=some 0:=by kernel_rfl
end Fx
set_option maxHeartbeats 2000000 in
theorem encode_ok (e:Edit) (ha hd:Sh) (G:PM) (he:EdR G e ha hd) (hla:e.add.length≤1000000) (hld:e.drop.length≤1000000) (hlm:(e.add.flatMap encM).length≤10000000000000):Ct Tryz.prog 208 ([e.val ha hd]:List Value).toArray G [] (fun G' μ' u=>∃ (s:Sh) (L:List Y),L=encE e∧μ'=[]∧u=s.val L.length∧SlR G' 1 encY s L):=by
 refine Ct.of Tryz.func208 rfl Tryz.ntmps208 rfl fun w0 hs0=>?_
 have hea:=he.add; have hed:=he.drop; have hw:=he.wf; have hw1:=hw.log; have hw2:=hw.next; have hw3:=hw.seq; have hw4:=hw.least; have lgn:(gensL e).length=5:=rfl
 refine .seq (rq2 rfl rfl ?_)
 refine bx rfl (.u rfl) rfl ?_; intro b1
 refine aS rfl rfl (.nil (.code (.seq ?_)))
 refine wk_fz .here (by intro b hb; cases hb) ?_; intro Gfb1 hleb1 hbb1
 have hea:=hea.mono hleb1
 have hed:=hed.mono hleb1
 have hgn:=gens_sl hbb1
 refine Wk.rg [0,1,2,3,4,5,6,7,8,9,10] rfl rfl (fa rfl .no Fx.fo202_0 (.u rfl) (ld rfl .no FxVerP.ag23 (.u rfl) (fun _=>(hbb1.rd (by rfl)).rd) ?_))
 refine fa rfl .no Fx.fo202_1 (.u rfl) (ld rfl .no FxVerP.ag23 (.u rfl) (fun _=>(hbb1.rd (by rfl)).rd) ?_)
 refine fa rfl .no Fx.fo202_2 (.u rfl) (ld rfl .no FxVerP.ag23 (.u rfl) (fun _=>(hbb1.rd (by rfl)).rd) ?_)
 refine fa rfl .no Fx.fo202_3 (.u rfl) (ld rfl .no FxVerP.ag23 (.u rfl) (fun _=>(hbb1.rd (by rfl)).rd) ?_)
 refine bQ [e.log,e.next,e.seq,e.least] rfl Fx.se279 Fx.zv23 (Evp.cons (.u rfl) (Evp.cons (.u rfl) (Evp.cons (.u rfl) (Evp.cons (.u rfl) Evp.nil)))) rfl rfl (by decide) ?_; intro G16 h16 hG16 hs16
 have hea:=hea.mono hG16
 have hed:=hed.mono hG16
 have hbb1:=hbb1.mono hG16
 have hgn:=hgn.mono hG16
 refine kc rfl Fx.go295 (Evc rfl (Evc rfl Evn)) (numbers_ok ([]:List Y) ⟨none,0⟩ [e.log,e.next,e.seq,e.least] h16 _ SlR.nul hs16 (q4 hw1 hw2 hw3 hw4) (by simp only [List.length_cons,List.length_nil]; omega)) ?_
 rintro _ G17 μ17 hG17 ⟨h17,L17,eL17,rfl,rfl,hs17⟩
 have lL17:L17.length≤([]:List Y).length+10*([e.log,e.next,e.seq,e.least]:List Int).length:=by rw [eL17,List.length_append]; have:=numsL_len (ns:=[e.log,e.next,e.seq,e.least]) (q4 hw1 hw2 hw3 hw4); omega
 try simp only [List.length_cons,List.length_nil] at lL17
 have hea:=hea.mono hG17
 have hed:=hed.mono hG17
 have hbb1:=hbb1.mono hG17
 have hgn:=hgn.mono hG17
 refine aS rfl rfl (.nil (.code (.seq (Wk.mix ⟨false,false⟩ FxVerP.mix (by kernel_rfl) ?_))))
 refine Wt.one 0 (by kernel_rfl) ?_
 refine mV rfl rfl (.nil (Wt.one 1 (by kernel_rfl) ?_))
 refine fa rfl .no Fx.fo202_4 (.u rfl) (.nil (Wt.one 2 (by kernel_rfl) ?_))
 refine sa0 rfl .no Fx.ar157 (.u rfl) (.nil (Wt.one 4 (by kernel_rfl) ?_))
 refine fa rfl .no Fx.fo202_5 (.u rfl) (.nil (Wt.one 5 (by kernel_rfl) ?_))
 refine ld rfl .no Fx.ag155 (.u rfl) (fun _=>(hbb1.rd (by rfl)).rd) ?_
 refine .nil (Wt.one 6 (by kernel_rfl) ?_)
 refine ln rfl .no Fx.sn155 (.u rfl) (.nil (Wt.one 7 (by kernel_rfl) ?_))
 refine cw rfl .no FxVerR.cv3_23 (.u rfl) (fun _=>wrap_u64 (by omega) (by omega)) ?_
 refine .nil (Wt.b2 3 8 (by kernel_rfl) ?_ ?_)
 ·refine kc rfl Fx.go295 (Evc rfl (Evc rfl Evn)) (numbers_ok L17 h17 (gensL e) ⟨some ⟨b1,4,none⟩,5⟩ _ hs17 hgn (gens_u hw) (by show _+10*5≤_; omega)) ?_
  rintro _ G21 μ21 hG21 ⟨h21,L21,eL21,rfl,rfl,hs21⟩
  have lL21:L21.length≤L17.length+10*((gensL e):List Int).length:=by rw [eL21,List.length_append]; have:=numsL_len (ns:=(gensL e)) (gens_u hw); omega
  try simp only [List.length_cons,List.length_nil] at lL21
  have hea:=hea.mono hG21
  have hed:=hed.mono hG21
  have hbb1:=hbb1.mono hG21
  have hgn:=hgn.mono hG21
  have hs17:=hs17.mono hG21
  refine .nil (Wt.b1 8 (by kernel_rfl) ?_)
  refine bQ [(e.add.length:Int)] rfl Fx.se279 Fx.zv23 (Evp.cons (.u rfl) Evp.nil) rfl rfl (by decide) ?_; intro G26 h26 hG26 hs26
  have hea:=hea.mono hG26
  have hed:=hed.mono hG26
  have hbb1:=hbb1.mono hG26
  have hgn:=hgn.mono hG26
  have hs17:=hs17.mono hG26
  have hs21:=hs21.mono hG26
  refine .nil (Wt.b1 9 (by kernel_rfl) ?_)
  refine kc rfl Fx.go295 (Evc rfl (Evc rfl Evn)) (numbers_ok L21 h21 [(e.add.length:Int)] h26 _ hs21 hs26 (q1 (u64_len (by omega))) (by simp only [List.length_cons,List.length_nil]; omega)) ?_
  rintro _ G27 μ27 hG27 ⟨h27,L27,eL27,rfl,rfl,hs27⟩
  have lL27:L27.length≤L21.length+10*([(e.add.length:Int)]:List Int).length:=by rw [eL27,List.length_append]; have:=numsL_len (ns:=[(e.add.length:Int)]) (q1 (u64_len (by omega))); omega
  try simp only [List.length_cons,List.length_nil] at lL27
  have hea:=hea.mono hG27
  have hed:=hed.mono hG27
  have hbb1:=hbb1.mono hG27
  have hgn:=hgn.mono hG27
  have hs17:=hs17.mono hG27
  have hs21:=hs21.mono hG27
  have hs26:=hs26.mono hG27
  refine .nil (Wt.one 10 (by kernel_rfl) ?_)
  refine aS rfl rfl (.nil (Wt.last (by kernel_rfl) ?_))
  refine .code (.seq (.seq (rq4 rfl rfl (fa rfl .no Fx.fo202_5 (.u rfl) (ld rfl .no Fx.ag155 (.u rfl) (fun _=>(hbb1.rd (by rfl)).rd) ?_)))))
  refine ln rfl .no Fx.sn155 (.u rfl) (mV rfl rfl (.nil (.code (.block ?_))))
  refine Wk.lop (α:=Nat×Sh×List Y) (fun gh=>[(3,true,gh.2.1.val gh.2.2.length),(31,true,.int .i64 (gh.1:Int))]) (fun _=>[])
   (fun gh Gl=>(gh.1≤e.add.length)∧(gh.2.2=L27++(e.add.take gh.1).flatMap encM)∧(SlR Gl 1 encY gh.2.1 gh.2.2)) (fun gh=>e.add.length-gh.1) (0,h27,L27) [(1,true,_),(29,true,_),(30,true,_)] []
   (esD rfl (esC rfl (by first|rfl|exact evi (by omega)) (esD rfl (esD rfl (esD rfl eZ)))))
   mN ?_ ?_
  ·refine ⟨?_,?_,?_⟩
   ·(try dsimp only)<;>(first|omega|rfl|assumption|(simp; done))
   ·(try dsimp only)<;>(simp)
   (try dsimp only)<;>(exact hs27)
  intro gh N0 Gl0 hN0 hGl0 hF0
  obtain ⟨k,h3,L3⟩:=gh; dsimp only at hF0 hN0 ⊢
  obtain ⟨hk,eL,hsl⟩:=hF0
  have hea:=hea.mono hGl0
  have hed:=hed.mono hGl0
  have hbb1:=hbb1.mono hGl0
  have hgn:=hgn.mono hGl0
  have hs17:=hs17.mono hGl0
  have hs21:=hs21.mono hGl0
  have hs26:=hs26.mono hGl0
  have hs27:=hs27.mono hGl0
  have lk:=flat_take_le (f:=encM) (xs:=e.add) k
  have lL:L3.length=L27.length+((e.add.take k).flatMap encM).length:=by rw [eL,List.length_append]
  refine .seq (rq1 rfl rfl (cp rfl .no (.u rfl) (.u rfl) rfl (.nil (.code (.seq (.cond rfl (fun c1=>?_) (fun c1=>?_)))))))
  ·have c1k:=c1
   try simp only [qcA,qcB] at c1
   refine .skip (.code (.seq (.block (.seq (rq4 rfl rfl (ih rfl .no Fx.se155 (.u rfl) (.u rfl) (fun _=>by omega) (fun _=>by omega) (fun _=>hea.nn (k:=k) (by first|omega|(simp only [Bool.and_eq_true,decide_eq_true_eq] at hc; omega)|(simp only [List.length_cons,List.length_nil]; omega))) ?_))))))
   obtain ⟨m,em⟩:=getx (k:=k) (xs:=e.add) (by omega)
   refine lA rfl .no Fx.ag184 (.u rfl) (fun _=>(hea.at (by omega) em).rd) (fun _=>Meta.len _) ?_
   refine al rfl Fx.zq184 ?_; intro b5
   refine sw rfl (.u rfl) (.u rfl) rfl Fx.sz184 .here rfl (Meta.one _) ?_
   refine .nil (.code (.seq ?_))
   refine wk_fz .here (by intro b hb; cases hb) ?_; intro Gfb5 hleb5 hbb5
   have hea:=hea.mono hleb5
   have hed:=hed.mono hleb5
   have hbb1:=hbb1.mono hleb5
   have hgn:=hgn.mono hleb5
   have hs17:=hs17.mono hleb5
   have hs21:=hs21.mono hleb5
   have hs26:=hs26.mono hleb5
   have hs27:=hs27.mono hleb5
   have hsl:=hsl.mono hleb5
   have hwm:=hw.add m (List.mem_of_getElem? em); have w1:=hwm.level; have w2:=hwm.gen; have w3:=hwm.epoch; have w4:=hwm.number; have l6:=u64_6 hwm; have lt:=flat_take (f:=encM) em; have lg:=encM_ge m
   refine Wk.rg [0,1,2,3,4,5,6,7,8,9,10,11,12,13,14,15,16,17,18] rfl rfl (mV rfl rfl (fa rfl .no Fx.fo184_0 (.u rfl) (ld rfl .no FxVerP.ag5 (.u rfl) (fun _=>(hbb5.rd (by rfl)).rd) ?_)))
   refine cw rfl .no FxVerR.cv5_23 (.u rfl) (fun _=>wrap_u64 (by omega) (by omega)) ?_
   refine fa rfl .no Fx.fo184_1 (.u rfl) (ld rfl .no FxVerP.ag23 (.u rfl) (fun _=>(hbb5.rd (by rfl)).rd) ?_)
   refine fa rfl .no Fx.fo184_2 (.u rfl) (ld rfl .no FxVerP.ag23 (.u rfl) (fun _=>(hbb5.rd (by rfl)).rd) ?_)
   refine fa rfl .no Fx.fo184_3 (.u rfl) (ld rfl .no FxVerP.ag23 (.u rfl) (fun _=>(hbb5.rd (by rfl)).rd) ?_)
   refine fa rfl .no Fx.fo184_4 (.u rfl) (ld rfl .no FxVerP.ag3 (.u rfl) (fun _=>(hbb5.rd (by rfl)).rd) ?_)
   refine cv rfl .no FxVerR.cv3_23 (.u rfl) (fa rfl .no Fx.fo184_5 (.u rfl) (ld rfl .no FxVerP.ag3 (.u rfl) (fun _=>(hbb5.rd (by rfl)).rd) ?_))
   refine cv rfl .no FxVerR.cv3_23 (.u rfl) ?_
   refine bQ [m.level,m.gen,m.epoch,m.number,IntKind.u64.wrap m.size,IntKind.u64.wrap m.count] rfl Fx.se279 Fx.zv23 (Evp.cons (.u rfl) (Evp.cons (.u rfl) (Evp.cons (.u rfl) (Evp.cons (.u rfl) (Evp.cons (.u rfl) (Evp.cons (.u rfl) Evp.nil)))))) rfl rfl (by decide) ?_; intro G51 h51 hG51 hs51
   have hea:=hea.mono hG51
   have hed:=hed.mono hG51
   have hbb1:=hbb1.mono hG51
   have hgn:=hgn.mono hG51
   have hs17:=hs17.mono hG51
   have hs21:=hs21.mono hG51
   have hs26:=hs26.mono hG51
   have hs27:=hs27.mono hG51
   have hsl:=hsl.mono hG51
   have hbb5:=hbb5.mono hG51
   refine kc rfl Fx.go295 (Evc rfl (Evc rfl Evn)) (numbers_ok L3 h3 [m.level,m.gen,m.epoch,m.number,IntKind.u64.wrap m.size,IntKind.u64.wrap m.count] h51 _ hsl hs51 l6 (by simp only [List.length_cons,List.length_nil]; omega)) ?_
   rintro _ G52 μ52 hG52 ⟨h52,L52,eL52,rfl,rfl,hs52⟩
   have lL52:L52.length≤L3.length+10*([m.level,m.gen,m.epoch,m.number,IntKind.u64.wrap m.size,IntKind.u64.wrap m.count]:List Int).length:=by rw [eL52,List.length_append]; have:=numsL_len (ns:=[m.level,m.gen,m.epoch,m.number,IntKind.u64.wrap m.size,IntKind.u64.wrap m.count]) l6; omega
   try simp only [List.length_cons,List.length_nil] at lL52
   have hea:=hea.mono hG52
   have hed:=hed.mono hG52
   have hbb1:=hbb1.mono hG52
   have hgn:=hgn.mono hG52
   have hs17:=hs17.mono hG52
   have hs21:=hs21.mono hG52
   have hs26:=hs26.mono hG52
   have hs27:=hs27.mono hG52
   have hsl:=hsl.mono hG52
   have hbb5:=hbb5.mono hG52
   have hs51:=hs51.mono hG52
   refine aS rfl rfl (.nil (.code (Wk.draw (mc:=⟨false,false⟩) [0,1,2,4,5,7,8,3,6,9,10] FxVerP.mix (by kernel_rfl) ?_)))
   refine mV rfl rfl (fa rfl .no Fx.fo184_6 (.u rfl) (ld rfl .no Fx.ag9 (.u rfl) (fun _=>(hbb5.rd (by rfl)).rd) ?_))
   refine fa rfl .no Fx.fo184_7 (.u rfl) (ld rfl .no Fx.ag9 (.u rfl) (fun _=>(hbb5.rd (by rfl)).rd) ?_)
   refine fa rfl .no Fx.fo184_8 (.u rfl) ?_
   refine kA rfl .no FxVerW.ar34 (.u rfl) hbb5 (meta_ba hwm) ?_; intro h61 L61 eL61 lL61 hs61
   have ly:=yb_len m.min; have ly2:=yb_len m.max
   refine kc rfl Fx.go273 (Evc rfl (Evc rfl Evn)) (Ct.frzB (Str_ok L52 h52 _ hs52 m.min (by omega))) ?_
   rintro _ G56 μ56 hG56 ⟨h56,L56,eL56,rfl,rfl,hs56⟩
   have hea:=hea.mono hG56
   have hed:=hed.mono hG56
   have hbb1:=hbb1.mono hG56
   have hgn:=hgn.mono hG56
   have hs17:=hs17.mono hG56
   have hs21:=hs21.mono hG56
   have hs26:=hs26.mono hG56
   have hs27:=hs27.mono hG56
   have hsl:=hsl.mono hG56
   have hbb5:=hbb5.mono hG56
   have hs51:=hs51.mono hG56
   have hs52:=hs52.mono hG56
   have hs61:=hs61.mono hG56
   have l56:L56.length≤L52.length+(m.min.size+10):=by rw [eL56,List.length_append]; have:=strL_len (xs:=yb m.min) (by omega); omega
   refine kc rfl Fx.go273 (Evc rfl (Evc rfl Evn)) (Ct.rowc (Str_ok L56 h56 _ hs56 m.max (by omega))) ?_
   rintro v59 G59 μ59 hG59 ⟨L59,ov59,eL59,rfl⟩
   have hea:=hea.mono hG59
   have hed:=hed.mono hG59
   have hbb1:=hbb1.mono hG59
   have hgn:=hgn.mono hG59
   have hs17:=hs17.mono hG59
   have hs21:=hs21.mono hG59
   have hs26:=hs26.mono hG59
   have hs27:=hs27.mono hG59
   have hsl:=hsl.mono hG59
   have hbb5:=hbb5.mono hG59
   have hs51:=hs51.mono hG59
   have hs52:=hs52.mono hG59
   have hs61:=hs61.mono hG59
   have hs56:=hs56.mono hG59
   have l59:L59.length≤L56.length+(m.max.size+10):=by rw [eL59,List.length_append]; have:=strL_len (xs:=yb m.max) (by omega); omega
   refine apY rfl FxVerR.se25 FxVerR.zv5 (.u rfl) (.u rfl) .here hs61.sc (by (try simp only [qlA,yl_len]); omega) ?_
   intro v62 L62 ov62 eL62
   have lL62:L62.length=L59.length+L61.length:=by rw [eL62,List.length_append]
   refine aS rfl rfl (.nil (.blk (.code ?_)))
   refine wk_fb .here (by first|(intro b hb; cases hb; done) | simp [keys,Res.keys]) ?_; intro GfR59 hR59 hleR59 evR59 hsR59; subst evR59
   have hea:=hea.mono hleR59
   have hed:=hed.mono hleR59
   have hbb1:=hbb1.mono hleR59
   have hgn:=hgn.mono hleR59
   have hs17:=hs17.mono hleR59
   have hs21:=hs21.mono hleR59
   have hs26:=hs26.mono hleR59
   have hs27:=hs27.mono hleR59
   have hsl:=hsl.mono hleR59
   have hbb5:=hbb5.mono hleR59
   have hs51:=hs51.mono hleR59
   have hs52:=hs52.mono hleR59
   have hs61:=hs61.mono hleR59
   have hs56:=hs56.mono hleR59
   refine rq2 rfl rfl (arn (((k+1):Nat):Int) rfl .no (.u rfl) (.u rfl) rfl (fun _=>by omega) (fun _=>wrap_i64 (by omega) (by omega)) ?_)
   refine mV rfl rfl (.nil (We.lpo (k+1,hR59,L62) ?_ ?_ ?_ ?_ ?_))
   ·exact (esD rfl (esC rfl (by first|rfl|exact evi (by omega)) (esD rfl (esD rfl (esD rfl eZ)))))
   ·exact mN
   ·first|omega|(dsimp only; omega)
   ·exact ((((((hGl0).trans hleb5).trans hG51).trans hG52).trans hG56).trans hG59).trans hleR59
   refine ⟨?_,?_,?_⟩
   ·(try dsimp only)<;>(first|omega|rfl|assumption|(simp; done))
   ·(try dsimp only)<;>(rw [eL62,eL59,eL56,eL52,eL61,encM_eq,eL,flat_snoc em,List.append_assoc])
   (try dsimp only)<;>(exact hsR59)
  have c1k:=c1
  try simp only [qcA,qcB] at c1
  refine .exit (.xcode (.xlp (.xblk (.code (.seq (rq8 rfl rfl (mV rfl rfl (fa rfl .no Fx.fo202_6 (.u rfl) (ld rfl .no Fx.ag200 (.u rfl) (fun _=>(hbb1.rd (by rfl)).rd) ?_)))))))))
  refine ln rfl .no Fx.sn200 (.u rfl) (cw rfl .no FxVerR.cv3_23 (.u rfl) (fun _=>wrap_u64 (by omega) (by omega)) ?_)
  refine bQ [(e.drop.length:Int)] rfl Fx.se279 Fx.zv23 (Evp.cons (.u rfl) Evp.nil) rfl rfl (by decide) ?_; intro G69 h69 hG69 hs69
  have hea:=hea.mono hG69
  have hed:=hed.mono hG69
  have hbb1:=hbb1.mono hG69
  have hgn:=hgn.mono hG69
  have hs17:=hs17.mono hG69
  have hs21:=hs21.mono hG69
  have hs26:=hs26.mono hG69
  have hs27:=hs27.mono hG69
  have hsl:=hsl.mono hG69
  refine kc rfl Fx.go295 (Evc rfl (Evc rfl Evn)) (numbers_ok L3 h3 [(e.drop.length:Int)] h69 _ hsl hs69 (q1 (u64_len (by omega))) (by simp only [List.length_cons,List.length_nil]; omega)) ?_
  rintro _ G70 μ70 hG70 ⟨h70,L70,eL70,rfl,rfl,hs70⟩
  have lL70:L70.length≤L3.length+10*([(e.drop.length:Int)]:List Int).length:=by rw [eL70,List.length_append]; have:=numsL_len (ns:=[(e.drop.length:Int)]) (q1 (u64_len (by omega))); omega
  try simp only [List.length_cons,List.length_nil] at lL70
  have hea:=hea.mono hG70
  have hed:=hed.mono hG70
  have hbb1:=hbb1.mono hG70
  have hgn:=hgn.mono hG70
  have hs17:=hs17.mono hG70
  have hs21:=hs21.mono hG70
  have hs26:=hs26.mono hG70
  have hs27:=hs27.mono hG70
  have hsl:=hsl.mono hG70
  have hs69:=hs69.mono hG70
  refine aS rfl rfl (.nil (.code (.seq (.seq (rq4 rfl rfl (fa rfl .no Fx.fo202_6 (.u rfl) (ld rfl .no Fx.ag200 (.u rfl) (fun _=>(hbb1.rd (by rfl)).rd) ?_)))))))
  refine ln rfl .no Fx.sn200 (.u rfl) (mV rfl rfl (.nil (.code (.block ?_))))
  refine Wk.lop (α:=Nat×Sh×List Y) (fun gh=>[(3,true,gh.2.1.val gh.2.2.length),(74,true,.int .i64 (gh.1:Int))]) (fun _=>[])
   (fun gh Gl=>(gh.1≤e.drop.length)∧(gh.2.2=L70++(e.drop.take gh.1).flatMap encG)∧(SlR Gl 1 encY gh.2.1 gh.2.2)) (fun gh=>e.drop.length-gh.1) (0,h70,L70) [(72,true,_),(73,true,_)] []
   (esD rfl (esC rfl (by first|rfl|exact evi (by omega)) (esD rfl (esD rfl eZ))))
   mN ?_ ?_
  ·refine ⟨?_,?_,?_⟩
   ·(try dsimp only)<;>(first|omega|rfl|assumption|(simp; done))
   ·(try dsimp only)<;>(simp)
   (try dsimp only)<;>(exact hs70)
  intro gh N1 Gl1 hN1 hGl1 hF1
  obtain ⟨j,h9,L9⟩:=gh; dsimp only at hF1 hN1 ⊢
  obtain ⟨hj,eL9,hsl2⟩:=hF1
  have hea:=hea.mono hGl1
  have hed:=hed.mono hGl1
  have hbb1:=hbb1.mono hGl1
  have hgn:=hgn.mono hGl1
  have hs17:=hs17.mono hGl1
  have hs21:=hs21.mono hGl1
  have hs26:=hs26.mono hGl1
  have hs27:=hs27.mono hGl1
  have hsl:=hsl.mono hGl1
  have hs69:=hs69.mono hGl1
  have hs70:=hs70.mono hGl1
  have lk2:=flat_take_le (f:=encG) (xs:=e.drop) j
  have ld2:=gonesL hw.drop
  have lL9:L9.length=L70.length+((e.drop.take j).flatMap encG).length:=by rw [eL9,List.length_append]
  refine .seq (rq1 rfl rfl (cp rfl .no (.u rfl) (.u rfl) rfl (.nil (.code (.seq (.cond rfl (fun c2=>?_) (fun c2=>?_)))))))
  ·have c2k:=c2
   try simp only [qcA,qcB] at c2
   refine .skip (.code (.seq (.block (.seq (rq4 rfl rfl (ih rfl .no Fx.se200 (.u rfl) (.u rfl) (fun _=>by omega) (fun _=>by omega) (fun _=>hed.nn (k:=j) (by first|omega|(simp only [Bool.and_eq_true,decide_eq_true_eq] at hc; omega)|(simp only [List.length_cons,List.length_nil]; omega))) ?_))))))
   obtain ⟨g,eg⟩:=getx (k:=j) (xs:=e.drop) (by omega)
   refine lA rfl .no Fx.ag289 (.u rfl) (fun _=>(hed.at (by omega) eg).rd) (fun _=>rfl) ?_
   refine al rfl Fx.zr289 ?_; intro b7
   refine sw rfl (.u rfl) (.u rfl) rfl Fx.sz289 .here rfl (gones1) ?_
   refine .nil (.code ?_)
   refine wk_fz .here (by intro b hb; cases hb) ?_; intro Gfb7 hleb7 hbb7
   have hea:=hea.mono hleb7
   have hed:=hed.mono hleb7
   have hbb1:=hbb1.mono hleb7
   have hgn:=hgn.mono hleb7
   have hs17:=hs17.mono hleb7
   have hs21:=hs21.mono hleb7
   have hs26:=hs26.mono hleb7
   have hs27:=hs27.mono hleb7
   have hsl:=hsl.mono hleb7
   have hs69:=hs69.mono hleb7
   have hs70:=hs70.mono hleb7
   have hsl2:=hsl2.mono hleb7
   have hwg:=hw.drop g (List.mem_of_getElem? eg); have w1:=hwg.level; have w2:=hwg.number; have lt:=flat_take (f:=encG) eg
   refine rq9 rfl rfl (mV rfl rfl (fa rfl .no Fx.fo289_0 (.u rfl) (ld rfl .no FxVerP.ag5 (.u rfl) (fun _=>(hbb7.rd (by rfl)).rd) ?_)))
   refine cw rfl .no FxVerR.cv5_23 (.u rfl) (fun _=>wrap_u64 (by omega) (by omega)) ?_
   refine fa rfl .no Fx.fo289_1 (.u rfl) (ld rfl .no FxVerP.ag23 (.u rfl) (fun _=>(hbb7.rd (by rfl)).rd) ?_)
   refine bQ [g.level,g.number] rfl Fx.se279 Fx.zv23 (Evp.cons (.u rfl) (Evp.cons (.u rfl) Evp.nil)) rfl rfl (by decide) ?_; intro G84 h84 hG84 hs84
   have hea:=hea.mono hG84
   have hed:=hed.mono hG84
   have hbb1:=hbb1.mono hG84
   have hgn:=hgn.mono hG84
   have hs17:=hs17.mono hG84
   have hs21:=hs21.mono hG84
   have hs26:=hs26.mono hG84
   have hs27:=hs27.mono hG84
   have hsl:=hsl.mono hG84
   have hs69:=hs69.mono hG84
   have hs70:=hs70.mono hG84
   have hsl2:=hsl2.mono hG84
   have hbb7:=hbb7.mono hG84
   refine kc rfl Fx.go295 (Evc rfl (Evc rfl Evn)) (numbers_ok L9 h9 [g.level,g.number] h84 _ hsl2 hs84 (q2 ⟨by omega,by omega⟩ ⟨by omega,by omega⟩) (by simp only [List.length_cons,List.length_nil]; omega)) ?_
   rintro _ G85 μ85 hG85 ⟨h85,L85,eL85,rfl,rfl,hs85⟩
   have lL85:L85.length≤L9.length+10*([g.level,g.number]:List Int).length:=by rw [eL85,List.length_append]; have:=numsL_len (ns:=[g.level,g.number]) (q2 ⟨by omega,by omega⟩ ⟨by omega,by omega⟩); omega
   try simp only [List.length_cons,List.length_nil] at lL85
   have hea:=hea.mono hG85
   have hed:=hed.mono hG85
   have hbb1:=hbb1.mono hG85
   have hgn:=hgn.mono hG85
   have hs17:=hs17.mono hG85
   have hs21:=hs21.mono hG85
   have hs26:=hs26.mono hG85
   have hs27:=hs27.mono hG85
   have hsl:=hsl.mono hG85
   have hs69:=hs69.mono hG85
   have hs70:=hs70.mono hG85
   have hsl2:=hsl2.mono hG85
   have hbb7:=hbb7.mono hG85
   have hs84:=hs84.mono hG85
   refine aS rfl rfl (.nil (.blk (.code (rq2 rfl rfl (arn (((j+1):Nat):Int) rfl .no (.u rfl) (.u rfl) rfl (fun _=>by omega) (fun _=>wrap_i64 (by omega) (by omega)) ?_)))))
   refine mV rfl rfl (.nil (We.lpo (j+1,h85,L85) ?_ ?_ ?_ ?_ ?_))
   ·exact (esD rfl (esC rfl (by first|rfl|exact evi (by omega)) (esD rfl (esD rfl eZ))))
   ·exact mN
   ·first|omega|(dsimp only; omega)
   ·exact (((hGl1).trans hleb7).trans hG84).trans hG85
   refine ⟨?_,?_,?_⟩
   ·(try dsimp only)<;>(first|omega|rfl|assumption|(simp; done))
   ·(try dsimp only)<;>(rw [eL85,encG_eq,eL9,flat_snoc eg,List.append_assoc])
   (try dsimp only)<;>(exact hs85)
  have c2k:=c2
  try simp only [qcA,qcB] at c2
  refine .exit (.xcode (.xlp (.xblk (.code (.seq (rq2 rfl rfl (mV rfl rfl (aS rfl rfl (.nil (.code (.ret (We.fin0 Tryz.results208 (.tmp rfl .nil) ?_))))))))))))
  obtain rfl:k=e.add.length:=by omega
  obtain rfl:j=e.drop.length:=by omega
  rw [List.take_length] at eL eL9
  exact ⟨h9,L9,by rw [eL9,eL70,eL,eL27,eL21,eL17,List.nil_append,encE_eq],rfl,rfl,hsl2⟩
 refine bQ [(e.add.length:Int)] rfl Fx.se279 Fx.zv23 (Evp.cons (.u rfl) Evp.nil) rfl rfl (by decide) ?_; intro G26 h26 hG26 hs26
 have hea:=hea.mono hG26
 have hed:=hed.mono hG26
 have hbb1:=hbb1.mono hG26
 have hgn:=hgn.mono hG26
 have hs17:=hs17.mono hG26
 refine .nil (Wt.b1 3 (by kernel_rfl) ?_)
 refine kc rfl Fx.go295 (Evc rfl (Evc rfl Evn)) (numbers_ok L17 h17 (gensL e) ⟨some ⟨b1,4,none⟩,5⟩ _ hs17 hgn (gens_u hw) (by show _+10*5≤_; omega)) ?_
 rintro _ G21 μ21 hG21 ⟨h21,L21,eL21,rfl,rfl,hs21⟩
 have lL21:L21.length≤L17.length+10*((gensL e):List Int).length:=by rw [eL21,List.length_append]; have:=numsL_len (ns:=(gensL e)) (gens_u hw); omega
 try simp only [List.length_cons,List.length_nil] at lL21
 have hea:=hea.mono hG21
 have hed:=hed.mono hG21
 have hbb1:=hbb1.mono hG21
 have hs26:=hs26.mono hG21
 refine .nil (Wt.b1 9 (by kernel_rfl) ?_)
 refine kc rfl Fx.go295 (Evc rfl (Evc rfl Evn)) (numbers_ok L21 h21 [(e.add.length:Int)] h26 _ hs21 hs26 (q1 (u64_len (by omega))) (by simp only [List.length_cons,List.length_nil]; omega)) ?_
 rintro _ G27 μ27 hG27 ⟨h27,L27,eL27,rfl,rfl,hs27⟩
 have lL27:L27.length≤L21.length+10*([(e.add.length:Int)]:List Int).length:=by rw [eL27,List.length_append]; have:=numsL_len (ns:=[(e.add.length:Int)]) (q1 (u64_len (by omega))); omega
 try simp only [List.length_cons,List.length_nil] at lL27
 have hea:=hea.mono hG27
 have hed:=hed.mono hG27
 have hbb1:=hbb1.mono hG27
 refine .nil (Wt.one 10 (by kernel_rfl) ?_)
 refine aS rfl rfl (.nil (Wt.last (by kernel_rfl) ?_))
 refine .code (.seq (.seq (rq4 rfl rfl (fa rfl .no Fx.fo202_5 (.u rfl) (ld rfl .no Fx.ag155 (.u rfl) (fun _=>(hbb1.rd (by rfl)).rd) ?_)))))
 refine ln rfl .no Fx.sn155 (.u rfl) (mV rfl rfl (.nil (.code (.block ?_))))
 refine Wk.lop (α:=Nat×Sh×List Y) (fun gh=>[(3,true,gh.2.1.val gh.2.2.length),(31,true,.int .i64 (gh.1:Int))]) (fun _=>[])
  (fun gh Gl=>(gh.1≤e.add.length)∧(gh.2.2=L27++(e.add.take gh.1).flatMap encM)∧(SlR Gl 1 encY gh.2.1 gh.2.2)) (fun gh=>e.add.length-gh.1) (0,h27,L27) [(1,true,_),(29,true,_),(30,true,_)] []
  (esD rfl (esC rfl (by first|rfl|exact evi (by omega)) (esD rfl (esD rfl (esD rfl eZ)))))
  mN ?_ ?_
 ·refine ⟨?_,?_,?_⟩
  ·(try dsimp only)<;>(first|omega|rfl|assumption|(simp; done))
  ·(try dsimp only)<;>(simp)
  (try dsimp only)<;>(exact hs27)
 intro gh N0 Gl0 hN0 hGl0 hF0
 obtain ⟨k,h3,L3⟩:=gh; dsimp only at hF0 hN0 ⊢
 obtain ⟨hk,eL,hsl⟩:=hF0
 have hea:=hea.mono hGl0
 have hed:=hed.mono hGl0
 have hbb1:=hbb1.mono hGl0
 have lk:=flat_take_le (f:=encM) (xs:=e.add) k
 have lL:L3.length=L27.length+((e.add.take k).flatMap encM).length:=by rw [eL,List.length_append]
 refine .seq (rq1 rfl rfl (cp rfl .no (.u rfl) (.u rfl) rfl (.nil (.code (.seq (.cond rfl (fun c1=>?_) (fun c1=>?_)))))))
 ·have c1k:=c1
  try simp only [qcA,qcB] at c1
  refine .skip (.code (.seq (.block (.seq (rq4 rfl rfl (ih rfl .no Fx.se155 (.u rfl) (.u rfl) (fun _=>by omega) (fun _=>by omega) (fun _=>hea.nn (k:=k) (by first|omega|(simp only [Bool.and_eq_true,decide_eq_true_eq] at hc; omega)|(simp only [List.length_cons,List.length_nil]; omega))) ?_))))))
  obtain ⟨m,em⟩:=getx (k:=k) (xs:=e.add) (by omega)
  refine lA rfl .no Fx.ag184 (.u rfl) (fun _=>(hea.at (by omega) em).rd) (fun _=>Meta.len _) ?_
  refine al rfl Fx.zq184 ?_; intro b5
  refine sw rfl (.u rfl) (.u rfl) rfl Fx.sz184 .here rfl (Meta.one _) ?_
  refine .nil (.code (.seq ?_))
  refine wk_fz .here (by intro b hb; cases hb) ?_; intro Gfb5 hleb5 hbb5
  have hed:=hed.mono hleb5
  have hbb1:=hbb1.mono hleb5
  have hsl:=hsl.mono hleb5
  have hwm:=hw.add m (List.mem_of_getElem? em); have w1:=hwm.level; have w2:=hwm.gen; have w3:=hwm.epoch; have w4:=hwm.number; have l6:=u64_6 hwm; have lt:=flat_take (f:=encM) em; have lg:=encM_ge m
  refine Wk.rg [0,1,2,3,4,5,6,7,8,9,10,11,12,13,14,15,16,17,18] rfl rfl (mV rfl rfl (fa rfl .no Fx.fo184_0 (.u rfl) (ld rfl .no FxVerP.ag5 (.u rfl) (fun _=>(hbb5.rd (by rfl)).rd) ?_)))
  refine cw rfl .no FxVerR.cv5_23 (.u rfl) (fun _=>wrap_u64 (by omega) (by omega)) ?_
  refine fa rfl .no Fx.fo184_1 (.u rfl) (ld rfl .no FxVerP.ag23 (.u rfl) (fun _=>(hbb5.rd (by rfl)).rd) ?_)
  refine fa rfl .no Fx.fo184_2 (.u rfl) (ld rfl .no FxVerP.ag23 (.u rfl) (fun _=>(hbb5.rd (by rfl)).rd) ?_)
  refine fa rfl .no Fx.fo184_3 (.u rfl) (ld rfl .no FxVerP.ag23 (.u rfl) (fun _=>(hbb5.rd (by rfl)).rd) ?_)
  refine fa rfl .no Fx.fo184_4 (.u rfl) (ld rfl .no FxVerP.ag3 (.u rfl) (fun _=>(hbb5.rd (by rfl)).rd) ?_)
  refine cv rfl .no FxVerR.cv3_23 (.u rfl) (fa rfl .no Fx.fo184_5 (.u rfl) (ld rfl .no FxVerP.ag3 (.u rfl) (fun _=>(hbb5.rd (by rfl)).rd) ?_))
  refine cv rfl .no FxVerR.cv3_23 (.u rfl) ?_
  refine bQ [m.level,m.gen,m.epoch,m.number,IntKind.u64.wrap m.size,IntKind.u64.wrap m.count] rfl Fx.se279 Fx.zv23 (Evp.cons (.u rfl) (Evp.cons (.u rfl) (Evp.cons (.u rfl) (Evp.cons (.u rfl) (Evp.cons (.u rfl) (Evp.cons (.u rfl) Evp.nil)))))) rfl rfl (by decide) ?_; intro G51 h51 hG51 hs51
  have hed:=hed.mono hG51
  have hbb1:=hbb1.mono hG51
  have hsl:=hsl.mono hG51
  have hbb5:=hbb5.mono hG51
  refine kc rfl Fx.go295 (Evc rfl (Evc rfl Evn)) (numbers_ok L3 h3 [m.level,m.gen,m.epoch,m.number,IntKind.u64.wrap m.size,IntKind.u64.wrap m.count] h51 _ hsl hs51 l6 (by simp only [List.length_cons,List.length_nil]; omega)) ?_
  rintro _ G52 μ52 hG52 ⟨h52,L52,eL52,rfl,rfl,hs52⟩
  have lL52:L52.length≤L3.length+10*([m.level,m.gen,m.epoch,m.number,IntKind.u64.wrap m.size,IntKind.u64.wrap m.count]:List Int).length:=by rw [eL52,List.length_append]; have:=numsL_len (ns:=[m.level,m.gen,m.epoch,m.number,IntKind.u64.wrap m.size,IntKind.u64.wrap m.count]) l6; omega
  try simp only [List.length_cons,List.length_nil] at lL52
  have hed:=hed.mono hG52
  have hbb1:=hbb1.mono hG52
  have hsl:=hsl.mono hG52
  have hbb5:=hbb5.mono hG52
  refine aS rfl rfl (.nil (.code (Wk.draw (mc:=⟨false,false⟩) [0,1,2,4,5,7,8,3,6,9,10] FxVerP.mix (by kernel_rfl) ?_)))
  refine mV rfl rfl (fa rfl .no Fx.fo184_6 (.u rfl) (ld rfl .no Fx.ag9 (.u rfl) (fun _=>(hbb5.rd (by rfl)).rd) ?_))
  refine fa rfl .no Fx.fo184_7 (.u rfl) (ld rfl .no Fx.ag9 (.u rfl) (fun _=>(hbb5.rd (by rfl)).rd) ?_)
  refine fa rfl .no Fx.fo184_8 (.u rfl) ?_
  refine kA rfl .no FxVerW.ar34 (.u rfl) hbb5 (meta_ba hwm) ?_; intro h61 L61 eL61 lL61 hs61
  have ly:=yb_len m.min; have ly2:=yb_len m.max
  refine kc rfl Fx.go273 (Evc rfl (Evc rfl Evn)) (Ct.frzB (Str_ok L52 h52 _ hs52 m.min (by omega))) ?_
  rintro _ G56 μ56 hG56 ⟨h56,L56,eL56,rfl,rfl,hs56⟩
  have hed:=hed.mono hG56
  have hbb1:=hbb1.mono hG56
  have hsl:=hsl.mono hG56
  have hs61:=hs61.mono hG56
  have l56:L56.length≤L52.length+(m.min.size+10):=by rw [eL56,List.length_append]; have:=strL_len (xs:=yb m.min) (by omega); omega
  refine kc rfl Fx.go273 (Evc rfl (Evc rfl Evn)) (Ct.rowc (Str_ok L56 h56 _ hs56 m.max (by omega))) ?_
  rintro v59 G59 μ59 hG59 ⟨L59,ov59,eL59,rfl⟩
  have hed:=hed.mono hG59
  have hbb1:=hbb1.mono hG59
  have hsl:=hsl.mono hG59
  have hs61:=hs61.mono hG59
  have l59:L59.length≤L56.length+(m.max.size+10):=by rw [eL59,List.length_append]; have:=strL_len (xs:=yb m.max) (by omega); omega
  refine apY rfl FxVerR.se25 FxVerR.zv5 (.u rfl) (.u rfl) .here hs61.sc (by (try simp only [qlA,yl_len]); omega) ?_
  intro v62 L62 ov62 eL62
  have lL62:L62.length=L59.length+L61.length:=by rw [eL62,List.length_append]
  refine aS rfl rfl (.nil (.blk (.code ?_)))
  refine wk_fb .here (by first|(intro b hb; cases hb; done) | simp [keys,Res.keys]) ?_; intro GfR59 hR59 hleR59 evR59 hsR59; subst evR59
  have hed:=hed.mono hleR59
  have hbb1:=hbb1.mono hleR59
  have hsl:=hsl.mono hleR59
  refine rq2 rfl rfl (arn (((k+1):Nat):Int) rfl .no (.u rfl) (.u rfl) rfl (fun _=>by omega) (fun _=>wrap_i64 (by omega) (by omega)) ?_)
  refine mV rfl rfl (.nil (We.lpo (k+1,hR59,L62) ?_ ?_ ?_ ?_ ?_))
  ·exact (esD rfl (esC rfl (by first|rfl|exact evi (by omega)) (esD rfl (esD rfl (esD rfl eZ)))))
  ·exact mN
  ·first|omega|(dsimp only; omega)
  ·exact ((((((hGl0).trans hleb5).trans hG51).trans hG52).trans hG56).trans hG59).trans hleR59
  refine ⟨?_,?_,?_⟩
  ·(try dsimp only)<;>(first|omega|rfl|assumption|(simp; done))
  ·(try dsimp only)<;>(rw [eL62,eL59,eL56,eL52,eL61,encM_eq,eL,flat_snoc em,List.append_assoc])
  (try dsimp only)<;>(exact hsR59)
 have c1k:=c1
 try simp only [qcA,qcB] at c1
 refine .exit (.xcode (.xlp (.xblk (.code (.seq (rq8 rfl rfl (mV rfl rfl (fa rfl .no Fx.fo202_6 (.u rfl) (ld rfl .no Fx.ag200 (.u rfl) (fun _=>(hbb1.rd (by rfl)).rd) ?_)))))))))
 refine ln rfl .no Fx.sn200 (.u rfl) (cw rfl .no FxVerR.cv3_23 (.u rfl) (fun _=>wrap_u64 (by omega) (by omega)) ?_)
 refine bQ [(e.drop.length:Int)] rfl Fx.se279 Fx.zv23 (Evp.cons (.u rfl) Evp.nil) rfl rfl (by decide) ?_; intro G69 h69 hG69 hs69
 have hed:=hed.mono hG69
 have hbb1:=hbb1.mono hG69
 have hsl:=hsl.mono hG69
 refine kc rfl Fx.go295 (Evc rfl (Evc rfl Evn)) (numbers_ok L3 h3 [(e.drop.length:Int)] h69 _ hsl hs69 (q1 (u64_len (by omega))) (by simp only [List.length_cons,List.length_nil]; omega)) ?_
 rintro _ G70 μ70 hG70 ⟨h70,L70,eL70,rfl,rfl,hs70⟩
 have lL70:L70.length≤L3.length+10*([(e.drop.length:Int)]:List Int).length:=by rw [eL70,List.length_append]; have:=numsL_len (ns:=[(e.drop.length:Int)]) (q1 (u64_len (by omega))); omega
 try simp only [List.length_cons,List.length_nil] at lL70
 have hed:=hed.mono hG70
 have hbb1:=hbb1.mono hG70
 refine aS rfl rfl (.nil (.code (.seq (.seq (rq4 rfl rfl (fa rfl .no Fx.fo202_6 (.u rfl) (ld rfl .no Fx.ag200 (.u rfl) (fun _=>(hbb1.rd (by rfl)).rd) ?_)))))))
 refine ln rfl .no Fx.sn200 (.u rfl) (mV rfl rfl (.nil (.code (.block ?_))))
 refine Wk.lop (α:=Nat×Sh×List Y) (fun gh=>[(3,true,gh.2.1.val gh.2.2.length),(74,true,.int .i64 (gh.1:Int))]) (fun _=>[])
  (fun gh Gl=>(gh.1≤e.drop.length)∧(gh.2.2=L70++(e.drop.take gh.1).flatMap encG)∧(SlR Gl 1 encY gh.2.1 gh.2.2)) (fun gh=>e.drop.length-gh.1) (0,h70,L70) [(72,true,_),(73,true,_)] []
  (esD rfl (esC rfl (by first|rfl|exact evi (by omega)) (esD rfl (esD rfl eZ))))
  mN ?_ ?_
 ·refine ⟨?_,?_,?_⟩
  ·(try dsimp only)<;>(first|omega|rfl|assumption|(simp; done))
  ·(try dsimp only)<;>(simp)
  (try dsimp only)<;>(exact hs70)
 intro gh N1 Gl1 hN1 hGl1 hF1
 obtain ⟨j,h9,L9⟩:=gh; dsimp only at hF1 hN1 ⊢
 obtain ⟨hj,eL9,hsl2⟩:=hF1
 have hed:=hed.mono hGl1
 have lk2:=flat_take_le (f:=encG) (xs:=e.drop) j
 have ld2:=gonesL hw.drop
 have lL9:L9.length=L70.length+((e.drop.take j).flatMap encG).length:=by rw [eL9,List.length_append]
 refine .seq (rq1 rfl rfl (cp rfl .no (.u rfl) (.u rfl) rfl (.nil (.code (.seq (.cond rfl (fun c2=>?_) (fun c2=>?_)))))))
 ·have c2k:=c2
  try simp only [qcA,qcB] at c2
  refine .skip (.code (.seq (.block (.seq (rq4 rfl rfl (ih rfl .no Fx.se200 (.u rfl) (.u rfl) (fun _=>by omega) (fun _=>by omega) (fun _=>hed.nn (k:=j) (by first|omega|(simp only [Bool.and_eq_true,decide_eq_true_eq] at hc; omega)|(simp only [List.length_cons,List.length_nil]; omega))) ?_))))))
  obtain ⟨g,eg⟩:=getx (k:=j) (xs:=e.drop) (by omega)
  refine lA rfl .no Fx.ag289 (.u rfl) (fun _=>(hed.at (by omega) eg).rd) (fun _=>rfl) ?_
  refine al rfl Fx.zr289 ?_; intro b7
  refine sw rfl (.u rfl) (.u rfl) rfl Fx.sz289 .here rfl (gones1) ?_
  refine .nil (.code ?_)
  refine wk_fz .here (by intro b hb; cases hb) ?_; intro Gfb7 hleb7 hbb7
  have hsl2:=hsl2.mono hleb7
  have hwg:=hw.drop g (List.mem_of_getElem? eg); have w1:=hwg.level; have w2:=hwg.number; have lt:=flat_take (f:=encG) eg
  refine rq9 rfl rfl (mV rfl rfl (fa rfl .no Fx.fo289_0 (.u rfl) (ld rfl .no FxVerP.ag5 (.u rfl) (fun _=>(hbb7.rd (by rfl)).rd) ?_)))
  refine cw rfl .no FxVerR.cv5_23 (.u rfl) (fun _=>wrap_u64 (by omega) (by omega)) ?_
  refine fa rfl .no Fx.fo289_1 (.u rfl) (ld rfl .no FxVerP.ag23 (.u rfl) (fun _=>(hbb7.rd (by rfl)).rd) ?_)
  refine bQ [g.level,g.number] rfl Fx.se279 Fx.zv23 (Evp.cons (.u rfl) (Evp.cons (.u rfl) Evp.nil)) rfl rfl (by decide) ?_; intro G84 h84 hG84 hs84
  have hsl2:=hsl2.mono hG84
  refine kc rfl Fx.go295 (Evc rfl (Evc rfl Evn)) (numbers_ok L9 h9 [g.level,g.number] h84 _ hsl2 hs84 (q2 ⟨by omega,by omega⟩ ⟨by omega,by omega⟩) (by simp only [List.length_cons,List.length_nil]; omega)) ?_
  rintro _ G85 μ85 hG85 ⟨h85,L85,eL85,rfl,rfl,hs85⟩
  have lL85:L85.length≤L9.length+10*([g.level,g.number]:List Int).length:=by rw [eL85,List.length_append]; have:=numsL_len (ns:=[g.level,g.number]) (q2 ⟨by omega,by omega⟩ ⟨by omega,by omega⟩); omega
  try simp only [List.length_cons,List.length_nil] at lL85
  have hsl2:=hsl2.mono hG85
  refine aS rfl rfl (.nil (.blk (.code (rq2 rfl rfl (arn (((j+1):Nat):Int) rfl .no (.u rfl) (.u rfl) rfl (fun _=>by omega) (fun _=>wrap_i64 (by omega) (by omega)) ?_)))))
  refine mV rfl rfl (.nil (We.lpo (j+1,h85,L85) ?_ ?_ ?_ ?_ ?_))
  ·exact (esD rfl (esC rfl (by first|rfl|exact evi (by omega)) (esD rfl (esD rfl eZ))))
  ·exact mN
  ·first|omega|(dsimp only; omega)
  ·exact (((hGl1).trans hleb7).trans hG84).trans hG85
  refine ⟨?_,?_,?_⟩
  ·(try dsimp only)<;>(first|omega|rfl|assumption|(simp; done))
  ·(try dsimp only)<;>(rw [eL85,encG_eq,eL9,flat_snoc eg,List.append_assoc])
  (try dsimp only)<;>(exact hs85)
 have c2k:=c2
 try simp only [qcA,qcB] at c2
 refine .exit (.xcode (.xlp (.xblk (.code (.seq (rq2 rfl rfl (mV rfl rfl (aS rfl rfl (.nil (.code (.ret (We.fin0 Tryz.results208 (.tmp rfl .nil) ?_))))))))))))
 obtain rfl:k=e.add.length:=by omega
 obtain rfl:j=e.drop.length:=by omega
 rw [List.take_length] at eL eL9
 exact ⟨h9,L9,by rw [eL9,eL70,eL,eL27,eL21,eL17,List.nil_append,encE_eq],rfl,rfl,hsl2⟩
namespace Fx
theorem ag157:aggN Tryz.prog 157=some (some 5):=by kernel_rfl
end Fx
theorem before_ok (s:State) (hd:Nat→Sh) (G:PM) (e:Edit) (ha he:Sh):Ct Tryz.prog 283 ([s.val hd,e.val ha he]:List Value).toArray G [] (fun _ μ' u=>μ'=[]∧u=.bool (beforeB s e)):=by
 refine Ct.of Tryz.func283 rfl Tryz.ntmps283 rfl fun w0 hs0=>?_
 refine .seq (rq3 rfl rfl ?_)
 refine bx rfl (.u rfl) rfl ?_; intro b2
 refine bx rfl (.u rfl) rfl ?_; intro b3
 refine aS rfl rfl (.nil (.code (.seq (.seq (rq3 rfl rfl (fz rfl .no Fx.fo202_4 (.u rfl) (lA rfl .no Fx.ag157 (.u rfl) (fun _=>RdN.part (n:=5) (cs':=(List.range 5).map (fun i=>.int .u64 (e.gens i))) .here (rfl)) (fun _=>rfl) (mV rfl rfl (.nil (.code (.block ?_)))))))))))
 refine Wk.lop (α:=Nat) (fun k=>[(9,true,.int .i64 (k:Int))]) (fun _=>[])
  (fun k Gl=>(k≤5)∧(∀ i,i<k→¬ e.gens i<s.gens i)) (fun k=>5-k) 0 [(2,true,_),(3,true,_),(8,true,_)] [_,_]
  (esC rfl (by first|rfl|exact evi (by omega)) (esD rfl (esD rfl (esD rfl eZ))))
  (mS .here rfl (mS .here rfl mN)) ?_ ?_
 ·refine ⟨?_,?_⟩
  ·(try dsimp only)<;>(first|omega|rfl|assumption|(simp; done))
  (try dsimp only)<;>(exact fun i hi=>by omega)
 intro k N0 Gl0 hN0 hGl0 hF0
 try dsimp only at hF0 hN0 ⊢
 obtain ⟨hk,hn⟩:=hF0
 refine .seq (rq1 rfl rfl (cp rfl .no (.u rfl) (.u rfl) rfl (.nil (.code (.seq (.cond rfl (fun c1=>?_) (fun c1=>?_)))))))
 ·have c1k:=c1
  try simp only [qcA,qcB] at c1
  refine .skip (.code (.seq (.block (.seq (rq4 rfl rfl (mV rfl rfl (ix rfl .no Fx.ar157 FxVerP.ag23 (.u rfl) (.u rfl) (fun _=>by omega) (fun _=>by omega) (fun _=>(gens_at (k:=k) (by omega) (by omega))) ?_)))))))
  refine aS rfl rfl (aS rfl rfl (.nil (.code (.seq (rq6 rfl rfl (mV rfl rfl (mV rfl rfl (fz rfl .no Fx.fo159_5 (.u rfl) (iA rfl .no Fx.ar157 (.u rfl) (.u rfl) (fun _=>by omega) (fun _=>by omega) ?_)))))))))
  refine ld rfl .no FxVerP.ag23 (.u rfl) (fun _=>Rd.own tk1 (by exact s.cell_gen hd (k:=k) (by omega))) ?_
  refine cp rfl .no (.u rfl) (.u rfl) rfl (.nil (.code (.cond rfl (fun c2=>?_) (fun c2=>?_))))
  ·have c2k:=c2
   try simp only [qcA,qcB] at c2
   refine .seq (rq1 rfl rfl (aS rfl rfl (.nil (.code (.ret (We.fin0 Tryz.results283 (.tmp rfl .nil) ?_))))))
   exact ⟨rfl,congrArg Value.bool (bef_yes (i:=k) (by omega) (by omega)).symm⟩
  have c2k:=c2
  try simp only [qcA,qcB] at c2
  refine .skip (.blk (.code (rq2 rfl rfl (arn (((k+1):Nat):Int) rfl .no (.u rfl) (.u rfl) rfl (fun _=>by omega) (fun _=>wrap_i64 (by omega) (by omega)) ?_))))
  refine mV rfl rfl (.nil (We.lpo (k+1) ?_ ?_ ?_ ?_ ?_))
  ·exact (esC rfl (by first|rfl|exact evi (by omega)) (esD rfl (esD rfl (esD rfl eZ))))
  ·exact (mS .here rfl (mS .here rfl mN))
  ·first|omega|(dsimp only; omega)
  ·exact hGl0
  refine ⟨?_,?_⟩
  ·(try dsimp only)<;>(first|omega|rfl|assumption|(simp; done))
  (try dsimp only)<;>(exact fun i hi=>by (by_cases h:i=k; (subst h; omega); exact hn i (by omega)))
 have c1k:=c1
 try simp only [qcA,qcB] at c1
 refine .exit (.xcode (.xlp (.xblk (.code (.seq (Wk.rg [0,1,2,3,4,5,6,7,8,9,10,11,12,13,14,15,16,17,18,19,20,21,22,23,24,25,26] rfl rfl (fz rfl .no Fx.fo202_0 (.u rfl) (ld rfl .no FxVerP.ag23 (.u rfl) (fun _=>Rd.own .here (by first|exact wap_f rfl|rfl)) ?_))))))))
 refine fz rfl .no Fx.fo159_1 (.u rfl) (ld rfl .no FxVerP.ag23 (.u rfl) (fun _=>Rd.own tk1 (by first|exact wap_f rfl|rfl)) ?_)
 refine cp rfl .no (.u rfl) (.u rfl) rfl (mV rfl rfl (fz rfl (.f rfl rfl) Fx.fo202_1 (.u rfl) (ld rfl (.f rfl rfl) FxVerP.ag23 (.s rfl) (fun hc=>Rd.own .here (by first|exact wap_f rfl|rfl)) ?_)))
 refine fz rfl (.f rfl rfl) Fx.fo159_2 (.u rfl) (ld rfl (.f rfl rfl) FxVerP.ag23 (.s rfl) (fun hc=>Rd.own tk1 (by first|exact wap_f rfl|rfl)) ?_)
 refine cp rfl (.f rfl rfl) (.s rfl) (.s rfl) rfl (pkO rfl .no (.u rfl) (.s rfl) (mV rfl rfl (fz rfl (.f rfl rfl) Fx.fo202_2 (.u rfl) (ld rfl (.f rfl rfl) FxVerP.ag23 (.s rfl) (fun hc=>Rd.own .here (by first|exact wap_f rfl|rfl)) ?_))))
 refine fz rfl (.f rfl rfl) Fx.fo159_3 (.u rfl) (ld rfl (.f rfl rfl) FxVerP.ag23 (.s rfl) (fun hc=>Rd.own tk1 (by first|exact wap_f rfl|rfl)) ?_)
 refine cp rfl (.f rfl rfl) (.s rfl) (.s rfl) rfl (pkO rfl .no (.u rfl) (.s rfl) (mV rfl rfl (fz rfl (.f rfl rfl) Fx.fo202_3 (.u rfl) (ld rfl (.f rfl rfl) FxVerP.ag23 (.s rfl) (fun hc=>Rd.own .here (by first|exact wap_f rfl|rfl)) ?_))))
 refine fz rfl (.f rfl rfl) Fx.fo159_4 (.u rfl) (ld rfl (.f rfl rfl) FxVerP.ag23 (.s rfl) (fun hc=>Rd.own tk1 (by first|exact wap_f rfl|rfl)) ?_)
 refine cp rfl (.f rfl rfl) (.s rfl) (.s rfl) rfl (pkO rfl .no (.u rfl) (.s rfl) (aS rfl rfl (.nil (.code (.ret (We.fin0 Tryz.results283 (.tmp rfl .nil) ?_))))))
 exact ⟨rfl,congrArg Value.bool (bef_no (fun i hi=>hn i (by omega))).symm⟩
theorem clone0_ok (G:PM):Ct Tryz.prog 284 ([.slice none 0 0]:List Value).toArray G [] (fun _ μ' u=>μ'=[]∧u=.slice none 0 0):=by
 refine Ct.of Tryz.func284 rfl Tryz.ntmps284 rfl fun w0 hs0=>?_
 refine .seq (rq1 rfl rfl (aS rfl rfl (.nil (.code (.seq (.seq (rq2 rfl rfl (mV rfl rfl (sn0 (s:=⟨none,0⟩) (m:=0) rfl .no Fx.sn155 (.u rfl) (.u rfl) ?_)))))))))
 refine .nil (.code (.cond rfl (fun c1=>?_) (fun c1=>?_)))
 ·have c1k:=c1
  try simp only [qcA,qcB] at c1
  refine .seq (rq1 rfl rfl (aS rfl rfl (.nil (.code (.ret (We.fin0 Tryz.results284 (.tmp rfl .nil) ?_))))))
  exact ⟨rfl,rfl⟩
 have c1k:=c1
 cases c1
namespace Fx
theorem ag30:aggN Tryz.prog 30=some none:=by kernel_rfl
end Fx
namespace Fx
theorem sz23:szT Tryz.prog 23=some 1:=by kernel_rfl
end Fx
theorem leafS_ok {G:PM} {b7 b9 T7 T9:Nat} {kind:Y} {h:Sh} {p:List Y} (hle:PM.le G ((G.add b7 (cl [V kind] T7)).add b9 (cl [.slice (some ⟨b7,0,none⟩) 1 1,h.val p.length] T9))) (hq:PM.le (G.add b7 (cl [V kind] T7)) ((G.add b7 (cl [V kind] T7)).add b9 (cl [.slice (some ⟨b7,0,none⟩) 1 1,h.val p.length] T9))) (hs:SlR G 1 encY h p) (hK:RdNP G 6 0 (wa 64 kW)) (hl:p.length≤100000000000000) :
  Ct Tryz.prog 311 ([.slice (some ⟨b9,0,none⟩) 2 2]:List Value).toArray ((G.add b7 (cl [V kind] T7)).add b9 (cl [.slice (some ⟨b7,0,none⟩) 1 1,h.val p.length] T9)) [] (fun _ μ' u=>μ'=[]∧u=.agg (ba 32 (shaD (kind :: p))).toArray):=by
 have h1:SlR (G.add b7 (cl [V kind] T7)) 1 encY ⟨some ⟨b7,0,none⟩,1⟩ [kind]:=SlR.ofBlk (T:=T7) (PM.add_same _ _ _) (fun _ _=>rfl) (by simp)
 have hP:SlP ((G.add b7 (cl [V kind] T7)).add b9 (cl [.slice (some ⟨b7,0,none⟩) 1 1,h.val p.length] T9)) ⟨some ⟨b9,0,none⟩,2⟩ [(⟨some ⟨b7,0,none⟩,1⟩,[kind]),(h,p)] :=
  ⟨SlR.ofBlk (T:=T9) (PM.add_same _ _ _) (fun _ _=>rfl) (by simp),fun q hq'=>by
   rcases List.mem_cons.1 hq' with rfl | hq'
   ·exact h1.mono hq
   ·rw [List.mem_singleton.1 hq']; exact hs.mono hle⟩
 have hh:=shaSum_ok _ ⟨some ⟨b9,0,none⟩,2⟩ _ hP (hK.mono hle) (by simp [catL]; omega) (by simp)
 rw [show catL [((⟨some ⟨b7,0,none⟩,1⟩ : Sh),[kind]),(h,p)]=kind :: p by simp [catL]] at hh
 exact hh
theorem emptyS_ok {G:PM} {b7 b9 T7 T9:Nat} {kind:Y} (hle:PM.le G ((G.add b7 (cl [V kind] T7)).add b9 (cl [.slice (some ⟨b7,0,none⟩) 1 1] T9))) (hq:PM.le (G.add b7 (cl [V kind] T7)) ((G.add b7 (cl [V kind] T7)).add b9 (cl [.slice (some ⟨b7,0,none⟩) 1 1] T9))) (hK:RdNP G 6 0 (wa 64 kW)) :
  Ct Tryz.prog 311 ([.slice (some ⟨b9,0,none⟩) 1 1]:List Value).toArray ((G.add b7 (cl [V kind] T7)).add b9 (cl [.slice (some ⟨b7,0,none⟩) 1 1] T9)) [] (fun _ μ' u=>μ'=[]∧u=.agg (ba 32 (shaD [kind])).toArray):=by
 have h1:SlR (G.add b7 (cl [V kind] T7)) 1 encY ⟨some ⟨b7,0,none⟩,1⟩ [kind]:=SlR.ofBlk (T:=T7) (PM.add_same _ _ _) (fun _ _=>rfl) (by simp)
 have hP:SlP ((G.add b7 (cl [V kind] T7)).add b9 (cl [.slice (some ⟨b7,0,none⟩) 1 1] T9)) ⟨some ⟨b9,0,none⟩,1⟩ [(⟨some ⟨b7,0,none⟩,1⟩,[kind])] :=
  ⟨SlR.ofBlk (T:=T9) (PM.add_same _ _ _) (fun _ _=>rfl) (by simp),fun q hq'=>by rw [List.mem_singleton.1 hq']; exact h1.mono hq⟩
 have hh:=shaSum_ok _ ⟨some ⟨b9,0,none⟩,1⟩ _ hP (hK.mono hle) (by simp [catL]) (by simp)
 rw [show catL [((⟨some ⟨b7,0,none⟩,1⟩ : Sh),[kind])]=[kind] by simp [catL]] at hh
 exact hh
theorem joinS_ok {G G2 G3 G5:PM} {b2 b3 b5 b8 T2 T3 T5 T8:Nat} {a b:Nat→Y} (e2:G2=G.add b2 (cl (ba 32 a) T2)) (e3:G3=G2.add b3 (cl (ba 32 b) T3)) (e5:G5=G3.add b5 (cl [V 1#8] T5))
  (hle:PM.le G (G5.add b8 (cl [.slice (some ⟨b5,0,none⟩) 1 1,.slice (some ⟨b2,0,none⟩) 32 32,.slice (some ⟨b3,0,none⟩) 32 32] T8))) (hq:PM.le G5 (G5.add b8 (cl [.slice (some ⟨b5,0,none⟩) 1 1,.slice (some ⟨b2,0,none⟩) 32 32,.slice (some ⟨b3,0,none⟩) 32 32] T8))∧PM.le G3 G5∧PM.le G2 G3∧PM.le G G2∧True) (hK:RdNP G 6 0 (wa 64 kW)) :
  Ct Tryz.prog 311 ([.slice (some ⟨b8,0,none⟩) 3 3]:List Value).toArray (G5.add b8 (cl [.slice (some ⟨b5,0,none⟩) 1 1,.slice (some ⟨b2,0,none⟩) 32 32,.slice (some ⟨b3,0,none⟩) 32 32] T8)) [] (fun _ μ' u=>μ'=[]∧u=.agg (ba 32 (joinD a b)).toArray):=by
 have h1:SlR G5 1 encY ⟨some ⟨b5,0,none⟩,1⟩ [1#8]:=by rw [e5]; exact SlR.ofBlk (T:=T5) (PM.add_same _ _ _) (fun _ _=>rfl) (by simp)
 have h2:SlR G2 1 encY ⟨some ⟨b2,0,none⟩,32⟩ (yl 32 a):=by rw [e2]; exact ba_sl
 have h3:SlR G3 1 encY ⟨some ⟨b3,0,none⟩,32⟩ (yl 32 b):=by rw [e3]; exact ba_sl
 have l1:=yl_len 32 a
 have l2:=yl_len 32 b
 have hP:SlP (G5.add b8 (cl [.slice (some ⟨b5,0,none⟩) 1 1,.slice (some ⟨b2,0,none⟩) 32 32,.slice (some ⟨b3,0,none⟩) 32 32] T8)) ⟨some ⟨b8,0,none⟩,3⟩ [(⟨some ⟨b5,0,none⟩,1⟩,[1#8]),(⟨some ⟨b2,0,none⟩,32⟩,yl 32 a),(⟨some ⟨b3,0,none⟩,32⟩,yl 32 b)] :=
  ⟨SlR.ofBlk (T:=T8) (by simp [encP,l1,l2,Sh.val]; exact PM.add_same _ _ _) (fun _ _=>rfl) (by simp),fun q hq'=>by
   simp only [List.mem_cons,List.not_mem_nil,or_false] at hq'
   rcases hq' with rfl|rfl|rfl
   ·exact h1.mono hq.1
   ·exact h2.mono (hq.2.2.1.trans (hq.2.1.trans hq.1))
   ·exact h3.mono (hq.2.1.trans hq.1)⟩
 have hh:=shaSum_ok _ ⟨some ⟨b8,0,none⟩,3⟩ _ hP (hK.mono hle) (by simp [catL,l1,l2]) (by simp)
 rw [show catL [((⟨some ⟨b5,0,none⟩,1⟩ : Sh),[1#8]),(⟨some ⟨b2,0,none⟩,32⟩,yl 32 a),(⟨some ⟨b3,0,none⟩,32⟩,yl 32 b)]=1#8 :: (yl 32 a++yl 32 b) by simp [catL]] at hh
 exact hh
theorem leaf_ok (p:List Y) (h:Sh) (G:PM) (hs:SlR G 1 encY h p) (hK:RdNP G 6 0 (wa 64 kW)) (hl:p.length≤100000000000000):Ct Tryz.prog 226 ([h.val p.length]:List Value).toArray G [] (fun _ μ' u=>μ'=[]∧u=.agg (ba 32 (leafD p)).toArray):=by
 refine Ct.of Tryz.func226 rfl Tryz.ntmps226 rfl fun w0 hs0=>?_
 refine .seq (rq1 rfl rfl ?_)
 refine al rfl Fx.zq34 ?_; intro b2
 refine .nil (.code (.seq (rq5 rfl rfl ?_)))
 refine Go.Tan.b1 rfl Fx.se25 Fx.zv5 (.u rfl) rfl rfl (by decide) ?_; intro b3
 refine mV rfl rfl ?_
 refine Go.Tan.bN rfl Fx.se351 Fx.zv25 (Evp.cons (.u rfl) (Evp.cons (.u rfl) Evp.nil)) rfl (by decide) (by simp [Value.oneCell',Sh.val]) ?_; intro b5
 refine kp rfl .no Fx.go311 (Evc rfl Evn) (Gp.add .here (Gp.add .here Gp.nil)) (fun _ hle hq=>leafS_ok (kind:=0#8) hle hq.1 hs hK hl) ?_
 refine sw rfl (.u rfl) (.u rfl) rfl Fx.sz34 tk2 (by first|exact qE|exact qL|rfl) (by first|exact ba_one _ _|exact wa_one _ _|exact one_V _|decide|exact one_app (wa_one _ _) (by simp [Value.oneCell'])) ?_
 refine .nil (.code (.ret (We.fin0 Tryz.results226 (.cell rfl (fun w hw=>run_loadVarN Fx.ag34 (RdN.own .here) ((by first|exact qE|exact qL|rfl)) hw) .nil) ?_)))
 exact ⟨rfl,rfl⟩
theorem join_ok (a b:Dg) (G:PM) (hK:RdNP G 6 0 (wa 64 kW)):Ct Tryz.prog 312 ([.agg (ba 32 a).toArray,.agg (ba 32 b).toArray]:List Value).toArray G [] (fun _ μ' u=>μ'=[]∧u=.agg (ba 32 (joinD a b)).toArray):=by
 refine Ct.of Tryz.func312 rfl Tryz.ntmps312 rfl fun w0 hs0=>?_
 refine .seq (rq3 rfl rfl ?_)
 refine bx rfl (.u rfl) rfl ?_; intro b2
 refine bx rfl (.u rfl) rfl ?_; intro b3
 refine al rfl Fx.zq34 ?_; intro b4
 refine .nil (.code (.seq (Wk.draw (mc:=⟨false,false⟩) [1,2,0,3,4,5] Fx.mix (by kernel_rfl) ?_)))
 refine sa0 rfl .no Fx.ar34 (.u rfl) (sa0 rfl .no Fx.ar34 (.u rfl) ?_)
 refine Go.Tan.b1 rfl Fx.se25 Fx.zv5 (.u rfl) rfl rfl (by decide) ?_; intro b5
 refine Go.Tan.bN rfl Fx.se351 Fx.zv25 (Evp.cons (.u rfl) (Evp.cons (.u rfl) (Evp.cons (.u rfl) Evp.nil))) rfl (by decide) (by simp [Value.oneCell',Sh.val]) ?_; intro b8
 refine kp rfl .no Fx.go311 (Evc rfl Evn) (Gp.add .here (Gp.add .here (Gp.add tk1 (Gp.add tk1 Gp.nil)))) (fun _ hle hq=>joinS_ok rfl rfl rfl hle hq hK) ?_
 refine sw rfl (.u rfl) (.u rfl) rfl Fx.sz34 tk2 (by first|exact qE|exact qL|rfl) (by first|exact ba_one _ _|exact wa_one _ _|exact one_V _|decide|exact one_app (wa_one _ _) (by simp [Value.oneCell'])) ?_
 refine .nil (.code (.ret (We.fin0 Tryz.results312 (.cell rfl (fun w hw=>run_loadVarN Fx.ag34 (RdN.own .here) ((by first|exact qE|exact qL|rfl)) hw) .nil) ?_)))
 exact ⟨rfl,rfl⟩
namespace Fx
theorem se341:slE Tryz.prog 341=some (34,32,32):=by kernel_rfl
theorem sn341:(slE Tryz.prog 341).isSome=true:=by kernel_rfl
theorem go312:goFn Tryz.prog 312=true:=by kernel_rfl
theorem zw34:(Tryz.prog.info? 34).bind (·.zero)=some (.agg (ba 32 (fun _=>0#8)).toArray):=by kernel_rfl
end Fx
theorem root_ok (ds:List Dg) (h:Sh) (G:PM) (hs:SlR G 32 (ba 32) h ds) (hK:RdNP G 6 0 (wa 64 kW)) (hl:ds.length≤1000000):Ct Tryz.prog 225 ([h.val ds.length]:List Value).toArray G [] (fun _ μ' u=>μ'=[]∧u=.agg (ba 32 (rootD ds)).toArray):=by
 refine Ct.of Tryz.func225 rfl Tryz.ntmps225 rfl fun w0 hs0=>?_
 refine .seq (rq1 rfl rfl ?_)
 refine al rfl Fx.zq34 ?_; intro b2
 refine .nil (.code (.seq (.seq (rq3 rfl rfl (mV rfl rfl (ln rfl .no Fx.sn341 (.u rfl) (cp rfl .no (.u rfl) (.u rfl) rfl (.nil (.code (.cond rfl (fun c1=>?_) (fun c1=>?_)))))))))))
 ·have c1k:=c1
  try simp only [qcA,qcC,qcB] at c1
  refine .seq (rq4 rfl rfl ?_)
  refine Go.Tan.b1 rfl Fx.se25 Fx.zv5 (.u rfl) rfl rfl (by decide) ?_; intro b12
  refine Go.Tan.b1 rfl Fx.se351 Fx.zv25 (.u rfl) rfl rfl (by decide) ?_; intro b13
  refine kp rfl .no Fx.go311 (Evc rfl Evn) (Gp.add .here (Gp.add .here Gp.nil)) (fun _ hle hq=>emptyS_ok (kind:=2#8) hle hq.1 hK) ?_
  refine sw rfl (.u rfl) (.u rfl) rfl Fx.sz34 tk2 (by first|exact qE|exact qL|rfl) (by first|exact ba_one _ _|exact wa_one _ _|exact one_V _|decide|exact one_app (wa_one _ _) (by simp [Value.oneCell'])) ?_
  refine .nil (.code (.ret (We.fin0 Tryz.results225 (.cell rfl (fun w hw=>run_loadVarN Fx.ag34 (RdN.own .here) ((by first|exact qE|exact qL|rfl)) hw) .nil) ?_)))
  obtain rfl:ds=[]:=List.eq_nil_of_length_eq_zero (by omega)
  exact ⟨rfl,by rw [root_nil]; rfl⟩
 have c1k:=c1
 try simp only [qcA,qcC,qcB] at c1
 refine .skip (.code (.seq (rq1 rfl rfl (aS rfl rfl (.nil (.code (.seq (.seq (wk_nilS 32 (ba 32) 34 ?_)))))))))
 refine rq3 rfl rfl (mV rfl rfl (ln rfl .no Fx.sn341 (.u rfl) (mV rfl rfl (.nil (.code (.block ?_))))))
 refine Wk.lop (α:=Nat×List (Nat×Dg)×Value) (fun gh=>[(3,true,gh.2.2),(17,true,.int .i64 (gh.1:Int))]) (fun gh=>[rS 32 (ba 32) gh.2.2 34 (stkL gh.2.1)])
  (fun gh Gl=>(gh.1≤ds.length)∧(Stk gh.2.1 (ds.take gh.1))) (fun gh=>ds.length-gh.1) (0,[],.slice none 0 0) [(2,true,_),(15,true,_),(16,true,_)] [_]
  (esD rfl (esC rfl (by first|rfl|exact evi (by omega)) (esD rfl (esD rfl (esD rfl eZ)))))
  (mS .here rfl (mS .here rfl mN)) ?_ ?_
 ·refine ⟨?_,?_⟩
  ·(try dsimp only)<;>(first|omega|rfl|assumption|(simp; done))
  (try dsimp only)<;>(exact Stk.nil)
 intro gh N0 Gl0 hN0 hGl0 hF0
 obtain ⟨k,S,v⟩:=gh; dsimp only at hF0 hN0 ⊢
 obtain ⟨hk,hS⟩:=hF0
 have hs:=hs.mono hGl0
 have hK:=hK.mono hGl0
 refine .seq (rq1 rfl rfl (cp rfl .no (.u rfl) (.u rfl) rfl (.nil (.code (.seq (.cond rfl (fun c2=>?_) (fun c2=>?_)))))))
 ·have c2k:=c2
  try simp only [qcA,qcC,qcB] at c2
  refine .skip (.code (.seq (.block (.seq (rq6 rfl rfl (mV rfl rfl ?_))))))
  obtain ⟨x,ex⟩:=getx (k:=k) (xs:=ds) (by omega)
  refine ih rfl .no Fx.se341 (.u rfl) (.u rfl) (fun _=>by omega) (fun _=>by omega) (fun _=>hs.nn (k:=k) (by first|omega|(simp only [Bool.and_eq_true,decide_eq_true_eq] at hc; omega)|(simp only [List.length_cons,List.length_nil]; omega))) ?_
  refine lA rfl .no Fx.ag34 (.u rfl) (fun _=>(hs.at (by omega) ex).rd) (fun _=>ba_len _ _) ?_
  refine al rfl Fx.zq34 ?_; intro b5
  refine aS rfl rfl (sw rfl (.u rfl) (.u rfl) rfl Fx.sz34 .here rfl (ba_one _ _) ?_)
  refine .nil (.code (.seq (.seq (rq3 rfl rfl (mV rfl rfl (arn (((k+1):Nat):Int) rfl .no (.u rfl) (.u rfl) rfl (fun _=>by omega) (fun _=>wrap_i64 (by omega) (by omega)) ?_))))))
  refine aS rfl rfl (.nil (.code (.block ?_)))
  refine Wk.lop (α:=Nat×Nat×List (Nat×Dg)×Dg×Value) (fun gh=>[(3,true,gh.2.2.2.2),(6,true,.int .i64 (gh.1:Int))]) (fun gh=>[.blk b5 (cl (ba 32 gh.2.2.2.1) 34),rS 32 (ba 32) gh.2.2.2.2 34 (stkL gh.2.2.1)])
   (fun gh Gl=>(Pend gh.2.2.1 gh.2.2.2.1 gh.2.1 (ds.take (k+1)))∧(gh.1=(ds.take (k+1)).length / 2^gh.2.1)∧(gh.1≤k+1)) (fun gh=>gh.1) (k+1,0,S,x,v) [(2,true,_),(5,true,_),(15,true,_),(16,true,_),(17,true,_)] [_]
   (esD rfl (esC rfl (by first|rfl|exact evi (by omega)) (esD rfl (esD rfl (esD rfl (esD rfl (esD rfl eZ)))))))
   (mS .here rfl (mS .here rfl (mS .here rfl mN))) ?_ ?_
  ·refine ⟨?_,?_,?_⟩
   ·(try dsimp only)<;>(rw [List.take_add_one,ex]; exact Pend.start hS x)
   ·(try dsimp only)<;>(rw [Nat.pow_zero,Nat.div_one,List.length_take]; omega)
   (try dsimp only)<;>(first|omega|rfl|assumption|(simp; done))
  intro gh N1 Gl1 hN1 hGl1 hF1
  obtain ⟨q,a,S2,dd,v2⟩:=gh; dsimp only at hF1 hN1 ⊢
  obtain ⟨hP,eq,hqk⟩:=hF1
  have hK:=hK.mono hGl1
  have hq0:=pend_pos hP eq
  have hl2:=pend_len hP
  rw [← stkL_len,List.length_take] at hl2
  refine .seq (.seq (rq3 rfl rfl (mV rfl rfl (an1 q rfl .no (.u rfl) (.u rfl) rfl rfl ?_))))
  refine cp rfl .no (.u rfl) (.u rfl) rfl (.nil (.code (.cond rfl (fun c3=>?_) (fun c3=>?_))))
  ·have c3k:=c3
   try simp only [qcA,qcC,qcB] at c3
   refine .skip (.code (.seq (.block (.seq ?_))))
   obtain ⟨s,S3,hS3,hP3,hq3⟩:=pend_even hP eq (by omega)
   have hl3:(stkL S2).length=(stkL S3).length+1:=by rw [hS3,stkL_cons,List.length_append]; rfl
   refine wk_rv tk1 (by omega) ?_; intro bbRS capRS evRS lcRS; subst evRS
   refine Wk.draw (mc:=⟨false,false⟩) [0,1,2,3,4,5,6,7,8] Fx.mix (by kernel_rfl) ?_
   refine mV rfl rfl (mV rfl rfl (lr rfl .no Fx.sn341 (.u rfl) tk1 ?_))
   refine arn ((((stkL S2).length-1):Nat):Int) rfl .no (.u rfl) (.u rfl) rfl (fun _=>by omega) (fun _=>wrap_i64 (by omega) (by omega)) ?_
   refine ia rfl .no Fx.se341 (.u rfl) (.u rfl) (fun _=>by omega) (fun _=>by omega) ?_
   refine lA rfl .no Fx.ag34 (.u rfl) (fun _=>RdN.rowS tk1 (fun _ _=>ba_len _ _) (gd_at (z:=zD) (k:=((stkL S2).length-1)) (by omega)) (by omega)) (fun _=>ba_len _ _) ?_
   refine lA rfl .no Fx.ag34 (.u rfl) (fun _=>RdN.own .here) (fun _=>(by first|exact qE|exact qL|rfl)) ?_
   refine kv rfl .no Fx.go312 (Evc rfl (Evc rfl Evn)) (fun _=>join_ok _ _ _ hK) ?_
   refine sw rfl (.u rfl) (.u rfl) rfl Fx.sz34 .here (by first|exact qE|exact qL|rfl) (ba_one _ _) ?_
   refine .nil (.code (rq6 rfl rfl (mV rfl rfl (mV rfl rfl (lr rfl .no Fx.sn341 (.u rfl) tk1 ?_)))))
   refine ar rfl .no (.u rfl) (.u rfl) rfl (fun _=>wrap_i64 (by omega) (by omega)) ?_
   refine srh (stkL S3).length rfl Fx.se341 (.u rfl) (.u rfl) (by omega) (by omega) ?_
   refine aS rfl rfl (.nil (.blk (.code (wk_popS (stkL S3) [s] (fun _ _=>ba_len _ _) tk1 (by rw [hS3,stkL_cons]) ?_))))
   refine rq3 rfl rfl (mV rfl rfl (sr1 (q) rfl .no (.u rfl) (.u rfl) (by first|rfl|omega) rfl (by decide) ?_))
   refine aS rfl rfl (.nil (We.lpo (q / 2,a+1,S3,joinD ((stkL S2).getD ((stkL S2).length-1) zD) dd,.slice (some ⟨bbRS,0,none⟩) (stkL S3).length capRS) ?_ ?_ ?_ ?_ ?_))
   ·exact (esD rfl (esC rfl (by first|rfl|exact evi (by omega)) (esD rfl (esD rfl (esD rfl (esD rfl (esD rfl eZ)))))))
   ·exact (mS tk1 rfl (mS .here rfl (mS .here rfl mN)))
   ·first|omega|(dsimp only; omega)
   ·exact hGl1
   refine ⟨?_,?_,?_⟩
   ·(try dsimp only)<;>(rw [stk_top hS3]; exact hP3)
   ·(try dsimp only)<;>(exact hq3)
   (try dsimp only)<;>(first|omega|rfl|assumption|(simp; done))
  have c3k:=c3
  try simp only [qcA,qcC,qcB] at c3
  refine .exit (.xcode (.xlp (.xblk (.code (rq5 rfl rfl (mV rfl rfl (lA rfl .no Fx.ag34 (.u rfl) (fun _=>RdN.own .here) (fun _=>(by first|exact qE|exact qL|rfl)) ?_)))))))
  refine Go.Tan.b1 rfl Fx.se341 Fx.zw34 (.u rfl) rfl rfl (by decide) ?_; intro b44
  refine apS (xs:=(stkL S2)) (dd) rfl Fx.se341 Fx.zw34 rfl (.u rfl) (.u rfl) tk2 .here (ba_len _ _) (ba_one _ _) (by omega) (by unfold maxLen; omega) ?_; intro v45 ov45
  refine aS rfl rfl (.nil (.blk (.code (rq2 rfl rfl (arn (((k+1):Nat):Int) rfl .no (.u rfl) (.u rfl) rfl (fun _=>by omega) (fun _=>wrap_i64 (by omega) (by omega)) ?_)))))
  refine mV rfl rfl (.nil (We.lpo (k+1,(a,dd) :: S2,v45) ?_ ?_ ?_ ?_ ?_))
  ·exact (esD rfl (esC rfl (by first|rfl|exact evi (by omega)) (esD rfl (esD rfl (esD rfl eZ)))))
  ·exact (mS .here (by rw [stkL_cons]) (mS tk2 rfl mN))
  ·first|omega|(dsimp only; omega)
  ·exact (hGl0).trans hGl1
  refine ⟨?_,?_⟩
  ·(try dsimp only)<;>(first|omega|rfl|assumption|(simp; done))
  (try dsimp only)<;>(exact pend_odd hP eq (by omega))
 have c2k:=c2
 try simp only [qcA,qcC,qcB] at c2
 refine .exit (.xcode (.xlp (.xblk (.code (.seq ?_)))))
 obtain rfl:k=ds.length:=by omega
 rw [List.take_length] at hS
 obtain ⟨hs0,hroot⟩:=stk_done hS (by omega)
 have hsl:=hS.short
 rw [← stkL_len] at hsl
 refine wk_rv .here (by omega) ?_; intro bbRS capRS evRS lcRS; subst evRS
 refine rq8 rfl rfl (mV rfl rfl (mV rfl rfl (lr rfl .no Fx.sn341 (.u rfl) .here ?_)))
 refine arn ((((stkL S).length-1):Nat):Int) rfl .no (.u rfl) (.u rfl) rfl (fun _=>by omega) (fun _=>wrap_i64 (by omega) (by omega)) ?_
 refine ia rfl .no Fx.se341 (.u rfl) (.u rfl) (fun _=>by omega) (fun _=>by omega) ?_
 refine lA rfl .no Fx.ag34 (.u rfl) (fun _=>RdN.rowS .here (fun _ _=>ba_len _ _) (gd_at (z:=zD) (k:=((stkL S).length-1)) (by omega)) (by omega)) (fun _=>ba_len _ _) ?_
 refine al rfl Fx.zq34 ?_; intro b7
 refine sw rfl (.u rfl) (.u rfl) rfl Fx.sz34 .here rfl (ba_one _ _) ?_
 refine .nil (.code (.seq (.seq (rq4 rfl rfl (mV rfl rfl (lr rfl .no Fx.sn341 (.u rfl) tk1 ?_))))))
 refine ar rfl .no (.u rfl) (.u rfl) rfl (fun _=>wrap_i64 (by omega) (by omega)) ?_
 refine aS rfl rfl (.nil (.code (.block ?_)))
 refine Wk.lop (α:=Nat×Dg) (fun gh=>[(8,true,.int .i64 ((gh.1:Int)-1))]) (fun gh=>[.blk b7 (cl (ba 32 gh.2) 34)])
  (fun gh Gl=>(gh.1≤(stkL S).length-1)∧(rootD ds=finB gh.2 (stkL S) gh.1)) (fun gh=>gh.1) ((stkL S).length-1,(stkL S).getD ((stkL S).length-1) zD) [(2,true,_),(3,true,_),(7,true,_)] [_,_]
  (esC rfl (evi (by omega)) (esD rfl (esD rfl (esD rfl eZ))))
  (mS .here rfl (mS .here rfl (mS .here rfl mN))) ?_ ?_
 ·refine ⟨?_,?_⟩
  ·(try dsimp only)<;>(first|omega|rfl|assumption|(simp; done))
  (try dsimp only)<;>(exact hroot)
 intro gh N2 Gl2 hN2 hGl2 hF2
 obtain ⟨j,d⟩:=gh; dsimp only at hF2 hN2 ⊢
 obtain ⟨hj,hd⟩:=hF2
 have hK:=hK.mono hGl2
 refine .seq (.seq (rq2 rfl rfl (mV rfl rfl (cp rfl .no (.u rfl) (.u rfl) rfl (.nil (.code (.cond rfl (fun c4=>?_) (fun c4=>?_))))))))
 ·have c4k:=c4
  try simp only [qcA,qcC,qcB] at c4
  refine .skip (.code (.seq (.block (Wk.draw (mc:=⟨false,false⟩) [0,1,2,3,4,5,6] Fx.mix (by kernel_rfl) ?_))))
  refine mV rfl rfl (mV rfl rfl (ia rfl .no Fx.se341 (.u rfl) (.u rfl) (fun _=>by omega) (fun _=>by omega) ?_))
  refine lA rfl .no Fx.ag34 (.u rfl) (fun _=>RdN.rowS tk1 (fun _ _=>ba_len _ _) (gd_at (z:=zD) (k:=(j-1)) (by omega)) (by omega)) (fun _=>ba_len _ _) ?_
  refine lA rfl .no Fx.ag34 (.u rfl) (fun _=>RdN.own .here) (fun _=>(by first|exact qE|exact qL|rfl)) ?_
  refine kv rfl .no Fx.go312 (Evc rfl (Evc rfl Evn)) (fun _=>join_ok _ _ _ hK) ?_
  refine sw rfl (.u rfl) (.u rfl) rfl Fx.sz34 .here (by first|exact qE|exact qL|rfl) (ba_one _ _) ?_
  refine .nil (.blk (.code (rq3 rfl rfl (mV rfl rfl (ar rfl .no (.u rfl) (.u rfl) rfl (fun _=>wrap_i64 (by omega) (by omega)) ?_)))))
  refine aS rfl rfl (.nil (We.lpo (j-1,joinD ((stkL S).getD (j-1) zD) d) ?_ ?_ ?_ ?_ ?_))
  ·exact (esC rfl (evi (by omega)) (esD rfl (esD rfl (esD rfl eZ))))
  ·exact (mS .here rfl (mS .here rfl (mS .here rfl mN)))
  ·first|omega|(dsimp only; omega)
  ·exact hGl2
  refine ⟨?_,?_⟩
  ·(try dsimp only)<;>(first|omega|rfl|assumption|(simp; done))
  (try dsimp only)<;>(rw [hd,finB_pred (by omega)])
 have c4k:=c4
 try simp only [qcA,qcC,qcB] at c4
 refine .exit (.xcode (.xlp (.xblk (.code (.seq (rq2 rfl rfl (lA rfl .no Fx.ag34 (.u rfl) (fun _=>RdN.own .here) (fun _=>(by first|exact qE|exact qL|rfl)) ?_)))))))
 refine sw rfl (.u rfl) (.u rfl) rfl Fx.sz34 tk2 rfl (ba_one _ _) ?_
 refine .nil (.code (.ret (We.fin0 Tryz.results225 (.cell rfl (fun w hw=>run_loadVarN Fx.ag34 (RdN.own .here) ((by first|exact qE|exact qL|rfl)) hw) .nil) ?_)))
 obtain rfl:j=0:=by omega
 exact ⟨rfl,by rw [hd]; rfl⟩
namespace FxManR
theorem ag157:aggN Tryz.prog 157=some (some 5):=by kernel_rfl
end FxManR
namespace Fx
theorem ag341:aggN Tryz.prog 341=some none:=by kernel_rfl
theorem go208:goFn Tryz.prog 208=true:=by kernel_rfl
theorem go226:goFn Tryz.prog 226=true:=by kernel_rfl
theorem sz341:szT Tryz.prog 341=some 1:=by kernel_rfl
theorem zr341:zrL Tryz.prog 341=some ([.slice none 0 0]):=by kernel_rfl
theorem bp202_0_1_2_3_4:bPl Tryz.prog 202 [0,1,2,3,4]=some (nine (fun _=>0)++[.slice none 0 0,.slice none 0 0],[(0,1),(1,1),(2,1),(3,1),(4,5)]):=by kernel_rfl
theorem go291:goFn Tryz.prog 291=true:=by kernel_rfl
theorem bp202_5:bPl Tryz.prog 202 [5]=some (nine (fun _=>0)++[.slice none 0 0,.slice none 0 0],[(9,1)]):=by kernel_rfl
theorem go225:goFn Tryz.prog 225=true:=by kernel_rfl
end Fx
theorem add_ok (e:Edit) (ha hd:Sh) (L:List Dg) (v:Value) (bl:Nat) (G:PM) (he:EdR G e ha hd) (hla:e.add.length≤1000000) (hld:e.drop.length≤1000000) (hlm:(e.add.flatMap encM).length≤9000000000000) (hK:RdNP G 6 0 (wa 64 kW)) (hL:L.length≤1000000):Ct Tryz.prog 291 ([e.val ha hd,.pointer (some ⟨bl,0,none⟩)]:List Value).toArray G [.blk bl (cl [v] 341),rS 32 (ba 32) v 34 L] (fun _ μ' u=>∃ v',μ'=[.blk bl (cl [v'] 341),rS 32 (ba 32) v' 34 (L++[leafE e])]∧u=.tuple #[]):=by
 refine Ct.of Tryz.func291 rfl Tryz.ntmps291 rfl fun w0 hs0=>?_
 have hle:=encE_len he.wf hla hld
 refine .seq (rq1 rfl rfl ?_)
 refine bx rfl (.u rfl) rfl ?_; intro b2
 refine .nil (.code (Wk.draw (mc:=⟨false,false⟩) [0,1,2,3,4,5,6] Fx.mix (by kernel_rfl) ?_))
 refine ld rfl .no Fx.ag341 (.u rfl) (fun _=>Rd.own tk1 (by first|exact wap_f rfl|rfl)) ?_
 refine lA rfl .no Fx.ag202 (.u rfl) (fun _=>RdN.own .here) (fun _=>Edit.len) ?_
 refine kc rfl Fx.go208 (Evc rfl Evn) (encode_ok e ha hd _ he hla hld (by omega)) ?_
 rintro _ G5 μ5 hG5 ⟨h5,L5,eL5,rfl,rfl,hs5⟩
 have hK:=hK.mono hG5
 refine kv rfl .no Fx.go226 (Evc rfl Evn) (fun _=>leaf_ok _ _ _ hs5 hK (by rw [eL5]; omega)) ?_
 refine Go.Tan.b1 rfl Fx.se341 Fx.zw34 (.u rfl) rfl rfl (by decide) ?_; intro b7
 refine apS (xs:=L) ((leafD L5)) rfl Fx.se341 Fx.zw34 rfl (.u rfl) (.u rfl) tk3 .here (ba_len _ _) (ba_one _ _) (by omega) (by unfold maxLen; omega) ?_; intro v8 ov8
 refine s1v rfl (.u rfl) (.u rfl) .here Fx.sz341 tk3 (by first|decide|(simp only [wa_len,ba_len,qlA]; omega)) (rfl) ?_
 refine .nil (.nil (We.fin Tryz.results291 .nil (mS .here rfl (mS .here rfl mN)) ?_))
 exact ⟨_,by rw [eL5]; rfl,rfl⟩
theorem add_one (m:Meta) (b:Nat) (T:TypeId) (L:List Dg) (v:Value) (bl:Nat) (G:PM) (hw:m.wf) (hm:m.min.size+m.max.size≤900000000000) (hK:RdNP G 6 0 (wa 64 kW)) (hL:L.length≤1000000):Ct Tryz.prog 291 ([(oneE m).val ⟨some ⟨b,0,none⟩,1⟩ ⟨none,0⟩]++[.pointer (some ⟨bl,0,none⟩)]:List Value).toArray G [.blk b (cl m.cells T),.blk bl (cl [v] 341),rS 32 (ba 32) v 34 L] (fun _ μ' u=>∃ v',μ'=[.blk bl (cl [v'] 341),rS 32 (ba 32) v' 34 (L++[leafE (oneE m)])]∧u=.tuple #[]):=by
 refine Ct.give fun hle=>?_
 have h1:=oneE_len hw
 exact add_ok (oneE m) ⟨some ⟨b,0,none⟩,1⟩ ⟨none,0⟩ L v bl _ ⟨SlR.one1 (enc:=Meta.cells) (x:=m),SlR.nul,oneE_wf hw⟩ (by show 1≤_; decide) (by show 0≤_; decide) (by omega) (hK.mono hle) hL
theorem mRoot_ok (s:State) (hd:Nat→Sh) (G:PM) (hs:StR G s hd) (hn:StN s) (hl:StL s) (hK:RdNP G 6 0 (wa 64 kW)):Ct Tryz.prog 205 ([s.val hd]:List Value).toArray G [] (fun _ μ' u=>μ'=[]∧u=.agg (ba 32 (rootS s)).toArray):=by
 refine Ct.of Tryz.func205 rfl Tryz.ntmps205 rfl fun w0 hs0=>?_
 have hf:=hl.few
 refine .seq (rq2 rfl rfl ?_)
 refine bx rfl (.u rfl) rfl ?_; intro b1
 refine al rfl Fx.zq34 ?_; intro b2
 refine .nil (.code (.seq (rq1 rfl rfl ?_)))
 refine al rfl Fx.zr341 ?_; intro b3
 refine .nil (.code (.seq (rq2 rfl rfl (mf (vf:=#[]) (vc:=[Value.pointer (some ⟨b3,0,none⟩)].toArray) rfl .no (fun a ha _=>by simp) (fun a ha _=>by simp [(Ev.u (c:=true) rfl:Ev _ true (.tmp 3) _).eval ha rfl]) ?_))))
 refine aS rfl rfl (.nil (.code (.seq (wk_nilS 32 (ba 32) 34 ?_))))
 refine Wk.rg [0,1,2,3,4,5,6,7,8,9,10,11,12] rfl rfl (mV rfl rfl (fz rfl .no Fx.fo159_1 (.u rfl) (ld rfl .no Fx.ag23 (.u rfl) (fun _=>Rd.own tk3 (by first|exact wap_f rfl|rfl)) ?_)))
 refine fz rfl .no Fx.fo159_2 (.u rfl) (ld rfl .no Fx.ag23 (.u rfl) (fun _=>Rd.own tk3 (by first|exact wap_f rfl|rfl)) ?_)
 refine fz rfl .no Fx.fo159_3 (.u rfl) (ld rfl .no Fx.ag23 (.u rfl) (fun _=>Rd.own tk3 (by first|exact wap_f rfl|rfl)) ?_)
 refine fz rfl .no Fx.fo159_4 (.u rfl) (ld rfl .no Fx.ag23 (.u rfl) (fun _=>Rd.own tk3 (by first|exact wap_f rfl|rfl)) ?_)
 refine fz rfl .no Fx.fo159_5 (.u rfl) (lA rfl .no FxManR.ag157 (.u rfl) (fun _=>RdN.part (n:=5) (cs':=(List.range 5).map (fun i=>.int .u64 (s.gens i))) tk3 (rfl)) (fun _=>rfl) (bCe ((headE s).cells ⟨none,0⟩ ⟨none,0⟩) rfl .no Fx.bp202_0_1_2_3_4 (.cons (.u rfl) rfl (.cons (.u rfl) rfl (.cons (.u rfl) rfl (.cons (.u rfl) rfl (.cons (.u rfl) rfl .nil))))) rfl (rfl) (kaf (vs:=[_]) (vc:=[.pointer (some ⟨b3,0,none⟩)]) rfl (.inr rfl) (.u rfl) Fx.go291 (Evc rfl Evn) (mtk2 tk1 .here) (add_ok (headE s) ⟨none,0⟩ ⟨none,0⟩ [] _ b3 _ ⟨SlR.nul,SlR.nul,headE_wf hn⟩ (by show 0≤_; decide) (by show 0≤_; decide) (by have:=headE_len (s:=s); omega) hK (by simp)) ?_)))
 rintro _ G22 μ22 hG22 ⟨v22,rfl,rfl⟩
 have hs:=hs.mono hG22
 have hK:=hK.mono hG22
 refine .nil (.code (.seq (.seq (rq3 rfl rfl (fz rfl .no Fx.fo159_0 (.u rfl) (lA rfl .no Fx.ag156 (.u rfl) (fun _=>RdN.part (n:=5) (cs':=(List.range 5).map (fun i=>(hd i).val (s.lv i).length)) tk3 (rfl)) (fun _=>rfl) ?_))))))
 refine mV rfl rfl (.nil (.code (.block ?_)))
 refine Wk.lop (α:=Nat×Value) (fun gh=>[(25,true,.int .i64 (gh.1:Int))]) (fun gh=>[.blk b3 (cl [gh.2] 341),rS 32 (ba 32) gh.2 34 (leavesT s gh.1 0)])
  (fun gh Gl=>(gh.1≤5)) (fun gh=>5-gh.1) (0,v22) [(2,true,_),(3,true,_),(4,true,_),(24,true,_)] [_,_]
  (esC rfl (by first|rfl|exact evi (by omega)) (esD rfl (esD rfl (esD rfl (esD rfl eZ)))))
  (mS .here rfl (mS .here (by rw [leavesT_0]) (mS .here rfl (mS .here rfl mN)))) ?_ ?_
 ·(try dsimp only)<;>(first|omega|rfl|assumption|(simp; done))
 intro gh N0 Gl0 hN0 hGl0 hF0
 obtain ⟨k,v⟩:=gh; dsimp only at hF0 hN0 ⊢
 have hk:=hF0
 have hs:=hs.mono hGl0
 have hK:=hK.mono hGl0
 refine .seq (rq1 rfl rfl (cp rfl .no (.u rfl) (.u rfl) rfl (.nil (.code (.seq (.cond rfl (fun c1=>?_) (fun c1=>?_)))))))
 ·have c1k:=c1
  try simp only [qcA,qcC,qcB] at c1
  refine .skip (.code (.seq (.block (.seq ?_))))
  have hlv:=hs.lv k (by omega)
  have htl:=tot_lt (s:=s) (k:=k) (by omega)
  have htn:=tot_nonneg s k
  refine rq2 rfl rfl (ix rfl .no Fx.ar156 Fx.ag155 (.u rfl) (.u rfl) (fun _=>by omega) (fun _=>by omega) (fun _=>(lvs_at s hd (k:=k) (by omega) (by omega))) ?_)
  refine aS rfl rfl (.nil (.code (.seq (rq3 rfl rfl (mV rfl rfl (ln rfl .no Fx.sn155 (.u rfl) (mV rfl rfl (.nil (.code (.block ?_))))))))))
  refine Wk.lop (α:=Nat×Value) (fun gh=>[(30,true,.int .i64 (gh.1:Int))]) (fun gh=>[.blk b3 (cl [gh.2] 341),rS 32 (ba 32) gh.2 34 (leavesT s k gh.1)])
   (fun gh Gl=>(gh.1≤(s.lv k).length)) (fun gh=>(s.lv k).length-gh.1) (0,v) [(2,true,_),(3,true,_),(4,true,_),(24,true,_),(25,true,_),(28,true,_),(29,true,_)] [_,_]
   (esC rfl (by first|rfl|exact evi (by omega)) (esD rfl (esD rfl (esD rfl (esD rfl (esD rfl (esD rfl (esD rfl eZ))))))))
   (mS .here rfl (mS .here rfl (mS .here rfl (mS .here rfl mN)))) ?_ ?_
  ·(try dsimp only)<;>(first|omega|rfl|assumption|(simp; done))
  intro gh N1 Gl1 hN1 hGl1 hF1
  obtain ⟨j,w⟩:=gh; dsimp only at hF1 hN1 ⊢
  have hj:=hF1
  have hs:=hs.mono hGl1
  have hK:=hK.mono hGl1
  have hlv:=hlv.mono hGl1
  refine .seq (rq1 rfl rfl (cp rfl .no (.u rfl) (.u rfl) rfl (.nil (.code (.seq (.cond rfl (fun c2=>?_) (fun c2=>?_)))))))
  ·have c2k:=c2
   try simp only [qcA,qcC,qcB] at c2
   refine .skip (.code (.seq (.block (.seq (rq4 rfl rfl (ih rfl .no Fx.se155 (.u rfl) (.u rfl) (fun _=>by omega) (fun _=>by omega) (fun _=>hlv.nn (k:=j) (by first|omega|(simp only [Bool.and_eq_true,decide_eq_true_eq] at hc; omega)|(simp only [List.length_cons,List.length_nil]; omega))) ?_))))))
   obtain ⟨m,em⟩:=getx (k:=j) (xs:=s.lv k) (by omega)
   refine lA rfl .no Fx.ag184 (.u rfl) (fun _=>(hlv.at (by omega) em).rd) (fun _=>Meta.len _) ?_
   refine al rfl Fx.zq184 ?_; intro b8
   refine sw rfl (.u rfl) (.u rfl) rfl Fx.sz184 .here rfl (Meta.one _) ?_
   refine .nil (.code (rq5 rfl rfl (mV rfl rfl (lA rfl .no Fx.ag184 (.u rfl) (fun _=>RdN.own .here) (fun _=>Meta.len _) ?_))))
   refine Go.Tan.b1 rfl Fx.se155 Fx.zw184 (.u rfl) rfl rfl (by decide) ?_; intro b36
   refine bCe ((oneE m).cells ⟨some ⟨b36,0,none⟩,1⟩ ⟨none,0⟩) rfl .no Fx.bp202_5 (.cons (.u rfl) rfl .nil) rfl (rfl) (kaf (vs:=[_]) (vc:=[.pointer (some ⟨b3,0,none⟩)]) rfl (.inr rfl) (.u rfl) Fx.go291 (Evc rfl Evn) (mtk3 .here tk1 tk1) (add_one m b36 _ (leavesT s k j) _ b3 _ (hs.wf k (by omega) m (List.mem_of_getElem? em)) (hl.short k (by omega) m (List.mem_of_getElem? em)) hK (by have:=leavesT_len s k j; omega)) ?_)
   rintro _ G38 μ38 hG38 ⟨v38,rfl,rfl⟩
   have hK:=hK.mono hG38
   refine .nil (.blk (.code (rq2 rfl rfl (arn (((j+1):Nat):Int) rfl .no (.u rfl) (.u rfl) rfl (fun _=>by omega) (fun _=>wrap_i64 (by omega) (by omega)) ?_))))
   refine mV rfl rfl (.nil (We.lpo (j+1,v38) ?_ ?_ ?_ ?_ ?_))
   ·exact (esC rfl (by first|rfl|exact evi (by omega)) (esD rfl (esD rfl (esD rfl (esD rfl (esD rfl (esD rfl (esD rfl eZ))))))))
   ·exact (mS .here rfl (mS .here (by rw [leavesT_snoc em]) (mS tk1 rfl (mS tk1 rfl mN))))
   ·first|omega|(dsimp only; omega)
   ·exact (hGl1).trans hG38
   (try dsimp only)<;>(first|omega|rfl|assumption|(simp; done))
  have c2k:=c2
  try simp only [qcA,qcC,qcB] at c2
  refine .exit (.xcode (.xlp (.xblk (.blk (.code (rq2 rfl rfl (arn (((k+1):Nat):Int) rfl .no (.u rfl) (.u rfl) rfl (fun _=>by omega) (fun _=>wrap_i64 (by omega) (by omega)) ?_)))))))
  refine mV rfl rfl (.nil (We.lpo (k+1,w) ?_ ?_ ?_ ?_ ?_))
  ·exact (esC rfl (by first|rfl|exact evi (by omega)) (esD rfl (esD rfl (esD rfl (esD rfl eZ)))))
  ·exact (mS .here rfl (mS .here (by rw [leavesT_next (by omega)]) (mS .here rfl (mS .here rfl mN))))
  ·first|omega|(dsimp only; omega)
  ·exact (hGl0).trans hGl1
  (try dsimp only)<;>(first|omega|rfl|assumption|(simp; done))
 have c1k:=c1
 try simp only [qcA,qcC,qcB] at c1
 refine .exit (.xcode (.xlp (.xblk (.code (.seq ?_)))))
 obtain rfl:k=5:=by omega
 rw [leavesT_5]
 have hll:=leavesS_len s
 refine wk_fs tk1 (fun _ _=>rfl) (by intro b hb; cases hb) ?_; intro GfRL hRL hleRL evRL hsRL; subst evRL
 have hK:=hK.mono hleRL
 refine rq3 rfl rfl (ld rfl .no Fx.ag341 (.u rfl) (fun _=>Rd.own .here (by first|exact wap_f rfl|rfl)) ?_)
 refine kv rfl .no Fx.go225 (Evc rfl Evn) (fun _=>root_ok (leavesS s) hRL _ hsRL hK (by omega)) ?_
 refine sw rfl (.u rfl) (.u rfl) rfl Fx.sz34 tk1 (by first|exact qE|exact qL|rfl) (by first|exact ba_one _ _|exact wa_one _ _|exact one_V _|decide|exact one_app (wa_one _ _) (by simp [Value.oneCell'])) ?_
 refine .nil (.code (.ret (We.fin0 Tryz.results205 (.cell rfl (fun w hw=>run_loadVarN Fx.ag34 (RdN.own .here) ((ba_len _ _)) hw) .nil) ?_)))
 exact ⟨rfl,rfl⟩
end Go.Proofs.YtoifkgkandfeiaaGreatDoor
namespace Go.Proofs.YtoifkgkandfeiaaGreatDoor
open Go.Tan Go.RowKit Go.Maps Go.Sort Go.Shelf
namespace Fx
theorem go378:goFn Tryz.prog 378=true:=by kernel_rfl
theorem go338:goFn Tryz.prog 338=true:=by kernel_rfl
theorem zq159:zrL Tryz.prog 159=some ((State.zero.cells hd0)):=by kernel_rfl
theorem go238:goFn Tryz.prog 238=true:=by kernel_rfl
theorem go283:goFn Tryz.prog 283=true:=by kernel_rfl
theorem bp159_1_2_3_4_5_0:bPl Tryz.prog 159 [1,2,3,4,5,0]=some ((State.zero.cells hd0),[(5,1),(6,1),(7,1),(8,1),(9,5),(0,5)]):=by kernel_rfl
theorem sz159:szT Tryz.prog 159=some 14:=by kernel_rfl
theorem go284:goFn Tryz.prog 284=true:=by kernel_rfl
theorem go288:goFn Tryz.prog 288=true:=by kernel_rfl
theorem go204:goFn Tryz.prog 204=true:=by kernel_rfl
theorem go205:goFn Tryz.prog 205=true:=by kernel_rfl
theorem go206:goFn Tryz.prog 206=true:=by kernel_rfl
theorem zr231:zrL Tryz.prog 231=some ([.slice none 0 0,.pointer none,.int .u64 0]):=by kernel_rfl
theorem go87:goFn Tryz.prog 87=true:=by kernel_rfl
theorem bp231_1:bPl Tryz.prog 231 [1]=some ([.slice none 0 0,.pointer none,.int .u64 0],[(1,1)]):=by kernel_rfl
theorem sz231:szT Tryz.prog 231=some 3:=by kernel_rfl
theorem go159:goFn Tryz.prog 159=true:=by kernel_rfl
theorem ag231:aggN Tryz.prog 231=some (some 3):=by kernel_rfl
end Fx
theorem wLay_row (root:Nat→Y) (h:Hd) (n:BitVec 64) (p:List Y) (v:Value) (G:PM) (hK:RdNP G 6 0 (wa 64 kW)):Ct Tryz.prog 206 ([.agg (ba 32 root).toArray,.agg ([V h.kind,V h.level,uv .u64 h.gen,uv .u64 h.epoch,uv .u64 h.num]:List Value).toArray,uv .u64 n,v]:List Value).toArray G [rB v 5 p] (fun _ μ' u=>∃ ν,μ'=rB v 5 p :: ν∧∃ v' L e,(L,e)=layP root h n p∧ν=[rB v' 5 L]∧u=.tuple #[v',.int .i64 e]) :=
 Ct.lendB (fun hp G2 hle hv hs=>by subst hv; exact wLay_ok root h n p hp G2 hs (hK.mono hle))
theorem insM0_ok (f:Value) (G:PM):Ct Tryz.prog 378 ([.slice none 0 0,.int .i64 0,.int .i64 0,f]:List Value).toArray G [] (fun _ μ' u=>μ'=[]∧u=.tuple #[]):=by
 refine Ct.of Tryz.func378 rfl Tryz.ntmps378 rfl fun w0 hs0=>?_
 refine .seq (rq3 rfl rfl (mV rfl rfl (arn (((0+1):Nat):Int) rfl .no (.u rfl) (.u rfl) rfl (fun _=>by omega) (fun _=>wrap_i64 (by omega) (by omega)) ?_)))
 refine aS rfl rfl (.nil (.code (.block ?_)))
 refine Wk.lop (α:=Nat) (fun k=>[(8,true,.int .i64 ((k:Nat):Int))]) (fun _=>[])
  (fun k Gl=>(k=1)) (fun k=>0) 1 [(0,true,_),(1,true,_),(2,true,_),(3,true,_)] []
  (esC rfl (by first|rfl|exact evi (by omega)) (esD rfl (esD rfl (esD rfl (esD rfl eZ)))))
  mN ?_ ?_
 ·(try dsimp only)<;>(first|omega|rfl|assumption|(simp; done))
 intro k N0 Gl0 hN0 hGl0 hF0
 try dsimp only at hF0 hN0 ⊢
 have hk:=hF0
 refine .seq (.seq (rq3 rfl rfl (mV rfl rfl (mV rfl rfl (cp rfl .no (.u rfl) (.u rfl) rfl (.nil (.code (.cond rfl (fun c1=>?_) (fun c1=>?_)))))))))
 ·have c1k:=c1
  subst hk; exact absurd c1 (by decide)
 have c1k:=c1
 try simp only [qcA,qcB] at c1
 refine .exit (.xcode (.xlp (.xblk (.nil (We.fin0 Tryz.results378 .nil ?_)))))
 exact ⟨rfl,rfl⟩
theorem stabM0_ok (f:Value) (G:PM):Ct Tryz.prog 338 ([.slice none 0 0,.int .i64 0,f]:List Value).toArray G [] (fun _ μ' u=>μ'=[]∧u=.tuple #[]):=by
 refine Ct.of Tryz.func338 rfl Tryz.ntmps338 rfl fun w0 hs0=>?_
 refine .seq (rq1 rfl rfl (aS rfl rfl (.nil (.code (.seq (rq3 rfl rfl (mV rfl rfl (aS rfl rfl (aS rfl rfl (.nil (.code (.seq (.block ?_)))))))))))))
 refine Wk.lop (α:=Nat) (fun k=>[(7,true,.int .i64 0),(8,true,.int .i64 20)]) (fun _=>[])
  (fun k Gl=>True) (fun k=>0) 0 [(0,true,_),(1,true,_),(2,true,_),(6,true,_)] []
  (esC rfl (by first|rfl|exact evi (by omega)) (esC rfl (by first|rfl|exact evi (by omega)) (esD rfl (esD rfl (esD rfl (esD rfl eZ))))))
  mN ?_ ?_
 ·trivial
 intro k N0 Gl0 hN0 hGl0 hF0
 try dsimp only at hF0 hN0 ⊢
 refine .seq (.seq (rq3 rfl rfl (mV rfl rfl (mV rfl rfl (cp rfl .no (.u rfl) (.u rfl) rfl (.nil (.code (.cond rfl (fun c1=>?_) (fun c1=>?_)))))))))
 ·have c1k:=c1
  exact absurd c1 (by decide)
 have c1k:=c1
 try simp only [qcA,qcB] at c1
 refine .exit (.xcode (.xlp (.xblk (.code (.seq (rq5 rfl rfl (mV rfl rfl (mV rfl rfl (mV rfl rfl (mV rfl rfl (kv rfl .no Fx.go378 (Evc rfl (Evc rfl (Evc rfl (Evc rfl Evn)))) (fun _=>insM0_ok _ _) ?_)))))))))))
 refine .nil (.code (.block ?_))
 refine Wk.lop (α:=Nat) (fun k=>[(6,true,.int .i64 20)]) (fun _=>[])
  (fun k Gl=>True) (fun k=>0) 0 [(0,true,_),(1,true,_),(2,true,_)] []
  (esC rfl (by first|rfl|exact evi (by omega)) (esD rfl (esD rfl (esD rfl eZ))))
  mN ?_ ?_
 ·trivial
 intro k N1 Gl1 hN1 hGl1 hF1
 try dsimp only at hF1 hN1 ⊢
 refine .seq (.seq (rq3 rfl rfl (mV rfl rfl (mV rfl rfl (cp rfl .no (.u rfl) (.u rfl) rfl (.nil (.code (.cond rfl (fun c2=>?_) (fun c2=>?_)))))))))
 ·have c2k:=c2
  exact absurd c2 (by decide)
 have c2k:=c2
 try simp only [qcA,qcB] at c2
 refine .exit (.xcode (.xlp (.xblk (.nil (We.fin0 Tryz.results338 .nil ?_)))))
 exact ⟨rfl,rfl⟩
theorem sstM0_ok (f:Value) (G:PM):Ct Tryz.prog 288 ([.slice none 0 0,f]:List Value).toArray G [] (fun _ μ' u=>μ'=[]∧u=.tuple #[]):=by
 refine Ct.of Tryz.func288 rfl Tryz.ntmps288 rfl fun w0 hs0=>?_
 refine rq5 rfl rfl (mV rfl rfl (mV rfl rfl (ln rfl .no Fx.sn155 (.u rfl) (mV rfl rfl (kv rfl .no Fx.go338 (Evc rfl (Evc rfl (Evc rfl Evn))) (fun _=>stabM0_ok _ _) ?_)))))
 refine .nil (.nil (We.fin0 Tryz.results288 .nil ?_))
 exact ⟨rfl,rfl⟩
set_option maxHeartbeats 1000000 in
theorem applyF_ok (a b:Int) (G:PM) (ha:u64 a) (hb:u64 b) (hab:a≤b):Ct Tryz.prog 204 ([State.zero.val hd0,(edF a b).val ⟨none,0⟩ ⟨none,0⟩]:List Value).toArray G [] (fun _ μ' u=>μ'=[]∧u=.tuple #[(stF a b).val hd0,.int .i64 0]):=by
 refine Ct.of Tryz.func204 rfl Tryz.ntmps204 rfl fun w0 hs0=>?_
 refine .seq (rq4 rfl rfl ?_)
 refine bx rfl (.u rfl) rfl ?_; intro b2
 refine bx rfl (.u rfl) rfl ?_; intro b3
 refine al rfl Fx.zq159 ?_; intro b4
 refine aS rfl rfl (.nil (.code (.seq (.seq (rq3 rfl rfl (lA rfl .no Fx.ag159 (.u rfl) (fun _=>RdN.own tk2) (fun _=>(by first|exact qE|exact qL|rfl)) ?_))))))
 refine kv rfl .no Fx.go238 (Evc rfl Evn) (fun _=>vRight_ok State.zero hd0 _ st_zero) ?_
 refine nt rfl .no (.u rfl) (.nil (.code (.cond rfl (fun c1=>?_) (fun c1=>?_))))
 ·have c1k:=c1
  rw [right_zero] at c1; cases c1
 have c1k:=c1
 try simp only [qcA,qcC,qcB] at c1
 refine .skip (.code (.seq (.seq (Wk.rg [0,1,2,3,4,5,6,7,8,9,10,11,12,13,14] rfl rfl (fz rfl .no Fx.fo202_5 (.u rfl) (ld rfl .no Fx.ag155 (.u rfl) (fun _=>Rd.own tk1 rfl) ?_))))))
 refine ln rfl .no Fx.sn155 (.u rfl) (cp rfl .no (.u rfl) (.u rfl) rfl (mV rfl rfl (fz rfl (.f rfl rfl) Fx.fo202_6 (.u rfl) (ld rfl (.f rfl rfl) Fx.ag200 (.s rfl) (fun hc=>Rd.own tk1 rfl) ?_))))
 refine ln rfl (.f rfl rfl) Fx.sn200 (.s rfl) (cp rfl (.f rfl rfl) (.s rfl) (.u rfl) rfl (pkO rfl .no (.u rfl) (.s rfl) (mV rfl rfl (lA rfl (.f rfl rfl) Fx.ag159 (.u rfl) (fun _=>RdN.own tk2) (fun _=>(by first|exact qE|exact qL|rfl)) ?_))))
 refine lA rfl (.f rfl rfl) Fx.ag202 (.u rfl) (fun _=>RdN.own tk1) (fun _=>(by first|exact qE|exact qL|rfl)) ?_
 refine kv rfl (.f rfl rfl) Fx.go283 (Eva.cons (.s rfl) (Eva.cons (.s rfl) Evn)) (fun hc=>before_ok State.zero hd0 _ (edF a b) ⟨none,0⟩ ⟨none,0⟩) ?_
 refine pkO rfl .no (.u rfl) (.s rfl) (.nil (.code (.cond rfl (fun c2=>?_) (fun c2=>?_))))
 ·have c2k:=c2
  rw [bef_F ha.1 hb.1] at c2; cases c2
 have c2k:=c2
 try simp only [qcA,qcC,qcB] at c2
 refine .skip (.code (.seq (Wk.rg [0,1,2,3,4,5,6,7,8,9,10,11,12,13,14] rfl rfl (fz rfl .no Fx.fo202_0 (.u rfl) (ld rfl .no Fx.ag23 (.u rfl) (fun _=>Rd.own tk1 (by first|exact wap_f rfl|rfl)) ?_)))))
 refine fz rfl .no Fx.fo202_1 (.u rfl) (ld rfl .no Fx.ag23 (.u rfl) (fun _=>Rd.own tk1 (by first|exact wap_f rfl|rfl)) ?_)
 refine fz rfl .no Fx.fo202_2 (.u rfl) (ld rfl .no Fx.ag23 (.u rfl) (fun _=>Rd.own tk1 (by first|exact wap_f rfl|rfl)) ?_)
 refine fz rfl .no Fx.fo202_3 (.u rfl) (ld rfl .no Fx.ag23 (.u rfl) (fun _=>Rd.own tk1 (by first|exact wap_f rfl|rfl)) ?_)
 refine fz rfl .no Fx.fo202_4 (.u rfl) (lA rfl .no Fx.ag157 (.u rfl) (fun _=>RdN.part (n:=5) (cs':=(List.range 5).map (fun _=>.int .u64 0)) tk1 (rfl)) (fun _=>rfl) (fz rfl .no Fx.fo159_0 (.u rfl) (lA rfl .no Fx.ag156 (.u rfl) (fun _=>RdN.part (n:=5) (cs':=(List.range 5).map (fun _=>.slice none 0 0)) tk2 (rfl)) (fun _=>rfl) ?_)))
 refine bCe ((stF a b).cells hd0) rfl .no Fx.bp159_1_2_3_4_5_0 (.cons (.u rfl) rfl (.cons (.u rfl) rfl (.cons (.u rfl) rfl (.cons (.u rfl) rfl (.cons (.u rfl) rfl (.cons (.u rfl) rfl .nil)))))) rfl (rfl) ?_
 refine al rfl Fx.zq159 ?_; intro b6
 refine sw rfl (.u rfl) (.u rfl) rfl Fx.sz159 .here (by first|exact qE|exact qL|rfl) (State.one') ?_
 refine .nil (.code (.seq (.seq (rq1 rfl rfl (mV rfl rfl (.nil (.code (.block ?_))))))))
 refine Wk.lop (α:=Nat) (fun k=>[(49,true,.int .i64 (k:Int))]) (fun k=>[.blk b6 (cl ((stF a b).cells hd0) 159)])
  (fun k Gl=>(k≤5)) (fun k=>5-k) 0 [(3,true,_),(4,true,_),(6,true,_)] [_,_,_]
  (esC rfl (by first|rfl|exact evi (by omega)) (esD rfl (esD rfl (esD rfl eZ))))
  (mS .here rfl (mS .here rfl (mS .here rfl (mS .here rfl mN)))) ?_ ?_
 ·(try dsimp only)<;>(first|omega|rfl|assumption|(simp; done))
 intro k N0 Gl0 hN0 hGl0 hF0
 try dsimp only at hF0 hN0 ⊢
 have hk:=hF0
 refine .seq (rq1 rfl rfl (cp rfl .no (.u rfl) (.u rfl) rfl (.nil (.code (.seq (.cond rfl (fun c3=>?_) (fun c3=>?_)))))))
 ·have c3k:=c3
  try simp only [qcA,qcC,qcB] at c3
  refine .skip (.code (.seq (.block (.seq (rq2 rfl rfl (mV rfl rfl (aS rfl rfl (.nil (.code (rq9 rfl rfl (mV rfl rfl (mV rfl rfl (fz rfl .no Fx.fo159_0 (.u rfl) (iA rfl .no Fx.ar156 (.u rfl) (.u rfl) (fun _=>by omega) (fun _=>by omega) ?_))))))))))))))
  refine ld (v:=.slice none 0 0) rfl .no Fx.ag155 (.u rfl) (fun _=>Rd.own .here (stF_at (by omega))) ?_
  refine kv rfl .no Fx.go284 (Evc rfl Evn) (fun _=>clone0_ok _) ?_
  refine fz rfl .no Fx.fo159_0 (.u rfl) (iA rfl .no Fx.ar156 (.u rfl) (.u rfl) (fun _=>by omega) (fun _=>by omega) ?_)
  refine s1 rfl (.u rfl) (.u rfl) rfl Fx.sz155 .here (by show _<14; omega) (stF_set (by omega)) ?_
  refine .nil (.blk (.code (rq2 rfl rfl (arn (((k+1):Nat):Int) rfl .no (.u rfl) (.u rfl) rfl (fun _=>by omega) (fun _=>wrap_i64 (by omega) (by omega)) ?_))))
  refine mV rfl rfl (.nil (We.lpo (k+1) ?_ ?_ ?_ ?_ ?_))
  ·exact (esC rfl (by first|rfl|exact evi (by omega)) (esD rfl (esD rfl (esD rfl eZ))))
  ·exact (mS .here rfl (mS .here rfl (mS .here rfl (mS .here rfl mN))))
  ·first|omega|(dsimp only; omega)
  ·exact hGl0
  (try dsimp only)<;>(first|omega|rfl|assumption|(simp; done))
 have c3k:=c3
 try simp only [qcA,qcC,qcB] at c3
 refine .exit (.xcode (.xlp (.xblk (.code (.seq (.seq (rq4 rfl rfl (fz rfl .no Fx.fo202_6 (.u rfl) (ld rfl .no Fx.ag200 (.u rfl) (fun _=>Rd.own tk2 (by first|exact wap_f rfl|rfl)) ?_)))))))))
 refine ln rfl .no Fx.sn200 (.u rfl) (mV rfl rfl (.nil (.code (.block ?_))))
 refine Wk.lop (α:=Nat) (fun j=>[(64,true,.int .i64 (j:Int))]) (fun _=>[])
  (fun j Gl=>(j=0)) (fun j=>0) 0 [(3,true,_),(4,true,_),(6,true,_),(62,true,_),(63,true,_)] [_,_,_,_]
  (esC rfl (by first|rfl|exact evi (by omega)) (esD rfl (esD rfl (esD rfl (esD rfl (esD rfl eZ))))))
  (mS .here rfl (mS .here rfl (mS .here rfl (mS .here rfl mN)))) ?_ ?_
 ·(try dsimp only)<;>(first|omega|rfl|assumption|(simp; done))
 intro j N1 Gl1 hN1 hGl1 hF1
 try dsimp only at hF1 hN1 ⊢
 have hj:=hF1
 refine .seq (rq1 rfl rfl (cp rfl .no (.u rfl) (.u rfl) rfl (.nil (.code (.seq (.cond rfl (fun c4=>?_) (fun c4=>?_)))))))
 ·have c4k:=c4
  subst hj; cases c4
 have c4k:=c4
 try simp only [qcA,qcC,qcB] at c4
 refine .exit (.xcode (.xlp (.xblk (.code (.seq (.seq (rq4 rfl rfl (fz rfl .no Fx.fo202_5 (.u rfl) (ld rfl .no Fx.ag155 (.u rfl) (fun _=>Rd.own tk2 (by first|exact wap_f rfl|rfl)) ?_)))))))))
 refine ln rfl .no Fx.sn155 (.u rfl) (mV rfl rfl (.nil (.code (.block ?_))))
 refine Wk.lop (α:=Nat) (fun j=>[(97,true,.int .i64 (j:Int))]) (fun _=>[])
  (fun j Gl=>(j=0)) (fun j=>0) 0 [(4,true,_),(6,true,_),(95,true,_),(96,true,_)] [_,_,_,_]
  (esC rfl (by first|rfl|exact evi (by omega)) (esD rfl (esD rfl (esD rfl (esD rfl eZ)))))
  (mS .here rfl (mS .here rfl (mS .here rfl (mS .here rfl mN)))) ?_ ?_
 ·(try dsimp only)<;>(first|omega|rfl|assumption|(simp; done))
 intro j N2 Gl2 hN2 hGl2 hF2
 try dsimp only at hF2 hN2 ⊢
 have hj:=hF2
 refine .seq (rq1 rfl rfl (cp rfl .no (.u rfl) (.u rfl) rfl (.nil (.code (.seq (.cond rfl (fun c5=>?_) (fun c5=>?_)))))))
 ·have c5k:=c5
  subst hj; cases c5
 have c5k:=c5
 try simp only [qcA,qcC,qcB] at c5
 refine .exit (.xcode (.xlp (.xblk (.code (.seq (.seq (rq3 rfl rfl (fz rfl .no Fx.fo159_0 (.u rfl) (lA rfl .no Fx.ag156 (.u rfl) (fun _=>RdN.part (n:=5) (cs':=(List.range 5).map (fun _=>.slice none 0 0)) .here (rfl)) (fun _=>rfl) ?_)))))))))
 refine mV rfl rfl (.nil (.code (.block ?_)))
 refine Wk.lop (α:=Nat) (fun k=>[(120,true,.int .i64 (k:Int))]) (fun _=>[])
  (fun k Gl=>(k≤5)) (fun k=>5-k) 0 [(4,true,_),(6,true,_),(119,true,_)] [_,_,_,_]
  (esC rfl (by first|rfl|exact evi (by omega)) (esD rfl (esD rfl (esD rfl eZ))))
  (mS .here rfl (mS .here rfl (mS .here rfl (mS .here rfl mN)))) ?_ ?_
 ·(try dsimp only)<;>(first|omega|rfl|assumption|(simp; done))
 intro k N3 Gl3 hN3 hGl3 hF3
 try dsimp only at hF3 hN3 ⊢
 have hk:=hF3
 refine .seq (rq1 rfl rfl (cp rfl .no (.u rfl) (.u rfl) rfl (.nil (.code (.seq (.cond rfl (fun c6=>?_) (fun c6=>?_)))))))
 ·have c6k:=c6
  try simp only [qcA,qcC,qcB] at c6
  refine .skip (.code (.seq (.block (.seq (rq5 rfl rfl (mV rfl rfl (ix rfl .no Fx.ar156 Fx.ag155 (.u rfl) (.u rfl) (fun _=>by omega) (fun _=>by omega) (fun _=>nil5 (by omega)) ?_)))))))
  refine al rfl Fx.zr3 ?_; intro b14
  refine s1 rfl (.u rfl) (.u rfl) rfl Fx.sz3 .here (by decide) (rfl) ?_
  refine aS rfl rfl (.nil (.code (rq3 rfl rfl (mV rfl rfl (mf (vf:=#[]) (vc:=[Value.pointer (some ⟨b14,0,none⟩)].toArray) rfl .no (fun a ha _=>by simp) (fun a ha _=>by simp [(Ev.u (c:=true) rfl:Ev _ true (.tmp 14) _).eval ha rfl]) ?_)))))
  refine kv rfl .no Fx.go288 (Evc rfl (Evc rfl Evn)) (fun _=>sstM0_ok _ _) ?_
  refine .nil (.blk (.code (rq2 rfl rfl (arn (((k+1):Nat):Int) rfl .no (.u rfl) (.u rfl) rfl (fun _=>by omega) (fun _=>wrap_i64 (by omega) (by omega)) ?_))))
  refine mV rfl rfl (.nil (We.lpo (k+1) ?_ ?_ ?_ ?_ ?_))
  ·exact (esC rfl (by first|rfl|exact evi (by omega)) (esD rfl (esD rfl (esD rfl eZ))))
  ·exact (mS tk1 rfl (mS tk1 rfl (mS tk1 rfl (mS tk1 rfl mN))))
  ·first|omega|(dsimp only; omega)
  ·exact hGl3
  (try dsimp only)<;>(first|omega|rfl|assumption|(simp; done))
 have c6k:=c6
 try simp only [qcA,qcC,qcB] at c6
 refine .exit (.xcode (.xlp (.xblk (.code (.seq (.seq (rq3 rfl rfl (lA rfl .no Fx.ag159 (.u rfl) (fun _=>RdN.own .here) (fun _=>(by first|exact qE|exact qL|rfl)) ?_))))))))
 refine kv rfl .no Fx.go238 (Evc rfl Evn) (fun _=>vRight_ok (stF a b) hd0 _ stF_R) ?_
 refine nt rfl .no (.u rfl) (.nil (.code (.cond rfl (fun c7=>?_) (fun c7=>?_))))
 ·have c7k:=c7
  rw [right_F ha.1 hab] at c7; cases c7
 have c7k:=c7
 try simp only [qcA,qcC,qcB] at c7
 refine .skip (.code (.seq (rq3 rfl rfl (lA rfl .no Fx.ag159 (.u rfl) (fun _=>RdN.own .here) (fun _=>(by first|exact qE|exact qL|rfl)) ?_))))
 refine sw rfl (.u rfl) (.u rfl) rfl Fx.sz159 tk1 (by first|exact qE|exact qL|rfl) (State.one') ?_
 refine aS rfl rfl (.nil (.code (.ret (We.fin0 Tryz.results204 (.cell rfl (fun w hw=>run_loadVarN Fx.ag159 (RdN.own .here) ((by first|exact qE|exact qL|rfl)) hw) (.tmp rfl .nil)) ?_))))
 exact ⟨rfl,rfl⟩
set_option maxHeartbeats 2000000 in
theorem mLayF_ok (root:Nat→Y) (h:Hd) (n mark:BitVec 64) (a b:Int) (G:PM) (ha:u64 a) (hb:u64 b) (hab:a≤b) (hK:RdNP G 6 0 (wa 64 kW)):Ct Tryz.prog 133 ([.agg (ba 32 root).toArray,.agg ([V h.kind,V h.level,uv .u64 h.gen,uv .u64 h.epoch,uv .u64 h.num]:List Value).toArray,uv .u64 n,uv .u64 mark,State.zero.val hd0,(edF a b).val ⟨none,0⟩ ⟨none,0⟩]:List Value).toArray G [] (fun _ μ' u=>∃ v L,L.length≤600∧μ'=[rB v 5 L]∧u=.tuple #[v,(stF a b).val hd0,.int .i64 0]):=by
 refine Ct.of Tryz.func133 rfl Tryz.ntmps133 rfl fun w0 hs0=>?_
 have hE:EdR G (edF a b) ⟨none,0⟩ ⟨none,0⟩:=⟨SlR.nul,SlR.nul,edF_wf ha hb⟩
 have hen:=encE_len (edF_wf ha hb) (by show 0≤_; decide) (by show 0≤_; decide)
 have he0:(List.flatMap encM (edF a b).add).length=0:=rfl
 have hd0_:(edF a b).drop.length=0:=rfl
 refine .seq (rq7 rfl rfl ?_)
 refine bx rfl (.u rfl) rfl ?_; intro b6
 refine bx rfl (.u rfl) rfl ?_; intro b7
 refine bx rfl (.u rfl) rfl ?_; intro b10
 refine bx rfl (.u rfl) rfl ?_; intro b11
 refine aS rfl rfl ?_
 refine al rfl Fx.zq159 ?_; intro b13
 refine aS rfl rfl (.nil (.code (.seq ?_)))
 refine wk_fz tk4 (by intro b hb; cases hb) ?_; intro Gfb6 hleb6 hbb6
 have hK:=hK.mono hleb6
 refine wk_fz tk3 (by intro b hb; cases hb) ?_; intro Gfb7 hleb7 hbb7
 have hK:=hK.mono hleb7
 have hbb6:=hbb6.mono hleb7
 refine wk_fz tk1 (by intro b hb; cases hb) ?_; intro Gfb11 hleb11 hbb11
 have hK:=hK.mono hleb11
 have hbb6:=hbb6.mono hleb11
 have hbb7:=hbb7.mono hleb11
 refine rq9 rfl rfl (lA rfl .no Fx.ag159 (.u rfl) (fun _=>RdN.own tk1) (fun _=>(by first|exact qE|exact qL|rfl)) ?_)
 refine lA rfl .no Fx.ag202 (.u rfl) (fun _=>(hbb11.rdn (m:=11) (cs':=(edF a b).cells ⟨none,0⟩ ⟨none,0⟩) (rfl)).rd) (fun _=>(by first|exact qE|exact qL|rfl)) ?_
 refine kv rfl .no Fx.go204 (Evc rfl (Evc rfl Evn)) (fun _=>applyF_ok a b _ ha hb hab) ?_
 refine mV rfl rfl (ex rfl .no (.u rfl) rfl (ex rfl .no (.u rfl) rfl ?_))
 refine al rfl Fx.zq159 ?_; intro b15
 refine sw rfl (.u rfl) (.u rfl) rfl Fx.sz159 .here (by first|exact qE|exact qL|rfl) (State.one') ?_
 refine aS rfl rfl (.nil (.code (.seq (.seq (rq2 rfl rfl (mV rfl rfl (cp rfl .no (.u rfl) (.u rfl) rfl (.nil (.code (.cond rfl (fun c1=>?_) (fun c1=>?_)))))))))))
 ·have c1k:=c1
  exact absurd c1 (by decide)
 have c1k:=c1
 try simp only [qcA,qcC,qcB] at c1
 refine .skip (.code (.seq (rq4 rfl rfl (lA rfl .no Fx.ag159 (.u rfl) (fun _=>RdN.own .here) (fun _=>(by first|exact qE|exact qL|rfl)) ?_))))
 refine kv rfl .no Fx.go205 (Evc rfl Evn) (fun _=>mRoot_ok (stF a b) hd0 _ stF_R (stF_N ha hb) stF_L hK) ?_
 refine al rfl Fx.zq34 ?_; intro b17
 refine sw rfl (.u rfl) (.u rfl) rfl Fx.sz34 .here rfl (ba_one _ _) ?_
 refine .nil (.code (.seq (Wk.mixp ⟨true,false⟩ Fx.mix (by kernel_rfl) ?_)))
 refine Wp.one 2 (by kernel_rfl) ?_
 refine mV rfl rfl (.nil (Wp.one 3 (by kernel_rfl) ?_))
 refine mV rfl rfl (.nil (Wp.one 5 (by kernel_rfl) ?_))
 refine sa0 rfl .no Fx.ar34 (.u rfl) (.nil (Wp.pr 0 (by kernel_rfl) ?_))
 refine lA rfl .no Fx.ag34 (.u rfl) (fun _=>(hbb6.rdn (m:=32) (cs':=_) (by first|exact ba_all|exact app_l|exact app_r)).rd) (fun _=>(ba_len _ _)) ?_
 refine .nil ⟨⟨rfl,rfl⟩,?_⟩
 refine Wp.pr 1 (by kernel_rfl) ?_
 refine lA rfl .no Fx.ag161 (.u rfl) (fun _=>(hbb7.rdn (m:=5) (cs':=[V h.kind,V h.level,uv .u64 h.gen,uv .u64 h.epoch,uv .u64 h.num]) (rfl)).rd) (fun _=>rfl) ?_
 refine .nil ⟨⟨rfl,rfl⟩,?_⟩
 refine Wp.pr 7 (by kernel_rfl) ?_
 refine lA rfl .no Fx.ag202 (.u rfl) (fun _=>(hbb11.rdn (m:=11) (cs':=(edF a b).cells ⟨none,0⟩ ⟨none,0⟩) (rfl)).rd) (fun _=>(by first|exact qE|exact qL|rfl)) ?_
 refine .nil ⟨⟨rfl,rfl⟩,?_⟩
 refine Wp.b1 4 (by kernel_rfl) ?_
 refine kc rfl Fx.go207 (Evc rfl (Evc rfl (Evc rfl Evn))) (Ct.rowc (Fix_ok [] ⟨none,0⟩ mark 8 _ SlR.nul (by simp) (by decide))) ?_
 rintro v36 G36 μ36 hG36 ⟨L36,ov36,eL36,rfl⟩
 have hK:=hK.mono hG36
 refine .nil (Wp.b1 6 (by kernel_rfl) ?_)
 have lL36:L36.length=8:=by rw [eL36,List.nil_append,fix_len]
 refine apY rfl Fx.se25 Fx.zv5 (.u rfl) (.u rfl) .here (Sc.arr tk1) (by (try simp only [qlA,yl_len]); omega) ?_
 intro v38 L38 ov38 eL38
 have lL38:L38.length=L36.length+32:=by rw [eL38,List.length_append]; first|rfl | simp [yl_len]
 refine .nil (Wp.b1 8 (by kernel_rfl) ?_)
 refine kc rfl Fx.go208 (Evc rfl Evn) (encode_ok (edF a b) ⟨none,0⟩ ⟨none,0⟩ _ ⟨SlR.nul,SlR.nul,edF_wf ha hb⟩ (by show 0≤_; decide) (by show 0≤_; decide) (by omega)) ?_
 rintro _ G40 μ40 hG40 ⟨h40,L40,eL40,rfl,rfl,hs40⟩
 have hK:=hK.mono hG40
 refine .nil (Wp.b1 9 (by kernel_rfl) ?_)
 have lL40:L40.length=(encE (edF a b)).length:=by rw [eL40]
 refine apY rfl Fx.se25 Fx.zv5 (.u rfl) (.u rfl) .here hs40.sc (by (try simp only [qlA,yl_len]); omega) ?_
 intro v41 L41 ov41 eL41
 have lL41:L41.length=L38.length+L40.length:=by rw [eL41,List.length_append]
 refine .nil (Wp.b1 10 (by kernel_rfl) ?_)
 refine ka rfl (.inl rfl) Fx.go206 (Evc rfl (Evc rfl (Evc rfl (Evc rfl Evn)))) (mtk1 .here) (wLay_row root h n L41 _ _ hK) ?_
 rintro _ G42 μ42 hG42 ⟨_,rfl,v42,L42,e42,hL42,rfl,rfl⟩
 obtain ⟨rfl,hL9⟩:=lay_fit (by omega) hL42
 refine .nil (Wp.one 11 (by kernel_rfl) ?_)
 refine mV rfl rfl (.nil (Wp.one 12 (by kernel_rfl) ?_))
 refine ex rfl .no (.u rfl) rfl (.nil (Wp.one 13 (by kernel_rfl) ?_))
 refine ex rfl .no (.u rfl) rfl (.nil (Wp.one 14 (by kernel_rfl) ?_))
 refine aS rfl rfl (.nil (Wp.one 15 (by kernel_rfl) ?_))
 refine aS rfl rfl (.nil (Wp.last (by kernel_rfl) ?_))
 refine .code (.seq (.seq (rq2 rfl rfl (mV rfl rfl (cp rfl .no (.u rfl) (.u rfl) rfl (.nil (.code (.cond rfl (fun c2=>?_) (fun c2=>?_)))))))))
 ·have c2k:=c2
  exact absurd c2 (by decide)
 have c2k:=c2
 try simp only [qcA,qcC,qcB] at c2
 refine .skip (.code (.seq (Wk.draw (mc:=⟨false,false⟩) [0,1,2,3,4] Fx.mix (by kernel_rfl) ?_)))
 refine mV rfl rfl (lA rfl .no Fx.ag159 (.u rfl) (fun _=>RdN.own tk3) (fun _=>(by first|exact qE|exact qL|rfl)) ?_)
 refine aS rfl rfl (sw rfl (.u rfl) (.u rfl) rfl Fx.sz159 tk4 (by first|exact qE|exact qL|rfl) (State.one') ?_)
 refine aS rfl rfl (.nil (.code (.ret (We.fin Tryz.results133 (.tmp rfl (.cell rfl (fun w hw=>run_loadVarN Fx.ag159 (RdN.own .here) ((by first|exact qE|exact qL|rfl)) hw) (.tmp rfl .nil))) (mS tk2 rfl mN) ?_))))
 exact ⟨v42,L42,hL9,rfl,rfl⟩
theorem search_ok (bx:Nat) (d:Db) (bm room done clk:Nat) (F:List Fi) (G:PM) (hbx:PB G bx (cl d.cells 165)) (hbd:PB G d.dk (cl (dkC bm room done) 118)) (hbm:PB G bm (mO (F.map Fi.fe) clk)) (hD:DkR F clk) (o:BitVec 64) (hbt:PB G d.tr (cl [uv .u64 0#64,uv .u64 o] 87)) (hab:fget (nmB 4 0) F=none):Ct Tryz.prog 127 ([pt bx]:List Value).toArray G [] (fun _ μ' u=>∃ bl v,v.oneCell'=true∧μ'=[.blk bl (cl [v,.int .i64 ((0:Nat):Int)] 225),rS 16 Nd.cells v 249 [Nd.z]]∧u=.agg #[.slice none 0 0,.pointer (some ⟨bl,0,none⟩),.int .u64 0]):=by
 refine Ct.of Tryz.func127 rfl Tryz.ntmps127 rfl fun w0 hs0=>?_
 refine .seq (rq1 rfl rfl ?_)
 refine al rfl Fx.zr231 ?_; intro b2
 refine .nil (.code (.seq (rq4 rfl rfl (kc rfl Fx.go87 Evn (lNew_ok _) ?_))))
 rintro _ G20 μ20 hG20 ⟨bl,vl,ol,rfl,rfl⟩
 have hbx:=hbx.mono hG20
 have hbd:=hbd.mono hG20
 have hbm:=hbm.mono hG20
 have hbt:=hbt.mono hG20
 refine bCe ([.slice none 0 0,.pointer (some ⟨bl,0,none⟩),.int .u64 0]) rfl .no Fx.bp231_1 (.cons (.u rfl) rfl .nil) rfl (rfl) ?_
 refine al rfl Fx.zr231 ?_; intro b3
 refine sw rfl (.u rfl) (.u rfl) rfl Fx.sz231 .here rfl (by simp [Value.oneCell']) ?_
 refine .nil (.code (.seq (rq2 rfl rfl (kv rfl .no Fx.go102 (Evc rfl (Evc rfl Evn)) (fun _=>name_ok 4#8 0#64 _ (by decide)) ?_))))
 refine aS rfl rfl (.nil (.code (.seq (Wk.rg [0,1,2,3,4,5,6,7,8,9,10] rfl rfl (mV rfl rfl (nc rfl .no (.u rfl) (fa rfl .no Fx.fo165_0 (.u rfl) (ld rfl .no Fx.ag48 (.u rfl) (fun _=>(hbx.rd (rfl)).rd) ?_))))))))
 refine mV rfl rfl (kv rfl .no Fx.go159 (Evc rfl (Evc rfl Evn)) (fun _=>dRead_ok d.dk bm room done clk F _ hbd hbm (nmB 4 0) nm_good4 hab) ?_)
 refine mV rfl rfl (ex rfl .no (.u rfl) rfl (ex rfl .no (.u rfl) rfl (aS rfl rfl (aS rfl rfl (.nil (.code (.seq (.seq (rq2 rfl rfl (mV rfl rfl (cp rfl .no (.u rfl) (.u rfl) rfl (.nil (.code (.cond rfl (fun c1=>?_) (fun c1=>?_)))))))))))))))
 ·have c1k:=c1
  try simp only [qcA,qcB] at c1
  refine .seq (.seq (rq6 rfl rfl (mV rfl rfl (nc rfl .no (.u rfl) (fa rfl .no Fx.fo165_1 (.u rfl) (ld rfl .no Fx.ag50 (.u rfl) (fun _=>(hbx.rd (rfl)).rd) ?_))))))
  refine kv rfl .no Fx.go134 (Evc rfl Evn) (fun _=>marks_ok d.tr 0#64 o _ hbt) ?_
  refine cp rfl .no (.u rfl) (.u rfl) rfl (.nil (.code (.cond rfl (fun c2=>?_) (fun c2=>?_))))
  ·have c2k:=c2
   cases c2
  have c2k:=c2
  try simp only [qcA,qcB] at c2
  refine .skip (.code (.seq (rq2 rfl rfl (lA rfl .no Fx.ag231 (.u rfl) (fun _=>RdN.own .here) (fun _=>(by first|exact qE|exact qL|rfl)) ?_))))
  refine sw rfl (.u rfl) (.u rfl) rfl Fx.sz231 tk3 rfl (by simp [Value.oneCell']) ?_
  refine .nil (.code (.ret (We.fin Tryz.results127 (.cell rfl (fun w hw=>run_loadVarN Fx.ag231 (RdN.own .here) ((by first|exact qE|exact qL|rfl)) hw) .nil) (mS tk2 rfl (mS tk2 rfl mN)) ?_)))
  exact ⟨bl,vl,ol,rfl,rfl⟩
 have c1k:=c1
 cases c1
end Go.Proofs.YtoifkgkandfeiaaGreatDoor
namespace Go.Proofs.YtoifkgkandfeiaaGreatDoor
open Go.Tan Go.RowKit Go.Maps Go.Sort Go.Shelf
namespace FxGrBa
theorem sb9_25:sbT Tryz.prog 9 25=true:=by kernel_rfl
end FxGrBa
namespace Fx
theorem go162:goFn Tryz.prog 162=true:=by kernel_rfl
theorem go161:goFn Tryz.prog 161=true:=by kernel_rfl
theorem go127:goFn Tryz.prog 127=true:=by kernel_rfl
theorem fo231_0:fOff Tryz.prog 231 0=some 0:=by kernel_rfl
theorem ag97:aggN Tryz.prog 97=some none:=by kernel_rfl
theorem go128:goFn Tryz.prog 128=true:=by kernel_rfl
theorem fo165_4:fOff Tryz.prog 165 4=some 41:=by kernel_rfl
theorem go129:goFn Tryz.prog 129=true:=by kernel_rfl
theorem bp161_0_3_4:bPl Tryz.prog 161 [0,3,4]=some ([V 0#8,V 0#8,uv .u64 0#64,uv .u64 0#64,uv .u64 0#64],[(0,1),(3,1),(4,1)]):=by kernel_rfl
theorem bp163_0:bPl Tryz.prog 163 [0]=some ([.int .u8 0,.int .u8 0,.int .u64 0,.int .u64 0,.int .u64 0,.int .u64 0,.bool false],[(0,5)]):=by kernel_rfl
theorem fo165_12:fOff Tryz.prog 165 12=some 74:=by kernel_rfl
theorem sz163:szT Tryz.prog 163=some 7:=by kernel_rfl
theorem fo165_10:fOff Tryz.prog 165 10=some 60:=by kernel_rfl
theorem fo165_7:fOff Tryz.prog 165 7=some 57:=by kernel_rfl
theorem fo165_5:fOff Tryz.prog 165 5=some 42:=by kernel_rfl
theorem bp202_0_2_3_4:bPl Tryz.prog 202 [0,2,3,4]=some (nine (fun _=>0)++[.slice none 0 0,.slice none 0 0],[(0,1),(2,1),(3,1),(4,5)]):=by kernel_rfl
theorem fo231_1:fOff Tryz.prog 231 1=some 1:=by kernel_rfl
theorem ag153:aggN Tryz.prog 153=some none:=by kernel_rfl
theorem go104:goFn Tryz.prog 104=true:=by kernel_rfl
theorem go132:goFn Tryz.prog 132=true:=by kernel_rfl
theorem go131:goFn Tryz.prog 131=true:=by kernel_rfl
theorem go130:goFn Tryz.prog 130=true:=by kernel_rfl
theorem fo165_2:fOff Tryz.prog 165 2=some 2:=by kernel_rfl
theorem bp159_:bPl Tryz.prog 159 []=some ((State.zero.cells hd0),[]):=by kernel_rfl
theorem go133:goFn Tryz.prog 133=true:=by kernel_rfl
theorem go137:goFn Tryz.prog 137=true:=by kernel_rfl
theorem go136:goFn Tryz.prog 136=true:=by kernel_rfl
theorem go139:goFn Tryz.prog 139=true:=by kernel_rfl
theorem go140:goFn Tryz.prog 140=true:=by kernel_rfl
theorem fo163_1:fOff Tryz.prog 163 1=some 5:=by kernel_rfl
end Fx
theorem lAll0_ok (bl:Nat) (h:Sh) (xs:List Nd) (sz:Value) (w:Nat→Nat) (G:PM) (hbl:PB G bl (cl [h.val xs.length,sz] 225)) (hs:SlR G 16 Nd.cells h xs) (hW:WayN xs ⟨#[]⟩ 18446744073709551615#64 w) (hn:nxt xs (w 0) 0=0) (hl:xs.length≤1000000):Ct Tryz.prog 104 ([.pointer (some ⟨bl,0,none⟩)]:List Value).toArray G [] (fun _ μ' u=>μ'=[]∧u=.slice none 0 0):=by
 refine Ct.of Tryz.func104 rfl Tryz.ntmps104 rfl fun w0 hs0=>?_
 refine .seq (rq1 rfl rfl (aS rfl rfl (.nil (.code (.seq (rq5 rfl rfl (mV rfl rfl (mV rfl rfl (kv rfl .no Fx.go162 (Evc rfl Evn) (fun _=>lLen_ok bl h xs sz _ hbl hl) ?_)))))))))
 refine kv rfl .no Fx.go161 (Evc rfl (Evc rfl (Evc rfl (Evc rfl Evn)))) (fun _=>lFrom0 bl h xs sz _ hbl hs w ⟨#[]⟩ 18446744073709551615#64 hW _ hn) ?_
 refine aS rfl rfl (.nil (.code (.ret (We.fin0 Tryz.results104 (.tmp rfl .nil) ?_))))
 exact ⟨rfl,rfl⟩
theorem dRen2_ok (bd bm room done clk:Nat) (F:List Fi) (G:PM) (hD:DkR F clk) (hd9:done≤1000000000) (hr9:room≤1000000000) (nm to:ByteArray) (f:Fi) (hn:goodN nm) (hn2:goodN to) (hf:fget nm F=some f) (hab:fget to (fdel nm F)=none) (hc:F.length<100):Ct Tryz.prog 139 ([.pointer (some ⟨bd,0,none⟩),.string nm,.string to]:List Value).toArray G [.blk bd (cl (dkC bm room (done)) 118),.blk bm (mO ((F).map Fi.fe) (clk))] (fun _ μ' u=>∃ F':List Fi,DkR F' (clk+1)∧F'.map Fi.nm=rmv nm (F.map Fi.nm)++[to]∧szF F'=szF F∧μ'=[.blk bd (cl (dkC bm room (done+1)) 118),.blk bm (mO ((F').map Fi.fe) (clk+1))]∧u=.int .i64 0) :=
 (dRename_ok bd bm room done clk F G hD hd9 hr9 nm to f hn hn2 hf hab).mono fun G' μ' u ⟨h1,h2⟩=>by
  obtain ⟨a,b,c⟩:=rn_facts hD hf hab hn2.2 hc
  exact ⟨_,a,b,c,h1,h2⟩
theorem dbwriteR_ok (bx bm room done clk:Nat) (d:Db) (F:List Fi) (G:PM) (hD:DkR F clk) (hd9:done≤100000000) (hr9:room≤1000000000) (nm:ByteArray) (v:Value) (xs:List Y) (hn:goodN nm) (hab:fget nm F=none) (hx:xs.length≤1000000) (hfit:xs.length+szF F≤room) (hcf:F.length<100) :
  Ct Tryz.prog 136 ([pt bx,.string nm,v]:List Value).toArray G (.blk bx (cl (Db.cells d) 165) :: rB v 5 xs :: [.blk d.dk (cl (dkC bm room (done)) 118),.blk bm (mO ((F).map Fi.fe) (clk))]) (fun _ μ' u=>∃ ν,μ'=.blk bx (cl (Db.cells d) 165) :: ν∧∃ F':List Fi,DkR F' (clk+1)∧F'.map Fi.nm=F.map Fi.nm++[nm]∧szF F'=szF F+xs.length∧ν=[.blk d.dk (cl (dkC bm room (done+1+1)) 118),.blk bm (mO ((F').map Fi.fe) (clk+1))]∧u=.tuple #[]) :=
 lend1 fun G1 hle1 h1=>Ct.giveR fun s G2 hle hv hs=>by
  subst hv
  exact dbwrite_ok bx bm room done clk d F G2 ⟨hle _ _ h1.h⟩ hD hd9 hr9 nm s xs hs hn hab hx hfit hcf
set_option maxHeartbeats 4000000 in
theorem dbegin_ok (bx bm room dk tr held now:Nat) (root:Nat→Y) (o:Opts) (ep o1:BitVec 64) (G:PM) (hr:5000≤room) (hr9:room≤1000000000) (hK:RdNP G 6 0 (wa 64 kW)):Ct Tryz.prog 90 ([pt bx]:List Value).toArray G [.blk bx (cl (Db.cells (Db.new dk tr root o ep held now)) 165),.blk dk (cl (dkC bm room 0) 118),.blk bm (mO [] 0),.blk tr (cl [uv .u64 0#64,uv .u64 o1] 87)] (fun _ μ' u=>∃ F:List Fi,DkR F 3∧F.map Fi.nm=[nmB 3 0,nmB 4 0]∧szF F≤2000∧μ'=[.blk bx (cl (Db.cells (Db.d3 dk tr root o ep held now)) 165),.blk dk (cl (dkC bm room 5) 118),.blk bm (mO (F.map Fi.fe) 3),.blk tr (cl [uv .u64 1#64,uv .u64 o1] 87)]∧u=.tuple #[]):=by
 refine Ct.of Tryz.func90 rfl Tryz.ntmps90 rfl fun w0 hs0=>?_
 refine .seq (rq4 rfl rfl (mV rfl rfl (ka rfl (.inr rfl) Fx.go127 (Evc rfl Evn) (mtq4 tk3 .here .here .here) (lend1 fun G1 hle1 h1=>lend3 fun G2 hle h2 h3 h4=>search_ok bx (Db.new dk tr root o ep held now) bm room 0 0 [] G2 h2 h3 h4 DkR0 o1 ⟨hle _ _ h1.h⟩ rfl) ?_)))
 rintro _ G15 μ15 hG15 ⟨ν1,rfl,ν2,rfl,bl,vl,ol,rfl,rfl⟩
 have hK:=hK.mono hG15
 refine al rfl Fx.zr231 ?_; intro b2
 refine sw rfl (.u rfl) (.u rfl) rfl Fx.sz231 .here rfl (by simp [Value.oneCell']) ?_
 refine .nil (.code (.seq ?_))
 refine wk_fs tk6 (fun _ _=>rfl) (keys_k tk2 rfl (keys_k tk2 rfl (keys_k tk2 rfl (keys_k tk1 rfl (keys_0))))) ?_; intro GfRL hRL hleRL evRL hsRL; subst evRL
 have hK:=hK.mono hleRL
 refine wk_fz tk5 (keys_k tk2 rfl (keys_k tk2 rfl (keys_k tk2 rfl (keys_k tk1 rfl (keys_0))))) ?_; intro Gfbl hlebl hbbl
 have hK:=hK.mono hlebl
 have hsRL:=hsRL.mono hlebl
 refine rq4 rfl rfl (mV rfl rfl (fz rfl .no Fx.fo231_0 (.u rfl) (ld rfl .no Fx.ag97 (.u rfl) (fun _=>Rd.own .here rfl) ?_)))
 refine ka rfl (.inr rfl) Fx.go128 (Evc rfl (Evc rfl Evn)) (mtk3 tk2 tk2 tk2) (lend3 fun G2 hle h1 h2 h3=>sweep_ok bx (Db.new dk tr root o ep held now) bm room 0 0 [] G2 h1 h2 h3 DkR0 ⟨none,0⟩ [] SlR.nul (by decide) (fun f hf=>absurd hf List.not_mem_nil)) ?_
 rintro _ G19 μ19 hG19 ⟨ν3,rfl,rfl,rfl⟩
 have hK:=hK.mono hG19
 have hsRL:=hsRL.mono hG19
 have hbbl:=hbbl.mono hG19
 refine .nil (.code (.seq ?_))
 refine Wk.jn (α:=Unit) (fun _u=>[]) (fun _u=>[.blk bx (cl (Db.cells (Db.d1 dk tr root o ep held now)) 165)]) (fun _u Gl=>True) [(0,true,_),(2,true,_)] [_,_,_,_]
  (esD rfl (esD rfl eZ)) (mS tk1 rfl (mS tk1 rfl (mS tk1 rfl (mS tk1 rfl mN)))) ?_ ?_
 ·refine Wk.mixp ⟨true,false⟩ Fx.mix (by kernel_rfl) ?_
  refine Wp.one 0 (by kernel_rfl) ?_
  refine mV rfl rfl (.nil (Wp.one 1 (by kernel_rfl) ?_))
  refine mV rfl rfl (.nil (Wp.one 2 (by kernel_rfl) ?_))
  refine nc rfl .no (.u rfl) (.nil (Wp.one 3 (by kernel_rfl) ?_))
  refine fz rfl .no Fx.fo165_4 (.u rfl) (.nil (Wp.one 5 (by kernel_rfl) ?_))
  refine mV rfl rfl (.nil (Wp.b2 4 6 (by kernel_rfl) ?_ ?_))
  ·refine ld rfl .no Fx.ag23 (.u rfl) (fun _=>Rd.own .here rfl) ?_
   refine .nil (Wp.b1 6 (by kernel_rfl) ?_)
   refine ka rfl (.inl rfl) Fx.go129 (Evc rfl Evn) (mtk1 .here) (dbnum_ok bx (Db.new dk tr root o ep held now) _ (by show (0#64:BitVec 64).toNat<1000; decide)) ?_
   rintro _ G26 μ26 hG26 ⟨rfl,rfl⟩
   have hK:=hK.mono hG26
   have hsRL:=hsRL.mono hG26
   have hbbl:=hbbl.mono hG26
   refine .nil (Wp.one 7 (by kernel_rfl) ?_)
   refine bCe ([V 3#8,V 0#8,uv .u64 0#64,uv .u64 ep,uv .u64 0#64]) rfl .no Fx.bp161_0_3_4 (.cons (.u rfl) rfl (.cons (.u rfl) rfl (.cons (.u rfl) rfl .nil))) rfl (rfl) ?_
   refine .nil (Wp.one 8 (by kernel_rfl) ?_)
   refine bCe ((flM ep 0#64).cells) rfl .no Fx.bp163_0 (.cons (.u rfl) rfl .nil) rfl (rfl) ?_
   refine .nil (Wp.one 9 (by kernel_rfl) ?_)
   refine nc rfl .no (.u rfl) (.nil (Wp.one 10 (by kernel_rfl) ?_))
   refine fz rfl .no Fx.fo165_12 (.u rfl) (.nil (Wp.b1 11 (by kernel_rfl) ?_))
   refine stp rfl (.u rfl) (.u rfl) rfl Fx.sz163 .here (by show 74+7≤85; decide) (Fl.one _) (Db.p_mn _ (flM ep 0#64)) ?_
   refine .nil (Wp.last (by kernel_rfl) ?_)
   refine We.lpo () ?_ ?_ ?_ ?_ ?_
   ·exact (esD rfl (esD rfl eZ))
   ·exact (mS .here rfl (mS .here rfl (mS .here rfl (mS .here rfl (mS .here rfl mN)))))
   ·exact zro_lt _
   ·exact hG26
   trivial
  refine ka rfl (.inl rfl) Fx.go129 (Evc rfl Evn) (mtk1 .here) (dbnum_ok bx (Db.new dk tr root o ep held now) _ (by show (0#64:BitVec 64).toNat<1000; decide)) ?_
  rintro _ G26 μ26 hG26 ⟨rfl,rfl⟩
  have hK:=hK.mono hG26
  have hsRL:=hsRL.mono hG26
  have hbbl:=hbbl.mono hG26
  refine .nil (Wp.one 4 (by kernel_rfl) ?_)
  refine ld rfl .no Fx.ag23 (.u rfl) (fun _=>Rd.own .here rfl) ?_
  refine .nil (Wp.one 7 (by kernel_rfl) ?_)
  refine bCe ([V 3#8,V 0#8,uv .u64 0#64,uv .u64 ep,uv .u64 0#64]) rfl .no Fx.bp161_0_3_4 (.cons (.u rfl) rfl (.cons (.u rfl) rfl (.cons (.u rfl) rfl .nil))) rfl (rfl) ?_
  refine .nil (Wp.one 8 (by kernel_rfl) ?_)
  refine bCe ((flM ep 0#64).cells) rfl .no Fx.bp163_0 (.cons (.u rfl) rfl .nil) rfl (rfl) ?_
  refine .nil (Wp.one 9 (by kernel_rfl) ?_)
  refine nc rfl .no (.u rfl) (.nil (Wp.one 10 (by kernel_rfl) ?_))
  refine fz rfl .no Fx.fo165_12 (.u rfl) (.nil (Wp.b1 11 (by kernel_rfl) ?_))
  refine stp rfl (.u rfl) (.u rfl) rfl Fx.sz163 .here (by show 74+7≤85; decide) (Fl.one _) (Db.p_mn _ (flM ep 0#64)) ?_
  refine .nil (Wp.last (by kernel_rfl) ?_)
  refine We.lpo () ?_ ?_ ?_ ?_ ?_
  ·exact (esD rfl (esD rfl eZ))
  ·exact (mS .here rfl (mS .here rfl (mS .here rfl (mS .here rfl (mS .here rfl mN)))))
  ·exact zro_lt _
  ·exact hG26
  trivial
 intro _u Glj2 hGlj2 hFj2
 have hK:=hK.mono hGlj2
 have hsRL:=hsRL.mono hGlj2
 have hbbl:=hbbl.mono hGlj2
 refine .code (.seq ?_)
 refine Wk.jn (α:=Unit) (fun _u=>[]) (fun _u=>[.blk bx (cl (Db.cells (Db.d2 dk tr root o ep held now)) 165)]) (fun _u Gl=>True) [(0,true,_),(2,true,_)] [_,_,_,_]
  (esD rfl (esD rfl eZ)) (mS tk1 rfl (mS tk1 rfl (mS tk1 rfl (mS tk1 rfl mN)))) ?_ ?_
 ·refine Wk.mixp ⟨true,false⟩ Fx.mix (by kernel_rfl) ?_
  refine Wp.one 0 (by kernel_rfl) ?_
  refine mV rfl rfl (.nil (Wp.one 1 (by kernel_rfl) ?_))
  refine mV rfl rfl (.nil (Wp.one 2 (by kernel_rfl) ?_))
  refine nc rfl .no (.u rfl) (.nil (Wp.one 3 (by kernel_rfl) ?_))
  refine fz rfl .no Fx.fo165_4 (.u rfl) (.nil (Wp.one 5 (by kernel_rfl) ?_))
  refine mV rfl rfl (.nil (Wp.b2 4 6 (by kernel_rfl) ?_ ?_))
  ·refine ld rfl .no Fx.ag23 (.u rfl) (fun _=>Rd.own .here rfl) ?_
   refine .nil (Wp.b1 6 (by kernel_rfl) ?_)
   refine ka rfl (.inl rfl) Fx.go129 (Evc rfl Evn) (mtk1 .here) (dbnum_ok bx (Db.d1 dk tr root o ep held now) _ (by show (1#64:BitVec 64).toNat<1000; decide)) ?_
   rintro _ G37 μ37 hG37 ⟨rfl,rfl⟩
   have hK:=hK.mono hG37
   have hsRL:=hsRL.mono hG37
   have hbbl:=hbbl.mono hG37
   refine .nil (Wp.one 7 (by kernel_rfl) ?_)
   refine bCe ([V 1#8,V 0#8,uv .u64 0#64,uv .u64 ep,uv .u64 1#64]) rfl .no Fx.bp161_0_3_4 (.cons (.u rfl) rfl (.cons (.u rfl) rfl (.cons (.u rfl) rfl .nil))) rfl (rfl) ?_
   refine .nil (Wp.one 8 (by kernel_rfl) ?_)
   refine bCe ((flL ep 0#64).cells) rfl .no Fx.bp163_0 (.cons (.u rfl) rfl .nil) rfl (rfl) ?_
   refine .nil (Wp.one 9 (by kernel_rfl) ?_)
   refine nc rfl .no (.u rfl) (.nil (Wp.one 10 (by kernel_rfl) ?_))
   refine fz rfl .no Fx.fo165_10 (.u rfl) (.nil (Wp.b1 11 (by kernel_rfl) ?_))
   refine stp rfl (.u rfl) (.u rfl) rfl Fx.sz163 .here (by show 60+7≤85; decide) (Fl.one _) (Db.p_lg _ (flL ep 0#64)) ?_
   refine .nil (Wp.last (by kernel_rfl) ?_)
   refine We.lpo () ?_ ?_ ?_ ?_ ?_
   ·exact (esD rfl (esD rfl eZ))
   ·exact (mS .here rfl (mS .here rfl (mS .here rfl (mS .here rfl (mS .here rfl mN)))))
   ·exact zro_lt _
   ·exact hG37
   trivial
  refine ka rfl (.inl rfl) Fx.go129 (Evc rfl Evn) (mtk1 .here) (dbnum_ok bx (Db.d1 dk tr root o ep held now) _ (by show (1#64:BitVec 64).toNat<1000; decide)) ?_
  rintro _ G37 μ37 hG37 ⟨rfl,rfl⟩
  have hK:=hK.mono hG37
  have hsRL:=hsRL.mono hG37
  have hbbl:=hbbl.mono hG37
  refine .nil (Wp.one 4 (by kernel_rfl) ?_)
  refine ld rfl .no Fx.ag23 (.u rfl) (fun _=>Rd.own .here rfl) ?_
  refine .nil (Wp.one 7 (by kernel_rfl) ?_)
  refine bCe ([V 1#8,V 0#8,uv .u64 0#64,uv .u64 ep,uv .u64 1#64]) rfl .no Fx.bp161_0_3_4 (.cons (.u rfl) rfl (.cons (.u rfl) rfl (.cons (.u rfl) rfl .nil))) rfl (rfl) ?_
  refine .nil (Wp.one 8 (by kernel_rfl) ?_)
  refine bCe ((flL ep 0#64).cells) rfl .no Fx.bp163_0 (.cons (.u rfl) rfl .nil) rfl (rfl) ?_
  refine .nil (Wp.one 9 (by kernel_rfl) ?_)
  refine nc rfl .no (.u rfl) (.nil (Wp.one 10 (by kernel_rfl) ?_))
  refine fz rfl .no Fx.fo165_10 (.u rfl) (.nil (Wp.b1 11 (by kernel_rfl) ?_))
  refine stp rfl (.u rfl) (.u rfl) rfl Fx.sz163 .here (by show 60+7≤85; decide) (Fl.one _) (Db.p_lg _ (flL ep 0#64)) ?_
  refine .nil (Wp.last (by kernel_rfl) ?_)
  refine We.lpo () ?_ ?_ ?_ ?_ ?_
  ·exact (esD rfl (esD rfl eZ))
  ·exact (mS .here rfl (mS .here rfl (mS .here rfl (mS .here rfl (mS .here rfl mN)))))
  ·exact zro_lt _
  ·exact hG37
  trivial
 intro _u Glj3 hGlj3 hFj3
 have hK:=hK.mono hGlj3
 have hsRL:=hsRL.mono hGlj3
 have hbbl:=hbbl.mono hGlj3
 refine .code (.seq (Wk.draw (mc:=⟨false,false⟩) [0,1,2,3,4,5,6,7,8,9,10,11,12,13,14,15,16,17,18,19,20,21] Fx.mix (by kernel_rfl) ?_))
 refine mV rfl rfl (nc rfl .no (.u rfl) (fz rfl .no Fx.fo165_10 (.u rfl) (fa rfl .no Fx.fo163_0 (.u rfl) (fa rfl .no Fx.fo161_4 (.u rfl) (ld rfl .no Fx.ag23 (.u rfl) (fun _=>Rd.own .here rfl) ?_)))))
 refine mV rfl rfl (nc rfl .no (.u rfl) (fz rfl .no Fx.fo165_7 (.u rfl) (ld rfl .no Fx.ag23 (.u rfl) (fun _=>Rd.own .here rfl) ?_)))
 refine mV rfl rfl (nc rfl .no (.u rfl) (fz rfl .no Fx.fo165_7 (.u rfl) (ld rfl .no Fx.ag23 (.u rfl) (fun _=>Rd.own .here rfl) ?_)))
 refine mV rfl rfl (nc rfl .no (.u rfl) (fz rfl .no Fx.fo165_5 (.u rfl) (fa rfl .no Fx.fo159_5 (.u rfl) (lA rfl .no Fx.ag157 (.u rfl) (fun _=>RdN.part (n:=5) (cs':=(List.range 5).map (fun _=>.int .u64 0)) .here (rfl)) (fun _=>rfl) (bCe ((edF 1 0).cells ⟨none,0⟩ ⟨none,0⟩) rfl .no Fx.bp202_0_2_3_4 (.cons (.u rfl) rfl (.cons (.u rfl) rfl (.cons (.u rfl) rfl (.cons (.u rfl) rfl .nil)))) rfl (rfl) ?_)))))
 refine al rfl Fx.zq202 ?_; intro b3
 refine sw rfl (.u rfl) (.u rfl) rfl Fx.sz202 .here (by first|exact qE|exact qL|rfl) (Edit.one') ?_
 refine .nil (.code (.seq (.seq (rq6 rfl rfl (mV rfl rfl (nc rfl .no (.u rfl) (fz rfl .no Fx.fo165_5 (.u rfl) (fa rfl .no Fx.fo159_0 (.u rfl) (lA rfl .no Fx.ag156 (.u rfl) (fun _=>RdN.part (n:=5) (cs':=(List.range 5).map (fun _=>.slice none 0 0)) tk1 (rfl)) (fun _=>rfl) ?_)))))))))
 refine mV rfl rfl (.nil (.code (.block ?_)))
 refine Wk.lop (α:=Nat) (fun k=>[(67,true,.int .i64 (k:Int))]) (fun k=>[.blk b3 (cl ((edF 1 0).cells ⟨none,0⟩ ⟨none,0⟩) 202)])
  (fun k Gl=>(k≤5)) (fun k=>5-k) 0 [(0,true,_),(2,true,_),(3,true,_),(66,true,_)] [_,_,_,_,_]
  (esC rfl (by first|rfl|exact evi (by omega)) (esD rfl (esD rfl (esD rfl (esD rfl eZ)))))
  (mS .here rfl (mS .here rfl (mS .here rfl (mS .here rfl (mS .here rfl (mS .here rfl mN)))))) ?_ ?_
 ·(try dsimp only)<;>(first|omega|rfl|assumption|(simp; done))
 intro k N0 Gl0 hN0 hGl0 hF0
 try dsimp only at hF0 hN0 ⊢
 have hk:=hF0
 have hK:=hK.mono hGl0
 have hsRL:=hsRL.mono hGl0
 have hbbl:=hbbl.mono hGl0
 refine .seq (rq1 rfl rfl (cp rfl .no (.u rfl) (.u rfl) rfl (.nil (.code (.seq (.cond rfl (fun c1=>?_) (fun c1=>?_)))))))
 ·have c1k:=c1
  try simp only [qcA,qcC,qcB] at c1
  refine .skip (.code (.seq (.block (.seq (rq2 rfl rfl (ix rfl .no Fx.ar156 Fx.ag155 (.u rfl) (.u rfl) (fun _=>by omega) (fun _=>by omega) (fun _=>nil5 (by omega)) ?_))))))
  refine aS rfl rfl (.nil (.code (rq6 rfl rfl (fz rfl .no Fx.fo202_5 (.u rfl) (ld rfl .no Fx.ag155 (.u rfl) (fun _=>Rd.own .here rfl) ?_)))))
  refine mV rfl rfl (apZ rfl Fx.se155 (.u rfl) (.u rfl) ?_)
  refine fz rfl .no Fx.fo202_5 (.u rfl) (s1 rfl (.u rfl) (.u rfl) rfl Fx.sz155 .here (by first|decide | (show _<85; decide)) (edF_set) ?_)
  refine .nil (.blk (.code (rq2 rfl rfl (arn (((k+1):Nat):Int) rfl .no (.u rfl) (.u rfl) rfl (fun _=>by omega) (fun _=>wrap_i64 (by omega) (by omega)) ?_))))
  refine mV rfl rfl (.nil (We.lpo (k+1) ?_ ?_ ?_ ?_ ?_))
  ·exact (esC rfl (by first|rfl|exact evi (by omega)) (esD rfl (esD rfl (esD rfl (esD rfl eZ)))))
  ·exact (mS .here rfl (mS .here rfl (mS .here rfl (mS .here rfl (mS .here rfl (mS .here rfl mN))))))
  ·first|omega|(dsimp only; omega)
  ·exact hGl0
  (try dsimp only)<;>(first|omega|rfl|assumption|(simp; done))
 have c1k:=c1
 try simp only [qcA,qcC,qcB] at c1
 refine .exit (.xcode (.xlp (.xblk (.code (.seq (Wk.draw (mc:=⟨false,false⟩) [0,1,2,3,4,5,6,7,8,9,10,11] Fx.mix (by kernel_rfl) ?_))))))
 refine fz rfl .no Fx.fo202_5 (.u rfl) (ld rfl .no Fx.ag155 (.u rfl) (fun _=>Rd.own .here rfl) ?_)
 refine mV rfl rfl (fz rfl .no Fx.fo231_1 (.u rfl) (ld rfl .no Fx.ag153 (.u rfl) (fun _=>Rd.own tk4 rfl) ?_))
 refine kv rfl .no Fx.go104 (Evc rfl Evn) (fun _=>lAll0_ok bl hRL [Nd.z] _ (fun _=>0) _ hbbl hsRL wayZ rfl (by decide)) ?_
 refine kv rfl .no Fx.go132 (Evc rfl (Evc rfl (Evc rfl Evn))) (fun _=>keep0_ok _) ?_
 refine kv rfl .no Fx.go131 (Evc rfl (Evc rfl Evn)) (fun _=>split0_ok _ _) ?_
 refine kv rfl .no Fx.go130 (Evc rfl (Evc rfl (Evc rfl Evn))) (fun _=>tables0_ok _ 0 _) ?_
 refine apZ rfl Fx.se155 (.u rfl) (.u rfl) ?_
 refine fz rfl .no Fx.fo202_5 (.u rfl) (s1 rfl (.u rfl) (.u rfl) rfl Fx.sz155 .here (by first|decide | (show _<85; decide)) (edF_set) ?_)
 refine .nil (.code (.seq (rq6 rfl rfl (mV rfl rfl (nc rfl .no (.u rfl) (fz rfl .no Fx.fo165_6 (.u rfl) (ld rfl .no Fx.ag23 (.u rfl) (fun _=>Rd.own tk1 rfl) ?_)))))))
 refine fz rfl .no Fx.fo202_1 (.u rfl) (s1 rfl (.u rfl) (.u rfl) rfl Fx.sz23 .here (by first|decide | (show _<85; decide)) (edF_nx) ?_)
 refine .nil (.code (.seq (Wk.draw (mc:=⟨false,false⟩) [0,1,2,3,4,5,6,7,8,9,10,11,12,15,16,13,14,17,18,19,20,21,22,23,24,25] Fx.mix (by kernel_rfl) ?_)))
 refine mV rfl rfl (nc rfl .no (.u rfl) (fz rfl .no Fx.fo165_2 (.u rfl) (lA rfl .no Fx.ag34 (.u rfl) (fun _=>RdN.part (n:=32) (cs':=ba 32 root) tk1 (rfl)) (fun _=>(ba_len _ _)) ?_)))
 refine mV rfl rfl (nc rfl .no (.u rfl) (fz rfl .no Fx.fo165_12 (.u rfl) (fa rfl .no Fx.fo163_0 (.u rfl) (lA rfl .no Fx.ag161 (.u rfl) (fun _=>RdN.part (n:=5) (cs':=[V 3#8,V 0#8,uv .u64 0#64,uv .u64 ep,uv .u64 0#64]) tk1 (rfl)) (fun _=>rfl) ?_))))
 refine mV rfl rfl (nc rfl .no (.u rfl) (fz rfl .no Fx.fo165_1 (.u rfl) (ld rfl .no Fx.ag50 (.u rfl) (fun _=>Rd.own tk1 rfl) ?_)))
 refine bCe (State.zero.cells hd0) rfl .no Fx.bp159_ .nil rfl (rfl) (lA rfl .no Fx.ag202 (.u rfl) (fun _=>RdN.part (n:=11) (cs':=(edF 1 2).cells ⟨none,0⟩ ⟨none,0⟩) .here (rfl)) (fun _=>(by first|exact qE|exact qL|rfl)) ?_)
 refine kp rfl .no Fx.go134 (Evc rfl Evn) (Gp.add tk5 Gp.nil) (fun _ hle hq=>marks_ok tr 0#64 o1 _ ⟨PM.add_same _ _ _⟩) ?_
 refine bw (k:=.u64) (b:=1#64) rfl .no rfl (.u rfl) (.u rfl) rfl (kc rfl Fx.go133 (Evc rfl (Evc rfl (Evc rfl (Evc rfl (Evc rfl (Evc rfl Evn)))))) (mLayF_ok root ⟨3#8,0#8,0#64,ep,0#64⟩ 0#64 (0#64+1#64) 1 2 _ u64_1 u64_2 (by decide) hK) ?_)
 rintro _ G110 μ110 hG110 ⟨vL,LL,lLL,rfl,rfl⟩
 refine mV rfl rfl (ex rfl .no (.u rfl) rfl (ex rfl .no (.u rfl) rfl (ex rfl .no (.u rfl) rfl ?_)))
 refine al rfl Fx.zq159 ?_; intro b7
 refine aS rfl rfl (sw rfl (.u rfl) (.u rfl) rfl Fx.sz159 .here (by first|exact qE|exact qL|rfl) (State.one') ?_)
 refine aS rfl rfl (.nil (.code (.seq (.seq (rq2 rfl rfl (mV rfl rfl (cp rfl .no (.u rfl) (.u rfl) rfl (.nil (.code (.cond rfl (fun c2=>?_) (fun c2=>?_)))))))))))
 ·have c2k:=c2
  exact absurd c2 (by decide)
 have c2k:=c2
 try simp only [qcA,qcC,qcB] at c2
 refine .skip (.code (.seq (rq2 rfl rfl (mV rfl rfl (kv rfl .no Fx.go135 (Evc rfl Evn) (fun _=>must_ok _) ?_)))))
 refine .nil (.code (.seq ?_))
 refine Wk.jn (α:=List Fi) (fun F1=>[]) (fun F1=>[.blk dk (cl (dkC bm room (2)) 118),.blk bm (mO ((F1).map Fi.fe) (1))]) (fun F1 Gl=>(DkR F1 1)∧(F1.map Fi.nm=[nmB 3 0])∧(szF F1≤800)) [(0,true,_),(3,true,_),(7,true,_)] [_,_,_,_,_]
  (esD rfl (esD rfl (esD rfl eZ))) (mS .here rfl (mS tk1 rfl (mS tk1 rfl (mS tk3 rfl (mS tk3 rfl mN))))) ?_ ?_
 ·refine wk_rs tk1 ?_; intro sRM bbRM evRM lcRM oaRM; subst evRM
  refine Wk.mixp ⟨true,false⟩ Fx.mix (by kernel_rfl) ?_
  refine Wp.one 0 (by kernel_rfl) ?_
  refine mV rfl rfl (.nil (Wp.one 1 (by kernel_rfl) ?_))
  refine mV rfl rfl (.nil (Wp.one 2 (by kernel_rfl) ?_))
  refine nc rfl .no (.u rfl) (.nil (Wp.one 3 (by kernel_rfl) ?_))
  refine fz rfl .no Fx.fo165_12 (.u rfl) (.nil (Wp.one 5 (by kernel_rfl) ?_))
  refine mV rfl rfl (.nil (Wp.one 6 (by kernel_rfl) ?_))
  refine nc rfl .no (.u rfl) (.nil (Wp.one 7 (by kernel_rfl) ?_))
  refine fz rfl .no Fx.fo165_12 (.u rfl) (.nil (Wp.one 8 (by kernel_rfl) ?_))
  refine fa rfl .no Fx.fo163_0 (.u rfl) (.nil (Wp.one 11 (by kernel_rfl) ?_))
  refine mV rfl rfl (.nil (Wp.b2 4 9 (by kernel_rfl) ?_ ?_))
  ·refine kp rfl .no Fx.go137 (Evc rfl Evn) (Gp.add tk3 Gp.nil) (fun _ hle hq=>called_ok bx 74 (flM ep 0#64) _ (PB.rdn (m:=7) ⟨PM.add_same _ _ _⟩ rfl) (by show (0#64:BitVec 64).toNat<10; decide)) ?_
   refine .nil (Wp.one 9 (by kernel_rfl) ?_)
   refine lA rfl .no Fx.ag161 (.u rfl) (fun _=>RdN.part (n:=5) (cs':=[V 3#8,V 0#8,uv .u64 0#64,uv .u64 ep,uv .u64 0#64]) tk3 (rfl)) (fun _=>rfl) ?_
   refine .nil (Wp.b1 10 (by kernel_rfl) ?_)
   refine kc rfl Fx.go138 (Evc rfl Evn) (Ct.rowc (nLay_ok ⟨3#8,0#8,0#64,ep,0#64⟩ _)) ?_
   rintro v128 G128 μ128 hG128 ⟨L128,ov128,eL128,rfl⟩
   refine .nil (Wp.b1 12 (by kernel_rfl) ?_)
   refine apY rfl Fx.se25 Fx.zv5 (.u rfl) (.u rfl) .here (Sc.rowS tk2 oaRM) (by rw [eL128,head_len]; omega) ?_
   intro v130 L130 ov130 eL130
   have lL130:L130.length=L128.length+LL.length:=by rw [eL130,List.length_append]
   refine .nil (Wp.b1 13 (by kernel_rfl) ?_)
   refine ka rfl (.inl rfl) Fx.go136 (Evc rfl (Evc rfl (Evc rfl Evn))) (mtq4 tk4 .here tk3 tk3) (dbwriteR_ok bx bm room 0 0 (Db.d2 dk tr root o ep held now) [] _ DkR0 (by decide) hr9 (nmB 3 0) v130 L130 nm_good3 rfl (by have q9:L128.length=30:=(by rw [eL128,head_len]); omega) (by have q9:L128.length=30:=(by rw [eL128,head_len]); show _+0≤_; omega) (by decide)) ?_
   rintro _ G131 μ131 hG131 ⟨ν5,rfl,F1,hD1,hn1,hz1,rfl,rfl⟩
   refine .nil (Wp.last (by kernel_rfl) ?_)
   refine We.lpo F1 ?_ ?_ ?_ ?_ ?_
   ·exact (esD rfl (esD rfl (esD rfl eZ)))
   ·exact (mS tk1 rfl (mS tk1 rfl (mS tk1 rfl (mS tk2 rfl (mS .here rfl (mS tk1 rfl (mS tk1 rfl mN)))))))
   ·exact zro_lt _
   ·exact (hG128).trans hG131
   refine ⟨?_,?_,?_⟩
   ·(try dsimp only)<;>(exact hD1)
   ·(try dsimp only)<;>(exact hn1)
   (try dsimp only)<;>(have q8:szF []=0:=rfl; have q9:L128.length=30:=(by rw [eL128,head_len]); omega)
  refine lA rfl .no Fx.ag161 (.u rfl) (fun _=>RdN.part (n:=5) (cs':=[V 3#8,V 0#8,uv .u64 0#64,uv .u64 ep,uv .u64 0#64]) tk3 (rfl)) (fun _=>rfl) ?_
  refine .nil (Wp.b1 4 (by kernel_rfl) ?_)
  refine kp rfl .no Fx.go137 (Evc rfl Evn) (Gp.add tk3 Gp.nil) (fun _ hle hq=>called_ok bx 74 (flM ep 0#64) _ (PB.rdn (m:=7) ⟨PM.add_same _ _ _⟩ rfl) (by show (0#64:BitVec 64).toNat<10; decide)) ?_
  refine .nil (Wp.b1 10 (by kernel_rfl) ?_)
  refine kc rfl Fx.go138 (Evc rfl Evn) (Ct.rowc (nLay_ok ⟨3#8,0#8,0#64,ep,0#64⟩ _)) ?_
  rintro v128 G128 μ128 hG128 ⟨L128,ov128,eL128,rfl⟩
  refine .nil (Wp.b1 12 (by kernel_rfl) ?_)
  refine apY rfl Fx.se25 Fx.zv5 (.u rfl) (.u rfl) .here (Sc.rowS tk2 oaRM) (by rw [eL128,head_len]; omega) ?_
  intro v130 L130 ov130 eL130
  have lL130:L130.length=L128.length+LL.length:=by rw [eL130,List.length_append]
  refine .nil (Wp.b1 13 (by kernel_rfl) ?_)
  refine ka rfl (.inl rfl) Fx.go136 (Evc rfl (Evc rfl (Evc rfl Evn))) (mtq4 tk4 .here tk3 tk3) (dbwriteR_ok bx bm room 0 0 (Db.d2 dk tr root o ep held now) [] _ DkR0 (by decide) hr9 (nmB 3 0) v130 L130 nm_good3 rfl (by have q9:L128.length=30:=(by rw [eL128,head_len]); omega) (by have q9:L128.length=30:=(by rw [eL128,head_len]); show _+0≤_; omega) (by decide)) ?_
  rintro _ G131 μ131 hG131 ⟨ν5,rfl,F1,hD1,hn1,hz1,rfl,rfl⟩
  refine .nil (Wp.last (by kernel_rfl) ?_)
  refine We.lpo F1 ?_ ?_ ?_ ?_ ?_
  ·exact (esD rfl (esD rfl (esD rfl eZ)))
  ·exact (mS tk1 rfl (mS tk1 rfl (mS tk1 rfl (mS tk2 rfl (mS .here rfl (mS tk1 rfl (mS tk1 rfl mN)))))))
  ·exact zro_lt _
  ·exact (hG128).trans hG131
  refine ⟨?_,?_,?_⟩
  ·(try dsimp only)<;>(exact hD1)
  ·(try dsimp only)<;>(exact hn1)
  (try dsimp only)<;>(have q8:szF []=0:=rfl; have q9:L128.length=30:=(by rw [eL128,head_len]); omega)
 intro F1 Glj16 hGlj16 hFj16
 obtain ⟨hD1,hn1,hz1⟩:=hFj16
 refine .code (.seq (rq4 rfl rfl (kv rfl .no Fx.go102 (Evc rfl (Evc rfl Evn)) (fun _=>name_ok 5#8 0#64 _ (by decide)) ?_)))
 refine kv rfl .no Fx.go102 (Evc rfl (Evc rfl Evn)) (fun _=>name_ok 4#8 0#64 _ (by decide)) ?_
 refine aS rfl rfl (aS rfl rfl (.nil (.code (.seq (rq8 rfl rfl (mV rfl rfl (mV rfl rfl (mV rfl rfl (nc rfl .no (.u rfl) (fz rfl .no Fx.fo165_12 (.u rfl) (kp rfl .no Fx.go137 (Evc rfl Evn) (Gp.add tk4 Gp.nil) (fun _ hle hq=>called_ok bx 74 (flM ep 0#64) _ (PB.rdn (m:=7) ⟨PM.add_same _ _ _⟩ rfl) (by show (0#64:BitVec 64).toNat<10; decide)) ?_)))))))))))
 refine cvS rfl rfl FxGrBa.sb9_25 (.u rfl) ?_; intro G140 h140 hG140 hs140
 refine ka rfl (.inr rfl) Fx.go136 (Evc rfl (Evc rfl (Evc rfl Evn))) (mtk3 tk4 .here .here) (lend1 fun G1 hle1 h1=>dbwrite_ok bx bm room 2 1 (Db.d2 dk tr root o ep held now) F1 G1 h1 hD1 (by decide) hr9 (nmB 5 0) h140 (yb (nmB 3 0)) (hs140.mono hle1) nm_good5 (fget_nil (by rw [hn1]; exact nm_ne35)) (by rw [yb_len,sz3]; decide) (by rw [yb_len,sz3]; omega) (by have:=congrArg List.length hn1; simp at this; omega)) ?_
 rintro _ G141 μ141 hG141 ⟨ν6,rfl,F2,hD2,hn2,hz2,rfl,rfl⟩
 rw [yb_len,sz3] at hz2; rw [hn1] at hn2
 refine .nil (.code (.seq ?_))
 obtain ⟨f2,hf2⟩:=fget_has (F:=F2) (nm:=nmB 5 0) (by rw [hn2]; exact List.mem_cons_of_mem _ (List.mem_cons_self ..))
 have hc2:F2.length=2:=by have:=congrArg List.length hn2; simpa using this
 have hab2:fget (nmB 4 0) (fdel (nmB 5 0) F2)=none:=fget_nil (by rw [fdel_er,hn2]; show nmB 4 0∉rmv (nmB 5 0) [nmB 3 0,nmB 5 0]; rw [rmv_MT]; exact nm_ne34)
 refine rq8 rfl rfl (mV rfl rfl (nc rfl .no (.u rfl) (fz rfl .no Fx.fo165_0 (.u rfl) (ld rfl .no Fx.ag48 (.u rfl) (fun _=>Rd.own .here rfl) ?_))))
 refine mV rfl rfl (mV rfl rfl (ka rfl (.inr rfl) Fx.go139 (Evc rfl (Evc rfl (Evc rfl Evn))) (mtk2 tk1 tk1) (dRen2_ok dk bm room 4 2 F2 _ hD2 (by decide) hr9 (nmB 5 0) (nmB 4 0) f2 nm_good5 nm_good4 hf2 hab2 (by omega)) ?_))
 rintro _ G148 μ148 hG148 ⟨F3,hD3,hn3,hz3,rfl,rfl⟩
 rw [hn2] at hn3; have hn3:=hn3.trans (congrArg (·++[nmB 4 0]) rmv_MT)
 refine kv rfl .no Fx.go135 (Evc rfl Evn) (fun _=>must_ok _) ?_
 refine .nil (.code (.seq (rq2 rfl rfl (mV rfl rfl (ka rfl (.inr rfl) Fx.go140 (Evc rfl Evn) (mtk2 tk2 tk5) (lend1 fun G1 hle1 h1=>dmark_ok bx tr (Db.d2 dk tr root o ep held now) 0#64 o1 G1 h1 rfl (by decide)) ?_)))))
 rintro _ G151 μ151 hG151 ⟨ν7,rfl,rfl,rfl⟩
 refine .nil (.code (.seq ?_))
 refine wk_fz tk4 (keys_k .here rfl (keys_k tk1 rfl (keys_k tk1 rfl (keys_k .here rfl (keys_0))))) ?_; intro Gfb7 hleb7 hbb7
 refine Wk.mixp ⟨false,false⟩ Fx.mix (by kernel_rfl) ?_
 refine Wp.one 0 (by kernel_rfl) ?_
 refine mV rfl rfl (.nil (Wp.one 1 (by kernel_rfl) ?_))
 refine mV rfl rfl (.nil (Wp.one 3 (by kernel_rfl) ?_))
 refine nc rfl .no (.u rfl) (.nil (Wp.one 4 (by kernel_rfl) ?_))
 refine fz rfl .no Fx.fo165_12 (.u rfl) (.nil (Wp.one 5 (by kernel_rfl) ?_))
 refine fa rfl .no Fx.fo163_1 (.u rfl) (.nil (Wp.pr 2 (by kernel_rfl) ?_))
 refine lA rfl .no Fx.ag159 (.u rfl) (fun _=>(hbb7.rdn (m:=14) (cs':=(stF 1 2).cells hd0) (rfl)).rd) (fun _=>(by first|exact qE|exact qL|rfl)) ?_
 refine .nil ⟨⟨rfl,rfl⟩,?_⟩
 refine Wp.b1 6 (by kernel_rfl) ?_
 refine s1 rfl (.u rfl) (.u rfl) rfl Fx.sz23 .here (by first|decide | (show _<85; decide)) (Db.p_mr _ 1#64) ?_
 refine .nil (Wp.one 7 (by kernel_rfl) ?_)
 refine nc rfl .no (.u rfl) (.nil (Wp.one 8 (by kernel_rfl) ?_))
 refine fz rfl .no Fx.fo165_5 (.u rfl) (.nil (Wp.b1 9 (by kernel_rfl) ?_))
 refine stp rfl (.u rfl) (.u rfl) rfl Fx.sz159 .here (by show 42+14≤85; decide) (State.one') (Db.p_s _ (stF 1 2) hd0) ?_
 refine .nil (Wp.last (by kernel_rfl) ?_)
 refine .code (.seq (rq7 rfl rfl (mV rfl rfl (mV rfl rfl (nc rfl .no (.u rfl) (fz rfl .no Fx.fo165_12 (.u rfl) (kp rfl .no Fx.go137 (Evc rfl Evn) (Gp.add .here Gp.nil) (fun _ hle hq=>called_ok bx 74 (flM ep 1#64) _ (PB.rdn (m:=7) ⟨PM.add_same _ _ _⟩ rfl) (by show (0#64:BitVec 64).toNat<10; decide)) ?_)))))))
 refine Go.Tan.bN rfl FxGrQ.se97 FxGrQ.zv9 (Evp.cons (.u rfl) (Evp.cons (.u rfl) Evp.nil)) rfl (by decide) (by simp [Value.oneCell']) ?_; intro b165
 refine aS rfl rfl (.nil (.code (.seq (.seq (rq4 rfl rfl (fz rfl .no Fx.fo202_5 (.u rfl) (ld rfl .no Fx.ag155 (.u rfl) (fun _=>Rd.own tk5 rfl) ?_)))))))
 refine ln rfl .no Fx.sn155 (.u rfl) (mV rfl rfl (.nil (.code (.block ?_))))
 refine Wk.lop (α:=Nat) (fun k=>[(11,true,.slice (some ⟨b165,0,none⟩) 2 2),(169,true,.int .i64 (k:Int))]) (fun _=>[])
  (fun k Gl=>(k=0)) (fun k=>0) 0 [(0,true,_),(167,true,_),(168,true,_)] [_,_,_,_,_,_,_]
  (esD rfl (esC rfl (by first|rfl|exact evi (by omega)) (esD rfl (esD rfl (esD rfl eZ)))))
  (mS .here rfl (mS .here rfl (mS .here rfl (mS .here rfl (mS .here rfl (mS .here rfl (mS .here rfl mN))))))) ?_ ?_
 ·(try dsimp only)<;>(first|omega|rfl|assumption|(simp; done))
 intro k N1 Gl1 hN1 hGl1 hF1
 try dsimp only at hF1 hN1 ⊢
 have hk:=hF1
 refine .seq (rq1 rfl rfl (cp rfl .no (.u rfl) (.u rfl) rfl (.nil (.code (.seq (.cond rfl (fun c3=>?_) (fun c3=>?_)))))))
 ·have c3k:=c3
  subst hk; cases c3
 have c3k:=c3
 try simp only [qcA,qcC,qcB] at c3
 refine .exit (.xcode (.xlp (.xblk (.code (rq3 rfl rfl (mV rfl rfl (mV rfl rfl (ka rfl (.inr rfl) Fx.go128 (Evc rfl (Evc rfl Evn)) (mtq4 .here .here tk1 tk1) (Ct.give fun hle0=>lend3 fun G2 hle h1 h2 h3=>sweep_ok bx (Db.d3 dk tr root o ep held now) bm room 5 3 F3 G2 h1 h2 h3 hD3 ⟨some ⟨b165,0,none⟩,2⟩ [nmB 4 0,nmB 3 0] (SlR.ofBlk (hle _ _ (PM.add_same _ _ _)) (fun _ _=>rfl) (by decide)) (by decide) (fun f hf=>by have h9:f.nm∈F3.map Fi.nm:=List.mem_map.2 ⟨f,hf,rfl⟩; rw [hn3] at h9; simp at h9 ⊢; exact h9.symm)) ?_))))))))
 rintro _ G182 μ182 hG182 ⟨ν8,rfl,rfl,rfl⟩
 refine .nil (.nil (We.fin Tryz.results90 .nil (mS .here rfl (mS .here rfl (mS .here rfl (mS .here rfl mN)))) ?_))
 exact ⟨F3,hD3,hn3,by omega,rfl,rfl⟩
end Go.Proofs.YtoifkgkandfeiaaGreatDoor
namespace Go.Proofs.YtoifkgkandfeiaaGreatDoor
open Go.Tan Go.RowKit Go.Maps Go.Sort Go.Shelf
namespace FxGrBb
theorem if20:ifT Tryz.prog 20=true:=by kernel_rfl
theorem fo36_0:fOff Tryz.prog 36 0=some 0:=by kernel_rfl
theorem fo36_1:fOff Tryz.prog 36 1=some 1:=by kernel_rfl
theorem fo36_2:fOff Tryz.prog 36 2=some 2:=by kernel_rfl
theorem zr30:zrL Tryz.prog 30=some ([.int .i64 0]):=by kernel_rfl
end FxGrBb
namespace Fx
theorem fo38_0:fOff Tryz.prog 38 0=some 0:=by kernel_rfl
theorem go125:goFn Tryz.prog 125=true:=by kernel_rfl
theorem fo38_1:fOff Tryz.prog 38 1=some 1:=by kernel_rfl
theorem fo38_4:fOff Tryz.prog 38 4=some 4:=by kernel_rfl
theorem fo38_2:fOff Tryz.prog 38 2=some 2:=by kernel_rfl
theorem fo38_3:fOff Tryz.prog 38 3=some 3:=by kernel_rfl
theorem go89:goFn Tryz.prog 89=true:=by kernel_rfl
theorem go88:goFn Tryz.prog 88=true:=by kernel_rfl
theorem zr45:zrL Tryz.prog 45=some ([.pointer none]):=by kernel_rfl
theorem ag38:aggN Tryz.prog 38=some (some 7):=by kernel_rfl
theorem go84:goFn Tryz.prog 84=true:=by kernel_rfl
theorem go85:goFn Tryz.prog 85=true:=by kernel_rfl
theorem go86:goFn Tryz.prog 86=true:=by kernel_rfl
theorem bp165_0_1_2_3_4_9_13:bPl Tryz.prog 165 [0,1,2,3,4,9,13]=some ([.pointer none,.pointer none,.int .u8 0,.int .u8 0,.int .u8 0,.int .u8 0,.int .u8 0,.int .u8 0,.int .u8 0,.int .u8 0,.int .u8 0,.int .u8 0,.int .u8 0,.int .u8 0,.int .u8 0,.int .u8 0,.int .u8 0,.int .u8 0,.int .u8 0,.int .u8 0,.int .u8 0,.int .u8 0,.int .u8 0,.int .u8 0,.int .u8 0,.int .u8 0,.int .u8 0,.int .u8 0,.int .u8 0,.int .u8 0,.int .u8 0,.int .u8 0,.int .u8 0,.int .u8 0,.int .i64 0,.int .i64 0,.int .i64 0,.int .i64 0,.int .i64 0,.int .i64 0,.int .i64 0,.int .u64 0,.slice none 0 0,.slice none 0 0,.slice none 0 0,.slice none 0 0,.slice none 0 0,.int .u64 0,.int .u64 0,.int .u64 0,.int .u64 0,.int .u64 0,.int .u64 0,.int .u64 0,.int .u64 0,.int .u64 0,.int .u64 0,.int .u64 0,.int .u64 0,.map none,.int .u8 0,.int .u8 0,.int .u64 0,.int .u64 0,.int .u64 0,.int .u64 0,.bool false,.int .u8 0,.int .u8 0,.int .u64 0,.int .u64 0,.int .u64 0,.int .u64 0,.bool false,.int .u8 0,.int .u8 0,.int .u64 0,.int .u64 0,.int .u64 0,.int .u64 0,.bool false,.pointer none,.pointer none,.int .i64 0,.bool false],[(0,1),(1,1),(2,32),(34,7),(41,1),(59,1),(81,1)]):=by kernel_rfl
theorem go90:goFn Tryz.prog 90=true:=by kernel_rfl
theorem sz45:szT Tryz.prog 45=some 1:=by kernel_rfl
theorem ag45:aggN Tryz.prog 45=some none:=by kernel_rfl
end Fx
theorem guard_ret (w:World) (x y:Value):CallsD Tryz.prog 89 #[x,y] .returning w (fun e u' w'=>(∃ v,e=.returned v)∧u'=.returning∧w'=w):=by
 refine callsD_of_wpS Tryz.func89 rfl fun c₀ cs hu=>(wpS_seq (wpS_region ?_))
 have hr:recoverD (c₀ :: cs)=none:=by simp [recoverD,hu]
 rw [show Tryz.f89.ntmps=25 from rfl]
 simp only [wpOpsS,List.range,List.range.loop,Array.size,List.length,List.getElem?_toArray,List.getElem?_cons_zero,List.getElem?_cons_succ,Region.wanted,if_true]
 have e1:∀ (ρ:Operand→Value) (d:Option Nat) (t:TypeId) (p:String) (af:Array Edge),(execOp ρ ⟨d,.call { callee:=.builtin .recover,args:=#[],argTypes:=#[] },t,p,af,none⟩).run Tryz.prog w=.ok .recover w:=fun ρ d t p af=>by
  simp [execOp,resolve,invoke,builtin]
 simp only [e1,hr]
 simp [execOp,Oper.upon,Exit.thenS,Act.put,Act.eval]
 refine wpS_of_wp ?_
 refine wp_seq (wp_seq (wp_region ?_))
 have e2:(binOp .eql 20 .nilIface .nilIface).run Tryz.prog w=.ok (.bool true) w:=by
  have hu20:=ifT_some FxGrBb.if20
  obtain ⟨q,hq⟩:=hu20
  have e4:∀ d,(Op.equalIn (d+1) 20 .nilIface .nilIface).run Tryz.prog w=.ok true w:=fun d=>by
   unfold Op.equalIn
   simp only [Sem.run_bind,run_underlying hq,Result.andThen_ok,Sem.run_pure]
  obtain ⟨d,hd⟩ : ∃ d,Op.maxDepth=d+1:=Nat.exists_eq_succ_of_ne_zero (by decide)
  simp [binOp,Op.equal,hd,e4]
 have e3:∀ z,(eqGuard .eql 20 z (.const .nilIface) .nilIface .nilIface).run Tryz.prog w=.ok () w:=fun z=>by unfold eqGuard; simp
 simp [wpOps,Region.wanted,execOp,Oper.wp,Oper.upon,Exit.then,Act.put,Act.eval,List.range,List.range.loop,e2,e3]
 refine .inl (.inl (wp_cond_true (by simp [Act.eval]) (wp_ret ?_)))
 refine ⟨rfl,.returning,by rw [← hu],.tuple #[],?_,⟨_,rfl⟩,rfl,rfl⟩
 simp [results,Tryz.f89]
theorem open1_ret (w:World) (b c:Nat) (h:w.cell? ⟨b,0,none⟩=some (.int .i64 0)):CallsD Tryz.prog 88 #[.pointer (some ⟨b,0,none⟩),.pointer (some ⟨c,0,none⟩)] .returning w (fun e u' w'=>(∃ v,e=.returned v)∧u'=.returning∧w'=w):=by
 refine callsD_of_wpS Tryz.func88 rfl fun c₀ cs hu=>(wpS_of_wp ?_)
 rw [show Tryz.f88.ntmps=4 from rfl]
 refine wp_seq (wp_region ?_)
 have h1:(Instr.loadAt 30 (.pointer (some ⟨b,0,none⟩))).run Tryz.prog w=.ok (.int .i64 0) w:=by simp [Instr.loadAt,Instr.sureAddr,run_loadVar1 Fx.ag30 h]
 have h2:=run_cmp (P:=Tryz.prog) (op:=.neq) (k:=.i64) (a:=0) (b:=0) (r:=false) 30 rfl w
 simp [wpOps,Region.wanted,execOp,Oper.wp,Oper.upon,Exit.then,Act.put,Act.eval,List.range,List.range.loop,h1,h2,eqGuard_int]
 refine .inl (.inl (wp_cond_false (by simp [Act.eval]) (wp_skip ?_)))
 refine ⟨rfl,.returning,by rw [← hu],.tuple #[],?_,⟨_,rfl⟩,rfl,rfl⟩
 simp [results,Tryz.f88]
theorem within_ok (n m:Int) (G:PM):Ct Tryz.prog 125 ([.int .i64 n,.int .i64 m]:List Value).toArray G [] (fun _ μ' u=>μ'=[]∧u=.bool (within n m)):=by
 refine Ct.of Tryz.func125 rfl Tryz.ntmps125 rfl fun w0 hs0=>?_
 refine .seq (rq1 rfl rfl (aS rfl rfl (.nil (.code (.seq (rq8 rfl rfl (mV rfl rfl (cp rfl .no (.u rfl) (.u rfl) rfl (mV rfl rfl (mv rfl (.t rfl rfl) (.u rfl) (mv rfl (.t rfl rfl) (.u rfl) (cp rfl (.t rfl rfl) (.s rfl) (.s rfl) rfl (pkA rfl .no (.u rfl) (.s rfl) (aS rfl rfl (.nil (.code (.ret (We.fin0 Tryz.results125 (.tmp rfl .nil) ?_))))))))))))))))))
 exact ⟨rfl,rfl⟩
theorem oright_ok (o:Opts) (G:PM):Ct Tryz.prog 84 ([o.val]:List Value).toArray G [] (fun _ μ' u=>μ'=[]∧u=.bool (rightO o)):=by
 refine Ct.of Tryz.func84 rfl Tryz.ntmps84 rfl fun w0 hs0=>?_
 refine .seq (rq2 rfl rfl ?_)
 refine bx rfl (.u rfl) rfl ?_; intro b1
 refine aS rfl rfl (.nil (.code (.seq (Wk.rg [0,1,2,3,4,5,6,7,8,9,10,11,12,13,14] rfl rfl (fz rfl .no Fx.fo38_0 (.u rfl) (ld rfl .no Fx.ag3 (.u rfl) (fun _=>Rd.own .here rfl) ?_))))))
 refine kv rfl .no Fx.go125 (Evc rfl (Evc rfl Evn)) (fun _=>within_ok _ _ _) ?_
 refine mV rfl rfl (fz rfl (.t rfl rfl) Fx.fo38_1 (.u rfl) (ld rfl (.t rfl rfl) Fx.ag3 (.s rfl) (fun _=>Rd.own .here rfl) ?_))
 refine kv rfl (.t rfl rfl) Fx.go125 (Eva.cons (.s rfl) (Evc rfl Evn)) (fun hc=>within_ok _ _ _) ?_
 refine pkA rfl .no (.u rfl) (.s rfl) (mV rfl rfl (fz rfl (.t rfl rfl) Fx.fo38_4 (.u rfl) (fa rfl (.t rfl rfl) FxGrBb.fo36_0 (.s rfl) (ld rfl (.t rfl rfl) Fx.ag3 (.s rfl) (fun _=>Rd.own .here rfl) ?_))))
 refine kv rfl (.t rfl rfl) Fx.go125 (Eva.cons (.s rfl) (Evc rfl Evn)) (fun hc=>within_ok _ _ _) ?_
 refine pkA rfl .no (.u rfl) (.s rfl) (aS rfl rfl (.nil (.code (.seq (Wk.rg [0,1,2,3,4,5,6,7,8,9,10,11,12,13,14,15,16,17,18,19,20,21,22,23] rfl rfl (mV rfl rfl (mV rfl rfl (fz rfl (.t rfl rfl) Fx.fo38_2 (.u rfl) (ld rfl (.t rfl rfl) Fx.ag3 (.s rfl) (fun _=>Rd.own .here rfl) ?_)))))))))
 refine kv rfl (.t rfl rfl) Fx.go125 (Eva.cons (.s rfl) (Evc rfl Evn)) (fun hc=>within_ok _ _ _) ?_
 refine pkA rfl .no (.u rfl) (.s rfl) (mV rfl rfl (fz rfl (.t rfl rfl) Fx.fo38_3 (.u rfl) (ld rfl (.t rfl rfl) Fx.ag3 (.s rfl) (fun _=>Rd.own .here rfl) ?_)))
 refine kv rfl (.t rfl rfl) Fx.go125 (Eva.cons (.s rfl) (Evc rfl Evn)) (fun hc=>within_ok _ _ _) ?_
 refine pkA rfl .no (.u rfl) (.s rfl) (mV rfl rfl (fz rfl (.t rfl rfl) Fx.fo38_4 (.u rfl) (fa rfl (.t rfl rfl) FxGrBb.fo36_1 (.s rfl) (ld rfl (.t rfl rfl) Fx.ag3 (.s rfl) (fun _=>Rd.own .here rfl) ?_))))
 refine kv rfl (.t rfl rfl) Fx.go125 (Eva.cons (.s rfl) (Evc rfl Evn)) (fun hc=>within_ok _ _ _) ?_
 refine pkA rfl .no (.u rfl) (.s rfl) (mV rfl rfl (fz rfl (.t rfl rfl) Fx.fo38_4 (.u rfl) (fa rfl (.t rfl rfl) FxGrBb.fo36_2 (.s rfl) (ld rfl (.t rfl rfl) Fx.ag3 (.s rfl) (fun _=>Rd.own .here rfl) ?_))))
 refine kv rfl (.t rfl rfl) Fx.go125 (Eva.cons (.s rfl) (Evc rfl Evn)) (fun hc=>within_ok _ _ _) ?_
 refine pkA rfl .no (.u rfl) (.s rfl) (aS rfl rfl (.nil (.code (.ret (We.fin0 Tryz.results84 (.tmp rfl .nil) ?_)))))
 exact ⟨rfl,rfl⟩
set_option maxHeartbeats 1000000 in
theorem dOpen_ok (bd bm room bt:Nat) (root:Nat→Y) (o:Opts) (G:PM) (hO:rightO o=true) (hr:5000≤room) (hr9:room≤1000000000) (hK:RdNP G 6 0 (wa 64 kW)):Ct Tryz.prog 50 ([.pointer (some ⟨bd,0,none⟩),.pointer (some ⟨bt,0,none⟩),.agg (ba 32 root).toArray,o.val]:List Value).toArray G [.blk bd (cl (dkC bm room 0) 118),.blk bm (mO [] 0),.blk bt (cl [uv .u64 0#64,uv .u64 0#64] 87)] (fun _ μ' u=>∃ bx held now v F,v.oneCell'=true∧DkR F 3∧F.map Fi.nm=[nmB 3 0,nmB 4 0]∧szF F≤2000∧μ'=[.blk bx (cl (Db.cells (Db.d3 bd bt root o 1#64 held now)) 165),.blk bd (cl (dkC bm room 5) 118),.blk bm (mO (F.map Fi.fe) 3),.blk bt (cl [uv .u64 1#64,uv .u64 1#64] 87),.blk now (cl [v,.int .i64 ((0:Nat):Int)] 225),rS 16 Nd.cells v 249 [Nd.z],.mp held .u64 (fun _=>none)]∧u=.tuple #[pt bx,.int .i64 0]):=by
 refine Ct.of Tryz.func50 rfl Tryz.ntmps50 rfl fun w0 hs0=>?_
 refine .seq (rq4 rfl rfl ?_)
 refine bx rfl (.u rfl) rfl ?_; intro b6
 refine bx rfl (.u rfl) rfl ?_; intro b7
 refine al rfl Fx.zr45 ?_; intro b8
 refine al rfl FxGrBb.zr30 ?_; intro b9
 refine .nil (.code (.seq (.block (.seq (rq7 rfl rfl (mV rfl rfl (pe rfl .no Fx.pt48 (.u rfl) (.u rfl) ?_)))))))
 refine mV rfl rfl (mv rfl (.f rfl rfl) (.u rfl) (pe rfl (.f rfl rfl) Fx.pt50 (.s rfl) (.u rfl) ?_))
 refine pkO rfl .no (.u rfl) (.s rfl) (aS rfl rfl (.nil (.code (.cond rfl (fun c1=>?_) (fun c1=>?_)))))
 ·have c1k:=c1
  cases c1
 have c1k:=c1
 try simp only [qcA,qcC,qcB] at c1
 refine .seq (rq4 rfl rfl (lA rfl .no Fx.ag38 (.u rfl) (fun _=>RdN.part (n:=7) (cs':=o.cells) tk2 (rfl)) (fun _=>rfl) ?_))
 refine kv rfl .no Fx.go84 (Evc rfl Evn) (fun _=>oright_ok o _) ?_
 refine nt rfl .no (.u rfl) (aS rfl rfl (.nil (.code (.cond rfl (fun c2=>?_) (fun c2=>?_)))))
 ·have c2k:=c2
  rw [hO] at c2; cases c2
 have c2k:=c2
 try simp only [qcA,qcC,qcB] at c2
 refine .seq (rq3 rfl rfl (mV rfl rfl (kp rfl .no Fx.go85 (Evc rfl Evn) (Gp.add tk4 Gp.nil) (fun _ hle hq=>dead_ok bd bm room 0 0 [] _ ⟨PM.add_same _ _ _⟩) ?_)))
 refine aS rfl rfl (.nil (.code (.cond rfl (fun c3=>?_) (fun c3=>?_))))
 ·have c3k:=c3
  cases c3
 have c3k:=c3
 try simp only [qcA,qcC,qcB] at c3
 refine .skip (.blk (.code (.seq (rq7 rfl rfl (mV rfl rfl (ka rfl (.inr rfl) Fx.go86 (Evc rfl Evn) (mtk1 tk6) (topen_ok bt 0#64 0#64 _ (by decide)) ?_))))))
 rintro _ G29 μ29 hG29 ⟨rfl,rfl⟩
 have hK:=hK.mono hG29
 refine mV rfl rfl (ex rfl .no (.u rfl) rfl (ex rfl .no (.u rfl) rfl (aS rfl rfl (aS rfl rfl (.nil (.code (.seq (.seq (rq2 rfl rfl (mV rfl rfl (cp rfl .no (.u rfl) (.u rfl) rfl (.nil (.code (.cond rfl (fun c4=>?_) (fun c4=>?_)))))))))))))))
 ·have c4k:=c4
  exact absurd c4 (by decide)
 have c4k:=c4
 try simp only [qcA,qcC,qcB] at c4
 refine .skip (.code (.seq ?_))
 refine Wk.jn (α:=Nat×Nat×Nat×Value) (fun gh=>[(12,true,.pointer (some ⟨gh.1,0,none⟩))]) (fun gh=>[.blk gh.1 (cl (Db.cells (Db.new bd bt root o 1#64 gh.2.1 gh.2.2.1)) 165),.mp gh.2.1 .u64 (fun _=>none),.blk gh.2.2.1 (cl [gh.2.2.2,.int .i64 ((0:Nat):Int)] 225),rS 16 Nd.cells gh.2.2.2 249 [Nd.z]]) (fun gh Gl=>(gh.2.2.2.oneCell'=true)) [(8,true,_),(9,true,_)] [_,_,_,_,_]
  (esD rfl (esD rfl eZ)) (mS .here rfl (mS .here rfl (mS .here rfl (mS tk2 rfl (mS tk2 rfl mN))))) ?_ ?_
 ·refine wk_fz tk4 (keys_k tk4 rfl (keys_k tk4 rfl (keys_k .here rfl (keys_0)))) ?_; intro Gfb6 hleb6 hbb6
  have hK:=hK.mono hleb6
  refine wk_fz tk3 (keys_k tk3 rfl (keys_k tk3 rfl (keys_k .here rfl (keys_0)))) ?_; intro Gfb7 hleb7 hbb7
  have hK:=hK.mono hleb7
  have hbb6:=hbb6.mono hleb7
  refine Wk.mixp ⟨true,false⟩ Fx.mix (by kernel_rfl) ?_
  refine Wp.one 0 (by kernel_rfl) ?_
  refine mV rfl rfl (.nil (Wp.one 1 (by kernel_rfl) ?_))
  refine mV rfl rfl (.nil (Wp.one 4 (by kernel_rfl) ?_))
  refine mV rfl rfl (.nil (Wp.pr 2 (by kernel_rfl) ?_))
  refine lA rfl .no Fx.ag34 (.u rfl) (fun _=>(hbb6.rdn (m:=32) (cs':=ba 32 root) (rfl)).rd) (fun _=>(ba_len _ _)) ?_
  refine .nil ⟨⟨rfl,rfl⟩,?_⟩
  refine Wp.pr 3 (by kernel_rfl) ?_
  refine lA rfl .no Fx.ag38 (.u rfl) (fun _=>(hbb7.rdn (m:=7) (cs':=o.cells) (rfl)).rd) (fun _=>rfl) ?_
  refine .nil ⟨⟨rfl,rfl⟩,?_⟩
  refine Wp.b2 5 6 (by kernel_rfl) ?_ ?_
  ·refine mk rfl .u64 ?_; intro b40
   refine .nil (Wp.b1 6 (by kernel_rfl) ?_)
   refine kc rfl Fx.go87 Evn (lNew_ok _) ?_
   rintro _ G41 μ41 hG41 ⟨bl,vl,ol,rfl,rfl⟩
   have hK:=hK.mono hG41
   refine .nil (Wp.one 7 (by kernel_rfl) ?_)
   refine bCe ((Db.new bd bt root o (0#64+1#64) b40 bl).cells) rfl .no Fx.bp165_0_1_2_3_4_9_13 (.cons (.u rfl) rfl (.cons (.u rfl) rfl (.cons (.u rfl) rfl (.cons (.u rfl) rfl (.cons (.u rfl) rfl (.cons (.u rfl) rfl (.cons (.u rfl) rfl .nil))))))) rfl (rfl) (.nil (Wp.b1 8 (by kernel_rfl) ?_))
   refine bx rfl (.u rfl) rfl ?_; intro b43
   refine .nil (Wp.one 9 (by kernel_rfl) ?_)
   refine aS rfl rfl (.nil (Wp.last (by kernel_rfl) ?_))
   refine We.lpo (b43,b40,bl,vl) ?_ ?_ ?_ ?_ ?_
   ·exact (esD rfl (esD rfl (esD rfl eZ)))
   ·exact (mS .here rfl (mS tk2 rfl (mS .here rfl (mS .here rfl (mS .here rfl (mS .here rfl (mS .here rfl (mS .here rfl (mS .here rfl mN)))))))))
   ·exact zro_lt _
   ·exact ((hleb6).trans hleb7).trans hG41
   (try dsimp only)<;>(first|omega|rfl|assumption|(simp; done))
  refine kc rfl Fx.go87 Evn (lNew_ok _) ?_
  rintro _ G41 μ41 hG41 ⟨bl,vl,ol,rfl,rfl⟩
  have hK:=hK.mono hG41
  refine .nil (Wp.b1 5 (by kernel_rfl) ?_)
  refine mk rfl .u64 ?_; intro b40
  refine .nil (Wp.one 7 (by kernel_rfl) ?_)
  refine bCe ((Db.new bd bt root o (0#64+1#64) b40 bl).cells) rfl .no Fx.bp165_0_1_2_3_4_9_13 (.cons (.u rfl) rfl (.cons (.u rfl) rfl (.cons (.u rfl) rfl (.cons (.u rfl) rfl (.cons (.u rfl) rfl (.cons (.u rfl) rfl (.cons (.u rfl) rfl .nil))))))) rfl (rfl) (.nil (Wp.b1 8 (by kernel_rfl) ?_))
  refine bx rfl (.u rfl) rfl ?_; intro b43
  refine .nil (Wp.one 9 (by kernel_rfl) ?_)
  refine aS rfl rfl (.nil (Wp.last (by kernel_rfl) ?_))
  refine We.lpo (b43,b40,bl,vl) ?_ ?_ ?_ ?_ ?_
  ·exact (esD rfl (esD rfl (esD rfl eZ)))
  ·exact (mS .here rfl (mS .here rfl (mS .here rfl (mS .here rfl (mS .here rfl (mS .here rfl (mS .here rfl (mS .here rfl (mS .here rfl mN)))))))))
  ·exact zro_lt _
  ·exact ((hleb6).trans hleb7).trans hG41
  (try dsimp only)<;>(first|omega|rfl|assumption|(simp; done))
 intro gh Glj10 hGlj10 hFj10
 obtain ⟨b43,b40,bl,vl⟩:=gh; dsimp only at hFj10 ⊢
 have ol:=hFj10
 have hK:=hK.mono hGlj10
 refine .code (.seq (Wk.defers [0] 1 (DQ.d ⟨88,[],[.pointer (some ⟨b9,0,none⟩),.pointer (some ⟨b8,0,none⟩)]⟩) (fun _ _ _ _=>False) (fun _ _ _ _ _ _ hq=>hq.elim) rfl rfl ?_))
 refine mf (vf:=#[]) (vc:=[Value.pointer (some ⟨b9,0,none⟩),Value.pointer (some ⟨b8,0,none⟩)].toArray) rfl .no (fun a ha _=>by simp) (fun a ha _=>by simp [(Ev.u (c:=true) rfl:Ev _ true (.tmp 9) _).eval ha rfl,(Ev.u (c:=true) rfl:Ev _ true (.tmp 8) _).eval ha rfl]) ?_
 refine .nil ⟨DefOp.clo rfl rfl,?_⟩
 refine .code (.seq (Wk.defers [0] 1 (DQ.d ⟨89,[.pointer (some ⟨b43,0,none⟩),.pointer (some ⟨b9,0,none⟩)],[]⟩) (fun _ _ _ _=>False) (fun _ _ _ _ _ _ hq=>hq.elim) rfl rfl ?_))
 refine mV rfl rfl (.nil ⟨DefOp.fn rfl (Evc rfl (Evc rfl Evn)),?_⟩)
 refine .code (.seq (rq2 rfl rfl (mV rfl rfl (ka rfl (.inr rfl) Fx.go90 (Evc rfl Evn) (mtq4 .here tk6 tk6 tk3) (dbegin_ok b43 bm room bd bt b40 bl root o 1#64 (0#64+1#64) _ hr hr9 hK) ?_))))
 rintro _ G47 μ47 hG47 ⟨F,hD,hn,hz,rfl,rfl⟩
 refine .nil (.code (.seq (rq3 rfl rfl (mV rfl rfl (s1 rfl (.u rfl) (.u rfl) rfl Fx.sz45 tk8 (by first|decide | (show _<85; decide)) (rfl) ?_)))))
 refine s1 rfl (.u rfl) (.u rfl) rfl Fx.sz30 tk8 (by first|decide | (show _<85; decide)) (rfl) ?_
 refine .nil (.code (.ret (We.finQ [⟨89,[.pointer (some ⟨b43,0,none⟩),.pointer (some ⟨b9,0,none⟩)],[]⟩,⟨88,[],[.pointer (some ⟨b9,0,none⟩),.pointer (some ⟨b8,0,none⟩)]⟩] rfl (by intro q hq; rcases List.mem_cons.1 hq with rfl | hq; exact ⟨Fx.go89,fun w hw=>guard_ret w _ _⟩; rw [List.mem_singleton.1 hq]; exact ⟨Fx.go88,fun w hw=>open1_ret w b9 b8 (Rd.own .here rfl w hw)⟩) Tryz.results50 (.cell rfl (fun w hw=>run_loadVar1 Fx.ag45 (Rd.own tk1 rfl w hw)) (.cell rfl (fun w hw=>run_loadVar1 Fx.ag30 (Rd.own .here rfl w hw)) .nil)) (mS tk2 rfl (mS tk2 rfl (mS tk2 rfl (mS tk2 rfl (mS tk3 rfl (mS tk3 rfl (mS tk2 rfl mN))))))) ?_)))
 exact ⟨b43,b40,bl,vl,F,ol,hD,hn,hz,rfl,rfl⟩
end Go.Proofs.YtoifkgkandfeiaaGreatDoor
