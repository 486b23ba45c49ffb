/- Lemmas and contracts of functions, joined. -/
import Derived.Test.YtdeobooblmjlfaaDoorMd1
import Derived.ProofKit
import Derived.Lib.LaidTab
import Derived.Laws.CopyRow
set_option linter.unusedSimpArgs false
set_option linter.unusedVariables false
set_option linter.unusedSectionVars false
namespace Go.Proofs.YtdeobooblmjlfaaDoor
open Go.Tan Go.RowKit
namespace Fx
theorem zq163:zrL Tryd.prog 163=some (wa 64 (fun _=>0#32)):=by kernel_rfl
theorem sn42:(slE Tryd.prog 42).isSome=true:=by kernel_rfl
theorem ar163:arE Tryd.prog 163=some (64,125,1):=by kernel_rfl
theorem go98:goFn Tryd.prog 98=true:=by kernel_rfl
theorem fo128_0:fOff Tryd.prog 128 0=some 0:=by kernel_rfl
theorem ar126:arE Tryd.prog 126=some (8,125,1):=by kernel_rfl
theorem bp126_0_1_2_3_4_5_6_7:bPl Tryd.prog 126 [0,1,2,3,4,5,6,7]=some ([.int .u32 0,.int .u32 0,.int .u32 0,.int .u32 0,.int .u32 0,.int .u32 0,.int .u32 0,.int .u32 0],[(0,1),(1,1),(2,1),(3,1),(4,1),(5,1),(6,1),(7,1)]):=by kernel_rfl
end Fx
theorem right_ok (x:W) (k:Nat) (G:PM) (hk:k∈[2,6,7,11,13,17,18,19,22,25]):Ct Tryd.prog 98 ([U x,.int .i64 (k:Int)]:List Value).toArray G [] (fun _ μ' u=>μ'=[]∧u=U (rotr x k)):=by
 refine Ct.of Tryd.func98 rfl Tryd.ntmps98 rfl fun w0 hs0=>?_
 have hk2:k≤31:=by simp only [List.mem_cons,List.not_mem_nil,or_false] at hk; omega
 refine .seq (Wk.rg [0] rfl rfl (asg rfl .no (.u rfl) (.nil (.code (.seq (Wk.rg [0,1,2,3,4] rfl rfl (mv rfl .no (.u rfl) (mv rfl .no (.u rfl) (ng rfl .no (.u rfl) (fun _=>wrap_i64 (by omega) (by omega)) ?_)))))))))
 refine kv rfl .no Fx.go88 (Evc rfl (Evc rfl Evn)) (fun _=>rot_ok _ _ _) ?_
 refine asg rfl .no (.u rfl) (.nil (.code (.ret (We.fin0 Tryd.results98 (.tmp rfl .nil) ?_))))
 exact ⟨rfl,by rw [← rotI_neg hk]; rfl⟩
set_option maxHeartbeats 1000000 in
theorem block_ok (s:Nat→W) (xs:List Y) (h:Sh) (vp nn:Value) (bs:Nat) (G:PM) (hs:SlR G 1 encY h xs) (hK:RdNP G 1 0 (wa 64 kW)) (hl:64≤xs.length):Ct Tryd.prog 81 ([.pointer (some ⟨bs,0,none⟩),h.val xs.length]:List Value).toArray G [.blk bs (cl (wa 8 s++[vp,nn]) 128)] (fun _ μ' u=>μ'=[.blk bs (cl (wa 8 (shaC s (fun i=>xs.getD i 0))++[vp,nn]) 128)]∧u=.tuple #[]):=by
 refine Ct.of Tryd.func81 rfl Tryd.ntmps81 rfl fun w0 hs0=>?_
 refine .seq (Wk.rg [0] rfl rfl ?_)
 refine al rfl Fx.zq163 ?_; intro b4
 refine .nil (.code (.seq (.seq (Wk.rg [0] rfl rfl (mv rfl .no (.u rfl) (.nil (.code (.block ?_))))))))
 refine Wk.lop (α:=Nat×(Nat→W)) (fun gh=>[(24,true,.int .i64 (gh.1:Int))]) (fun gh=>[.blk b4 (cl (wa 64 gh.2) 163)])
  (fun gh Gl=>(gh.1≤16)∧(gh.2=w16 (fun i=>xs.getD i 0) gh.1)) (fun gh=>16-gh.1) (0,fun _=>0#32) [(0,true,_),(1,true,_),(4,true,_)] [_]
  (ESub.cons rfl (by first|rfl|exact evi (by omega)) (ESub.c rfl (ESub.c rfl (ESub.c rfl ESub.nil))))
  (MSub.cons .here rfl (MSub.cons .here rfl MSub.nil)) ?_ ?_
 ·refine ⟨?_,?_⟩
  ·(try dsimp only)<;>(first|omega|rfl|assumption|(simp; done))
  (try dsimp only)<;>(first|omega|rfl|assumption|(simp; done))
 intro gh N0 Gl0 hN0 hGl0 hF0
 obtain ⟨k,y⟩:=gh; dsimp only at hF0 hN0 ⊢
 obtain ⟨hk,ey⟩:=hF0
 have hs:=hs.mono hGl0
 have hK:=hK.mono hGl0
 refine .seq (Wk.rg [0] rfl rfl (cp rfl .no (.u rfl) (.u rfl) rfl (.nil (.code (.seq (.cond rfl (fun c1=>?_) (fun c1=>?_)))))))
 ·have c1k:=c1
  try simp only [qcA,qcB] at c1
  refine .skip (.code (.seq (.block (.seq (Wk.rg [0,1] rfl rfl (mv rfl .no (.u rfl) (asg rfl .no (.u rfl) (.nil (.code (.seq (Wk.rg [0,1,2,3,4,5,6,7,8] rfl rfl (mv rfl .no (.u rfl) (mv rfl .no (.u rfl) (arn (((4*k):Nat):Int) rfl .no (.u rfl) (.u rfl) rfl (fun _=>by omega) (fun _=>wrap_i64 (by omega) (by omega)) ?_))))))))))))))
  refine mv rfl .no (.u rfl) (arn (((4*k):Nat):Int) rfl .no (.u rfl) (.u rfl) rfl (fun _=>by omega) (fun _=>wrap_i64 (by omega) (by omega)) ?_)
  refine arn ((((4*k)+4):Nat):Int) rfl .no (.u rfl) (.u rfl) rfl (fun _=>by omega) (fun _=>wrap_i64 (by omega) (by omega)) ?_
  refine kS ((4*k)) (((4*k)+4)) rfl .no Fx.se42 hs (.u rfl) (.u rfl) (.u rfl) (fun _=>by omega) (fun _=>by omega) (fun _=>by omega) (fun _=>by omega) ?_
  intro h33 L33 eL33 lL33 hs33
  have lL33:=lL33 rfl
  refine ln rfl .no Fx.sn42 (.u rfl) (mv rfl .no (.u rfl) (.nil (.code (.block ?_))))
  refine Wk.lop (α:=Nat×(Nat→W)) (fun gh=>[(35,true,.int .i64 (gh.1:Int))]) (fun gh=>[.blk b4 (cl (wa 64 gh.2) 163)])
   (fun gh Gl=>(gh.1≤4)∧(gh.2=upd y k (shB (fun i=>xs.getD i 0) k gh.1))) (fun gh=>4-gh.1) (0,y) [(0,true,_),(1,true,_),(4,true,_),(5,true,_),(24,true,_),(33,true,_),(34,true,_)] [_]
   (ESub.cons rfl (by first|rfl|exact evi (by omega)) (ESub.c rfl (ESub.c rfl (ESub.c rfl (ESub.c rfl (ESub.c rfl (ESub.c rfl (ESub.c rfl ESub.nil))))))))
   (MSub.cons .here rfl (MSub.cons .here rfl MSub.nil)) ?_ ?_
  ·refine ⟨?_,?_⟩
   ·(try dsimp only)<;>(first|omega|rfl|assumption|(simp; done))
   (try dsimp only)<;>(rw [ey]; exact (upd_w16 _ (Nat.le_refl k)).symm)
  intro gh N1 Gl1 hN1 hGl1 hF1
  obtain ⟨c,y2⟩:=gh; dsimp only at hF1 hN1 ⊢
  obtain ⟨hc,ey2⟩:=hF1
  have hK:=hK.mono hGl1
  have hs33:=hs33.mono hGl1
  refine .seq (Wk.rg [0] rfl rfl (cp rfl .no (.u rfl) (.u rfl) rfl (.nil (.code (.seq (.cond rfl (fun c2=>?_) (fun c2=>?_)))))))
  ·have c2k:=c2
   try simp only [qcA,qcB] at c2
   refine .skip (.code (.seq (.block (.seq (Wk.rg [0,1,2] rfl rfl (ih rfl .no Fx.se42 (.u rfl) (.u rfl) (fun _=>by omega) (fun _=>by omega) (fun _=>hs33.nn (k:=c) (by omega)) ?_))))))
   refine ld rfl .no Fx.ag5 (.u rfl) (fun _=>(hs33.yat (c) (by omega) (by omega)).rd) ?_
   refine asg rfl .no (.u rfl) (.nil (.code (Wk.rg [0,1,2,3,4,5,6,7,8,9] rfl rfl (mv rfl .no (.u rfl) (mv rfl .no (.u rfl) (iA rfl .no Fx.ar163 (.u rfl) (.u rfl) (fun _=>by omega) (fun _=>by omega) ?_))))))
   refine ld rfl .no Fx.ag125 (.u rfl) (fun _=>Rd.own .here (by first|exact wa_at1 (k) (by omega) (by omega)|exact ba_at1 (k) (by omega) (by omega)|exact wap_at1 (k) (by omega) (by omega)|rfl)) ?_
   refine lw (k:=.u32) rfl .no rfl (.u rfl) (.u rfl) (fun _=>by decide) ?_
   refine mv rfl .no (.u rfl) (cu (k:=.u8) rfl .no rfl Fx.cv5_125 (.u rfl) ?_)
   refine bw (k:=.u32) rfl .no rfl (.u rfl) (.u rfl) rfl (iA rfl .no Fx.ar163 (.u rfl) (.u rfl) (fun _=>by omega) (fun _=>by omega) ?_)
   refine s1 rfl (.u rfl) (.u rfl) rfl Fx.sz125 .here (by first|decide|(simp only [wa_len,ba_len,qlA]; omega)) (by first|exact wa_set1 (k) (by omega)|exact ba_set1 (k) (by omega)|exact wap_set1 (k) (by omega) (by omega)|rfl) ?_
   refine .nil (.blk (.code (Wk.rg [0,1] rfl rfl (arn (((c+1):Nat):Int) rfl .no (.u rfl) (.u rfl) rfl (fun _=>by omega) (fun _=>wrap_i64 (by omega) (by omega)) ?_))))
   refine mv rfl .no (.u rfl) (.nil (We.lpo (c+1,upd y2 k (y2 k <<< Int.toNat 8 ||| BitVec.setWidth 32 (L33.getD c 0))) ?_ ?_ ?_ ?_ ?_))
   ·exact (ESub.cons rfl (by first|rfl|exact evi (by omega)) (ESub.c rfl (ESub.c rfl (ESub.c rfl (ESub.c rfl (ESub.c rfl (ESub.c rfl (ESub.c rfl ESub.nil))))))))
   ·exact (MSub.cons .here rfl (MSub.cons .here rfl MSub.nil))
   ·first|omega|(dsimp only; omega)
   ·exact hGl1
   refine ⟨?_,?_⟩
   ·(try dsimp only)<;>(first|omega|rfl|assumption|(simp; done))
   (try dsimp only)<;>(rw [ey2,upd_at,upd_upd,shB,eL33,getD_part (by omega)]; rfl)
  have c2k:=c2
  try simp only [qcA,qcB] at c2
  refine .exit (.xcode (.xlp (.xblk (.blk (.code (Wk.rg [0,1] rfl rfl (arn (((k+1):Nat):Int) rfl .no (.u rfl) (.u rfl) rfl (fun _=>by omega) (fun _=>wrap_i64 (by omega) (by omega)) ?_)))))))
  refine mv rfl .no (.u rfl) (.nil (We.lpo (k+1,y2) ?_ ?_ ?_ ?_ ?_))
  ·exact (ESub.cons rfl (by first|rfl|exact evi (by omega)) (ESub.c rfl (ESub.c rfl (ESub.c rfl ESub.nil))))
  ·exact (MSub.cons .here rfl (MSub.cons .here rfl MSub.nil))
  ·first|omega|(dsimp only; omega)
  ·exact (hGl0).trans hGl1
  refine ⟨?_,?_⟩
  ·(try dsimp only)<;>(first|omega|rfl|assumption|(simp; done))
  (try dsimp only)<;>(obtain rfl:c=4:=(by omega); rw [ey2,ey,shB_four]; rfl)
 have c1k:=c1
 try simp only [qcA,qcB] at c1
 refine .exit (.xcode (.xlp (.xblk (.code (.seq (.seq ?_))))))
 obtain rfl:k=16:=by omega
 refine Wk.rg [0] rfl rfl (asg rfl .no (.u rfl) (.nil (.code (.block ?_))))
 refine Wk.lop (α:=Nat×(Nat→W)) (fun gh=>[(8,true,.int .i64 ((16+gh.1:Nat):Int))]) (fun gh=>[.blk b4 (cl (wa 64 gh.2) 163)])
  (fun gh Gl=>(gh.1≤48)∧(gh.2=sched (fun i=>xs.getD i 0) gh.1)) (fun gh=>48-gh.1) (0,_) [(0,true,_),(4,true,_)] [_]
  (ESub.cons rfl (by first|rfl|exact evi (by omega)) (ESub.c rfl (ESub.c rfl ESub.nil)))
  (MSub.cons .here rfl (MSub.cons .here rfl MSub.nil)) ?_ ?_
 ·refine ⟨?_,?_⟩
  ·(try dsimp only)<;>(first|omega|rfl|assumption|(simp; done))
  (try dsimp only)<;>(first|omega|rfl|assumption|(simp; done))
 intro gh N2 Gl2 hN2 hGl2 hF2
 obtain ⟨k1,y⟩:=gh; dsimp only at hF2 hN2 ⊢
 obtain ⟨hk1,ey⟩:=hF2
 have hK:=hK.mono hGl2
 refine .seq (.seq (Wk.rg [0,1] rfl rfl (mv rfl .no (.u rfl) (cp rfl .no (.u rfl) (.u rfl) rfl (.nil (.code (.cond rfl (fun c3=>?_) (fun c3=>?_))))))))
 ·have c3k:=c3
  try simp only [qcA,qcB] at c3
  refine .skip (.code (.seq (.block (.seq (Wk.draw (mc:=⟨false,false⟩) [0,1,2,3,4,5,6,7,8,9] Fx.mix (by kernel_rfl) ?_)))))
  refine mv rfl .no (.u rfl) (arn (((1+k1):Nat):Int) rfl .no (.u rfl) (.u rfl) rfl (fun _=>by omega) (fun _=>wrap_i64 (by omega) (by omega)) ?_)
  refine iA rfl .no Fx.ar163 (.u rfl) (.u rfl) (fun _=>by omega) (fun _=>by omega) ?_
  refine ld rfl .no Fx.ag125 (.u rfl) (fun _=>Rd.own .here (by first|exact wa_at1 ((1+k1)) (by omega) (by omega)|exact ba_at1 ((1+k1)) (by omega) (by omega)|exact wap_at1 ((1+k1)) (by omega) (by omega)|rfl)) ?_
  refine mv rfl .no (.u rfl) (arn (((14+k1):Nat):Int) rfl .no (.u rfl) (.u rfl) rfl (fun _=>by omega) (fun _=>wrap_i64 (by omega) (by omega)) ?_)
  refine iA rfl .no Fx.ar163 (.u rfl) (.u rfl) (fun _=>by omega) (fun _=>by omega) ?_
  refine ld rfl .no Fx.ag125 (.u rfl) (fun _=>Rd.own .here (by first|exact wa_at1 ((14+k1)) (by omega) (by omega)|exact ba_at1 ((14+k1)) (by omega) (by omega)|exact wap_at1 ((14+k1)) (by omega) (by omega)|rfl)) ?_
  refine asg rfl .no (.u rfl) (asg rfl .no (.u rfl) (.nil (.code (Wk.draw (mc:=⟨false,false⟩) [0,1,2,3,4,5,6,7,8,9,10,12,15,16,19,21,24,25,11,13,14,17,18,20,22,23,26,27,28,29] Fx.mix (by kernel_rfl) ?_))))
  refine mv rfl .no (.u rfl) (mv rfl .no (.u rfl) (arn ((k1:Nat):Int) rfl .no (.u rfl) (.u rfl) rfl (fun _=>by omega) (fun _=>wrap_i64 (by omega) (by omega)) ?_))
  refine iA rfl .no Fx.ar163 (.u rfl) (.u rfl) (fun _=>by omega) (fun _=>by omega) ?_
  refine ld rfl .no Fx.ag125 (.u rfl) (fun _=>Rd.own .here (by first|exact wa_at1 (k1) (by omega) (by omega)|exact ba_at1 (k1) (by omega) (by omega)|exact wap_at1 (k1) (by omega) (by omega)|rfl)) ?_
  refine mv rfl .no (.u rfl) (arn (((9+k1):Nat):Int) rfl .no (.u rfl) (.u rfl) rfl (fun _=>by omega) (fun _=>wrap_i64 (by omega) (by omega)) ?_)
  refine iA rfl .no Fx.ar163 (.u rfl) (.u rfl) (fun _=>by omega) (fun _=>by omega) ?_
  refine ld rfl .no Fx.ag125 (.u rfl) (fun _=>Rd.own .here (by first|exact wa_at1 ((9+k1)) (by omega) (by omega)|exact ba_at1 ((9+k1)) (by omega) (by omega)|exact wap_at1 ((9+k1)) (by omega) (by omega)|rfl)) ?_
  refine bw (k:=.u32) rfl .no rfl (.u rfl) (.u rfl) rfl (mv rfl .no (.u rfl) (mv rfl .no (.u rfl) (mv rfl .no (.u rfl) (rw' (k:=.u32) rfl .no (.u rfl) (.u rfl) (fun _=>by decide) ?_))))
  refine mv rfl .no (.u rfl) (mv rfl .no (.u rfl) (mv rfl .no (.u rfl) (rw' (k:=.u32) rfl .no (.u rfl) (.u rfl) (fun _=>by decide) ?_)))
  refine kv rfl .no Fx.go98 (Evc rfl (Evc rfl Evn)) (fun _=>right_ok _ 7 _ (by decide)) ?_
  refine kv rfl .no Fx.go98 (Evc rfl (Evc rfl Evn)) (fun _=>right_ok _ 18 _ (by decide)) ?_
  refine bw (k:=.u32) rfl .no rfl (.u rfl) (.u rfl) rfl (bw (k:=.u32) rfl .no rfl (.u rfl) (.u rfl) rfl (bw (k:=.u32) rfl .no rfl (.u rfl) (.u rfl) rfl (kv rfl .no Fx.go98 (Evc rfl (Evc rfl Evn)) (fun _=>right_ok _ 17 _ (by decide)) ?_)))
  refine kv rfl .no Fx.go98 (Evc rfl (Evc rfl Evn)) (fun _=>right_ok _ 19 _ (by decide)) ?_
  refine bw (k:=.u32) rfl .no rfl (.u rfl) (.u rfl) rfl (bw (k:=.u32) rfl .no rfl (.u rfl) (.u rfl) rfl (bw (k:=.u32) rfl .no rfl (.u rfl) (.u rfl) rfl (iA rfl .no Fx.ar163 (.u rfl) (.u rfl) (fun _=>by omega) (fun _=>by omega) ?_)))
  refine s1 rfl (.u rfl) (.u rfl) rfl Fx.sz125 .here (by first|decide|(simp only [wa_len,ba_len,qlA]; omega)) (by first|exact wa_set1 (((16+k1:Nat))) (by omega)|exact ba_set1 (((16+k1:Nat))) (by omega)|exact wap_set1 (((16+k1:Nat))) (by omega) (by omega)|rfl) ?_
  refine .nil (.blk (.code (Wk.rg [0,1,2] rfl rfl (mv rfl .no (.u rfl) (arn (((((16+k1:Nat))+1):Nat):Int) rfl .no (.u rfl) (.u rfl) rfl (fun _=>by omega) (fun _=>wrap_i64 (by omega) (by omega)) ?_)))))
  refine asg rfl .no (.u rfl) (.nil (We.lpo (k1+1,_) (ESub.cons rfl (by first|rfl|exact evi (by omega)) (ESub.c rfl (ESub.c rfl ESub.nil))) (MSub.cons .here rfl (MSub.cons .here rfl MSub.nil)) ?_ ?_ ?_))
  ·first|omega|(dsimp only; omega)
  ·exact hGl2
  refine ⟨?_,?_⟩
  ·(try dsimp only)<;>(first|omega|rfl|assumption|(simp; done))
  (try dsimp only)<;>(rw [ey]; rfl)
 have c3k:=c3
 try simp only [qcA,qcB] at c3
 refine .exit (.xcode (.xlp (.xblk (.code (.seq ?_)))))
 obtain rfl:k1=48:=by omega
 refine Wk.draw (mc:=⟨false,false⟩) [0,1,2,3,4,5,6,7,8,9,10,11,12,13,14,15,16,17,18,19,20,21,22,23,24,25,26,27,28,29,30,31,32,33,34,35,36,37,38,39,40,41,42,43,44,45,46,47] Fx.mix (by kernel_rfl) ?_
 refine mv rfl .no (.u rfl) (nc rfl .no (.u rfl) (fz rfl .no Fx.fo128_0 (.u rfl) (iA rfl .no Fx.ar126 (.u rfl) (.u rfl) (fun _=>by decide) (fun _=>by decide) ?_)))
 refine ld rfl .no Fx.ag125 (.u rfl) (fun _=>Rd.own (.there .here) (by first|exact wa_at1 (0) (by omega) (by omega)|exact ba_at1 (0) (by omega) (by omega)|exact wap_at1 (0) (by omega) (by omega)|rfl)) ?_
 refine mv rfl .no (.u rfl) (nc rfl .no (.u rfl) (fz rfl .no Fx.fo128_0 (.u rfl) (iA rfl .no Fx.ar126 (.u rfl) (.u rfl) (fun _=>by decide) (fun _=>by decide) ?_)))
 refine ld rfl .no Fx.ag125 (.u rfl) (fun _=>Rd.own (.there .here) (by first|exact wa_at1 (1) (by omega) (by omega)|exact ba_at1 (1) (by omega) (by omega)|exact wap_at1 (1) (by omega) (by omega)|rfl)) ?_
 refine mv rfl .no (.u rfl) (nc rfl .no (.u rfl) (fz rfl .no Fx.fo128_0 (.u rfl) (iA rfl .no Fx.ar126 (.u rfl) (.u rfl) (fun _=>by decide) (fun _=>by decide) ?_)))
 refine ld rfl .no Fx.ag125 (.u rfl) (fun _=>Rd.own (.there .here) (by first|exact wa_at1 (2) (by omega) (by omega)|exact ba_at1 (2) (by omega) (by omega)|exact wap_at1 (2) (by omega) (by omega)|rfl)) ?_
 refine mv rfl .no (.u rfl) (nc rfl .no (.u rfl) (fz rfl .no Fx.fo128_0 (.u rfl) (iA rfl .no Fx.ar126 (.u rfl) (.u rfl) (fun _=>by decide) (fun _=>by decide) ?_)))
 refine ld rfl .no Fx.ag125 (.u rfl) (fun _=>Rd.own (.there .here) (by first|exact wa_at1 (3) (by omega) (by omega)|exact ba_at1 (3) (by omega) (by omega)|exact wap_at1 (3) (by omega) (by omega)|rfl)) ?_
 refine mv rfl .no (.u rfl) (nc rfl .no (.u rfl) (fz rfl .no Fx.fo128_0 (.u rfl) (iA rfl .no Fx.ar126 (.u rfl) (.u rfl) (fun _=>by decide) (fun _=>by decide) ?_)))
 refine ld rfl .no Fx.ag125 (.u rfl) (fun _=>Rd.own (.there .here) (by first|exact wa_at1 (4) (by omega) (by omega)|exact ba_at1 (4) (by omega) (by omega)|exact wap_at1 (4) (by omega) (by omega)|rfl)) ?_
 refine mv rfl .no (.u rfl) (nc rfl .no (.u rfl) (fz rfl .no Fx.fo128_0 (.u rfl) (iA rfl .no Fx.ar126 (.u rfl) (.u rfl) (fun _=>by decide) (fun _=>by decide) ?_)))
 refine ld rfl .no Fx.ag125 (.u rfl) (fun _=>Rd.own (.there .here) (by first|exact wa_at1 (5) (by omega) (by omega)|exact ba_at1 (5) (by omega) (by omega)|exact wap_at1 (5) (by omega) (by omega)|rfl)) ?_
 refine mv rfl .no (.u rfl) (nc rfl .no (.u rfl) (fz rfl .no Fx.fo128_0 (.u rfl) (iA rfl .no Fx.ar126 (.u rfl) (.u rfl) (fun _=>by decide) (fun _=>by decide) ?_)))
 refine ld rfl .no Fx.ag125 (.u rfl) (fun _=>Rd.own (.there .here) (by first|exact wa_at1 (6) (by omega) (by omega)|exact ba_at1 (6) (by omega) (by omega)|exact wap_at1 (6) (by omega) (by omega)|rfl)) ?_
 refine mv rfl .no (.u rfl) (nc rfl .no (.u rfl) (fz rfl .no Fx.fo128_0 (.u rfl) (iA rfl .no Fx.ar126 (.u rfl) (.u rfl) (fun _=>by decide) (fun _=>by decide) ?_)))
 refine ld rfl .no Fx.ag125 (.u rfl) (fun _=>Rd.own (.there .here) (by first|exact wa_at1 (7) (by omega) (by omega)|exact ba_at1 (7) (by omega) (by omega)|exact wap_at1 (7) (by omega) (by omega)|rfl)) ?_
 refine asg rfl .no (.u rfl) (asg rfl .no (.u rfl) (asg rfl .no (.u rfl) (asg rfl .no (.u rfl) (asg rfl .no (.u rfl) (asg rfl .no (.u rfl) (asg rfl .no (.u rfl) (asg rfl .no (.u rfl) (.nil (.code (.seq (.seq (Wk.rg [0] rfl rfl (mv rfl .no (.u rfl) (.nil (.code (.block ?_))))))))))))))))
 refine Wk.lop (α:=Nat×(Nat→W)) (fun gh=>[(11,true,U (gh.2 0)),(12,true,U (gh.2 1)),(13,true,U (gh.2 2)),(14,true,U (gh.2 3)),(15,true,U (gh.2 4)),(16,true,U (gh.2 5)),(17,true,U (gh.2 6)),(18,true,U (gh.2 7)),(131,true,.int .i64 (gh.1:Int))]) (fun _=>[])
  (fun gh Gl=>(gh.1≤64)∧(gh.2=rnds y s gh.1)) (fun gh=>64-gh.1) (0,s) [(0,true,_),(4,true,_)] [_,_]
  (ESub.c rfl (ESub.c rfl (ESub.c rfl (ESub.c rfl (ESub.c rfl (ESub.c rfl (ESub.c rfl (ESub.c rfl (ESub.cons rfl (by first|rfl|exact evi (by omega)) (ESub.c rfl (ESub.c rfl ESub.nil)))))))))))
  (MSub.cons .here rfl (MSub.cons .here rfl MSub.nil)) ?_ ?_
 ·refine ⟨?_,?_⟩
  ·(try dsimp only)<;>(first|omega|rfl|assumption|(simp; done))
  (try dsimp only)<;>(first|omega|rfl|assumption|(simp; done))
 intro gh N3 Gl3 hN3 hGl3 hF3
 obtain ⟨k2,x⟩:=gh; dsimp only at hF3 hN3 ⊢
 obtain ⟨hk2,ex⟩:=hF3
 have hK:=hK.mono hGl3
 refine .seq (Wk.rg [0] rfl rfl (cp rfl .no (.u rfl) (.u rfl) rfl (.nil (.code (.seq (.cond rfl (fun c4=>?_) (fun c4=>?_)))))))
 ·have c4k:=c4
  try simp only [qcA,qcB] at c4
  refine .skip (.code (.seq (.block (.seq (Wk.rg [0,1] rfl rfl (mv rfl .no (.u rfl) (asg rfl .no (.u rfl) (.nil (.code (.seq (Wk.draw (mc:=⟨false,false⟩) [0,1,3,6,10,11,12,13,14,15,16,18,19,20,22,23,24,2,4,5,7,8,9,17,21,25,26] Fx.mix (by kernel_rfl) ?_)))))))))))
  refine mv rfl .no (.u rfl) (mv rfl .no (.u rfl) (mv rfl .no (.u rfl) (mv rfl .no (.u rfl) (mv rfl .no (.u rfl) (mv rfl .no (.u rfl) (mv rfl .no (.u rfl) (mv rfl .no (.u rfl) (bw (k:=.u32) rfl .no rfl (.u rfl) (.u rfl) rfl (bw (k:=.u32) rfl .no rfl (.u rfl) (.u rfl) rfl (bw (k:=.u32) rfl .no rfl (.u rfl) (.u rfl) rfl (mv rfl .no (.u rfl) (iA rfl .no Fx.ar163 (.u rfl) (.u rfl) (fun _=>by omega) (fun _=>by omega) ?_))))))))))))
  refine ld rfl .no Fx.ag125 (.u rfl) (fun _=>(hK.wat (k2) (by omega) (by omega)).rd) ?_
  refine mv rfl .no (.u rfl) (iA rfl .no Fx.ar163 (.u rfl) (.u rfl) (fun _=>by omega) (fun _=>by omega) ?_)
  refine ld rfl .no Fx.ag125 (.u rfl) (fun _=>Rd.own .here (by first|exact wa_at1 (k2) (by omega) (by omega)|exact ba_at1 (k2) (by omega) (by omega)|exact wap_at1 (k2) (by omega) (by omega)|rfl)) ?_
  refine kv rfl .no Fx.go98 (Evc rfl (Evc rfl Evn)) (fun _=>right_ok _ 6 _ (by decide)) ?_
  refine kv rfl .no Fx.go98 (Evc rfl (Evc rfl Evn)) (fun _=>right_ok _ 11 _ (by decide)) ?_
  refine bw (k:=.u32) rfl .no rfl (.u rfl) (.u rfl) rfl (kv rfl .no Fx.go98 (Evc rfl (Evc rfl Evn)) (fun _=>right_ok _ 25 _ (by decide)) ?_)
  refine bw (k:=.u32) rfl .no rfl (.u rfl) (.u rfl) rfl (bw (k:=.u32) rfl .no rfl (.u rfl) (.u rfl) rfl (bw (k:=.u32) rfl .no rfl (.u rfl) (.u rfl) rfl (bw (k:=.u32) rfl .no rfl (.u rfl) (.u rfl) rfl (bw (k:=.u32) rfl .no rfl (.u rfl) (.u rfl) rfl (asg rfl .no (.u rfl) (.nil (.code (.seq (Wk.rg [0,1,2,3,4,5,6,7,8,9,10,11,12,13,14,15,16,17,18] rfl rfl (mv rfl .no (.u rfl) (kv rfl .no Fx.go98 (Evc rfl (Evc rfl Evn)) (fun _=>right_ok _ 2 _ (by decide)) ?_)))))))))))
  refine mv rfl .no (.u rfl) (kv rfl .no Fx.go98 (Evc rfl (Evc rfl Evn)) (fun _=>right_ok _ 13 _ (by decide)) ?_)
  refine bw (k:=.u32) rfl .no rfl (.u rfl) (.u rfl) rfl (mv rfl .no (.u rfl) (kv rfl .no Fx.go98 (Evc rfl (Evc rfl Evn)) (fun _=>right_ok _ 22 _ (by decide)) ?_))
  refine bw (k:=.u32) rfl .no rfl (.u rfl) (.u rfl) rfl (mv rfl .no (.u rfl) (mv rfl .no (.u rfl) (bw (k:=.u32) rfl .no rfl (.u rfl) (.u rfl) rfl (mv rfl .no (.u rfl) (mv rfl .no (.u rfl) (mv rfl .no (.u rfl) (bw (k:=.u32) rfl .no rfl (.u rfl) (.u rfl) rfl (bw (k:=.u32) rfl .no rfl (.u rfl) (.u rfl) rfl (bw (k:=.u32) rfl .no rfl (.u rfl) (.u rfl) rfl (bw (k:=.u32) rfl .no rfl (.u rfl) (.u rfl) rfl (asg rfl .no (.u rfl) (.nil (.code (Wk.rg [0,1,2,3,4,5,6,7,8,9,10,11,12,13,14,15,16,17,18,19] rfl rfl (mv rfl .no (.u rfl) (mv rfl .no (.u rfl) (bw (k:=.u32) rfl .no rfl (.u rfl) (.u rfl) rfl (mv rfl .no (.u rfl) (mv rfl .no (.u rfl) (mv rfl .no (.u rfl) (mv rfl .no (.u rfl) (mv rfl .no (.u rfl) (bw (k:=.u32) rfl .no rfl (.u rfl) (.u rfl) rfl (mv rfl .no (.u rfl) (mv rfl .no (.u rfl) (mv rfl .no (.u rfl) (asg rfl .no (.u rfl) (asg rfl .no (.u rfl) (asg rfl .no (.u rfl) (asg rfl .no (.u rfl) (asg rfl .no (.u rfl) (asg rfl .no (.u rfl) (asg rfl .no (.u rfl) (asg rfl .no (.u rfl) (.nil (.blk (.code (Wk.rg [0,1] rfl rfl (arn (((k2+1):Nat):Int) rfl .no (.u rfl) (.u rfl) rfl (fun _=>by omega) (fun _=>wrap_i64 (by omega) (by omega)) ?_)))))))))))))))))))))))))))))))))))))))
  refine mv rfl .no (.u rfl) (.nil (We.lpo (k2+1,rndW x (kW k2) (y k2)) ?_ ?_ ?_ ?_ ?_))
  ·exact (ESub.c rfl (ESub.c rfl (ESub.c rfl (ESub.c rfl (ESub.c rfl (ESub.c rfl (ESub.c rfl (ESub.c rfl (ESub.cons rfl (by first|rfl|exact evi (by omega)) (ESub.c rfl (ESub.c rfl ESub.nil)))))))))))
  ·exact (MSub.cons .here rfl (MSub.cons .here rfl MSub.nil))
  ·first|omega|(dsimp only; omega)
  ·exact hGl3
  refine ⟨?_,?_⟩
  ·(try dsimp only)<;>(first|omega|rfl|assumption|(simp; done))
  (try dsimp only)<;>(rw [ex]; rfl)
 have c4k:=c4
 try simp only [qcA,qcB] at c4
 refine .exit (.xcode (.xlp (.xblk (.code (.seq ?_)))))
 obtain rfl:k2=64:=by omega
 refine Wk.rg [0,1,2,3,4,5,6,7,8,9] rfl rfl (mv rfl .no (.u rfl) (mv rfl .no (.u rfl) (mv rfl .no (.u rfl) (mv rfl .no (.u rfl) (mv rfl .no (.u rfl) (mv rfl .no (.u rfl) (mv rfl .no (.u rfl) (mv rfl .no (.u rfl) (bCe (wa 8 x) rfl .no Fx.bp126_0_1_2_3_4_5_6_7 (.cons (.u rfl) rfl (.cons (.u rfl) rfl (.cons (.u rfl) rfl (.cons (.u rfl) rfl (.cons (.u rfl) rfl (.cons (.u rfl) rfl (.cons (.u rfl) rfl (.cons (.u rfl) rfl .nil)))))))) rfl (by simp [bFold,put,wa,List.range_succ]) ?_)))))))))
 refine mv rfl .no (.u rfl) (.nil (.code (.block ?_)))
 refine Wk.lop (α:=Nat×(Nat→W)) (fun gh=>[(200,true,.int .i64 (gh.1:Int))]) (fun gh=>[.blk bs (cl (wa 8 gh.2++[vp,nn]) 128)])
  (fun gh Gl=>(gh.1≤8)∧(gh.2=fun i=>if i<gh.1 then s i+x i else s i)) (fun gh=>8-gh.1) (0,s) [(0,true,_),(199,true,_)] [_]
  (ESub.cons rfl (by first|rfl|exact evi (by omega)) (ESub.c rfl (ESub.c rfl ESub.nil)))
  (MSub.cons (.there .here) rfl (MSub.cons .here rfl MSub.nil)) ?_ ?_
 ·refine ⟨?_,?_⟩
  ·(try dsimp only)<;>(first|omega|rfl|assumption|(simp; done))
  (try dsimp only)<;>(funext i; simp)
 intro gh N4 Gl4 hN4 hGl4 hF4
 obtain ⟨k3,z⟩:=gh; dsimp only at hF4 hN4 ⊢
 obtain ⟨hk3,ez⟩:=hF4
 refine .seq (Wk.rg [0] rfl rfl (cp rfl .no (.u rfl) (.u rfl) rfl (.nil (.code (.seq (.cond rfl (fun c5=>?_) (fun c5=>?_)))))))
 ·have c5k:=c5
  try simp only [qcA,qcB] at c5
  refine .skip (.code (.seq (.block (.seq (Wk.rg [0,1,2,3] rfl rfl (mv rfl .no (.u rfl) (ix rfl .no Fx.ar126 Fx.ag125 (.u rfl) (.u rfl) (fun _=>by omega) (fun _=>by omega) (fun _=>wa_at (n:=8) (y:=x) (j:=k3) (by omega)) ?_)))))))
  refine asg rfl .no (.u rfl) (asg rfl .no (.u rfl) (.nil (.code (Wk.draw (mc:=⟨false,false⟩) [0,1,2,3,4,5,6,7,8,9,10,11] Fx.mix (by kernel_rfl) ?_))))
  refine mv rfl .no (.u rfl) (mv rfl .no (.u rfl) (nc rfl .no (.u rfl) (fz rfl .no Fx.fo128_0 (.u rfl) (iA rfl .no Fx.ar126 (.u rfl) (.u rfl) (fun _=>by omega) (fun _=>by omega) ?_))))
  refine ld rfl .no Fx.ag125 (.u rfl) (fun _=>Rd.own .here (by first|exact wa_at1 (k3) (by omega) (by omega)|exact ba_at1 (k3) (by omega) (by omega)|exact wap_at1 (k3) (by omega) (by omega)|rfl)) ?_
  refine mv rfl .no (.u rfl) (bw (k:=.u32) rfl .no rfl (.u rfl) (.u rfl) rfl (nc rfl .no (.u rfl) (fz rfl .no Fx.fo128_0 (.u rfl) (iA rfl .no Fx.ar126 (.u rfl) (.u rfl) (fun _=>by omega) (fun _=>by omega) ?_))))
  refine s1 rfl (.u rfl) (.u rfl) rfl Fx.sz125 .here (by first|decide|(simp only [wa_len,ba_len,qlA]; omega)) (by first|exact wa_set1 (k3) (by omega)|exact ba_set1 (k3) (by omega)|exact wap_set1 (k3) (by omega) (by omega)|rfl) ?_
  refine .nil (.blk (.code (Wk.rg [0,1] rfl rfl (arn (((k3+1):Nat):Int) rfl .no (.u rfl) (.u rfl) rfl (fun _=>by omega) (fun _=>wrap_i64 (by omega) (by omega)) ?_))))
  refine mv rfl .no (.u rfl) (.nil (We.lpo (k3+1,_) (ESub.cons rfl (by first|rfl|exact evi (by omega)) (ESub.c rfl (ESub.c rfl ESub.nil))) (MSub.cons .here rfl (MSub.cons .here rfl MSub.nil)) ?_ ?_ ?_))
  ·first|omega|(dsimp only; omega)
  ·exact hGl4
  refine ⟨?_,?_⟩
  ·(try dsimp only)<;>(first|omega|rfl|assumption|(simp; done))
  (try dsimp only)<;>(rw [ez]; exact upd_if)
 have c5k:=c5
 try simp only [qcA,qcB] at c5
 refine .exit (.xcode (.xlp (.xblk (.nil (We.fin Tryd.results81 .nil (MSub.cons .here rfl MSub.nil) ?_)))))
 obtain rfl:k3=8:=by omega
 refine ⟨?_,rfl⟩
 rw [ez,ex,ey,wa_congr (f:=fun i=>if i<8 then s i+rnds (sched (fun i=>xs.getD i 0) 48) s 64 i else s i) (f':=shaC s (fun i=>xs.getD i 0)) (fun i hi=>by rw [if_pos hi]; rfl)]
namespace Fx
theorem fo128_2:fOff Tryd.prog 128 2=some 9:=by kernel_rfl
theorem ag3:aggN Tryd.prog 3=some none:=by kernel_rfl
theorem sz3:szT Tryd.prog 3=some 1:=by kernel_rfl
theorem fo128_1:fOff Tryd.prog 128 1=some 8:=by kernel_rfl
theorem ag42:aggN Tryd.prog 42=some none:=by kernel_rfl
theorem zv5:(Tryd.prog.info? 5).bind (·.zero)=some (.int .u8 0):=by kernel_rfl
theorem sz42:szT Tryd.prog 42=some 1:=by kernel_rfl
theorem go81:goFn Tryd.prog 81=true:=by kernel_rfl
end Fx
theorem block_row (s:Nat→W) (xs:List Y) (v vp nn:Value) (bs:Nat) (G:PM) (hK:RdNP G 1 0 (wa 64 kW)) (hl:64≤xs.length):Ct Tryd.prog 81 ([.pointer (some ⟨bs,0,none⟩),v]:List Value).toArray G [rB v 5 xs,.blk bs (cl (wa 8 s++[vp,nn]) 128)] (fun _ μ' u=>∃ ν,μ'=rB v 5 xs :: ν∧ν=[.blk bs (cl (wa 8 (shaC s (fun i=>xs.getD i 0))++[vp,nn]) 128)]∧u=.tuple #[]) :=
 Ct.lendB (fun h G2 hle hv hs=>by subst hv; exact block_ok s xs h vp nn bs G2 hs (hK.mono hle) hl)
theorem st_s8 {y:Nat→W} {a b v:Value}:(wa 8 y++[a,b]).set 8 v=wa 8 y++[v,b]:=wap_s rfl
theorem st_s9 {y:Nat→W} {a b v:Value}:(wa 8 y++[a,b]).set 9 v=wa 8 y++[a,v]:=wap_s rfl
theorem st_eq {zs:List Y} {j m b T:Nat} {vp:Value} (hj:zs.length / 64=j) (hm:m=zs.length):Res.blk b (cl (wa 8 (shaW zs j)++[vp,.int .i64 (m:Int)]) T)=.blk b (cl (stC zs vp) T):=by
 subst hj; subst hm; rfl
theorem put_step {zs L:List Y} {j b T:Nat} {vq nn:Value} (eL:L=zs.drop (64*j)) (h:64≤L.length):Res.blk b (cl (wa 8 (shaC (shaW zs j) (fun i=>L.getD i 0))++[vq,nn]) T)=.blk b (cl (wa 8 (shaW zs (j+1))++[vq,nn]) T):=by
 rw [shaW,shaC_congr (b':=blkF zs j)]
 intro i hi
 rw [eL,blkF]; simp [List.getD_eq_getElem?_getD,List.getElem?_drop]
theorem put_first {xs ys L:List Y} {b T k:Nat} {vq nn:Value} (eL:L=restL xs++ys.take k) (hk:k=min (64-(restL xs).length) ys.length) (h:64≤L.length):Res.blk b (cl (wa 8 (shaC (shaW xs (xs.length / 64)) (fun i=>L.getD i 0))++[vq,nn]) T)=.blk b (cl (wa 8 (shaW (xs++ys) (xs.length / 64+1))++[vq,nn]) T):=by
 have hr:=rest_len xs
 rw [eL,List.length_append,List.length_take] at h
 rw [shaW,shaW_app (by omega),shaC_congr (b':=blkF (xs++ys) (xs.length / 64))]
 intro i hi
 rw [eL,blkF]
 simp only [List.getD_eq_getElem?_getD,List.getElem?_append,List.getElem?_take,hr]
 by_cases h1:i<xs.length%64
 ·simp [h1,restL,show 64*(xs.length / 64)+i<xs.length by omega]
 ·rw [if_neg h1,if_pos (by omega),if_neg (by omega)]
  congr 2; omega
theorem put_rest {xs ys L:List Y} (eL:L=restL xs++ys.take (min (64-(restL xs).length) ys.length)) (h:L.length<64):L=restL (xs++ys)∧(xs++ys).length / 64=xs.length / 64∧shaW (xs++ys) (xs.length / 64)=shaW xs (xs.length / 64):=by
 have hr:=rest_len xs
 rw [eL,List.length_append,List.length_take] at h
 have e:(xs++ys).length / 64=xs.length / 64:=by rw [List.length_append]; omega
 refine ⟨?_,e,shaW_app (by omega)⟩
 have h5:min (64-(restL xs).length) ys.length=ys.length:=by omega
 rw [eL,h5,List.take_length,restL,restL,e,List.drop_append_of_le_length (by omega)]
theorem put_drop {xs ys:List Y} (h:64≤(restL xs).length+ys.length):ys.drop (min (64-(restL xs).length) ys.length)=(xs++ys).drop (64*(xs.length / 64+1)):=by
 have hr:=rest_len xs
 rw [List.drop_append,List.drop_of_length_le (show xs.length≤64*(xs.length / 64+1) by omega),List.nil_append]
 congr 1; omega
theorem put_drop0 {xs ys:List Y} (h:(restL xs).length=0):ys=(xs++ys).drop (64*(xs.length / 64)):=by
 have hr:=rest_len xs
 rw [show 64*(xs.length / 64)=xs.length by omega,List.drop_left]
theorem put_zero {xs ys:List Y} {b T:Nat} {vq nn:Value} (h:(restL xs).length=0):Res.blk b (cl (wa 8 (shaW xs (xs.length / 64))++[vq,nn]) T)=.blk b (cl (wa 8 (shaW (xs++ys) (xs.length / 64))++[vq,nn]) T):=by
 rw [shaW_app (by omega)]
theorem put_ok (xs ys:List Y) (h:Sh) (vp:Value) (bs:Nat) (G:PM) (hs:SlR G 1 encY h ys) (hK:RdNP G 1 0 (wa 64 kW)) (hl:xs.length+ys.length≤4611686018427387904):Ct Tryd.prog 61 ([.pointer (some ⟨bs,0,none⟩),h.val ys.length]:List Value).toArray G [.blk bs (cl (stC xs vp) 128),rB vp 5 (restL xs)] (fun _ μ' u=>∃ vp',μ'=[.blk bs (cl (stC (xs++ys) vp') 128),rB vp' 5 (restL (xs++ys))]∧u=.tuple #[]):=by
 refine Ct.of Tryd.func61 rfl Tryd.ntmps61 rfl fun w0 hs0=>?_
 have hr:=rest_len xs
 refine .seq (Wk.rg [0,1,2,3,4,5,6,7,8,9] rfl rfl (mv rfl .no (.u rfl) (nc rfl .no (.u rfl) (fz rfl .no Fx.fo128_2 (.u rfl) (ld rfl .no Fx.ag3 (.u rfl) (fun _=>Rd.own .here (by first|exact wap_f rfl|rfl)) ?_)))))
 refine mv rfl .no (.u rfl) (ln rfl .no Fx.sn42 (.u rfl) (arn (((xs.length+ys.length):Nat):Int) rfl .no (.u rfl) (.u rfl) rfl (fun _=>by omega) (fun _=>wrap_i64 (by omega) (by omega)) ?_))
 refine nc rfl .no (.u rfl) (fz rfl .no Fx.fo128_2 (.u rfl) (s1 rfl (.u rfl) (.u rfl) rfl Fx.sz3 .here (by first|decide|(simp only [stC,wa_len,ba_len,qlA]; omega)) (by first|exact st_s8|exact st_s9) ?_))
 refine .nil (.code (.seq (.seq (Wk.rg [0,1,2,3,4,5] rfl rfl (mv rfl .no (.u rfl) (nc rfl .no (.u rfl) (fz rfl .no Fx.fo128_1 (.u rfl) (ld rfl .no Fx.ag42 (.u rfl) (fun _=>Rd.own .here (by first|exact wap_f rfl|rfl)) ?_))))))))
 refine lr rfl .no Fx.sn42 (.u rfl) (.there .here) ?_
 refine cp rfl .no (.u rfl) (.u rfl) rfl (.nil (.code (.cond rfl (fun c1=>?_) (fun c1=>?_))))
 ·have c1k:=c1
  try simp only [qcA,qcB] at c1
  refine .seq (Wk.rg [0,1,2,3,4,5,6,7,8,9] rfl rfl (mv rfl .no (.u rfl) (nc rfl .no (.u rfl) (fz rfl .no Fx.fo128_1 (.u rfl) (ld rfl .no Fx.ag42 (.u rfl) (fun _=>Rd.own .here (by first|exact wap_f rfl|rfl)) ?_)))))
  refine lr rfl .no Fx.sn42 (.u rfl) (.there .here) ?_
  refine arn (((64-(restL xs).length):Nat):Int) rfl .no (.u rfl) (.u rfl) rfl (fun _=>by omega) (fun _=>wrap_i64 (by omega) (by omega)) ?_
  refine mv rfl .no (.u rfl) (ln rfl .no Fx.sn42 (.u rfl) (mIn ((64-(restL xs).length)) (ys.length) rfl .no (.u rfl) (.u rfl) (fun _=>by omega) (fun _=>by omega) ?_))
  refine asg rfl .no (.u rfl) (.nil (.code (.seq (Wk.draw (mc:=⟨false,false⟩) [0,1,2,3,4,5,6,7,8,9,10,11] Fx.mix (by kernel_rfl) ?_))))
  refine mv rfl .no (.u rfl) (mv rfl .no (.u rfl) (nc rfl .no (.u rfl) (fz rfl .no Fx.fo128_1 (.u rfl) (ld rfl .no Fx.ag42 (.u rfl) (fun _=>Rd.own .here (by first|exact wap_f rfl|rfl)) ?_))))
  refine mv rfl .no (.u rfl) (mv rfl .no (.u rfl) (kE ((min (64-(restL xs).length) ys.length)) rfl .no Fx.se42 hs (.u rfl) (.u rfl) (fun _=>by omega) (fun _=>by omega) ?_))
  intro h36 L36 eL36 lL36 hs36
  have lL36:=lL36 rfl
  refine apY rfl Fx.se42 Fx.zv5 (.u rfl) (.u rfl) (.there .here) hs36.sc (by (try simp only [qlA,yl_len]); omega) ?_
  intro v37 L37 ov37 eL37
  have lL37:L37.length=(restL xs).length+L36.length:=by rw [eL37,List.length_append]
  refine nc rfl .no (.u rfl) (fz rfl .no Fx.fo128_1 (.u rfl) (s1v rfl (.u rfl) (.u rfl) .here Fx.sz42 (.there .here) (by first|decide|(simp only [stC,wa_len,ba_len,qlA]; omega)) (by first|exact st_s8|exact st_s9) ?_))
  refine .nil (.code (.seq (Wk.rg [0,1,2,3] rfl rfl (mv rfl .no (.u rfl) (mv rfl .no (.u rfl) (kD ((min (64-(restL xs).length) ys.length)) rfl .no Fx.se42 hs (.u rfl) (.u rfl) (fun _=>by omega) (fun _=>by omega) ?_))))))
  intro h42 L42 eL42 lL42 hs42
  have lL42:=lL42 rfl
  refine asg rfl .no (.u rfl) (.nil (.code (.seq (.seq (Wk.rg [0,1,2,3,4,5] rfl rfl (mv rfl .no (.u rfl) (nc rfl .no (.u rfl) (fz rfl .no Fx.fo128_1 (.u rfl) (ld rfl .no Fx.ag42 (.u rfl) (fun _=>Rd.own .here (by first|exact wap_f rfl|rfl)) ?_)))))))))
  refine lr rfl .no Fx.sn42 (.u rfl) (.there .here) ?_
  refine cp rfl .no (.u rfl) (.u rfl) rfl (.nil (.code (.cond rfl (fun c2=>?_) (fun c2=>?_))))
  ·have c2k:=c2
   try simp only [qcA,qcB] at c2
   refine .ret (We.fin Tryd.results61 .nil (MSub.cons .here rfl (MSub.cons .here rfl MSub.nil)) ?_)
   obtain ⟨e1,e2,e3⟩:=put_rest (eL37.trans (by rw [eL36])) (by omega)
   exact ⟨v37,by rw [← e1,←e3,st_eq e2 (by simp)],rfl⟩
  have c2k:=c2
  try simp only [qcA,qcB] at c2
  refine .skip (.code (.seq (Wk.rg [0,1,2,3,4,5] rfl rfl (mv rfl .no (.u rfl) (mv rfl .no (.u rfl) (nc rfl .no (.u rfl) (fz rfl .no Fx.fo128_1 (.u rfl) (ld rfl .no Fx.ag42 (.u rfl) (fun _=>Rd.own .here (by first|exact wap_f rfl|rfl)) ?_))))))))
  refine ka rfl (.inr rfl) Fx.go81 (Evc rfl (Evc rfl Evn)) (mtk2 (.there .here) .here) (block_row _ L37 _ _ _ _ _ hK (by omega)) ?_
  rintro _ G54 μ54 hG54 ⟨_,rfl,rfl,rfl⟩
  have hs:=hs.mono hG54
  have hK:=hK.mono hG54
  have hs42:=hs42.mono hG54
  refine .nil (.code (Wk.rg [0,1,2,3] rfl rfl (mv rfl .no (.u rfl) (nc rfl .no (.u rfl) (fz rfl .no Fx.fo128_1 (.u rfl) (s1 rfl (.u rfl) (.u rfl) rfl Fx.sz42 (.there .here) (by first|decide|(simp only [stC,wa_len,ba_len,qlA]; omega)) (by first|exact st_s8|exact st_s9) ?_))))))
  refine .nil (we_nilB 5 ?_)
  refine .code (.seq (.block ?_))
  refine Wk.lop (α:=Nat×Sh×List Y×Value) (fun gh=>[(1,true,gh.2.1.val gh.2.2.1.length)]) (fun gh=>[.blk bs (cl (wa 8 (shaW (xs++ys) gh.1)++[gh.2.2.2,.int .i64 ((xs.length+ys.length:Nat):Int)]) 128)])
   (fun gh Gl=>(64*gh.1≤xs.length+ys.length)∧(gh.2.2.1=(xs++ys).drop (64*gh.1))∧(SlR Gl 1 encY gh.2.1 gh.2.2.1)) (fun gh=>gh.2.2.1.length) (xs.length / 64+1,_,_,_) [(0,true,_)] [_]
   (ESub.c rfl (ESub.c rfl ESub.nil))
   (MSub.cons (.there .here) (put_first (eL37.trans (by rw [eL36])) rfl (by omega)) (MSub.cons .here rfl MSub.nil)) ?_ ?_
  ·refine ⟨?_,?_,?_⟩
   ·(try dsimp only)<;>(omega)
   ·(try dsimp only)<;>(rw [eL42]; exact put_drop (by omega))
   (try dsimp only)<;>(exact hs42)
  intro gh N0 Gl0 hN0 hGl0 hF0
  obtain ⟨j,h',L,vq⟩:=gh; dsimp only at hF0 hN0 ⊢
  obtain ⟨hj,eL,hL⟩:=hF0
  have hs:=hs.mono hGl0
  have hK:=hK.mono hGl0
  have lL:L.length=xs.length+ys.length-64*j:=by rw [eL]; simp
  refine .seq (.seq (Wk.rg [0,1,2] rfl rfl (mv rfl .no (.u rfl) (ln rfl .no Fx.sn42 (.u rfl) (cp rfl .no (.u rfl) (.u rfl) rfl (.nil (.code (.cond rfl (fun c3=>?_) (fun c3=>?_)))))))))
  ·have c3k:=c3
   try simp only [qcA,qcB] at c3
   refine .skip (.code (.seq (.block (Wk.rg [0,1,2] rfl rfl (mv rfl .no (.u rfl) (mv rfl .no (.u rfl) (ka rfl (.inr rfl) Fx.go81 (Evc rfl (Evc rfl Evn)) (mtk1 .here) (block_ok _ L h' _ _ _ _ hL hK (by omega)) ?_)))))))
   rintro _ G65 μ65 hG65 ⟨rfl,rfl⟩
   have hs:=hs.mono hG65
   have hK:=hK.mono hG65
   have hL:=hL.mono hG65
   refine .nil (.blk (.code (Wk.rg [0,1,2] rfl rfl (mv rfl .no (.u rfl) (kD (64) rfl .no Fx.se42 hL (.u rfl) (.u rfl) (fun _=>by omega) (fun _=>by omega) ?_)))))
   intro h62 L62 eL62 lL62 hs62
   have lL62:=lL62 rfl
   refine asg rfl .no (.u rfl) (.nil (We.lpo (j+1,h62,L62,vq) ?_ ?_ ?_ ?_ ?_))
   ·exact (ESub.c rfl (ESub.c rfl ESub.nil))
   ·exact (MSub.cons .here (put_step eL (by omega)) (MSub.cons .here rfl MSub.nil))
   ·first|omega|(dsimp only; omega)
   ·exact (hGl0).trans hG65
   refine ⟨?_,?_,?_⟩
   ·(try dsimp only)<;>(omega)
   ·(try dsimp only)<;>(rw [eL62,eL,List.drop_drop]; congr 1)
   (try dsimp only)<;>(exact hs62)
  have c3k:=c3
  try simp only [qcA,qcB] at c3
  refine .exit (.xcode (.xlp (.xblk (.code (Wk.rg [0,1,2,3,4,5,6] rfl rfl (mv rfl .no (.u rfl) ?_))))))
  refine b0B rfl Fx.se42 ?_; intro b67
  refine mv rfl .no (.u rfl) (apY0 rfl Fx.se42 Fx.zv5 (.u rfl) (.u rfl) .here hL.sc (by (try simp only [qlA,yl_len]); omega) ?_)
  intro v69 L69 _ ov69 eL69
  have lL69:L69.length=L.length:=by rw [eL69]
  refine nc rfl .no (.u rfl) (fz rfl .no Fx.fo128_1 (.u rfl) (s1v rfl (.u rfl) (.u rfl) .here Fx.sz42 (.there .here) (by first|decide|(simp only [stC,wa_len,ba_len,qlA]; omega)) (by first|exact st_s8|exact st_s9) ?_))
  refine .nil (.nil (We.fin Tryd.results61 .nil (MSub.cons .here rfl (MSub.cons .here rfl MSub.nil)) ?_))
  have ej:(xs++ys).length / 64=j:=by rw [List.length_append]; omega
  exact ⟨v69,by rw [st_eq ej (by simp),eL69,eL,restL,ej],rfl⟩
 have c1k:=c1
 try simp only [qcA,qcB] at c1
 refine .skip (.code (.seq (.block ?_)))
 refine Wk.lop (α:=Nat×Sh×List Y×Value) (fun gh=>[(1,true,gh.2.1.val gh.2.2.1.length)]) (fun gh=>[.blk bs (cl (wa 8 (shaW (xs++ys) gh.1)++[gh.2.2.2,.int .i64 ((xs.length+ys.length:Nat):Int)]) 128)])
  (fun gh Gl=>(64*gh.1≤xs.length+ys.length)∧(gh.2.2.1=(xs++ys).drop (64*gh.1))∧(SlR Gl 1 encY gh.2.1 gh.2.2.1)) (fun gh=>gh.2.2.1.length) (xs.length / 64,_,_,_) [(0,true,_)] [_]
  (ESub.c rfl (ESub.c rfl ESub.nil))
  (MSub.cons .here (put_zero (by omega)) (MSub.cons .here rfl MSub.nil)) ?_ ?_
 ·refine ⟨?_,?_,?_⟩
  ·(try dsimp only)<;>(omega)
  ·(try dsimp only)<;>(exact put_drop0 (by omega))
  (try dsimp only)<;>(exact hs)
 intro gh N1 Gl1 hN1 hGl1 hF1
 obtain ⟨j,h',L,vq⟩:=gh; dsimp only at hF1 hN1 ⊢
 obtain ⟨hj,eL,hL⟩:=hF1
 have hK:=hK.mono hGl1
 have lL:L.length=xs.length+ys.length-64*j:=by rw [eL]; simp
 refine .seq (.seq (Wk.rg [0,1,2] rfl rfl (mv rfl .no (.u rfl) (ln rfl .no Fx.sn42 (.u rfl) (cp rfl .no (.u rfl) (.u rfl) rfl (.nil (.code (.cond rfl (fun c4=>?_) (fun c4=>?_)))))))))
 ·have c4k:=c4
  try simp only [qcA,qcB] at c4
  refine .skip (.code (.seq (.block (Wk.rg [0,1,2] rfl rfl (mv rfl .no (.u rfl) (mv rfl .no (.u rfl) (ka rfl (.inr rfl) Fx.go81 (Evc rfl (Evc rfl Evn)) (mtk1 .here) (block_ok _ L h' _ _ _ _ hL hK (by omega)) ?_)))))))
  rintro _ G65 μ65 hG65 ⟨rfl,rfl⟩
  have hL:=hL.mono hG65
  refine .nil (.blk (.code (Wk.rg [0,1,2] rfl rfl (mv rfl .no (.u rfl) (kD (64) rfl .no Fx.se42 hL (.u rfl) (.u rfl) (fun _=>by omega) (fun _=>by omega) ?_)))))
  intro h62 L62 eL62 lL62 hs62
  have lL62:=lL62 rfl
  refine asg rfl .no (.u rfl) (.nil (We.lpo (j+1,h62,L62,vq) ?_ ?_ ?_ ?_ ?_))
  ·exact (ESub.c rfl (ESub.c rfl ESub.nil))
  ·exact (MSub.cons .here (put_step eL (by omega)) (MSub.cons .here rfl MSub.nil))
  ·first|omega|(dsimp only; omega)
  ·exact (hGl1).trans hG65
  refine ⟨?_,?_,?_⟩
  ·(try dsimp only)<;>(omega)
  ·(try dsimp only)<;>(rw [eL62,eL,List.drop_drop]; congr 1)
  (try dsimp only)<;>(exact hs62)
 have c4k:=c4
 try simp only [qcA,qcB] at c4
 refine .exit (.xcode (.xlp (.xblk (.code (Wk.rg [0,1,2,3,4,5,6] rfl rfl (mv rfl .no (.u rfl) ?_))))))
 refine b0B rfl Fx.se42 ?_; intro b67
 refine mv rfl .no (.u rfl) (apY0 rfl Fx.se42 Fx.zv5 (.u rfl) (.u rfl) .here hL.sc (by (try simp only [qlA,yl_len]); omega) ?_)
 intro v69 L69 _ ov69 eL69
 have lL69:L69.length=L.length:=by rw [eL69]
 refine nc rfl .no (.u rfl) (fz rfl .no Fx.fo128_1 (.u rfl) (s1v rfl (.u rfl) (.u rfl) .here Fx.sz42 (.there .here) (by first|decide|(simp only [stC,wa_len,ba_len,qlA]; omega)) (by first|exact st_s8|exact st_s9) ?_))
 refine .nil (.nil (We.fin Tryd.results61 .nil (MSub.cons .here rfl (MSub.cons .here rfl MSub.nil)) ?_))
 have ej:(xs++ys).length / 64=j:=by rw [List.length_append]; omega
 exact ⟨v69,by rw [st_eq ej (by simp),eL69,eL,restL,ej],rfl⟩
namespace Fx
theorem zr128:zrL Tryd.prog 128=some ([.int .u32 0,.int .u32 0,.int .u32 0,.int .u32 0,.int .u32 0,.int .u32 0,.int .u32 0,.int .u32 0,.slice none 0 0,.int .i64 0]):=by kernel_rfl
theorem bp128_0:bPl Tryd.prog 128 [0]=some ([.int .u32 0,.int .u32 0,.int .u32 0,.int .u32 0,.int .u32 0,.int .u32 0,.int .u32 0,.int .u32 0,.slice none 0 0,.int .i64 0],[(0,8)]):=by kernel_rfl
theorem sz128:szT Tryd.prog 128=some 10:=by kernel_rfl
theorem ag128:aggN Tryd.prog 128=some (some 10):=by kernel_rfl
theorem go60:goFn Tryd.prog 60=true:=by kernel_rfl
theorem pt159:ptT Tryd.prog 159=true:=by kernel_rfl
theorem go61:goFn Tryd.prog 61=true:=by kernel_rfl
theorem zq34:zrL Tryd.prog 34=some (ba 32 (fun _=>0#8)):=by kernel_rfl
theorem ag126:aggN Tryd.prog 126=some (some 8):=by kernel_rfl
theorem bp128_0_1_2:bPl Tryd.prog 128 [0,1,2]=some ([.int .u32 0,.int .u32 0,.int .u32 0,.int .u32 0,.int .u32 0,.int .u32 0,.int .u32 0,.int .u32 0,.slice none 0 0,.int .i64 0],[(0,8),(8,1),(9,1)]):=by kernel_rfl
theorem cv3_24:cvK Tryd.prog 3 24=some .u64:=by kernel_rfl
theorem cv24_5:cvK Tryd.prog 24 5=some .u8:=by kernel_rfl
theorem ar34:arE Tryd.prog 34=some (32,5,1):=by kernel_rfl
theorem ag34:aggN Tryd.prog 34=some (some 32):=by kernel_rfl
theorem sz34:szT Tryd.prog 34=some 32:=by kernel_rfl
end Fx
theorem begin_ok (G:PM):Ct Tryd.prog 60 ([]:List Value).toArray G [] (fun _ μ' u=>μ'=[]∧u=.agg (stC [] (.slice none 0 0)).toArray):=by
 refine Ct.of Tryd.func60 rfl Tryd.ntmps60 rfl fun w0 hs0=>?_
 refine .seq (Wk.rg [0] rfl rfl ?_)
 refine al rfl Fx.zr128 ?_; intro b0
 refine .nil (.code (.seq (Wk.rg [0,1,2] rfl rfl (bCe (wa 8 ivW) rfl .no Fx.bp126_0_1_2_3_4_5_6_7 (.cons (.u rfl) rfl (.cons (.u rfl) rfl (.cons (.u rfl) rfl (.cons (.u rfl) rfl (.cons (.u rfl) rfl (.cons (.u rfl) rfl (.cons (.u rfl) rfl (.cons (.u rfl) rfl .nil)))))))) rfl (by rfl) ?_))))
 refine bCe (stC [] (.slice none 0 0)) rfl .no Fx.bp128_0 (.cons (.u rfl) rfl .nil) rfl (by rfl) ?_
 refine sw rfl (.u rfl) (.u rfl) rfl Fx.sz128 .here (by rfl) (one_app (wa_one _ _) (one2 rfl rfl)) ?_
 refine .nil (.code (.ret (We.fin0 Tryd.results60 (.cell rfl (fun w hw=>run_loadVarN Fx.ag128 (RdN.own .here) ((by rfl)) hw) .nil) ?_)))
 exact ⟨rfl,rfl⟩
theorem New_ok (G:PM):Ct Tryd.prog 105 ([]:List Value).toArray G [] (fun _ μ' u=>∃ b,μ'=[.blk b (cl (stC [] (.slice none 0 0)) 128),rB (.slice none 0 0) 5 (restL [])]∧u=.pointer (some ⟨b,0,none⟩)):=by
 refine Ct.of Tryd.func105 rfl Tryd.ntmps105 rfl fun w0 hs0=>?_
 refine .seq (Wk.rg [0] rfl rfl (asg rfl .no (.u rfl) (.nil (.code (.seq (Wk.rg [0,1,2] rfl rfl (kv rfl .no Fx.go60 Evn (fun _=>begin_ok _) ?_)))))))
 refine al rfl Fx.zr128 ?_; intro b1
 refine sw rfl (.u rfl) (.u rfl) rfl Fx.sz128 .here (by rfl) (one_app (wa_one _ _) (one2 rfl rfl)) ?_
 refine .nil (.code (.seq (Wk.rg [0] rfl rfl (asg rfl .no (.u rfl) (.nil (we_nilB 5 ?_))))))
 refine .code (.ret (We.fin Tryd.results105 (.tmp rfl .nil) (MSub.cons (.there .here) rfl (MSub.cons .here rfl MSub.nil)) ?_))
 exact ⟨_,rfl,rfl⟩
theorem Write_ok (xs ys:List Y) (h:Sh) (vp:Value) (bs:Nat) (G:PM) (hs:SlR G 1 encY h ys) (hK:RdNP G 1 0 (wa 64 kW)) (hl:xs.length+ys.length≤4611686018427387904):Ct Tryd.prog 106 ([.pointer (some ⟨bs,0,none⟩),h.val ys.length]:List Value).toArray G [.blk bs (cl (stC xs vp) 128),rB vp 5 (restL xs)] (fun _ μ' u=>∃ vp',μ'=[.blk bs (cl (stC (xs++ys) vp') 128),rB vp' 5 (restL (xs++ys))]∧u=.tuple #[]):=by
 refine Ct.of Tryd.func106 rfl Tryd.ntmps106 rfl fun w0 hs0=>?_
 refine .seq (Wk.rg [0,1] rfl rfl (mv rfl .no (.u rfl) (pn rfl .no Fx.pt159 (.u rfl) (.u rfl) ?_)))
 refine .nil (.code (Wk.condT rfl rfl ?_))
 refine Wk.rg [0,1,2] rfl rfl (mv rfl .no (.u rfl) (mv rfl .no (.u rfl) (ka rfl (.inr rfl) Fx.go61 (Evc rfl (Evc rfl Evn)) (mtk2 .here .here) (put_ok _ _ _ _ _ _ hs hK hl) ?_)))
 rintro _ G8 μ8 hG8 ⟨vq,rfl,rfl⟩
 refine .nil (.nil (We.fin Tryd.results106 .nil (MSub.cons .here rfl (MSub.cons .here rfl MSub.nil)) ?_))
 exact ⟨vq,rfl,rfl⟩
theorem st_w {xs:List Y} {vp:Value}:((stC xs vp).drop 0).take 8=wa 8 (shaW xs (xs.length / 64)):=by
 rw [List.drop_zero,stC,List.take_append_of_le_length (by rw [wa_len]; exact Nat.le_refl _),List.take_of_length_le (by rw [wa_len]; exact Nat.le_refl _)]
theorem st_b {zs:List Value} {xs:List Y} {v:Value} (h:zs.length=10):bFold zs [(0,8),(8,1),(9,1)] [wa 8 (shaW xs (xs.length / 64)),[v],[.int .i64 (xs.length:Int)]]=stC xs v:=by
 match zs,h with
 | [a,b,c,d,e,f,g,h,i,j],_=>rfl
theorem lenF_int {n q:Nat} (h:q<8):lenF n q=((BitVec.ofInt 64 (n:Int)*8#64) >>> (56-8*(q:Int)).toNat).setWidth 8:=by
 rw [show (56-8*(q:Int)).toNat=56-8*q by omega]; rfl
theorem StSum_ok (xs:List Y) (vp:Value) (bs:Nat) (G:PM) (hK:RdNP G 1 0 (wa 64 kW)) (hl:xs.length≤1152921504606846976):Ct Tryd.prog 62 ([.pointer (some ⟨bs,0,none⟩)]:List Value).toArray G [.blk bs (cl (stC xs vp) 128),rB vp 5 (restL xs)] (fun _ μ' u=>μ'=[.blk bs (cl (stC xs vp) 128),rB vp 5 (restL xs)]∧u=.agg (ba 32 (shaD xs)).toArray):=by
 refine Ct.of Tryd.func62 rfl Tryd.ntmps62 rfl fun w0 hs0=>?_
 have hr:=rest_len xs
 have hz:zeros xs.length=(119-xs.length%64)%64:=rfl
 refine .seq (Wk.rg [0] rfl rfl ?_)
 refine al rfl Fx.zq34 ?_; intro b2
 refine .nil (.code (.seq (Wk.rg [0,1,2] rfl rfl (kv rfl .no Fx.go60 Evn (fun _=>begin_ok _) ?_))))
 refine al rfl Fx.zr128 ?_; intro b3
 refine sw rfl (.u rfl) (.u rfl) rfl Fx.sz128 .here (by rfl) (one_app (wa_one _ _) (one2 rfl rfl)) ?_
 refine .nil (.code (.seq (.seq (Wk.rg [0,1] rfl rfl (mv rfl .no (.u rfl) (pn rfl .no Fx.pt159 (.u rfl) (.u rfl) ?_))))))
 refine .nil (.code (Wk.condT rfl rfl ?_))
 refine wk_rs (.there (.there (.there .here))) ?_; intro sRP bbRP evRP lcRP oaRP; subst evRP
 refine Wk.draw (mc:=⟨false,true⟩) [0,1,2,3,5,6,7,8,10,11,12,13,4,9,14,15] Fx.mix (by kernel_rfl) ?_
 refine mv rfl .no (.u rfl) (nc rfl .no (.u rfl) (fz rfl .no Fx.fo128_0 (.u rfl) (lA rfl .no Fx.ag126 (.u rfl) (fun _=>RdN.part (n:=8) (cs':=wa 8 (shaW xs (xs.length / 64))) (.there (.there .here)) (st_w)) (fun _=>(by first|exact qE|exact qL|rfl)) ?_)))
 refine mv rfl .no (.u rfl) (nc rfl .no (.u rfl) (fz rfl .no Fx.fo128_1 (.u rfl) (ld rfl .no Fx.ag42 (.u rfl) (fun _=>Rd.own (.there (.there .here)) (by first|exact wap_f rfl|rfl)) ?_)))
 refine mv rfl .no (.u rfl) (nc rfl .no (.u rfl) (fz rfl .no Fx.fo128_2 (.u rfl) (ld rfl .no Fx.ag3 (.u rfl) (fun _=>Rd.own (.there (.there .here)) (by first|exact wap_f rfl|rfl)) ?_)))
 refine b0B rfl Fx.se42 ?_; intro b16
 refine apY0 rfl Fx.se42 Fx.zv5 (.u rfl) (.u rfl) .here (Sc.rowS (.there (.there (.there (.there .here)))) oaRP) (by (try simp only [qlA,yl_len]); omega) ?_
 intro v21 L21 _ ov21 eL21
 have lL21:L21.length=(restL xs).length:=by rw [eL21]
 refine bCe (stC xs v21) rfl .no Fx.bp128_0_1_2 (.cons (.u rfl) rfl (.cons (.u rfl) (cells_one ov21) (.cons (.u rfl) rfl .nil))) rfl (st_b rfl) ?_
 refine sw rfl (.u rfl) (.u rfl) rfl Fx.sz128 (.there .here) (by rfl) (one_app (wa_one _ _) (one2 ov21 rfl)) ?_
 refine .nil (.code (.seq ?_))
 subst eL21
 refine Wk.rg [0,1,2,3,4] rfl rfl (fz rfl .no Fx.fo128_2 (.u rfl) (ld rfl .no Fx.ag3 (.u rfl) (fun _=>Rd.own .here (by first|exact wap_f rfl|rfl)) ?_))
 refine ci rfl .no rfl Fx.cv3_24 (.u rfl) ?_
 refine bw (k:=.u64) (b:=8#64) rfl .no rfl (.u rfl) (.u rfl) rfl (asg rfl .no (.u rfl) (.nil (.code (.seq (Wk.rg [0,1] rfl rfl ?_)))))
 refine mkY (1) (72) rfl Fx.se42 Fx.zv5 (.u rfl) (.u rfl) (by first|rfl|omega) (by first|rfl|omega) (by omega) (by omega) ?_; intro b31
 have lR31:(List.replicate (1) (0#8:Y)).length=1:=List.length_replicate
 refine asg rfl .no (.u rfl) (.nil (.code (.seq (Wk.rg [0,1,2] rfl rfl (mv rfl .no (.u rfl) (ia rfl .no Fx.se42 (.u rfl) (.u rfl) (fun _=>by omega) (fun _=>by omega) ?_))))))
 refine s1r (z:=128#8) rfl (.u rfl) (.u rfl) Fx.sz5 .here (by omega) ?_; intro Ls6_2 eLs6_2 lLs6_2
 refine .nil (.code (.seq (.block ?_)))
 refine Wk.lop (α:=Nat×Value×List Y) (fun gh=>[(5,true,gh.2.1)]) (fun gh=>[rB gh.2.1 5 gh.2.2])
  (fun gh Gl=>(gh.1≤zeros xs.length)∧(gh.2.2=128#8 :: List.replicate gh.1 0#8)) (fun gh=>zeros xs.length-gh.1) (0,_,_) [(2,true,_),(3,true,_),(4,true,_)] [_,_,_,_,_]
  (ESub.c rfl (ESub.c rfl (ESub.c rfl (ESub.c rfl ESub.nil))))
  (MSub.cons .here rfl (MSub.cons .here rfl (MSub.cons .here rfl (MSub.cons .here rfl (MSub.cons .here rfl (MSub.cons .here rfl MSub.nil)))))) ?_ ?_
 ·refine ⟨?_,?_⟩
  ·(try dsimp only)<;>(exact Nat.zero_le _)
  (try dsimp only)<;>(rw [eLs6_2]; rfl)
 intro gh N0 Gl0 hN0 hGl0 hF0
 obtain ⟨j,v,L⟩:=gh; dsimp only at hF0 hN0 ⊢
 obtain ⟨hj,eL⟩:=hF0
 have hK:=hK.mono hGl0
 have lL:L.length=j+1:=by rw [eL]; simp
 have hz:zeros xs.length=(119-xs.length%64)%64:=rfl
 refine .seq (.seq (Wk.rg [0,1,2,3,4,5,6] rfl rfl (fz rfl .no Fx.fo128_2 (.u rfl) (ld rfl .no Fx.ag3 (.u rfl) (fun _=>Rd.own (.there .here) (by first|exact wap_f rfl|rfl)) ?_))))
 refine mv rfl .no (.u rfl) (lr rfl .no Fx.sn42 (.u rfl) .here ?_)
 refine arn (((xs.length+L.length):Nat):Int) rfl .no (.u rfl) (.u rfl) rfl (fun _=>by omega) (fun _=>wrap_i64 (by omega) (by omega)) ?_
 refine rmn ((xs.length+L.length)) (64) rfl .no (.u rfl) (.u rfl) (fun _=>by omega) (fun _=>by omega) (fun _=>by first|decide|omega) ?_
 refine cp rfl .no (.u rfl) (.u rfl) rfl (.nil (.code (.cond rfl (fun c1=>?_) (fun c1=>?_))))
 ·have c1k:=c1
  try simp only [qcA,qcB] at c1
  refine .skip (.code (.block (Wk.rg [0,1,2,3] rfl rfl (mv rfl .no (.u rfl) ?_))))
  refine Go.Tan.b1 rfl Fx.se42 Fx.zv5 (.u rfl) rfl rfl (by decide) ?_; intro b42
  refine apY rfl Fx.se42 Fx.zv5 (.u rfl) (.u rfl) (.there .here) (Sc.one (y:=0#8) .here) (by show _+1≤_; omega) ?_
  intro v43 L43 ov43 eL43
  have lL43:L43.length=L.length+1:=by rw [eL43,List.length_append]; first|rfl | simp [yl_len]
  refine asg rfl .no (.u rfl) (.nil (.blk (We.lpo (j+1,v43,L43) ?_ ?_ ?_ ?_ ?_)))
  ·exact (ESub.c rfl (ESub.c rfl (ESub.c rfl (ESub.c rfl ESub.nil))))
  ·exact (MSub.cons .here rfl (MSub.cons (.there .here) rfl (MSub.cons (.there .here) rfl (MSub.cons (.there .here) rfl (MSub.cons (.there .here) rfl (MSub.cons (.there .here) rfl MSub.nil))))))
  ·(try dsimp only); omega
  ·exact hGl0
  refine ⟨?_,?_⟩
  ·(try dsimp only)<;>(omega)
  (try dsimp only)<;>(rw [eL43,eL,List.cons_append,←List.replicate_succ'])
 have c1k:=c1
 try simp only [qcA,qcB] at c1
 refine .exit (.xcode (.xlp (.xblk (.code (.seq (.seq (Wk.rg [0] rfl rfl (asg rfl .no (.u rfl) (.nil (.code (.block ?_)))))))))))
 refine Wk.lop (α:=Nat×Value×List Y) (fun gh=>[(5,true,gh.2.1),(6,true,.int .i64 (56-8*(gh.1:Int)))]) (fun gh=>[rB gh.2.1 5 gh.2.2])
  (fun gh Gl=>(gh.1≤8)∧(gh.2.2=(128#8 :: List.replicate (zeros xs.length) 0#8)++lenB xs.length gh.1)) (fun gh=>8-gh.1) (0,_,_) [(2,true,_),(3,true,_),(4,true,_)] [_,_,_,_,_]
  (ESub.c rfl (ESub.cons rfl (by first|rfl|exact evi (by omega)) (ESub.c rfl (ESub.c rfl (ESub.c rfl ESub.nil)))))
  (MSub.cons .here rfl (MSub.cons .here rfl (MSub.cons .here rfl (MSub.cons .here rfl (MSub.cons .here rfl (MSub.cons .here rfl MSub.nil)))))) ?_ ?_
 ·refine ⟨?_,?_⟩
  ·(try dsimp only)<;>(first|omega|rfl|assumption|(simp; done))
  (try dsimp only)<;>(rw [eL,show j=zeros xs.length by omega]; simp [lenB])
 intro gh N1 Gl1 hN1 hGl1 hF1
 obtain ⟨q,v,L⟩:=gh; dsimp only at hF1 hN1 ⊢
 obtain ⟨hq,eL⟩:=hF1
 have hK:=hK.mono hGl1
 have lL:L.length=zeros xs.length+1+q:=by rw [eL]; simp [lenB_len]; omega
 refine .seq (.seq (Wk.rg [0,1] rfl rfl (mv rfl .no (.u rfl) (cp rfl .no (.u rfl) (.u rfl) rfl (.nil (.code (.cond rfl (fun c2=>?_) (fun c2=>?_))))))))
 ·have c2k:=c2
  try simp only [qcA,qcB] at c2
  refine .skip (.code (.seq (.block (Wk.rg [0,1,2,3,4,5,6,7] rfl rfl (mv rfl .no (.u rfl) (mv rfl .no (.u rfl) (mv rfl .no (.u rfl) (rw' (k:=.u64) rfl .no (.u rfl) (.u rfl) (fun _=>by omega) ?_))))))))
  refine cu (k:=.u64) rfl .no rfl Fx.cv24_5 (.u rfl) ?_
  refine Go.Tan.b1 rfl Fx.se42 Fx.zv5 (.u rfl) rfl rfl (by decide) ?_; intro b53
  refine apY rfl Fx.se42 Fx.zv5 (.u rfl) (.u rfl) (.there .here) (Sc.one .here) (by show _+1≤_; omega) ?_
  intro v54 L54 ov54 eL54
  have lL54:L54.length=L.length+1:=by rw [eL54,List.length_append]; first|rfl | simp [yl_len]
  refine asg rfl .no (.u rfl) (.nil (.blk (.code (Wk.rg [0,1,2] rfl rfl (mv rfl .no (.u rfl) (ar rfl .no (.u rfl) (.u rfl) rfl (fun _=>wrap_i64 (by omega) (by omega)) ?_))))))
  refine asg rfl .no (.u rfl) (.nil (We.lpo (q+1,v54,L54) ?_ ?_ ?_ ?_ ?_))
  ·exact (ESub.c rfl (ESub.cons rfl (by first|rfl|exact evi (by omega)) (ESub.c rfl (ESub.c rfl (ESub.c rfl ESub.nil)))))
  ·exact (MSub.cons .here rfl (MSub.cons (.there .here) rfl (MSub.cons (.there .here) rfl (MSub.cons (.there .here) rfl (MSub.cons (.there .here) rfl (MSub.cons (.there .here) rfl MSub.nil))))))
  ·first|omega|(dsimp only; omega)
  ·exact hGl1
  refine ⟨?_,?_⟩
  ·(try dsimp only)<;>(first|omega|rfl|assumption|(simp; done))
  (try dsimp only)<;>(rw [eL54,eL,lenB_snoc,←List.append_assoc,lenF_int (by omega)]; rfl)
 have c2k:=c2
 try simp only [qcA,qcB] at c2
 refine .exit (.xcode (.xlp (.xblk (.code (.seq ?_)))))
 have e8:L=tailL xs.length:=by rw [eL,show q=8 by omega]; rfl
 subst e8
 have lt:=tail_len xs.length
 have hz:zeros xs.length=(119-xs.length%64)%64:=rfl
 refine wk_fb .here (keys_sub (MSub.cons (.there (.there (.there .here))) rfl (MSub.cons (.there (.there (.there .here))) rfl MSub.nil))) ?_; intro GfR31 hR31 hleR31 evR31 hsR31; subst evR31
 have hK:=hK.mono hleR31
 refine Wk.rg [0,1] rfl rfl (mv rfl .no (.u rfl) (ka rfl (.inr rfl) Fx.go61 (Evc rfl (Evc rfl Evn)) (mtk2 .here .here) (put_ok xs (tailL xs.length) _ _ _ _ hsR31 hK (by omega)) ?_))
 rintro _ G56 μ56 hG56 ⟨vq,rfl,rfl⟩
 refine .nil (.code (.seq (Wk.rg [0] rfl rfl ?_)))
 refine al rfl Fx.zq34 ?_; intro b7
 refine .nil (.code (.seq (.seq (Wk.rg [0] rfl rfl (mv rfl .no (.u rfl) (.nil (.code (.block ?_))))))))
 refine Wk.lop (α:=Nat×(Nat→Y)) (fun gh=>[(57,true,.int .i64 (gh.1:Int))]) (fun gh=>[.blk b7 (cl (ba 32 gh.2) 34)])
  (fun gh Gl=>(gh.1≤32)∧(gh.2=outs (shaD xs) gh.1)) (fun gh=>32-gh.1) (0,fun _=>0#8) [(2,true,_),(3,true,_),(7,true,_)] [_,_,_,_,_]
  (ESub.cons rfl (by first|rfl|exact evi (by omega)) (ESub.c rfl (ESub.c rfl (ESub.c rfl ESub.nil))))
  (MSub.cons .here rfl (MSub.cons .here rfl (MSub.cons .here rfl (MSub.cons .here rfl (MSub.cons .here rfl (MSub.cons .here rfl MSub.nil)))))) ?_ ?_
 ·refine ⟨?_,?_⟩
  ·(try dsimp only)<;>(first|omega|rfl|assumption|(simp; done))
  (try dsimp only)<;>(first|omega|rfl|assumption|(simp; done))
 intro gh N2 Gl2 hN2 hGl2 hF2
 obtain ⟨i,f⟩:=gh; dsimp only at hF2 hN2 ⊢
 obtain ⟨hi,ef⟩:=hF2
 refine .seq (Wk.rg [0] rfl rfl (cp rfl .no (.u rfl) (.u rfl) rfl (.nil (.code (.seq (.cond rfl (fun c3=>?_) (fun c3=>?_)))))))
 ·have c3k:=c3
  try simp only [qcA,qcB] at c3
  refine .skip (.code (.seq (.block (.seq (Wk.rg [0,1] rfl rfl (mv rfl .no (.u rfl) (asg rfl .no (.u rfl) (.nil (.code (Wk.rg [0,1,2,3,4,5,6,7,8,9,10,11,12,13] rfl rfl (mv rfl .no (.u rfl) (mv rfl .no (.u rfl) (qun (i) (4) rfl .no (.u rfl) (.u rfl) (fun _=>by omega) (fun _=>by omega) (fun _=>by first|decide|omega) (fun _=>by omega) ?_)))))))))))))
  refine fz rfl .no Fx.fo128_0 (.u rfl) (iA rfl .no Fx.ar126 (.u rfl) (.u rfl) (fun _=>by omega) (fun _=>by omega) ?_)
  refine ld rfl .no Fx.ag125 (.u rfl) (fun _=>Rd.own (.there .here) (by first|exact wa_at1 ((i / 4)) (by omega) (by omega)|exact ba_at1 ((i / 4)) (by omega) (by omega)|exact wap_at1 ((i / 4)) (by omega) (by omega)|rfl)) ?_
  refine mv rfl .no (.u rfl) (rmn (i) (4) rfl .no (.u rfl) (.u rfl) (fun _=>by omega) (fun _=>by omega) (fun _=>by first|decide|omega) ?_)
  refine arn (((8*(i%4)):Nat):Int) rfl .no (.u rfl) (.u rfl) rfl (fun _=>by omega) (fun _=>wrap_i64 (by omega) (by omega)) ?_
  refine arn (((24-8*(i%4)):Nat):Int) rfl .no (.u rfl) (.u rfl) rfl (fun _=>by omega) (fun _=>wrap_i64 (by omega) (by omega)) ?_
  refine rw' (k:=.u32) rfl .no (.u rfl) (.u rfl) (fun _=>by omega) ?_
  refine cu (k:=.u32) rfl .no rfl Fx.cv125_5 (.u rfl) ?_
  refine iA rfl .no Fx.ar34 (.u rfl) (.u rfl) (fun _=>by omega) (fun _=>by omega) ?_
  refine s1 rfl (.u rfl) (.u rfl) rfl Fx.sz5 .here (by first|decide|(simp only [wa_len,ba_len,qlA]; omega)) (by first|exact wa_set1 (i) (by omega)|exact ba_set1 (i) (by omega)|exact wap_set1 (i) (by omega) (by omega)|rfl) ?_
  refine .nil (.blk (.code (Wk.rg [0,1] rfl rfl (arn (((i+1):Nat):Int) rfl .no (.u rfl) (.u rfl) rfl (fun _=>by omega) (fun _=>wrap_i64 (by omega) (by omega)) ?_))))
  refine mv rfl .no (.u rfl) (.nil (We.lpo (i+1,upd f i (shaD xs i)) ?_ ?_ ?_ ?_ ?_))
  ·exact (ESub.cons rfl (by first|rfl|exact evi (by omega)) (ESub.c rfl (ESub.c rfl (ESub.c rfl ESub.nil))))
  ·exact (MSub.cons .here rfl (MSub.cons .here rfl (MSub.cons .here rfl (MSub.cons .here rfl (MSub.cons .here rfl (MSub.cons .here rfl MSub.nil))))))
  ·first|omega|(dsimp only; omega)
  ·exact hGl2
  refine ⟨?_,?_⟩
  ·(try dsimp only)<;>(first|omega|rfl|assumption|(simp; done))
  (try dsimp only)<;>(rw [ef]; rfl)
 have c3k:=c3
 try simp only [qcA,qcB] at c3
 refine .exit (.xcode (.xlp (.xblk (.code (.seq (Wk.rg [0,1] rfl rfl (lA rfl .no Fx.ag34 (.u rfl) (fun _=>RdN.own .here) (fun _=>(by first|exact qE|exact qL|rfl)) ?_)))))))
 refine sw rfl (.u rfl) (.u rfl) rfl Fx.sz34 (.there (.there (.there .here))) (by first|exact qE|exact qL|rfl) (by first|exact ba_one _ _|exact wa_one _ _|exact one_V _|decide|exact one_app (wa_one _ _) (by simp [Value.oneCell'])) ?_
 refine .nil (.code (.ret (We.fin Tryd.results62 (.cell rfl (fun w hw=>run_loadVarN Fx.ag34 (RdN.own .here) ((by first|exact qE|exact qL|rfl)) hw) .nil) (MSub.cons (.there (.there (.there (.there .here)))) rfl (MSub.cons (.there (.there (.there (.there .here)))) rfl MSub.nil)) ?_)))
 obtain rfl:i=32:=by omega
 exact ⟨rfl,by rw [ef,ba_congr (fun i hi=>(outs_eq (shaD xs) hi).symm)]; rfl⟩
end Go.Proofs.YtdeobooblmjlfaaDoor
namespace Go.Tan
open Go.RowKit
structure PB (G:PM) (b:Nat) (o:Obj):Prop where
 h:G b=some o
theorem PB.mono {G G':PM} {b:Nat} {o:Obj} (h:PB G b o) (hle:PM.le G G'):PB G' b o:=⟨hle b o h.h⟩
theorem PB.rdn {G:PM} {b o m:Nat} {cs cs':List Value} {T:TypeId} (h:PB G b (cl cs T)) (hc:(cs.drop o).take m=cs'):RdNP G b o cs':=fun j v hj=>by
 subst hc
 refine RdP.blk h.h ?_
 rw [List.getElem?_take] at hj
 split at hj
 ·rw [List.getElem?_drop] at hj; exact hj
 cases hj
theorem PB.rd {G:PM} {b o:Nat} {cs:List Value} {T:TypeId} {v:Value} (h:PB G b (cl cs T)) (hv:cs[o]? = some v):RdP G ⟨b,o,none⟩ v:=RdP.blk h.h hv
theorem PB.sl {G:PM} {b o m cap:Nat} {cs:List Value} {T:TypeId} {f:Nat→Y} (h:PB G b (cl cs T)) (hc:(cs.drop o).take m=ba m f) (hm:m≤cap):SlR G 1 encY ⟨some ⟨b,o,none⟩,cap⟩ (yl m f) :=
 SlR.ofRow (fun _ _=>rfl) (by rw [yl_len]; exact hm) (fun _=>rfl) (by rw [yl_flat]; exact h.rdn hc)
theorem SlR.arr {G:PM} {s:Sh} {xs:List Y} {m:Nat} (h:SlR G 1 encY s xs) (hm:m≤xs.length):RdNP G s.b s.o (ba m (fun i=>xs.getD i 0)):=by
 intro j v hj
 have hlt:j<m:=by have:=(List.getElem?_eq_some_iff.1 hj).1; rwa [ba_len] at this
 rw [ba_at hlt] at hj
 obtain rfl:=Option.some.inj hj
 have:=h.rd j (xs.getD j 0) (by simp [show j<xs.length by omega]) 0 _ rfl
 simpa using this
theorem ba_take {m q:Nat} {f:Nat→Y} (h:q≤m):((ba m f).drop 0).take q=ba q f:=by
 rw [List.drop_zero]
 refine List.ext_getElem? fun j=>?_
 rw [List.getElem?_take]
 by_cases hj:j<q
 ·rw [if_pos hj,ba_at hj,ba_at (by omega)]
 rw [if_neg hj,List.getElem?_eq_none (by rw [ba_len]; omega)]
theorem ba_all {m:Nat} {f:Nat→Y}:((ba m f).drop 0).take m=ba m f:=ba_take (Nat.le_refl m)
theorem app_l {m:Nat} {f:Nat→Y} {r:List Value}:((ba m f++r).drop 0).take m=ba m f:=by
 rw [List.drop_zero,List.take_append_of_le_length (by rw [ba_len]; exact Nat.le_refl _),List.take_of_length_le (by rw [ba_len]; exact Nat.le_refl _)]
theorem app_r {m q:Nat} {f f':Nat→Y}:((ba m f++ba q f').drop m).take q=ba q f':=by
 have h:(ba m f++ba q f').drop m=ba q f':=by have:=List.drop_left (l₁:=ba m f) (l₂:=ba q f'); rwa [ba_len] at this
 rw [h,List.take_of_length_le (by rw [ba_len]; exact Nat.le_refl _)]
def encP (p:Sh×List Y):List Value:=[p.1.val p.2.length]
structure SlP (G:PM) (h:Sh) (ps:List (Sh×List Y)):Prop where
 sl:SlR G 1 encP h ps
 all:∀ p∈ps,SlR G 1 encY p.1 p.2
theorem SlP.mono {G G':PM} {h:Sh} {ps:List (Sh×List Y)} (s:SlP G h ps) (hle:PM.le G G'):SlP G' h ps:=⟨s.sl.mono hle,fun p hp=>(s.all p hp).mono hle⟩
theorem getx {α:Type} {k:Nat} {xs:List α} (h:k<xs.length):∃ x,xs[k]? = some x:=⟨xs[k],by simp [h]⟩
theorem SlP.at {G:PM} {h:Sh} {ps:List (Sh×List Y)} (s:SlP G h ps) {j:Int} (k:Nat) {p:Sh×List Y} (hj:j.toNat=k) (hp:ps[k]? = some p):RdP G ⟨h.b,h.o+j.toNat*1,none⟩ (p.1.val p.2.length):=by
 have:=(s.sl.nth k hj hp) 0 _ rfl
 simpa using this
theorem SlP.get {G:PM} {h:Sh} {ps:List (Sh×List Y)} (s:SlP G h ps) {k:Nat} {p:Sh×List Y} (hp:ps[k]? = some p):SlR G 1 encY p.1 p.2:=s.all p (List.mem_of_getElem? hp)
def catL (ps:List (Sh×List Y)):List Y:=ps.flatMap (·.2)
theorem cat_take {ps:List (Sh×List Y)} {k:Nat} {p:Sh×List Y} (hp:ps[k]? = some p):catL (ps.take (k+1))=catL (ps.take k)++p.2:=by
 have hlt:k<ps.length:=(List.getElem?_eq_some_iff.1 hp).1
 have e:ps[k]=p:=(List.getElem?_eq_some_iff.1 hp).2
 rw [catL,List.take_succ_eq_append_getElem hlt,List.flatMap_append,e]; simp [catL]
theorem cat_len {ps:List (Sh×List Y)} {k:Nat} {p:Sh×List Y} (hp:ps[k]? = some p):(catL (ps.take k)).length+p.2.length≤(catL ps).length:=by
 have h1:=congrArg List.length (cat_take hp)
 rw [List.length_append] at h1
 rw [← h1]
 conv=>rhs; rw [← List.take_append_drop (k+1) ps]
 rw [catL,catL,List.flatMap_append,List.length_append]; omega
section
variable {dr:Bool} {mc:Md} {P:Program} {n:Nat} {l:List Oper} {K:Env→PM→Mem→Prop} {i:Nat} {σ:List Nat} {ρ:Env} {G:PM} {μ:Mem}
variable {d t:Nat} {p:String} {af:Array Edge} {g:Option (Nat×Bool)} {c:Bool}
theorem wk_fz {X:Cx} {cd:Code} {k:List KI} {b:Nat} {o:Obj} {μ':Mem} (hm:MTake μ (.blk b o) μ') (hK:∀ b∈X.K0,b∈keys μ') (h:∀ G',PM.le G G'→PB G' b o→Wk X cd k ρ G' μ'):Wk X cd k ρ G μ :=
 ⟨fun a w ha ht=>by
  have ht':=ht.perm hm.perm
  have hk:keys (.blk b o :: μ')=b :: keys μ':=by simp [keys,Res.keys]
  have hnd:=ht'.sat.nodup
  rw [hk] at hnd
  have hG:G b=none:=ht'.sat.apart b (by rw [hk]; exact List.mem_cons_self ..)
  exact (h _ (PM.le_add hG) ⟨PM.add_same G b o⟩).out a w ha (ht'.freeze fun hb=>(List.nodup_cons.1 hnd).1 (hK b hb))⟩
theorem kA {T T' m e b o:Nat} {x:Operand} {cs:List Value} {f:Nat→Y} (ho:nth l i=some ⟨some d,.slice T x none none none,t,p,af,g⟩) (hg:Gd l ρ g c) (hT:arE P T=some (m,e,1)) (hx:Ev ρ c x (.pointer (some ⟨b,o,none⟩))) (hG:PB G b (cl cs T')) (hc:(cs.drop o).take m=ba m f)
  (h:∀ s' L,L=yl m f→L.length=m→SlR G 1 encY s' L→Wo dr mc P n l K σ ((d,c,s'.val L.length) :: ρ) G μ):Wo dr mc P n l K (i :: σ) ρ G μ:=by
 refine sa0 ho hg hT hx ?_
 have:=h ⟨some ⟨b,o,none⟩,m⟩ (yl m f) rfl (yl_len m f) (hG.sl hc (Nat.le_refl m))
 rw [yl_len] at this
 exact this
theorem sah {T m e sz:Nat} {x z:Operand} {k:IntKind} {b o:Nat} {hi:Int} (ho:nth l i=some ⟨some d,.slice T x none (some z) none,t,p,af,g⟩) (hg:Gd l ρ g c) (hT:arE P T=some (m,e,sz)) (hx:Ev ρ c x (.pointer (some ⟨b,o,none⟩))) (hz:Ev ρ c z (.int k hi))
  (h0:c=true→0≤hi) (h1:c=true→hi≤m) (h:Wo dr mc P n l K σ ((d,c,.slice (some ⟨b,o,none⟩) hi.toNat m) :: ρ) G μ):Wo dr mc P n l K (i :: σ) ρ G μ :=
 .pure ho (.inl rfl) hg (fun hc a w ha=>by
  obtain ⟨hu,inf,hi',hs⟩:=arE_some hT
  have e0:=h0 hc; have e1:=h1 hc
  simp [execOp,hx.eval ha hc,hz.eval ha hc,Instr.sliceAt,run_underlying hu,Instr.sureAddr,Instr.sliceBounds,Instr.sliceBound,asIntOf,sizeOf,typeInfo,hi',e0,e1,add_zero']) h
theorem sp {T m e sz k cap:Nat} {x:Operand} {ad:Addr} (ho:nth l i=some ⟨some d,.sliceToArrayPointer T x,t,p,af,g⟩) (hg:Gd l ρ g c) (hT:arE P T=some (m,e,sz)) (hx:Ev ρ c x (.slice (some ad) k cap)) (hm:c=true→m≤k)
  (h:Wo dr mc P n l K σ ((d,c,.pointer (some ad)) :: ρ) G μ):Wo dr mc P n l K (i :: σ) ρ G μ :=
 .pure ho (.inl rfl) hg (fun hc a w ha=>by
  obtain ⟨hu,inf,hi',hs⟩:=arE_some hT
  have:=hm hc
  simp [execOp,hx.eval ha hc,Instr.arrayAt,run_underlying hu,show ¬ k<m by omega]) h
theorem spS {T m e sz:Nat} {x:Operand} {s:Sh} {xs:List Y} (ho:nth l i=some ⟨some d,.sliceToArrayPointer T x,t,p,af,g⟩) (hg:Gd l ρ g c) (hT:arE P T=some (m,e,sz)) (hs:SlR G 1 encY s xs) (hx:Ev ρ c x (s.val xs.length)) (hm:c=true→m≤xs.length) (h0:0<m)
  (h:Wo dr mc P n l K σ ((d,c,.pointer (some ⟨s.b,s.o,none⟩)) :: ρ) G μ):Wo dr mc P n l K (i :: σ) ρ G μ :=
 .pure ho (.inl rfl) hg (fun hc a w ha=>by
  obtain ⟨hu,inf,hi',hsz⟩:=arE_some hT
  have h1:=hm hc
  have e:=hs.nn (k:=0) (by omega)
  have hx':=hx.eval ha hc
  simp only [Sh.val] at hx'
  rw [e] at hx'
  simp [execOp,hx',Instr.arrayAt,run_underlying hu,show ¬ xs.length<m by omega]) h
def baT (P:Program) (T m:Nat):Bool:=match P.underlying T with
 | some (.array k e)=>(match P.underlying e with | some (.int .u8)=>true | _=>false)&&Nat.beq k m&&Nat.beq (P.cellsOf e) 1&&Nat.beq (P.cellsOf T) m&&P.keyTypeAt 2 T && !P.eqGuardType P.depth T
 | _=>false
theorem ba_lits {T m:Nat} {f:Nat→Y} (h:baT P T m=true):P.keyLits 2 T (ba m f)=some ((yl m f).map fun y=>Lit.int .u8 y.toNat)∧(Value.agg (ba m f).toArray).formed P T=true∧P.keyTypeAt 2 T=true∧P.eqGuardType P.depth T=false:=by
 unfold baT at h
 split at h
 ·rename_i k e hu
  simp only [Bool.and_eq_true,Bool.not_eq_true'] at h
  obtain ⟨⟨⟨⟨⟨he,hk⟩,hce⟩,hcT⟩,hkt⟩,hgu⟩:=h
  split at he
  ·rename_i hue
   have hk:=Nat.eq_of_beq_eq_true hk
   have hce:=Nat.eq_of_beq_eq_true hce
   have hcT:=Nat.eq_of_beq_eq_true hcT
   subst hk
   refine ⟨?_,?_,hkt,hgu⟩
   ·have hone:∀ q∈List.range k,P.keyLits 1 e (((ba k f).drop (q*P.cellsOf e)).take (P.cellsOf e))=some [Lit.int .u8 (f q).toNat]:=by
     intro q hq
     have hq:=List.mem_range.1 hq
     rw [hce,Nat.mul_one]
     have hd:((ba k f).drop q).take 1=[V (f q)]:=by
      refine List.ext_getElem? fun j=>?_
      rw [List.getElem?_take,List.getElem?_drop]
      cases j with
      | zero=>simp [ba_at hq]
      | succ j=>simp
     rw [hd]
     have hlt:=(f q).isLt
     unfold Program.keyLits
     simp [hue,Lit.wf,V,uv,IntKind.min,IntKind.max,IntKind.signed,IntKind.bits]
     omega
    have hmap:∀ (r:List Nat),(∀ q∈r,P.keyLits 1 e (((ba k f).drop (q*P.cellsOf e)).take (P.cellsOf e))=some [Lit.int .u8 (f q).toNat]) →
      r.mapM (fun q=>P.keyLits 1 e (((ba k f).drop (q*P.cellsOf e)).take (P.cellsOf e)))=some (r.map fun q=>[Lit.int .u8 (f q).toNat]):=by
     intro r
     induction r with
     | nil=>intro _; simp
     | cons a r ih=>intro hr; simp [List.mapM_cons,hr a (List.mem_cons_self ..),ih (fun q hq=>hr q (List.mem_cons_of_mem _ hq))]
    have hfl:∀ r:List Nat,(r.map fun q=>[Lit.int .u8 (f q).toNat]).flatten=(r.map f).map fun y=>Lit.int .u8 y.toNat:=by
     intro r
     induction r with
     | nil=>rfl
     | cons a r ih=>simp only [List.map_cons,List.flatten_cons,ih]; rfl
    unfold Program.keyLits
    simp only [hu,ba_len,hcT,if_true,hmap _ hone,Option.map_some,hfl]
    rfl
   simp [Value.formed,hu,ba_len,hcT]
  cases he
 cases h
theorem lits_inj {m:Nat} {f f':Nat→Y} (h:((yl m f).map fun y=>Lit.int .u8 y.toNat)=(yl m f').map fun y=>Lit.int .u8 y.toNat):yl m f=yl m f':=by
 have key:∀ (xs ys:List Y),(xs.map fun y=>Lit.int .u8 y.toNat)=(ys.map fun y=>Lit.int .u8 y.toNat)→xs=ys:=by
  intro xs
  induction xs with
  | nil=>intro ys h; cases ys with
   | nil=>rfl
   | cons y ys=>simp at h
  | cons x xs ih=>intro ys h; cases ys with
   | nil=>simp at h
   | cons y ys =>
    simp only [List.map_cons,List.cons.injEq,Lit.int.injEq,true_and] at h
    rw [ih ys h.2,BitVec.eq_of_toNat_eq (x:=x) (y:=y) (by omega)]
 exact key _ _ h
theorem run_eqB {T m:Nat} {f f':Nat→Y} (h:baT P T m=true) (w:World):(Op.equal T (.agg (ba m f).toArray) (.agg (ba m f').toArray)).run P w=.ok (decide (yl m f=yl m f')) w:=by
 obtain ⟨h1,h2,h3,h4⟩:=ba_lits (f:=f) h
 obtain ⟨h1',h2',_,_⟩:=ba_lits (f:=f') h
 obtain ⟨r,hr,hiff⟩:=run_equalIn_deep 9998 2 T h3 w 2 2 _ _ _ _ h2 h2' (by simpa [Value.cells] using h1) (by simpa [Value.cells] using h1')
 have:r=decide (yl m f=yl m f'):=by
  by_cases e:yl m f=yl m f'
  ·rw [decide_eq_true e]; exact hiff.2 (by rw [e])
  ·rw [decide_eq_false e]
   cases r with
   | false=>rfl
   | true=>exact absurd (lits_inj (hiff.1 rfl)) e
 rw [← this]; exact hr
theorem nqB {T T' m:Nat} {x y:Operand} {f f':Nat→Y} (ho:nth l i=some ⟨some d,.binOp .neq T x y T',t,p,af,g⟩) (hg:Gd l ρ g c) (hT:baT P T m=true) (hx:Ev ρ c x (.agg (ba m f).toArray)) (hy:Ev ρ c y (.agg (ba m f').toArray))
  (h:Wo dr mc P n l K σ ((d,c,.bool (!decide (yl m f=yl m f'))) :: ρ) G μ):Wo dr mc P n l K (i :: σ) ρ G μ :=
 .pure ho (.inl rfl) hg (fun hc a w ha=>by
  simp [execOp,hx.eval ha hc,hy.eval ha hc,eqGuard_agg (ba_lits (f:=f) hT).2.2.2,binOp,run_eqB hT]) h
def WoT (P:Program) (n:Nat) (l:List Oper) (K:Env→PM→Mem→Prop):Nat→Array Bool→Env→PM→Mem→Prop
 | 0,listed,ρ,G,μ=>rdy l listed=[]∧K ρ G μ
 | m+1,listed,ρ,G,μ=>rdy l listed≠[]∧∀ j∈rdy l listed,Wo false (⟨false,false⟩ : Md) P n l (fun ρ' G' μ'=>WoT P n l K m (listed.setIfInBounds j true) ρ' G' μ') [j] ρ G μ
theorem WoT.any {K:Env→PM→Mem→Prop} {Q:Exit→Act→World→Prop} {G0:PM} {K0:List Nat} {w0:World} (hds:∀ j oj,nth l j=some oj→dstOk n oj.dst)
  (hQ:∀ ρ G μ,K ρ G μ→∀ a w,Ag n ρ a→Tr G0 K0 w0 G μ w→Q .normal a w) :
  ∀ (m:Nat) (listed:Array Bool) (ρ:Env) (G:PM) (μ:Mem) (a:Act) (w:World),WoT P n l K m listed ρ G μ→Ag n ρ a→Tr G0 K0 w0 G μ w→wpAny P .any l.toArray Q m listed a w
 | 0,listed,ρ,G,μ,a,w,H,ha,ht=>⟨H.1,hQ _ _ _ H.2 a w ha ht⟩
 | m+1,listed,ρ,G,μ,a,w,H,ha,ht=>by
  refine ⟨fun h0=>absurd h0 H.1,fun j hj=>?_⟩
  obtain ⟨o,ho,h⟩:=(H.2 j hj).head ha ht (next:=wpAny P .any l.toArray Q m (listed.setIfInBounds j true)) (Q:=Q) hds
   (fun ρ' G' μ' a' w' H' ha' ht'=>by cases H' with | nil h=>exact WoT.any hds hQ m _ ρ' G' μ' a' w' h ha' ht')
  simp only [wpOp,nth_eq,ho]
  split
  ·rename_i hw; rw [if_pos hw] at h; exact .inl h
  rename_i hw; rw [if_neg hw] at h; exact h
theorem Wk.drawT {X:Cx} {k:List KI} {id:Nat} {ρ:Env} {G:PM} {μ:Mem} {l:List Oper} (hm:X.P.follows .mixedOrders=true) (hds:dstAll X.n l=true)
  (h:WoT X.P X.n l (fun ρ G μ=>We X .normal k ρ G μ) l.length (Array.replicate l.length false) ρ G μ):Wk X (.region id l.toArray true) k ρ G μ:=by
 refine ⟨fun a w ha ht=>wp_region_any hm ?_⟩
 have:=WoT.any (Q:=Qof X k) (dstAll_ok hds) (fun _ _ _ h a w ha ht=>h.out a w ha ht) l.length (Array.replicate l.length false) ρ G μ a _ h ha ht.drew
 simpa using this
theorem WoT.last {K:Env→PM→Mem→Prop} {listed:Array Bool} (hr:rdy l listed=[]) (h:K ρ G μ):WoT P n l K 0 listed ρ G μ:=⟨hr,h⟩
theorem WoT.n1 {K:Env→PM→Mem→Prop} {m:Nat} {listed:Array Bool} (j:Nat) (hr:rdy l listed=[j]) (h:Wo false (⟨false,false⟩ : Md) P n l (fun ρ' G' μ'=>WoT P n l K m (listed.setIfInBounds j true) ρ' G' μ') [j] ρ G μ):WoT P n l K (m+1) listed ρ G μ :=
 ⟨by rw [hr]; simp,fun j' hj'=>by rw [hr] at hj'; obtain rfl:=List.mem_singleton.1 hj'; exact h⟩
theorem WoT.n2 {K:Env→PM→Mem→Prop} {m:Nat} {listed:Array Bool} (j j2:Nat) (hr:rdy l listed=[j,j2]) (h:Wo false (⟨false,false⟩ : Md) P n l (fun ρ' G' μ'=>WoT P n l K m (listed.setIfInBounds j true) ρ' G' μ') [j] ρ G μ)
  (h2:Wo false (⟨false,false⟩ : Md) P n l (fun ρ' G' μ'=>WoT P n l K m (listed.setIfInBounds j2 true) ρ' G' μ') [j2] ρ G μ):WoT P n l K (m+1) listed ρ G μ :=
 ⟨by rw [hr]; simp,fun j' hj'=>by
  rw [hr] at hj'
  rcases List.mem_cons.1 hj' with rfl | hj'
  ·exact h
  ·obtain rfl:=List.mem_singleton.1 hj'; exact h2⟩
def csT (P:Program) (S:TypeId):Bool:=match P.underlying S with
 | some (.slice e)=>match P.underlying e with | some (.int .u8)=>true | _=>false
 | _=>false
theorem freeze_at {w:World} {b k E:Nat} {C:Array Value} (hb:w.heap[b]? = some (.cells C E (0,0))):∃ fr,(w.freeze ⟨b,k,none⟩ 1).heap[b]? = some (.cells C E fr)∧(∀ c,c≠b→(w.freeze ⟨b,k,none⟩ 1).heap[c]? = w.heap[c]?)∧(w.freeze ⟨b,k,none⟩ 1).heap.size=w.heap.size∧(w.freeze ⟨b,k,none⟩ 1).os=w.os∧(w.freeze ⟨b,k,none⟩ 1).tape=w.tape∧(w.freeze ⟨b,k,none⟩ 1).output=w.output:=by
 unfold World.freeze
 rw [if_neg (by decide)]
 refine ⟨(k,k+1),?_,fun c hc=>?_,by simp,rfl,rfl,rfl⟩
 ·have hlt:b<w.heap.size:=(Array.getElem?_eq_some_iff.1 hb).1
  have hv:=(Array.getElem?_eq_some_iff.1 hb).2
  rw [Array.getElem?_eq_getElem (by simpa using hlt),Array.getElem_modify]; simp [hv]
 simp only [Array.getElem?_modify]
 rw [if_neg (fun e=>hc e.symm)]
theorem mkS {S E b m cap:Nat} {x:Operand} {cs:List Value} {μ':Mem} (ys:List Y) (hdf:dr=false) (ho:nth l i=some ⟨some d,.convert S S x,t,p,af,none⟩) (hS:csT P S=true) (hx:Ev ρ true x (.slice (some ⟨b,0,none⟩) m cap)) (hm:MTake μ (.blk b (cl cs E)) μ') (hcs:cs=ys.map V) (hn:ys.length=m) (hcap:m≤cap)
  (h:∀ G',PM.le G G'→SlR G' 1 encY ⟨some ⟨b,0,none⟩,cap⟩ ys→Wo dr mc P n l K σ ((d,true,Sh.val ⟨some ⟨b,0,none⟩,cap⟩ ys.length) :: ρ) G' μ'):Wo dr mc P n l K (i :: σ) ρ G μ:=by
 subst hn; subst hcs
 refine .act (μ₁:=[.blk b (cl (ys.map V) E)]) (μ₂:=μ') (post:=fun G' μ' v=>μ'=[]∧v=.slice (some ⟨b,0,none⟩) ys.length cap∧∃ fr,G' b=some (.cells (ys.map V).toArray E fr)) ho (.inr hdf) .no hm.perm (fun a w ha hs=>.inl ?_) ?_
 ·unfold csT at hS
  split at hS
  ·rename_i e hu
   split at hS
   ·rename_i hue
    have hs':=hs.left
    have hb:w.heap[b]? = some (cl (ys.map V) E):=hs'.own _ (List.mem_singleton.2 rfl)
    have hG:G b=none:=hs'.apart b (by simp [keys,Res.keys])
    obtain ⟨fr,h1,h2,h3,h4,h5,h6⟩:=freeze_at (k:=(ys.map V).toArray.size) hb
    have hsh:w.shape? b=some (E,(ys.map V).toArray.size):=by unfold World.shape?; rw [hb]
    refine ⟨_,w.freeze ⟨b,(ys.map V).toArray.size,none⟩ 1,G.add b (.cells (ys.map V).toArray E fr),[],.inl ?_,?_,rfl,rfl,fr,PM.add_same _ _ _⟩
    ·simp [execOp,hx.eval ha rfl,convert,run_underlying hu,run_underlying hue,markStringish,hsh]
    refine ⟨⟨fun c u hc=>?_,(fun r hr=>nomatch hr),(fun c hc=>nomatch hc),List.nodup_nil⟩,h4,h5,h6,by omega,fun c hc hK=>?_,(fun c hc=>nomatch hc),fun c u hK hc=>?_⟩
    ·unfold PM.add at hc
     split at hc
     ·rename_i e; subst e; rw [← hc]; exact h1
     rename_i hne; rw [h2 c hne]; exact hs.sub c u hc
    ·have hne:c≠b:=fun e=>hK (by simp [keys,Res.keys,e])
     exact ⟨h2 c hne,by unfold PM.add; rw [if_neg hne]⟩
    have hne:c≠b:=fun e=>hK (by simp [keys,Res.keys,e])
    unfold PM.add; rw [if_neg hne]; exact hc
   cases hS
  cases hS
 rintro v G' μ'' hle ⟨rfl,rfl,fr,hG'⟩
 refine h G' hle (SlR.ofRow (fun _ _=>rfl) hcap (fun _=>rfl) ?_)
 rw [flat_V]
 intro j u hj w hs
 show w.cell? ⟨b,0+j,none⟩=some u
 rw [Nat.zero_add,cell_of_row w b j _ E fr (hs b _ hG')]
 simpa using hj
theorem wo_b {e:Bool} {dd:Nat} (e':Bool) (h:e=e') (H:Wo dr mc P n l K σ ((dd,c,.bool e') :: ρ) G μ):Wo dr mc P n l K σ ((dd,c,.bool e) :: ρ) G μ:=by rw [h]; exact H
theorem skp {o:Oper} (v:Value) (ho:nth l i=some o) (hk:kindOf mc o.op=.pure) (hg:Gd l ρ o.guard false) (h:Wo dr mc P n l K σ (lay ρ o.dst false v) G μ):Wo dr mc P n l K (i :: σ) ρ G μ :=
 .pure ho (.inl hk) hg (fun hc=>nomatch hc) h
theorem skr {o:Oper} (v:Value) (ho:nth l i=some o) (hk:kindOf mc o.op=.read) (hg:Gd l ρ o.guard false) (h:Wo dr mc P n l K σ (lay ρ o.dst false v) G μ):Wo dr mc P n l K (i :: σ) ρ G μ :=
 .read ho (.inl hk) hg (fun hc=>nomatch hc) h
theorem ska {o:Oper} (v:Value) (ho:nth l i=some o) (hk:kindOf mc o.op=.act) (hg:Gd l ρ o.guard false) (h:Wo dr mc P n l K σ (lay ρ o.dst false v) G μ):Wo dr mc P n l K (i :: σ) ρ G μ :=
 .callv (f:=0) (args:=#[]) (Gp:=G) ho (.inr (.inl hk)) hg (fun hc=>nomatch hc) (fun hc=>nomatch hc) h
theorem mw {T T':TypeId} {x y:Operand} {k:IntKind} {a b:BitVec k.bits} (ho:nth l i=some ⟨some d,.binOp .rem T x y T',t,p,af,g⟩) (hg:Gd l ρ g c) (hx:Ev ρ c x (uv k a)) (hy:Ev ρ c y (uv k b)) (h0:c=true→b≠0#k.bits)
  (h:Wo dr mc P n l K σ ((d,c,uv k (a%b)) :: ρ) G μ):Wo dr mc P n l K (i :: σ) ρ G μ :=
 .pure ho (.inl rfl) hg (fun hc q w ha=>by
  have e1:=hx.eval ha hc; have e2:=hy.eval ha hc
  have hq:(eqGuard .rem T x y (uv k a) (uv k b)).run P w=.ok () w:=eqGuard_int ..
  have hb:(b.toNat:Int)≠0:=fun e=>h0 hc (BitVec.eq_of_toNat_eq (by simpa using e))
  have e3:((a.toNat:Int).tmod (b.toNat:Int))=(((a%b).toNat:Nat):Int):=by rw [BitVec.toNat_umod]; rfl
  have hb2:¬ b.toNat=0:=fun e=>hb (by rw [e]; rfl)
  simp only [execOp,e1,e2,Sem.run_bind,hq,Result.andThen_ok]
  simp [binOp,uv,Op.intDiv,hb2]
  simpa using e3) h
end
def fixL (n:BitVec 64) (many:Nat):List Y:=(List.range many).map fun j=>(n >>> (8*j)).setWidth 8
theorem fix_len (n:BitVec 64) (many:Nat):(fixL n many).length=many:=by simp [fixL]
theorem fix_snoc (n:BitVec 64) (k:Nat):fixL n (k+1)=fixL n k++[(n >>> (8*k)).setWidth 8]:=by simp [fixL,List.range_succ]
def crT (key nonce:Nat→Y) (count:W) (xs:List Y) (m:Nat):List Y:=yl xs.length fun i=>if i<m then crF key nonce count xs i else xs.getD i 0
theorem crT_len (key nonce:Nat→Y) (count:W) (xs:List Y) (m:Nat):(crT key nonce count xs m).length=xs.length:=yl_len _ _
theorem yl_congr {n:Nat} {f f':Nat→Y} (h:∀ i,i<n→f i=f' i):yl n f=yl n f':=by
 unfold yl
 refine List.map_congr_left fun i hi=>?_
 rw [h i (List.mem_range.1 hi)]
theorem yl_self (xs:List Y):yl xs.length (fun i=>xs.getD i 0)=xs:=by
 refine List.ext_getElem? fun i=>?_
 by_cases h:i<xs.length
 ·simp [yl,h]
 simp [yl,h]
theorem yl_set {n j:Nat} {f:Nat→Y} {z:Y}:(yl n f).set j z=yl n (upd f j z):=by
 refine List.ext_getElem? fun i=>?_
 rw [List.getElem?_set]
 by_cases h:j=i
 ·subst h
  by_cases hj:j<n
  ·simp [yl,upd,hj]
  simp [yl,hj]
 simp only [if_neg h]
 by_cases hi:i<n
 ·simp [yl,upd,hi,show ¬ i=j from fun e=>h e.symm]
 simp [yl,hi]
theorem crT_zero (key nonce:Nat→Y) (count:W) (xs:List Y):crT key nonce count xs 0=xs:=by
 unfold crT
 rw [yl_congr (f':=fun i=>xs.getD i 0) (fun i _=>by simp),yl_self]
theorem crT_all {key nonce:Nat→Y} {count:W} {xs:List Y} {m:Nat} (h:xs.length≤m):crT key nonce count xs m=crossL key nonce count xs:=by
 unfold crT crossL
 exact yl_congr fun i hi=>by rw [if_pos (by omega)]
theorem crT_step {key nonce:Nat→Y} {count:W} {xs:List Y} {j i:Nat} (hi:i<64) (hl:64*j+i<xs.length) :
  (crT key nonce count xs (64*j+i)).set (64*j+i) ((crT key nonce count xs (64*j+i)).getD (64*j+i) 0 ^^^ chaB key nonce (count+BitVec.ofNat 32 j) i)=crT key nonce count xs (64*j+(i+1)):=by
 unfold crT
 rw [yl_at hl,if_neg (by omega),yl_set]
 refine yl_congr fun q hq=>?_
 unfold upd
 by_cases h:q=64*j+i
 ·rw [if_pos h,if_pos (by omega),h]
  unfold crF
  rw [show (64*j+i) / 64=j by omega,show (64*j+i)%64=i by omega]
 rw [if_neg h]
 show (if q<64*j+i then crF key nonce count xs q else xs.getD q 0)=_
 by_cases h2:q<64*j+i
 ·rw [if_pos h2,if_pos (by omega)]
 rw [if_neg h2,if_neg (by omega)]
def keyL (key:List Y):List Y:=if key.length > 64 then shaL key else key
def padF (key:List Y) (by':Y):Nat→Y:=fun i=>if i<(keyL key).length then by' ^^^ (keyL key).getD i 0 else by'
def macL (key xs:List Y):Nat→Y:=shaD (yl 64 (padF key 92#8)++shaL (yl 64 (padF key 54#8)++xs))
def tagL (ad nonce crossed:List Y):List Y:=fixL (BitVec.ofInt 64 (ad.length:Int)) 8++ad++nonce++crossed
def tagF (mac nonce:Nat→Y) (ad crossed:List Y):Nat→Y:=macL (yl 32 mac) (tagL ad (yl 12 nonce) crossed)
def sealL (enc mac nonce:Nat→Y) (ad text:List Y):List Y:=crossL enc nonce 1#32 text++yl 16 (tagF mac nonce ad (crossL enc nonce 1#32 text))
def openL (enc mac nonce:Nat→Y) (ad s:List Y):Option (List Y) :=
 if s.length<16 then none
 else if yl 16 (tagF mac nonce ad (s.take (s.length-16)))=s.drop (s.length-16) then some (crossL enc nonce 1#32 (s.take (s.length-16))) else none
theorem cross_len (key nonce:Nat→Y) (count:W) (xs:List Y):(crossL key nonce count xs).length=xs.length:=yl_len _ _
theorem seal_len (enc mac nonce:Nat→Y) (ad text:List Y):(sealL enc mac nonce ad text).length=text.length+16:=by simp [sealL,cross_len,yl_len]
theorem cr_end {key nonce:Nat→Y} {count:W} {xs:List Y} {j i:Nat} (h:i=min (xs.length-64*j) 64):crT key nonce count xs (64*j+i)=crT key nonce count xs (64*(j+1)):=by
 unfold crT
 refine yl_congr fun q hq=>?_
 by_cases h1:q<64*j+i
 ·rw [if_pos h1,if_pos (by omega)]
 rw [if_neg h1,if_neg (by omega)]
theorem cut_oa {b o lo cap:Nat} (h:lo<cap) {q:Nat} (hq:q=o+lo):(Sh.cut ⟨some ⟨b,o,none⟩,cap⟩ lo 1).oa=some ⟨b,q,none⟩:=by
 subst hq
 unfold Sh.cut
 rw [if_neg (by show ¬ cap=lo; omega)]
 simp [add_lit]
theorem open_short {enc mac nonce:Nat→Y} {ad s:List Y} (h:s.length<16):openL enc mac nonce ad s=none:=by unfold openL; rw [if_pos h]
theorem open_bad {enc mac nonce:Nat→Y} {ad s:List Y} (h:16≤s.length) (hn:¬ yl 16 (tagF mac nonce ad (s.take (s.length-16)))=s.drop (s.length-16)):openL enc mac nonce ad s=none:=by
 unfold openL; rw [if_neg (by omega),if_neg hn]
theorem open_good {enc mac nonce:Nat→Y} {ad s:List Y} (h:16≤s.length) (hn:yl 16 (tagF mac nonce ad (s.take (s.length-16)))=s.drop (s.length-16)):openL enc mac nonce ad s=some (crossL enc nonce 1#32 (s.take (s.length-16))):=by
 unfold openL; rw [if_neg (by omega),if_pos hn]
theorem cross_cross (key nonce:Nat→Y) (count:W) (xs:List Y):crossL key nonce count (crossL key nonce count xs)=xs:=by
 conv=>rhs; rw [← yl_self xs]
 rw [crossL,cross_len]
 refine yl_congr fun i hi=>?_
 unfold crF
 rw [show (crossL key nonce count xs).getD i 0=crF key nonce count xs i from yl_at hi]
 unfold crF
 rw [BitVec.xor_assoc,BitVec.xor_self,BitVec.xor_zero]
theorem open_seal (enc mac nonce:Nat→Y) (ad text:List Y):openL enc mac nonce ad (sealL enc mac nonce ad text)=some text:=by
 have hl:=seal_len enc mac nonce ad text
 have hc:=cross_len enc nonce 1#32 text
 have ht:(sealL enc mac nonce ad text).take ((sealL enc mac nonce ad text).length-16)=crossL enc nonce 1#32 text:=by
  rw [hl,show text.length+16-16=(crossL enc nonce 1#32 text).length by omega]; exact List.take_left
 have hd:(sealL enc mac nonce ad text).drop ((sealL enc mac nonce ad text).length-16)=yl 16 (tagF mac nonce ad (crossL enc nonce 1#32 text)):=by
  rw [hl,show text.length+16-16=(crossL enc nonce 1#32 text).length by omega]; exact List.drop_left
 rw [open_good (by omega) (by rw [ht,hd]),ht,cross_cross]
def OpenR (o:Option (List Y)) (L:List Y) (e:Int):Prop:=(o=some L∧e=0)∨(o=none∧L=[]∧e=60)
theorem OpenR.ok {o:Option (List Y)} {L:List Y} {e:Int} (h:OpenR o L e):(e == 0)=o.isSome:=by
 rcases h with ⟨rfl,rfl⟩ | ⟨rfl,_,rfl⟩<;>rfl
theorem OpenR.some {L L':List Y} {e:Int} (h:OpenR (some L') L e):L=L'∧e=0:=by
 rcases h with ⟨h,rfl⟩ | ⟨h,_⟩
 ·exact ⟨(Option.some.inj h).symm,rfl⟩
 ·cases h
theorem OpenR.none {L:List Y} {e:Int} (h:OpenR none L e):L=[]∧e=60:=by
 rcases h with ⟨h,_⟩ | ⟨_,h⟩
 ·cases h
 ·exact h
theorem OpenR.uniq {o:Option (List Y)} {L L':List Y} {e e':Int} (h:OpenR o L e) (h':OpenR o L' e'):L=L'∧e=e':=by
 rcases h with ⟨h1,rfl⟩ | ⟨h1,rfl,rfl⟩
 ·rw [h1] at h'; obtain ⟨rfl,rfl⟩:=h'.some; exact ⟨rfl,rfl⟩
 ·rw [h1] at h'; obtain ⟨rfl,rfl⟩:=h'.none; exact ⟨rfl,rfl⟩
end Go.Tan
namespace Go.Proofs.YtdeobooblmjlfaaDoor
open Go.Tan Go.RowKit
namespace Fx
theorem ag33:aggN Tryd.prog 33=some (some 32):=by kernel_rfl
theorem ag122:aggN Tryd.prog 122=some (some 12):=by kernel_rfl
theorem go96:goFn Tryd.prog 96=true:=by kernel_rfl
theorem se72:slE Tryd.prog 72=some (42,1,24):=by kernel_rfl
theorem sn72:(slE Tryd.prog 72).isSome=true:=by kernel_rfl
theorem go62:goFn Tryd.prog 62=true:=by kernel_rfl
end Fx
theorem Fix_ok (xs:List Y) (h:Sh) (n:BitVec 64) (many:Nat) (G:PM) (hs:SlR G 1 encY h xs) (hl:xs.length≤140737488351232) (hm:many≤8):Ct Tryd.prog 31 ([h.val xs.length,uv .u64 n,.int .i64 (many:Int)]:List Value).toArray G [] (PR 5 (fun L=>L=xs++fixL n many)):=by
 refine Ct.of Tryd.func31 rfl Tryd.ntmps31 rfl fun w0 hs0=>?_
 refine .seq (Wk.rg [0] rfl rfl (asg rfl .no (.u rfl) (.nil (.code (.seq (Wk.rg [0,1,2,3] rfl rfl ?_))))))
 refine b0B rfl Fx.se42 ?_; intro b8
 refine mv rfl .no (.u rfl) (apY0 rfl Fx.se42 Fx.zv5 (.u rfl) (.u rfl) .here hs.sc (by (try simp only [qlA,yl_len]); omega) ?_)
 intro v10 L10 _ ov10 eL10
 have lL10:L10.length=xs.length:=by rw [eL10]
 refine asg rfl .no (.u rfl) (.nil (.code (.seq (.seq (Wk.rg [0,1,2,3] rfl rfl (mv rfl .no (.u rfl) (mIn (many) (8) rfl .no (.u rfl) (.u rfl) (fun _=>by omega) (fun _=>by omega) ?_)))))))
 refine mAn (0) ((min many 8)) rfl .no (.u rfl) (.u rfl) (fun _=>by omega) (fun _=>by omega) ?_
 refine mv rfl .no (.u rfl) (.nil (.code (.block ?_)))
 refine Wk.lop (α:=Nat×Value×List Y×BitVec 64) (fun gh=>[(1,true,uv .u64 gh.2.2.2),(7,true,gh.2.1),(14,true,.int .i64 (gh.1:Int))]) (fun gh=>[rB gh.2.1 5 gh.2.2.1])
  (fun gh Gl=>(gh.1≤many)∧(gh.2.2.1=xs++fixL n gh.1)∧(gh.2.2.2=n >>> (8*gh.1))) (fun gh=>many-gh.1) (0,_,_,n) [(13,true,_)] []
  (ESub.c rfl (ESub.c rfl (ESub.cons rfl (by first|rfl|exact evi (by omega)) (ESub.c rfl ESub.nil))))
  (MSub.cons .here rfl MSub.nil) ?_ ?_
 ·refine ⟨?_,?_,?_⟩
  ·(try dsimp only)<;>(first|omega|rfl|assumption|(simp; done))
  ·(try dsimp only)<;>(rw [eL10]; simp [fixL])
  (try dsimp only)<;>(simp)
 intro gh N0 Gl0 hN0 hGl0 hF0
 obtain ⟨k,v,L,m⟩:=gh; dsimp only at hF0 hN0 ⊢
 obtain ⟨hk,eL,em⟩:=hF0
 have lL:L.length=xs.length+k:=by rw [eL]; simp [fix_len]
 refine .seq (Wk.rg [0] rfl rfl (cp rfl .no (.u rfl) (.u rfl) rfl (.nil (.code (.seq (.cond rfl (fun c1=>?_) (fun c1=>?_)))))))
 ·have c1k:=c1
  try simp only [qcA,qcB] at c1
  refine .skip (.code (.seq (.block (.seq (Wk.rg [0,1,2,3,4,5] rfl rfl (mv rfl .no (.u rfl) (mv rfl .no (.u rfl) (cu (k:=.u64) rfl .no rfl Fx.cv24_5 (.u rfl) ?_))))))))
  refine Go.Tan.b1 rfl Fx.se42 Fx.zv5 (.u rfl) rfl rfl (by decide) ?_; intro b19
  refine apY rfl Fx.se42 Fx.zv5 (.u rfl) (.u rfl) (.there .here) (Sc.one .here) (by show _+1≤_; omega) ?_
  intro v20 L20 ov20 eL20
  have lL20:L20.length=L.length+1:=by rw [eL20,List.length_append]; first|rfl | simp [yl_len]
  refine asg rfl .no (.u rfl) (.nil (.code (Wk.rg [0,1,2] rfl rfl (mv rfl .no (.u rfl) (rw' (k:=.u64) rfl .no (.u rfl) (.u rfl) (fun _=>by decide) ?_)))))
  refine asg rfl .no (.u rfl) (.nil (.blk (.code (Wk.rg [0,1] rfl rfl (arn (((k+1):Nat):Int) rfl .no (.u rfl) (.u rfl) rfl (fun _=>by omega) (fun _=>wrap_i64 (by omega) (by omega)) ?_)))))
  refine mv rfl .no (.u rfl) (.nil (We.lpo (k+1,v20,L20,m >>> 8) ?_ ?_ ?_ ?_ ?_))
  ·exact (ESub.c rfl (ESub.c rfl (ESub.cons rfl (by first|rfl|exact evi (by omega)) (ESub.c rfl ESub.nil))))
  ·exact (MSub.cons .here rfl MSub.nil)
  ·first|omega|(dsimp only; omega)
  ·exact hGl0
  refine ⟨?_,?_,?_⟩
  ·(try dsimp only)<;>(first|omega|rfl|assumption|(simp; done))
  ·(try dsimp only)<;>(rw [eL20,eL,em,fix_snoc,List.append_assoc]; rfl)
  (try dsimp only)<;>(rw [em,←BitVec.shiftRight_add]; rfl)
 have c1k:=c1
 try simp only [qcA,qcB] at c1
 refine .exit (.xcode (.xlp (.xblk (.code (.seq (Wk.rg [0,1] rfl rfl (mv rfl .no (.u rfl) (asg rfl .no (.u rfl) (.nil (.code (.ret (We.fin Tryd.results31 (.tmp rfl .nil) (MSub.cons .here rfl MSub.nil) ?_))))))))))))
 obtain rfl:k=many:=by omega
 exact ⟨L,eL,rfl⟩
theorem Cross_ok (key nonce:Nat→Y) (count:W) (h:Sh) (xs:List Y) (G:PM) (hs:SlR G 1 encY h xs) (hl:xs.length≤140737488351232):Ct Tryd.prog 79 ([.agg (ba 32 key).toArray,.agg (ba 12 nonce).toArray,U count,h.val xs.length]:List Value).toArray G [] (PR 5 (fun L=>L=crossL key nonce count xs)):=by
 refine Ct.of Tryd.func79 rfl Tryd.ntmps79 rfl fun w0 hs0=>?_
 refine .seq (Wk.rg [0,1,2] rfl rfl ?_)
 refine bx rfl (.u rfl) rfl ?_; intro b4
 refine bx rfl (.u rfl) rfl ?_; intro b5
 refine asg rfl .no (.u rfl) (.nil (.code (.seq (Wk.rg [0,1,2,3] rfl rfl ?_))))
 refine b0B rfl Fx.se42 ?_; intro b14
 refine mv rfl .no (.u rfl) (apY0 rfl Fx.se42 Fx.zv5 (.u rfl) (.u rfl) .here hs.sc (by (try simp only [qlA,yl_len]); omega) ?_)
 intro v16 L16 _ ov16 eL16
 have lL16:L16.length=xs.length:=by rw [eL16]
 refine asg rfl .no (.u rfl) (.nil (.code (.seq (.seq ?_))))
 refine wk_rs .here ?_; intro sR16 bbR16 evR16 lcR16 oaR16; subst evR16
 obtain rfl:=eL16.symm
 refine Wk.rg [0,1] rfl rfl (mv rfl .no (.u rfl) (asg rfl .no (.u rfl) (.nil (.code (.block ?_)))))
 refine Wk.lop (α:=Nat×Sh×List Y) (fun gh=>[(2,true,U (count+BitVec.ofNat 32 gh.1)),(10,true,gh.2.1.val (xs.length-64*gh.1))]) (fun gh=>[rB (sR16.val xs.length) 5 gh.2.2])
  (fun gh Gl=>(gh.2.2.length=xs.length)∧(gh.2.2=crT key nonce count xs (64*gh.1))∧(64*gh.1<xs.length→gh.2.1.oa=some ⟨bbR16,64*gh.1,none⟩)∧(xs.length-64*gh.1≤gh.2.1.cap)) (fun gh=>xs.length-64*gh.1) (0,sR16,xs) [(4,true,_),(5,true,_),(9,true,_)] [_,_]
  (ESub.cons rfl (by simp) (ESub.c rfl (ESub.c rfl (ESub.c rfl (ESub.c rfl ESub.nil)))))
  (MSub.cons .here rfl (MSub.cons .here rfl (MSub.cons .here rfl MSub.nil))) ?_ ?_
 ·refine ⟨?_,?_,?_,?_⟩
  ·(try dsimp only)<;>(rfl)
  ·(try dsimp only)<;>(exact (crT_zero _ _ _ _).symm)
  ·(try dsimp only)<;>(exact oaR16)
  (try dsimp only)<;>(exact lcR16)
 intro gh N0 Gl0 hN0 hGl0 hF0
 obtain ⟨j,r,L⟩:=gh; dsimp only at hF0 hN0 ⊢
 obtain ⟨lL,eL,hr,hrc⟩:=hF0
 refine .seq (.seq (Wk.rg [0,1,2] rfl rfl (mv rfl .no (.u rfl) (ln rfl .no Fx.sn42 (.u rfl) (cp rfl .no (.u rfl) (.u rfl) rfl (.nil (.code (.cond rfl (fun c1=>?_) (fun c1=>?_)))))))))
 ·have c1k:=c1
  try simp only [qcA,qcB] at c1
  refine .skip (.code (.seq (.block (.seq ?_))))
  have hlt:64*j<xs.length:=by omega
  have e1:=oaR16 (by omega)
  have e2:=hr hlt
  obtain ⟨so,sc⟩:=sR16
  obtain ⟨ro,rc⟩:=r
  simp only at e1 e2
  subst e1; subst e2
  refine Wk.rg [0,1,2,3,4,5] rfl rfl (lA rfl .no Fx.ag33 (.u rfl) (fun _=>RdN.own (.there (.there .here))) (fun _=>(by first|exact qE|exact qL|rfl)) ?_)
  refine lA rfl .no Fx.ag122 (.u rfl) (fun _=>RdN.own (.there .here)) (fun _=>(by first|exact qE|exact qL|rfl)) ?_
  refine mv rfl .no (.u rfl) (kv rfl .no Fx.go96 (Evc rfl (Evc rfl (Evc rfl Evn))) (fun _=>Block_ok _ _ _ _) ?_)
  refine al rfl Fx.zq175 ?_; intro b11
  refine sw rfl (.u rfl) (.u rfl) rfl Fx.sz175 .here (by first|exact qE|exact qL|rfl) (ba_one _ _) ?_
  refine .nil (.code (.seq (Wk.rg [0,1,2,3] rfl rfl (mv rfl .no (.u rfl) (ln rfl .no Fx.sn42 (.u rfl) (mIn ((xs.length-64*j)) (64) rfl .no (.u rfl) (.u rfl) (fun _=>by omega) (fun _=>by omega) ?_))))))
  refine asg rfl .no (.u rfl) (.nil (.code (.seq (.seq (Wk.rg [0,1] rfl rfl (mv rfl .no (.u rfl) (mv rfl .no (.u rfl) (.nil (.code (.block ?_))))))))))
  refine Wk.lop (α:=Nat×List Y) (fun gh=>[(31,true,.int .i64 (gh.1:Int))]) (fun gh=>[rB (Sh.val ⟨some ⟨bbR16,0,none⟩,sc⟩ xs.length) 5 gh.2])
   (fun gh Gl=>(gh.1≤min (xs.length-64*j) 64)∧(gh.2=crT key nonce count xs (64*j+gh.1))) (fun gh=>64-gh.1) (0,L) [(2,true,_),(4,true,_),(5,true,_),(9,true,_),(10,true,_),(11,true,_),(12,true,_),(30,true,_)] [_,_,_]
   (ESub.cons rfl (by first|rfl|exact evi (by omega)) (ESub.c rfl (ESub.c rfl (ESub.c rfl (ESub.c rfl (ESub.c rfl (ESub.c rfl (ESub.c rfl (ESub.c rfl ESub.nil)))))))))
   (MSub.cons (.there .here) rfl (MSub.cons .here rfl (MSub.cons .here rfl (MSub.cons .here rfl MSub.nil)))) ?_ ?_
  ·refine ⟨?_,?_⟩
   ·(try dsimp only)<;>(exact Nat.zero_le _)
   (try dsimp only)<;>(rw [eL]; rfl)
  intro gh N1 Gl1 hN1 hGl1 hF1
  obtain ⟨i,L2⟩:=gh; dsimp only at hF1 hN1 ⊢
  obtain ⟨hi,eL2⟩:=hF1
  have lL2:L2.length=xs.length:=by rw [eL2,crT_len]
  refine .seq (Wk.rg [0] rfl rfl (cp rfl .no (.u rfl) (.u rfl) rfl (.nil (.code (.seq (.cond rfl (fun c2=>?_) (fun c2=>?_)))))))
  ·have c2k:=c2
   try simp only [qcA,qcB] at c2
   refine .skip (.code (.seq (.block (.seq (Wk.rg [0,1] rfl rfl (mv rfl .no (.u rfl) (asg rfl .no (.u rfl) (.nil (.code (Wk.draw (mc:=⟨false,false⟩) [0,1,2,3,4,5,6,7,8,9] Fx.mix (by kernel_rfl) ?_))))))))))
   refine mv rfl .no (.u rfl) (mv rfl .no (.u rfl) (ih rfl .no Fx.se42 (.u rfl) (.u rfl) (fun _=>by omega) (fun _=>by omega) (fun _=>rfl) ?_))
   refine ld rfl .no Fx.ag5 (.u rfl) (fun _=>Rd.row .here (map_at1 (o:=64*j) (64*j+i) (by omega) (by omega))) ?_
   refine mv rfl .no (.u rfl) (iA rfl .no Fx.ar175 (.u rfl) (.u rfl) (fun _=>by omega) (fun _=>by omega) ?_)
   refine ld rfl .no Fx.ag5 (.u rfl) (fun _=>Rd.own (.there .here) (by first|exact wa_at1 (i) (by omega) (by omega)|exact ba_at1 (i) (by omega) (by omega)|exact wap_at1 (i) (by omega) (by omega)|rfl)) ?_
   refine bw (k:=.u8) rfl .no rfl (.u rfl) (.u rfl) rfl (ih rfl .no Fx.se42 (.u rfl) (.u rfl) (fun _=>by omega) (fun _=>by omega) (fun _=>rfl) ?_)
   refine s1r rfl (.u rfl) (.u rfl) Fx.sz5 .here (by show 64*j+_*1<_; omega) ?_; intro L9 eL9 lL9
   refine .nil (.blk (.code (Wk.rg [0,1] rfl rfl (arn (((i+1):Nat):Int) rfl .no (.u rfl) (.u rfl) rfl (fun _=>by omega) (fun _=>wrap_i64 (by omega) (by omega)) ?_))))
   refine mv rfl .no (.u rfl) (.nil (We.lpo (i+1,L9) ?_ ?_ ?_ ?_ ?_))
   ·exact (ESub.cons rfl (by first|rfl|exact evi (by omega)) (ESub.c rfl (ESub.c rfl (ESub.c rfl (ESub.c rfl (ESub.c rfl (ESub.c rfl (ESub.c rfl (ESub.c rfl ESub.nil)))))))))
   ·exact (MSub.cons .here rfl (MSub.cons .here rfl (MSub.cons .here rfl (MSub.cons .here rfl MSub.nil))))
   ·first|omega|(dsimp only; omega)
   ·exact hGl1
   refine ⟨?_,?_⟩
   ·(try dsimp only)<;>(omega)
   (try dsimp only)<;>(rw [eL9,eL2,show (Sh.o ⟨some ⟨bbR16,64*j,none⟩,rc⟩+(i:Int).toNat*1)=64*j+i from (by show 64*j+_*1=_; omega)]; exact crT_step (xs:=xs) (j:=j) (i:=i) (by omega) (by omega))
  have c2k:=c2
  try simp only [qcA,qcB] at c2
  refine .exit (.xcode (.xlp (.xblk (.code (Wk.rg [0,1,2,3] rfl rfl (mv rfl .no (.u rfl) (mv rfl .no (.u rfl) (sd rfl .no Fx.se42 (.u rfl) (.u rfl) (fun _=>by omega) (fun _=>by omega) ?_))))))))
  refine asg rfl .no (.u rfl) (.nil (.blk (.code (Wk.rg [0,1,2] rfl rfl (mv rfl .no (.u rfl) (bw (k:=.u32) (b:=1#32) rfl .no rfl (.u rfl) (.u rfl) rfl (asg rfl .no (.u rfl) (.nil (We.lpo (j+1,Sh.cut ⟨some ⟨bbR16,64*j,none⟩,rc⟩ (min (xs.length-64*j) 64) 1,L2) ?_ ?_ ?_ ?_ ?_)))))))))
  ·exact (ESub.cons rfl (by show U (count+BitVec.ofNat 32 j+1#32)=U (count+BitVec.ofNat 32 (j+1)); rw [BitVec.add_assoc,←BitVec.ofNat_add]) (ESub.cons rfl (congrArg (Sh.val _) (by omega)) (ESub.c rfl (ESub.c rfl (ESub.c rfl ESub.nil)))))
  ·exact (MSub.cons .here (by rfl) (MSub.cons (.there .here) rfl (MSub.cons (.there .here) rfl MSub.nil)))
  ·first|omega|(dsimp only; omega)
  ·exact (hGl0).trans hGl1
  refine ⟨?_,?_,?_,?_⟩
  ·(try dsimp only)<;>(rw [eL2,crT_len])
  ·(try dsimp only)<;>(rw [eL2]; exact cr_end (by omega))
  ·(try dsimp only)<;>(intro h3; have hrc2:xs.length-64*j≤rc:=hrc; exact cut_oa (by omega) (by omega))
  (try dsimp only)<;>(show _≤rc-_; have hrc2:xs.length-64*j≤rc:=hrc; omega)
 have c1k:=c1
 try simp only [qcA,qcB] at c1
 refine .exit (.xcode (.xlp (.xblk (.code (.seq (Wk.rg [0,1] rfl rfl (mv rfl .no (.u rfl) (asg rfl .no (.u rfl) (.nil (.code (.ret (We.fin Tryd.results79 (.tmp rfl .nil) (MSub.cons .here rfl MSub.nil) ?_))))))))))))
 exact ⟨L,by rw [eL,crT_all (by omega)],rfl⟩
theorem shaSum_ok (ps:List (Sh×List Y)) (h:Sh) (G:PM) (hs:SlP G h ps) (hK:RdNP G 1 0 (wa 64 kW)) (hl:(catL ps).length≤1152921504606846976) (hn:ps.length≤1000):Ct Tryd.prog 32 ([h.val ps.length]:List Value).toArray G [] (fun _ μ' u=>μ'=[]∧u=.agg (ba 32 (shaD (catL ps))).toArray):=by
 refine Ct.of Tryd.func32 rfl Tryd.ntmps32 rfl fun w0 hs0=>?_
 refine .seq (Wk.rg [0] rfl rfl ?_)
 refine al rfl Fx.zq34 ?_; intro b2
 refine .nil (.code (.seq (Wk.rg [0,1,2] rfl rfl (kv rfl .no Fx.go60 Evn (fun _=>begin_ok _) ?_))))
 refine al rfl Fx.zr128 ?_; intro b3
 refine sw rfl (.u rfl) (.u rfl) rfl Fx.sz128 .here (by rfl) (one_app (wa_one _ _) (one2 rfl rfl)) ?_
 refine .nil (we_nilB 5 ?_)
 refine .code (.seq (.seq (Wk.rg [0,1,2] rfl rfl (mv rfl .no (.u rfl) (ln rfl .no Fx.sn72 (.u rfl) (mv rfl .no (.u rfl) (.nil (.code (.block ?_)))))))))
 refine Wk.lop (α:=Nat×Value) (fun gh=>[(9,true,.int .i64 (gh.1:Int))]) (fun gh=>[rB gh.2 5 (restL (catL (ps.take gh.1))),.blk b3 (cl (stC (catL (ps.take gh.1)) gh.2) 128)])
  (fun gh Gl=>(gh.1≤ps.length)) (fun gh=>ps.length-gh.1) (0,.slice none 0 0) [(2,true,_),(3,true,_),(7,true,_),(8,true,_)] [_]
  (ESub.cons rfl (by first|rfl|exact evi (by omega)) (ESub.c rfl (ESub.c rfl (ESub.c rfl (ESub.c rfl ESub.nil)))))
  (MSub.cons .here (by simp [restL,catL]) (MSub.cons .here rfl (MSub.cons .here rfl MSub.nil))) ?_ ?_
 ·(try dsimp only)<;>(first|omega|rfl|assumption|(simp; done))
 intro gh N0 Gl0 hN0 hGl0 hF0
 obtain ⟨k,vq⟩:=gh; dsimp only at hF0 hN0 ⊢
 have hk:=hF0
 have hs:=hs.mono hGl0
 have hK:=hK.mono hGl0
 refine .seq (Wk.rg [0] rfl rfl (cp rfl .no (.u rfl) (.u rfl) rfl (.nil (.code (.seq (.cond rfl (fun c1=>?_) (fun c1=>?_)))))))
 ·have c1k:=c1
  try simp only [qcA,qcB] at c1
  refine .skip (.code (.seq (.block (.seq (Wk.rg [0,1,2] rfl rfl (ih rfl .no Fx.se72 (.u rfl) (.u rfl) (fun _=>by omega) (fun _=>by omega) (fun _=>hs.sl.nn (k:=k) (by omega)) ?_))))))
  obtain ⟨p12,ep12⟩:=getx (k:=k) (xs:=ps) (by omega)
  have hq12:=hs.get ep12
  refine ld rfl .no Fx.ag42 (.u rfl) (fun _=>(hs.at (k) (by omega) ep12).rd) ?_
  refine asg rfl .no (.u rfl) (.nil (.code (Wk.rg [0,1] rfl rfl (mv rfl .no (.u rfl) (ka rfl (.inr rfl) Fx.go61 (Evc rfl (Evc rfl Evn)) (mtk2 (.there .here) .here) (put_ok (catL (ps.take k)) p12.2 _ _ _ _ hq12 hK (by have:=cat_len ep12; omega)) ?_)))))
  rintro _ G14 μ14 hG14 ⟨vq',rfl,rfl⟩
  have hK:=hK.mono hG14
  refine .nil (.blk (.code (Wk.rg [0,1] rfl rfl (arn (((k+1):Nat):Int) rfl .no (.u rfl) (.u rfl) rfl (fun _=>by omega) (fun _=>wrap_i64 (by omega) (by omega)) ?_))))
  refine mv rfl .no (.u rfl) (.nil (We.lpo (k+1,vq') ?_ ?_ ?_ ?_ ?_))
  ·exact (ESub.cons rfl (by first|rfl|exact evi (by omega)) (ESub.c rfl (ESub.c rfl (ESub.c rfl (ESub.c rfl ESub.nil)))))
  ·exact (MSub.cons (.there .here) (by rw [cat_take ep12]) (MSub.cons .here (by rw [cat_take ep12]) (MSub.cons .here rfl MSub.nil)))
  ·first|omega|(dsimp only; omega)
  ·exact (hGl0).trans hG14
  (try dsimp only)<;>(first|omega|rfl|assumption|(simp; done))
 have c1k:=c1
 try simp only [qcA,qcB] at c1
 refine .exit (.xcode (.xlp (.xblk (.code (.seq ?_)))))
 obtain rfl:k=ps.length:=by omega
 rw [List.take_length]
 refine Wk.rg [0,1] rfl rfl (ka rfl (.inr rfl) Fx.go62 (Evc rfl Evn) (mtk2 (.there .here) .here) (StSum_ok (catL ps) _ _ _ hK hl) ?_)
 rintro _ G16 μ16 hG16 ⟨rfl,rfl⟩
 refine sw rfl (.u rfl) (.u rfl) rfl Fx.sz34 (.there (.there .here)) (by first|exact qE|exact qL|rfl) (by first|exact ba_one _ _|exact wa_one _ _|exact one_V _|decide|exact one_app (wa_one _ _) (by simp [Value.oneCell'])) ?_
 refine .nil (.code (.ret (We.fin0 Tryd.results32 (.cell rfl (fun w hw=>run_loadVarN Fx.ag34 (RdN.own .here) ((by first|exact qE|exact qL|rfl)) hw) .nil) ?_)))
 exact ⟨rfl,rfl⟩
namespace Fx
theorem zv42:(Tryd.prog.info? 42).bind (·.zero)=some (.slice none 0 0):=by kernel_rfl
theorem go32:goFn Tryd.prog 32=true:=by kernel_rfl
end Fx
theorem SlP.one {G:PM} {b T:Nat} {h1:Sh} {L1:List Y} (hle:PM.le G (G.add b (cl [h1.val L1.length] T))) (hs:SlR G 1 encY h1 L1):SlP (G.add b (cl [h1.val L1.length] T)) ⟨some ⟨b,0,none⟩,1⟩ [(h1,L1)] :=
 ⟨SlR.ofBlk (T:=T) (PM.add_same _ _ _) (fun _ _=>rfl) (by simp),fun p hp=>by rw [List.mem_singleton.1 hp]; exact hs.mono hle⟩
theorem SlP.two {G:PM} {b T:Nat} {h1 h2:Sh} {L1 L2:List Y} (hle:PM.le G (G.add b (cl [h1.val L1.length,h2.val L2.length] T))) (hs:SlR G 1 encY h1 L1) (hs2:SlR G 1 encY h2 L2):SlP (G.add b (cl [h1.val L1.length,h2.val L2.length] T)) ⟨some ⟨b,0,none⟩,2⟩ [(h1,L1),(h2,L2)] :=
 ⟨SlR.ofBlk (T:=T) (PM.add_same _ _ _) (fun _ _=>rfl) (by simp),fun p hp=>by
  rcases List.mem_cons.1 hp with rfl | hp
  ·exact hs.mono hle
  ·rw [List.mem_singleton.1 hp]; exact hs2.mono hle⟩
theorem SlP.four {G:PM} {b T:Nat} {h1 h2 h3 h4:Sh} {L1 L2 L3 L4:List Y} (hle:PM.le G (G.add b (cl [h1.val L1.length,h2.val L2.length,h3.val L3.length,h4.val L4.length] T))) (hs:SlR G 1 encY h1 L1) (hs2:SlR G 1 encY h2 L2) (hs3:SlR G 1 encY h3 L3) (hs4:SlR G 1 encY h4 L4) :
  SlP (G.add b (cl [h1.val L1.length,h2.val L2.length,h3.val L3.length,h4.val L4.length] T)) ⟨some ⟨b,0,none⟩,4⟩ [(h1,L1),(h2,L2),(h3,L3),(h4,L4)] :=
 ⟨SlR.ofBlk (T:=T) (PM.add_same _ _ _) (fun _ _=>rfl) (by simp),fun p hp=>by
  simp only [List.mem_cons,List.not_mem_nil,or_false] at hp
  rcases hp with rfl|rfl|rfl|rfl
  ·exact hs.mono hle
  ·exact hs2.mono hle
  ·exact hs3.mono hle
  ·exact hs4.mono hle⟩
theorem sum1_ok {G:PM} {b T:Nat} {h1:Sh} {L1:List Y} (hle:PM.le G (G.add b (cl [h1.val L1.length] T))) (hs:SlR G 1 encY h1 L1) (hK:RdNP G 1 0 (wa 64 kW)) (hl:L1.length≤1152921504606846976):Ct Tryd.prog 32 ([.slice (some ⟨b,0,none⟩) 1 1]:List Value).toArray (G.add b (cl [h1.val L1.length] T)) [] (fun _ μ' u=>μ'=[]∧u=.agg (ba 32 (shaD L1)).toArray):=by
 have h:=shaSum_ok [(h1,L1)] ⟨some ⟨b,0,none⟩,1⟩ _ (SlP.one hle hs) (hK.mono hle) (by simpa [catL] using hl) (by simp)
 rw [show catL [(h1,L1)]=L1 by simp [catL]] at h
 exact h
theorem sum2_ok {G:PM} {b T:Nat} {h1 h2:Sh} {L1 L2:List Y} (hle:PM.le G (G.add b (cl [h1.val L1.length,h2.val L2.length] T))) (hs:SlR G 1 encY h1 L1) (hs2:SlR G 1 encY h2 L2) (hK:RdNP G 1 0 (wa 64 kW)) (hl:L1.length+L2.length≤1152921504606846976):Ct Tryd.prog 32 ([.slice (some ⟨b,0,none⟩) 2 2]:List Value).toArray (G.add b (cl [h1.val L1.length,h2.val L2.length] T)) [] (fun _ μ' u=>μ'=[]∧u=.agg (ba 32 (shaD (L1++L2))).toArray):=by
 have h:=shaSum_ok [(h1,L1),(h2,L2)] ⟨some ⟨b,0,none⟩,2⟩ _ (SlP.two hle hs hs2) (hK.mono hle) (by simpa [catL] using hl) (by simp)
 rw [show catL [(h1,L1),(h2,L2)]=L1++L2 by simp [catL]] at h
 exact h
theorem outs_step2 {f g:Nat→Y} {k:Nat} {a b:Y} (ef:f=outs g k) (h:b=g k):upd (upd f k a) k b=outs g (k+1):=by
 rw [upd_upd,ef,h]; rfl
theorem outs_step1 {f g:Nat→Y} {k:Nat} {a:Y} (ef:f=outs g k) (h:a=g k):upd f k a=outs g (k+1):=by
 rw [ef,h]; rfl
theorem pads_ok (key:List Y) (h:Sh) (G:PM) (hs:SlR G 1 encY h key) (hK:RdNP G 1 0 (wa 64 kW)) (hl:key.length≤140737488351232):Ct Tryd.prog 104 ([h.val key.length]:List Value).toArray G [] (fun _ μ' u=>μ'=[]∧u=.tuple #[.agg (ba 64 (padF key 54#8)).toArray,.agg (ba 64 (padF key 92#8)).toArray]):=by
 refine Ct.of Tryd.func104 rfl Tryd.ntmps104 rfl fun w0 hs0=>?_
 refine .seq (Wk.rg [0,1] rfl rfl ?_)
 refine al rfl Fx.zq175 ?_; intro b2
 refine al rfl Fx.zq175 ?_; intro b3
 refine .nil (.code (.seq (.seq (Wk.rg [0,1,2] rfl rfl (mv rfl .no (.u rfl) (ln rfl .no Fx.sn42 (.u rfl) (cp rfl .no (.u rfl) (.u rfl) rfl (.nil (.code (.cond rfl (fun c1=>?_) (fun c1=>?_)))))))))))
 ·have c1k:=c1
  try simp only [qcA,qcB] at c1
  have ek1:keyL key=shaL key:=by unfold keyL; rw [if_pos (by omega)]
  refine .seq (Wk.rg [0,1,2,3,4] rfl rfl (mv rfl .no (.u rfl) ?_))
  refine Go.Tan.b1 rfl Fx.se72 Fx.zv42 (.u rfl) rfl rfl (by decide) ?_; intro b10
  refine kp rfl .no Fx.go32 (Evc rfl Evn) (Gp.add .here Gp.nil) (fun _ hle hq=>sum1_ok hle hs hK (by omega)) ?_
  refine al rfl Fx.zq34 ?_; intro b4
  refine sw rfl (.u rfl) (.u rfl) rfl Fx.sz34 .here (by first|exact qE|exact qL|rfl) (by first|exact ba_one _ _|exact wa_one _ _|exact one_V _|decide|exact one_app (wa_one _ _) (by simp [Value.oneCell'])) ?_
  refine .nil (.code ?_)
  refine wk_fz .here (by intro b hb; cases hb) ?_; intro Gfb4 hleb4 hbb4
  have hs:=hs.mono hleb4
  refine Wk.rg [0,1] rfl rfl ?_
  refine kA rfl .no Fx.ar34 (.u rfl) hbb4 (by first|exact ba_all|exact app_l|exact app_r) ?_; intro h12 L12 eL12 lL12 hs12
  refine asg rfl .no (.u rfl) (.nil ?_)
  have ek1:keyL key=L12:=by rw [ek1,eL12]; rfl
  refine .code (.seq (.seq ?_))
  skip
  refine Wk.rg [0] rfl rfl (mv rfl .no (.u rfl) (.nil (.code (.block ?_))))
  refine Wk.lop (α:=Nat×(Nat→Y)×(Nat→Y)) (fun gh=>[(13,true,.int .i64 (gh.1:Int))]) (fun gh=>[.blk b3 (cl (ba 64 gh.2.2) 175),.blk b2 (cl (ba 64 gh.2.1) 175)])
   (fun gh Gl=>(gh.1≤64)∧(gh.2.1=outs (padF key 54#8) gh.1)∧(gh.2.2=outs (padF key 92#8) gh.1)) (fun gh=>64-gh.1) (0,fun _=>0#8,fun _=>0#8) [(0,true,_),(2,true,_),(3,true,_)] [_]
   (ESub.cons rfl (by first|rfl|exact evi (by omega)) (ESub.c rfl (ESub.c rfl (ESub.c rfl ESub.nil))))
   (MSub.cons (.there .here) rfl (MSub.cons (.there .here) rfl (MSub.cons .here rfl MSub.nil))) ?_ ?_
  ·refine ⟨?_,?_,?_⟩
   ·(try dsimp only)<;>(first|omega|rfl|assumption|(simp; done))
   ·(try dsimp only)<;>(first|omega|rfl|assumption|(simp; done))
   (try dsimp only)<;>(first|omega|rfl|assumption|(simp; done))
  intro gh N0 Gl0 hN0 hGl0 hF0
  obtain ⟨k,f,f2⟩:=gh; dsimp only at hF0 hN0 ⊢
  obtain ⟨hk,ef,ef2⟩:=hF0
  have hs:=hs.mono hGl0
  have hs12:=hs12.mono hGl0
  refine .seq (Wk.rg [0] rfl rfl (cp rfl .no (.u rfl) (.u rfl) rfl (.nil (.code (.seq (.cond rfl (fun c2=>?_) (fun c2=>?_)))))))
  ·have c2k:=c2
   try simp only [qcA,qcB] at c2
   refine .skip (.code (.seq (.block (.seq (Wk.rg [0,1] rfl rfl (mv rfl .no (.u rfl) (asg rfl .no (.u rfl) (.nil (.code (.seq (Wk.rg [0,1,2,3,4,5] rfl rfl (mv rfl .no (.u rfl) (mv rfl .no (.u rfl) (iA rfl .no Fx.ar175 (.u rfl) (.u rfl) (fun _=>by omega) (fun _=>by omega) ?_))))))))))))))
   refine s1 rfl (.u rfl) (.u rfl) rfl Fx.sz5 (.there .here) (by first|decide|(simp only [wa_len,ba_len,qlA]; omega)) (by first|exact ba_set1 (z:=54#8) (k) (by omega)|exact wa_set1 (z:=54#32) (k) (by omega)|rfl) ?_
   refine iA rfl .no Fx.ar175 (.u rfl) (.u rfl) (fun _=>by omega) (fun _=>by omega) ?_
   refine s1 rfl (.u rfl) (.u rfl) rfl Fx.sz5 (.there .here) (by first|decide|(simp only [wa_len,ba_len,qlA]; omega)) (by first|exact ba_set1 (z:=92#8) (k) (by omega)|exact wa_set1 (z:=92#32) (k) (by omega)|rfl) ?_
   refine .nil (.code (.seq (Wk.rg [0,1,2,3] rfl rfl (mv rfl .no (.u rfl) (mv rfl .no (.u rfl) (ln rfl .no Fx.sn42 (.u rfl) (cp rfl .no (.u rfl) (.u rfl) rfl (.nil (.code (.cond rfl (fun c3=>?_) (fun c3=>?_)))))))))))
   ·have c3k:=c3
    try simp only [qcA,qcB] at c3
    refine .seq (Wk.draw (mc:=⟨false,false⟩) [0,1,2,3,4,5,6,7,8,9] Fx.mix (by kernel_rfl) ?_)
    refine mv rfl .no (.u rfl) (iA rfl .no Fx.ar175 (.u rfl) (.u rfl) (fun _=>by omega) (fun _=>by omega) ?_)
    refine ld rfl .no Fx.ag5 (.u rfl) (fun _=>Rd.own (.there .here) (by first|exact wa_at1 (k) (by omega) (by omega)|exact ba_at1 (k) (by omega) (by omega)|exact wap_at1 (k) (by omega) (by omega)|rfl)) ?_
    refine mv rfl .no (.u rfl) (mv rfl .no (.u rfl) (ih rfl .no Fx.se42 (.u rfl) (.u rfl) (fun _=>by omega) (fun _=>by omega) (fun _=>hs12.nn (k:=k) (by omega)) ?_))
    refine ld rfl .no Fx.ag5 (.u rfl) (fun _=>(hs12.yat (k) (by omega) (by omega)).rd) ?_
    refine bw (k:=.u8) rfl .no rfl (.u rfl) (.u rfl) rfl (iA rfl .no Fx.ar175 (.u rfl) (.u rfl) (fun _=>by omega) (fun _=>by omega) ?_)
    refine s1 rfl (.u rfl) (.u rfl) rfl Fx.sz5 (.there .here) (by first|decide|(simp only [wa_len,ba_len,qlA]; omega)) (by first|exact wa_set1 (k) (by omega)|exact ba_set1 (k) (by omega)|exact wap_set1 (k) (by omega) (by omega)|rfl) ?_
    refine .nil (.code (Wk.draw (mc:=⟨false,false⟩) [0,1,2,3,4,5,6,7,8,9] Fx.mix (by kernel_rfl) ?_))
    refine mv rfl .no (.u rfl) (iA rfl .no Fx.ar175 (.u rfl) (.u rfl) (fun _=>by omega) (fun _=>by omega) ?_)
    refine ld rfl .no Fx.ag5 (.u rfl) (fun _=>Rd.own (.there .here) (by first|exact wa_at1 (k) (by omega) (by omega)|exact ba_at1 (k) (by omega) (by omega)|exact wap_at1 (k) (by omega) (by omega)|rfl)) ?_
    refine mv rfl .no (.u rfl) (mv rfl .no (.u rfl) (ih rfl .no Fx.se42 (.u rfl) (.u rfl) (fun _=>by omega) (fun _=>by omega) (fun _=>hs12.nn (k:=k) (by omega)) ?_))
    refine ld rfl .no Fx.ag5 (.u rfl) (fun _=>(hs12.yat (k) (by omega) (by omega)).rd) ?_
    refine bw (k:=.u8) rfl .no rfl (.u rfl) (.u rfl) rfl (iA rfl .no Fx.ar175 (.u rfl) (.u rfl) (fun _=>by omega) (fun _=>by omega) ?_)
    refine s1 rfl (.u rfl) (.u rfl) rfl Fx.sz5 (.there .here) (by first|decide|(simp only [wa_len,ba_len,qlA]; omega)) (by first|exact wa_set1 (k) (by omega)|exact ba_set1 (k) (by omega)|exact wap_set1 (k) (by omega) (by omega)|rfl) ?_
    refine .nil (.blk (.code (Wk.rg [0,1] rfl rfl (arn (((k+1):Nat):Int) rfl .no (.u rfl) (.u rfl) rfl (fun _=>by omega) (fun _=>wrap_i64 (by omega) (by omega)) ?_))))
    refine mv rfl .no (.u rfl) (.nil (We.lpo (k+1,upd (upd f k 54#8) k (upd f k 54#8 k ^^^ L12.getD k 0),upd (upd f2 k 92#8) k (upd f2 k 92#8 k ^^^ L12.getD k 0)) ?_ ?_ ?_ ?_ ?_))
    ·exact (ESub.cons rfl (by first|rfl|exact evi (by omega)) (ESub.c rfl (ESub.c rfl (ESub.c rfl ESub.nil))))
    ·exact (MSub.cons .here rfl (MSub.cons .here rfl (MSub.cons .here rfl MSub.nil)))
    ·first|omega|(dsimp only; omega)
    ·exact hGl0
    refine ⟨?_,?_,?_⟩
    ·(try dsimp only)<;>(first|omega|rfl|assumption|(simp; done))
    ·(try dsimp only)<;>(exact outs_step2 ef (by rw [upd_at,padF,ek1,if_pos (by omega)]))
    (try dsimp only)<;>(exact outs_step2 ef2 (by rw [upd_at,padF,ek1,if_pos (by omega)]))
   have c3k:=c3
   try simp only [qcA,qcB] at c3
   refine .skip (.blk (.code (Wk.rg [0,1] rfl rfl (arn (((k+1):Nat):Int) rfl .no (.u rfl) (.u rfl) rfl (fun _=>by omega) (fun _=>wrap_i64 (by omega) (by omega)) ?_))))
   refine mv rfl .no (.u rfl) (.nil (We.lpo (k+1,upd f k 54#8,upd f2 k 92#8) ?_ ?_ ?_ ?_ ?_))
   ·exact (ESub.cons rfl (by first|rfl|exact evi (by omega)) (ESub.c rfl (ESub.c rfl (ESub.c rfl ESub.nil))))
   ·exact (MSub.cons .here rfl (MSub.cons .here rfl (MSub.cons .here rfl MSub.nil)))
   ·first|omega|(dsimp only; omega)
   ·exact hGl0
   refine ⟨?_,?_,?_⟩
   ·(try dsimp only)<;>(first|omega|rfl|assumption|(simp; done))
   ·(try dsimp only)<;>(exact outs_step1 ef (by rw [padF,ek1,if_neg (by omega)]))
   (try dsimp only)<;>(exact outs_step1 ef2 (by rw [padF,ek1,if_neg (by omega)]))
  have c2k:=c2
  try simp only [qcA,qcB] at c2
  refine .exit (.xcode (.xlp (.xblk (.code (.seq (Wk.drawT Fx.mix rfl ?_))))))
  refine WoT.n2 0 1 (by kernel_rfl) ?_ ?_
  ·refine lA rfl .no Fx.ag175 (.u rfl) (fun _=>RdN.own (.there .here)) (fun _=>(by first|exact qE|exact qL|rfl)) ?_
   refine .nil (WoT.n2 1 2 (by kernel_rfl) ?_ ?_)
   ·refine lA rfl .no Fx.ag175 (.u rfl) (fun _=>RdN.own .here) (fun _=>(by first|exact qE|exact qL|rfl)) ?_
    refine .nil (WoT.n1 2 (by kernel_rfl) ?_)
    refine sw rfl (.u rfl) (.u rfl) rfl Fx.sz175 (.there .here) (by first|exact qE|exact qL|rfl) (by first|exact ba_one _ _|exact wa_one _ _|exact one_V _|decide|exact one_app (wa_one _ _) (by simp [Value.oneCell'])) ?_
    refine .nil (WoT.n1 3 (by kernel_rfl) ?_)
    refine sw rfl (.u rfl) (.u rfl) rfl Fx.sz175 (.there .here) (by first|exact qE|exact qL|rfl) (by first|exact ba_one _ _|exact wa_one _ _|exact one_V _|decide|exact one_app (wa_one _ _) (by simp [Value.oneCell'])) ?_
    refine .nil (WoT.last (by kernel_rfl) ?_)
    refine .code (.ret (We.fin0 Tryd.results104 (.cell rfl (fun w hw=>run_loadVarN Fx.ag175 (RdN.own (.there .here)) ((by first|exact qE|exact qL|rfl)) hw) (.cell rfl (fun w hw=>run_loadVarN Fx.ag175 (RdN.own .here) ((by first|exact qE|exact qL|rfl)) hw) .nil)) ?_))
    obtain rfl:k=64:=by omega
    exact ⟨rfl,by rw [ef,ef2,ba_congr (fun i hi=>outs_eq (padF key 54#8) hi),ba_congr (fun i hi=>outs_eq (padF key 92#8) hi)]; rfl⟩
   refine sw rfl (.u rfl) (.u rfl) rfl Fx.sz175 (.there .here) (by first|exact qE|exact qL|rfl) (by first|exact ba_one _ _|exact wa_one _ _|exact one_V _|decide|exact one_app (wa_one _ _) (by simp [Value.oneCell'])) ?_
   refine .nil (WoT.n1 1 (by kernel_rfl) ?_)
   refine lA rfl .no Fx.ag175 (.u rfl) (fun _=>RdN.own (.there .here)) (fun _=>(by first|exact qE|exact qL|rfl)) ?_
   refine .nil (WoT.n1 3 (by kernel_rfl) ?_)
   refine sw rfl (.u rfl) (.u rfl) rfl Fx.sz175 (.there .here) (by first|exact qE|exact qL|rfl) (by first|exact ba_one _ _|exact wa_one _ _|exact one_V _|decide|exact one_app (wa_one _ _) (by simp [Value.oneCell'])) ?_
   refine .nil (WoT.last (by kernel_rfl) ?_)
   refine .code (.ret (We.fin0 Tryd.results104 (.cell rfl (fun w hw=>run_loadVarN Fx.ag175 (RdN.own (.there .here)) ((by first|exact qE|exact qL|rfl)) hw) (.cell rfl (fun w hw=>run_loadVarN Fx.ag175 (RdN.own .here) ((by first|exact qE|exact qL|rfl)) hw) .nil)) ?_))
   obtain rfl:k=64:=by omega
   exact ⟨rfl,by rw [ef,ef2,ba_congr (fun i hi=>outs_eq (padF key 54#8) hi),ba_congr (fun i hi=>outs_eq (padF key 92#8) hi)]; rfl⟩
  refine lA rfl .no Fx.ag175 (.u rfl) (fun _=>RdN.own .here) (fun _=>(by first|exact qE|exact qL|rfl)) ?_
  refine .nil (WoT.n1 0 (by kernel_rfl) ?_)
  refine lA rfl .no Fx.ag175 (.u rfl) (fun _=>RdN.own (.there .here)) (fun _=>(by first|exact qE|exact qL|rfl)) ?_
  refine .nil (WoT.n1 2 (by kernel_rfl) ?_)
  refine sw rfl (.u rfl) (.u rfl) rfl Fx.sz175 (.there .here) (by first|exact qE|exact qL|rfl) (by first|exact ba_one _ _|exact wa_one _ _|exact one_V _|decide|exact one_app (wa_one _ _) (by simp [Value.oneCell'])) ?_
  refine .nil (WoT.n1 3 (by kernel_rfl) ?_)
  refine sw rfl (.u rfl) (.u rfl) rfl Fx.sz175 (.there .here) (by first|exact qE|exact qL|rfl) (by first|exact ba_one _ _|exact wa_one _ _|exact one_V _|decide|exact one_app (wa_one _ _) (by simp [Value.oneCell'])) ?_
  refine .nil (WoT.last (by kernel_rfl) ?_)
  refine .code (.ret (We.fin0 Tryd.results104 (.cell rfl (fun w hw=>run_loadVarN Fx.ag175 (RdN.own (.there .here)) ((by first|exact qE|exact qL|rfl)) hw) (.cell rfl (fun w hw=>run_loadVarN Fx.ag175 (RdN.own .here) ((by first|exact qE|exact qL|rfl)) hw) .nil)) ?_))
  obtain rfl:k=64:=by omega
  exact ⟨rfl,by rw [ef,ef2,ba_congr (fun i hi=>outs_eq (padF key 54#8) hi),ba_congr (fun i hi=>outs_eq (padF key 92#8) hi)]; rfl⟩
 have c1k:=c1
 try simp only [qcA,qcB] at c1
 have ek2:keyL key=key:=by unfold keyL; rw [if_neg (by omega)]
 refine .skip (.code (.seq (.seq ?_)))
 skip
 refine Wk.rg [0] rfl rfl (mv rfl .no (.u rfl) (.nil (.code (.block ?_))))
 refine Wk.lop (α:=Nat×(Nat→Y)×(Nat→Y)) (fun gh=>[(13,true,.int .i64 (gh.1:Int))]) (fun gh=>[.blk b3 (cl (ba 64 gh.2.2) 175),.blk b2 (cl (ba 64 gh.2.1) 175)])
  (fun gh Gl=>(gh.1≤64)∧(gh.2.1=outs (padF key 54#8) gh.1)∧(gh.2.2=outs (padF key 92#8) gh.1)) (fun gh=>64-gh.1) (0,fun _=>0#8,fun _=>0#8) [(0,true,_),(2,true,_),(3,true,_)] []
  (ESub.cons rfl (by first|rfl|exact evi (by omega)) (ESub.c rfl (ESub.c rfl (ESub.c rfl ESub.nil))))
  (MSub.cons .here rfl (MSub.cons .here rfl MSub.nil)) ?_ ?_
 ·refine ⟨?_,?_,?_⟩
  ·(try dsimp only)<;>(first|omega|rfl|assumption|(simp; done))
  ·(try dsimp only)<;>(first|omega|rfl|assumption|(simp; done))
  (try dsimp only)<;>(first|omega|rfl|assumption|(simp; done))
 intro gh N1 Gl1 hN1 hGl1 hF1
 obtain ⟨k,f,f2⟩:=gh; dsimp only at hF1 hN1 ⊢
 obtain ⟨hk,ef,ef2⟩:=hF1
 have hs:=hs.mono hGl1
 refine .seq (Wk.rg [0] rfl rfl (cp rfl .no (.u rfl) (.u rfl) rfl (.nil (.code (.seq (.cond rfl (fun c4=>?_) (fun c4=>?_)))))))
 ·have c4k:=c4
  try simp only [qcA,qcB] at c4
  refine .skip (.code (.seq (.block (.seq (Wk.rg [0,1] rfl rfl (mv rfl .no (.u rfl) (asg rfl .no (.u rfl) (.nil (.code (.seq (Wk.rg [0,1,2,3,4,5] rfl rfl (mv rfl .no (.u rfl) (mv rfl .no (.u rfl) (iA rfl .no Fx.ar175 (.u rfl) (.u rfl) (fun _=>by omega) (fun _=>by omega) ?_))))))))))))))
  refine s1 rfl (.u rfl) (.u rfl) rfl Fx.sz5 (.there .here) (by first|decide|(simp only [wa_len,ba_len,qlA]; omega)) (by first|exact ba_set1 (z:=54#8) (k) (by omega)|exact wa_set1 (z:=54#32) (k) (by omega)|rfl) ?_
  refine iA rfl .no Fx.ar175 (.u rfl) (.u rfl) (fun _=>by omega) (fun _=>by omega) ?_
  refine s1 rfl (.u rfl) (.u rfl) rfl Fx.sz5 (.there .here) (by first|decide|(simp only [wa_len,ba_len,qlA]; omega)) (by first|exact ba_set1 (z:=92#8) (k) (by omega)|exact wa_set1 (z:=92#32) (k) (by omega)|rfl) ?_
  refine .nil (.code (.seq (Wk.rg [0,1,2,3] rfl rfl (mv rfl .no (.u rfl) (mv rfl .no (.u rfl) (ln rfl .no Fx.sn42 (.u rfl) (cp rfl .no (.u rfl) (.u rfl) rfl (.nil (.code (.cond rfl (fun c5=>?_) (fun c5=>?_)))))))))))
  ·have c5k:=c5
   try simp only [qcA,qcB] at c5
   refine .seq (Wk.draw (mc:=⟨false,false⟩) [0,1,2,3,4,5,6,7,8,9] Fx.mix (by kernel_rfl) ?_)
   refine mv rfl .no (.u rfl) (iA rfl .no Fx.ar175 (.u rfl) (.u rfl) (fun _=>by omega) (fun _=>by omega) ?_)
   refine ld rfl .no Fx.ag5 (.u rfl) (fun _=>Rd.own (.there .here) (by first|exact wa_at1 (k) (by omega) (by omega)|exact ba_at1 (k) (by omega) (by omega)|exact wap_at1 (k) (by omega) (by omega)|rfl)) ?_
   refine mv rfl .no (.u rfl) (mv rfl .no (.u rfl) (ih rfl .no Fx.se42 (.u rfl) (.u rfl) (fun _=>by omega) (fun _=>by omega) (fun _=>hs.nn (k:=k) (by omega)) ?_))
   refine ld rfl .no Fx.ag5 (.u rfl) (fun _=>(hs.yat (k) (by omega) (by omega)).rd) ?_
   refine bw (k:=.u8) rfl .no rfl (.u rfl) (.u rfl) rfl (iA rfl .no Fx.ar175 (.u rfl) (.u rfl) (fun _=>by omega) (fun _=>by omega) ?_)
   refine s1 rfl (.u rfl) (.u rfl) rfl Fx.sz5 (.there .here) (by first|decide|(simp only [wa_len,ba_len,qlA]; omega)) (by first|exact wa_set1 (k) (by omega)|exact ba_set1 (k) (by omega)|exact wap_set1 (k) (by omega) (by omega)|rfl) ?_
   refine .nil (.code (Wk.draw (mc:=⟨false,false⟩) [0,1,2,3,4,5,6,7,8,9] Fx.mix (by kernel_rfl) ?_))
   refine mv rfl .no (.u rfl) (iA rfl .no Fx.ar175 (.u rfl) (.u rfl) (fun _=>by omega) (fun _=>by omega) ?_)
   refine ld rfl .no Fx.ag5 (.u rfl) (fun _=>Rd.own (.there .here) (by first|exact wa_at1 (k) (by omega) (by omega)|exact ba_at1 (k) (by omega) (by omega)|exact wap_at1 (k) (by omega) (by omega)|rfl)) ?_
   refine mv rfl .no (.u rfl) (mv rfl .no (.u rfl) (ih rfl .no Fx.se42 (.u rfl) (.u rfl) (fun _=>by omega) (fun _=>by omega) (fun _=>hs.nn (k:=k) (by omega)) ?_))
   refine ld rfl .no Fx.ag5 (.u rfl) (fun _=>(hs.yat (k) (by omega) (by omega)).rd) ?_
   refine bw (k:=.u8) rfl .no rfl (.u rfl) (.u rfl) rfl (iA rfl .no Fx.ar175 (.u rfl) (.u rfl) (fun _=>by omega) (fun _=>by omega) ?_)
   refine s1 rfl (.u rfl) (.u rfl) rfl Fx.sz5 (.there .here) (by first|decide|(simp only [wa_len,ba_len,qlA]; omega)) (by first|exact wa_set1 (k) (by omega)|exact ba_set1 (k) (by omega)|exact wap_set1 (k) (by omega) (by omega)|rfl) ?_
   refine .nil (.blk (.code (Wk.rg [0,1] rfl rfl (arn (((k+1):Nat):Int) rfl .no (.u rfl) (.u rfl) rfl (fun _=>by omega) (fun _=>wrap_i64 (by omega) (by omega)) ?_))))
   refine mv rfl .no (.u rfl) (.nil (We.lpo (k+1,upd (upd f k 54#8) k (upd f k 54#8 k ^^^ key.getD k 0),upd (upd f2 k 92#8) k (upd f2 k 92#8 k ^^^ key.getD k 0)) ?_ ?_ ?_ ?_ ?_))
   ·exact (ESub.cons rfl (by first|rfl|exact evi (by omega)) (ESub.c rfl (ESub.c rfl (ESub.c rfl ESub.nil))))
   ·exact (MSub.cons .here rfl (MSub.cons .here rfl MSub.nil))
   ·first|omega|(dsimp only; omega)
   ·exact hGl1
   refine ⟨?_,?_,?_⟩
   ·(try dsimp only)<;>(first|omega|rfl|assumption|(simp; done))
   ·(try dsimp only)<;>(exact outs_step2 ef (by rw [upd_at,padF,ek2,if_pos (by omega)]))
   (try dsimp only)<;>(exact outs_step2 ef2 (by rw [upd_at,padF,ek2,if_pos (by omega)]))
  have c5k:=c5
  try simp only [qcA,qcB] at c5
  refine .skip (.blk (.code (Wk.rg [0,1] rfl rfl (arn (((k+1):Nat):Int) rfl .no (.u rfl) (.u rfl) rfl (fun _=>by omega) (fun _=>wrap_i64 (by omega) (by omega)) ?_))))
  refine mv rfl .no (.u rfl) (.nil (We.lpo (k+1,upd f k 54#8,upd f2 k 92#8) ?_ ?_ ?_ ?_ ?_))
  ·exact (ESub.cons rfl (by first|rfl|exact evi (by omega)) (ESub.c rfl (ESub.c rfl (ESub.c rfl ESub.nil))))
  ·exact (MSub.cons .here rfl (MSub.cons .here rfl MSub.nil))
  ·first|omega|(dsimp only; omega)
  ·exact hGl1
  refine ⟨?_,?_,?_⟩
  ·(try dsimp only)<;>(first|omega|rfl|assumption|(simp; done))
  ·(try dsimp only)<;>(exact outs_step1 ef (by rw [padF,ek2,if_neg (by omega)]))
  (try dsimp only)<;>(exact outs_step1 ef2 (by rw [padF,ek2,if_neg (by omega)]))
 have c4k:=c4
 try simp only [qcA,qcB] at c4
 refine .exit (.xcode (.xlp (.xblk (.code (.seq (Wk.drawT Fx.mix rfl ?_))))))
 refine WoT.n2 0 1 (by kernel_rfl) ?_ ?_
 ·refine lA rfl .no Fx.ag175 (.u rfl) (fun _=>RdN.own (.there .here)) (fun _=>(by first|exact qE|exact qL|rfl)) ?_
  refine .nil (WoT.n2 1 2 (by kernel_rfl) ?_ ?_)
  ·refine lA rfl .no Fx.ag175 (.u rfl) (fun _=>RdN.own .here) (fun _=>(by first|exact qE|exact qL|rfl)) ?_
   refine .nil (WoT.n1 2 (by kernel_rfl) ?_)
   refine sw rfl (.u rfl) (.u rfl) rfl Fx.sz175 (.there .here) (by first|exact qE|exact qL|rfl) (by first|exact ba_one _ _|exact wa_one _ _|exact one_V _|decide|exact one_app (wa_one _ _) (by simp [Value.oneCell'])) ?_
   refine .nil (WoT.n1 3 (by kernel_rfl) ?_)
   refine sw rfl (.u rfl) (.u rfl) rfl Fx.sz175 (.there .here) (by first|exact qE|exact qL|rfl) (by first|exact ba_one _ _|exact wa_one _ _|exact one_V _|decide|exact one_app (wa_one _ _) (by simp [Value.oneCell'])) ?_
   refine .nil (WoT.last (by kernel_rfl) ?_)
   refine .code (.ret (We.fin0 Tryd.results104 (.cell rfl (fun w hw=>run_loadVarN Fx.ag175 (RdN.own (.there .here)) ((by first|exact qE|exact qL|rfl)) hw) (.cell rfl (fun w hw=>run_loadVarN Fx.ag175 (RdN.own .here) ((by first|exact qE|exact qL|rfl)) hw) .nil)) ?_))
   obtain rfl:k=64:=by omega
   exact ⟨rfl,by rw [ef,ef2,ba_congr (fun i hi=>outs_eq (padF key 54#8) hi),ba_congr (fun i hi=>outs_eq (padF key 92#8) hi)]; rfl⟩
  refine sw rfl (.u rfl) (.u rfl) rfl Fx.sz175 (.there .here) (by first|exact qE|exact qL|rfl) (by first|exact ba_one _ _|exact wa_one _ _|exact one_V _|decide|exact one_app (wa_one _ _) (by simp [Value.oneCell'])) ?_
  refine .nil (WoT.n1 1 (by kernel_rfl) ?_)
  refine lA rfl .no Fx.ag175 (.u rfl) (fun _=>RdN.own (.there .here)) (fun _=>(by first|exact qE|exact qL|rfl)) ?_
  refine .nil (WoT.n1 3 (by kernel_rfl) ?_)
  refine sw rfl (.u rfl) (.u rfl) rfl Fx.sz175 (.there .here) (by first|exact qE|exact qL|rfl) (by first|exact ba_one _ _|exact wa_one _ _|exact one_V _|decide|exact one_app (wa_one _ _) (by simp [Value.oneCell'])) ?_
  refine .nil (WoT.last (by kernel_rfl) ?_)
  refine .code (.ret (We.fin0 Tryd.results104 (.cell rfl (fun w hw=>run_loadVarN Fx.ag175 (RdN.own (.there .here)) ((by first|exact qE|exact qL|rfl)) hw) (.cell rfl (fun w hw=>run_loadVarN Fx.ag175 (RdN.own .here) ((by first|exact qE|exact qL|rfl)) hw) .nil)) ?_))
  obtain rfl:k=64:=by omega
  exact ⟨rfl,by rw [ef,ef2,ba_congr (fun i hi=>outs_eq (padF key 54#8) hi),ba_congr (fun i hi=>outs_eq (padF key 92#8) hi)]; rfl⟩
 refine lA rfl .no Fx.ag175 (.u rfl) (fun _=>RdN.own .here) (fun _=>(by first|exact qE|exact qL|rfl)) ?_
 refine .nil (WoT.n1 0 (by kernel_rfl) ?_)
 refine lA rfl .no Fx.ag175 (.u rfl) (fun _=>RdN.own (.there .here)) (fun _=>(by first|exact qE|exact qL|rfl)) ?_
 refine .nil (WoT.n1 2 (by kernel_rfl) ?_)
 refine sw rfl (.u rfl) (.u rfl) rfl Fx.sz175 (.there .here) (by first|exact qE|exact qL|rfl) (by first|exact ba_one _ _|exact wa_one _ _|exact one_V _|decide|exact one_app (wa_one _ _) (by simp [Value.oneCell'])) ?_
 refine .nil (WoT.n1 3 (by kernel_rfl) ?_)
 refine sw rfl (.u rfl) (.u rfl) rfl Fx.sz175 (.there .here) (by first|exact qE|exact qL|rfl) (by first|exact ba_one _ _|exact wa_one _ _|exact one_V _|decide|exact one_app (wa_one _ _) (by simp [Value.oneCell'])) ?_
 refine .nil (WoT.last (by kernel_rfl) ?_)
 refine .code (.ret (We.fin0 Tryd.results104 (.cell rfl (fun w hw=>run_loadVarN Fx.ag175 (RdN.own (.there .here)) ((by first|exact qE|exact qL|rfl)) hw) (.cell rfl (fun w hw=>run_loadVarN Fx.ag175 (RdN.own .here) ((by first|exact qE|exact qL|rfl)) hw) .nil)) ?_))
 obtain rfl:k=64:=by omega
 exact ⟨rfl,by rw [ef,ef2,ba_congr (fun i hi=>outs_eq (padF key 54#8) hi),ba_congr (fun i hi=>outs_eq (padF key 92#8) hi)]; rfl⟩
namespace Fx
theorem go104:goFn Tryd.prog 104=true:=by kernel_rfl
theorem go105:goFn Tryd.prog 105=true:=by kernel_rfl
theorem go106:goFn Tryd.prog 106=true:=by kernel_rfl
theorem zq157:zrL Tryd.prog 157=some (ba 16 (fun _=>0#8)):=by kernel_rfl
theorem fo100_1:fOff Tryd.prog 100 1=some 32:=by kernel_rfl
theorem ar123:arE Tryd.prog 123=some (12,5,1):=by kernel_rfl
theorem go31:goFn Tryd.prog 31=true:=by kernel_rfl
theorem go97:goFn Tryd.prog 97=true:=by kernel_rfl
theorem ar157:arE Tryd.prog 157=some (16,5,1):=by kernel_rfl
theorem ag157:aggN Tryd.prog 157=some (some 16):=by kernel_rfl
theorem sz157:szT Tryd.prog 157=some 16:=by kernel_rfl
theorem fo100_0:fOff Tryd.prog 100 0=some 0:=by kernel_rfl
theorem ag123:aggN Tryd.prog 123=some (some 12):=by kernel_rfl
theorem go79:goFn Tryd.prog 79=true:=by kernel_rfl
theorem ag100:aggN Tryd.prog 100=some (some 64):=by kernel_rfl
theorem go80:goFn Tryd.prog 80=true:=by kernel_rfl
theorem baT157:baT Tryd.prog 157 16=true:=by kernel_rfl
end Fx
theorem macSum_ok (key:List Y) (hk:Sh) (ps:List (Sh×List Y)) (h:Sh) (G:PM) (hsk:SlR G 1 encY hk key) (hs:SlP G h ps) (hK:RdNP G 1 0 (wa 64 kW)) (hlk:key.length≤140737488351232) (hl:(catL ps).length≤1000000000000000) (hn:ps.length≤1000):Ct Tryd.prog 97 ([hk.val key.length,h.val ps.length]:List Value).toArray G [] (fun _ μ' u=>μ'=[]∧u=.agg (ba 32 (macL key (catL ps))).toArray):=by
 refine Ct.of Tryd.func97 rfl Tryd.ntmps97 rfl fun w0 hs0=>?_
 refine .seq (Wk.rg [0] rfl rfl ?_)
 refine al rfl Fx.zq34 ?_; intro b4
 refine .nil (.code (.seq (Wk.rg [0,1,2,3,4,5,6,7,8] rfl rfl (mv rfl .no (.u rfl) (kv rfl .no Fx.go104 (Evc rfl Evn) (fun _=>pads_ok key hk _ hsk hK hlk) ?_)))))
 refine mv rfl .no (.u rfl) (ex rfl .no (.u rfl) rfl (ex rfl .no (.u rfl) rfl ?_))
 refine al rfl Fx.zq175 ?_; intro b5
 refine al rfl Fx.zq175 ?_; intro b6
 refine sw rfl (.u rfl) (.u rfl) rfl Fx.sz175 (.there .here) (by first|exact qE|exact qL|rfl) (by first|exact ba_one _ _|exact wa_one _ _|exact one_V _|decide|exact one_app (wa_one _ _) (by simp [Value.oneCell'])) ?_
 refine sw rfl (.u rfl) (.u rfl) rfl Fx.sz175 (.there .here) (by first|exact qE|exact qL|rfl) (by first|exact ba_one _ _|exact wa_one _ _|exact one_V _|decide|exact one_app (wa_one _ _) (by simp [Value.oneCell'])) ?_
 refine .nil (.code (.seq ?_))
 refine wk_fz (.there .here) (by intro b hb; cases hb) ?_; intro Gfb5 hleb5 hbb5
 have hs:=hs.mono hleb5
 have hK:=hK.mono hleb5
 refine wk_fz .here (by intro b hb; cases hb) ?_; intro Gfb6 hleb6 hbb6
 have hs:=hs.mono hleb6
 have hK:=hK.mono hleb6
 have hbb5:=hbb5.mono hleb6
 refine Wk.rg [0,1] rfl rfl (kc rfl Fx.go105 Evn (New_ok _) ?_)
 rintro _ G16 μ16 hG16 ⟨b16,rfl,rfl⟩
 have hs:=hs.mono hG16
 have hK:=hK.mono hG16
 have hbb5:=hbb5.mono hG16
 have hbb6:=hbb6.mono hG16
 refine asg rfl .no (.u rfl) (.nil (.code (.seq (Wk.rg [0,1,2] rfl rfl (mv rfl .no (.u rfl) ?_)))))
 refine kA rfl .no Fx.ar175 (.u rfl) hbb5 (by first|exact ba_all|exact app_l|exact app_r) ?_; intro h18 L18 eL18 lL18 hs18
 refine ka rfl (.inr rfl) Fx.go106 (Evc rfl (Evc rfl Evn)) (mtk2 .here .here) (Write_ok [] L18 _ _ _ _ hs18 hK (by simp; omega)) ?_
 rintro _ G19 μ19 hG19 ⟨vq0,rfl,rfl⟩
 have hs:=hs.mono hG19
 have hK:=hK.mono hG19
 have hbb6:=hbb6.mono hG19
 refine .nil (.code (.seq (.seq (Wk.rg [0,1,2] rfl rfl (mv rfl .no (.u rfl) (ln rfl .no Fx.sn72 (.u rfl) (mv rfl .no (.u rfl) (.nil (.code (.block ?_))))))))))
 refine Wk.lop (α:=Nat×Value) (fun gh=>[(22,true,.int .i64 (gh.1:Int))]) (fun gh=>[.blk b16 (cl (stC (L18++catL (ps.take gh.1)) gh.2) 128),rB gh.2 5 (restL (L18++catL (ps.take gh.1)))])
  (fun gh Gl=>(gh.1≤ps.length)) (fun gh=>ps.length-gh.1) (0,vq0) [(4,true,_),(6,true,_),(7,true,_),(20,true,_),(21,true,_)] [_]
  (ESub.cons rfl (by first|rfl|exact evi (by omega)) (ESub.c rfl (ESub.c rfl (ESub.c rfl (ESub.c rfl (ESub.c rfl ESub.nil))))))
  (MSub.cons .here (by simp [catL]) (MSub.cons .here (by simp [catL]) (MSub.cons .here rfl MSub.nil))) ?_ ?_
 ·(try dsimp only)<;>(first|omega|rfl|assumption|(simp; done))
 intro gh N0 Gl0 hN0 hGl0 hF0
 obtain ⟨k,vq⟩:=gh; dsimp only at hF0 hN0 ⊢
 have hk:=hF0
 have hs:=hs.mono hGl0
 have hK:=hK.mono hGl0
 have hbb6:=hbb6.mono hGl0
 refine .seq (Wk.rg [0] rfl rfl (cp rfl .no (.u rfl) (.u rfl) rfl (.nil (.code (.seq (.cond rfl (fun c1=>?_) (fun c1=>?_)))))))
 ·have c1k:=c1
  try simp only [qcA,qcB] at c1
  refine .skip (.code (.seq (.block (.seq (Wk.rg [0,1,2] rfl rfl (ih rfl .no Fx.se72 (.u rfl) (.u rfl) (fun _=>by omega) (fun _=>by omega) (fun _=>hs.sl.nn (k:=k) (by omega)) ?_))))))
  obtain ⟨p25,ep25⟩:=getx (k:=k) (xs:=ps) (by omega)
  have hq25:=hs.get ep25
  refine ld rfl .no Fx.ag42 (.u rfl) (fun _=>(hs.at (k) (by omega) ep25).rd) ?_
  refine asg rfl .no (.u rfl) (.nil (.code (Wk.rg [0,1,2] rfl rfl (mv rfl .no (.u rfl) (mv rfl .no (.u rfl) (ka rfl (.inr rfl) Fx.go106 (Evc rfl (Evc rfl Evn)) (mtk2 .here .here) (Write_ok (L18++catL (ps.take k)) p25.2 _ _ _ _ hq25 hK (by have:=cat_len ep25; rw [List.length_append]; omega)) ?_))))))
  rintro _ G28 μ28 hG28 ⟨vq',rfl,rfl⟩
  have hK:=hK.mono hG28
  have hbb6:=hbb6.mono hG28
  refine .nil (.blk (.code (Wk.rg [0,1] rfl rfl (arn (((k+1):Nat):Int) rfl .no (.u rfl) (.u rfl) rfl (fun _=>by omega) (fun _=>wrap_i64 (by omega) (by omega)) ?_))))
  refine mv rfl .no (.u rfl) (.nil (We.lpo (k+1,vq') ?_ ?_ ?_ ?_ ?_))
  ·exact (ESub.cons rfl (by first|rfl|exact evi (by omega)) (ESub.c rfl (ESub.c rfl (ESub.c rfl (ESub.c rfl (ESub.c rfl ESub.nil))))))
  ·exact (MSub.cons .here (by rw [cat_take ep25,List.append_assoc]) (MSub.cons .here (by rw [cat_take ep25,List.append_assoc]) (MSub.cons .here rfl MSub.nil)))
  ·first|omega|(dsimp only; omega)
  ·exact (hGl0).trans hG28
  (try dsimp only)<;>(first|omega|rfl|assumption|(simp; done))
 have c1k:=c1
 try simp only [qcA,qcB] at c1
 refine .exit (.xcode (.xlp (.xblk (.code (.seq ?_)))))
 obtain rfl:k=ps.length:=by omega
 rw [List.take_length]
 refine Wk.rg [0,1,2,3] rfl rfl (mv rfl .no (.u rfl) (ka rfl (.inr rfl) Fx.go62 (Evc rfl Evn) (mtk2 .here .here) (StSum_ok (L18++catL ps) _ _ _ hK (by rw [List.length_append]; omega)) ?_))
 rintro _ G31 μ31 hG31 ⟨rfl,rfl⟩
 have hK:=hK.mono hG31
 have hbb6:=hbb6.mono hG31
 refine al rfl Fx.zq34 ?_; intro b10
 refine sw rfl (.u rfl) (.u rfl) rfl Fx.sz34 .here (by first|exact qE|exact qL|rfl) (by first|exact ba_one _ _|exact wa_one _ _|exact one_V _|decide|exact one_app (wa_one _ _) (by simp [Value.oneCell'])) ?_
 refine .nil (.code (.seq ?_))
 refine wk_fz .here (by intro b hb; cases hb) ?_; intro Gfb10 hleb10 hbb10
 have hK:=hK.mono hleb10
 have hbb6:=hbb6.mono hleb10
 refine Wk.draw (mc:=⟨false,false⟩) [0,1,2,3,4] Fx.mix (by kernel_rfl) ?_
 refine kA rfl .no Fx.ar175 (.u rfl) hbb6 (by first|exact ba_all|exact app_l|exact app_r) ?_; intro h32 L32 eL32 lL32 hs32
 refine kA rfl .no Fx.ar34 (.u rfl) hbb10 (by first|exact ba_all|exact app_l|exact app_r) ?_; intro h33 L33 eL33 lL33 hs33
 refine Go.Tan.bN rfl Fx.se72 Fx.zv42 (Evp.cons (.u rfl) (Evp.cons (.u rfl) Evp.nil)) rfl (by decide) (by simp [Value.oneCell',Sh.val]) ?_; intro b34
 refine kp rfl .no Fx.go32 (Evc rfl Evn) (Gp.add .here Gp.nil) (fun _ hle hq=>sum2_ok hle hs32 hs33 hK (by omega)) ?_
 refine sw rfl (.u rfl) (.u rfl) rfl Fx.sz34 (.there (.there (.there .here))) (by first|exact qE|exact qL|rfl) (by first|exact ba_one _ _|exact wa_one _ _|exact one_V _|decide|exact one_app (wa_one _ _) (by simp [Value.oneCell'])) ?_
 refine .nil (.code (.ret (We.fin0 Tryd.results97 (.cell rfl (fun w hw=>run_loadVarN Fx.ag34 (RdN.own .here) ((by first|exact qE|exact qL|rfl)) hw) .nil) ?_)))
 exact ⟨rfl,by rw [eL32,eL33,eL18]; rfl⟩
theorem mac4_ok {G:PM} {b T:Nat} {hk h1 h2 h3 h4:Sh} {key L1 L2 L3 L4:List Y} (hle:PM.le G (G.add b (cl [h1.val L1.length,h2.val L2.length,h3.val L3.length,h4.val L4.length] T))) (hsk:SlR G 1 encY hk key) (hs:SlR G 1 encY h1 L1) (hs2:SlR G 1 encY h2 L2) (hs3:SlR G 1 encY h3 L3) (hs4:SlR G 1 encY h4 L4) (hK:RdNP G 1 0 (wa 64 kW)) (hlk:key.length≤140737488351232) (hl:L1.length+L2.length+L3.length+L4.length≤1000000000000000) :
  Ct Tryd.prog 97 ([hk.val key.length,.slice (some ⟨b,0,none⟩) 4 4]:List Value).toArray (G.add b (cl [h1.val L1.length,h2.val L2.length,h3.val L3.length,h4.val L4.length] T)) [] (fun _ μ' u=>μ'=[]∧u=.agg (ba 32 (macL key (L1++L2++L3++L4))).toArray):=by
 have h:=macSum_ok key hk [(h1,L1),(h2,L2),(h3,L3),(h4,L4)] ⟨some ⟨b,0,none⟩,4⟩ _ (hsk.mono hle) (SlP.four hle hs hs2 hs3 hs4) (hK.mono hle) hlk (by simp [catL]; omega) (by simp)
 rw [show catL [(h1,L1),(h2,L2),(h3,L3),(h4,L4)]=L1++L2++L3++L4 by simp [catL]] at h
 exact h
theorem Tag_ok (enc mac nonce:Nat→Y) (ad:List Y) (ha:Sh) (xs:List Y) (hx:Sh) (G:PM) (hsa:SlR G 1 encY ha ad) (hsx:SlR G 1 encY hx xs) (hK:RdNP G 1 0 (wa 64 kW)) (hla:ad.length≤140737488351232) (hl:xs.length≤140737488355328):Ct Tryd.prog 80 ([.agg (ba 32 enc++ba 32 mac).toArray,.agg (ba 12 nonce).toArray,ha.val ad.length,hx.val xs.length]:List Value).toArray G [] (fun _ μ' u=>μ'=[]∧u=.agg (ba 16 (tagF mac nonce ad xs)).toArray):=by
 refine Ct.of Tryd.func80 rfl Tryd.ntmps80 rfl fun w0 hs0=>?_
 refine .seq (Wk.rg [0,1,2] rfl rfl ?_)
 refine bx rfl (.u rfl) rfl ?_; intro b4
 refine bx rfl (.u rfl) rfl ?_; intro b5
 refine al rfl Fx.zq157 ?_; intro b8
 refine .nil (.code (.seq ?_))
 refine wk_fz (.there (.there .here)) (by intro b hb; cases hb) ?_; intro Gfb4 hleb4 hbb4
 have hsa:=hsa.mono hleb4
 have hsx:=hsx.mono hleb4
 have hK:=hK.mono hleb4
 refine wk_fz (.there .here) (by intro b hb; cases hb) ?_; intro Gfb5 hleb5 hbb5
 have hsa:=hsa.mono hleb5
 have hsx:=hsx.mono hleb5
 have hK:=hK.mono hleb5
 have hbb4:=hbb4.mono hleb5
 refine Wk.draw (mc:=⟨false,false⟩) [0,1,2,3,4,6,7,8,5,9,10,11,12] Fx.mix (by kernel_rfl) ?_
 refine fa rfl .no Fx.fo100_1 (.u rfl) ?_
 refine kA rfl .no Fx.ar33 (.u rfl) hbb4 (by first|exact ba_all|exact app_l|exact app_r) ?_; intro h11 L11 eL11 lL11 hs11
 refine mv rfl .no (.u rfl) (ln rfl .no Fx.sn42 (.u rfl) (ci rfl .no rfl Fx.cv3_24 (.u rfl) ?_))
 refine mv rfl .no (.u rfl) ?_
 refine kA rfl .no Fx.ar123 (.u rfl) hbb5 (by first|exact ba_all|exact app_l|exact app_r) ?_; intro h17 L17 eL17 lL17 hs17
 refine mv rfl .no (.u rfl) (kc rfl Fx.go31 (Evc rfl (Evc rfl (Evc rfl Evn))) (Ct.frzB (Fix_ok [] ⟨none,0⟩ _ 8 _ SlR.nul (by simp) (by decide))) ?_)
 rintro _ G15 μ15 hG15 ⟨h15,L15,eL15,rfl,rfl,hs15⟩
 have hsa:=hsa.mono hG15
 have hsx:=hsx.mono hG15
 have hK:=hK.mono hG15
 have hs11:=hs11.mono hG15
 have hs17:=hs17.mono hG15
 refine Go.Tan.bN rfl Fx.se72 Fx.zv42 (Evp.cons (.u rfl) (Evp.cons (.u rfl) (Evp.cons (.u rfl) (Evp.cons (.u rfl) Evp.nil)))) rfl (by decide) (by simp [Value.oneCell',Sh.val]) ?_; intro b19
 have lL15:L15.length=8:=by rw [eL15,List.nil_append]; exact fix_len _ 8
 refine kp rfl .no Fx.go97 (Evc rfl (Evc rfl Evn)) (Gp.add .here Gp.nil) (fun _ hle hq=>mac4_ok hle hs11 hs15 hsa hs17 hsx hK (by omega) (by omega)) ?_
 refine al rfl Fx.zq34 ?_; intro b9
 refine sw rfl (.u rfl) (.u rfl) rfl Fx.sz34 .here (by first|exact qE|exact qL|rfl) (by first|exact ba_one _ _|exact wa_one _ _|exact one_V _|decide|exact one_app (wa_one _ _) (by simp [Value.oneCell'])) ?_
 refine .nil (.code (.seq (Wk.rg [0,1,2,3] rfl rfl (sah rfl .no Fx.ar34 (.u rfl) (.u rfl) (fun _=>by first|decide|omega) (fun _=>by first|decide|omega) ?_))))
 refine sp rfl .no Fx.ar157 (.u rfl) (fun _=>by first|decide|omega) ?_
 refine lA rfl .no Fx.ag157 (.u rfl) (fun _=>RdN.part (n:=16) (cs':=ba 16 _) .here (ba_take (by decide))) (fun _=>(by first|exact qE|exact qL|rfl)) ?_
 refine sw rfl (.u rfl) (.u rfl) rfl Fx.sz157 (.there (.there .here)) (by first|exact qE|exact qL|rfl) (by first|exact ba_one _ _|exact wa_one _ _|exact one_V _|decide|exact one_app (wa_one _ _) (by simp [Value.oneCell'])) ?_
 refine .nil (.code (.ret (We.fin0 Tryd.results80 (.cell rfl (fun w hw=>run_loadVarN Fx.ag157 (RdN.own .here) ((by first|exact qE|exact qL|rfl)) hw) .nil) ?_)))
 exact ⟨rfl,by rw [eL11,eL15,eL17]; rfl⟩
theorem tag_row (enc mac nonce:Nat→Y) (ad:List Y) (ha:Sh) (xs:List Y) (v:Value) (G:PM) (hsa:SlR G 1 encY ha ad) (hK:RdNP G 1 0 (wa 64 kW)) (hla:ad.length≤140737488351232) (hl:xs.length≤140737488355328):Ct Tryd.prog 80 ([.agg (ba 32 enc++ba 32 mac).toArray,.agg (ba 12 nonce).toArray,ha.val ad.length,v]:List Value).toArray G [rB v 5 xs] (fun _ μ' u=>∃ ν,μ'=rB v 5 xs :: ν∧ν=[]∧u=.agg (ba 16 (tagF mac nonce ad xs)).toArray) :=
 Ct.lendB (fun hx G2 hle hv hs=>by subst hv; exact Tag_ok enc mac nonce ad ha xs hx G2 (hsa.mono hle) hs (hK.mono hle) hla hl)
theorem Seal_ok (enc mac nonce:Nat→Y) (ad:List Y) (ha:Sh) (xs:List Y) (hx:Sh) (G:PM) (hsa:SlR G 1 encY ha ad) (hsx:SlR G 1 encY hx xs) (hK:RdNP G 1 0 (wa 64 kW)) (hla:ad.length≤140737488351232) (hl:xs.length≤140737488351232):Ct Tryd.prog 58 ([.agg (ba 32 enc++ba 32 mac).toArray,.agg (ba 12 nonce).toArray,ha.val ad.length,hx.val xs.length]:List Value).toArray G [] (PR 5 (fun L=>L=sealL enc mac nonce ad xs)):=by
 refine Ct.of Tryd.func58 rfl Tryd.ntmps58 rfl fun w0 hs0=>?_
 have lc:=cross_len enc nonce 1#32 xs
 refine .seq (Wk.rg [0,1,2] rfl rfl ?_)
 refine bx rfl (.u rfl) rfl ?_; intro b4
 refine bx rfl (.u rfl) rfl ?_; intro b5
 refine asg rfl .no (.u rfl) (.nil (.code (.seq (Wk.rg [0,1,2,3,4,5] rfl rfl (fz rfl .no Fx.fo100_0 (.u rfl) (lA rfl .no Fx.ag33 (.u rfl) (fun _=>RdN.part (n:=32) (cs':=ba 32 enc) (.there .here) (app_l)) (fun _=>(by first|exact qE|exact qL|rfl)) ?_))))))
 refine lA rfl .no Fx.ag123 (.u rfl) (fun _=>RdN.own .here) (fun _=>(by first|exact qE|exact qL|rfl)) ?_
 refine mv rfl .no (.u rfl) (kc rfl Fx.go79 (Evc rfl (Evc rfl (Evc rfl (Evc rfl Evn)))) (Ct.rowc (Cross_ok enc nonce 1#32 hx xs _ hsx hl)) ?_)
 rintro v15 G15 μ15 hG15 ⟨L15,ov15,eL15,rfl⟩
 have hsa:=hsa.mono hG15
 have hK:=hK.mono hG15
 refine asg rfl .no (.u rfl) (.nil (.code (.seq (Wk.rg [0,1,2,3,4,5,6] rfl rfl ?_))))
 have lL15:L15.length=xs.length:=by rw [eL15,cross_len]
 refine lA rfl .no Fx.ag100 (.u rfl) (fun _=>RdN.own (.there (.there .here))) (fun _=>(by first|exact qE|exact qL|rfl)) ?_
 refine lA rfl .no Fx.ag123 (.u rfl) (fun _=>RdN.own (.there .here)) (fun _=>(by first|exact qE|exact qL|rfl)) ?_
 refine mv rfl .no (.u rfl) (mv rfl .no (.u rfl) (ka rfl (.inr rfl) Fx.go80 (Evc rfl (Evc rfl (Evc rfl (Evc rfl Evn)))) (mtk1 .here) (tag_row enc mac nonce ad ha L15 _ _ hsa hK hla (by rw [eL15,cross_len]; omega)) ?_))
 rintro _ G20 μ20 hG20 ⟨_,rfl,rfl,rfl⟩
 refine al rfl Fx.zq157 ?_; intro b10
 refine sw rfl (.u rfl) (.u rfl) rfl Fx.sz157 .here (by first|exact qE|exact qL|rfl) (by first|exact ba_one _ _|exact wa_one _ _|exact one_V _|decide|exact one_app (wa_one _ _) (by simp [Value.oneCell'])) ?_
 refine .nil (.code (.seq (Wk.rg [0,1,2,3] rfl rfl (mv rfl .no (.u rfl) (sa0 rfl .no Fx.ar157 (.u rfl) (apY rfl Fx.se42 Fx.zv5 (.u rfl) (.u rfl) (.there .here) (Sc.arr .here) (by (try simp only [qlA,yl_len]); omega) ?_))))))
 intro v23 L23 ov23 eL23
 have lL23:L23.length=L15.length+16:=by rw [eL23,List.length_append]; first|rfl | simp [yl_len]
 refine asg rfl .no (.u rfl) (.nil (.code (.ret (We.fin Tryd.results58 (.tmp rfl .nil) (MSub.cons .here rfl MSub.nil) ?_))))
 exact ⟨L23,by rw [eL23,eL15]; rfl,rfl⟩
theorem Open_ok (enc mac nonce:Nat→Y) (ad:List Y) (ha:Sh) (xs:List Y) (hx:Sh) (G:PM) (hsa:SlR G 1 encY ha ad) (hsx:SlR G 1 encY hx xs) (hK:RdNP G 1 0 (wa 64 kW)) (hla:ad.length≤140737488351232) (hl:xs.length≤140737488351248):Ct Tryd.prog 71 ([.agg (ba 32 enc++ba 32 mac).toArray,.agg (ba 12 nonce).toArray,ha.val ad.length,hx.val xs.length]:List Value).toArray G [] (fun _ μ' u=>∃ v L e,OpenR (openL enc mac nonce ad xs) L e∧μ'=[rB v 5 L]∧u=.tuple #[v,.int .i64 e]):=by
 refine Ct.of Tryd.func71 rfl Tryd.ntmps71 rfl fun w0 hs0=>?_
 refine .seq (Wk.rg [0,1,2,3] rfl rfl ?_)
 refine bx rfl (.u rfl) rfl ?_; intro b4
 refine bx rfl (.u rfl) rfl ?_; intro b5
 refine asg rfl .no (.u rfl) (asg rfl .no (.u rfl) (.nil (.code (.seq (Wk.rg [0,1,2,3] rfl rfl (mv rfl .no (.u rfl) (ln rfl .no Fx.sn42 (.u rfl) (ar rfl .no (.u rfl) (.u rfl) rfl (fun _=>wrap_i64 (by omega) (by omega)) ?_))))))))
 refine asg rfl .no (.u rfl) (.nil (.code (.seq (.seq (Wk.rg [0,1] rfl rfl (mv rfl .no (.u rfl) (cp rfl .no (.u rfl) (.u rfl) rfl (.nil (.code (.cond rfl (fun c1=>?_) (fun c1=>?_)))))))))))
 ·have c1k:=c1
  try simp only [qcA,qcB] at c1
  refine .seq (Wk.rg [0,1] rfl rfl (asg rfl .no (.u rfl) (asg rfl .no (.u rfl) (.nil (.code (.ret (we_nilB 5 ?_)))))))
  refine We.fin Tryd.results71 (.tmp rfl (.tmp rfl .nil)) (MSub.cons .here rfl MSub.nil) ?_
  rw [open_short (by omega)]; exact ⟨_,[],60,.inr ⟨rfl,rfl,rfl⟩,rfl,rfl⟩
 have c1k:=c1
 try simp only [qcA,qcB] at c1
 refine .skip (.code (.seq (Wk.rg [0,1,2,3] rfl rfl (mv rfl .no (.u rfl) (mv rfl .no (.u rfl) (kE ((xs.length-16)) rfl .no Fx.se42 hsx (.u rfl) (.u rfl) (fun _=>by omega) (fun _=>by omega) ?_))))))
 intro h19 L19 eL19 lL19 hs19
 have lL19:=lL19 rfl
 refine asg rfl .no (.u rfl) (.nil (.code (.seq (.seq (Wk.draw (mc:=⟨false,false⟩) [0,1,2,3,5,6,7,8,9,4,10] Fx.mix (by kernel_rfl) ?_)))))
 refine lA rfl .no Fx.ag100 (.u rfl) (fun _=>RdN.own (.there .here)) (fun _=>(by first|exact qE|exact qL|rfl)) ?_
 refine lA rfl .no Fx.ag123 (.u rfl) (fun _=>RdN.own .here) (fun _=>(by first|exact qE|exact qL|rfl)) ?_
 refine mv rfl .no (.u rfl) (mv rfl .no (.u rfl) (mv rfl .no (.u rfl) (mv rfl .no (.u rfl) (kD ((xs.length-16)) rfl .no Fx.se42 hsx (.u rfl) (.u rfl) (fun _=>by omega) (fun _=>by omega) ?_))))
 intro h27 L27 eL27 lL27 hs27
 have lL27:=lL27 rfl
 refine spS rfl .no Fx.ar157 hs27 (.u rfl) (fun _=>by omega) (by decide) ?_
 refine lA rfl .no Fx.ag157 (.u rfl) (fun _=>(hs27.arr (m:=16) (by omega)).rd) (fun _=>ba_len _ _) ?_
 refine kv rfl .no Fx.go80 (Evc rfl (Evc rfl (Evc rfl (Evc rfl Evn)))) (fun _=>Tag_ok enc mac nonce ad ha L19 h19 _ hsa hs19 hK hla (by omega)) ?_
 refine nqB rfl .no Fx.baT157 (.u rfl) (.u rfl) ?_
 refine .nil (.code (.cond rfl (fun c2=>?_) (fun c2=>?_)))
 ·have c2k:=c2
  try simp only [qcA,qcB] at c2
  refine .seq (Wk.rg [0,1] rfl rfl (asg rfl .no (.u rfl) (asg rfl .no (.u rfl) (.nil (.code (.ret (we_nilB 5 ?_)))))))
  refine We.fin Tryd.results71 (.tmp rfl (.tmp rfl .nil)) (MSub.cons .here rfl MSub.nil) ?_
  rw [open_bad (by omega) (by rw [← eL19,←eL27,←yl_self L27,show L27.length=16 by omega]; exact c2)]; exact ⟨_,[],60,.inr ⟨rfl,rfl,rfl⟩,rfl,rfl⟩
 have c2k:=c2
 try simp only [qcA,qcB] at c2
 refine .skip (.code (.seq (Wk.rg [0,1,2,3,4,5,6] rfl rfl (fz rfl .no Fx.fo100_0 (.u rfl) (lA rfl .no Fx.ag33 (.u rfl) (fun _=>RdN.part (n:=32) (cs':=ba 32 enc) (.there .here) (app_l)) (fun _=>(by first|exact qE|exact qL|rfl)) ?_)))))
 refine lA rfl .no Fx.ag123 (.u rfl) (fun _=>RdN.own .here) (fun _=>(by first|exact qE|exact qL|rfl)) ?_
 refine mv rfl .no (.u rfl) (kc rfl Fx.go79 (Evc rfl (Evc rfl (Evc rfl (Evc rfl Evn)))) (Ct.rowc (Cross_ok enc nonce 1#32 h19 L19 _ hs19 (by omega))) ?_)
 rintro v35 G35 μ35 hG35 ⟨L35,ov35,eL35,rfl⟩
 refine asg rfl .no (.u rfl) (asg rfl .no (.u rfl) (.nil (.code (.ret (We.fin Tryd.results71 (.tmp rfl (.tmp rfl .nil)) (MSub.cons .here rfl MSub.nil) ?_)))))
 rw [open_good (by omega) (by rw [← eL19,←eL27,←yl_self L27,show L27.length=16 by omega]; exact c2),←eL19]; exact ⟨v35,L35,0,.inl ⟨by rw [eL35],rfl⟩,rfl,rfl⟩
namespace Fx
theorem cst42:csT Tryd.prog 42=true:=by kernel_rfl
end Fx
def zF:Nat→Y:=fun _=>0#8
namespace Fx
end Fx
end Go.Proofs.YtdeobooblmjlfaaDoor
namespace Go.Tan
open Go.RowKit Go.ChangeShapes
section
variable {H:Type} {R:Nat} {enc:TypeId×Value→H} {P:Program} {w:World} {base:Nat} {sp:Nat→Bool} {held:Bool} {fuel:Nat} {t:TypeId} {cs:List Value} {x:DataW H×List MemPlace}
theorem trod_array {n:Nat} {e:TypeId} (ht:P.underlying t=some (.array n e)) (h:DataW.trod enc P w base sp held fuel t cs=some x) :
  ∃ (xs:List (DataW H×List MemPlace)) (m:Nat),fuel=m+1∧x=(.agg (xs.map (·.1)),xs.flatMap (·.2))∧cs.length=P.cellsOf t∧xs.length=n ∧
   ∀ i,i<n→DataW.trod enc P w base sp held m e ((cs.drop (i*P.cellsOf e)).take (P.cellsOf e))=xs[i]?:=by
 cases fuel with
 | zero=>simp [DataW.trod] at h
 | succ m =>
  unfold DataW.trod at h
  rw [ht] at h
  split at h<;>simp_all
  obtain ⟨hl,xs,hp,hd⟩:=h
  exact ⟨xs,hd.symm,by simpa using mapM_some_length hp,fun i hi=>mapM_some_get hp i i (by simp [hi])⟩
theorem weightsEach_mem {ts:List TypeId} {ds:List (DataW H)} {i:Nat} {d:DataW H} {t:TypeId} (ht:ts[i]? = some t) (hd:ds[i]? = some d) {n:Nat} (hn:n∈d.weights P t):n∈DataW.weightsEach P ts ds:=by
 induction i generalizing ts ds with
 | zero =>
  cases ts with
  | nil=>simp at ht
  | cons a r =>
   cases ds with
   | nil=>simp at hd
   | cons b q =>
    simp only [List.getElem?_cons_zero,Option.some.injEq] at ht hd
    subst ht; subst hd
    simp only [DataW.weightsEach,List.mem_append]; exact .inl hn
 | succ i ih =>
  cases ts with
  | nil=>simp at ht
  | cons a r =>
   cases ds with
   | nil=>simp at hd
   | cons b q =>
    simp only [List.getElem?_cons_succ] at ht hd
    simp only [DataW.weightsEach,List.mem_append]; exact .inr (ih ht hd)
theorem weightsAll_mem {e:TypeId} {ds:List (DataW H)} {i:Nat} {d:DataW H} (hd:ds[i]? = some d) {n:Nat} (hn:n∈d.weights P e):n∈DataW.weightsAll P e ds:=by
 induction i generalizing ds with
 | zero =>
  cases ds with
  | nil=>simp at hd
  | cons b q =>
   simp only [List.getElem?_cons_zero,Option.some.injEq] at hd
   subst hd
   simp only [DataW.weightsAll,List.mem_append]; exact .inl hn
 | succ i ih =>
  cases ds with
  | nil=>simp at hd
  | cons b q =>
   simp only [List.getElem?_cons_succ] at hd
   simp only [DataW.weightsAll,List.mem_append]; exact .inr (ih hd)
def Rg (R:Nat) (enc:TypeId×Value→H) (P:Program) (w:World) (t:TypeId) (cs:List Value):Prop :=
 ∃ fuel x,DataW.trod enc P w 0 (fun _=>true) true fuel t cs=some x∧∀ n∈x.1.weights P t,n≤R
theorem Rg.len {fs:Array Field} (ht:P.underlying t=some (.struct fs)) (h:Rg R enc P w t cs):cs.length=P.cellsOf t:=by
 obtain ⟨fuel,x,h,_⟩:=h
 obtain ⟨xs,n,_,_,hl,_⟩:=DataW.trod_struct ht h
 exact hl
theorem Rg.fld {fs:Array Field} (ht:P.underlying t=some (.struct fs)) (h:Rg R enc P w t cs) (i T o:Nat) (hf0:(fs[i]?).map (fun f=>(f.type,f.offset))=some (T,o)) {sz:Nat} (hsz:P.cellsOf T=sz):Rg R enc P w T ((cs.drop o).take sz):=by
 obtain ⟨f,hf,he⟩:=Option.map_eq_some_iff.1 hf0
 obtain ⟨rfl,rfl⟩:=Prod.mk.inj he
 obtain ⟨fuel,x,h,hw⟩:=h
 obtain ⟨xs,n,rfl,rfl,hl,hxs,hall⟩:=DataW.trod_struct ht h
 have hi:i<xs.length:=by rw [hxs]; exact (Array.getElem?_eq_some_iff.1 hf).1
 have h1:=hall i f hf
 rw [List.getElem?_eq_getElem hi] at h1
 rw [← hsz]
 refine ⟨n,_,h1,fun k hk=>hw k ?_⟩
 simp only [DataW.weights,ht]
 refine weightsEach_mem (i:=i) (t:=f.type) (d:=xs[i].1) ?_ ?_ hk
 ·simp [hf]
 simp [List.getElem?_eq_getElem hi]
theorem Rg.elm {n:Nat} {e:TypeId} (ht:P.underlying t=some (.array n e)) (h:Rg R enc P w t cs) {i:Nat} (hi:i<n) {sz:Nat} (hsz:P.cellsOf e=sz):Rg R enc P w e ((cs.drop (i*sz)).take sz):=by
 obtain ⟨fuel,x,h,hw⟩:=h
 obtain ⟨xs,m,rfl,rfl,hl,hxs,hall⟩:=trod_array ht h
 have h1:=hall i hi
 rw [List.getElem?_eq_getElem (by omega)] at h1
 rw [← hsz]
 refine ⟨m,_,h1,fun k hk=>hw k ?_⟩
 simp only [DataW.weights,ht]
 exact weightsAll_mem (i:=i) (by simp [List.getElem?_eq_getElem (show i<xs.length by omega)]) hk
theorem Rg.int {k:IntKind} (ht:P.underlying t=some (.int k)) (h:Rg R enc P w t cs):∃ n,cs=[.int k n]∧k.min≤n∧n≤k.max:=by
 obtain ⟨fuel,x,h,_⟩:=h
 obtain ⟨n,rfl,_,hw⟩:=DataW.trod_int ht h
 simp only [Lit.wf,Bool.and_eq_true,decide_eq_true_eq] at hw
 exact ⟨n,rfl,hw⟩
theorem Rg.bool (ht:P.underlying t=some .bool) (h:Rg R enc P w t cs):∃ b,cs=[.bool b]:=by
 obtain ⟨fuel,x,h,_⟩:=h
 obtain ⟨b,rfl,_⟩:=DataW.trod_bool ht h
 exact ⟨b,rfl⟩
theorem Rg.str (ht:P.underlying t=some .string) (h:Rg R enc P w t cs):∃ s:ByteArray,cs=[.string s]∧s.size≤R:=by
 obtain ⟨fuel,x,h,hw⟩:=h
 obtain ⟨s,rfl,rfl,_⟩:=DataW.trod_string ht h
 refine ⟨s,rfl,?_⟩
 have:=hw s.data.toList.length (by simp [DataW.weights])
 have e:s.data.toList.length=s.size:=Array.length_toList
 rw [e] at this
 exact this
theorem take1 {l:List Value} {o:Nat} {v:Value} (h:(l.drop o).take 1=[v]):l[o]? = some v:=by
 have h1:((l.drop o).take 1)[0]? = some v:=by rw [h]; rfl
 rw [List.getElem?_take] at h1
 simpa [List.getElem?_drop] using h1
theorem take_at {l:List Value} {o n j:Nat} {v:Value} (h:((l.drop o).take n)[j]? = some v):l[o+j]? = some v:=by
 rw [List.getElem?_take] at h
 split at h
 ·simpa [List.getElem?_drop] using h
 ·cases h
theorem Rg.intAt {fs:Array Field} {k:IntKind} (ht:P.underlying t=some (.struct fs)) (h:Rg R enc P w t cs) (i T o:Nat) (hf:(fs[i]?).map (fun f=>(f.type,f.offset))=some (T,o)) (hu:P.underlying T=some (.int k)) (hsz:P.cellsOf T=1):∃ n,cs[o]? = some (.int k n)∧k.min≤n∧n≤k.max:=by
 obtain ⟨n,h1,h2⟩:=(h.fld ht i T o hf hsz).int hu
 exact ⟨n,take1 h1,h2⟩
theorem Rg.strAt {fs:Array Field} (ht:P.underlying t=some (.struct fs)) (h:Rg R enc P w t cs) (i T o:Nat) (hf:(fs[i]?).map (fun f=>(f.type,f.offset))=some (T,o)) (hu:P.underlying T=some .string) (hsz:P.cellsOf T=1):∃ s:ByteArray,cs[o]? = some (.string s)∧s.size≤R:=by
 obtain ⟨n,h1,h2⟩:=(h.fld ht i T o hf hsz).str hu
 exact ⟨n,take1 h1,h2⟩
theorem Rg.ints {n:Nat} {e:TypeId} {k:IntKind} (ht:P.underlying t=some (.array n e)) (h:Rg R enc P w t cs) (hu:P.underlying e=some (.int k)) (hsz:P.cellsOf e=1):∃ r:Nat→Int,∀ j,j<n→cs[j]? = some (.int k (r j))∧k.min≤r j∧r j≤k.max:=by
 have:∀ j,∃ m:Int,j<n→cs[j]? = some (.int k m)∧k.min≤m∧m≤k.max:=by
  intro j
  by_cases hj:j<n
  ·obtain ⟨m,h1,h2⟩:=(h.elm ht hj hsz).int hu
   exact ⟨m,fun _=>⟨by have:=take1 h1; simpa using this,h2⟩⟩
  ·exact ⟨0,fun h=>absurd h hj⟩
 exact ⟨fun j=>Classical.choose (this j),fun j hj=>Classical.choose_spec (this j) hj⟩
theorem list_eq {l l':List Value} (hl:l.length=l'.length) (h:∀ i,i<l'.length→l[i]? = l'[i]?):l=l':=by
 refine List.ext_getElem? fun i=>?_
 by_cases hi:i<l'.length
 ·exact h i hi
 rw [List.getElem?_eq_none (by omega),List.getElem?_eq_none (by omega)]
theorem cells?_len {a:Addr} {n:Nat} (h:w.cells? base a n=some cs):cs.length=n∧∀ j,j<n→w.cell? (a.add j)=cs[j]?:=by
 unfold World.cells? at h
 split at h
 ·exact ⟨by simpa using mapM_some_length h,fun j hj=>mapM_some_get h j j (by simp [hj])⟩
 ·cases h
theorem RdP.heap {a:Addr} {v:Value} (h:w.cell? a=some v):RdP (fun b=>w.heap[b]?) a v:=by
 intro w' hs
 unfold World.cell? at h ⊢
 cases ho:w.heap[a.block]? with
 | none=>rw [ho] at h; cases h
 | some o =>
  rw [hs a.block o ho]
  rw [ho] at h
  exact h
theorem spot_none {a:Addr} {v:Value} (h:w.cell? a=some v):a.spot=none:=by
 unfold World.cell? at h
 split at h
 ·split at h
  ·cases h
  ·rename_i hs; simpa using hs
 ·cases h
theorem Rg.sl {e:TypeId} {sz by':Nat} {α:Type} (en:α→List Value) (Q:α→Prop) (ht:P.underlying t=some (.slice e)) (h:Rg R enc P w t cs) (hsz:P.cellsOf e=sz) (h0:0<sz) (hby:P.bytesOf e=by')
  (hel:∀ cs',Rg R enc P w e cs'→∃ a,cs'=en a∧Q a):∃ (hd:Sh) (l:List α),cs=[hd.val l.length]∧SlR (fun b=>w.heap[b]?) sz en hd l∧hd.cap*by'≤R∧∀ a∈l,Q a:=by
 obtain ⟨fuel,x,h,hw⟩:=h
 rcases DataW.trod_slice ht h with ⟨rfl,rfl⟩ | ⟨a,len,cap,elems,rest,n,rfl,rfl,rfl,_,hlc,_,hlen,hall,hrest,_⟩
 ·exact ⟨⟨none,0⟩,[],rfl,SlR.nul,by simp,fun a ha=>by cases ha⟩
 have hcap:(elems.length+rest.length)*by'≤R:=by
  have:=hw ((elems.length+rest.length)*by') (by simp [DataW.weights,ht,hby])
  simpa using this
 rw [(hrest rfl).1,hlen,show len+(cap-len)=cap by omega] at hcap
 have hel':∀ i,i<len→∃ m:α,w.cells? 0 (a.add (i*sz)) sz=some (en m)∧Q m:=by
  intro i hi
  have h1:=hall i hi
  rw [List.getElem?_eq_getElem (by omega),hsz,Option.bind_eq_some_iff] at h1
  obtain ⟨cs',h2,h3⟩:=h1
  obtain ⟨m,rfl,hm⟩:=hel cs' ⟨n,_,h3,fun k hk=>hw k (by
   simp only [DataW.weights,ht,List.mem_cons,List.mem_append]
   exact .inr (.inl (weightsAll_mem (i:=i) (by simp [List.getElem?_eq_getElem (show i<elems.length by omega)]) hk)))⟩
  exact ⟨m,h2,hm⟩
 have hspot:0<len→a.spot=none:=by
  intro hpos
  obtain ⟨m,h1,_⟩:=hel' 0 hpos
  obtain ⟨h2,h3⟩:=cells?_len h1
  have h4:=h3 0 h0
  rw [List.getElem?_eq_getElem (by omega)] at h4
  exact spot_none (a:=a) (by simpa [Addr.add] using h4)
 rcases Nat.eq_zero_or_pos len with hz | hpos
 ·refine ⟨⟨some a,cap⟩,[],by rw [hz]; rfl,⟨fun h=>absurd rfl h,by simp,fun i y hy=>by simp at hy⟩,hcap,fun y hy=>by cases hy⟩
 have hne:Nonempty α:=⟨Classical.choose (hel' 0 hpos)⟩
 have hch:∀ i,∃ m:α,i<len→w.cells? 0 (a.add (i*sz)) sz=some (en m)∧Q m:=by
  intro i
  by_cases hi:i<len
  ·obtain ⟨m,hm⟩:=hel' i hi; exact ⟨m,fun _=>hm⟩
  exact ⟨Classical.choice hne,fun h=>absurd h hi⟩
 obtain ⟨M,hM⟩ : ∃ M:Nat→α,∀ i,i<len→w.cells? 0 (a.add (i*sz)) sz=some (en (M i))∧Q (M i):=⟨fun i=>Classical.choose (hch i),fun i=>Classical.choose_spec (hch i)⟩
 refine ⟨⟨some a,cap⟩,(List.range len).map M,by simp [Sh.val],⟨fun _=>?_,by simpa using hlc,fun i y hy j v hj=>?_⟩,hcap,fun y hy=>?_⟩
 ·have:=hspot hpos
  show some a=some ⟨a.block,a.off,none⟩
  cases a; simp_all
 ·have hi:i<len:=by
   have:=(List.getElem?_eq_some_iff.1 hy).1
   simpa using this
  have hy':y=M i:=by
   simp [hi] at hy; exact hy.symm
  subst hy'
  obtain ⟨h1,_⟩:=hM i hi
  obtain ⟨h2,h3⟩:=cells?_len h1
  have hjl:j<sz:=by rw [← h2]; exact (List.getElem?_eq_some_iff.1 hj).1
  have h4:=h3 j hjl
  rw [hj] at h4
  have h5:=RdP.heap h4
  have hadd:(a.add (i*sz)).add j=⟨a.block,a.off+i*sz+j,none⟩:=by
   have hs:=hspot hpos
   cases a with
   | mk b o s =>
    simp only at hs; subst hs
    by_cases hz1:i*sz=0<;>by_cases hz2:j=0<;>simp [Addr.add,hz1,hz2]
  rw [hadd] at h5
  exact h5
 obtain ⟨i,hi,rfl⟩:=List.mem_map.1 hy
 exact (hM i (by simpa using hi)).2
theorem trodAll_stays {W W':World} {sp':Nat→Bool} (hl:laidOutB P=true):∀ {ts:List TypeId} {vs:List Value} {ds:List (DataW H)} {ps:List MemPlace},(∀ t∈ts,P.readableRec t=true∧t<P.types.size) →
  DataW.TrodAll enc P W 0 (fun _=>true) true ts vs ds ps→(∀ p∈ps,W.sameAt W' p)→(∀ p∈ps,sp' p.block=true)→DataW.TrodAll enc P W' 0 sp' true ts vs ds ps
 | [],_,_,_,_,h,_,_=>by
  obtain ⟨rfl,rfl,rfl⟩:=trodAll_nil h
  rfl
 | t :: ts,_,_,_,ht,h,hs,hp=>by
  obtain ⟨v,vs1,d,ds1,a,b,rfl,rfl,rfl,h1,h2⟩:=trodAll_cons h
  obtain ⟨hr,hrow⟩:=ht t (List.mem_cons_self ..)
  exact ⟨a,b,WideElems.Trod_stays hl hr hrow h1 (fun p hp'=>hs p (List.mem_append_left _ hp')) (fun p hp'=>hp p (List.mem_append_left _ hp')),
   trodAll_stays hl (fun u hu=>ht u (List.mem_cons_of_mem _ hu)) h2 (fun p hp'=>hs p (List.mem_append_right _ hp')) (fun p hp'=>hp p (List.mem_append_right _ hp')),rfl⟩
theorem post_true {fn:Func} {s:ChangeSpec} {apart fresh handsOn again:Bool} {W W':World} {args:Array Value} {ds gs:List (DataW H)} {before:List MemPlace} {T:TypeId} (hl:laidOutB P=true)
  (hW:DataW.Whole enc P fn.params.toList s.vars apart W args.toList ds gs before) (hv:s.vars=[]) (hpar:∀ t∈fn.params.toList,P.readableRec t=true∧t<P.types.size)
  (hfn:s.fn H (ds++gs) = { results:=[.lit (.bool true)],args:=ds }) (hr:fn.resultTypes = #[T]) (hT:P.underlying T=some .bool) (hb:Below W.heap.size W W') :
  s.post enc P fn apart fresh handsOn again W args (.bool true) W':=by
 have hlt:=hW.lt
 have hW2:=hW
 obtain ⟨p,q,hA,hV,rfl,hz,hn⟩:=hW
 have hq:q=[]:=by rw [hv] at hV; exact (trodVars_none hV).2
 subst hq
 have hres:∀ (b:Nat) (sp:Nat→Bool) (hd:Bool),DataW.TrodAll enc P W' b sp hd fn.resultTypes.toList ((Value.bool true).resultList fn.resultTypes.size) [.lit (.bool true)] []:=by
  intro b sp hd
  rw [hr]
  exact trodAll_mk1 (shut_bool hT true)
 have hargs:∀ sp:Nat→Bool,(∀ x∈p,sp x.block=true)→DataW.TrodAll enc P W' 0 sp true fn.params.toList args.toList ds p:=fun sp hsp =>
  trodAll_stays hl hpar hA (fun x hx=>hb.same (hlt x (List.mem_append_left _ hx))) hsp
 have hvars:∀ sp:Nat→Bool,DataW.TrodVars enc P W' sp s.vars ([]:List (DataW H)) []:=fun sp=>by rw [hv]; rfl
 refine ⟨ds,gs,p++[],[],p,[],hW2,?_,?_,?_,hb.frame _,fun _=>⟨?_,_,[],p++[],⟨[]++p,[],trodAll_append (hargs _ fun _ _=>rfl) (hres _ _ _),hvars _,by simp,?_,?_⟩,?_⟩⟩
 ·rw [hfn]; exact hres _ _ _
 ·rw [hfn]; exact hargs _ (fun x hx=>by simpa using hlt x (List.mem_append_left _ hx))
 ·rw [hfn]; exact hvars _
 ·rw [hr]
  intro j t r hj hrr
  match j,hj,hrr with
  | 0,hj,hrr =>
   simp [Value.resultList] at hj hrr
   subst hj; subst hrr
   simp [Value.okWide,hT,Cell.okWide,Cell.ok]
 ·intro b off hp
  rw [hb.frozen (p:=⟨b,off,none⟩) (hlt _ hp)]
  exact hz b off hp
 ·intro ha; exact hn ha
 intro x hx _; exact hx
theorem of_ct {f:FuncId} {fn:Func} {s:ChangeSpec} {apart fresh handsOn again:Bool} {W:World} {args:Array Value} {ds gs:List (DataW H)} {before:List MemPlace} {T:TypeId} (hl:laidOutB P=true)
  (hW:DataW.Whole enc P fn.params.toList s.vars apart W args.toList ds gs before) (hv:s.vars=[]) (hpar:∀ t∈fn.params.toList,P.readableRec t=true∧t<P.types.size)
  (hfn:s.fn H (ds++gs) = { results:=[.lit (.bool true)],args:=ds }) (hr:fn.resultTypes = #[T]) (hT:P.underlying T=some .bool)
  (hc:Ct P f args (fun b=>W.heap[b]?) [] fun _ μ' u=>μ'=[]∧u=.bool true) :
  Calls P f args W fun e W'=>∃ v,e=.returned v∧s.post enc P fn apart fresh handsOn again W args v W':=by
 refine (hc W ⟨fun b o h=>h,(fun r hr=>nomatch hr),(fun b hb=>nomatch hb),List.nodup_nil⟩).mono fun e W' ⟨v,G',μ',he,htr,hμ,hv'⟩=>?_
 subst hv'
 refine ⟨_,he,post_true hl hW hv hpar hfn hr hT ⟨htr.os,htr.tape,htr.output,htr.size,fun k hk=>(htr.old k hk (by simp [keys])).1⟩⟩
theorem Rg.arg {W:World} {v:Value} {d:DataW H} {ps:List MemPlace} {ts:List TypeId} {ds:List (DataW H)} {i:Nat} (h:DataW.Trod enc P W 0 (fun _=>true) true t v d ps) (hw:(DataW.weightsEach P ts ds).all (·≤reachBytes)=true) (ht:ts[i]? = some t) (hd:ds[i]? = some d):Rg 140737488351232 enc P W t v.cells.toList:=by
 obtain ⟨fuel,h⟩:=h
 refine ⟨fuel,_,h,fun n hn=>?_⟩
 have:=List.all_eq_true.1 hw n (weightsEach_mem ht hd hn)
 have h2:n≤reachBytes:=by simpa using this
 exact h2
end
variable {H:Type} {R:Nat} {enc:TypeId×Value→H} {P:Program} {w:World} {t:TypeId} {cs:List Value}
theorem min_u {k:IntKind} (hk:k.signed=false):k.min=0:=by cases k<;>first|rfl | cases hk
theorem max_u {k:IntKind} (hk:k.signed=false):k.max=2^k.bits-1:=by cases k<;>first|rfl | cases hk
theorem Rg.uw {k:IntKind} (hk:k.signed=false) (ht:P.underlying t=some (.int k)) (h:Rg R enc P w t cs):∃ x:BitVec k.bits,cs=[uv k x]:=by
 obtain ⟨n,rfl,h1,h2⟩:=h.int ht
 rw [min_u hk] at h1
 rw [max_u hk] at h2
 refine ⟨BitVec.ofNat k.bits n.toNat,?_⟩
 unfold uv
 have hlt:n.toNat<2^k.bits:=by
  have:((2:Int)^k.bits)=((2^k.bits:Nat):Int):=by simp
  omega
 rw [BitVec.toNat_ofNat,Nat.mod_eq_of_lt hlt,Int.toNat_of_nonneg h1]
theorem Rg.alen {n:Nat} {e:TypeId} (ht:P.underlying t=some (.array n e)) (h:Rg R enc P w t cs):cs.length=P.cellsOf t:=by
 obtain ⟨fuel,x,h,_⟩:=h
 obtain ⟨xs,m,_,_,hl,_⟩:=trod_array ht h
 exact hl
theorem at_take {cs:List Value} {o:Nat} {v:Value} (h:(cs.drop o).take 1=[v]):cs[o]? = some v:=by
 have:=congrArg (·[0]?) h
 simpa [List.getElem?_take,List.getElem?_drop] using this
theorem Rg.ba {n:Nat} {e:TypeId} (ht:P.underlying t=some (.array n e)) (h:Rg R enc P w t cs) (he:P.underlying e=some (.int .u8)) (hce:P.cellsOf e=1) (hct:P.cellsOf t=n):∃ f:Nat→Y,cs=ba n f:=by
 have hl:=h.alen ht
 have hx:∀ j,∃ y:Y,j<n→cs[j]? = some (V y):=by
  intro j
  by_cases hj:j<n
  ·obtain ⟨x,hx⟩:=(h.elm ht hj hce).uw rfl he
   exact ⟨x,fun _=>at_take (by simpa using hx)⟩
  exact ⟨0,fun h=>absurd h hj⟩
 refine ⟨fun j=>Classical.choose (hx j),List.ext_getElem? fun j=>?_⟩
 by_cases hj:j<n
 ·rw [ba_at hj]; exact Classical.choose_spec (hx j) hj
 rw [List.getElem?_eq_none (by omega),List.getElem?_eq_none (by rw [ba_len]; omega)]
theorem split2 {cs:List Value} {a b:Nat} (h:cs.length=a+b):cs=(cs.drop 0).take a++(cs.drop a).take b:=by
 rw [List.drop_zero,List.take_of_length_le (l:=cs.drop a) (by simp; omega),List.take_append_drop]
theorem tab_rd {w:World} {name:String} {zs:List Int} {g m:Nat} {y:Nat→W} (h:Lib.TabIs P w name .u32 zs) (hg:P.globalNamed name=some g) (hz:zs.length=m) (hy:∀ j,j<m→zs.getD j 0=((y j).toNat:Int)):RdNP (fun b=>w.heap[b]?) g 0 (wa m y):=by
 intro j v hj
 have hlt:j<m:=by have:=(List.getElem?_eq_some_iff.1 hj).1; rwa [wa_len] at this
 rw [wa_at hlt] at hj
 obtain rfl:=Option.some.inj hj
 have h1:=h.cell hg j (by omega)
 rw [hy j hlt] at h1
 rw [Nat.zero_add]
 exact RdP.heap h1
section
variable {dr:Bool} {mc:Md} {P:Program} {n:Nat} {l:List Oper} {K:Env→PM→Mem→Prop} {i:Nat} {σ:List Nat} {ρ:Env} {G:PM} {μ:Mem}
variable {d t:Nat} {p:String} {af:Array Edge} {g:Option (Nat×Bool)} {c:Bool}
theorem apF {T E b o m cap:Nat} {x y:Operand} {u:Value} {xs ys:List Y} (hdf:mc.a=false∨dr=false) (ho:nth l i=some ⟨some d,.call { callee:=.builtin .append,args:=#[x,y],argTypes:=#[T,T] },t,p,af,none⟩)
  (hT:slE P T=some (E,1,1)) (hz:(P.info? E).bind (·.zero)=some (.int .u8 0)) (hx:Ev ρ true x (.slice (some ⟨b,o,none⟩) m cap)) (hy:Ev ρ true y u) (hold:SlR G 1 encY ⟨some ⟨b,o,none⟩,cap⟩ xs) (hm:xs.length=m) (hs:Sc G μ u ys) (h0:0<ys.length) (hg:cap<m+ys.length) (hb:xs.length+ys.length≤140737488355328)
  (h:∀ v' L,v'.oneCell'=true→L=xs++ys→Wo dr mc P n l K σ ((d,true,v') :: ρ) G (rB v' E L :: μ)):Wo dr mc P n l K (i :: σ) ρ G μ:=by
 subst hm
 obtain ⟨oa,cp,rfl,hr⟩:=hs.ex
 clear hs
 obtain ⟨b2,o2,rfl,hrd⟩:=hr h0
 refine .act (μ₁:=[]) (μ₂:=μ) (post:=fun G' μ' v'=>G'=G∧v'.oneCell'=true∧μ'=[rB v' E (xs++ys)]) ho (by rcases hdf with h | h<;>simp [kindOf,h]) .no (.refl _) (fun a w ha hs=>.inl ?_) ?_
 ·obtain ⟨hu,inf,hi,hs1,hb1⟩:=slE_some hT
  have hz':=hz
  rw [hi] at hz'
  simp only [Option.bind_some] at hz'
  have hnews:∀ j u,(ys.map V)[j]? = some u→w.cell? ((⟨b2,o2,none⟩ : Addr).add j)=some u:=fun j u hj=>by rw [add_lit]; exact hrd j u hj w hs
  have holds:∀ j u,(xs.map V)[j]? = some u→w.cell? ((⟨b,o,none⟩ : Addr).add j)=some u:=fun j u hj=>by
   rw [add_lit]
   have h1:=SlR.flat (enc:=encY) (fun _ _=>rfl) hold
   rw [flat_V] at h1
   exact h1 j u hj w hs.sub
  have hrun:=run_append_grow (P:=P) w T t E inf _ hu hi hz' ⟨b,o,none⟩ xs.length cap (xs.map V) (by rw [hs1]; simp) holds ⟨b2,o2,none⟩ ys.length cp (ys.map V) (by rw [hs1]; simp) hnews (by omega) (by omega) (growslice_fits (by omega) (by rw [hb1]; omega))
  have h2:=((Tr.begin (Sat.left (μ:=[]) hs)).drew).alloc (.cells ((xs.map V).toArray++(ys.map V).toArray++Builtin.zeroCells (Value.int .u8 0).cells (grownCap w (xs.length+ys.length) cap E-(xs.length+ys.length))) E)
  have hge:=grownCap_ge w (xs.length+ys.length) cap E
  have h3:=h2.asRow (m:=xs.length+ys.length) (cap:=grownCap w (xs.length+ys.length) cap E) (sz:=1) (xs:=(xs++ys).map V) (by simp) hge (grownCap_le_maxLen w (xs.length+ys.length) cap E (by unfold maxLen; omega)) (by
   simp only [Array.size_append,List.size_toArray,size_zeroCells,List.length_map]
   have:(Value.int .u8 0).cells.size=1:=rfl
   rw [this]; omega) (by rw [Array.toList_append,Array.toList_append,List.map_append]; exact List.take_left' (by simp))
  refine ⟨_,_,G,_,.inl (by simp [execOp,resolve,invoke,builtin,hx.eval ha rfl,hy.eval ha rfl,hrun]; rfl),h3,rfl,rfl,?_⟩
  simp [rB]
 rintro v' G' μ'' _ ⟨rfl,h1,rfl⟩
 exact h v' _ h1 rfl
theorem kM {α:Type} {enc:α→List Value} {T e sz by':Nat} {x y z:Operand} {s:Sh} {xs:List α} (hi:Nat) (ho:nth l i=some ⟨some d,.slice T x none (some y) (some z),t,p,af,none⟩) (hT:slE P T=some (e,sz,by')) (hs:SlR G sz enc s xs)
  (hx:Ev ρ true x (s.val xs.length)) (hy:Ev ρ true y (.int .i64 hi)) (hz:Ev ρ true z (.int .i64 hi)) (h1:hi≤xs.length)
  (h:∀ s' L,L=xs.take hi→L.length=hi→SlR G sz enc s' L→Wo dr mc P n l K σ ((d,true,s'.val L.length) :: ρ) G μ):Wo dr mc P n l K (i :: σ) ρ G μ:=by
 have hl:(xs.take hi).length=hi:=by simp; omega
 have htake:SlR G sz enc ⟨s.oa,hi⟩ (xs.take hi):=by
  refine ⟨fun hne=>hs.there (fun e=>hne (by rw [e]; simp)),by rw [hl]; exact Nat.le_refl _,fun j u hj=>?_⟩
  rw [List.getElem?_take] at hj
  split at hj
  ·exact hs.rd j u hj
  cases hj
 have h2:=h _ _ rfl hl htake
 rw [hl] at h2
 refine .pure ho (.inl rfl) .no (fun hc a w ha=>?_) h2
 obtain ⟨hu,inf,hi',rfl,rfl⟩:=slE_some hT
 have hx':=hx.eval ha hc
 simp only [Sh.val] at hx'
 have e3:=hs.le
 have hid:∀ oa:Option Addr,oa.map (fun a=>a.add 0)=oa:=fun oa=>by cases oa<;>simp [add_zero']
 have e4:hi≤s.cap:=by omega
 simp [execOp,hx',hy.eval ha hc,hz.eval ha hc,Instr.sliceAt,run_underlying hu,Instr.slice,Instr.sliceBounds,Instr.sliceBound,asIntOf,e4,sizeOf,typeInfo,hi',Sh.val,hid]
theorem mAq {T T':TypeId} {x y:Operand} {k:IntKind} {a1 a2:Int} (q:Int) (ho:nth l i=some ⟨some d,.call { callee:=.builtin .max,args:=#[x,y],argTypes:=#[T,T'] },t,p,af,none⟩) (hx:Ev ρ true x (.int k a1)) (hy:Ev ρ true y (.int k a2)) (he:(if a2 > a1 then a2 else a1)=q)
  (h:Wo dr mc P n l K σ ((d,true,.int k q) :: ρ) G μ):Wo dr mc P n l K (i :: σ) ρ G μ:=mA ho .no hx hy (by rw [he]; exact h)
theorem Ct.lendK {f:FuncId} {args:Array Value} {b:Nat} {o:Obj} {Q:Mem→Value→Prop} (h:PM.le G (G.add b o)→Ct P f args (G.add b o) μ (fun _ μ' u=>Q μ' u)):Ct P f args G (.blk b o :: μ) (fun _ μ' u=>∃ ν,μ'=.blk b o :: ν∧Q ν u):=by
 intro w hs
 exact Ct.lend (h (PM.le_add (hs.apart b (by simp [keys,Res.keys])))) w hs
theorem Sh.val_inj {s s':Sh} {m:Nat} (h:s.val m=s'.val m):s=s':=by
 cases s; cases s'; simp only [Sh.val,Value.slice.injEq,true_and] at h; rw [h.1,h.2]
end
def polyW:W:=2197175160#32
def halfW (x:W):W:=x >>> 1 ^^^ (polyW &&& -(x &&& 1#32))
def hIt:Nat→W→W
 | 0,x=>x
 | n+1,x=>halfW (hIt n x)
theorem hIt_add (m n:Nat) (x:W):hIt m (hIt n x)=hIt (m+n) x:=by
 induction m with
 | zero=>rw [Nat.zero_add]; rfl
 | succ m ih=>rw [hIt,ih,Nat.succ_add]; rfl
def crcB (x:W) (c:Y):W:=hIt 8 (x ^^^ c.setWidth 32)
def crcW (sum:W) (xs:List Y):W := ~~~(xs.foldl crcB (~~~sum))
theorem crc_app (sum:W) (xs ys:List Y):crcW (crcW sum xs) ys=crcW sum (xs++ys):=by
 unfold crcW; rw [BitVec.not_not,List.foldl_append]
theorem crc_nil (sum:W):crcW sum []=sum:=by simp [crcW]
theorem fold_take {xs:List Y} {k:Nat} {x:W} (h:k<xs.length):(xs.take (k+1)).foldl crcB x=crcB ((xs.take k).foldl crcB x) (xs.getD k 0):=by
 rw [List.take_succ_eq_append_getElem h,List.foldl_append]; simp [h]
def maskW (x:W):W:=rotl x 17+2726488792#32
theorem fx0 {L:List Y} {n:BitVec 64} {m:Nat} (e:L=[]++fixL n m):L.length=m:=by rw [e,List.nil_append,fix_len]
theorem fx2 {L A:List Y} {n:BitVec 64} {m:Nat} (e:L=A++fixL n m):L.length=A.length+m:=by rw [e,List.length_append,fix_len]
structure Hd where
 kind:Y
 level:Y
 gen:BitVec 64
 epoch:BitVec 64
 num:BitVec 64
 deriving DecidableEq
def Hd.cells (h:Hd):List Value:=[V h.kind,V h.level,uv .u64 h.gen,uv .u64 h.epoch,uv .u64 h.num]
def Hd.zero:Hd:=⟨0,0,0,0,0⟩
def Hd.right (h:Hd):Bool:=if (h.kind.toNat:Int)=2 then decide ((h.level.toNat:Int)<5) else if (h.kind.toNat:Int)=1∨(h.kind.toNat:Int)=3 then decide ((h.level.toNat:Int)=0)&&decide ((h.gen.toNat:Int)=0) else false
theorem Hd.right2 {h:Hd} (c:(h.kind.toNat:Int)=2):h.right=decide ((h.level.toNat:Int)<5):=by unfold Hd.right; rw [if_pos c]
theorem Hd.right1 {h:Hd} (c:(h.kind.toNat:Int)=1):h.right=(decide ((h.level.toNat:Int)=0)&&decide ((h.gen.toNat:Int)=0)):=by
 unfold Hd.right; rw [if_neg (by omega),if_pos (.inl c)]
theorem Hd.right3 {h:Hd} (c:(h.kind.toNat:Int)=3):h.right=(decide ((h.level.toNat:Int)=0)&&decide ((h.gen.toNat:Int)=0)):=by
 unfold Hd.right; rw [if_neg (by omega),if_pos (.inr c)]
theorem Hd.right0 {h:Hd} (c1:¬ (h.kind.toNat:Int)=1) (c2:¬ (h.kind.toNat:Int)=2) (c3:¬ (h.kind.toNat:Int)=3):h.right=false:=by
 unfold Hd.right; rw [if_neg c2,if_neg (by omega)]
def Hd.three (h:Hd) (k:Nat):BitVec 64:=if k=0 then h.gen else if k=1 then h.epoch else h.num
def Hd.some (h:Hd) (k:Nat):List Y:=[116#8,97#8,110#8,116#8,h.kind,h.level]++(List.range k).flatMap (fun i=>fixL (h.three i) 8)
theorem Hd.some_succ (h:Hd) (k:Nat):h.some (k+1)=h.some k++fixL (h.three k) 8:=by
 unfold Hd.some; rw [List.range_succ,List.flatMap_append,←List.append_assoc]; simp
theorem Hd.three_at {h:Hd} {k:Nat} (hk:k<3) : [uv .u64 h.gen,uv .u64 h.epoch,uv .u64 h.num][k]? = Option.some (uv .u64 (h.three k)):=by
 match k,hk with
 | 0,_=>rfl
 | 1,_=>rfl
 | 2,_=>rfl
def headL (h:Hd):List Y:=[116#8,97#8,110#8,116#8,h.kind,h.level]++fixL h.gen 8++fixL h.epoch 8++fixL h.num 8
theorem Hd.some_all (h:Hd):h.some 3=headL h:=by rw [Hd.some_succ,Hd.some_succ,Hd.some_succ]; simp [Hd.some,headL,Hd.three]
theorem Hd.some_len (h:Hd) (k:Nat):(h.some k).length=6+8*k:=by
 induction k with
 | zero=>rfl
 | succ k ih=>rw [Hd.some_succ,List.length_append,ih,fix_len]; omega
theorem head_len (h:Hd):(headL h).length=30:=by simp [headL,fix_len]
def unfK (xs:List Y):Nat→BitVec 64
 | 0=>0
 | k+1=>unfK xs k ||| (xs.getD k 0).setWidth 64 <<< (8*k)
def nonceF (n:BitVec 64):Nat→Y:=fun i=>if i<8 then (n >>> (8*i)).setWidth 8 else 0#8
theorem nonce_outs (n:BitVec 64) {i:Nat} (h:i<12):outs (nonceF n) 8 i=nonceF n i:=by
 by_cases h8:i<8
 ·exact outs_eq _ h8
 ·have:∀ k,k≤i→outs (nonceF n) k i=0#8:=fun k=>by
   induction k with
   | zero=>intro _; rfl
   | succ k ih=>intro hk; show upd (outs (nonceF n) k) k _ i=_; unfold upd; rw [if_neg (by omega)]; exact ih (by omega)
  rw [this 8 (by omega)]; unfold nonceF; rw [if_neg h8]
def expB (key use:List Y):Nat→List Y
 | 0=>[]
 | k+1=>shaL' key (expB key use k) use k
where shaL' (key last use:List Y) (k:Nat):List Y:=yl 32 (macL key (last++use++[BitVec.ofNat 8 (k+1)]))
def expL (key use:List Y):Nat→List Y
 | 0=>[]
 | k+1=>expL key use k++expB key use (k+1)
theorem expB_len (key use:List Y) (k:Nat):(expB key use (k+1)).length=32:=yl_len _ _
theorem exp_len (key use:List Y) (k:Nat):(expL key use k).length=32*k:=by
 induction k with
 | zero=>rfl
 | succ k ih=>rw [expL,List.length_append,ih,expB_len]; omega
theorem exp_last (key use:List Y) (k:Nat):(expL key use k).drop (32*k-32)=expB key use k:=by
 cases k with
 | zero=>rfl
 | succ k=>rw [expL]; exact List.drop_left' (by rw [exp_len]; omega)
def saltL:List Y:=[116#8,97#8,110#8,116#8,97#8,108#8,117#8,115#8]
def deriveL (root:Nat→Y) (use:List Y):List Y:=expL (yl 32 (macL saltL (yl 32 root))) use 2
def keyEnc (root:Nat→Y) (use:List Y):Nat→Y:=fun i=>(deriveL root use).getD i 0
def keyMac (root:Nat→Y) (use:List Y):Nat→Y:=fun i=>(deriveL root use).getD (32+i) 0
theorem key_cells {root:Nat→Y} {use L A B:List Y} (e:L=deriveL root use) (eA:A=L.take 32) (eB:B=L.drop 32) :
  ba 32 (fun i=>A.getD i 0)++ba 32 (fun i=>B.getD i 0)=ba 32 (keyEnc root use)++ba 32 (keyMac root use):=by
 subst e eA eB
 have e1:ba 32 (fun i=>((deriveL root use).take 32).getD i 0)=ba 32 (keyEnc root use):=ba_congr fun i hi=>by simp only [keyEnc,List.getD_eq_getElem?_getD,List.getElem?_take,if_pos hi]
 have e2:ba 32 (fun i=>((deriveL root use).drop 32).getD i 0)=ba 32 (keyMac root use):=ba_congr fun i _=>by simp only [keyMac,List.getD_eq_getElem?_getD,List.getElem?_drop]
 rw [e1,e2]
theorem key_put {zs:List Value} (hz:zs.length=64) (f g:Nat→Y):put (put zs 0 (ba 32 f)) 32 (ba 32 g)=ba 32 f++ba 32 g:=by
 have e1:put zs 0 (ba 32 f)=ba 32 f++zs.drop 32:=by unfold put; rw [List.take_zero,List.nil_append,ba_len]
 rw [e1]
 unfold put
 rw [List.take_left' (ba_len _ _),ba_len,List.drop_of_length_le (by rw [List.length_append,ba_len,List.length_drop,hz]; exact Nat.le_refl _),List.append_nil]
theorem key_len (f g:Nat→Y):(ba 32 f++ba 32 g).length=64:=by rw [List.length_append,ba_len,ba_len]
theorem key_one (f g:Nat→Y):∀ u∈ba 32 f++ba 32 g,u.oneCell'=true:=one_app (ba_one _ _) (ba_one _ _)
def headOf (xs:List Y):Hd:=⟨xs.getD 4 0,xs.getD 5 0,unfK (xs.drop 6) 8,unfK (xs.drop 14) 8,unfK (xs.drop 22) 8⟩
def takeH (xs:List Y):Hd×Int:=if xs.length<30 then (Hd.zero,10) else if xs.take 4=[116#8,97#8,110#8,116#8]∧(headOf xs).right=true then (headOf xs,0) else (Hd.zero,70)
theorem take_short {xs:List Y} (h:xs.length<30):takeH xs=(Hd.zero,10):=by unfold takeH; rw [if_pos h]
theorem take_bad {xs:List Y} (h:¬ xs.length<30) (c:¬ (xs.take 4=[116#8,97#8,110#8,116#8]∧(headOf xs).right=true)):takeH xs=(Hd.zero,70):=by unfold takeH; rw [if_neg h,if_neg c]
theorem take_good {xs:List Y} (h:¬ xs.length<30) (c:xs.take 4=[116#8,97#8,110#8,116#8]∧(headOf xs).right=true):takeH xs=(headOf xs,0):=by unfold takeH; rw [if_neg h,if_pos c]
theorem one5 {a b c d e:Value} (h1:a.oneCell'=true) (h2:b.oneCell'=true) (h3:c.oneCell'=true) (h4:d.oneCell'=true) (h5:e.oneCell'=true):∀ u∈[a,b,c,d,e],u.oneCell'=true:=by
 intro u hu
 simp only [List.mem_cons,List.not_mem_nil,or_false] at hu
 rcases hu with rfl|rfl|rfl|rfl|rfl<;>assumption
theorem unfK_eq {A B:List Y} {k:Nat} (h:∀ i,i<k→A.getD i 0=B.getD i 0):unfK A k=unfK B k:=by
 induction k with
 | zero=>rfl
 | succ k ih=>rw [unfK,unfK,ih (fun i hi=>h i (by omega)),h k (by omega)]
theorem head_at {xs L:List Y} (e:L=(xs.drop 6).take (30-6)):(⟨xs.getD 4 0,xs.getD 5 0,unfK L 8,unfK (L.drop 8) 8,unfK ((L.drop 8).drop 8) 8⟩ : Hd)=headOf xs:=by
 subst e
 unfold headOf
 have e1:unfK ((xs.drop 6).take (30-6)) 8=unfK (xs.drop 6) 8:=unfK_eq fun i hi=>by
  simp only [List.getD_eq_getElem?_getD,List.getElem?_take]; rw [if_pos (by omega)]
 have e2:unfK (((xs.drop 6).take (30-6)).drop 8) 8=unfK (xs.drop 14) 8:=unfK_eq fun i hi=>by
  simp only [List.getD_eq_getElem?_getD,List.getElem?_drop,List.getElem?_take]; rw [if_pos (by omega),show 6+(8+i)=14+i by omega]
 have e3:unfK ((((xs.drop 6).take (30-6)).drop 8).drop 8) 8=unfK (xs.drop 22) 8:=unfK_eq fun i hi=>by
  simp only [List.getD_eq_getElem?_getD,List.getElem?_drop,List.getElem?_take]; rw [if_pos (by omega),show 6+(8+(8+i))=22+i by omega]
 rw [e1,e2,e3]
theorem tant_beq (L:List Y):((bstr L).toList == (⟨#[116,97,110,116]⟩ : ByteArray).toList)=decide (L=[116#8,97#8,110#8,116#8]):=by
 have e:(⟨#[116,97,110,116]⟩ : ByteArray).toList=(bstr [116#8,97#8,110#8,116#8]).toList:=by rw [ByteArray.toList_eq,ByteArray.toList_eq,bstr_data]; rfl
 rw [e,bstr_beq]
theorem take_c2 {xs L:List Y} (eL:L=xs.take 4) (c:(!((bstr L).toList == (⟨#[116,97,110,116]⟩ : ByteArray).toList) || !(headOf xs).right)=true) (h:xs.take 4=[116#8,97#8,110#8,116#8]∧(headOf xs).right=true):False:=by
 rw [tant_beq,eL,h.2,decide_eq_true h.1] at c; cases c
theorem take_c3 {xs L:List Y} (eL:L=xs.take 4) (c:(!((bstr L).toList == (⟨#[116,97,110,116]⟩ : ByteArray).toList) || !(headOf xs).right)=false):xs.take 4=[116#8,97#8,110#8,116#8]∧(headOf xs).right=true:=by
 rw [tant_beq,eL,Bool.or_eq_false_iff,Bool.not_eq_false',Bool.not_eq_false',decide_eq_true_eq] at c
 exact c
end Go.Tan
namespace Go.Proofs.YtdeobooblmjlfaaDoor
open Go.Tan Go.RowKit
namespace Fx
theorem go100:goFn Tryd.prog 100=true:=by kernel_rfl
theorem go89:goFn Tryd.prog 89=true:=by kernel_rfl
theorem go70:goFn Tryd.prog 70=true:=by kernel_rfl
theorem go69:goFn Tryd.prog 69=true:=by kernel_rfl
theorem cv125_24:cvK Tryd.prog 125 24=some .u64:=by kernel_rfl
end Fx
theorem nibble_ok (x:W) (G:PM):Ct Tryd.prog 100 ([U x]:List Value).toArray G [] (fun _ μ' u=>μ'=[]∧u=U (hIt 4 x)):=by
 refine Ct.of Tryd.func100 rfl Tryd.ntmps100 rfl fun w0 hs0=>?_
 refine .seq (Wk.rg [0] rfl rfl (asg rfl .no (.u rfl) (.nil (.code (.seq (.seq (Wk.rg [0] rfl rfl (mv rfl .no (.u rfl) (.nil (.code (.block ?_)))))))))))
 refine Wk.lop (α:=Nat×W) (fun gh=>[(0,true,U gh.2),(3,true,.int .i64 (gh.1:Int))]) (fun _=>[])
  (fun gh Gl=>(gh.1≤4)∧(gh.2=hIt gh.1 x)) (fun gh=>4-gh.1) (0,x) [] []
  (ESub.c rfl (ESub.cons rfl (by first|rfl|exact evi (by omega)) ESub.nil))
  MSub.nil ?_ ?_
 ·refine ⟨?_,?_⟩
  ·(try dsimp only)<;>(first|omega|rfl|assumption|(simp; done))
  (try dsimp only)<;>(first|omega|rfl|assumption|(simp; done))
 intro gh N0 Gl0 hN0 hGl0 hF0
 obtain ⟨k,y⟩:=gh; dsimp only at hF0 hN0 ⊢
 obtain ⟨hk,ey⟩:=hF0
 refine .seq (Wk.rg [0] rfl rfl (cp rfl .no (.u rfl) (.u rfl) rfl (.nil (.code (.seq (.cond rfl (fun c1=>?_) (fun c1=>?_)))))))
 ·have c1k:=c1
  try simp only [qcA,qcB] at c1
  refine .skip (.code (.seq (.block (Wk.rg [0,1,2,3,4,5,6,7] rfl rfl (mv rfl .no (.u rfl) (rw' (k:=.u32) rfl .no (.u rfl) (.u rfl) (fun _=>by decide) ?_))))))
  refine mv rfl .no (.u rfl) (bw (k:=.u32) (b:=1#32) rfl .no rfl (.u rfl) (.u rfl) rfl (nw (k:=.u32) rfl .no rfl (.u rfl) ?_))
  refine bw (k:=.u32) (a:=2197175160#32) rfl .no rfl (.u rfl) (.u rfl) rfl (bw (k:=.u32) rfl .no rfl (.u rfl) (.u rfl) rfl (asg rfl .no (.u rfl) (.nil (.blk (.code (Wk.rg [0,1] rfl rfl (arn (((k+1):Nat):Int) rfl .no (.u rfl) (.u rfl) rfl (fun _=>by omega) (fun _=>wrap_i64 (by omega) (by omega)) ?_)))))))
  refine mv rfl .no (.u rfl) (.nil (We.lpo (k+1,halfW y) ?_ ?_ ?_ ?_ ?_))
  ·exact (ESub.c rfl (ESub.cons rfl (by first|rfl|exact evi (by omega)) ESub.nil))
  ·exact MSub.nil
  ·first|omega|(dsimp only; omega)
  ·exact hGl0
  refine ⟨?_,?_⟩
  ·(try dsimp only)<;>(first|omega|rfl|assumption|(simp; done))
  (try dsimp only)<;>(rw [ey]; rfl)
 have c1k:=c1
 try simp only [qcA,qcB] at c1
 refine .exit (.xcode (.xlp (.xblk (.code (.seq (Wk.rg [0,1] rfl rfl (mv rfl .no (.u rfl) (asg rfl .no (.u rfl) (.nil (.code (.ret (We.fin0 Tryd.results100 (.tmp rfl .nil) ?_))))))))))))
 obtain rfl:k=4:=by omega
 exact ⟨rfl,by rw [ey]; rfl⟩
theorem crcMore_ok (sum:W) (xs:List Y) (h:Sh) (G:PM) (hs:SlR G 1 encY h xs) (hl:xs.length≤9000000000000000000):Ct Tryd.prog 89 ([U sum,h.val xs.length]:List Value).toArray G [] (fun _ μ' u=>μ'=[]∧u=U (crcW sum xs)):=by
 refine Ct.of Tryd.func89 rfl Tryd.ntmps89 rfl fun w0 hs0=>?_
 refine .seq (Wk.rg [0] rfl rfl (asg rfl .no (.u rfl) (.nil (.code (.seq (Wk.rg [0,1,2] rfl rfl (mv rfl .no (.u rfl) (xw (k:=.u32) rfl .no rfl (.u rfl) ?_))))))))
 refine asg rfl .no (.u rfl) (.nil (.code (.seq (.seq (Wk.rg [0,1,2] rfl rfl (mv rfl .no (.u rfl) (ln rfl .no Fx.sn42 (.u rfl) (mv rfl .no (.u rfl) (.nil (.code (.block ?_)))))))))))
 refine Wk.lop (α:=Nat×W) (fun gh=>[(5,true,U gh.2),(12,true,.int .i64 (gh.1:Int))]) (fun _=>[])
  (fun gh Gl=>(gh.1≤xs.length)∧(gh.2=(xs.take gh.1).foldl crcB (~~~sum))) (fun gh=>xs.length-gh.1) (0, ~~~sum) [(10,true,_),(11,true,_)] []
  (ESub.c rfl (ESub.cons rfl (by first|rfl|exact evi (by omega)) (ESub.c rfl (ESub.c rfl ESub.nil))))
  MSub.nil ?_ ?_
 ·refine ⟨?_,?_⟩
  ·(try dsimp only)<;>(first|omega|rfl|assumption|(simp; done))
  (try dsimp only)<;>(first|omega|rfl|assumption|(simp; done))
 intro gh N0 Gl0 hN0 hGl0 hF0
 obtain ⟨k,x⟩:=gh; dsimp only at hF0 hN0 ⊢
 obtain ⟨hk,ex⟩:=hF0
 have hs:=hs.mono hGl0
 refine .seq (Wk.rg [0] rfl rfl (cp rfl .no (.u rfl) (.u rfl) rfl (.nil (.code (.seq (.cond rfl (fun c1=>?_) (fun c1=>?_)))))))
 ·have c1k:=c1
  try simp only [qcA,qcB] at c1
  refine .skip (.code (.seq (.block (.seq (Wk.rg [0,1,2] rfl rfl (ih rfl .no Fx.se42 (.u rfl) (.u rfl) (fun _=>by omega) (fun _=>by omega) (fun _=>hs.nn (k:=k) (by omega)) ?_))))))
  refine ld rfl .no Fx.ag5 (.u rfl) (fun _=>(hs.yat (k) (by omega) (by omega)).rd) ?_
  refine asg rfl .no (.u rfl) (.nil (.code (Wk.rg [0,1,2,3,4,5,6] rfl rfl (mv rfl .no (.u rfl) (mv rfl .no (.u rfl) (cu (k:=.u8) rfl .no rfl Fx.cv5_125 (.u rfl) ?_))))))
  refine bw (k:=.u32) rfl .no rfl (.u rfl) (.u rfl) rfl (kv rfl .no Fx.go100 (Evc rfl Evn) (fun _=>nibble_ok _ _) ?_)
  refine kv rfl .no Fx.go100 (Evc rfl Evn) (fun _=>nibble_ok _ _) ?_
  refine asg rfl .no (.u rfl) (.nil (.blk (.code (Wk.rg [0,1] rfl rfl (arn (((k+1):Nat):Int) rfl .no (.u rfl) (.u rfl) rfl (fun _=>by omega) (fun _=>wrap_i64 (by omega) (by omega)) ?_)))))
  refine mv rfl .no (.u rfl) (.nil (We.lpo (k+1,hIt 4 (hIt 4 (x ^^^ (xs.getD k 0).setWidth 32))) ?_ ?_ ?_ ?_ ?_))
  ·exact (ESub.c rfl (ESub.cons rfl (by first|rfl|exact evi (by omega)) (ESub.c rfl (ESub.c rfl ESub.nil))))
  ·exact MSub.nil
  ·first|omega|(dsimp only; omega)
  ·exact hGl0
  refine ⟨?_,?_⟩
  ·(try dsimp only)<;>(first|omega|rfl|assumption|(simp; done))
  (try dsimp only)<;>(rw [fold_take (by omega),←ex,hIt_add]; rfl)
 have c1k:=c1
 try simp only [qcA,qcB] at c1
 refine .exit (.xcode (.xlp (.xblk (.code (.seq (Wk.rg [0,1,2] rfl rfl (mv rfl .no (.u rfl) (xw (k:=.u32) rfl .no rfl (.u rfl) ?_))))))))
 refine asg rfl .no (.u rfl) (.nil (.code (.ret (We.fin0 Tryd.results89 (.tmp rfl .nil) ?_))))
 obtain rfl:k=xs.length:=by omega
 exact ⟨rfl,by rw [ex,List.take_length]; rfl⟩
theorem crcSum_ok (ps:List (Sh×List Y)) (h:Sh) (G:PM) (hs:SlP G h ps) (hl:(catL ps).length≤9000000000000000000) (hn:ps.length≤1000):Ct Tryd.prog 70 ([h.val ps.length]:List Value).toArray G [] (fun _ μ' u=>μ'=[]∧u=U (crcW 0#32 (catL ps))):=by
 refine Ct.of Tryd.func70 rfl Tryd.ntmps70 rfl fun w0 hs0=>?_
 refine .seq (Wk.rg [0] rfl rfl (asg rfl .no (.u rfl) (.nil (.code (.seq (Wk.rg [0] rfl rfl (asg rfl .no (.u rfl) (.nil (.code (.seq (.seq (Wk.rg [0,1,2] rfl rfl (mv rfl .no (.u rfl) (ln rfl .no Fx.sn72 (.u rfl) (mv rfl .no (.u rfl) (.nil (.code (.block ?_))))))))))))))))))
 refine Wk.lop (α:=Nat×W) (fun gh=>[(3,true,U gh.2),(8,true,.int .i64 (gh.1:Int))]) (fun _=>[])
  (fun gh Gl=>(gh.1≤ps.length)∧(gh.2=crcW 0#32 (catL (ps.take gh.1)))) (fun gh=>ps.length-gh.1) (0,0#32) [(6,true,_),(7,true,_)] []
  (ESub.c rfl (ESub.cons rfl (by first|rfl|exact evi (by omega)) (ESub.c rfl (ESub.c rfl ESub.nil))))
  MSub.nil ?_ ?_
 ·refine ⟨?_,?_⟩
  ·(try dsimp only)<;>(first|omega|rfl|assumption|(simp; done))
  (try dsimp only)<;>(simp [catL,crc_nil])
 intro gh N0 Gl0 hN0 hGl0 hF0
 obtain ⟨k,x⟩:=gh; dsimp only at hF0 hN0 ⊢
 obtain ⟨hk,ex⟩:=hF0
 have hs:=hs.mono hGl0
 refine .seq (Wk.rg [0] rfl rfl (cp rfl .no (.u rfl) (.u rfl) rfl (.nil (.code (.seq (.cond rfl (fun c1=>?_) (fun c1=>?_)))))))
 ·have c1k:=c1
  try simp only [qcA,qcB] at c1
  refine .skip (.code (.seq (.block (.seq (Wk.rg [0,1,2] rfl rfl (ih rfl .no Fx.se72 (.u rfl) (.u rfl) (fun _=>by omega) (fun _=>by omega) (fun _=>hs.sl.nn (k:=k) (by omega)) ?_))))))
  obtain ⟨p11,ep11⟩:=getx (k:=k) (xs:=ps) (by omega)
  have hq11:=hs.get ep11
  refine ld rfl .no Fx.ag42 (.u rfl) (fun _=>(hs.at (k) (by omega) ep11).rd) ?_
  refine asg rfl .no (.u rfl) (.nil (.code (Wk.rg [0,1,2,3] rfl rfl (mv rfl .no (.u rfl) (mv rfl .no (.u rfl) (kv rfl .no Fx.go89 (Evc rfl (Evc rfl Evn)) (fun _=>crcMore_ok _ p11.2 _ _ hq11 (by have:=cat_len ep11; omega)) ?_))))))
  refine asg rfl .no (.u rfl) (.nil (.blk (.code (Wk.rg [0,1] rfl rfl (arn (((k+1):Nat):Int) rfl .no (.u rfl) (.u rfl) rfl (fun _=>by omega) (fun _=>wrap_i64 (by omega) (by omega)) ?_)))))
  refine mv rfl .no (.u rfl) (.nil (We.lpo (k+1,crcW x p11.2) ?_ ?_ ?_ ?_ ?_))
  ·exact (ESub.c rfl (ESub.cons rfl (by first|rfl|exact evi (by omega)) (ESub.c rfl (ESub.c rfl ESub.nil))))
  ·exact MSub.nil
  ·first|omega|(dsimp only; omega)
  ·exact hGl0
  refine ⟨?_,?_⟩
  ·(try dsimp only)<;>(first|omega|rfl|assumption|(simp; done))
  (try dsimp only)<;>(rw [ex,crc_app,cat_take ep11])
 have c1k:=c1
 try simp only [qcA,qcB] at c1
 refine .exit (.xcode (.xlp (.xblk (.code (.seq (Wk.rg [0,1] rfl rfl (mv rfl .no (.u rfl) (asg rfl .no (.u rfl) (.nil (.code (.ret (We.fin0 Tryd.results70 (.tmp rfl .nil) ?_))))))))))))
 obtain rfl:k=ps.length:=by omega
 exact ⟨rfl,by rw [ex,List.take_length]; rfl⟩
theorem Mask_ok (x:W) (G:PM):Ct Tryd.prog 69 ([U x]:List Value).toArray G [] (fun _ μ' u=>μ'=[]∧u=U (maskW x)):=by
 refine Ct.of Tryd.func69 rfl Tryd.ntmps69 rfl fun w0 hs0=>?_
 refine .seq (Wk.rg [0] rfl rfl (asg rfl .no (.u rfl) (.nil (.code (.seq (Wk.rg [0,1,2,3] rfl rfl (mv rfl .no (.u rfl) (kv rfl .no Fx.go88 (Evc rfl (Evc rfl Evn)) (fun _=>rot_ok _ 17 _) ?_))))))))
 refine bw (k:=.u32) (b:=2726488792#32) rfl .no rfl (.u rfl) (.u rfl) rfl (asg rfl .no (.u rfl) (.nil (.code (.ret (We.fin0 Tryd.results69 (.tmp rfl .nil) ?_)))))
 exact ⟨rfl,rfl⟩
theorem crc2_ok {G:PM} {b7 b9 T7 T9:Nat} {kind:Y} {h:Sh} {p:List Y} (hle:PM.le G ((G.add b7 (cl [V kind] T7)).add b9 (cl [.slice (some ⟨b7,0,none⟩) 1 1,h.val p.length] T9))) (hq:PM.le (G.add b7 (cl [V kind] T7)) ((G.add b7 (cl [V kind] T7)).add b9 (cl [.slice (some ⟨b7,0,none⟩) 1 1,h.val p.length] T9))) (hs:SlR G 1 encY h p) (hl:p.length≤1000000000000000) :
  Ct Tryd.prog 70 ([.slice (some ⟨b9,0,none⟩) 2 2]:List Value).toArray ((G.add b7 (cl [V kind] T7)).add b9 (cl [.slice (some ⟨b7,0,none⟩) 1 1,h.val p.length] T9)) [] (fun _ μ' u=>μ'=[]∧u=U (crcW 0#32 ([kind]++p))):=by
 have h1:SlR (G.add b7 (cl [V kind] T7)) 1 encY ⟨some ⟨b7,0,none⟩,1⟩ [kind]:=SlR.ofBlk (T:=T7) (PM.add_same _ _ _) (fun _ _=>rfl) (by simp)
 have hP:SlP ((G.add b7 (cl [V kind] T7)).add b9 (cl [.slice (some ⟨b7,0,none⟩) 1 1,h.val p.length] T9)) ⟨some ⟨b9,0,none⟩,2⟩ [(⟨some ⟨b7,0,none⟩,1⟩,[kind]),(h,p)] :=
  ⟨SlR.ofBlk (T:=T9) (PM.add_same _ _ _) (fun _ _=>rfl) (by simp),fun q hq'=>by
   rcases List.mem_cons.1 hq' with rfl | hq'
   ·exact h1.mono hq
   ·rw [List.mem_singleton.1 hq']; exact hs.mono hle⟩
 have hh:=crcSum_ok _ ⟨some ⟨b9,0,none⟩,2⟩ _ hP (by simp [catL]; omega) (by simp)
 rw [show catL [((⟨some ⟨b7,0,none⟩,1⟩ : Sh),[kind]),(h,p)]=[kind]++p by simp [catL]] at hh
 exact hh
theorem whead_ok (kind:Y) (p:List Y) (h:Sh) (G:PM) (hs:SlR G 1 encY h p) (hl:p.length≤1000000000000000):Ct Tryd.prog 44 ([V kind,h.val p.length]:List Value).toArray G [] (PR 5 (fun L=>L=fixL ((maskW (crcW 0#32 ([kind]++p))).setWidth 64) 4++fixL (BitVec.ofInt 64 (p.length:Int)) 2++[kind])):=by
 refine Ct.of Tryd.func44 rfl Tryd.ntmps44 rfl fun w0 hs0=>?_
 refine .seq (Wk.rg [0] rfl rfl (asg rfl .no (.u rfl) (.nil (.code (.seq (Wk.rg [0,1,2,3,4,5,6] rfl rfl (mv rfl .no (.u rfl) ?_)))))))
 refine Go.Tan.b1 rfl Fx.se42 Fx.zv5 (.u rfl) rfl rfl (by decide) ?_; intro b7
 refine mv rfl .no (.u rfl) ?_
 refine Go.Tan.bN rfl Fx.se72 Fx.zv42 (Evp.cons (.u rfl) (Evp.cons (.u rfl) Evp.nil)) rfl (by decide) (by simp [Value.oneCell',Sh.val]) ?_; intro b9
 refine kp rfl .no Fx.go70 (Evc rfl Evn) (Gp.add .here (Gp.add .here Gp.nil)) (fun _ hle hq=>crc2_ok hle hq.1 hs hl) ?_
 refine kv rfl .no Fx.go69 (Evc rfl Evn) (fun _=>Mask_ok _ _) ?_
 refine asg rfl .no (.u rfl) (.nil (.code (.seq (Wk.rg [0,1,2,3,4,5,6,7,8,9,10] rfl rfl (mv rfl .no (.u rfl) (cu (k:=.u32) rfl .no rfl Fx.cv125_24 (.u rfl) ?_))))))
 refine kc rfl Fx.go31 (Evc rfl (Evc rfl (Evc rfl Evn))) (Ct.frzB (Fix_ok [] ⟨none,0⟩ _ 4 _ SlR.nul (by simp) (by decide))) ?_
 rintro _ G14 μ14 hG14 ⟨h14,L14,eL14,rfl,rfl,hs14⟩
 refine mv rfl .no (.u rfl) (ln rfl .no Fx.sn42 (.u rfl) (ci rfl .no rfl Fx.cv3_24 (.u rfl) ?_))
 refine kc rfl Fx.go31 (Evc rfl (Evc rfl (Evc rfl Evn))) (Ct.rowc (Fix_ok L14 h14 _ 2 _ hs14 (by have:=fx0 eL14; omega) (by decide))) ?_
 rintro v18 G18 μ18 hG18 ⟨L18,ov18,eL18,rfl⟩
 refine mv rfl .no (.u rfl) ?_
 refine Go.Tan.b1 rfl Fx.se42 Fx.zv5 (.u rfl) rfl rfl (by decide) ?_; intro b20
 have lL18:L18.length=6:=by have:=fx0 eL14; have:=fx2 eL18; omega
 refine apY rfl Fx.se42 Fx.zv5 (.u rfl) (.u rfl) (.there .here) (Sc.one .here) (by show _+1≤_; omega) ?_
 intro v21 L21 ov21 eL21
 have lL21:L21.length=L18.length+1:=by rw [eL21,List.length_append]; first|rfl | simp [yl_len]
 refine asg rfl .no (.u rfl) (.nil (.code (.ret (We.fin Tryd.results44 (.tmp rfl .nil) (MSub.cons .here rfl MSub.nil) ?_))))
 exact ⟨L21,by rw [eL21,eL18,eL14]; rfl,rfl⟩
namespace Fx
theorem fo38_0:fOff Tryd.prog 38 0=some 0:=by kernel_rfl
theorem fo38_1:fOff Tryd.prog 38 1=some 1:=by kernel_rfl
theorem fo38_2:fOff Tryd.prog 38 2=some 2:=by kernel_rfl
theorem ag24:aggN Tryd.prog 24=some none:=by kernel_rfl
theorem zq123:zrL Tryd.prog 123=some (ba 12 (fun _=>0#8)):=by kernel_rfl
theorem sz123:szT Tryd.prog 123=some 12:=by kernel_rfl
theorem fo38_3:fOff Tryd.prog 38 3=some 3:=by kernel_rfl
theorem fo38_4:fOff Tryd.prog 38 4=some 4:=by kernel_rfl
theorem bp89_0_1_2:bPl Tryd.prog 89 [0,1,2]=some ([.int .u64 0,.int .u64 0,.int .u64 0],[(0,1),(1,1),(2,1)]):=by kernel_rfl
theorem ar89:arE Tryd.prog 89=some (3,24,1):=by kernel_rfl
end Fx
theorem nRight_ok (h:Hd) (G:PM):Ct Tryd.prog 13 ([.agg ([V h.kind,V h.level,uv .u64 h.gen,uv .u64 h.epoch,uv .u64 h.num]:List Value).toArray]:List Value).toArray G [] (fun _ μ' u=>μ'=[]∧u=.bool h.right):=by
 refine Ct.of Tryd.func13 rfl Tryd.ntmps13 rfl fun w0 hs0=>?_
 refine .seq (Wk.rg [0,1] rfl rfl ?_)
 refine bx rfl (.u rfl) rfl ?_; intro b1
 refine asg rfl .no (.u rfl) (.nil (.code (.seq (.seq (Wk.rg [0,1] rfl rfl (fz rfl .no Fx.fo38_0 (.u rfl) (ld rfl .no Fx.ag5 (.u rfl) (fun _=>Rd.own .here (by first|exact wap_f rfl|rfl)) ?_)))))))
 refine .nil (.code (.block (.seq (Wk.rg [0,1] rfl rfl (cp rfl .no (.u rfl) (.u rfl) rfl (asg rfl .no (.u rfl) (.nil (.code (.cond rfl (fun c1=>?_) (fun c1=>?_))))))))))
 ·have c1k:=c1
  try simp only [qcA,qcB] at c1
  refine .seq (Wk.rg [0,1,2,3] rfl rfl (fz rfl .no Fx.fo38_1 (.u rfl) (ld rfl .no Fx.ag5 (.u rfl) (fun _=>Rd.own .here (by first|exact wap_f rfl|rfl)) ?_)))
  refine cp rfl .no (.u rfl) (.u rfl) rfl (asg rfl .no (.u rfl) (.nil (.code (.ret (We.fin0 Tryd.results13 (.tmp rfl .nil) ?_)))))
  exact ⟨rfl,congrArg Value.bool (Hd.right2 c1).symm⟩
 have c1k:=c1
 try simp only [qcA,qcB] at c1
 refine .seq (.seq (Wk.rg [0,1] rfl rfl (cp rfl .no (.u rfl) (.u rfl) rfl (asg rfl .no (.u rfl) (.nil (.code (.cond rfl (fun c2=>?_) (fun c2=>?_))))))))
 ·have c2k:=c2
  try simp only [qcA,qcB] at c2
  refine .skip (.code (Wk.condT rfl c2k ?_))
  refine .seq (Wk.rg [0,1,2,3,4,5,6,7,8] rfl rfl (fz rfl .no Fx.fo38_1 (.u rfl) (ld rfl .no Fx.ag5 (.u rfl) (fun _=>Rd.own .here (by first|exact wap_f rfl|rfl)) ?_)))
  refine cp rfl .no (.u rfl) (.u rfl) rfl (mv rfl .no (.u rfl) (fz rfl (.t rfl rfl) Fx.fo38_2 (.u rfl) (ld rfl (.t rfl rfl) Fx.ag24 (.s rfl) (fun hc=>Rd.own .here (by first|exact wap_f rfl|rfl)) ?_)))
  refine cp rfl (.t rfl rfl) (.s rfl) (.u rfl) rfl (pkA rfl .no (.u rfl) (.s rfl) (asg rfl .no (.u rfl) (.nil (.code (.ret (We.fin0 Tryd.results13 (.tmp rfl .nil) ?_))))))
  exact ⟨rfl,congrArg Value.bool (Hd.right1 c2).symm⟩
 have c2k:=c2
 try simp only [qcA,qcB] at c2
 refine Wk.rg [0,1] rfl rfl (cp rfl .no (.u rfl) (.u rfl) rfl (asg rfl .no (.u rfl) (.nil (.code (.cond rfl (fun c3=>?_) (fun c3=>?_))))))
 ·have c3k:=c3
  try simp only [qcA,qcB] at c3
  refine .seq (Wk.rg [0,1,2,3,4,5,6,7,8] rfl rfl (fz rfl .no Fx.fo38_1 (.u rfl) (ld rfl .no Fx.ag5 (.u rfl) (fun _=>Rd.own .here (by first|exact wap_f rfl|rfl)) ?_)))
  refine cp rfl .no (.u rfl) (.u rfl) rfl (mv rfl .no (.u rfl) (fz rfl (.t rfl rfl) Fx.fo38_2 (.u rfl) (ld rfl (.t rfl rfl) Fx.ag24 (.s rfl) (fun hc=>Rd.own .here (by first|exact wap_f rfl|rfl)) ?_)))
  refine cp rfl (.t rfl rfl) (.s rfl) (.u rfl) rfl (pkA rfl .no (.u rfl) (.s rfl) (asg rfl .no (.u rfl) (.nil (.code (.ret (We.fin0 Tryd.results13 (.tmp rfl .nil) ?_))))))
  exact ⟨rfl,congrArg Value.bool (Hd.right3 c3).symm⟩
 have c3k:=c3
 try simp only [qcA,qcB] at c3
 refine .skip (.blk (.code (.seq (Wk.rg [0] rfl rfl (asg rfl .no (.u rfl) (.nil (.code (.ret (We.fin0 Tryd.results13 (.tmp rfl .nil) ?_)))))))))
 exact ⟨rfl,congrArg Value.bool (Hd.right0 c2 c1 c3).symm⟩
theorem Nonce_ok (n:BitVec 64) (G:PM):Ct Tryd.prog 59 ([uv .u64 n]:List Value).toArray G [] (fun _ μ' u=>μ'=[]∧u=.agg (ba 12 (nonceF n)).toArray):=by
 refine Ct.of Tryd.func59 rfl Tryd.ntmps59 rfl fun w0 hs0=>?_
 refine .seq (Wk.rg [0] rfl rfl ?_)
 refine al rfl Fx.zq123 ?_; intro b2
 refine .nil (.code (.seq (Wk.rg [0] rfl rfl ?_)))
 refine al rfl Fx.zq123 ?_; intro b3
 refine .nil (.code (.seq (.seq (Wk.rg [0] rfl rfl (mv rfl .no (.u rfl) (.nil (.code (.block ?_))))))))
 refine Wk.lop (α:=Nat×(Nat→Y)) (fun gh=>[(5,true,.int .i64 (gh.1:Int))]) (fun gh=>[.blk b3 (cl (ba 12 gh.2) 123)])
  (fun gh Gl=>(gh.1≤8)∧(gh.2=outs (nonceF n) gh.1)) (fun gh=>8-gh.1) (0,fun _=>0#8) [(0,true,_),(2,true,_),(3,true,_)] [_]
  (ESub.cons rfl (by first|rfl|exact evi (by omega)) (ESub.c rfl (ESub.c rfl (ESub.c rfl ESub.nil))))
  (MSub.cons .here rfl (MSub.cons .here rfl MSub.nil)) ?_ ?_
 ·refine ⟨?_,?_⟩
  ·(try dsimp only)<;>(first|omega|rfl|assumption|(simp; done))
  (try dsimp only)<;>(first|omega|rfl|assumption|(simp; done))
 intro gh N0 Gl0 hN0 hGl0 hF0
 obtain ⟨k,f⟩:=gh; dsimp only at hF0 hN0 ⊢
 obtain ⟨hk,ef⟩:=hF0
 refine .seq (Wk.rg [0] rfl rfl (cp rfl .no (.u rfl) (.u rfl) rfl (.nil (.code (.seq (.cond rfl (fun c1=>?_) (fun c1=>?_)))))))
 ·have c1k:=c1
  try simp only [qcA,qcB] at c1
  refine .skip (.code (.seq (.block (.seq (Wk.rg [0,1] rfl rfl (mv rfl .no (.u rfl) (asg rfl .no (.u rfl) (.nil (.code (Wk.rg [0,1,2,3,4,5,6,7] rfl rfl (mv rfl .no (.u rfl) (mv rfl .no (.u rfl) (mv rfl .no (.u rfl) (arn (((8*k):Nat):Int) rfl .no (.u rfl) (.u rfl) rfl (fun _=>by omega) (fun _=>wrap_i64 (by omega) (by omega)) ?_))))))))))))))
  refine rw' (k:=.u64) rfl .no (.u rfl) (.u rfl) (fun _=>by omega) ?_
  refine cu (k:=.u64) rfl .no rfl Fx.cv24_5 (.u rfl) ?_
  refine iA rfl .no Fx.ar123 (.u rfl) (.u rfl) (fun _=>by omega) (fun _=>by omega) ?_
  refine s1 rfl (.u rfl) (.u rfl) rfl Fx.sz5 .here (by first|decide|(simp only [wa_len,ba_len,qlA]; omega)) (by first|exact wa_set1 (k) (by omega)|exact ba_set1 (k) (by omega)|exact wap_set1 (k) (by omega) (by omega)|rfl) ?_
  refine .nil (.blk (.code (Wk.rg [0,1] rfl rfl (arn (((k+1):Nat):Int) rfl .no (.u rfl) (.u rfl) rfl (fun _=>by omega) (fun _=>wrap_i64 (by omega) (by omega)) ?_))))
  refine mv rfl .no (.u rfl) (.nil (We.lpo (k+1,upd f k ((n >>> (8*k)).setWidth 8)) ?_ ?_ ?_ ?_ ?_))
  ·exact (ESub.cons rfl (by first|rfl|exact evi (by omega)) (ESub.c rfl (ESub.c rfl (ESub.c rfl ESub.nil))))
  ·exact (MSub.cons .here rfl (MSub.cons .here rfl MSub.nil))
  ·first|omega|(dsimp only; omega)
  ·exact hGl0
  refine ⟨?_,?_⟩
  ·(try dsimp only)<;>(first|omega|rfl|assumption|(simp; done))
  (try dsimp only)<;>(exact outs_step1 ef (by unfold nonceF; rw [if_pos (by omega)]))
 have c1k:=c1
 try simp only [qcA,qcB] at c1
 refine .exit (.xcode (.xlp (.xblk (.code (.seq (Wk.rg [0,1] rfl rfl (lA rfl .no Fx.ag123 (.u rfl) (fun _=>RdN.own .here) (fun _=>(by first|exact qE|exact qL|rfl)) ?_)))))))
 refine sw rfl (.u rfl) (.u rfl) rfl Fx.sz123 (.there .here) (by first|exact qE|exact qL|rfl) (by first|exact ba_one _ _|exact wa_one _ _|exact one_V _|decide|exact one_app (wa_one _ _) (by simp [Value.oneCell'])) ?_
 refine .nil (.code (.ret (We.fin0 Tryd.results59 (.cell rfl (fun w hw=>run_loadVarN Fx.ag123 (RdN.own .here) ((by first|exact qE|exact qL|rfl)) hw) .nil) ?_)))
 obtain rfl:k=8:=by omega
 exact ⟨rfl,by rw [ef,ba_congr (fun i hi=>nonce_outs n hi)]; rfl⟩
theorem nLay_ok (h:Hd) (G:PM):Ct Tryd.prog 17 ([.agg ([V h.kind,V h.level,uv .u64 h.gen,uv .u64 h.epoch,uv .u64 h.num]:List Value).toArray]:List Value).toArray G [] (PR 5 (fun L=>L=headL h)):=by
 refine Ct.of Tryd.func17 rfl Tryd.ntmps17 rfl fun w0 hs0=>?_
 refine .seq (Wk.rg [0,1] rfl rfl ?_)
 refine bx rfl (.u rfl) rfl ?_; intro b1
 refine asg rfl .no (.u rfl) (.nil (.code (.seq (Wk.rg [0,1,2,3,4,5,6,7,8] rfl rfl ?_))))
 refine Go.Tan.bN rfl Fx.se42 Fx.zv5 (Evp.cons (.u rfl) (Evp.cons (.u rfl) (Evp.cons (.u rfl) (Evp.cons (.u rfl) Evp.nil)))) rfl (by decide) (by simp [Value.oneCell',Sh.val]) ?_; intro b6
 refine mkS [116#8,97#8,110#8,116#8] rfl rfl Fx.cst42 (.u rfl) .here rfl rfl (by decide) ?_; intro G7 hG7 hs7
 refine fz rfl .no Fx.fo38_0 (.u rfl) (ld rfl .no Fx.ag5 (.u rfl) (fun _=>Rd.own .here (by first|exact wap_f rfl|rfl)) ?_)
 refine fz rfl .no Fx.fo38_1 (.u rfl) (ld rfl .no Fx.ag5 (.u rfl) (fun _=>Rd.own .here (by first|exact wap_f rfl|rfl)) ?_)
 refine Go.Tan.bN rfl Fx.se42 Fx.zv5 (Evp.cons (.u rfl) (Evp.cons (.u rfl) Evp.nil)) rfl (by decide) (one2 rfl rfl) ?_; intro b12
 refine apF (.inr rfl) rfl Fx.se42 Fx.zv5 (.u rfl) (.u rfl) hs7 rfl (Sc.blk (ys:=[h.kind,h.level]) .here rfl rfl) (by (try simp only [List.length_cons,List.length_nil]); omega) (by (try simp only [List.length_cons,List.length_nil]); omega) (by (try simp only [List.length_cons,List.length_nil]); omega) ?_; intro v13 L13 ov13 eL13
 have lL13:L13.length=[116#8,97#8,110#8,116#8].length+2:=by rw [eL13,List.length_append]; first|rfl | simp [yl_len]
 refine asg rfl .no (.u rfl) (.nil (.code (.seq (.seq (Wk.rg [0,1,2,3,4,5,6,7] rfl rfl (fz rfl .no Fx.fo38_2 (.u rfl) (ld rfl .no Fx.ag24 (.u rfl) (fun _=>Rd.own (.there (.there .here)) (by first|exact wap_f rfl|rfl)) ?_)))))))
 refine fz rfl .no Fx.fo38_3 (.u rfl) (ld rfl .no Fx.ag24 (.u rfl) (fun _=>Rd.own (.there (.there .here)) (by first|exact wap_f rfl|rfl)) ?_)
 refine fz rfl .no Fx.fo38_4 (.u rfl) (ld rfl .no Fx.ag24 (.u rfl) (fun _=>Rd.own (.there (.there .here)) (by first|exact wap_f rfl|rfl)) ?_)
 refine bC rfl .no Fx.bp89_0_1_2 (.cons (.u rfl) rfl (.cons (.u rfl) rfl (.cons (.u rfl) rfl .nil))) rfl ?_
 refine mv rfl .no (.u rfl) (.nil (.code (.block ?_)))
 refine Wk.lop (α:=Nat×Value×List Y) (fun gh=>[(3,true,gh.2.1),(21,true,.int .i64 (gh.1:Int))]) (fun gh=>[rB gh.2.1 5 gh.2.2])
  (fun gh Gl=>(gh.1≤3)∧(gh.2.2=h.some gh.1)) (fun gh=>3-gh.1) (0,_,_) [(20,true,_)] [_,_]
  (ESub.c rfl (ESub.cons rfl (by first|rfl|exact evi (by omega)) (ESub.c rfl ESub.nil)))
  (MSub.cons .here rfl (MSub.cons .here rfl (MSub.cons .here rfl MSub.nil))) ?_ ?_
 ·refine ⟨?_,?_⟩
  ·(try dsimp only)<;>(first|omega|rfl|assumption|(simp; done))
  (try dsimp only)<;>(rw [eL13]; rfl)
 intro gh N0 Gl0 hN0 hGl0 hF0
 obtain ⟨k,v,L⟩:=gh; dsimp only at hF0 hN0 ⊢
 obtain ⟨hk,eL⟩:=hF0
 have lL:L.length=6+8*k:=by rw [eL,Hd.some_len]
 refine .seq (Wk.rg [0] rfl rfl (cp rfl .no (.u rfl) (.u rfl) rfl (.nil (.code (.seq (.cond rfl (fun c1=>?_) (fun c1=>?_)))))))
 ·have c1k:=c1
  try simp only [qcA,qcB] at c1
  refine .skip (.code (.seq (.block (.seq (Wk.rg [0,1] rfl rfl (ix rfl .no Fx.ar89 Fx.ag24 (.u rfl) (.u rfl) (fun _=>by omega) (fun _=>by omega) (fun _=>Hd.three_at (by omega)) ?_))))))
  refine asg rfl .no (.u rfl) (.nil (.code ?_))
  refine wk_fb .here (by first|(intro b hb; cases hb; done) | simp [keys,Res.keys]) ?_; intro GfR13 hR13 hleR13 evR13 hsR13; subst evR13
  refine Wk.rg [0,1,2,3] rfl rfl (mv rfl .no (.u rfl) (mv rfl .no (.u rfl) (kc rfl Fx.go31 (Evc rfl (Evc rfl (Evc rfl Evn))) (Ct.rowc (Fix_ok L _ _ 8 _ hsR13 (by omega) (by decide))) ?_)))
  rintro v26 G26 μ26 hG26 ⟨L26,ov26,eL26,rfl⟩
  refine asg rfl .no (.u rfl) (.nil (.blk (.code (Wk.rg [0,1] rfl rfl (arn (((k+1):Nat):Int) rfl .no (.u rfl) (.u rfl) rfl (fun _=>by omega) (fun _=>wrap_i64 (by omega) (by omega)) ?_)))))
  refine mv rfl .no (.u rfl) (.nil (We.lpo (k+1,v26,L26) ?_ ?_ ?_ ?_ ?_))
  ·exact (ESub.c rfl (ESub.cons rfl (by first|rfl|exact evi (by omega)) (ESub.c rfl ESub.nil)))
  ·exact (MSub.cons .here rfl (MSub.cons .here rfl (MSub.cons .here rfl MSub.nil)))
  ·first|omega|(dsimp only; omega)
  ·exact ((hGl0).trans hleR13).trans hG26
  refine ⟨?_,?_⟩
  ·(try dsimp only)<;>(first|omega|rfl|assumption|(simp; done))
  (try dsimp only)<;>(rw [eL26,eL,Hd.some_succ]; rfl)
 have c1k:=c1
 try simp only [qcA,qcB] at c1
 refine .exit (.xcode (.xlp (.xblk (.code (.seq (Wk.rg [0,1] rfl rfl (mv rfl .no (.u rfl) (asg rfl .no (.u rfl) (.nil (.code (.ret (We.fin Tryd.results17 (.tmp rfl .nil) (MSub.cons .here rfl MSub.nil) ?_))))))))))))
 obtain rfl:k=3:=by omega
 exact ⟨L,by rw [eL,Hd.some_all],rfl⟩
theorem mac1_ok {G:PM} {b T:Nat} {hk h1:Sh} {key L1:List Y} (hle:PM.le G (G.add b (cl [h1.val L1.length] T))) (hsk:SlR G 1 encY hk key) (hs:SlR G 1 encY h1 L1) (hK:RdNP G 1 0 (wa 64 kW)) (hlk:key.length≤140737488351232) (hl:L1.length≤1000000000000000) :
  Ct Tryd.prog 97 ([hk.val key.length,.slice (some ⟨b,0,none⟩) 1 1]:List Value).toArray (G.add b (cl [h1.val L1.length] T)) [] (fun _ μ' u=>μ'=[]∧u=.agg (ba 32 (macL key L1)).toArray):=by
 have h:=macSum_ok key hk [(h1,L1)] ⟨some ⟨b,0,none⟩,1⟩ _ (hsk.mono hle) (SlP.one hle hs) (hK.mono hle) hlk (by simpa [catL] using hl) (by simp)
 rw [show catL [(h1,L1)]=L1 by simp [catL]] at h
 exact h
theorem Extract_ok (salt:List Y) (hk:Sh) (xs:List Y) (h:Sh) (G:PM) (hsk:SlR G 1 encY hk salt) (hs:SlR G 1 encY h xs) (hK:RdNP G 1 0 (wa 64 kW)) (hlk:salt.length≤140737488351232) (hl:xs.length≤1000000000000000):Ct Tryd.prog 86 ([hk.val salt.length,h.val xs.length]:List Value).toArray G [] (fun _ μ' u=>μ'=[]∧u=.agg (ba 32 (macL salt xs)).toArray):=by
 refine Ct.of Tryd.func86 rfl Tryd.ntmps86 rfl fun w0 hs0=>?_
 refine .seq (Wk.rg [0] rfl rfl ?_)
 refine al rfl Fx.zq34 ?_; intro b4
 refine .nil (.code (.seq (Wk.rg [0,1,2,3,4] rfl rfl (mv rfl .no (.u rfl) (mv rfl .no (.u rfl) ?_)))))
 refine Go.Tan.b1 rfl Fx.se72 Fx.zv42 (.u rfl) rfl rfl (by decide) ?_; intro b7
 refine kp rfl .no Fx.go97 (Evc rfl (Evc rfl Evn)) (Gp.add .here Gp.nil) (fun _ hle hq=>mac1_ok hle hsk hs hK hlk hl) ?_
 refine sw rfl (.u rfl) (.u rfl) rfl Fx.sz34 (.there .here) (by first|exact qE|exact qL|rfl) (by first|exact ba_one _ _|exact wa_one _ _|exact one_V _|decide|exact one_app (wa_one _ _) (by simp [Value.oneCell'])) ?_
 refine .nil (.code (.ret (We.fin0 Tryd.results86 (.cell rfl (fun w hw=>run_loadVarN Fx.ag34 (RdN.own .here) ((by first|exact qE|exact qL|rfl)) hw) .nil) ?_)))
 exact ⟨rfl,rfl⟩
theorem SlP.three {G:PM} {b T:Nat} {h1 h2 h3:Sh} {L1 L2 L3:List Y} (hle:PM.le G (G.add b (cl [h1.val L1.length,h2.val L2.length,h3.val L3.length] T))) (hs:SlR G 1 encY h1 L1) (hs2:SlR G 1 encY h2 L2) (hs3:SlR G 1 encY h3 L3) :
  SlP (G.add b (cl [h1.val L1.length,h2.val L2.length,h3.val L3.length] T)) ⟨some ⟨b,0,none⟩,3⟩ [(h1,L1),(h2,L2),(h3,L3)] :=
 ⟨SlR.ofBlk (T:=T) (PM.add_same _ _ _) (fun _ _=>rfl) (by simp),fun p hp=>by
  simp only [List.mem_cons,List.not_mem_nil,or_false] at hp
  rcases hp with rfl|rfl|rfl
  ·exact hs.mono hle
  ·exact hs2.mono hle
  ·exact hs3.mono hle⟩
theorem mac3_row {G:PM} {b c T T' E lo:Nat} {hk hu s:Sh} {key use L:List Y} {y:Y} (hsk:SlR G 1 encY hk key) (hsu:SlR G 1 encY hu use) (hK:RdNP G 1 0 (wa 64 kW)) (hlo:lo≤L.length) (hlk:key.length≤140737488351232) (hl:L.length+use.length≤100000000000000) :
  Ct Tryd.prog 97 ([hk.val key.length,.slice (some ⟨c,0,none⟩) 3 3]:List Value).toArray G [rB (s.val L.length) E L,.blk b (cl [V y] T),.blk c (cl [(s.cut lo 1).val (L.length-lo),hu.val use.length,.slice (some ⟨b,0,none⟩) 1 1] T')]
   (fun _ μ' u=>∃ ν,μ'=rB (s.val L.length) E L :: ν∧∃ ν2,ν=.blk b (cl [V y] T) :: ν2∧∃ ν3,ν2=.blk c (cl [(s.cut lo 1).val (L.length-lo),hu.val use.length,.slice (some ⟨b,0,none⟩) 1 1] T') :: ν3∧ν3=[]∧u=.agg (ba 32 (macL key (L.drop lo++use++[y]))).toArray) :=
 Ct.lendB (fun s' G2 hle hv hs=>Ct.lendK (fun h1=>Ct.lendK (fun h2=>by
  obtain rfl:=Sh.val_inj hv
  have e1:SlR G2 1 encY (s.cut lo 1) (L.drop lo):=by
   have:=hs.cutn (lo:=lo) (m:=L.length-lo) (by omega)
   rwa [List.take_of_length_le (by simp)] at this
  have e2:SlR (G2.add b (cl [V y] T)) 1 encY ⟨some ⟨b,0,none⟩,1⟩ [y]:=SlR.ofBlk (T:=T) (PM.add_same _ _ _) (fun _ _=>rfl) (by simp)
  have e3:L.length-lo=(L.drop lo).length:=by simp
  rw [e3] at h2 ⊢
  have hP:=SlP.three (h1:=s.cut lo 1) (h2:=hu) (h3:=⟨some ⟨b,0,none⟩,1⟩) h2 (e1.mono h1) ((hsu.mono hle).mono h1) e2
  have h:=macSum_ok key hk _ ⟨some ⟨c,0,none⟩,3⟩ _ (((hsk.mono hle).mono h1).mono h2) hP (((hK.mono hle).mono h1).mono h2) hlk (by simp [catL]; omega) (by simp)
  rw [show catL [((s.cut lo 1),L.drop lo),(hu,use),((⟨some ⟨b,0,none⟩,1⟩ : Sh),[y])]=L.drop lo++use++[y] by simp [catL]] at h
  exact h)))
theorem Expand_ok (key:List Y) (hk:Sh) (use:List Y) (hu:Sh) (G:PM) (hsk:SlR G 1 encY hk key) (hsu:SlR G 1 encY hu use) (hK:RdNP G 1 0 (wa 64 kW)) (hlk:key.length≤1000) (hl:use.length≤1000000):Ct Tryd.prog 87 ([hk.val key.length,hu.val use.length,.int .i64 ((64:Nat):Int)]:List Value).toArray G [] (fun G' μ' u=>∃ s L,L=expL key use 2∧μ'=[]∧u=.tuple #[s.val L.length,.int .i64 0]∧SlR G' 1 encY s L):=by
 refine Ct.of Tryd.func87 rfl Tryd.ntmps87 rfl fun w0 hs0=>?_
 refine .seq (Wk.rg [0,1] rfl rfl (asg rfl .no (.u rfl) (asg rfl .no (.u rfl) (.nil (.code (.seq (.seq (Wk.rg [0,1,2,3,4,5] rfl rfl (mv rfl .no (.u rfl) (cp rfl .no (.u rfl) (.u rfl) rfl (mv rfl .no (.u rfl) (mv rfl (.f rfl rfl) (.u rfl) (cp rfl (.f rfl rfl) (.s rfl) (.u rfl) rfl (pkO rfl .no (.u rfl) (.s rfl) (.nil (.code (.cond rfl (fun c1=>?_) (fun c1=>?_))))))))))))))))))
 ·have c1k:=c1
  exact absurd c1 (by decide)
 have c1k:=c1
 try simp only [qcA,qcB] at c1
 refine .skip (.code (.seq (Wk.rg [0,1,2,3] rfl rfl (mv rfl .no (.u rfl) (arn (((64+32):Nat):Int) rfl .no (.u rfl) (.u rfl) rfl (fun _=>by omega) (fun _=>wrap_i64 (by omega) (by omega)) ?_)))))
 refine mkY (0) ((64+32)) rfl Fx.se42 Fx.zv5 (.u rfl) (.u rfl) (by first|rfl|omega) (by first|rfl|omega) (by omega) (by omega) ?_; intro b19
 have lR19:(List.replicate (0) (0#8:Y)).length=0:=List.length_replicate
 refine asg rfl .no (.u rfl) (.nil (.code (.seq (.seq (Wk.rg [0] rfl rfl (asg rfl .no (.u rfl) (.nil (.code (.block ?_)))))))))
 refine Wk.lop (α:=Nat×Value×List Y) (fun gh=>[(8,true,gh.2.1),(9,true,V (BitVec.ofNat 8 (gh.1+1)))]) (fun gh=>[rB gh.2.1 5 gh.2.2])
  (fun gh Gl=>(gh.1≤2)∧(gh.2.2=expL key use gh.1)) (fun gh=>2-gh.1) (0,_,_) [(0,true,_),(1,true,_),(2,true,_)] []
  (ESub.c rfl (ESub.c rfl (ESub.c rfl (ESub.c rfl (ESub.c rfl ESub.nil)))))
  (MSub.cons .here rfl MSub.nil) ?_ ?_
 ·refine ⟨?_,?_⟩
  ·(try dsimp only)<;>(first|omega|rfl|assumption|(simp; done))
  (try dsimp only)<;>(rfl)
 intro gh N0 Gl0 hN0 hGl0 hF0
 obtain ⟨j,v,L⟩:=gh; dsimp only at hF0 hN0 ⊢
 obtain ⟨hj,eL⟩:=hF0
 have hsk:=hsk.mono hGl0
 have hsu:=hsu.mono hGl0
 have hK:=hK.mono hGl0
 have lL:L.length=32*j:=by rw [eL,exp_len]
 refine .seq (.seq (Wk.rg [0,1,2,3] rfl rfl (mv rfl .no (.u rfl) (lr rfl .no Fx.sn42 (.u rfl) .here ?_))))
 refine mv rfl .no (.u rfl) (cp rfl .no (.u rfl) (.u rfl) rfl (.nil (.code (.cond rfl (fun c2=>?_) (fun c2=>?_)))))
 ·have c2k:=c2
  try simp only [qcA,qcB] at c2
  refine .skip (.code (.seq (.block (.seq ?_))))
  refine wk_rs .here ?_; intro sR19 bbR19 evR19 lcR19 oaR19; subst evR19
  refine Wk.rg [0,1,2,3,4,5,6,7,8,9,10,11,12,13] rfl rfl (mv rfl .no (.u rfl) (mv rfl .no (.u rfl) (mv rfl .no (.u rfl) (lr rfl .no Fx.sn42 (.u rfl) .here ?_))))
  refine ar rfl .no (.u rfl) (.u rfl) rfl (fun _=>wrap_i64 (by omega) (by omega)) ?_
  refine mAq ((32*j-32:Nat):Int) rfl (.u rfl) (.u rfl) (by split<;>omega) ?_
  refine sd rfl .no Fx.se42 (.u rfl) (.u rfl) (fun _=>by omega) (fun _=>by omega) ?_
  refine mv rfl .no (.u rfl) (mv rfl .no (.u rfl) ?_)
  refine Go.Tan.b1 rfl Fx.se42 Fx.zv5 (.u rfl) rfl rfl (by decide) ?_; intro b35
  refine Go.Tan.bN rfl Fx.se72 Fx.zv42 (Evp.cons (.u rfl) (Evp.cons (.u rfl) (Evp.cons (.u rfl) Evp.nil))) rfl (by decide) (by simp [Value.oneCell',Sh.val]) ?_; intro b36
  refine ka rfl (.inr rfl) Fx.go97 (Evc rfl (Evc rfl Evn)) (mtk3 (.there (.there .here)) (.there .here) .here) (mac3_row (lo:=32*j-32) hsk hsu hK (by omega) (by omega) (by omega)) ?_
  rintro _ G37 μ37 hG37 ⟨_,rfl,_,rfl,_,rfl,rfl,rfl⟩
  refine al rfl Fx.zq34 ?_; intro b10
  refine sw rfl (.u rfl) (.u rfl) rfl Fx.sz34 .here (by first|exact qE|exact qL|rfl) (by first|exact ba_one _ _|exact wa_one _ _|exact one_V _|decide|exact one_app (wa_one _ _) (by simp [Value.oneCell'])) ?_
  refine .nil (.code (Wk.rg [0,1,2,3] rfl rfl (mv rfl .no (.u rfl) (sa0 rfl .no Fx.ar34 (.u rfl) (apY rfl Fx.se42 Fx.zv5 (.u rfl) (.u rfl) (.there .here) (Sc.arr .here) (by (try simp only [qlA,yl_len]); omega) ?_)))))
  intro v40 L40 ov40 eL40
  have lL40:L40.length=L.length+32:=by rw [eL40,List.length_append]; first|rfl | simp [yl_len]
  refine asg rfl .no (.u rfl) (.nil (.blk (.code (Wk.rg [0,1,2] rfl rfl (mv rfl .no (.u rfl) (bw (k:=.u8) (b:=1#8) rfl .no rfl (.u rfl) (.u rfl) rfl (asg rfl .no (.u rfl) (.nil (We.lpo (j+1,v40,L40) ?_ ?_ ?_ ?_ ?_)))))))))
  ·exact (ESub.c rfl (ESub.cons rfl (by show V (BitVec.ofNat 8 (j+1)+1#8)=_; rw [← BitVec.ofNat_add]) (ESub.c rfl (ESub.c rfl (ESub.c rfl ESub.nil)))))
  ·exact (MSub.cons .here rfl MSub.nil)
  ·first|omega|(dsimp only; omega)
  ·exact (hGl0).trans hG37
  refine ⟨?_,?_⟩
  ·(try dsimp only)<;>(first|omega|rfl|assumption|(simp; done))
  (try dsimp only)<;>(rw [eL40,eL,exp_last]; rfl)
 have c2k:=c2
 try simp only [qcA,qcB] at c2
 refine .exit (.xcode (.xlp (.xblk (.code (.seq ?_)))))
 refine wk_fb .here (by first|(intro b hb; cases hb; done) | simp [keys,Res.keys]) ?_; intro GfR19 hR19 hleR19 evR19 hsR19; subst evR19
 refine Wk.rg [0,1,2,3,4,5] rfl rfl (mv rfl .no (.u rfl) (mv rfl .no (.u rfl) (mv rfl .no (.u rfl) ?_)))
 refine kM 64 rfl Fx.se42 hsR19 (.u rfl) (.u rfl) (.u rfl) (by omega) ?_; intro h44 L44 eL44 lL44 hs44
 refine asg rfl .no (.u rfl) (asg rfl .no (.u rfl) (.nil (.code (.ret (We.fin0 Tryd.results87 (.tmp rfl (.tmp rfl .nil)) ?_)))))
 obtain rfl:j=2:=by omega
 exact ⟨h44,L44,by rw [eL44,eL]; exact List.take_of_length_le (by rw [exp_len]; omega),rfl,rfl,hs44⟩
namespace Fx
theorem zq100:zrL Tryd.prog 100=some (ba 32 (fun _=>0#8)++ba 32 (fun _=>0#8)):=by kernel_rfl
theorem go86:goFn Tryd.prog 86=true:=by kernel_rfl
theorem go87:goFn Tryd.prog 87=true:=by kernel_rfl
theorem bp100_0_1:bPl Tryd.prog 100 [0,1]=some (ba 32 (fun _=>0#8)++ba 32 (fun _=>0#8),[(0,32),(32,32)]):=by kernel_rfl
theorem sz100:szT Tryd.prog 100=some 64:=by kernel_rfl
theorem ag38:aggN Tryd.prog 38=some (some 5):=by kernel_rfl
theorem go17:goFn Tryd.prog 17=true:=by kernel_rfl
theorem go68:goFn Tryd.prog 68=true:=by kernel_rfl
end Fx
theorem Derive_ok (root:Nat→Y) (use:List Y) (hu:Sh) (G:PM) (hsu:SlR G 1 encY hu use) (hK:RdNP G 1 0 (wa 64 kW)) (hl:use.length≤1000000):Ct Tryd.prog 68 ([.agg (ba 32 root).toArray,hu.val use.length]:List Value).toArray G [] (fun _ μ' u=>μ'=[]∧u=.agg (ba 32 (keyEnc root use)++ba 32 (keyMac root use)).toArray):=by
 refine Ct.of Tryd.func68 rfl Tryd.ntmps68 rfl fun w0 hs0=>?_
 refine .seq (Wk.rg [0,1] rfl rfl ?_)
 refine bx rfl (.u rfl) rfl ?_; intro b2
 refine al rfl Fx.zq100 ?_; intro b4
 refine .nil (.code (.seq ?_))
 refine wk_fz (.there .here) (by intro b hb; cases hb) ?_; intro Gfb2 hleb2 hbb2
 have hsu:=hsu.mono hleb2
 have hK:=hK.mono hleb2
 refine Wk.rg [0,1,2,3,4,5] rfl rfl ?_
 refine Go.Tan.bN rfl Fx.se42 Fx.zv5 (Evp.cons (.u rfl) (Evp.cons (.u rfl) (Evp.cons (.u rfl) (Evp.cons (.u rfl) (Evp.cons (.u rfl) (Evp.cons (.u rfl) (Evp.cons (.u rfl) (Evp.cons (.u rfl) Evp.nil)))))))) rfl (by decide) (by simp [Value.oneCell',Sh.val]) ?_; intro b8
 refine mkS saltL rfl rfl Fx.cst42 (.u rfl) .here rfl rfl (by decide) ?_; intro G9 hG9 hs9
 have hsu:=hsu.mono hG9
 have hK:=hK.mono hG9
 have hbb2:=hbb2.mono hG9
 refine kA rfl .no Fx.ar34 (.u rfl) hbb2 (by first|exact ba_all|exact app_l|exact app_r) ?_; intro h10 L10 eL10 lL10 hs10
 refine kv rfl .no Fx.go86 (Evc rfl (Evc rfl Evn)) (fun _=>Extract_ok saltL _ L10 h10 _ hs9 hs10 hK (by decide) (by omega)) ?_
 refine al rfl Fx.zq34 ?_; intro b5
 refine sw rfl (.u rfl) (.u rfl) rfl Fx.sz34 .here (by first|exact qE|exact qL|rfl) (by first|exact ba_one _ _|exact wa_one _ _|exact one_V _|decide|exact one_app (wa_one _ _) (by simp [Value.oneCell'])) ?_
 refine .nil (.code (.seq ?_))
 refine wk_fz .here (by intro b hb; cases hb) ?_; intro Gfb5 hleb5 hbb5
 have hsu:=hsu.mono hleb5
 have hK:=hK.mono hleb5
 refine Wk.rg [0,1,2,3,4,5,6,7] rfl rfl ?_
 refine kA rfl .no Fx.ar34 (.u rfl) hbb5 (by first|exact ba_all|exact app_l|exact app_r) ?_; intro h13 L13 eL13 lL13 hs13
 refine mv rfl .no (.u rfl) (kc rfl Fx.go87 (Evc rfl (Evc rfl (Evc rfl Evn))) (Expand_ok L13 h13 use hu _ hs13 hsu hK (by omega) hl) ?_)
 rintro _ G15 μ15 hG15 ⟨h15,L15,eL15,rfl,rfl,hs15⟩
 refine mv rfl .no (.u rfl) (ex rfl .no (.u rfl) rfl (ex rfl .no (.u rfl) rfl (asg rfl .no (.u rfl) ?_)))
 have lL15:L15.length=64:=by rw [eL15,exp_len]
 refine asg rfl .no (.u rfl) (.nil (.code (.seq (Wk.draw (mc:=⟨false,false⟩) [0,1,2,3,4,5,6,7,8,9] Fx.mix (by kernel_rfl) ?_))))
 refine mv rfl .no (.u rfl) (kE (32) rfl .no Fx.se42 hs15 (.u rfl) (.u rfl) (fun _=>by omega) (fun _=>by omega) ?_)
 intro h19 L19 eL19 lL19 hs19
 have lL19:=lL19 rfl
 refine spS rfl .no Fx.ar33 hs19 (.u rfl) (fun _=>by omega) (by decide) ?_
 refine lA rfl .no Fx.ag33 (.u rfl) (fun _=>(hs19.arr (m:=32) (by omega)).rd) (fun _=>ba_len _ _) ?_
 refine mv rfl .no (.u rfl) (kD (32) rfl .no Fx.se42 hs15 (.u rfl) (.u rfl) (fun _=>by omega) (fun _=>by omega) ?_)
 intro h23 L23 eL23 lL23 hs23
 have lL23:=lL23 rfl
 refine spS rfl .no Fx.ar33 hs23 (.u rfl) (fun _=>by omega) (by decide) ?_
 refine lA rfl .no Fx.ag33 (.u rfl) (fun _=>(hs23.arr (m:=32) (by omega)).rd) (fun _=>ba_len _ _) ?_
 refine bCe (ba 32 (fun i=>L19.getD i 0)++ba 32 (fun i=>L23.getD i 0)) rfl .no Fx.bp100_0_1 (.cons (.u rfl) rfl (.cons (.u rfl) rfl .nil)) rfl (key_put (by decide) _ _) ?_
 refine sw rfl (.u rfl) (.u rfl) rfl Fx.sz100 .here (by first|exact qE|exact qL|rfl) (key_one _ _) ?_
 refine .nil (.code (.ret (We.fin0 Tryd.results68 (.cell rfl (fun w hw=>run_loadVarN Fx.ag100 (RdN.own .here) ((by first|exact qE|exact qL|rfl)) hw) .nil) ?_)))
 have e:L15=deriveL root use:=by rw [eL15,eL13,eL10]; rfl
 exact ⟨rfl,congrArg (fun z=>Value.agg (List.toArray z)) (key_cells e eL19 eL23)⟩
theorem KeyOf_ok (root:Nat→Y) (h:Hd) (G:PM) (hK:RdNP G 1 0 (wa 64 kW)):Ct Tryd.prog 42 ([.agg (ba 32 root).toArray,.agg ([V h.kind,V h.level,uv .u64 h.gen,uv .u64 h.epoch,uv .u64 h.num]:List Value).toArray]:List Value).toArray G [] (fun _ μ' u=>μ'=[]∧u=.agg (ba 32 (keyEnc root (headL h))++ba 32 (keyMac root (headL h))).toArray):=by
 refine Ct.of Tryd.func42 rfl Tryd.ntmps42 rfl fun w0 hs0=>?_
 refine .seq (Wk.rg [0,1,2] rfl rfl ?_)
 refine bx rfl (.u rfl) rfl ?_; intro b2
 refine bx rfl (.u rfl) rfl ?_; intro b3
 refine al rfl Fx.zq100 ?_; intro b4
 refine .nil (.code (.seq (Wk.draw (mc:=⟨false,false⟩) [0,1,2,3,4] Fx.mix (by kernel_rfl) ?_)))
 refine lA rfl .no Fx.ag34 (.u rfl) (fun _=>RdN.own (.there (.there .here))) (fun _=>(by first|exact qE|exact qL|rfl)) ?_
 refine lA rfl .no Fx.ag38 (.u rfl) (fun _=>RdN.own (.there .here)) (fun _=>(by first|exact qE|exact qL|rfl)) ?_
 refine kc rfl Fx.go17 (Evc rfl Evn) (Ct.frzB (nLay_ok h _)) ?_
 rintro _ G7 μ7 hG7 ⟨h7,L7,eL7,rfl,rfl,hs7⟩
 have hK:=hK.mono hG7
 refine kv rfl .no Fx.go68 (Evc rfl (Evc rfl Evn)) (fun _=>Derive_ok root L7 h7 _ hs7 hK (by rw [eL7,head_len]; decide)) ?_
 refine sw rfl (.u rfl) (.u rfl) rfl Fx.sz100 .here (by first|exact qE|exact qL|rfl) (key_one _ _) ?_
 refine .nil (.code (.ret (We.fin0 Tryd.results42 (.cell rfl (fun w hw=>run_loadVarN Fx.ag100 (RdN.own .here) ((by first|exact qE|exact qL|rfl)) hw) .nil) ?_)))
 subst eL7
 exact ⟨rfl,rfl⟩
end Go.Proofs.YtdeobooblmjlfaaDoor
namespace Go.Tan
open Go.RowKit
def frameL (kind:Y) (p:List Y):List Y:=fixL ((maskW (crcW 0#32 ([kind]++p))).setWidth 64) 4++fixL (BitVec.ofInt 64 (p.length:Int)) 2++[kind]
def kindAt (n j:Nat):Y:=if j=0 then (if n≤128 then 1#8 else 2#8) else if n-128*j≤128 then 4#8 else 3#8
def outL (s:List Y):Nat→List Y
 | 0=>[]
 | j+1=>outL s j++frameL (kindAt s.length j) ((s.drop (128*j)).take 128)++(s.drop (128*j)).take 128
def recL (s:List Y):List Y:=outL s ((s.length+127) / 128)
theorem take_min (M:List Y):M.take (min M.length 128)=M.take 128:=by
 by_cases h:M.length≤128
 ·rw [Nat.min_eq_left h,List.take_length,List.take_of_length_le h]
 ·rw [Nat.min_eq_right (by omega)]
theorem rec_step {S M O A B C D E:List Y} {j:Nat} {kind:Y} (eO:O=outL S j) (eM:M=S.drop (128*j)) (eA:A=M.take (min M.length 128)) (eB:B=M.take (min M.length 128)) (eC:C=frameL kind A) (eD:D=O++C) (eE:E=D++B) (hk:kind=kindAt S.length j):E=outL S (j+1):=by
 rw [eE,eD,eC,eA,eB,take_min,eO,eM,hk]; rfl
theorem drop_step {S:List Y} {j:Nat}:(S.drop (128*j)).drop (min (S.drop (128*j)).length 128)=S.drop (128*(j+1)):=by
 rw [List.drop_drop]
 by_cases h:(S.drop (128*j)).length≤128
 ·rw [Nat.min_eq_left h]
  rw [List.length_drop] at h ⊢
  rw [List.drop_of_length_le (by omega),List.drop_of_length_le (by omega)]
 ·rw [Nat.min_eq_right (by omega)]; congr 1
theorem frame_len (kind:Y) (p:List Y):(frameL kind p).length=7:=by simp [frameL,fix_len]
theorem out_len (S:List Y) (j:Nat):(outL S j).length≤135*j:=by
 induction j with
 | zero=>exact Nat.zero_le _
 | succ j ih=>rw [outL,List.length_append,List.length_append,frame_len,List.length_take]; omega
theorem kind_full {n j:Nat} (h:j=0) (hn:n≤128):1#8=kindAt n j:=by unfold kindAt; rw [if_pos h,if_pos hn]
theorem kind_first {n j:Nat} (h:j=0) (hn:¬ n≤128):2#8=kindAt n j:=by unfold kindAt; rw [if_pos h,if_neg hn]
theorem kind_last {n j:Nat} (h:¬ j=0) (hn:n-128*j≤128):4#8=kindAt n j:=by unfold kindAt; rw [if_neg h,if_pos hn]
theorem kind_mid {n j:Nat} (h:¬ j=0) (hn:¬ n-128*j≤128):3#8=kindAt n j:=by unfold kindAt; rw [if_neg h,if_neg hn]
def layP (root:Nat→Y) (h:Hd) (n:BitVec 64) (p:List Y):List Y×Int:=if p.length≤4194304 then (recL (sealL (keyEnc root (headL h)) (keyMac root (headL h)) (nonceF n) (headL h) p),0) else ([],4)
theorem lay_long {root:Nat→Y} {h:Hd} {n:BitVec 64} {p:List Y} (c:¬ p.length≤4194304):([],4)=layP root h n p:=by unfold layP; rw [if_neg c]
theorem lay_good {root:Nat→Y} {h:Hd} {n:BitVec 64} {p S O:List Y} {j:Nat} (c:p.length≤4194304) (eS:S=sealL (keyEnc root (headL h)) (keyMac root (headL h)) (nonceF n) (headL h) p) (eO:O=outL S j) (hj:j=(S.length+127) / 128):(O,0)=layP root h n p:=by
 unfold layP; rw [if_pos c,eO,hj,eS]; rfl
theorem one8 {a b c d e f g k:Value} (h1:a.oneCell'=true) (h2:b.oneCell'=true) (h3:c.oneCell'=true) (h4:d.oneCell'=true) (h5:e.oneCell'=true) (h6:f.oneCell'=true) (h7:g.oneCell'=true) (h8:k.oneCell'=true):∀ u∈[a,b,c,d,e,f,g,k],u.oneCell'=true:=by
 intro u hu
 simp only [List.mem_cons,List.not_mem_nil,or_false] at hu
 rcases hu with rfl|rfl|rfl|rfl|rfl|rfl|rfl|rfl<;>assumption
theorem take_zero:takeH (List.replicate 30 0#8)=(Hd.zero,70):=take_bad (by simp) (fun h=>absurd h.1 (by decide))
theorem of_r {root:Nat→Y} {cs:List Value} (h:cs.length=5):((ba 32 root++cs).drop 32).take 5=cs:=by
 rw [List.drop_left' (ba_len _ _),List.take_of_length_le (by omega)]
end Go.Tan
namespace Go.Proofs.YtdeobooblmjlfaaDoor
open Go.Tan Go.RowKit
namespace Fx
theorem go42:goFn Tryd.prog 42=true:=by kernel_rfl
theorem go59:goFn Tryd.prog 59=true:=by kernel_rfl
theorem go58:goFn Tryd.prog 58=true:=by kernel_rfl
theorem go44:goFn Tryd.prog 44=true:=by kernel_rfl
end Fx
theorem wLay_ok (root:Nat→Y) (h:Hd) (n:BitVec 64) (p:List Y) (hp:Sh) (G:PM) (hs:SlR G 1 encY hp p) (hK:RdNP G 1 0 (wa 64 kW)):Ct Tryd.prog 30 ([.agg (ba 32 root).toArray,.agg ([V h.kind,V h.level,uv .u64 h.gen,uv .u64 h.epoch,uv .u64 h.num]:List Value).toArray,uv .u64 n,hp.val p.length]:List Value).toArray G [] (fun _ μ' u=>∃ v L e,(L,e)=layP root h n p∧μ'=[rB v 5 L]∧u=.tuple #[v,.int .i64 e]):=by
 refine Ct.of Tryd.func30 rfl Tryd.ntmps30 rfl fun w0 hs0=>?_
 refine .seq (Wk.rg [0,1,2,3] rfl rfl ?_)
 refine bx rfl (.u rfl) rfl ?_; intro b4
 refine bx rfl (.u rfl) rfl ?_; intro b5
 refine asg rfl .no (.u rfl) (asg rfl .no (.u rfl) (.nil (.code (.seq (.seq (Wk.rg [0,1,2] rfl rfl (mv rfl .no (.u rfl) (ln rfl .no Fx.sn42 (.u rfl) (cp rfl .no (.u rfl) (.u rfl) rfl (.nil (.code (.cond rfl (fun c1=>?_) (fun c1=>?_)))))))))))))
 ·have c1k:=c1
  try simp only [qcA,qcC,qcB] at c1
  refine .seq (Wk.rg [0,1] rfl rfl (asg rfl .no (.u rfl) (asg rfl .no (.u rfl) (.nil (.code (.ret (we_nilB 5 ?_)))))))
  refine We.fin Tryd.results30 (.tmp rfl (.tmp rfl .nil)) (MSub.cons .here rfl MSub.nil) ?_
  exact ⟨_,[],4,lay_long (by omega),rfl,rfl⟩
 have c1k:=c1
 try simp only [qcA,qcC,qcB] at c1
 refine .skip (.code (.seq (Wk.draw (mc:=⟨false,false⟩) [0,1,3,5,7,2,4,6,8,9] Fx.mix (by kernel_rfl) ?_)))
 refine lA rfl .no Fx.ag34 (.u rfl) (fun _=>RdN.own (.there .here)) (fun _=>(by first|exact qE|exact qL|rfl)) ?_
 refine lA rfl .no Fx.ag38 (.u rfl) (fun _=>RdN.own .here) (fun _=>(by first|exact qE|exact qL|rfl)) ?_
 refine mv rfl .no (.u rfl) (lA rfl .no Fx.ag38 (.u rfl) (fun _=>RdN.own .here) (fun _=>(by first|exact qE|exact qL|rfl)) ?_)
 refine mv rfl .no (.u rfl) (kv rfl .no Fx.go42 (Evc rfl (Evc rfl Evn)) (fun _=>KeyOf_ok root h _ hK) ?_)
 refine kv rfl .no Fx.go59 (Evc rfl Evn) (fun _=>Nonce_ok _ _) ?_
 refine kc rfl Fx.go17 (Evc rfl Evn) (Ct.frzB (nLay_ok h _)) ?_
 rintro _ G25 μ25 hG25 ⟨h25,L25,eL25,rfl,rfl,hs25⟩
 have hs:=hs.mono hG25
 have hK:=hK.mono hG25
 refine kc rfl Fx.go58 (Evc rfl (Evc rfl (Evc rfl (Evc rfl Evn)))) (Ct.rowc (Seal_ok (keyEnc root (headL h)) (keyMac root (headL h)) (nonceF n) L25 h25 p hp _ hs25 hs hK (by rw [eL25,head_len]; decide) (by omega))) ?_
 rintro v27 G27 μ27 hG27 ⟨L27,ov27,eL27,rfl⟩
 refine asg rfl .no (.u rfl) (.nil ?_)
 have lL27:L27.length=p.length+16:=by rw [eL27,seal_len]
 refine .code (.seq ?_)
 refine wk_fb .here (by first|(intro b hb; cases hb; done) | simp [keys,Res.keys]) ?_; intro GfR27 hR27 hleR27 evR27 hsR27; subst evR27
 refine Wk.rg [0] rfl rfl (asg rfl .no (.u rfl) (.nil (.code (.seq (.seq (wk_nilB 5 ?_))))))
 refine Wk.rg [0] rfl rfl (asg rfl .no (.u rfl) (.nil (.code (.block ?_))))
 refine Wk.lop (α:=Nat×Sh×List Y×Value×List Y) (fun gh=>[(10,true,gh.2.1.val gh.2.2.1.length),(11,true,gh.2.2.2.1),(12,true,.bool (decide (gh.1=0)))]) (fun gh=>[rB gh.2.2.2.1 5 gh.2.2.2.2])
  (fun gh Gl=>(SlR Gl 1 encY gh.2.1 gh.2.2.1)∧(gh.2.2.1=L27.drop (128*gh.1))∧(gh.2.2.2.2=outL L27 gh.1)∧(128*gh.1≤L27.length+127)) (fun gh=>gh.2.2.1.length) (0,_,_,.slice none 0 0,[]) [] [_,_]
  (ESub.c rfl (ESub.c rfl (ESub.c rfl ESub.nil)))
  (MSub.cons .here rfl (MSub.cons .here rfl (MSub.cons .here rfl MSub.nil))) ?_ ?_
 ·refine ⟨?_,?_,?_,?_⟩
  ·(try dsimp only)<;>(exact hsR27)
  ·(try dsimp only)<;>(rfl)
  ·(try dsimp only)<;>(rfl)
  (try dsimp only)<;>(first|omega|rfl|assumption|(simp; done))
 intro gh N0 Gl0 hN0 hGl0 hF0
 obtain ⟨j,r,M,v,O⟩:=gh; dsimp only at hF0 hN0 ⊢
 obtain ⟨hr,eM,eO,hj⟩:=hF0
 have lM:M.length=L27.length-128*j:=by rw [eM]; simp
 have lO:=out_len L27 j
 rw [← eO] at lO
 refine .seq (.seq (Wk.rg [0,1,2] rfl rfl (mv rfl .no (.u rfl) (ln rfl .no Fx.sn42 (.u rfl) (cp rfl .no (.u rfl) (.u rfl) rfl (.nil (.code (.cond rfl (fun c2=>?_) (fun c2=>?_)))))))))
 ·have c2k:=c2
  try simp only [qcA,qcC,qcB] at c2
  refine .skip (.code (.seq (.block (.seq (Wk.rg [0,1,2,3] rfl rfl (mv rfl .no (.u rfl) (ln rfl .no Fx.sn42 (.u rfl) (mIn (M.length) (128) rfl .no (.u rfl) (.u rfl) (fun _=>by omega) (fun _=>by omega) ?_))))))))
  refine asg rfl .no (.u rfl) (.nil (.code (.seq (Wk.rg [0] rfl rfl (asg rfl .no (.u rfl) (.nil (.code (.seq (.seq (Wk.rg [0,1,2,3,4] rfl rfl (mv rfl .no (.u rfl) (mv rfl .no (.u rfl) (ln rfl .no Fx.sn42 (.u rfl) (cp rfl .no (.u rfl) (.u rfl) rfl (asg rfl .no (.u rfl) (.nil (.code (.block (.seq (Wk.rg [0,1,2,3,4] rfl rfl (mv rfl .no (.u rfl) (mv rfl .no (.u rfl) (mv rfl (.t rfl rfl) (.u rfl) (pkA rfl .no (.u rfl) (.s rfl) (asg rfl .no (.u rfl) (.nil (.code (.cond rfl (fun c3=>?_) (fun c3=>?_)))))))))))))))))))))))))))))
  ·have c3k:=c3
   try simp only [qcA,qcC,qcB] at c3
   refine Wk.rg [0] rfl rfl (asg rfl .no (.u rfl) (.nil (.blk (.code (.seq (Wk.draw (mc:=⟨false,false⟩) [0,1,2,3,4,7,8,9,5,6,10,11] Fx.mix (by kernel_rfl) ?_))))))
   refine mv rfl .no (.u rfl) (mv rfl .no (.u rfl) (mv rfl .no (.u rfl) (mv rfl .no (.u rfl) (kE ((min M.length 128)) rfl .no Fx.se42 hr (.u rfl) (.u rfl) (fun _=>by omega) (fun _=>by omega) ?_))))
   intro h51 L51 eL51 lL51 hs51
   have lL51:=lL51 rfl
   refine mv rfl .no (.u rfl) (mv rfl .no (.u rfl) (kE ((min M.length 128)) rfl .no Fx.se42 hr (.u rfl) (.u rfl) (fun _=>by omega) (fun _=>by omega) ?_))
   intro h56 L56 eL56 lL56 hs56
   have lL56:=lL56 rfl
   refine kc rfl Fx.go44 (Evc rfl (Evc rfl Evn)) (Ct.frzB (whead_ok 1#8 L51 h51 _ hs51 (by omega))) ?_
   rintro _ G52 μ52 hG52 ⟨h52,L52,eL52,rfl,rfl,hs52⟩
   have hr:=hr.mono hG52
   have hs51:=hs51.mono hG52
   have hs56:=hs56.mono hG52
   have lL52:L52.length=7:=by rw [eL52]; exact frame_len _ _
   refine apY rfl Fx.se42 Fx.zv5 (.u rfl) (.u rfl) .here hs52.sc (by (try simp only [qlA,yl_len]); omega) ?_
   intro v53 L53 ov53 eL53
   have lL53:L53.length=O.length+L52.length:=by rw [eL53,List.length_append]
   refine apY rfl Fx.se42 Fx.zv5 (.u rfl) (.u rfl) .here hs56.sc (by (try simp only [qlA,yl_len]); omega) ?_
   intro v57 L57 ov57 eL57
   have lL57:L57.length=L53.length+L56.length:=by rw [eL57,List.length_append]
   refine asg rfl .no (.u rfl) (.nil (.code (Wk.rg [0,1,2,3] rfl rfl (mv rfl .no (.u rfl) (mv rfl .no (.u rfl) (kD ((min M.length 128)) rfl .no Fx.se42 hr (.u rfl) (.u rfl) (fun _=>by omega) (fun _=>by omega) ?_))))))
   intro h60 L60 eL60 lL60 hs60
   have lL60:=lL60 rfl
   refine asg rfl .no (.u rfl) (.nil (.blk (.code (Wk.rg [0] rfl rfl (asg rfl .no (.u rfl) (.nil (We.lpo (j+1,h60,L60,v57,L57) ?_ ?_ ?_ ?_ ?_)))))))
   ·exact (ESub.c rfl (ESub.c rfl (ESub.cons rfl (by simp) ESub.nil)))
   ·exact (MSub.cons .here rfl (MSub.cons .here rfl (MSub.cons .here rfl MSub.nil)))
   ·first|omega|(dsimp only; omega)
   ·exact (hGl0).trans hG52
   refine ⟨?_,?_,?_,?_⟩
   ·(try dsimp only)<;>(exact hs60)
   ·(try dsimp only)<;>(rw [eL60,eM]; exact drop_step)
   ·(try dsimp only)<;>(exact rec_step eO eM eL51 eL56 eL52 eL53 eL57 (kind_full (by omega) (by omega)))
   (try dsimp only)<;>(first|omega|rfl|assumption|(simp; done))
  have c3k:=c3
  try simp only [qcA,qcC,qcB] at c3
  refine .seq (Wk.rg [0,1] rfl rfl (mv rfl .no (.u rfl) (asg rfl .no (.u rfl) (.nil (.code (.cond rfl (fun c4=>?_) (fun c4=>?_)))))))
  ·have c4k:=c4
   try simp only [qcA,qcC,qcB] at c4
   refine Wk.rg [0] rfl rfl (asg rfl .no (.u rfl) (.nil (.blk (.code (.seq (Wk.draw (mc:=⟨false,false⟩) [0,1,2,3,4,7,8,9,5,6,10,11] Fx.mix (by kernel_rfl) ?_))))))
   refine mv rfl .no (.u rfl) (mv rfl .no (.u rfl) (mv rfl .no (.u rfl) (mv rfl .no (.u rfl) (kE ((min M.length 128)) rfl .no Fx.se42 hr (.u rfl) (.u rfl) (fun _=>by omega) (fun _=>by omega) ?_))))
   intro h51 L51 eL51 lL51 hs51
   have lL51:=lL51 rfl
   refine mv rfl .no (.u rfl) (mv rfl .no (.u rfl) (kE ((min M.length 128)) rfl .no Fx.se42 hr (.u rfl) (.u rfl) (fun _=>by omega) (fun _=>by omega) ?_))
   intro h56 L56 eL56 lL56 hs56
   have lL56:=lL56 rfl
   refine kc rfl Fx.go44 (Evc rfl (Evc rfl Evn)) (Ct.frzB (whead_ok 2#8 L51 h51 _ hs51 (by omega))) ?_
   rintro _ G52 μ52 hG52 ⟨h52,L52,eL52,rfl,rfl,hs52⟩
   have hr:=hr.mono hG52
   have hs51:=hs51.mono hG52
   have hs56:=hs56.mono hG52
   have lL52:L52.length=7:=by rw [eL52]; exact frame_len _ _
   refine apY rfl Fx.se42 Fx.zv5 (.u rfl) (.u rfl) .here hs52.sc (by (try simp only [qlA,yl_len]); omega) ?_
   intro v53 L53 ov53 eL53
   have lL53:L53.length=O.length+L52.length:=by rw [eL53,List.length_append]
   refine apY rfl Fx.se42 Fx.zv5 (.u rfl) (.u rfl) .here hs56.sc (by (try simp only [qlA,yl_len]); omega) ?_
   intro v57 L57 ov57 eL57
   have lL57:L57.length=L53.length+L56.length:=by rw [eL57,List.length_append]
   refine asg rfl .no (.u rfl) (.nil (.code (Wk.rg [0,1,2,3] rfl rfl (mv rfl .no (.u rfl) (mv rfl .no (.u rfl) (kD ((min M.length 128)) rfl .no Fx.se42 hr (.u rfl) (.u rfl) (fun _=>by omega) (fun _=>by omega) ?_))))))
   intro h60 L60 eL60 lL60 hs60
   have lL60:=lL60 rfl
   refine asg rfl .no (.u rfl) (.nil (.blk (.code (Wk.rg [0] rfl rfl (asg rfl .no (.u rfl) (.nil (We.lpo (j+1,h60,L60,v57,L57) ?_ ?_ ?_ ?_ ?_)))))))
   ·exact (ESub.c rfl (ESub.c rfl (ESub.cons rfl (by simp) ESub.nil)))
   ·exact (MSub.cons .here rfl (MSub.cons .here rfl (MSub.cons .here rfl MSub.nil)))
   ·first|omega|(dsimp only; omega)
   ·exact (hGl0).trans hG52
   refine ⟨?_,?_,?_,?_⟩
   ·(try dsimp only)<;>(exact hs60)
   ·(try dsimp only)<;>(rw [eL60,eM]; exact drop_step)
   ·(try dsimp only)<;>(exact rec_step eO eM eL51 eL56 eL52 eL53 eL57 (kind_first (by omega) (by omega)))
   (try dsimp only)<;>(first|omega|rfl|assumption|(simp; done))
  have c4k:=c4
  try simp only [qcA,qcC,qcB] at c4
  refine .seq (Wk.rg [0,1] rfl rfl (mv rfl .no (.u rfl) (asg rfl .no (.u rfl) (.nil (.code (.cond rfl (fun c5=>?_) (fun c5=>?_)))))))
  ·have c5k:=c5
   try simp only [qcA,qcC,qcB] at c5
   refine Wk.rg [0] rfl rfl (asg rfl .no (.u rfl) (.nil (.blk (.code (.seq (Wk.draw (mc:=⟨false,false⟩) [0,1,2,3,4,7,8,9,5,6,10,11] Fx.mix (by kernel_rfl) ?_))))))
   refine mv rfl .no (.u rfl) (mv rfl .no (.u rfl) (mv rfl .no (.u rfl) (mv rfl .no (.u rfl) (kE ((min M.length 128)) rfl .no Fx.se42 hr (.u rfl) (.u rfl) (fun _=>by omega) (fun _=>by omega) ?_))))
   intro h51 L51 eL51 lL51 hs51
   have lL51:=lL51 rfl
   refine mv rfl .no (.u rfl) (mv rfl .no (.u rfl) (kE ((min M.length 128)) rfl .no Fx.se42 hr (.u rfl) (.u rfl) (fun _=>by omega) (fun _=>by omega) ?_))
   intro h56 L56 eL56 lL56 hs56
   have lL56:=lL56 rfl
   refine kc rfl Fx.go44 (Evc rfl (Evc rfl Evn)) (Ct.frzB (whead_ok 4#8 L51 h51 _ hs51 (by omega))) ?_
   rintro _ G52 μ52 hG52 ⟨h52,L52,eL52,rfl,rfl,hs52⟩
   have hr:=hr.mono hG52
   have hs51:=hs51.mono hG52
   have hs56:=hs56.mono hG52
   have lL52:L52.length=7:=by rw [eL52]; exact frame_len _ _
   refine apY rfl Fx.se42 Fx.zv5 (.u rfl) (.u rfl) .here hs52.sc (by (try simp only [qlA,yl_len]); omega) ?_
   intro v53 L53 ov53 eL53
   have lL53:L53.length=O.length+L52.length:=by rw [eL53,List.length_append]
   refine apY rfl Fx.se42 Fx.zv5 (.u rfl) (.u rfl) .here hs56.sc (by (try simp only [qlA,yl_len]); omega) ?_
   intro v57 L57 ov57 eL57
   have lL57:L57.length=L53.length+L56.length:=by rw [eL57,List.length_append]
   refine asg rfl .no (.u rfl) (.nil (.code (Wk.rg [0,1,2,3] rfl rfl (mv rfl .no (.u rfl) (mv rfl .no (.u rfl) (kD ((min M.length 128)) rfl .no Fx.se42 hr (.u rfl) (.u rfl) (fun _=>by omega) (fun _=>by omega) ?_))))))
   intro h60 L60 eL60 lL60 hs60
   have lL60:=lL60 rfl
   refine asg rfl .no (.u rfl) (.nil (.blk (.code (Wk.rg [0] rfl rfl (asg rfl .no (.u rfl) (.nil (We.lpo (j+1,h60,L60,v57,L57) ?_ ?_ ?_ ?_ ?_)))))))
   ·exact (ESub.c rfl (ESub.c rfl (ESub.cons rfl (by simp) ESub.nil)))
   ·exact (MSub.cons .here rfl (MSub.cons .here rfl (MSub.cons .here rfl MSub.nil)))
   ·first|omega|(dsimp only; omega)
   ·exact (hGl0).trans hG52
   refine ⟨?_,?_,?_,?_⟩
   ·(try dsimp only)<;>(exact hs60)
   ·(try dsimp only)<;>(rw [eL60,eM]; exact drop_step)
   ·(try dsimp only)<;>(exact rec_step eO eM eL51 eL56 eL52 eL53 eL57 (kind_last (by omega) (by omega)))
   (try dsimp only)<;>(first|omega|rfl|assumption|(simp; done))
  have c5k:=c5
  try simp only [qcA,qcC,qcB] at c5
  refine .skip (.blk (.code (.seq (Wk.draw (mc:=⟨false,false⟩) [0,1,2,3,4,7,8,9,5,6,10,11] Fx.mix (by kernel_rfl) ?_))))
  refine mv rfl .no (.u rfl) (mv rfl .no (.u rfl) (mv rfl .no (.u rfl) (mv rfl .no (.u rfl) (kE ((min M.length 128)) rfl .no Fx.se42 hr (.u rfl) (.u rfl) (fun _=>by omega) (fun _=>by omega) ?_))))
  intro h51 L51 eL51 lL51 hs51
  have lL51:=lL51 rfl
  refine mv rfl .no (.u rfl) (mv rfl .no (.u rfl) (kE ((min M.length 128)) rfl .no Fx.se42 hr (.u rfl) (.u rfl) (fun _=>by omega) (fun _=>by omega) ?_))
  intro h56 L56 eL56 lL56 hs56
  have lL56:=lL56 rfl
  refine kc rfl Fx.go44 (Evc rfl (Evc rfl Evn)) (Ct.frzB (whead_ok 3#8 L51 h51 _ hs51 (by omega))) ?_
  rintro _ G52 μ52 hG52 ⟨h52,L52,eL52,rfl,rfl,hs52⟩
  have hr:=hr.mono hG52
  have hs56:=hs56.mono hG52
  have lL52:L52.length=7:=by rw [eL52]; exact frame_len _ _
  refine apY rfl Fx.se42 Fx.zv5 (.u rfl) (.u rfl) .here hs52.sc (by (try simp only [qlA,yl_len]); omega) ?_
  intro v53 L53 ov53 eL53
  have lL53:L53.length=O.length+L52.length:=by rw [eL53,List.length_append]
  refine apY rfl Fx.se42 Fx.zv5 (.u rfl) (.u rfl) .here hs56.sc (by (try simp only [qlA,yl_len]); omega) ?_
  intro v57 L57 ov57 eL57
  have lL57:L57.length=L53.length+L56.length:=by rw [eL57,List.length_append]
  refine asg rfl .no (.u rfl) (.nil (.code (Wk.rg [0,1,2,3] rfl rfl (mv rfl .no (.u rfl) (mv rfl .no (.u rfl) (kD ((min M.length 128)) rfl .no Fx.se42 hr (.u rfl) (.u rfl) (fun _=>by omega) (fun _=>by omega) ?_))))))
  intro h60 L60 eL60 lL60 hs60
  have lL60:=lL60 rfl
  refine asg rfl .no (.u rfl) (.nil (.blk (.code (Wk.rg [0] rfl rfl (asg rfl .no (.u rfl) (.nil (We.lpo (j+1,h60,L60,v57,L57) ?_ ?_ ?_ ?_ ?_)))))))
  ·exact (ESub.c rfl (ESub.c rfl (ESub.cons rfl (by simp) ESub.nil)))
  ·exact (MSub.cons .here rfl (MSub.cons .here rfl (MSub.cons .here rfl MSub.nil)))
  ·first|omega|(dsimp only; omega)
  ·exact (hGl0).trans hG52
  refine ⟨?_,?_,?_,?_⟩
  ·(try dsimp only)<;>(exact hs60)
  ·(try dsimp only)<;>(rw [eL60,eM]; exact drop_step)
  ·(try dsimp only)<;>(exact rec_step eO eM eL51 eL56 eL52 eL53 eL57 (kind_mid (by omega) (by omega)))
  (try dsimp only)<;>(first|omega|rfl|assumption|(simp; done))
 have c2k:=c2
 try simp only [qcA,qcC,qcB] at c2
 refine .exit (.xcode (.xlp (.xblk (.code (.seq (Wk.rg [0,1,2] rfl rfl (mv rfl .no (.u rfl) (asg rfl .no (.u rfl) (asg rfl .no (.u rfl) (.nil (.code (.ret (We.fin Tryd.results30 (.tmp rfl (.tmp rfl .nil)) (MSub.cons .here rfl MSub.nil) ?_)))))))))))))
 exact ⟨v,O,0,lay_good (by omega) (by rw [eL27,eL25]) eO (by omega),rfl,rfl⟩
namespace Fx
theorem bp143_0:bPl Tryd.prog 143 [0]=some ([.slice none 0 0,.int .i64 0],[(0,1)]):=by kernel_rfl
theorem pt107:ptT Tryd.prog 107=true:=by kernel_rfl
theorem fo143_1:fOff Tryd.prog 143 1=some 1:=by kernel_rfl
theorem ag50:aggN Tryd.prog 50=some none:=by kernel_rfl
theorem fo143_0:fOff Tryd.prog 143 0=some 0:=by kernel_rfl
theorem cv5_24:cvK Tryd.prog 5 24=some .u64:=by kernel_rfl
end Fx
theorem wcNew_ok (xs:List Y) (h:Sh) (G:PM) (hs:SlR G 1 encY h xs) (hl:xs.length≤100000000000000):Ct Tryd.prog 46 ([h.val xs.length]:List Value).toArray G [] (fun G' μ' u=>∃ b s,μ'=[.blk b (cl [Sh.val s xs.length,.int .i64 0] 143)]∧u=.pointer (some ⟨b,0,none⟩)∧SlR G' 1 encY s xs):=by
 refine Ct.of Tryd.func46 rfl Tryd.ntmps46 rfl fun w0 hs0=>?_
 refine .seq (Wk.rg [0] rfl rfl (asg rfl .no (.u rfl) (.nil (.code (.seq (Wk.rg [0,1,2,3,4,5] rfl rfl ?_))))))
 refine b0B rfl Fx.se42 ?_; intro b3
 refine mv rfl .no (.u rfl) (apY0 rfl Fx.se42 Fx.zv5 (.u rfl) (.u rfl) .here hs.sc (by (try simp only [qlA,yl_len]); omega) ?_)
 intro v5 L5 _ ov5 eL5
 have lL5:L5.length=xs.length:=by rw [eL5]
 refine bCe ([v5,.int .i64 0]) rfl .no Fx.bp143_0 (.cons (.u rfl) (cells_one ov5) .nil) rfl (rfl) ?_
 refine bx rfl (.u rfl) rfl ?_; intro b7
 refine asg rfl .no (.u rfl) (.nil (.code (.ret ?_)))
 refine we_fb (.there .here) (by first|(intro b hb; cases hb; done) | simp [keys,Res.keys]) ?_; intro GfR5 hR5 hleR5 evR5 hsR5; subst evR5
 refine We.fin Tryd.results46 (.tmp rfl .nil) (MSub.cons .here rfl MSub.nil) ?_
 subst eL5
 exact ⟨b7,hR5,rfl,rfl,hsR5⟩
theorem rdFix_ok (xs:List Y) (s:Sh) (b:Nat) (G:PM) (hs:SlR G 1 encY s xs) (h8:8≤xs.length) (hl:xs.length≤100000000000000):Ct Tryd.prog 47 ([.pointer (some ⟨b,0,none⟩),.int .i64 ((8:Nat):Int)]:List Value).toArray G [.blk b (cl [s.val xs.length,.int .i64 0] 143)] (fun G' μ' u=>∃ s',μ'=[.blk b (cl [Sh.val s' (xs.drop 8).length,.int .i64 0] 143)]∧u=uv .u64 (unfK xs 8)∧SlR G' 1 encY s' (xs.drop 8)):=by
 refine Ct.of Tryd.func47 rfl Tryd.ntmps47 rfl fun w0 hs0=>?_
 refine .seq (Wk.rg [0] rfl rfl (asg rfl .no (.u rfl) (.nil (.code (.seq (.seq (Wk.rg [0,1,2,3,4,5,6,7,8] rfl rfl (mv rfl .no (.u rfl) (pe rfl .no Fx.pt107 (.u rfl) (.u rfl) ?_)))))))))
 refine mv rfl .no (.u rfl) (mv rfl (Gd.f (b:=false) rfl rfl) (.u rfl) (nc rfl (Gd.f (b:=false) rfl rfl) (.u rfl) (fz rfl (Gd.f (b:=false) rfl rfl) Fx.fo143_1 (.u rfl) (ld rfl (Gd.f (b:=false) rfl rfl) Fx.ag50 (.u rfl) (fun _=>Rd.own .here (by first|exact wap_f rfl|rfl)) ?_))))
 refine cp rfl (Gd.f (b:=false) rfl rfl) (.u rfl) (.u rfl) rfl (pkO rfl .no (.u rfl) (.u rfl) (.nil (.code (.cond rfl (fun c1=>?_) (fun c1=>?_)))))
 ·have c1k:=c1
  exact absurd c1 (by decide)
 have c1k:=c1
 try simp only [qcA,qcB] at c1
 refine .skip (.code (.seq (.seq (Wk.rg [0,1,2,3,4,5] rfl rfl (mv rfl .no (.u rfl) (cp rfl .no (.u rfl) (.u rfl) rfl (mv rfl .no (.u rfl) (mv rfl (.f rfl rfl) (.u rfl) (cp rfl (.f rfl rfl) (.s rfl) (.u rfl) rfl (pkO rfl .no (.u rfl) (.s rfl) (.nil (.code (.cond rfl (fun c2=>?_) (fun c2=>?_))))))))))))))
 ·have c2k:=c2
  exact absurd c2 (by decide)
 have c2k:=c2
 try simp only [qcA,qcB] at c2
 refine .skip (.code (.seq (.seq (Wk.rg [0,1,2,3,4,5,6] rfl rfl (mv rfl .no (.u rfl) (mv rfl .no (.u rfl) (nc rfl .no (.u rfl) (fz rfl .no Fx.fo143_0 (.u rfl) (ld rfl .no Fx.ag42 (.u rfl) (fun _=>Rd.own .here (by first|exact wap_f rfl|rfl)) ?_)))))))))
 refine ln rfl .no Fx.sn42 (.u rfl) (cp rfl .no (.u rfl) (.u rfl) rfl (.nil (.code (.cond rfl (fun c3=>?_) (fun c3=>?_)))))
 ·have c3k:=c3
  try simp only [qcA,qcB] at c3
  exfalso; omega
 have c3k:=c3
 try simp only [qcA,qcB] at c3
 refine .skip (.code (.seq (Wk.rg [0] rfl rfl (asg rfl .no (.u rfl) (.nil (.code (.seq (.seq (Wk.rg [0,1] rfl rfl (mv rfl .no (.u rfl) (mv rfl .no (.u rfl) (.nil (.code (.block ?_))))))))))))))
 refine Wk.lop (α:=Nat×BitVec 64) (fun gh=>[(5,true,uv .u64 gh.2),(36,true,.int .i64 (gh.1:Int))]) (fun _=>[])
  (fun gh Gl=>(gh.1≤8)∧(gh.2=unfK xs gh.1)) (fun gh=>8-gh.1) (0,0#64) [(0,true,_),(1,true,_),(35,true,_)] [_]
  (ESub.c rfl (ESub.cons rfl (by first|rfl|exact evi (by omega)) (ESub.c rfl (ESub.c rfl (ESub.c rfl ESub.nil)))))
  (MSub.cons .here rfl MSub.nil) ?_ ?_
 ·refine ⟨?_,?_⟩
  ·(try dsimp only)<;>(first|omega|rfl|assumption|(simp; done))
  (try dsimp only)<;>(rfl)
 intro gh N0 Gl0 hN0 hGl0 hF0
 obtain ⟨k,m⟩:=gh; dsimp only at hF0 hN0 ⊢
 obtain ⟨hk,em⟩:=hF0
 have hs:=hs.mono hGl0
 refine .seq (Wk.rg [0] rfl rfl (cp rfl .no (.u rfl) (.u rfl) rfl (.nil (.code (.seq (.cond rfl (fun c4=>?_) (fun c4=>?_)))))))
 ·have c4k:=c4
  try simp only [qcA,qcB] at c4
  refine .skip (.code (.seq (.block (.seq (Wk.rg [0,1] rfl rfl (mv rfl .no (.u rfl) (asg rfl .no (.u rfl) (.nil (.code (Wk.rg [0,1,2,3,4,5,6,7,8,9,10,11,12,13] rfl rfl (mv rfl .no (.u rfl) (mv rfl .no (.u rfl) (nc rfl .no (.u rfl) (fz rfl .no Fx.fo143_0 (.u rfl) (ld rfl .no Fx.ag42 (.u rfl) (fun _=>Rd.own .here (by first|exact wap_f rfl|rfl)) ?_)))))))))))))))
  refine mv rfl .no (.u rfl) (ih rfl .no Fx.se42 (.u rfl) (.u rfl) (fun _=>by omega) (fun _=>by omega) (fun _=>hs.nn (k:=k) (by omega)) ?_)
  refine ld rfl .no Fx.ag5 (.u rfl) (fun _=>(hs.yat (k) (by omega) (by omega)).rd) ?_
  refine cu (k:=.u8) rfl .no rfl Fx.cv5_24 (.u rfl) ?_
  refine mv rfl .no (.u rfl) (arn (((8*k):Nat):Int) rfl .no (.u rfl) (.u rfl) rfl (fun _=>by omega) (fun _=>wrap_i64 (by omega) (by omega)) ?_)
  refine lw (k:=.u64) rfl .no rfl (.u rfl) (.u rfl) (fun _=>by omega) ?_
  refine bw (k:=.u64) rfl .no rfl (.u rfl) (.u rfl) rfl (asg rfl .no (.u rfl) (.nil (.blk (.code (Wk.rg [0,1] rfl rfl (arn (((k+1):Nat):Int) rfl .no (.u rfl) (.u rfl) rfl (fun _=>by omega) (fun _=>wrap_i64 (by omega) (by omega)) ?_))))))
  refine mv rfl .no (.u rfl) (.nil (We.lpo (k+1,m ||| (xs.getD k 0).setWidth 64 <<< (8*k)) ?_ ?_ ?_ ?_ ?_))
  ·exact (ESub.c rfl (ESub.cons rfl (by first|rfl|exact evi (by omega)) (ESub.c rfl (ESub.c rfl (ESub.c rfl ESub.nil)))))
  ·exact (MSub.cons .here rfl MSub.nil)
  ·first|omega|(dsimp only; omega)
  ·exact hGl0
  refine ⟨?_,?_⟩
  ·(try dsimp only)<;>(first|omega|rfl|assumption|(simp; done))
  (try dsimp only)<;>(rw [em]; rfl)
 have c4k:=c4
 try simp only [qcA,qcB] at c4
 refine .exit (.xcode (.xlp (.xblk (.code (.seq (Wk.rg [0,1,2,3,4,5,6,7,8,9] rfl rfl (mv rfl .no (.u rfl) (mv rfl .no (.u rfl) (nc rfl .no (.u rfl) (fz rfl .no Fx.fo143_0 (.u rfl) (ld rfl .no Fx.ag42 (.u rfl) (fun _=>Rd.own .here (by first|exact wap_f rfl|rfl)) ?_)))))))))))
 refine mv rfl .no (.u rfl) (kD (8) rfl .no Fx.se42 hs (.u rfl) (.u rfl) (fun _=>by omega) (fun _=>by omega) ?_)
 intro h59 L59 eL59 lL59 hs59
 have lL59:=lL59 rfl
 refine nc rfl .no (.u rfl) (fz rfl .no Fx.fo143_0 (.u rfl) (s1 rfl (.u rfl) (.u rfl) rfl Fx.sz42 .here (by first|decide|(simp only [wa_len,ba_len,qlA]; omega)) (rfl) ?_))
 refine .nil (.code (.seq (Wk.rg [0,1] rfl rfl (mv rfl .no (.u rfl) (asg rfl .no (.u rfl) (.nil (.code (.ret (We.fin Tryd.results47 (.tmp rfl .nil) (MSub.cons .here rfl MSub.nil) ?_)))))))))
 obtain rfl:k=8:=by omega
 exact ⟨h59,by rw [eL59]; rfl,by rw [em]; rfl,by rw [← eL59]; exact hs59⟩
namespace Fx
theorem zq38:zrL Tryd.prog 38=some ([V 0#8,V 0#8,uv .u64 0#64,uv .u64 0#64,uv .u64 0#64]):=by kernel_rfl
theorem bp38_:bPl Tryd.prog 38 []=some ([V 0#8,V 0#8,uv .u64 0#64,uv .u64 0#64,uv .u64 0#64],[]):=by kernel_rfl
theorem sz38:szT Tryd.prog 38=some 5:=by kernel_rfl
theorem go46:goFn Tryd.prog 46=true:=by kernel_rfl
theorem bp38_0_1:bPl Tryd.prog 38 [0,1]=some ([V 0#8,V 0#8,uv .u64 0#64,uv .u64 0#64,uv .u64 0#64],[(0,1),(1,1)]):=by kernel_rfl
theorem go47:goFn Tryd.prog 47=true:=by kernel_rfl
theorem sz24:szT Tryd.prog 24=some 1:=by kernel_rfl
theorem bs42_9:bsT Tryd.prog 42 9=true:=by kernel_rfl
theorem go13:goFn Tryd.prog 13=true:=by kernel_rfl
end Fx
theorem Take_ok (xs:List Y) (h:Sh) (G:PM) (hs:SlR G 1 encY h xs) (hl:xs.length≤100000000000000):Ct Tryd.prog 41 ([h.val xs.length]:List Value).toArray G [] (fun _ μ' u=>μ'=[]∧u=.tuple #[.agg (takeH xs).1.cells.toArray,.int .i64 (takeH xs).2]):=by
 refine Ct.of Tryd.func41 rfl Tryd.ntmps41 rfl fun w0 hs0=>?_
 refine .seq (Wk.rg [0,1] rfl rfl ?_)
 refine al rfl Fx.zq38 ?_; intro b2
 refine asg rfl .no (.u rfl) (.nil (.code (.seq (.seq (Wk.rg [0,1,2] rfl rfl (mv rfl .no (.u rfl) (ln rfl .no Fx.sn42 (.u rfl) (cp rfl .no (.u rfl) (.u rfl) rfl (.nil (.code (.cond rfl (fun c1=>?_) (fun c1=>?_))))))))))))
 ·have c1k:=c1
  try simp only [qcA,qcC,qcB] at c1
  refine .seq (Wk.rg [0,1,2] rfl rfl (bC rfl .no Fx.bp38_ .nil rfl ?_))
  refine sw rfl (.u rfl) (.u rfl) rfl Fx.sz38 .here (by first|exact qE|exact qL|rfl) (one5 rfl rfl rfl rfl rfl) ?_
  refine asg rfl .no (.u rfl) (.nil (.code (.ret (We.fin0 Tryd.results41 (.cell rfl (fun w hw=>run_loadVarN Fx.ag38 (RdN.own .here) ((by first|exact qE|exact qL|rfl)) hw) (.tmp rfl .nil)) ?_))))
  exact ⟨rfl,by rw [take_short (by omega)]; rfl⟩
 have c1k:=c1
 try simp only [qcA,qcC,qcB] at c1
 refine .skip (.code (.seq (Wk.rg [0,1,2,3] rfl rfl (mv rfl .no (.u rfl) (kS (6) (30) rfl .no Fx.se42 hs (.u rfl) (.u rfl) (.u rfl) (fun _=>by omega) (fun _=>by omega) (fun _=>by omega) (fun _=>by omega) ?_)))))
 intro h11 L11 eL11 lL11 hs11
 have lL11:=lL11 rfl
 refine kc rfl Fx.go46 (Evc rfl Evn) (wcNew_ok L11 h11 _ hs11 (by omega)) ?_
 rintro _ G12 μ12 hG12 ⟨b12,sn0,rfl,rfl,hsn0⟩
 have hs:=hs.mono hG12
 refine asg rfl .no (.u rfl) (.nil (.code (.seq (Wk.draw (mc:=⟨false,false⟩) [0,1,2,3,4,5,6,7,8] Fx.mix (by kernel_rfl) ?_))))
 refine mv rfl .no (.u rfl) (ih rfl .no Fx.se42 (.u rfl) (.u rfl) (fun _=>by omega) (fun _=>by omega) (fun _=>hs.nn (k:=4) (by omega)) ?_)
 refine ld rfl .no Fx.ag5 (.u rfl) (fun _=>(hs.yat (4) (by omega) (by omega)).rd) ?_
 refine mv rfl .no (.u rfl) (ih rfl .no Fx.se42 (.u rfl) (.u rfl) (fun _=>by omega) (fun _=>by omega) (fun _=>hs.nn (k:=5) (by omega)) ?_)
 refine ld rfl .no Fx.ag5 (.u rfl) (fun _=>(hs.yat (5) (by omega) (by omega)).rd) ?_
 refine bCe ([V (xs.getD 4 0),V (xs.getD 5 0),uv .u64 0#64,uv .u64 0#64,uv .u64 0#64]) rfl .no Fx.bp38_0_1 (.cons (.u rfl) rfl (.cons (.u rfl) rfl .nil)) rfl (rfl) ?_
 refine al rfl Fx.zq38 ?_; intro b5
 refine sw rfl (.u rfl) (.u rfl) rfl Fx.sz38 .here (by first|exact qE|exact qL|rfl) (one5 rfl rfl rfl rfl rfl) ?_
 refine .nil (.code (.seq (Wk.rg [0,1,2,3] rfl rfl (mv rfl .no (.u rfl) (ka rfl (.inr rfl) Fx.go47 (Evc rfl (Evc rfl Evn)) (mtk1 (.there .here)) (rdFix_ok L11 sn0 _ _ hsn0 (by (try simp only [List.length_drop]); omega) (by (try simp only [List.length_drop]); omega)) ?_)))))
 rintro _ G21 μ21 hG21 ⟨sn1,rfl,rfl,hsn1⟩
 have hs:=hs.mono hG21
 refine fz rfl .no Fx.fo38_2 (.u rfl) (s1 rfl (.u rfl) (.u rfl) rfl Fx.sz24 (.there .here) (show 2<5 by decide) (rfl) ?_)
 refine .nil (.code (.seq (Wk.rg [0,1,2,3] rfl rfl (mv rfl .no (.u rfl) (ka rfl (.inr rfl) Fx.go47 (Evc rfl (Evc rfl Evn)) (mtk1 (.there .here)) (rdFix_ok (L11.drop 8) sn1 _ _ hsn1 (by (try simp only [List.length_drop]); omega) (by (try simp only [List.length_drop]); omega)) ?_)))))
 rintro _ G24 μ24 hG24 ⟨sn2,rfl,rfl,hsn2⟩
 have hs:=hs.mono hG24
 refine fz rfl .no Fx.fo38_3 (.u rfl) (s1 rfl (.u rfl) (.u rfl) rfl Fx.sz24 (.there .here) (show 3<5 by decide) (rfl) ?_)
 refine .nil (.code (.seq (Wk.rg [0,1,2,3] rfl rfl (mv rfl .no (.u rfl) (ka rfl (.inr rfl) Fx.go47 (Evc rfl (Evc rfl Evn)) (mtk1 (.there .here)) (rdFix_ok ((L11.drop 8).drop 8) sn2 _ _ hsn2 (by (try simp only [List.length_drop]); omega) (by (try simp only [List.length_drop]); omega)) ?_)))))
 rintro _ G27 μ27 hG27 ⟨sn3,rfl,rfl,hsn3⟩
 have hs:=hs.mono hG27
 refine fz rfl .no Fx.fo38_4 (.u rfl) (s1 rfl (.u rfl) (.u rfl) rfl Fx.sz24 (.there .here) (show 4<5 by decide) (rfl) ?_)
 refine .nil (.code (.seq (.seq (Wk.rg [0,1,2,3,4,5,6,7,8] rfl rfl (mv rfl .no (.u rfl) (kE (4) rfl .no Fx.se42 hs (.u rfl) (.u rfl) (fun _=>by omega) (fun _=>by omega) ?_))))))
 intro h30 L30 eL30 lL30 hs30
 have lL30:=lL30 rfl
 refine sB rfl .no Fx.bs42_9 (.u rfl) (fun _=>hs30.sc) ?_
 refine cs rfl .no (.u rfl) (.u rfl) rfl (mv rfl .no (.u rfl) (lA rfl (.f rfl rfl) Fx.ag38 (.u rfl) (fun _=>RdN.own .here) (fun _=>(by first|exact qE|exact qL|rfl)) ?_))
 refine kv rfl (.f rfl rfl) Fx.go13 (Eva.cons (.s rfl) Evn) (fun hc=>nRight_ok ⟨xs.getD 4 0,xs.getD 5 0,unfK L11 8,unfK (L11.drop 8) 8,unfK ((L11.drop 8).drop 8) 8⟩ _) ?_
 refine nt rfl (.f rfl rfl) (.s rfl) (pkO rfl .no (.u rfl) (.s rfl) (.nil (.code (.cond rfl (fun c2=>?_) (fun c2=>?_)))))
 ·have c2k:=c2
  try simp only [qcA,qcC,qcB] at c2
  refine .seq (Wk.rg [0,1,2] rfl rfl (bC rfl .no Fx.bp38_ .nil rfl ?_))
  refine sw rfl (.u rfl) (.u rfl) rfl Fx.sz38 (.there (.there .here)) (by first|exact qE|exact qL|rfl) (one5 rfl rfl rfl rfl rfl) ?_
  refine asg rfl .no (.u rfl) (.nil (.code (.ret (We.fin0 Tryd.results41 (.cell rfl (fun w hw=>run_loadVarN Fx.ag38 (RdN.own .here) ((by first|exact qE|exact qL|rfl)) hw) (.tmp rfl .nil)) ?_))))
  rw [head_at eL11] at c2k
  exact ⟨rfl,by rw [take_bad (by omega) (fun hq=>take_c2 eL30 c2k hq)]; rfl⟩
 have c2k:=c2
 try simp only [qcA,qcC,qcB] at c2
 refine .skip (.code (.seq (Wk.rg [0,1,2] rfl rfl (lA rfl .no Fx.ag38 (.u rfl) (fun _=>RdN.own .here) (fun _=>(by first|exact qE|exact qL|rfl)) ?_))))
 refine sw rfl (.u rfl) (.u rfl) rfl Fx.sz38 (.there (.there .here)) (by first|exact qE|exact qL|rfl) (one5 rfl rfl rfl rfl rfl) ?_
 refine asg rfl .no (.u rfl) (.nil (.code (.ret (We.fin0 Tryd.results41 (.cell rfl (fun w hw=>run_loadVarN Fx.ag38 (RdN.own .here) ((by first|exact qE|exact qL|rfl)) hw) (.tmp rfl .nil)) ?_))))
 rw [head_at eL11] at c2k
 exact ⟨rfl,by rw [take_good (by omega) (take_c3 eL30 c2k),←head_at eL11]; rfl⟩
namespace Fx
theorem zq74:zrL Tryd.prog 74=some ([V 0#8,V 0#8,uv .u64 0#64,uv .u64 0#64,uv .u64 0#64,.slice none 0 0,.int .i64 0,.bool false]):=by kernel_rfl
theorem bp74_3:bPl Tryd.prog 74 [3]=some ([V 0#8,V 0#8,uv .u64 0#64,uv .u64 0#64,uv .u64 0#64,.slice none 0 0,.int .i64 0,.bool false],[(7,1)]):=by kernel_rfl
theorem sz74:szT Tryd.prog 74=some 8:=by kernel_rfl
theorem ag74:aggN Tryd.prog 74=some (some 8):=by kernel_rfl
theorem go41:goFn Tryd.prog 41=true:=by kernel_rfl
theorem bp74_:bPl Tryd.prog 74 []=some ([V 0#8,V 0#8,uv .u64 0#64,uv .u64 0#64,uv .u64 0#64,.slice none 0 0,.int .i64 0,.bool false],[]):=by kernel_rfl
end Fx
end Go.Proofs.YtdeobooblmjlfaaDoor
namespace Go.Tan
abbrev Dg:=Nat→Y
def leafD (xs:List Y):Dg:=shaD (0#8 :: xs)
def joinD (a b:Dg):Dg:=shaD (1#8 :: (yl 32 a++yl 32 b))
def emptyD:Dg:=shaD [2#8]
def partL (k n:Nat):Nat→Nat
 | 0=>k
 | f+1=>if k+k<n then partL (k*2) n f else k
def partN (n:Nat):Nat:=partL 1 n n
theorem partL_spec:∀ (f k n:Nat),0<k→n≤k*2^f→k<n→(∃ a,k=2^a)→(∃ b,partL k n f=2^b)∧partL k n f<n∧n≤partL k n f+partL k n f
 | 0,k,n,h0,hn,hk,ha=>by rw [Nat.pow_zero,Nat.mul_one] at hn; omega
 | f+1,k,n,h0,hn,hk,⟨a,ha⟩=>by
  unfold partL
  split
  ·rename_i h
   refine partL_spec f (k*2) n (by omega) ?_ (by omega) ⟨a+1,by rw [ha,Nat.pow_succ]⟩
   rw [Nat.pow_succ,Nat.mul_comm (2^f) 2,←Nat.mul_assoc] at hn; exact hn
  exact ⟨⟨a,ha⟩,hk,by omega⟩
theorem partN_spec {n:Nat} (h:2≤n):(∃ b,partN n=2^b)∧partN n<n∧n≤partN n+partN n :=
 partL_spec n 1 n (by decide) (by rw [Nat.one_mul]; exact Nat.le_of_lt (Nat.lt_two_pow_self)) (by omega) ⟨0,rfl⟩
theorem partN_pos {n:Nat} (h:2≤n):0<partN n:=by have:=(partN_spec h).2.2; omega
theorem pow_uniq {a b n:Nat} (h1:2^a<n) (h2:n≤2^a+2^a) (h3:2^b<n) (h4:n≤2^b+2^b):a=b:=by
 rcases Nat.lt_trichotomy a b with h | h | h
 ·have:=Nat.pow_le_pow_right (n:=2) (by decide) (show a+1≤b by omega)
  rw [Nat.pow_succ] at this; omega
 ·exact h
 ·have:=Nat.pow_le_pow_right (n:=2) (by decide) (show b+1≤a by omega)
  rw [Nat.pow_succ] at this; omega
theorem partN_eq {a m:Nat} (h0:0<m) (hm:m≤2^a):partN (2^a+m)=2^a:=by
 have hp:0<2^a:=Nat.pow_pos (by decide)
 obtain ⟨⟨b,hb⟩,h1,h2⟩:=partN_spec (n:=2^a+m) (by omega)
 rw [hb] at h1 h2 ⊢
 rw [pow_uniq h1 h2 (show 2^a<2^a+m by omega) (by omega)]
def rootD (l:List Dg):Dg :=
 match l with
 | []=>emptyD
 | [d]=>d
 | a :: b :: r=>joinD (rootD ((a :: b :: r).take (partN (r.length+2)))) (rootD ((a :: b :: r).drop (partN (r.length+2))))
termination_by l.length
decreasing_by
 ·have:=partN_spec (n:=r.length+2) (by omega)
  simp only [List.length_take,List.length_cons]; omega
 ·have:=partN_pos (n:=r.length+2) (by omega)
  simp only [List.length_drop,List.length_cons]; omega
theorem root_nil:rootD []=emptyD:=by rw [rootD]
theorem root_one (d:Dg):rootD [d]=d:=by rw [rootD]
theorem root_two {l:List Dg} (h:2≤l.length):rootD l=joinD (rootD (l.take (partN l.length))) (rootD (l.drop (partN l.length))):=by
 match l,h with
 | a :: b :: r,_=>rw [rootD]; rfl
theorem root_join {s t:List Dg} {a:Nat} (hs:s.length=2^a) (h0:0<t.length) (ht:t.length≤2^a):rootD (s++t)=joinD (rootD s) (rootD t):=by
 have hp:0<2^a:=Nat.pow_pos (by decide)
 have hl:(s++t).length=2^a+t.length:=by rw [List.length_append,hs]
 rw [root_two (by omega),hl,partN_eq h0 ht,←hs,List.take_left,List.drop_left]
inductive Stk:List (Nat×Dg)→List Dg→Prop
 | nil:Stk [] []
 | cons {a:Nat} {r:Dg} {S:List (Nat×Dg)} {L seg:List Dg} (hS:Stk S L) (hl:seg.length=2^a) (hr:rootD seg=r) (hlt:∀ b s S',S=(b,s) :: S'→a<b):Stk ((a,r) :: S) (L++seg)
def finD (d:Dg):List (Nat×Dg)→Dg
 | []=>d
 | p :: S=>finD (joinD p.2 d) S
theorem Stk.root:∀ {S:List (Nat×Dg)} {L T:List Dg},Stk S L→0<T.length→(∀ b s S',S=(b,s) :: S'→T.length≤2^b)→rootD (L++T)=finD (rootD T) S
 | [],L,T,h,h0,_=>by cases h; rfl
 | (a,r) :: S,L,T,h,h0,hb=>by
  cases h with
  | @cons _ _ _ L seg hS hl hr hlt =>
   rw [List.append_assoc,Stk.root hS (by rw [List.length_append]; omega) (fun b s S' e=>by
    have h1:=hlt b s S' e
    have h2:=hb a r S rfl
    have h3:=Nat.pow_le_pow_right (n:=2) (by decide) (show a+1≤b by omega)
    rw [Nat.pow_succ] at h3
    rw [List.length_append,hl]; omega),root_join hl h0 (hb a r S rfl),hr]
   rfl
theorem Stk.done {a:Nat} {r:Dg} {S:List (Nat×Dg)} {L:List Dg} (h:Stk ((a,r) :: S) L):rootD L=finD r S:=by
 cases h with
 | @cons _ _ _ L seg hS hl hr hlt =>
  have hp:0<2^a:=Nat.pow_pos (by decide)
  rw [Stk.root hS (by omega) (fun b s S' e=>by rw [hl]; exact Nat.pow_le_pow_right (by decide) (Nat.le_of_lt (hlt b s S' e))),hr]
theorem pow_odd (a d t:Nat):2^(a+1+d)*t+2^a=2^a*(2*(2^d*t)+1):=by
 rw [Nat.pow_add,Nat.pow_succ,Nat.mul_add,Nat.mul_one]
 simp only [Nat.mul_assoc]
theorem Stk.len:∀ {S:List (Nat×Dg)} {L:List Dg} {a:Nat} {r:Dg},Stk ((a,r) :: S) L→∃ m,L.length=2^a*(2*m+1)
 | [],L,a,r,h=>by
  cases h with
  | @cons _ _ _ L seg hS hl hr hlt=>cases hS; exact ⟨0,by simpa using hl⟩
 | (b,s) :: S,L,a,r,h=>by
  cases h with
  | @cons _ _ _ L seg hS hl hr hlt =>
   obtain ⟨m,hm⟩:=Stk.len hS
   have hab:=hlt b s S rfl
   obtain ⟨d,rfl⟩ : ∃ d,b=a+1+d:=⟨b-a-1,by omega⟩
   refine ⟨2^d*(2*m+1),?_⟩
   rw [List.length_append,hm,hl,pow_odd]
structure Pend (S:List (Nat×Dg)) (d:Dg) (a:Nat) (l:List Dg):Prop where
 out:∃ L seg,Stk S L∧seg.length=2^a∧rootD seg=d∧L++seg=l∧∀ b s S',S=(b,s) :: S'→a≤b
theorem Pend.start {S:List (Nat×Dg)} {L:List Dg} (h:Stk S L) (d:Dg):Pend S d 0 (L++[d]):=⟨L,[d],h,rfl,root_one d,rfl,fun _ _ _ _=>Nat.zero_le _⟩
theorem Pend.even {S:List (Nat×Dg)} {d:Dg} {a:Nat} {l:List Dg} (h:Pend S d a l) (he:(l.length / 2^a)%2=0):∃ s S',S=(a,s) :: S'∧Pend S' (joinD s d) (a+1) l∧l.length / 2^a / 2=l.length / 2^(a+1):=by
 obtain ⟨L,seg,hS,hl,hr,he',hb⟩:=h.out
 have hp:0<2^a:=Nat.pow_pos (by decide)
 have hdiv:l.length / 2^a / 2=l.length / 2^(a+1):=by rw [Nat.div_div_eq_div_mul,Nat.pow_succ]
 have hlen:l.length=L.length+2^a:=by rw [← he',List.length_append,hl]
 match S,hS,hb with
 | [],hS,hb =>
  cases hS
  rw [List.length_nil,Nat.zero_add] at hlen
  rw [hlen,Nat.div_self hp] at he; cases he
 | (b,s) :: S',hS,hb =>
  obtain ⟨m,hm⟩:=hS.len
  have hab:=hb b s S' rfl
  by_cases e:a=b
  ·subst e
   refine ⟨s,S',rfl,?_,hdiv⟩
   cases hS with
   | @cons _ _ _ L0 seg0 hS0 hl0 hr0 hlt =>
    refine ⟨L0,seg0++seg,hS0,by rw [List.length_append,hl0,hl,Nat.pow_succ]; omega,?_,by rw [← List.append_assoc]; exact he',fun b s S'' e=>hlt b s S'' e⟩
    rw [root_join hl0 (by omega) (by omega),hr0,hr]
  exfalso
  obtain ⟨d',rfl⟩ : ∃ d',b=a+1+d':=⟨b-a-1,by omega⟩
  have h3:l.length=2^a*(2*(2^d'*(2*m+1))+1):=by
   rw [hlen,hm,pow_odd]
  rw [h3,Nat.mul_div_cancel_left _ hp] at he
  omega
theorem Pend.odd {S:List (Nat×Dg)} {d:Dg} {a:Nat} {l:List Dg} (h:Pend S d a l) (he:(l.length / 2^a)%2=1):Stk ((a,d) :: S) l:=by
 obtain ⟨L,seg,hS,hl,hr,he',hb⟩:=h.out
 have hp:0<2^a:=Nat.pow_pos (by decide)
 subst he'
 refine .cons hS hl hr fun b s S' e=>?_
 have hab:=hb b s S' e
 rcases Nat.lt_or_eq_of_le hab with h1 | h1
 ·exact h1
 exfalso
 subst e; subst h1
 obtain ⟨m,hm⟩:=hS.len
 rw [List.length_append,hl,hm,show 2^a*(2*m+1)+2^a=2^a*(2*m+2) by rw [Nat.mul_add,Nat.mul_one,Nat.mul_add]; omega,Nat.mul_div_cancel_left _ hp] at he
 omega
theorem Stk.short:∀ {S:List (Nat×Dg)} {L:List Dg},Stk S L→S.length≤L.length
 | [],_,_=>Nat.zero_le _
 | (a,r) :: S,L,h=>by
  cases h with
  | @cons _ _ _ L seg hS hl hr hlt =>
   have:=Stk.short hS
   have hp:0<2^a:=Nat.pow_pos (by decide)
   rw [List.length_append,List.length_cons]; omega
section
variable {dr:Bool} {mc:Md} {P:Program} {n:Nat} {l:List Oper} {K:Env→PM→Mem→Prop} {i:Nat} {σ:List Nat} {ρ:Env} {G:PM} {μ:Mem}
variable {d t:Nat} {p:String} {af:Array Edge} {g:Option (Nat×Bool)} {c:Bool}
theorem run_eqn {T m:Nat} {s:Sh} (hT:(slE P T).isSome=true) (w:World):(Op.equal T (s.val m) (.slice none 0 0)).run P w=.ok s.oa.isNone w:=by
 unfold slE at hT
 split at hT
 ·rename_i e hu
  unfold Op.equal
  rw [show Op.maxDepth=9999+1 from rfl,Op.equalIn]
  obtain ⟨oa,cap⟩:=s
  cases oa<;>simp [run_underlying hu,Sh.val]
 ·cases hT
theorem sn0 {T T' m:Nat} {x y:Operand} {s:Sh} (ho:nth l i=some ⟨some d,.binOp .eql T x y T',t,p,af,g⟩) (hg:Gd l ρ g c) (hT:(slE P T).isSome=true) (hx:Ev ρ c x (s.val m)) (hy:Ev ρ c y (.slice none 0 0)) (h:Wo dr mc P n l K σ ((d,c,.bool s.oa.isNone) :: ρ) G μ):Wo dr mc P n l K (i :: σ) ρ G μ :=
 .pure ho (.inl rfl) hg (fun hc q w ha=>by
  have hq:(eqGuard .eql T x y (s.val m) (.slice none 0 0)).run P w=.ok () w:=by unfold eqGuard; simp [Sh.val]
  have hb:(binOp .eql T (s.val m) (.slice none 0 0)).run P w=.ok (.bool s.oa.isNone) w:=by
   have:=run_eqn (P:=P) (s:=s) (m:=m) hT w
   simp only [Sh.val] at this ⊢
   simp [binOp,this]
  simp [execOp,hx.eval ha hc,hy.eval ha hc,hq,hb]) h
theorem sn1 {T T' m:Nat} {x y:Operand} {s:Sh} (ho:nth l i=some ⟨some d,.binOp .neq T x y T',t,p,af,g⟩) (hg:Gd l ρ g c) (hT:(slE P T).isSome=true) (hx:Ev ρ c x (s.val m)) (hy:Ev ρ c y (.slice none 0 0)) (h:Wo dr mc P n l K σ ((d,c,.bool (!s.oa.isNone)) :: ρ) G μ):Wo dr mc P n l K (i :: σ) ρ G μ :=
 .pure ho (.inl rfl) hg (fun hc q w ha=>by
  have hq:(eqGuard .neq T x y (s.val m) (.slice none 0 0)).run P w=.ok () w:=by unfold eqGuard; simp [Sh.val]
  have hb:(binOp .neq T (s.val m) (.slice none 0 0)).run P w=.ok (.bool (!s.oa.isNone)) w:=by
   have:=run_eqn (P:=P) (s:=s) (m:=m) hT w
   simp only [Sh.val] at this ⊢
   simp [binOp,this]
  simp [execOp,hx.eval ha hc,hy.eval ha hc,hq,hb]) h
theorem or8 {a b:Nat} (h1:a<256) (h2:b<256):BitVec.ofInt 64 (a:Int) ||| BitVec.ofInt 64 ((256*b:Nat):Int)=BitVec.ofNat 64 (a+256*b):=by
 have e1:BitVec.ofInt 64 (a:Int)=BitVec.ofNat 64 a:=by simp
 have e2:BitVec.ofInt 64 ((256*b:Nat):Int)=BitVec.ofNat 64 (256*b):=BitVec.ofInt_natCast ..
 rw [e1,e2]
 apply BitVec.eq_of_toNat_eq
 rw [BitVec.toNat_or,BitVec.toNat_ofNat,BitVec.toNat_ofNat,BitVec.toNat_ofNat,Nat.mod_eq_of_lt (by omega),Nat.mod_eq_of_lt (by omega),Nat.mod_eq_of_lt (by omega)]
 have:=Nat.two_pow_add_eq_or_of_lt (i:=8) (b:=a) (by omega) b
 rw [show (2:Nat)^8=256 from rfl] at this
 rw [show a ||| 256*b=256*b ||| a from Nat.or_comm _ _,←this,Nat.add_comm]
theorem or8r {T T':Nat} {x y:Operand} {a1 a2:Int} (a b:Nat) (ho:nth l i=some ⟨some d,.binOp .or T x y T',t,p,af,g⟩) (hg:Gd l ρ g c) (hx:Ev ρ c x (.int .i64 a1)) (hy:Ev ρ c y (.int .i64 a2)) (e1:c=true→a1=a) (e2:c=true→a2=(256*b:Nat)) (h1:a<256) (h2:b<256)
  (h:Wo dr mc P n l K σ ((d,c,.int .i64 ((a+256*b:Nat):Int)) :: ρ) G μ):Wo dr mc P n l K (i :: σ) ρ G μ :=
 .pure ho (.inl rfl) hg (fun hc q w ha=>by
  have e1':=e1 hc; have e2':=e2 hc
  subst e1'; subst e2'
  have hb:(binOp .or T (.int .i64 (a:Int)) (.int .i64 ((256*b:Nat):Int))).run P w=.ok (.int .i64 ((a+256*b:Nat):Int)) w:=by
   have h3:=or8 h1 h2
   have h4:IntKind.i64.wrap ((BitVec.ofNat 64 (a+256*b)).toNat:Int)=((a+256*b:Nat):Int):=by
    rw [BitVec.toNat_ofNat,Nat.mod_eq_of_lt (by omega)]
    exact wrap_i64 (by omega) (by omega)
   have h5:(Op.intBits .or .i64 (a:Int) ((256*b:Nat):Int))=pure (.int .i64 (IntKind.i64.wrap ((BitVec.ofInt 64 (a:Int) ||| BitVec.ofInt 64 ((256*b:Nat):Int)).toNat:Int))):=rfl
   have h6:binOp .or T (.int .i64 (a:Int)) (.int .i64 ((256*b:Nat):Int))=Op.intBits .or .i64 (a:Int) ((256*b:Nat):Int):=rfl
   rw [h6,h5,h3,h4]; rfl
  simp only [execOp,hx.eval ha hc,hy.eval ha hc,Sem.run_bind,eqGuard_int,Result.andThen_ok,hb]; rfl) h
theorem RdN.take {b o:Nat} {cs:List Value} (h:RdN G μ b o cs) (q:Nat):RdN G μ b o (cs.take q):=fun j v hj=>by
 rw [List.getElem?_take] at hj
 split at hj
 ·exact h j v hj
 ·cases hj
theorem splice_take {A C:List Value} {o m:Nat} (h1:o+C.length≤m) (h2:m≤A.length):(A.take o++C++A.drop (o+C.length)).take m=(A.take m).take o++C++(A.take m).drop (o+C.length):=by
 have hl:(A.take o++C).length=o+C.length:=by rw [List.length_append,List.length_take]; omega
 rw [List.take_append,List.take_of_length_le (by omega),hl,List.take_take,Nat.min_eq_left (by omega),List.drop_take]
theorem cpY {T E b o m cap m2 cap2:Nat} {x y:Operand} {u:Value} {xs ys:List Y} {μ':Mem} (ho:nth l i=some ⟨some d,.call { callee:=.builtin .copy,args:=#[x,y],argTypes:=#[T,T] },t,p,af,none⟩)
  (hT:slE P T=some (E,1,1)) (hx:Ev ρ true x (.slice (some ⟨b,o,none⟩) m2 cap2)) (hy:Ev ρ true y u) (hm:MTake μ (rB (.slice (some ⟨b,0,none⟩) m cap) E xs) μ') (hsc:Sc G μ u ys) (ho2:o+m2=xs.length) (hfit:ys.length≤m2)
  (h:∀ L,L=xs.take o++ys++xs.drop (o+ys.length)→L.length=xs.length→Wo dr mc P n l K σ ((d,true,.int .i64 (ys.length:Int)) :: ρ) G (rB (.slice (some ⟨b,0,none⟩) m cap) E L :: μ')):Wo dr mc P n l K (i :: σ) ρ G μ:=by
 obtain ⟨oa,cap3,rfl,hr⟩:=hsc.ex
 refine .act (μ₁:=[rB (.slice (some ⟨b,0,none⟩) m cap) E xs]) (μ₂:=μ') (post:=fun G' μ' v=>G'=G∧μ'=[rB (.slice (some ⟨b,0,none⟩) m cap) E (xs.take o++ys++xs.drop (o+ys.length))]∧v=.int .i64 (ys.length:Int)) ho (.inl rfl) .no hm.perm (fun a w ha hs=>.inl ?_) ?_
 ·have hs':=hs.left
  have hrow:w.ownsRow 0 E 1 (.slice (some ⟨b,0,none⟩) m cap) xs.length (xs.map V):=hs'.own _ (List.mem_singleton.2 rfl)
  obtain ⟨hu,inf,hi,hs1,hb1⟩:=slE_some hT
  rcases hrow.2 with ⟨e,_⟩ | ⟨g,cap',cur,e,_,hg,hnc,hcm,hcs,htake⟩
  ·cases e
  simp only [Value.slice.injEq,Option.some.injEq,Addr.mk.injEq,and_true,true_and] at e
  obtain ⟨rfl,rfl,rfl⟩:=e
  have hk:keys [rB (.slice (some ⟨b,0,none⟩) xs.length cap) E xs]=[b]:=by simp [keys,Res.keys,Value.ownBlock]
  have hsat:Sat G [.blk b (.cells cur E (0,0))] w:=⟨hs'.sub,fun r hr=>by rw [List.mem_singleton.1 hr]; exact hg,fun c hc=>hs'.apart c (by simpa [keys,Res.keys,Value.ownBlock] using hc),by simp [keys,Res.keys]⟩
  simp only [Nat.mul_one] at hcs htake
  by_cases h0:ys.length=0
  ·obtain rfl:ys=[]:=List.eq_nil_of_length_eq_zero h0
   have e1:xs.take o++[]++xs.drop (o+([]:List Y).length)=xs:=by simp
   rw [e1]
   refine ⟨_,w,G,_,.inl ?_,Tr.begin hs',rfl,rfl,rfl⟩
   have hz:(P.info? E).map (·.size)=some 1:=by rw [hi]; simp [hs1]
   cases oa with
   | none=>simp [execOp,resolve,invoke,builtin,hx.eval ha rfl,hy.eval ha rfl,Builtin.copy_,run_underlying hu,Builtin.lenOf,Builtin.firstCells,sizeOf,typeInfo,hi,storeCells,goInt]
   | some a0=>simp [execOp,resolve,invoke,builtin,hx.eval ha rfl,hy.eval ha rfl,Builtin.copy_,run_underlying hu,Builtin.lenOf,Builtin.firstCells,sizeOf,typeInfo,hi,storeCells,goInt,loadCells,loadCellsFrom]
  obtain ⟨b0,o0,rfl,hrd⟩:=hr (by omega)
  have hsat0:Sat G μ w:=hs.perm hm.perm.symm
  have hrun:=run_copy_row (P:=P) w T T t E b o m2 cap2 ⟨b0,o0,none⟩ ys.length cap3 cur E (ys.map V) hu (by rw [hi]; simp [hs1]) hg (by rw [List.length_map]; exact (Nat.min_eq_left hfit).symm)
   (fun j v hj=>by rw [add_lit]; exact hrd j v hj w hsat0) (by rw [List.length_map,hcs]; omega) (one_V ys)
  rw [List.length_map] at hrun
  have h2:=(Tr.setArr (cs':=(cur.toList.take o++ys.map V++cur.toList.drop (o+ys.length)).toArray) hsat).asRow (m:=xs.length) (cap:=cap) (sz:=1) (xs:=(xs.take o++ys++xs.drop (o+ys.length)).map V) (by simp; omega) hnc hcm ?_ ?_
  ·have hl:(xs.take o++ys++xs.drop (o+ys.length)).length=xs.length:=by simp; omega
   refine ⟨_,w.setRow b (cur.toList.take o++ys.map V++cur.toList.drop (o+ys.length)).toArray,G,[rB (.slice (some ⟨b,0,none⟩) xs.length cap) E (xs.take o++ys++xs.drop (o+ys.length))],.inl ?_,?_,rfl,rfl,rfl⟩
   ·simp only [execOp,resolve,invoke,builtin,hx.eval ha rfl,hy.eval ha rfl]
    simp [hx.eval ha rfl,hy.eval ha rfl,hrun,goInt]
   rw [hk]; simp only [rB,hl]; exact h2
  ·simp; omega
  have hml:(ys.map V).length=ys.length:=List.length_map ..
  have:=splice_take (A:=cur.toList) (C:=ys.map V) (o:=o) (m:=xs.length) (by omega) (by have:cur.toList.length=cur.size:=Array.length_toList ..; omega)
  rw [htake,hml] at this
  simp only [Nat.mul_one,List.map_append,List.map_take,List.map_drop]
  exact this
 rintro v G' μ'' _ ⟨rfl,rfl,rfl⟩
 exact h _ rfl (by simp; omega)
theorem keys_k {r r':Res} {μ1 ν:Mem} (h:MTake μ r' μ1) (e:r'.keys=r.keys) (hs:∀ b∈keys ν,b∈keys μ1):∀ b∈keys (r :: ν),b∈keys μ:=by
 intro b hb
 have h1:b∈r.keys++keys ν:=by simpa [keys] using hb
 refine (keys_perm h.perm).mem_iff.2 ?_
 show b∈keys (r' :: μ1)
 have h2:b∈r'.keys++keys μ1:=by
  rcases List.mem_append.1 h1 with h1 | h1
  ·exact List.mem_append_left _ (by rw [e]; exact h1)
  exact List.mem_append_right _ (hs b h1)
 simpa [keys] using h2
theorem keys_0:∀ b∈keys [],b∈keys μ:=fun b hb=>by cases hb
abbrev rS {α:Type} (sz:Nat) (enc:α→List Value) (v:Value) (E:Nat) (xs:List α):Res:=.row v E sz xs.length (xs.flatMap enc)
theorem apS {α:Type} {enc:α→List Value} {sz T E by' b cp:Nat} {x y:Operand} {v z:Value} {xs:List α} {μ' μ2:Mem} (a:α) (ho:nth l i=some ⟨some d,.call { callee:=.builtin .append,args:=#[x,y],argTypes:=#[T,T] },t,p,af,none⟩)
  (hT:slE P T=some (E,sz,by')) (hz:(P.info? E).bind (·.zero)=some z) (hzs:z.cells.size=sz) (hx:Ev ρ true x v) (hy:Ev ρ true y (.slice (some ⟨b,0,none⟩) 1 cp)) (hm:MTake μ (rS sz enc v E xs) μ') (hb:MTake μ (.blk b (cl (enc a) E)) μ2) (ha:(enc a).length=sz) (h1:∀ u∈enc a,u.oneCell'=true) (hl:(xs.length+1)*by'≤140737488355328) (hl2:xs.length+1≤maxLen)
  (h:∀ v',v'.oneCell'=true→Wo dr mc P n l K σ ((d,true,v') :: ρ) G (rS sz enc v' E (xs++[a]) :: μ')) (hmc:mc.a=false∨dr=false:=by first|exact .inl rfl|exact .inr rfl):Wo dr mc P n l K (i :: σ) ρ G μ:=by
 refine .act (μ₁:=[rS sz enc v E xs]) (μ₂:=μ') (post:=fun G' μ' v'=>G'=G∧v'.oneCell'=true∧μ'=[rS sz enc v' E (xs++[a])]) ho (by rcases hmc with h | h<;>simp [kindOf,h]) .no hm.perm (fun q w hq hs=>.inl ?_) ?_
 ·obtain ⟨v',w',hrun,ht⟩:=run_ap (ty:=t) (cp:=cp) (news:=enc a) (k:=1) (oa:=some ⟨b,0,none⟩) hT hz hzs hs.left (by rw [ha]; omega) (fun _=>⟨b,0,rfl,fun j u hj=>(RdN.own hb) j u hj w (hs.perm hm.perm.symm)⟩) h1 hl hl2
  refine ⟨v',w',G,[rS sz enc v' E (xs++[a])],.inl (by simp [execOp,resolve,invoke,builtin,hx.eval hq rfl,hy.eval hq rfl,hrun]),?_,rfl,ht.sat.rowOne,rfl⟩
  simp only [rS,List.length_append,List.flatMap_append,List.flatMap_cons,List.flatMap_nil,List.append_nil]; exact ht
 rintro v' G' μ'' _ ⟨rfl,h1,rfl⟩
 exact h v' h1
theorem Tr.frzS {α:Type} {enc:α→List Value} {sz:Nat} {G0:PM} {K0:List Nat} {w0 w:World} {E:Nat} {v:Value} {xs:List α} (hsz:∀ x∈xs,(enc x).length=sz) (h:Tr G0 K0 w0 G (rS sz enc v E xs :: μ) w) (hK:∀ b∈K0,b∈keys μ) :
  ∃ G' s,PM.le G G'∧v=Sh.val s xs.length∧SlR G' sz enc s xs∧Tr G0 K0 w0 G' μ w:=by
 obtain ⟨G',s,h1,h2,h3,h4,h5,h6⟩:=h.freezeRow hK
 exact ⟨G',s,h1,h2,SlR.ofRow hsz h3 h4 h5,h6⟩
theorem we_fs {α:Type} {enc:α→List Value} {sz:Nat} {X:Cx} {e:Exit} {k:List KI} {E:Nat} {v:Value} {xs:List α} {μ':Mem} (hm:MTake μ (rS sz enc v E xs) μ') (hsz:∀ x∈xs,(enc x).length=sz) (hK:∀ b∈X.K0,b∈keys μ') (h:∀ G' s,PM.le G G'→v=Sh.val s xs.length→SlR G' sz enc s xs→We X e k ρ G' μ'):We X e k ρ G μ :=
 ⟨fun a w ha ht=>by
  obtain ⟨G',s,h1,h2,h3,h4⟩:=(ht.perm hm.perm).frzS hsz hK
  exact (h G' s h1 h2 h3).out a w ha h4⟩
theorem wk_fs {α:Type} {enc:α→List Value} {sz:Nat} {X:Cx} {cd:Code} {k:List KI} {E:Nat} {v:Value} {xs:List α} {μ':Mem} (hm:MTake μ (rS sz enc v E xs) μ') (hsz:∀ x∈xs,(enc x).length=sz) (hK:∀ b∈X.K0,b∈keys μ') (h:∀ G' s,PM.le G G'→v=Sh.val s xs.length→SlR G' sz enc s xs→Wk X cd k ρ G' μ'):Wk X cd k ρ G μ :=
 ⟨fun a w ha ht=>by
  obtain ⟨G',s,h1,h2,h3,h4⟩:=(ht.perm hm.perm).frzS hsz hK
  exact (h G' s h1 h2 h3).out a w ha h4⟩
theorem wk_nilS {α:Type} (sz:Nat) (enc:α→List Value) {X:Cx} {cd:Code} {k:List KI} (E:Nat) (h:Wk X cd k ρ G (rS sz enc (.slice none 0 0) E [] :: μ)):Wk X cd k ρ G μ:=wk_nilRow E sz h
theorem we_nilS {α:Type} (sz:Nat) (enc:α→List Value) {X:Cx} {e:Exit} {k:List KI} (E:Nat) (h:We X e k ρ G (rS sz enc (.slice none 0 0) E [] :: μ)):We X e k ρ G μ:=we_nilRow E sz h
def encN (n:Nat):List Value:=[.int .i64 (n:Int)]
structure AllS (G:PM) (ps:List (Sh×List Y)):Prop where
 all:∀ p∈ps,SlR G 1 encY p.1 p.2
theorem AllS.mono {G G':PM} {ps:List (Sh×List Y)} (h:AllS G ps) (hle:PM.le G G'):AllS G' ps:=⟨fun p hp=>(h.all p hp).mono hle⟩
theorem AllS.nil {G:PM}:AllS G []:=⟨fun p hp=>by cases hp⟩
theorem AllS.snoc {G:PM} {ps:List (Sh×List Y)} {s:Sh} {L:List Y} (h:AllS G ps) (hs:SlR G 1 encY s L):AllS G (ps++[(s,L)]):=⟨fun p hp=>by
 rcases List.mem_append.1 hp with hp | hp
 ·exact h.all p hp
 ·rw [List.mem_singleton.1 hp]; exact hs⟩
theorem SlP.of {G:PM} {s:Sh} {ps:List (Sh×List Y)} (h:SlR G 1 encP s ps) (hA:AllS G ps):SlP G s ps:=⟨h,hA.all⟩
theorem SlP.nul {G:PM}:SlP G ⟨Option.none,0⟩ []:=⟨SlR.nul,fun p hp=>by cases hp⟩
theorem SlP.take {G:PM} {s s':Sh} {ps L:List (Sh×List Y)} {k:Nat} (h:SlP G s ps) (e:L=ps.take k) (hs:SlR G 1 encP s' L):SlP G s' L:=⟨hs,fun p hp=>h.all p (by rw [e] at hp; exact List.mem_of_mem_take hp)⟩
theorem slr {T e sz by' b m cap:Nat} {x y:Operand} {k:IntKind} {lo:Int} (q:Nat) (ho:nth l i=some ⟨some d,.slice T x (some y) none none,t,p,af,none⟩) (hT:slE P T=some (e,sz,by')) (hx:Ev ρ true x (.slice (some ⟨b,0,none⟩) m cap)) (hy:Ev ρ true y (.int k lo))
  (hq:lo=q) (h1:q≤m) (h2:m≤cap) (h3:q<cap) (h:Wo dr mc P n l K σ ((d,true,.slice (some ⟨b,q*sz,none⟩) (m-q) (cap-q)) :: ρ) G μ):Wo dr mc P n l K (i :: σ) ρ G μ :=
 .pure ho (.inl rfl) .no (fun _ a w ha=>by
  obtain ⟨hu,inf,hi,rfl,rfl⟩:=slE_some hT
  subst hq
  have hx':=hx.eval ha rfl
  have hn:¬ cap=q:=by omega
  simp [execOp,hx',hy.eval ha rfl,Instr.sliceAt,run_underlying hu,Instr.slice,Instr.sliceBounds,Instr.sliceBound,asIntOf,sizeOf,typeInfo,hi,h1,h2,hn,add_lit]) h
theorem cnb {S D:TypeId} {x:Operand} {k:IntKind} {a:BitVec k.bits} (ho:nth l i=some ⟨some d,.convert S D x,t,p,af,g⟩) (hg:Gd l ρ g c) (hk:cvK P S D=some .i64) (hx:Ev ρ c x (uv k a)) (hb:c=true→a.toNat≤9223372036854775807)
  (h:∀ m:Nat,m=a.toNat→Wo dr mc P n l K σ ((d,c,.int .i64 (m:Int)) :: ρ) G μ):Wo dr mc P n l K (i :: σ) ρ G μ :=
 cw ho hg hk hx (fun hc=>wrap_i64 (by omega) (by have:=hb hc; omega)) (h a.toNat rfl)
theorem apL {α:Type} {enc:α→List Value} {sz T E by':Nat} {x y:Operand} {v z:Value} {s:Sh} {xs ys:List α} {μ':Mem} (ho:nth l i=some ⟨some d,.call { callee:=.builtin .append,args:=#[x,y],argTypes:=#[T,T] },t,p,af,none⟩)
  (hT:slE P T=some (E,sz,by')) (hz:(P.info? E).bind (·.zero)=some z) (hzs:z.cells.size=sz) (hx:Ev ρ true x v) (hy:Ev ρ true y (s.val ys.length)) (hm:MTake μ (rS sz enc v E xs) μ') (hs:SlR G sz enc s ys) (hsz:∀ a∈ys,(enc a).length=sz) (h1:∀ u∈ys.flatMap enc,u.oneCell'=true) (hl:(xs.length+ys.length)*by'≤140737488355328) (hl2:xs.length+ys.length≤maxLen)
  (h:∀ v',v'.oneCell'=true→Wo dr mc P n l K σ ((d,true,v') :: ρ) G (rS sz enc v' E (xs++ys) :: μ')) (hmc:mc.a=false∨dr=false:=by first|exact .inl rfl|exact .inr rfl):Wo dr mc P n l K (i :: σ) ρ G μ:=by
 refine .act (μ₁:=[rS sz enc v E xs]) (μ₂:=μ') (post:=fun G' μ' v'=>G'=G∧v'.oneCell'=true∧μ'=[rS sz enc v' E (xs++ys)]) ho (by rcases hmc with h | h<;>simp [kindOf,h]) .no hm.perm (fun q w hq hs'=>.inl ?_) ?_
 ·obtain ⟨v',w',hrun,ht⟩:=run_ap (ty:=t) (cp:=s.cap) (news:=ys.flatMap enc) (k:=ys.length) (oa:=s.oa) hT hz hzs hs'.left (flat_len hsz) (fun h0=>⟨s.b,s.o,hs.nn h0,fun j u hj=>((SlR.flat hsz hs).rd (μ:=μ)) j u hj w (hs'.perm hm.perm.symm)⟩) h1 hl hl2
  refine ⟨v',w',G,[rS sz enc v' E (xs++ys)],.inl ?_,?_,rfl,ht.sat.rowOne,rfl⟩
  ·have hy':=hy.eval hq rfl
   simp only [Sh.val] at hy'
   simp [execOp,resolve,invoke,builtin,hx.eval hq rfl,hy',hrun]
  simp only [rS,List.length_append,List.flatMap_append]; exact ht
 rintro v' G' μ'' _ ⟨rfl,h1,rfl⟩
 exact h v' h1
theorem SlR.tk {α:Type} {G:PM} {sz:Nat} {enc:α→List Value} {s:Sh} {xs:List α} (h:SlR G sz enc s xs) (k:Nat):SlR G sz enc s (xs.take k):=by
 refine ⟨fun hne=>h.there (fun e=>hne (by rw [e,List.take_nil])),by rw [List.length_take]; have:=h.le; omega,fun i x hx=>?_⟩
 rw [List.getElem?_take] at hx
 split at hx
 ·exact h.rd i x hx
 cases hx
theorem SlP.tk {G:PM} {s:Sh} {ps:List (Sh×List Y)} (h:SlP G s ps) (k:Nat):SlP G s (ps.take k):=⟨h.sl.tk k,fun p hp=>h.all p (List.mem_of_mem_take hp)⟩
theorem SlR.n1 {G:PM} {s:Sh} {xs:List Nat} (h:SlR G 1 encN s xs) {j:Int} (k:Nat) {x:Nat} (hj:j.toNat=k) (hx:xs[k]? = some x):RdP G ⟨s.b,s.o+j.toNat*1,none⟩ (.int .i64 (x:Int)):=by
 have:=(h.nth k hj hx) 0 _ rfl
 simpa using this
end
end Go.Tan
