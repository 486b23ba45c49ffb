/- Lemmas and contracts of functions, joined. -/
import Derived.Test.YtggleibgadkodaaGreatDoorGb2
import Derived.Shelf.SlIter.Nil
import Derived.Shelf.SlIter.Sorted
import Derived.Shelf.SortM.Plain
import Derived.Shelf.SortM.SortNone
set_option linter.unusedSimpArgs false
set_option linter.unusedVariables false
set_option linter.unusedSectionVars false
namespace Go.Proofs.YtggleibgadkodaaGreatDoor
open Go.Tan Go.RowKit
namespace Fx
theorem fo385_2:fOff Tryz.prog 385 2=some 9:=by kernel_rfl
theorem ag3:aggN Tryz.prog 3=some none:=by kernel_rfl
theorem sz3:szT Tryz.prog 3=some 1:=by kernel_rfl
theorem fo385_1:fOff Tryz.prog 385 1=some 8:=by kernel_rfl
theorem ag131:aggN Tryz.prog 131=some none:=by kernel_rfl
theorem zv5:(Tryz.prog.info? 5).bind (·.zero)=some (.int .u8 0):=by kernel_rfl
theorem sz131:szT Tryz.prog 131=some 1:=by kernel_rfl
theorem go265:goFn Tryz.prog 265=true:=by kernel_rfl
end Fx
theorem block_row (s:Nat→W) (xs:List Y) (v vp nn:Value) (bs:Nat) (G:PM) (hK:RdNP G 0 0 (wa 64 kW)) (hl:64≤xs.length):Ct Tryz.prog 265 ([.pointer (some ⟨bs,0,none⟩),v]:List Value).toArray G [rB v 5 xs,.blk bs (cl (wa 8 s++[vp,nn]) 385)] (fun _ μ' u=>∃ ν,μ'=rB v 5 xs :: ν∧ν=[.blk bs (cl (wa 8 (shaC s (fun i=>xs.getD i 0))++[vp,nn]) 385)]∧u=.tuple #[]) :=
 Ct.lendB (fun h G2 hle hv hs=>by subst hv; exact block_ok s xs h vp nn bs G2 hs (hK.mono hle) hl)
theorem st_s8 {y:Nat→W} {a b v:Value}:(wa 8 y++[a,b]).set 8 v=wa 8 y++[v,b]:=wap_s rfl
theorem st_s9 {y:Nat→W} {a b v:Value}:(wa 8 y++[a,b]).set 9 v=wa 8 y++[a,v]:=wap_s rfl
theorem st_eq {zs:List Y} {j m b T:Nat} {vp:Value} (hj:zs.length / 64=j) (hm:m=zs.length):Res.blk b (cl (wa 8 (shaW zs j)++[vp,.int .i64 (m:Int)]) T)=.blk b (cl (stC zs vp) T):=by
 subst hj; subst hm; rfl
theorem put_step {zs L:List Y} {j b T:Nat} {vq nn:Value} (eL:L=zs.drop (64*j)) (h:64≤L.length):Res.blk b (cl (wa 8 (shaC (shaW zs j) (fun i=>L.getD i 0))++[vq,nn]) T)=.blk b (cl (wa 8 (shaW zs (j+1))++[vq,nn]) T):=by
 rw [shaW,shaC_congr (b':=blkF zs j)]
 intro i hi
 rw [eL,blkF]; simp [List.getD_eq_getElem?_getD,List.getElem?_drop]
theorem put_first {xs ys L:List Y} {b T k:Nat} {vq nn:Value} (eL:L=restL xs++ys.take k) (hk:k=min (64-(restL xs).length) ys.length) (h:64≤L.length):Res.blk b (cl (wa 8 (shaC (shaW xs (xs.length / 64)) (fun i=>L.getD i 0))++[vq,nn]) T)=.blk b (cl (wa 8 (shaW (xs++ys) (xs.length / 64+1))++[vq,nn]) T):=by
 have hr:=rest_len xs
 rw [eL,List.length_append,List.length_take] at h
 rw [shaW,shaW_app (by omega),shaC_congr (b':=blkF (xs++ys) (xs.length / 64))]
 intro i hi
 rw [eL,blkF]
 simp only [List.getD_eq_getElem?_getD,List.getElem?_append,List.getElem?_take,hr]
 by_cases h1:i<xs.length%64
 ·simp [h1,restL,show 64*(xs.length / 64)+i<xs.length by omega]
 ·rw [if_neg h1,if_pos (by omega),if_neg (by omega)]
  congr 2; omega
theorem put_rest {xs ys L:List Y} (eL:L=restL xs++ys.take (min (64-(restL xs).length) ys.length)) (h:L.length<64):L=restL (xs++ys)∧(xs++ys).length / 64=xs.length / 64∧shaW (xs++ys) (xs.length / 64)=shaW xs (xs.length / 64):=by
 have hr:=rest_len xs
 rw [eL,List.length_append,List.length_take] at h
 have e:(xs++ys).length / 64=xs.length / 64:=by rw [List.length_append]; omega
 refine ⟨?_,e,shaW_app (by omega)⟩
 have h5:min (64-(restL xs).length) ys.length=ys.length:=by omega
 rw [eL,h5,List.take_length,restL,restL,e,List.drop_append_of_le_length (by omega)]
theorem put_drop {xs ys:List Y} (h:64≤(restL xs).length+ys.length):ys.drop (min (64-(restL xs).length) ys.length)=(xs++ys).drop (64*(xs.length / 64+1)):=by
 have hr:=rest_len xs
 rw [List.drop_append,List.drop_of_length_le (show xs.length≤64*(xs.length / 64+1) by omega),List.nil_append]
 congr 1; omega
theorem put_drop0 {xs ys:List Y} (h:(restL xs).length=0):ys=(xs++ys).drop (64*(xs.length / 64)):=by
 have hr:=rest_len xs
 rw [show 64*(xs.length / 64)=xs.length by omega,List.drop_left]
theorem put_zero {xs ys:List Y} {b T:Nat} {vq nn:Value} (h:(restL xs).length=0):Res.blk b (cl (wa 8 (shaW xs (xs.length / 64))++[vq,nn]) T)=.blk b (cl (wa 8 (shaW (xs++ys) (xs.length / 64))++[vq,nn]) T):=by
 rw [shaW_app (by omega)]
theorem put_ok (xs ys:List Y) (h:Sh) (vp:Value) (bs:Nat) (G:PM) (hs:SlR G 1 encY h ys) (hK:RdNP G 0 0 (wa 64 kW)) (hl:xs.length+ys.length≤4611686018427387904):Ct Tryz.prog 238 ([.pointer (some ⟨bs,0,none⟩),h.val ys.length]:List Value).toArray G [.blk bs (cl (stC xs vp) 385),rB vp 5 (restL xs)] (fun _ μ' u=>∃ vp',μ'=[.blk bs (cl (stC (xs++ys) vp') 385),rB vp' 5 (restL (xs++ys))]∧u=.tuple #[]):=by
 refine Ct.of Tryz.func238 rfl Tryz.ntmps238 rfl fun w0 hs0=>?_
 have hr:=rest_len xs
 refine .seq (rq10 rfl rfl (mV rfl rfl (nc rfl .no (.u rfl) (fz rfl .no Fx.fo385_2 (.u rfl) (ld rfl .no Fx.ag3 (.u rfl) (fun _=>Rd.own .here (by first|exact wap_f rfl|rfl)) ?_)))))
 refine mV rfl rfl (ln rfl .no Fx.sn131 (.u rfl) (arn (((xs.length+ys.length):Nat):Int) rfl .no (.u rfl) (.u rfl) rfl (fun _=>by omega) (fun _=>wrap_i64 (by omega) (by omega)) ?_))
 refine nc rfl .no (.u rfl) (fz rfl .no Fx.fo385_2 (.u rfl) (s1 rfl (.u rfl) (.u rfl) rfl Fx.sz3 .here (by first|decide|(simp only [stC,wa_len,ba_len,qlA]; omega)) (by first|exact st_s8|exact st_s9) ?_))
 refine .nil (.code (.seq (.seq (rq6 rfl rfl (mV rfl rfl (nc rfl .no (.u rfl) (fz rfl .no Fx.fo385_1 (.u rfl) (ld rfl .no Fx.ag131 (.u rfl) (fun _=>Rd.own .here (by first|exact wap_f rfl|rfl)) ?_))))))))
 refine lr rfl .no Fx.sn131 (.u rfl) tk1 ?_
 refine cp rfl .no (.u rfl) (.u rfl) rfl (.nil (.code (.cond rfl (fun c1=>?_) (fun c1=>?_))))
 ·have c1k:=c1
  try simp only [qcA,qcB] at c1
  refine .seq (rq10 rfl rfl (mV rfl rfl (nc rfl .no (.u rfl) (fz rfl .no Fx.fo385_1 (.u rfl) (ld rfl .no Fx.ag131 (.u rfl) (fun _=>Rd.own .here (by first|exact wap_f rfl|rfl)) ?_)))))
  refine lr rfl .no Fx.sn131 (.u rfl) tk1 ?_
  refine arn (((64-(restL xs).length):Nat):Int) rfl .no (.u rfl) (.u rfl) rfl (fun _=>by omega) (fun _=>wrap_i64 (by omega) (by omega)) ?_
  refine mV rfl rfl (ln rfl .no Fx.sn131 (.u rfl) (mIn ((64-(restL xs).length)) (ys.length) rfl .no (.u rfl) (.u rfl) (fun _=>by omega) (fun _=>by omega) ?_))
  refine aS rfl rfl (.nil (.code (.seq (Wk.draw (mc:=⟨false,false⟩) [0,1,2,3,4,5,6,7,8,9,10,11] Fx.mix (by kernel_rfl) ?_))))
  refine mV rfl rfl (mV rfl rfl (nc rfl .no (.u rfl) (fz rfl .no Fx.fo385_1 (.u rfl) (ld rfl .no Fx.ag131 (.u rfl) (fun _=>Rd.own .here (by first|exact wap_f rfl|rfl)) ?_))))
  refine mV rfl rfl (mV rfl rfl (kE ((min (64-(restL xs).length) ys.length)) rfl .no Fx.se131 hs (.u rfl) (.u rfl) (fun _=>by omega) (fun _=>by omega) ?_))
  intro h36 L36 eL36 lL36 hs36
  have lL36:=lL36 rfl
  refine apY rfl Fx.se131 Fx.zv5 (.u rfl) (.u rfl) tk1 hs36.sc (by (try simp only [qlA,yl_len]); omega) ?_
  intro v37 L37 ov37 eL37
  have lL37:L37.length=(restL xs).length+L36.length:=by rw [eL37,List.length_append]
  refine nc rfl .no (.u rfl) (fz rfl .no Fx.fo385_1 (.u rfl) (s1v rfl (.u rfl) (.u rfl) .here Fx.sz131 tk1 (by first|decide|(simp only [stC,wa_len,ba_len,qlA]; omega)) (by first|exact st_s8|exact st_s9) ?_))
  refine .nil (.code (.seq (rq4 rfl rfl (mV rfl rfl (mV rfl rfl (kD ((min (64-(restL xs).length) ys.length)) rfl .no Fx.se131 hs (.u rfl) (.u rfl) (fun _=>by omega) (fun _=>by omega) ?_))))))
  intro h42 L42 eL42 lL42 hs42
  have lL42:=lL42 rfl
  refine aS rfl rfl (.nil (.code (.seq (.seq (rq6 rfl rfl (mV rfl rfl (nc rfl .no (.u rfl) (fz rfl .no Fx.fo385_1 (.u rfl) (ld rfl .no Fx.ag131 (.u rfl) (fun _=>Rd.own .here (by first|exact wap_f rfl|rfl)) ?_)))))))))
  refine lr rfl .no Fx.sn131 (.u rfl) tk1 ?_
  refine cp rfl .no (.u rfl) (.u rfl) rfl (.nil (.code (.cond rfl (fun c2=>?_) (fun c2=>?_))))
  ·have c2k:=c2
   try simp only [qcA,qcB] at c2
   refine .ret (We.fin Tryz.results238 .nil (mS .here rfl (mS .here rfl mN)) ?_)
   obtain ⟨e1,e2,e3⟩:=put_rest (eL37.trans (by rw [eL36])) (by omega)
   exact ⟨v37,by rw [← e1,←e3,st_eq e2 (by simp)],rfl⟩
  have c2k:=c2
  try simp only [qcA,qcB] at c2
  refine .skip (.code (.seq (rq6 rfl rfl (mV rfl rfl (mV rfl rfl (nc rfl .no (.u rfl) (fz rfl .no Fx.fo385_1 (.u rfl) (ld rfl .no Fx.ag131 (.u rfl) (fun _=>Rd.own .here (by first|exact wap_f rfl|rfl)) ?_))))))))
  refine ka rfl (.inr rfl) Fx.go265 (Evc rfl (Evc rfl Evn)) (mtk2 tk1 .here) (block_row _ L37 _ _ _ _ _ hK (by omega)) ?_
  rintro _ G54 μ54 hG54 ⟨_,rfl,rfl,rfl⟩
  have hs:=hs.mono hG54
  have hK:=hK.mono hG54
  have hs42:=hs42.mono hG54
  refine .nil (.code (rq4 rfl rfl (mV rfl rfl (nc rfl .no (.u rfl) (fz rfl .no Fx.fo385_1 (.u rfl) (s1 rfl (.u rfl) (.u rfl) rfl Fx.sz131 tk1 (by first|decide|(simp only [stC,wa_len,ba_len,qlA]; omega)) (by first|exact st_s8|exact st_s9) ?_))))))
  refine .nil (we_nilB 5 ?_)
  refine .code (.seq (.block ?_))
  refine Wk.lop (α:=Nat×Sh×List Y×Value) (fun gh=>[(1,true,gh.2.1.val gh.2.2.1.length)]) (fun gh=>[.blk bs (cl (wa 8 (shaW (xs++ys) gh.1)++[gh.2.2.2,.int .i64 ((xs.length+ys.length:Nat):Int)]) 385)])
   (fun gh Gl=>(64*gh.1≤xs.length+ys.length)∧(gh.2.2.1=(xs++ys).drop (64*gh.1))∧(SlR Gl 1 encY gh.2.1 gh.2.2.1)) (fun gh=>gh.2.2.1.length) (xs.length / 64+1,_,_,_) [(0,true,_)] [_]
   (esD rfl (esD rfl eZ))
   (mS tk1 (put_first (eL37.trans (by rw [eL36])) rfl (by omega)) (mS .here rfl mN)) ?_ ?_
  ·refine ⟨?_,?_,?_⟩
   ·(try dsimp only)<;>(omega)
   ·(try dsimp only)<;>(rw [eL42]; exact put_drop (by omega))
   (try dsimp only)<;>(exact hs42)
  intro gh N0 Gl0 hN0 hGl0 hF0
  obtain ⟨j,h',L,vq⟩:=gh; dsimp only at hF0 hN0 ⊢
  obtain ⟨hj,eL,hL⟩:=hF0
  have hs:=hs.mono hGl0
  have hK:=hK.mono hGl0
  have lL:L.length=xs.length+ys.length-64*j:=by rw [eL]; simp
  refine .seq (.seq (rq3 rfl rfl (mV rfl rfl (ln rfl .no Fx.sn131 (.u rfl) (cp rfl .no (.u rfl) (.u rfl) rfl (.nil (.code (.cond rfl (fun c3=>?_) (fun c3=>?_)))))))))
  ·have c3k:=c3
   try simp only [qcA,qcB] at c3
   refine .skip (.code (.seq (.block (rq3 rfl rfl (mV rfl rfl (mV rfl rfl (ka rfl (.inr rfl) Fx.go265 (Evc rfl (Evc rfl Evn)) (mtk1 .here) (block_ok _ L h' _ _ _ _ hL hK (by omega)) ?_)))))))
   rintro _ G65 μ65 hG65 ⟨rfl,rfl⟩
   have hs:=hs.mono hG65
   have hK:=hK.mono hG65
   have hL:=hL.mono hG65
   refine .nil (.blk (.code (rq3 rfl rfl (mV rfl rfl (kD (64) rfl .no Fx.se131 hL (.u rfl) (.u rfl) (fun _=>by omega) (fun _=>by omega) ?_)))))
   intro h62 L62 eL62 lL62 hs62
   have lL62:=lL62 rfl
   refine aS rfl rfl (.nil (We.lpo (j+1,h62,L62,vq) ?_ ?_ ?_ ?_ ?_))
   ·exact (esD rfl (esD rfl eZ))
   ·exact (mS .here (put_step eL (by omega)) (mS .here rfl mN))
   ·first|omega|(dsimp only; omega)
   ·exact (hGl0).trans hG65
   refine ⟨?_,?_,?_⟩
   ·(try dsimp only)<;>(omega)
   ·(try dsimp only)<;>(rw [eL62,eL,List.drop_drop]; congr 1)
   (try dsimp only)<;>(exact hs62)
  have c3k:=c3
  try simp only [qcA,qcB] at c3
  refine .exit (.xcode (.xlp (.xblk (.code (rq7 rfl rfl (mV rfl rfl ?_))))))
  refine b0B rfl Fx.se131 ?_; intro b67
  refine mV rfl rfl (apY0 rfl Fx.se131 Fx.zv5 (.u rfl) (.u rfl) .here hL.sc (by (try simp only [qlA,yl_len]); omega) ?_)
  intro v69 L69 _ ov69 eL69
  have lL69:L69.length=L.length:=by rw [eL69]
  refine nc rfl .no (.u rfl) (fz rfl .no Fx.fo385_1 (.u rfl) (s1v rfl (.u rfl) (.u rfl) .here Fx.sz131 tk1 (by first|decide|(simp only [stC,wa_len,ba_len,qlA]; omega)) (by first|exact st_s8|exact st_s9) ?_))
  refine .nil (.nil (We.fin Tryz.results238 .nil (mS .here rfl (mS .here rfl mN)) ?_))
  have ej:(xs++ys).length / 64=j:=by rw [List.length_append]; omega
  exact ⟨v69,by rw [st_eq ej (by simp),eL69,eL,restL,ej],rfl⟩
 have c1k:=c1
 try simp only [qcA,qcB] at c1
 refine .skip (.code (.seq (.block ?_)))
 refine Wk.lop (α:=Nat×Sh×List Y×Value) (fun gh=>[(1,true,gh.2.1.val gh.2.2.1.length)]) (fun gh=>[.blk bs (cl (wa 8 (shaW (xs++ys) gh.1)++[gh.2.2.2,.int .i64 ((xs.length+ys.length:Nat):Int)]) 385)])
  (fun gh Gl=>(64*gh.1≤xs.length+ys.length)∧(gh.2.2.1=(xs++ys).drop (64*gh.1))∧(SlR Gl 1 encY gh.2.1 gh.2.2.1)) (fun gh=>gh.2.2.1.length) (xs.length / 64,_,_,_) [(0,true,_)] [_]
  (esD rfl (esD rfl eZ))
  (mS .here (put_zero (by omega)) (mS .here rfl mN)) ?_ ?_
 ·refine ⟨?_,?_,?_⟩
  ·(try dsimp only)<;>(omega)
  ·(try dsimp only)<;>(exact put_drop0 (by omega))
  (try dsimp only)<;>(exact hs)
 intro gh N1 Gl1 hN1 hGl1 hF1
 obtain ⟨j,h',L,vq⟩:=gh; dsimp only at hF1 hN1 ⊢
 obtain ⟨hj,eL,hL⟩:=hF1
 have hK:=hK.mono hGl1
 have lL:L.length=xs.length+ys.length-64*j:=by rw [eL]; simp
 refine .seq (.seq (rq3 rfl rfl (mV rfl rfl (ln rfl .no Fx.sn131 (.u rfl) (cp rfl .no (.u rfl) (.u rfl) rfl (.nil (.code (.cond rfl (fun c4=>?_) (fun c4=>?_)))))))))
 ·have c4k:=c4
  try simp only [qcA,qcB] at c4
  refine .skip (.code (.seq (.block (rq3 rfl rfl (mV rfl rfl (mV rfl rfl (ka rfl (.inr rfl) Fx.go265 (Evc rfl (Evc rfl Evn)) (mtk1 .here) (block_ok _ L h' _ _ _ _ hL hK (by omega)) ?_)))))))
  rintro _ G65 μ65 hG65 ⟨rfl,rfl⟩
  have hL:=hL.mono hG65
  refine .nil (.blk (.code (rq3 rfl rfl (mV rfl rfl (kD (64) rfl .no Fx.se131 hL (.u rfl) (.u rfl) (fun _=>by omega) (fun _=>by omega) ?_)))))
  intro h62 L62 eL62 lL62 hs62
  have lL62:=lL62 rfl
  refine aS rfl rfl (.nil (We.lpo (j+1,h62,L62,vq) ?_ ?_ ?_ ?_ ?_))
  ·exact (esD rfl (esD rfl eZ))
  ·exact (mS .here (put_step eL (by omega)) (mS .here rfl mN))
  ·first|omega|(dsimp only; omega)
  ·exact (hGl1).trans hG65
  refine ⟨?_,?_,?_⟩
  ·(try dsimp only)<;>(omega)
  ·(try dsimp only)<;>(rw [eL62,eL,List.drop_drop]; congr 1)
  (try dsimp only)<;>(exact hs62)
 have c4k:=c4
 try simp only [qcA,qcB] at c4
 refine .exit (.xcode (.xlp (.xblk (.code (rq7 rfl rfl (mV rfl rfl ?_))))))
 refine b0B rfl Fx.se131 ?_; intro b67
 refine mV rfl rfl (apY0 rfl Fx.se131 Fx.zv5 (.u rfl) (.u rfl) .here hL.sc (by (try simp only [qlA,yl_len]); omega) ?_)
 intro v69 L69 _ ov69 eL69
 have lL69:L69.length=L.length:=by rw [eL69]
 refine nc rfl .no (.u rfl) (fz rfl .no Fx.fo385_1 (.u rfl) (s1v rfl (.u rfl) (.u rfl) .here Fx.sz131 tk1 (by first|decide|(simp only [stC,wa_len,ba_len,qlA]; omega)) (by first|exact st_s8|exact st_s9) ?_))
 refine .nil (.nil (We.fin Tryz.results238 .nil (mS .here rfl (mS .here rfl mN)) ?_))
 have ej:(xs++ys).length / 64=j:=by rw [List.length_append]; omega
 exact ⟨v69,by rw [st_eq ej (by simp),eL69,eL,restL,ej],rfl⟩
namespace Fx
theorem zr385:zrL Tryz.prog 385=some ([.int .u32 0,.int .u32 0,.int .u32 0,.int .u32 0,.int .u32 0,.int .u32 0,.int .u32 0,.int .u32 0,.slice none 0 0,.int .i64 0]):=by kernel_rfl
theorem bp385_0:bPl Tryz.prog 385 [0]=some ([.int .u32 0,.int .u32 0,.int .u32 0,.int .u32 0,.int .u32 0,.int .u32 0,.int .u32 0,.int .u32 0,.slice none 0 0,.int .i64 0],[(0,8)]):=by kernel_rfl
theorem sz385:szT Tryz.prog 385=some 10:=by kernel_rfl
theorem ag385:aggN Tryz.prog 385=some (some 10):=by kernel_rfl
theorem go237:goFn Tryz.prog 237=true:=by kernel_rfl
theorem pt406:ptT Tryz.prog 406=true:=by kernel_rfl
theorem go238:goFn Tryz.prog 238=true:=by kernel_rfl
theorem zq71:zrL Tryz.prog 71=some (ba 32 (fun _=>0#8)):=by kernel_rfl
theorem ag383:aggN Tryz.prog 383=some (some 8):=by kernel_rfl
theorem bp385_0_1_2:bPl Tryz.prog 385 [0,1,2]=some ([.int .u32 0,.int .u32 0,.int .u32 0,.int .u32 0,.int .u32 0,.int .u32 0,.int .u32 0,.int .u32 0,.slice none 0 0,.int .i64 0],[(0,8),(8,1),(9,1)]):=by kernel_rfl
theorem cv3_41:cvK Tryz.prog 3 41=some .u64:=by kernel_rfl
theorem cv41_5:cvK Tryz.prog 41 5=some .u8:=by kernel_rfl
theorem ar71:arE Tryz.prog 71=some (32,5,1):=by kernel_rfl
theorem ag71:aggN Tryz.prog 71=some (some 32):=by kernel_rfl
theorem sz71:szT Tryz.prog 71=some 32:=by kernel_rfl
end Fx
theorem begin_ok (G:PM):Ct Tryz.prog 237 ([]:List Value).toArray G [] (fun _ μ' u=>μ'=[]∧u=.agg (stC [] (.slice none 0 0)).toArray):=by
 refine Ct.of Tryz.func237 rfl Tryz.ntmps237 rfl fun w0 hs0=>?_
 refine .seq (rq1 rfl rfl ?_)
 refine al rfl Fx.zr385 ?_; intro b0
 refine .nil (.code (.seq (rq3 rfl rfl (bCe (wa 8 ivW) rfl .no Fx.bp383_0_1_2_3_4_5_6_7 (.cons (.u rfl) rfl (.cons (.u rfl) rfl (.cons (.u rfl) rfl (.cons (.u rfl) rfl (.cons (.u rfl) rfl (.cons (.u rfl) rfl (.cons (.u rfl) rfl (.cons (.u rfl) rfl .nil)))))))) rfl (by rfl) ?_))))
 refine bCe (stC [] (.slice none 0 0)) rfl .no Fx.bp385_0 (.cons (.u rfl) rfl .nil) rfl (by rfl) ?_
 refine sw rfl (.u rfl) (.u rfl) rfl Fx.sz385 .here (by rfl) (one_app (wa_one _ _) (one2 rfl rfl)) ?_
 refine .nil (.code (.ret (We.fin0 Tryz.results237 (.cell rfl (fun w hw=>run_loadVarN Fx.ag385 (RdN.own .here) ((by rfl)) hw) .nil) ?_)))
 exact ⟨rfl,rfl⟩
theorem New_ok (G:PM):Ct Tryz.prog 253 ([]:List Value).toArray G [] (fun _ μ' u=>∃ b,μ'=[.blk b (cl (stC [] (.slice none 0 0)) 385),rB (.slice none 0 0) 5 (restL [])]∧u=.pointer (some ⟨b,0,none⟩)):=by
 refine Ct.of Tryz.func253 rfl Tryz.ntmps253 rfl fun w0 hs0=>?_
 refine .seq (rq1 rfl rfl (aS rfl rfl (.nil (.code (.seq (rq3 rfl rfl (kv rfl .no Fx.go237 Evn (fun _=>begin_ok _) ?_)))))))
 refine al rfl Fx.zr385 ?_; intro b1
 refine sw rfl (.u rfl) (.u rfl) rfl Fx.sz385 .here (by rfl) (one_app (wa_one _ _) (one2 rfl rfl)) ?_
 refine .nil (.code (.seq (rq1 rfl rfl (aS rfl rfl (.nil (we_nilB 5 ?_))))))
 refine .code (.ret (We.fin Tryz.results253 (.tmp rfl .nil) (mS tk1 rfl (mS .here rfl mN)) ?_))
 exact ⟨_,rfl,rfl⟩
theorem Write_ok (xs ys:List Y) (h:Sh) (vp:Value) (bs:Nat) (G:PM) (hs:SlR G 1 encY h ys) (hK:RdNP G 0 0 (wa 64 kW)) (hl:xs.length+ys.length≤4611686018427387904):Ct Tryz.prog 254 ([.pointer (some ⟨bs,0,none⟩),h.val ys.length]:List Value).toArray G [.blk bs (cl (stC xs vp) 385),rB vp 5 (restL xs)] (fun _ μ' u=>∃ vp',μ'=[.blk bs (cl (stC (xs++ys) vp') 385),rB vp' 5 (restL (xs++ys))]∧u=.tuple #[]):=by
 refine Ct.of Tryz.func254 rfl Tryz.ntmps254 rfl fun w0 hs0=>?_
 refine .seq (rq2 rfl rfl (mV rfl rfl (pn rfl .no Fx.pt406 (.u rfl) (.u rfl) ?_)))
 refine .nil (.code (Wk.condT rfl rfl ?_))
 refine rq3 rfl rfl (mV rfl rfl (mV rfl rfl (ka rfl (.inr rfl) Fx.go238 (Evc rfl (Evc rfl Evn)) (mtk2 .here .here) (put_ok _ _ _ _ _ _ hs hK hl) ?_)))
 rintro _ G8 μ8 hG8 ⟨vq,rfl,rfl⟩
 refine .nil (.nil (We.fin Tryz.results254 .nil (mS .here rfl (mS .here rfl mN)) ?_))
 exact ⟨vq,rfl,rfl⟩
theorem st_w {xs:List Y} {vp:Value}:((stC xs vp).drop 0).take 8=wa 8 (shaW xs (xs.length / 64)):=by
 rw [List.drop_zero,stC,List.take_append_of_le_length (by rw [wa_len]; exact Nat.le_refl _),List.take_of_length_le (by rw [wa_len]; exact Nat.le_refl _)]
theorem st_b {zs:List Value} {xs:List Y} {v:Value} (h:zs.length=10):bFold zs [(0,8),(8,1),(9,1)] [wa 8 (shaW xs (xs.length / 64)),[v],[.int .i64 (xs.length:Int)]]=stC xs v:=by
 match zs,h with
 | [a,b,c,d,e,f,g,h,i,j],_=>rfl
theorem lenF_int {n q:Nat} (h:q<8):lenF n q=((BitVec.ofInt 64 (n:Int)*8#64) >>> (56-8*(q:Int)).toNat).setWidth 8:=by
 rw [show (56-8*(q:Int)).toNat=56-8*q by omega]; rfl
theorem StSum_ok (xs:List Y) (vp:Value) (bs:Nat) (G:PM) (hK:RdNP G 0 0 (wa 64 kW)) (hl:xs.length≤1152921504606846976):Ct Tryz.prog 239 ([.pointer (some ⟨bs,0,none⟩)]:List Value).toArray G [.blk bs (cl (stC xs vp) 385),rB vp 5 (restL xs)] (fun _ μ' u=>μ'=[.blk bs (cl (stC xs vp) 385),rB vp 5 (restL xs)]∧u=.agg (ba 32 (shaD xs)).toArray):=by
 refine Ct.of Tryz.func239 rfl Tryz.ntmps239 rfl fun w0 hs0=>?_
 have hr:=rest_len xs
 have hz:zeros xs.length=(119-xs.length%64)%64:=rfl
 refine .seq (rq1 rfl rfl ?_)
 refine al rfl Fx.zq71 ?_; intro b2
 refine .nil (.code (.seq (rq3 rfl rfl (kv rfl .no Fx.go237 Evn (fun _=>begin_ok _) ?_))))
 refine al rfl Fx.zr385 ?_; intro b3
 refine sw rfl (.u rfl) (.u rfl) rfl Fx.sz385 .here (by rfl) (one_app (wa_one _ _) (one2 rfl rfl)) ?_
 refine .nil (.code (.seq (.seq (rq2 rfl rfl (mV rfl rfl (pn rfl .no Fx.pt406 (.u rfl) (.u rfl) ?_))))))
 refine .nil (.code (Wk.condT rfl rfl ?_))
 refine wk_rs tk3 ?_; intro sRP bbRP evRP lcRP oaRP; subst evRP
 refine Wk.draw (mc:=⟨false,true⟩) [0,1,2,3,5,6,7,8,10,11,12,13,4,9,14,15] Fx.mix (by kernel_rfl) ?_
 refine mV rfl rfl (nc rfl .no (.u rfl) (fz rfl .no Fx.fo385_0 (.u rfl) (lA rfl .no Fx.ag383 (.u rfl) (fun _=>RdN.part (n:=8) (cs':=wa 8 (shaW xs (xs.length / 64))) tk2 (st_w)) (fun _=>(by first|exact qE|exact qL|rfl)) ?_)))
 refine mV rfl rfl (nc rfl .no (.u rfl) (fz rfl .no Fx.fo385_1 (.u rfl) (ld rfl .no Fx.ag131 (.u rfl) (fun _=>Rd.own tk2 (by first|exact wap_f rfl|rfl)) ?_)))
 refine mV rfl rfl (nc rfl .no (.u rfl) (fz rfl .no Fx.fo385_2 (.u rfl) (ld rfl .no Fx.ag3 (.u rfl) (fun _=>Rd.own tk2 (by first|exact wap_f rfl|rfl)) ?_)))
 refine b0B rfl Fx.se131 ?_; intro b16
 refine apY0 rfl Fx.se131 Fx.zv5 (.u rfl) (.u rfl) .here (Sc.rowS tk4 oaRP) (by (try simp only [qlA,yl_len]); omega) ?_
 intro v21 L21 _ ov21 eL21
 have lL21:L21.length=(restL xs).length:=by rw [eL21]
 refine bCe (stC xs v21) rfl .no Fx.bp385_0_1_2 (.cons (.u rfl) rfl (.cons (.u rfl) (cells_one ov21) (.cons (.u rfl) rfl .nil))) rfl (st_b rfl) ?_
 refine sw rfl (.u rfl) (.u rfl) rfl Fx.sz385 tk1 (by rfl) (one_app (wa_one _ _) (one2 ov21 rfl)) ?_
 refine .nil (.code (.seq ?_))
 subst eL21
 refine rq5 rfl rfl (fz rfl .no Fx.fo385_2 (.u rfl) (ld rfl .no Fx.ag3 (.u rfl) (fun _=>Rd.own .here (by first|exact wap_f rfl|rfl)) ?_))
 refine ci rfl .no rfl Fx.cv3_41 (.u rfl) ?_
 refine bw (k:=.u64) (b:=8#64) rfl .no rfl (.u rfl) (.u rfl) rfl (aS rfl rfl (.nil (.code (.seq (rq2 rfl rfl ?_)))))
 refine mkY (1) (72) rfl Fx.se131 Fx.zv5 (.u rfl) (.u rfl) (by first|rfl|omega) (by first|rfl|omega) (by omega) (by omega) ?_; intro b31
 have lR31:(List.replicate (1) (0#8:Y)).length=1:=List.length_replicate
 refine aS rfl rfl (.nil (.code (.seq (rq3 rfl rfl (mV rfl rfl (ia rfl .no Fx.se131 (.u rfl) (.u rfl) (fun _=>by omega) (fun _=>by omega) ?_))))))
 refine s1r (z:=128#8) rfl (.u rfl) (.u rfl) Fx.sz5 .here (by omega) ?_; intro Ls6_2 eLs6_2 lLs6_2
 refine .nil (.code (.seq (.block ?_)))
 refine Wk.lop (α:=Nat×Value×List Y) (fun gh=>[(5,true,gh.2.1)]) (fun gh=>[rB gh.2.1 5 gh.2.2])
  (fun gh Gl=>(gh.1≤zeros xs.length)∧(gh.2.2=128#8 :: List.replicate gh.1 0#8)) (fun gh=>zeros xs.length-gh.1) (0,_,_) [(2,true,_),(3,true,_),(4,true,_)] [_,_,_,_,_]
  (esD rfl (esD rfl (esD rfl (esD rfl eZ))))
  (mS .here rfl (mS .here rfl (mS .here rfl (mS .here rfl (mS .here rfl (mS .here rfl mN)))))) ?_ ?_
 ·refine ⟨?_,?_⟩
  ·(try dsimp only)<;>(exact Nat.zero_le _)
  (try dsimp only)<;>(rw [eLs6_2]; rfl)
 intro gh N0 Gl0 hN0 hGl0 hF0
 obtain ⟨j,v,L⟩:=gh; dsimp only at hF0 hN0 ⊢
 obtain ⟨hj,eL⟩:=hF0
 have hK:=hK.mono hGl0
 have lL:L.length=j+1:=by rw [eL]; simp
 have hz:zeros xs.length=(119-xs.length%64)%64:=rfl
 refine .seq (.seq (rq7 rfl rfl (fz rfl .no Fx.fo385_2 (.u rfl) (ld rfl .no Fx.ag3 (.u rfl) (fun _=>Rd.own tk1 (by first|exact wap_f rfl|rfl)) ?_))))
 refine mV rfl rfl (lr rfl .no Fx.sn131 (.u rfl) .here ?_)
 refine arn (((xs.length+L.length):Nat):Int) rfl .no (.u rfl) (.u rfl) rfl (fun _=>by omega) (fun _=>wrap_i64 (by omega) (by omega)) ?_
 refine rmn ((xs.length+L.length)) (64) rfl .no (.u rfl) (.u rfl) (fun _=>by omega) (fun _=>by omega) (fun _=>by first|decide|omega) ?_
 refine cp rfl .no (.u rfl) (.u rfl) rfl (.nil (.code (.cond rfl (fun c1=>?_) (fun c1=>?_))))
 ·have c1k:=c1
  try simp only [qcA,qcB] at c1
  refine .skip (.code (.block (rq4 rfl rfl (mV rfl rfl ?_))))
  refine Go.Tan.b1 rfl Fx.se131 Fx.zv5 (.u rfl) rfl rfl (by decide) ?_; intro b42
  refine apY rfl Fx.se131 Fx.zv5 (.u rfl) (.u rfl) tk1 (Sc.one (y:=0#8) .here) (by show _+1≤_; omega) ?_
  intro v43 L43 ov43 eL43
  have lL43:L43.length=L.length+1:=by rw [eL43,List.length_append]; first|rfl | simp [yl_len]
  refine aS rfl rfl (.nil (.blk (We.lpo (j+1,v43,L43) ?_ ?_ ?_ ?_ ?_)))
  ·exact (esD rfl (esD rfl (esD rfl (esD rfl eZ))))
  ·exact (mS .here rfl (mS tk1 rfl (mS tk1 rfl (mS tk1 rfl (mS tk1 rfl (mS tk1 rfl mN))))))
  ·(try dsimp only); omega
  ·exact hGl0
  refine ⟨?_,?_⟩
  ·(try dsimp only)<;>(omega)
  (try dsimp only)<;>(rw [eL43,eL,List.cons_append,←List.replicate_succ'])
 have c1k:=c1
 try simp only [qcA,qcB] at c1
 refine .exit (.xcode (.xlp (.xblk (.code (.seq (.seq (rq1 rfl rfl (aS rfl rfl (.nil (.code (.block ?_)))))))))))
 refine Wk.lop (α:=Nat×Value×List Y) (fun gh=>[(5,true,gh.2.1),(6,true,.int .i64 (56-8*(gh.1:Int)))]) (fun gh=>[rB gh.2.1 5 gh.2.2])
  (fun gh Gl=>(gh.1≤8)∧(gh.2.2=(128#8 :: List.replicate (zeros xs.length) 0#8)++lenB xs.length gh.1)) (fun gh=>8-gh.1) (0,_,_) [(2,true,_),(3,true,_),(4,true,_)] [_,_,_,_,_]
  (esD rfl (esC rfl (by first|rfl|exact evi (by omega)) (esD rfl (esD rfl (esD rfl eZ)))))
  (mS .here rfl (mS .here rfl (mS .here rfl (mS .here rfl (mS .here rfl (mS .here rfl mN)))))) ?_ ?_
 ·refine ⟨?_,?_⟩
  ·(try dsimp only)<;>(first|omega|rfl|assumption|(simp; done))
  (try dsimp only)<;>(rw [eL,show j=zeros xs.length by omega]; simp [lenB])
 intro gh N1 Gl1 hN1 hGl1 hF1
 obtain ⟨q,v,L⟩:=gh; dsimp only at hF1 hN1 ⊢
 obtain ⟨hq,eL⟩:=hF1
 have hK:=hK.mono hGl1
 have lL:L.length=zeros xs.length+1+q:=by rw [eL]; simp [lenB_len]; omega
 refine .seq (.seq (rq2 rfl rfl (mV rfl rfl (cp rfl .no (.u rfl) (.u rfl) rfl (.nil (.code (.cond rfl (fun c2=>?_) (fun c2=>?_))))))))
 ·have c2k:=c2
  try simp only [qcA,qcB] at c2
  refine .skip (.code (.seq (.block (rq8 rfl rfl (mV rfl rfl (mV rfl rfl (mV rfl rfl (rw' (k:=.u64) rfl .no (.u rfl) (.u rfl) (fun _=>by omega) ?_))))))))
  refine cu (k:=.u64) rfl .no rfl Fx.cv41_5 (.u rfl) ?_
  refine Go.Tan.b1 rfl Fx.se131 Fx.zv5 (.u rfl) rfl rfl (by decide) ?_; intro b53
  refine apY rfl Fx.se131 Fx.zv5 (.u rfl) (.u rfl) tk1 (Sc.one .here) (by show _+1≤_; omega) ?_
  intro v54 L54 ov54 eL54
  have lL54:L54.length=L.length+1:=by rw [eL54,List.length_append]; first|rfl | simp [yl_len]
  refine aS rfl rfl (.nil (.blk (.code (rq3 rfl rfl (mV rfl rfl (ar rfl .no (.u rfl) (.u rfl) rfl (fun _=>wrap_i64 (by omega) (by omega)) ?_))))))
  refine aS rfl rfl (.nil (We.lpo (q+1,v54,L54) ?_ ?_ ?_ ?_ ?_))
  ·exact (esD rfl (esC rfl (by first|rfl|exact evi (by omega)) (esD rfl (esD rfl (esD rfl eZ)))))
  ·exact (mS .here rfl (mS tk1 rfl (mS tk1 rfl (mS tk1 rfl (mS tk1 rfl (mS tk1 rfl mN))))))
  ·first|omega|(dsimp only; omega)
  ·exact hGl1
  refine ⟨?_,?_⟩
  ·(try dsimp only)<;>(first|omega|rfl|assumption|(simp; done))
  (try dsimp only)<;>(rw [eL54,eL,lenB_snoc,←List.append_assoc,lenF_int (by omega)]; rfl)
 have c2k:=c2
 try simp only [qcA,qcB] at c2
 refine .exit (.xcode (.xlp (.xblk (.code (.seq ?_)))))
 have e8:L=tailL xs.length:=by rw [eL,show q=8 by omega]; rfl
 subst e8
 have lt:=tail_len xs.length
 have hz:zeros xs.length=(119-xs.length%64)%64:=rfl
 refine wk_fb .here (keys_sub (mS tk3 rfl (mS tk3 rfl mN))) ?_; intro GfR31 hR31 hleR31 evR31 hsR31; subst evR31
 have hK:=hK.mono hleR31
 refine rq2 rfl rfl (mV rfl rfl (ka rfl (.inr rfl) Fx.go238 (Evc rfl (Evc rfl Evn)) (mtk2 .here .here) (put_ok xs (tailL xs.length) _ _ _ _ hsR31 hK (by omega)) ?_))
 rintro _ G56 μ56 hG56 ⟨vq,rfl,rfl⟩
 refine .nil (.code (.seq (rq1 rfl rfl ?_)))
 refine al rfl Fx.zq71 ?_; intro b7
 refine .nil (.code (.seq (.seq (rq1 rfl rfl (mV rfl rfl (.nil (.code (.block ?_))))))))
 refine Wk.lop (α:=Nat×(Nat→Y)) (fun gh=>[(57,true,.int .i64 (gh.1:Int))]) (fun gh=>[.blk b7 (cl (ba 32 gh.2) 71)])
  (fun gh Gl=>(gh.1≤32)∧(gh.2=outs (shaD xs) gh.1)) (fun gh=>32-gh.1) (0,fun _=>0#8) [(2,true,_),(3,true,_),(7,true,_)] [_,_,_,_,_]
  (esC rfl (by first|rfl|exact evi (by omega)) (esD rfl (esD rfl (esD rfl eZ))))
  (mS .here rfl (mS .here rfl (mS .here rfl (mS .here rfl (mS .here rfl (mS .here rfl mN)))))) ?_ ?_
 ·refine ⟨?_,?_⟩
  ·(try dsimp only)<;>(first|omega|rfl|assumption|(simp; done))
  (try dsimp only)<;>(first|omega|rfl|assumption|(simp; done))
 intro gh N2 Gl2 hN2 hGl2 hF2
 obtain ⟨i,f⟩:=gh; dsimp only at hF2 hN2 ⊢
 obtain ⟨hi,ef⟩:=hF2
 refine .seq (rq1 rfl rfl (cp rfl .no (.u rfl) (.u rfl) rfl (.nil (.code (.seq (.cond rfl (fun c3=>?_) (fun c3=>?_)))))))
 ·have c3k:=c3
  try simp only [qcA,qcB] at c3
  refine .skip (.code (.seq (.block (.seq (rq2 rfl rfl (mV rfl rfl (aS rfl rfl (.nil (.code (Wk.rg [0,1,2,3,4,5,6,7,8,9,10,11,12,13] rfl rfl (mV rfl rfl (mV rfl rfl (qun (i) (4) rfl .no (.u rfl) (.u rfl) (fun _=>by omega) (fun _=>by omega) (fun _=>by first|decide|omega) (fun _=>by omega) ?_)))))))))))))
  refine fz rfl .no Fx.fo385_0 (.u rfl) (iA rfl .no Fx.ar383 (.u rfl) (.u rfl) (fun _=>by omega) (fun _=>by omega) ?_)
  refine ld rfl .no Fx.ag282 (.u rfl) (fun _=>Rd.own tk1 (by first|exact wa_at1 ((i / 4)) (by omega) (by omega)|exact ba_at1 ((i / 4)) (by omega) (by omega)|exact wap_at1 ((i / 4)) (by omega) (by omega)|rfl)) ?_
  refine mV rfl rfl (rmn (i) (4) rfl .no (.u rfl) (.u rfl) (fun _=>by omega) (fun _=>by omega) (fun _=>by first|decide|omega) ?_)
  refine arn (((8*(i%4)):Nat):Int) rfl .no (.u rfl) (.u rfl) rfl (fun _=>by omega) (fun _=>wrap_i64 (by omega) (by omega)) ?_
  refine arn (((24-8*(i%4)):Nat):Int) rfl .no (.u rfl) (.u rfl) rfl (fun _=>by omega) (fun _=>wrap_i64 (by omega) (by omega)) ?_
  refine rw' (k:=.u32) rfl .no (.u rfl) (.u rfl) (fun _=>by omega) ?_
  refine cu (k:=.u32) rfl .no rfl Fx.cv282_5 (.u rfl) ?_
  refine iA rfl .no Fx.ar71 (.u rfl) (.u rfl) (fun _=>by omega) (fun _=>by omega) ?_
  refine s1 rfl (.u rfl) (.u rfl) rfl Fx.sz5 .here (by first|decide|(simp only [wa_len,ba_len,qlA]; omega)) (by first|exact wa_set1 (i) (by omega)|exact ba_set1 (i) (by omega)|exact wap_set1 (i) (by omega) (by omega)|rfl) ?_
  refine .nil (.blk (.code (rq2 rfl rfl (arn (((i+1):Nat):Int) rfl .no (.u rfl) (.u rfl) rfl (fun _=>by omega) (fun _=>wrap_i64 (by omega) (by omega)) ?_))))
  refine mV rfl rfl (.nil (We.lpo (i+1,upd f i (shaD xs i)) ?_ ?_ ?_ ?_ ?_))
  ·exact (esC rfl (by first|rfl|exact evi (by omega)) (esD rfl (esD rfl (esD rfl eZ))))
  ·exact (mS .here rfl (mS .here rfl (mS .here rfl (mS .here rfl (mS .here rfl (mS .here rfl mN))))))
  ·first|omega|(dsimp only; omega)
  ·exact hGl2
  refine ⟨?_,?_⟩
  ·(try dsimp only)<;>(first|omega|rfl|assumption|(simp; done))
  (try dsimp only)<;>(rw [ef]; rfl)
 have c3k:=c3
 try simp only [qcA,qcB] at c3
 refine .exit (.xcode (.xlp (.xblk (.code (.seq (rq2 rfl rfl (lA rfl .no Fx.ag71 (.u rfl) (fun _=>RdN.own .here) (fun _=>(by first|exact qE|exact qL|rfl)) ?_)))))))
 refine sw rfl (.u rfl) (.u rfl) rfl Fx.sz71 tk3 (by first|exact qE|exact qL|rfl) (by first|exact ba_one _ _|exact wa_one _ _|exact one_V _|decide|exact one_app (wa_one _ _) (by simp [Value.oneCell'])) ?_
 refine .nil (.code (.ret (We.fin Tryz.results239 (.cell rfl (fun w hw=>run_loadVarN Fx.ag71 (RdN.own .here) ((by first|exact qE|exact qL|rfl)) hw) .nil) (mS tk4 rfl (mS tk4 rfl mN)) ?_)))
 obtain rfl:i=32:=by omega
 exact ⟨rfl,by rw [ef,ba_congr (fun i hi=>(outs_eq (shaD xs) hi).symm)]; rfl⟩
namespace Fx
theorem ag70:aggN Tryz.prog 70=some (some 32):=by kernel_rfl
theorem ag248:aggN Tryz.prog 248=some (some 12):=by kernel_rfl
theorem go213:goFn Tryz.prog 213=true:=by kernel_rfl
theorem se150:slE Tryz.prog 150=some (131,1,24):=by kernel_rfl
theorem sn150:(slE Tryz.prog 150).isSome=true:=by kernel_rfl
theorem go239:goFn Tryz.prog 239=true:=by kernel_rfl
end Fx
theorem Fix_ok (xs:List Y) (h:Sh) (n:BitVec 64) (many:Nat) (G:PM) (hs:SlR G 1 encY h xs) (hl:xs.length≤140737488351232) (hm:many≤8):Ct Tryz.prog 59 ([h.val xs.length,uv .u64 n,.int .i64 (many:Int)]:List Value).toArray G [] (PR 5 (fun L=>L=xs++fixL n many)):=by
 refine Ct.of Tryz.func59 rfl Tryz.ntmps59 rfl fun w0 hs0=>?_
 refine .seq (rq1 rfl rfl (aS rfl rfl (.nil (.code (.seq (rq4 rfl rfl ?_))))))
 refine b0B rfl Fx.se131 ?_; intro b8
 refine mV rfl rfl (apY0 rfl Fx.se131 Fx.zv5 (.u rfl) (.u rfl) .here hs.sc (by (try simp only [qlA,yl_len]); omega) ?_)
 intro v10 L10 _ ov10 eL10
 have lL10:L10.length=xs.length:=by rw [eL10]
 refine aS rfl rfl (.nil (.code (.seq (.seq (rq4 rfl rfl (mV rfl rfl (mIn (many) (8) rfl .no (.u rfl) (.u rfl) (fun _=>by omega) (fun _=>by omega) ?_)))))))
 refine mAn (0) ((min many 8)) rfl .no (.u rfl) (.u rfl) (fun _=>by omega) (fun _=>by omega) ?_
 refine mV rfl rfl (.nil (.code (.block ?_)))
 refine Wk.lop (α:=Nat×Value×List Y×BitVec 64) (fun gh=>[(1,true,uv .u64 gh.2.2.2),(7,true,gh.2.1),(14,true,.int .i64 (gh.1:Int))]) (fun gh=>[rB gh.2.1 5 gh.2.2.1])
  (fun gh Gl=>(gh.1≤many)∧(gh.2.2.1=xs++fixL n gh.1)∧(gh.2.2.2=n >>> (8*gh.1))) (fun gh=>many-gh.1) (0,_,_,n) [(13,true,_)] []
  (esD rfl (esD rfl (esC rfl (by first|rfl|exact evi (by omega)) (esD rfl eZ))))
  (mS .here rfl mN) ?_ ?_
 ·refine ⟨?_,?_,?_⟩
  ·(try dsimp only)<;>(first|omega|rfl|assumption|(simp; done))
  ·(try dsimp only)<;>(rw [eL10]; simp [fixL])
  (try dsimp only)<;>(simp)
 intro gh N0 Gl0 hN0 hGl0 hF0
 obtain ⟨k,v,L,m⟩:=gh; dsimp only at hF0 hN0 ⊢
 obtain ⟨hk,eL,em⟩:=hF0
 have lL:L.length=xs.length+k:=by rw [eL]; simp [fix_len]
 refine .seq (rq1 rfl rfl (cp rfl .no (.u rfl) (.u rfl) rfl (.nil (.code (.seq (.cond rfl (fun c1=>?_) (fun c1=>?_)))))))
 ·have c1k:=c1
  try simp only [qcA,qcB] at c1
  refine .skip (.code (.seq (.block (.seq (rq6 rfl rfl (mV rfl rfl (mV rfl rfl (cu (k:=.u64) rfl .no rfl Fx.cv41_5 (.u rfl) ?_))))))))
  refine Go.Tan.b1 rfl Fx.se131 Fx.zv5 (.u rfl) rfl rfl (by decide) ?_; intro b19
  refine apY rfl Fx.se131 Fx.zv5 (.u rfl) (.u rfl) tk1 (Sc.one .here) (by show _+1≤_; omega) ?_
  intro v20 L20 ov20 eL20
  have lL20:L20.length=L.length+1:=by rw [eL20,List.length_append]; first|rfl | simp [yl_len]
  refine aS rfl rfl (.nil (.code (rq3 rfl rfl (mV rfl rfl (rw' (k:=.u64) rfl .no (.u rfl) (.u rfl) (fun _=>by decide) ?_)))))
  refine aS rfl rfl (.nil (.blk (.code (rq2 rfl rfl (arn (((k+1):Nat):Int) rfl .no (.u rfl) (.u rfl) rfl (fun _=>by omega) (fun _=>wrap_i64 (by omega) (by omega)) ?_)))))
  refine mV rfl rfl (.nil (We.lpo (k+1,v20,L20,m >>> 8) ?_ ?_ ?_ ?_ ?_))
  ·exact (esD rfl (esD rfl (esC rfl (by first|rfl|exact evi (by omega)) (esD rfl eZ))))
  ·exact (mS .here rfl mN)
  ·first|omega|(dsimp only; omega)
  ·exact hGl0
  refine ⟨?_,?_,?_⟩
  ·(try dsimp only)<;>(first|omega|rfl|assumption|(simp; done))
  ·(try dsimp only)<;>(rw [eL20,eL,em,fix_snoc,List.append_assoc]; rfl)
  (try dsimp only)<;>(rw [em,←BitVec.shiftRight_add]; rfl)
 have c1k:=c1
 try simp only [qcA,qcB] at c1
 refine .exit (.xcode (.xlp (.xblk (.code (.seq (rq2 rfl rfl (mV rfl rfl (aS rfl rfl (.nil (.code (.ret (We.fin Tryz.results59 (.tmp rfl .nil) (mS .here rfl mN) ?_))))))))))))
 obtain rfl:k=many:=by omega
 exact ⟨L,eL,rfl⟩
theorem Cross_ok (key nonce:Nat→Y) (count:W) (h:Sh) (xs:List Y) (G:PM) (hs:SlR G 1 encY h xs) (hl:xs.length≤140737488351232):Ct Tryz.prog 175 ([.agg (ba 32 key).toArray,.agg (ba 12 nonce).toArray,U count,h.val xs.length]:List Value).toArray G [] (PR 5 (fun L=>L=crossL key nonce count xs)):=by
 refine Ct.of Tryz.func175 rfl Tryz.ntmps175 rfl fun w0 hs0=>?_
 refine .seq (rq3 rfl rfl ?_)
 refine bx rfl (.u rfl) rfl ?_; intro b4
 refine bx rfl (.u rfl) rfl ?_; intro b5
 refine aS rfl rfl (.nil (.code (.seq (rq4 rfl rfl ?_))))
 refine b0B rfl Fx.se131 ?_; intro b14
 refine mV rfl rfl (apY0 rfl Fx.se131 Fx.zv5 (.u rfl) (.u rfl) .here hs.sc (by (try simp only [qlA,yl_len]); omega) ?_)
 intro v16 L16 _ ov16 eL16
 have lL16:L16.length=xs.length:=by rw [eL16]
 refine aS rfl rfl (.nil (.code (.seq (.seq ?_))))
 refine wk_rs .here ?_; intro sR16 bbR16 evR16 lcR16 oaR16; subst evR16
 obtain rfl:=eL16.symm
 refine rq2 rfl rfl (mV rfl rfl (aS rfl rfl (.nil (.code (.block ?_)))))
 refine Wk.lop (α:=Nat×Sh×List Y) (fun gh=>[(2,true,U (count+BitVec.ofNat 32 gh.1)),(10,true,gh.2.1.val (xs.length-64*gh.1))]) (fun gh=>[rB (sR16.val xs.length) 5 gh.2.2])
  (fun gh Gl=>(gh.2.2.length=xs.length)∧(gh.2.2=crT key nonce count xs (64*gh.1))∧(64*gh.1<xs.length→gh.2.1.oa=some ⟨bbR16,64*gh.1,none⟩)∧(xs.length-64*gh.1≤gh.2.1.cap)) (fun gh=>xs.length-64*gh.1) (0,sR16,xs) [(4,true,_),(5,true,_),(9,true,_)] [_,_]
  (esC rfl (by simp) (esD rfl (esD rfl (esD rfl (esD rfl eZ)))))
  (mS .here rfl (mS .here rfl (mS .here rfl mN))) ?_ ?_
 ·refine ⟨?_,?_,?_,?_⟩
  ·(try dsimp only)<;>(rfl)
  ·(try dsimp only)<;>(exact (crT_zero _ _ _ _).symm)
  ·(try dsimp only)<;>(exact oaR16)
  (try dsimp only)<;>(exact lcR16)
 intro gh N0 Gl0 hN0 hGl0 hF0
 obtain ⟨j,r,L⟩:=gh; dsimp only at hF0 hN0 ⊢
 obtain ⟨lL,eL,hr,hrc⟩:=hF0
 refine .seq (.seq (rq3 rfl rfl (mV rfl rfl (ln rfl .no Fx.sn131 (.u rfl) (cp rfl .no (.u rfl) (.u rfl) rfl (.nil (.code (.cond rfl (fun c1=>?_) (fun c1=>?_)))))))))
 ·have c1k:=c1
  try simp only [qcA,qcB] at c1
  refine .skip (.code (.seq (.block (.seq ?_))))
  have hlt:64*j<xs.length:=by omega
  have e1:=oaR16 (by omega)
  have e2:=hr hlt
  obtain ⟨so,sc⟩:=sR16
  obtain ⟨ro,rc⟩:=r
  simp only at e1 e2
  subst e1; subst e2
  refine rq6 rfl rfl (lA rfl .no Fx.ag70 (.u rfl) (fun _=>RdN.own tk2) (fun _=>(by first|exact qE|exact qL|rfl)) ?_)
  refine lA rfl .no Fx.ag248 (.u rfl) (fun _=>RdN.own tk1) (fun _=>(by first|exact qE|exact qL|rfl)) ?_
  refine mV rfl rfl (kv rfl .no Fx.go213 (Evc rfl (Evc rfl (Evc rfl Evn))) (fun _=>Block_ok _ _ _ _) ?_)
  refine al rfl Fx.zq353 ?_; intro b11
  refine sw rfl (.u rfl) (.u rfl) rfl Fx.sz353 .here (by first|exact qE|exact qL|rfl) (ba_one _ _) ?_
  refine .nil (.code (.seq (rq4 rfl rfl (mV rfl rfl (ln rfl .no Fx.sn131 (.u rfl) (mIn ((xs.length-64*j)) (64) rfl .no (.u rfl) (.u rfl) (fun _=>by omega) (fun _=>by omega) ?_))))))
  refine aS rfl rfl (.nil (.code (.seq (.seq (rq2 rfl rfl (mV rfl rfl (mV rfl rfl (.nil (.code (.block ?_))))))))))
  refine Wk.lop (α:=Nat×List Y) (fun gh=>[(31,true,.int .i64 (gh.1:Int))]) (fun gh=>[rB (Sh.val ⟨some ⟨bbR16,0,none⟩,sc⟩ xs.length) 5 gh.2])
   (fun gh Gl=>(gh.1≤min (xs.length-64*j) 64)∧(gh.2=crT key nonce count xs (64*j+gh.1))) (fun gh=>64-gh.1) (0,L) [(2,true,_),(4,true,_),(5,true,_),(9,true,_),(10,true,_),(11,true,_),(12,true,_),(30,true,_)] [_,_,_]
   (esC rfl (by first|rfl|exact evi (by omega)) (esD rfl (esD rfl (esD rfl (esD rfl (esD rfl (esD rfl (esD rfl (esD rfl eZ)))))))))
   (mS tk1 rfl (mS .here rfl (mS .here rfl (mS .here rfl mN)))) ?_ ?_
  ·refine ⟨?_,?_⟩
   ·(try dsimp only)<;>(exact Nat.zero_le _)
   (try dsimp only)<;>(rw [eL]; rfl)
  intro gh N1 Gl1 hN1 hGl1 hF1
  obtain ⟨i,L2⟩:=gh; dsimp only at hF1 hN1 ⊢
  obtain ⟨hi,eL2⟩:=hF1
  have lL2:L2.length=xs.length:=by rw [eL2,crT_len]
  refine .seq (rq1 rfl rfl (cp rfl .no (.u rfl) (.u rfl) rfl (.nil (.code (.seq (.cond rfl (fun c2=>?_) (fun c2=>?_)))))))
  ·have c2k:=c2
   try simp only [qcA,qcB] at c2
   refine .skip (.code (.seq (.block (.seq (rq2 rfl rfl (mV rfl rfl (aS rfl rfl (.nil (.code (Wk.draw (mc:=⟨false,false⟩) [0,1,2,3,4,5,6,7,8,9] Fx.mix (by kernel_rfl) ?_))))))))))
   refine mV rfl rfl (mV rfl rfl (ih rfl .no Fx.se131 (.u rfl) (.u rfl) (fun _=>by omega) (fun _=>by omega) (fun _=>rfl) ?_))
   refine ld rfl .no Fx.ag5 (.u rfl) (fun _=>Rd.row .here (map_at1 (o:=64*j) (64*j+i) (by omega) (by omega))) ?_
   refine mV rfl rfl (iA rfl .no Fx.ar353 (.u rfl) (.u rfl) (fun _=>by omega) (fun _=>by omega) ?_)
   refine ld rfl .no Fx.ag5 (.u rfl) (fun _=>Rd.own tk1 (by first|exact wa_at1 (i) (by omega) (by omega)|exact ba_at1 (i) (by omega) (by omega)|exact wap_at1 (i) (by omega) (by omega)|rfl)) ?_
   refine bw (k:=.u8) rfl .no rfl (.u rfl) (.u rfl) rfl (ih rfl .no Fx.se131 (.u rfl) (.u rfl) (fun _=>by omega) (fun _=>by omega) (fun _=>rfl) ?_)
   refine s1r rfl (.u rfl) (.u rfl) Fx.sz5 .here (by show 64*j+_*1<_; omega) ?_; intro L9 eL9 lL9
   refine .nil (.blk (.code (rq2 rfl rfl (arn (((i+1):Nat):Int) rfl .no (.u rfl) (.u rfl) rfl (fun _=>by omega) (fun _=>wrap_i64 (by omega) (by omega)) ?_))))
   refine mV rfl rfl (.nil (We.lpo (i+1,L9) ?_ ?_ ?_ ?_ ?_))
   ·exact (esC rfl (by first|rfl|exact evi (by omega)) (esD rfl (esD rfl (esD rfl (esD rfl (esD rfl (esD rfl (esD rfl (esD rfl eZ)))))))))
   ·exact (mS .here rfl (mS .here rfl (mS .here rfl (mS .here rfl mN))))
   ·first|omega|(dsimp only; omega)
   ·exact hGl1
   refine ⟨?_,?_⟩
   ·(try dsimp only)<;>(omega)
   (try dsimp only)<;>(rw [eL9,eL2,show (Sh.o ⟨some ⟨bbR16,64*j,none⟩,rc⟩+(i:Int).toNat*1)=64*j+i from (by show 64*j+_*1=_; omega)]; exact crT_step (xs:=xs) (j:=j) (i:=i) (by omega) (by omega))
  have c2k:=c2
  try simp only [qcA,qcB] at c2
  refine .exit (.xcode (.xlp (.xblk (.code (rq4 rfl rfl (mV rfl rfl (mV rfl rfl (sd rfl .no Fx.se131 (.u rfl) (.u rfl) (fun _=>by omega) (fun _=>by omega) ?_))))))))
  refine aS rfl rfl (.nil (.blk (.code (rq3 rfl rfl (mV rfl rfl (bw (k:=.u32) (b:=1#32) rfl .no rfl (.u rfl) (.u rfl) rfl (aS rfl rfl (.nil (We.lpo (j+1,Sh.cut ⟨some ⟨bbR16,64*j,none⟩,rc⟩ (min (xs.length-64*j) 64) 1,L2) ?_ ?_ ?_ ?_ ?_)))))))))
  ·exact (esC rfl (by show U (count+BitVec.ofNat 32 j+1#32)=U (count+BitVec.ofNat 32 (j+1)); rw [BitVec.add_assoc,←BitVec.ofNat_add]) (esC rfl (congrArg (Sh.val _) (by omega)) (esD rfl (esD rfl (esD rfl eZ)))))
  ·exact (mS .here (by rfl) (mS tk1 rfl (mS tk1 rfl mN)))
  ·first|omega|(dsimp only; omega)
  ·exact (hGl0).trans hGl1
  refine ⟨?_,?_,?_,?_⟩
  ·(try dsimp only)<;>(rw [eL2,crT_len])
  ·(try dsimp only)<;>(rw [eL2]; exact cr_end (by omega))
  ·(try dsimp only)<;>(intro h3; have hrc2:xs.length-64*j≤rc:=hrc; exact cut_oa (by omega) (by omega))
  (try dsimp only)<;>(show _≤rc-_; have hrc2:xs.length-64*j≤rc:=hrc; omega)
 have c1k:=c1
 try simp only [qcA,qcB] at c1
 refine .exit (.xcode (.xlp (.xblk (.code (.seq (rq2 rfl rfl (mV rfl rfl (aS rfl rfl (.nil (.code (.ret (We.fin Tryz.results175 (.tmp rfl .nil) (mS .here rfl mN) ?_))))))))))))
 exact ⟨L,by rw [eL,crT_all (by omega)],rfl⟩
theorem shaSum_ok (ps:List (Sh×List Y)) (h:Sh) (G:PM) (hs:SlP G h ps) (hK:RdNP G 0 0 (wa 64 kW)) (hl:(catL ps).length≤1152921504606846976) (hn:ps.length≤1000):Ct Tryz.prog 193 ([h.val ps.length]:List Value).toArray G [] (fun _ μ' u=>μ'=[]∧u=.agg (ba 32 (shaD (catL ps))).toArray):=by
 refine Ct.of Tryz.func193 rfl Tryz.ntmps193 rfl fun w0 hs0=>?_
 refine .seq (rq1 rfl rfl ?_)
 refine al rfl Fx.zq71 ?_; intro b2
 refine .nil (.code (.seq (rq3 rfl rfl (kv rfl .no Fx.go237 Evn (fun _=>begin_ok _) ?_))))
 refine al rfl Fx.zr385 ?_; intro b3
 refine sw rfl (.u rfl) (.u rfl) rfl Fx.sz385 .here (by rfl) (one_app (wa_one _ _) (one2 rfl rfl)) ?_
 refine .nil (we_nilB 5 ?_)
 refine .code (.seq (.seq (rq3 rfl rfl (mV rfl rfl (ln rfl .no Fx.sn150 (.u rfl) (mV rfl rfl (.nil (.code (.block ?_)))))))))
 refine Wk.lop (α:=Nat×Value) (fun gh=>[(9,true,.int .i64 (gh.1:Int))]) (fun gh=>[rB gh.2 5 (restL (catL (ps.take gh.1))),.blk b3 (cl (stC (catL (ps.take gh.1)) gh.2) 385)])
  (fun gh Gl=>(gh.1≤ps.length)) (fun gh=>ps.length-gh.1) (0,.slice none 0 0) [(2,true,_),(3,true,_),(7,true,_),(8,true,_)] [_]
  (esC rfl (by first|rfl|exact evi (by omega)) (esD rfl (esD rfl (esD rfl (esD rfl eZ)))))
  (mS .here (by simp [restL,catL]) (mS .here rfl (mS .here rfl mN))) ?_ ?_
 ·(try dsimp only)<;>(first|omega|rfl|assumption|(simp; done))
 intro gh N0 Gl0 hN0 hGl0 hF0
 obtain ⟨k,vq⟩:=gh; dsimp only at hF0 hN0 ⊢
 have hk:=hF0
 have hs:=hs.mono hGl0
 have hK:=hK.mono hGl0
 refine .seq (rq1 rfl rfl (cp rfl .no (.u rfl) (.u rfl) rfl (.nil (.code (.seq (.cond rfl (fun c1=>?_) (fun c1=>?_)))))))
 ·have c1k:=c1
  try simp only [qcA,qcB] at c1
  refine .skip (.code (.seq (.block (.seq (rq3 rfl rfl (ih rfl .no Fx.se150 (.u rfl) (.u rfl) (fun _=>by omega) (fun _=>by omega) (fun _=>hs.sl.nn (k:=k) (by omega)) ?_))))))
  obtain ⟨p12,ep12⟩:=getx (k:=k) (xs:=ps) (by omega)
  have hq12:=hs.get ep12
  refine ld rfl .no Fx.ag131 (.u rfl) (fun _=>(hs.at (k) (by omega) ep12).rd) ?_
  refine aS rfl rfl (.nil (.code (rq2 rfl rfl (mV rfl rfl (ka rfl (.inr rfl) Fx.go238 (Evc rfl (Evc rfl Evn)) (mtk2 tk1 .here) (put_ok (catL (ps.take k)) p12.2 _ _ _ _ hq12 hK (by have:=cat_len ep12; omega)) ?_)))))
  rintro _ G14 μ14 hG14 ⟨vq',rfl,rfl⟩
  have hK:=hK.mono hG14
  refine .nil (.blk (.code (rq2 rfl rfl (arn (((k+1):Nat):Int) rfl .no (.u rfl) (.u rfl) rfl (fun _=>by omega) (fun _=>wrap_i64 (by omega) (by omega)) ?_))))
  refine mV rfl rfl (.nil (We.lpo (k+1,vq') ?_ ?_ ?_ ?_ ?_))
  ·exact (esC rfl (by first|rfl|exact evi (by omega)) (esD rfl (esD rfl (esD rfl (esD rfl eZ)))))
  ·exact (mS tk1 (by rw [cat_take ep12]) (mS .here (by rw [cat_take ep12]) (mS .here rfl mN)))
  ·first|omega|(dsimp only; omega)
  ·exact (hGl0).trans hG14
  (try dsimp only)<;>(first|omega|rfl|assumption|(simp; done))
 have c1k:=c1
 try simp only [qcA,qcB] at c1
 refine .exit (.xcode (.xlp (.xblk (.code (.seq ?_)))))
 obtain rfl:k=ps.length:=by omega
 rw [List.take_length]
 refine rq2 rfl rfl (ka rfl (.inr rfl) Fx.go239 (Evc rfl Evn) (mtk2 tk1 .here) (StSum_ok (catL ps) _ _ _ hK hl) ?_)
 rintro _ G16 μ16 hG16 ⟨rfl,rfl⟩
 refine sw rfl (.u rfl) (.u rfl) rfl Fx.sz71 tk2 (by first|exact qE|exact qL|rfl) (by first|exact ba_one _ _|exact wa_one _ _|exact one_V _|decide|exact one_app (wa_one _ _) (by simp [Value.oneCell'])) ?_
 refine .nil (.code (.ret (We.fin0 Tryz.results193 (.cell rfl (fun w hw=>run_loadVarN Fx.ag71 (RdN.own .here) ((by first|exact qE|exact qL|rfl)) hw) .nil) ?_)))
 exact ⟨rfl,rfl⟩
namespace Fx
theorem zv131:(Tryz.prog.info? 131).bind (·.zero)=some (.slice none 0 0):=by kernel_rfl
theorem go193:goFn Tryz.prog 193=true:=by kernel_rfl
end Fx
theorem SlP.one {G:PM} {b T:Nat} {h1:Sh} {L1:List Y} (hle:PM.le G (G.add b (cl [h1.val L1.length] T))) (hs:SlR G 1 encY h1 L1):SlP (G.add b (cl [h1.val L1.length] T)) ⟨some ⟨b,0,none⟩,1⟩ [(h1,L1)] :=
 ⟨SlR.ofBlk (T:=T) (PM.add_same _ _ _) (fun _ _=>rfl) (by simp),fun p hp=>by rw [List.mem_singleton.1 hp]; exact hs.mono hle⟩
theorem SlP.two {G:PM} {b T:Nat} {h1 h2:Sh} {L1 L2:List Y} (hle:PM.le G (G.add b (cl [h1.val L1.length,h2.val L2.length] T))) (hs:SlR G 1 encY h1 L1) (hs2:SlR G 1 encY h2 L2):SlP (G.add b (cl [h1.val L1.length,h2.val L2.length] T)) ⟨some ⟨b,0,none⟩,2⟩ [(h1,L1),(h2,L2)] :=
 ⟨SlR.ofBlk (T:=T) (PM.add_same _ _ _) (fun _ _=>rfl) (by simp),fun p hp=>by
  rcases List.mem_cons.1 hp with rfl | hp
  ·exact hs.mono hle
  ·rw [List.mem_singleton.1 hp]; exact hs2.mono hle⟩
theorem SlP.four {G:PM} {b T:Nat} {h1 h2 h3 h4:Sh} {L1 L2 L3 L4:List Y} (hle:PM.le G (G.add b (cl [h1.val L1.length,h2.val L2.length,h3.val L3.length,h4.val L4.length] T))) (hs:SlR G 1 encY h1 L1) (hs2:SlR G 1 encY h2 L2) (hs3:SlR G 1 encY h3 L3) (hs4:SlR G 1 encY h4 L4) :
  SlP (G.add b (cl [h1.val L1.length,h2.val L2.length,h3.val L3.length,h4.val L4.length] T)) ⟨some ⟨b,0,none⟩,4⟩ [(h1,L1),(h2,L2),(h3,L3),(h4,L4)] :=
 ⟨SlR.ofBlk (T:=T) (PM.add_same _ _ _) (fun _ _=>rfl) (by simp),fun p hp=>by
  simp only [List.mem_cons,List.not_mem_nil,or_false] at hp
  rcases hp with rfl|rfl|rfl|rfl
  ·exact hs.mono hle
  ·exact hs2.mono hle
  ·exact hs3.mono hle
  ·exact hs4.mono hle⟩
theorem sum1_ok {G:PM} {b T:Nat} {h1:Sh} {L1:List Y} (hle:PM.le G (G.add b (cl [h1.val L1.length] T))) (hs:SlR G 1 encY h1 L1) (hK:RdNP G 0 0 (wa 64 kW)) (hl:L1.length≤1152921504606846976):Ct Tryz.prog 193 ([.slice (some ⟨b,0,none⟩) 1 1]:List Value).toArray (G.add b (cl [h1.val L1.length] T)) [] (fun _ μ' u=>μ'=[]∧u=.agg (ba 32 (shaD L1)).toArray):=by
 have h:=shaSum_ok [(h1,L1)] ⟨some ⟨b,0,none⟩,1⟩ _ (SlP.one hle hs) (hK.mono hle) (by simpa [catL] using hl) (by simp)
 rw [show catL [(h1,L1)]=L1 by simp [catL]] at h
 exact h
theorem sum2_ok {G:PM} {b T:Nat} {h1 h2:Sh} {L1 L2:List Y} (hle:PM.le G (G.add b (cl [h1.val L1.length,h2.val L2.length] T))) (hs:SlR G 1 encY h1 L1) (hs2:SlR G 1 encY h2 L2) (hK:RdNP G 0 0 (wa 64 kW)) (hl:L1.length+L2.length≤1152921504606846976):Ct Tryz.prog 193 ([.slice (some ⟨b,0,none⟩) 2 2]:List Value).toArray (G.add b (cl [h1.val L1.length,h2.val L2.length] T)) [] (fun _ μ' u=>μ'=[]∧u=.agg (ba 32 (shaD (L1++L2))).toArray):=by
 have h:=shaSum_ok [(h1,L1),(h2,L2)] ⟨some ⟨b,0,none⟩,2⟩ _ (SlP.two hle hs hs2) (hK.mono hle) (by simpa [catL] using hl) (by simp)
 rw [show catL [(h1,L1),(h2,L2)]=L1++L2 by simp [catL]] at h
 exact h
theorem outs_step2 {f g:Nat→Y} {k:Nat} {a b:Y} (ef:f=outs g k) (h:b=g k):upd (upd f k a) k b=outs g (k+1):=by
 rw [upd_upd,ef,h]; rfl
theorem outs_step1 {f g:Nat→Y} {k:Nat} {a:Y} (ef:f=outs g k) (h:a=g k):upd f k a=outs g (k+1):=by
 rw [ef,h]; rfl
theorem pads_ok (key:List Y) (h:Sh) (G:PM) (hs:SlR G 1 encY h key) (hK:RdNP G 0 0 (wa 64 kW)) (hl:key.length≤140737488351232):Ct Tryz.prog 252 ([h.val key.length]:List Value).toArray G [] (fun _ μ' u=>μ'=[]∧u=.tuple #[.agg (ba 64 (padF key 54#8)).toArray,.agg (ba 64 (padF key 92#8)).toArray]):=by
 refine Ct.of Tryz.func252 rfl Tryz.ntmps252 rfl fun w0 hs0=>?_
 refine .seq (rq2 rfl rfl ?_)
 refine al rfl Fx.zq353 ?_; intro b2
 refine al rfl Fx.zq353 ?_; intro b3
 refine .nil (.code (.seq (.seq (rq3 rfl rfl (mV rfl rfl (ln rfl .no Fx.sn131 (.u rfl) (cp rfl .no (.u rfl) (.u rfl) rfl (.nil (.code (.cond rfl (fun c1=>?_) (fun c1=>?_)))))))))))
 ·have c1k:=c1
  try simp only [qcA,qcB] at c1
  have ek1:keyL key=shaL key:=by unfold keyL; rw [if_pos (by omega)]
  refine .seq (rq5 rfl rfl (mV rfl rfl ?_))
  refine Go.Tan.b1 rfl Fx.se150 Fx.zv131 (.u rfl) rfl rfl (by decide) ?_; intro b10
  refine kp rfl .no Fx.go193 (Evc rfl Evn) (Gp.add .here Gp.nil) (fun _ hle hq=>sum1_ok hle hs hK (by omega)) ?_
  refine al rfl Fx.zq71 ?_; intro b4
  refine sw rfl (.u rfl) (.u rfl) rfl Fx.sz71 .here (by first|exact qE|exact qL|rfl) (by first|exact ba_one _ _|exact wa_one _ _|exact one_V _|decide|exact one_app (wa_one _ _) (by simp [Value.oneCell'])) ?_
  refine .nil (.code ?_)
  refine wk_fz .here (by intro b hb; cases hb) ?_; intro Gfb4 hleb4 hbb4
  have hs:=hs.mono hleb4
  refine rq2 rfl rfl ?_
  refine kA rfl .no Fx.ar71 (.u rfl) hbb4 (by first|exact ba_all|exact app_l|exact app_r) ?_; intro h12 L12 eL12 lL12 hs12
  refine aS rfl rfl (.nil ?_)
  have ek1:keyL key=L12:=by rw [ek1,eL12]; rfl
  refine .code (.seq (.seq ?_))
  skip
  refine rq1 rfl rfl (mV rfl rfl (.nil (.code (.block ?_))))
  refine Wk.lop (α:=Nat×(Nat→Y)×(Nat→Y)) (fun gh=>[(13,true,.int .i64 (gh.1:Int))]) (fun gh=>[.blk b3 (cl (ba 64 gh.2.2) 353),.blk b2 (cl (ba 64 gh.2.1) 353)])
   (fun gh Gl=>(gh.1≤64)∧(gh.2.1=outs (padF key 54#8) gh.1)∧(gh.2.2=outs (padF key 92#8) gh.1)) (fun gh=>64-gh.1) (0,fun _=>0#8,fun _=>0#8) [(0,true,_),(2,true,_),(3,true,_)] [_]
   (esC rfl (by first|rfl|exact evi (by omega)) (esD rfl (esD rfl (esD rfl eZ))))
   (mS tk1 rfl (mS tk1 rfl (mS .here rfl mN))) ?_ ?_
  ·refine ⟨?_,?_,?_⟩
   ·(try dsimp only)<;>(first|omega|rfl|assumption|(simp; done))
   ·(try dsimp only)<;>(first|omega|rfl|assumption|(simp; done))
   (try dsimp only)<;>(first|omega|rfl|assumption|(simp; done))
  intro gh N0 Gl0 hN0 hGl0 hF0
  obtain ⟨k,f,f2⟩:=gh; dsimp only at hF0 hN0 ⊢
  obtain ⟨hk,ef,ef2⟩:=hF0
  have hs:=hs.mono hGl0
  have hs12:=hs12.mono hGl0
  refine .seq (rq1 rfl rfl (cp rfl .no (.u rfl) (.u rfl) rfl (.nil (.code (.seq (.cond rfl (fun c2=>?_) (fun c2=>?_)))))))
  ·have c2k:=c2
   try simp only [qcA,qcB] at c2
   refine .skip (.code (.seq (.block (.seq (rq2 rfl rfl (mV rfl rfl (aS rfl rfl (.nil (.code (.seq (rq6 rfl rfl (mV rfl rfl (mV rfl rfl (iA rfl .no Fx.ar353 (.u rfl) (.u rfl) (fun _=>by omega) (fun _=>by omega) ?_))))))))))))))
   refine s1 rfl (.u rfl) (.u rfl) rfl Fx.sz5 tk1 (by first|decide|(simp only [wa_len,ba_len,qlA]; omega)) (by first|exact ba_set1 (z:=54#8) (k) (by omega)|exact wa_set1 (z:=54#32) (k) (by omega)|rfl) ?_
   refine iA rfl .no Fx.ar353 (.u rfl) (.u rfl) (fun _=>by omega) (fun _=>by omega) ?_
   refine s1 rfl (.u rfl) (.u rfl) rfl Fx.sz5 tk1 (by first|decide|(simp only [wa_len,ba_len,qlA]; omega)) (by first|exact ba_set1 (z:=92#8) (k) (by omega)|exact wa_set1 (z:=92#32) (k) (by omega)|rfl) ?_
   refine .nil (.code (.seq (rq4 rfl rfl (mV rfl rfl (mV rfl rfl (ln rfl .no Fx.sn131 (.u rfl) (cp rfl .no (.u rfl) (.u rfl) rfl (.nil (.code (.cond rfl (fun c3=>?_) (fun c3=>?_)))))))))))
   ·have c3k:=c3
    try simp only [qcA,qcB] at c3
    refine .seq (Wk.draw (mc:=⟨false,false⟩) [0,1,2,3,4,5,6,7,8,9] Fx.mix (by kernel_rfl) ?_)
    refine mV rfl rfl (iA rfl .no Fx.ar353 (.u rfl) (.u rfl) (fun _=>by omega) (fun _=>by omega) ?_)
    refine ld rfl .no Fx.ag5 (.u rfl) (fun _=>Rd.own tk1 (by first|exact wa_at1 (k) (by omega) (by omega)|exact ba_at1 (k) (by omega) (by omega)|exact wap_at1 (k) (by omega) (by omega)|rfl)) ?_
    refine mV rfl rfl (mV rfl rfl (ih rfl .no Fx.se131 (.u rfl) (.u rfl) (fun _=>by omega) (fun _=>by omega) (fun _=>hs12.nn (k:=k) (by omega)) ?_))
    refine ld rfl .no Fx.ag5 (.u rfl) (fun _=>(hs12.yat (k) (by omega) (by omega)).rd) ?_
    refine bw (k:=.u8) rfl .no rfl (.u rfl) (.u rfl) rfl (iA rfl .no Fx.ar353 (.u rfl) (.u rfl) (fun _=>by omega) (fun _=>by omega) ?_)
    refine s1 rfl (.u rfl) (.u rfl) rfl Fx.sz5 tk1 (by first|decide|(simp only [wa_len,ba_len,qlA]; omega)) (by first|exact wa_set1 (k) (by omega)|exact ba_set1 (k) (by omega)|exact wap_set1 (k) (by omega) (by omega)|rfl) ?_
    refine .nil (.code (Wk.draw (mc:=⟨false,false⟩) [0,1,2,3,4,5,6,7,8,9] Fx.mix (by kernel_rfl) ?_))
    refine mV rfl rfl (iA rfl .no Fx.ar353 (.u rfl) (.u rfl) (fun _=>by omega) (fun _=>by omega) ?_)
    refine ld rfl .no Fx.ag5 (.u rfl) (fun _=>Rd.own tk1 (by first|exact wa_at1 (k) (by omega) (by omega)|exact ba_at1 (k) (by omega) (by omega)|exact wap_at1 (k) (by omega) (by omega)|rfl)) ?_
    refine mV rfl rfl (mV rfl rfl (ih rfl .no Fx.se131 (.u rfl) (.u rfl) (fun _=>by omega) (fun _=>by omega) (fun _=>hs12.nn (k:=k) (by omega)) ?_))
    refine ld rfl .no Fx.ag5 (.u rfl) (fun _=>(hs12.yat (k) (by omega) (by omega)).rd) ?_
    refine bw (k:=.u8) rfl .no rfl (.u rfl) (.u rfl) rfl (iA rfl .no Fx.ar353 (.u rfl) (.u rfl) (fun _=>by omega) (fun _=>by omega) ?_)
    refine s1 rfl (.u rfl) (.u rfl) rfl Fx.sz5 tk1 (by first|decide|(simp only [wa_len,ba_len,qlA]; omega)) (by first|exact wa_set1 (k) (by omega)|exact ba_set1 (k) (by omega)|exact wap_set1 (k) (by omega) (by omega)|rfl) ?_
    refine .nil (.blk (.code (rq2 rfl rfl (arn (((k+1):Nat):Int) rfl .no (.u rfl) (.u rfl) rfl (fun _=>by omega) (fun _=>wrap_i64 (by omega) (by omega)) ?_))))
    refine mV rfl rfl (.nil (We.lpo (k+1,upd (upd f k 54#8) k (upd f k 54#8 k ^^^ L12.getD k 0),upd (upd f2 k 92#8) k (upd f2 k 92#8 k ^^^ L12.getD k 0)) ?_ ?_ ?_ ?_ ?_))
    ·exact (esC rfl (by first|rfl|exact evi (by omega)) (esD rfl (esD rfl (esD rfl eZ))))
    ·exact (mS .here rfl (mS .here rfl (mS .here rfl mN)))
    ·first|omega|(dsimp only; omega)
    ·exact hGl0
    refine ⟨?_,?_,?_⟩
    ·(try dsimp only)<;>(first|omega|rfl|assumption|(simp; done))
    ·(try dsimp only)<;>(exact outs_step2 ef (by rw [upd_at,padF,ek1,if_pos (by omega)]))
    (try dsimp only)<;>(exact outs_step2 ef2 (by rw [upd_at,padF,ek1,if_pos (by omega)]))
   have c3k:=c3
   try simp only [qcA,qcB] at c3
   refine .skip (.blk (.code (rq2 rfl rfl (arn (((k+1):Nat):Int) rfl .no (.u rfl) (.u rfl) rfl (fun _=>by omega) (fun _=>wrap_i64 (by omega) (by omega)) ?_))))
   refine mV rfl rfl (.nil (We.lpo (k+1,upd f k 54#8,upd f2 k 92#8) ?_ ?_ ?_ ?_ ?_))
   ·exact (esC rfl (by first|rfl|exact evi (by omega)) (esD rfl (esD rfl (esD rfl eZ))))
   ·exact (mS .here rfl (mS .here rfl (mS .here rfl mN)))
   ·first|omega|(dsimp only; omega)
   ·exact hGl0
   refine ⟨?_,?_,?_⟩
   ·(try dsimp only)<;>(first|omega|rfl|assumption|(simp; done))
   ·(try dsimp only)<;>(exact outs_step1 ef (by rw [padF,ek1,if_neg (by omega)]))
   (try dsimp only)<;>(exact outs_step1 ef2 (by rw [padF,ek1,if_neg (by omega)]))
  have c2k:=c2
  try simp only [qcA,qcB] at c2
  refine .exit (.xcode (.xlp (.xblk (.code (.seq (Wk.drawT Fx.mix rfl ?_))))))
  refine WoT.n2 0 1 (by kernel_rfl) ?_ ?_
  ·refine lA rfl .no Fx.ag353 (.u rfl) (fun _=>RdN.own tk1) (fun _=>(by first|exact qE|exact qL|rfl)) ?_
   refine .nil (WoT.n2 1 2 (by kernel_rfl) ?_ ?_)
   ·refine lA rfl .no Fx.ag353 (.u rfl) (fun _=>RdN.own .here) (fun _=>(by first|exact qE|exact qL|rfl)) ?_
    refine .nil (WoT.n1 2 (by kernel_rfl) ?_)
    refine sw rfl (.u rfl) (.u rfl) rfl Fx.sz353 tk1 (by first|exact qE|exact qL|rfl) (by first|exact ba_one _ _|exact wa_one _ _|exact one_V _|decide|exact one_app (wa_one _ _) (by simp [Value.oneCell'])) ?_
    refine .nil (WoT.n1 3 (by kernel_rfl) ?_)
    refine sw rfl (.u rfl) (.u rfl) rfl Fx.sz353 tk1 (by first|exact qE|exact qL|rfl) (by first|exact ba_one _ _|exact wa_one _ _|exact one_V _|decide|exact one_app (wa_one _ _) (by simp [Value.oneCell'])) ?_
    refine .nil (WoT.last (by kernel_rfl) ?_)
    refine .code (.ret (We.fin0 Tryz.results252 (.cell rfl (fun w hw=>run_loadVarN Fx.ag353 (RdN.own tk1) ((by first|exact qE|exact qL|rfl)) hw) (.cell rfl (fun w hw=>run_loadVarN Fx.ag353 (RdN.own .here) ((by first|exact qE|exact qL|rfl)) hw) .nil)) ?_))
    obtain rfl:k=64:=by omega
    exact ⟨rfl,by rw [ef,ef2,ba_congr (fun i hi=>outs_eq (padF key 54#8) hi),ba_congr (fun i hi=>outs_eq (padF key 92#8) hi)]; rfl⟩
   refine sw rfl (.u rfl) (.u rfl) rfl Fx.sz353 tk1 (by first|exact qE|exact qL|rfl) (by first|exact ba_one _ _|exact wa_one _ _|exact one_V _|decide|exact one_app (wa_one _ _) (by simp [Value.oneCell'])) ?_
   refine .nil (WoT.n1 1 (by kernel_rfl) ?_)
   refine lA rfl .no Fx.ag353 (.u rfl) (fun _=>RdN.own tk1) (fun _=>(by first|exact qE|exact qL|rfl)) ?_
   refine .nil (WoT.n1 3 (by kernel_rfl) ?_)
   refine sw rfl (.u rfl) (.u rfl) rfl Fx.sz353 tk1 (by first|exact qE|exact qL|rfl) (by first|exact ba_one _ _|exact wa_one _ _|exact one_V _|decide|exact one_app (wa_one _ _) (by simp [Value.oneCell'])) ?_
   refine .nil (WoT.last (by kernel_rfl) ?_)
   refine .code (.ret (We.fin0 Tryz.results252 (.cell rfl (fun w hw=>run_loadVarN Fx.ag353 (RdN.own tk1) ((by first|exact qE|exact qL|rfl)) hw) (.cell rfl (fun w hw=>run_loadVarN Fx.ag353 (RdN.own .here) ((by first|exact qE|exact qL|rfl)) hw) .nil)) ?_))
   obtain rfl:k=64:=by omega
   exact ⟨rfl,by rw [ef,ef2,ba_congr (fun i hi=>outs_eq (padF key 54#8) hi),ba_congr (fun i hi=>outs_eq (padF key 92#8) hi)]; rfl⟩
  refine lA rfl .no Fx.ag353 (.u rfl) (fun _=>RdN.own .here) (fun _=>(by first|exact qE|exact qL|rfl)) ?_
  refine .nil (WoT.n1 0 (by kernel_rfl) ?_)
  refine lA rfl .no Fx.ag353 (.u rfl) (fun _=>RdN.own tk1) (fun _=>(by first|exact qE|exact qL|rfl)) ?_
  refine .nil (WoT.n1 2 (by kernel_rfl) ?_)
  refine sw rfl (.u rfl) (.u rfl) rfl Fx.sz353 tk1 (by first|exact qE|exact qL|rfl) (by first|exact ba_one _ _|exact wa_one _ _|exact one_V _|decide|exact one_app (wa_one _ _) (by simp [Value.oneCell'])) ?_
  refine .nil (WoT.n1 3 (by kernel_rfl) ?_)
  refine sw rfl (.u rfl) (.u rfl) rfl Fx.sz353 tk1 (by first|exact qE|exact qL|rfl) (by first|exact ba_one _ _|exact wa_one _ _|exact one_V _|decide|exact one_app (wa_one _ _) (by simp [Value.oneCell'])) ?_
  refine .nil (WoT.last (by kernel_rfl) ?_)
  refine .code (.ret (We.fin0 Tryz.results252 (.cell rfl (fun w hw=>run_loadVarN Fx.ag353 (RdN.own tk1) ((by first|exact qE|exact qL|rfl)) hw) (.cell rfl (fun w hw=>run_loadVarN Fx.ag353 (RdN.own .here) ((by first|exact qE|exact qL|rfl)) hw) .nil)) ?_))
  obtain rfl:k=64:=by omega
  exact ⟨rfl,by rw [ef,ef2,ba_congr (fun i hi=>outs_eq (padF key 54#8) hi),ba_congr (fun i hi=>outs_eq (padF key 92#8) hi)]; rfl⟩
 have c1k:=c1
 try simp only [qcA,qcB] at c1
 have ek2:keyL key=key:=by unfold keyL; rw [if_neg (by omega)]
 refine .skip (.code (.seq (.seq ?_)))
 skip
 refine rq1 rfl rfl (mV rfl rfl (.nil (.code (.block ?_))))
 refine Wk.lop (α:=Nat×(Nat→Y)×(Nat→Y)) (fun gh=>[(13,true,.int .i64 (gh.1:Int))]) (fun gh=>[.blk b3 (cl (ba 64 gh.2.2) 353),.blk b2 (cl (ba 64 gh.2.1) 353)])
  (fun gh Gl=>(gh.1≤64)∧(gh.2.1=outs (padF key 54#8) gh.1)∧(gh.2.2=outs (padF key 92#8) gh.1)) (fun gh=>64-gh.1) (0,fun _=>0#8,fun _=>0#8) [(0,true,_),(2,true,_),(3,true,_)] []
  (esC rfl (by first|rfl|exact evi (by omega)) (esD rfl (esD rfl (esD rfl eZ))))
  (mS .here rfl (mS .here rfl mN)) ?_ ?_
 ·refine ⟨?_,?_,?_⟩
  ·(try dsimp only)<;>(first|omega|rfl|assumption|(simp; done))
  ·(try dsimp only)<;>(first|omega|rfl|assumption|(simp; done))
  (try dsimp only)<;>(first|omega|rfl|assumption|(simp; done))
 intro gh N1 Gl1 hN1 hGl1 hF1
 obtain ⟨k,f,f2⟩:=gh; dsimp only at hF1 hN1 ⊢
 obtain ⟨hk,ef,ef2⟩:=hF1
 have hs:=hs.mono hGl1
 refine .seq (rq1 rfl rfl (cp rfl .no (.u rfl) (.u rfl) rfl (.nil (.code (.seq (.cond rfl (fun c4=>?_) (fun c4=>?_)))))))
 ·have c4k:=c4
  try simp only [qcA,qcB] at c4
  refine .skip (.code (.seq (.block (.seq (rq2 rfl rfl (mV rfl rfl (aS rfl rfl (.nil (.code (.seq (rq6 rfl rfl (mV rfl rfl (mV rfl rfl (iA rfl .no Fx.ar353 (.u rfl) (.u rfl) (fun _=>by omega) (fun _=>by omega) ?_))))))))))))))
  refine s1 rfl (.u rfl) (.u rfl) rfl Fx.sz5 tk1 (by first|decide|(simp only [wa_len,ba_len,qlA]; omega)) (by first|exact ba_set1 (z:=54#8) (k) (by omega)|exact wa_set1 (z:=54#32) (k) (by omega)|rfl) ?_
  refine iA rfl .no Fx.ar353 (.u rfl) (.u rfl) (fun _=>by omega) (fun _=>by omega) ?_
  refine s1 rfl (.u rfl) (.u rfl) rfl Fx.sz5 tk1 (by first|decide|(simp only [wa_len,ba_len,qlA]; omega)) (by first|exact ba_set1 (z:=92#8) (k) (by omega)|exact wa_set1 (z:=92#32) (k) (by omega)|rfl) ?_
  refine .nil (.code (.seq (rq4 rfl rfl (mV rfl rfl (mV rfl rfl (ln rfl .no Fx.sn131 (.u rfl) (cp rfl .no (.u rfl) (.u rfl) rfl (.nil (.code (.cond rfl (fun c5=>?_) (fun c5=>?_)))))))))))
  ·have c5k:=c5
   try simp only [qcA,qcB] at c5
   refine .seq (Wk.draw (mc:=⟨false,false⟩) [0,1,2,3,4,5,6,7,8,9] Fx.mix (by kernel_rfl) ?_)
   refine mV rfl rfl (iA rfl .no Fx.ar353 (.u rfl) (.u rfl) (fun _=>by omega) (fun _=>by omega) ?_)
   refine ld rfl .no Fx.ag5 (.u rfl) (fun _=>Rd.own tk1 (by first|exact wa_at1 (k) (by omega) (by omega)|exact ba_at1 (k) (by omega) (by omega)|exact wap_at1 (k) (by omega) (by omega)|rfl)) ?_
   refine mV rfl rfl (mV rfl rfl (ih rfl .no Fx.se131 (.u rfl) (.u rfl) (fun _=>by omega) (fun _=>by omega) (fun _=>hs.nn (k:=k) (by omega)) ?_))
   refine ld rfl .no Fx.ag5 (.u rfl) (fun _=>(hs.yat (k) (by omega) (by omega)).rd) ?_
   refine bw (k:=.u8) rfl .no rfl (.u rfl) (.u rfl) rfl (iA rfl .no Fx.ar353 (.u rfl) (.u rfl) (fun _=>by omega) (fun _=>by omega) ?_)
   refine s1 rfl (.u rfl) (.u rfl) rfl Fx.sz5 tk1 (by first|decide|(simp only [wa_len,ba_len,qlA]; omega)) (by first|exact wa_set1 (k) (by omega)|exact ba_set1 (k) (by omega)|exact wap_set1 (k) (by omega) (by omega)|rfl) ?_
   refine .nil (.code (Wk.draw (mc:=⟨false,false⟩) [0,1,2,3,4,5,6,7,8,9] Fx.mix (by kernel_rfl) ?_))
   refine mV rfl rfl (iA rfl .no Fx.ar353 (.u rfl) (.u rfl) (fun _=>by omega) (fun _=>by omega) ?_)
   refine ld rfl .no Fx.ag5 (.u rfl) (fun _=>Rd.own tk1 (by first|exact wa_at1 (k) (by omega) (by omega)|exact ba_at1 (k) (by omega) (by omega)|exact wap_at1 (k) (by omega) (by omega)|rfl)) ?_
   refine mV rfl rfl (mV rfl rfl (ih rfl .no Fx.se131 (.u rfl) (.u rfl) (fun _=>by omega) (fun _=>by omega) (fun _=>hs.nn (k:=k) (by omega)) ?_))
   refine ld rfl .no Fx.ag5 (.u rfl) (fun _=>(hs.yat (k) (by omega) (by omega)).rd) ?_
   refine bw (k:=.u8) rfl .no rfl (.u rfl) (.u rfl) rfl (iA rfl .no Fx.ar353 (.u rfl) (.u rfl) (fun _=>by omega) (fun _=>by omega) ?_)
   refine s1 rfl (.u rfl) (.u rfl) rfl Fx.sz5 tk1 (by first|decide|(simp only [wa_len,ba_len,qlA]; omega)) (by first|exact wa_set1 (k) (by omega)|exact ba_set1 (k) (by omega)|exact wap_set1 (k) (by omega) (by omega)|rfl) ?_
   refine .nil (.blk (.code (rq2 rfl rfl (arn (((k+1):Nat):Int) rfl .no (.u rfl) (.u rfl) rfl (fun _=>by omega) (fun _=>wrap_i64 (by omega) (by omega)) ?_))))
   refine mV rfl rfl (.nil (We.lpo (k+1,upd (upd f k 54#8) k (upd f k 54#8 k ^^^ key.getD k 0),upd (upd f2 k 92#8) k (upd f2 k 92#8 k ^^^ key.getD k 0)) ?_ ?_ ?_ ?_ ?_))
   ·exact (esC rfl (by first|rfl|exact evi (by omega)) (esD rfl (esD rfl (esD rfl eZ))))
   ·exact (mS .here rfl (mS .here rfl mN))
   ·first|omega|(dsimp only; omega)
   ·exact hGl1
   refine ⟨?_,?_,?_⟩
   ·(try dsimp only)<;>(first|omega|rfl|assumption|(simp; done))
   ·(try dsimp only)<;>(exact outs_step2 ef (by rw [upd_at,padF,ek2,if_pos (by omega)]))
   (try dsimp only)<;>(exact outs_step2 ef2 (by rw [upd_at,padF,ek2,if_pos (by omega)]))
  have c5k:=c5
  try simp only [qcA,qcB] at c5
  refine .skip (.blk (.code (rq2 rfl rfl (arn (((k+1):Nat):Int) rfl .no (.u rfl) (.u rfl) rfl (fun _=>by omega) (fun _=>wrap_i64 (by omega) (by omega)) ?_))))
  refine mV rfl rfl (.nil (We.lpo (k+1,upd f k 54#8,upd f2 k 92#8) ?_ ?_ ?_ ?_ ?_))
  ·exact (esC rfl (by first|rfl|exact evi (by omega)) (esD rfl (esD rfl (esD rfl eZ))))
  ·exact (mS .here rfl (mS .here rfl mN))
  ·first|omega|(dsimp only; omega)
  ·exact hGl1
  refine ⟨?_,?_,?_⟩
  ·(try dsimp only)<;>(first|omega|rfl|assumption|(simp; done))
  ·(try dsimp only)<;>(exact outs_step1 ef (by rw [padF,ek2,if_neg (by omega)]))
  (try dsimp only)<;>(exact outs_step1 ef2 (by rw [padF,ek2,if_neg (by omega)]))
 have c4k:=c4
 try simp only [qcA,qcB] at c4
 refine .exit (.xcode (.xlp (.xblk (.code (.seq (Wk.drawT Fx.mix rfl ?_))))))
 refine WoT.n2 0 1 (by kernel_rfl) ?_ ?_
 ·refine lA rfl .no Fx.ag353 (.u rfl) (fun _=>RdN.own tk1) (fun _=>(by first|exact qE|exact qL|rfl)) ?_
  refine .nil (WoT.n2 1 2 (by kernel_rfl) ?_ ?_)
  ·refine lA rfl .no Fx.ag353 (.u rfl) (fun _=>RdN.own .here) (fun _=>(by first|exact qE|exact qL|rfl)) ?_
   refine .nil (WoT.n1 2 (by kernel_rfl) ?_)
   refine sw rfl (.u rfl) (.u rfl) rfl Fx.sz353 tk1 (by first|exact qE|exact qL|rfl) (by first|exact ba_one _ _|exact wa_one _ _|exact one_V _|decide|exact one_app (wa_one _ _) (by simp [Value.oneCell'])) ?_
   refine .nil (WoT.n1 3 (by kernel_rfl) ?_)
   refine sw rfl (.u rfl) (.u rfl) rfl Fx.sz353 tk1 (by first|exact qE|exact qL|rfl) (by first|exact ba_one _ _|exact wa_one _ _|exact one_V _|decide|exact one_app (wa_one _ _) (by simp [Value.oneCell'])) ?_
   refine .nil (WoT.last (by kernel_rfl) ?_)
   refine .code (.ret (We.fin0 Tryz.results252 (.cell rfl (fun w hw=>run_loadVarN Fx.ag353 (RdN.own tk1) ((by first|exact qE|exact qL|rfl)) hw) (.cell rfl (fun w hw=>run_loadVarN Fx.ag353 (RdN.own .here) ((by first|exact qE|exact qL|rfl)) hw) .nil)) ?_))
   obtain rfl:k=64:=by omega
   exact ⟨rfl,by rw [ef,ef2,ba_congr (fun i hi=>outs_eq (padF key 54#8) hi),ba_congr (fun i hi=>outs_eq (padF key 92#8) hi)]; rfl⟩
  refine sw rfl (.u rfl) (.u rfl) rfl Fx.sz353 tk1 (by first|exact qE|exact qL|rfl) (by first|exact ba_one _ _|exact wa_one _ _|exact one_V _|decide|exact one_app (wa_one _ _) (by simp [Value.oneCell'])) ?_
  refine .nil (WoT.n1 1 (by kernel_rfl) ?_)
  refine lA rfl .no Fx.ag353 (.u rfl) (fun _=>RdN.own tk1) (fun _=>(by first|exact qE|exact qL|rfl)) ?_
  refine .nil (WoT.n1 3 (by kernel_rfl) ?_)
  refine sw rfl (.u rfl) (.u rfl) rfl Fx.sz353 tk1 (by first|exact qE|exact qL|rfl) (by first|exact ba_one _ _|exact wa_one _ _|exact one_V _|decide|exact one_app (wa_one _ _) (by simp [Value.oneCell'])) ?_
  refine .nil (WoT.last (by kernel_rfl) ?_)
  refine .code (.ret (We.fin0 Tryz.results252 (.cell rfl (fun w hw=>run_loadVarN Fx.ag353 (RdN.own tk1) ((by first|exact qE|exact qL|rfl)) hw) (.cell rfl (fun w hw=>run_loadVarN Fx.ag353 (RdN.own .here) ((by first|exact qE|exact qL|rfl)) hw) .nil)) ?_))
  obtain rfl:k=64:=by omega
  exact ⟨rfl,by rw [ef,ef2,ba_congr (fun i hi=>outs_eq (padF key 54#8) hi),ba_congr (fun i hi=>outs_eq (padF key 92#8) hi)]; rfl⟩
 refine lA rfl .no Fx.ag353 (.u rfl) (fun _=>RdN.own .here) (fun _=>(by first|exact qE|exact qL|rfl)) ?_
 refine .nil (WoT.n1 0 (by kernel_rfl) ?_)
 refine lA rfl .no Fx.ag353 (.u rfl) (fun _=>RdN.own tk1) (fun _=>(by first|exact qE|exact qL|rfl)) ?_
 refine .nil (WoT.n1 2 (by kernel_rfl) ?_)
 refine sw rfl (.u rfl) (.u rfl) rfl Fx.sz353 tk1 (by first|exact qE|exact qL|rfl) (by first|exact ba_one _ _|exact wa_one _ _|exact one_V _|decide|exact one_app (wa_one _ _) (by simp [Value.oneCell'])) ?_
 refine .nil (WoT.n1 3 (by kernel_rfl) ?_)
 refine sw rfl (.u rfl) (.u rfl) rfl Fx.sz353 tk1 (by first|exact qE|exact qL|rfl) (by first|exact ba_one _ _|exact wa_one _ _|exact one_V _|decide|exact one_app (wa_one _ _) (by simp [Value.oneCell'])) ?_
 refine .nil (WoT.last (by kernel_rfl) ?_)
 refine .code (.ret (We.fin0 Tryz.results252 (.cell rfl (fun w hw=>run_loadVarN Fx.ag353 (RdN.own tk1) ((by first|exact qE|exact qL|rfl)) hw) (.cell rfl (fun w hw=>run_loadVarN Fx.ag353 (RdN.own .here) ((by first|exact qE|exact qL|rfl)) hw) .nil)) ?_))
 obtain rfl:k=64:=by omega
 exact ⟨rfl,by rw [ef,ef2,ba_congr (fun i hi=>outs_eq (padF key 54#8) hi),ba_congr (fun i hi=>outs_eq (padF key 92#8) hi)]; rfl⟩
namespace Fx
theorem go252:goFn Tryz.prog 252=true:=by kernel_rfl
theorem go253:goFn Tryz.prog 253=true:=by kernel_rfl
theorem go254:goFn Tryz.prog 254=true:=by kernel_rfl
theorem zq309:zrL Tryz.prog 309=some (ba 16 (fun _=>0#8)):=by kernel_rfl
theorem fo207_1:fOff Tryz.prog 207 1=some 32:=by kernel_rfl
theorem ar249:arE Tryz.prog 249=some (12,5,1):=by kernel_rfl
theorem go59:goFn Tryz.prog 59=true:=by kernel_rfl
theorem go214:goFn Tryz.prog 214=true:=by kernel_rfl
theorem ar309:arE Tryz.prog 309=some (16,5,1):=by kernel_rfl
theorem ag309:aggN Tryz.prog 309=some (some 16):=by kernel_rfl
theorem sz309:szT Tryz.prog 309=some 16:=by kernel_rfl
theorem fo207_0:fOff Tryz.prog 207 0=some 0:=by kernel_rfl
theorem ag249:aggN Tryz.prog 249=some (some 12):=by kernel_rfl
theorem go175:goFn Tryz.prog 175=true:=by kernel_rfl
theorem ag207:aggN Tryz.prog 207=some (some 64):=by kernel_rfl
theorem go176:goFn Tryz.prog 176=true:=by kernel_rfl
end Fx
theorem macSum_ok (key:List Y) (hk:Sh) (ps:List (Sh×List Y)) (h:Sh) (G:PM) (hsk:SlR G 1 encY hk key) (hs:SlP G h ps) (hK:RdNP G 0 0 (wa 64 kW)) (hlk:key.length≤140737488351232) (hl:(catL ps).length≤1000000000000000) (hn:ps.length≤1000):Ct Tryz.prog 214 ([hk.val key.length,h.val ps.length]:List Value).toArray G [] (fun _ μ' u=>μ'=[]∧u=.agg (ba 32 (macL key (catL ps))).toArray):=by
 refine Ct.of Tryz.func214 rfl Tryz.ntmps214 rfl fun w0 hs0=>?_
 refine .seq (rq1 rfl rfl ?_)
 refine al rfl Fx.zq71 ?_; intro b4
 refine .nil (.code (.seq (rq9 rfl rfl (mV rfl rfl (kv rfl .no Fx.go252 (Evc rfl Evn) (fun _=>pads_ok key hk _ hsk hK hlk) ?_)))))
 refine mV rfl rfl (ex rfl .no (.u rfl) rfl (ex rfl .no (.u rfl) rfl ?_))
 refine al rfl Fx.zq353 ?_; intro b5
 refine al rfl Fx.zq353 ?_; intro b6
 refine sw rfl (.u rfl) (.u rfl) rfl Fx.sz353 tk1 (by first|exact qE|exact qL|rfl) (by first|exact ba_one _ _|exact wa_one _ _|exact one_V _|decide|exact one_app (wa_one _ _) (by simp [Value.oneCell'])) ?_
 refine sw rfl (.u rfl) (.u rfl) rfl Fx.sz353 tk1 (by first|exact qE|exact qL|rfl) (by first|exact ba_one _ _|exact wa_one _ _|exact one_V _|decide|exact one_app (wa_one _ _) (by simp [Value.oneCell'])) ?_
 refine .nil (.code (.seq ?_))
 refine wk_fz tk1 (by intro b hb; cases hb) ?_; intro Gfb5 hleb5 hbb5
 have hs:=hs.mono hleb5
 have hK:=hK.mono hleb5
 refine wk_fz .here (by intro b hb; cases hb) ?_; intro Gfb6 hleb6 hbb6
 have hs:=hs.mono hleb6
 have hK:=hK.mono hleb6
 have hbb5:=hbb5.mono hleb6
 refine rq2 rfl rfl (kc rfl Fx.go253 Evn (New_ok _) ?_)
 rintro _ G16 μ16 hG16 ⟨b16,rfl,rfl⟩
 have hs:=hs.mono hG16
 have hK:=hK.mono hG16
 have hbb5:=hbb5.mono hG16
 have hbb6:=hbb6.mono hG16
 refine aS rfl rfl (.nil (.code (.seq (rq3 rfl rfl (mV rfl rfl ?_)))))
 refine kA rfl .no Fx.ar353 (.u rfl) hbb5 (by first|exact ba_all|exact app_l|exact app_r) ?_; intro h18 L18 eL18 lL18 hs18
 refine ka rfl (.inr rfl) Fx.go254 (Evc rfl (Evc rfl Evn)) (mtk2 .here .here) (Write_ok [] L18 _ _ _ _ hs18 hK (by simp; omega)) ?_
 rintro _ G19 μ19 hG19 ⟨vq0,rfl,rfl⟩
 have hs:=hs.mono hG19
 have hK:=hK.mono hG19
 have hbb6:=hbb6.mono hG19
 refine .nil (.code (.seq (.seq (rq3 rfl rfl (mV rfl rfl (ln rfl .no Fx.sn150 (.u rfl) (mV rfl rfl (.nil (.code (.block ?_))))))))))
 refine Wk.lop (α:=Nat×Value) (fun gh=>[(22,true,.int .i64 (gh.1:Int))]) (fun gh=>[.blk b16 (cl (stC (L18++catL (ps.take gh.1)) gh.2) 385),rB gh.2 5 (restL (L18++catL (ps.take gh.1)))])
  (fun gh Gl=>(gh.1≤ps.length)) (fun gh=>ps.length-gh.1) (0,vq0) [(4,true,_),(6,true,_),(7,true,_),(20,true,_),(21,true,_)] [_]
  (esC rfl (by first|rfl|exact evi (by omega)) (esD rfl (esD rfl (esD rfl (esD rfl (esD rfl eZ))))))
  (mS .here (by simp [catL]) (mS .here (by simp [catL]) (mS .here rfl mN))) ?_ ?_
 ·(try dsimp only)<;>(first|omega|rfl|assumption|(simp; done))
 intro gh N0 Gl0 hN0 hGl0 hF0
 obtain ⟨k,vq⟩:=gh; dsimp only at hF0 hN0 ⊢
 have hk:=hF0
 have hs:=hs.mono hGl0
 have hK:=hK.mono hGl0
 have hbb6:=hbb6.mono hGl0
 refine .seq (rq1 rfl rfl (cp rfl .no (.u rfl) (.u rfl) rfl (.nil (.code (.seq (.cond rfl (fun c1=>?_) (fun c1=>?_)))))))
 ·have c1k:=c1
  try simp only [qcA,qcB] at c1
  refine .skip (.code (.seq (.block (.seq (rq3 rfl rfl (ih rfl .no Fx.se150 (.u rfl) (.u rfl) (fun _=>by omega) (fun _=>by omega) (fun _=>hs.sl.nn (k:=k) (by omega)) ?_))))))
  obtain ⟨p25,ep25⟩:=getx (k:=k) (xs:=ps) (by omega)
  have hq25:=hs.get ep25
  refine ld rfl .no Fx.ag131 (.u rfl) (fun _=>(hs.at (k) (by omega) ep25).rd) ?_
  refine aS rfl rfl (.nil (.code (rq3 rfl rfl (mV rfl rfl (mV rfl rfl (ka rfl (.inr rfl) Fx.go254 (Evc rfl (Evc rfl Evn)) (mtk2 .here .here) (Write_ok (L18++catL (ps.take k)) p25.2 _ _ _ _ hq25 hK (by have:=cat_len ep25; rw [List.length_append]; omega)) ?_))))))
  rintro _ G28 μ28 hG28 ⟨vq',rfl,rfl⟩
  have hK:=hK.mono hG28
  have hbb6:=hbb6.mono hG28
  refine .nil (.blk (.code (rq2 rfl rfl (arn (((k+1):Nat):Int) rfl .no (.u rfl) (.u rfl) rfl (fun _=>by omega) (fun _=>wrap_i64 (by omega) (by omega)) ?_))))
  refine mV rfl rfl (.nil (We.lpo (k+1,vq') ?_ ?_ ?_ ?_ ?_))
  ·exact (esC rfl (by first|rfl|exact evi (by omega)) (esD rfl (esD rfl (esD rfl (esD rfl (esD rfl eZ))))))
  ·exact (mS .here (by rw [cat_take ep25,List.append_assoc]) (mS .here (by rw [cat_take ep25,List.append_assoc]) (mS .here rfl mN)))
  ·first|omega|(dsimp only; omega)
  ·exact (hGl0).trans hG28
  (try dsimp only)<;>(first|omega|rfl|assumption|(simp; done))
 have c1k:=c1
 try simp only [qcA,qcB] at c1
 refine .exit (.xcode (.xlp (.xblk (.code (.seq ?_)))))
 obtain rfl:k=ps.length:=by omega
 rw [List.take_length]
 refine rq4 rfl rfl (mV rfl rfl (ka rfl (.inr rfl) Fx.go239 (Evc rfl Evn) (mtk2 .here .here) (StSum_ok (L18++catL ps) _ _ _ hK (by rw [List.length_append]; omega)) ?_))
 rintro _ G31 μ31 hG31 ⟨rfl,rfl⟩
 have hK:=hK.mono hG31
 have hbb6:=hbb6.mono hG31
 refine al rfl Fx.zq71 ?_; intro b10
 refine sw rfl (.u rfl) (.u rfl) rfl Fx.sz71 .here (by first|exact qE|exact qL|rfl) (by first|exact ba_one _ _|exact wa_one _ _|exact one_V _|decide|exact one_app (wa_one _ _) (by simp [Value.oneCell'])) ?_
 refine .nil (.code (.seq ?_))
 refine wk_fz .here (by intro b hb; cases hb) ?_; intro Gfb10 hleb10 hbb10
 have hK:=hK.mono hleb10
 have hbb6:=hbb6.mono hleb10
 refine Wk.draw (mc:=⟨false,false⟩) [0,1,2,3,4] Fx.mix (by kernel_rfl) ?_
 refine kA rfl .no Fx.ar353 (.u rfl) hbb6 (by first|exact ba_all|exact app_l|exact app_r) ?_; intro h32 L32 eL32 lL32 hs32
 refine kA rfl .no Fx.ar71 (.u rfl) hbb10 (by first|exact ba_all|exact app_l|exact app_r) ?_; intro h33 L33 eL33 lL33 hs33
 refine Go.Tan.bN rfl Fx.se150 Fx.zv131 (Evp.cons (.u rfl) (Evp.cons (.u rfl) Evp.nil)) rfl (by decide) (by simp [Value.oneCell',Sh.val]) ?_; intro b34
 refine kp rfl .no Fx.go193 (Evc rfl Evn) (Gp.add .here Gp.nil) (fun _ hle hq=>sum2_ok hle hs32 hs33 hK (by omega)) ?_
 refine sw rfl (.u rfl) (.u rfl) rfl Fx.sz71 tk3 (by first|exact qE|exact qL|rfl) (by first|exact ba_one _ _|exact wa_one _ _|exact one_V _|decide|exact one_app (wa_one _ _) (by simp [Value.oneCell'])) ?_
 refine .nil (.code (.ret (We.fin0 Tryz.results214 (.cell rfl (fun w hw=>run_loadVarN Fx.ag71 (RdN.own .here) ((by first|exact qE|exact qL|rfl)) hw) .nil) ?_)))
 exact ⟨rfl,by rw [eL32,eL33,eL18]; rfl⟩
theorem mac4_ok {G:PM} {b T:Nat} {hk h1 h2 h3 h4:Sh} {key L1 L2 L3 L4:List Y} (hle:PM.le G (G.add b (cl [h1.val L1.length,h2.val L2.length,h3.val L3.length,h4.val L4.length] T))) (hsk:SlR G 1 encY hk key) (hs:SlR G 1 encY h1 L1) (hs2:SlR G 1 encY h2 L2) (hs3:SlR G 1 encY h3 L3) (hs4:SlR G 1 encY h4 L4) (hK:RdNP G 0 0 (wa 64 kW)) (hlk:key.length≤140737488351232) (hl:L1.length+L2.length+L3.length+L4.length≤1000000000000000) :
  Ct Tryz.prog 214 ([hk.val key.length,.slice (some ⟨b,0,none⟩) 4 4]:List Value).toArray (G.add b (cl [h1.val L1.length,h2.val L2.length,h3.val L3.length,h4.val L4.length] T)) [] (fun _ μ' u=>μ'=[]∧u=.agg (ba 32 (macL key (L1++L2++L3++L4))).toArray):=by
 have h:=macSum_ok key hk [(h1,L1),(h2,L2),(h3,L3),(h4,L4)] ⟨some ⟨b,0,none⟩,4⟩ _ (hsk.mono hle) (SlP.four hle hs hs2 hs3 hs4) (hK.mono hle) hlk (by simp [catL]; omega) (by simp)
 rw [show catL [(h1,L1),(h2,L2),(h3,L3),(h4,L4)]=L1++L2++L3++L4 by simp [catL]] at h
 exact h
theorem Tag_ok (enc mac nonce:Nat→Y) (ad:List Y) (ha:Sh) (xs:List Y) (hx:Sh) (G:PM) (hsa:SlR G 1 encY ha ad) (hsx:SlR G 1 encY hx xs) (hK:RdNP G 0 0 (wa 64 kW)) (hla:ad.length≤140737488351232) (hl:xs.length≤140737488355328):Ct Tryz.prog 176 ([.agg (ba 32 enc++ba 32 mac).toArray,.agg (ba 12 nonce).toArray,ha.val ad.length,hx.val xs.length]:List Value).toArray G [] (fun _ μ' u=>μ'=[]∧u=.agg (ba 16 (tagF mac nonce ad xs)).toArray):=by
 refine Ct.of Tryz.func176 rfl Tryz.ntmps176 rfl fun w0 hs0=>?_
 refine .seq (rq3 rfl rfl ?_)
 refine bx rfl (.u rfl) rfl ?_; intro b4
 refine bx rfl (.u rfl) rfl ?_; intro b5
 refine al rfl Fx.zq309 ?_; intro b8
 refine .nil (.code (.seq ?_))
 refine wk_fz tk2 (by intro b hb; cases hb) ?_; intro Gfb4 hleb4 hbb4
 have hsa:=hsa.mono hleb4
 have hsx:=hsx.mono hleb4
 have hK:=hK.mono hleb4
 refine wk_fz tk1 (by intro b hb; cases hb) ?_; intro Gfb5 hleb5 hbb5
 have hsa:=hsa.mono hleb5
 have hsx:=hsx.mono hleb5
 have hK:=hK.mono hleb5
 have hbb4:=hbb4.mono hleb5
 refine Wk.draw (mc:=⟨false,false⟩) [0,1,2,3,4,6,7,8,5,9,10,11,12] Fx.mix (by kernel_rfl) ?_
 refine fa rfl .no Fx.fo207_1 (.u rfl) ?_
 refine kA rfl .no Fx.ar70 (.u rfl) hbb4 (by first|exact ba_all|exact app_l|exact app_r) ?_; intro h11 L11 eL11 lL11 hs11
 refine mV rfl rfl (ln rfl .no Fx.sn131 (.u rfl) (ci rfl .no rfl Fx.cv3_41 (.u rfl) ?_))
 refine mV rfl rfl ?_
 refine kA rfl .no Fx.ar249 (.u rfl) hbb5 (by first|exact ba_all|exact app_l|exact app_r) ?_; intro h17 L17 eL17 lL17 hs17
 refine mV rfl rfl (kc rfl Fx.go59 (Evc rfl (Evc rfl (Evc rfl Evn))) (Ct.frzB (Fix_ok [] ⟨none,0⟩ _ 8 _ SlR.nul (by simp) (by decide))) ?_)
 rintro _ G15 μ15 hG15 ⟨h15,L15,eL15,rfl,rfl,hs15⟩
 have hsa:=hsa.mono hG15
 have hsx:=hsx.mono hG15
 have hK:=hK.mono hG15
 have hs11:=hs11.mono hG15
 have hs17:=hs17.mono hG15
 refine Go.Tan.bN rfl Fx.se150 Fx.zv131 (Evp.cons (.u rfl) (Evp.cons (.u rfl) (Evp.cons (.u rfl) (Evp.cons (.u rfl) Evp.nil)))) rfl (by decide) (by simp [Value.oneCell',Sh.val]) ?_; intro b19
 have lL15:L15.length=8:=by rw [eL15,List.nil_append]; exact fix_len _ 8
 refine kp rfl .no Fx.go214 (Evc rfl (Evc rfl Evn)) (Gp.add .here Gp.nil) (fun _ hle hq=>mac4_ok hle hs11 hs15 hsa hs17 hsx hK (by omega) (by omega)) ?_
 refine al rfl Fx.zq71 ?_; intro b9
 refine sw rfl (.u rfl) (.u rfl) rfl Fx.sz71 .here (by first|exact qE|exact qL|rfl) (by first|exact ba_one _ _|exact wa_one _ _|exact one_V _|decide|exact one_app (wa_one _ _) (by simp [Value.oneCell'])) ?_
 refine .nil (.code (.seq (rq4 rfl rfl (sah rfl .no Fx.ar71 (.u rfl) (.u rfl) (fun _=>by first|decide|omega) (fun _=>by first|decide|omega) ?_))))
 refine sp rfl .no Fx.ar309 (.u rfl) (fun _=>by first|decide|omega) ?_
 refine lA rfl .no Fx.ag309 (.u rfl) (fun _=>RdN.part (n:=16) (cs':=ba 16 _) .here (ba_take (by decide))) (fun _=>(by first|exact qE|exact qL|rfl)) ?_
 refine sw rfl (.u rfl) (.u rfl) rfl Fx.sz309 tk2 (by first|exact qE|exact qL|rfl) (by first|exact ba_one _ _|exact wa_one _ _|exact one_V _|decide|exact one_app (wa_one _ _) (by simp [Value.oneCell'])) ?_
 refine .nil (.code (.ret (We.fin0 Tryz.results176 (.cell rfl (fun w hw=>run_loadVarN Fx.ag309 (RdN.own .here) ((by first|exact qE|exact qL|rfl)) hw) .nil) ?_)))
 exact ⟨rfl,by rw [eL11,eL15,eL17]; rfl⟩
theorem tag_row (enc mac nonce:Nat→Y) (ad:List Y) (ha:Sh) (xs:List Y) (v:Value) (G:PM) (hsa:SlR G 1 encY ha ad) (hK:RdNP G 0 0 (wa 64 kW)) (hla:ad.length≤140737488351232) (hl:xs.length≤140737488355328):Ct Tryz.prog 176 ([.agg (ba 32 enc++ba 32 mac).toArray,.agg (ba 12 nonce).toArray,ha.val ad.length,v]:List Value).toArray G [rB v 5 xs] (fun _ μ' u=>∃ ν,μ'=rB v 5 xs :: ν∧ν=[]∧u=.agg (ba 16 (tagF mac nonce ad xs)).toArray) :=
 Ct.lendB (fun hx G2 hle hv hs=>by subst hv; exact Tag_ok enc mac nonce ad ha xs hx G2 (hsa.mono hle) hs (hK.mono hle) hla hl)
theorem Seal_ok (enc mac nonce:Nat→Y) (ad:List Y) (ha:Sh) (xs:List Y) (hx:Sh) (G:PM) (hsa:SlR G 1 encY ha ad) (hsx:SlR G 1 encY hx xs) (hK:RdNP G 0 0 (wa 64 kW)) (hla:ad.length≤140737488351232) (hl:xs.length≤140737488351232):Ct Tryz.prog 124 ([.agg (ba 32 enc++ba 32 mac).toArray,.agg (ba 12 nonce).toArray,ha.val ad.length,hx.val xs.length]:List Value).toArray G [] (PR 5 (fun L=>L=sealL enc mac nonce ad xs)):=by
 refine Ct.of Tryz.func124 rfl Tryz.ntmps124 rfl fun w0 hs0=>?_
 have lc:=cross_len enc nonce 1#32 xs
 refine .seq (rq3 rfl rfl ?_)
 refine bx rfl (.u rfl) rfl ?_; intro b4
 refine bx rfl (.u rfl) rfl ?_; intro b5
 refine aS rfl rfl (.nil (.code (.seq (rq6 rfl rfl (fz rfl .no Fx.fo207_0 (.u rfl) (lA rfl .no Fx.ag70 (.u rfl) (fun _=>RdN.part (n:=32) (cs':=ba 32 enc) tk1 (app_l)) (fun _=>(by first|exact qE|exact qL|rfl)) ?_))))))
 refine lA rfl .no Fx.ag249 (.u rfl) (fun _=>RdN.own .here) (fun _=>(by first|exact qE|exact qL|rfl)) ?_
 refine mV rfl rfl (kc rfl Fx.go175 (Evc rfl (Evc rfl (Evc rfl (Evc rfl Evn)))) (Ct.rowc (Cross_ok enc nonce 1#32 hx xs _ hsx hl)) ?_)
 rintro v15 G15 μ15 hG15 ⟨L15,ov15,eL15,rfl⟩
 have hsa:=hsa.mono hG15
 have hK:=hK.mono hG15
 refine aS rfl rfl (.nil (.code (.seq (rq7 rfl rfl ?_))))
 have lL15:L15.length=xs.length:=by rw [eL15,cross_len]
 refine lA rfl .no Fx.ag207 (.u rfl) (fun _=>RdN.own tk2) (fun _=>(by first|exact qE|exact qL|rfl)) ?_
 refine lA rfl .no Fx.ag249 (.u rfl) (fun _=>RdN.own tk1) (fun _=>(by first|exact qE|exact qL|rfl)) ?_
 refine mV rfl rfl (mV rfl rfl (ka rfl (.inr rfl) Fx.go176 (Evc rfl (Evc rfl (Evc rfl (Evc rfl Evn)))) (mtk1 .here) (tag_row enc mac nonce ad ha L15 _ _ hsa hK hla (by rw [eL15,cross_len]; omega)) ?_))
 rintro _ G20 μ20 hG20 ⟨_,rfl,rfl,rfl⟩
 refine al rfl Fx.zq309 ?_; intro b10
 refine sw rfl (.u rfl) (.u rfl) rfl Fx.sz309 .here (by first|exact qE|exact qL|rfl) (by first|exact ba_one _ _|exact wa_one _ _|exact one_V _|decide|exact one_app (wa_one _ _) (by simp [Value.oneCell'])) ?_
 refine .nil (.code (.seq (rq4 rfl rfl (mV rfl rfl (sa0 rfl .no Fx.ar309 (.u rfl) (apY rfl Fx.se131 Fx.zv5 (.u rfl) (.u rfl) tk1 (Sc.arr .here) (by (try simp only [qlA,yl_len]); omega) ?_))))))
 intro v23 L23 ov23 eL23
 have lL23:L23.length=L15.length+16:=by rw [eL23,List.length_append]; first|rfl | simp [yl_len]
 refine aS rfl rfl (.nil (.code (.ret (We.fin Tryz.results124 (.tmp rfl .nil) (mS .here rfl mN) ?_))))
 exact ⟨L23,by rw [eL23,eL15]; rfl,rfl⟩
namespace Fx
theorem cst131:csT Tryz.prog 131=true:=by kernel_rfl
end Fx
namespace Fx
theorem go240:goFn Tryz.prog 240=true:=by kernel_rfl
theorem go195:goFn Tryz.prog 195=true:=by kernel_rfl
theorem go153:goFn Tryz.prog 153=true:=by kernel_rfl
theorem go178:goFn Tryz.prog 178=true:=by kernel_rfl
theorem cv282_41:cvK Tryz.prog 282 41=some .u64:=by kernel_rfl
end Fx
theorem nibble_ok (x:W) (G:PM):Ct Tryz.prog 240 ([U x]:List Value).toArray G [] (fun _ μ' u=>μ'=[]∧u=U (hIt 4 x)):=by
 refine Ct.of Tryz.func240 rfl Tryz.ntmps240 rfl fun w0 hs0=>?_
 refine .seq (rq1 rfl rfl (aS rfl rfl (.nil (.code (.seq (.seq (rq1 rfl rfl (mV rfl rfl (.nil (.code (.block ?_)))))))))))
 refine Wk.lop (α:=Nat×W) (fun gh=>[(0,true,U gh.2),(3,true,.int .i64 (gh.1:Int))]) (fun _=>[])
  (fun gh Gl=>(gh.1≤4)∧(gh.2=hIt gh.1 x)) (fun gh=>4-gh.1) (0,x) [] []
  (esD rfl (esC rfl (by first|rfl|exact evi (by omega)) eZ))
  mN ?_ ?_
 ·refine ⟨?_,?_⟩
  ·(try dsimp only)<;>(first|omega|rfl|assumption|(simp; done))
  (try dsimp only)<;>(first|omega|rfl|assumption|(simp; done))
 intro gh N0 Gl0 hN0 hGl0 hF0
 obtain ⟨k,y⟩:=gh; dsimp only at hF0 hN0 ⊢
 obtain ⟨hk,ey⟩:=hF0
 refine .seq (rq1 rfl rfl (cp rfl .no (.u rfl) (.u rfl) rfl (.nil (.code (.seq (.cond rfl (fun c1=>?_) (fun c1=>?_)))))))
 ·have c1k:=c1
  try simp only [qcA,qcB] at c1
  refine .skip (.code (.seq (.block (rq8 rfl rfl (mV rfl rfl (rw' (k:=.u32) rfl .no (.u rfl) (.u rfl) (fun _=>by decide) ?_))))))
  refine mV rfl rfl (bw (k:=.u32) (b:=1#32) rfl .no rfl (.u rfl) (.u rfl) rfl (nw (k:=.u32) rfl .no rfl (.u rfl) ?_))
  refine bw (k:=.u32) (a:=2197175160#32) rfl .no rfl (.u rfl) (.u rfl) rfl (bw (k:=.u32) rfl .no rfl (.u rfl) (.u rfl) rfl (aS rfl rfl (.nil (.blk (.code (rq2 rfl rfl (arn (((k+1):Nat):Int) rfl .no (.u rfl) (.u rfl) rfl (fun _=>by omega) (fun _=>wrap_i64 (by omega) (by omega)) ?_)))))))
  refine mV rfl rfl (.nil (We.lpo (k+1,halfW y) ?_ ?_ ?_ ?_ ?_))
  ·exact (esD rfl (esC rfl (by first|rfl|exact evi (by omega)) eZ))
  ·exact mN
  ·first|omega|(dsimp only; omega)
  ·exact hGl0
  refine ⟨?_,?_⟩
  ·(try dsimp only)<;>(first|omega|rfl|assumption|(simp; done))
  (try dsimp only)<;>(rw [ey]; rfl)
 have c1k:=c1
 try simp only [qcA,qcB] at c1
 refine .exit (.xcode (.xlp (.xblk (.code (.seq (rq2 rfl rfl (mV rfl rfl (aS rfl rfl (.nil (.code (.ret (We.fin0 Tryz.results240 (.tmp rfl .nil) ?_))))))))))))
 obtain rfl:k=4:=by omega
 exact ⟨rfl,by rw [ey]; rfl⟩
theorem crcMore_ok (sum:W) (xs:List Y) (h:Sh) (G:PM) (hs:SlR G 1 encY h xs) (hl:xs.length≤9000000000000000000):Ct Tryz.prog 195 ([U sum,h.val xs.length]:List Value).toArray G [] (fun _ μ' u=>μ'=[]∧u=U (crcW sum xs)):=by
 refine Ct.of Tryz.func195 rfl Tryz.ntmps195 rfl fun w0 hs0=>?_
 refine .seq (rq1 rfl rfl (aS rfl rfl (.nil (.code (.seq (rq3 rfl rfl (mV rfl rfl (xw (k:=.u32) rfl .no rfl (.u rfl) ?_))))))))
 refine aS rfl rfl (.nil (.code (.seq (.seq (rq3 rfl rfl (mV rfl rfl (ln rfl .no Fx.sn131 (.u rfl) (mV rfl rfl (.nil (.code (.block ?_)))))))))))
 refine Wk.lop (α:=Nat×W) (fun gh=>[(5,true,U gh.2),(12,true,.int .i64 (gh.1:Int))]) (fun _=>[])
  (fun gh Gl=>(gh.1≤xs.length)∧(gh.2=(xs.take gh.1).foldl crcB (~~~sum))) (fun gh=>xs.length-gh.1) (0, ~~~sum) [(10,true,_),(11,true,_)] []
  (esD rfl (esC rfl (by first|rfl|exact evi (by omega)) (esD rfl (esD rfl eZ))))
  mN ?_ ?_
 ·refine ⟨?_,?_⟩
  ·(try dsimp only)<;>(first|omega|rfl|assumption|(simp; done))
  (try dsimp only)<;>(first|omega|rfl|assumption|(simp; done))
 intro gh N0 Gl0 hN0 hGl0 hF0
 obtain ⟨k,x⟩:=gh; dsimp only at hF0 hN0 ⊢
 obtain ⟨hk,ex⟩:=hF0
 have hs:=hs.mono hGl0
 refine .seq (rq1 rfl rfl (cp rfl .no (.u rfl) (.u rfl) rfl (.nil (.code (.seq (.cond rfl (fun c1=>?_) (fun c1=>?_)))))))
 ·have c1k:=c1
  try simp only [qcA,qcB] at c1
  refine .skip (.code (.seq (.block (.seq (rq3 rfl rfl (ih rfl .no Fx.se131 (.u rfl) (.u rfl) (fun _=>by omega) (fun _=>by omega) (fun _=>hs.nn (k:=k) (by omega)) ?_))))))
  refine ld rfl .no Fx.ag5 (.u rfl) (fun _=>(hs.yat (k) (by omega) (by omega)).rd) ?_
  refine aS rfl rfl (.nil (.code (rq7 rfl rfl (mV rfl rfl (mV rfl rfl (cu (k:=.u8) rfl .no rfl Fx.cv5_282 (.u rfl) ?_))))))
  refine bw (k:=.u32) rfl .no rfl (.u rfl) (.u rfl) rfl (kv rfl .no Fx.go240 (Evc rfl Evn) (fun _=>nibble_ok _ _) ?_)
  refine kv rfl .no Fx.go240 (Evc rfl Evn) (fun _=>nibble_ok _ _) ?_
  refine aS rfl rfl (.nil (.blk (.code (rq2 rfl rfl (arn (((k+1):Nat):Int) rfl .no (.u rfl) (.u rfl) rfl (fun _=>by omega) (fun _=>wrap_i64 (by omega) (by omega)) ?_)))))
  refine mV rfl rfl (.nil (We.lpo (k+1,hIt 4 (hIt 4 (x ^^^ (xs.getD k 0).setWidth 32))) ?_ ?_ ?_ ?_ ?_))
  ·exact (esD rfl (esC rfl (by first|rfl|exact evi (by omega)) (esD rfl (esD rfl eZ))))
  ·exact mN
  ·first|omega|(dsimp only; omega)
  ·exact hGl0
  refine ⟨?_,?_⟩
  ·(try dsimp only)<;>(first|omega|rfl|assumption|(simp; done))
  (try dsimp only)<;>(rw [fold_take (by omega),←ex,hIt_add]; rfl)
 have c1k:=c1
 try simp only [qcA,qcB] at c1
 refine .exit (.xcode (.xlp (.xblk (.code (.seq (rq3 rfl rfl (mV rfl rfl (xw (k:=.u32) rfl .no rfl (.u rfl) ?_))))))))
 refine aS rfl rfl (.nil (.code (.ret (We.fin0 Tryz.results195 (.tmp rfl .nil) ?_))))
 obtain rfl:k=xs.length:=by omega
 exact ⟨rfl,by rw [ex,List.take_length]; rfl⟩
theorem crcSum_ok (ps:List (Sh×List Y)) (h:Sh) (G:PM) (hs:SlP G h ps) (hl:(catL ps).length≤9000000000000000000) (hn:ps.length≤1000):Ct Tryz.prog 153 ([h.val ps.length]:List Value).toArray G [] (fun _ μ' u=>μ'=[]∧u=U (crcW 0#32 (catL ps))):=by
 refine Ct.of Tryz.func153 rfl Tryz.ntmps153 rfl fun w0 hs0=>?_
 refine .seq (rq1 rfl rfl (aS rfl rfl (.nil (.code (.seq (rq1 rfl rfl (aS rfl rfl (.nil (.code (.seq (.seq (rq3 rfl rfl (mV rfl rfl (ln rfl .no Fx.sn150 (.u rfl) (mV rfl rfl (.nil (.code (.block ?_))))))))))))))))))
 refine Wk.lop (α:=Nat×W) (fun gh=>[(3,true,U gh.2),(8,true,.int .i64 (gh.1:Int))]) (fun _=>[])
  (fun gh Gl=>(gh.1≤ps.length)∧(gh.2=crcW 0#32 (catL (ps.take gh.1)))) (fun gh=>ps.length-gh.1) (0,0#32) [(6,true,_),(7,true,_)] []
  (esD rfl (esC rfl (by first|rfl|exact evi (by omega)) (esD rfl (esD rfl eZ))))
  mN ?_ ?_
 ·refine ⟨?_,?_⟩
  ·(try dsimp only)<;>(first|omega|rfl|assumption|(simp; done))
  (try dsimp only)<;>(simp [catL,crc_nil])
 intro gh N0 Gl0 hN0 hGl0 hF0
 obtain ⟨k,x⟩:=gh; dsimp only at hF0 hN0 ⊢
 obtain ⟨hk,ex⟩:=hF0
 have hs:=hs.mono hGl0
 refine .seq (rq1 rfl rfl (cp rfl .no (.u rfl) (.u rfl) rfl (.nil (.code (.seq (.cond rfl (fun c1=>?_) (fun c1=>?_)))))))
 ·have c1k:=c1
  try simp only [qcA,qcB] at c1
  refine .skip (.code (.seq (.block (.seq (rq3 rfl rfl (ih rfl .no Fx.se150 (.u rfl) (.u rfl) (fun _=>by omega) (fun _=>by omega) (fun _=>hs.sl.nn (k:=k) (by omega)) ?_))))))
  obtain ⟨p11,ep11⟩:=getx (k:=k) (xs:=ps) (by omega)
  have hq11:=hs.get ep11
  refine ld rfl .no Fx.ag131 (.u rfl) (fun _=>(hs.at (k) (by omega) ep11).rd) ?_
  refine aS rfl rfl (.nil (.code (rq4 rfl rfl (mV rfl rfl (mV rfl rfl (kv rfl .no Fx.go195 (Evc rfl (Evc rfl Evn)) (fun _=>crcMore_ok _ p11.2 _ _ hq11 (by have:=cat_len ep11; omega)) ?_))))))
  refine aS rfl rfl (.nil (.blk (.code (rq2 rfl rfl (arn (((k+1):Nat):Int) rfl .no (.u rfl) (.u rfl) rfl (fun _=>by omega) (fun _=>wrap_i64 (by omega) (by omega)) ?_)))))
  refine mV rfl rfl (.nil (We.lpo (k+1,crcW x p11.2) ?_ ?_ ?_ ?_ ?_))
  ·exact (esD rfl (esC rfl (by first|rfl|exact evi (by omega)) (esD rfl (esD rfl eZ))))
  ·exact mN
  ·first|omega|(dsimp only; omega)
  ·exact hGl0
  refine ⟨?_,?_⟩
  ·(try dsimp only)<;>(first|omega|rfl|assumption|(simp; done))
  (try dsimp only)<;>(rw [ex,crc_app,cat_take ep11])
 have c1k:=c1
 try simp only [qcA,qcB] at c1
 refine .exit (.xcode (.xlp (.xblk (.code (.seq (rq2 rfl rfl (mV rfl rfl (aS rfl rfl (.nil (.code (.ret (We.fin0 Tryz.results153 (.tmp rfl .nil) ?_))))))))))))
 obtain rfl:k=ps.length:=by omega
 exact ⟨rfl,by rw [ex,List.take_length]; rfl⟩
theorem Mask_ok (x:W) (G:PM):Ct Tryz.prog 178 ([U x]:List Value).toArray G [] (fun _ μ' u=>μ'=[]∧u=U (maskW x)):=by
 refine Ct.of Tryz.func178 rfl Tryz.ntmps178 rfl fun w0 hs0=>?_
 refine .seq (rq1 rfl rfl (aS rfl rfl (.nil (.code (.seq (rq4 rfl rfl (mV rfl rfl (kv rfl .no Fx.go154 (Evc rfl (Evc rfl Evn)) (fun _=>rot_ok _ 17 _) ?_))))))))
 refine bw (k:=.u32) (b:=2726488792#32) rfl .no rfl (.u rfl) (.u rfl) rfl (aS rfl rfl (.nil (.code (.ret (We.fin0 Tryz.results178 (.tmp rfl .nil) ?_)))))
 exact ⟨rfl,rfl⟩
theorem crc2_ok {G:PM} {b7 b9 T7 T9:Nat} {kind:Y} {h:Sh} {p:List Y} (hle:PM.le G ((G.add b7 (cl [V kind] T7)).add b9 (cl [.slice (some ⟨b7,0,none⟩) 1 1,h.val p.length] T9))) (hq:PM.le (G.add b7 (cl [V kind] T7)) ((G.add b7 (cl [V kind] T7)).add b9 (cl [.slice (some ⟨b7,0,none⟩) 1 1,h.val p.length] T9))) (hs:SlR G 1 encY h p) (hl:p.length≤1000000000000000) :
  Ct Tryz.prog 153 ([.slice (some ⟨b9,0,none⟩) 2 2]:List Value).toArray ((G.add b7 (cl [V kind] T7)).add b9 (cl [.slice (some ⟨b7,0,none⟩) 1 1,h.val p.length] T9)) [] (fun _ μ' u=>μ'=[]∧u=U (crcW 0#32 ([kind]++p))):=by
 have h1:SlR (G.add b7 (cl [V kind] T7)) 1 encY ⟨some ⟨b7,0,none⟩,1⟩ [kind]:=SlR.ofBlk (T:=T7) (PM.add_same _ _ _) (fun _ _=>rfl) (by simp)
 have hP:SlP ((G.add b7 (cl [V kind] T7)).add b9 (cl [.slice (some ⟨b7,0,none⟩) 1 1,h.val p.length] T9)) ⟨some ⟨b9,0,none⟩,2⟩ [(⟨some ⟨b7,0,none⟩,1⟩,[kind]),(h,p)] :=
  ⟨SlR.ofBlk (T:=T9) (PM.add_same _ _ _) (fun _ _=>rfl) (by simp),fun q hq'=>by
   rcases List.mem_cons.1 hq' with rfl | hq'
   ·exact h1.mono hq
   ·rw [List.mem_singleton.1 hq']; exact hs.mono hle⟩
 have hh:=crcSum_ok _ ⟨some ⟨b9,0,none⟩,2⟩ _ hP (by simp [catL]; omega) (by simp)
 rw [show catL [((⟨some ⟨b7,0,none⟩,1⟩ : Sh),[kind]),(h,p)]=[kind]++p by simp [catL]] at hh
 exact hh
theorem whead_ok (kind:Y) (p:List Y) (h:Sh) (G:PM) (hs:SlR G 1 encY h p) (hl:p.length≤1000000000000000):Ct Tryz.prog 127 ([V kind,h.val p.length]:List Value).toArray G [] (PR 5 (fun L=>L=fixL ((maskW (crcW 0#32 ([kind]++p))).setWidth 64) 4++fixL (BitVec.ofInt 64 (p.length:Int)) 2++[kind])):=by
 refine Ct.of Tryz.func127 rfl Tryz.ntmps127 rfl fun w0 hs0=>?_
 refine .seq (rq1 rfl rfl (aS rfl rfl (.nil (.code (.seq (rq7 rfl rfl (mV rfl rfl ?_)))))))
 refine Go.Tan.b1 rfl Fx.se131 Fx.zv5 (.u rfl) rfl rfl (by decide) ?_; intro b7
 refine mV rfl rfl ?_
 refine Go.Tan.bN rfl Fx.se150 Fx.zv131 (Evp.cons (.u rfl) (Evp.cons (.u rfl) Evp.nil)) rfl (by decide) (by simp [Value.oneCell',Sh.val]) ?_; intro b9
 refine kp rfl .no Fx.go153 (Evc rfl Evn) (Gp.add .here (Gp.add .here Gp.nil)) (fun _ hle hq=>crc2_ok hle hq.1 hs hl) ?_
 refine kv rfl .no Fx.go178 (Evc rfl Evn) (fun _=>Mask_ok _ _) ?_
 refine aS rfl rfl (.nil (.code (.seq (Wk.rg [0,1,2,3,4,5,6,7,8,9,10] rfl rfl (mV rfl rfl (cu (k:=.u32) rfl .no rfl Fx.cv282_41 (.u rfl) ?_))))))
 refine kc rfl Fx.go59 (Evc rfl (Evc rfl (Evc rfl Evn))) (Ct.frzB (Fix_ok [] ⟨none,0⟩ _ 4 _ SlR.nul (by simp) (by decide))) ?_
 rintro _ G14 μ14 hG14 ⟨h14,L14,eL14,rfl,rfl,hs14⟩
 refine mV rfl rfl (ln rfl .no Fx.sn131 (.u rfl) (ci rfl .no rfl Fx.cv3_41 (.u rfl) ?_))
 refine kc rfl Fx.go59 (Evc rfl (Evc rfl (Evc rfl Evn))) (Ct.rowc (Fix_ok L14 h14 _ 2 _ hs14 (by have:=fx0 eL14; omega) (by decide))) ?_
 rintro v18 G18 μ18 hG18 ⟨L18,ov18,eL18,rfl⟩
 refine mV rfl rfl ?_
 refine Go.Tan.b1 rfl Fx.se131 Fx.zv5 (.u rfl) rfl rfl (by decide) ?_; intro b20
 have lL18:L18.length=6:=by have:=fx0 eL14; have:=fx2 eL18; omega
 refine apY rfl Fx.se131 Fx.zv5 (.u rfl) (.u rfl) tk1 (Sc.one .here) (by show _+1≤_; omega) ?_
 intro v21 L21 ov21 eL21
 have lL21:L21.length=L18.length+1:=by rw [eL21,List.length_append]; first|rfl | simp [yl_len]
 refine aS rfl rfl (.nil (.code (.ret (We.fin Tryz.results127 (.tmp rfl .nil) (mS .here rfl mN) ?_))))
 exact ⟨L21,by rw [eL21,eL18,eL14]; rfl,rfl⟩
namespace Fx
theorem fo119_0:fOff Tryz.prog 119 0=some 0:=by kernel_rfl
theorem fo119_1:fOff Tryz.prog 119 1=some 1:=by kernel_rfl
theorem fo119_2:fOff Tryz.prog 119 2=some 2:=by kernel_rfl
theorem ag41:aggN Tryz.prog 41=some none:=by kernel_rfl
theorem zq249:zrL Tryz.prog 249=some (ba 12 (fun _=>0#8)):=by kernel_rfl
theorem sz249:szT Tryz.prog 249=some 12:=by kernel_rfl
theorem fo119_3:fOff Tryz.prog 119 3=some 3:=by kernel_rfl
theorem fo119_4:fOff Tryz.prog 119 4=some 4:=by kernel_rfl
theorem bp245_0_1_2:bPl Tryz.prog 245 [0,1,2]=some ([.int .u64 0,.int .u64 0,.int .u64 0],[(0,1),(1,1),(2,1)]):=by kernel_rfl
theorem ar245:arE Tryz.prog 245=some (3,41,1):=by kernel_rfl
end Fx
theorem Nonce_ok (n:BitVec 64) (G:PM):Ct Tryz.prog 126 ([uv .u64 n]:List Value).toArray G [] (fun _ μ' u=>μ'=[]∧u=.agg (ba 12 (nonceF n)).toArray):=by
 refine Ct.of Tryz.func126 rfl Tryz.ntmps126 rfl fun w0 hs0=>?_
 refine .seq (rq1 rfl rfl ?_)
 refine al rfl Fx.zq249 ?_; intro b2
 refine .nil (.code (.seq (rq1 rfl rfl ?_)))
 refine al rfl Fx.zq249 ?_; intro b3
 refine .nil (.code (.seq (.seq (rq1 rfl rfl (mV rfl rfl (.nil (.code (.block ?_))))))))
 refine Wk.lop (α:=Nat×(Nat→Y)) (fun gh=>[(5,true,.int .i64 (gh.1:Int))]) (fun gh=>[.blk b3 (cl (ba 12 gh.2) 249)])
  (fun gh Gl=>(gh.1≤8)∧(gh.2=outs (nonceF n) gh.1)) (fun gh=>8-gh.1) (0,fun _=>0#8) [(0,true,_),(2,true,_),(3,true,_)] [_]
  (esC rfl (by first|rfl|exact evi (by omega)) (esD rfl (esD rfl (esD rfl eZ))))
  (mS .here rfl (mS .here rfl mN)) ?_ ?_
 ·refine ⟨?_,?_⟩
  ·(try dsimp only)<;>(first|omega|rfl|assumption|(simp; done))
  (try dsimp only)<;>(first|omega|rfl|assumption|(simp; done))
 intro gh N0 Gl0 hN0 hGl0 hF0
 obtain ⟨k,f⟩:=gh; dsimp only at hF0 hN0 ⊢
 obtain ⟨hk,ef⟩:=hF0
 refine .seq (rq1 rfl rfl (cp rfl .no (.u rfl) (.u rfl) rfl (.nil (.code (.seq (.cond rfl (fun c1=>?_) (fun c1=>?_)))))))
 ·have c1k:=c1
  try simp only [qcA,qcB] at c1
  refine .skip (.code (.seq (.block (.seq (rq2 rfl rfl (mV rfl rfl (aS rfl rfl (.nil (.code (rq8 rfl rfl (mV rfl rfl (mV rfl rfl (mV rfl rfl (arn (((8*k):Nat):Int) rfl .no (.u rfl) (.u rfl) rfl (fun _=>by omega) (fun _=>wrap_i64 (by omega) (by omega)) ?_))))))))))))))
  refine rw' (k:=.u64) rfl .no (.u rfl) (.u rfl) (fun _=>by omega) ?_
  refine cu (k:=.u64) rfl .no rfl Fx.cv41_5 (.u rfl) ?_
  refine iA rfl .no Fx.ar249 (.u rfl) (.u rfl) (fun _=>by omega) (fun _=>by omega) ?_
  refine s1 rfl (.u rfl) (.u rfl) rfl Fx.sz5 .here (by first|decide|(simp only [wa_len,ba_len,qlA]; omega)) (by first|exact wa_set1 (k) (by omega)|exact ba_set1 (k) (by omega)|exact wap_set1 (k) (by omega) (by omega)|rfl) ?_
  refine .nil (.blk (.code (rq2 rfl rfl (arn (((k+1):Nat):Int) rfl .no (.u rfl) (.u rfl) rfl (fun _=>by omega) (fun _=>wrap_i64 (by omega) (by omega)) ?_))))
  refine mV rfl rfl (.nil (We.lpo (k+1,upd f k ((n >>> (8*k)).setWidth 8)) ?_ ?_ ?_ ?_ ?_))
  ·exact (esC rfl (by first|rfl|exact evi (by omega)) (esD rfl (esD rfl (esD rfl eZ))))
  ·exact (mS .here rfl (mS .here rfl mN))
  ·first|omega|(dsimp only; omega)
  ·exact hGl0
  refine ⟨?_,?_⟩
  ·(try dsimp only)<;>(first|omega|rfl|assumption|(simp; done))
  (try dsimp only)<;>(exact outs_step1 ef (by unfold nonceF; rw [if_pos (by omega)]))
 have c1k:=c1
 try simp only [qcA,qcB] at c1
 refine .exit (.xcode (.xlp (.xblk (.code (.seq (rq2 rfl rfl (lA rfl .no Fx.ag249 (.u rfl) (fun _=>RdN.own .here) (fun _=>(by first|exact qE|exact qL|rfl)) ?_)))))))
 refine sw rfl (.u rfl) (.u rfl) rfl Fx.sz249 tk1 (by first|exact qE|exact qL|rfl) (by first|exact ba_one _ _|exact wa_one _ _|exact one_V _|decide|exact one_app (wa_one _ _) (by simp [Value.oneCell'])) ?_
 refine .nil (.code (.ret (We.fin0 Tryz.results126 (.cell rfl (fun w hw=>run_loadVarN Fx.ag249 (RdN.own .here) ((by first|exact qE|exact qL|rfl)) hw) .nil) ?_)))
 obtain rfl:k=8:=by omega
 exact ⟨rfl,by rw [ef,ba_congr (fun i hi=>nonce_outs n hi)]; rfl⟩
theorem nLay_ok (h:Hd) (G:PM):Ct Tryz.prog 61 ([.agg ([V h.kind,V h.level,uv .u64 h.gen,uv .u64 h.epoch,uv .u64 h.num]:List Value).toArray]:List Value).toArray G [] (PR 5 (fun L=>L=headL h)):=by
 refine Ct.of Tryz.func61 rfl Tryz.ntmps61 rfl fun w0 hs0=>?_
 refine .seq (rq2 rfl rfl ?_)
 refine bx rfl (.u rfl) rfl ?_; intro b1
 refine aS rfl rfl (.nil (.code (.seq (rq9 rfl rfl ?_))))
 refine Go.Tan.bN rfl Fx.se131 Fx.zv5 (Evp.cons (.u rfl) (Evp.cons (.u rfl) (Evp.cons (.u rfl) (Evp.cons (.u rfl) Evp.nil)))) rfl (by decide) (by simp [Value.oneCell',Sh.val]) ?_; intro b6
 refine mkS [116#8,97#8,110#8,116#8] rfl rfl Fx.cst131 (.u rfl) .here rfl rfl (by decide) ?_; intro G7 hG7 hs7
 refine fz rfl .no Fx.fo119_0 (.u rfl) (ld rfl .no Fx.ag5 (.u rfl) (fun _=>Rd.own .here (by first|exact wap_f rfl|rfl)) ?_)
 refine fz rfl .no Fx.fo119_1 (.u rfl) (ld rfl .no Fx.ag5 (.u rfl) (fun _=>Rd.own .here (by first|exact wap_f rfl|rfl)) ?_)
 refine Go.Tan.bN rfl Fx.se131 Fx.zv5 (Evp.cons (.u rfl) (Evp.cons (.u rfl) Evp.nil)) rfl (by decide) (one2 rfl rfl) ?_; intro b12
 refine apF (.inr rfl) rfl Fx.se131 Fx.zv5 (.u rfl) (.u rfl) hs7 rfl (Sc.blk (ys:=[h.kind,h.level]) .here rfl rfl) (by (try simp only [List.length_cons,List.length_nil]); omega) (by (try simp only [List.length_cons,List.length_nil]); omega) (by (try simp only [List.length_cons,List.length_nil]); omega) ?_; intro v13 L13 ov13 eL13
 have lL13:L13.length=[116#8,97#8,110#8,116#8].length+2:=by rw [eL13,List.length_append]; first|rfl | simp [yl_len]
 refine aS rfl rfl (.nil (.code (.seq (.seq (rq8 rfl rfl (fz rfl .no Fx.fo119_2 (.u rfl) (ld rfl .no Fx.ag41 (.u rfl) (fun _=>Rd.own tk2 (by first|exact wap_f rfl|rfl)) ?_)))))))
 refine fz rfl .no Fx.fo119_3 (.u rfl) (ld rfl .no Fx.ag41 (.u rfl) (fun _=>Rd.own tk2 (by first|exact wap_f rfl|rfl)) ?_)
 refine fz rfl .no Fx.fo119_4 (.u rfl) (ld rfl .no Fx.ag41 (.u rfl) (fun _=>Rd.own tk2 (by first|exact wap_f rfl|rfl)) ?_)
 refine bC rfl .no Fx.bp245_0_1_2 (.cons (.u rfl) rfl (.cons (.u rfl) rfl (.cons (.u rfl) rfl .nil))) rfl ?_
 refine mV rfl rfl (.nil (.code (.block ?_)))
 refine Wk.lop (α:=Nat×Value×List Y) (fun gh=>[(3,true,gh.2.1),(21,true,.int .i64 (gh.1:Int))]) (fun gh=>[rB gh.2.1 5 gh.2.2])
  (fun gh Gl=>(gh.1≤3)∧(gh.2.2=h.some gh.1)) (fun gh=>3-gh.1) (0,_,_) [(20,true,_)] [_,_]
  (esD rfl (esC rfl (by first|rfl|exact evi (by omega)) (esD rfl eZ)))
  (mS .here rfl (mS .here rfl (mS .here rfl mN))) ?_ ?_
 ·refine ⟨?_,?_⟩
  ·(try dsimp only)<;>(first|omega|rfl|assumption|(simp; done))
  (try dsimp only)<;>(rw [eL13]; rfl)
 intro gh N0 Gl0 hN0 hGl0 hF0
 obtain ⟨k,v,L⟩:=gh; dsimp only at hF0 hN0 ⊢
 obtain ⟨hk,eL⟩:=hF0
 have lL:L.length=6+8*k:=by rw [eL,Hd.some_len]
 refine .seq (rq1 rfl rfl (cp rfl .no (.u rfl) (.u rfl) rfl (.nil (.code (.seq (.cond rfl (fun c1=>?_) (fun c1=>?_)))))))
 ·have c1k:=c1
  try simp only [qcA,qcB] at c1
  refine .skip (.code (.seq (.block (.seq (rq2 rfl rfl (ix rfl .no Fx.ar245 Fx.ag41 (.u rfl) (.u rfl) (fun _=>by omega) (fun _=>by omega) (fun _=>Hd.three_at (by omega)) ?_))))))
  refine aS rfl rfl (.nil (.code ?_))
  refine wk_fb .here (by first|(intro b hb; cases hb; done) | simp [keys,Res.keys]) ?_; intro GfR13 hR13 hleR13 evR13 hsR13; subst evR13
  refine rq4 rfl rfl (mV rfl rfl (mV rfl rfl (kc rfl Fx.go59 (Evc rfl (Evc rfl (Evc rfl Evn))) (Ct.rowc (Fix_ok L _ _ 8 _ hsR13 (by omega) (by decide))) ?_)))
  rintro v26 G26 μ26 hG26 ⟨L26,ov26,eL26,rfl⟩
  refine aS rfl rfl (.nil (.blk (.code (rq2 rfl rfl (arn (((k+1):Nat):Int) rfl .no (.u rfl) (.u rfl) rfl (fun _=>by omega) (fun _=>wrap_i64 (by omega) (by omega)) ?_)))))
  refine mV rfl rfl (.nil (We.lpo (k+1,v26,L26) ?_ ?_ ?_ ?_ ?_))
  ·exact (esD rfl (esC rfl (by first|rfl|exact evi (by omega)) (esD rfl eZ)))
  ·exact (mS .here rfl (mS .here rfl (mS .here rfl mN)))
  ·first|omega|(dsimp only; omega)
  ·exact ((hGl0).trans hleR13).trans hG26
  refine ⟨?_,?_⟩
  ·(try dsimp only)<;>(first|omega|rfl|assumption|(simp; done))
  (try dsimp only)<;>(rw [eL26,eL,Hd.some_succ]; rfl)
 have c1k:=c1
 try simp only [qcA,qcB] at c1
 refine .exit (.xcode (.xlp (.xblk (.code (.seq (rq2 rfl rfl (mV rfl rfl (aS rfl rfl (.nil (.code (.ret (We.fin Tryz.results61 (.tmp rfl .nil) (mS .here rfl mN) ?_))))))))))))
 obtain rfl:k=3:=by omega
 exact ⟨L,by rw [eL,Hd.some_all],rfl⟩
theorem mac1_ok {G:PM} {b T:Nat} {hk h1:Sh} {key L1:List Y} (hle:PM.le G (G.add b (cl [h1.val L1.length] T))) (hsk:SlR G 1 encY hk key) (hs:SlR G 1 encY h1 L1) (hK:RdNP G 0 0 (wa 64 kW)) (hlk:key.length≤140737488351232) (hl:L1.length≤1000000000000000) :
  Ct Tryz.prog 214 ([hk.val key.length,.slice (some ⟨b,0,none⟩) 1 1]:List Value).toArray (G.add b (cl [h1.val L1.length] T)) [] (fun _ μ' u=>μ'=[]∧u=.agg (ba 32 (macL key L1)).toArray):=by
 have h:=macSum_ok key hk [(h1,L1)] ⟨some ⟨b,0,none⟩,1⟩ _ (hsk.mono hle) (SlP.one hle hs) (hK.mono hle) hlk (by simpa [catL] using hl) (by simp)
 rw [show catL [(h1,L1)]=L1 by simp [catL]] at h
 exact h
theorem Extract_ok (salt:List Y) (hk:Sh) (xs:List Y) (h:Sh) (G:PM) (hsk:SlR G 1 encY hk salt) (hs:SlR G 1 encY h xs) (hK:RdNP G 0 0 (wa 64 kW)) (hlk:salt.length≤140737488351232) (hl:xs.length≤1000000000000000):Ct Tryz.prog 215 ([hk.val salt.length,h.val xs.length]:List Value).toArray G [] (fun _ μ' u=>μ'=[]∧u=.agg (ba 32 (macL salt xs)).toArray):=by
 refine Ct.of Tryz.func215 rfl Tryz.ntmps215 rfl fun w0 hs0=>?_
 refine .seq (rq1 rfl rfl ?_)
 refine al rfl Fx.zq71 ?_; intro b4
 refine .nil (.code (.seq (rq5 rfl rfl (mV rfl rfl (mV rfl rfl ?_)))))
 refine Go.Tan.b1 rfl Fx.se150 Fx.zv131 (.u rfl) rfl rfl (by decide) ?_; intro b7
 refine kp rfl .no Fx.go214 (Evc rfl (Evc rfl Evn)) (Gp.add .here Gp.nil) (fun _ hle hq=>mac1_ok hle hsk hs hK hlk hl) ?_
 refine sw rfl (.u rfl) (.u rfl) rfl Fx.sz71 tk1 (by first|exact qE|exact qL|rfl) (by first|exact ba_one _ _|exact wa_one _ _|exact one_V _|decide|exact one_app (wa_one _ _) (by simp [Value.oneCell'])) ?_
 refine .nil (.code (.ret (We.fin0 Tryz.results215 (.cell rfl (fun w hw=>run_loadVarN Fx.ag71 (RdN.own .here) ((by first|exact qE|exact qL|rfl)) hw) .nil) ?_)))
 exact ⟨rfl,rfl⟩
theorem SlP.three {G:PM} {b T:Nat} {h1 h2 h3:Sh} {L1 L2 L3:List Y} (hle:PM.le G (G.add b (cl [h1.val L1.length,h2.val L2.length,h3.val L3.length] T))) (hs:SlR G 1 encY h1 L1) (hs2:SlR G 1 encY h2 L2) (hs3:SlR G 1 encY h3 L3) :
  SlP (G.add b (cl [h1.val L1.length,h2.val L2.length,h3.val L3.length] T)) ⟨some ⟨b,0,none⟩,3⟩ [(h1,L1),(h2,L2),(h3,L3)] :=
 ⟨SlR.ofBlk (T:=T) (PM.add_same _ _ _) (fun _ _=>rfl) (by simp),fun p hp=>by
  simp only [List.mem_cons,List.not_mem_nil,or_false] at hp
  rcases hp with rfl|rfl|rfl
  ·exact hs.mono hle
  ·exact hs2.mono hle
  ·exact hs3.mono hle⟩
theorem mac3_row {G:PM} {b c T T' E lo:Nat} {hk hu s:Sh} {key use L:List Y} {y:Y} (hsk:SlR G 1 encY hk key) (hsu:SlR G 1 encY hu use) (hK:RdNP G 0 0 (wa 64 kW)) (hlo:lo≤L.length) (hlk:key.length≤140737488351232) (hl:L.length+use.length≤100000000000000) :
  Ct Tryz.prog 214 ([hk.val key.length,.slice (some ⟨c,0,none⟩) 3 3]:List Value).toArray G [rB (s.val L.length) E L,.blk b (cl [V y] T),.blk c (cl [(s.cut lo 1).val (L.length-lo),hu.val use.length,.slice (some ⟨b,0,none⟩) 1 1] T')]
   (fun _ μ' u=>∃ ν,μ'=rB (s.val L.length) E L :: ν∧∃ ν2,ν=.blk b (cl [V y] T) :: ν2∧∃ ν3,ν2=.blk c (cl [(s.cut lo 1).val (L.length-lo),hu.val use.length,.slice (some ⟨b,0,none⟩) 1 1] T') :: ν3∧ν3=[]∧u=.agg (ba 32 (macL key (L.drop lo++use++[y]))).toArray) :=
 Ct.lendB (fun s' G2 hle hv hs=>Ct.lendK (fun h1=>Ct.lendK (fun h2=>by
  obtain rfl:=Sh.val_inj hv
  have e1:SlR G2 1 encY (s.cut lo 1) (L.drop lo):=by
   have:=hs.cutn (lo:=lo) (m:=L.length-lo) (by omega)
   rwa [List.take_of_length_le (by simp)] at this
  have e2:SlR (G2.add b (cl [V y] T)) 1 encY ⟨some ⟨b,0,none⟩,1⟩ [y]:=SlR.ofBlk (T:=T) (PM.add_same _ _ _) (fun _ _=>rfl) (by simp)
  have e3:L.length-lo=(L.drop lo).length:=by simp
  rw [e3] at h2 ⊢
  have hP:=SlP.three (h1:=s.cut lo 1) (h2:=hu) (h3:=⟨some ⟨b,0,none⟩,1⟩) h2 (e1.mono h1) ((hsu.mono hle).mono h1) e2
  have h:=macSum_ok key hk _ ⟨some ⟨c,0,none⟩,3⟩ _ (((hsk.mono hle).mono h1).mono h2) hP (((hK.mono hle).mono h1).mono h2) hlk (by simp [catL]; omega) (by simp)
  rw [show catL [((s.cut lo 1),L.drop lo),(hu,use),((⟨some ⟨b,0,none⟩,1⟩ : Sh),[y])]=L.drop lo++use++[y] by simp [catL]] at h
  exact h)))
theorem Expand_ok (key:List Y) (hk:Sh) (use:List Y) (hu:Sh) (G:PM) (hsk:SlR G 1 encY hk key) (hsu:SlR G 1 encY hu use) (hK:RdNP G 0 0 (wa 64 kW)) (hlk:key.length≤1000) (hl:use.length≤1000000):Ct Tryz.prog 216 ([hk.val key.length,hu.val use.length,.int .i64 ((64:Nat):Int)]:List Value).toArray G [] (fun G' μ' u=>∃ s L,L=expL key use 2∧μ'=[]∧u=.tuple #[s.val L.length,.int .i64 0]∧SlR G' 1 encY s L):=by
 refine Ct.of Tryz.func216 rfl Tryz.ntmps216 rfl fun w0 hs0=>?_
 refine .seq (rq2 rfl rfl (aS rfl rfl (aS rfl rfl (.nil (.code (.seq (.seq (rq6 rfl rfl (mV rfl rfl (cp rfl .no (.u rfl) (.u rfl) rfl (mV rfl rfl (mv rfl (.f rfl rfl) (.u rfl) (cp rfl (.f rfl rfl) (.s rfl) (.u rfl) rfl (pkO rfl .no (.u rfl) (.s rfl) (.nil (.code (.cond rfl (fun c1=>?_) (fun c1=>?_))))))))))))))))))
 ·have c1k:=c1
  exact absurd c1 (by decide)
 have c1k:=c1
 try simp only [qcA,qcB] at c1
 refine .skip (.code (.seq (rq4 rfl rfl (mV rfl rfl (arn (((64+32):Nat):Int) rfl .no (.u rfl) (.u rfl) rfl (fun _=>by omega) (fun _=>wrap_i64 (by omega) (by omega)) ?_)))))
 refine mkY (0) ((64+32)) rfl Fx.se131 Fx.zv5 (.u rfl) (.u rfl) (by first|rfl|omega) (by first|rfl|omega) (by omega) (by omega) ?_; intro b19
 have lR19:(List.replicate (0) (0#8:Y)).length=0:=List.length_replicate
 refine aS rfl rfl (.nil (.code (.seq (.seq (rq1 rfl rfl (aS rfl rfl (.nil (.code (.block ?_)))))))))
 refine Wk.lop (α:=Nat×Value×List Y) (fun gh=>[(8,true,gh.2.1),(9,true,V (BitVec.ofNat 8 (gh.1+1)))]) (fun gh=>[rB gh.2.1 5 gh.2.2])
  (fun gh Gl=>(gh.1≤2)∧(gh.2.2=expL key use gh.1)) (fun gh=>2-gh.1) (0,_,_) [(0,true,_),(1,true,_),(2,true,_)] []
  (esD rfl (esD rfl (esD rfl (esD rfl (esD rfl eZ)))))
  (mS .here rfl mN) ?_ ?_
 ·refine ⟨?_,?_⟩
  ·(try dsimp only)<;>(first|omega|rfl|assumption|(simp; done))
  (try dsimp only)<;>(rfl)
 intro gh N0 Gl0 hN0 hGl0 hF0
 obtain ⟨j,v,L⟩:=gh; dsimp only at hF0 hN0 ⊢
 obtain ⟨hj,eL⟩:=hF0
 have hsk:=hsk.mono hGl0
 have hsu:=hsu.mono hGl0
 have hK:=hK.mono hGl0
 have lL:L.length=32*j:=by rw [eL,exp_len]
 refine .seq (.seq (rq4 rfl rfl (mV rfl rfl (lr rfl .no Fx.sn131 (.u rfl) .here ?_))))
 refine mV rfl rfl (cp rfl .no (.u rfl) (.u rfl) rfl (.nil (.code (.cond rfl (fun c2=>?_) (fun c2=>?_)))))
 ·have c2k:=c2
  try simp only [qcA,qcB] at c2
  refine .skip (.code (.seq (.block (.seq ?_))))
  refine wk_rs .here ?_; intro sR19 bbR19 evR19 lcR19 oaR19; subst evR19
  refine Wk.rg [0,1,2,3,4,5,6,7,8,9,10,11,12,13] rfl rfl (mV rfl rfl (mV rfl rfl (mV rfl rfl (lr rfl .no Fx.sn131 (.u rfl) .here ?_))))
  refine ar rfl .no (.u rfl) (.u rfl) rfl (fun _=>wrap_i64 (by omega) (by omega)) ?_
  refine mAq ((32*j-32:Nat):Int) rfl (.u rfl) (.u rfl) (by split<;>omega) ?_
  refine sd rfl .no Fx.se131 (.u rfl) (.u rfl) (fun _=>by omega) (fun _=>by omega) ?_
  refine mV rfl rfl (mV rfl rfl ?_)
  refine Go.Tan.b1 rfl Fx.se131 Fx.zv5 (.u rfl) rfl rfl (by decide) ?_; intro b35
  refine Go.Tan.bN rfl Fx.se150 Fx.zv131 (Evp.cons (.u rfl) (Evp.cons (.u rfl) (Evp.cons (.u rfl) Evp.nil))) rfl (by decide) (by simp [Value.oneCell',Sh.val]) ?_; intro b36
  refine ka rfl (.inr rfl) Fx.go214 (Evc rfl (Evc rfl Evn)) (mtk3 tk2 tk1 .here) (mac3_row (lo:=32*j-32) hsk hsu hK (by omega) (by omega) (by omega)) ?_
  rintro _ G37 μ37 hG37 ⟨_,rfl,_,rfl,_,rfl,rfl,rfl⟩
  refine al rfl Fx.zq71 ?_; intro b10
  refine sw rfl (.u rfl) (.u rfl) rfl Fx.sz71 .here (by first|exact qE|exact qL|rfl) (by first|exact ba_one _ _|exact wa_one _ _|exact one_V _|decide|exact one_app (wa_one _ _) (by simp [Value.oneCell'])) ?_
  refine .nil (.code (rq4 rfl rfl (mV rfl rfl (sa0 rfl .no Fx.ar71 (.u rfl) (apY rfl Fx.se131 Fx.zv5 (.u rfl) (.u rfl) tk1 (Sc.arr .here) (by (try simp only [qlA,yl_len]); omega) ?_)))))
  intro v40 L40 ov40 eL40
  have lL40:L40.length=L.length+32:=by rw [eL40,List.length_append]; first|rfl | simp [yl_len]
  refine aS rfl rfl (.nil (.blk (.code (rq3 rfl rfl (mV rfl rfl (bw (k:=.u8) (b:=1#8) rfl .no rfl (.u rfl) (.u rfl) rfl (aS rfl rfl (.nil (We.lpo (j+1,v40,L40) ?_ ?_ ?_ ?_ ?_)))))))))
  ·exact (esD rfl (esC rfl (by show V (BitVec.ofNat 8 (j+1)+1#8)=_; rw [← BitVec.ofNat_add]) (esD rfl (esD rfl (esD rfl eZ)))))
  ·exact (mS .here rfl mN)
  ·first|omega|(dsimp only; omega)
  ·exact (hGl0).trans hG37
  refine ⟨?_,?_⟩
  ·(try dsimp only)<;>(first|omega|rfl|assumption|(simp; done))
  (try dsimp only)<;>(rw [eL40,eL,exp_last]; rfl)
 have c2k:=c2
 try simp only [qcA,qcB] at c2
 refine .exit (.xcode (.xlp (.xblk (.code (.seq ?_)))))
 refine wk_fb .here (by first|(intro b hb; cases hb; done) | simp [keys,Res.keys]) ?_; intro GfR19 hR19 hleR19 evR19 hsR19; subst evR19
 refine rq6 rfl rfl (mV rfl rfl (mV rfl rfl (mV rfl rfl ?_)))
 refine kM 64 rfl Fx.se131 hsR19 (.u rfl) (.u rfl) (.u rfl) (by omega) ?_; intro h44 L44 eL44 lL44 hs44
 refine aS rfl rfl (aS rfl rfl (.nil (.code (.ret (We.fin0 Tryz.results216 (.tmp rfl (.tmp rfl .nil)) ?_)))))
 obtain rfl:j=2:=by omega
 exact ⟨h44,L44,by rw [eL44,eL]; exact List.take_of_length_le (by rw [exp_len]; omega),rfl,rfl,hs44⟩
namespace Fx
theorem zq207:zrL Tryz.prog 207=some (ba 32 (fun _=>0#8)++ba 32 (fun _=>0#8)):=by kernel_rfl
theorem go215:goFn Tryz.prog 215=true:=by kernel_rfl
theorem go216:goFn Tryz.prog 216=true:=by kernel_rfl
theorem bp207_0_1:bPl Tryz.prog 207 [0,1]=some (ba 32 (fun _=>0#8)++ba 32 (fun _=>0#8),[(0,32),(32,32)]):=by kernel_rfl
theorem sz207:szT Tryz.prog 207=some 64:=by kernel_rfl
theorem ag119:aggN Tryz.prog 119=some (some 5):=by kernel_rfl
theorem go61:goFn Tryz.prog 61=true:=by kernel_rfl
theorem go177:goFn Tryz.prog 177=true:=by kernel_rfl
end Fx
theorem Derive_ok (root:Nat→Y) (use:List Y) (hu:Sh) (G:PM) (hsu:SlR G 1 encY hu use) (hK:RdNP G 0 0 (wa 64 kW)) (hl:use.length≤1000000):Ct Tryz.prog 177 ([.agg (ba 32 root).toArray,hu.val use.length]:List Value).toArray G [] (fun _ μ' u=>μ'=[]∧u=.agg (ba 32 (keyEnc root use)++ba 32 (keyMac root use)).toArray):=by
 refine Ct.of Tryz.func177 rfl Tryz.ntmps177 rfl fun w0 hs0=>?_
 refine .seq (rq2 rfl rfl ?_)
 refine bx rfl (.u rfl) rfl ?_; intro b2
 refine al rfl Fx.zq207 ?_; intro b4
 refine .nil (.code (.seq ?_))
 refine wk_fz tk1 (by intro b hb; cases hb) ?_; intro Gfb2 hleb2 hbb2
 have hsu:=hsu.mono hleb2
 have hK:=hK.mono hleb2
 refine rq6 rfl rfl ?_
 refine Go.Tan.bN rfl Fx.se131 Fx.zv5 (Evp.cons (.u rfl) (Evp.cons (.u rfl) (Evp.cons (.u rfl) (Evp.cons (.u rfl) (Evp.cons (.u rfl) (Evp.cons (.u rfl) (Evp.cons (.u rfl) (Evp.cons (.u rfl) Evp.nil)))))))) rfl (by decide) (by simp [Value.oneCell',Sh.val]) ?_; intro b8
 refine mkS saltL rfl rfl Fx.cst131 (.u rfl) .here rfl rfl (by decide) ?_; intro G9 hG9 hs9
 have hsu:=hsu.mono hG9
 have hK:=hK.mono hG9
 have hbb2:=hbb2.mono hG9
 refine kA rfl .no Fx.ar71 (.u rfl) hbb2 (by first|exact ba_all|exact app_l|exact app_r) ?_; intro h10 L10 eL10 lL10 hs10
 refine kv rfl .no Fx.go215 (Evc rfl (Evc rfl Evn)) (fun _=>Extract_ok saltL _ L10 h10 _ hs9 hs10 hK (by decide) (by omega)) ?_
 refine al rfl Fx.zq71 ?_; intro b5
 refine sw rfl (.u rfl) (.u rfl) rfl Fx.sz71 .here (by first|exact qE|exact qL|rfl) (by first|exact ba_one _ _|exact wa_one _ _|exact one_V _|decide|exact one_app (wa_one _ _) (by simp [Value.oneCell'])) ?_
 refine .nil (.code (.seq ?_))
 refine wk_fz .here (by intro b hb; cases hb) ?_; intro Gfb5 hleb5 hbb5
 have hsu:=hsu.mono hleb5
 have hK:=hK.mono hleb5
 refine rq8 rfl rfl ?_
 refine kA rfl .no Fx.ar71 (.u rfl) hbb5 (by first|exact ba_all|exact app_l|exact app_r) ?_; intro h13 L13 eL13 lL13 hs13
 refine mV rfl rfl (kc rfl Fx.go216 (Evc rfl (Evc rfl (Evc rfl Evn))) (Expand_ok L13 h13 use hu _ hs13 hsu hK (by omega) hl) ?_)
 rintro _ G15 μ15 hG15 ⟨h15,L15,eL15,rfl,rfl,hs15⟩
 refine mV rfl rfl (ex rfl .no (.u rfl) rfl (ex rfl .no (.u rfl) rfl (aS rfl rfl ?_)))
 have lL15:L15.length=64:=by rw [eL15,exp_len]
 refine aS rfl rfl (.nil (.code (.seq (Wk.draw (mc:=⟨false,false⟩) [0,1,2,3,4,5,6,7,8,9] Fx.mix (by kernel_rfl) ?_))))
 refine mV rfl rfl (kE (32) rfl .no Fx.se131 hs15 (.u rfl) (.u rfl) (fun _=>by omega) (fun _=>by omega) ?_)
 intro h19 L19 eL19 lL19 hs19
 have lL19:=lL19 rfl
 refine spS rfl .no Fx.ar70 hs19 (.u rfl) (fun _=>by omega) (by decide) ?_
 refine lA rfl .no Fx.ag70 (.u rfl) (fun _=>(hs19.arr (m:=32) (by omega)).rd) (fun _=>ba_len _ _) ?_
 refine mV rfl rfl (kD (32) rfl .no Fx.se131 hs15 (.u rfl) (.u rfl) (fun _=>by omega) (fun _=>by omega) ?_)
 intro h23 L23 eL23 lL23 hs23
 have lL23:=lL23 rfl
 refine spS rfl .no Fx.ar70 hs23 (.u rfl) (fun _=>by omega) (by decide) ?_
 refine lA rfl .no Fx.ag70 (.u rfl) (fun _=>(hs23.arr (m:=32) (by omega)).rd) (fun _=>ba_len _ _) ?_
 refine bCe (ba 32 (fun i=>L19.getD i 0)++ba 32 (fun i=>L23.getD i 0)) rfl .no Fx.bp207_0_1 (.cons (.u rfl) rfl (.cons (.u rfl) rfl .nil)) rfl (key_put (by decide) _ _) ?_
 refine sw rfl (.u rfl) (.u rfl) rfl Fx.sz207 .here (by first|exact qE|exact qL|rfl) (key_one _ _) ?_
 refine .nil (.code (.ret (We.fin0 Tryz.results177 (.cell rfl (fun w hw=>run_loadVarN Fx.ag207 (RdN.own .here) ((by first|exact qE|exact qL|rfl)) hw) .nil) ?_)))
 have e:L15=deriveL root use:=by rw [eL15,eL13,eL10]; rfl
 exact ⟨rfl,congrArg (fun z=>Value.agg (List.toArray z)) (key_cells e eL19 eL23)⟩
theorem KeyOf_ok (root:Nat→Y) (h:Hd) (G:PM) (hK:RdNP G 0 0 (wa 64 kW)):Ct Tryz.prog 125 ([.agg (ba 32 root).toArray,.agg ([V h.kind,V h.level,uv .u64 h.gen,uv .u64 h.epoch,uv .u64 h.num]:List Value).toArray]:List Value).toArray G [] (fun _ μ' u=>μ'=[]∧u=.agg (ba 32 (keyEnc root (headL h))++ba 32 (keyMac root (headL h))).toArray):=by
 refine Ct.of Tryz.func125 rfl Tryz.ntmps125 rfl fun w0 hs0=>?_
 refine .seq (rq3 rfl rfl ?_)
 refine bx rfl (.u rfl) rfl ?_; intro b2
 refine bx rfl (.u rfl) rfl ?_; intro b3
 refine al rfl Fx.zq207 ?_; intro b4
 refine .nil (.code (.seq (Wk.draw (mc:=⟨false,false⟩) [0,1,2,3,4] Fx.mix (by kernel_rfl) ?_)))
 refine lA rfl .no Fx.ag71 (.u rfl) (fun _=>RdN.own tk2) (fun _=>(by first|exact qE|exact qL|rfl)) ?_
 refine lA rfl .no Fx.ag119 (.u rfl) (fun _=>RdN.own tk1) (fun _=>(by first|exact qE|exact qL|rfl)) ?_
 refine kc rfl Fx.go61 (Evc rfl Evn) (Ct.frzB (nLay_ok h _)) ?_
 rintro _ G7 μ7 hG7 ⟨h7,L7,eL7,rfl,rfl,hs7⟩
 have hK:=hK.mono hG7
 refine kv rfl .no Fx.go177 (Evc rfl (Evc rfl Evn)) (fun _=>Derive_ok root L7 h7 _ hs7 hK (by rw [eL7,head_len]; decide)) ?_
 refine sw rfl (.u rfl) (.u rfl) rfl Fx.sz207 .here (by first|exact qE|exact qL|rfl) (key_one _ _) ?_
 refine .nil (.code (.ret (We.fin0 Tryz.results125 (.cell rfl (fun w hw=>run_loadVarN Fx.ag207 (RdN.own .here) ((by first|exact qE|exact qL|rfl)) hw) .nil) ?_)))
 subst eL7
 exact ⟨rfl,rfl⟩
namespace Fx
theorem go125:goFn Tryz.prog 125=true:=by kernel_rfl
theorem go126:goFn Tryz.prog 126=true:=by kernel_rfl
theorem go124:goFn Tryz.prog 124=true:=by kernel_rfl
theorem go127:goFn Tryz.prog 127=true:=by kernel_rfl
end Fx
theorem wLay_ok (root:Nat→Y) (h:Hd) (n:BitVec 64) (p:List Y) (hp:Sh) (G:PM) (hs:SlR G 1 encY hp p) (hK:RdNP G 0 0 (wa 64 kW)):Ct Tryz.prog 62 ([.agg (ba 32 root).toArray,.agg ([V h.kind,V h.level,uv .u64 h.gen,uv .u64 h.epoch,uv .u64 h.num]:List Value).toArray,uv .u64 n,hp.val p.length]:List Value).toArray G [] (fun _ μ' u=>∃ v L e,(L,e)=layP root h n p∧μ'=[rB v 5 L]∧u=.tuple #[v,.int .i64 e]):=by
 refine Ct.of Tryz.func62 rfl Tryz.ntmps62 rfl fun w0 hs0=>?_
 refine .seq (rq4 rfl rfl ?_)
 refine bx rfl (.u rfl) rfl ?_; intro b4
 refine bx rfl (.u rfl) rfl ?_; intro b5
 refine aS rfl rfl (aS rfl rfl (.nil (.code (.seq (.seq (rq3 rfl rfl (mV rfl rfl (ln rfl .no Fx.sn131 (.u rfl) (cp rfl .no (.u rfl) (.u rfl) rfl (.nil (.code (.cond rfl (fun c1=>?_) (fun c1=>?_)))))))))))))
 ·have c1k:=c1
  try simp only [qcA,qcC,qcB] at c1
  refine .seq (rq2 rfl rfl (aS rfl rfl (aS rfl rfl (.nil (.code (.ret (we_nilB 5 ?_)))))))
  refine We.fin Tryz.results62 (.tmp rfl (.tmp rfl .nil)) (mS .here rfl mN) ?_
  exact ⟨_,[],4,lay_long (by omega),rfl,rfl⟩
 have c1k:=c1
 try simp only [qcA,qcC,qcB] at c1
 refine .skip (.code (.seq (Wk.draw (mc:=⟨false,false⟩) [0,1,3,5,7,2,4,6,8,9] Fx.mix (by kernel_rfl) ?_)))
 refine lA rfl .no Fx.ag71 (.u rfl) (fun _=>RdN.own tk1) (fun _=>(by first|exact qE|exact qL|rfl)) ?_
 refine lA rfl .no Fx.ag119 (.u rfl) (fun _=>RdN.own .here) (fun _=>(by first|exact qE|exact qL|rfl)) ?_
 refine mV rfl rfl (lA rfl .no Fx.ag119 (.u rfl) (fun _=>RdN.own .here) (fun _=>(by first|exact qE|exact qL|rfl)) ?_)
 refine mV rfl rfl (kv rfl .no Fx.go125 (Evc rfl (Evc rfl Evn)) (fun _=>KeyOf_ok root h _ hK) ?_)
 refine kv rfl .no Fx.go126 (Evc rfl Evn) (fun _=>Nonce_ok _ _) ?_
 refine kc rfl Fx.go61 (Evc rfl Evn) (Ct.frzB (nLay_ok h _)) ?_
 rintro _ G25 μ25 hG25 ⟨h25,L25,eL25,rfl,rfl,hs25⟩
 have hs:=hs.mono hG25
 have hK:=hK.mono hG25
 refine kc rfl Fx.go124 (Evc rfl (Evc rfl (Evc rfl (Evc rfl Evn)))) (Ct.rowc (Seal_ok (keyEnc root (headL h)) (keyMac root (headL h)) (nonceF n) L25 h25 p hp _ hs25 hs hK (by rw [eL25,head_len]; decide) (by omega))) ?_
 rintro v27 G27 μ27 hG27 ⟨L27,ov27,eL27,rfl⟩
 refine aS rfl rfl (.nil ?_)
 have lL27:L27.length=p.length+16:=by rw [eL27,seal_len]
 refine .code (.seq ?_)
 refine wk_fb .here (by first|(intro b hb; cases hb; done) | simp [keys,Res.keys]) ?_; intro GfR27 hR27 hleR27 evR27 hsR27; subst evR27
 refine rq1 rfl rfl (aS rfl rfl (.nil (.code (.seq (.seq (wk_nilB 5 ?_))))))
 refine rq1 rfl rfl (aS rfl rfl (.nil (.code (.block ?_))))
 refine Wk.lop (α:=Nat×Sh×List Y×Value×List Y) (fun gh=>[(10,true,gh.2.1.val gh.2.2.1.length),(11,true,gh.2.2.2.1),(12,true,.bool (decide (gh.1=0)))]) (fun gh=>[rB gh.2.2.2.1 5 gh.2.2.2.2])
  (fun gh Gl=>(SlR Gl 1 encY gh.2.1 gh.2.2.1)∧(gh.2.2.1=L27.drop (128*gh.1))∧(gh.2.2.2.2=outL L27 gh.1)∧(128*gh.1≤L27.length+127)) (fun gh=>gh.2.2.1.length) (0,_,_,.slice none 0 0,[]) [] [_,_]
  (esD rfl (esD rfl (esD rfl eZ)))
  (mS .here rfl (mS .here rfl (mS .here rfl mN))) ?_ ?_
 ·refine ⟨?_,?_,?_,?_⟩
  ·(try dsimp only)<;>(exact hsR27)
  ·(try dsimp only)<;>(rfl)
  ·(try dsimp only)<;>(rfl)
  (try dsimp only)<;>(first|omega|rfl|assumption|(simp; done))
 intro gh N0 Gl0 hN0 hGl0 hF0
 obtain ⟨j,r,M,v,O⟩:=gh; dsimp only at hF0 hN0 ⊢
 obtain ⟨hr,eM,eO,hj⟩:=hF0
 have lM:M.length=L27.length-128*j:=by rw [eM]; simp
 have lO9:=out_len L27 j
 rw [← eO] at lO9
 refine .seq (.seq (rq3 rfl rfl (mV rfl rfl (ln rfl .no Fx.sn131 (.u rfl) (cp rfl .no (.u rfl) (.u rfl) rfl (.nil (.code (.cond rfl (fun c2=>?_) (fun c2=>?_)))))))))
 ·have c2k:=c2
  try simp only [qcA,qcC,qcB] at c2
  refine .skip (.code (.seq (.block (.seq (rq4 rfl rfl (mV rfl rfl (ln rfl .no Fx.sn131 (.u rfl) (mIn (M.length) (128) rfl .no (.u rfl) (.u rfl) (fun _=>by omega) (fun _=>by omega) ?_))))))))
  refine aS rfl rfl (.nil (.code (.seq (rq1 rfl rfl (aS rfl rfl (.nil (.code (.seq (.seq (rq5 rfl rfl (mV rfl rfl (mV rfl rfl (ln rfl .no Fx.sn131 (.u rfl) (cp rfl .no (.u rfl) (.u rfl) rfl (aS rfl rfl (.nil (.code (.block (.seq (rq5 rfl rfl (mV rfl rfl (mV rfl rfl (mv rfl (.t rfl rfl) (.u rfl) (pkA rfl .no (.u rfl) (.s rfl) (aS rfl rfl (.nil (.code (.cond rfl (fun c3=>?_) (fun c3=>?_)))))))))))))))))))))))))))))
  ·have c3k:=c3
   try simp only [qcA,qcC,qcB] at c3
   refine rq1 rfl rfl (aS rfl rfl (.nil (.blk (.code (.seq (Wk.draw (mc:=⟨false,false⟩) [0,1,2,3,4,7,8,9,5,6,10,11] Fx.mix (by kernel_rfl) ?_))))))
   refine mV rfl rfl (mV rfl rfl (mV rfl rfl (mV rfl rfl (kE ((min M.length 128)) rfl .no Fx.se131 hr (.u rfl) (.u rfl) (fun _=>by omega) (fun _=>by omega) ?_))))
   intro h51 L51 eL51 lL51 hs51
   have lL51:=lL51 rfl
   refine mV rfl rfl (mV rfl rfl (kE ((min M.length 128)) rfl .no Fx.se131 hr (.u rfl) (.u rfl) (fun _=>by omega) (fun _=>by omega) ?_))
   intro h56 L56 eL56 lL56 hs56
   have lL56:=lL56 rfl
   refine kc rfl Fx.go127 (Evc rfl (Evc rfl Evn)) (Ct.frzB (whead_ok 1#8 L51 h51 _ hs51 (by omega))) ?_
   rintro _ G52 μ52 hG52 ⟨h52,L52,eL52,rfl,rfl,hs52⟩
   have hr:=hr.mono hG52
   have hs51:=hs51.mono hG52
   have hs56:=hs56.mono hG52
   have lL52:L52.length=7:=by rw [eL52]; exact frame_len _ _
   refine apY rfl Fx.se131 Fx.zv5 (.u rfl) (.u rfl) .here hs52.sc (by (try simp only [qlA,yl_len]); omega) ?_
   intro v53 L53 ov53 eL53
   have lL53:L53.length=O.length+L52.length:=by rw [eL53,List.length_append]
   refine apY rfl Fx.se131 Fx.zv5 (.u rfl) (.u rfl) .here hs56.sc (by (try simp only [qlA,yl_len]); omega) ?_
   intro v57 L57 ov57 eL57
   have lL57:L57.length=L53.length+L56.length:=by rw [eL57,List.length_append]
   refine aS rfl rfl (.nil (.code (rq4 rfl rfl (mV rfl rfl (mV rfl rfl (kD ((min M.length 128)) rfl .no Fx.se131 hr (.u rfl) (.u rfl) (fun _=>by omega) (fun _=>by omega) ?_))))))
   intro h60 L60 eL60 lL60 hs60
   have lL60:=lL60 rfl
   refine aS rfl rfl (.nil (.blk (.code (rq1 rfl rfl (aS rfl rfl (.nil (We.lpo (j+1,h60,L60,v57,L57) ?_ ?_ ?_ ?_ ?_)))))))
   ·exact (esD rfl (esD rfl (esC rfl (by simp) eZ)))
   ·exact (mS .here rfl (mS .here rfl (mS .here rfl mN)))
   ·first|omega|(dsimp only; omega)
   ·exact (hGl0).trans hG52
   refine ⟨?_,?_,?_,?_⟩
   ·(try dsimp only)<;>(exact hs60)
   ·(try dsimp only)<;>(rw [eL60,eM]; exact drop_step)
   ·(try dsimp only)<;>(exact rec_step eO eM eL51 eL56 eL52 eL53 eL57 (kind_full (by omega) (by omega)))
   (try dsimp only)<;>(first|omega|rfl|assumption|(simp; done))
  have c3k:=c3
  try simp only [qcA,qcC,qcB] at c3
  refine .seq (rq2 rfl rfl (mV rfl rfl (aS rfl rfl (.nil (.code (.cond rfl (fun c4=>?_) (fun c4=>?_)))))))
  ·have c4k:=c4
   try simp only [qcA,qcC,qcB] at c4
   refine rq1 rfl rfl (aS rfl rfl (.nil (.blk (.code (.seq (Wk.draw (mc:=⟨false,false⟩) [0,1,2,3,4,7,8,9,5,6,10,11] Fx.mix (by kernel_rfl) ?_))))))
   refine mV rfl rfl (mV rfl rfl (mV rfl rfl (mV rfl rfl (kE ((min M.length 128)) rfl .no Fx.se131 hr (.u rfl) (.u rfl) (fun _=>by omega) (fun _=>by omega) ?_))))
   intro h51 L51 eL51 lL51 hs51
   have lL51:=lL51 rfl
   refine mV rfl rfl (mV rfl rfl (kE ((min M.length 128)) rfl .no Fx.se131 hr (.u rfl) (.u rfl) (fun _=>by omega) (fun _=>by omega) ?_))
   intro h56 L56 eL56 lL56 hs56
   have lL56:=lL56 rfl
   refine kc rfl Fx.go127 (Evc rfl (Evc rfl Evn)) (Ct.frzB (whead_ok 2#8 L51 h51 _ hs51 (by omega))) ?_
   rintro _ G52 μ52 hG52 ⟨h52,L52,eL52,rfl,rfl,hs52⟩
   have hr:=hr.mono hG52
   have hs51:=hs51.mono hG52
   have hs56:=hs56.mono hG52
   have lL52:L52.length=7:=by rw [eL52]; exact frame_len _ _
   refine apY rfl Fx.se131 Fx.zv5 (.u rfl) (.u rfl) .here hs52.sc (by (try simp only [qlA,yl_len]); omega) ?_
   intro v53 L53 ov53 eL53
   have lL53:L53.length=O.length+L52.length:=by rw [eL53,List.length_append]
   refine apY rfl Fx.se131 Fx.zv5 (.u rfl) (.u rfl) .here hs56.sc (by (try simp only [qlA,yl_len]); omega) ?_
   intro v57 L57 ov57 eL57
   have lL57:L57.length=L53.length+L56.length:=by rw [eL57,List.length_append]
   refine aS rfl rfl (.nil (.code (rq4 rfl rfl (mV rfl rfl (mV rfl rfl (kD ((min M.length 128)) rfl .no Fx.se131 hr (.u rfl) (.u rfl) (fun _=>by omega) (fun _=>by omega) ?_))))))
   intro h60 L60 eL60 lL60 hs60
   have lL60:=lL60 rfl
   refine aS rfl rfl (.nil (.blk (.code (rq1 rfl rfl (aS rfl rfl (.nil (We.lpo (j+1,h60,L60,v57,L57) ?_ ?_ ?_ ?_ ?_)))))))
   ·exact (esD rfl (esD rfl (esC rfl (by simp) eZ)))
   ·exact (mS .here rfl (mS .here rfl (mS .here rfl mN)))
   ·first|omega|(dsimp only; omega)
   ·exact (hGl0).trans hG52
   refine ⟨?_,?_,?_,?_⟩
   ·(try dsimp only)<;>(exact hs60)
   ·(try dsimp only)<;>(rw [eL60,eM]; exact drop_step)
   ·(try dsimp only)<;>(exact rec_step eO eM eL51 eL56 eL52 eL53 eL57 (kind_first (by omega) (by omega)))
   (try dsimp only)<;>(first|omega|rfl|assumption|(simp; done))
  have c4k:=c4
  try simp only [qcA,qcC,qcB] at c4
  refine .seq (rq2 rfl rfl (mV rfl rfl (aS rfl rfl (.nil (.code (.cond rfl (fun c5=>?_) (fun c5=>?_)))))))
  ·have c5k:=c5
   try simp only [qcA,qcC,qcB] at c5
   refine rq1 rfl rfl (aS rfl rfl (.nil (.blk (.code (.seq (Wk.draw (mc:=⟨false,false⟩) [0,1,2,3,4,7,8,9,5,6,10,11] Fx.mix (by kernel_rfl) ?_))))))
   refine mV rfl rfl (mV rfl rfl (mV rfl rfl (mV rfl rfl (kE ((min M.length 128)) rfl .no Fx.se131 hr (.u rfl) (.u rfl) (fun _=>by omega) (fun _=>by omega) ?_))))
   intro h51 L51 eL51 lL51 hs51
   have lL51:=lL51 rfl
   refine mV rfl rfl (mV rfl rfl (kE ((min M.length 128)) rfl .no Fx.se131 hr (.u rfl) (.u rfl) (fun _=>by omega) (fun _=>by omega) ?_))
   intro h56 L56 eL56 lL56 hs56
   have lL56:=lL56 rfl
   refine kc rfl Fx.go127 (Evc rfl (Evc rfl Evn)) (Ct.frzB (whead_ok 4#8 L51 h51 _ hs51 (by omega))) ?_
   rintro _ G52 μ52 hG52 ⟨h52,L52,eL52,rfl,rfl,hs52⟩
   have hr:=hr.mono hG52
   have hs51:=hs51.mono hG52
   have hs56:=hs56.mono hG52
   have lL52:L52.length=7:=by rw [eL52]; exact frame_len _ _
   refine apY rfl Fx.se131 Fx.zv5 (.u rfl) (.u rfl) .here hs52.sc (by (try simp only [qlA,yl_len]); omega) ?_
   intro v53 L53 ov53 eL53
   have lL53:L53.length=O.length+L52.length:=by rw [eL53,List.length_append]
   refine apY rfl Fx.se131 Fx.zv5 (.u rfl) (.u rfl) .here hs56.sc (by (try simp only [qlA,yl_len]); omega) ?_
   intro v57 L57 ov57 eL57
   have lL57:L57.length=L53.length+L56.length:=by rw [eL57,List.length_append]
   refine aS rfl rfl (.nil (.code (rq4 rfl rfl (mV rfl rfl (mV rfl rfl (kD ((min M.length 128)) rfl .no Fx.se131 hr (.u rfl) (.u rfl) (fun _=>by omega) (fun _=>by omega) ?_))))))
   intro h60 L60 eL60 lL60 hs60
   have lL60:=lL60 rfl
   refine aS rfl rfl (.nil (.blk (.code (rq1 rfl rfl (aS rfl rfl (.nil (We.lpo (j+1,h60,L60,v57,L57) ?_ ?_ ?_ ?_ ?_)))))))
   ·exact (esD rfl (esD rfl (esC rfl (by simp) eZ)))
   ·exact (mS .here rfl (mS .here rfl (mS .here rfl mN)))
   ·first|omega|(dsimp only; omega)
   ·exact (hGl0).trans hG52
   refine ⟨?_,?_,?_,?_⟩
   ·(try dsimp only)<;>(exact hs60)
   ·(try dsimp only)<;>(rw [eL60,eM]; exact drop_step)
   ·(try dsimp only)<;>(exact rec_step eO eM eL51 eL56 eL52 eL53 eL57 (kind_last (by omega) (by omega)))
   (try dsimp only)<;>(first|omega|rfl|assumption|(simp; done))
  have c5k:=c5
  try simp only [qcA,qcC,qcB] at c5
  refine .skip (.blk (.code (.seq (Wk.draw (mc:=⟨false,false⟩) [0,1,2,3,4,7,8,9,5,6,10,11] Fx.mix (by kernel_rfl) ?_))))
  refine mV rfl rfl (mV rfl rfl (mV rfl rfl (mV rfl rfl (kE ((min M.length 128)) rfl .no Fx.se131 hr (.u rfl) (.u rfl) (fun _=>by omega) (fun _=>by omega) ?_))))
  intro h51 L51 eL51 lL51 hs51
  have lL51:=lL51 rfl
  refine mV rfl rfl (mV rfl rfl (kE ((min M.length 128)) rfl .no Fx.se131 hr (.u rfl) (.u rfl) (fun _=>by omega) (fun _=>by omega) ?_))
  intro h56 L56 eL56 lL56 hs56
  have lL56:=lL56 rfl
  refine kc rfl Fx.go127 (Evc rfl (Evc rfl Evn)) (Ct.frzB (whead_ok 3#8 L51 h51 _ hs51 (by omega))) ?_
  rintro _ G52 μ52 hG52 ⟨h52,L52,eL52,rfl,rfl,hs52⟩
  have hr:=hr.mono hG52
  have hs56:=hs56.mono hG52
  have lL52:L52.length=7:=by rw [eL52]; exact frame_len _ _
  refine apY rfl Fx.se131 Fx.zv5 (.u rfl) (.u rfl) .here hs52.sc (by (try simp only [qlA,yl_len]); omega) ?_
  intro v53 L53 ov53 eL53
  have lL53:L53.length=O.length+L52.length:=by rw [eL53,List.length_append]
  refine apY rfl Fx.se131 Fx.zv5 (.u rfl) (.u rfl) .here hs56.sc (by (try simp only [qlA,yl_len]); omega) ?_
  intro v57 L57 ov57 eL57
  have lL57:L57.length=L53.length+L56.length:=by rw [eL57,List.length_append]
  refine aS rfl rfl (.nil (.code (rq4 rfl rfl (mV rfl rfl (mV rfl rfl (kD ((min M.length 128)) rfl .no Fx.se131 hr (.u rfl) (.u rfl) (fun _=>by omega) (fun _=>by omega) ?_))))))
  intro h60 L60 eL60 lL60 hs60
  have lL60:=lL60 rfl
  refine aS rfl rfl (.nil (.blk (.code (rq1 rfl rfl (aS rfl rfl (.nil (We.lpo (j+1,h60,L60,v57,L57) ?_ ?_ ?_ ?_ ?_)))))))
  ·exact (esD rfl (esD rfl (esC rfl (by simp) eZ)))
  ·exact (mS .here rfl (mS .here rfl (mS .here rfl mN)))
  ·first|omega|(dsimp only; omega)
  ·exact (hGl0).trans hG52
  refine ⟨?_,?_,?_,?_⟩
  ·(try dsimp only)<;>(exact hs60)
  ·(try dsimp only)<;>(rw [eL60,eM]; exact drop_step)
  ·(try dsimp only)<;>(exact rec_step eO eM eL51 eL56 eL52 eL53 eL57 (kind_mid (by omega) (by omega)))
  (try dsimp only)<;>(first|omega|rfl|assumption|(simp; done))
 have c2k:=c2
 try simp only [qcA,qcC,qcB] at c2
 refine .exit (.xcode (.xlp (.xblk (.code (.seq (rq3 rfl rfl (mV rfl rfl (aS rfl rfl (aS rfl rfl (.nil (.code (.ret (We.fin Tryz.results62 (.tmp rfl (.tmp rfl .nil)) (mS .here rfl mN) ?_)))))))))))))
 exact ⟨v,O,0,lay_good (by omega) (by rw [eL27,eL25]) eO (by omega),rfl,rfl⟩
namespace FxGrP
theorem bs131_9:bsT Tryz.prog 131 9=true:=by kernel_rfl
end FxGrP
theorem dig_ok (n:BitVec 64) (G:PM) (hn:n.toNat<10):Ct Tryz.prog 102 ([uv .u64 n]:List Value).toArray G [] (fun _ μ' u=>μ'=[]∧u=.string (bstr (six n.toNat))):=by
 refine Ct.of Tryz.func102 rfl Tryz.ntmps102 rfl fun w0 hs0=>?_
 refine .seq (rq1 rfl rfl (aS rfl rfl (.nil (.code (.seq (wk_nilB 5 ?_))))))
 refine rq1 rfl rfl (aS rfl rfl (.nil (.code (.seq (.block ?_)))))
 refine Wk.lop (α:=Nat×Value) (fun gh=>[(0,true,uv .u64 (dgn n gh.1)),(3,true,gh.2)]) (fun gh=>[rB gh.2 5 (dgs n.toNat gh.1)])
  (fun gh Gl=>(gh.1≤6)) (fun gh=>6-gh.1) (0,.slice none 0 0) [] []
  (esD rfl (esD rfl eZ))
  (mS .here rfl mN) ?_ ?_
 ·(try dsimp only)<;>(first|omega|rfl|assumption|(simp; done))
 intro gh N0 Gl0 hN0 hGl0 hF0
 obtain ⟨k,v⟩:=gh; dsimp only at hF0 hN0 ⊢
 have hk:=hF0
 have hl:=dgs_len (d:=n.toNat) hk; have hz:k=0∨@BitVec.toNat IntKind.u64.bits (dgn n k)=0:=(Nat.eq_zero_or_pos k).imp id dgn_z
 refine .seq (.seq (rq7 rfl rfl (mV rfl rfl (cp rfl .no (.u rfl) (.u rfl) rfl (mV rfl rfl (mv rfl (.f rfl rfl) (.u rfl) (lr rfl (.f rfl rfl) Fx.sn131 (.s rfl) .here ?_)))))))
 refine cp rfl (.f rfl rfl) (.s rfl) (.u rfl) rfl (pkO rfl .no (.u rfl) (.s rfl) (.nil (.code (.cond rfl (fun c1=>?_) (fun c1=>?_)))))
 ·have c1k:=c1
  try simp only [qcA,qcC,qcB] at c1
  refine .skip (.code (.seq (.block ?_)))
  refine wk_rs .here ?_; intro sRB bbRB evRB lcRB oaRB; subst evRB
  refine rq8 rfl rfl (mV rfl rfl (mw (k:=.u64) (b:=10#64) rfl .no (.u rfl) (.u rfl) (fun _=>show (10#64:BitVec 64)≠0#64 by decide) ?_))
  refine bw (k:=.u64) (a:=48#64) rfl .no rfl (.u rfl) (.u rfl) rfl (cu (k:=.u64) rfl .no rfl Fx.cv41_5 (.u rfl) ?_)
  refine Go.Tan.b1 rfl Fx.se131 Fx.zv5 (.u rfl) rfl rfl (by decide) ?_; intro b17
  refine mV rfl rfl ?_
  refine apB [_] rfl Fx.se131 Fx.zv5 (.u rfl) rfl rfl (.u rfl) .here (Sc.rowS tk1 oaRB) (by show 1+(dgs n.toNat k).length≤_; omega) ?_; intro v19 L19 ov19 eL19
  refine aS rfl rfl (.nil (.blk (.code (rq3 rfl rfl (mV rfl rfl (dw (k:=.u64) (b:=10#64) rfl .no rfl (.u rfl) (.u rfl) (fun _=>show (10#64:BitVec 64)≠0#64 by decide) ?_))))))
  refine aS rfl rfl (.nil ?_)
  have hk6:k<6:=by omega
  refine We.lpo (k+1,v19) ?_ ?_ ?_ ?_ ?_
  ·exact (esC rfl (congrArg (uv .u64) (dgn_next hn)) (esD rfl eZ))
  ·exact (mS .here (congrArg (rB v19 5) (eL19.trans (dgs_next hn hk6))) mN)
  ·first|omega|(dsimp only; omega)
  ·exact hGl0
  (try dsimp only)<;>(first|omega|rfl|assumption|(simp; done))
 have c1k:=c1
 try simp only [qcA,qcC,qcB] at c1
 refine .exit (.xcode (.xlp (.xblk (.code (.seq ?_)))))
 refine wk_rs .here ?_; intro sRB bbRB evRB lcRB oaRB; subst evRB
 refine rq3 rfl rfl (mV rfl rfl (sB rfl .no FxGrP.bs131_9 (.u rfl) (fun _=>(Sc.rowS .here oaRB)) ?_))
 refine aS rfl rfl (.nil (.code (.ret (We.fin0 Tryz.results102 (.tmp rfl .nil) ?_))))
 obtain rfl:k=6:=by omega
 exact ⟨rfl,rfl⟩
end Go.Proofs.YtggleibgadkodaaGreatDoor
namespace Go.Tan
open Go.RowKit
def encT (s:ByteArray):List Value:=[.string s]
end Go.Tan
namespace Go.Proofs.YtggleibgadkodaaGreatDoor
open Go.Tan Go.RowKit
namespace FxGrQ
theorem sn261:(slE Tryz.prog 261).isSome=true:=by kernel_rfl
theorem se261:slE Tryz.prog 261=some (9,1,16):=by kernel_rfl
theorem ag9:aggN Tryz.prog 9=some none:=by kernel_rfl
theorem st9:strT Tryz.prog 9=true:=by kernel_rfl
theorem zv9:(Tryz.prog.info? 9).bind (·.zero)=some (.string ByteArray.empty):=by kernel_rfl
theorem ag4:aggN Tryz.prog 4=some none:=by kernel_rfl
end FxGrQ
namespace Fx
theorem go102:goFn Tryz.prog 102=true:=by kernel_rfl
theorem pt72:ptT Tryz.prog 72=true:=by kernel_rfl
theorem go156:goFn Tryz.prog 156=true:=by kernel_rfl
theorem fo178_3:fOff Tryz.prog 178 3=some 3:=by kernel_rfl
theorem fo178_2:fOff Tryz.prog 178 2=some 2:=by kernel_rfl
theorem fo178_0:fOff Tryz.prog 178 0=some 0:=by kernel_rfl
theorem ag176:aggN Tryz.prog 176=some none:=by kernel_rfl
theorem ms176:msE Tryz.prog 176=some 254:=by kernel_rfl
theorem zv254:(Tryz.prog.info? 254).bind (·.zero)=some (.agg #[.slice none 0 0,.int .i64 0]):=by kernel_rfl
theorem zr254:zrL Tryz.prog 254=some ([.slice none 0 0,.int .i64 0]):=by kernel_rfl
theorem sz254:szT Tryz.prog 254=some 2:=by kernel_rfl
theorem fo178_4:fOff Tryz.prog 178 4=some 4:=by kernel_rfl
theorem fo254_0:fOff Tryz.prog 254 0=some 0:=by kernel_rfl
end Fx
theorem name_ok (k:Y) (n:BitVec 64) (G:PM) (hn:n.toNat<10):Ct Tryz.prog 47 ([V k,uv .u64 n]:List Value).toArray G [] (fun _ μ' u=>μ'=[]∧u=.string (nmB k.toNat n.toNat)):=by
 refine Ct.of Tryz.func47 rfl Tryz.ntmps47 rfl fun w0 hs0=>?_
 have hk8:@BitVec.toNat IntKind.u8.bits k = @BitVec.toNat 8 k:=rfl
 refine .seq (rq1 rfl rfl (aS rfl rfl (.nil (.code (.seq (.seq (rq1 rfl rfl (mV rfl rfl (.nil (.code (.block (.seq (rq2 rfl rfl (cp rfl .no (.u rfl) (.u rfl) rfl (aS rfl rfl (.nil (.code (.cond rfl (fun c1=>?_) (fun c1=>?_)))))))))))))))))))
 ·have c1k:=c1
  try simp only [qcA,qcB] at c1
  refine .seq (rq4 rfl rfl (mV rfl rfl (kv rfl .no Fx.go102 (Evc rfl Evn) (fun _=>dig_ok n _ hn) ?_)))
  refine sP rfl .no (.u rfl) (.u rfl) (fun _=>by rw [bstr_len]; show 6+4≤9223372036854775807; omega) ?_
  refine aS rfl rfl (.nil (.code (.ret (We.fin0 Tryz.results47 (.tmp rfl .nil) ?_))))
  exact ⟨rfl,congrArg Value.string (nmK1 (by omega))⟩
 have c1k:=c1
 try simp only [qcA,qcB] at c1
 refine .seq (rq2 rfl rfl (cp rfl .no (.u rfl) (.u rfl) rfl (aS rfl rfl (.nil (.code (.cond rfl (fun c2=>?_) (fun c2=>?_)))))))
 ·have c2k:=c2
  try simp only [qcA,qcB] at c2
  refine .seq (rq4 rfl rfl (mV rfl rfl (kv rfl .no Fx.go102 (Evc rfl Evn) (fun _=>dig_ok n _ hn) ?_)))
  refine sP rfl .no (.u rfl) (.u rfl) (fun _=>by rw [bstr_len]; show 6+4≤9223372036854775807; omega) ?_
  refine aS rfl rfl (.nil (.code (.ret (We.fin0 Tryz.results47 (.tmp rfl .nil) ?_))))
  exact ⟨rfl,congrArg Value.string (nmK2 (by omega))⟩
 have c2k:=c2
 try simp only [qcA,qcB] at c2
 refine .seq (rq2 rfl rfl (cp rfl .no (.u rfl) (.u rfl) rfl (aS rfl rfl (.nil (.code (.cond rfl (fun c3=>?_) (fun c3=>?_)))))))
 ·have c3k:=c3
  try simp only [qcA,qcB] at c3
  refine .seq (rq4 rfl rfl (mV rfl rfl (kv rfl .no Fx.go102 (Evc rfl Evn) (fun _=>dig_ok n _ hn) ?_)))
  refine sP rfl .no (.u rfl) (.u rfl) (fun _=>by rw [bstr_len]; show 9+6≤9223372036854775807; omega) ?_
  refine aS rfl rfl (.nil (.code (.ret (We.fin0 Tryz.results47 (.tmp rfl .nil) ?_))))
  exact ⟨rfl,congrArg Value.string (nmK3 (by omega))⟩
 have c3k:=c3
 try simp only [qcA,qcB] at c3
 refine .seq (rq2 rfl rfl (cp rfl .no (.u rfl) (.u rfl) rfl (aS rfl rfl (.nil (.code (.cond rfl (fun c4=>?_) (fun c4=>?_)))))))
 ·have c4k:=c4
  try simp only [qcA,qcB] at c4
  refine .seq (rq1 rfl rfl (aS rfl rfl (.nil (.code (.ret (We.fin0 Tryz.results47 (.tmp rfl .nil) ?_))))))
  exact ⟨rfl,congrArg Value.string (nmK4 (by omega))⟩
 have c4k:=c4
 try simp only [qcA,qcB] at c4
 refine .seq (rq2 rfl rfl (cp rfl .no (.u rfl) (.u rfl) rfl (aS rfl rfl (.nil (.code (.cond rfl (fun c5=>?_) (fun c5=>?_)))))))
 ·have c5k:=c5
  try simp only [qcA,qcB] at c5
  refine .seq (rq1 rfl rfl (aS rfl rfl (.nil (.code (.ret (We.fin0 Tryz.results47 (.tmp rfl .nil) ?_))))))
  exact ⟨rfl,congrArg Value.string (nmK5 (by omega))⟩
 have c5k:=c5
 try simp only [qcA,qcB] at c5
 refine .skip (.blk (.code (.seq (rq1 rfl rfl (aS rfl rfl (.nil (.code (.ret (We.fin0 Tryz.results47 (.tmp rfl .nil) ?_)))))))))
 exact ⟨rfl,congrArg Value.string (nmK0 (by omega) (by omega) (by omega) (by omega) (by omega))⟩
theorem goodL_ok (h:Sh) (l:List ByteArray) (G:PM) (hs:SlR G 1 encT h l) (hl:l.length≤1000000) (hg:∀ s∈l,goodN s):Ct Tryz.prog 156 ([h.val l.length]:List Value).toArray G [] (fun _ μ' u=>μ'=[]∧u=.bool true):=by
 refine Ct.of Tryz.func156 rfl Tryz.ntmps156 rfl fun w0 hs0=>?_
 refine .seq (rq1 rfl rfl (aS rfl rfl (.nil (.code (.seq (.seq (rq3 rfl rfl (mV rfl rfl (ln rfl .no FxGrQ.sn261 (.u rfl) (mV rfl rfl (.nil (.code (.block ?_)))))))))))))
 refine Wk.lop (α:=Nat) (fun k=>[(7,true,.int .i64 (k:Int))]) (fun _=>[])
  (fun k Gl=>(k≤l.length)) (fun k=>l.length-k) 0 [(5,true,_),(6,true,_)] []
  (esC rfl (by first|rfl|exact evi (by omega)) (esD rfl (esD rfl eZ)))
  mN ?_ ?_
 ·(try dsimp only)<;>(first|omega|rfl|assumption|(simp; done))
 intro k N0 Gl0 hN0 hGl0 hF0
 try dsimp only at hF0 hN0 ⊢
 have hk:=hF0
 have hs:=hs.mono hGl0
 refine .seq (rq1 rfl rfl (cp rfl .no (.u rfl) (.u rfl) rfl (.nil (.code (.seq (.cond rfl (fun c1=>?_) (fun c1=>?_)))))))
 ·have c1k:=c1
  try simp only [qcA,qcC,qcB] at c1
  refine .skip (.code (.seq (.block (.seq (rq3 rfl rfl (ih rfl .no FxGrQ.se261 (.u rfl) (.u rfl) (fun _=>by omega) (fun _=>by omega) (fun _=>hs.nn (k:=k) (by first|omega|(simp only [Bool.and_eq_true,decide_eq_true_eq] at hc; omega)|(simp only [List.length_cons,List.length_nil]; omega))) ?_))))))
  obtain ⟨x,ex⟩:=getx (k:=k) (xs:=l) (by omega)
  have hx:=hg x (List.mem_of_getElem? ex)
  refine ld rfl .no FxGrQ.ag9 (.u rfl) (fun _=>(hs.at (by omega) ex 0 _ rfl).rd) (aS rfl rfl (.nil (.code (.seq (rq7 rfl rfl (mV rfl rfl (cs rfl .no (.u rfl) (.u rfl) rfl (mV rfl rfl (mv rfl (.f rfl rfl) (.u rfl) (ls rfl (.f rfl rfl) FxGrQ.st9 (.s rfl) (cp rfl (.f rfl rfl) (.s rfl) (.u rfl) rfl (pkO rfl .no (.u rfl) (.s rfl) (.nil (.code (.cond rfl (fun c2=>?_) (fun c2=>?_))))))))))))))))
  ·have c2k:=c2
   rw [strNe hx.1] at c2; have hx2:=hx.2; simp at c2; omega
  have c2k:=c2
  try simp only [qcA,qcC,qcB] at c2
  refine .skip (.blk (.code (rq2 rfl rfl (arn (((k+1):Nat):Int) rfl .no (.u rfl) (.u rfl) rfl (fun _=>by omega) (fun _=>wrap_i64 (by omega) (by omega)) ?_))))
  refine mV rfl rfl (.nil (We.lpo (k+1) ?_ ?_ ?_ ?_ ?_))
  ·exact (esC rfl (by first|rfl|exact evi (by omega)) (esD rfl (esD rfl eZ)))
  ·exact mN
  ·first|omega|(dsimp only; omega)
  ·exact hGl0
  (try dsimp only)<;>(first|omega|rfl|assumption|(simp; done))
 have c1k:=c1
 try simp only [qcA,qcC,qcB] at c1
 refine .exit (.xcode (.xlp (.xblk (.code (.seq (rq1 rfl rfl (aS rfl rfl (.nil (.code (.ret (We.fin0 Tryz.results156 (.tmp rfl .nil) ?_)))))))))))
 exact ⟨rfl,rfl⟩
theorem ready_ok (bd bm room done clk:Nat) (F:List Fi) (G:PM) (hD:DkR F clk) (hd9:done≤1000000000) (hr9:room≤1000000000) (nm:ByteArray) (there:Bool) (h:Sh) (l:List ByteArray) (hs:SlR G 1 encT h l) (hl:l.length≤1000000) (hg:∀ s∈l,goodN s) (hn:goodN nm) (ht:there=true→(fget nm F).isSome=true):Ct Tryz.prog 128 ([.pointer (some ⟨bd,0,none⟩),.string nm,.bool there,h.val l.length]:List Value).toArray G [.blk bd (cl (dkC bm room (done)) 178),.blk bm (mO ((F).map Fi.fe) (clk))] (fun _ μ' u=>μ'=[.blk bd (cl (dkC bm room (done)) 178),.blk bm (mO ((F).map Fi.fe) (clk))]∧u=.int .i64 0):=by
 refine Ct.of Tryz.func128 rfl Tryz.ntmps128 rfl fun w0 hs0=>?_
 refine .seq (rq1 rfl rfl (aS rfl rfl (.nil (.code (.seq (.seq (rq2 rfl rfl (mV rfl rfl (pe rfl .no Fx.pt72 (.u rfl) (.u rfl) ?_)))))))))
 refine .nil (.code (Wk.condF rfl rfl ?_))
 refine .skip (.code (.seq (.seq (rq9 rfl rfl (mV rfl rfl ?_)))))
 refine Go.Tan.b1 rfl FxGrQ.se261 FxGrQ.zv9 (.u rfl) rfl rfl (by decide) ?_; intro b14
 refine kp rfl .no Fx.go156 (Evc rfl Evn) (Gp.add .here Gp.nil) (fun _ hle hq=>goodL_ok ⟨some ⟨b14,0,none⟩,1⟩ [nm] _ (SlR.ofBlk (xs:=[nm]) (PM.add_same _ _ _) (fun _ _=>rfl) (Nat.le_refl 1)) (by show 1≤_; omega) (fun s hs=>by rw [List.mem_singleton.1 hs]; exact hn)) ?_
 refine nt rfl .no (.u rfl) (mV rfl rfl (mv rfl (.f rfl rfl) (.u rfl) (kv rfl (.f rfl rfl) Fx.go156 (Eva.cons (.s rfl) Evn) (fun hc=>goodL_ok h l _ hs hl hg) ?_)))
 refine nt rfl (.f rfl rfl) (.s rfl) (pkO rfl .no (.u rfl) (.s rfl) (.nil (.code (.cond rfl (fun c1=>?_) (fun c1=>?_)))))
 ·have c1k:=c1
  cases c1
 have c1k:=c1
 try simp only [qcA,qcC,qcB] at c1
 refine .skip (.code (.seq (.seq (rq5 rfl rfl (mV rfl rfl (nc rfl .no (.u rfl) (fz rfl .no Fx.fo178_3 (.u rfl) (ld rfl .no Fx.ag3 (.u rfl) (fun _=>Rd.own tk1 rfl) ?_))))))))
 refine cp rfl .no (.u rfl) (.u rfl) rfl (.nil (.code (.cond rfl (fun c2=>?_) (fun c2=>?_))))
 ·have c2k:=c2
  cases c2
 have c2k:=c2
 try simp only [qcA,qcC,qcB] at c2
 refine .skip (.code (.seq (.seq (rq4 rfl rfl (mV rfl rfl (nc rfl .no (.u rfl) (fz rfl .no Fx.fo178_2 (.u rfl) (ld rfl .no FxGrQ.ag4 (.u rfl) (fun _=>Rd.own tk1 rfl) ?_))))))))
 refine .nil (.code (.cond rfl (fun c3=>?_) (fun c3=>?_)))
 ·have c3k:=c3
  cases c3
 have c3k:=c3
 try simp only [qcA,qcC,qcB] at c3
 refine .skip (.code (.seq (.seq (Wk.rg [0,1,2,3,4,5,6,7,8,9,10,11] rfl rfl (mV rfl rfl (nc rfl .no (.u rfl) (fz rfl .no Fx.fo178_0 (.u rfl) (ld rfl .no Fx.ag176 (.u rfl) (fun _=>Rd.own tk1 (by first|exact wap_f rfl|rfl)) ?_))))))))
 refine mV rfl rfl (lkS2 rfl .no Fx.ms176 Fx.zv254 (.u rfl) (.u rfl) (mapOwn tk2) (lk_v) (lk_i) ?_)
 refine mV rfl rfl (ex rfl .no (.u rfl) rfl (ex rfl .no (.u rfl) rfl ?_))
 refine al rfl Fx.zr254 ?_; intro b9
 refine sw rfl (.u rfl) (.u rfl) rfl Fx.sz254 .here rfl (Fi.one _) ?_
 refine aS rfl rfl (.nil (.code (.seq (rq5 rfl rfl (mV rfl rfl (mV rfl rfl (mv rfl (.t rfl rfl) (.u rfl) (nt rfl (.t rfl rfl) (.s rfl) (pkA rfl .no (.u rfl) (.s rfl) (.nil (.code (.cond rfl (fun c4=>?_) (fun c4=>?_)))))))))))))
 ·have c4k:=c4
  exact absurd c4 (by cases there<;>simp_all)
 have c4k:=c4
 try simp only [qcA,qcC,qcB] at c4
 refine .skip (.code (.seq (rq1 rfl rfl (aS rfl rfl (.nil (.code (.ret (We.fin Tryz.results128 (.tmp rfl .nil) (mS tk2 rfl (mS tk2 rfl mN)) ?_))))))))
 exact ⟨rfl,rfl⟩
theorem did_ok (bd bm room done:Nat) (G:PM) (hd9:done≤2000000000):Ct Tryz.prog 130 ([.pointer (some ⟨bd,0,none⟩)]:List Value).toArray G [.blk bd (cl (dkC bm room done) 178)] (fun _ μ' u=>μ'=[.blk bd (cl (dkC bm room (done+1)) 178)]∧u=.int .i64 0):=by
 refine Ct.of Tryz.func130 rfl Tryz.ntmps130 rfl fun w0 hs0=>?_
 refine .seq (rq1 rfl rfl (aS rfl rfl (.nil (.code (.seq (rq8 rfl rfl (mV rfl rfl (nc rfl .no (.u rfl) (fz rfl .no Fx.fo178_4 (.u rfl) (ld rfl .no Fx.ag3 (.u rfl) (fun _=>Rd.own .here rfl) ?_))))))))))
 refine arn (((done+1):Nat):Int) rfl .no (.u rfl) (.u rfl) rfl (fun _=>by omega) (fun _=>wrap_i64 (by omega) (by omega)) ?_
 refine nc rfl .no (.u rfl) (fz rfl .no Fx.fo178_4 (.u rfl) (s1 rfl (.u rfl) (.u rfl) rfl Fx.sz3 .here (by first|(simp [dkC,Fi.cells]; done)|decide) (rfl) ?_))
 refine .nil (.code (.seq (.seq (rq5 rfl rfl (mV rfl rfl (nc rfl .no (.u rfl) (fz rfl .no Fx.fo178_3 (.u rfl) (ld rfl .no Fx.ag3 (.u rfl) (fun _=>Rd.own .here rfl) ?_))))))))
 refine cp rfl .no (.u rfl) (.u rfl) rfl (.nil (.code (.cond rfl (fun c1=>?_) (fun c1=>?_))))
 ·have c1k:=c1
  cases c1
 have c1k:=c1
 try simp only [qcA,qcC,qcB] at c1
 refine .skip (.code (.seq (rq1 rfl rfl (aS rfl rfl (.nil (.code (.ret (We.fin Tryz.results130 (.tmp rfl .nil) (mS .here rfl mN) ?_))))))))
 exact ⟨rfl,rfl⟩
theorem size_ok (bd bm room done clk:Nat) (F:List Fi) (G:PM) (hD:DkR F clk) (hbd:PB G bd (cl (dkC bm room done) 178)) (hbm:PB G bm (mO (F.map Fi.fe) clk)):Ct Tryz.prog 129 ([.pointer (some ⟨bd,0,none⟩)]:List Value).toArray G [] (fun _ μ' u=>μ'=[]∧u=.int .i64 ((szF F:Nat):Int)):=by
 refine Ct.of Tryz.func129 rfl Tryz.ntmps129 rfl fun w0 hs0=>?_
 refine .seq (rq1 rfl rfl (aS rfl rfl (.nil (.code (.seq (rq1 rfl rfl (aS rfl rfl (.nil (.code (.seq (.seq (rq2 rfl rfl (mV rfl rfl (pn rfl .no Fx.pt72 (.u rfl) (.u rfl) ?_))))))))))))))
 refine .nil (.code (Wk.condT rfl rfl ?_))
 refine .seq (rq5 rfl rfl (mV rfl rfl (nc rfl .no (.u rfl) (fa rfl .no Fx.fo178_0 (.u rfl) (ld rfl .no Fx.ag176 (.u rfl) (fun _=>(hbd.rd (rfl)).rd) ?_)))))
 refine rgS rfl Fx.ms176 (.u rfl) (mapStay hbm.h) ?_; intro b12
 refine .nil (.code (.block ?_))
 refine Wk.lop (α:=List Nat×Nat) (fun gh=>[(3,true,.int .i64 ((szS gh.1 F:Nat):Int))]) (fun gh=>[.blk b12 (itO bm clk gh.2 gh.1)])
  (fun gh Gl=>(gh.2=clk)) (fun gh=>lfS gh.1 F) ([],clk) [(12,true,_)] []
  (esC rfl (by rw [szS_nil]; rfl) (esD rfl eZ))
  (mS .here rfl mN) ?_ ?_
 ·(try dsimp only)<;>(first|omega|rfl|assumption|(simp; done))
 intro gh N0 Gl0 hN0 hGl0 hF0
 obtain ⟨seen,last⟩:=gh; dsimp only at hF0 hN0 ⊢
 have hl:=hF0
 have hbm:=hbm.mono hGl0
 have hsz:=szS_le (seen:=seen) (F:=F); have hfw:=hD.few; have hlst:∀ e∈F.map Fi.fe,e.2.2<last:=by rw [hl]; exact hD.oldE
 refine .seq (rq2 rfl rfl ?_)
 refine nxS rfl (.u rfl) .here (mapStay hbm.h) hD.oldE hlst ?_; intro o13 ho13
 refine ex rfl .no (.u rfl) (nx_b o13) (.nil (.code (.seq (.cond rfl (fun c1=>?_) (fun c1=>?_)))))
 ·have c1k:=c1
  obtain ⟨e6,rfl⟩:=Option.isSome_iff_exists.1 c1
  obtain ⟨f6,hf6,rfl,hn6,hm6⟩:=szS_next hD.nd ho13
  have hle6:=szS_le (seen:=seen++[f6.born]) (F:=F)
  refine .skip (.code (.block (.seq (rq4 rfl rfl (etS rfl (.u rfl) .here (mapStay hbm.h) (fe_find hD.nd hf6) ?_)))))
  refine ex rfl .no (.u rfl) rfl ?_
  refine al rfl Fx.zr254 ?_; intro b5
  refine sw rfl (.u rfl) (.u rfl) rfl Fx.sz254 .here rfl (Fi.one _) ?_
  refine .nil (.code (rq6 rfl rfl (mV rfl rfl (fz rfl .no Fx.fo254_0 (.u rfl) (ld rfl .no Fx.ag131 (.u rfl) (fun _=>Rd.own .here rfl) ?_)))))
  refine ln rfl .no Fx.sn131 (.u rfl) (arn (((szS seen F+f6.n):Nat):Int) rfl .no (.u rfl) (.u rfl) rfl (fun _=>by omega) (fun _=>wrap_i64 (by omega) (by omega)) ?_)
  refine aS rfl rfl (.nil (.blk (We.lpo (seen++[f6.born],clk) ?_ ?_ ?_ ?_ ?_)))
  ·exact (esC rfl (by rw [hn6]) (esD rfl eZ))
  ·exact (mS tk1 rfl mN)
  ·have h7:lfS (seen++[f6.born]) F+1=lfS seen F:=hm6; show lfS (seen++[f6.born]) F<N0; omega
  ·exact hGl0
  (try dsimp only)<;>(first|omega|rfl|assumption|(simp; done))
 have c1k:=c1
 have:o13=none:=by cases o13<;>simp_all
 subst this
 have hE:=szS_end ho13
 refine .exit (.xcode (.xlp (.xblk (.code (.seq (rq2 rfl rfl (mV rfl rfl (aS rfl rfl (.nil (.code (.ret (We.fin0 Tryz.results129 (.tmp rfl .nil) ?_))))))))))))
 exact ⟨rfl,by rw [hE]; rfl⟩
end Go.Proofs.YtggleibgadkodaaGreatDoor
namespace Go.Tan
open Go.RowKit
section
variable {P:Program} {n:Fm} {l:List Oper} {K K':Env→PM→Mem→Prop} {mc:Md}
theorem Sat.nil {G:PM} {w:World} (h:∀ b o,G b=some o→w.heap[b]? = some o):Sat G [] w:=⟨h,by simp,by simp [keys],by simp [keys]⟩
theorem Wo.unlay {j:Nat} {ρ:Env} {G:PM} {μ:Mem} {oi oj:Oper} {c:Bool} {v:Value} (hK:KOk K) (hoj:nth l j=some oj) (hap:Apart l oi oj) (hd:dstOk n oi.dst)
  (H:Wo true mc P n l K [j] (lay ρ oi.dst c v) G μ):Wo true mc P n l (fun ρ' G' μ'=>PM.le G G'∧(∃ c' v',ρ'=lay ρ oj.dst c' v')∧K (lay ρ' oi.dst c v) G' μ') [j] ρ G μ:=by
 have h0:∀ {ρ G μ},Wo true mc P n l K [] ρ G μ→K ρ G μ:=fun h=>by cases h with | nil h=>exact h
 have sw:∀ {c':Bool} {v':Value} {G':PM} {μ':Mem},Wo true mc P n l K [] (lay (lay ρ oi.dst c v) oj.dst c' v') G' μ'→K (lay (lay ρ oj.dst c' v') oi.dst c v) G' μ':=fun h=>hK.1 _ _ _ _ (look_swap hap.dd) (h0 h)
 cases H with
 | @pure _ _ _ _ _ o cj vj ho hk hg hr h =>
  obtain rfl:oj=o:=Option.some.inj (hoj.symm.trans ho)
  refine .pure hoj hk (gd_drop hap.ij hg) (fun hc a w ha=>drop_put hd hap.sj hap.ij (Φ:=fun s=>s.run P w=.ok (.value vj) w) (fun a ha=>hr hc a w ha) a ha) (.nil ⟨PM.le.refl G,⟨_,_,rfl⟩,sw h⟩)
 | @read _ _ _ _ _ o cj vj ho hk hg hr h =>
  obtain rfl:oj=o:=Option.some.inj (hoj.symm.trans ho)
  refine .read hoj hk (gd_drop hap.ij hg) (fun hc a w ha hs=>drop_put hd hap.sj hap.ij (Φ:=fun s=>s.run P w=.ok (.value vj) w) (fun a ha=>hr hc a w ha hs) a ha) (.nil ⟨PM.le.refl G,⟨_,_,rfl⟩,sw h⟩)
 | @make _ _ _ _ _ o ob mkv ho hk hg hr h =>
  obtain rfl:oj=o:=Option.some.inj (hoj.symm.trans ho)
  exact .make hoj hk hg hr fun b=>.nil ⟨PM.le.refl G,⟨_,_,rfl⟩,sw (h b)⟩
 | @box _ _ _ _ _ o ob mkv ho hk hg hr h =>
  obtain rfl:oj=o:=Option.some.inj (hoj.symm.trans ho)
  exact .box hoj hk (gd_drop hap.ij hg) (fun a w ha=>drop_put hd hap.sj hap.ij (Φ:=fun s=>s.run P w=.ok (.value (mkv w.heap.size)) (w.alloc ob)) (fun a ha=>hr a w ha) a ha) fun b=>.nil ⟨PM.le.refl G,⟨_,_,rfl⟩,sw (h b)⟩
 | @callv _ _ _ _ _ o cj f args vj Gp ho hk hg hr hf h =>
  obtain rfl:oj=o:=Option.some.inj (hoj.symm.trans ho)
  exact .callv hoj hk (gd_drop hap.ij hg) (fun hc a w ha=>drop_put hd hap.sj hap.ij (Φ:=fun s=>s.run P w=.ok (.enter f args) w) (fun a ha=>hr hc a w ha) a ha) hf (.nil ⟨PM.le.refl G,⟨_,_,rfl⟩,sw h⟩)
 | @call _ _ _ _ _ o f args post ho hk hg hr hf h =>
  obtain rfl:oj=o:=Option.some.inj (hoj.symm.trans ho)
  exact .call hoj hk (gd_drop hap.ij hg) (fun a w ha=>drop_put hd hap.sj hap.ij (Φ:=fun s=>s.run P w=.ok (.enter f args) w) (fun a ha=>hr a w ha) a ha) hf fun v' G' μ' hle hp=>.nil ⟨hle,⟨_,_,rfl⟩,sw (h v' G' μ' hle hp)⟩
 | callg hdf _ _ _ _ _=>cases hdf
 | callp hdf _ _ _ _ _ _ _=>cases hdf
 | pan hdf _ _ _ _=>cases hdf
 | @fresh _ _ _ _ _ o μ₁ μ₂ post ho hk hg hp hr hw h =>
  obtain rfl:oj=o:=Option.some.inj (hoj.symm.trans ho)
  exact .fresh hoj hk hg hp (fun a w ha hs=>drop_put hd hap.sj hap.ij (Φ:=fun s=>∃ v w' G' μa μb,s.run P w=.ok (.value v) w'∧Tr G (keys μ₁) w G' (μa++μb) w'∧post G' μa μb v) (fun a ha=>hr a w ha hs) a ha) hw fun v' G' μa μb hle hq=>.nil ⟨hle,⟨_,_,rfl⟩,sw (h v' G' μa μb hle hq)⟩
 | @act _ _ _ _ _ o μ₁ μ₂ post ho hk hg hp hr h =>
  obtain rfl:oj=o:=Option.some.inj (hoj.symm.trans ho)
  exact .act hoj hk (gd_drop hap.ij hg) hp (fun a w ha hs=>drop_put hd hap.sj hap.ij (Φ:=fun s=>(∃ v w' G' μ',(s.run P w=.ok (.value v) w'∨s.run P w=.ok .skip w'∧v=undef)∧Tr G (keys μ₁) w G' μ' w'∧post G' μ' v) ∨
    (∃ f args,s.run P w=.ok (.enter f args) w∧Ct P f args G μ₁ post)) (fun a ha=>hr a w ha hs) a ha) fun v' G' μ' hle hq=>.nil ⟨hle,⟨_,_,rfl⟩,sw (h v' G' μ' hle hq)⟩
def oneP (mc:Md) (l:List Oper) (listed:Array Bool) (i:Nat):Bool :=
 (rdy l listed).contains i&&match nth l i with
 | some oi=>(kindOf mc oi.op == .read)&&(List.range l.length).all fun j=>listed.getD j true||j == i||match nth l j with
  | some oj=>dep l l.length j i||oi.apart l.toArray oj
  | none=>false
 | none=>false
def PRd (P:Program) (n:Fm) (l:List Oper) (o:Oper) (c:Bool) (v:Value) (ρ:Env) (G:PM):Prop :=
 Gd l ρ o.guard c∧(c=true→∀ a w,Ag n ρ a→(∀ b u,G b=some u→w.heap[b]? = some u)→(execOp a.eval o).run P w=.ok (.value v) w)
def lastOk (l:List Oper) (j:Nat):Bool:=(List.range l.length).all fun i=>i == j||dep l l.length j i
def Wp (mc:Md) (P:Program) (n:Fm) (l:List Oper) (K:Env→PM→Mem→Prop):Nat→Array Bool→Env→PM→Mem→Prop
 | 0,listed,ρ,G,μ=>rdy l listed=[]∧K ρ G μ
 | m+1,listed,ρ,G,μ=>(∃ i,oneOk mc l listed i=true∧Wo true mc P n l (fun ρ' G' μ'=>Wp mc P n l K m (listed.setIfInBounds i true) ρ' G' μ') [i] ρ G μ) ∨
   (rdy l listed≠[]∧∀ j∈rdy l listed,Wo true mc P n l (fun ρ' G' μ'=>Wp mc P n l K m (listed.setIfInBounds j true) ρ' G' μ') [j] ρ G μ) ∨
   (∃ i o c v,oneP mc l listed i=true∧nth l i=some o∧PRd P n l o c v ρ G∧Wp mc P n l K m (listed.setIfInBounds i true) (lay ρ o.dst c v) G μ) ∨
   (∃ j,rdy l listed=[j]∧lastOk l j=true∧Wo false mc P n l (fun ρ' G' μ'=>Wp mc P n l K m (listed.setIfInBounds j true) ρ' G' μ') [j] ρ G μ)
theorem PRd.congr {o:Oper} {c:Bool} {v:Value} {ρ ρ':Env} {G:PM} (h:PRd P n l o c v ρ G) (e:∀ i,look ρ i=look ρ' i):PRd P n l o c v ρ' G :=
 ⟨h.1.congr fun _ t _ _ _=>e t,fun hc a w ha hs=>h.2 hc a w (ha.congr e) hs⟩
theorem Wp.kok (hK:KOk K):∀ (m:Nat) (listed:Array Bool),KOk (fun ρ G μ=>Wp mc P n l K m listed ρ G μ)
 | 0,listed=>⟨fun ρ ρ' G μ e h=>⟨h.1,hK.1 _ _ _ _ e h.2⟩,fun ρ G μ μ' p h=>⟨h.1,hK.2 _ _ _ _ p h.2⟩⟩
 | m+1,listed=>by
  refine ⟨fun ρ ρ' G μ e h=>?_,fun ρ G μ μ' p h=>?_⟩
  ·rcases h with ⟨i,h1,h2⟩ | ⟨h1,h2⟩ | ⟨i,o,c,v,h1,h2,h3,h4⟩ | ⟨j,h1,h2,h3⟩
   ·exact .inl ⟨i,h1,h2.congr (Wp.kok hK m _) e⟩
   ·exact .inr (.inl ⟨h1,fun j hj=>(h2 j hj).congr (Wp.kok hK m _) e⟩)
   ·exact .inr (.inr (.inl ⟨i,o,c,v,h1,h2,h3.congr e,(Wp.kok hK m _).1 _ _ _ _ (look_lay_congr e _ _ _) h4⟩))
   exact .inr (.inr (.inr ⟨j,h1,h2,h3.congr (Wp.kok hK m _) e⟩))
  rcases h with ⟨i,h1,h2⟩ | ⟨h1,h2⟩ | ⟨i,o,c,v,h1,h2,h3,h4⟩ | ⟨j,h1,h2,h3⟩
  ·exact .inl ⟨i,h1,h2.perm (Wp.kok hK m _) p⟩
  ·exact .inr (.inl ⟨h1,fun j hj=>(h2 j hj).perm (Wp.kok hK m _) p⟩)
  ·exact .inr (.inr (.inl ⟨i,o,c,v,h1,h2,h3,(Wp.kok hK m _).2 _ _ _ _ p h4⟩))
  exact .inr (.inr (.inr ⟨j,h1,h2,h3.perm (Wp.kok hK m _) p⟩))
theorem oneP_mono {listed:Array Bool} {i j:Nat} (hne:i≠j) (h:oneP mc l listed i=true):oneP mc l (listed.setIfInBounds j true) i=true:=by
 unfold oneP at h ⊢
 simp only [Bool.and_eq_true] at h ⊢
 obtain ⟨h1,h2⟩:=h
 refine ⟨by simpa using rdy_mono (by simpa using h1) hne,?_⟩
 cases hi:nth l i with
 | none=>rw [hi] at h2; cases h2
 | some oi =>
  simp only [hi,Bool.and_eq_true] at h2 ⊢
  refine ⟨h2.1,List.all_eq_true.2 fun k hk=>?_⟩
  have h3:=List.all_eq_true.1 h2.2 k hk
  by_cases e:j=k
  ·subst e
   have:(listed.setIfInBounds j true).getD j true=true:=by
    rcases Nat.lt_or_ge j listed.size with h' | h'<;>simp [h']
   rw [this]; rfl
  rw [getD_set_ne true e]; exact h3
theorem lastNo {listed:Array Bool} {i j:Nat} (hc:Closed l listed) (hi:listed.getD i true=false) (hil:i<l.length) (hj:j∈rdy l listed) (hne:i≠j) (h:lastOk l j=true):False:=by
 have h1:=List.all_eq_true.1 h i (List.mem_range.2 hil)
 rw [not_dep hc hi hj] at h1
 simp [hne] at h1
theorem Wp.front (hK:KOk K) (hs:Region.noSelect l.toArray=true) (hmk:∀ j oj,nth l j=some oj→kindOf mc oj.op=.make→Makes P oj) (hds:∀ j oj,nth l j=some oj→dstOk n oj.dst) :
  ∀ (m:Nat) (listed:Array Bool) (j:Nat) (ρ:Env) (G:PM) (μ:Mem),unlN listed=m+1→Closed l listed→j∈rdy l listed→Wp mc P n l K (m+1) listed ρ G μ→Wo true mc P n l (fun ρ' G' μ'=>Wp mc P n l K m (listed.setIfInBounds j true) ρ' G' μ') [j] ρ G μ∨(lastOk l j=true∧Wo false mc P n l (fun ρ' G' μ'=>Wp mc P n l K m (listed.setIfInBounds j true) ρ' G' μ') [j] ρ G μ)
 | m,listed,j,ρ,G,μ,hu,hcl,hj,H=>by
  rcases H with ⟨i,h1,h2⟩ | ⟨_,h2⟩ | ⟨i,oi,c,v,h1,hoi,h2,h3⟩ | ⟨j',h1,h2,h3⟩
  ·by_cases e:j=i
   ·subst e; exact .inl h2
   have hi:i∈rdy l listed:=by unfold oneOk at h1; simp only [Bool.and_eq_true] at h1; simpa using h1.1
   have hj':=rdy_mono hj e
   have hiun:=(rdy_iff.1 hi).1
   have hjun:=(rdy_iff.1 hj).1
   have hu1:=unlN_set hiun
   have hjun':(listed.setIfInBounds i true).getD j true=false:=by rw [getD_set_ne true (Ne.symm e)]; exact hjun
   have hp:=unlN_pos hjun'
   obtain ⟨m',rfl⟩ : ∃ m',m=m'+1:=⟨m-1,by omega⟩
   obtain ⟨_,oi,hoi,_⟩:=rdy_iff.1 hi
   have hil:i<l.length:=by
    have:=(nth_eq l i).trans hoi
    exact (by simpa using (Array.getElem?_eq_some_iff.1 this).1)
   obtain ⟨_,oj,hoj,_⟩:=rdy_iff.1 hj
   have h3:Wo true mc P n l (fun ρ' G' μ'=>Wp mc P n l K m' ((listed.setIfInBounds i true).setIfInBounds j true) ρ' G' μ') (i :: [j]) ρ G μ :=
    h2.bind1 fun ρ' G' μ' h=>(Wp.front hK hs hmk hds m' (listed.setIfInBounds i true) j ρ' G' μ' (by omega) (hcl.set hi) hj' h).resolve_right fun hl=>lastNo hcl hiun hil hj (fun q=>e q.symm) hl.1
   have hnoe:=not_dep hcl hiun hj l.length
   have hjl:j<l.length:=by
    have:=(nth_eq l j).trans hoj
    exact (by simpa using (Array.getElem?_eq_some_iff.1 this).1)
   have h1':=h1
   unfold oneOk at h1'
   simp only [Bool.and_eq_true,hoi] at h1'
   obtain ⟨_,hki,hall⟩:=h1'
   have h4:=List.all_eq_true.1 hall j (List.mem_range.2 hjl)
   simp only [hjun,hoj,hnoe,Bool.false_or,Bool.or_eq_true,beq_iff_eq,e,false_or,Bool.and_eq_true,bne_iff_ne] at h4
   simp only [Bool.or_eq_true,beq_iff_eq] at hki
   have hkk:kindOf mc oi.op=.pure∨(kindOf mc oi.op=.read∧kindOf mc oj.op≠.act)∨kindOf mc oj.op=.make:=by
    rcases hki with h5 | h5
    ·exact .inl h5
    rcases h4.2 with h6 | h6
    ·exact .inl h6
    exact .inr (.inl ⟨h5,h6⟩)
   have h5:=Wo.swap (Wp.kok hK m' _) rfl hoi hoj (apart_of hs hoi hoj h4.1) hds (hmk j oj hoj) hkk h3
   refine .inl (h5.cut1.bind1 fun ρ' G' μ' h=>.nil (.inl ⟨i,oneOk_mono (Ne.symm e) h1,?_⟩))
   rw [Array.setIfInBounds_comm _ _ e]
   exact h
  ·exact .inl (h2 j hj)
  ·by_cases e:j=i
   ·subst e
    have hkr:kindOf mc oi.op=.read:=by
     unfold oneP at h1; simp only [Bool.and_eq_true,hoi,beq_iff_eq] at h1; exact h1.2.1
    exact .inl (.read hoi (.inl hkr) h2.1 (fun hc a w ha hs=>h2.2 hc a w ha hs.sub) (.nil h3))
   have hi:i∈rdy l listed:=by unfold oneP at h1; simp only [Bool.and_eq_true] at h1; simpa using h1.1
   have hj':=rdy_mono hj e
   have hiun:=(rdy_iff.1 hi).1
   have hjun:=(rdy_iff.1 hj).1
   have hu1:=unlN_set hiun
   have hjun':(listed.setIfInBounds i true).getD j true=false:=by rw [getD_set_ne true (Ne.symm e)]; exact hjun
   have hp:=unlN_pos hjun'
   obtain ⟨m',rfl⟩ : ∃ m',m=m'+1:=⟨m-1,by omega⟩
   obtain ⟨_,oj,hoj,_⟩:=rdy_iff.1 hj
   have hnoe:=not_dep hcl hiun hj l.length
   have hjl:j<l.length:=by
    have:=(nth_eq l j).trans hoj
    exact (by simpa using (Array.getElem?_eq_some_iff.1 this).1)
   have h1':=h1
   unfold oneP at h1'
   simp only [Bool.and_eq_true,hoi] at h1'
   obtain ⟨_,_,hall⟩:=h1'
   have h4:=List.all_eq_true.1 hall j (List.mem_range.2 hjl)
   simp only [hjun,hoj,hnoe,Bool.false_or,Bool.or_eq_true,beq_iff_eq,e,false_or] at h4
   have hap:=apart_of hs hoi hoj h4
   have hil:i<l.length:=by
    have:=(nth_eq l i).trans hoi
    exact (by simpa using (Array.getElem?_eq_some_iff.1 this).1)
   have h5:=(Wp.front hK hs hmk hds m' (listed.setIfInBounds i true) j _ G μ (by omega) (hcl.set hi) hj' h3).resolve_right fun hl=>lastNo hcl hiun hil hj (fun q=>e q.symm) hl.1
   refine .inl ((Wo.unlay (Wp.kok hK m' _) hoj hap (hds i oi hoi) h5).bind1 fun ρ' G' μ' ⟨hle,⟨c',v',hρ⟩,h⟩=>.nil (.inr (.inr (.inl ⟨i,oi,c,v,oneP_mono (Ne.symm e) h1,hoi,?_,?_⟩))))
   ·subst hρ
    refine ⟨gd_put hap.ji h2.1,fun hc a w ha hs=>?_⟩
    exact keep_put (hds j oj hoj) hap.si hap.ji (Φ:=fun s=>s.run P w=.ok (.value v) w) (fun a ha=>h2.2 hc a w ha (fun b u hb=>hs b u (hle b u hb))) a ha
   rw [Array.setIfInBounds_comm _ _ e]
   exact h
  rw [h1] at hj
  obtain rfl:=List.mem_singleton.1 hj
  exact .inr ⟨h2,h3⟩
theorem Wp.any {Q:Exit→Act→World→Prop} {G0:PM} {K0:List Nat} {w0:World} (hK:KOk K) (hs:Region.noSelect l.toArray=true) (hmk:∀ j oj,nth l j=some oj→kindOf mc oj.op=.make→Makes P oj) (hds:∀ j oj,nth l j=some oj→dstOk n oj.dst)
  (hQ:∀ ρ G μ,K ρ G μ→∀ a w,Ag n ρ a→Tr G0 K0 w0 G μ w→Q .normal a w) (hD:∀ ch ρ G μ a w,n.die ch ρ G μ→Ag n ρ a→Tr G0 K0 w0 G μ w→Q (.panic ch) a w) :
  ∀ (m:Nat) (listed:Array Bool) (ρ:Env) (G:PM) (μ:Mem) (a:Act) (w:World),unlN listed=m→Closed l listed→Wp mc P n l K m listed ρ G μ→Ag n ρ a→Tr G0 K0 w0 G μ w→wpAny P .any l.toArray Q m listed a w
 | 0,listed,ρ,G,μ,a,w,_,_,H,ha,ht=>⟨H.1,hQ _ _ _ H.2 a w ha ht⟩
 | m+1,listed,ρ,G,μ,a,w,hu,hcl,H,ha,ht=>by
  refine ⟨fun h0=>?_,fun j hj=>?_⟩
  ·rcases H with ⟨i,h1,_⟩ | ⟨h1,_⟩ | ⟨i,oi,c,v,h1,_⟩ | ⟨j',h1,_⟩
   ·have hi:i∈rdy l listed:=by unfold oneOk at h1; simp only [Bool.and_eq_true] at h1; simpa using h1.1
    unfold rdy at hi
    rw [h0] at hi; cases hi
   ·exact absurd h0 h1
   ·have hi:i∈rdy l listed:=by unfold oneP at h1; simp only [Bool.and_eq_true] at h1; simpa using h1.1
    unfold rdy at hi
    rw [h0] at hi; cases hi
   unfold rdy at h1
   rw [h0] at h1; cases h1
  have hj':j∈rdy l listed:=hj
  have hu1:=unlN_set (rdy_iff.1 hj').1
  obtain ⟨o,ho,h⟩ : ∃ o,nth l j=some o∧if Region.wanted o (yielded l.toArray a.tmps) then o.wp P a w (wpAny P .any l.toArray Q m (listed.setIfInBounds j true)) Q else wpAny P .any l.toArray Q m (listed.setIfInBounds j true) (a.put o.dst undef) w:=by
   rcases Wp.front hK hs hmk hds m listed j ρ G μ hu hcl hj' H with hh | ⟨_,hh⟩
   ·exact hh.head ha ht (next:=wpAny P .any l.toArray Q m (listed.setIfInBounds j true)) (Q:=Q) hds (fun hdr'=>by cases hdr')
     (fun ρ' G' μ' a' w' H' ha' ht'=>by cases H' with | nil h=>exact Wp.any hK hs hmk hds hQ hD m _ ρ' G' μ' a' w' (by omega) (hcl.set hj') h ha' ht')
   exact hh.head ha ht (next:=wpAny P .any l.toArray Q m (listed.setIfInBounds j true)) (Q:=Q) hds (fun _=>hD)
    (fun ρ' G' μ' a' w' H' ha' ht'=>by cases H' with | nil h=>exact Wp.any hK hs hmk hds hQ hD m _ ρ' G' μ' a' w' (by omega) (hcl.set hj') h ha' ht')
  simp only [wpOp,nth_eq,ho]
  split
  ·rename_i hw; rw [if_pos hw] at h; exact .inl h
  rename_i hw; rw [if_neg hw] at h; exact h
theorem Wk.mixp {X:Cx} {k:List KI} {id:Nat} {ρ:Env} {G:PM} {μ:Mem} (mc:Md) (hm:X.P.follows .mixedOrders=true) (hok:mixOk X.P X.n.n l=true)
  (h:Wp mc X.P X.n l (fun ρ G μ=>We X .normal k ρ G μ) l.length (Array.replicate l.length false) ρ G μ):Wk X (.region id l.toArray true) k ρ G μ:=by
 simp only [mixOk,Bool.and_eq_true] at hok
 obtain ⟨⟨h1,h2⟩,h3⟩:=hok
 refine ⟨fun a w ha ht=>wp_region_any hm ?_⟩
 have hu:unlN (Array.replicate l.length false)=l.length:=by simp [unlN]
 have:=Wp.any (Q:=Qof X k) (We.kok .normal) h1 (fun j oj hj hk=>makes_of hk (List.all_eq_true.1 h3 oj (mem_of_nth hj)))
  (fun j oj hj=>by
   have:=List.all_eq_true.1 h2 oj (mem_of_nth hj)
   cases hd:oj.dst with
   | none=>trivial
   | some d=>rw [hd] at this; show d<X.n.n; exact of_decide_eq_true this) (fun _ _ _ h a w ha ht=>h.out a w ha ht) (Qof_panic X k) l.length _ ρ G μ a _ hu (Closed.none l.length) h ha ht.drew
 simpa using this
variable {ρ:Env} {G:PM} {μ:Mem} {m:Nat} {listed:Array Bool}
theorem Wp.last (hr:rdy l listed=[]) (h:K ρ G μ):Wp mc P n l K 0 listed ρ G μ:=⟨hr,h⟩
theorem Wp.one (i:Nat) (hc:oneOk mc l listed i=true) (h:Wo true mc P n l (fun ρ' G' μ'=>Wp mc P n l K m (listed.setIfInBounds i true) ρ' G' μ') [i] ρ G μ):Wp mc P n l K (m+1) listed ρ G μ:=.inl ⟨i,hc,h⟩
theorem Wp.pr (i:Nat) (hc:oneP mc l listed i=true) (h:Wo true mc P n l (fun ρ' G' μ'=>(G'=G∧μ'=[])∧Wp mc P n l K m (listed.setIfInBounds i true) ρ' G μ) [i] ρ G []):Wp mc P n l K (m+1) listed ρ G μ:=by
 have h1:=hc
 unfold oneP at h1
 simp only [Bool.and_eq_true] at h1
 cases hoi:nth l i with
 | none=>rw [hoi] at h1; cases h1.2
 | some oi =>
  have hkr:kindOf mc oi.op=.read:=by simp only [hoi,Bool.and_eq_true,beq_iff_eq] at h1; exact h1.2.1
  cases h with
  | @read _ _ _ _ _ o c v ho hk hg hr h =>
   obtain rfl:oi=o:=Option.some.inj (hoi.symm.trans ho)
   cases h with
   | nil h=>exact .inr (.inr (.inl ⟨i,oi,c,v,hc,hoi,⟨hg,fun hc' a w ha hs=>hr hc' a w ha (Sat.nil hs)⟩,h.2⟩))
  | @pure _ _ _ _ _ o cj vj ho hk _ _ _=>obtain rfl:oi=o:=Option.some.inj (hoi.symm.trans ho); rcases hk with hk | hk<;>simp_all
  | @make _ _ _ _ _ o _ _ ho hk _ _ _=>obtain rfl:oi=o:=Option.some.inj (hoi.symm.trans ho); rcases hk with hk | hk<;>simp_all
  | @box _ _ _ _ _ o _ _ ho hk _ _ _=>obtain rfl:oi=o:=Option.some.inj (hoi.symm.trans ho); rcases hk with hk | hk<;>simp_all
  | @callv _ _ _ _ _ o cj f args vj Gp ho hk _ _ _ _=>obtain rfl:oi=o:=Option.some.inj (hoi.symm.trans ho); rcases hk with hk | hk | hk<;>simp_all
  | @call _ _ _ _ _ o f args post ho hk _ _ _ _=>obtain rfl:oi=o:=Option.some.inj (hoi.symm.trans ho); rcases hk with hk | hk | hk<;>simp_all
  | callg hdf _ _ _ _ _=>cases hdf
  | callp hdf _ _ _ _ _ _ _=>cases hdf
  | pan hdf _ _ _ _=>cases hdf
  | @fresh _ _ _ _ _ o μ₁ μ₂ post ho hk _ _ _ _ _=>obtain rfl:oi=o:=Option.some.inj (hoi.symm.trans ho); rcases hk with hk | hk<;>simp_all
  | @act _ _ _ _ _ o μ₁ μ₂ post ho hk _ _ _ _=>obtain rfl:oi=o:=Option.some.inj (hoi.symm.trans ho); rcases hk with hk | hk<;>simp_all
theorem Wp.b1 (j:Nat) (hr:rdy l listed=[j]) (h:Wo true mc P n l (fun ρ' G' μ'=>Wp mc P n l K m (listed.setIfInBounds j true) ρ' G' μ') [j] ρ G μ):Wp mc P n l K (m+1) listed ρ G μ :=
 .inr (.inl ⟨by rw [hr]; simp,fun j' hj'=>by rw [hr] at hj'; obtain rfl:=List.mem_singleton.1 hj'; exact h⟩)
theorem Wp.b2 (j j2:Nat) (hr:rdy l listed=[j,j2]) (h:Wo true mc P n l (fun ρ' G' μ'=>Wp mc P n l K m (listed.setIfInBounds j true) ρ' G' μ') [j] ρ G μ)
  (h2:Wo true mc P n l (fun ρ' G' μ'=>Wp mc P n l K m (listed.setIfInBounds j2 true) ρ' G' μ') [j2] ρ G μ):Wp mc P n l K (m+1) listed ρ G μ :=
 .inr (.inl ⟨by rw [hr]; simp,fun j' hj'=>by
  rw [hr] at hj'
  rcases List.mem_cons.1 hj' with rfl | hj'
  ·exact h
  ·obtain rfl:=List.mem_singleton.1 hj'; exact h2⟩)
theorem Wp.b3 (j j2 j3:Nat) (hr:rdy l listed=[j,j2,j3]) (h:Wo true mc P n l (fun ρ' G' μ'=>Wp mc P n l K m (listed.setIfInBounds j true) ρ' G' μ') [j] ρ G μ)
  (h2:Wo true mc P n l (fun ρ' G' μ'=>Wp mc P n l K m (listed.setIfInBounds j2 true) ρ' G' μ') [j2] ρ G μ) (h3:Wo true mc P n l (fun ρ' G' μ'=>Wp mc P n l K m (listed.setIfInBounds j3 true) ρ' G' μ') [j3] ρ G μ):Wp mc P n l K (m+1) listed ρ G μ :=
 .inr (.inl ⟨by rw [hr]; simp,fun j' hj'=>by
  rw [hr] at hj'
  rcases List.mem_cons.1 hj' with rfl | hj'
  ·exact h
  ·rcases List.mem_cons.1 hj' with rfl | hj'
   ·exact h2
   ·obtain rfl:=List.mem_singleton.1 hj'; exact h3⟩)
end
end Go.Tan
namespace Go.Proofs.YtggleibgadkodaaGreatDoor
open Go.Tan Go.RowKit
namespace Fx
theorem go128:goFn Tryz.prog 128=true:=by kernel_rfl
theorem fo178_1:fOff Tryz.prog 178 1=some 1:=by kernel_rfl
theorem go129:goFn Tryz.prog 129=true:=by kernel_rfl
theorem ag254:aggN Tryz.prog 254=some (some 2):=by kernel_rfl
theorem go130:goFn Tryz.prog 130=true:=by kernel_rfl
theorem fo254_1:fOff Tryz.prog 254 1=some 1:=by kernel_rfl
end Fx
theorem dAppend_ok (bd bm room done clk:Nat) (F:List Fi) (G:PM) (hD:DkR F clk) (hd9:done≤1000000000) (hr9:room≤1000000000) (nm:ByteArray) (h:Sh) (xs:List Y) (hs:SlR G 1 encY h xs) (hn:goodN nm) (hab:fget nm F=none) (hx:xs.length≤1000000000) (hfit:xs.length+szF F≤room):Ct Tryz.prog 64 ([.pointer (some ⟨bd,0,none⟩),.string nm,h.val xs.length]:List Value).toArray G [.blk bd (cl (dkC bm room (done)) 178),.blk bm (mO ((F).map Fi.fe) (clk))] (fun _ μ' u=>∃ f:Fi,f.nm=nm∧f.n=xs.length∧f.safe=0∧f.born=clk∧μ'=[.blk bd (cl (dkC bm room (done+1)) 178),.blk bm (mO ((F++[f]).map Fi.fe) (clk+1))]∧u=.int .i64 0):=by
 refine Ct.of Tryz.func64 rfl Tryz.ntmps64 rfl fun w0 hs0=>?_
 have hfw:=hD.few
 refine .seq (rq1 rfl rfl (aS rfl rfl (.nil (.code (.seq (.seq (rq4 rfl rfl (mV rfl rfl (mV rfl rfl (ka rfl (.inr rfl) Fx.go128 (Evc rfl (Evc rfl (Evc rfl (Evc rfl Evn)))) (mtk2 .here .here) (ready_ok bd bm room done clk F _ hD hd9 hr9 nm false ⟨none,0⟩ [] SlR.nul (Nat.zero_le _) (fun s hs=>absurd hs List.not_mem_nil) hn (fun h=>absurd h (by decide))) ?_))))))))))
 rintro _ G11 μ11 hG11 ⟨rfl,rfl⟩
 have hs:=hs.mono hG11
 refine aS rfl rfl (.nil (.code (.seq (rq2 rfl rfl (mV rfl rfl (cp rfl .no (.u rfl) (.u rfl) rfl (.nil (.code (.cond rfl (fun c1=>?_) (fun c1=>?_))))))))))
 ·have c1k:=c1
  exact absurd c1 (by decide)
 have c1k:=c1
 try simp only [qcA,qcC,qcB] at c1
 refine .skip (.code (.seq (.seq (Wk.draw (mc:=⟨false,false⟩) [0,1,2,3,4,5,6,7,8,9] Fx.mix (by kernel_rfl) ?_))))
 refine mV rfl rfl (ln rfl .no Fx.sn131 (.u rfl) (mV rfl rfl (nc rfl .no (.u rfl) (fz rfl .no Fx.fo178_1 (.u rfl) (ld rfl .no Fx.ag3 (.u rfl) (fun _=>Rd.own .here rfl) ?_)))))
 refine mV rfl rfl (kp rfl .no Fx.go129 (Evc rfl Evn) (Gp.add tk1 (Gp.add .here Gp.nil)) (fun _ hle hq=>size_ok bd bm room done clk F _ hD ⟨hq.1 _ _ (PM.add_same _ _ _)⟩ ⟨PM.add_same _ _ _⟩) ?_)
 refine ar rfl .no (.u rfl) (.u rfl) rfl (fun _=>wrap_i64 (by omega) (by omega)) ?_
 refine cp rfl .no (.u rfl) (.u rfl) rfl (.nil (.code (.cond rfl (fun c2=>?_) (fun c2=>?_))))
 ·have c2k:=c2
  simp only [decide_eq_true_eq] at c2; omega
 have c2k:=c2
 try simp only [qcA,qcC,qcB] at c2
 refine .skip (.code (.seq (rq8 rfl rfl (mV rfl rfl (nc rfl .no (.u rfl) (fz rfl .no Fx.fo178_0 (.u rfl) (ld rfl .no Fx.ag176 (.u rfl) (fun _=>Rd.own .here rfl) ?_)))))))
 refine mV rfl rfl (lkS rfl .no Fx.ms176 Fx.zv254 (.u rfl) (.u rfl) (mapOwn tk1) (lk_z hab) ?_)
 refine al rfl Fx.zr254 ?_; intro b8
 refine sw rfl (.u rfl) (.u rfl) rfl Fx.sz254 .here rfl (by simp [Value.oneCell']) ?_
 refine .nil (.code (.seq (wk_nilB 5 ?_)))
 refine Wk.rg [0,1,2,3,4,5,6,7,8,9,10,11,12] rfl rfl (fz rfl .no Fx.fo254_0 (.u rfl) (ld rfl .no Fx.ag131 (.u rfl) (fun _=>Rd.own tk1 rfl) ?_))
 refine fz rfl .no Fx.fo254_0 (.u rfl) (ld rfl .no Fx.ag131 (.u rfl) (fun _=>Rd.own tk1 rfl) ?_)
 refine ln rfl .no Fx.sn131 (.u rfl) (fz rfl .no Fx.fo254_0 (.u rfl) (ld rfl .no Fx.ag131 (.u rfl) (fun _=>Rd.own tk1 rfl) ?_))
 refine ln rfl .no Fx.sn131 (.u rfl) (k00 rfl Fx.se131 (.u rfl) (.u rfl) (.u rfl) ?_)
 refine mV rfl rfl (apY rfl Fx.se131 Fx.zv5 (.u rfl) (.u rfl) .here hs.sc (by (try simp only [qlA,yl_len]); omega) ?_)
 intro v41 L41 ov41 eL41
 have lL41:L41.length=([]:List Y).length+xs.length:=by rw [eL41,List.length_append]
 refine fz rfl .no Fx.fo254_0 (.u rfl) (s1v rfl (.u rfl) (.u rfl) .here Fx.sz131 tk1 (by first|(simp [dkC,Fi.cells]; done)|decide) (rfl) ?_)
 refine .nil (.code (.seq ?_))
 refine wk_fb tk1 (keys_k tk1 rfl (keys_k tk1 rfl (keys_0))) ?_; intro GfRN hRN hleRN evRN hsRN; subst evRN
 refine Wk.draw (mc:=⟨false,false⟩) [0,1,2,3,4,5,6] Fx.mix (by kernel_rfl) ?_
 refine mV rfl rfl (nc rfl .no (.u rfl) (fz rfl .no Fx.fo178_0 (.u rfl) (ld rfl .no Fx.ag176 (.u rfl) (fun _=>Rd.own tk1 rfl) ?_)))
 refine mV rfl rfl (lA rfl .no Fx.ag254 (.u rfl) (fun _=>RdN.own .here) (fun _=>rfl) ?_)
 refine muS rfl Fx.ms176 (.u rfl) (.u rfl) (.u rfl) tk2 (lk_n hab) ?_
 refine .nil (.code (.seq (rq3 rfl rfl (mV rfl rfl (ka rfl (.inr rfl) Fx.go130 (Evc rfl Evn) (mtk1 tk2) (did_ok bd bm room done _ (by omega)) ?_)))))
 rintro _ G50 μ50 hG50 ⟨rfl,rfl⟩
 refine aS rfl rfl (.nil (.code (.ret (We.fin Tryz.results64 (.tmp rfl .nil) (mS .here rfl (mS .here rfl mN)) ?_))))
 exact ⟨⟨nm,hRN,xs.length,0,clk⟩,rfl,rfl,rfl,rfl,by rw [← fe_app]; simp only [Fi.fe,Fi.val,Fi.cells,←show L41.length=xs.length by rw [eL41]; rfl]; rfl,rfl⟩
theorem dSync_ok (bd bm room done clk:Nat) (F:List Fi) (G:PM) (hD:DkR F clk) (hd9:done≤1000000000) (hr9:room≤1000000000) (nm:ByteArray) (f:Fi) (hn:goodN nm) (hf:fget nm F=some f):Ct Tryz.prog 131 ([.pointer (some ⟨bd,0,none⟩),.string nm]:List Value).toArray G [.blk bd (cl (dkC bm room (done)) 178),.blk bm (mO ((F).map Fi.fe) (clk))] (fun _ μ' u=>μ'=[.blk bd (cl (dkC bm room (done+1)) 178),.blk bm (mO ((fsy nm F).map Fi.fe) (clk))]∧u=.int .i64 0):=by
 refine Ct.of Tryz.func131 rfl Tryz.ntmps131 rfl fun w0 hs0=>?_
 refine .seq (rq1 rfl rfl (aS rfl rfl (.nil (.code (.seq (.seq (rq4 rfl rfl (mV rfl rfl (mV rfl rfl (ka rfl (.inr rfl) Fx.go128 (Evc rfl (Evc rfl (Evc rfl (Evc rfl Evn)))) (mtk2 .here .here) (ready_ok bd bm room done clk F _ hD hd9 hr9 nm true ⟨none,0⟩ [] SlR.nul (Nat.zero_le _) (fun s hs=>absurd hs List.not_mem_nil) hn (fun _=>by rw [hf]; rfl)) ?_))))))))))
 rintro _ G9 μ9 hG9 ⟨rfl,rfl⟩
 refine aS rfl rfl (.nil (.code (.seq (rq2 rfl rfl (mV rfl rfl (cp rfl .no (.u rfl) (.u rfl) rfl (.nil (.code (.cond rfl (fun c1=>?_) (fun c1=>?_))))))))))
 ·have c1k:=c1
  exact absurd c1 (by decide)
 have c1k:=c1
 try simp only [qcA,qcC,qcB] at c1
 refine .skip (.code (.seq (rq8 rfl rfl (mV rfl rfl (nc rfl .no (.u rfl) (fz rfl .no Fx.fo178_0 (.u rfl) (ld rfl .no Fx.ag176 (.u rfl) (fun _=>Rd.own .here rfl) ?_)))))))
 refine mV rfl rfl (lkS rfl .no Fx.ms176 Fx.zv254 (.u rfl) (.u rfl) (mapOwn tk1) (lk_g hf) ?_)
 refine al rfl Fx.zr254 ?_; intro b6
 refine sw rfl (.u rfl) (.u rfl) rfl Fx.sz254 .here rfl (Fi.one _) ?_
 refine .nil (.code (.seq (rq5 rfl rfl (fz rfl .no Fx.fo254_0 (.u rfl) (ld rfl .no Fx.ag131 (.u rfl) (fun _=>Rd.own .here rfl) ?_)))))
 refine ln rfl .no Fx.sn131 (.u rfl) (fz rfl .no Fx.fo254_1 (.u rfl) (s1 rfl (.u rfl) (.u rfl) rfl Fx.sz3 .here (by first|(simp [dkC,Fi.cells]; done)|decide) (rfl) ?_))
 refine .nil (.code (.seq (Wk.draw (mc:=⟨false,false⟩) [0,1,2,3,4,5,6] Fx.mix (by kernel_rfl) ?_)))
 refine mV rfl rfl (nc rfl .no (.u rfl) (fz rfl .no Fx.fo178_0 (.u rfl) (ld rfl .no Fx.ag176 (.u rfl) (fun _=>Rd.own tk1 rfl) ?_)))
 refine mV rfl rfl (lA rfl .no Fx.ag254 (.u rfl) (fun _=>RdN.own .here) (fun _=>rfl) ?_)
 refine muT rfl Fx.ms176 (.u rfl) (.u rfl) (.u rfl) tk2 (lk_s hf) ?_
 refine .nil (.code (.seq (rq3 rfl rfl (mV rfl rfl (ka rfl (.inr rfl) Fx.go130 (Evc rfl Evn) (mtk1 tk2) (did_ok bd bm room done _ (by omega)) ?_)))))
 rintro _ G30 μ30 hG30 ⟨rfl,rfl⟩
 refine aS rfl rfl (.nil (.code (.ret (We.fin Tryz.results131 (.tmp rfl .nil) (mS .here rfl (mS .here rfl mN)) ?_))))
 exact ⟨by rw [← mset_fe hf]; rfl,rfl⟩
theorem dRename_ok (bd bm room done clk:Nat) (F:List Fi) (G:PM) (hD:DkR F clk) (hd9:done≤1000000000) (hr9:room≤1000000000) (nm to:ByteArray) (f:Fi) (hn:goodN nm) (hn2:goodN to) (hf:fget nm F=some f) (hab:fget to (fdel nm F)=none):Ct Tryz.prog 139 ([.pointer (some ⟨bd,0,none⟩),.string nm,.string to]:List Value).toArray G [.blk bd (cl (dkC bm room (done)) 178),.blk bm (mO ((F).map Fi.fe) (clk))] (fun _ μ' u=>μ'=[.blk bd (cl (dkC bm room (done+1)) 178),.blk bm (mO ((fdel nm F++[{ f with nm:=to,born:=clk }]).map Fi.fe) (clk+1))]∧u=.int .i64 0):=by
 refine Ct.of Tryz.func139 rfl Tryz.ntmps139 rfl fun w0 hs0=>?_
 refine .seq (rq1 rfl rfl (aS rfl rfl (.nil (.code (.seq (.seq (rq6 rfl rfl (mV rfl rfl (mV rfl rfl (mV rfl rfl ?_))))))))))
 refine Go.Tan.b1 rfl FxGrQ.se261 FxGrQ.zv9 (.u rfl) rfl rfl (by decide) ?_; intro b12
 refine ka rfl (.inr rfl) Fx.go128 (Evc rfl (Evc rfl (Evc rfl (Evc rfl Evn)))) (mtk3 .here .here .here) (Ct.give fun _=>ready_ok bd bm room done clk F _ hD hd9 hr9 nm true ⟨some ⟨b12,0,none⟩,1⟩ [to] (SlR.ofBlk (xs:=[to]) (PM.add_same _ _ _) (fun _ _=>rfl) (Nat.le_refl 1)) (by show 1≤_; omega) (fun s hs=>by rw [List.mem_singleton.1 hs]; exact hn2) hn (fun _=>by rw [hf]; rfl)) ?_
 rintro _ G13 μ13 hG13 ⟨rfl,rfl⟩
 refine aS rfl rfl (.nil (.code (.seq (rq2 rfl rfl (mV rfl rfl (cp rfl .no (.u rfl) (.u rfl) rfl (.nil (.code (.cond rfl (fun c1=>?_) (fun c1=>?_))))))))))
 ·have c1k:=c1
  exact absurd c1 (by decide)
 have c1k:=c1
 try simp only [qcA,qcC,qcB] at c1
 refine .skip (.code (.seq (rq8 rfl rfl (mV rfl rfl (nc rfl .no (.u rfl) (fz rfl .no Fx.fo178_0 (.u rfl) (ld rfl .no Fx.ag176 (.u rfl) (fun _=>Rd.own .here rfl) ?_)))))))
 refine mV rfl rfl (lkS rfl .no Fx.ms176 Fx.zv254 (.u rfl) (.u rfl) (mapOwn tk1) (lk_g hf) ?_)
 refine al rfl Fx.zr254 ?_; intro b8
 refine sw rfl (.u rfl) (.u rfl) rfl Fx.sz254 .here rfl (Fi.one _) ?_
 refine .nil (.code (.seq (rq6 rfl rfl (mV rfl rfl (nc rfl .no (.u rfl) (fz rfl .no Fx.fo178_0 (.u rfl) (ld rfl .no Fx.ag176 (.u rfl) (fun _=>Rd.own tk1 rfl) ?_)))))))
 refine mV rfl rfl (dlS rfl Fx.ms176 (.u rfl) (.u rfl) tk2 (lk_s hf) ?_)
 refine .nil (.code (.seq (Wk.draw (mc:=⟨false,false⟩) [0,1,2,3,4,5,6] Fx.mix (by kernel_rfl) ?_)))
 refine mV rfl rfl (nc rfl .no (.u rfl) (fz rfl .no Fx.fo178_0 (.u rfl) (ld rfl .no Fx.ag176 (.u rfl) (fun _=>Rd.own tk2 rfl) ?_)))
 refine mV rfl rfl (lA rfl .no Fx.ag254 (.u rfl) (fun _=>RdN.own tk1) (fun _=>rfl) ?_)
 refine muS rfl Fx.ms176 (.u rfl) (.u rfl) (.u rfl) .here (by rw [mdel_fe]; exact lk_n hab) ?_
 refine .nil (.code (.seq (rq3 rfl rfl (mV rfl rfl (ka rfl (.inr rfl) Fx.go130 (Evc rfl Evn) (mtk1 tk2) (did_ok bd bm room done _ (by omega)) ?_)))))
 rintro _ G35 μ35 hG35 ⟨rfl,rfl⟩
 refine aS rfl rfl (.nil (.code (.ret (We.fin Tryz.results139 (.tmp rfl .nil) (mS .here rfl (mS .here rfl mN)) ?_))))
 exact ⟨by rw [← fe_app,←mdel_fe]; rfl,rfl⟩
namespace FxGrS
theorem sz41:szT Tryz.prog 41=some 1:=by kernel_rfl
end FxGrS
namespace Fx
theorem bp175_:bPl Tryz.prog 175 []=some ([.int .u64 0,.int .u64 0],[]):=by kernel_rfl
theorem pt68:ptT Tryz.prog 68=true:=by kernel_rfl
theorem fo175_0:fOff Tryz.prog 175 0=some 0:=by kernel_rfl
theorem fo173_0:fOff Tryz.prog 173 0=some 0:=by kernel_rfl
theorem fo173_1:fOff Tryz.prog 173 1=some 1:=by kernel_rfl
theorem bp173_0_1:bPl Tryz.prog 173 [0,1]=some ([.int .u64 0,.int .u64 0],[(0,1),(1,1)]):=by kernel_rfl
theorem zr173:zrL Tryz.prog 173=some ([.int .u64 0,.int .u64 0]):=by kernel_rfl
theorem sz173:szT Tryz.prog 173=some 2:=by kernel_rfl
theorem ag173:aggN Tryz.prog 173=some (some 2):=by kernel_rfl
theorem eqt173:eqT Tryz.prog 2 173 ([.int .u64,.int .u64])=true:=by kernel_rfl
theorem bp178_0_1_3:bPl Tryz.prog 178 [0,1,3]=some ([.map none,.int .i64 0,.bool false,.int .i64 0,.int .i64 0],[(0,1),(1,1),(3,1)]):=by kernel_rfl
end Fx
theorem must_ok (G:PM):Ct Tryz.prog 63 ([.int .i64 0]:List Value).toArray G [] (fun _ μ' u=>μ'=[]∧u=.tuple #[]):=by
 refine Ct.of Tryz.func63 rfl Tryz.ntmps63 rfl fun w0 hs0=>?_
 refine .seq (rq2 rfl rfl (mV rfl rfl (cp rfl .no (.u rfl) (.u rfl) rfl (.nil (.code (.cond rfl (fun c1=>?_) (fun c1=>?_)))))))
 ·have c1k:=c1
  exact absurd c1 (by decide)
 have c1k:=c1
 try simp only [qcA,qcB] at c1
 refine .skip (.nil (We.fin0 Tryz.results63 .nil ?_))
 exact ⟨rfl,rfl⟩
theorem dneed_ok (b:Bool) (hb:b=true) (G:PM):Ct Tryz.prog 48 ([.bool b]:List Value).toArray G [] (fun _ μ' u=>μ'=[]∧u=.tuple #[]):=by
 subst hb
 refine Ct.of Tryz.func48 rfl Tryz.ntmps48 rfl fun w0 hs0=>?_
 refine .seq (rq2 rfl rfl (mV rfl rfl (nt rfl .no (.u rfl) (.nil (.code (.cond rfl (fun c1=>?_) (fun c1=>?_)))))))
 ·have c1k:=c1
  exact absurd c1 (by decide)
 have c1k:=c1
 try simp only [qcA,qcB] at c1
 refine .skip (.nil (We.fin0 Tryz.results48 .nil ?_))
 exact ⟨rfl,rfl⟩
theorem tnew_ok (G:PM):Ct Tryz.prog 26 ([]:List Value).toArray G [] (fun _ μ' u=>∃ bt,μ'=[.blk bt (cl [uv .u64 (0),uv .u64 (0)] 175)]∧u=.pointer (some ⟨bt,0,none⟩)):=by
 refine Ct.of Tryz.func26 rfl Tryz.ntmps26 rfl fun w0 hs0=>?_
 refine .seq (rq1 rfl rfl (aS rfl rfl (.nil (.code (.seq (rq3 rfl rfl (bC rfl .no Fx.bp175_ .nil rfl ?_)))))))
 refine bx rfl (.u rfl) rfl ?_; intro b2
 refine aS rfl rfl (.nil (.code (.ret (We.fin Tryz.results26 (.tmp rfl .nil) (mS .here rfl mN) ?_))))
 exact ⟨b2,rfl,rfl⟩
theorem marks_ok (bt:Nat) (m o:BitVec 64) (G:PM) (hbt:PB G bt (cl [uv .u64 m,uv .u64 o] 175)):Ct Tryz.prog 60 ([.pointer (some ⟨bt,0,none⟩)]:List Value).toArray G [] (fun _ μ' u=>μ'=[]∧u=uv .u64 m):=by
 refine Ct.of Tryz.func60 rfl Tryz.ntmps60 rfl fun w0 hs0=>?_
 refine .seq (rq1 rfl rfl (aS rfl rfl (.nil (.code (.seq (.seq (rq2 rfl rfl (mV rfl rfl (pe rfl .no Fx.pt68 (.u rfl) (.u rfl) ?_)))))))))
 refine .nil (.code (Wk.condF rfl rfl ?_))
 refine .skip (.code (.seq (rq6 rfl rfl (mV rfl rfl (nc rfl .no (.u rfl) (fa rfl .no Fx.fo175_0 (.u rfl) (fa rfl .no Fx.fo173_0 (.u rfl) (ld rfl .no Fx.ag41 (.u rfl) (fun _=>(hbt.rd (by rfl)).rd) ?_))))))))
 refine aS rfl rfl (.nil (.code (.ret (We.fin0 Tryz.results60 (.tmp rfl .nil) ?_))))
 exact ⟨rfl,rfl⟩
theorem mark_ok (bt:Nat) (m o:BitVec 64) (G:PM) (hm:m.toNat≤1000000):Ct Tryz.prog 132 ([.pointer (some ⟨bt,0,none⟩),uv .u64 (m+1#64)]:List Value).toArray G [.blk bt (cl [uv .u64 (m),uv .u64 (o)] 175)] (fun _ μ' u=>μ'=[.blk bt (cl [uv .u64 (m+1#64),uv .u64 (o)] 175)]∧u=.int .i64 0):=by
 refine Ct.of Tryz.func132 rfl Tryz.ntmps132 rfl fun w0 hs0=>?_
 have hm1:@BitVec.toNat IntKind.u64.bits (m+1#64) = @BitVec.toNat 64 m+1:=by show (m+1#64).toNat=_; rw [BitVec.toNat_add]; show (m.toNat+1)%2^64=_; omega
 have hm3:@BitVec.toNat 64 (m+1#64) = @BitVec.toNat 64 m+1:=hm1
 refine .seq (rq1 rfl rfl (aS rfl rfl (.nil (.code (.seq (.seq (rq2 rfl rfl (mV rfl rfl (pe rfl .no Fx.pt68 (.u rfl) (.u rfl) ?_)))))))))
 refine .nil (.code (Wk.condF rfl rfl ?_))
 refine .skip (.code (.seq (rq9 rfl rfl (mV rfl rfl (mV rfl rfl (nc rfl .no (.u rfl) (fz rfl .no Fx.fo175_0 (.u rfl) (fz rfl .no Fx.fo173_1 (.u rfl) (ld rfl .no Fx.ag41 (.u rfl) (fun _=>Rd.own .here (by first|exact wap_f rfl|rfl)) ?_)))))))))
 refine bC rfl .no Fx.bp173_0_1 (.cons (.u rfl) rfl (.cons (.u rfl) rfl .nil)) rfl ?_
 refine al rfl Fx.zr173 ?_; intro b5
 refine sw rfl (.u rfl) (.u rfl) rfl Fx.sz173 .here rfl (uv2_one _ _) ?_
 refine .nil (.code (.seq (.seq (Wk.draw (mc:=⟨false,false⟩) [0,1,2,3,4,5,6,7,8,9,10,11,12,13,14,15,16,17,18,19] Fx.mix (by kernel_rfl) ?_))))
 refine mV rfl rfl (cp rfl .no (.u rfl) (.u rfl) rfl (mV rfl rfl (lA rfl (.f rfl rfl) Fx.ag173 (.u rfl) (fun _=>RdN.own .here) (fun _=>(by first|exact qE|exact qL|rfl)) ?_)))
 refine mv rfl (.f rfl rfl) (.u rfl) (nc rfl (.f rfl rfl) (.s rfl) (fz rfl (.f rfl rfl) Fx.fo175_0 (.s rfl) (lA rfl (.f rfl rfl) Fx.ag173 (.s rfl) (fun _=>RdN.own tk1) (fun _=>(by first|exact qE|exact qL|rfl)) ?_)))
 refine eqC (false) rfl (.f rfl rfl) Fx.eqt173 (.s rfl) (.s rfl) (fun hc=>.u64 (.u64 .nil)) (fun hc=>.u64 (.u64 .nil)) (fun hc=>⟨fun h=>absurd h (by decide),fun h=>by have:=mk_ne h; omega⟩) ?_
 refine pkO rfl .no (.u rfl) (.s rfl) (mV rfl rfl (mv rfl (.f rfl rfl) (.u rfl) (bw (k:=.u64) (b:=1#64) rfl (.f rfl rfl) rfl (.s rfl) (.u rfl) rfl (mv rfl (.f rfl rfl) (.u rfl) (nc rfl (.f rfl rfl) (.s rfl) (fz rfl (.f rfl rfl) Fx.fo175_0 (.s rfl) (fz rfl (.f rfl rfl) Fx.fo173_0 (.s rfl) (ld rfl (.f rfl rfl) Fx.ag41 (.s rfl) (fun hc=>Rd.own tk1 (by first|exact wap_f rfl|rfl)) ?_))))))))
 refine cp rfl (.f rfl rfl) (.s rfl) (.s rfl) rfl (pkO rfl .no (.u rfl) (.s rfl) (.nil (.code (.cond rfl (fun c1=>?_) (fun c1=>?_)))))
 ·have c1k:=c1
  exact (mk_no hm c1).elim
 have c1k:=c1
 try simp only [qcA,qcC,qcB] at c1
 refine .skip (.code (.seq (rq5 rfl rfl (mV rfl rfl (lA rfl .no Fx.ag173 (.u rfl) (fun _=>RdN.own .here) (fun _=>rfl) ?_)))))
 refine nc rfl .no (.u rfl) (fz rfl .no Fx.fo175_0 (.u rfl) (sw rfl (.u rfl) (.u rfl) rfl Fx.sz173 tk1 rfl (uv2_one _ _) ?_))
 refine .nil (.code (.seq (rq1 rfl rfl (aS rfl rfl (.nil (.code (.ret (We.fin Tryz.results132 (.tmp rfl .nil) (mS .here rfl mN) ?_))))))))
 exact ⟨rfl,rfl⟩
theorem topen_ok (bt:Nat) (m o:BitVec 64) (G:PM) (ho:o.toNat≤1000000):Ct Tryz.prog 78 ([.pointer (some ⟨bt,0,none⟩)]:List Value).toArray G [.blk bt (cl [uv .u64 (m),uv .u64 (o)] 175)] (fun _ μ' u=>μ'=[.blk bt (cl [uv .u64 (m),uv .u64 (o+1#64)] 175)]∧u=.tuple #[uv .u64 (o+1#64),.int .i64 0]):=by
 refine Ct.of Tryz.func78 rfl Tryz.ntmps78 rfl fun w0 hs0=>?_
 have ho1:@BitVec.toNat IntKind.u64.bits o = @BitVec.toNat 64 o:=rfl
 refine .seq (rq2 rfl rfl (aS rfl rfl (aS rfl rfl (.nil (.code (.seq (.seq (rq2 rfl rfl (mV rfl rfl (pe rfl .no Fx.pt68 (.u rfl) (.u rfl) ?_))))))))))
 refine .nil (.code (Wk.condF rfl rfl ?_))
 refine .skip (.code (.seq (.seq (rq6 rfl rfl (mV rfl rfl (nc rfl .no (.u rfl) (fz rfl .no Fx.fo175_0 (.u rfl) (fz rfl .no Fx.fo173_1 (.u rfl) (ld rfl .no Fx.ag41 (.u rfl) (fun _=>Rd.own .here (by first|exact wap_f rfl|rfl)) ?_)))))))))
 refine cp rfl .no (.u rfl) (.u rfl) rfl (.nil (.code (.cond rfl (fun c1=>?_) (fun c1=>?_))))
 ·have c1k:=c1
  have:=of_decide_eq_true c1; omega
 have c1k:=c1
 try simp only [qcA,qcC,qcB] at c1
 refine .skip (.code (.seq (rq10 rfl rfl (mV rfl rfl (nc rfl .no (.u rfl) (fz rfl .no Fx.fo175_0 (.u rfl) (fz rfl .no Fx.fo173_1 (.u rfl) (ld rfl .no Fx.ag41 (.u rfl) (fun _=>Rd.own .here (by first|exact wap_f rfl|rfl)) ?_))))))))
 refine bw (k:=.u64) (b:=1#64) rfl .no rfl (.u rfl) (.u rfl) rfl (nc rfl .no (.u rfl) (fz rfl .no Fx.fo175_0 (.u rfl) (fz rfl .no Fx.fo173_1 (.u rfl) (s1 rfl (.u rfl) (.u rfl) rfl FxGrS.sz41 .here (by first|decide|(simp only [wa_len,ba_len,qlA]; omega)) (rfl) ?_))))
 refine .nil (.code (.seq (rq7 rfl rfl (mV rfl rfl (nc rfl .no (.u rfl) (fz rfl .no Fx.fo175_0 (.u rfl) (fz rfl .no Fx.fo173_1 (.u rfl) (ld rfl .no Fx.ag41 (.u rfl) (fun _=>Rd.own .here (by first|exact wap_f rfl|rfl)) ?_))))))))
 refine aS rfl rfl (aS rfl rfl (.nil (.code (.ret (We.fin Tryz.results78 (.tmp rfl (.tmp rfl .nil)) (mS .here rfl mN) ?_)))))
 exact ⟨rfl,rfl⟩
theorem dnew_ok (room:Nat) (G:PM) (hr:room≤1000000000):Ct Tryz.prog 27 ([.int .i64 ((room:Nat):Int)]:List Value).toArray G [] (fun _ μ' u=>∃ bd bm,μ'=[.blk bd (cl (dkC bm room 0) 178),.blk bm (mO [] 0)]∧u=.pointer (some ⟨bd,0,none⟩)):=by
 refine Ct.of Tryz.func27 rfl Tryz.ntmps27 rfl fun w0 hs0=>?_
 refine .seq (rq1 rfl rfl (aS rfl rfl (.nil (.code (.seq (rq6 rfl rfl ?_))))))
 refine mkM rfl ?_; intro b3
 refine mV rfl rfl (mAn 0 room rfl .no (.u rfl) (.u rfl) (fun _=>rfl) (fun _=>rfl) ?_)
 refine bC rfl .no Fx.bp178_0_1_3 (.cons (.u rfl) rfl (.cons (.u rfl) rfl (.cons (.u rfl) rfl .nil))) rfl ?_
 refine bx rfl (.u rfl) rfl ?_; intro b7
 refine aS rfl rfl (.nil (.code (.ret (We.fin Tryz.results27 (.tmp rfl .nil) (mS .here rfl (mS .here rfl mN)) ?_))))
 exact ⟨b7,b3,by rw [show max 0 room=room by omega]; rfl,rfl⟩
theorem dead_ok (bd bm room done clk:Nat) (F:List Fi) (G:PM) (hbd:PB G bd (cl (dkC bm room done) 178)):Ct Tryz.prog 77 ([.pointer (some ⟨bd,0,none⟩)]:List Value).toArray G [] (fun _ μ' u=>μ'=[]∧u=.bool false):=by
 refine Ct.of Tryz.func77 rfl Tryz.ntmps77 rfl fun w0 hs0=>?_
 refine .seq (rq1 rfl rfl (aS rfl rfl (.nil (.code (.seq (rq9 rfl rfl (mV rfl rfl (pn rfl .no Fx.pt72 (.u rfl) (.u rfl) ?_))))))))
 refine mV rfl rfl (mv rfl (.t rfl rfl) (.u rfl) (nc rfl (.t rfl rfl) (.s rfl) (fa rfl (.t rfl rfl) Fx.fo178_2 (.s rfl) (ld rfl (.t rfl rfl) FxGrQ.ag4 (.s rfl) (fun hc=>(hbd.rd (rfl)).rd) ?_))))
 refine pkA rfl .no (.u rfl) (.s rfl) (aS rfl rfl (.nil (.code (.ret (We.fin0 Tryz.results77 (.tmp rfl .nil) ?_)))))
 exact ⟨rfl,rfl⟩
theorem dRead_ok (bd bm room done clk:Nat) (F:List Fi) (G:PM) (hbd:PB G bd (cl (dkC bm room done) 178)) (hbm:PB G bm (mO (F.map Fi.fe) clk)) (nm:ByteArray) (hn:goodN nm) (hab:fget nm F=none):Ct Tryz.prog 101 ([.pointer (some ⟨bd,0,none⟩),.string nm]:List Value).toArray G [] (fun _ μ' u=>μ'=[]∧u=.tuple #[.slice none 0 0,.int .i64 2]):=by
 refine Ct.of Tryz.func101 rfl Tryz.ntmps101 rfl fun w0 hs0=>?_
 refine .seq (rq2 rfl rfl (aS rfl rfl (aS rfl rfl (.nil (.code (.seq (.block (.seq (rq3 rfl rfl (mV rfl rfl (pe rfl .no Fx.pt72 (.u rfl) (.u rfl) ?_)))))))))))
 refine aS rfl rfl (.nil (.code (.cond rfl (fun c1=>?_) (fun c1=>?_))))
 ·have c1k:=c1
  cases c1
 have c1k:=c1
 try simp only [qcA,qcB] at c1
 refine .seq (rq5 rfl rfl (mV rfl rfl ?_))
 refine Go.Tan.b1 rfl FxGrQ.se261 FxGrQ.zv9 (.u rfl) rfl rfl (by decide) ?_; intro b13
 refine kp rfl .no Fx.go156 (Evc rfl Evn) (Gp.add .here Gp.nil) (fun _ hle hq=>goodL_ok ⟨some ⟨b13,0,none⟩,1⟩ [nm] _ (SlR.ofBlk (xs:=[nm]) (PM.add_same _ _ _) (fun _ _=>rfl) (Nat.le_refl 1)) (by show 1≤_; omega) (fun s hs=>by rw [List.mem_singleton.1 hs]; exact hn)) ?_
 refine nt rfl .no (.u rfl) (aS rfl rfl (.nil (.code (.cond rfl (fun c2=>?_) (fun c2=>?_)))))
 ·have c2k:=c2
  exact absurd c2 (by decide)
 have c2k:=c2
 try simp only [qcA,qcB] at c2
 refine .seq (rq5 rfl rfl (mV rfl rfl (nc rfl .no (.u rfl) (fa rfl .no Fx.fo178_2 (.u rfl) (ld rfl .no FxGrQ.ag4 (.u rfl) (fun _=>(hbd.rd (rfl)).rd) ?_)))))
 refine aS rfl rfl (.nil (.code (.cond rfl (fun c3=>?_) (fun c3=>?_))))
 ·have c3k:=c3
  cases c3
 have c3k:=c3
 try simp only [qcA,qcB] at c3
 refine .skip (.blk (.code (.seq (Wk.rg [0,1,2,3,4,5,6,7,8,9,10,11] rfl rfl (mV rfl rfl (nc rfl .no (.u rfl) (fa rfl .no Fx.fo178_0 (.u rfl) (ld rfl .no Fx.ag176 (.u rfl) (fun _=>(hbd.rd (rfl)).rd) ?_))))))))
 refine mV rfl rfl (lkS2 rfl .no Fx.ms176 Fx.zv254 (.u rfl) (.u rfl) (mapStay hbm.h) (lk_z hab) (lk_f hab) ?_)
 refine mV rfl rfl (ex rfl .no (.u rfl) rfl (ex rfl .no (.u rfl) rfl ?_))
 refine al rfl Fx.zr254 ?_; intro b6
 refine sw rfl (.u rfl) (.u rfl) rfl Fx.sz254 .here rfl (by simp [Value.oneCell']) ?_
 refine aS rfl rfl (.nil (.code (.seq (.seq (rq2 rfl rfl (mV rfl rfl (nt rfl .no (.u rfl) (.nil (.code (.cond rfl (fun c4=>?_) (fun c4=>?_)))))))))))
 ·have c4k:=c4
  try simp only [qcA,qcB] at c4
  refine .seq (rq2 rfl rfl (aS rfl rfl (aS rfl rfl (.nil (.code (.ret (We.fin0 Tryz.results101 (.tmp rfl (.tmp rfl .nil)) ?_)))))))
  exact ⟨rfl,rfl⟩
 have c4k:=c4
 cases c4
namespace FxVerP
theorem ag5:aggN Tryz.prog 5=some none:=by kernel_rfl
theorem ag41:aggN Tryz.prog 41=some none:=by kernel_rfl
theorem ag3:aggN Tryz.prog 3=some none:=by kernel_rfl
theorem mix:Tryz.prog.follows .mixedOrders=true:=by kernel_rfl
end FxVerP
namespace Fx
theorem fo128_0:fOff Tryz.prog 128 0=some 0:=by kernel_rfl
theorem fo128_3:fOff Tryz.prog 128 3=some 3:=by kernel_rfl
theorem fo128_7:fOff Tryz.prog 128 7=some 7:=by kernel_rfl
theorem ag9:aggN Tryz.prog 9=some none:=by kernel_rfl
theorem fo128_6:fOff Tryz.prog 128 6=some 6:=by kernel_rfl
theorem st9:strT Tryz.prog 9=true:=by kernel_rfl
theorem fo128_5:fOff Tryz.prog 128 5=some 5:=by kernel_rfl
theorem fo128_4:fOff Tryz.prog 128 4=some 4:=by kernel_rfl
theorem fo64_2:fOff Tryz.prog 64 2=some 6:=by kernel_rfl
theorem fo128_1:fOff Tryz.prog 128 1=some 1:=by kernel_rfl
theorem fo64_5:fOff Tryz.prog 64 5=some 9:=by kernel_rfl
theorem ar62:arE Tryz.prog 62=some (5,41,1):=by kernel_rfl
end Fx
theorem stands_ok (a b:Meta) (G:PM) (h0:0≤a.level):Ct Tryz.prog 75 ([a.val,b.val]:List Value).toArray G [] (fun _ μ' u=>μ'=[]∧u=.bool (pairOk a.level a b)):=by
 refine Ct.of Tryz.func75 rfl Tryz.ntmps75 rfl fun w0 hs0=>?_
 refine .seq (rq3 rfl rfl ?_)
 refine bx rfl (.u rfl) rfl ?_; intro b2
 refine bx rfl (.u rfl) rfl ?_; intro b3
 refine aS rfl rfl (.nil (.code (.seq (.seq (rq3 rfl rfl (fz rfl .no Fx.fo128_0 (.u rfl) (ld rfl .no FxVerP.ag5 (.u rfl) (fun _=>Rd.own tk1 rfl) ?_)))))))
 refine cp rfl .no (.u rfl) (.u rfl) rfl (.nil (.code (.cond rfl (fun c1=>?_) (fun c1=>?_))))
 ·have c1k:=c1
  try simp only [qcA] at c1
  refine .seq (rq6 rfl rfl (fz rfl .no Fx.fo128_3 (.u rfl) (ld rfl .no FxVerP.ag41 (.u rfl) (fun _=>Rd.own tk1 rfl) ?_)))
  refine fz rfl .no Fx.fo128_3 (.u rfl) (ld rfl .no FxVerP.ag41 (.u rfl) (fun _=>Rd.own .here rfl) ?_)
  refine cp rfl .no (.u rfl) (.u rfl) rfl (aS rfl rfl (.nil (.code (.ret (We.fin0 Tryz.results75 (.tmp rfl .nil) ?_)))))
  exact ⟨rfl,congrArg Value.bool (by rw [← stands_eq a b h0,if_pos c1k])⟩
 have c1k:=c1
 try simp only [qcA] at c1
 refine .skip (.code (.seq (rq6 rfl rfl (fz rfl .no Fx.fo128_7 (.u rfl) (ld rfl .no Fx.ag9 (.u rfl) (fun _=>Rd.own tk1 rfl) ?_)))))
 refine fz rfl .no Fx.fo128_6 (.u rfl) (ld rfl .no Fx.ag9 (.u rfl) (fun _=>Rd.own .here rfl) ?_)
 refine cs rfl .no (.u rfl) (.u rfl) rfl (aS rfl rfl (.nil (.code (.ret (We.fin0 Tryz.results75 (.tmp rfl .nil) ?_)))))
 exact ⟨rfl,congrArg Value.bool (by rw [← stands_eq a b h0,if_neg (by rw [c1k]; simp)]; rfl)⟩
theorem fits_ok (s:State) (hd:Nat→Sh) (m:Meta) (b:Nat) (G:PM) (hp:RdNP G b 0 (s.cells hd)) (h0:0≤m.level):Ct Tryz.prog 74 ([.pointer (some ⟨b,0,none⟩),m.val]:List Value).toArray G [] (fun _ μ' u=>μ'=[]∧u=.bool (good s m)):=by
 refine Ct.of Tryz.func74 rfl Tryz.ntmps74 rfl fun w0 hs0=>?_
 refine .seq (rq2 rfl rfl ?_)
 refine bx rfl (.u rfl) rfl ?_; intro b3
 refine aS rfl rfl (.nil (.code (.seq (.block (.seq (.seq (rq4 rfl rfl (fz rfl .no Fx.fo128_0 (.u rfl) (ld rfl .no FxVerP.ag5 (.u rfl) (fun _=>Rd.own .here rfl) ?_)))))))))
 refine cp rfl .no (.u rfl) (.u rfl) rfl (aS rfl rfl (.nil (.code (.cond rfl (fun c1=>?_) (fun c1=>?_)))))
 ·have c1k:=c1
  try simp only [qcA] at c1
  refine .skip (.code (Wk.condT rfl c1k ?_))
  refine .seq (rq1 rfl rfl (aS rfl rfl (.nil (.code (.ret (We.fin0 Tryz.results74 (.tmp rfl .nil) ?_))))))
  exact ⟨rfl,by simp [tup,good]; omega⟩
 have c1k:=c1
 try simp only [qcA] at c1
 refine .seq (rq6 rfl rfl (fz rfl .no Fx.fo128_6 (.u rfl) (ld rfl .no Fx.ag9 (.u rfl) (fun _=>Rd.own .here rfl) ?_)))
 refine fz rfl .no Fx.fo128_7 (.u rfl) (ld rfl .no Fx.ag9 (.u rfl) (fun _=>Rd.own .here rfl) ?_)
 refine cs rfl .no (.u rfl) (.u rfl) rfl (aS rfl rfl (.nil (.code (.cond rfl (fun c2=>?_) (fun c2=>?_)))))
 ·have c2k:=c2
  try simp only [qcA] at c2
  refine .skip (.code (Wk.condT rfl c2k ?_))
  refine .seq (rq1 rfl rfl (aS rfl rfl (.nil (.code (.ret (We.fin0 Tryz.results74 (.tmp rfl .nil) ?_))))))
  exact ⟨rfl,by have h:le m.min m.max=false:=(by simpa [le] using c2k); simp [tup,good,h]⟩
 have c2k:=c2
 try simp only [qcA] at c2
 refine .seq (rq9 rfl rfl (fz rfl .no Fx.fo128_6 (.u rfl) (ld rfl .no Fx.ag9 (.u rfl) (fun _=>Rd.own .here rfl) ?_)))
 refine ls rfl .no Fx.st9 (.u rfl) (fz rfl .no Fx.fo128_7 (.u rfl) (ld rfl .no Fx.ag9 (.u rfl) (fun _=>Rd.own .here rfl) ?_))
 refine ls rfl .no Fx.st9 (.u rfl) (mA rfl .no (.u rfl) (.u rfl) ?_)
 refine cp rfl .no (.u rfl) (.u rfl) rfl (aS rfl rfl (.nil (.code (.cond rfl (fun c3=>?_) (fun c3=>?_)))))
 ·have c3k:=c3
  try simp only [qcA] at c3
  refine .skip (.code (Wk.condT rfl c3k ?_))
  refine .seq (rq1 rfl rfl (aS rfl rfl (.nil (.code (.ret (We.fin0 Tryz.results74 (.tmp rfl .nil) ?_))))))
  exact ⟨rfl,by simp [tup,good]; omega⟩
 have c3k:=c3
 try simp only [qcA] at c3
 refine .seq (rq4 rfl rfl (fz rfl .no Fx.fo128_5 (.u rfl) (ld rfl .no FxVerP.ag3 (.u rfl) (fun _=>Rd.own .here rfl) ?_)))
 refine cp rfl .no (.u rfl) (.u rfl) rfl (aS rfl rfl (.nil (.code (.cond rfl (fun c4=>?_) (fun c4=>?_)))))
 ·have c4k:=c4
  try simp only [qcA] at c4
  refine .skip (.code (Wk.condT rfl c4k ?_))
  refine .seq (rq1 rfl rfl (aS rfl rfl (.nil (.code (.ret (We.fin0 Tryz.results74 (.tmp rfl .nil) ?_))))))
  exact ⟨rfl,by simp [tup,good]; omega⟩
 have c4k:=c4
 try simp only [qcA] at c4
 refine rq4 rfl rfl (fz rfl .no Fx.fo128_4 (.u rfl) (ld rfl .no FxVerP.ag3 (.u rfl) (fun _=>Rd.own .here rfl) ?_))
 refine cp rfl .no (.u rfl) (.u rfl) rfl (aS rfl rfl (.nil (.code (.cond rfl (fun c5=>?_) (fun c5=>?_)))))
 ·have c5k:=c5
  try simp only [qcA] at c5
  refine .seq (rq1 rfl rfl (aS rfl rfl (.nil (.code (.ret (We.fin0 Tryz.results74 (.tmp rfl .nil) ?_))))))
  exact ⟨rfl,by simp [tup,good]; omega⟩
 have c5k:=c5
 try simp only [qcA] at c5
 refine .skip (.blk (.code (.seq (Wk.draw (mc:=⟨false,false⟩) [0,1,2,3,4,5,6,7,8,9,10,11,12,13,14,15,16,17,18,19] FxVerP.mix (by kernel_rfl) ?_))))
 refine fz rfl .no Fx.fo128_3 (.u rfl) (ld rfl .no FxVerP.ag41 (.u rfl) (fun _=>Rd.own .here rfl) ?_)
 refine mV rfl rfl (nc rfl .no (.u rfl) (fz rfl .no Fx.fo64_2 (.u rfl) (ld rfl .no FxVerP.ag41 (.u rfl) (fun _=>(hp.z rfl).rd) ?_)))
 refine cp rfl .no (.u rfl) (.u rfl) rfl (mV rfl rfl (fz rfl (.t rfl rfl) Fx.fo128_1 (.u rfl) (ld rfl (.t rfl rfl) FxVerP.ag41 (.s rfl) (fun _=>Rd.own .here rfl) ?_)))
 refine mv rfl (.t rfl rfl) (.u rfl) (fz rfl (.t rfl rfl) Fx.fo128_0 (.u rfl) (ld rfl (.t rfl rfl) FxVerP.ag5 (.s rfl) (fun _=>Rd.own .here rfl) ?_))
 refine nc rfl (.t rfl rfl) (.s rfl) (fz rfl (.t rfl rfl) Fx.fo64_5 (.s rfl) (iA rfl (.t rfl rfl) Fx.ar62 (.s rfl) (.s rfl) (fun hc=>by omega) (fun hc=>by omega) ?_))
 refine ld rfl (.t rfl rfl) FxVerP.ag41 (.s rfl) (fun hc=>(hp.z (s.cell_gen hd (by omega))).rd) ?_
 refine cp rfl (.t rfl rfl) (.s rfl) (.s rfl) rfl (pkA rfl .no (.u rfl) (.s rfl) (aS rfl rfl (.nil (.code (.ret (We.fin0 Tryz.results74 (.tmp rfl .nil) ?_))))))
 exact ⟨rfl,fits_fin c1 c2k c3 c4 c5⟩
namespace Fx
theorem fo115_0:fOff Tryz.prog 115 0=some 0:=by kernel_rfl
theorem fo115_3:fOff Tryz.prog 115 3=some 3:=by kernel_rfl
theorem fo115_1:fOff Tryz.prog 115 1=some 1:=by kernel_rfl
theorem fo115_2:fOff Tryz.prog 115 2=some 2:=by kernel_rfl
theorem se135:slE Tryz.prog 135=some (115,4,48):=by kernel_rfl
theorem sn135:(slE Tryz.prog 135).isSome=true:=by kernel_rfl
theorem ag115:aggN Tryz.prog 115=some (some 4):=by kernel_rfl
theorem go84:goFn Tryz.prog 84=true:=by kernel_rfl
theorem zr115:zrL Tryz.prog 115=some ([.string ByteArray.empty,.int .u64 0,.int .u8 0,.string ByteArray.empty]):=by kernel_rfl
theorem sz115:szT Tryz.prog 115=some 4:=by kernel_rfl
end Fx
theorem eRight_ok (e:Ent) (G:PM):Ct Tryz.prog 84 ([e.val]:List Value).toArray G [] (fun _ μ' u=>μ'=[]∧u=.bool (rightE e)):=by
 refine Ct.of Tryz.func84 rfl Tryz.ntmps84 rfl fun w0 hs0=>?_
 refine .seq (rq2 rfl rfl ?_)
 refine bx rfl (.u rfl) rfl ?_; intro b1
 refine aS rfl rfl (.nil (.code (.seq (.block (.seq (.seq (rq5 rfl rfl (fz rfl .no Fx.fo115_0 (.u rfl) (ld rfl .no Fx.ag9 (.u rfl) (fun _=>Rd.own .here (by first|exact wap_f rfl|rfl)) ?_)))))))))
 refine ls rfl .no Fx.st9 (.u rfl) (cp rfl .no (.u rfl) (.u rfl) rfl (aS rfl rfl (.nil (.code (.cond rfl (fun c1=>?_) (fun c1=>?_))))))
 ·have c1k:=c1
  try simp only [qcA,qcC,qcB] at c1
  refine .skip (.code (Wk.condT rfl c1k ?_))
  refine .seq (rq1 rfl rfl (aS rfl rfl (.nil (.code (.ret (We.fin0 Tryz.results84 (.tmp rfl .nil) ?_))))))
  exact ⟨rfl,congrArg Value.bool (eR1 c1).symm⟩
 have c1k:=c1
 try simp only [qcA,qcC,qcB] at c1
 refine .seq (rq5 rfl rfl (fz rfl .no Fx.fo115_3 (.u rfl) (ld rfl .no Fx.ag9 (.u rfl) (fun _=>Rd.own .here (by first|exact wap_f rfl|rfl)) ?_)))
 refine ls rfl .no Fx.st9 (.u rfl) (cp rfl .no (.u rfl) (.u rfl) rfl (aS rfl rfl (.nil (.code (.cond rfl (fun c2=>?_) (fun c2=>?_))))))
 ·have c2k:=c2
  try simp only [qcA,qcC,qcB] at c2
  refine .skip (.code (Wk.condT rfl c2k ?_))
  refine .seq (rq1 rfl rfl (aS rfl rfl (.nil (.code (.ret (We.fin0 Tryz.results84 (.tmp rfl .nil) ?_))))))
  exact ⟨rfl,congrArg Value.bool (eR2 c2).symm⟩
 have c2k:=c2
 try simp only [qcA,qcC,qcB] at c2
 refine rq4 rfl rfl (fz rfl .no Fx.fo115_1 (.u rfl) (ld rfl .no FxVerP.ag41 (.u rfl) (fun _=>Rd.own .here (by first|exact wap_f rfl|rfl)) ?_))
 refine cp rfl .no (.u rfl) (.u rfl) rfl (aS rfl rfl (.nil (.code (.cond rfl (fun c3=>?_) (fun c3=>?_)))))
 ·have c3k:=c3
  try simp only [qcA,qcC,qcB] at c3
  refine .seq (rq1 rfl rfl (aS rfl rfl (.nil (.code (.ret (We.fin0 Tryz.results84 (.tmp rfl .nil) ?_))))))
  exact ⟨rfl,congrArg Value.bool (eR3 c3).symm⟩
 have c3k:=c3
 try simp only [qcA,qcC,qcB] at c3
 refine .seq (rq4 rfl rfl (fz rfl .no Fx.fo115_2 (.u rfl) (ld rfl .no FxVerP.ag5 (.u rfl) (fun _=>Rd.own .here (by first|exact wap_f rfl|rfl)) ?_)))
 refine cp rfl .no (.u rfl) (.u rfl) rfl (aS rfl rfl (.nil (.code (.cond rfl (fun c4=>?_) (fun c4=>?_)))))
 ·have c4k:=c4
  try simp only [qcA,qcC,qcB] at c4
  refine .seq (rq4 rfl rfl (fz rfl .no Fx.fo115_3 (.u rfl) (ld rfl .no Fx.ag9 (.u rfl) (fun _=>Rd.own .here (by first|exact wap_f rfl|rfl)) ?_)))
  refine cs rfl .no (.u rfl) (.u rfl) rfl (aS rfl rfl (.nil (.code (.ret (We.fin0 Tryz.results84 (.tmp rfl .nil) ?_)))))
  exact ⟨rfl,congrArg Value.bool (eR4 c1 c2 c3 c4).symm⟩
 have c4k:=c4
 try simp only [qcA,qcC,qcB] at c4
 refine .skip (.blk (.code (.seq (rq4 rfl rfl (fz rfl .no Fx.fo115_2 (.u rfl) (ld rfl .no FxVerP.ag5 (.u rfl) (fun _=>Rd.own .here (by first|exact wap_f rfl|rfl)) ?_))))))
 refine cp rfl .no (.u rfl) (.u rfl) rfl (aS rfl rfl (.nil (.code (.ret (We.fin0 Tryz.results84 (.tmp rfl .nil) ?_)))))
 exact ⟨rfl,congrArg Value.bool (eR5 c1 c2 c3 c4).symm⟩
theorem rises_ok (h:Sh) (l:List Ent) (G:PM) (hs:SlR G 4 Ent.cells h l) (hl:l.length≤10000000000000):Ct Tryz.prog 158 ([h.val l.length]:List Value).toArray G [] (fun _ μ' u=>μ'=[]∧u=.bool (risesE l)):=by
 refine Ct.of Tryz.func158 rfl Tryz.ntmps158 rfl fun w0 hs0=>?_
 refine .seq (rq1 rfl rfl (aS rfl rfl (.nil (.code (.seq (.seq (rq1 rfl rfl (aS rfl rfl (.nil (.code (.block ?_)))))))))))
 refine Wk.lop (α:=Nat) (fun k=>[(3,true,.int .i64 (k:Int))]) (fun _=>[])
  (fun k Gl=>(1≤k∧(k≤l.length∨l.length=0))∧(∀ j,j+1<k→aheadE (l.getD j Ent.zero) (l.getD (j+1) Ent.zero)=true)) (fun k=>l.length-k) 1 [(0,true,_)] []
  (esC rfl (by first|rfl|exact evi (by omega)) (esD rfl eZ))
  mN ?_ ?_
 ·refine ⟨?_,?_⟩
  ·(try dsimp only)<;>(first|omega|rfl|assumption|(simp; done))
  (try dsimp only)<;>(exact fun j h=>absurd h (by omega))
 intro k N0 Gl0 hN0 hGl0 hF0
 try dsimp only at hF0 hN0 ⊢
 obtain ⟨hk,hj⟩:=hF0
 have hs:=hs.mono hGl0
 refine .seq (.seq (rq4 rfl rfl (mV rfl rfl (mV rfl rfl (ln rfl .no Fx.sn135 (.u rfl) (cp rfl .no (.u rfl) (.u rfl) rfl (.nil (.code (.cond rfl (fun c1=>?_) (fun c1=>?_))))))))))
 ·have c1k:=c1
  try simp only [qcA,qcB] at c1
  refine .skip (.code (.seq (.block (.seq (Wk.mixp ⟨false,false⟩ FxVerP.mix (by kernel_rfl) ?_)))))
  refine Wp.one 0 (by kernel_rfl) ?_
  refine mV rfl rfl (.nil (Wp.one 1 (by kernel_rfl) ?_))
  refine mV rfl rfl (.nil (Wp.one 2 (by kernel_rfl) ?_))
  refine ar rfl .no (.u rfl) (.u rfl) rfl (fun _=>wrap_i64 (by omega) (by omega)) ?_
  refine .nil (Wp.one 3 (by kernel_rfl) ?_)
  refine ih rfl .no Fx.se135 (.u rfl) (.u rfl) (fun _=>by omega) (fun _=>by omega) (fun _=>hs.nn (k:=((((k:Nat):Int)-(1:Int))).toNat) (by first|omega|(simp only [Bool.and_eq_true,decide_eq_true_eq] at hc; omega)|(simp only [List.length_cons,List.length_nil]; omega))) ?_
  refine .nil (Wp.one 4 (by kernel_rfl) ?_)
  obtain ⟨x,ex⟩:=getx (k:=k-1) (xs:=l) (by omega)
  refine lA rfl .no Fx.ag115 (.u rfl) (fun _=>(hs.at (by omega) ex).rd) (fun _=>Ent.len _) ?_
  refine .nil (Wp.one 5 (by kernel_rfl) ?_)
  refine mV rfl rfl (.nil (Wp.one 6 (by kernel_rfl) ?_))
  refine mV rfl rfl (.nil (Wp.one 7 (by kernel_rfl) ?_))
  refine ih rfl .no Fx.se135 (.u rfl) (.u rfl) (fun _=>by omega) (fun _=>by omega) (fun _=>hs.nn (k:=k) (by first|omega|(simp only [Bool.and_eq_true,decide_eq_true_eq] at hc; omega)|(simp only [List.length_cons,List.length_nil]; omega))) ?_
  refine .nil (Wp.pr 8 (by kernel_rfl) ?_)
  obtain ⟨y,ey⟩:=getx (k:=k) (xs:=l) (by omega)
  refine lA rfl .no Fx.ag115 (.u rfl) (fun _=>(hs.at (by omega) ey).rd) (fun _=>Ent.len _) ?_
  refine .nil ⟨⟨rfl,rfl⟩,?_⟩
  refine Wp.b2 9 10 (by kernel_rfl) ?_ ?_
  ·refine al rfl Fx.zr115 ?_; intro b4
   refine .nil (Wp.b1 10 (by kernel_rfl) ?_)
   refine al rfl Fx.zr115 ?_; intro b5
   refine .nil (Wp.b1 11 (by kernel_rfl) ?_)
   refine sw rfl (.u rfl) (.u rfl) rfl Fx.sz115 tk1 (by first|rfl|exact Ent.len _) (Ent.one _) ?_
   refine .nil (Wp.b1 12 (by kernel_rfl) ?_)
   refine sw rfl (.u rfl) (.u rfl) rfl Fx.sz115 tk1 (by first|rfl|exact Ent.len _) (Ent.one _) ?_
   refine .nil (Wp.last (by kernel_rfl) ?_)
   refine .code (.seq (Wk.rg [0,1,2,3,4,5,6,7,8,9,10,11,12,13,14,15,16,17,18] rfl rfl (fz rfl .no Fx.fo115_0 (.u rfl) (ld rfl .no Fx.ag9 (.u rfl) (fun _=>Rd.own tk1 (by first|exact wap_f rfl|rfl)) ?_))))
   refine fz rfl .no Fx.fo115_0 (.u rfl) (ld rfl .no Fx.ag9 (.u rfl) (fun _=>Rd.own .here (by first|exact wap_f rfl|rfl)) ?_)
   refine cs rfl .no (.u rfl) (.u rfl) rfl (mV rfl rfl (fz rfl (.f rfl rfl) Fx.fo115_0 (.u rfl) (ld rfl (.f rfl rfl) Fx.ag9 (.s rfl) (fun hc=>Rd.own tk1 (by first|exact wap_f rfl|rfl)) ?_)))
   refine fz rfl (.f rfl rfl) Fx.fo115_0 (.u rfl) (ld rfl (.f rfl rfl) Fx.ag9 (.s rfl) (fun hc=>Rd.own .here (by first|exact wap_f rfl|rfl)) ?_)
   refine cs rfl (.f rfl rfl) (.s rfl) (.s rfl) rfl (mv rfl (.f rfl rfl) (.s rfl) (fz rfl (.tc rfl rfl) Fx.fo115_1 (.u rfl) (ld rfl (.tc rfl rfl) FxVerP.ag41 (.s rfl) (fun hc=>Rd.own tk1 (by first|exact wap_f rfl|rfl)) ?_)))
   refine fz rfl (.tc rfl rfl) Fx.fo115_1 (.u rfl) (ld rfl (.tc rfl rfl) FxVerP.ag41 (.s rfl) (fun hc=>Rd.own .here (by first|exact wap_f rfl|rfl)) ?_)
   refine cp rfl (.tc rfl rfl) (.s rfl) (.s rfl) rfl (pkA rfl (.f rfl rfl) (.s rfl) (.s rfl) (pkO rfl .no (.u rfl) (.s rfl) (.nil (.code (.cond rfl (fun c2=>?_) (fun c2=>?_))))))
   ·have c2k:=c2
    try simp only [qcA,qcB] at c2
    refine .seq (rq1 rfl rfl (aS rfl rfl (.nil (.code (.ret (We.fin0 Tryz.results158 (.tmp rfl .nil) ?_))))))
    exact ⟨rfl,congrArg Value.bool (ri_no hk.1 ex ey c2k).symm⟩
   have c2k:=c2
   try simp only [qcA,qcB] at c2
   refine .skip (.blk (.code (rq3 rfl rfl (mV rfl rfl (arn (((k+1):Nat):Int) rfl .no (.u rfl) (.u rfl) rfl (fun _=>by omega) (fun _=>wrap_i64 (by omega) (by omega)) ?_)))))
   refine aS rfl rfl (.nil (We.lpo (k+1) ?_ ?_ ?_ ?_ ?_))
   ·exact (esC rfl (by first|rfl|exact evi (by omega)) (esD rfl eZ))
   ·exact mN
   ·first|omega|(dsimp only; omega)
   ·exact hGl0
   refine ⟨?_,?_⟩
   ·(try dsimp only)<;>(first|omega|rfl|assumption|(simp; done))
   (try dsimp only)<;>(exact ri_step hk.1 hj ex ey c2k)
  refine al rfl Fx.zr115 ?_; intro b5
  refine .nil (Wp.b1 9 (by kernel_rfl) ?_)
  refine al rfl Fx.zr115 ?_; intro b4
  refine .nil (Wp.b1 11 (by kernel_rfl) ?_)
  refine sw rfl (.u rfl) (.u rfl) rfl Fx.sz115 .here (by first|rfl|exact Ent.len _) (Ent.one _) ?_
  refine .nil (Wp.b1 12 (by kernel_rfl) ?_)
  refine sw rfl (.u rfl) (.u rfl) rfl Fx.sz115 tk1 (by first|rfl|exact Ent.len _) (Ent.one _) ?_
  refine .nil (Wp.last (by kernel_rfl) ?_)
  refine .code (.seq (Wk.rg [0,1,2,3,4,5,6,7,8,9,10,11,12,13,14,15,16,17,18] rfl rfl (fz rfl .no Fx.fo115_0 (.u rfl) (ld rfl .no Fx.ag9 (.u rfl) (fun _=>Rd.own tk1 (by first|exact wap_f rfl|rfl)) ?_))))
  refine fz rfl .no Fx.fo115_0 (.u rfl) (ld rfl .no Fx.ag9 (.u rfl) (fun _=>Rd.own .here (by first|exact wap_f rfl|rfl)) ?_)
  refine cs rfl .no (.u rfl) (.u rfl) rfl (mV rfl rfl (fz rfl (.f rfl rfl) Fx.fo115_0 (.u rfl) (ld rfl (.f rfl rfl) Fx.ag9 (.s rfl) (fun hc=>Rd.own tk1 (by first|exact wap_f rfl|rfl)) ?_)))
  refine fz rfl (.f rfl rfl) Fx.fo115_0 (.u rfl) (ld rfl (.f rfl rfl) Fx.ag9 (.s rfl) (fun hc=>Rd.own .here (by first|exact wap_f rfl|rfl)) ?_)
  refine cs rfl (.f rfl rfl) (.s rfl) (.s rfl) rfl (mv rfl (.f rfl rfl) (.s rfl) (fz rfl (.tc rfl rfl) Fx.fo115_1 (.u rfl) (ld rfl (.tc rfl rfl) FxVerP.ag41 (.s rfl) (fun hc=>Rd.own tk1 (by first|exact wap_f rfl|rfl)) ?_)))
  refine fz rfl (.tc rfl rfl) Fx.fo115_1 (.u rfl) (ld rfl (.tc rfl rfl) FxVerP.ag41 (.s rfl) (fun hc=>Rd.own .here (by first|exact wap_f rfl|rfl)) ?_)
  refine cp rfl (.tc rfl rfl) (.s rfl) (.s rfl) rfl (pkA rfl (.f rfl rfl) (.s rfl) (.s rfl) (pkO rfl .no (.u rfl) (.s rfl) (.nil (.code (.cond rfl (fun c2=>?_) (fun c2=>?_))))))
  ·have c2k:=c2
   try simp only [qcA,qcB] at c2
   refine .seq (rq1 rfl rfl (aS rfl rfl (.nil (.code (.ret (We.fin0 Tryz.results158 (.tmp rfl .nil) ?_))))))
   exact ⟨rfl,congrArg Value.bool (ri_no hk.1 ex ey c2k).symm⟩
  have c2k:=c2
  try simp only [qcA,qcB] at c2
  refine .skip (.blk (.code (rq3 rfl rfl (mV rfl rfl (arn (((k+1):Nat):Int) rfl .no (.u rfl) (.u rfl) rfl (fun _=>by omega) (fun _=>wrap_i64 (by omega) (by omega)) ?_)))))
  refine aS rfl rfl (.nil (We.lpo (k+1) ?_ ?_ ?_ ?_ ?_))
  ·exact (esC rfl (by first|rfl|exact evi (by omega)) (esD rfl eZ))
  ·exact mN
  ·first|omega|(dsimp only; omega)
  ·exact hGl0
  refine ⟨?_,?_⟩
  ·(try dsimp only)<;>(first|omega|rfl|assumption|(simp; done))
  (try dsimp only)<;>(exact ri_step hk.1 hj ex ey c2k)
 have c1k:=c1
 try simp only [qcA,qcB] at c1
 refine .exit (.xcode (.xlp (.xblk (.code (.seq (rq1 rfl rfl (aS rfl rfl (.nil (.code (.ret (We.fin0 Tryz.results158 (.tmp rfl .nil) ?_)))))))))))
 exact ⟨rfl,congrArg Value.bool (ri_yes (by omega) hj).symm⟩
namespace Fx
theorem se200:slE Tryz.prog 200=some (199,16,144):=by kernel_rfl
theorem zq197:zrL Tryz.prog 197=some (wA (fun _=>0)):=by kernel_rfl
theorem fo202_0:fOff Tryz.prog 202 0=some 0:=by kernel_rfl
theorem ag200:aggN Tryz.prog 200=some none:=by kernel_rfl
theorem fo199_1:fOff Tryz.prog 199 1=some 4:=by kernel_rfl
theorem ar197:arE Tryz.prog 197=some (12,3,1):=by kernel_rfl
theorem fo199_0:fOff Tryz.prog 199 0=some 0:=by kernel_rfl
theorem go179:goFn Tryz.prog 179=true:=by kernel_rfl
theorem ag197:aggN Tryz.prog 197=some (some 12):=by kernel_rfl
theorem sz197:szT Tryz.prog 197=some 12:=by kernel_rfl
theorem pt122:ptT Tryz.prog 122=true:=by kernel_rfl
theorem go133:goFn Tryz.prog 133=true:=by kernel_rfl
theorem sn200:(slE Tryz.prog 200).isSome=true:=by kernel_rfl
theorem fo202_1:fOff Tryz.prog 202 1=some 1:=by kernel_rfl
theorem go90:goFn Tryz.prog 90=true:=by kernel_rfl
theorem zv199:(Tryz.prog.info? 199).bind (·.zero)=some (.agg #[.string ByteArray.empty,.int .u64 0,.int .u8 0,.string ByteArray.empty,.int .i64 0,.int .i64 0,.int .i64 0,.int .i64 0,.int .i64 0,.int .i64 0,.int .i64 0,.int .i64 0,.int .i64 0,.int .i64 0,.int .i64 0,.int .i64 0]):=by kernel_rfl
theorem bp202_0:bPl Tryz.prog 202 [0]=some ([.slice none 0 0,.int .i64 0],[(0,1)]):=by kernel_rfl
theorem bp199_0:bPl Tryz.prog 199 [0]=some ([.string ByteArray.empty,.int .u64 0,.int .u8 0,.string ByteArray.empty,.int .i64 0,.int .i64 0,.int .i64 0,.int .i64 0,.int .i64 0,.int .i64 0,.int .i64 0,.int .i64 0,.int .i64 0,.int .i64 0,.int .i64 0,.int .i64 0],[(0,4)]):=by kernel_rfl
theorem sz200:szT Tryz.prog 200=some 1:=by kernel_rfl
end Fx
theorem sAhead_ok (e:Ent) (us:ByteArray) (q:BitVec 64) (G:PM):Ct Tryz.prog 179 ([e.val,.string us,uv .u64 q]:List Value).toArray G [] (fun _ μ' u=>μ'=[]∧u=.bool (aheadK e us q)):=by
 refine Ct.of Tryz.func179 rfl Tryz.ntmps179 rfl fun w0 hs0=>?_
 refine .seq (rq2 rfl rfl ?_)
 refine bx rfl (.u rfl) rfl ?_; intro b3
 refine aS rfl rfl (.nil (.code (.seq (Wk.rg [0,1,2,3,4,5,6,7,8,9,10,11,12,13,14,15,16] rfl rfl (fz rfl .no Fx.fo115_0 (.u rfl) (ld rfl .no Fx.ag9 (.u rfl) (fun _=>Rd.own .here (by first|exact wap_f rfl|rfl)) ?_))))))
 refine mV rfl rfl (cs rfl .no (.u rfl) (.u rfl) rfl (mV rfl rfl (fz rfl (.f rfl rfl) Fx.fo115_0 (.u rfl) (ld rfl (.f rfl rfl) Fx.ag9 (.s rfl) (fun hc=>Rd.own .here (by first|exact wap_f rfl|rfl)) ?_))))
 refine mv rfl (.f rfl rfl) (.u rfl) (cs rfl (.f rfl rfl) (.s rfl) (.s rfl) rfl (mv rfl (.f rfl rfl) (.s rfl) (fz rfl (.tc rfl rfl) Fx.fo115_1 (.u rfl) (ld rfl (.tc rfl rfl) Fx.ag41 (.s rfl) (fun hc=>Rd.own .here (by first|exact wap_f rfl|rfl)) ?_))))
 refine mv rfl (.tc rfl rfl) (.u rfl) (cp rfl (.tc rfl rfl) (.s rfl) (.s rfl) rfl (pkA rfl (.f rfl rfl) (.s rfl) (.s rfl) (pkO rfl .no (.u rfl) (.s rfl) (aS rfl rfl (.nil (.code (.ret (We.fin0 Tryz.results179 (.tmp rfl .nil) ?_))))))))
 exact ⟨rfl,congrArg Value.bool (by unfold aheadK lt; simp [gt_iff_lt]; rfl)⟩
theorem seek_ok (bl:Nat) (h:Sh) (xs:List Nd) (sz:Value) (G:PM) (hbl:PB G bl (cl [h.val xs.length,sz] 202)) (hs:SlR G 16 Nd.cells h xs) (w:Nat→Nat) (us:ByteArray) (q:BitVec 64) (hW:WayN xs us q w):Ct Tryz.prog 133 ([.pointer (some ⟨bl,0,none⟩),.string us,uv .u64 q]:List Value).toArray G [] (fun _ μ' u=>μ'=[]∧u=.agg (wA w).toArray):=by
 refine Ct.of Tryz.func133 rfl Tryz.ntmps133 rfl fun w0 hs0=>?_
 refine .seq (rq1 rfl rfl ?_)
 refine al rfl Fx.zq197 ?_; intro b6
 refine .nil (.code (.seq (rq1 rfl rfl ?_)))
 refine al rfl Fx.zq197 ?_; intro b7
 refine .nil (.code (.seq (rq1 rfl rfl (aS rfl rfl (.nil (.code (.seq (.seq (rq1 rfl rfl (aS rfl rfl (.nil (.code (.block ?_)))))))))))))
 refine Wk.lop (α:=Nat) (fun k=>[(8,true,.int .i64 ((w k:Nat):Int)),(9,true,.int .i64 ((k:Int)-1))]) (fun k=>[.blk b7 (cl (wA (wK w k)) 197)])
  (fun k Gl=>(k≤12)) (fun k=>k) 12 [(0,true,_),(1,true,_),(2,true,_),(6,true,_),(7,true,_)] [_]
  (esC rfl (by rw [hW.top]; rfl) (esD rfl (esD rfl (esD rfl (esD rfl (esD rfl (esD rfl eZ)))))))
  (mS .here rfl (mS .here rfl mN)) ?_ ?_
 ·(try dsimp only)<;>(first|omega|rfl|assumption|(simp; done))
 intro k N0 Gl0 hN0 hGl0 hF0
 try dsimp only at hF0 hN0 ⊢
 have hk:=hF0
 have hbl:=hbl.mono hGl0
 have hs:=hs.mono hGl0
 refine .seq (.seq (rq2 rfl rfl (mV rfl rfl (cp rfl .no (.u rfl) (.u rfl) rfl (.nil (.code (.cond rfl (fun c1=>?_) (fun c1=>?_))))))))
 ·have c1k:=c1
  try simp only [qcA,qcC,qcB] at c1
  refine .skip (.code (.seq (.block (.seq (.seq (Wk.rg [0,1,2,3,4,5,6,7,8,9,10] rfl rfl (mV rfl rfl (nc rfl .no (.u rfl) (fa rfl .no Fx.fo202_0 (.u rfl) (ld rfl .no Fx.ag200 (.u rfl) (fun _=>(hbl.rd (rfl)).rd) ?_))))))))))
  refine mV rfl rfl (mV rfl rfl (ih rfl .no Fx.se200 (.u rfl) (.u rfl) (fun _=>by omega) (fun _=>by have:=hW.lt k (by omega); omega) (fun _=>hs.nn (k:=w k) (hW.lt k (by omega))) ?_))
  refine fa rfl .no Fx.fo199_1 (.u rfl) (iA rfl .no Fx.ar197 (.u rfl) (.u rfl) (fun _=>by omega) (fun _=>by omega) ?_)
  refine ld rfl .no Fx.ag3 (.u rfl) (fun _=>(Nd.rdx hs (a:=w k) (k:=k-1) (hW.lt k (by omega)) (by omega) (by first|omega|(simp; omega))).rd) ?_
  refine aS rfl rfl (.nil (.code (.block ?_)))
  refine Wk.lop (α:=Nat) (fun p=>[(8,true,.int .i64 ((wq w (k-1) p:Nat):Int)),(10,true,.int .i64 ((nxt xs (wq w (k-1) p) (k-1):Nat):Int))]) (fun _=>[])
   (fun p Gl=>(p=0∨p=1∧stopN xs us q (w (k-1)) (k-1))) (fun p=>1-p) 0 [(0,true,_),(1,true,_),(2,true,_),(6,true,_),(7,true,_),(9,true,_)] [_,_]
   (esC rfl (by rw [wq,if_pos rfl,show k-1+1=k by omega]) (esC rfl (by rw [wq,if_pos rfl,show k-1+1=k by omega]) (esD rfl (esD rfl (esD rfl (esD rfl (esD rfl (esD rfl eZ))))))))
   (mS .here rfl (mS .here rfl mN)) ?_ ?_
  ·(try dsimp only)<;>(first|omega|rfl|assumption|(simp; done))
  intro p N1 Gl1 hN1 hGl1 hF1
  try dsimp only at hF1 hN1 ⊢
  have hp:=hF1
  have hbl:=hbl.mono hGl1
  have hs:=hs.mono hGl1
  have hwl:wq w (k-1) p<xs.length:=by unfold wq; split; exact hW.lt _ (by omega); exact hW.lt _ (by omega)
  have hwq1:wq w (k-1) 1<xs.length:=hW.lt _ (by omega)
  have hnx:=hW.inb _ hwl (k-1) (by omega)
  refine .seq (.seq (Wk.rg [0,1,2,3,4,5,6,7,8,9,10,11,12,13,14] rfl rfl (mV rfl rfl (cp rfl .no (.u rfl) (.u rfl) rfl (mV rfl rfl (mv rfl (.t rfl rfl) (.u rfl) (nc rfl (.t rfl rfl) (.s rfl) (fa rfl (.t rfl rfl) Fx.fo202_0 (.s rfl) (ld rfl (.t rfl rfl) Fx.ag200 (.s rfl) (fun hc=>(hbl.rd (rfl)).rd) ?_)))))))))
  refine mv rfl (.t rfl rfl) (.u rfl) (ih rfl (.t rfl rfl) Fx.se200 (.s rfl) (.s rfl) (fun _=>by omega) (fun _=>by omega) (fun _=>hs.nn (k:=nxt xs (wq w (k-1) p) (k-1)) hnx) ?_)
  refine fa rfl (.t rfl rfl) Fx.fo199_0 (.s rfl) (lA rfl (.t rfl rfl) Fx.ag115 (.s rfl) (fun hc=>(Nd.rde hs (a:=nxt xs (wq w (k-1) p) (k-1)) hnx (by simp)).rd) (fun _=>Ent.len _) ?_)
  refine mv rfl (.t rfl rfl) (.u rfl) (mv rfl (.t rfl rfl) (.u rfl) (kv rfl (.t rfl rfl) Fx.go179 (Eva.cons (.s rfl) (Eva.cons (.s rfl) (Eva.cons (.s rfl) Evn))) (fun hc=>sAhead_ok _ _ _ _) ?_))
  refine pkA rfl .no (.u rfl) (.s rfl) (.nil (.code (.cond rfl (fun c2=>?_) (fun c2=>?_))))
  ·have c2k:=c2
   obtain ⟨hp0,hstp,hwk⟩:=way_t hW (by omega) hp c2
   subst hp0
   have hwe:nxt xs (wq w (k-1) 0) (k-1)=wq w (k-1) 1:=hwk.symm
   refine .skip (.code (.seq (.block (rq2 rfl rfl (mV rfl rfl (aS rfl rfl (.nil (.blk (.code (Wk.rg [0,1,2,3,4,5,6,7,8,9,10] rfl rfl (mV rfl rfl (nc rfl .no (.u rfl) (fa rfl .no Fx.fo202_0 (.u rfl) (ld rfl .no Fx.ag200 (.u rfl) (fun _=>(hbl.rd (rfl)).rd) ?_))))))))))))))
   refine mV rfl rfl (mV rfl rfl (ih rfl .no Fx.se200 (.u rfl) (.u rfl) (fun _=>by omega) (fun _=>by have:=hnx; omega) (fun _=>hs.nn (k:=nxt xs (wq w (k-1) 0) (k-1)) (hnx)) ?_))
   refine fa rfl .no Fx.fo199_1 (.u rfl) (iA rfl .no Fx.ar197 (.u rfl) (.u rfl) (fun _=>by omega) (fun _=>by omega) ?_)
   refine ld rfl .no Fx.ag3 (.u rfl) (fun _=>(Nd.rdx hs (a:=nxt xs (wq w (k-1) 0) (k-1)) (k:=k-1) (hnx) (by omega) (by first|omega|(simp; omega))).rd) ?_
   refine aS rfl rfl (.nil (We.lpo 1 ?_ ?_ ?_ ?_ ?_))
   ·exact (esC rfl (by rw [hwe]) (esC rfl (by rw [hwe]) (esD rfl (esD rfl (esD rfl (esD rfl (esD rfl (esD rfl eZ))))))))
   ·exact (mS .here rfl (mS .here rfl mN))
   ·first|omega|(dsimp only; omega)
   ·exact hGl1
   (try dsimp only)<;>(exact .inr ⟨rfl,hstp⟩)
  have c2k:=c2
  have hex9:wq w (k-1) p=w (k-1):=way_f hW (by omega) hp c2
  refine .exit (.xcode (.xlp (.xblk (.code (rq4 rfl rfl (mV rfl rfl (mV rfl rfl (iA rfl .no Fx.ar197 (.u rfl) (.u rfl) (fun _=>by omega) (fun _=>by omega) ?_))))))))
  refine s1 rfl (.u rfl) (.u rfl) rfl Fx.sz3 .here (by simp [wA_len]; omega) (wA_set (k:=k-1) (w':=wK w (k-1)) (by omega) (by first|omega|(simp; omega)) (by rw [hex9]; simp [wK]) (fun j hj=>by unfold wK; by_cases h:j<k-1; rw [if_pos h,if_pos (by omega)]; rw [if_neg h,if_neg (by omega)])) ?_
  refine .nil (.blk (.code (rq3 rfl rfl (mV rfl rfl (ar rfl .no (.u rfl) (.u rfl) rfl (fun _=>wrap_i64 (by omega) (by omega)) ?_)))))
  refine aS rfl rfl (.nil (We.lpo (k-1) ?_ ?_ ?_ ?_ ?_))
  ·exact (esC rfl (by rw [← hex9]) (esC rfl (evi (by omega)) (esD rfl (esD rfl (esD rfl (esD rfl (esD rfl eZ)))))))
  ·exact (mS .here rfl (mS .here rfl mN))
  ·first|omega|(dsimp only; omega)
  ·exact (hGl0).trans hGl1
  (try dsimp only)<;>(first|omega|rfl|assumption|(simp; done))
 have c1k:=c1
 try simp only [qcA,qcC,qcB] at c1
 refine .exit (.xcode (.xlp (.xblk (.code (.seq (rq2 rfl rfl (lA rfl .no Fx.ag197 (.u rfl) (fun _=>RdN.own .here) (fun _=>wA_len) ?_)))))))
 refine sw rfl (.u rfl) (.u rfl) rfl Fx.sz197 tk1 (wA_len.trans wA_len.symm) (wA_one _) ?_
 refine .nil (.code (.ret (We.fin0 Tryz.results133 (.cell rfl (fun w hw=>run_loadVarN Fx.ag197 (RdN.own .here) (wA_len) hw) .nil) ?_)))
 obtain rfl:k=0:=by omega
 exact ⟨rfl,by rw [wK_z]; rfl⟩
theorem first_l (bl:Nat) (h:Sh) (xs:List Nd) (sz:Value) (G:PM) (hbl:PB G bl (cl [h.val xs.length,sz] 202)) (hs:SlR G 16 Nd.cells h xs) (w:Nat→Nat) (us:ByteArray) (q:BitVec 64) (hW:WayN xs us q w):Ct Tryz.prog 90 ([.pointer (some ⟨bl,0,none⟩),.string us,uv .u64 q]:List Value).toArray G [] (fun _ μ' u=>μ'=[]∧u=.int .i64 ((nxt xs (w 0) 0:Nat):Int)):=by
 refine Ct.of Tryz.func90 rfl Tryz.ntmps90 rfl fun w0 hs0=>?_
 refine .seq (rq1 rfl rfl (aS rfl rfl (.nil (.code (.seq (.seq (rq2 rfl rfl (mV rfl rfl (pe rfl .no Fx.pt122 (.u rfl) (.u rfl) ?_)))))))))
 refine .nil (.code (Wk.condF rfl rfl ?_))
 refine .skip (.code (.seq (Wk.draw (mc:=⟨false,false⟩) [0,1,2,3,4,5,6,7,8,9,10,11,12,13] Fx.mix (by kernel_rfl) ?_)))
 refine mV rfl rfl (nc rfl .no (.u rfl) (fa rfl .no Fx.fo202_0 (.u rfl) (ld rfl .no Fx.ag200 (.u rfl) (fun _=>(hbl.rd (rfl)).rd) ?_)))
 refine mV rfl rfl (mV rfl rfl (mV rfl rfl (kv rfl .no Fx.go133 (Evc rfl (Evc rfl (Evc rfl Evn))) (fun _=>seek_ok bl h xs sz _ hbl hs w us q hW) ?_)))
 refine ix rfl .no Fx.ar197 Fx.ag3 (.u rfl) (.u rfl) (fun _=>by omega) (fun _=>by omega) (fun _=>wA_at (k:=0) (by omega) rfl) ?_
 refine ih rfl .no Fx.se200 (.u rfl) (.u rfl) (fun _=>by omega) (fun _=>by have:=hW.lt 0 (by omega); omega) (fun _=>hs.nn (k:=w 0) (hW.lt 0 (by omega))) ?_
 refine fa rfl .no Fx.fo199_1 (.u rfl) (iA rfl .no Fx.ar197 (.u rfl) (.u rfl) (fun _=>by decide) (fun _=>by decide) ?_)
 refine ld rfl .no Fx.ag3 (.u rfl) (fun _=>(Nd.rdx hs (a:=w 0) (k:=0) (hW.lt 0 (by omega)) (by omega) (by first|omega|(simp; omega))).rd) ?_
 refine aS rfl rfl (.nil (.code (.ret (We.fin0 Tryz.results90 (.tmp rfl .nil) ?_))))
 exact ⟨rfl,rfl⟩
theorem lLen_ok (bl:Nat) (h:Sh) (xs:List Nd) (sz:Value) (G:PM) (hbl:PB G bl (cl [h.val xs.length,sz] 202)) (hl:xs.length≤1000000):Ct Tryz.prog 104 ([.pointer (some ⟨bl,0,none⟩)]:List Value).toArray G [] (fun _ μ' u=>μ'=[]∧u=.int .i64 ((xs.length:Int)-1)):=by
 refine Ct.of Tryz.func104 rfl Tryz.ntmps104 rfl fun w0 hs0=>?_
 refine .seq (rq1 rfl rfl (aS rfl rfl (.nil (.code (.seq (.seq (rq2 rfl rfl (mV rfl rfl (pe rfl .no Fx.pt122 (.u rfl) (.u rfl) ?_)))))))))
 refine .nil (.code (Wk.condF rfl rfl ?_))
 refine .skip (.code (.seq (rq7 rfl rfl (mV rfl rfl (nc rfl .no (.u rfl) (fa rfl .no Fx.fo202_0 (.u rfl) (ld rfl .no Fx.ag200 (.u rfl) (fun _=>(hbl.rd (rfl)).rd) ?_)))))))
 refine ln rfl .no Fx.sn200 (.u rfl) (ar rfl .no (.u rfl) (.u rfl) rfl (fun _=>wrap_i64 (by omega) (by omega)) ?_)
 refine aS rfl rfl (.nil (.code (.ret (We.fin0 Tryz.results104 (.tmp rfl .nil) ?_))))
 exact ⟨rfl,rfl⟩
theorem lSize_ok (bl:Nat) (v:Value) (sz:Nat) (G:PM) (hbl:PB G bl (cl [v,.int .i64 ((sz:Nat):Int)] 202)):Ct Tryz.prog 73 ([.pointer (some ⟨bl,0,none⟩)]:List Value).toArray G [] (fun _ μ' u=>μ'=[]∧u=.int .i64 ((sz:Nat):Int)):=by
 refine Ct.of Tryz.func73 rfl Tryz.ntmps73 rfl fun w0 hs0=>?_
 refine .seq (rq1 rfl rfl (aS rfl rfl (.nil (.code (.seq (.seq (rq2 rfl rfl (mV rfl rfl (pe rfl .no Fx.pt122 (.u rfl) (.u rfl) ?_)))))))))
 refine .nil (.code (Wk.condF rfl rfl ?_))
 refine .skip (.code (.seq (rq5 rfl rfl (mV rfl rfl (nc rfl .no (.u rfl) (fa rfl .no Fx.fo202_1 (.u rfl) (ld rfl .no Fx.ag3 (.u rfl) (fun _=>(hbl.rd (rfl)).rd) ?_)))))))
 refine aS rfl rfl (.nil (.code (.ret (We.fin0 Tryz.results73 (.tmp rfl .nil) ?_))))
 exact ⟨rfl,rfl⟩
theorem lFrom0 (bl:Nat) (h:Sh) (xs:List Nd) (sz:Value) (G:PM) (hbl:PB G bl (cl [h.val xs.length,sz] 202)) (hs:SlR G 16 Nd.cells h xs) (w:Nat→Nat) (us:ByteArray) (q:BitVec 64) (hW:WayN xs us q w) (n:Int) (hn:nxt xs (w 0) 0=0):Ct Tryz.prog 103 ([.pointer (some ⟨bl,0,none⟩),.string us,uv .u64 q,.int .i64 n]:List Value).toArray G [] (fun _ μ' u=>μ'=[]∧u=.slice none 0 0):=by
 refine Ct.of Tryz.func103 rfl Tryz.ntmps103 rfl fun w0 hs0=>?_
 refine .seq (rq1 rfl rfl (aS rfl rfl (.nil (.code (.seq (rq1 rfl rfl (aS rfl rfl (.nil (.code (.seq (.seq (rq5 rfl rfl (mV rfl rfl (mV rfl rfl (mV rfl rfl (kv rfl .no Fx.go90 (Evc rfl (Evc rfl (Evc rfl Evn))) (fun _=>first_l bl h xs sz _ hbl hs w us q hW) ?_))))))))))))))))
 refine aS rfl rfl (.nil (.code (.block ?_)))
 refine Wk.lop (α:=Nat) (fun k=>[(9,true,.slice none 0 0),(10,true,.int .i64 0)]) (fun _=>[])
  (fun k Gl=>True) (fun k=>0) 0 [(0,true,_),(3,true,_)] []
  (esD rfl (esC rfl (by rw [hn]; rfl) (esD rfl (esD rfl eZ))))
  mN ?_ ?_
 ·trivial
 intro k N0 Gl0 hN0 hGl0 hF0
 try dsimp only at hF0 hN0 ⊢
 refine .seq (.seq (rq8 rfl rfl (mV rfl rfl (cp rfl .no (.u rfl) (.u rfl) rfl (mV rfl rfl (mv rfl (.t rfl rfl) (.u rfl) (ln rfl (.t rfl rfl) Fx.sn135 (.s rfl) (mv rfl (.t rfl rfl) (.u rfl) (cp rfl (.t rfl rfl) (.s rfl) (.s rfl) rfl (pkA rfl .no (.u rfl) (.s rfl) (.nil (.code (.cond rfl (fun c1=>?_) (fun c1=>?_))))))))))))))
 ·have c1k:=c1
  cases c1
 have c1k:=c1
 try simp only [qcA,qcB] at c1
 refine .exit (.xcode (.xlp (.xblk (.code (.seq (rq2 rfl rfl (mV rfl rfl (aS rfl rfl (.nil (.code (.ret (We.fin0 Tryz.results103 (.tmp rfl .nil) ?_))))))))))))
 exact ⟨rfl,rfl⟩
theorem lNew_ok (G:PM):Ct Tryz.prog 79 ([]:List Value).toArray G [] (fun _ μ' u=>∃ bl v,v.oneCell'=true∧μ'=[.blk bl (cl [v,.int .i64 ((0:Nat):Int)] 202),rS 16 Nd.cells v 199 [Nd.z]]∧u=.pointer (some ⟨bl,0,none⟩)):=by
 refine Ct.of Tryz.func79 rfl Tryz.ntmps79 rfl fun w0 hs0=>?_
 refine .seq (rq1 rfl rfl (aS rfl rfl (.nil (.code (.seq (rq4 rfl rfl ?_))))))
 refine mk1S (enc:=Nd.cells) Nd.z rfl Fx.se200 Fx.zv199 (.u rfl) (.u rfl) rfl rfl (by decide) ?_; intro b1
 refine bC rfl .no Fx.bp202_0 (.cons (.u rfl) rfl .nil) rfl ?_
 refine bx rfl (.u rfl) rfl ?_; intro b3
 refine aS rfl rfl (.nil (.code (.ret (We.fin Tryz.results79 (.tmp rfl .nil) (mS .here rfl (mS .here rfl mN)) ?_))))
 exact ⟨b3,_,rfl,rfl,rfl⟩
theorem lPut_ok (bl bb m cap sz ht:Nat) (xs:List Nd) (e:Ent) (w:Nat→Nat) (G:PM) (hm:m=xs.length) (hW:WayN xs e.user e.seq w) (hn:nxt xs (w 0) 0=0) (hR:rightE e=true) (h1:1≤ht) (h12:ht≤12) (hl:xs.length≤1000) (hsz:sz≤1000000000):Ct Tryz.prog 69 ([.pointer (some ⟨bl,0,none⟩),e.val,.int .i64 ((ht:Nat):Int)]:List Value).toArray G [.blk bl (cl [(.slice (some ⟨bb,0,none⟩) m cap),.int .i64 ((sz:Nat):Int)] 202),rS 16 Nd.cells (.slice (some ⟨bb,0,none⟩) m cap) 199 (xs)] (fun _ μ' u=>∃ bb2 cap2,μ'=[.blk bl (cl [.slice (some ⟨bb2,0,none⟩) (xs++[(e,fun _=>0)]).length cap2,.int .i64 ((sz+(e.user.size+e.value.size+8):Nat):Int)] 202),rS 16 Nd.cells (.slice (some ⟨bb2,0,none⟩) (xs++[(e,fun _=>0)]).length cap2) 199 (lnkN w xs.length (xs++[(e,fun _=>0)]) ht)]∧u=.int .i64 0):=by
 subst hm
 refine Ct.of Tryz.func69 rfl Tryz.ntmps69 rfl fun w0 hs0=>?_
 have hRs:=rightE_sz hR; have hxl:0<xs.length:=by have:=hW.lt 0 (by omega); omega
 have hlen:(xs++[(e,fun _=>0)]:List Nd).length=xs.length+1:=by simp
 refine .seq (rq2 rfl rfl ?_)
 refine bx rfl (.u rfl) rfl ?_; intro b4
 refine aS rfl rfl (.nil (.code (.seq (.block (.seq (rq3 rfl rfl (mV rfl rfl (pe rfl .no Fx.pt122 (.u rfl) (.u rfl) ?_))))))))
 refine aS rfl rfl (.nil (.code (.cond rfl (fun c1=>?_) (fun c1=>?_))))
 ·have c1k:=c1
  cases c1
 have c1k:=c1
 try simp only [qcA,qcC,qcB] at c1
 refine .seq (rq4 rfl rfl (lA rfl .no Fx.ag115 (.u rfl) (fun _=>RdN.own .here) (fun _=>(by first|exact Ent.len _|exact wA_len|rfl)) ?_))
 refine kv rfl .no Fx.go84 (Evc rfl Evn) (fun _=>eRight_ok e _) ?_
 refine nt rfl .no (.u rfl) (aS rfl rfl (.nil (.code (.cond rfl (fun c2=>?_) (fun c2=>?_)))))
 ·have c2k:=c2
  rw [hR] at c2; cases c2
 have c2k:=c2
 try simp only [qcA,qcC,qcB] at c2
 refine .skip (.blk (.code (.seq (rq8 rfl rfl (mV rfl rfl (fz rfl .no Fx.fo115_0 (.u rfl) (ld rfl .no Fx.ag9 (.u rfl) (fun _=>Rd.own .here (by first|exact wap_f rfl|rfl)) ?_)))))))
 refine fz rfl .no Fx.fo115_1 (.u rfl) (ld rfl .no Fx.ag41 (.u rfl) (fun _=>Rd.own .here (by first|exact wap_f rfl|rfl)) ?_)
 refine ka rfl (.inr rfl) Fx.go133 (Evc rfl (Evc rfl (Evc rfl Evn))) (mtk2 tk1 tk1) (lendL fun s G2 hv hs2 hb2=>by rw [hv] at hb2; exact seek_ok bl s xs _ G2 hb2 hs2 w e.user e.seq hW) ?_
 rintro _ G23 μ23 hG23 ⟨rfl,rfl⟩
 refine al rfl Fx.zq197 ?_; intro b7
 refine sw rfl (.u rfl) (.u rfl) rfl Fx.sz197 .here (wA_len.trans wA_len.symm) (wA_one _) ?_
 refine .nil (.code (.seq (Wk.draw (mc:=⟨false,false⟩) [0,1,2,3,4,5,6,7,8,9,10] Fx.mix (by kernel_rfl) ?_)))
 refine mV rfl rfl (nc rfl .no (.u rfl) (fz rfl .no Fx.fo202_0 (.u rfl) (ld rfl .no Fx.ag200 (.u rfl) (fun _=>Rd.own tk1 rfl) ?_)))
 refine iA rfl .no Fx.ar197 (.u rfl) (.u rfl) (fun _=>by decide) (fun _=>by decide) ?_
 refine ld rfl .no Fx.ag3 (.u rfl) (fun _=>Rd.own .here (wA_at (k:=0) (by omega) rfl)) ?_
 refine ia rfl .no Fx.se200 (.u rfl) (.u rfl) (fun _=>by omega) (fun _=>by have:=hW.lt 0 (by omega); omega) ?_
 refine fa rfl .no Fx.fo199_1 (.u rfl) (iA rfl .no Fx.ar197 (.u rfl) (.u rfl) (fun _=>by decide) (fun _=>by decide) ?_)
 refine ld rfl .no Fx.ag3 (.u rfl) (fun _=>Nd.rdo tk2 (a:=w 0) (k:=0) (hW.lt 0 (by omega)) (by omega) (by simp)) ?_
 refine aS rfl rfl (.nil (.code (.seq (.seq (Wk.draw (mc:=⟨false,false⟩) [0,1,2,3,4,5,6,7,8,9,10,11,12,13,14,15,16,17,18,19,20,21,22,23,24,25,26,27,28,29] Fx.mix (by kernel_rfl) ?_)))))
 refine mV rfl rfl (cp rfl .no (.u rfl) (.u rfl) rfl (wo_b false (by rw [hn]; rfl) ?_))
 refine mV rfl rfl (skp (.bool false) rfl rfl (Gd.t (b:=false) rfl rfl) ?_)
 refine skp (.bool false) rfl rfl (Gd.t (b:=false) rfl rfl) ?_
 refine skp (.bool false) rfl rfl (Gd.t (b:=false) rfl rfl) ?_
 refine skr (.bool false) rfl rfl (Gd.t (b:=false) rfl rfl) ?_
 refine skp (.bool false) rfl rfl (Gd.t (b:=false) rfl rfl) ?_
 refine skp (.bool false) rfl rfl (Gd.t (b:=false) rfl rfl) ?_
 refine skp (.bool false) rfl rfl (Gd.t (b:=false) rfl rfl) ?_
 refine skp (.bool false) rfl rfl (Gd.t (b:=false) rfl rfl) ?_
 refine skr (.bool false) rfl rfl (Gd.t (b:=false) rfl rfl) ?_
 refine skp (.bool false) rfl rfl (Gd.t (b:=false) rfl rfl) ?_
 refine skr (.bool false) rfl rfl (Gd.t (b:=false) rfl rfl) ?_
 refine skp (.bool false) rfl rfl (Gd.t (b:=false) rfl rfl) ?_
 refine pkA rfl .no (.u rfl) (.s rfl) (mV rfl rfl (skp (.bool false) rfl rfl (Gd.t (b:=false) rfl rfl) ?_))
 refine skp (.bool false) rfl rfl (Gd.t (b:=false) rfl rfl) ?_
 refine skp (.bool false) rfl rfl (Gd.t (b:=false) rfl rfl) ?_
 refine skr (.bool false) rfl rfl (Gd.t (b:=false) rfl rfl) ?_
 refine skp (.bool false) rfl rfl (Gd.t (b:=false) rfl rfl) ?_
 refine skp (.bool false) rfl rfl (Gd.t (b:=false) rfl rfl) ?_
 refine skp (.bool false) rfl rfl (Gd.t (b:=false) rfl rfl) ?_
 refine skp (.bool false) rfl rfl (Gd.t (b:=false) rfl rfl) ?_
 refine skr (.bool false) rfl rfl (Gd.t (b:=false) rfl rfl) ?_
 refine skp (.bool false) rfl rfl (Gd.t (b:=false) rfl rfl) ?_
 refine skr (.bool false) rfl rfl (Gd.t (b:=false) rfl rfl) ?_
 refine skp (.bool false) rfl rfl (Gd.t (b:=false) rfl rfl) ?_
 refine pkA rfl .no (.u rfl) (.s rfl) (.nil (.code (.cond rfl (fun c3=>?_) (fun c3=>?_))))
 ·have c3k:=c3
  cases c3
 have c3k:=c3
 try simp only [qcA,qcC,qcB] at c3
 refine .skip (.code (.seq (rq6 rfl rfl (mV rfl rfl (nc rfl .no (.u rfl) (fz rfl .no Fx.fo202_0 (.u rfl) (ld rfl .no Fx.ag200 (.u rfl) (fun _=>Rd.own tk1 rfl) ?_)))))))
 refine lr rfl .no Fx.sn200 (.u rfl) tk2 ?_
 refine aS rfl rfl (.nil (.code (.seq (Wk.draw (mc:=⟨false,false⟩) [0,1,2,3,4,5,6,7,8,9,10,11] Fx.mix (by kernel_rfl) ?_))))
 refine mV rfl rfl (mV rfl rfl (nc rfl .no (.u rfl) (fz rfl .no Fx.fo202_0 (.u rfl) (ld rfl .no Fx.ag200 (.u rfl) (fun _=>Rd.own tk1 rfl) ?_))))
 refine lA rfl .no Fx.ag115 (.u rfl) (fun _=>RdN.own tk3) (fun _=>(by first|exact Ent.len _|exact wA_len|rfl)) ?_
 refine bCe (Nd.cells (e,fun _=>0)) rfl .no Fx.bp199_0 (.cons (.u rfl) rfl .nil) rfl (rfl) ?_
 refine Go.Tan.b1 rfl Fx.se200 Fx.zv199 (.u rfl) rfl rfl (by decide) ?_; intro b76
 refine apS (xs:=xs) ((e,fun _=>0)) rfl Fx.se200 Fx.zv199 rfl (.u rfl) (.u rfl) tk3 .here (Nd.len _) (Nd.one _) (by omega) (by unfold maxLen; omega) ?_; intro v77 ov77
 refine nc rfl .no (.u rfl) (fz rfl .no Fx.fo202_0 (.u rfl) (s1v rfl (.u rfl) (.u rfl) .here Fx.sz200 tk3 (by first|decide|(simp [wA_len]; done)) (rfl) ?_))
 refine .nil (.code (.seq (.seq ?_)))
 refine wk_rv tk1 (by omega) ?_; intro bbRL capRL evRL lcRL; subst evRL
 refine rq4 rfl rfl (mV rfl rfl (mIn (ht) (12) rfl .no (.u rfl) (.u rfl) (fun _=>by omega) (fun _=>by omega) ?_))
 refine mAn (1) ((min ht 12)) rfl .no (.u rfl) (.u rfl) (fun _=>by omega) (fun _=>by omega) ?_
 refine mV rfl rfl (.nil (.code (.block ?_)))
 refine Wk.lop (α:=Nat) (fun k=>[(83,true,.int .i64 ((k:Nat):Int))]) (fun k=>[rS 16 Nd.cells (.slice (some ⟨bbRL,0,none⟩) (xs++[(e,fun _=>0)]).length capRL) 199 (lnkN w xs.length (xs++[(e,fun _=>0)]) k)])
  (fun k Gl=>(k≤ht)) (fun k=>ht-k) 0 [(0,true,_),(4,true,_),(7,true,_),(9,true,_),(82,true,_)] [_,_,_,_]
  (esC rfl (by first|rfl|exact evi (by omega)) (esD rfl (esD rfl (esD rfl (esD rfl (esD rfl eZ))))))
  (mS tk1 rfl (mS .here rfl (mS .here rfl (mS .here rfl (mS .here rfl mN))))) ?_ ?_
 ·(try dsimp only)<;>(first|omega|rfl|assumption|(simp; done))
 intro k N0 Gl0 hN0 hGl0 hF0
 try dsimp only at hF0 hN0 ⊢
 have hk:=hF0
 refine .seq (rq1 rfl rfl (cp rfl .no (.u rfl) (.u rfl) rfl (.nil (.code (.seq (.cond rfl (fun c4=>?_) (fun c4=>?_)))))))
 ·have c4k:=c4
  try simp only [qcA,qcC,qcB] at c4
  refine .skip (.code (.seq (.block (.seq (rq2 rfl rfl (mV rfl rfl (aS rfl rfl (.nil (.code (.seq (Wk.draw (mc:=⟨false,false⟩) [0,1,2,3,4,5,6,7,8,9,10,11,12,13,14,15,16,17,18,19,20,21] Fx.mix (by kernel_rfl) ?_)))))))))))
  refine mV rfl rfl (nc rfl .no (.u rfl) (fz rfl .no Fx.fo202_0 (.u rfl) (ld rfl .no Fx.ag200 (.u rfl) (fun _=>Rd.own tk1 rfl) ?_)))
  refine mV rfl rfl (mV rfl rfl (mV rfl rfl (nc rfl .no (.u rfl) (fz rfl .no Fx.fo202_0 (.u rfl) (ld rfl .no Fx.ag200 (.u rfl) (fun _=>Rd.own tk1 rfl) ?_)))))
  refine mV rfl rfl (iA rfl .no Fx.ar197 (.u rfl) (.u rfl) (fun _=>by omega) (fun _=>by omega) ?_)
  refine ld rfl .no Fx.ag3 (.u rfl) (fun _=>Rd.own tk3 (wA_at (k:=k) (by omega) (by simp))) ?_
  refine mV rfl rfl (ia rfl .no Fx.se200 (.u rfl) (.u rfl) (fun _=>by omega) (fun _=>by have:=hW.lt k (by omega); omega) ?_)
  refine fa rfl .no Fx.fo199_1 (.u rfl) (iA rfl .no Fx.ar197 (.u rfl) (.u rfl) (fun _=>by omega) (fun _=>by omega) ?_)
  refine ld rfl .no Fx.ag3 (.u rfl) (fun _=>Nd.rdo .here (a:=w k) (k:=k) (by (try rw [lnkA_len]); (try simp only [List.length_set]); (try rw [lnkN_len]); have:=hW.lt k (by omega); omega) (by omega) (by simp)) ?_
  refine ia rfl .no Fx.se200 (.u rfl) (.u rfl) (fun _=>by omega) (fun _=>by omega) ?_
  refine fa rfl .no Fx.fo199_1 (.u rfl) (iA rfl .no Fx.ar197 (.u rfl) (.u rfl) (fun _=>by omega) (fun _=>by omega) ?_)
  refine stE (k:=xs.length) (q:=4+k) (e:=(lnkN w xs.length (xs++[(e,fun _=>0)]) k).getD (xs.length) Nd.z) (u:=nsL ((lnkN w xs.length (xs++[(e,fun _=>0)]) k).getD (xs.length) Nd.z) k (nxt (lnkN w xs.length (xs++[(e,fun _=>0)]) k) (w k) k)) rfl (.u rfl) (.u rfl) Fx.sz3 .here (fun y _=>Nd.len y) (getN (by (try rw [lnkA_len]); (try simp only [List.length_set]); (try rw [lnkN_len]); have:=hW.lt k (by omega); omega)) (nsL_cells (by omega)) (by simp; omega) (by omega) rfl ?_
  refine .nil (.code (Wk.draw (mc:=⟨false,false⟩) [0,1,2,3,4,5,6,7,8,9,10,11,12] Fx.mix (by kernel_rfl) ?_))
  refine mV rfl rfl (nc rfl .no (.u rfl) (fz rfl .no Fx.fo202_0 (.u rfl) (ld rfl .no Fx.ag200 (.u rfl) (fun _=>Rd.own tk1 rfl) ?_)))
  refine mV rfl rfl (iA rfl .no Fx.ar197 (.u rfl) (.u rfl) (fun _=>by omega) (fun _=>by omega) ?_)
  refine ld rfl .no Fx.ag3 (.u rfl) (fun _=>Rd.own tk3 (wA_at (k:=k) (by omega) (by simp))) ?_
  refine mV rfl rfl (mV rfl rfl (ia rfl .no Fx.se200 (.u rfl) (.u rfl) (fun _=>by omega) (fun _=>by have:=hW.lt k (by omega); omega) ?_))
  refine fa rfl .no Fx.fo199_1 (.u rfl) (iA rfl .no Fx.ar197 (.u rfl) (.u rfl) (fun _=>by omega) (fun _=>by omega) ?_)
  refine stE (k:=w k) (q:=4+k) (e:=(lnkA w xs.length (lnkN w xs.length (xs++[(e,fun _=>0)]) k) k).getD (w k) Nd.z) (u:=nsL ((lnkA w xs.length (lnkN w xs.length (xs++[(e,fun _=>0)]) k) k).getD (w k) Nd.z) k (xs.length)) rfl (.u rfl) (.u rfl) Fx.sz3 .here (fun y _=>Nd.len y) (getN (by (try rw [lnkA_len]); (try simp only [List.length_set]); (try rw [lnkN_len]); have:=hW.lt k (by omega); omega)) (nsL_cells (by omega)) (by simp; omega) (by omega) rfl ?_
  refine .nil (.blk (.code (rq2 rfl rfl (arn (((k+1):Nat):Int) rfl .no (.u rfl) (.u rfl) rfl (fun _=>by omega) (fun _=>wrap_i64 (by omega) (by omega)) ?_))))
  refine mV rfl rfl (.nil (We.lpo (k+1) ?_ ?_ ?_ ?_ ?_))
  ·exact (esC rfl (by first|rfl|exact evi (by omega)) (esD rfl (esD rfl (esD rfl (esD rfl (esD rfl eZ))))))
  ·exact (mS .here rfl (mS .here rfl (mS .here rfl (mS .here rfl (mS .here rfl mN)))))
  ·first|omega|(dsimp only; omega)
  ·exact hGl0
  (try dsimp only)<;>(first|omega|rfl|assumption|(simp; done))
 have c4k:=c4
 try simp only [qcA,qcC,qcB] at c4
 refine .exit (.xcode (.xlp (.xblk (.code (.seq (Wk.draw (mc:=⟨false,false⟩) [0,1,2,3,4,5,6,7,8,9,10,11,12,13,14,15] Fx.mix (by kernel_rfl) ?_))))))
 refine mV rfl rfl (nc rfl .no (.u rfl) (fz rfl .no Fx.fo202_1 (.u rfl) (ld rfl .no Fx.ag3 (.u rfl) (fun _=>Rd.own tk1 (by first|exact wap_f rfl|rfl)) ?_)))
 refine fz rfl .no Fx.fo115_0 (.u rfl) (ld rfl .no Fx.ag9 (.u rfl) (fun _=>Rd.own tk4 (by first|exact wap_f rfl|rfl)) ?_)
 refine ls rfl .no Fx.st9 (.u rfl) (fz rfl .no Fx.fo115_3 (.u rfl) (ld rfl .no Fx.ag9 (.u rfl) (fun _=>Rd.own tk4 (by first|exact wap_f rfl|rfl)) ?_))
 refine ls rfl .no Fx.st9 (.u rfl) (arn (((e.user.size+e.value.size):Nat):Int) rfl .no (.u rfl) (.u rfl) rfl (fun _=>by omega) (fun _=>wrap_i64 (by omega) (by omega)) ?_)
 refine arn (((e.user.size+e.value.size+8):Nat):Int) rfl .no (.u rfl) (.u rfl) rfl (fun _=>by omega) (fun _=>wrap_i64 (by omega) (by omega)) ?_
 refine arn (((sz+(e.user.size+e.value.size+8)):Nat):Int) rfl .no (.u rfl) (.u rfl) rfl (fun _=>by omega) (fun _=>wrap_i64 (by omega) (by omega)) ?_
 refine nc rfl .no (.u rfl) (fz rfl .no Fx.fo202_1 (.u rfl) (s1 rfl (.u rfl) (.u rfl) rfl Fx.sz3 tk1 (by first|decide|(simp [wA_len]; done)) (rfl) ?_))
 refine .nil (.code (.seq (rq1 rfl rfl (aS rfl rfl (.nil (.code (.ret (We.fin Tryz.results69 (.tmp rfl .nil) (mS .here rfl (mS .here rfl mN)) ?_))))))))
 obtain rfl:k=ht:=by omega
 exact ⟨bbRL,capRL,rfl,rfl⟩
end Go.Proofs.YtggleibgadkodaaGreatDoor
namespace Go.Proofs.YtggleibgadkodaaGreatDoor
open Go.Tan Go.RowKit Go.Maps Go.Sort Go.Shelf
def Tryz.keys235_ren:Go.Shelf.Ren:=⟨fun | 7=>235 | 10=>264 | n=>n,fun | 23=>176 | 26=>9 | 3=>254 | 28=>380 | 0=>0 | 27=>379 | 33=>409 | 4=>4 | n=>n,fun | n=>n⟩
theorem Tryz.keys235:Go.Proofs.SlLaysZ.n7 Tryz.prog Tryz.keys235_ren:={
 mixed:=by kernel_rfl
 f7:=⟨"maps.Keys[map[string]tantalus/disk.file,string,tantalus/disk.file]",by decide,Tryz.func235.trans (congrArg some (by kernel_rfl))⟩
 f10:=⟨"maps.Keys[map[string]tantalus/disk.file,string,tantalus/disk.file]$1",by decide,Tryz.func264.trans (congrArg some (by kernel_rfl))⟩
 t0:=Tryz.underlying0
 a0:=Tryz.isAgg0
 z0:=Tryz.sizeOf0
 v0:=Tryz.zeroValue0
 t4:=Tryz.underlying4
 a4:=Tryz.isAgg4
 z4:=Tryz.sizeOf4
 v4:=Tryz.zeroValue4
 t23:=Tryz.underlying176
 a23:=Tryz.isAgg176
 z23:=Tryz.sizeOf176
 v23:=Tryz.zeroValue176
 t26:=Tryz.underlying9
 a26:=Tryz.isAgg9
 z26:=Tryz.sizeOf9
 v26:=Tryz.zeroValue9
 t27:=Tryz.underlying379
 a27:=Tryz.isAgg379
 z27:=Tryz.sizeOf379
 v27:=Tryz.zeroValue379
 t28:=Tryz.underlying380
 a28:=Tryz.isAgg380
 z28:=Tryz.sizeOf380
 v28:=Tryz.zeroValue380
 t33:=Tryz.underlying409
 a33:=Tryz.isAgg409
 z33:=Tryz.sizeOf409
 v33:=Tryz.zeroValue409 }
def Tryz.sorted234_ren:Go.Shelf.Ren:=⟨fun | 6=>234 | 8=>262 | 9=>263 | 11=>292 | 13=>247 | 12=>293 | 23=>276 | 24=>277 | 14=>304 | 15=>305 | 16=>306 | 17=>307 | 18=>308 | 19=>309 | 20=>310 | 21=>311 | 22=>312 | 25=>316 | 26=>296 | 27=>297 | 28=>317 | 29=>318 | 30=>256 | 31=>319 | n=>n,fun | 26=>9 | 28=>380 | 24=>261 | 0=>0 | 3=>3 | 37=>244 | 48=>282 | 50=>41 | 4=>4 | 40=>420 | 39=>419 | 45=>296 | 5=>5 | 9=>9 | 51=>445 | 55=>448 | 57=>457 | 58=>458 | 33=>409 | n=>n,fun | n=>n⟩
theorem Tryz.sorted234:Go.Proofs.SlLaysZ.n6 Tryz.prog Tryz.sorted234_ren:={
 mixed:=by kernel_rfl
 f6:=⟨"slices.Sorted[string]",by decide,Tryz.func234.trans (congrArg some (by kernel_rfl))⟩
 f8:=⟨"slices.Collect[string]",by decide,Tryz.func262.trans (congrArg some (by kernel_rfl))⟩
 f11:=⟨"slices.AppendSeq[[]string,string]",by decide,Tryz.func292.trans (congrArg some (by kernel_rfl))⟩
 t0:=Tryz.underlying0
 a0:=Tryz.isAgg0
 z0:=Tryz.sizeOf0
 v0:=Tryz.zeroValue0
 t24:=Tryz.underlying261
 a24:=Tryz.isAgg261
 z24:=Tryz.sizeOf261
 v24:=Tryz.zeroValue261
 t26:=Tryz.underlying9
 a26:=Tryz.isAgg9
 z26:=Tryz.sizeOf9
 v26:=Tryz.zeroValue9
 t28:=Tryz.underlying380
 a28:=Tryz.isAgg380
 z28:=Tryz.sizeOf380
 v28:=Tryz.zeroValue380
 i26:=by kernel_rfl }
def Tryz.sort263_ren:Go.Shelf.Ren:=⟨fun | 6=>263 | 8=>247 | 9=>293 | 19=>276 | 20=>277 | 21=>304 | 22=>305 | 23=>306 | 24=>307 | 25=>308 | 26=>309 | 27=>310 | 28=>311 | 29=>312 | 36=>316 | 31=>296 | 32=>297 | 37=>317 | 38=>318 | 39=>256 | 41=>319 | n=>n,fun | 27=>261 | 29=>9 | 3=>3 | 32=>244 | 26=>261 | 0=>0 | 44=>282 | 46=>41 | 4=>4 | 36=>420 | 35=>419 | 41=>296 | 5=>5 | 9=>9 | 53=>445 | 57=>448 | 63=>457 | 64=>458 | n=>n,fun | n=>n⟩
theorem Tryz.sort263:Go.Proofs.SlLaysM.n6 Tryz.prog Tryz.sort263_ren:={
 mixed:=by kernel_rfl
 f6:=⟨"slices.Sort[[]string,string]",by decide,Tryz.func263.trans (congrArg some (by kernel_rfl))⟩
 f8:=Tryz.func247.trans (congrArg some (by kernel_rfl))
 f9:=⟨"slices.pdqsortOrdered[string]",by decide,Tryz.func293.trans (congrArg some (by kernel_rfl))⟩
 f19:=Tryz.func276.trans (congrArg some (by kernel_rfl))
 f20:=Tryz.func277.trans (congrArg some (by kernel_rfl))
 f21:=⟨"slices.insertionSortOrdered[string]",by decide,Tryz.func304.trans (congrArg some (by kernel_rfl))⟩
 f22:=⟨"slices.heapSortOrdered[string]",by decide,Tryz.func305.trans (congrArg some (by kernel_rfl))⟩
 f23:=⟨"slices.breakPatternsOrdered[string]",by decide,Tryz.func306.trans (congrArg some (by kernel_rfl))⟩
 f24:=⟨"slices.choosePivotOrdered[string]",by decide,Tryz.func307.trans (congrArg some (by kernel_rfl))⟩
 f25:=⟨"slices.reverseRangeOrdered[string]",by decide,Tryz.func308.trans (congrArg some (by kernel_rfl))⟩
 f26:=⟨"slices.partialInsertionSortOrdered[string]",by decide,Tryz.func309.trans (congrArg some (by kernel_rfl))⟩
 f27:=⟨"cmp.Less[string]",by decide,Tryz.func310.trans (congrArg some (by kernel_rfl))⟩
 f28:=⟨"slices.partitionEqualOrdered[string]",by decide,Tryz.func311.trans (congrArg some (by kernel_rfl))⟩
 f29:=⟨"slices.partitionOrdered[string]",by decide,Tryz.func312.trans (congrArg some (by kernel_rfl))⟩
 f31:=Tryz.func296.trans (congrArg some (by kernel_rfl))
 f32:=Tryz.func297.trans (congrArg some (by kernel_rfl))
 f36:=⟨"slices.siftDownOrdered[string]",by decide,Tryz.func316.trans (congrArg some (by kernel_rfl))⟩
 f37:=⟨"slices.medianAdjacentOrdered[string]",by decide,Tryz.func317.trans (congrArg some (by kernel_rfl))⟩
 f38:=⟨"slices.medianOrdered[string]",by decide,Tryz.func318.trans (congrArg some (by kernel_rfl))⟩
 f39:=⟨"cmp.isNaN[string]",by decide,Tryz.func256.trans (congrArg some (by kernel_rfl))⟩
 f41:=⟨"slices.order2Ordered[string]",by decide,Tryz.func319.trans (congrArg some (by kernel_rfl))⟩
 t0:=Tryz.underlying0
 a0:=Tryz.isAgg0
 z0:=Tryz.sizeOf0
 v0:=Tryz.zeroValue0
 t3:=Tryz.underlying3
 a3:=Tryz.isAgg3
 z3:=Tryz.sizeOf3
 v3:=Tryz.zeroValue3
 t4:=Tryz.underlying4
 a4:=Tryz.isAgg4
 z4:=Tryz.sizeOf4
 v4:=Tryz.zeroValue4
 t5:=Tryz.underlying5
 a5:=Tryz.isAgg5
 z5:=Tryz.sizeOf5
 v5:=Tryz.zeroValue5
 t9:=Tryz.underlying9
 a9:=Tryz.isAgg9
 z9:=Tryz.sizeOf9
 v9:=Tryz.zeroValue9
 t26:=Tryz.underlying261
 a26:=Tryz.isAgg261
 z26:=Tryz.sizeOf261
 v26:=Tryz.zeroValue261
 t27:=Tryz.underlying261
 a27:=Tryz.isAgg261
 z27:=Tryz.sizeOf261
 v27:=Tryz.zeroValue261
 t29:=Tryz.underlying9
 a29:=Tryz.isAgg9
 z29:=Tryz.sizeOf9
 v29:=Tryz.zeroValue9
 t32:=Tryz.underlying244
 a32:=Tryz.isAgg244
 z32:=Tryz.sizeOf244
 v32:=Tryz.zeroValue244
 t35:=Tryz.underlying419
 a35:=Tryz.isAgg419
 z35:=Tryz.sizeOf419
 v35:=Tryz.zeroValue419
 t36:=Tryz.underlying420
 a36:=Tryz.isAgg420
 z36:=Tryz.sizeOf420
 v36:=Tryz.zeroValue420
 t41:=Tryz.underlying296
 a41:=Tryz.isAgg296
 z41:=Tryz.sizeOf296
 v41:=Tryz.zeroValue296
 t44:=Tryz.underlying282
 a44:=Tryz.isAgg282
 z44:=Tryz.sizeOf282
 v44:=Tryz.zeroValue282
 t46:=Tryz.underlying41
 a46:=Tryz.isAgg41
 z46:=Tryz.sizeOf41
 v46:=Tryz.zeroValue41
 t53:=Tryz.underlying445
 a53:=Tryz.isAgg445
 z53:=Tryz.sizeOf445
 v53:=Tryz.zeroValue445
 t57:=Tryz.underlying448
 a57:=Tryz.isAgg448
 z57:=Tryz.sizeOf448
 v57:=Tryz.zeroValue448
 t63:=Tryz.underlying457
 a63:=Tryz.isAgg457
 z63:=Tryz.sizeOf457
 v63:=Tryz.zeroValue457
 t64:=Tryz.underlying458
 a64:=Tryz.isAgg458
 z64:=Tryz.sizeOf458
 v64:=Tryz.zeroValue458 }
theorem Tryz.sorts234 (m:Nat):AnyZ.SortsIn Tryz.prog Tryz.sorted234_ren Fence.wide m :=
 ⟨fun blk off cap ss W hH hblk hsz=>callsIn_wide.2 (AnyM.slices_Sort_string Tryz.sort263 blk off cap ss W hH hblk hsz),
  fun p cap W=>callsIn_wide.2 (AnyM.slices_Sort_string_none Tryz.sort263 p cap W)⟩
theorem keysF_ok (mb:Nat) (G:PM):Ct Tryz.prog 235 #[.map (some mb)] G [] (fun _ μ' u=>∃ bk,μ'=[.blk bk (cl [.map (some mb)] 176)]∧u=.func (.func 264) #[] #[.pointer (some ⟨bk,0,none⟩)]):=fun w hs=>by
 refine (callsIn_wide.1 (AnyZ.keys_in Tryz.keys235 Fence.wide 5 trivial rfl (some mb) w)).mono ?_
 rintro e w' ⟨rfl,rfl⟩
 exact ⟨_,G,_,rfl,(Tr.begin (μ:=[]) hs).alloc _,w.heap.size,rfl,rfl⟩
theorem key_of_ins {l:List (Lit×DataW Unit)}:∀ {y},y∈l.foldr DataW.insert []→y∈l:=by
 induction l with
 | nil=>intro y h; exact h
 | cons x r ih =>
  intro y h
  rcases ChangeMaps.mem_insert_iff.1 h with rfl | h
  ·exact List.mem_cons_self ..
  ·exact List.mem_cons_of_mem _ (ih h)
theorem ins_len {l:List (Lit×DataW Unit)}:(l.foldr DataW.insert []).length=l.length:=by
 have h1:∀ (x:Lit×DataW Unit) (r:List (Lit×DataW Unit)),(DataW.insert x r).length=r.length+1:=by
  intro x r
  induction r with
  | nil=>rfl
  | cons y r ih=>rw [DataW.insert]; split<;>simp [ih]
 induction l with
 | nil=>rfl
 | cons x r ih=>rw [List.foldr_cons,h1,ih]; rfl
theorem rd_fe {f:Fi} (h:f.nm.size≤100):WideElems.rd (H:=Unit) Tryz.prog 9 (fun _=>some (.nil,[])) (mE f.fe)=some (.string f.nm.data.toList,.nil):=by
 unfold WideElems.rd
 rw [show (mE f.fe).key=.string f.nm from rfl,Go.WideMaps.keyOf_string_mk Tryz.underlying9 (by unfold maxLen; omega)]
 rfl
theorem sortedF_ok (bk bm clk:Nat) (F:List Fi) (G:PM) (hD:DkR F clk) (hbk:PB G bk (cl [.map (some bm)] 176)) (hbm:PB G bm (mO (F.map Fi.fe) clk)) :
  Ct Tryz.prog 234 #[.func (.func 264) #[] #[.pointer (some ⟨bk,0,none⟩)]] G [] (fun _ μ' u=>∃ L:List ByteArray,(∀ s∈L,s∈F.map Fi.nm)∧L.length≤1000∧μ'=[rS 1 encT u 9 L]):=fun w hs=>by
 have hk:w.heap[bk]? = some (cl [.map (some bm)] 176):=hs.sub _ _ hbk.h
 have hm:w.heap[bm]? = some (mO (F.map Fi.fe) clk):=hs.sub _ _ hbm.h
 have hc:=hD.cnt
 have hown:w.ownsMap (H:=Unit) Tryz.prog 9 (fun _=>some (.nil,[])) bm F.length (.map ((((F.map Fi.fe).map mE).map (WideElems.rg Tryz.prog 9 (fun _=>some (.nil,[])))).foldr DataW.insert [])):=by
  refine ⟨((F.map Fi.fe).map mE).toArray,clk,hm,⟨by simp [maxLen]; omega,⟨fun x hx=>?_,?_,?_⟩,fun x hx=>?_⟩,by simp,rfl⟩
  ·simp only [List.mem_map] at hx
   obtain ⟨_,⟨f,hf,rfl⟩,rfl⟩:=hx
   exact hD.old f hf
  ·have:((F.map Fi.fe).map mE).map (·.born)=F.map Fi.born:=by simp [Function.comp_def,mE,Fi.fe]
   rw [show ((F.map Fi.fe).map mE).toArray.toList=(F.map Fi.fe).map mE from rfl,this]; exact hD.nd
  ·have:((F.map Fi.fe).map mE).map (·.key)=(F.map Fi.nm).map Value.string:=by simp [Function.comp_def,mE,Fi.fe]
   rw [show ((F.map Fi.fe).map mE).toArray.toList=(F.map Fi.fe).map mE from rfl,this]
   exact List.Pairwise.map _ (fun a b h e=>h (Value.string.inj e)) hD.un
  simp only [List.mem_map] at hx
  obtain ⟨_,⟨f,hf,rfl⟩,rfl⟩:=hx
  exact ⟨_,rd_fe (hD.gn f hf)⟩
 have hsz:Maps.size (DataW.map ((((F.map Fi.fe).map mE).map (WideElems.rg (H:=Unit) Tryz.prog 9 (fun _=>some (.nil,[])))).foldr DataW.insert []))=F.length:=by
  show List.length _=_
  rw [ins_len]; simp
 have hcell:w.cell? ⟨bk,0,none⟩=some (.map (some bm)):=by simp [World.cell?,hk,cl]
 have hseq:=AnyZ.keys_gives (ρ:=Tryz.keys235_ren) { Tryz.keys235 with } Fence.wide 2 trivial rfl (by omega) bk bm F.length _ w (Array.getElem?_eq_some_iff.1 hk).1 hcell hown
 refine (callsIn_wide.1 (AnyZ.sorted_in Tryz.sorted234 Fence.wide 5 trivial trivial trivial trivial rfl (by omega) (Tryz.sorts234 _) (enters_of Tryz.func263 (by kernel_rfl) rfl) 264 #[.pointer (some ⟨bk,0,none⟩)] trivial (enters_of Tryz.func264 (by kernel_rfl) rfl) _ _ (by rw [hsz]; unfold maxLen; omega) (by rw [hsz]; omega) _ hseq)).mono ?_
 rintro e w' ⟨v,ss,rfl,hS,hrow,hnil,hb⟩
 obtain ⟨L,hL⟩ : ∃ L:List ByteArray,L=(ss.mergeSort (fun x y=>decide (x≤y))).map fun l=>⟨l.toArray⟩:=⟨_,rfl⟩
 have hLl:L.length=ss.length:=by rw [hL,List.length_map,List.length_mergeSort]
 have hLe:(ss.mergeSort (fun x y=>decide (x≤y))).map encStr=L.flatMap encT:=by
  rw [hL]
  generalize ss.mergeSort (fun x y=>decide (x≤y))=q
  induction q with
  | nil=>rfl
  | cons x r ih=>simp only [List.map_cons,List.flatMap_cons,ih,encT,List.singleton_append]
 rw [hLe,←hLl] at hrow
 have hmem:∀ s∈L,s∈F.map Fi.nm:=fun s hsm=>by
  rw [hL] at hsm
  obtain ⟨l,hl,rfl⟩:=List.mem_map.1 hsm
  have h1:l∈ss:=List.mem_mergeSort.1 hl
  have h2:=hS.mem_iff.1 h1
  obtain ⟨p,hp,rfl⟩:=List.mem_map.1 h2
  obtain ⟨x,hx,rfl⟩:=List.mem_map.1 (key_of_ins hp)
  simp only [List.mem_map] at hx
  obtain ⟨_,⟨f,hf,rfl⟩,rfl⟩:=hx
  rw [WideElems.rg_of (rd_fe (hD.gn f hf))]
  exact List.mem_map.2 ⟨f,hf,by simp [strOf]⟩
 have hlen:L.length≤1000:=by
  rw [hLl,hS.length_eq]
  have:(strKeys (DataW.map ((((F.map Fi.fe).map mE).map (WideElems.rg (H:=Unit) Tryz.prog 9 (fun _=>some (.nil,[])))).foldr DataW.insert []))).length=F.length:=by rw [← hsz]; exact List.length_map _
  omega
 have hsub:∀ b o,G b=some o→w'.heap[b]? = some o:=fun b o hbo=>by
  have h1:=hs.sub b o hbo
  rw [hb.block b (Array.getElem?_eq_some_iff.1 h1).1]; exact h1
 have hkeys:∀ b∈keys [rS 1 encT v 9 L],w.heap.size≤b:=fun b hbk'=>by
  simp only [keys,Res.keys,List.flatMap_cons,List.flatMap_nil,List.append_nil] at hbk'
  rcases hrow.2 with ⟨rfl,_⟩ | ⟨g,cap,cur,rfl,hg,_⟩
  ·simp [Value.ownBlock] at hbk'
  simp [Value.ownBlock] at hbk'; omega
 refine ⟨v,G,_,rfl,⟨⟨hsub,fun r hr=>?_,fun b hbk'=>?_,?_⟩,hb.os,hb.tape,hb.output,hb.size,fun b hbl _=>⟨hb.block b hbl,rfl⟩,fun b hbk'=>.inr (hkeys b hbk'),fun _ _ _ h=>h⟩,L,hmem,hlen,rfl⟩
 ·rw [List.mem_singleton.1 hr]
  refine ⟨hrow.1,hrow.2.imp id ?_⟩
  rintro ⟨g,cap,cur,h1,h2,h3⟩
  exact ⟨g,cap,cur,h1,Nat.zero_le _,h3⟩
 ·cases hG:G b with
  | none=>rfl
  | some o =>
   have h1:=(Array.getElem?_eq_some_iff.1 (hs.sub b o hG)).1
   have h2:=hkeys b hbk'
   omega
 simp only [keys,Res.keys,List.flatMap_cons,List.flatMap_nil,List.append_nil]
 cases v.ownBlock<;>simp
end Go.Proofs.YtggleibgadkodaaGreatDoor
namespace Go.Proofs.YtggleibgadkodaaGreatDoor
open Go.Tan Go.RowKit Go.Maps Go.Sort Go.Shelf
namespace FxGrU
theorem sn142:(slE Tryz.prog 142).isSome=true:=by kernel_rfl
theorem cv5_3:cvK Tryz.prog 5 3=some .i64:=by kernel_rfl
end FxGrU
namespace Fx
theorem ag142:aggN Tryz.prog 142=some none:=by kernel_rfl
theorem go277:goFn Tryz.prog 277=true:=by kernel_rfl
theorem go268:goFn Tryz.prog 268=true:=by kernel_rfl
theorem go247:goFn Tryz.prog 247=true:=by kernel_rfl
theorem go246:goFn Tryz.prog 246=true:=by kernel_rfl
end Fx
theorem vals1_ok (y:Value) (bk:Nat) (G:PM) (hbk:PB G bk (cl [.slice none 0 0] 142)):Ct Tryz.prog 202 ([y,.pointer (some ⟨bk,0,none⟩)]:List Value).toArray G [] (fun _ μ' u=>μ'=[]∧u=.tuple #[]):=by
 refine Ct.of Tryz.func202 rfl Tryz.ntmps202 rfl fun w0 hs0=>?_
 refine .seq (rq3 rfl rfl (ld rfl .no Fx.ag142 (.u rfl) (fun _=>(hbk.rd (rfl)).rd) ?_))
 refine ln rfl .no FxGrU.sn142 (.u rfl) (mV rfl rfl (.nil (.code (.block ?_))))
 refine Wk.lop (α:=Nat) (fun k=>[(7,true,.int .i64 ((k:Nat):Int))]) (fun _=>[])
  (fun k Gl=>(k=0)) (fun k=>0) 0 [(0,true,_),(5,true,_),(6,true,_)] []
  (esC rfl (by first|rfl|exact evi (by omega)) (esD rfl (esD rfl (esD rfl eZ))))
  mN ?_ ?_
 ·(try dsimp only)<;>(first|omega|rfl|assumption|(simp; done))
 intro k N0 Gl0 hN0 hGl0 hF0
 try dsimp only at hF0 hN0 ⊢
 have hk:=hF0
 refine .seq (rq1 rfl rfl (cp rfl .no (.u rfl) (.u rfl) rfl (.nil (.code (.seq (.cond rfl (fun c1=>?_) (fun c1=>?_)))))))
 ·have c1k:=c1
  subst hk; exact absurd c1 (by decide)
 have c1k:=c1
 try simp only [qcA,qcB] at c1
 refine .exit (.xcode (.xlp (.xblk (.nil (We.fin0 Tryz.results202 .nil ?_)))))
 exact ⟨rfl,rfl⟩
theorem vals_ok (G:PM):Ct Tryz.prog 162 ([.slice none 0 0]:List Value).toArray G [] (fun _ μ' u=>∃ bk,μ'=[.blk bk (cl [.slice none 0 0] 142)]∧u=.func (.func 202) #[] #[.pointer (some ⟨bk,0,none⟩)]):=by
 refine Ct.of Tryz.func162 rfl Tryz.ntmps162 rfl fun w0 hs0=>?_
 refine .seq (rq2 rfl rfl ?_)
 refine bx rfl (.u rfl) rfl ?_; intro b1
 refine aS rfl rfl (.nil (.code (.seq (rq2 rfl rfl (mf (vf:=#[]) (vc:=[Value.pointer (some ⟨b1,0,none⟩)].toArray) rfl .no (fun a ha _=>by simp) (fun a ha _=>by simp [(Ev.u (c:=true) rfl:Ev _ true (.tmp 1) _).eval ha rfl]) ?_)))))
 refine aS rfl rfl (.nil (.code (.ret (We.fin Tryz.results162 (.tmp rfl .nil) (mS .here rfl mN) ?_))))
 exact ⟨b1,rfl,rfl⟩
theorem len64_ok (G:PM):Ct Tryz.prog 277 ([.int .u64 0]:List Value).toArray G [] (fun _ μ' u=>μ'=[]):=by
 refine Ct.of Tryz.func277 rfl Tryz.ntmps277 rfl fun w0 hs0=>?_
 refine .seq (rq1 rfl rfl (aS rfl rfl (.nil (.code (.seq (.seq (rq2 rfl rfl (mV rfl rfl (cp rfl .no (.u rfl) (.u rfl) rfl (.nil (.code (.cond rfl (fun c1=>?_) (fun c1=>?_)))))))))))))
 ·have c1k:=c1
  exact absurd c1 (by decide)
 have c1k:=c1
 try simp only [qcA,qcC,qcB] at c1
 refine .skip (.code (.seq (.seq (rq2 rfl rfl (mV rfl rfl (cp rfl .no (.u rfl) (.u rfl) rfl (.nil (.code (.cond rfl (fun c2=>?_) (fun c2=>?_))))))))))
 ·have c2k:=c2
  exact absurd c2 (by decide)
 have c2k:=c2
 try simp only [qcA,qcC,qcB] at c2
 refine .skip (.code (.seq (.seq (rq2 rfl rfl (mV rfl rfl (cp rfl .no (.u rfl) (.u rfl) rfl (.nil (.code (.cond rfl (fun c3=>?_) (fun c3=>?_))))))))))
 ·have c3k:=c3
  exact absurd c3 (by decide)
 have c3k:=c3
 try simp only [qcA,qcC,qcB] at c3
 refine .skip (.code (.seq (rq7 rfl rfl (mV rfl rfl (mV rfl rfl (cv rfl .no Fx.cv41_5 (.u rfl) (sI 0 rfl .no FxGrQ.st9 (.u rfl) (.u rfl) (fun _=>rfl) (fun _=>of_decide_eq_true (by kernel_rfl)) ?_)))))))
 refine cv rfl .no FxGrU.cv5_3 (.u rfl) (aw rfl .no (.u rfl) (.u rfl) rfl (aS rfl rfl (.nil (.code (.ret (We.fin0 Tryz.results277 (.tmp rfl .nil) ?_))))))
 exact rfl
theorem blen_ok (G:PM):Ct Tryz.prog 247 ([.int .u64 0]:List Value).toArray G [] (fun _ μ' u=>μ'=[]):=by
 refine Ct.of Tryz.func247 rfl Tryz.ntmps247 rfl fun w0 hs0=>?_
 refine .seq (rq1 rfl rfl (aS rfl rfl (.nil (.code (.seq (.cond rfl (fun c1=>?_) (fun c1=>?_)))))))
 ·exact absurd c1 (by decide)
 try simp only [qcA,qcB] at c1
 refine .skip (.code (.seq (rq3 rfl rfl (mV rfl rfl (kc rfl Fx.go277 (Evc rfl Evn) (len64_ok _) ?_)))))
 rintro v7 G7 μ7 hG7 rfl
 refine aS rfl rfl (.nil (.code (.ret (We.fin0 Tryz.results247 (.tmp rfl .nil) ?_))))
 exact rfl
theorem ins0_ok (G:PM):Ct Tryz.prog 268 ([.slice none 0 0,.int .i64 0,.int .i64 0]:List Value).toArray G [] (fun _ μ' u=>μ'=[]∧u=.tuple #[]):=by
 refine Ct.of Tryz.func268 rfl Tryz.ntmps268 rfl fun w0 hs0=>?_
 refine .seq (rq3 rfl rfl (mV rfl rfl (arn (((0+1):Nat):Int) rfl .no (.u rfl) (.u rfl) rfl (fun _=>by omega) (fun _=>wrap_i64 (by omega) (by omega)) ?_)))
 refine aS rfl rfl (.nil (.code (.block ?_)))
 refine Wk.lop (α:=Nat) (fun k=>[(6,true,.int .i64 ((k:Nat):Int))]) (fun _=>[])
  (fun k Gl=>(k=1)) (fun k=>0) 1 [(0,true,_),(1,true,_),(2,true,_)] []
  (esC rfl (by first|rfl|exact evi (by omega)) (esD rfl (esD rfl (esD rfl eZ))))
  mN ?_ ?_
 ·(try dsimp only)<;>(first|omega|rfl|assumption|(simp; done))
 intro k N0 Gl0 hN0 hGl0 hF0
 try dsimp only at hF0 hN0 ⊢
 have hk:=hF0
 refine .seq (.seq (rq3 rfl rfl (mV rfl rfl (mV rfl rfl (cp rfl .no (.u rfl) (.u rfl) rfl (.nil (.code (.cond rfl (fun c1=>?_) (fun c1=>?_)))))))))
 ·have c1k:=c1
  subst hk; exact absurd c1 (by decide)
 have c1k:=c1
 try simp only [qcA,qcB] at c1
 refine .exit (.xcode (.xlp (.xblk (.nil (We.fin0 Tryz.results268 .nil ?_)))))
 exact ⟨rfl,rfl⟩
theorem pdq0_ok (v:Value) (G:PM):Ct Tryz.prog 246 ([.slice none 0 0,.int .i64 0,.int .i64 0,v]:List Value).toArray G [] (fun _ μ' u=>μ'=[]∧u=.tuple #[]):=by
 refine Ct.of Tryz.func246 rfl Tryz.ntmps246 rfl fun w0 hs0=>?_
 refine .seq (rq1 rfl rfl (aS rfl rfl (.nil (.code (.seq (rq1 rfl rfl (aS rfl rfl (.nil (.code (.block ?_))))))))))
 refine Wk.lop (α:=Nat) (fun k=>[(1,true,.int .i64 0),(2,true,.int .i64 0),(3,true,v),(8,true,.bool true),(9,true,.bool true)]) (fun _=>[])
  (fun k Gl=>True) (fun k=>0) 0 [(0,true,_)] []
  (esC rfl (by first|rfl|exact evi (by omega)) (esC rfl (by first|rfl|exact evi (by omega)) (esD rfl (esD rfl (esD rfl (esD rfl eZ))))))
  mN ?_ ?_
 ·trivial
 intro k N0 Gl0 hN0 hGl0 hF0
 try dsimp only at hF0 hN0 ⊢
 refine .block (.seq (rq4 rfl rfl (mV rfl rfl (mV rfl rfl (ar rfl .no (.u rfl) (.u rfl) rfl (fun _=>wrap_i64 (by omega) (by omega)) ?_)))))
 refine aS rfl rfl (.nil (.code (.seq (.seq (rq2 rfl rfl (mV rfl rfl (cp rfl .no (.u rfl) (.u rfl) rfl (.nil (.code (.cond rfl (fun c1=>?_) (fun c1=>?_)))))))))))
 ·have c1k:=c1
  try simp only [qcA,qcB] at c1
  refine .seq (rq4 rfl rfl (mV rfl rfl (mV rfl rfl (mV rfl rfl (kv rfl .no Fx.go268 (Evc rfl (Evc rfl (Evc rfl Evn))) (fun _=>ins0_ok _) ?_)))))
  refine .nil (.code (.ret (We.fin0 Tryz.results246 .nil ?_)))
  exact ⟨rfl,rfl⟩
 have c1k:=c1
 exact absurd c1 (by decide)
theorem sort0_ok (G:PM):Ct Tryz.prog 201 ([.slice none 0 0]:List Value).toArray G [] (fun _ μ' u=>μ'=[]∧u=.tuple #[]):=by
 refine Ct.of Tryz.func201 rfl Tryz.ntmps201 rfl fun w0 hs0=>?_
 refine .seq (rq3 rfl rfl (mV rfl rfl (ln rfl .no FxGrU.sn142 (.u rfl) (aS rfl rfl (.nil (.code (rq6 rfl rfl (mV rfl rfl (mV rfl rfl (mV rfl rfl (cw rfl .no Fx.cv3_244 (.u rfl) (fun _=>wrap_u64 (by omega) (by omega)) ?_)))))))))))
 refine kc rfl Fx.go247 (Evc rfl Evn) (blen_ok _) ?_
 rintro v9 G9 μ9 hG9 rfl
 refine kv rfl .no Fx.go246 (Evc rfl (Evc rfl (Evc rfl (Evc rfl Evn)))) (fun _=>pdq0_ok _ _) ?_
 refine .nil (.nil (We.fin0 Tryz.results201 .nil ?_))
 exact ⟨rfl,rfl⟩
theorem rangeNone {P:Program} {g:Operand} {ps:Array Tmp} {assign body:Code} {Q:Exit→Act→World→Prop} {a:Act} {w:World} {gf:Nat} {lb:Array Value} (hg:a.eval g=.func (.func gf) #[] lb)
  (eg:∀ args w,(callFunc gf args).run P w=.ok (.enter gf args) w)
  (hcall:∀ l W,Below w.heap.size w W→Calls P gf (#[.func (.yield l) #[] #[]]++lb) W fun e W'=>(∃ v,e=.returned v)∧Below W.heap.size W W')
  (hQ:∀ D W,Below w.heap.size w W→w.heap.size≤D→W.heap[D]? = some (.deferred (some []))→Q .normal { a with defers:={ target:=.collected D,args:=#[] } :: a.defers } W) :
  (Code.rangeFunc g ps assign body).wpIn Fence.wide 5 P Q a w:=by
 refine wpIn_rangeFunc fun fn hfn=>?_
 obtain ⟨lp,hlp⟩ : ∃ lp:Loop,lp = { state:=.ready,pending:=none,fn,tmps:=a.tmps,params:=ps,assign,body,defers:=w.heap.size }:=⟨_,rfl⟩
 obtain ⟨W1,hW1⟩ : ∃ W1,(w.alloc (.deferred (some []))).alloc (.loop lp)=W1:=⟨_,rfl⟩
 have hL1:W1.heap[w.heap.size+1]? = some (.loop lp):=by
  rw [← hW1]; have:=World.alloc_heap_new (w.alloc (.deferred (some []))) (.loop lp); rwa [World.size_alloc] at this
 have hK1:W1.heap[w.heap.size]? = some (.deferred (some [])):=by
  rw [← hW1]; exact (Below.heap_alloc _ _ _ (by simp)).trans (World.alloc_heap_new w _)
 have hb1:Below w.heap.size w W1:=by
  rw [← hW1]; exact ((Below.refl _ w).alloc (Nat.le_refl _) _).alloc (by simp) _
 refine ⟨w.heap.size+1,[{ target:=.collected w.heap.size,args:=#[] }],W1,{ target:=.fn (.func gf) lb,args:=#[.func (.yield (w.heap.size+1)) #[] #[]] },W1,gf, #[.func (.yield (w.heap.size+1)) #[] #[]]++lb,W1,?_,?_,?_,?_,fun _=>by omega,?_⟩
 ·rw [← hW1,hlp]; exact run_enterLoop_outer _ _ _ _ _
 ·simp only [resolve,hg]; simp [go_sem]
 ·intro f' _; trivial
 ·simp [invoke,go_sem,eg]
 refine callsIn_wide.2 ((hcall _ W1 hb1).mono ?_)
 rintro e W2 ⟨⟨v,rfl⟩,hb2⟩
 have hL2:W2.heap[w.heap.size+1]? = some (.loop lp):=(hb2.block _ (Array.getElem?_eq_some_iff.1 hL1).1).trans hL1
 have hK2:W2.heap[w.heap.size]? = some (.deferred (some [])):=(hb2.block _ (Array.getElem?_eq_some_iff.1 hK1).1).trans hK1
 have hend:=run_endLoop (P:=P) hL2 (by rw [hlp]; simp)
 have hpe:lp.pending=none:=by rw [hlp]
 rw [hpe] at hend
 have hb12:Below w.heap.size w W2:=hb1.trans (hb2.mono hb1.size)
 refine ⟨none,_,hend,hQ w.heap.size _ (hb12.grown (grownBy_putObj_a _ _ _) hb12.size (fun k e=>by cases e; omega)) (Nat.le_refl _) ((World.putObj_heap_other (by omega)).trans hK2)⟩
theorem appU_ok (bk:Nat) (G:PM) (hbk:PB G bk (cl [.slice none 0 0] 142)):Ct Tryz.prog 245 #[.slice none 0 0,.func (.func 202) #[] #[.pointer (some ⟨bk,0,none⟩)]] G [] (fun _ μ' u=>μ'=[]∧u=.slice none 0 0):=fun w hs=>by
 refine (callsIn_wide (n:=5)).1 ?_
 refine callsIn_of_wp_marks Tryz.func245 rfl trivial ?_ rfl
 simp only [Tryz.ntmps245,List.size_toArray,List.length_cons,List.length_nil,Nat.reduceAdd,Nat.reduceSub,Array.replicate_succ,Array.replicate_zero,List.push_toArray,List.append_toArray,List.nil_append,List.cons_append]
 gi_wp2
 have hbl:Below w.heap.size w (w.alloc (.cells #[.slice none 0 0] 142)):=(Below.refl _ w).alloc (Nat.le_refl _) _
 have hv0:(w.alloc (.cells #[.slice none 0 0] 142)).heap[w.heap.size]? = some (.cells #[.slice none 0 0] 142 (0,0)):=World.alloc_heap_new w _
 have hs0:(w.alloc (.cells #[.slice none 0 0] 142)).heap.size=w.heap.size+1:=by simp
 refine rangeNone (gf:=202) (lb:=#[.pointer (some ⟨bk,0,none⟩)]) rfl (enters_of Tryz.func202 (by kernel_rfl) rfl) (fun l W hb=>?_) (fun D W hb hD hK=>?_)
 ·have hsub:∀ b o,G b=some o→W.heap[b]? = some o:=fun b o h=>by
   have h1:=hs.sub b o h
   have h2:=(Array.getElem?_eq_some_iff.1 h1).1
   rw [hb.block b (by omega),hbl.block b h2]; exact h1
  refine (vals1_ok (.func (.yield l) #[] #[]) bk G hbk W ⟨hsub,fun r hr=>(by cases hr),fun b hb=>(by cases hb),List.nodup_nil⟩).mono ?_
  rintro e W' ⟨v,G',μ',rfl,ht,_⟩
  exact ⟨⟨v,rfl⟩,ht.os,ht.tape,ht.output,ht.size,fun k hk=>(ht.old k hk (fun h=>by cases h)).1⟩
 have hv3:W.heap[w.heap.size]? = some (.cells #[.slice none 0 0] 142 (0,0)):=(hb.block _ (by omega)).trans hv0
 obtain ⟨hc3,hf3⟩:=cell_of_box_a hv3
 have hbw:Below w.heap.size w W:=hbl.trans (hb.mono (by omega))
 gi_wp2
 refine ⟨by simp,.inl ⟨_,_,rfl,run_takeDeferred hK,?_⟩⟩
 have hbz:=hbw.grown (grownBy_putObj_a W D (.deferred none)) hbw.size (fun k e=>by cases e; omega)
 refine ⟨_,results_tmp rfl _ _ _,_,G,[],rfl,⟨⟨fun b o h=>?_,fun r hr=>(by cases hr),fun b hb=>(by cases hb),List.nodup_nil⟩,hbz.os,hbz.tape,hbz.output,hbz.size,fun b hb _=>⟨hbz.block b hb,rfl⟩,fun b hb=>(by cases hb),fun _ _ _ h=>h⟩,rfl,rfl⟩
 have h1:=hs.sub b o h
 exact (hbz.block b (Array.getElem?_eq_some_iff.1 h1).1).trans h1
end Go.Proofs.YtggleibgadkodaaGreatDoor
namespace Go.Proofs.YtggleibgadkodaaGreatDoor
open Go.Tan Go.RowKit Go.Maps Go.Sort Go.Shelf
namespace FxGrX
theorem go158:goFn Tryz.prog 158=true:=by kernel_rfl
end FxGrX
namespace Fx
theorem se137:slE Tryz.prog 137=some (135,1,24):=by kernel_rfl
theorem sn137:(slE Tryz.prog 137).isSome=true:=by kernel_rfl
theorem go160:goFn Tryz.prog 160=true:=by kernel_rfl
theorem ag135:aggN Tryz.prog 135=some none:=by kernel_rfl
theorem go199:goFn Tryz.prog 199=true:=by kernel_rfl
theorem go159:goFn Tryz.prog 159=true:=by kernel_rfl
theorem go245:goFn Tryz.prog 245=true:=by kernel_rfl
theorem go200:goFn Tryz.prog 200=true:=by kernel_rfl
theorem go201:goFn Tryz.prog 201=true:=by kernel_rfl
theorem zv135:(Tryz.prog.info? 135).bind (·.zero)=some (.slice none 0 0):=by kernel_rfl
theorem go106:goFn Tryz.prog 106=true:=by kernel_rfl
theorem go162:goFn Tryz.prog 162=true:=by kernel_rfl
theorem go161:goFn Tryz.prog 161=true:=by kernel_rfl
theorem zr137:zrL Tryz.prog 137=some ([.slice none 0 0]):=by kernel_rfl
theorem zr3:zrL Tryz.prog 3=some ([.int .i64 0]):=by kernel_rfl
theorem go167:goFn Tryz.prog 167=true:=by kernel_rfl
theorem ag137:aggN Tryz.prog 137=some none:=by kernel_rfl
end Fx
theorem rises_nil:risesE []=true:=B_true fun j h=>absurd h (by simp)
theorem mr1_ok (G:PM):Ct Tryz.prog 160 ([.slice none 0 0]:List Value).toArray G [] (fun _ μ' u=>μ'=[]∧u=.bool false):=by
 refine Ct.of Tryz.func160 rfl Tryz.ntmps160 rfl fun w0 hs0=>?_
 refine .seq (rq1 rfl rfl (aS rfl rfl (.nil (.code (.seq (rq4 rfl rfl (mV rfl rfl (kv rfl .no FxGrX.go158 (Evc rfl Evn) (fun _=>rises_ok ⟨none,0⟩ [] _ SlR.nul (by decide)) ?_))))))))
 refine nt rfl .no (.u rfl) (aS rfl rfl (.nil (.code (.ret (We.fin0 Tryz.results160 (.tmp rfl .nil) ?_)))))
 exact ⟨rfl,congrArg Value.bool (by rw [rises_nil]; rfl)⟩
theorem idxN_ok (b:Nat) (G:PM) (hb:PB G b (cl [.slice none 0 0] 135)):Ct Tryz.prog 199 ([.slice (some ⟨b,0,none⟩) 1 1,.func (.func 160) #[] #[]]:List Value).toArray G [] (fun _ μ' u=>μ'=[]∧u=.int .i64 (-1)):=by
 refine Ct.of Tryz.func199 rfl Tryz.ntmps199 rfl fun w0 hs0=>?_
 refine .seq (rq1 rfl rfl (aS rfl rfl (.nil (.code (.seq (.seq (rq3 rfl rfl (mV rfl rfl (ln rfl .no Fx.sn137 (.u rfl) (mV rfl rfl (.nil (.code (.block ?_)))))))))))))
 refine Wk.lop (α:=Nat) (fun k=>[(8,true,.int .i64 (k:Int))]) (fun _=>[])
  (fun k Gl=>(k≤1)) (fun k=>1-k) 0 [(0,true,_),(1,true,_),(7,true,_)] []
  (esC rfl (by first|rfl|exact evi (by omega)) (esD rfl (esD rfl (esD rfl eZ))))
  mN ?_ ?_
 ·(try dsimp only)<;>(first|omega|rfl|assumption|(simp; done))
 intro k N0 Gl0 hN0 hGl0 hF0
 try dsimp only at hF0 hN0 ⊢
 have hk:=hF0
 have hb:=hb.mono hGl0
 refine .seq (rq1 rfl rfl (cp rfl .no (.u rfl) (.u rfl) rfl (.nil (.code (.seq (.cond rfl (fun c1=>?_) (fun c1=>?_)))))))
 ·have c1k:=c1
  try simp only [qcA,qcB] at c1
  refine .skip (.code (.seq (.block (.seq (rq2 rfl rfl (mV rfl rfl (aS rfl rfl (.nil (.code (.seq (rq6 rfl rfl (mV rfl rfl (mV rfl rfl (mV rfl rfl ?_))))))))))))))
  have hk0:k=0:=by omega
  refine ia rfl .no Fx.se137 (.u rfl) (.u rfl) (fun _=>by omega) (fun _=>by omega) ?_
  refine ld rfl .no Fx.ag135 (.u rfl) (fun _=>(hb.rd (by rw [hk0]; rfl)).rd) ?_
  refine kf rfl .no (.u rfl) Fx.go160 (Evc rfl Evn) (fun _=>mr1_ok _) ?_
  refine .nil (.code (.cond rfl (fun c2=>?_) (fun c2=>?_)))
  ·have c2k:=c2
   cases c2
  have c2k:=c2
  try simp only [qcA,qcB] at c2
  refine .skip (.blk (.code (rq2 rfl rfl (arn (((k+1):Nat):Int) rfl .no (.u rfl) (.u rfl) rfl (fun _=>by omega) (fun _=>wrap_i64 (by omega) (by omega)) ?_))))
  refine mV rfl rfl (.nil (We.lpo (k+1) ?_ ?_ ?_ ?_ ?_))
  ·exact (esC rfl (by first|rfl|exact evi (by omega)) (esD rfl (esD rfl (esD rfl eZ))))
  ·exact mN
  ·first|omega|(dsimp only; omega)
  ·exact hGl0
  (try dsimp only)<;>(first|omega|rfl|assumption|(simp; done))
 have c1k:=c1
 try simp only [qcA,qcB] at c1
 refine .exit (.xcode (.xlp (.xblk (.code (.seq (rq1 rfl rfl (aS rfl rfl (.nil (.code (.ret (We.fin0 Tryz.results199 (.tmp rfl .nil) ?_)))))))))))
 exact ⟨rfl,rfl⟩
theorem contN_ok (b:Nat) (G:PM) (hb:PB G b (cl [.slice none 0 0] 135)):Ct Tryz.prog 159 ([.slice (some ⟨b,0,none⟩) 1 1,.func (.func 160) #[] #[]]:List Value).toArray G [] (fun _ μ' u=>μ'=[]∧u=.bool false):=by
 refine Ct.of Tryz.func159 rfl Tryz.ntmps159 rfl fun w0 hs0=>?_
 refine .seq (rq1 rfl rfl (aS rfl rfl (.nil (.code (.seq (rq5 rfl rfl (mV rfl rfl (mV rfl rfl (kv rfl .no Fx.go199 (Evc rfl (Evc rfl Evn)) (fun _=>idxN_ok b _ hb) ?_)))))))))
 refine cp rfl .no (.u rfl) (.u rfl) rfl (aS rfl rfl (.nil (.code (.ret (We.fin0 Tryz.results159 (.tmp rfl .nil) ?_)))))
 exact ⟨rfl,rfl⟩
theorem mrises0_ok (b:Nat) (G:PM) (hb:PB G b (cl [.slice none 0 0] 135)):Ct Tryz.prog 106 ([.slice (some ⟨b,0,none⟩) 1 1]:List Value).toArray G [] (fun _ μ' u=>μ'=[]∧u=.bool true):=by
 refine Ct.of Tryz.func106 rfl Tryz.ntmps106 rfl fun w0 hs0=>?_
 refine .seq (rq1 rfl rfl (aS rfl rfl (.nil (.code (.seq (rq4 rfl rfl (mV rfl rfl (kv rfl .no Fx.go159 (Evc rfl (Evc rfl Evn)) (fun _=>contN_ok b _ hb) ?_))))))))
 refine nt rfl .no (.u rfl) (aS rfl rfl (.nil (.code (.ret (We.fin0 Tryz.results106 (.tmp rfl .nil) ?_)))))
 exact ⟨rfl,rfl⟩
theorem coll0_ok (bk:Nat) (G:PM) (hbk:PB G bk (cl [.slice none 0 0] 142)):Ct Tryz.prog 200 ([.func (.func 202) #[] #[.pointer (some ⟨bk,0,none⟩)]]:List Value).toArray G [] (fun _ μ' u=>μ'=[]∧u=.slice none 0 0):=by
 refine Ct.of Tryz.func200 rfl Tryz.ntmps200 rfl fun w0 hs0=>?_
 refine .seq (rq1 rfl rfl (aS rfl rfl (.nil (.code (.seq (rq3 rfl rfl (mV rfl rfl (kv rfl .no Fx.go245 (Evc rfl (Evc rfl Evn)) (fun _=>appU_ok bk _ hbk) ?_))))))))
 refine aS rfl rfl (.nil (.code (.ret (We.fin0 Tryz.results200 (.tmp rfl .nil) ?_))))
 exact ⟨rfl,rfl⟩
theorem sorted0_ok (bk:Nat) (G:PM) (hbk:PB G bk (cl [.slice none 0 0] 142)):Ct Tryz.prog 161 ([.func (.func 202) #[] #[.pointer (some ⟨bk,0,none⟩)]]:List Value).toArray G [] (fun _ μ' u=>μ'=[]∧u=.slice none 0 0):=by
 refine Ct.of Tryz.func161 rfl Tryz.ntmps161 rfl fun w0 hs0=>?_
 refine .seq (rq1 rfl rfl (aS rfl rfl (.nil (.code (.seq (rq3 rfl rfl (mV rfl rfl (kv rfl .no Fx.go200 (Evc rfl Evn) (fun _=>coll0_ok bk _ hbk) ?_))))))))
 refine aS rfl rfl (.nil (.code (.seq (rq2 rfl rfl (mV rfl rfl (kv rfl .no Fx.go201 (Evc rfl Evn) (fun _=>sort0_ok _) ?_))))))
 refine .nil (.code (.seq (rq2 rfl rfl (mV rfl rfl (aS rfl rfl (.nil (.code (.ret (We.fin0 Tryz.results161 (.tmp rfl .nil) ?_)))))))))
 exact ⟨rfl,rfl⟩
theorem keep0_ok (G:PM):Ct Tryz.prog 109 ([.slice none 0 0,.slice none 0 0,.bool false]:List Value).toArray G [] (fun _ μ' u=>μ'=[]∧u=.slice none 0 0):=by
 refine Ct.of Tryz.func109 rfl Tryz.ntmps109 rfl fun w0 hs0=>?_
 refine .seq (rq2 rfl rfl ?_)
 refine bx rfl (.u rfl) rfl ?_; intro b3
 refine aS rfl rfl (.nil (.code (.seq (.seq (rq4 rfl rfl (ld rfl .no Fx.ag135 (.u rfl) (fun _=>Rd.own .here (by first|exact wap_f rfl|rfl)) ?_))))))
 refine Go.Tan.b1 rfl Fx.se137 Fx.zv135 (.u rfl) rfl rfl (by decide) ?_; intro b15
 refine kp rfl .no Fx.go106 (Evc rfl Evn) (Gp.add .here Gp.nil) (fun _ hle hq=>mrises0_ok b15 _ ⟨PM.add_same _ _ _⟩) ?_
 refine nt rfl .no (.u rfl) (.nil (.code (.cond rfl (fun c1=>?_) (fun c1=>?_))))
 ·have c1k:=c1
  cases c1
 have c1k:=c1
 try simp only [qcA,qcB] at c1
 refine .skip (.code (.seq (rq4 rfl rfl (mV rfl rfl (kc rfl Fx.go162 (Evc rfl Evn) (vals_ok _) ?_)))))
 rintro _ G19 μ19 hG19 ⟨b19,rfl,rfl⟩
 refine kp rfl .no Fx.go161 (Evc rfl Evn) (Gp.add .here Gp.nil) (fun _ hle hq=>sorted0_ok b19 _ ⟨PM.add_same _ _ _⟩) ?_
 refine aS rfl rfl (.nil (.code (.seq (rq1 rfl rfl (aS rfl rfl (.nil (.code (.seq (.block ?_)))))))))
 refine Wk.lop (α:=Nat) (fun k=>[(8,true,.slice none 0 0)]) (fun k=>[.blk b3 (cl [.slice none 0 0] 135)])
  (fun k Gl=>True) (fun k=>0) 0 [(2,true,_),(3,true,_),(7,true,_)] [_,_]
  (esD rfl (esD rfl (esD rfl (esD rfl eZ))))
  (mS tk2 rfl (mS .here rfl (mS .here rfl mN))) ?_ ?_
 ·trivial
 intro k N0 Gl0 hN0 hGl0 hF0
 try dsimp only at hF0 hN0 ⊢
 refine .seq (.seq (rq3 rfl rfl (ld rfl .no Fx.ag135 (.u rfl) (fun _=>Rd.own .here (by first|exact wap_f rfl|rfl)) ?_)))
 refine ln rfl .no Fx.sn135 (.u rfl) (cp rfl .no (.u rfl) (.u rfl) rfl (.nil (.code (.cond rfl (fun c2=>?_) (fun c2=>?_)))))
 ·have c2k:=c2
  cases c2
 have c2k:=c2
 try simp only [qcA,qcB] at c2
 refine .exit (.xcode (.xlp (.xblk (.code (.seq (rq2 rfl rfl (mV rfl rfl (aS rfl rfl (.nil (.code (.ret (We.fin0 Tryz.results109 (.tmp rfl .nil) ?_))))))))))))
 exact ⟨rfl,rfl⟩
theorem skeys0_ok (f:Value) (G:PM):Ct Tryz.prog 167 ([.slice none 0 0,f]:List Value).toArray G [] (fun _ μ' u=>μ'=[]∧u=.tuple #[]):=by
 refine Ct.of Tryz.func167 rfl Tryz.ntmps167 rfl fun w0 hs0=>?_
 refine .block ?_
 refine Wk.lop (α:=Nat) (fun k=>[(0,true,.slice none 0 0)]) (fun _=>[])
  (fun k Gl=>True) (fun k=>0) 0 [(1,true,_)] []
  (esD rfl (esD rfl eZ))
  mN ?_ ?_
 ·trivial
 intro k N0 Gl0 hN0 hGl0 hF0
 try dsimp only at hF0 hN0 ⊢
 refine .seq (.seq (rq3 rfl rfl (mV rfl rfl (ln rfl .no Fx.sn135 (.u rfl) (cp rfl .no (.u rfl) (.u rfl) rfl (.nil (.code (.cond rfl (fun c1=>?_) (fun c1=>?_)))))))))
 ·have c1k:=c1
  cases c1
 have c1k:=c1
 try simp only [qcA,qcB] at c1
 refine .exit (.xcode (.xlp (.xblk (.nil (We.fin0 Tryz.results167 .nil ?_)))))
 exact ⟨rfl,rfl⟩
theorem split0_ok (n:Int) (G:PM):Ct Tryz.prog 112 ([.slice none 0 0,.int .i64 n]:List Value).toArray G [] (fun _ μ' u=>μ'=[]∧u=.slice none 0 0):=by
 refine Ct.of Tryz.func112 rfl Tryz.ntmps112 rfl fun w0 hs0=>?_
 refine .seq (rq2 rfl rfl ?_)
 refine bx rfl (.u rfl) rfl ?_; intro b3
 refine aS rfl rfl (.nil (.code (.seq (.seq (rq3 rfl rfl (mV rfl rfl (kv rfl .no FxGrX.go158 (Evc rfl Evn) (fun _=>rises_ok ⟨none,0⟩ [] _ SlR.nul (by decide)) ?_)))))))
 refine nt rfl .no (.u rfl) (.nil (.code (.cond rfl (fun c1=>?_) (fun c1=>?_))))
 ·have c1k:=c1
  rw [rises_nil] at c1; cases c1
 have c1k:=c1
 try simp only [qcA,qcB] at c1
 refine .skip (.code (.seq (rq1 rfl rfl ?_)))
 refine al rfl Fx.zr137 ?_; intro b5
 refine .nil (.code (.seq (rq2 rfl rfl ?_)))
 refine al rfl Fx.zr3 ?_; intro b6
 refine s1 rfl (.u rfl) (.u rfl) rfl Fx.sz3 .here (by first|decide|(simp only [wa_len,ba_len,qlA]; omega)) (rfl) ?_
 refine .nil (.code (.seq (rq3 rfl rfl (mV rfl rfl (mf (vf:=#[]) (vc:=[Value.pointer (some ⟨b5,0,none⟩),Value.pointer (some ⟨b6,0,none⟩),Value.pointer (some ⟨b3,0,none⟩)].toArray) rfl .no (fun a ha _=>by simp) (fun a ha _=>by simp [(Ev.u (c:=true) rfl:Ev _ true (.tmp 5) _).eval ha rfl,(Ev.u (c:=true) rfl:Ev _ true (.tmp 6) _).eval ha rfl,(Ev.u (c:=true) rfl:Ev _ true (.tmp 3) _).eval ha rfl]) ?_)))))
 refine kv rfl .no Fx.go167 (Evc rfl (Evc rfl Evn)) (fun _=>skeys0_ok _ _) ?_
 refine .nil (.code (.seq (rq2 rfl rfl (ld rfl .no Fx.ag137 (.u rfl) (fun _=>Rd.own tk1 (by first|exact wap_f rfl|rfl)) ?_))))
 refine aS rfl rfl (.nil (.code (.ret (We.fin0 Tryz.results112 (.tmp rfl .nil) ?_))))
 exact ⟨rfl,rfl⟩
theorem tables0_ok (y:Value) (n:Int) (G:PM):Ct Tryz.prog 111 ([y,.int .i64 n,.slice none 0 0]:List Value).toArray G [] (fun _ μ' u=>μ'=[]∧u=.slice none 0 0):=by
 refine Ct.of Tryz.func111 rfl Tryz.ntmps111 rfl fun w0 hs0=>?_
 refine .seq (rq1 rfl rfl (aS rfl rfl (.nil (.code (.seq (rq1 rfl rfl (aS rfl rfl (.nil (.code (.seq (.seq (rq3 rfl rfl (mV rfl rfl (ln rfl .no Fx.sn137 (.u rfl) (mV rfl rfl (.nil (.code (.block ?_))))))))))))))))))
 refine Wk.lop (α:=Nat) (fun k=>[(7,true,.slice none 0 0),(16,true,.int .i64 (k:Int))]) (fun _=>[])
  (fun k Gl=>(k=0)) (fun k=>0) 0 [(0,true,_),(1,true,_),(14,true,_),(15,true,_)] []
  (esD rfl (esC rfl (by first|rfl|exact evi (by omega)) (esD rfl (esD rfl (esD rfl (esD rfl eZ))))))
  mN ?_ ?_
 ·(try dsimp only)<;>(first|omega|rfl|assumption|(simp; done))
 intro k N0 Gl0 hN0 hGl0 hF0
 try dsimp only at hF0 hN0 ⊢
 have hk:=hF0
 refine .seq (rq1 rfl rfl (cp rfl .no (.u rfl) (.u rfl) rfl (.nil (.code (.seq (.cond rfl (fun c1=>?_) (fun c1=>?_)))))))
 ·have c1k:=c1
  subst hk; cases c1
 have c1k:=c1
 try simp only [qcA,qcB] at c1
 refine .exit (.xcode (.xlp (.xblk (.code (.seq (rq2 rfl rfl (mV rfl rfl (aS rfl rfl (.nil (.code (.ret (We.fin0 Tryz.results111 (.tmp rfl .nil) ?_))))))))))))
 exact ⟨rfl,rfl⟩
end Go.Proofs.YtggleibgadkodaaGreatDoor
