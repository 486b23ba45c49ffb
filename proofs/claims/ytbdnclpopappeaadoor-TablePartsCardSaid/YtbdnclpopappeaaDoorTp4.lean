/- Lemmas and contracts of functions, joined. -/
import Derived.Test.YtbdnclpopappeaaDoorTp3
set_option linter.unusedSimpArgs false
set_option linter.unusedVariables false
set_option linter.unusedSectionVars false
namespace Go.Proofs.YtbdnclpopappeaaDoor
open Go.Tan Go.RowKit
theorem take_eq_step {A B:List Y} {k:Nat} (he:A.take k=B.take k) (h1:k<A.length) (h2:k<B.length) (h:A.getD k 0=B.getD k 0):A.take (k+1)=B.take (k+1):=by
 rw [List.take_succ_eq_append_getElem h1,List.take_succ_eq_append_getElem h2,he]
 have e1:A.getD k 0=A[k]:=by simp [h1]
 have e2:B.getD k 0=B[k]:=by simp [h2]
 rw [← e1,←e2,h]
theorem byte_ne {a b:Y} {A B:List Y} {k:Nat} (ha:A.getD k 0=a) (hb:B.getD k 0=b) (h:¬ (a.toNat:Int)=b.toNat):¬ A=B:=fun e=>h (by rw [← ha,←hb,e])
theorem byte_same {a b:Y} (h:(a.toNat:Int)=b.toNat):a=b:=BitVec.eq_of_toNat_eq (by omega)
theorem sEqual_ok (A B:List Y) (ha hb:Sh) (G:PM) (hsa:SlR G 1 encY ha A) (hsb:SlR G 1 encY hb B) (hl:A.length≤100000000000000):Ct Tryd.prog 78 ([ha.val A.length,hb.val B.length]:List Value).toArray G [] (fun _ μ' u=>μ'=[]∧u=.bool (decide (A=B))):=by
 refine Ct.of Tryd.func78 rfl Tryd.ntmps78 rfl fun w0 hs0=>?_
 refine .seq (rq1 rfl rfl (aS rfl rfl (.nil (.code (.seq (.seq (rq5 rfl rfl (mV rfl rfl (ln rfl .no Fx.sn36 (.u rfl) (mV rfl rfl (ln rfl .no Fx.sn36 (.u rfl) (cp rfl .no (.u rfl) (.u rfl) rfl (.nil (.code (.cond rfl (fun c1=>?_) (fun c1=>?_))))))))))))))))
 ·have c1k:=c1
  try simp only [qcA,qcB] at c1
  refine .seq (rq1 rfl rfl (aS rfl rfl (.nil (.code (.ret (We.fin0 Tryd.results78 (.tmp rfl .nil) ?_))))))
  exact ⟨rfl,congrArg Value.bool (decide_eq_false (fun e=>c1 (by rw [e]))).symm⟩
 have c1k:=c1
 try simp only [qcA,qcB] at c1
 refine .skip (.code (.seq (.seq (rq3 rfl rfl (mV rfl rfl (ln rfl .no Fx.sn36 (.u rfl) (mV rfl rfl (.nil (.code (.block ?_))))))))))
 refine Wk.lop (α:=Nat) (fun k=>[(13,true,.int .i64 (k:Int))]) (fun _=>[])
  (fun k Gl=>(k≤A.length)∧(A.take k=B.take k)) (fun k=>A.length-k) 0 [(0,true,_),(1,true,_),(12,true,_)] []
  (esC rfl (by first|rfl|exact evi (by omega)) (esD rfl (esD rfl (esD rfl eZ))))
  mN ?_ ?_
 ·refine ⟨?_,?_⟩
  ·(try dsimp only)<;>(first|omega|rfl|assumption|(simp; done))
  (try dsimp only)<;>(rfl)
 intro k N0 Gl0 hN0 hGl0 hF0
 try dsimp only at hF0 hN0 ⊢
 obtain ⟨hk,he⟩:=hF0
 have hsa:=hsa.mono hGl0
 have hsb:=hsb.mono hGl0
 refine .seq (rq1 rfl rfl (cp rfl .no (.u rfl) (.u rfl) rfl (.nil (.code (.seq (.cond rfl (fun c2=>?_) (fun c2=>?_)))))))
 ·have c2k:=c2
  try simp only [qcA,qcB] at c2
  refine .skip (.code (.seq (.block (.seq (rq2 rfl rfl (mV rfl rfl (aS rfl rfl (.nil (.code (.seq (Wk.draw (mc:=⟨false,false⟩) [0,1,2,3,4,5,6,7,8] Fx.mix (by kernel_rfl) ?_)))))))))))
  refine mV rfl rfl (mV rfl rfl (ih rfl .no Fx.se36 (.u rfl) (.u rfl) (fun _=>by omega) (fun _=>by omega) (fun _=>hsa.nn (k:=k) (by omega)) ?_))
  refine ld rfl .no Fx.ag5 (.u rfl) (fun _=>(hsa.yat (k) (by omega) (by omega)).rd) ?_
  refine mV rfl rfl (mV rfl rfl (ih rfl .no Fx.se36 (.u rfl) (.u rfl) (fun _=>by omega) (fun _=>by omega) (fun _=>hsb.nn (k:=k) (by omega)) ?_))
  refine ld rfl .no Fx.ag5 (.u rfl) (fun _=>(hsb.yat (k) (by omega) (by omega)).rd) ?_
  refine cp rfl .no (.u rfl) (.u rfl) rfl (.nil (.code (.cond rfl (fun c3=>?_) (fun c3=>?_))))
  ·have c3k:=c3
   try simp only [qcA,qcB] at c3
   refine .seq (rq1 rfl rfl (aS rfl rfl (.nil (.code (.ret (We.fin0 Tryd.results78 (.tmp rfl .nil) ?_))))))
   exact ⟨rfl,congrArg Value.bool (decide_eq_false (byte_ne rfl rfl c3)).symm⟩
  have c3k:=c3
  try simp only [qcA,qcB] at c3
  refine .skip (.blk (.code (rq2 rfl rfl (arn (((k+1):Nat):Int) rfl .no (.u rfl) (.u rfl) rfl (fun _=>by omega) (fun _=>wrap_i64 (by omega) (by omega)) ?_))))
  refine mV rfl rfl (.nil (We.lpo (k+1) ?_ ?_ ?_ ?_ ?_))
  ·exact (esC rfl (by first|rfl|exact evi (by omega)) (esD rfl (esD rfl (esD rfl eZ))))
  ·exact mN
  ·first|omega|(dsimp only; omega)
  ·exact hGl0
  refine ⟨?_,?_⟩
  ·(try dsimp only)<;>(first|omega|rfl|assumption|(simp; done))
  (try dsimp only)<;>(exact take_eq_step he (by omega) (by omega) (byte_same c3))
 have c2k:=c2
 try simp only [qcA,qcB] at c2
 refine .exit (.xcode (.xlp (.xblk (.code (.seq (rq1 rfl rfl (aS rfl rfl (.nil (.code (.ret (We.fin0 Tryd.results78 (.tmp rfl .nil) ?_)))))))))))
 exact ⟨rfl,congrArg Value.bool (decide_eq_true (by have h1:=he; rw [show k=A.length by omega,List.take_length,List.take_of_length_le (by omega)] at h1; exact h1)).symm⟩
namespace Fx
theorem go69:goFn Tryd.prog 69=true:=by kernel_rfl
theorem fo109_3:fOff Tryd.prog 109 3=some 3:=by kernel_rfl
theorem go70:goFn Tryd.prog 70=true:=by kernel_rfl
theorem fo109_1:fOff Tryd.prog 109 1=some 1:=by kernel_rfl
theorem fo109_0:fOff Tryd.prog 109 0=some 0:=by kernel_rfl
theorem fo109_2:fOff Tryd.prog 109 2=some 2:=by kernel_rfl
theorem sz9:szT Tryd.prog 9=some 1:=by kernel_rfl
theorem go48:goFn Tryd.prog 48=true:=by kernel_rfl
theorem go22:goFn Tryd.prog 22=true:=by kernel_rfl
theorem go21:goFn Tryd.prog 21=true:=by kernel_rfl
theorem bp109_0:bPl Tryd.prog 109 [0]=some ([.slice none 0 0,.slice none 0 0,.int .i64 0,.string ByteArray.empty],[(0,1)]):=by kernel_rfl
theorem zq109:zrL Tryd.prog 109=some ([.slice none 0 0,.slice none 0 0,.int .i64 0,.string ByteArray.empty]):=by kernel_rfl
theorem sz109:szT Tryd.prog 109=some 4:=by kernel_rfl
theorem go49:goFn Tryd.prog 49=true:=by kernel_rfl
end Fx
theorem eLay_ok (e:Ent) (G:PM) (hu:e.user.size≤10000000):Ct Tryd.prog 69 ([e.val]:List Value).toArray G [] (fun _ μ' u=>μ'=[]∧u=.string (bstr (keyE e))):=by
 refine Ct.of Tryd.func69 rfl Tryd.ntmps69 rfl fun w0 hs0=>?_
 refine .seq (rq2 rfl rfl ?_)
 refine bx rfl (.u rfl) rfl ?_; intro b1
 refine aS rfl rfl (.nil (.code (.seq (Wk.rg [0,1,2,3,4,5,6,7,8,9,10,11,12] rfl rfl (fz rfl .no Fx.fo43_0 (.u rfl) (ld rfl .no Fx.ag9 (.u rfl) (fun _=>Rd.own .here (by first|exact wap_f rfl|rfl)) ?_))))))
 refine cvS rfl rfl Fx.sb9_36 (.u rfl) ?_; intro G5 h5 hG5 hs5
 refine fz rfl .no Fx.fo43_1 (.u rfl) (ld rfl .no Fx.ag24 (.u rfl) (fun _=>Rd.own .here (by first|exact wap_f rfl|rfl)) ?_)
 refine lw (k:=.u64) rfl .no rfl (.u rfl) (.u rfl) (fun _=>by decide) ?_
 refine fz rfl .no Fx.fo43_2 (.u rfl) (ld rfl .no Fx.ag5 (.u rfl) (fun _=>Rd.own .here (by first|exact wap_f rfl|rfl)) ?_)
 refine cu (k:=.u8) rfl .no rfl Fx.cv5_24 (.u rfl) ?_
 refine bw (k:=.u64) rfl .no rfl (.u rfl) (.u rfl) rfl (kc rfl Fx.go32 (Evc rfl (Evc rfl (Evc rfl Evn))) (Ct.frzB (Fix_ok _ h5 _ 8 _ hs5 (by rw [yb_len]; omega) (by decide))) ?_)
 rintro _ G13 μ13 hG13 ⟨h13,L13,eL13,rfl,rfl,hs13⟩
 refine sB rfl .no Fx.bs36_9 (.u rfl) (fun _=>hs13.sc) ?_
 refine aS rfl rfl (.nil (.code (.ret (We.fin0 Tryd.results69 (.tmp rfl .nil) ?_))))
 exact ⟨rfl,by rw [eL13]; rfl⟩
theorem alike_ok (a b:ByteArray) (G:PM) (ha:a.size≤100000000):Ct Tryd.prog 70 ([.string a,.string b]:List Value).toArray G [] (fun _ μ' u=>μ'=[]∧u=.int .i64 (comL (yb a) (yb b):Int)):=by
 refine Ct.of Tryd.func70 rfl Tryd.ntmps70 rfl fun w0 hs0=>?_
 refine .seq (rq1 rfl rfl (aS rfl rfl (.nil (.code (.seq (rq6 rfl rfl (mV rfl rfl (ls rfl .no Fx.st9 (.u rfl) (mV rfl rfl (ls rfl .no Fx.st9 (.u rfl) (mIn (a.size) (b.size) rfl .no (.u rfl) (.u rfl) (fun _=>by omega) (fun _=>by omega) ?_)))))))))))
 refine aS rfl rfl (.nil (.code (.seq (.seq (rq2 rfl rfl (mV rfl rfl (mV rfl rfl (.nil (.code (.block ?_))))))))))
 refine Wk.lop (α:=Nat) (fun k=>[(13,true,.int .i64 (k:Int))]) (fun _=>[])
  (fun k Gl=>(k≤a.size∧k≤b.size)∧(∀ j,j<k→(yb a).getD j 0=(yb b).getD j 0)) (fun k=>a.size-k) 0 [(0,true,_),(1,true,_),(5,true,_),(12,true,_)] []
  (esC rfl (by first|rfl|exact evi (by omega)) (esD rfl (esD rfl (esD rfl (esD rfl eZ)))))
  mN ?_ ?_
 ·refine ⟨?_,?_⟩
  ·(try dsimp only)<;>(first|omega|rfl|assumption|(simp; done))
  (try dsimp only)<;>(exact fun j h=>absurd h (Nat.not_lt_zero _))
 intro k N0 Gl0 hN0 hGl0 hF0
 try dsimp only at hF0 hN0 ⊢
 obtain ⟨hk,hj⟩:=hF0
 refine .seq (rq1 rfl rfl (cp rfl .no (.u rfl) (.u rfl) rfl (.nil (.code (.seq (.cond rfl (fun c1=>?_) (fun c1=>?_)))))))
 ·have c1k:=c1
  try simp only [qcA,qcB] at c1
  refine .skip (.code (.seq (.block (.seq (rq2 rfl rfl (mV rfl rfl (aS rfl rfl (.nil (.code (.seq (Wk.draw (mc:=⟨false,false⟩) [0,1,2,3,4,5,6] Fx.mix (by kernel_rfl) ?_)))))))))))
  refine mV rfl rfl (mV rfl rfl (sI (k) rfl .no Fx.st9 (.u rfl) (.u rfl) (fun _=>by omega) (fun _=>by first|omega|(simp only [Bool.and_eq_true,decide_eq_true_eq] at hc; omega)) ?_))
  refine mV rfl rfl (mV rfl rfl (sI (k) rfl .no Fx.st9 (.u rfl) (.u rfl) (fun _=>by omega) (fun _=>by first|omega|(simp only [Bool.and_eq_true,decide_eq_true_eq] at hc; omega)) ?_))
  refine cp rfl .no (.u rfl) (.u rfl) rfl (.nil (.code (.cond rfl (fun c2=>?_) (fun c2=>?_))))
  ·have c2k:=c2
   try simp only [qcA,qcB] at c2
   refine .seq (rq2 rfl rfl (mV rfl rfl (aS rfl rfl (.nil (.code (.ret (We.fin0 Tryd.results70 (.tmp rfl .nil) ?_)))))))
   exact ⟨rfl,al_hit (by omega) hj c2⟩
  have c2k:=c2
  try simp only [qcA,qcB] at c2
  refine .skip (.blk (.code (rq2 rfl rfl (arn (((k+1):Nat):Int) rfl .no (.u rfl) (.u rfl) rfl (fun _=>by omega) (fun _=>wrap_i64 (by omega) (by omega)) ?_))))
  refine mV rfl rfl (.nil (We.lpo (k+1) ?_ ?_ ?_ ?_ ?_))
  ·exact (esC rfl (by first|rfl|exact evi (by omega)) (esD rfl (esD rfl (esD rfl (esD rfl eZ)))))
  ·exact mN
  ·first|omega|(dsimp only; omega)
  ·exact hGl0
  refine ⟨?_,?_⟩
  ·(try dsimp only)<;>(first|omega|rfl|assumption|(simp; done))
  (try dsimp only)<;>(exact bt_snoc hj c2)
 have c1k:=c1
 try simp only [qcA,qcB] at c1
 refine .exit (.xcode (.xlp (.xblk (.code (.seq (rq2 rfl rfl (mV rfl rfl (aS rfl rfl (.nil (.code (.ret (We.fin0 Tryd.results70 (.tmp rfl .nil) ?_))))))))))))
 exact ⟨rfl,by rw [al_end hk (by omega) hj]; rfl⟩
theorem add_ok (O P:List Y) (vo:Value) (sp:Sh) (rs:Nat) (last:ByteArray) (bb:Nat) (e:Ent) (anew:Bool) (G:PM) (hP:SlR G 1 encY sp P) (hlO:O.length≤100000000) (hlP:P.length≤1000000000) (hrs:rs≤1000000000) (hll:last.size≤10000000) (hu:e.user.size≤10000000) (hv:e.value.size≤10000000):Ct Tryd.prog 49 ([.pointer (some ⟨bb,0,none⟩),e.val,.bool anew]:List Value).toArray G [.blk bb (cl [vo,sp.val P.length,.int .i64 (rs:Int),.string last] 109),rB vo 5 O] (fun G' μ' u=>∃ v' O' sp' P',O'=O++entB (yb last) anew e∧P'=(if anew=true then P++fixL (BitVec.ofInt 64 (O.length:Int)) 4 else P)∧μ'=[.blk bb (cl [v',sp'.val P'.length,.int .i64 ((if anew=true then rs+1 else rs:Nat):Int),.string (bstr (keyE e))] 109),rB v' 5 O']∧u=.tuple #[]∧SlR G' 1 encY sp' P'):=by
 refine Ct.of Tryd.func49 rfl Tryd.ntmps49 rfl fun w0 hs0=>?_
 have hks:=key_sz e
 have hcl:=comL_le (yb last) (yb (bstr (keyE e)))
 rw [yb_len,yb_len] at hcl
 refine .seq (rq1 rfl rfl ?_)
 refine bx rfl (.u rfl) rfl ?_; intro b4
 refine .nil (.code (.seq (rq3 rfl rfl (lA rfl .no Fx.ag43 (.u rfl) (fun _=>RdN.own .here) (fun _=>(by first|rfl|exact Ent.len _)) ?_))))
 refine kv rfl .no Fx.go69 (Evc rfl Evn) (fun _=>eLay_ok e _ hu) ?_
 refine aS rfl rfl (.nil (.code (.seq (rq7 rfl rfl (mV rfl rfl (nc rfl .no (.u rfl) (fz rfl .no Fx.fo109_3 (.u rfl) (ld rfl .no Fx.ag9 (.u rfl) (fun _=>Rd.own tk1 (by first|exact wap_f rfl|rfl)) ?_))))))))
 refine mV rfl rfl (kv rfl .no Fx.go70 (Evc rfl (Evc rfl Evn)) (fun _=>alike_ok last (bstr (keyE e)) _ (by omega)) ?_)
 refine aS rfl rfl (.nil (.code (.seq (.seq (rq1 rfl rfl (mV rfl rfl (.nil (.code (.cond rfl (fun c1=>?_) (fun c1=>?_))))))))))
 ·have c1k:=c1
  try simp only [qcA,qcB] at c1
  refine .seq (rq1 rfl rfl (aS rfl rfl (.nil (.code (.seq (Wk.draw (mc:=⟨false,false⟩) [0,1,2,3,4,5,6,7,8,9,10,11,12,13,14] Fx.mix (by kernel_rfl) ?_))))))
  refine mV rfl rfl (mV rfl rfl (nc rfl .no (.u rfl) (fz rfl .no Fx.fo109_1 (.u rfl) (ld rfl .no Fx.ag36 (.u rfl) (fun _=>Rd.own tk1 (by first|exact wap_f rfl|rfl)) ?_))))
  refine mV rfl rfl (nc rfl .no (.u rfl) (fz rfl .no Fx.fo109_0 (.u rfl) (ld rfl .no Fx.ag36 (.u rfl) (fun _=>Rd.own tk1 (by first|exact wap_f rfl|rfl)) ?_)))
  refine lr rfl .no Fx.sn36 (.u rfl) tk2 ?_
  refine ci rfl .no rfl Fx.cv3_24 (.u rfl) ?_
  refine kc rfl Fx.go32 (Evc rfl (Evc rfl (Evc rfl Evn))) (Ct.frzB (Fix_ok P sp _ 4 _ hP (by omega) (by decide))) ?_
  rintro _ G29 μ29 hG29 ⟨h29,L29,eL29,rfl,rfl,hs29⟩
  have hP:=hP.mono hG29
  refine nc rfl .no (.u rfl) (fz rfl .no Fx.fo109_1 (.u rfl) (s1 rfl (.u rfl) (.u rfl) rfl Fx.sz36 tk1 (by first|decide|(simp only [wa_len,ba_len,qlA]; omega)) (rfl) ?_))
  refine .nil (.code (rq8 rfl rfl (mV rfl rfl (nc rfl .no (.u rfl) (fz rfl .no Fx.fo109_2 (.u rfl) (ld rfl .no Fx.ag3 (.u rfl) (fun _=>Rd.own .here (by first|exact wap_f rfl|rfl)) ?_))))))
  refine arn (((rs+1):Nat):Int) rfl .no (.u rfl) (.u rfl) rfl (fun _=>by omega) (fun _=>wrap_i64 (by omega) (by omega)) ?_
  refine nc rfl .no (.u rfl) (fz rfl .no Fx.fo109_2 (.u rfl) (s1 rfl (.u rfl) (.u rfl) rfl Fx.sz3 .here (show 2<4 by decide) (rfl) ?_))
  refine .nil (.code (.seq (Wk.draw (mc:=⟨false,false⟩) [0,1,3,4,5,6,7,9,10,11,12,2,8,13,14] Fx.mix (by kernel_rfl) ?_)))
  refine mV rfl rfl (ci rfl .no rfl Fx.cv3_24 (.u rfl) ?_)
  refine mV rfl rfl (ls rfl .no Fx.st9 (.u rfl) (mV rfl rfl (ar rfl .no (.u rfl) (.u rfl) rfl (fun _=>wrap_i64 (by omega) (by omega)) ?_)))
  refine ci rfl .no rfl Fx.cv3_24 (.u rfl) ?_
  refine fz rfl .no Fx.fo43_3 (.u rfl) (ld rfl .no Fx.ag9 (.u rfl) (fun _=>Rd.own tk1 (by first|exact wap_f rfl|rfl)) ?_)
  refine ls rfl .no Fx.st9 (.u rfl) (ci rfl .no rfl Fx.cv3_24 (.u rfl) ?_)
  refine kc rfl Fx.go31 (Evc rfl (Evc rfl Evn)) (Ct.frzB (Num_ok [] ⟨none,0⟩ _ SlR.nul _ (Nat.zero_le _))) ?_
  rintro _ G41 μ41 hG41 ⟨h41,L41,eL41,rfl,rfl,hs41⟩
  have hP:=hP.mono hG41
  have hs29:=hs29.mono hG41
  have lL41:=nm0 eL41
  refine kc rfl Fx.go31 (Evc rfl (Evc rfl Evn)) (Ct.frzB (Num_ok L41 h41 _ hs41 _ (by omega))) ?_
  rintro _ G47 μ47 hG47 ⟨h47,L47,eL47,rfl,rfl,hs47⟩
  have hP:=hP.mono hG47
  have hs29:=hs29.mono hG47
  have hs41:=hs41.mono hG47
  have lL47:=nmx eL47
  refine kc rfl Fx.go31 (Evc rfl (Evc rfl Evn)) (Ct.frzB (Num_ok L47 h47 _ hs47 _ (by omega))) ?_
  rintro _ G52 μ52 hG52 ⟨h52,L52,eL52,rfl,rfl,hs52⟩
  have hP:=hP.mono hG52
  have hs29:=hs29.mono hG52
  have hs41:=hs41.mono hG52
  have hs47:=hs47.mono hG52
  refine aS rfl rfl (.nil (.code (.seq (Wk.mixp ⟨false,false⟩ Fx.mix (by kernel_rfl) ?_))))
  refine Wp.one 0 (by kernel_rfl) ?_
  refine mV rfl rfl (.nil (Wp.one 1 (by kernel_rfl) ?_))
  refine mV rfl rfl (.nil (Wp.one 2 (by kernel_rfl) ?_))
  refine nc rfl .no (.u rfl) (.nil (Wp.one 3 (by kernel_rfl) ?_))
  refine fz rfl .no Fx.fo109_0 (.u rfl) (.nil (Wp.one 4 (by kernel_rfl) ?_))
  refine ld rfl .no Fx.ag36 (.u rfl) (fun _=>Rd.own .here (by first|exact wap_f rfl|rfl)) ?_
  refine .nil (Wp.one 5 (by kernel_rfl) ?_)
  refine mV rfl rfl (.nil (Wp.one 7 (by kernel_rfl) ?_))
  refine mV rfl rfl (.nil (Wp.one 8 (by kernel_rfl) ?_))
  refine mV rfl rfl (.nil (Wp.one 9 (by kernel_rfl) ?_))
  refine sD (0) rfl .no Fx.st9 (.u rfl) (.u rfl) (fun _=>by omega) (fun _=>by omega) ?_
  refine .nil (Wp.one 11 (by kernel_rfl) ?_)
  refine fz rfl .no Fx.fo43_3 (.u rfl) (.nil (Wp.b2 6 12 (by kernel_rfl) ?_ ?_))
  ·have lL52:=nmx eL52
   refine apY rfl Fx.se36 Fx.zv5 (.u rfl) (.u rfl) tk2 hs52.sc (by (try simp only [qlA,yl_len]); omega) ?_
   intro v59 L59 ov59 eL59
   have lL59:L59.length=O.length+L52.length:=by rw [eL59,List.length_append]
   refine .nil (Wp.b2 10 12 (by kernel_rfl) ?_ ?_)
   ·refine apT rfl Fx.se36 Fx.st9 Fx.zv5 (.u rfl) (.u rfl) .here (by rw [bstr_len,List.length_drop,yb_len]; omega) ?_; intro v63 L63 ov63 eL63
    refine .nil (Wp.one 12 (by kernel_rfl) ?_)
    refine ld rfl .no Fx.ag9 (.u rfl) (fun _=>Rd.own tk2 (by first|exact wap_f rfl|rfl)) ?_
    refine .nil (Wp.b1 13 (by kernel_rfl) ?_)
    have lL63:L63.length≤L59.length+(bstr (keyE e)).size:=by rw [eL63,List.length_append,yb_len,bstr_len,List.length_drop,yb_len]; omega
    refine apT rfl Fx.se36 Fx.st9 Fx.zv5 (.u rfl) (.u rfl) .here (by (try simp only [List.length_append]); omega) ?_; intro v66 L66 ov66 eL66
    refine .nil (Wp.one 14 (by kernel_rfl) ?_)
    refine nc rfl .no (.u rfl) (.nil (Wp.one 15 (by kernel_rfl) ?_))
    refine fz rfl .no Fx.fo109_0 (.u rfl) (.nil (Wp.b1 16 (by kernel_rfl) ?_))
    refine s1v rfl (.u rfl) (.u rfl) .here Fx.sz36 tk1 (show 0<4 by decide) (rfl) ?_
    refine .nil (Wp.last (by kernel_rfl) ?_)
    refine .code (rq5 rfl rfl (mV rfl rfl (mV rfl rfl (nc rfl .no (.u rfl) (fz rfl .no Fx.fo109_3 (.u rfl) (s1 rfl (.u rfl) (.u rfl) rfl Fx.sz9 .here (show 3<4 by decide) (rfl) ?_))))))
    refine .nil (.nil (We.fin Tryd.results49 .nil (mS .here rfl (mS .here rfl mN)) ?_))
    subst c1
    exact ⟨_,L66,h29,L29,ad_fin (k:=0) hu hv com_new.symm eL41 eL47 eL52 eL59 eL63 eL66,by rw [if_pos rfl]; exact eL29,rfl,rfl,hs29⟩
   refine ld rfl .no Fx.ag9 (.u rfl) (fun _=>Rd.own tk2 (by first|exact wap_f rfl|rfl)) ?_
   refine .nil (Wp.b1 10 (by kernel_rfl) ?_)
   refine apT rfl Fx.se36 Fx.st9 Fx.zv5 (.u rfl) (.u rfl) .here (by rw [bstr_len,List.length_drop,yb_len]; omega) ?_; intro v63 L63 ov63 eL63
   refine .nil (Wp.b1 13 (by kernel_rfl) ?_)
   have lL63:L63.length≤L59.length+(bstr (keyE e)).size:=by rw [eL63,List.length_append,yb_len,bstr_len,List.length_drop,yb_len]; omega
   refine apT rfl Fx.se36 Fx.st9 Fx.zv5 (.u rfl) (.u rfl) .here (by (try simp only [List.length_append]); omega) ?_; intro v66 L66 ov66 eL66
   refine .nil (Wp.one 14 (by kernel_rfl) ?_)
   refine nc rfl .no (.u rfl) (.nil (Wp.one 15 (by kernel_rfl) ?_))
   refine fz rfl .no Fx.fo109_0 (.u rfl) (.nil (Wp.b1 16 (by kernel_rfl) ?_))
   refine s1v rfl (.u rfl) (.u rfl) .here Fx.sz36 tk1 (show 0<4 by decide) (rfl) ?_
   refine .nil (Wp.last (by kernel_rfl) ?_)
   refine .code (rq5 rfl rfl (mV rfl rfl (mV rfl rfl (nc rfl .no (.u rfl) (fz rfl .no Fx.fo109_3 (.u rfl) (s1 rfl (.u rfl) (.u rfl) rfl Fx.sz9 .here (show 3<4 by decide) (rfl) ?_))))))
   refine .nil (.nil (We.fin Tryd.results49 .nil (mS .here rfl (mS .here rfl mN)) ?_))
   subst c1
   exact ⟨_,L66,h29,L29,ad_fin (k:=0) hu hv com_new.symm eL41 eL47 eL52 eL59 eL63 eL66,by rw [if_pos rfl]; exact eL29,rfl,rfl,hs29⟩
  refine ld rfl .no Fx.ag9 (.u rfl) (fun _=>Rd.own tk1 (by first|exact wap_f rfl|rfl)) ?_
  refine .nil (Wp.b1 6 (by kernel_rfl) ?_)
  have lL52:=nmx eL52
  refine apY rfl Fx.se36 Fx.zv5 (.u rfl) (.u rfl) tk2 hs52.sc (by (try simp only [qlA,yl_len]); omega) ?_
  intro v59 L59 ov59 eL59
  have lL59:L59.length=O.length+L52.length:=by rw [eL59,List.length_append]
  refine .nil (Wp.b1 10 (by kernel_rfl) ?_)
  refine apT rfl Fx.se36 Fx.st9 Fx.zv5 (.u rfl) (.u rfl) .here (by rw [bstr_len,List.length_drop,yb_len]; omega) ?_; intro v63 L63 ov63 eL63
  refine .nil (Wp.b1 13 (by kernel_rfl) ?_)
  have lL63:L63.length≤L59.length+(bstr (keyE e)).size:=by rw [eL63,List.length_append,yb_len,bstr_len,List.length_drop,yb_len]; omega
  refine apT rfl Fx.se36 Fx.st9 Fx.zv5 (.u rfl) (.u rfl) .here (by (try simp only [List.length_append]); omega) ?_; intro v66 L66 ov66 eL66
  refine .nil (Wp.one 14 (by kernel_rfl) ?_)
  refine nc rfl .no (.u rfl) (.nil (Wp.one 15 (by kernel_rfl) ?_))
  refine fz rfl .no Fx.fo109_0 (.u rfl) (.nil (Wp.b1 16 (by kernel_rfl) ?_))
  refine s1v rfl (.u rfl) (.u rfl) .here Fx.sz36 tk1 (show 0<4 by decide) (rfl) ?_
  refine .nil (Wp.last (by kernel_rfl) ?_)
  refine .code (rq5 rfl rfl (mV rfl rfl (mV rfl rfl (nc rfl .no (.u rfl) (fz rfl .no Fx.fo109_3 (.u rfl) (s1 rfl (.u rfl) (.u rfl) rfl Fx.sz9 .here (show 3<4 by decide) (rfl) ?_))))))
  refine .nil (.nil (We.fin Tryd.results49 .nil (mS .here rfl (mS .here rfl mN)) ?_))
  subst c1
  exact ⟨_,L66,h29,L29,ad_fin (k:=0) hu hv com_new.symm eL41 eL47 eL52 eL59 eL63 eL66,by rw [if_pos rfl]; exact eL29,rfl,rfl,hs29⟩
 have c1k:=c1
 try simp only [qcA,qcB] at c1
 refine .skip (.code (.seq (Wk.draw (mc:=⟨false,false⟩) [0,1,3,4,5,6,7,9,10,11,12,2,8,13,14] Fx.mix (by kernel_rfl) ?_)))
 refine mV rfl rfl (ci rfl .no rfl Fx.cv3_24 (.u rfl) ?_)
 refine mV rfl rfl (ls rfl .no Fx.st9 (.u rfl) (mV rfl rfl (ar rfl .no (.u rfl) (.u rfl) rfl (fun _=>wrap_i64 (by omega) (by omega)) ?_)))
 refine ci rfl .no rfl Fx.cv3_24 (.u rfl) ?_
 refine fz rfl .no Fx.fo43_3 (.u rfl) (ld rfl .no Fx.ag9 (.u rfl) (fun _=>Rd.own .here (by first|exact wap_f rfl|rfl)) ?_)
 refine ls rfl .no Fx.st9 (.u rfl) (ci rfl .no rfl Fx.cv3_24 (.u rfl) ?_)
 refine kc rfl Fx.go31 (Evc rfl (Evc rfl Evn)) (Ct.frzB (Num_ok [] ⟨none,0⟩ _ SlR.nul _ (Nat.zero_le _))) ?_
 rintro _ G41 μ41 hG41 ⟨h41,L41,eL41,rfl,rfl,hs41⟩
 have hP:=hP.mono hG41
 have lL41:=nm0 eL41
 refine kc rfl Fx.go31 (Evc rfl (Evc rfl Evn)) (Ct.frzB (Num_ok L41 h41 _ hs41 _ (by omega))) ?_
 rintro _ G47 μ47 hG47 ⟨h47,L47,eL47,rfl,rfl,hs47⟩
 have hP:=hP.mono hG47
 have lL47:=nmx eL47
 refine kc rfl Fx.go31 (Evc rfl (Evc rfl Evn)) (Ct.frzB (Num_ok L47 h47 _ hs47 _ (by omega))) ?_
 rintro _ G52 μ52 hG52 ⟨h52,L52,eL52,rfl,rfl,hs52⟩
 have hP:=hP.mono hG52
 refine aS rfl rfl (.nil (.code (.seq (Wk.mixp ⟨false,false⟩ Fx.mix (by kernel_rfl) ?_))))
 refine Wp.one 0 (by kernel_rfl) ?_
 refine mV rfl rfl (.nil (Wp.one 1 (by kernel_rfl) ?_))
 refine mV rfl rfl (.nil (Wp.one 2 (by kernel_rfl) ?_))
 refine nc rfl .no (.u rfl) (.nil (Wp.one 3 (by kernel_rfl) ?_))
 refine fz rfl .no Fx.fo109_0 (.u rfl) (.nil (Wp.one 4 (by kernel_rfl) ?_))
 refine ld rfl .no Fx.ag36 (.u rfl) (fun _=>Rd.own tk1 (by first|exact wap_f rfl|rfl)) ?_
 refine .nil (Wp.one 5 (by kernel_rfl) ?_)
 refine mV rfl rfl (.nil (Wp.one 7 (by kernel_rfl) ?_))
 refine mV rfl rfl (.nil (Wp.one 8 (by kernel_rfl) ?_))
 refine mV rfl rfl (.nil (Wp.one 9 (by kernel_rfl) ?_))
 refine sD ((comL (yb last) (yb (bstr (keyE e))))) rfl .no Fx.st9 (.u rfl) (.u rfl) (fun _=>by omega) (fun _=>by omega) ?_
 refine .nil (Wp.one 11 (by kernel_rfl) ?_)
 refine fz rfl .no Fx.fo43_3 (.u rfl) (.nil (Wp.b2 6 12 (by kernel_rfl) ?_ ?_))
 ·have lL52:=nmx eL52
  refine apY rfl Fx.se36 Fx.zv5 (.u rfl) (.u rfl) tk2 hs52.sc (by (try simp only [qlA,yl_len]); omega) ?_
  intro v59 L59 ov59 eL59
  have lL59:L59.length=O.length+L52.length:=by rw [eL59,List.length_append]
  refine .nil (Wp.b2 10 12 (by kernel_rfl) ?_ ?_)
  ·refine apT rfl Fx.se36 Fx.st9 Fx.zv5 (.u rfl) (.u rfl) .here (by rw [bstr_len,List.length_drop,yb_len]; omega) ?_; intro v63 L63 ov63 eL63
   refine .nil (Wp.one 12 (by kernel_rfl) ?_)
   refine ld rfl .no Fx.ag9 (.u rfl) (fun _=>Rd.own tk1 (by first|exact wap_f rfl|rfl)) ?_
   refine .nil (Wp.b1 13 (by kernel_rfl) ?_)
   have lL63:L63.length≤L59.length+(bstr (keyE e)).size:=by rw [eL63,List.length_append,yb_len,bstr_len,List.length_drop,yb_len]; omega
   refine apT rfl Fx.se36 Fx.st9 Fx.zv5 (.u rfl) (.u rfl) .here (by (try simp only [List.length_append]); omega) ?_; intro v66 L66 ov66 eL66
   refine .nil (Wp.one 14 (by kernel_rfl) ?_)
   refine nc rfl .no (.u rfl) (.nil (Wp.one 15 (by kernel_rfl) ?_))
   refine fz rfl .no Fx.fo109_0 (.u rfl) (.nil (Wp.b1 16 (by kernel_rfl) ?_))
   refine s1v rfl (.u rfl) (.u rfl) .here Fx.sz36 tk2 (show 0<4 by decide) (rfl) ?_
   refine .nil (Wp.last (by kernel_rfl) ?_)
   refine .code (rq5 rfl rfl (mV rfl rfl (mV rfl rfl (nc rfl .no (.u rfl) (fz rfl .no Fx.fo109_3 (.u rfl) (s1 rfl (.u rfl) (.u rfl) rfl Fx.sz9 .here (show 3<4 by decide) (rfl) ?_))))))
   refine .nil (.nil (We.fin Tryd.results49 .nil (mS .here rfl (mS .here rfl mN)) ?_))
   subst c1
   exact ⟨_,L66,sp,P,ad_fin (k:=comL (yb last) (yb (bstr (keyE e)))) hu hv (by rw [com_old,yb_bstr]) eL41 eL47 eL52 eL59 eL63 eL66,by rw [if_neg (by decide)],rfl,rfl,hP⟩
  refine ld rfl .no Fx.ag9 (.u rfl) (fun _=>Rd.own tk1 (by first|exact wap_f rfl|rfl)) ?_
  refine .nil (Wp.b1 10 (by kernel_rfl) ?_)
  refine apT rfl Fx.se36 Fx.st9 Fx.zv5 (.u rfl) (.u rfl) .here (by rw [bstr_len,List.length_drop,yb_len]; omega) ?_; intro v63 L63 ov63 eL63
  refine .nil (Wp.b1 13 (by kernel_rfl) ?_)
  have lL63:L63.length≤L59.length+(bstr (keyE e)).size:=by rw [eL63,List.length_append,yb_len,bstr_len,List.length_drop,yb_len]; omega
  refine apT rfl Fx.se36 Fx.st9 Fx.zv5 (.u rfl) (.u rfl) .here (by (try simp only [List.length_append]); omega) ?_; intro v66 L66 ov66 eL66
  refine .nil (Wp.one 14 (by kernel_rfl) ?_)
  refine nc rfl .no (.u rfl) (.nil (Wp.one 15 (by kernel_rfl) ?_))
  refine fz rfl .no Fx.fo109_0 (.u rfl) (.nil (Wp.b1 16 (by kernel_rfl) ?_))
  refine s1v rfl (.u rfl) (.u rfl) .here Fx.sz36 tk2 (show 0<4 by decide) (rfl) ?_
  refine .nil (Wp.last (by kernel_rfl) ?_)
  refine .code (rq5 rfl rfl (mV rfl rfl (mV rfl rfl (nc rfl .no (.u rfl) (fz rfl .no Fx.fo109_3 (.u rfl) (s1 rfl (.u rfl) (.u rfl) rfl Fx.sz9 .here (show 3<4 by decide) (rfl) ?_))))))
  refine .nil (.nil (We.fin Tryd.results49 .nil (mS .here rfl (mS .here rfl mN)) ?_))
  subst c1
  exact ⟨_,L66,sp,P,ad_fin (k:=comL (yb last) (yb (bstr (keyE e)))) hu hv (by rw [com_old,yb_bstr]) eL41 eL47 eL52 eL59 eL63 eL66,by rw [if_neg (by decide)],rfl,rfl,hP⟩
 refine ld rfl .no Fx.ag9 (.u rfl) (fun _=>Rd.own .here (by first|exact wap_f rfl|rfl)) ?_
 refine .nil (Wp.b1 6 (by kernel_rfl) ?_)
 have lL52:=nmx eL52
 refine apY rfl Fx.se36 Fx.zv5 (.u rfl) (.u rfl) tk2 hs52.sc (by (try simp only [qlA,yl_len]); omega) ?_
 intro v59 L59 ov59 eL59
 have lL59:L59.length=O.length+L52.length:=by rw [eL59,List.length_append]
 refine .nil (Wp.b1 10 (by kernel_rfl) ?_)
 refine apT rfl Fx.se36 Fx.st9 Fx.zv5 (.u rfl) (.u rfl) .here (by rw [bstr_len,List.length_drop,yb_len]; omega) ?_; intro v63 L63 ov63 eL63
 refine .nil (Wp.b1 13 (by kernel_rfl) ?_)
 have lL63:L63.length≤L59.length+(bstr (keyE e)).size:=by rw [eL63,List.length_append,yb_len,bstr_len,List.length_drop,yb_len]; omega
 refine apT rfl Fx.se36 Fx.st9 Fx.zv5 (.u rfl) (.u rfl) .here (by (try simp only [List.length_append]); omega) ?_; intro v66 L66 ov66 eL66
 refine .nil (Wp.one 14 (by kernel_rfl) ?_)
 refine nc rfl .no (.u rfl) (.nil (Wp.one 15 (by kernel_rfl) ?_))
 refine fz rfl .no Fx.fo109_0 (.u rfl) (.nil (Wp.b1 16 (by kernel_rfl) ?_))
 refine s1v rfl (.u rfl) (.u rfl) .here Fx.sz36 tk2 (show 0<4 by decide) (rfl) ?_
 refine .nil (Wp.last (by kernel_rfl) ?_)
 refine .code (rq5 rfl rfl (mV rfl rfl (mV rfl rfl (nc rfl .no (.u rfl) (fz rfl .no Fx.fo109_3 (.u rfl) (s1 rfl (.u rfl) (.u rfl) rfl Fx.sz9 .here (show 3<4 by decide) (rfl) ?_))))))
 refine .nil (.nil (We.fin Tryd.results49 .nil (mS .here rfl (mS .here rfl mN)) ?_))
 subst c1
 exact ⟨_,L66,sp,P,ad_fin (k:=comL (yb last) (yb (bstr (keyE e)))) hu hv (by rw [com_old,yb_bstr]) eL41 eL47 eL52 eL59 eL63 eL66,by rw [if_neg (by decide)],rfl,rfl,hP⟩
theorem bBuild_ok (h:Sh) (l:List Ent) (every:Int) (G:PM) (hs:SlR G 4 Ent.cells h l) (hl:l.length≤1000000):Ct Tryd.prog 25 ([h.val l.length,.int .i64 every]:List Value).toArray G [] (fun _ μ' u=>∃ v L er,(L,er)=buildB l every∧μ'=[rB v 5 L]∧u=.tuple #[v,.int .i64 er]):=by
 refine Ct.of Tryd.func25 rfl Tryd.ntmps25 rfl fun w0 hs0=>?_
 refine .seq (rq2 rfl rfl (aS rfl rfl (aS rfl rfl (.nil (.code (.seq (.seq (Wk.rg [0,1,2,3,4,5,6,7,8,9,10,11,12,13,14] rfl rfl (mV rfl rfl (cp rfl .no (.u rfl) (.u rfl) rfl (mV rfl rfl (mv rfl (.f rfl rfl) (.u rfl) (cp rfl (.f rfl rfl) (.s rfl) (.u rfl) rfl (pkO rfl .no (.u rfl) (.s rfl) (mV rfl rfl (mv rfl (.f rfl rfl) (.u rfl) (kv rfl (.f rfl rfl) Fx.go22 (Eva.cons (.s rfl) Evn) (fun hc=>rises_ok h l _ hs (by (try simp only [Bool.and_eq_true,decide_eq_true_eq,Bool.not_eq_true',Bool.or_eq_false_iff,decide_eq_false_iff_not] at hc); omega)) ?_)))))))))))))))))
 refine nt rfl (.f rfl rfl) (.s rfl) (pkO rfl .no (.u rfl) (.s rfl) (mV rfl rfl (mv rfl (.f rfl rfl) (.u rfl) (kv rfl (.f rfl rfl) Fx.go21 (Eva.cons (.s rfl) (Evc rfl Evn)) (fun hc=>contE_ok h l _ hs (by (try simp only [Bool.and_eq_true,decide_eq_true_eq,Bool.not_eq_true',Bool.or_eq_false_iff,decide_eq_false_iff_not] at hc); omega) 48 Fx.go48 [] (fun e => !rightE e) (fun G2 _ e _=>bBad_ok e G2)) ?_))))
 refine pkO rfl .no (.u rfl) (.s rfl) (.nil (.code (.cond rfl (fun c1=>?_) (fun c1=>?_))))
 ·have c1k:=c1
  try simp only [qcA,qcC,qcB] at c1
  refine .seq (rq2 rfl rfl (aS rfl rfl (aS rfl rfl (.nil (.code (.ret (we_nilB 5 ?_)))))))
  refine We.fin Tryd.results25 (.tmp rfl (.tmp rfl .nil)) (mS .here rfl mN) ?_
  exact ⟨_,[],1,bu_arg c1k,rfl,rfl⟩
 have c1k:=c1
 try simp only [qcA,qcC,qcB] at c1
 refine .skip (.code (.seq (rq10 rfl rfl (mV rfl rfl (ci rfl .no rfl Fx.cv3_24 (.u rfl) ?_)))))
 refine kc rfl Fx.go31 (Evc rfl (Evc rfl Evn)) (Ct.frzB (Num_ok [] ⟨none,0⟩ _ SlR.nul _ (Nat.zero_le _))) ?_
 rintro _ G26 μ26 hG26 ⟨h26,L26,eL26,rfl,rfl,hs26⟩
 have hs:=hs.mono hG26
 refine mV rfl rfl (ln rfl .no Fx.sn31 (.u rfl) (ci rfl .no rfl Fx.cv3_24 (.u rfl) ?_))
 have lL26:=nm0 eL26
 refine kc rfl Fx.go31 (Evc rfl (Evc rfl Evn)) (Ct.rowc (Num_ok L26 h26 _ hs26 _ (by omega))) ?_
 rintro v30 G30 μ30 hG30 ⟨L30,ov30,eL30,rfl⟩
 have hs:=hs.mono hG30
 refine bCe ([v30,.slice none 0 0,.int .i64 0,.string ByteArray.empty]) rfl .no Fx.bp109_0 (.cons (.u rfl) (cells_one ov30) .nil) rfl (rfl) ?_
 refine al rfl Fx.zq109 ?_; intro b6
 refine sw rfl (.u rfl) (.u rfl) rfl Fx.sz109 .here (by first|rfl|exact Ent.len _) (one4 ov30 rfl rfl rfl) ?_
 refine .nil (.code (.seq (.seq (rq3 rfl rfl (mV rfl rfl (ln rfl .no Fx.sn31 (.u rfl) (mV rfl rfl (.nil (.code (.block ?_))))))))))
 refine Wk.lop (α:=Nat×Value×List Y×Sh×List Y×Nat×ByteArray) (fun gh=>[(34,true,.int .i64 (gh.1:Int))]) (fun gh=>[.blk b6 (cl [gh.2.1,gh.2.2.2.1.val gh.2.2.2.2.1.length,.int .i64 (gh.2.2.2.2.2.1:Int),.string gh.2.2.2.2.2.2] 109),rB gh.2.1 5 gh.2.2.1])
  (fun gh Gl=>(gh.1≤l.length)∧(gh.2.2.1=outB every.toNat l gh.1)∧(gh.2.2.2.2.1=plcB every.toNat l gh.1)∧(gh.2.2.2.2.2.1=rstB every.toNat gh.1)∧(gh.2.2.2.2.2.2=bstr (lastB l gh.1))∧(∀ j,j<gh.1→(outB every.toNat l (j+1)).length≤1048576)∧(SlR Gl 1 encY gh.2.2.2.1 gh.2.2.2.2.1)) (fun gh=>l.length-gh.1) (0,v30,L30,⟨none,0⟩,[],0,ByteArray.empty) [(1,true,_),(6,true,_),(32,true,_),(33,true,_)] []
  (esC rfl (by first|rfl|exact evi (by omega)) (esD rfl (esD rfl (esD rfl (esD rfl eZ)))))
  (mS .here rfl (mS .here rfl mN)) ?_ ?_
 ·refine ⟨?_,?_,?_,?_,?_,?_,?_⟩
  ·(try dsimp only)<;>(first|omega|rfl|assumption|(simp; done))
  ·(try dsimp only)<;>(rw [eL30,eL26]; exact bo_zero (by have:=(bu_sz c1k).1; omega) rfl (by have:=(bu_sz c1k).1; omega) (by omega))
  ·(try dsimp only)<;>(rfl)
  ·(try dsimp only)<;>(rfl)
  ·(try dsimp only)<;>(exact bnil)
  ·(try dsimp only)<;>(exact fun j h=>absurd h (Nat.not_lt_zero _))
  (try dsimp only)<;>(exact SlR.nul)
 intro gh N0 Gl0 hN0 hGl0 hF0
 obtain ⟨k,v,O,sp,P,rs,last⟩:=gh; dsimp only at hF0 hN0 ⊢
 obtain ⟨hk,eO,eP,er,el,hno,hP⟩:=hF0
 have hs:=hs.mono hGl0
 obtain ⟨hev,hsz⟩:=bu_sz c1k
 have lO:O.length≤1048576:=by rw [eO]; exact out_bd (by omega) (by omega) hno
 have lP:P.length=4*rs:=by rw [eP,er,plcB_len]
 have lrs:rs≤k:=by rw [er]; exact rstB_le _ _
 have ll:last.size≤1032:=by rw [el]; exact last_bd hsz k
 refine .seq (rq1 rfl rfl (cp rfl .no (.u rfl) (.u rfl) rfl (.nil (.code (.seq (.cond rfl (fun c2=>?_) (fun c2=>?_)))))))
 ·have c2k:=c2
  try simp only [qcA,qcC,qcB] at c2
  refine .skip (.code (.seq (.block (.seq (rq6 rfl rfl (mV rfl rfl (ih rfl .no Fx.se31 (.u rfl) (.u rfl) (fun _=>by omega) (fun _=>by omega) (fun _=>hs.nn (k:=k) (by first|omega|(simp only [Bool.and_eq_true,decide_eq_true_eq] at hc; omega)|(simp only [List.length_cons,List.length_nil]; omega))) ?_)))))))
  obtain ⟨x,ex⟩:=getx (k:=k) (xs:=l) (by omega)
  refine lA rfl .no Fx.ag43 (.u rfl) (fun _=>(hs.at (by omega) ex).rd) (fun _=>Ent.len _) ?_
  refine al rfl Fx.zr43 ?_; intro b8
  refine aS rfl rfl ?_
  have hxx:=hsz x (List.mem_of_getElem? ex)
  refine sw rfl (.u rfl) (.u rfl) rfl Fx.sz43 .here (by first|rfl|exact Ent.len _) (Ent.one _) ?_
  refine .nil (.code (.seq (Wk.draw (mc:=⟨true,false⟩) [0,1,2,3,4,5] Fx.mix (by kernel_rfl) ?_)))
  refine lA rfl .no Fx.ag43 (.u rfl) (fun _=>RdN.own .here) (fun _=>(by first|rfl|exact Ent.len _)) ?_
  refine mV rfl rfl (mV rfl rfl (rmn (k) ((every).toNat) rfl .no (.u rfl) (.u rfl) (fun _=>by omega) (fun _=>by omega) (fun _=>by first|decide|omega) ?_))
  refine cp rfl .no (.u rfl) (.u rfl) rfl (ka rfl (.inl rfl) Fx.go49 (Evc rfl (Evc rfl (Evc rfl Evn))) (mtk2 tk1 tk1) (add_ok O P v sp rs last b6 x _ _ hP (by omega) (by omega) (by omega) (by omega) (by omega) (by omega)) ?_)
  rintro _ G44 μ44 hG44 ⟨v44,O44,sp44,P44,eO44,eP44,rfl,rfl,hP44⟩
  have hP:=hP.mono hG44
  refine .nil (.code (.seq (rq4 rfl rfl (fz rfl .no Fx.fo109_0 (.u rfl) (ld rfl .no Fx.ag36 (.u rfl) (fun _=>Rd.own .here (by first|exact wap_f rfl|rfl)) ?_)))))
  refine lr rfl .no Fx.sn36 (.u rfl) tk1 ?_
  refine cp rfl .no (.u rfl) (.u rfl) rfl (.nil (.code (.cond rfl (fun c3=>?_) (fun c3=>?_))))
  ·have c3k:=c3
   try simp only [qcA,qcC,qcB] at c3
   refine .seq (rq2 rfl rfl (aS rfl rfl (aS rfl rfl (.nil (.code (.ret (we_nilB 5 ?_)))))))
   refine We.fin Tryd.results25 (.tmp rfl (.tmp rfl .nil)) (mS .here rfl mN) ?_
   exact ⟨_,[],4,bu_long1 c1k (k:=k) (by omega) (by rw [← bo_step (L:=O44) ex el rfl (by rw [eO44,eO])]; omega),rfl,rfl⟩
  have c3k:=c3
  try simp only [qcA,qcC,qcB] at c3
  refine .skip (.blk (.code (rq2 rfl rfl (arn (((k+1):Nat):Int) rfl .no (.u rfl) (.u rfl) rfl (fun _=>by omega) (fun _=>wrap_i64 (by omega) (by omega)) ?_))))
  refine mV rfl rfl (.nil (We.lpo (k+1,v44,O44,sp44,P44,_,_) (esC rfl (by first|rfl|exact evi (by omega)) (esD rfl (esD rfl (esD rfl (esD rfl eZ))))) (mS .here rfl (mS .here rfl mN)) ?_ ?_ ?_))
  ·first|omega|(dsimp only; omega)
  ·exact (hGl0).trans hG44
  refine ⟨?_,?_,?_,?_,?_,?_,?_⟩
  ·(try dsimp only)<;>(first|omega|rfl|assumption|(simp; done))
  ·(try dsimp only)<;>(exact bo_step (L:=O44) ex el rfl (by rw [eO44,eO]))
  ·(try dsimp only)<;>(exact plc_step rfl eO eP eP44)
  ·(try dsimp only)<;>(exact rst_step rfl er)
  ·(try dsimp only)<;>(exact (congrArg bstr (last_le ex)).symm)
  ·(try dsimp only)<;>(exact bu_snoc hno (by rw [← bo_step (L:=O44) ex el rfl (by rw [eO44,eO])]; omega))
  (try dsimp only)<;>(exact hP44)
 have c2k:=c2
 try simp only [qcA,qcC,qcB] at c2
 refine .exit (.xcode (.xlp (.xblk (.code (.seq (Wk.mixp ⟨true,false⟩ Fx.mix (by kernel_rfl) ?_))))))
 refine Wp.one 0 (by kernel_rfl) ?_
 refine fz rfl .no Fx.fo109_0 (.u rfl) (.nil (Wp.one 1 (by kernel_rfl) ?_))
 refine ld rfl .no Fx.ag36 (.u rfl) (fun _=>Rd.own .here (by first|exact wap_f rfl|rfl)) ?_
 refine .nil (Wp.one 2 (by kernel_rfl) ?_)
 refine fz rfl .no Fx.fo109_1 (.u rfl) (.nil (Wp.one 3 (by kernel_rfl) ?_))
 refine ld rfl .no Fx.ag36 (.u rfl) (fun _=>Rd.own .here (by first|exact wap_f rfl|rfl)) ?_
 refine .nil (Wp.one 5 (by kernel_rfl) ?_)
 refine fz rfl .no Fx.fo109_2 (.u rfl) (.nil (Wp.b2 4 6 (by kernel_rfl) ?_ ?_))
 ·refine apY rfl Fx.se36 Fx.zv5 (.u rfl) (.u rfl) tk1 hP.sc (by (try simp only [qlA,yl_len]); omega) ?_
  intro v54 L54 ov54 eL54
  have lL54:L54.length=O.length+P.length:=by rw [eL54,List.length_append]
  refine .nil (Wp.one 6 (by kernel_rfl) ?_)
  refine ld rfl .no Fx.ag3 (.u rfl) (fun _=>Rd.own tk1 (by first|exact wap_f rfl|rfl)) ?_
  refine .nil (Wp.one 7 (by kernel_rfl) ?_)
  refine ci rfl .no rfl Fx.cv3_24 (.u rfl) ?_
  refine .nil (Wp.b1 8 (by kernel_rfl) ?_)
  refine kc rfl Fx.go32 (Evc rfl (Evc rfl (Evc rfl Evn))) (Ct.frzB (Fix_ok [] ⟨none,0⟩ _ 4 _ SlR.nul (Nat.zero_le _) (by decide))) ?_
  rintro _ G58 μ58 hG58 ⟨h58,L58,eL58,rfl,rfl,hs58⟩
  have hP:=hP.mono hG58
  refine .nil (Wp.b1 9 (by kernel_rfl) ?_)
  have lL58:=fx0 eL58
  refine apY rfl Fx.se36 Fx.zv5 (.u rfl) (.u rfl) .here hs58.sc (by (try simp only [qlA,yl_len]); omega) ?_
  intro v59 L59 ov59 eL59
  have lL59:L59.length=L54.length+L58.length:=by rw [eL59,List.length_append]
  refine .nil (Wp.one 10 (by kernel_rfl) ?_)
  refine fz rfl .no Fx.fo109_0 (.u rfl) (.nil (Wp.b1 11 (by kernel_rfl) ?_))
  refine s1v rfl (.u rfl) (.u rfl) .here Fx.sz36 tk1 (by first|decide|(simp only [wa_len,ba_len,qlA]; omega)) (rfl) ?_
  refine .nil (Wp.last (by kernel_rfl) ?_)
  refine .code (.seq (.seq (rq4 rfl rfl (fz rfl .no Fx.fo109_0 (.u rfl) (ld rfl .no Fx.ag36 (.u rfl) (fun _=>Rd.own .here (by first|exact wap_f rfl|rfl)) ?_)))))
  refine lr rfl .no Fx.sn36 (.u rfl) tk1 ?_
  refine cp rfl .no (.u rfl) (.u rfl) rfl (.nil (.code (.cond rfl (fun c4=>?_) (fun c4=>?_))))
  ·have c4k:=c4
   try simp only [qcA,qcC,qcB] at c4
   refine .seq (rq2 rfl rfl (aS rfl rfl (aS rfl rfl (.nil (.code (.ret (we_nilB 5 ?_)))))))
   refine We.fin Tryd.results25 (.tmp rfl (.tmp rfl .nil)) (mS .here rfl mN) ?_
   obtain rfl:k=l.length:=by omega
   exact ⟨_,[],4,bu_long2 c1k (by rw [← bu_all eO eP er eL54 eL58 eL59]; omega),rfl,rfl⟩
  have c4k:=c4
  try simp only [qcA,qcC,qcB] at c4
  refine .skip (.code (.seq (rq4 rfl rfl (fz rfl .no Fx.fo109_0 (.u rfl) (ld rfl .no Fx.ag36 (.u rfl) (fun _=>Rd.own .here (by first|exact wap_f rfl|rfl)) ?_)))))
  refine aS rfl rfl (aS rfl rfl (.nil (.code (.ret (We.fin Tryd.results25 (.tmp rfl (.tmp rfl .nil)) (mS tk1 rfl mN) ?_)))))
  obtain rfl:k=l.length:=by omega
  have eB:=bu_all eO eP er eL54 eL58 eL59
  exact ⟨_,L59,0,by rw [eB]; exact bu_ok c1k hno (by rw [← eB]; omega),rfl,rfl⟩
 refine ld rfl .no Fx.ag3 (.u rfl) (fun _=>Rd.own .here (by first|exact wap_f rfl|rfl)) ?_
 refine .nil (Wp.b2 4 7 (by kernel_rfl) ?_ ?_)
 ·refine apY rfl Fx.se36 Fx.zv5 (.u rfl) (.u rfl) tk1 hP.sc (by (try simp only [qlA,yl_len]); omega) ?_
  intro v54 L54 ov54 eL54
  have lL54:L54.length=O.length+P.length:=by rw [eL54,List.length_append]
  refine .nil (Wp.one 7 (by kernel_rfl) ?_)
  refine ci rfl .no rfl Fx.cv3_24 (.u rfl) ?_
  refine .nil (Wp.b1 8 (by kernel_rfl) ?_)
  refine kc rfl Fx.go32 (Evc rfl (Evc rfl (Evc rfl Evn))) (Ct.frzB (Fix_ok [] ⟨none,0⟩ _ 4 _ SlR.nul (Nat.zero_le _) (by decide))) ?_
  rintro _ G58 μ58 hG58 ⟨h58,L58,eL58,rfl,rfl,hs58⟩
  have hP:=hP.mono hG58
  refine .nil (Wp.b1 9 (by kernel_rfl) ?_)
  have lL58:=fx0 eL58
  refine apY rfl Fx.se36 Fx.zv5 (.u rfl) (.u rfl) .here hs58.sc (by (try simp only [qlA,yl_len]); omega) ?_
  intro v59 L59 ov59 eL59
  have lL59:L59.length=L54.length+L58.length:=by rw [eL59,List.length_append]
  refine .nil (Wp.one 10 (by kernel_rfl) ?_)
  refine fz rfl .no Fx.fo109_0 (.u rfl) (.nil (Wp.b1 11 (by kernel_rfl) ?_))
  refine s1v rfl (.u rfl) (.u rfl) .here Fx.sz36 tk1 (by first|decide|(simp only [wa_len,ba_len,qlA]; omega)) (rfl) ?_
  refine .nil (Wp.last (by kernel_rfl) ?_)
  refine .code (.seq (.seq (rq4 rfl rfl (fz rfl .no Fx.fo109_0 (.u rfl) (ld rfl .no Fx.ag36 (.u rfl) (fun _=>Rd.own .here (by first|exact wap_f rfl|rfl)) ?_)))))
  refine lr rfl .no Fx.sn36 (.u rfl) tk1 ?_
  refine cp rfl .no (.u rfl) (.u rfl) rfl (.nil (.code (.cond rfl (fun c4=>?_) (fun c4=>?_))))
  ·have c4k:=c4
   try simp only [qcA,qcC,qcB] at c4
   refine .seq (rq2 rfl rfl (aS rfl rfl (aS rfl rfl (.nil (.code (.ret (we_nilB 5 ?_)))))))
   refine We.fin Tryd.results25 (.tmp rfl (.tmp rfl .nil)) (mS .here rfl mN) ?_
   obtain rfl:k=l.length:=by omega
   exact ⟨_,[],4,bu_long2 c1k (by rw [← bu_all eO eP er eL54 eL58 eL59]; omega),rfl,rfl⟩
  have c4k:=c4
  try simp only [qcA,qcC,qcB] at c4
  refine .skip (.code (.seq (rq4 rfl rfl (fz rfl .no Fx.fo109_0 (.u rfl) (ld rfl .no Fx.ag36 (.u rfl) (fun _=>Rd.own .here (by first|exact wap_f rfl|rfl)) ?_)))))
  refine aS rfl rfl (aS rfl rfl (.nil (.code (.ret (We.fin Tryd.results25 (.tmp rfl (.tmp rfl .nil)) (mS tk1 rfl mN) ?_)))))
  obtain rfl:k=l.length:=by omega
  have eB:=bu_all eO eP er eL54 eL58 eL59
  exact ⟨_,L59,0,by rw [eB]; exact bu_ok c1k hno (by rw [← eB]; omega),rfl,rfl⟩
 refine ci rfl .no rfl Fx.cv3_24 (.u rfl) ?_
 refine .nil (Wp.b1 4 (by kernel_rfl) ?_)
 refine apY rfl Fx.se36 Fx.zv5 (.u rfl) (.u rfl) tk1 hP.sc (by (try simp only [qlA,yl_len]); omega) ?_
 intro v54 L54 ov54 eL54
 have lL54:L54.length=O.length+P.length:=by rw [eL54,List.length_append]
 refine .nil (Wp.b1 8 (by kernel_rfl) ?_)
 refine kc rfl Fx.go32 (Evc rfl (Evc rfl (Evc rfl Evn))) (Ct.frzB (Fix_ok [] ⟨none,0⟩ _ 4 _ SlR.nul (Nat.zero_le _) (by decide))) ?_
 rintro _ G58 μ58 hG58 ⟨h58,L58,eL58,rfl,rfl,hs58⟩
 refine .nil (Wp.b1 9 (by kernel_rfl) ?_)
 have lL58:=fx0 eL58
 refine apY rfl Fx.se36 Fx.zv5 (.u rfl) (.u rfl) .here hs58.sc (by (try simp only [qlA,yl_len]); omega) ?_
 intro v59 L59 ov59 eL59
 have lL59:L59.length=L54.length+L58.length:=by rw [eL59,List.length_append]
 refine .nil (Wp.one 10 (by kernel_rfl) ?_)
 refine fz rfl .no Fx.fo109_0 (.u rfl) (.nil (Wp.b1 11 (by kernel_rfl) ?_))
 refine s1v rfl (.u rfl) (.u rfl) .here Fx.sz36 tk1 (by first|decide|(simp only [wa_len,ba_len,qlA]; omega)) (rfl) ?_
 refine .nil (Wp.last (by kernel_rfl) ?_)
 refine .code (.seq (.seq (rq4 rfl rfl (fz rfl .no Fx.fo109_0 (.u rfl) (ld rfl .no Fx.ag36 (.u rfl) (fun _=>Rd.own .here (by first|exact wap_f rfl|rfl)) ?_)))))
 refine lr rfl .no Fx.sn36 (.u rfl) tk1 ?_
 refine cp rfl .no (.u rfl) (.u rfl) rfl (.nil (.code (.cond rfl (fun c4=>?_) (fun c4=>?_))))
 ·have c4k:=c4
  try simp only [qcA,qcC,qcB] at c4
  refine .seq (rq2 rfl rfl (aS rfl rfl (aS rfl rfl (.nil (.code (.ret (we_nilB 5 ?_)))))))
  refine We.fin Tryd.results25 (.tmp rfl (.tmp rfl .nil)) (mS .here rfl mN) ?_
  obtain rfl:k=l.length:=by omega
  exact ⟨_,[],4,bu_long2 c1k (by rw [← bu_all eO eP er eL54 eL58 eL59]; omega),rfl,rfl⟩
 have c4k:=c4
 try simp only [qcA,qcC,qcB] at c4
 refine .skip (.code (.seq (rq4 rfl rfl (fz rfl .no Fx.fo109_0 (.u rfl) (ld rfl .no Fx.ag36 (.u rfl) (fun _=>Rd.own .here (by first|exact wap_f rfl|rfl)) ?_)))))
 refine aS rfl rfl (aS rfl rfl (.nil (.code (.ret (We.fin Tryd.results25 (.tmp rfl (.tmp rfl .nil)) (mS tk1 rfl mN) ?_)))))
 obtain rfl:k=l.length:=by omega
 have eB:=bu_all eO eP er eL54 eL58 eL59
 exact ⟨_,L59,0,by rw [eB]; exact bu_ok c1k hno (by rw [← eB]; omega),rfl,rfl⟩
namespace Fx
theorem zq43:zrL Tryd.prog 43=some (Ent.zero.cells):=by kernel_rfl
theorem bp43_:bPl Tryd.prog 43 []=some (Ent.zero.cells,[]):=by kernel_rfl
theorem bp43_0_1_2:bPl Tryd.prog 43 [0,1,2]=some (Ent.zero.cells,[(0,1),(1,1),(2,1)]):=by kernel_rfl
theorem go57:goFn Tryd.prog 57=true:=by kernel_rfl
theorem go83:goFn Tryd.prog 83=true:=by kernel_rfl
theorem go84:goFn Tryd.prog 84=true:=by kernel_rfl
theorem go77:goFn Tryd.prog 77=true:=by kernel_rfl
theorem zw43:(Tryd.prog.info? 43).bind (·.zero)=some (.agg (Ent.zero.cells).toArray):=by kernel_rfl
theorem go25:goFn Tryd.prog 25=true:=by kernel_rfl
theorem go78:goFn Tryd.prog 78=true:=by kernel_rfl
end Fx
theorem eTake_ok (s:ByteArray) (G:PM) (hl:s.size≤1000000000):Ct Tryd.prog 84 ([.string s]:List Value).toArray G [] (fun _ μ' u=>μ'=[]∧u=.tuple #[(takeE (yb s)).1.val,.int .i64 (takeE (yb s)).2]):=by
 refine Ct.of Tryd.func84 rfl Tryd.ntmps84 rfl fun w0 hs0=>?_
 have l8:(yb (bstr ((yb s).drop (s.size-8)))).length≤1000000000:=by rw [yb_bstr,List.length_drop,yb_len]; omega
 refine .seq (rq2 rfl rfl ?_)
 refine al rfl Fx.zq43 ?_; intro b2
 refine aS rfl rfl (.nil (.code (.seq (rq4 rfl rfl (mV rfl rfl (ls rfl .no Fx.st9 (.u rfl) (ar rfl .no (.u rfl) (.u rfl) rfl (fun _=>wrap_i64 (by omega) (by omega)) ?_)))))))
 refine aS rfl rfl (.nil (.code (.seq (.seq (rq2 rfl rfl (mV rfl rfl (cp rfl .no (.u rfl) (.u rfl) rfl (.nil (.code (.cond rfl (fun c1=>?_) (fun c1=>?_)))))))))))
 ·have c1k:=c1
  try simp only [qcA,qcB] at c1
  refine .seq (rq3 rfl rfl (bC rfl .no Fx.bp43_ .nil rfl ?_))
  refine sw rfl (.u rfl) (.u rfl) rfl Fx.sz43 .here (by first|rfl|exact Ent.len _) (Ent.one _) ?_
  refine aS rfl rfl (.nil (.code (.ret (We.fin0 Tryd.results84 (.cell rfl (fun w hw=>run_loadVarN Fx.ag43 (RdN.own .here) ((by first|rfl|exact Ent.len _)) hw) (.tmp rfl .nil)) ?_))))
  exact ⟨rfl,by rw [tk_short c1]; rfl⟩
 have c1k:=c1
 try simp only [qcA,qcB] at c1
 refine .skip (.code (.seq (rq7 rfl rfl (mV rfl rfl (mV rfl rfl (sD ((s.size-8)) rfl .no Fx.st9 (.u rfl) (.u rfl) (fun _=>by omega) (fun _=>by omega) ?_))))))
 refine cvS rfl rfl Fx.sb9_36 (.u rfl) ?_; intro G16 h16 hG16 hs16
 refine kc rfl Fx.go54 (Evc rfl Evn) (wcNew_ok (yb (bstr ((yb s).drop (s.size-8)))) h16 _ hs16 (by omega)) ?_
 rintro _ G17 μ17 hG17 ⟨b17,s17,rfl,rfl,hs17⟩
 refine ka rfl (.inr rfl) Fx.go55 (Evc rfl (Evc rfl Evn)) (mtk1 .here) (rdFix_ok (yb (bstr ((yb s).drop (s.size-8)))) s17 _ _ hs17 (by rw [yb_bstr,List.length_drop,yb_len]; omega) (by omega)) ?_
 rintro _ G18 μ18 hG18 ⟨s18,rfl,rfl,hs18⟩
 refine aS rfl rfl (.nil (.code (.seq (rq10 rfl rfl (mV rfl rfl (mV rfl rfl (sE ((s.size-8)) rfl .no Fx.st9 (.u rfl) (.u rfl) (fun _=>by omega) (fun _=>by omega) ?_)))))))
 refine mV rfl rfl (rw' (k:=.u64) rfl .no (.u rfl) (.u rfl) (fun _=>by decide) ?_)
 refine mV rfl rfl (cu (k:=.u64) rfl .no rfl Fx.cv24_5 (.u rfl) ?_)
 refine bCe ((Ent.cells ⟨bstr ((yb s).take (s.size-8)),(unfK (yb (bstr ((yb s).drop (s.size-8)))) 8) >>> 8,(unfK (yb (bstr ((yb s).drop (s.size-8)))) 8).setWidth 8,ByteArray.empty⟩)) rfl .no Fx.bp43_0_1_2 (.cons (.u rfl) rfl (.cons (.u rfl) rfl (.cons (.u rfl) rfl .nil))) rfl (rfl) ?_
 refine al rfl Fx.zq43 ?_; intro b6
 refine sw rfl (.u rfl) (.u rfl) rfl Fx.sz43 .here (by first|rfl|exact Ent.len _) (Ent.one _) ?_
 refine .nil (.code (.seq (.seq (rq3 rfl rfl (lA rfl .no Fx.ag43 (.u rfl) (fun _=>RdN.own .here) (fun _=>(by first|rfl|exact Ent.len _)) ?_)))))
 refine kv rfl .no Fx.go11 (Evc rfl Evn) (fun _=>eRight_ok ⟨bstr ((yb s).take (s.size-8)),(unfK (yb (bstr ((yb s).drop (s.size-8)))) 8) >>> 8,(unfK (yb (bstr ((yb s).drop (s.size-8)))) 8).setWidth 8,ByteArray.empty⟩ _) ?_
 refine nt rfl .no (.u rfl) (.nil (.code (.cond rfl (fun c2=>?_) (fun c2=>?_))))
 ·have c2k:=c2
  try simp only [qcA,qcB] at c2
  refine .seq (rq3 rfl rfl (bC rfl .no Fx.bp43_ .nil rfl ?_))
  refine sw rfl (.u rfl) (.u rfl) rfl Fx.sz43 tk2 (by first|rfl|exact Ent.len _) (Ent.one _) ?_
  refine aS rfl rfl (.nil (.code (.ret (We.fin0 Tryd.results84 (.cell rfl (fun w hw=>run_loadVarN Fx.ag43 (RdN.own .here) ((by first|rfl|exact Ent.len _)) hw) (.tmp rfl .nil)) ?_))))
  exact ⟨rfl,by rw [tk_bad2 c1 c2]; rfl⟩
 have c2k:=c2
 try simp only [qcA,qcB] at c2
 refine .skip (.code (.seq (rq3 rfl rfl (lA rfl .no Fx.ag43 (.u rfl) (fun _=>RdN.own .here) (fun _=>(by first|rfl|exact Ent.len _)) ?_))))
 refine sw rfl (.u rfl) (.u rfl) rfl Fx.sz43 tk2 (by first|rfl|exact Ent.len _) (Ent.one _) ?_
 refine aS rfl rfl (.nil (.code (.ret (We.fin0 Tryd.results84 (.cell rfl (fun w hw=>run_loadVarN Fx.ag43 (RdN.own .here) ((by first|rfl|exact Ent.len _)) hw) (.tmp rfl .nil)) ?_))))
 exact ⟨rfl,by rw [tk_good2 c1 c2]; rfl⟩
theorem text_ok (xs:List Y) (s:Sh) (b n:Nat) (G:PM) (hs:SlR G 1 encY s xs) (hn:n≤xs.length) (hl:xs.length≤100000000000000):Ct Tryd.prog 83 ([.pointer (some ⟨b,0,none⟩),.int .u64 (n:Int)]:List Value).toArray G [.blk b (cl [s.val xs.length,.int .i64 0] 145)] (fun G' μ' u=>∃ s',μ'=[.blk b (cl [Sh.val s' (xs.drop n).length,.int .i64 0] 145)]∧u=.string (bstr (xs.take n))∧SlR G' 1 encY s' (xs.drop n)):=by
 refine Ct.of Tryd.func83 rfl Tryd.ntmps83 rfl fun w0 hs0=>?_
 refine .seq (rq1 rfl rfl (aS rfl rfl (.nil (.code (.seq (rq3 rfl rfl (mV rfl rfl ?_)))))))
 refine mkY (n) (n) rfl Fx.se36 Fx.zv5 (.u rfl) (.u rfl) (by first|rfl|omega) (by first|rfl|omega) (by omega) (by omega) ?_; intro b8
 have lR8:(List.replicate (n) (0#8:Y)).length=n:=List.length_replicate
 refine aS rfl rfl (.nil (.code (.seq (.seq (rq3 rfl rfl (mV rfl rfl (lr rfl .no Fx.sn36 (.u rfl) .here ?_)))))))
 refine mV rfl rfl (.nil (.code (.block ?_)))
 refine Wk.lop (α:=Nat×List Y×Sh) (fun gh=>[(11,true,.int .i64 (gh.1:Int))]) (fun gh=>[rB (.slice (some ⟨b8,0,none⟩) (n:Nat) (n:Nat)) 5 gh.2.1,.blk b (cl [Sh.val gh.2.2 (xs.drop gh.1).length,.int .i64 0] 145)])
  (fun gh Gl=>(gh.1≤n)∧(gh.2.1=txM xs n gh.1)∧(gh.2.1.length=n)∧(SlR Gl 1 encY gh.2.2 (xs.drop gh.1))) (fun gh=>n-gh.1) (0,List.replicate n 0#8,s) [(0,true,_),(5,true,_),(10,true,_)] []
  (esC rfl (by first|rfl|exact evi (by omega)) (esD rfl (esD rfl (esD rfl eZ))))
  (mS .here rfl (mS .here rfl mN)) ?_ ?_
 ·refine ⟨?_,?_,?_,?_⟩
  ·(try dsimp only)<;>(first|omega|rfl|assumption|(simp; done))
  ·(try dsimp only)<;>(rw [tx_zero])
  ·(try dsimp only)<;>(exact List.length_replicate)
  (try dsimp only)<;>(exact hs)
 intro gh N0 Gl0 hN0 hGl0 hF0
 obtain ⟨k,M,s9⟩:=gh; dsimp only at hF0 hN0 ⊢
 obtain ⟨hk,eM,lM,hsl⟩:=hF0
 refine .seq (rq1 rfl rfl (cp rfl .no (.u rfl) (.u rfl) rfl (.nil (.code (.seq (.cond rfl (fun c1=>?_) (fun c1=>?_)))))))
 ·have c1k:=c1
  try simp only [qcA,qcB] at c1
  refine .skip (.code (.seq (.block (.seq (rq2 rfl rfl (mV rfl rfl (aS rfl rfl (.nil (.code (rq7 rfl rfl (mV rfl rfl (mV rfl rfl (mV rfl rfl (ka rfl (.inr rfl) Fx.go55 (Evc rfl (Evc rfl Evn)) (mtk1 tk1) (rFix_ok (xs.drop k) 0 s9 b _ hsl (by rw [List.length_drop]; omega)) ?_))))))))))))))
  rintro _ G17 μ17 hG17 ⟨y17,L17,e17,s17,hN17,rfl,rfl,hs17⟩
  obtain ⟨rfl,rfl,rfl⟩:=tx_byte (by omega) hN17
  have hsl:=hsl.mono hG17
  refine cu (k:=.u64) rfl .no rfl Fx.cv24_5 (.u rfl) ?_
  refine ia rfl .no Fx.se36 (.u rfl) (.u rfl) (fun _=>by omega) (fun _=>by omega) ?_
  refine s1r rfl (.u rfl) (.u rfl) Fx.sz5 tk1 (by omega) ?_; intro Ls5_6 eLs5_6 lLs5_6
  refine .nil (.blk (.code (rq2 rfl rfl (arn (((k+1):Nat):Int) rfl .no (.u rfl) (.u rfl) rfl (fun _=>by omega) (fun _=>wrap_i64 (by omega) (by omega)) ?_))))
  refine mV rfl rfl (.nil (We.lpo (k+1,Ls5_6,s17) ?_ ?_ ?_ ?_ ?_))
  ·exact (esC rfl (by first|rfl|exact evi (by omega)) (esD rfl (esD rfl (esD rfl eZ))))
  ·exact (mS .here rfl (mS .here rfl mN))
  ·first|omega|(dsimp only; omega)
  ·exact (hGl0).trans hG17
  refine ⟨?_,?_,?_,?_⟩
  ·(try dsimp only)<;>(first|omega|rfl|assumption|(simp; done))
  ·(try dsimp only)<;>(rw [eLs5_6,eM]; exact tx_st (by omega) hn (by rw [Nat.zero_add,Nat.mul_one]; rfl) (tx_back _))
  ·(try dsimp only)<;>(first|omega|rfl|assumption|(simp; done))
  (try dsimp only)<;>(exact hs17)
 have c1k:=c1
 try simp only [qcA,qcB] at c1
 refine .exit (.xcode (.xlp (.xblk (.code (.seq ?_)))))
 subst lM
 refine rq3 rfl rfl (mV rfl rfl (sB rfl .no Fx.bs36_9 (.u rfl) (fun _=>(Sc.row .here)) ?_))
 refine aS rfl rfl (.nil (.code (.ret (We.fin Tryd.results83 (.tmp rfl .nil) (mS tk1 rfl mN) ?_))))
 obtain rfl:k=M.length:=by omega
 exact ⟨s9,rfl,congrArg (fun z=>Value.string (bstr z)) (eM.trans tx_all),hsl⟩
theorem bTake_ok (xs:List Y) (s:Sh) (b:Nat) (last:ByteArray) (G:PM) (hs:SlR G 1 encY s xs) (hl:xs.length≤100000000) (hk:last.size≤100000000):Ct Tryd.prog 77 ([.pointer (some ⟨b,0,none⟩),.string last]:List Value).toArray G [.blk b (cl [s.val xs.length,.int .i64 0] 145)] (fun G' μ' u=>(takeV (yb last) xs=none∧μ'=[]∧∃ (E:Ent) (key:ByteArray),u=.tuple #[E.val,.string key,.bool false])∨(∃ E key L s',takeV (yb last) xs=some (E,yb key,L)∧μ'=[.blk b (cl [Sh.val s' L.length,.int .i64 0] 145)]∧u=.tuple #[E.val,.string key,.bool true]∧SlR G' 1 encY s' L)):=by
 refine Ct.of Tryd.func77 rfl Tryd.ntmps77 rfl fun w0 hs0=>?_
 refine .seq (rq3 rfl rfl ?_)
 refine al rfl Fx.zq43 ?_; intro b4
 refine aS rfl rfl (aS rfl rfl (.nil (.code (.seq (rq9 rfl rfl (mV rfl rfl (ka rfl (.inr rfl) Fx.go57 (Evc rfl Evn) (mtk1 tk1) (rNum_ok xs 0 s b _ hs (by omega)) ?_)))))))
 rintro _ G15 μ15 hG15 ⟨n15,L15,e15,s15,hN15,rfl,rfl,hs15⟩
 have lL15:=rdnum_le hN15; have nL15:=rdnum_lt hN15; simp only at lL15
 refine mV rfl rfl (ka rfl (.inr rfl) Fx.go57 (Evc rfl Evn) (mtk1 .here) (rNum_ok L15 e15 s15 b _ hs15 (by omega)) ?_)
 rintro _ G17 μ17 hG17 ⟨n17,L17,e17,s17,hN17,rfl,rfl,hs17⟩
 have lL17:=rdnum_le hN17; have nL17:=rdnum_lt hN17; simp only at lL17
 refine mV rfl rfl (ka rfl (.inr rfl) Fx.go57 (Evc rfl Evn) (mtk1 .here) (rNum_ok L17 e17 s17 b _ hs17 (by omega)) ?_)
 rintro _ G19 μ19 hG19 ⟨n19,L19,e19,s19,hN19,rfl,rfl,hs19⟩
 have lL19:=rdnum_le hN19; have nL19:=rdnum_lt hN19; simp only at lL19
 refine aS rfl rfl (aS rfl rfl (aS rfl rfl (.nil (.code (.seq (rq4 rfl rfl (mV rfl rfl (kp rfl .no Fx.go75 (Evc rfl Evn) (Gp.add .here Gp.nil) (fun _ hle hq=>rLeft_ok L19 e19 s19 b _ RdNP.add) ?_))))))))
 refine cw rfl .no Fx.cv3_24 (.u rfl) (fun _=>wrap_u64 (by omega) (by omega)) ?_
 refine aS rfl rfl (.nil (.code (.seq (.seq (Wk.rg [0,1,2,3,4,5,6,7,8,9,10,11,12,13,14,15,16,17,18,19,20,21] rfl rfl (mV rfl rfl (kp rfl .no Fx.go58 (Evc rfl Evn) (Gp.add .here Gp.nil) (fun _ hle hq=>rFault_ok L19 e19 s19 b _ RdNP.add) ?_)))))))
 refine cp rfl .no (.u rfl) (.u rfl) rfl (mV rfl rfl (mv rfl (.f rfl rfl) (.u rfl) (mv rfl (.f rfl rfl) (.u rfl) (ls rfl (.f rfl rfl) Fx.st9 (.s rfl) (cw rfl (.f rfl rfl) Fx.cv3_24 (.s rfl) (fun hc=>wrap_u64 (by (try simp only [Bool.and_eq_true,decide_eq_true_eq,Bool.not_eq_true',Bool.or_eq_false_iff,decide_eq_false_iff_not] at hc); omega) (by (try simp only [Bool.and_eq_true,decide_eq_true_eq,Bool.not_eq_true',Bool.or_eq_false_iff,decide_eq_false_iff_not] at hc); omega)) ?_)))))
 refine cp rfl (.f rfl rfl) (.s rfl) (.s rfl) rfl (pkO rfl .no (.u rfl) (.s rfl) (mV rfl rfl (mv rfl (.f rfl rfl) (.u rfl) (mv rfl (.f rfl rfl) (.u rfl) (cp rfl (.f rfl rfl) (.s rfl) (.s rfl) rfl (pkO rfl .no (.u rfl) (.s rfl) (mV rfl rfl (mv rfl (.f rfl rfl) (.u rfl) (mv rfl (.f rfl rfl) (.u rfl) (mv rfl (.f rfl rfl) (.u rfl) (ar rfl (.f rfl rfl) (.s rfl) (.s rfl) rfl (fun hc=>wrap_u64 (by (try simp only [Bool.and_eq_true,decide_eq_true_eq,Bool.not_eq_true',Bool.or_eq_false_iff,decide_eq_false_iff_not] at hc); omega) (by (try simp only [Bool.and_eq_true,decide_eq_true_eq,Bool.not_eq_true',Bool.or_eq_false_iff,decide_eq_false_iff_not] at hc); omega)) ?_)))))))))))
 refine cp rfl (.f rfl rfl) (.s rfl) (.s rfl) rfl (pkO rfl .no (.u rfl) (.s rfl) (.nil (.code (.cond rfl (fun c1=>?_) (fun c1=>?_)))))
 ·have c1k:=c1
  try simp only [qcA,qcC,qcB] at c1
  refine .seq (rq4 rfl rfl (bC rfl .no Fx.bp43_ .nil rfl ?_))
  refine sw rfl (.u rfl) (.u rfl) rfl Fx.sz43 tk1 (by first|rfl|exact Ent.len _) (Ent.one _) ?_
  refine aS rfl rfl (aS rfl rfl (.nil (.code (.ret (We.fin0 Tryd.results77 (.cell rfl (fun w hw=>run_loadVarN Fx.ag43 (RdN.own .here) (Ent.len _) hw) (.tmp rfl (.tmp rfl .nil))) ?_)))))
  exact .inl ⟨by rw [tv_num hN15 hN17 hN19,if_neg (fun q=>by omega)],rfl,Ent.zero,ByteArray.empty,rfl⟩
 have c1k:=c1
 try simp only [qcA,qcC,qcB] at c1
 refine .skip (.code (.seq ?_))
 obtain rfl:e19=0:=by omega
 refine Wk.draw (mc:=⟨true,false⟩) [0,1,2,3,4,5,6,7] Fx.mix (by kernel_rfl) ?_
 refine mV rfl rfl (mV rfl rfl (sE (n15) rfl .no Fx.st9 (.u rfl) (.u rfl) (fun _=>by omega) (fun _=>by omega) ?_))
 refine mV rfl rfl (mV rfl rfl (ka rfl (.inl rfl) Fx.go83 (Evc rfl (Evc rfl Evn)) (mtk1 .here) (text_ok L19 s19 b n17 _ hs19 (by omega) (by omega)) ?_))
 rintro _ G51 μ51 hG51 ⟨s51,rfl,rfl,hs51⟩
 refine sP rfl .no (.u rfl) (.u rfl) (fun _=>by simp only [bstr_len,List.length_take,yb_len]; omega) ?_
 refine aS rfl rfl (.nil (.code (.seq ?_)))
 generalize hkey:bstr (yb (bstr ((yb last).take n15))++yb (bstr (L19.take n17)))=key
 have eky:yb key=(yb last).take n15++L19.take n17:=by rw [← hkey,yb_bstr,yb_bstr,yb_bstr]
 have lky:key.size≤200000000:=by rw [← yb_len,eky,List.length_append,List.length_take,List.length_take,yb_len]; omega
 refine rq8 rfl rfl (mV rfl rfl (kv rfl .no Fx.go84 (Evc rfl Evn) (fun _=>eTake_ok key _ (by omega)) ?_))
 refine mV rfl rfl (ex rfl .no (.u rfl) rfl (ex rfl .no (.u rfl) rfl ?_))
 refine al rfl Fx.zq43 ?_; intro b12
 refine sw rfl (.u rfl) (.u rfl) rfl Fx.sz43 .here (by first|rfl|exact Ent.len _) (Ent.one _) ?_
 refine aS rfl rfl (.nil (.code (.seq (rq5 rfl rfl (mV rfl rfl (mV rfl rfl (ka rfl (.inr rfl) Fx.go83 (Evc rfl (Evc rfl Evn)) (mtk1 tk1) (text_ok (L19.drop n17) s51 b n19 _ hs51 (by rw [List.length_drop]; omega) (by rw [List.length_drop]; omega)) ?_)))))))
 rintro _ G60 μ60 hG60 ⟨s60,rfl,rfl,hs60⟩
 refine fz rfl .no Fx.fo43_3 (.u rfl) (s1 rfl (.u rfl) (.u rfl) rfl Fx.sz9 tk1 (show 3<4 by decide) (Ent.set3 _ _) ?_)
 refine .nil (.code (.seq ?_))
 by_cases hq:(takeE (yb key)).2=0
 ·refine rq7 rfl rfl (lA rfl .no Fx.ag43 (.u rfl) (fun _=>RdN.own .here) (fun _=>(by first|rfl|exact Ent.len _)) ?_)
  refine mV rfl rfl (mV rfl rfl (cp rfl .no (.u rfl) (.u rfl) rfl (sw rfl (.u rfl) (.u rfl) rfl Fx.sz43 tk2 (by first|rfl|exact Ent.len _) (Ent.one _) ?_)))
  refine aS rfl rfl (aS rfl rfl (.nil (.code (.ret (We.fin Tryd.results77 (.cell rfl (fun w hw=>run_loadVarN Fx.ag43 (RdN.own .here) (Ent.len _) hw) (.tmp rfl (.tmp rfl .nil))) (mS tk2 rfl mN) ?_)))))
  refine .inr ⟨{ (takeE (yb key)).1 with value:=bstr ((L19.drop n17).take n19) },key,(L19.drop n17).drop n19,s60,?_,rfl,?_,hs60⟩
  ·rw [tv_num hN15 hN17 hN19,if_pos ⟨rfl,by omega,by omega,by omega⟩,←eky,if_pos hq]
  rw [show ((takeE (yb key)).2 == 0)=true by rw [hq]; rfl]; rfl
 refine rq7 rfl rfl (lA rfl .no Fx.ag43 (.u rfl) (fun _=>RdN.own .here) (fun _=>(by first|rfl|exact Ent.len _)) ?_)
 refine mV rfl rfl (mV rfl rfl (cp rfl .no (.u rfl) (.u rfl) rfl (sw rfl (.u rfl) (.u rfl) rfl Fx.sz43 tk2 (by first|rfl|exact Ent.len _) (Ent.one _) ?_)))
 refine aS rfl rfl (aS rfl rfl (.nil (.code (.ret (We.fin0 Tryd.results77 (.cell rfl (fun w hw=>run_loadVarN Fx.ag43 (RdN.own .here) (Ent.len _) hw) (.tmp rfl (.tmp rfl .nil))) ?_)))))
 refine .inl ⟨?_,rfl,{ (takeE (yb key)).1 with value:=bstr ((L19.drop n17).take n19) },key,?_⟩
 ·rw [tv_num hN15 hN17 hN19,if_pos ⟨rfl,by omega,by omega,by omega⟩,←eky,if_neg hq]
 rw [show ((takeE (yb key)).2 == 0)=false from beq_eq_false_iff_ne.2 hq]; rfl
theorem bTake_no (xs:List Y) (s:Sh) (b:Nat) (last:ByteArray) (G:PM) (hs:SlR G 1 encY s xs) (hl:xs.length≤100000000) (hk:last.size≤100000000) (hq:takeV (yb last) xs=none):Ct Tryd.prog 77 ([.pointer (some ⟨b,0,none⟩),.string last]:List Value).toArray G [.blk b (cl [s.val xs.length,.int .i64 0] 145)] (fun _ μ' u=>∃ (E:Ent) (key:ByteArray),μ'=[]∧u=.tuple #[E.val,.string key,.bool false]) :=
 (bTake_ok xs s b last G hs hl hk).mono fun G' μ' u hh=>by
  rcases hh with ⟨_,h1,E,key,h2⟩ | ⟨E,key,L,s',h1,_⟩
  ·exact ⟨E,key,h1,h2⟩
  ·rw [hq] at h1; cases h1
theorem bTake_yes (xs:List Y) (s:Sh) (b:Nat) (last:ByteArray) (G:PM) (hs:SlR G 1 encY s xs) (hl:xs.length≤100000000) (hk:last.size≤100000000) {E:Ent} {K L:List Y} (hq:takeV (yb last) xs=some (E,K,L)):Ct Tryd.prog 77 ([.pointer (some ⟨b,0,none⟩),.string last]:List Value).toArray G [.blk b (cl [s.val xs.length,.int .i64 0] 145)] (fun G' μ' u=>∃ key s',yb key=K∧μ'=[.blk b (cl [Sh.val s' L.length,.int .i64 0] 145)]∧u=.tuple #[E.val,.string key,.bool true]∧SlR G' 1 encY s' L) :=
 (bTake_ok xs s b last G hs hl hk).mono fun G' μ' u hh=>by
  rcases hh with ⟨h1,_⟩ | ⟨E,key,L,s',h1,h2,h3,h4⟩
  ·rw [hq] at h1; cases h1
  ·rw [hq] at h1; cases h1; exact ⟨key,s',rfl,h2,h3,h4⟩
theorem bRead_ok (xs:List Y) (h:Sh) (G:PM) (hs:SlR G 1 encY h xs) (hl:xs.length≤1000000):Ct Tryd.prog 63 ([h.val xs.length]:List Value).toArray G [] (fun G' μ' u=>∃ (h':Sh) (l:List Ent) (er:Int),(l,er)=readB xs∧μ'=[]∧u=.tuple #[h'.val l.length,.int .i64 er]∧SlR G' 4 Ent.cells h' l):=by
 refine Ct.of Tryd.func63 rfl Tryd.ntmps63 rfl fun w0 hs0=>?_
 refine .seq (rq2 rfl rfl (aS rfl rfl (aS rfl rfl (.nil (.code (.seq (rq3 rfl rfl (mV rfl rfl (kc rfl Fx.go54 (Evc rfl Evn) (wcNew_ok xs h _ hs (by omega)) ?_)))))))))
 rintro _ G15 μ15 hG15 ⟨b15,s15,rfl,rfl,hs15⟩
 have hs:=hs.mono hG15
 refine aS rfl rfl (.nil (.code (.seq (rq6 rfl rfl (mV rfl rfl (ka rfl (.inr rfl) Fx.go57 (Evc rfl Evn) (mtk1 .here) (rNum_ok xs 0 s15 b15 _ hs15 (by omega)) ?_))))))
 rintro _ G17 μ17 hG17 ⟨n17,L17,e17,s17,hN17,rfl,rfl,hs17⟩
 have lL17:=rdnum_le hN17; have nL17:=rdnum_lt hN17; simp only at lL17
 have hs:=hs.mono hG17
 refine mV rfl rfl (ka rfl (.inr rfl) Fx.go57 (Evc rfl Evn) (mtk1 .here) (rNum_ok L17 e17 s17 b15 _ hs17 (by omega)) ?_)
 rintro _ G19 μ19 hG19 ⟨n19,L19,e19,s19,hN19,rfl,rfl,hs19⟩
 have lL19:=rdnum_le hN19; have nL19:=rdnum_lt hN19; simp only at lL19
 have hs:=hs.mono hG19
 refine aS rfl rfl (aS rfl rfl (.nil (.code (.seq (.seq (rq7 rfl rfl (mV rfl rfl (kp rfl .no Fx.go58 (Evc rfl Evn) (Gp.add .here Gp.nil) (fun _ hle hq=>rFault_ok L19 e19 s19 b15 _ RdNP.add) ?_))))))))
 refine cp rfl .no (.u rfl) (.u rfl) rfl (mV rfl rfl (mv rfl (.f rfl rfl) (.u rfl) (cp rfl (.f rfl rfl) (.s rfl) (.u rfl) rfl (pkO rfl .no (.u rfl) (.s rfl) (.nil (.code (.cond rfl (fun c1=>?_) (fun c1=>?_))))))))
 ·have c1k:=c1
  try simp only [qcA,qcC,qcB] at c1
  refine .seq (rq2 rfl rfl (aS rfl rfl (aS rfl rfl (.nil (.code (.ret (We.fin0 Tryd.results63 (.tmp rfl (.tmp rfl .nil)) ?_)))))))
  exact ⟨⟨none,0⟩,[],100,rb_head hN17 hN19 c1,rfl,rfl,SlR.nul⟩
 have c1k:=c1
 try simp only [qcA,qcC,qcB] at c1
 refine .skip (.code (.seq (rq1 rfl rfl (aS rfl rfl (.nil (.code (.seq (.seq ?_))))))))
 obtain rfl:e19=0:=by omega
 refine wk_nilS 4 Ent.cells 43 (rq1 rfl rfl (aS rfl rfl (.nil (.code (.block ?_)))))
 refine Wk.lop (α:=Nat×ByteArray×Value×List Ent×List Y×Sh) (fun gh=>[(6,true,.int .u64 (gh.1:Int)),(7,true,gh.2.2.1),(8,true,.string gh.2.1)]) (fun gh=>[rS 4 Ent.cells gh.2.2.1 43 gh.2.2.2.1,.blk b15 (cl [Sh.val gh.2.2.2.2.2 gh.2.2.2.2.1.length,.int .i64 0] 145)])
  (fun gh Gl=>(entsP n19 [] [] L19=entsP gh.1 (yb gh.2.1) gh.2.2.2.1 gh.2.2.2.2.1)∧(gh.2.2.2.1.length+gh.2.2.2.2.1.length≤L19.length∧gh.2.1.size+gh.2.2.2.2.1.length≤L19.length)∧(gh.1≤n19)∧(SlR Gl 1 encY gh.2.2.2.2.2 gh.2.2.2.2.1)) (fun gh=>gh.1) (n19,ByteArray.empty,.slice none 0 0,[],L19,s19) [(0,true,_),(4,true,_),(5,true,_)] []
  (esD rfl (esD rfl (esD rfl (esD rfl (esD rfl (esD rfl eZ))))))
  (mS .here rfl (mS .here rfl mN)) ?_ ?_
 ·refine ⟨?_,?_,?_,?_⟩
  ·(try dsimp only)<;>(rw [yb_nil])
  ·(try dsimp only)<;>(exact ⟨by simp,Nat.le_of_eq (by rw [show ByteArray.empty.size=0 from rfl]; omega)⟩)
  ·(try dsimp only)<;>(first|omega|rfl|assumption|(simp; done))
  (try dsimp only)<;>(exact hs19)
 intro gh N0 Gl0 hN0 hGl0 hF0
 obtain ⟨m,last,v,acc,R,sR⟩:=gh; dsimp only at hF0 hN0 ⊢
 obtain ⟨hE,hlen,hm,hR⟩:=hF0
 have hs:=hs.mono hGl0
 refine .seq (.seq (rq2 rfl rfl (mV rfl rfl (cp rfl .no (.u rfl) (.u rfl) rfl (.nil (.code (.cond rfl (fun c2=>?_) (fun c2=>?_))))))))
 ·have c2k:=c2
  try simp only [qcA,qcC,qcB] at c2
  refine .skip (.code (.seq (.block (.seq ?_))))
  rcases hst:takeV (yb last) R with _ | ⟨E2,K2,R2⟩
  ·refine Wk.rg [0,1,2,3,4,5,6,7,8,9,10] rfl rfl (mV rfl rfl (mV rfl rfl (ka rfl (.inr rfl) Fx.go77 (Evc rfl (Evc rfl Evn)) (mtk1 tk1) (bTake_no R sR b15 last _ hR (by omega) (by omega) hst) ?_)))
   rintro _ G34 μ34 hG34 ⟨E34,key34,rfl,rfl⟩
   have hs:=hs.mono hG34
   have hR:=hR.mono hG34
   refine mV rfl rfl (ex rfl .no (.u rfl) rfl (ex rfl .no (.u rfl) rfl (ex rfl .no (.u rfl) rfl ?_)))
   refine al rfl Fx.zq43 ?_; intro b9
   refine sw rfl (.u rfl) (.u rfl) rfl Fx.sz43 .here (by first|rfl|exact Ent.len _) (Ent.one _) ?_
   refine aS rfl rfl (aS rfl rfl (.nil (.code (.seq (.seq (rq2 rfl rfl (mV rfl rfl (nt rfl .no (.u rfl) (.nil (.code (Wk.condT rfl rfl ?_)))))))))))
   refine .seq (rq2 rfl rfl (aS rfl rfl (aS rfl rfl (.nil (.code (.ret (We.fin0 Tryd.results63 (.tmp rfl (.tmp rfl .nil)) ?_)))))))
   exact ⟨⟨none,0⟩,[],100,rb_lost hN17 hN19 ⟨rfl,by omega⟩ (by rw [hE]; exact en_none (by omega) hst),rfl,rfl,SlR.nul⟩
  refine Wk.rg [0,1,2,3,4,5,6,7,8,9,10] rfl rfl (mV rfl rfl (mV rfl rfl (ka rfl (.inr rfl) Fx.go77 (Evc rfl (Evc rfl Evn)) (mtk1 tk1) (bTake_yes R sR b15 last _ hR (by omega) (by omega) hst) ?_)))
  rintro _ G34 μ34 hG34 ⟨key34,s34,rfl,rfl,rfl,hs34⟩
  have hs:=hs.mono hG34
  refine mV rfl rfl (ex rfl .no (.u rfl) rfl (ex rfl .no (.u rfl) rfl (ex rfl .no (.u rfl) rfl ?_)))
  refine al rfl Fx.zq43 ?_; intro b9
  refine sw rfl (.u rfl) (.u rfl) rfl Fx.sz43 .here (by first|rfl|exact Ent.len _) (Ent.one _) ?_
  refine aS rfl rfl (aS rfl rfl (.nil (.code (.seq (.seq (rq2 rfl rfl (mV rfl rfl (nt rfl .no (.u rfl) (.nil (.code (Wk.condF rfl rfl ?_)))))))))))
  refine .skip (.code (rq7 rfl rfl (mV rfl rfl (lA rfl .no Fx.ag43 (.u rfl) (fun _=>RdN.own .here) (fun _=>(by first|rfl|exact Ent.len _)) ?_))))
  refine Go.Tan.b1 rfl Fx.se31 Fx.zw43 (.u rfl) rfl rfl (by decide) ?_; intro b42
  refine apS (xs:=acc) (E2) rfl Fx.se31 Fx.zw43 rfl (.u rfl) (.u rfl) tk3 .here (Ent.len _) (Ent.one _) (by omega) (by unfold maxLen; omega) ?_; intro v43 ov43
  refine mV rfl rfl (aS rfl rfl (aS rfl rfl (.nil (.blk (.code (rq3 rfl rfl (mV rfl rfl (ar rfl .no (.u rfl) (.u rfl) rfl (fun _=>wrap_u64 (by omega) (by omega)) ?_))))))))
  refine aS rfl rfl (.nil (We.lpo (m-1,key34,v43,acc++[E2],R2,s34) ?_ ?_ ?_ ?_ ?_))
  ·exact (esC rfl (congrArg (Value.int .u64) (by dsimp only; omega)) (esD rfl (esD rfl (esD rfl (esD rfl (esD rfl eZ))))))
  ·exact (mS .here rfl (mS tk2 rfl mN))
  ·first|omega|(dsimp only; omega)
  ·exact (hGl0).trans hG34
  refine ⟨?_,?_,?_,?_⟩
  ·(try dsimp only)<;>(rw [hE]; exact en_some (by omega) hst)
  ·(try dsimp only)<;>(have ht:=tv_len hst; rw [yb_len,yb_len] at ht; rw [List.length_append]; simp only [List.length_cons,List.length_nil]; omega)
  ·(try dsimp only)<;>(first|omega|rfl|assumption|(simp; done))
  (try dsimp only)<;>(exact hs34)
 have c2k:=c2
 try simp only [qcA,qcC,qcB] at c2
 refine .exit (.xcode (.xlp (.xblk (.code (.seq (.seq ?_))))))
 refine wk_fs .here (fun _ _=>rfl) (by intro b hb; cases hb) ?_; intro GfRL hRL hleRL evRL hsRL; subst evRL
 have hs:=hs.mono hleRL
 refine rq9 rfl rfl (mV rfl rfl (mV rfl rfl (cw rfl .no Fx.cv24_3 (.u rfl) (fun _=>wrap_i64 (by omega) (by omega)) ?_)))
 refine kc rfl Fx.go25 (Evc rfl (Evc rfl Evn)) (bBuild_ok hRL acc (n17:Int) _ hsRL (by omega)) ?_
 rintro _ G49 μ49 hG49 ⟨v49,L49,er49,hB49,rfl,rfl⟩
 have hs:=hs.mono hG49
 have hsRL:=hsRL.mono hG49
 refine mV rfl rfl (ex rfl .no (.u rfl) rfl (ex rfl .no (.u rfl) rfl (aS rfl rfl (aS rfl rfl (.nil (.code (.seq ?_)))))))
 refine wk_fb .here (by first|(intro b hb; cases hb; done) | simp [keys,Res.keys]) ?_; intro GfR49 hR49 hleR49 evR49 hsR49; subst evR49
 have hs:=hs.mono hleR49
 have hsRL:=hsRL.mono hleR49
 refine rq8 rfl rfl (mV rfl rfl (cp rfl .no (.u rfl) (.u rfl) rfl (mV rfl rfl (mv rfl (.f rfl rfl) (.u rfl) (mv rfl (.f rfl rfl) (.u rfl) ?_)))))
 have l49:=bld_len hB49
 refine kv rfl (.f rfl rfl) Fx.go78 (Eva.cons (.s rfl) (Eva.cons (.s rfl) Evn)) (fun hc=>sEqual_ok L49 xs hR49 h _ hsR49 hs (by (try simp only [Bool.and_eq_true,decide_eq_true_eq,Bool.not_eq_true',Bool.or_eq_false_iff,decide_eq_false_iff_not] at hc); omega)) ?_
 refine nt rfl (.f rfl rfl) (.s rfl) (pkO rfl .no (.u rfl) (.s rfl) (.nil (.code (.cond rfl (fun c3=>?_) (fun c3=>?_)))))
 ·have c3k:=c3
  try simp only [qcA,qcC,qcB] at c3
  refine .seq (rq2 rfl rfl (aS rfl rfl (aS rfl rfl (.nil (.code (.ret (We.fin0 Tryd.results63 (.tmp rfl (.tmp rfl .nil)) ?_)))))))
  exact ⟨⟨none,0⟩,[],100,rb_bad hN17 hN19 ⟨rfl,by omega⟩ (by rw [hE,show m=0 by omega]; rfl) hB49 c3,rfl,rfl,SlR.nul⟩
 have c3k:=c3
 try simp only [qcA,qcC,qcB] at c3
 refine .skip (.code (.seq (rq3 rfl rfl (mV rfl rfl (aS rfl rfl (aS rfl rfl (.nil (.code (.ret (We.fin0 Tryd.results63 (.tmp rfl (.tmp rfl .nil)) ?_))))))))))
 exact ⟨hRL,acc,0,rb_good hN17 hN19 ⟨rfl,by omega⟩ (by rw [hE,show m=0 by omega]; rfl) hB49 c3.1 c3.2,rfl,rfl,hsRL⟩
end Go.Proofs.YtbdnclpopappeaaDoor
namespace Go.Tan
section
variable {α:Type} {lt:α→α→Bool}
end
theorem flat_tk {α:Type} {enc:α→List Value} {sz:Nat}:∀ {xs:List α} {q:Nat},(∀ y∈xs,(enc y).length=sz)→(xs.take q).flatMap enc=(xs.flatMap enc).take (q*sz)
 | [],q,_=>by simp
 | x :: xs,0,_=>by simp
 | x :: xs,q+1,h=>by
  have hx:=h x (List.mem_cons_self ..)
  rw [List.take_succ_cons,List.flatMap_cons,List.flatMap_cons,show (q+1)*sz=(enc x).length+q*sz by rw [hx,Nat.succ_mul]; omega,List.take_length_add_append,flat_tk (fun y hy=>h y (List.mem_cons_of_mem _ hy))]
section
variable {dr:Bool} {mc:Md} {P:Program} {n:Fm} {l:List Oper} {K:Env→PM→Mem→Prop} {i:Nat} {σ:List Nat} {ρ:Env} {G:PM} {μ:Mem}
variable {d t:Nat} {p:String} {af:Array Edge} {g:Option (Nat×Bool)} {c:Bool}
theorem sr1 {T T':TypeId} {x y:Operand} {k k':IntKind} {a1 a2:Int} (A:Nat) (ho:nth l i=some ⟨some d,.binOp .shr T x y T',t,p,af,g⟩) (hg:Gd l ρ g c) (hx:Ev ρ c x (.int k a1)) (hy:Ev ρ c y (.int k' a2)) (e1:a1=A) (e2:a2=1) (hk:1≤k.bits)
  (h:Wo dr mc P n l K σ ((d,c,.int k ((A / 2:Nat):Int)) :: ρ) G μ):Wo dr mc P n l K (i :: σ) ρ G μ:=by
 subst e1; subst e2
 refine sr ho hg hx hy (fun _=>by decide) ?_
 have e:(A:Int).fdiv (2^(min (1:Int).toNat k.bits))=((A / 2:Nat):Int):=by
  have:min (1:Int).toNat k.bits=1:=by show min 1 k.bits=1; omega
  rw [this,Int.pow_one,Int.fdiv_eq_ediv_of_nonneg _ (by decide)]
  rfl
 rw [e]; exact h
theorem srh {T e sz by':Nat} {x z:Operand} {b m cap:Nat} {k:IntKind} {hi:Int} (q:Nat) (ho:nth l i=some ⟨some d,.slice T x none (some z) none,t,p,af,none⟩) (hT:slE P T=some (e,sz,by')) (hx:Ev ρ true x (.slice (some ⟨b,0,none⟩) m cap)) (hz:Ev ρ true z (.int k hi))
  (hq:hi=q) (h1:q≤cap) (h:Wo dr mc P n l K σ ((d,true,.slice (some ⟨b,0,none⟩) q cap) :: ρ) G μ):Wo dr mc P n l K (i :: σ) ρ G μ:=by
 subst hq
 exact se (s:=⟨some ⟨b,0,none⟩,cap⟩) (m:=m) ho .no hT hx hz (fun _=>by omega) (fun _=>by show (q:Int)≤cap; omega) (by rw [Int.toNat_natCast]; exact h)
theorem clT {α:Type} {enc:α→List Value} {T E sz by' b cap k cp:Nat} {x:Operand} {z:Value} {xs:List α} {μ':Mem} {dd:Option Nat} (ho:nth l i=some ⟨dd,.call { callee:=.builtin .clear,args:=#[x],argTypes:=#[T] },t,p,af,none⟩) (hT:slE P T=some (E,sz,by')) (hz:(P.info? E).bind (·.zero)=some z) (hzs:z.cells.size=sz) (hz1:∀ u∈z.cells,u.oneCell'=true)
  (hx:Ev ρ true x (.slice (some ⟨b,xs.length*sz,none⟩) k cp)) (hm:MTake μ (rS sz enc (.slice (some ⟨b,0,none⟩) xs.length cap) E xs) μ') (h0:0<k) (hk:xs.length+k≤cap) (hsz:∀ y∈xs,(enc y).length=sz)
  (h:Wo dr mc P n l K σ (lay ρ dd true (.tuple #[])) G (rS sz enc (.slice (some ⟨b,0,none⟩) xs.length cap) E xs :: μ')):Wo dr mc P n l K (i :: σ) ρ G μ:=by
 refine .act (μ₁:=[rS sz enc (.slice (some ⟨b,0,none⟩) xs.length cap) E xs]) (μ₂:=μ') (post:=fun G' μ' v'=>G'=G∧v'=.tuple #[]∧μ'=[rS sz enc (.slice (some ⟨b,0,none⟩) xs.length cap) E xs]) ho (.inl rfl) .no hm.perm (fun a w ha hs=>.inl ?_) ?_
 ·have hs':=hs.left
  have hrow:w.ownsRow 0 E sz (.slice (some ⟨b,0,none⟩) xs.length cap) xs.length (xs.flatMap enc):=hs'.own _ (List.mem_singleton.2 rfl)
  have hfl:=flat_len hsz
  obtain ⟨hu,inf,hi,rfl,rfl⟩:=slE_some hT
  rw [hi] at hz
  simp only [Option.bind_some] at hz
  rcases hrow.2 with ⟨e,_⟩ | ⟨g,cap',cur,e,_,hg,hnc,hcm,hcs,htake⟩
  ·cases e
  simp only [Value.slice.injEq,Option.some.injEq,Addr.mk.injEq,and_true,true_and] at e
  obtain ⟨rfl,rfl⟩:=e
  have hsat:Sat G [.blk b (.cells cur E (0,0))] w:=⟨hs'.sub,fun r hr=>by rw [List.mem_singleton.1 hr]; exact hg,fun c hc=>hs'.apart c (by simpa [keys,Res.keys,Value.ownBlock] using hc),by simp [keys,Res.keys]⟩
  have hzl:(Builtin.zeroCells z.cells k).toList.length=k*inf.size:=by rw [Array.length_toList,size_zeroCells,hzs]
  have hin:xs.length*inf.size+k*inf.size≤cap*inf.size:=by rw [← Nat.add_mul]; exact Nat.mul_le_mul_right _ hk
  have hz2:∀ u∈(Builtin.zeroCells z.cells k).toList,u.oneCell'=true:=by
   intro u hu
   rw [Array.mem_toList_iff] at hu
   unfold Builtin.zeroCells at hu
   obtain ⟨j,hj,rfl⟩:=Array.mem_map.1 hu
   have hjs:j%z.cells.size<z.cells.size:=Nat.mod_lt _ (by
    rcases Nat.eq_zero_or_pos z.cells.size with h0' | h0'
    ·rw [h0'] at hj; simp at hj
    exact h0')
   have:z.cells[j%z.cells.size]! = z.cells[j%z.cells.size]:=by simp [hjs]
   rw [this]
   exact hz1 _ (Array.getElem_mem hjs)
  have hst:=run_storeCells_at P b (xs.length*inf.size) E (Builtin.zeroCells z.cells k).toList 0 cur w hg (by rw [Nat.add_zero,hzl]; omega) hz2
  simp only [Nat.add_zero] at hst
  refine ⟨.tuple #[],w.setRow b (cur.toList.take (xs.length*inf.size)++(Builtin.zeroCells z.cells k).toList++cur.toList.drop (xs.length*inf.size+(Builtin.zeroCells z.cells k).toList.length)).toArray,G,_,.inl (by
   have hk0:k≠0:=by omega
   simp [execOp,resolve,invoke,builtin,hx.eval ha rfl,Builtin.clear_,run_underlying hu,zeroValue,typeInfo,hi,hz,hst]),?_,rfl,rfl,rfl⟩
  have hkk:keys [rS inf.size enc (.slice (some ⟨b,0,none⟩) xs.length cap) E xs]=[b]:=by simp [keys,Res.keys,Value.ownBlock]
  rw [hkk]
  have h2:=Tr.setArr (cs':=(cur.toList.take (xs.length*inf.size)++(Builtin.zeroCells z.cells k).toList++cur.toList.drop (xs.length*inf.size+(Builtin.zeroCells z.cells k).toList.length)).toArray) hsat
  have hcl:cur.toList.length=cur.size:=Array.length_toList ..
  refine h2.asRow (m:=xs.length) (cap:=cap) (sz:=inf.size) hfl (by omega) hcm ?_ ?_
  ·simp only [List.size_toArray,qlB,hcl,hzl]
   omega
  rw [List.append_assoc,List.take_append_of_le_length (by rw [List.length_take,hcl]; omega),List.take_take,Nat.min_self,htake]
 rintro v' G' μ'' _ ⟨rfl,rfl,rfl⟩
 exact h
end
theorem Ct.lendS {α:Type} {enc:α→List Value} {sz:Nat} {P:Program} {G:PM} {μ:Mem} {f:FuncId} {args:Array Value} {E:Nat} {v:Value} {xs:List α} {Q:Mem→Value→Prop} (hsz:∀ x∈xs,(enc x).length=sz)
  (h:∀ (s:Sh) (G2:PM),PM.le G G2→v=s.val xs.length→SlR G2 sz enc s xs→Ct P f args G2 μ (fun _ μ' u=>Q μ' u)):Ct P f args G (rS sz enc v E xs :: μ) (fun _ μ' u=>∃ ν,μ'=rS sz enc v E xs :: ν∧Q ν u):=by
 intro w hs
 have hrow:w.ownsRow 0 E sz v xs.length (xs.flatMap enc):=hs.own _ (List.mem_cons_self ..)
 have hnd:=hs.nodup
 rcases hrow.2 with ⟨rfl,h0⟩ | ⟨g,cap,cur,rfl,_,hg,hnc,hcm,hcs,htake⟩
 ·have hx:xs=[]:=List.eq_nil_of_length_eq_zero h0
  subst hx
  have hk:keys (rS sz enc (.slice none 0 0) E ([]:List α) :: μ)=keys μ:=by simp [keys,Res.keys,Value.ownBlock]
  have hs2:Sat G μ w:=⟨hs.sub,fun r hr=>hs.own r (List.mem_cons_of_mem _ hr),by rw [← hk]; exact hs.apart,by rw [← hk]; exact hs.nodup⟩
  refine (h ⟨none,0⟩ G (PM.le.refl G) rfl SlR.nul w hs2).mono ?_
  rintro e w' ⟨u,G',μ',rfl,ht,hQ⟩
  refine ⟨u,G',_,rfl,?_,μ',rfl,hQ⟩
  rw [hk]; exact ht.nilRow
 have hk:keys (rS sz enc (.slice (some ⟨g,0,none⟩) xs.length cap) E xs :: μ)=keys (.blk g (.cells cur E (0,0)) :: μ):=by simp [keys,Res.keys,Value.ownBlock]
 have hs2:Sat G (.blk g (.cells cur E (0,0)) :: μ) w:=by
  refine ⟨hs.sub,fun r hr=>?_,by rw [← hk]; exact hs.apart,by rw [← hk]; exact hs.nodup⟩
  rcases List.mem_cons.1 hr with rfl | hr
  ·exact hg
  exact hs.own r (List.mem_cons_of_mem _ hr)
 have hGg:G g=none:=hs2.apart g (by simp [keys,Res.keys])
 have hsl:SlR (G.add g (.cells cur E (0,0))) sz enc ⟨some ⟨g,0,none⟩,cap⟩ xs:=by
  refine SlR.ofRow hsz hnc (fun _=>rfl) ?_
  intro j u hj w' hs'
  show w'.cell? ⟨g,0+j,none⟩=some u
  rw [Nat.zero_add,cell_of_row w' g j cur E (0,0) (hs' g _ (PM.add_same G g _))]
  rw [← htake,List.getElem?_take] at hj
  split at hj
  ·simpa using hj
  cases hj
 refine (Ct.lend (h ⟨some ⟨g,0,none⟩,cap⟩ _ (PM.le_add hGg) rfl hsl) w hs2).mono ?_
 rintro e w' ⟨u,G',μ',rfl,ht,ν,rfl,hQ⟩
 refine ⟨u,G',_,rfl,?_,ν,rfl,hQ⟩
 rw [hk]
 exact ht.asRow (flat_len hsz) hnc hcm hcs htake
section
variable {α:Type}
theorem gd_at {l:List α} {k:Nat} {z:α} (h:k<l.length):l[k]? = some (l.getD k z):=by simp [h]
end
abbrev TM:=Meta×Nat
def ms (T:List TM):List Meta:=T.map (·.1)
section
variable {lt:Meta→Meta→Bool}
end
section
variable {cv:Meta→Meta→Int} {P A B R:List TM}
end
section
variable {lt:Meta→Meta→Bool} {bs:Nat} {T O:List TM}
end
structure Mn where
 st:State
 mark:BitVec 64
 n:Nat
section
variable {m:Mn} {p:List Y} {e:Edit} {x:State}
end
theorem Tr.cutRow {G0 G:PM} {K0:List Nat} {w0 w:World} {μ:Mem} {b E sz m cap q:Nat} {xs:List Value} (h:Tr G0 K0 w0 G (.row (.slice (some ⟨b,0,none⟩) m cap) E sz m xs :: μ) w) (hq:q≤m) :
  Tr G0 K0 w0 G (.row (.slice (some ⟨b,0,none⟩) q cap) E sz q (xs.take (q*sz)) :: μ) w:=by
 have hk:keys (.row (.slice (some ⟨b,0,none⟩) q cap) E sz q (xs.take (q*sz)) :: μ)=keys (.row (.slice (some ⟨b,0,none⟩) m cap) E sz m xs :: μ):=by simp [keys,Res.keys,Value.ownBlock]
 have hrow:w.ownsRow 0 E sz (.slice (some ⟨b,0,none⟩) m cap) m xs:=h.sat.own _ (List.mem_cons_self ..)
 refine { h with sat:=⟨h.sat.sub,fun r hr=>?_,by rw [hk]; exact h.sat.apart,by rw [hk]; exact h.sat.nodup⟩,mine:=by rw [hk]; exact h.mine }
 rcases List.mem_cons.1 hr with rfl | hr
 ·have hl:=hrow.1
  have hqs:q*sz≤m*sz:=Nat.mul_le_mul_right _ hq
  rcases hrow.2 with ⟨e,_⟩ | ⟨g,cap',cur,e,h0,hg,hnc,hcm,hcs,htake⟩
  ·cases e
  simp only [Value.slice.injEq,Option.some.injEq,Addr.mk.injEq,and_true,true_and] at e
  obtain ⟨rfl,rfl⟩:=e
  refine ⟨by rw [List.length_take,hl,Nat.min_eq_left hqs],.inr ⟨b,cap,cur,rfl,h0,hg,by omega,hcm,hcs,?_⟩⟩
  rw [← htake,List.take_take,Nat.min_eq_left hqs]
 exact h.sat.own r (List.mem_cons_of_mem _ hr)
theorem wk_popS {α:Type} {enc:α→List Value} {sz:Nat} {X:Cx} {cd:Code} {k:List KI} {ρ:Env} {G:PM} {μ μ':Mem} {b cap E:Nat} {xs:List α} (A B:List α) (hsz:∀ x∈xs,(enc x).length=sz) (hm:MTake μ (rS sz enc (.slice (some ⟨b,0,none⟩) xs.length cap) E xs) μ') (e:xs=A++B)
  (h:Wk X cd k ρ G (rS sz enc (.slice (some ⟨b,0,none⟩) A.length cap) E A :: μ')):Wk X cd k ρ G μ :=
 ⟨fun a w ha ht=>h.out a w ha (by
  subst e
  have:=(ht.perm hm.perm).cutRow (q:=A.length) (by rw [List.length_append]; omega)
  rw [← flat_tk hsz,List.take_left] at this
  exact this)⟩
section
variable {dr:Bool} {mc:Md} {P:Program} {n:Fm} {l:List Oper} {K:Env→PM→Mem→Prop} {i:Nat} {σ:List Nat} {ρ:Env} {G:PM} {μ:Mem}
variable {d t:Nat} {p:String} {af:Array Edge} {g:Option (Nat×Bool)} {c:Bool}
theorem and1 (A:Nat):BitVec.ofNat 64 A &&& BitVec.ofNat 64 1=BitVec.ofNat 64 (A%2):=by
 apply BitVec.eq_of_toNat_eq
 rw [BitVec.toNat_and,BitVec.toNat_ofNat,BitVec.toNat_ofNat,BitVec.toNat_ofNat,show 1%2^64=1 from rfl,Nat.and_one_is_mod]
 omega
theorem an1 {T T':TypeId} {x y:Operand} {a1 a2:Int} (A:Nat) (ho:nth l i=some ⟨some d,.binOp .and T x y T',t,p,af,g⟩) (hg:Gd l ρ g c) (hx:Ev ρ c x (.int .i64 a1)) (hy:Ev ρ c y (.int .i64 a2)) (e1:a1=A) (e2:a2=1)
  (h:Wo dr mc P n l K σ ((d,c,.int .i64 ((A%2:Nat):Int)) :: ρ) G μ):Wo dr mc P n l K (i :: σ) ρ G μ :=
 .pure ho (.inl rfl) hg (fun hc q w ha=>by
  subst e1; subst e2
  have hb:(binOp .and T (.int .i64 (A:Int)) (.int .i64 1)).run P w=.ok (.int .i64 ((A%2:Nat):Int)) w:=by
   have e1:BitVec.ofInt 64 (A:Int)=BitVec.ofNat 64 A:=by simp
   have e2:BitVec.ofInt 64 (1:Int)=BitVec.ofNat 64 1:=rfl
   have h4:IntKind.i64.wrap ((BitVec.ofNat 64 (A%2)).toNat:Int)=((A%2:Nat):Int):=by
    rw [BitVec.toNat_ofNat,Nat.mod_eq_of_lt (by omega)]
    exact wrap_i64 (by omega) (by omega)
   have h5:(Op.intBits .and .i64 (A:Int) 1)=pure (.int .i64 (IntKind.i64.wrap ((BitVec.ofInt 64 (A:Int) &&& BitVec.ofInt 64 (1:Int)).toNat:Int))):=rfl
   have h6:binOp .and T (.int .i64 (A:Int)) (.int .i64 1)=Op.intBits .and .i64 (A:Int) 1:=rfl
   rw [h6,h5,e1,e2,and1,h4]; rfl
  simp only [execOp,hx.eval ha hc,hy.eval ha hc,Sem.run_bind,eqGuard_int,Result.andThen_ok,hb]; rfl) h
end
def stkL (S:List (Nat×Dg)):List Dg:=(S.map (·.2)).reverse
theorem stkL_cons (a:Nat) (r:Dg) (S:List (Nat×Dg)):stkL ((a,r) :: S)=stkL S++[r]:=by simp [stkL]
theorem stkL_len (S:List (Nat×Dg)):(stkL S).length=S.length:=by simp [stkL]
def zD:Dg:=fun _=>0#8
theorem stkL_last (a:Nat) (r:Dg) (S:List (Nat×Dg)):(stkL ((a,r) :: S)).getD S.length zD=r:=by
 rw [stkL_cons,List.getD_eq_getElem?_getD,List.getElem?_append_right (by rw [stkL_len]; omega),stkL_len,Nat.sub_self]; rfl
def finB (d:Dg) (L:List Dg):Nat→Dg
 | 0=>d
 | j+1=>finB (joinD (L.getD j zD) d) L j
theorem finB_app:∀ (j:Nat) (d x:Dg) (L:List Dg),j≤L.length→finB d (L++[x]) j=finB d L j
 | 0,_,_,_,_=>rfl
 | j+1,d,x,L,h=>by
  have e:(L++[x]).getD j zD=L.getD j zD:=by rw [List.getD_eq_getElem?_getD,List.getElem?_append_left (by omega),←List.getD_eq_getElem?_getD]
  simp only [finB,e]; exact finB_app j _ x L (by omega)
theorem finB_pred {j:Nat} {d:Dg} {L:List Dg} (h:0<j):finB d L j=finB (joinD (L.getD (j-1) zD) d) L (j-1):=by
 obtain ⟨i,rfl⟩ : ∃ i,j=i+1:=⟨j-1,by omega⟩
 rfl
theorem stk_top {S S3:List (Nat×Dg)} {a:Nat} {s:Dg} (h:S=(a,s) :: S3):(stkL S).getD ((stkL S).length-1) zD=s:=by
 subst h; rw [stkL_len]; exact stkL_last a s S3
theorem finB_eq:∀ (S:List (Nat×Dg)) (d:Dg),finB d (stkL S) S.length=finD d S
 | [],d=>rfl
 | (a,r) :: S,d=>by
  simp only [List.length_cons,finB,finD,stkL_last]
  rw [stkL_cons,finB_app _ _ _ _ (by rw [stkL_len]; exact Nat.le_refl _),finB_eq S]
theorem stk_done {S:List (Nat×Dg)} {L:List Dg} (h:Stk S L) (h0:0<L.length):0<(stkL S).length∧rootD L=finB ((stkL S).getD ((stkL S).length-1) zD) (stkL S) ((stkL S).length-1):=by
 rw [stkL_len]
 match S,h with
 | [],h=>cases h; cases h0
 | (a,r) :: S,h =>
  refine ⟨Nat.succ_pos _,?_⟩
  rw [h.done,←finB_eq S r]
  have e:((a,r) :: S).length-1=S.length:=rfl
  rw [e,stkL_last,stkL_cons,finB_app _ _ _ _ (by rw [stkL_len]; exact Nat.le_refl _)]
theorem pend_even {S:List (Nat×Dg)} {d:Dg} {a q:Nat} {l:List Dg} (h:Pend S d a l) (eq:q=l.length / 2^a) (he:q%2=0):∃ s S',S=(a,s) :: S'∧Pend S' (joinD s d) (a+1) l∧q / 2=l.length / 2^(a+1):=by
 subst eq; exact h.even he
theorem pend_odd {S:List (Nat×Dg)} {d:Dg} {a q:Nat} {l:List Dg} (h:Pend S d a l) (eq:q=l.length / 2^a) (he:¬ q%2=0):Stk ((a,d) :: S) l:=by
 subst eq; exact h.odd (by omega)
theorem pend_pos {S:List (Nat×Dg)} {d:Dg} {a q:Nat} {l:List Dg} (h:Pend S d a l) (eq:q=l.length / 2^a):0<q:=by
 obtain ⟨L,seg,hS,hl,hr,he',hb⟩:=h.out
 subst eq
 exact Nat.div_pos (by rw [← he',List.length_append,hl]; omega) (Nat.pow_pos (by decide))
theorem pend_len {S:List (Nat×Dg)} {d:Dg} {a:Nat} {l:List Dg} (h:Pend S d a l):S.length≤l.length:=by
 obtain ⟨L,seg,hS,hl,hr,he',hb⟩:=h.out
 have:=hS.short
 rw [← he',List.length_append]; omega
end Go.Tan
namespace Go.Proofs.YtbdnclpopappeaaDoor
open Go.Tan Go.RowKit
theorem leafS_ok {G:PM} {b7 b9 T7 T9:Nat} {kind:Y} {h:Sh} {p:List Y} (hle:PM.le G ((G.add b7 (cl [V kind] T7)).add b9 (cl [.slice (some ⟨b7,0,none⟩) 1 1,h.val p.length] T9))) (hq:PM.le (G.add b7 (cl [V kind] T7)) ((G.add b7 (cl [V kind] T7)).add b9 (cl [.slice (some ⟨b7,0,none⟩) 1 1,h.val p.length] T9))) (hs:SlR G 1 encY h p) (hK:RdNP G 0 0 (wa 64 kW)) (hl:p.length≤100000000000000) :
  Ct Tryd.prog 45 ([.slice (some ⟨b9,0,none⟩) 2 2]:List Value).toArray ((G.add b7 (cl [V kind] T7)).add b9 (cl [.slice (some ⟨b7,0,none⟩) 1 1,h.val p.length] T9)) [] (fun _ μ' u=>μ'=[]∧u=.agg (ba 32 (shaD (kind :: p))).toArray):=by
 have h1:SlR (G.add b7 (cl [V kind] T7)) 1 encY ⟨some ⟨b7,0,none⟩,1⟩ [kind]:=SlR.ofBlk (T:=T7) (PM.add_same _ _ _) (fun _ _=>rfl) (by simp)
 have hP:SlP ((G.add b7 (cl [V kind] T7)).add b9 (cl [.slice (some ⟨b7,0,none⟩) 1 1,h.val p.length] T9)) ⟨some ⟨b9,0,none⟩,2⟩ [(⟨some ⟨b7,0,none⟩,1⟩,[kind]),(h,p)] :=
  ⟨SlR.ofBlk (T:=T9) (PM.add_same _ _ _) (fun _ _=>rfl) (by simp),fun q hq'=>by
   rcases List.mem_cons.1 hq' with rfl | hq'
   ·exact h1.mono hq
   ·rw [List.mem_singleton.1 hq']; exact hs.mono hle⟩
 have hh:=shaSum_ok _ ⟨some ⟨b9,0,none⟩,2⟩ _ hP (hK.mono hle) (by simp [catL]; omega) (by simp)
 rw [show catL [((⟨some ⟨b7,0,none⟩,1⟩ : Sh),[kind]),(h,p)]=kind :: p by simp [catL]] at hh
 exact hh
theorem emptyS_ok {G:PM} {b7 b9 T7 T9:Nat} {kind:Y} (hle:PM.le G ((G.add b7 (cl [V kind] T7)).add b9 (cl [.slice (some ⟨b7,0,none⟩) 1 1] T9))) (hq:PM.le (G.add b7 (cl [V kind] T7)) ((G.add b7 (cl [V kind] T7)).add b9 (cl [.slice (some ⟨b7,0,none⟩) 1 1] T9))) (hK:RdNP G 0 0 (wa 64 kW)) :
  Ct Tryd.prog 45 ([.slice (some ⟨b9,0,none⟩) 1 1]:List Value).toArray ((G.add b7 (cl [V kind] T7)).add b9 (cl [.slice (some ⟨b7,0,none⟩) 1 1] T9)) [] (fun _ μ' u=>μ'=[]∧u=.agg (ba 32 (shaD [kind])).toArray):=by
 have h1:SlR (G.add b7 (cl [V kind] T7)) 1 encY ⟨some ⟨b7,0,none⟩,1⟩ [kind]:=SlR.ofBlk (T:=T7) (PM.add_same _ _ _) (fun _ _=>rfl) (by simp)
 have hP:SlP ((G.add b7 (cl [V kind] T7)).add b9 (cl [.slice (some ⟨b7,0,none⟩) 1 1] T9)) ⟨some ⟨b9,0,none⟩,1⟩ [(⟨some ⟨b7,0,none⟩,1⟩,[kind])] :=
  ⟨SlR.ofBlk (T:=T9) (PM.add_same _ _ _) (fun _ _=>rfl) (by simp),fun q hq'=>by rw [List.mem_singleton.1 hq']; exact h1.mono hq⟩
 have hh:=shaSum_ok _ ⟨some ⟨b9,0,none⟩,1⟩ _ hP (hK.mono hle) (by simp [catL]) (by simp)
 rw [show catL [((⟨some ⟨b7,0,none⟩,1⟩ : Sh),[kind])]=[kind] by simp [catL]] at hh
 exact hh
theorem joinS_ok {G G2 G3 G5:PM} {b2 b3 b5 b8 T2 T3 T5 T8:Nat} {a b:Nat→Y} (e2:G2=G.add b2 (cl (ba 32 a) T2)) (e3:G3=G2.add b3 (cl (ba 32 b) T3)) (e5:G5=G3.add b5 (cl [V 1#8] T5))
  (hle:PM.le G (G5.add b8 (cl [.slice (some ⟨b5,0,none⟩) 1 1,.slice (some ⟨b2,0,none⟩) 32 32,.slice (some ⟨b3,0,none⟩) 32 32] T8))) (hq:PM.le G5 (G5.add b8 (cl [.slice (some ⟨b5,0,none⟩) 1 1,.slice (some ⟨b2,0,none⟩) 32 32,.slice (some ⟨b3,0,none⟩) 32 32] T8))∧PM.le G3 G5∧PM.le G2 G3∧PM.le G G2∧True) (hK:RdNP G 0 0 (wa 64 kW)) :
  Ct Tryd.prog 45 ([.slice (some ⟨b8,0,none⟩) 3 3]:List Value).toArray (G5.add b8 (cl [.slice (some ⟨b5,0,none⟩) 1 1,.slice (some ⟨b2,0,none⟩) 32 32,.slice (some ⟨b3,0,none⟩) 32 32] T8)) [] (fun _ μ' u=>μ'=[]∧u=.agg (ba 32 (joinD a b)).toArray):=by
 have h1:SlR G5 1 encY ⟨some ⟨b5,0,none⟩,1⟩ [1#8]:=by rw [e5]; exact SlR.ofBlk (T:=T5) (PM.add_same _ _ _) (fun _ _=>rfl) (by simp)
 have h2:SlR G2 1 encY ⟨some ⟨b2,0,none⟩,32⟩ (yl 32 a):=by rw [e2]; exact ba_sl
 have h3:SlR G3 1 encY ⟨some ⟨b3,0,none⟩,32⟩ (yl 32 b):=by rw [e3]; exact ba_sl
 have l1:=yl_len 32 a
 have l2:=yl_len 32 b
 have hP:SlP (G5.add b8 (cl [.slice (some ⟨b5,0,none⟩) 1 1,.slice (some ⟨b2,0,none⟩) 32 32,.slice (some ⟨b3,0,none⟩) 32 32] T8)) ⟨some ⟨b8,0,none⟩,3⟩ [(⟨some ⟨b5,0,none⟩,1⟩,[1#8]),(⟨some ⟨b2,0,none⟩,32⟩,yl 32 a),(⟨some ⟨b3,0,none⟩,32⟩,yl 32 b)] :=
  ⟨SlR.ofBlk (T:=T8) (by simp [encP,l1,l2,Sh.val]; exact PM.add_same _ _ _) (fun _ _=>rfl) (by simp),fun q hq'=>by
   simp only [List.mem_cons,List.not_mem_nil,or_false] at hq'
   rcases hq' with rfl|rfl|rfl
   ·exact h1.mono hq.1
   ·exact h2.mono (hq.2.2.1.trans (hq.2.1.trans hq.1))
   ·exact h3.mono (hq.2.1.trans hq.1)⟩
 have hh:=shaSum_ok _ ⟨some ⟨b8,0,none⟩,3⟩ _ hP (hK.mono hle) (by simp [catL,l1,l2]) (by simp)
 rw [show catL [((⟨some ⟨b5,0,none⟩,1⟩ : Sh),[1#8]),(⟨some ⟨b2,0,none⟩,32⟩,yl 32 a),(⟨some ⟨b3,0,none⟩,32⟩,yl 32 b)]=1#8 :: (yl 32 a++yl 32 b) by simp [catL]] at hh
 exact hh
theorem leaf_ok (p:List Y) (h:Sh) (G:PM) (hs:SlR G 1 encY h p) (hK:RdNP G 0 0 (wa 64 kW)) (hl:p.length≤100000000000000):Ct Tryd.prog 17 ([h.val p.length]:List Value).toArray G [] (fun _ μ' u=>μ'=[]∧u=.agg (ba 32 (leafD p)).toArray):=by
 refine Ct.of Tryd.func17 rfl Tryd.ntmps17 rfl fun w0 hs0=>?_
 refine .seq (rq1 rfl rfl ?_)
 refine al rfl Fx.zq23 ?_; intro b2
 refine .nil (.code (.seq (rq5 rfl rfl ?_)))
 refine Go.Tan.b1 rfl Fx.se36 Fx.zv5 (.u rfl) rfl rfl (by decide) ?_; intro b3
 refine mV rfl rfl ?_
 refine Go.Tan.bN rfl Fx.se56 Fx.zv36 (Evp.cons (.u rfl) (Evp.cons (.u rfl) Evp.nil)) rfl (by decide) (by simp [Value.oneCell',Sh.val]) ?_; intro b5
 refine kp rfl .no Fx.go45 (Evc rfl Evn) (Gp.add .here (Gp.add .here Gp.nil)) (fun _ hle hq=>leafS_ok (kind:=0#8) hle hq.1 hs hK hl) ?_
 refine sw rfl (.u rfl) (.u rfl) rfl Fx.sz23 tk2 (by first|exact qE|exact qL|rfl) (by first|exact ba_one _ _|exact wa_one _ _|exact one_V _|decide|exact one_app (wa_one _ _) (by simp [Value.oneCell'])) ?_
 refine .nil (.code (.ret (We.fin0 Tryd.results17 (.cell rfl (fun w hw=>run_loadVarN Fx.ag23 (RdN.own .here) ((by first|exact qE|exact qL|rfl)) hw) .nil) ?_)))
 exact ⟨rfl,rfl⟩
theorem join_ok (a b:Dg) (G:PM) (hK:RdNP G 0 0 (wa 64 kW)):Ct Tryd.prog 46 ([.agg (ba 32 a).toArray,.agg (ba 32 b).toArray]:List Value).toArray G [] (fun _ μ' u=>μ'=[]∧u=.agg (ba 32 (joinD a b)).toArray):=by
 refine Ct.of Tryd.func46 rfl Tryd.ntmps46 rfl fun w0 hs0=>?_
 refine .seq (rq3 rfl rfl ?_)
 refine bx rfl (.u rfl) rfl ?_; intro b2
 refine bx rfl (.u rfl) rfl ?_; intro b3
 refine al rfl Fx.zq23 ?_; intro b4
 refine .nil (.code (.seq (Wk.draw (mc:=⟨false,false⟩) [1,2,0,3,4,5] Fx.mix (by kernel_rfl) ?_)))
 refine sa0 rfl .no Fx.ar23 (.u rfl) (sa0 rfl .no Fx.ar23 (.u rfl) ?_)
 refine Go.Tan.b1 rfl Fx.se36 Fx.zv5 (.u rfl) rfl rfl (by decide) ?_; intro b5
 refine Go.Tan.bN rfl Fx.se56 Fx.zv36 (Evp.cons (.u rfl) (Evp.cons (.u rfl) (Evp.cons (.u rfl) Evp.nil))) rfl (by decide) (by simp [Value.oneCell',Sh.val]) ?_; intro b8
 refine kp rfl .no Fx.go45 (Evc rfl Evn) (Gp.add .here (Gp.add .here (Gp.add tk1 (Gp.add tk1 Gp.nil)))) (fun _ hle hq=>joinS_ok rfl rfl rfl hle hq hK) ?_
 refine sw rfl (.u rfl) (.u rfl) rfl Fx.sz23 tk2 (by first|exact qE|exact qL|rfl) (by first|exact ba_one _ _|exact wa_one _ _|exact one_V _|decide|exact one_app (wa_one _ _) (by simp [Value.oneCell'])) ?_
 refine .nil (.code (.ret (We.fin0 Tryd.results46 (.cell rfl (fun w hw=>run_loadVarN Fx.ag23 (RdN.own .here) ((by first|exact qE|exact qL|rfl)) hw) .nil) ?_)))
 exact ⟨rfl,rfl⟩
namespace Fx
theorem se61:slE Tryd.prog 61=some (23,32,32):=by kernel_rfl
theorem sn61:(slE Tryd.prog 61).isSome=true:=by kernel_rfl
theorem go46:goFn Tryd.prog 46=true:=by kernel_rfl
theorem zw23:(Tryd.prog.info? 23).bind (·.zero)=some (.agg (ba 32 (fun _=>0#8)).toArray):=by kernel_rfl
end Fx
theorem root_ok (ds:List Dg) (h:Sh) (G:PM) (hs:SlR G 32 (ba 32) h ds) (hK:RdNP G 0 0 (wa 64 kW)) (hl:ds.length≤1000000):Ct Tryd.prog 18 ([h.val ds.length]:List Value).toArray G [] (fun _ μ' u=>μ'=[]∧u=.agg (ba 32 (rootD ds)).toArray):=by
 refine Ct.of Tryd.func18 rfl Tryd.ntmps18 rfl fun w0 hs0=>?_
 refine .seq (rq1 rfl rfl ?_)
 refine al rfl Fx.zq23 ?_; intro b2
 refine .nil (.code (.seq (.seq (rq3 rfl rfl (mV rfl rfl (ln rfl .no Fx.sn61 (.u rfl) (cp rfl .no (.u rfl) (.u rfl) rfl (.nil (.code (.cond rfl (fun c1=>?_) (fun c1=>?_)))))))))))
 ·have c1k:=c1
  try simp only [qcA,qcC,qcB] at c1
  refine .seq (rq4 rfl rfl ?_)
  refine Go.Tan.b1 rfl Fx.se36 Fx.zv5 (.u rfl) rfl rfl (by decide) ?_; intro b12
  refine Go.Tan.b1 rfl Fx.se56 Fx.zv36 (.u rfl) rfl rfl (by decide) ?_; intro b13
  refine kp rfl .no Fx.go45 (Evc rfl Evn) (Gp.add .here (Gp.add .here Gp.nil)) (fun _ hle hq=>emptyS_ok (kind:=2#8) hle hq.1 hK) ?_
  refine sw rfl (.u rfl) (.u rfl) rfl Fx.sz23 tk2 (by first|exact qE|exact qL|rfl) (by first|exact ba_one _ _|exact wa_one _ _|exact one_V _|decide|exact one_app (wa_one _ _) (by simp [Value.oneCell'])) ?_
  refine .nil (.code (.ret (We.fin0 Tryd.results18 (.cell rfl (fun w hw=>run_loadVarN Fx.ag23 (RdN.own .here) ((by first|exact qE|exact qL|rfl)) hw) .nil) ?_)))
  obtain rfl:ds=[]:=List.eq_nil_of_length_eq_zero (by omega)
  exact ⟨rfl,by rw [root_nil]; rfl⟩
 have c1k:=c1
 try simp only [qcA,qcC,qcB] at c1
 refine .skip (.code (.seq (rq1 rfl rfl (aS rfl rfl (.nil (.code (.seq (.seq (wk_nilS 32 (ba 32) 23 ?_)))))))))
 refine rq3 rfl rfl (mV rfl rfl (ln rfl .no Fx.sn61 (.u rfl) (mV rfl rfl (.nil (.code (.block ?_))))))
 refine Wk.lop (α:=Nat×List (Nat×Dg)×Value) (fun gh=>[(3,true,gh.2.2),(17,true,.int .i64 (gh.1:Int))]) (fun gh=>[rS 32 (ba 32) gh.2.2 23 (stkL gh.2.1)])
  (fun gh Gl=>(gh.1≤ds.length)∧(Stk gh.2.1 (ds.take gh.1))) (fun gh=>ds.length-gh.1) (0,[],.slice none 0 0) [(2,true,_),(15,true,_),(16,true,_)] [_]
  (esD rfl (esC rfl (by first|rfl|exact evi (by omega)) (esD rfl (esD rfl (esD rfl eZ)))))
  (mS .here rfl (mS .here rfl mN)) ?_ ?_
 ·refine ⟨?_,?_⟩
  ·(try dsimp only)<;>(first|omega|rfl|assumption|(simp; done))
  (try dsimp only)<;>(exact Stk.nil)
 intro gh N0 Gl0 hN0 hGl0 hF0
 obtain ⟨k,S,v⟩:=gh; dsimp only at hF0 hN0 ⊢
 obtain ⟨hk,hS⟩:=hF0
 have hs:=hs.mono hGl0
 have hK:=hK.mono hGl0
 refine .seq (rq1 rfl rfl (cp rfl .no (.u rfl) (.u rfl) rfl (.nil (.code (.seq (.cond rfl (fun c2=>?_) (fun c2=>?_)))))))
 ·have c2k:=c2
  try simp only [qcA,qcC,qcB] at c2
  refine .skip (.code (.seq (.block (.seq (rq6 rfl rfl (mV rfl rfl ?_))))))
  obtain ⟨x,ex⟩:=getx (k:=k) (xs:=ds) (by omega)
  refine ih rfl .no Fx.se61 (.u rfl) (.u rfl) (fun _=>by omega) (fun _=>by omega) (fun _=>hs.nn (k:=k) (by first|omega|(simp only [Bool.and_eq_true,decide_eq_true_eq] at hc; omega)|(simp only [List.length_cons,List.length_nil]; omega))) ?_
  refine lA rfl .no Fx.ag23 (.u rfl) (fun _=>(hs.at (by omega) ex).rd) (fun _=>ba_len _ _) ?_
  refine al rfl Fx.zq23 ?_; intro b5
  refine aS rfl rfl (sw rfl (.u rfl) (.u rfl) rfl Fx.sz23 .here rfl (ba_one _ _) ?_)
  refine .nil (.code (.seq (.seq (rq3 rfl rfl (mV rfl rfl (arn (((k+1):Nat):Int) rfl .no (.u rfl) (.u rfl) rfl (fun _=>by omega) (fun _=>wrap_i64 (by omega) (by omega)) ?_))))))
  refine aS rfl rfl (.nil (.code (.block ?_)))
  refine Wk.lop (α:=Nat×Nat×List (Nat×Dg)×Dg×Value) (fun gh=>[(3,true,gh.2.2.2.2),(6,true,.int .i64 (gh.1:Int))]) (fun gh=>[.blk b5 (cl (ba 32 gh.2.2.2.1) 23),rS 32 (ba 32) gh.2.2.2.2 23 (stkL gh.2.2.1)])
   (fun gh Gl=>(Pend gh.2.2.1 gh.2.2.2.1 gh.2.1 (ds.take (k+1)))∧(gh.1=(ds.take (k+1)).length / 2^gh.2.1)∧(gh.1≤k+1)) (fun gh=>gh.1) (k+1,0,S,x,v) [(2,true,_),(5,true,_),(15,true,_),(16,true,_),(17,true,_)] [_]
   (esD rfl (esC rfl (by first|rfl|exact evi (by omega)) (esD rfl (esD rfl (esD rfl (esD rfl (esD rfl eZ)))))))
   (mS .here rfl (mS .here rfl (mS .here rfl mN))) ?_ ?_
  ·refine ⟨?_,?_,?_⟩
   ·(try dsimp only)<;>(rw [List.take_add_one,ex]; exact Pend.start hS x)
   ·(try dsimp only)<;>(rw [Nat.pow_zero,Nat.div_one,List.length_take]; omega)
   (try dsimp only)<;>(first|omega|rfl|assumption|(simp; done))
  intro gh N1 Gl1 hN1 hGl1 hF1
  obtain ⟨q,a,S2,dd,v2⟩:=gh; dsimp only at hF1 hN1 ⊢
  obtain ⟨hP,eq,hqk⟩:=hF1
  have hK:=hK.mono hGl1
  have hq0:=pend_pos hP eq
  have hl2:=pend_len hP
  rw [← stkL_len,List.length_take] at hl2
  refine .seq (.seq (rq3 rfl rfl (mV rfl rfl (an1 q rfl .no (.u rfl) (.u rfl) rfl rfl ?_))))
  refine cp rfl .no (.u rfl) (.u rfl) rfl (.nil (.code (.cond rfl (fun c3=>?_) (fun c3=>?_))))
  ·have c3k:=c3
   try simp only [qcA,qcC,qcB] at c3
   refine .skip (.code (.seq (.block (.seq ?_))))
   obtain ⟨s,S3,hS3,hP3,hq3⟩:=pend_even hP eq (by omega)
   have hl3:(stkL S2).length=(stkL S3).length+1:=by rw [hS3,stkL_cons,List.length_append]; rfl
   refine wk_rv tk1 (by omega) ?_; intro bbRS capRS evRS lcRS; subst evRS
   refine Wk.draw (mc:=⟨false,false⟩) [0,1,2,3,4,5,6,7,8] Fx.mix (by kernel_rfl) ?_
   refine mV rfl rfl (mV rfl rfl (lr rfl .no Fx.sn61 (.u rfl) tk1 ?_))
   refine arn ((((stkL S2).length-1):Nat):Int) rfl .no (.u rfl) (.u rfl) rfl (fun _=>by omega) (fun _=>wrap_i64 (by omega) (by omega)) ?_
   refine ia rfl .no Fx.se61 (.u rfl) (.u rfl) (fun _=>by omega) (fun _=>by omega) ?_
   refine lA rfl .no Fx.ag23 (.u rfl) (fun _=>RdN.rowS tk1 (fun _ _=>ba_len _ _) (gd_at (z:=zD) (k:=((stkL S2).length-1)) (by omega)) (by omega)) (fun _=>ba_len _ _) ?_
   refine lA rfl .no Fx.ag23 (.u rfl) (fun _=>RdN.own .here) (fun _=>(by first|exact qE|exact qL|rfl)) ?_
   refine kv rfl .no Fx.go46 (Evc rfl (Evc rfl Evn)) (fun _=>join_ok _ _ _ hK) ?_
   refine sw rfl (.u rfl) (.u rfl) rfl Fx.sz23 .here (by first|exact qE|exact qL|rfl) (ba_one _ _) ?_
   refine .nil (.code (rq6 rfl rfl (mV rfl rfl (mV rfl rfl (lr rfl .no Fx.sn61 (.u rfl) tk1 ?_)))))
   refine ar rfl .no (.u rfl) (.u rfl) rfl (fun _=>wrap_i64 (by omega) (by omega)) ?_
   refine srh (stkL S3).length rfl Fx.se61 (.u rfl) (.u rfl) (by omega) (by omega) ?_
   refine aS rfl rfl (.nil (.blk (.code (wk_popS (stkL S3) [s] (fun _ _=>ba_len _ _) tk1 (by rw [hS3,stkL_cons]) ?_))))
   refine rq3 rfl rfl (mV rfl rfl (sr1 (q) rfl .no (.u rfl) (.u rfl) (by first|rfl|omega) rfl (by decide) ?_))
   refine aS rfl rfl (.nil (We.lpo (q / 2,a+1,S3,joinD ((stkL S2).getD ((stkL S2).length-1) zD) dd,.slice (some ⟨bbRS,0,none⟩) (stkL S3).length capRS) ?_ ?_ ?_ ?_ ?_))
   ·exact (esD rfl (esC rfl (by first|rfl|exact evi (by omega)) (esD rfl (esD rfl (esD rfl (esD rfl (esD rfl eZ)))))))
   ·exact (mS tk1 rfl (mS .here rfl (mS .here rfl mN)))
   ·first|omega|(dsimp only; omega)
   ·exact hGl1
   refine ⟨?_,?_,?_⟩
   ·(try dsimp only)<;>(rw [stk_top hS3]; exact hP3)
   ·(try dsimp only)<;>(exact hq3)
   (try dsimp only)<;>(first|omega|rfl|assumption|(simp; done))
  have c3k:=c3
  try simp only [qcA,qcC,qcB] at c3
  refine .exit (.xcode (.xlp (.xblk (.code (rq5 rfl rfl (mV rfl rfl (lA rfl .no Fx.ag23 (.u rfl) (fun _=>RdN.own .here) (fun _=>(by first|exact qE|exact qL|rfl)) ?_)))))))
  refine Go.Tan.b1 rfl Fx.se61 Fx.zw23 (.u rfl) rfl rfl (by decide) ?_; intro b44
  refine apS (xs:=(stkL S2)) (dd) rfl Fx.se61 Fx.zw23 rfl (.u rfl) (.u rfl) tk2 .here (ba_len _ _) (ba_one _ _) (by omega) (by unfold maxLen; omega) ?_; intro v45 ov45
  refine aS rfl rfl (.nil (.blk (.code (rq2 rfl rfl (arn (((k+1):Nat):Int) rfl .no (.u rfl) (.u rfl) rfl (fun _=>by omega) (fun _=>wrap_i64 (by omega) (by omega)) ?_)))))
  refine mV rfl rfl (.nil (We.lpo (k+1,(a,dd) :: S2,v45) ?_ ?_ ?_ ?_ ?_))
  ·exact (esD rfl (esC rfl (by first|rfl|exact evi (by omega)) (esD rfl (esD rfl (esD rfl eZ)))))
  ·exact (mS .here (by rw [stkL_cons]) (mS tk2 rfl mN))
  ·first|omega|(dsimp only; omega)
  ·exact (hGl0).trans hGl1
  refine ⟨?_,?_⟩
  ·(try dsimp only)<;>(first|omega|rfl|assumption|(simp; done))
  (try dsimp only)<;>(exact pend_odd hP eq (by omega))
 have c2k:=c2
 try simp only [qcA,qcC,qcB] at c2
 refine .exit (.xcode (.xlp (.xblk (.code (.seq ?_)))))
 obtain rfl:k=ds.length:=by omega
 rw [List.take_length] at hS
 obtain ⟨hs0,hroot⟩:=stk_done hS (by omega)
 have hsl:=hS.short
 rw [← stkL_len] at hsl
 refine wk_rv .here (by omega) ?_; intro bbRS capRS evRS lcRS; subst evRS
 refine rq8 rfl rfl (mV rfl rfl (mV rfl rfl (lr rfl .no Fx.sn61 (.u rfl) .here ?_)))
 refine arn ((((stkL S).length-1):Nat):Int) rfl .no (.u rfl) (.u rfl) rfl (fun _=>by omega) (fun _=>wrap_i64 (by omega) (by omega)) ?_
 refine ia rfl .no Fx.se61 (.u rfl) (.u rfl) (fun _=>by omega) (fun _=>by omega) ?_
 refine lA rfl .no Fx.ag23 (.u rfl) (fun _=>RdN.rowS .here (fun _ _=>ba_len _ _) (gd_at (z:=zD) (k:=((stkL S).length-1)) (by omega)) (by omega)) (fun _=>ba_len _ _) ?_
 refine al rfl Fx.zq23 ?_; intro b7
 refine sw rfl (.u rfl) (.u rfl) rfl Fx.sz23 .here rfl (ba_one _ _) ?_
 refine .nil (.code (.seq (.seq (rq4 rfl rfl (mV rfl rfl (lr rfl .no Fx.sn61 (.u rfl) tk1 ?_))))))
 refine ar rfl .no (.u rfl) (.u rfl) rfl (fun _=>wrap_i64 (by omega) (by omega)) ?_
 refine aS rfl rfl (.nil (.code (.block ?_)))
 refine Wk.lop (α:=Nat×Dg) (fun gh=>[(8,true,.int .i64 ((gh.1:Int)-1))]) (fun gh=>[.blk b7 (cl (ba 32 gh.2) 23)])
  (fun gh Gl=>(gh.1≤(stkL S).length-1)∧(rootD ds=finB gh.2 (stkL S) gh.1)) (fun gh=>gh.1) ((stkL S).length-1,(stkL S).getD ((stkL S).length-1) zD) [(2,true,_),(3,true,_),(7,true,_)] [_,_]
  (esC rfl (evi (by omega)) (esD rfl (esD rfl (esD rfl eZ))))
  (mS .here rfl (mS .here rfl (mS .here rfl mN))) ?_ ?_
 ·refine ⟨?_,?_⟩
  ·(try dsimp only)<;>(first|omega|rfl|assumption|(simp; done))
  (try dsimp only)<;>(exact hroot)
 intro gh N2 Gl2 hN2 hGl2 hF2
 obtain ⟨j,d⟩:=gh; dsimp only at hF2 hN2 ⊢
 obtain ⟨hj,hd⟩:=hF2
 have hK:=hK.mono hGl2
 refine .seq (.seq (rq2 rfl rfl (mV rfl rfl (cp rfl .no (.u rfl) (.u rfl) rfl (.nil (.code (.cond rfl (fun c4=>?_) (fun c4=>?_))))))))
 ·have c4k:=c4
  try simp only [qcA,qcC,qcB] at c4
  refine .skip (.code (.seq (.block (Wk.draw (mc:=⟨false,false⟩) [0,1,2,3,4,5,6] Fx.mix (by kernel_rfl) ?_))))
  refine mV rfl rfl (mV rfl rfl (ia rfl .no Fx.se61 (.u rfl) (.u rfl) (fun _=>by omega) (fun _=>by omega) ?_))
  refine lA rfl .no Fx.ag23 (.u rfl) (fun _=>RdN.rowS tk1 (fun _ _=>ba_len _ _) (gd_at (z:=zD) (k:=(j-1)) (by omega)) (by omega)) (fun _=>ba_len _ _) ?_
  refine lA rfl .no Fx.ag23 (.u rfl) (fun _=>RdN.own .here) (fun _=>(by first|exact qE|exact qL|rfl)) ?_
  refine kv rfl .no Fx.go46 (Evc rfl (Evc rfl Evn)) (fun _=>join_ok _ _ _ hK) ?_
  refine sw rfl (.u rfl) (.u rfl) rfl Fx.sz23 .here (by first|exact qE|exact qL|rfl) (ba_one _ _) ?_
  refine .nil (.blk (.code (rq3 rfl rfl (mV rfl rfl (ar rfl .no (.u rfl) (.u rfl) rfl (fun _=>wrap_i64 (by omega) (by omega)) ?_)))))
  refine aS rfl rfl (.nil (We.lpo (j-1,joinD ((stkL S).getD (j-1) zD) d) ?_ ?_ ?_ ?_ ?_))
  ·exact (esC rfl (evi (by omega)) (esD rfl (esD rfl (esD rfl eZ))))
  ·exact (mS .here rfl (mS .here rfl (mS .here rfl mN)))
  ·first|omega|(dsimp only; omega)
  ·exact hGl2
  refine ⟨?_,?_⟩
  ·(try dsimp only)<;>(first|omega|rfl|assumption|(simp; done))
  (try dsimp only)<;>(rw [hd,finB_pred (by omega)])
 have c4k:=c4
 try simp only [qcA,qcC,qcB] at c4
 refine .exit (.xcode (.xlp (.xblk (.code (.seq (rq2 rfl rfl (lA rfl .no Fx.ag23 (.u rfl) (fun _=>RdN.own .here) (fun _=>(by first|exact qE|exact qL|rfl)) ?_)))))))
 refine sw rfl (.u rfl) (.u rfl) rfl Fx.sz23 tk2 rfl (ba_one _ _) ?_
 refine .nil (.code (.ret (We.fin0 Tryd.results18 (.cell rfl (fun w hw=>run_loadVarN Fx.ag23 (RdN.own .here) ((by first|exact qE|exact qL|rfl)) hw) .nil) ?_)))
 obtain rfl:j=0:=by omega
 exact ⟨rfl,by rw [hd]; rfl⟩
namespace FxTbH
theorem go51:goFn Tryd.prog 51=true:=by kernel_rfl
theorem go17:goFn Tryd.prog 17=true:=by kernel_rfl
end FxTbH
namespace Fx
theorem fo91_0:fOff Tryd.prog 91 0=some 0:=by kernel_rfl
theorem fo91_1:fOff Tryd.prog 91 1=some 64:=by kernel_rfl
theorem go73:goFn Tryd.prog 73=true:=by kernel_rfl
theorem go43:goFn Tryd.prog 43=true:=by kernel_rfl
theorem fo91_2:fOff Tryd.prog 91 2=some 65:=by kernel_rfl
theorem ag89:aggN Tryd.prog 89=some none:=by kernel_rfl
theorem se89:slE Tryd.prog 89=some (96,34,72):=by kernel_rfl
theorem ag96:aggN Tryd.prog 96=some (some 34):=by kernel_rfl
theorem zr96:zrL Tryd.prog 96=some ([.string ByteArray.empty,.slice none 0 0,.int .u8 0,.int .u8 0,.int .u8 0,.int .u8 0,.int .u8 0,.int .u8 0,.int .u8 0,.int .u8 0,.int .u8 0,.int .u8 0,.int .u8 0,.int .u8 0,.int .u8 0,.int .u8 0,.int .u8 0,.int .u8 0,.int .u8 0,.int .u8 0,.int .u8 0,.int .u8 0,.int .u8 0,.int .u8 0,.int .u8 0,.int .u8 0,.int .u8 0,.int .u8 0,.int .u8 0,.int .u8 0,.int .u8 0,.int .u8 0,.int .u8 0,.int .u8 0]):=by kernel_rfl
theorem sz96:szT Tryd.prog 96=some 34:=by kernel_rfl
theorem fo96_1:fOff Tryd.prog 96 1=some 1:=by kernel_rfl
theorem fo96_2:fOff Tryd.prog 96 2=some 2:=by kernel_rfl
theorem baT23:baT Tryd.prog 23 32=true:=by kernel_rfl
theorem go56:goFn Tryd.prog 56=true:=by kernel_rfl
theorem go36:goFn Tryd.prog 36=true:=by kernel_rfl
theorem go63:goFn Tryd.prog 63=true:=by kernel_rfl
end Fx
theorem need_ok (b:Bool) (hb:b=true) (G:PM):Ct Tryd.prog 43 ([.bool b]:List Value).toArray G [] (fun _ μ' u=>μ'=[]∧u=.tuple #[]):=by
 subst hb
 refine Ct.of Tryd.func43 rfl Tryd.ntmps43 rfl fun w0 hs0=>?_
 refine .seq (rq2 rfl rfl (mV rfl rfl (nt rfl .no (.u rfl) (.nil (.code (.cond rfl (fun c1=>?_) (fun c1=>?_)))))))
 ·have c1k:=c1
  exact absurd c1 (by decide)
 have c1k:=c1
 try simp only [qcA,qcB] at c1
 refine .skip (.nil (We.fin0 Tryd.results43 .nil ?_))
 exact ⟨rfl,rfl⟩
theorem tOpen_ok (root:Nat→Y) (h:Hd) (ha:Sh) (vr vi:Value) (b part:Nat) (xs L:List Y) (hx:Sh) (G:PM) (hsa:SlR G 1 encY ha (headL h)) (hsx:SlR G 1 encY hx xs) (hK:RdNP G 0 0 (wa 64 kW)) (hlx:xs.length≤1000000) (hp:part≤1000000000) (ho:openAt root h part xs=some L):Ct Tryd.prog 56 ([.pointer (some ⟨b,0,none⟩),.int .i64 (part:Int),hx.val xs.length]:List Value).toArray G [.blk b (cl (wrC (keyEnc root (headL h)) (keyMac root (headL h)) (ha.val (headL h).length) vr vi) 91)] (fun G' μ' u=>∃ h',μ'=[.blk b (cl (wrC (keyEnc root (headL h)) (keyMac root (headL h)) (ha.val (headL h).length) vr vi) 91)]∧u=Sh.val h' L.length∧SlR G' 1 encY h' L):=by
 refine Ct.of Tryd.func56 rfl Tryd.ntmps56 rfl fun w0 hs0=>?_
 refine .seq (rq1 rfl rfl (aS rfl rfl (.nil (.code (.seq (Wk.draw (mc:=⟨false,false⟩) [0,1,2,3,4,5,7,8,9,10,11,6,12,13,14,15,16,17] Fx.mix (by kernel_rfl) ?_))))))
 refine mV rfl rfl (nc rfl .no (.u rfl) (fz rfl .no Fx.fo91_0 (.u rfl) (lA rfl .no Fx.ag70 (.u rfl) (fun _=>RdN.part (n:=64) (cs':=ba 32 (keyEnc root (headL h))++ba 32 (keyMac root (headL h))) .here (wrc_key)) (fun _=>(by first|exact qE|exact qL|rfl)) ?_)))
 refine mV rfl rfl (ci rfl .no rfl Fx.cv3_24 (.u rfl) ?_)
 refine mV rfl rfl (nc rfl .no (.u rfl) (fz rfl .no Fx.fo91_1 (.u rfl) (ld rfl .no Fx.ag36 (.u rfl) (fun _=>Rd.own .here wrc_ad) ?_)))
 refine mV rfl rfl (kv rfl .no FxTbH.go51 (Evc rfl Evn) (fun _=>Nonce_ok _ _) ?_)
 refine kc rfl Fx.go73 (Evc rfl (Evc rfl (Evc rfl (Evc rfl Evn)))) (Open_ok (keyEnc root (headL h)) (keyMac root (headL h)) (nonceF (BitVec.ofInt 64 (part:Int))) (headL h) ha xs hx _ hsa hsx hK (by rw [head_len]; decide) (by omega)) ?_
 rintro _ G22 μ22 hG22 ⟨v22,L22,e22,hO22,rfl,rfl⟩
 obtain ⟨rfl,rfl⟩ : L22=L∧e22=0:=OpenR.some (by rw [← ho]; exact hO22)
 refine mV rfl rfl (ex rfl .no (.u rfl) rfl (ex rfl .no (.u rfl) rfl (aS rfl rfl (aS rfl rfl (.nil (.code (.seq (rq3 rfl rfl (mV rfl rfl (cp rfl .no (.u rfl) (.u rfl) rfl (kv rfl .no Fx.go43 (Evc rfl Evn) (fun _=>need_ok _ (rfl) _) ?_)))))))))))
 refine .nil (.code (.seq (rq2 rfl rfl (mV rfl rfl (aS rfl rfl (.nil (.code (.ret ?_))))))))
 refine we_fb .here (keys_k .here rfl (keys_0)) ?_; intro GfR22 hR22 hleR22 evR22 hsR22; subst evR22
 refine We.fin Tryd.results56 (.tmp rfl .nil) (mS .here rfl mN) ?_
 exact ⟨hR22,rfl,rfl,hsR22⟩
theorem whole_ok (root:Nat→Y) (h:Hd) (ps:List (RowT×Sh)) (ix:List Y) (ha hr hi:Sh) (b:Nat) (G:PM) (hR:RdrR G h ps ix ha hr hi) (hK:RdNP G 0 0 (wa 64 kW)) (i part:Nat) (p:RowT×Sh) (L:List Y) (hp:ps[i]? = some p) (hpt:part≤1000000000) (hw:wholeT root h p.1 part=some L):Ct Tryd.prog 36 ([.pointer (some ⟨b,0,none⟩),.int .i64 (i:Int),.int .i64 (part:Int)]:List Value).toArray G [.blk b (cl (wrC (keyEnc root (headL h)) (keyMac root (headL h)) (ha.val (headL h).length) (hr.val ps.length) (hi.val ix.length)) 91)] (fun G' μ' u=>∃ h',μ'=[.blk b (cl (wrC (keyEnc root (headL h)) (keyMac root (headL h)) (ha.val (headL h).length) (hr.val ps.length) (hi.val ix.length)) 91)]∧u=Sh.val h' L.length∧SlR G' 1 encY h' L):=by
 refine Ct.of Tryd.func36 rfl Tryd.ntmps36 rfl fun w0 hs0=>?_
 have hpm:=List.mem_of_getElem? hp
 have hpe:=hR.each p hpm; have hsm:=hR.sm p hpm
 have hil:=(List.getElem?_eq_some_iff.1 hp).1; have hpl:=hR.len
 refine .seq (rq1 rfl rfl (aS rfl rfl (.nil (.code (.seq (rq9 rfl rfl (mV rfl rfl (nc rfl .no (.u rfl) (fz rfl .no Fx.fo91_2 (.u rfl) (ld rfl .no Fx.ag89 (.u rfl) (fun _=>Rd.own .here wrc_out) ?_))))))))))
 refine mV rfl rfl (ih rfl .no Fx.se89 (.u rfl) (.u rfl) (fun _=>by omega) (fun _=>by omega) (fun _=>hR.rows.nn (k:=i) (by first|omega|(simp only [Bool.and_eq_true,decide_eq_true_eq] at hc; omega)|(simp only [List.length_cons,List.length_nil]; omega))) ?_)
 refine lA rfl .no Fx.ag96 (.u rfl) (fun _=>(hR.rows.at (by omega) hp).rd) (fun _=>rowC_len) ?_
 refine al rfl Fx.zr96 ?_; intro b7
 refine sw rfl (.u rfl) (.u rfl) rfl Fx.sz96 .here rfl (rowC_one _) ?_
 refine .nil (.code (.seq (Wk.draw (mc:=⟨false,false⟩) [0,1,3,4,2,5,6] Fx.mix (by kernel_rfl) ?_)))
 refine fz rfl .no Fx.fo96_1 (.u rfl) (ld rfl .no Fx.ag36 (.u rfl) (fun _=>Rd.own .here (by first|exact wap_f rfl|rfl)) ?_)
 refine fz rfl .no Fx.fo96_2 (.u rfl) (lA rfl .no Fx.ag23 (.u rfl) (fun _=>RdN.part (n:=32) (cs':=ba 32 p.1.leaf) .here (rowC_leaf)) (fun _=>(by first|exact rowC_len|exact ba_len _ _|rfl)) ?_)
 refine kv rfl .no FxTbH.go17 (Evc rfl Evn) (fun _=>leaf_ok p.1.bytes p.2 _ hpe hK (by omega)) ?_
 refine eqB rfl .no Fx.baT23 (.u rfl) (.u rfl) ?_
 refine kv rfl .no Fx.go43 (Evc rfl Evn) (fun _=>need_ok _ (wh_leaf hw) _) ?_
 refine .nil (.code (.seq (rq6 rfl rfl (mV rfl rfl (mV rfl rfl (fz rfl .no Fx.fo96_1 (.u rfl) (ld rfl .no Fx.ag36 (.u rfl) (fun _=>Rd.own .here (by first|exact wap_f rfl|rfl)) ?_)))))))
 refine ka rfl (.inr rfl) Fx.go56 (Evc rfl (Evc rfl (Evc rfl Evn))) (mtk1 tk1) (tOpen_ok root h ha _ _ b part p.1.bytes L p.2 _ hR.ad hpe hK hsm hpt (wh_open hw)) ?_
 rintro _ G26 μ26 hG26 ⟨h26,rfl,rfl,hs26⟩
 refine aS rfl rfl (.nil (.code (.ret (We.fin Tryd.results36 (.tmp rfl .nil) (mS .here rfl mN) ?_))))
 exact ⟨h26,rfl,rfl,hs26⟩
theorem ents_ok (root:Nat→Y) (h:Hd) (ps:List (RowT×Sh)) (ix:List Y) (ha hr hi:Sh) (b:Nat) (G:PM) (hR:RdrR G h ps ix ha hr hi) (hK:RdNP G 0 0 (wa 64 kW)) (i:Nat) (p:RowT×Sh) (l:List Ent) (hp:ps[i]? = some p) (he:entsT root h (ps.map (·.1)) i=some l):Ct Tryd.prog 39 ([.pointer (some ⟨b,0,none⟩),.int .i64 (i:Int)]:List Value).toArray G [.blk b (cl (wrC (keyEnc root (headL h)) (keyMac root (headL h)) (ha.val (headL h).length) (hr.val ps.length) (hi.val ix.length)) 91)] (fun G' μ' u=>∃ h',μ'=[.blk b (cl (wrC (keyEnc root (headL h)) (keyMac root (headL h)) (ha.val (headL h).length) (hr.val ps.length) (hi.val ix.length)) 91)]∧u=Sh.val h' l.length∧SlR G' 4 Ent.cells h' l):=by
 refine Ct.of Tryd.func39 rfl Tryd.ntmps39 rfl fun w0 hs0=>?_
 have hpm:=List.mem_of_getElem? hp
 have hsm:=hR.sm p hpm
 have hil:=(List.getElem?_eq_some_iff.1 hp).1; have hpl:=hR.len
 obtain ⟨y,hwy,hry⟩:=en_inv he
 rw [map_fst rfl hp] at hwy
 have hly:=wh_len hwy
 refine .seq (rq1 rfl rfl (aS rfl rfl (.nil (.code (.seq (Wk.rg [0,1,2,3,4,5,6,7,8,9,10] rfl rfl (mV rfl rfl (mV rfl rfl (mV rfl rfl (arn (((2+i):Nat):Int) rfl .no (.u rfl) (.u rfl) rfl (fun _=>by omega) (fun _=>wrap_i64 (by omega) (by omega)) ?_))))))))))
 refine ka rfl (.inr rfl) Fx.go36 (Evc rfl (Evc rfl (Evc rfl Evn))) (mtk1 .here) (whole_ok root h ps ix ha hr hi b _ hR hK i (2+i) p y hp (by omega) hwy) ?_
 rintro _ G12 μ12 hG12 ⟨h12,rfl,rfl,hs12⟩
 refine kc rfl Fx.go63 (Evc rfl Evn) (bRead_ok y h12 _ hs12 (by omega)) ?_
 rintro _ G13 μ13 hG13 ⟨h13,l13,er13,hB13,rfl,rfl,hs13⟩
 rw [hry] at hB13
 simp only [Prod.mk.injEq] at hB13
 obtain ⟨rfl,rfl⟩:=hB13
 refine mV rfl rfl (ex rfl .no (.u rfl) rfl (ex rfl .no (.u rfl) rfl (aS rfl rfl (aS rfl rfl (.nil (.code (.seq (rq3 rfl rfl (mV rfl rfl (cp rfl .no (.u rfl) (.u rfl) rfl (kv rfl .no Fx.go43 (Evc rfl Evn) (fun _=>need_ok _ (rfl) _) ?_)))))))))))
 refine .nil (.code (.seq (rq2 rfl rfl (mV rfl rfl (aS rfl rfl (.nil (.code (.ret (We.fin Tryd.results39 (.tmp rfl .nil) (mS .here rfl mN) ?_)))))))))
 exact ⟨h13,rfl,rfl,hs13⟩
namespace FxTbI
theorem ag38:aggN Tryd.prog 38=some (some 40):=by kernel_rfl
theorem go23:goFn Tryd.prog 23=true:=by kernel_rfl
theorem go18:goFn Tryd.prog 18=true:=by kernel_rfl
end FxTbI
namespace Fx
theorem go53:goFn Tryd.prog 53=true:=by kernel_rfl
theorem fo38_4:fOff Tryd.prog 38 4=some 4:=by kernel_rfl
theorem go16:goFn Tryd.prog 16=true:=by kernel_rfl
theorem eqt26:eqT Tryd.prog 4 26 ([.int .u8,.int .u8,.int .u64,.int .u64,.int .u64])=true:=by kernel_rfl
theorem bp91_0_1_3:bPl Tryd.prog 91 [0,1,3]=some ([.int .u8 0,.int .u8 0,.int .u8 0,.int .u8 0,.int .u8 0,.int .u8 0,.int .u8 0,.int .u8 0,.int .u8 0,.int .u8 0,.int .u8 0,.int .u8 0,.int .u8 0,.int .u8 0,.int .u8 0,.int .u8 0,.int .u8 0,.int .u8 0,.int .u8 0,.int .u8 0,.int .u8 0,.int .u8 0,.int .u8 0,.int .u8 0,.int .u8 0,.int .u8 0,.int .u8 0,.int .u8 0,.int .u8 0,.int .u8 0,.int .u8 0,.int .u8 0,.int .u8 0,.int .u8 0,.int .u8 0,.int .u8 0,.int .u8 0,.int .u8 0,.int .u8 0,.int .u8 0,.int .u8 0,.int .u8 0,.int .u8 0,.int .u8 0,.int .u8 0,.int .u8 0,.int .u8 0,.int .u8 0,.int .u8 0,.int .u8 0,.int .u8 0,.int .u8 0,.int .u8 0,.int .u8 0,.int .u8 0,.int .u8 0,.int .u8 0,.int .u8 0,.int .u8 0,.int .u8 0,.int .u8 0,.int .u8 0,.int .u8 0,.int .u8 0,.slice none 0 0,.slice none 0 0,.slice none 0 0],[(0,64),(64,1),(66,1)]):=by kernel_rfl
theorem fo91_3:fOff Tryd.prog 91 3=some 66:=by kernel_rfl
theorem go59:goFn Tryd.prog 59=true:=by kernel_rfl
theorem fo96_0:fOff Tryd.prog 96 0=some 0:=by kernel_rfl
theorem zv96:(Tryd.prog.info? 96).bind (·.zero)=some (.agg #[.string ByteArray.empty,.slice none 0 0,.int .u8 0,.int .u8 0,.int .u8 0,.int .u8 0,.int .u8 0,.int .u8 0,.int .u8 0,.int .u8 0,.int .u8 0,.int .u8 0,.int .u8 0,.int .u8 0,.int .u8 0,.int .u8 0,.int .u8 0,.int .u8 0,.int .u8 0,.int .u8 0,.int .u8 0,.int .u8 0,.int .u8 0,.int .u8 0,.int .u8 0,.int .u8 0,.int .u8 0,.int .u8 0,.int .u8 0,.int .u8 0,.int .u8 0,.int .u8 0,.int .u8 0,.int .u8 0]):=by kernel_rfl
theorem sz89:szT Tryd.prog 89=some 1:=by kernel_rfl
theorem go60:goFn Tryd.prog 60=true:=by kernel_rfl
theorem fo38_8:fOff Tryd.prog 38 8=some 8:=by kernel_rfl
end Fx
theorem take_is {xs:List Y} {hx:Sh} {G:PM} {h:Hd} (hs:SlR G 1 encY hx xs) (hl:xs.length≤100000000000000) (e:takeH xs=(h,0)):Ct Tryd.prog 53 ([hx.val xs.length]:List Value).toArray G [] (fun _ μ' u=>μ'=[]∧u=.tuple #[.agg h.cells.toArray,.int .i64 0]):=by
 have:=Take_ok xs hx G hs hl
 rw [e] at this
 exact this
theorem take_row (D:List Dg) (v:Value) (G:PM) (hK:RdNP G 0 0 (wa 64 kW)) (hl:D.length≤1000000):Ct Tryd.prog 18 ([v]:List Value).toArray G [rS 32 (ba 32) v 23 D] (fun _ μ' u=>∃ ν,μ'=rS 32 (ba 32) v 23 D :: ν∧ν=[]∧u=.agg (ba 32 (rootD D)).toArray) :=
 Ct.lendS (fun _ _=>ba_len _ _) (fun hd G2 hle hv hs=>by subst hv; exact root_ok D hd G2 hs (hK.mono hle) hl)
set_option maxHeartbeats 4000000 in
theorem tBegin_ok (root:Nat→Y) (m:Meta) (xs:List Y) (hx:Sh) (rows:List RowT) (ix:List Y) (G:PM) (hw:m.wf) (hs:SlR G 1 encY hx xs) (hK:RdNP G 0 0 (wa 64 kW)) (hl:xs.length≤1000000) (hBt:beginT root m xs=some (rows,ix)):Ct Tryd.prog 34 ([.agg (ba 32 root).toArray,m.val,hx.val xs.length]:List Value).toArray G [] (fun G' μ' u=>∃ (b:Nat) (ps:List (RowT×Sh)) (ha hr hi:Sh),ps.map (·.1)=rows∧μ'=[.blk b (cl (wrC (keyEnc root (headL (hdM m))) (keyMac root (headL (hdM m))) (ha.val (headL (hdM m)).length) (hr.val ps.length) (hi.val ix.length)) 91)]∧u=.pointer (some ⟨b,0,none⟩)∧RdrR G' (hdM m) ps ix ha hr hi):=by
 refine Ct.of Tryd.func34 rfl Tryd.ntmps34 rfl fun w0 hs0=>?_
 have B:=beg_inv hBt
 obtain ⟨y,hy,hyp⟩:=B.opn
 have hlong:=B.long; have hkk:=B.kk; have hrl:=restT_len hlong
 refine .seq (rq3 rfl rfl ?_)
 refine bx rfl (.u rfl) rfl ?_; intro b3
 refine bx rfl (.u rfl) rfl ?_; intro b4
 refine aS rfl rfl (.nil (.code (.seq (rq8 rfl rfl (mV rfl rfl (kv rfl .no Fx.go53 (Evc rfl Evn) (fun _=>take_is hs (by omega) B.take) ?_))))))
 refine mV rfl rfl (ex rfl .no (.u rfl) rfl (ex rfl .no (.u rfl) rfl ?_))
 refine al rfl Fx.zq26 ?_; intro b7
 refine sw rfl (.u rfl) (.u rfl) rfl Fx.sz26 .here rfl (one5 rfl rfl rfl rfl rfl) ?_
 refine aS rfl rfl (.nil (.code (.seq ?_)))
 refine wk_fz tk2 (by intro b hb; cases hb) ?_; intro Gfb3 hleb3 hbb3
 have hs:=hs.mono hleb3
 have hK:=hK.mono hleb3
 refine wk_fz tk1 (by intro b hb; cases hb) ?_; intro Gfb4 hleb4 hbb4
 have hs:=hs.mono hleb4
 have hK:=hK.mono hleb4
 have hbb3:=hbb3.mono hleb4
 refine wk_fz .here (by intro b hb; cases hb) ?_; intro Gfb7 hleb7 hbb7
 have hs:=hs.mono hleb7
 have hK:=hK.mono hleb7
 have hbb3:=hbb3.mono hleb7
 have hbb4:=hbb4.mono hleb7
 refine Wk.mixp ⟨true,false⟩ Fx.mix (by kernel_rfl) ?_
 refine Wp.one 0 (by kernel_rfl) ?_
 refine mV rfl rfl (.nil (Wp.one 1 (by kernel_rfl) ?_))
 refine ln rfl .no Fx.sn36 (.u rfl) (.nil (Wp.one 2 (by kernel_rfl) ?_))
 refine fa rfl .no Fx.fo38_4 (.u rfl) (.nil (Wp.one 3 (by kernel_rfl) ?_))
 refine ld rfl .no Fx.ag3 (.u rfl) (fun _=>(hbb4.rd (by rfl)).rd) ?_
 refine .nil (Wp.one 4 (by kernel_rfl) ?_)
 refine cp rfl .no (.u rfl) (.u rfl) rfl (.nil (Wp.one 5 (by kernel_rfl) ?_))
 refine mV rfl rfl (.nil (Wp.one 6 (by kernel_rfl) ?_))
 refine mv rfl (.t rfl rfl) (.u rfl) (.nil (Wp.one 7 (by kernel_rfl) ?_))
 refine cp rfl (.t rfl rfl) (.s rfl) (.u rfl) rfl (.nil (Wp.one 8 (by kernel_rfl) ?_))
 refine pkA rfl .no (.u rfl) (.s rfl) (.nil (Wp.one 9 (by kernel_rfl) ?_))
 refine mV rfl rfl (.nil (Wp.one 11 (by kernel_rfl) ?_))
 refine lA rfl (.t rfl rfl) FxTbI.ag38 (.u rfl) (fun hc=>(hbb4.rdn (m:=40) (cs':=m.cells) ((by rw [List.drop_zero]; exact List.take_of_length_le (Nat.le_of_eq (Meta.len m))))).rd) (fun _=>(Meta.len _)) ?_
 refine .nil (Wp.pr 10 (by kernel_rfl) ?_)
 refine lA rfl (.t rfl rfl) Fx.ag26 (.u rfl) (fun hc=>(hbb7.rdn (m:=5) (cs':=(hdM m).cells) (rfl)).rd) (fun _=>rfl) ?_
 refine .nil ⟨⟨rfl,rfl⟩,?_⟩
 refine Wp.b1 12 (by kernel_rfl) ?_
 refine kv rfl (.t rfl rfl) Fx.go16 (Eva.cons (.s rfl) Evn) (fun hc=>tHead_ok m _ hw) ?_
 refine .nil (Wp.one 13 (by kernel_rfl) ?_)
 refine eqC (decide (hdM m=hdM m)) rfl (.t rfl rfl) Fx.eqt26 (.s rfl) (.s rfl) (fun hc=>hd_conf _) (fun hc=>hd_conf _) (fun hc=>hd_iff) ?_
 refine .nil (Wp.one 14 (by kernel_rfl) ?_)
 refine pkA rfl .no (.u rfl) (.s rfl) (.nil (Wp.one 15 (by kernel_rfl) ?_))
 refine mV rfl rfl (.nil (Wp.one 16 (by kernel_rfl) ?_))
 refine mv rfl (.t rfl rfl) (.u rfl) (.nil (Wp.one 17 (by kernel_rfl) ?_))
 refine ln rfl (.t rfl rfl) Fx.sn36 (.s rfl) (.nil (Wp.one 18 (by kernel_rfl) ?_))
 refine cp rfl (.t rfl rfl) (.s rfl) (.u rfl) rfl (.nil (Wp.one 19 (by kernel_rfl) ?_))
 refine pkA rfl .no (.u rfl) (.s rfl) (.nil (Wp.b1 20 (by kernel_rfl) ?_))
 refine kv rfl .no Fx.go43 (Evc rfl Evn) (fun _=>need_ok _ (bg_need1 B.size (by omega)) _) ?_
 refine .nil (Wp.last (by kernel_rfl) ?_)
 refine .code (.seq (Wk.draw (mc:=⟨false,false⟩) [0,1,2,3,4,5,6,7,8,9,10,11,12] Fx.mix (by kernel_rfl) ?_))
 refine mV rfl rfl (mV rfl rfl (ln rfl .no Fx.sn36 (.u rfl) (arn (((xs.length-8):Nat):Int) rfl .no (.u rfl) (.u rfl) rfl (fun _=>by omega) (fun _=>wrap_i64 (by omega) (by omega)) ?_)))
 refine kS (30) ((xs.length-8)) rfl .no Fx.se36 hs (.u rfl) (.u rfl) (.u rfl) (fun _=>by omega) (fun _=>by omega) (fun _=>by omega) (fun _=>by omega) ?_
 intro h51 L51 eL51 lL51 hs51
 have lL51:=lL51 rfl
 refine mV rfl rfl (mV rfl rfl (ln rfl .no Fx.sn36 (.u rfl) (arn (((xs.length-8):Nat):Int) rfl .no (.u rfl) (.u rfl) rfl (fun _=>by omega) (fun _=>wrap_i64 (by omega) (by omega)) ?_)))
 refine kD ((xs.length-8)) rfl .no Fx.se36 hs (.u rfl) (.u rfl) (fun _=>by omega) (fun _=>by omega) ?_
 intro h56 L56 eL56 lL56 hs56
 have lL56:=lL56 rfl
 refine kc rfl Fx.go54 (Evc rfl Evn) (wcNew_ok L56 h56 _ hs56 (by omega)) ?_
 rintro _ G57 μ57 hG57 ⟨b57,s57,rfl,rfl,hs57⟩
 have hK:=hK.mono hG57
 have hbb3:=hbb3.mono hG57
 have hbb4:=hbb4.mono hG57
 have hbb7:=hbb7.mono hG57
 have hs51:=hs51.mono hG57
 refine aS rfl rfl (aS rfl rfl (.nil (.code (.seq ?_))))
 have hk8:(unfK L56 8).toNat=kkT xs:=by rw [eL56]; rfl
 have hk9:@BitVec.toNat IntKind.u64.bits (unfK L56 8)=kkT xs:=hk8
 have eR:L51=restT xs:=by rw [eL51,show xs.length-8-30=xs.length-38 by omega]; rfl
 refine rq3 rfl rfl (mV rfl rfl (ka rfl (.inr rfl) Fx.go55 (Evc rfl (Evc rfl Evn)) (mtk1 .here) (rdFix_ok L56 s57 _ _ hs57 (by omega) (by omega)) ?_))
 rintro _ G59 μ59 hG59 ⟨s59,rfl,rfl,hs59⟩
 have hK:=hK.mono hG59
 have hbb3:=hbb3.mono hG59
 have hbb4:=hbb4.mono hG59
 have hbb7:=hbb7.mono hG59
 have hs51:=hs51.mono hG59
 refine aS rfl rfl (.nil (.code (.seq (rq6 rfl rfl (mV rfl rfl (mV rfl rfl (ln rfl .no Fx.sn36 (.u rfl) (cw rfl .no Fx.cv3_24 (.u rfl) (fun _=>wrap_u64 (by omega) (by omega)) ?_))))))))
 refine cp rfl .no (.u rfl) (.u rfl) rfl (kv rfl .no Fx.go43 (Evc rfl Evn) (fun _=>need_ok _ (by rw [decide_eq_true_eq]; omega) _) ?_)
 refine .nil (.code (.seq (rq6 rfl rfl (mV rfl rfl (ln rfl .no Fx.sn36 (.u rfl) (mV rfl rfl (cw rfl .no Fx.cv24_3 (.u rfl) (fun _=>wrap_i64 (by omega) (by omega)) ?_)))))))
 refine arn (((L51.length-(unfK L56 8).toNat):Nat):Int) rfl .no (.u rfl) (.u rfl) rfl (fun _=>by omega) (fun _=>wrap_i64 (by omega) (by omega)) ?_
 refine aS rfl rfl (.nil (.code (.seq (Wk.mixp ⟨true,false⟩ Fx.mix (by kernel_rfl) ?_))))
 refine Wp.one 0 (by kernel_rfl) ?_
 refine lA rfl .no Fx.ag23 (.u rfl) (fun _=>(hbb3.rdn (m:=32) (cs':=_) (by first|exact ba_all|exact app_l|exact app_r)).rd) (fun _=>(ba_len _ _)) ?_
 refine .nil (Wp.one 1 (by kernel_rfl) ?_)
 refine lA rfl .no Fx.ag26 (.u rfl) (fun _=>(hbb7.rdn (m:=5) (cs':=(hdM m).cells) (rfl)).rd) (fun _=>rfl) ?_
 refine .nil (Wp.one 5 (by kernel_rfl) ?_)
 refine mV rfl rfl (.nil (Wp.one 6 (by kernel_rfl) ?_))
 refine mV rfl rfl (.nil (Wp.one 7 (by kernel_rfl) ?_))
 refine kD ((L51.length-(unfK L56 8).toNat)) rfl .no Fx.se36 hs51 (.u rfl) (.u rfl) (fun _=>by omega) (fun _=>by omega) ?_
 intro h78 L78 eL78 lL78 hs78
 have lL78:=lL78 rfl
 refine .nil (Wp.pr 3 (by kernel_rfl) ?_)
 refine lA rfl .no Fx.ag26 (.u rfl) (fun _=>(hbb7.rdn (m:=5) (cs':=(hdM m).cells) (rfl)).rd) (fun _=>rfl) ?_
 refine .nil ⟨⟨rfl,rfl⟩,?_⟩
 refine Wp.b1 2 (by kernel_rfl) ?_
 refine kv rfl .no FxTbI.go23 (Evc rfl (Evc rfl Evn)) (fun _=>KeyOf_ok root (hdM m) _ hK) ?_
 refine .nil (Wp.b1 4 (by kernel_rfl) ?_)
 refine kc rfl Fx.go15 (Evc rfl Evn) (Ct.frzB (nLay_ok (hdM m) _)) ?_
 rintro _ G75 μ75 hG75 ⟨h75,L75,eL75,rfl,rfl,hs75⟩
 have hK:=hK.mono hG75
 have hbb4:=hbb4.mono hG75
 have hs51:=hs51.mono hG75
 have hs78:=hs78.mono hG75
 refine .nil (Wp.one 8 (by kernel_rfl) ?_)
 refine bCe (wrC (keyEnc root (headL (hdM m))) (keyMac root (headL (hdM m))) (h75.val L75.length) (.slice none 0 0) (h78.val L78.length)) rfl .no Fx.bp91_0_1_3 (.cons (.u rfl) rfl (.cons (.u rfl) rfl (.cons (.u rfl) rfl .nil))) rfl (rfl) (.nil (Wp.b1 9 (by kernel_rfl) ?_))
 refine bx rfl (.u rfl) rfl ?_; intro b80
 refine .nil (Wp.one 10 (by kernel_rfl) ?_)
 refine aS rfl rfl (.nil (Wp.last (by kernel_rfl) ?_))
 refine .code (.seq ?_)
 have hix:L78=ix:=by rw [eL78,B.eix,eR,hk8,hrl]
 have e75:h75.val L75.length=h75.val (headL (hdM m)).length:=by rw [eL75]
 rw [eL75] at hs75
 rw [e75]
 refine rq4 rfl rfl (mV rfl rfl (mV rfl rfl (kE ((L51.length-(unfK L56 8).toNat)) rfl .no Fx.se36 hs51 (.u rfl) (.u rfl) (fun _=>by omega) (fun _=>by omega) ?_)))
 intro h83 L83 eL83 lL83 hs83
 have lL83:=lL83 rfl
 refine aS rfl rfl (.nil (.code (.seq ?_)))
 have hyl:y.length+16≤1000000:=by have h1:=(seal_open hy).2; rw [← hix] at h1; omega
 refine rq8 rfl rfl (mV rfl rfl (mV rfl rfl (nc rfl .no (.u rfl) (fz rfl .no Fx.fo91_3 (.u rfl) (ld rfl .no Fx.ag36 (.u rfl) (fun _=>Rd.own .here wrc_lvs) ?_)))))
 refine ka rfl (.inr rfl) Fx.go56 (Evc rfl (Evc rfl (Evc rfl Evn))) (mtk1 .here) (tOpen_ok root (hdM m) h75 _ _ b80 0 L78 y h78 _ hs75 hs78 hK (by omega) (by decide) (by rw [hix]; exact hy)) ?_
 rintro _ G89 μ89 hG89 ⟨h89,rfl,rfl,hs89⟩
 have hK:=hK.mono hG89
 have hbb4:=hbb4.mono hG89
 have hs78:=hs78.mono hG89
 have hs75:=hs75.mono hG89
 have hs83:=hs83.mono hG89
 refine kc rfl Fx.go54 (Evc rfl Evn) (wcNew_ok y h89 _ hs89 (by omega)) ?_
 rintro _ G90 μ90 hG90 ⟨b90,s90,rfl,rfl,hs90⟩
 have hK:=hK.mono hG90
 have hbb4:=hbb4.mono hG90
 have hs78:=hs78.mono hG90
 have hs75:=hs75.mono hG90
 have hs83:=hs83.mono hG90
 refine aS rfl rfl (.nil (.code (.seq (rq3 rfl rfl (mV rfl rfl (ka rfl (.inr rfl) Fx.go57 (Evc rfl Evn) (mtk1 .here) (rNum_ok y 0 s90 b90 _ hs90 (by omega)) ?_))))))
 rintro _ G92 μ92 hG92 ⟨n92,L92,e92,s92,hN92,rfl,rfl,hs92⟩
 have lL92:=rdnum_le hN92; have nL92:=rdnum_lt hN92; simp only at lL92
 have hK:=hK.mono hG92
 have hbb4:=hbb4.mono hG92
 have hs78:=hs78.mono hG92
 have hs75:=hs75.mono hG92
 have hs83:=hs83.mono hG92
 refine aS rfl rfl (.nil (.code (.seq ?_)))
 obtain ⟨he92,hq92⟩:=((Tk.put hyp).numE hN92).got
 simp only at he92 hq92
 subst he92
 obtain ⟨hn0,hrw0⟩:=bg_rows0 hq92
 refine rq8 rfl rfl (mV rfl rfl (cp rfl .no (.u rfl) (.u rfl) rfl (mV rfl rfl (mv rfl (.t rfl rfl) (.u rfl) (kp rfl (.t rfl rfl) Fx.go58 (Eva.cons (.s rfl) Evn) (Gp.add .here Gp.nil) (fun hc hle hq=>rFault_ok L92 0 s92 b90 _ RdNP.add) ?_)))))
 refine cp rfl (.t rfl rfl) (.s rfl) (.u rfl) rfl (pkA rfl .no (.u rfl) (.s rfl) (kv rfl .no Fx.go43 (Evc rfl Evn) (fun _=>need_ok _ (by simp; omega) _) ?_))
 refine .nil (.code (.seq (rq1 rfl rfl (aS rfl rfl (.nil (.code (.seq (.seq (wk_nilS 32 (ba 32) 23 ?_)))))))))
 refine wk_nilS 34 rowC 96 ?_
 refine rq1 rfl rfl (aS rfl rfl (.nil (.code (.block ?_))))
 refine Wk.lop (α:=Nat×List Y×Sh×Value×List (RowT×Sh)×Value×List Dg×List Y×Sh) (fun gh=>[(9,true,gh.2.2.1.val gh.2.1.length),(16,true,gh.2.2.2.2.2.1),(17,true,.int .u64 (gh.1:Int))]) (fun gh=>[rS 34 rowC gh.2.2.2.1 96 gh.2.2.2.2.1,rS 32 (ba 32) gh.2.2.2.2.2.1 23 gh.2.2.2.2.2.2.1,.blk b90 (cl [Sh.val gh.2.2.2.2.2.2.2.2 gh.2.2.2.2.2.2.2.1.length,.int .i64 0] 145),.blk b80 (cl (wrC (keyEnc root (headL (hdM m))) (keyMac root (headL (hdM m))) (h75.val (headL (hdM m)).length) gh.2.2.2.1 (h78.val L78.length)) 91)])
  (fun gh Gl=>(gh.1≤n92+1)∧(rowsP (n92+1-gh.1) (gh.2.2.2.2.1.map (·.1)) gh.2.1 gh.2.2.2.2.2.2.2.1=some rows)∧(gh.2.2.2.2.2.2.1=gh.2.2.2.2.1.map (fun p=>p.1.leaf))∧(gh.2.2.2.2.1.length=gh.1∧gh.2.2.2.2.1.length+gh.2.2.2.2.2.2.2.1.length≤y.length∧gh.2.1.length≤xs.length)∧(AllB Gl gh.2.2.2.2.1)∧(SlR Gl 1 encY gh.2.2.1 gh.2.1)∧(SlR Gl 1 encY gh.2.2.2.2.2.2.2.2 gh.2.2.2.2.2.2.2.1)) (fun gh=>n92+1-gh.1) (0,L83,h83,.slice none 0 0,[],.slice none 0 0,[],L92,s92) [(4,true,_),(13,true,_),(14,true,_),(15,true,_)] [_]
  (esD rfl (esD rfl (esD rfl (esD rfl (esD rfl (esD rfl (esD rfl eZ)))))))
  (mS .here rfl (mS .here rfl (mS .here rfl (mS .here rfl (mS .here rfl mN))))) ?_ ?_
 ·refine ⟨?_,?_,?_,?_,?_,?_,?_⟩
  ·(try dsimp only)<;>(first|omega|rfl|assumption|(simp; done))
  ·(try dsimp only)<;>(rw [eL83,eR,hk8,hrl]; exact hrw0)
  ·(try dsimp only)<;>(first|omega|rfl|assumption|(simp; done))
  ·(try dsimp only)<;>(exact ⟨rfl,by simp only [List.length_nil]; omega,by omega⟩)
  ·(try dsimp only)<;>(exact AllB.nil)
  ·(try dsimp only)<;>(exact hs83)
  (try dsimp only)<;>(exact hs92)
 intro gh N0 Gl0 hN0 hGl0 hF0
 obtain ⟨k,A,hA,vr,acc,vl,D,R,sR⟩:=gh; dsimp only at hF0 hN0 ⊢
 obtain ⟨hk,hrows,eD,hlen,hall,hsA,hsR⟩:=hF0
 have hK:=hK.mono hGl0
 have hbb4:=hbb4.mono hGl0
 have hs78:=hs78.mono hGl0
 have hs75:=hs75.mono hGl0
 have lD:D.length=acc.length:=by rw [eD,List.length_map]
 refine .seq (.seq (rq3 rfl rfl (mV rfl rfl (mV rfl rfl (cp rfl .no (.u rfl) (.u rfl) rfl (.nil (.code (.cond rfl (fun c1=>?_) (fun c1=>?_)))))))))
 ·have c1k:=c1
  try simp only [qcA,qcC,qcB] at c1
  refine .skip (.code (.seq (.block (.seq (rq1 rfl rfl ?_)))))
  refine al rfl Fx.zr96 ?_; intro b18
  refine .nil (.code (.seq (.seq (rq3 rfl rfl (mV rfl rfl (mV rfl rfl (cp rfl .no (.u rfl) (.u rfl) rfl (.nil (.code (.cond rfl (fun c2=>?_) (fun c2=>?_)))))))))))
  ·have c2k:=c2
   try simp only [qcA,qcC,qcB] at c2
   refine rq4 rfl rfl (mV rfl rfl (ka rfl (.inr rfl) Fx.go59 (Evc rfl (Evc rfl Evn)) (mtk1 tk3) (rStr_ok R 0 sR b90 _ hsR (by omega) 1024 (by decide)) ?_))
   rintro _ G110 μ110 hG110 ⟨M110,L110,e110,s110,hN110,rfl,rfl,hs110⟩
   have lL110:=rdstr_le hN110; simp only at lL110
   have hK:=hK.mono hG110
   have hbb4:=hbb4.mono hG110
   have hs78:=hs78.mono hG110
   have hs75:=hs75.mono hG110
   have hall:=hall.mono hG110
   have hsA:=hsA.mono hG110
   have hsR:=hsR.mono hG110
   refine fz rfl .no Fx.fo96_0 (.u rfl) (s1 rfl (.u rfl) (.u rfl) rfl Fx.sz9 tk1 (show 0<34 by decide) (rfl) ?_)
   refine .nil (.code (.seq (rq3 rfl rfl (mV rfl rfl (ka rfl (.inr rfl) Fx.go57 (Evc rfl Evn) (mtk1 tk1) (rNum_ok L110 e110 s110 b90 _ hs110 (by omega)) ?_)))))
   rintro _ G113 μ113 hG113 ⟨n113,L113,e113,s113,hN113,rfl,rfl,hs113⟩
   have lL113:=rdnum_le hN113; have nL113:=rdnum_lt hN113; simp only at lL113
   have hK:=hK.mono hG113
   have hbb4:=hbb4.mono hG113
   have hs78:=hs78.mono hG113
   have hs75:=hs75.mono hG113
   have hall:=hall.mono hG113
   have hsA:=hsA.mono hG113
   have hsR:=hsR.mono hG113
   refine aS rfl rfl (.nil (.code (.seq (.seq (rq1 rfl rfl (mV rfl rfl (.nil (.code (.block ?_)))))))))
   have hT3:=((bg_str hrows (by omega)).strE hN110).numE hN113
   refine Wk.lop (α:=Nat×List Y×Int×Sh×(Nat→Y)×List Y) (fun gh=>[(114,true,.int .i64 (gh.1:Int))]) (fun gh=>[.blk b90 (cl [Sh.val gh.2.2.2.1 gh.2.1.length,.int .i64 gh.2.2.1] 145),.blk b18 (cl (rwC M110 (.slice none 0 0) gh.2.2.2.2.1) 96)])
    (fun gh Gl=>(gh.1≤32)∧(gh.2.2.2.2.2.length=gh.1)∧(ByR ⟨L113,e113⟩ ⟨gh.2.1,gh.2.2.1⟩ false gh.2.2.2.2.2)∧(∀ i,gh.2.2.2.2.1 i=gh.2.2.2.2.2.getD i 0)∧(gh.2.1.length≤L113.length∧(gh.2.2.1=0→gh.2.1.length+gh.1≤L113.length))∧(SlR Gl 1 encY gh.2.2.2.1 gh.2.1)) (fun gh=>32-gh.1) (0,L113,e113,s113,(fun _=>0#8),[]) [(4,true,_),(9,true,_),(13,true,_),(14,true,_),(15,true,_),(16,true,_),(17,true,_),(18,true,_),(19,true,_)] [_,_,_,_]
    (esC rfl (by first|rfl|exact evi (by omega)) (esD rfl (esD rfl (esD rfl (esD rfl (esD rfl (esD rfl (esD rfl (esD rfl (esD rfl eZ))))))))))
    (mS .here rfl (mS .here (by first|rfl | (rw [bnil]; rfl)) (mS .here rfl (mS .here rfl (mS .here rfl (mS .here rfl mN)))))) ?_ ?_
   ·refine ⟨?_,?_,?_,?_,?_,?_⟩
    ·(try dsimp only)<;>(first|omega|rfl|assumption|(simp; done))
    ·(try dsimp only)<;>(first|omega|rfl|assumption|(simp; done))
    ·(try dsimp only)<;>(exact ByR.zero)
    ·(try dsimp only)<;>(exact fun i=>by simp)
    ·(try dsimp only)<;>(exact ⟨Nat.le_refl _,fun _=>Nat.le_refl _⟩)
    (try dsimp only)<;>(exact hs113)
   intro gh N1 Gl1 hN1 hGl1 hF1
   obtain ⟨q,L,ee,s9,f,rt⟩:=gh; dsimp only at hF1 hN1 ⊢
   obtain ⟨hq,hrt,hB9,ef,lX,hsl⟩:=hF1
   have hK:=hK.mono hGl1
   have hbb4:=hbb4.mono hGl1
   have hs78:=hs78.mono hGl1
   have hs75:=hs75.mono hGl1
   have hall:=hall.mono hGl1
   have hsA:=hsA.mono hGl1
   have hsR:=hsR.mono hGl1
   have hs113:=hs113.mono hGl1
   refine .seq (rq1 rfl rfl (cp rfl .no (.u rfl) (.u rfl) rfl (.nil (.code (.seq (.cond rfl (fun c3=>?_) (fun c3=>?_)))))))
   ·have c3k:=c3
    try simp only [qcA,qcC,qcB] at c3
    refine .skip (.code (.seq (.block (.seq (rq2 rfl rfl (mV rfl rfl (aS rfl rfl (.nil (.code (rq7 rfl rfl (mV rfl rfl (mV rfl rfl (ka rfl (.inr rfl) Fx.go55 (Evc rfl (Evc rfl Evn)) (mtk1 .here) (rFix_ok L ee s9 b90 _ hsl (by omega)) ?_)))))))))))))
    rintro _ G119 μ119 hG119 ⟨y119,L119,e119,s119,hN119,rfl,rfl,hs119⟩
    have lL119:=rdbyte_le hN119; simp only at lL119
    have hK:=hK.mono hG119
    have hbb4:=hbb4.mono hG119
    have hs78:=hs78.mono hG119
    have hs75:=hs75.mono hG119
    have hall:=hall.mono hG119
    have hsA:=hsA.mono hG119
    have hsR:=hsR.mono hG119
    have hs113:=hs113.mono hG119
    have hsl:=hsl.mono hG119
    refine cu (k:=.u64) rfl .no rfl Fx.cv24_5 (.u rfl) ?_
    refine fz rfl .no Fx.fo96_2 (.u rfl) (iA rfl .no Fx.ar23 (.u rfl) (.u rfl) (fun _=>by omega) (fun _=>by omega) ?_)
    refine s1 rfl (.u rfl) (.u rfl) rfl Fx.sz5 tk1 (by rw [rwC_len]; omega) (rwC_set (k:=q) (by omega)) ?_
    refine .nil (.blk (.code (rq2 rfl rfl (arn (((q+1):Nat):Int) rfl .no (.u rfl) (.u rfl) rfl (fun _=>by omega) (fun _=>wrap_i64 (by omega) (by omega)) ?_))))
    refine mV rfl rfl (.nil (We.lpo (q+1,L119,e119,s119,upd f q ((y119.setWidth 64).setWidth 8),rt++[y119]) ?_ ?_ ?_ ?_ ?_))
    ·exact (esC rfl (by first|rfl|exact evi (by omega)) (esD rfl (esD rfl (esD rfl (esD rfl (esD rfl (esD rfl (esD rfl (esD rfl (esD rfl eZ))))))))))
    ·exact (mS tk1 rfl (mS .here rfl (mS .here rfl (mS .here rfl (mS .here rfl (mS .here rfl mN))))))
    ·first|omega|(dsimp only; omega)
    ·exact (hGl1).trans hG119
    refine ⟨?_,?_,?_,?_,?_,?_⟩
    ·(try dsimp only)<;>(first|omega|rfl|assumption|(simp; done))
    ·(try dsimp only)<;>(simp [hrt])
    ·(try dsimp only)<;>(exact hB9.step (by omega) hN119)
    ·(try dsimp only)<;>(exact rt_step hrt ef)
    ·(try dsimp only)<;>(have hbd:=byte_dec hN119; exact ⟨by omega,fun z=>by have:=hbd.2 z; have:=lX.2 this.1; omega⟩)
    (try dsimp only)<;>(exact hs119)
   have c3k:=c3
   try simp only [qcA,qcC,qcB] at c3
   refine .exit (.xcode (.xlp (.xblk (.code (.seq ?_)))))
   obtain ⟨hee,hsz,hrw⟩:=bg_got ef (hB9.all (by omega) hT3)
   simp only at hee hrw
   subst hee
   refine Wk.rg [0,1,2,3,4,5,6,7,8,9,10] rfl rfl (mV rfl rfl (kp rfl .no Fx.go58 (Evc rfl Evn) (Gp.add .here Gp.nil) (fun _ hle hq=>rFault_ok L 0 s9 b90 _ RdNP.add) ?_))
   refine cp rfl .no (.u rfl) (.u rfl) rfl (mV rfl rfl (mv rfl (.t rfl rfl) (.u rfl) (mv rfl (.t rfl rfl) (.u rfl) (ln rfl (.t rfl rfl) Fx.sn36 (.s rfl) (cw rfl (.t rfl rfl) Fx.cv3_24 (.s rfl) (fun hc=>wrap_u64 (by (try simp only [Bool.and_eq_true,decide_eq_true_eq,Bool.not_eq_true',Bool.or_eq_false_iff,decide_eq_false_iff_not] at hc); omega) (by (try simp only [Bool.and_eq_true,decide_eq_true_eq,Bool.not_eq_true',Bool.or_eq_false_iff,decide_eq_false_iff_not] at hc); omega)) ?_)))))
   refine cp rfl (.t rfl rfl) (.s rfl) (.s rfl) rfl (pkA rfl .no (.u rfl) (.s rfl) (kv rfl .no Fx.go43 (Evc rfl Evn) (fun _=>need_ok _ (by simp; omega) _) ?_))
   refine .nil (.code (.seq (Wk.draw (mc:=⟨false,false⟩) [0,1,2,3,4,5,6,7,8] Fx.mix (by kernel_rfl) ?_)))
   refine mV rfl rfl (mV rfl rfl (kE (n113) rfl .no Fx.se36 hsA (.u rfl) (.u rfl) (fun _=>by omega) (fun _=>by omega) ?_))
   intro h137 L137 eL137 lL137 hs137
   have lL137:=lL137 rfl
   refine mV rfl rfl (mV rfl rfl (kD (n113) rfl .no Fx.se36 hsA (.u rfl) (.u rfl) (fun _=>by omega) (fun _=>by omega) ?_))
   intro h140 L140 eL140 lL140 hs140
   have lL140:=lL140 rfl
   refine fz rfl .no Fx.fo96_1 (.u rfl) (s1 rfl (.u rfl) (.u rfl) rfl Fx.sz36 tk1 (by rw [rwC_len]; decide) (rfl) ?_)
   refine aS rfl rfl (.nil (.code (.seq (Wk.mixp ⟨false,false⟩ Fx.mix (by kernel_rfl) ?_))))
   refine Wp.one 0 (by kernel_rfl) ?_
   refine mV rfl rfl (.nil (Wp.one 1 (by kernel_rfl) ?_))
   refine mV rfl rfl (.nil (Wp.one 2 (by kernel_rfl) ?_))
   refine nc rfl .no (.u rfl) (.nil (Wp.one 3 (by kernel_rfl) ?_))
   refine fz rfl .no Fx.fo91_2 (.u rfl) (.nil (Wp.one 4 (by kernel_rfl) ?_))
   refine ld rfl .no Fx.ag89 (.u rfl) (fun _=>Rd.own tk4 wrc_out) ?_
   refine .nil (Wp.one 5 (by kernel_rfl) ?_)
   refine lA rfl .no Fx.ag96 (.u rfl) (fun _=>RdN.own .here) (fun _=>rwC_len) ?_
   refine .nil (Wp.b1 6 (by kernel_rfl) ?_)
   refine Go.Tan.b1 rfl Fx.se89 Fx.zv96 (.u rfl) rfl rfl (by decide) ?_; intro b148
   refine .nil (Wp.b1 7 (by kernel_rfl) ?_)
   refine apS (xs:=acc) ((⟨_,L137,f⟩,h137)) rfl Fx.se89 Fx.zv96 rfl (.u rfl) (.u rfl) tk3 .here (rowC_len) (one_app (one2 rfl rfl) (ba_one _ _)) (by omega) (by unfold maxLen; omega) ?_; intro v149 ov149
   refine .nil (Wp.one 8 (by kernel_rfl) ?_)
   refine nc rfl .no (.u rfl) (.nil (Wp.one 9 (by kernel_rfl) ?_))
   refine fz rfl .no Fx.fo91_2 (.u rfl) (.nil (Wp.b1 10 (by kernel_rfl) ?_))
   refine s1v rfl (.u rfl) (.u rfl) .here Fx.sz89 tk5 (by rw [wrc_len]; decide) (wrs_out) ?_
   refine .nil (Wp.last (by kernel_rfl) ?_)
   refine .code (rq6 rfl rfl (mV rfl rfl (fz rfl .no Fx.fo96_2 (.u rfl) (lA rfl .no Fx.ag23 (.u rfl) (fun _=>RdN.part (n:=32) (cs':=ba 32 f) tk3 (rwC_leaf)) (fun _=>(by first|exact rowC_len|exact rwC_len|exact (key_len _ _).trans (key_len _ _).symm|exact key_len _ _|exact ba_len _ _|exact Meta.len _|rfl)) ?_))))
   refine Go.Tan.b1 rfl Fx.se61 Fx.zw23 (.u rfl) rfl rfl (by decide) ?_; intro b155
   refine apS (xs:=D) (f) rfl Fx.se61 Fx.zw23 rfl (.u rfl) (.u rfl) tk6 .here (ba_len _ _) (ba_one _ _) (by omega) (by unfold maxLen; omega) ?_; intro v156 ov156
   refine aS rfl rfl (.nil (.blk (.code (rq3 rfl rfl (mV rfl rfl (ar rfl .no (.u rfl) (.u rfl) rfl (fun _=>wrap_u64 (by omega) (by omega)) ?_))))))
   refine aS rfl rfl (.nil (We.lpo (k+1,L140,h140,v149,acc++[(⟨M110,L137,f⟩,h137)],v156,D++[f],L,s9) ?_ ?_ ?_ ?_ ?_))
   ·exact (esD rfl (esD rfl (esC rfl (congrArg (Value.int .u64) (by dsimp only; omega)) (esD rfl (esD rfl (esD rfl (esD rfl eZ)))))))
   ·exact (mS tk3 rfl (mS .here rfl (mS tk4 rfl (mS tk1 rfl (mS tk3 rfl mN)))))
   ·first|omega|(dsimp only; omega)
   ·exact (((hGl0).trans hG110).trans hG113).trans hGl1
   refine ⟨?_,?_,?_,?_,?_,?_,?_⟩
   ·(try dsimp only)<;>(first|omega|rfl|assumption|(simp; done))
   ·(try dsimp only)<;>(rw [List.map_append,eL137,eL140]; exact hrw)
   ·(try dsimp only)<;>(rw [eD,List.map_append]; rfl)
   ·(try dsimp only)<;>(have:=lX.2 rfl; refine ⟨by rw [List.length_append]; simp; omega,by rw [List.length_append]; simp only [List.length_cons,List.length_nil]; omega,by omega⟩)
   ·(try dsimp only)<;>(exact hall.snoc hs137 (by show L137.length≤_; omega))
   ·(try dsimp only)<;>(exact hs140)
   (try dsimp only)<;>(exact hsl)
  have c2k:=c2
  try simp only [qcA,qcC,qcB] at c2
  refine .skip (.code (.seq (rq3 rfl rfl (mV rfl rfl (ka rfl (.inr rfl) Fx.go57 (Evc rfl Evn) (mtk1 tk3) (rNum_ok R 0 sR b90 _ hsR (by omega)) ?_)))))
  rintro _ G113 μ113 hG113 ⟨n113,L113,e113,s113,hN113,rfl,rfl,hs113⟩
  have lL113:=rdnum_le hN113; have nL113:=rdnum_lt hN113; simp only at lL113
  have hK:=hK.mono hG113
  have hbb4:=hbb4.mono hG113
  have hs78:=hs78.mono hG113
  have hs75:=hs75.mono hG113
  have hall:=hall.mono hG113
  have hsA:=hsA.mono hG113
  refine aS rfl rfl (.nil (.code (.seq (.seq (rq1 rfl rfl (mV rfl rfl (.nil (.code (.block ?_)))))))))
  have hT3:=(bg_last hrows (by omega) (by omega)).numE hN113
  refine Wk.lop (α:=Nat×List Y×Int×Sh×(Nat→Y)×List Y) (fun gh=>[(114,true,.int .i64 (gh.1:Int))]) (fun gh=>[.blk b90 (cl [Sh.val gh.2.2.2.1 gh.2.1.length,.int .i64 gh.2.2.1] 145),.blk b18 (cl (rwC [] (.slice none 0 0) gh.2.2.2.2.1) 96)])
   (fun gh Gl=>(gh.1≤32)∧(gh.2.2.2.2.2.length=gh.1)∧(ByR ⟨L113,e113⟩ ⟨gh.2.1,gh.2.2.1⟩ false gh.2.2.2.2.2)∧(∀ i,gh.2.2.2.2.1 i=gh.2.2.2.2.2.getD i 0)∧(gh.2.1.length≤L113.length∧(gh.2.2.1=0→gh.2.1.length+gh.1≤L113.length))∧(SlR Gl 1 encY gh.2.2.2.1 gh.2.1)) (fun gh=>32-gh.1) (0,L113,e113,s113,(fun _=>0#8),[]) [(4,true,_),(9,true,_),(13,true,_),(14,true,_),(15,true,_),(16,true,_),(17,true,_),(18,true,_),(19,true,_)] [_,_,_,_]
   (esC rfl (by first|rfl|exact evi (by omega)) (esD rfl (esD rfl (esD rfl (esD rfl (esD rfl (esD rfl (esD rfl (esD rfl (esD rfl eZ))))))))))
   (mS .here rfl (mS .here (by first|rfl | (rw [bnil]; rfl)) (mS .here rfl (mS .here rfl (mS .here rfl (mS .here rfl mN)))))) ?_ ?_
  ·refine ⟨?_,?_,?_,?_,?_,?_⟩
   ·(try dsimp only)<;>(first|omega|rfl|assumption|(simp; done))
   ·(try dsimp only)<;>(first|omega|rfl|assumption|(simp; done))
   ·(try dsimp only)<;>(exact ByR.zero)
   ·(try dsimp only)<;>(exact fun i=>by simp)
   ·(try dsimp only)<;>(exact ⟨Nat.le_refl _,fun _=>Nat.le_refl _⟩)
   (try dsimp only)<;>(exact hs113)
  intro gh N2 Gl2 hN2 hGl2 hF2
  obtain ⟨q,L,ee,s9,f,rt⟩:=gh; dsimp only at hF2 hN2 ⊢
  obtain ⟨hq,hrt,hB9,ef,lX,hsl⟩:=hF2
  have hK:=hK.mono hGl2
  have hbb4:=hbb4.mono hGl2
  have hs78:=hs78.mono hGl2
  have hs75:=hs75.mono hGl2
  have hall:=hall.mono hGl2
  have hsA:=hsA.mono hGl2
  refine .seq (rq1 rfl rfl (cp rfl .no (.u rfl) (.u rfl) rfl (.nil (.code (.seq (.cond rfl (fun c4=>?_) (fun c4=>?_)))))))
  ·have c4k:=c4
   try simp only [qcA,qcC,qcB] at c4
   refine .skip (.code (.seq (.block (.seq (rq2 rfl rfl (mV rfl rfl (aS rfl rfl (.nil (.code (rq7 rfl rfl (mV rfl rfl (mV rfl rfl (ka rfl (.inr rfl) Fx.go55 (Evc rfl (Evc rfl Evn)) (mtk1 .here) (rFix_ok L ee s9 b90 _ hsl (by omega)) ?_)))))))))))))
   rintro _ G119 μ119 hG119 ⟨y119,L119,e119,s119,hN119,rfl,rfl,hs119⟩
   have lL119:=rdbyte_le hN119; simp only at lL119
   have hK:=hK.mono hG119
   have hbb4:=hbb4.mono hG119
   have hs78:=hs78.mono hG119
   have hs75:=hs75.mono hG119
   have hall:=hall.mono hG119
   have hsA:=hsA.mono hG119
   have hsl:=hsl.mono hG119
   refine cu (k:=.u64) rfl .no rfl Fx.cv24_5 (.u rfl) ?_
   refine fz rfl .no Fx.fo96_2 (.u rfl) (iA rfl .no Fx.ar23 (.u rfl) (.u rfl) (fun _=>by omega) (fun _=>by omega) ?_)
   refine s1 rfl (.u rfl) (.u rfl) rfl Fx.sz5 tk1 (by rw [rwC_len]; omega) (rwC_set (k:=q) (by omega)) ?_
   refine .nil (.blk (.code (rq2 rfl rfl (arn (((q+1):Nat):Int) rfl .no (.u rfl) (.u rfl) rfl (fun _=>by omega) (fun _=>wrap_i64 (by omega) (by omega)) ?_))))
   refine mV rfl rfl (.nil (We.lpo (q+1,L119,e119,s119,upd f q ((y119.setWidth 64).setWidth 8),rt++[y119]) ?_ ?_ ?_ ?_ ?_))
   ·exact (esC rfl (by first|rfl|exact evi (by omega)) (esD rfl (esD rfl (esD rfl (esD rfl (esD rfl (esD rfl (esD rfl (esD rfl (esD rfl eZ))))))))))
   ·exact (mS tk1 rfl (mS .here rfl (mS .here rfl (mS .here rfl (mS .here rfl (mS .here rfl mN))))))
   ·first|omega|(dsimp only; omega)
   ·exact (hGl2).trans hG119
   refine ⟨?_,?_,?_,?_,?_,?_⟩
   ·(try dsimp only)<;>(first|omega|rfl|assumption|(simp; done))
   ·(try dsimp only)<;>(simp [hrt])
   ·(try dsimp only)<;>(exact hB9.step (by omega) hN119)
   ·(try dsimp only)<;>(exact rt_step hrt ef)
   ·(try dsimp only)<;>(have hbd:=byte_dec hN119; exact ⟨by omega,fun z=>by have:=hbd.2 z; have:=lX.2 this.1; omega⟩)
   (try dsimp only)<;>(exact hs119)
  have c4k:=c4
  try simp only [qcA,qcC,qcB] at c4
  refine .exit (.xcode (.xlp (.xblk (.code (.seq ?_)))))
  obtain ⟨hee,hsz,hrw⟩:=bg_got ef (hB9.all (by omega) hT3)
  simp only at hee hrw
  subst hee
  refine Wk.rg [0,1,2,3,4,5,6,7,8,9,10] rfl rfl (mV rfl rfl (kp rfl .no Fx.go58 (Evc rfl Evn) (Gp.add .here Gp.nil) (fun _ hle hq=>rFault_ok L 0 s9 b90 _ RdNP.add) ?_))
  refine cp rfl .no (.u rfl) (.u rfl) rfl (mV rfl rfl (mv rfl (.t rfl rfl) (.u rfl) (mv rfl (.t rfl rfl) (.u rfl) (ln rfl (.t rfl rfl) Fx.sn36 (.s rfl) (cw rfl (.t rfl rfl) Fx.cv3_24 (.s rfl) (fun hc=>wrap_u64 (by (try simp only [Bool.and_eq_true,decide_eq_true_eq,Bool.not_eq_true',Bool.or_eq_false_iff,decide_eq_false_iff_not] at hc); omega) (by (try simp only [Bool.and_eq_true,decide_eq_true_eq,Bool.not_eq_true',Bool.or_eq_false_iff,decide_eq_false_iff_not] at hc); omega)) ?_)))))
  refine cp rfl (.t rfl rfl) (.s rfl) (.s rfl) rfl (pkA rfl .no (.u rfl) (.s rfl) (kv rfl .no Fx.go43 (Evc rfl Evn) (fun _=>need_ok _ (by simp; omega) _) ?_))
  refine .nil (.code (.seq (Wk.draw (mc:=⟨false,false⟩) [0,1,2,3,4,5,6,7,8] Fx.mix (by kernel_rfl) ?_)))
  refine mV rfl rfl (mV rfl rfl (kE (n113) rfl .no Fx.se36 hsA (.u rfl) (.u rfl) (fun _=>by omega) (fun _=>by omega) ?_))
  intro h137 L137 eL137 lL137 hs137
  have lL137:=lL137 rfl
  refine mV rfl rfl (mV rfl rfl (kD (n113) rfl .no Fx.se36 hsA (.u rfl) (.u rfl) (fun _=>by omega) (fun _=>by omega) ?_))
  intro h140 L140 eL140 lL140 hs140
  have lL140:=lL140 rfl
  refine fz rfl .no Fx.fo96_1 (.u rfl) (s1 rfl (.u rfl) (.u rfl) rfl Fx.sz36 tk1 (by rw [rwC_len]; decide) (rfl) ?_)
  refine aS rfl rfl (.nil (.code (.seq (Wk.mixp ⟨false,false⟩ Fx.mix (by kernel_rfl) ?_))))
  refine Wp.one 0 (by kernel_rfl) ?_
  refine mV rfl rfl (.nil (Wp.one 1 (by kernel_rfl) ?_))
  refine mV rfl rfl (.nil (Wp.one 2 (by kernel_rfl) ?_))
  refine nc rfl .no (.u rfl) (.nil (Wp.one 3 (by kernel_rfl) ?_))
  refine fz rfl .no Fx.fo91_2 (.u rfl) (.nil (Wp.one 4 (by kernel_rfl) ?_))
  refine ld rfl .no Fx.ag89 (.u rfl) (fun _=>Rd.own tk4 wrc_out) ?_
  refine .nil (Wp.one 5 (by kernel_rfl) ?_)
  refine lA rfl .no Fx.ag96 (.u rfl) (fun _=>RdN.own .here) (fun _=>rwC_len) ?_
  refine .nil (Wp.b1 6 (by kernel_rfl) ?_)
  refine Go.Tan.b1 rfl Fx.se89 Fx.zv96 (.u rfl) rfl rfl (by decide) ?_; intro b148
  refine .nil (Wp.b1 7 (by kernel_rfl) ?_)
  refine apS (xs:=acc) ((⟨_,L137,f⟩,h137)) rfl Fx.se89 Fx.zv96 rfl (.u rfl) (.u rfl) tk3 .here (rowC_len) (one_app (one2 rfl rfl) (ba_one _ _)) (by omega) (by unfold maxLen; omega) ?_; intro v149 ov149
  refine .nil (Wp.one 8 (by kernel_rfl) ?_)
  refine nc rfl .no (.u rfl) (.nil (Wp.one 9 (by kernel_rfl) ?_))
  refine fz rfl .no Fx.fo91_2 (.u rfl) (.nil (Wp.b1 10 (by kernel_rfl) ?_))
  refine s1v rfl (.u rfl) (.u rfl) .here Fx.sz89 tk5 (by rw [wrc_len]; decide) (wrs_out) ?_
  refine .nil (Wp.last (by kernel_rfl) ?_)
  refine .code (rq6 rfl rfl (mV rfl rfl (fz rfl .no Fx.fo96_2 (.u rfl) (lA rfl .no Fx.ag23 (.u rfl) (fun _=>RdN.part (n:=32) (cs':=ba 32 f) tk3 (rwC_leaf)) (fun _=>(by first|exact rowC_len|exact rwC_len|exact (key_len _ _).trans (key_len _ _).symm|exact key_len _ _|exact ba_len _ _|exact Meta.len _|rfl)) ?_))))
  refine Go.Tan.b1 rfl Fx.se61 Fx.zw23 (.u rfl) rfl rfl (by decide) ?_; intro b155
  refine apS (xs:=D) (f) rfl Fx.se61 Fx.zw23 rfl (.u rfl) (.u rfl) tk6 .here (ba_len _ _) (ba_one _ _) (by omega) (by unfold maxLen; omega) ?_; intro v156 ov156
  refine aS rfl rfl (.nil (.blk (.code (rq3 rfl rfl (mV rfl rfl (ar rfl .no (.u rfl) (.u rfl) rfl (fun _=>wrap_u64 (by omega) (by omega)) ?_))))))
  refine aS rfl rfl (.nil (We.lpo (k+1,L140,h140,v149,acc++[(⟨[],L137,f⟩,h137)],v156,D++[f],L,s9) ?_ ?_ ?_ ?_ ?_))
  ·exact (esD rfl (esD rfl (esC rfl (congrArg (Value.int .u64) (by dsimp only; omega)) (esD rfl (esD rfl (esD rfl (esD rfl eZ)))))))
  ·exact (mS tk3 rfl (mS .here rfl (mS tk4 rfl (mS tk1 rfl (mS tk3 rfl mN)))))
  ·first|omega|(dsimp only; omega)
  ·exact ((hGl0).trans hG113).trans hGl2
  refine ⟨?_,?_,?_,?_,?_,?_,?_⟩
  ·(try dsimp only)<;>(first|omega|rfl|assumption|(simp; done))
  ·(try dsimp only)<;>(rw [List.map_append,eL137,eL140]; exact hrw)
  ·(try dsimp only)<;>(rw [eD,List.map_append]; rfl)
  ·(try dsimp only)<;>(have:=lX.2 rfl; refine ⟨by rw [List.length_append]; simp; omega,by rw [List.length_append]; simp only [List.length_cons,List.length_nil]; omega,by omega⟩)
  ·(try dsimp only)<;>(exact hall.snoc hs137 (by show L137.length≤_; omega))
  ·(try dsimp only)<;>(exact hs140)
  (try dsimp only)<;>(exact hsl)
 have c1k:=c1
 try simp only [qcA,qcC,qcB] at c1
 refine .exit (.xcode (.xlp (.xblk (.code (.seq ?_)))))
 have hz:=hrows
 rw [show n92+1-k=0 by omega] at hz
 obtain ⟨eR0,eA0,hacc⟩:=rows_end hz
 refine Wk.mixp ⟨true,false⟩ Fx.mix (by kernel_rfl) ?_
 refine Wp.one 0 (by kernel_rfl) ?_
 refine mV rfl rfl (.nil (Wp.b1 1 (by kernel_rfl) ?_))
 refine kp rfl .no Fx.go60 (Evc rfl Evn) (Gp.add tk2 Gp.nil) (fun _ hle hq=>rEnd_ok R 0 sR b90 _ RdNP.add) ?_
 refine .nil (Wp.one 2 (by kernel_rfl) ?_)
 refine cp rfl .no (.u rfl) (.u rfl) rfl (.nil (Wp.one 3 (by kernel_rfl) ?_))
 refine mV rfl rfl (wo_b true (by rw [eR0]; rfl) ?_)
 refine .nil (Wp.one 4 (by kernel_rfl) ?_)
 refine mv rfl (.t rfl rfl) (.u rfl) (.nil (Wp.one 5 (by kernel_rfl) ?_))
 refine ln rfl (.t rfl rfl) Fx.sn36 (.u rfl) (.nil (Wp.one 6 (by kernel_rfl) ?_))
 refine cp rfl (.t rfl rfl) (.u rfl) (.u rfl) rfl (.nil (Wp.one 7 (by kernel_rfl) ?_))
 refine pkA rfl .no (.u rfl) (.u rfl) (.nil (Wp.one 8 (by kernel_rfl) ?_))
 refine mV rfl rfl (wo_b true (by rw [eA0]; rfl) ?_)
 refine .nil (Wp.one 9 (by kernel_rfl) ?_)
 refine mv rfl (.t rfl rfl) (.u rfl) (.nil (Wp.one 10 (by kernel_rfl) ?_))
 refine mv rfl (.t rfl rfl) (.u rfl) (.nil (Wp.one 11 (by kernel_rfl) ?_))
 refine nc rfl (.t rfl rfl) (.u rfl) (.nil (Wp.one 12 (by kernel_rfl) ?_))
 refine fz rfl (.t rfl rfl) Fx.fo91_3 (.u rfl) (.nil (Wp.one 13 (by kernel_rfl) ?_))
 refine ld rfl (.t rfl rfl) Fx.ag36 (.u rfl) (fun _=>Rd.own tk3 wrc_lvs) ?_
 refine .nil (Wp.one 18 (by kernel_rfl) ?_)
 refine fa rfl (.t rfl rfl) Fx.fo38_8 (.u rfl) (.nil (Wp.pr 19 (by kernel_rfl) ?_))
 refine lA rfl (.t rfl rfl) Fx.ag23 (.u rfl) (fun _=>(hbb4.rdn (m:=32) (cs':=ba 32 (fun i=>BitVec.ofInt 8 (m.root i))) (root_cells hw)).rd) (fun _=>(ba_len _ _)) (.nil ⟨⟨rfl,rfl⟩,?_⟩)
 refine Wp.b1 14 (by kernel_rfl) ?_
 refine kv rfl (.t rfl rfl) FxTbH.go17 (Evc rfl Evn) (fun _=>leaf_ok L78 h78 _ hs78 hK (by omega)) ?_
 refine .nil (Wp.b1 15 (by kernel_rfl) ?_)
 refine Go.Tan.b1g rfl (.t rfl rfl) Fx.se61 Fx.zw23 (.u rfl) rfl rfl (by decide) ?_; intro b172
 refine .nil (Wp.b1 16 (by kernel_rfl) ?_)
 refine apSg (xs:=D) ((leafD L78)) rfl (.t rfl rfl) Fx.se61 Fx.zw23 rfl (.u rfl) (.u rfl) tk2 .here (ba_len _ _) (ba_one _ _) (by omega) (by unfold maxLen; omega) ?_; intro v173 ov173
 refine .nil (Wp.b1 17 (by kernel_rfl) ?_)
 refine kag rfl (.t rfl rfl) (.inl rfl) FxTbI.go18 (Evc rfl Evn) (mtk1 .here) (take_row (D++[leafD L78]) v173 _ hK (by rw [List.length_append,eD,List.length_map]; simp only [List.length_cons,List.length_nil]; omega)) ?_
 rintro _ G174 μ174 hG174 ⟨_,rfl,rfl,rfl⟩
 have hs78:=hs78.mono hG174
 have hs75:=hs75.mono hG174
 have hall:=hall.mono hG174
 refine .nil (Wp.one 20 (by kernel_rfl) ?_)
 refine eqB rfl (.t rfl rfl) Fx.baT23 (.u rfl) (.u rfl) ?_
 refine .nil (Wp.one 21 (by kernel_rfl) ?_)
 refine pkA rfl .no (.u rfl) (.u rfl) (.nil (Wp.b1 22 (by kernel_rfl) ?_))
 refine kv rfl .no Fx.go43 (Evc rfl Evn) (fun _=>need_ok _ (by rw [Bool.true_and]; exact decide_eq_true (root_wf hw (by rw [eD,hix]; have:=B.root; rw [← hacc,List.map_map] at this; exact this))) _) ?_
 refine .nil (Wp.last (by kernel_rfl) ?_)
 refine .code (.seq ?_)
 refine wk_fs tk2 (fun _ _=>rfl) (by intro b hb; cases hb) ?_; intro GfRR hRR hleRR evRR hsRR; subst evRR
 have hs78:=hs78.mono hleRR
 have hs75:=hs75.mono hleRR
 have hall:=hall.mono hleRR
 refine rq2 rfl rfl (mV rfl rfl (aS rfl rfl (.nil (.code (.ret (We.fin Tryd.results34 (.tmp rfl .nil) (mS tk3 rfl mN) ?_))))))
 exact ⟨b80,acc,h75,hRR,h78,hacc,by rw [← hix],rfl,⟨hs75,hsRR,hall.each,by rw [← hix]; exact hs78,hall.sm,by omega⟩⟩
namespace Fx
theorem bp117_:bPl Tryd.prog 117 []=some ([],[]):=by kernel_rfl
end Fx
def brk:PanicEntry:={ v:=.iface 117 (.agg #[]),recovered:=false }
def brk':PanicEntry:={ v:=.iface 117 (.agg #[]),recovered:=true }
theorem need_p (b:Bool) (G:PM):Cp Tryd.prog 43 ([.bool b]:List Value).toArray G [] (fun _ μ' u=>b=true∧μ'=[]∧u=.tuple #[]) (fun ch=>ch=[brk]∧b=false):=by
 refine Cp.of Tryd.func43 rfl Tryd.ntmps43 rfl fun w0 hs0=>?_
 refine .seq (rq2 rfl rfl (mV rfl rfl (nt rfl .no (.u rfl) (.nil (.code (.cond rfl (fun c1=>?_) (fun c1=>?_)))))))
 ·refine rq3 rfl rfl (bCe [] rfl .no Fx.bp117_ .nil rfl (rfl) ?_)
  refine .read (v:=.iface 117 (.agg #[])) rfl (.inr rfl) .no (fun _ a w ha _=>?_) ?_
  ·have h5:a.eval (.tmp 4)=.agg #[]:=ha.eval (c:=true) rfl rfl
   simp only [execOp,h5]
   unfold Instr.makeInterface
   simp [Sem.run_bind,run_underlying Tryd.underlying117]
  refine pnc rfl rfl (fun _ _ _ _=>⟨rfl,by simpa using c1⟩)
 refine .skip (.nil (We.fin0 Tryd.results43 .nil ?_))
 exact ⟨by simpa using c1,rfl,rfl⟩
theorem open_p (root:Nat→Y) (h:Hd) (ha:Sh) (vr vi:Value) (b part:Nat) (xs:List Y) (hx:Sh) (G:PM) (hsa:SlR G 1 encY ha (headL h)) (hsx:SlR G 1 encY hx xs) (hK:RdNP G 0 0 (wa 64 kW)) (hlx:xs.length≤1000000) (hp:part≤1000000000):Cp Tryd.prog 56 ([.pointer (some ⟨b,0,none⟩),.int .i64 (part:Int),hx.val xs.length]:List Value).toArray G [.blk b (cl (wrC (keyEnc root (headL h)) (keyMac root (headL h)) (ha.val (headL h).length) vr vi) 91)] (fun G' μ' u=>∃ L h',openAt root h part xs=some L∧μ'=[.blk b (cl (wrC (keyEnc root (headL h)) (keyMac root (headL h)) (ha.val (headL h).length) vr vi) 91)]∧u=Sh.val h' L.length∧SlR G' 1 encY h' L) (fun ch=>ch=[brk]∧(openAt root h part xs=none)):=by
 refine Cp.of Tryd.func56 rfl Tryd.ntmps56 rfl fun w0 hs0=>?_
 refine .seq (rq1 rfl rfl (aS rfl rfl (.nil (.code (.seq (Wk.draw (mc:=⟨false,false⟩) [0,1,2,3,4,5,7,8,9,10,11,6,12,13,14,15,16,17] Fx.mix (by kernel_rfl) ?_))))))
 refine mV rfl rfl (nc rfl .no (.u rfl) (fz rfl .no Fx.fo91_0 (.u rfl) (lA rfl .no Fx.ag70 (.u rfl) (fun _=>RdN.part (n:=64) (cs':=ba 32 (keyEnc root (headL h))++ba 32 (keyMac root (headL h))) .here (wrc_key)) (fun _=>(by first|exact qE|exact qL|rfl)) ?_)))
 refine mV rfl rfl (ci rfl .no rfl Fx.cv3_24 (.u rfl) ?_)
 refine mV rfl rfl (nc rfl .no (.u rfl) (fz rfl .no Fx.fo91_1 (.u rfl) (ld rfl .no Fx.ag36 (.u rfl) (fun _=>Rd.own .here wrc_ad) ?_)))
 refine mV rfl rfl (kv rfl .no FxTbH.go51 (Evc rfl Evn) (fun _=>Nonce_ok _ _) ?_)
 refine kc rfl Fx.go73 (Evc rfl (Evc rfl (Evc rfl (Evc rfl Evn)))) (Open_ok (keyEnc root (headL h)) (keyMac root (headL h)) (nonceF (BitVec.ofInt 64 (part:Int))) (headL h) ha xs hx _ hsa hsx hK (by rw [head_len]; decide) (by omega)) ?_
 rintro _ G22 μ22 hG22 ⟨v22,L22,e22,hO22,rfl,rfl⟩
 refine mV rfl rfl (ex rfl .no (.u rfl) rfl (ex rfl .no (.u rfl) rfl (aS rfl rfl (aS rfl rfl (.nil (.code (.seq (rq3 rfl rfl (mV rfl rfl (cp rfl .no (.u rfl) (.u rfl) rfl (kpc rfl Fx.go43 (Evc rfl Evn) (need_p _ _) (fun ch G9 ρ9 μ9 hle9 hd he hm=>⟨hd.1,op_no (o:=openAt root h part xs) hO22 hd.2⟩) ?_)))))))))))
 rintro _ G27 μ27 hG27 ⟨hq27,rfl,rfl⟩
 refine .nil (.code (.seq (rq2 rfl rfl (mV rfl rfl (aS rfl rfl (.nil (.code (.ret ?_))))))))
 refine we_fb .here (keys_k .here rfl (keys_0)) ?_; intro GfR22 hR22 hleR22 evR22 hsR22; subst evR22
 refine We.fin Tryd.results56 (.tmp rfl .nil) (mS .here rfl mN) ?_
 exact ⟨L22,hR22,op_yes (o:=openAt root h part xs) hO22 hq27,rfl,rfl,hsR22⟩
theorem whole_p (root:Nat→Y) (h:Hd) (ps:List (RowT×Sh)) (ix:List Y) (ha hr hi:Sh) (b:Nat) (G:PM) (hR:RdrR G h ps ix ha hr hi) (hK:RdNP G 0 0 (wa 64 kW)) (i part:Nat) (p:RowT×Sh) (hp:ps[i]? = some p) (hpt:part≤1000000000):Cp Tryd.prog 36 ([.pointer (some ⟨b,0,none⟩),.int .i64 (i:Int),.int .i64 (part:Int)]:List Value).toArray G [.blk b (cl (wrC (keyEnc root (headL h)) (keyMac root (headL h)) (ha.val (headL h).length) (hr.val ps.length) (hi.val ix.length)) 91)] (fun G' μ' u=>∃ L h',wholeT root h p.1 part=some L∧μ'=[.blk b (cl (wrC (keyEnc root (headL h)) (keyMac root (headL h)) (ha.val (headL h).length) (hr.val ps.length) (hi.val ix.length)) 91)]∧u=Sh.val h' L.length∧SlR G' 1 encY h' L) (fun ch=>ch=[brk]∧(wholeT root h p.1 part=none)):=by
 refine Cp.of Tryd.func36 rfl Tryd.ntmps36 rfl fun w0 hs0=>?_
 have hpm:=List.mem_of_getElem? hp
 have hpe:=hR.each p hpm; have hsm:=hR.sm p hpm
 have hil:=(List.getElem?_eq_some_iff.1 hp).1; have hpl:=hR.len
 refine .seq (rq1 rfl rfl (aS rfl rfl (.nil (.code (.seq (rq9 rfl rfl (mV rfl rfl (nc rfl .no (.u rfl) (fz rfl .no Fx.fo91_2 (.u rfl) (ld rfl .no Fx.ag89 (.u rfl) (fun _=>Rd.own .here wrc_out) ?_))))))))))
 refine mV rfl rfl (ih rfl .no Fx.se89 (.u rfl) (.u rfl) (fun _=>by omega) (fun _=>by omega) (fun _=>hR.rows.nn (k:=i) (by first|omega|(simp only [Bool.and_eq_true,decide_eq_true_eq] at hc; omega)|(simp only [List.length_cons,List.length_nil]; omega))) ?_)
 refine lA rfl .no Fx.ag96 (.u rfl) (fun _=>(hR.rows.at (by omega) hp).rd) (fun _=>rowC_len) ?_
 refine al rfl Fx.zr96 ?_; intro b7
 refine sw rfl (.u rfl) (.u rfl) rfl Fx.sz96 .here rfl (rowC_one _) ?_
 refine .nil (.code (.seq (Wk.mixp ⟨true,false⟩ Fx.mix (by kernel_rfl) ?_)))
 refine Wp.one 0 (by kernel_rfl) ?_
 refine fz rfl .no Fx.fo96_1 (.u rfl) (.nil (Wp.one 1 (by kernel_rfl) ?_))
 refine ld rfl .no Fx.ag36 (.u rfl) (fun _=>Rd.own .here (by first|exact wap_f rfl|rfl)) ?_
 refine .nil (Wp.one 3 (by kernel_rfl) ?_)
 refine fz rfl .no Fx.fo96_2 (.u rfl) (.nil (Wp.b2 2 4 (by kernel_rfl) ?_ ?_))
 ·refine kv rfl .no FxTbH.go17 (Evc rfl Evn) (fun _=>leaf_ok p.1.bytes p.2 _ hpe hK (by omega)) ?_
  refine .nil (Wp.one 4 (by kernel_rfl) ?_)
  refine lA rfl .no Fx.ag23 (.u rfl) (fun _=>RdN.part (n:=32) (cs':=ba 32 p.1.leaf) .here (rowC_leaf)) (fun _=>(by first|exact rowC_len|exact ba_len _ _|rfl)) ?_
  refine .nil (Wp.one 5 (by kernel_rfl) ?_)
  refine eqB rfl .no Fx.baT23 (.u rfl) (.u rfl) ?_
  refine .nil (Wp.bp 6 (by kernel_rfl) (by kernel_rfl) ?_)
  refine kpc rfl Fx.go43 (Evc rfl Evn) (need_p _ _) (fun ch G9 ρ9 μ9 hle9 hd he hm=>⟨hd.1,wh_no1 hd.2⟩) ?_
  rintro _ G21 μ21 hG21 ⟨hq21,rfl,rfl⟩
  have hR:=hR.mono hG21
  have hK:=hK.mono hG21
  have hpe:=hpe.mono hG21
  refine .nil (Wp.last (by kernel_rfl) ?_)
  refine .code (.seq (rq6 rfl rfl (mV rfl rfl (mV rfl rfl (fz rfl .no Fx.fo96_1 (.u rfl) (ld rfl .no Fx.ag36 (.u rfl) (fun _=>Rd.own .here (by first|exact wap_f rfl|rfl)) ?_))))))
  refine kpo rfl Fx.go56 (Evc rfl (Evc rfl (Evc rfl Evn))) (mtk1 tk1) (open_p root h ha _ _ b part p.1.bytes p.2 _ hR.ad hpe hK hsm hpt) (fun ch G9 ρ9 μ9 hle9 hd he hm=>⟨hd.1,(wh_eq hq21).trans hd.2⟩) ?_
  rintro _ G26 μ26 hG26 ⟨L26,h26,hO26,rfl,rfl,hs26⟩
  have hR:=hR.mono hG26
  have hK:=hK.mono hG26
  have hpe:=hpe.mono hG26
  refine aS rfl rfl (.nil (.code (.ret (We.fin Tryd.results36 (.tmp rfl .nil) (mS .here rfl mN) ?_))))
  exact ⟨L26,h26,(wh_eq hq21).trans hO26,rfl,rfl,hs26⟩
 refine lA rfl .no Fx.ag23 (.u rfl) (fun _=>RdN.part (n:=32) (cs':=ba 32 p.1.leaf) .here (rowC_leaf)) (fun _=>(by first|exact rowC_len|exact ba_len _ _|rfl)) ?_
 refine .nil (Wp.b1 2 (by kernel_rfl) ?_)
 refine kv rfl .no FxTbH.go17 (Evc rfl Evn) (fun _=>leaf_ok p.1.bytes p.2 _ hpe hK (by omega)) ?_
 refine .nil (Wp.one 5 (by kernel_rfl) ?_)
 refine eqB rfl .no Fx.baT23 (.u rfl) (.u rfl) ?_
 refine .nil (Wp.bp 6 (by kernel_rfl) (by kernel_rfl) ?_)
 refine kpc rfl Fx.go43 (Evc rfl Evn) (need_p _ _) (fun ch G9 ρ9 μ9 hle9 hd he hm=>⟨hd.1,wh_no1 hd.2⟩) ?_
 rintro _ G21 μ21 hG21 ⟨hq21,rfl,rfl⟩
 have hR:=hR.mono hG21
 have hK:=hK.mono hG21
 have hpe:=hpe.mono hG21
 refine .nil (Wp.last (by kernel_rfl) ?_)
 refine .code (.seq (rq6 rfl rfl (mV rfl rfl (mV rfl rfl (fz rfl .no Fx.fo96_1 (.u rfl) (ld rfl .no Fx.ag36 (.u rfl) (fun _=>Rd.own .here (by first|exact wap_f rfl|rfl)) ?_))))))
 refine kpo rfl Fx.go56 (Evc rfl (Evc rfl (Evc rfl Evn))) (mtk1 tk1) (open_p root h ha _ _ b part p.1.bytes p.2 _ hR.ad hpe hK hsm hpt) (fun ch G9 ρ9 μ9 hle9 hd he hm=>⟨hd.1,(wh_eq hq21).trans hd.2⟩) ?_
 rintro _ G26 μ26 hG26 ⟨L26,h26,hO26,rfl,rfl,hs26⟩
 refine aS rfl rfl (.nil (.code (.ret (We.fin Tryd.results36 (.tmp rfl .nil) (mS .here rfl mN) ?_))))
 exact ⟨L26,h26,(wh_eq hq21).trans hO26,rfl,rfl,hs26⟩
theorem ents_p (root:Nat→Y) (h:Hd) (ps:List (RowT×Sh)) (ix:List Y) (ha hr hi:Sh) (b:Nat) (G:PM) (hR:RdrR G h ps ix ha hr hi) (hK:RdNP G 0 0 (wa 64 kW)) (i:Nat) (p:RowT×Sh) (hp:ps[i]? = some p):Cp Tryd.prog 39 ([.pointer (some ⟨b,0,none⟩),.int .i64 (i:Int)]:List Value).toArray G [.blk b (cl (wrC (keyEnc root (headL h)) (keyMac root (headL h)) (ha.val (headL h).length) (hr.val ps.length) (hi.val ix.length)) 91)] (fun G' μ' u=>∃ l h',entsT root h (ps.map (·.1)) i=some l∧μ'=[.blk b (cl (wrC (keyEnc root (headL h)) (keyMac root (headL h)) (ha.val (headL h).length) (hr.val ps.length) (hi.val ix.length)) 91)]∧u=Sh.val h' l.length∧SlR G' 4 Ent.cells h' l) (fun ch=>ch=[brk]∧(entsT root h (ps.map (·.1)) i=none)):=by
 refine Cp.of Tryd.func39 rfl Tryd.ntmps39 rfl fun w0 hs0=>?_
 have hpm:=List.mem_of_getElem? hp
 have hsm:=hR.sm p hpm
 have hil:=(List.getElem?_eq_some_iff.1 hp).1; have hpl:=hR.len
 refine .seq (rq1 rfl rfl (aS rfl rfl (.nil (.code (.seq (Wk.rg [0,1,2,3,4,5,6,7,8,9,10] rfl rfl (mV rfl rfl (mV rfl rfl (mV rfl rfl (arn (((2+i):Nat):Int) rfl .no (.u rfl) (.u rfl) rfl (fun _=>by omega) (fun _=>wrap_i64 (by omega) (by omega)) ?_))))))))))
 refine kpo rfl Fx.go36 (Evc rfl (Evc rfl (Evc rfl Evn))) (mtk1 .here) (whole_p root h ps ix ha hr hi b _ hR hK i (2+i) p hp (by omega)) (fun ch G9 ρ9 μ9 hle9 hd he hm=>⟨hd.1,en_no1 (map_fst rfl hp) hd.2⟩) ?_
 rintro _ G12 μ12 hG12 ⟨y,h12,hwy,rfl,rfl,hs12⟩
 have hly:=wh_len hwy
 refine kc rfl Fx.go63 (Evc rfl Evn) (bRead_ok y h12 _ hs12 (by omega)) ?_
 rintro _ G13 μ13 hG13 ⟨h13,l13,er13,hB13,rfl,rfl,hs13⟩
 refine mV rfl rfl (ex rfl .no (.u rfl) rfl (ex rfl .no (.u rfl) rfl (aS rfl rfl (aS rfl rfl (.nil (.code (.seq (rq3 rfl rfl (mV rfl rfl (cp rfl .no (.u rfl) (.u rfl) rfl (kpc rfl Fx.go43 (Evc rfl Evn) (need_p _ _) (fun ch G9 ρ9 μ9 hle9 hd he hm=>⟨hd.1,en_no2 (map_fst rfl hp) hwy hB13 hd.2⟩) ?_)))))))))))
 rintro _ G18 μ18 hG18 ⟨hq18,rfl,rfl⟩
 have hs13:=hs13.mono hG18
 refine .nil (.code (.seq (rq2 rfl rfl (mV rfl rfl (aS rfl rfl (.nil (.code (.ret (We.fin Tryd.results39 (.tmp rfl .nil) (mS .here rfl mN) ?_)))))))))
 exact ⟨l13,h13,en_yes (map_fst rfl hp) hwy hB13 hq18,rfl,rfl,hs13⟩
theorem take_is9 {xs:List Y} {hx:Sh} {G:PM} {h:Hd} {er:Int} (hs:SlR G 1 encY hx xs) (hl:xs.length≤100000000000000) (e:takeH xs=(h,er)):Ct Tryd.prog 53 ([hx.val xs.length]:List Value).toArray G [] (fun _ μ' u=>μ'=[]∧u=.tuple #[.agg h.cells.toArray,.int .i64 er]):=by
 have:=Take_ok xs hx G hs hl
 rw [e] at this
 exact this
set_option maxHeartbeats 4000000 in
theorem begin_p (root:Nat→Y) (m:Meta) (xs:List Y) (hx:Sh) (G:PM) (hw:m.wf) (hs:SlR G 1 encY hx xs) (hK:RdNP G 0 0 (wa 64 kW)) (hl:xs.length≤1000000):Cp Tryd.prog 34 ([.agg (ba 32 root).toArray,m.val,hx.val xs.length]:List Value).toArray G [] (fun G' μ' u=>∃ (ix:List Y) (b:Nat) (ps:List (RowT×Sh)) (ha hr hi:Sh),beginT root m xs=some (ps.map (·.1),ix)∧μ'=[.blk b (cl (wrC (keyEnc root (headL (hdM m))) (keyMac root (headL (hdM m))) (ha.val (headL (hdM m)).length) (hr.val ps.length) (hi.val ix.length)) 91)]∧u=.pointer (some ⟨b,0,none⟩)∧RdrR G' (hdM m) ps ix ha hr hi) (fun ch=>ch=[brk]∧(beginT root m xs=none)):=by
 refine Cp.of Tryd.func34 rfl Tryd.ntmps34 rfl fun w0 hs0=>?_
 obtain ⟨h9,er9,hT9⟩ : ∃ h9 er9,takeH xs=(h9,er9):=⟨_,_,rfl⟩
 refine .seq (rq3 rfl rfl ?_)
 refine bx rfl (.u rfl) rfl ?_; intro b3
 refine bx rfl (.u rfl) rfl ?_; intro b4
 refine aS rfl rfl (.nil (.code (.seq (rq8 rfl rfl (mV rfl rfl (kv rfl .no Fx.go53 (Evc rfl Evn) (fun _=>take_is9 hs (by omega) hT9) ?_))))))
 refine mV rfl rfl (ex rfl .no (.u rfl) rfl (ex rfl .no (.u rfl) rfl ?_))
 refine al rfl Fx.zq26 ?_; intro b7
 refine sw rfl (.u rfl) (.u rfl) rfl Fx.sz26 .here rfl (one5 rfl rfl rfl rfl rfl) ?_
 refine aS rfl rfl (.nil (.code (.seq ?_)))
 refine wk_fz tk2 (by intro b hb; cases hb) ?_; intro Gfb3 hleb3 hbb3
 have hs:=hs.mono hleb3
 have hK:=hK.mono hleb3
 refine wk_fz tk1 (by intro b hb; cases hb) ?_; intro Gfb4 hleb4 hbb4
 have hs:=hs.mono hleb4
 have hK:=hK.mono hleb4
 have hbb3:=hbb3.mono hleb4
 refine wk_fz .here (by intro b hb; cases hb) ?_; intro Gfb7 hleb7 hbb7
 have hs:=hs.mono hleb7
 have hK:=hK.mono hleb7
 have hbb3:=hbb3.mono hleb7
 have hbb4:=hbb4.mono hleb7
 refine Wk.mixp ⟨true,false⟩ Fx.mix (by kernel_rfl) ?_
 refine Wp.one 0 (by kernel_rfl) ?_
 refine mV rfl rfl (.nil (Wp.one 1 (by kernel_rfl) ?_))
 refine ln rfl .no Fx.sn36 (.u rfl) (.nil (Wp.one 2 (by kernel_rfl) ?_))
 refine fa rfl .no Fx.fo38_4 (.u rfl) (.nil (Wp.one 3 (by kernel_rfl) ?_))
 refine ld rfl .no Fx.ag3 (.u rfl) (fun _=>(hbb4.rd (by rfl)).rd) ?_
 refine .nil (Wp.one 4 (by kernel_rfl) ?_)
 refine cp rfl .no (.u rfl) (.u rfl) rfl (.nil (Wp.one 5 (by kernel_rfl) ?_))
 refine mV rfl rfl (.nil (Wp.one 6 (by kernel_rfl) ?_))
 refine mv rfl (.t rfl rfl) (.u rfl) (.nil (Wp.one 7 (by kernel_rfl) ?_))
 refine cp rfl (.t rfl rfl) (.s rfl) (.u rfl) rfl (.nil (Wp.one 8 (by kernel_rfl) ?_))
 refine pkA rfl .no (.u rfl) (.s rfl) (.nil (Wp.one 9 (by kernel_rfl) ?_))
 refine mV rfl rfl (.nil (Wp.one 11 (by kernel_rfl) ?_))
 refine lA rfl (.t rfl rfl) FxTbI.ag38 (.u rfl) (fun hc=>(hbb4.rdn (m:=40) (cs':=m.cells) ((by rw [List.drop_zero]; exact List.take_of_length_le (Nat.le_of_eq (Meta.len m))))).rd) (fun _=>(Meta.len _)) ?_
 refine .nil (Wp.pr 10 (by kernel_rfl) ?_)
 refine lA rfl (.t rfl rfl) Fx.ag26 (.u rfl) (fun hc=>(hbb7.rdn (m:=5) (cs':=h9.cells) (rfl)).rd) (fun _=>rfl) ?_
 refine .nil ⟨⟨rfl,rfl⟩,?_⟩
 refine Wp.b1 12 (by kernel_rfl) ?_
 refine kv rfl (.t rfl rfl) Fx.go16 (Eva.cons (.s rfl) Evn) (fun hc=>tHead_ok m _ hw) ?_
 refine .nil (Wp.one 13 (by kernel_rfl) ?_)
 refine eqC (decide (h9=hdM m)) rfl (.t rfl rfl) Fx.eqt26 (.s rfl) (.s rfl) (fun hc=>hd_conf _) (fun hc=>hd_conf _) (fun hc=>hd_iff) ?_
 refine .nil (Wp.one 14 (by kernel_rfl) ?_)
 refine pkA rfl .no (.u rfl) (.s rfl) (.nil (Wp.one 15 (by kernel_rfl) ?_))
 refine mV rfl rfl (.nil (Wp.one 16 (by kernel_rfl) ?_))
 refine mv rfl (.t rfl rfl) (.u rfl) (.nil (Wp.one 17 (by kernel_rfl) ?_))
 refine ln rfl (.t rfl rfl) Fx.sn36 (.s rfl) (.nil (Wp.one 18 (by kernel_rfl) ?_))
 refine cp rfl (.t rfl rfl) (.s rfl) (.u rfl) rfl (.nil (Wp.one 19 (by kernel_rfl) ?_))
 refine pkA rfl .no (.u rfl) (.s rfl) (.nil (Wp.bp 20 (by kernel_rfl) (by kernel_rfl) ?_))
 refine kpc rfl Fx.go43 (Evc rfl Evn) (need_p _ _) (fun ch G9 ρ9 μ9 hle9 hd he hm=>⟨hd.1,bgn1 hT9 hd.2⟩) ?_
 rintro _ G46 μ46 hG46 ⟨hq46,rfl,rfl⟩
 have hs:=hs.mono hG46
 have hK:=hK.mono hG46
 have hbb3:=hbb3.mono hG46
 have hbb4:=hbb4.mono hG46
 have hbb7:=hbb7.mono hG46
 refine .nil (Wp.last (by kernel_rfl) ?_)
 refine .code (.seq ?_)
 obtain ⟨⟨rfl,rfl⟩,hsz9,hlong⟩:=bgy1 hq46
 have hrl:=restT_len hlong
 refine Wk.draw (mc:=⟨false,false⟩) [0,1,2,3,4,5,6,7,8,9,10,11,12] Fx.mix (by kernel_rfl) ?_
 refine mV rfl rfl (mV rfl rfl (ln rfl .no Fx.sn36 (.u rfl) (arn (((xs.length-8):Nat):Int) rfl .no (.u rfl) (.u rfl) rfl (fun _=>by omega) (fun _=>wrap_i64 (by omega) (by omega)) ?_)))
 refine kS (30) ((xs.length-8)) rfl .no Fx.se36 hs (.u rfl) (.u rfl) (.u rfl) (fun _=>by omega) (fun _=>by omega) (fun _=>by omega) (fun _=>by omega) ?_
 intro h51 L51 eL51 lL51 hs51
 have lL51:=lL51 rfl
 refine mV rfl rfl (mV rfl rfl (ln rfl .no Fx.sn36 (.u rfl) (arn (((xs.length-8):Nat):Int) rfl .no (.u rfl) (.u rfl) rfl (fun _=>by omega) (fun _=>wrap_i64 (by omega) (by omega)) ?_)))
 refine kD ((xs.length-8)) rfl .no Fx.se36 hs (.u rfl) (.u rfl) (fun _=>by omega) (fun _=>by omega) ?_
 intro h56 L56 eL56 lL56 hs56
 have lL56:=lL56 rfl
 refine kc rfl Fx.go54 (Evc rfl Evn) (wcNew_ok L56 h56 _ hs56 (by omega)) ?_
 rintro _ G57 μ57 hG57 ⟨b57,s57,rfl,rfl,hs57⟩
 have hK:=hK.mono hG57
 have hbb3:=hbb3.mono hG57
 have hbb4:=hbb4.mono hG57
 have hbb7:=hbb7.mono hG57
 have hs51:=hs51.mono hG57
 refine aS rfl rfl (aS rfl rfl (.nil (.code (.seq ?_))))
 have hk8:(unfK L56 8).toNat=kkT xs:=by rw [eL56]; rfl
 have hk9:@BitVec.toNat IntKind.u64.bits (unfK L56 8)=kkT xs:=hk8
 have eR:L51=restT xs:=by rw [eL51,show xs.length-8-30=xs.length-38 by omega]; rfl
 refine rq3 rfl rfl (mV rfl rfl (ka rfl (.inr rfl) Fx.go55 (Evc rfl (Evc rfl Evn)) (mtk1 .here) (rdFix_ok L56 s57 _ _ hs57 (by omega) (by omega)) ?_))
 rintro _ G59 μ59 hG59 ⟨s59,rfl,rfl,hs59⟩
 have hK:=hK.mono hG59
 have hbb3:=hbb3.mono hG59
 have hbb4:=hbb4.mono hG59
 have hbb7:=hbb7.mono hG59
 have hs51:=hs51.mono hG59
 refine aS rfl rfl (.nil (.code (.seq (rq6 rfl rfl (mV rfl rfl (mV rfl rfl (ln rfl .no Fx.sn36 (.u rfl) (cw rfl .no Fx.cv3_24 (.u rfl) (fun _=>wrap_u64 (by omega) (by omega)) ?_))))))))
 refine cp rfl .no (.u rfl) (.u rfl) rfl (kpc rfl Fx.go43 (Evc rfl Evn) (need_p _ _) (fun ch G9 ρ9 μ9 hle9 hd he hm=>⟨hd.1,bgn2 (by have q:=of_decide_eq_false hd.2; omega)⟩) ?_)
 rintro _ G65 μ65 hG65 ⟨hq65,rfl,rfl⟩
 have hK:=hK.mono hG65
 have hbb3:=hbb3.mono hG65
 have hbb4:=hbb4.mono hG65
 have hbb7:=hbb7.mono hG65
 have hs51:=hs51.mono hG65
 refine .nil (.code (.seq ?_))
 have hkk:kkT xs≤xs.length-38:=by have q:=of_decide_eq_true hq65; omega
 refine rq6 rfl rfl (mV rfl rfl (ln rfl .no Fx.sn36 (.u rfl) (mV rfl rfl (cw rfl .no Fx.cv24_3 (.u rfl) (fun _=>wrap_i64 (by omega) (by omega)) ?_))))
 refine arn (((L51.length-(unfK L56 8).toNat):Nat):Int) rfl .no (.u rfl) (.u rfl) rfl (fun _=>by omega) (fun _=>wrap_i64 (by omega) (by omega)) ?_
 refine aS rfl rfl (.nil (.code (.seq (Wk.mixp ⟨true,false⟩ Fx.mix (by kernel_rfl) ?_))))
 refine Wp.one 0 (by kernel_rfl) ?_
 refine lA rfl .no Fx.ag23 (.u rfl) (fun _=>(hbb3.rdn (m:=32) (cs':=_) (by first|exact ba_all|exact app_l|exact app_r)).rd) (fun _=>(ba_len _ _)) ?_
 refine .nil (Wp.one 1 (by kernel_rfl) ?_)
 refine lA rfl .no Fx.ag26 (.u rfl) (fun _=>(hbb7.rdn (m:=5) (cs':=(hdM m).cells) (rfl)).rd) (fun _=>rfl) ?_
 refine .nil (Wp.one 5 (by kernel_rfl) ?_)
 refine mV rfl rfl (.nil (Wp.one 6 (by kernel_rfl) ?_))
 refine mV rfl rfl (.nil (Wp.one 7 (by kernel_rfl) ?_))
 refine kD ((L51.length-(unfK L56 8).toNat)) rfl .no Fx.se36 hs51 (.u rfl) (.u rfl) (fun _=>by omega) (fun _=>by omega) ?_
 intro h78 L78 eL78 lL78 hs78
 have lL78:=lL78 rfl
 refine .nil (Wp.pr 3 (by kernel_rfl) ?_)
 refine lA rfl .no Fx.ag26 (.u rfl) (fun _=>(hbb7.rdn (m:=5) (cs':=(hdM m).cells) (rfl)).rd) (fun _=>rfl) ?_
 refine .nil ⟨⟨rfl,rfl⟩,?_⟩
 refine Wp.b1 2 (by kernel_rfl) ?_
 refine kv rfl .no FxTbI.go23 (Evc rfl (Evc rfl Evn)) (fun _=>KeyOf_ok root (hdM m) _ hK) ?_
 refine .nil (Wp.b1 4 (by kernel_rfl) ?_)
 refine kc rfl Fx.go15 (Evc rfl Evn) (Ct.frzB (nLay_ok (hdM m) _)) ?_
 rintro _ G75 μ75 hG75 ⟨h75,L75,eL75,rfl,rfl,hs75⟩
 have hK:=hK.mono hG75
 have hbb4:=hbb4.mono hG75
 have hs51:=hs51.mono hG75
 have hs78:=hs78.mono hG75
 refine .nil (Wp.one 8 (by kernel_rfl) ?_)
 refine bCe (wrC (keyEnc root (headL (hdM m))) (keyMac root (headL (hdM m))) (h75.val L75.length) (.slice none 0 0) (h78.val L78.length)) rfl .no Fx.bp91_0_1_3 (.cons (.u rfl) rfl (.cons (.u rfl) rfl (.cons (.u rfl) rfl .nil))) rfl (rfl) (.nil (Wp.b1 9 (by kernel_rfl) ?_))
 refine bx rfl (.u rfl) rfl ?_; intro b80
 refine .nil (Wp.one 10 (by kernel_rfl) ?_)
 refine aS rfl rfl (.nil (Wp.last (by kernel_rfl) ?_))
 refine .code (.seq ?_)
 have hix:L78=(restT xs).drop (xs.length-38-kkT xs):=by rw [eL78,eR,hk8,hrl]
 have e75:h75.val L75.length=h75.val (headL (hdM m)).length:=by rw [eL75]
 rw [eL75] at hs75
 rw [e75]
 refine rq4 rfl rfl (mV rfl rfl (mV rfl rfl (kE ((L51.length-(unfK L56 8).toNat)) rfl .no Fx.se36 hs51 (.u rfl) (.u rfl) (fun _=>by omega) (fun _=>by omega) ?_)))
 intro h83 L83 eL83 lL83 hs83
 have lL83:=lL83 rfl
 refine aS rfl rfl (.nil (.code (.seq ?_)))
 have hA9:L83=(restT xs).take (xs.length-38-kkT xs):=by rw [eL83,eR,hk8,hrl]
 have hB9:=beg_eq (root:=root) hT9 hsz9 hlong hkk hix hA9
 refine rq8 rfl rfl (mV rfl rfl (mV rfl rfl (nc rfl .no (.u rfl) (fz rfl .no Fx.fo91_3 (.u rfl) (ld rfl .no Fx.ag36 (.u rfl) (fun _=>Rd.own .here wrc_lvs) ?_)))))
 refine kpo rfl Fx.go56 (Evc rfl (Evc rfl (Evc rfl Evn))) (mtk1 .here) (open_p root (hdM m) h75 _ _ b80 0 L78 h78 _ hs75 hs78 hK (by omega) (by decide)) (fun ch G9 ρ9 μ9 hle9 hd he hm=>⟨hd.1,bgn3 hB9 hd.2⟩) ?_
 rintro _ G89 μ89 hG89 ⟨y,h89,hy,rfl,rfl,hs89⟩
 have hyl:y.length+16≤1000000:=by have h1:=(seal_open hy).2; omega
 have hK:=hK.mono hG89
 have hbb4:=hbb4.mono hG89
 have hs78:=hs78.mono hG89
 have hs75:=hs75.mono hG89
 have hs83:=hs83.mono hG89
 refine kc rfl Fx.go54 (Evc rfl Evn) (wcNew_ok y h89 _ hs89 (by omega)) ?_
 rintro _ G90 μ90 hG90 ⟨b90,s90,rfl,rfl,hs90⟩
 have hK:=hK.mono hG90
 have hbb4:=hbb4.mono hG90
 have hs78:=hs78.mono hG90
 have hs75:=hs75.mono hG90
 have hs83:=hs83.mono hG90
 refine aS rfl rfl (.nil (.code (.seq (rq3 rfl rfl (mV rfl rfl (ka rfl (.inr rfl) Fx.go57 (Evc rfl Evn) (mtk1 .here) (rNum_ok y 0 s90 b90 _ hs90 (by omega)) ?_))))))
 rintro _ G92 μ92 hG92 ⟨n92,L92,e92,s92,hN92,rfl,rfl,hs92⟩
 have lL92:=rdnum_le hN92; have nL92:=rdnum_lt hN92; simp only at lL92
 have hK:=hK.mono hG92
 have hbb4:=hbb4.mono hG92
 have hs78:=hs78.mono hG92
 have hs75:=hs75.mono hG92
 have hs83:=hs83.mono hG92
 refine aS rfl rfl (.nil (.code (.seq ?_)))
 have hBy:=beg_y hB9 hy hN92
 refine rq8 rfl rfl (mV rfl rfl (cp rfl .no (.u rfl) (.u rfl) rfl (mV rfl rfl (mv rfl (.t rfl rfl) (.u rfl) (kp rfl (.t rfl rfl) Fx.go58 (Eva.cons (.s rfl) Evn) (Gp.add .here Gp.nil) (fun hc hle hq=>rFault_ok L92 e92 s92 b90 _ RdNP.add) ?_)))))
 refine cp rfl (.t rfl rfl) (.s rfl) (.u rfl) rfl (pkA rfl .no (.u rfl) (.s rfl) (kpc rfl Fx.go43 (Evc rfl Evn) (need_p _ _) (fun ch G9 ρ9 μ9 hle9 hd he hm=>⟨hd.1,bgn4 hBy hd.2⟩) ?_))
 rintro _ G100 μ100 hG100 ⟨hq100,rfl,rfl⟩
 have hK:=hK.mono hG100
 have hbb4:=hbb4.mono hG100
 have hs78:=hs78.mono hG100
 have hs75:=hs75.mono hG100
 have hs83:=hs83.mono hG100
 have hs92:=hs92.mono hG100
 refine .nil (.code (.seq ?_))
 obtain ⟨hn0,rfl⟩:=bgy4 hq100
 obtain ⟨O,eO,hO⟩:=bgO hBy hn0
 refine rq1 rfl rfl (aS rfl rfl (.nil (.code (.seq (.seq (wk_nilS 32 (ba 32) 23 ?_))))))
 refine wk_nilS 34 rowC 96 ?_
 refine rq1 rfl rfl (aS rfl rfl (.nil (.code (.block ?_))))
 refine Wk.lop (α:=Nat×List Y×Sh×Value×List (RowT×Sh)×Value×List Dg×List Y×Sh) (fun gh=>[(9,true,gh.2.2.1.val gh.2.1.length),(16,true,gh.2.2.2.2.2.1),(17,true,.int .u64 (gh.1:Int))]) (fun gh=>[rS 34 rowC gh.2.2.2.1 96 gh.2.2.2.2.1,rS 32 (ba 32) gh.2.2.2.2.2.1 23 gh.2.2.2.2.2.2.1,.blk b90 (cl [Sh.val gh.2.2.2.2.2.2.2.2 gh.2.2.2.2.2.2.2.1.length,.int .i64 0] 145),.blk b80 (cl (wrC (keyEnc root (headL (hdM m))) (keyMac root (headL (hdM m))) (h75.val (headL (hdM m)).length) gh.2.2.2.1 (h78.val L78.length)) 91)])
  (fun gh Gl=>(gh.1≤n92+1)∧(O=rowsP (n92+1-gh.1) (gh.2.2.2.2.1.map (·.1)) gh.2.1 gh.2.2.2.2.2.2.2.1)∧(gh.2.2.2.2.2.2.1=gh.2.2.2.2.1.map (fun p=>p.1.leaf))∧(gh.2.2.2.2.1.length=gh.1∧gh.2.2.2.2.1.length+gh.2.2.2.2.2.2.2.1.length≤y.length∧gh.2.1.length≤xs.length)∧(AllB Gl gh.2.2.2.2.1)∧(SlR Gl 1 encY gh.2.2.1 gh.2.1)∧(SlR Gl 1 encY gh.2.2.2.2.2.2.2.2 gh.2.2.2.2.2.2.2.1)) (fun gh=>n92+1-gh.1) (0,L83,h83,.slice none 0 0,[],.slice none 0 0,[],L92,s92) [(4,true,_),(13,true,_),(14,true,_),(15,true,_)] [_]
  (esD rfl (esD rfl (esD rfl (esD rfl (esD rfl (esD rfl (esD rfl eZ)))))))
  (mS .here rfl (mS .here rfl (mS .here rfl (mS .here rfl (mS .here rfl mN))))) ?_ ?_
 ·refine ⟨?_,?_,?_,?_,?_,?_,?_⟩
  ·(try dsimp only)<;>(first|omega|rfl|assumption|(simp; done))
  ·(try dsimp only)<;>(exact eO)
  ·(try dsimp only)<;>(first|omega|rfl|assumption|(simp; done))
  ·(try dsimp only)<;>(exact ⟨rfl,by simp only [List.length_nil]; omega,by omega⟩)
  ·(try dsimp only)<;>(exact AllB.nil)
  ·(try dsimp only)<;>(exact hs83)
  (try dsimp only)<;>(exact hs92)
 intro gh N0 Gl0 hN0 hGl0 hF0
 obtain ⟨k,A,hA,vr,acc,vl,D,R,sR⟩:=gh; dsimp only at hF0 hN0 ⊢
 obtain ⟨hk,hrows,eD,hlen,hall,hsA,hsR⟩:=hF0
 have hK:=hK.mono hGl0
 have hbb4:=hbb4.mono hGl0
 have hs78:=hs78.mono hGl0
 have hs75:=hs75.mono hGl0
 have lD:D.length=acc.length:=by rw [eD,List.length_map]
 refine .seq (.seq (rq3 rfl rfl (mV rfl rfl (mV rfl rfl (cp rfl .no (.u rfl) (.u rfl) rfl (.nil (.code (.cond rfl (fun c1=>?_) (fun c1=>?_)))))))))
 ·have c1k:=c1
  try simp only [qcA,qcC,qcB] at c1
  refine .skip (.code (.seq (.block (.seq (rq1 rfl rfl ?_)))))
  refine al rfl Fx.zr96 ?_; intro b18
  refine .nil (.code (.seq (.seq (rq3 rfl rfl (mV rfl rfl (mV rfl rfl (cp rfl .no (.u rfl) (.u rfl) rfl (.nil (.code (.cond rfl (fun c2=>?_) (fun c2=>?_)))))))))))
  ·have c2k:=c2
   try simp only [qcA,qcC,qcB] at c2
   refine rq4 rfl rfl (mV rfl rfl (ka rfl (.inr rfl) Fx.go59 (Evc rfl (Evc rfl Evn)) (mtk1 tk3) (rStr_ok R 0 sR b90 _ hsR (by omega) 1024 (by decide)) ?_))
   rintro _ G110 μ110 hG110 ⟨M110,L110,e110,s110,hN110,rfl,rfl,hs110⟩
   have lL110:=rdstr_le hN110; simp only at lL110
   have hK:=hK.mono hG110
   have hbb4:=hbb4.mono hG110
   have hs78:=hs78.mono hG110
   have hs75:=hs75.mono hG110
   have hall:=hall.mono hG110
   have hsA:=hsA.mono hG110
   have hsR:=hsR.mono hG110
   refine fz rfl .no Fx.fo96_0 (.u rfl) (s1 rfl (.u rfl) (.u rfl) rfl Fx.sz9 tk1 (show 0<34 by decide) (rfl) ?_)
   refine .nil (.code (.seq (rq3 rfl rfl (mV rfl rfl (ka rfl (.inr rfl) Fx.go57 (Evc rfl Evn) (mtk1 tk1) (rNum_ok L110 e110 s110 b90 _ hs110 (by omega)) ?_)))))
   rintro _ G113 μ113 hG113 ⟨n113,L113,e113,s113,hN113,rfl,rfl,hs113⟩
   have lL113:=rdnum_le hN113; have nL113:=rdnum_lt hN113; simp only at lL113
   have hK:=hK.mono hG113
   have hbb4:=hbb4.mono hG113
   have hs78:=hs78.mono hG113
   have hs75:=hs75.mono hG113
   have hall:=hall.mono hG113
   have hsA:=hsA.mono hG113
   have hsR:=hsR.mono hG113
   refine aS rfl rfl (.nil (.code (.seq (.seq (rq1 rfl rfl (mV rfl rfl (.nil (.code (.block ?_)))))))))
   have hT3:=((bgp_str hrows (by omega)).strE hN110).numE hN113
   refine Wk.lop (α:=Nat×List Y×Int×Sh×(Nat→Y)×List Y) (fun gh=>[(114,true,.int .i64 (gh.1:Int))]) (fun gh=>[.blk b90 (cl [Sh.val gh.2.2.2.1 gh.2.1.length,.int .i64 gh.2.2.1] 145),.blk b18 (cl (rwC M110 (.slice none 0 0) gh.2.2.2.2.1) 96)])
    (fun gh Gl=>(gh.1≤32)∧(gh.2.2.2.2.2.length=gh.1)∧(ByR ⟨L113,e113⟩ ⟨gh.2.1,gh.2.2.1⟩ false gh.2.2.2.2.2)∧(∀ i,gh.2.2.2.2.1 i=gh.2.2.2.2.2.getD i 0)∧(gh.2.1.length≤L113.length∧(gh.2.2.1=0→gh.2.1.length+gh.1≤L113.length))∧(SlR Gl 1 encY gh.2.2.2.1 gh.2.1)) (fun gh=>32-gh.1) (0,L113,e113,s113,(fun _=>0#8),[]) [(4,true,_),(9,true,_),(13,true,_),(14,true,_),(15,true,_),(16,true,_),(17,true,_),(18,true,_),(19,true,_)] [_,_,_,_]
    (esC rfl (by first|rfl|exact evi (by omega)) (esD rfl (esD rfl (esD rfl (esD rfl (esD rfl (esD rfl (esD rfl (esD rfl (esD rfl eZ))))))))))
    (mS .here rfl (mS .here (by first|rfl | (rw [bnil]; rfl)) (mS .here rfl (mS .here rfl (mS .here rfl (mS .here rfl mN)))))) ?_ ?_
   ·refine ⟨?_,?_,?_,?_,?_,?_⟩
    ·(try dsimp only)<;>(first|omega|rfl|assumption|(simp; done))
    ·(try dsimp only)<;>(first|omega|rfl|assumption|(simp; done))
    ·(try dsimp only)<;>(exact ByR.zero)
    ·(try dsimp only)<;>(exact fun i=>by simp)
    ·(try dsimp only)<;>(exact ⟨Nat.le_refl _,fun _=>Nat.le_refl _⟩)
    (try dsimp only)<;>(exact hs113)
   intro gh N1 Gl1 hN1 hGl1 hF1
   obtain ⟨q,L,ee,s9,f,rt⟩:=gh; dsimp only at hF1 hN1 ⊢
   obtain ⟨hq,hrt,hB9,ef,lX,hsl⟩:=hF1
   have hK:=hK.mono hGl1
   have hbb4:=hbb4.mono hGl1
   have hs78:=hs78.mono hGl1
   have hs75:=hs75.mono hGl1
   have hall:=hall.mono hGl1
   have hsA:=hsA.mono hGl1
   have hsR:=hsR.mono hGl1
   have hs113:=hs113.mono hGl1
   refine .seq (rq1 rfl rfl (cp rfl .no (.u rfl) (.u rfl) rfl (.nil (.code (.seq (.cond rfl (fun c3=>?_) (fun c3=>?_)))))))
   ·have c3k:=c3
    try simp only [qcA,qcC,qcB] at c3
    refine .skip (.code (.seq (.block (.seq (rq2 rfl rfl (mV rfl rfl (aS rfl rfl (.nil (.code (rq7 rfl rfl (mV rfl rfl (mV rfl rfl (ka rfl (.inr rfl) Fx.go55 (Evc rfl (Evc rfl Evn)) (mtk1 .here) (rFix_ok L ee s9 b90 _ hsl (by omega)) ?_)))))))))))))
    rintro _ G119 μ119 hG119 ⟨y119,L119,e119,s119,hN119,rfl,rfl,hs119⟩
    have lL119:=rdbyte_le hN119; simp only at lL119
    have hK:=hK.mono hG119
    have hbb4:=hbb4.mono hG119
    have hs78:=hs78.mono hG119
    have hs75:=hs75.mono hG119
    have hall:=hall.mono hG119
    have hsA:=hsA.mono hG119
    have hsR:=hsR.mono hG119
    have hs113:=hs113.mono hG119
    have hsl:=hsl.mono hG119
    refine cu (k:=.u64) rfl .no rfl Fx.cv24_5 (.u rfl) ?_
    refine fz rfl .no Fx.fo96_2 (.u rfl) (iA rfl .no Fx.ar23 (.u rfl) (.u rfl) (fun _=>by omega) (fun _=>by omega) ?_)
    refine s1 rfl (.u rfl) (.u rfl) rfl Fx.sz5 tk1 (by rw [rwC_len]; omega) (rwC_set (k:=q) (by omega)) ?_
    refine .nil (.blk (.code (rq2 rfl rfl (arn (((q+1):Nat):Int) rfl .no (.u rfl) (.u rfl) rfl (fun _=>by omega) (fun _=>wrap_i64 (by omega) (by omega)) ?_))))
    refine mV rfl rfl (.nil (We.lpo (q+1,L119,e119,s119,upd f q ((y119.setWidth 64).setWidth 8),rt++[y119]) ?_ ?_ ?_ ?_ ?_))
    ·exact (esC rfl (by first|rfl|exact evi (by omega)) (esD rfl (esD rfl (esD rfl (esD rfl (esD rfl (esD rfl (esD rfl (esD rfl (esD rfl eZ))))))))))
    ·exact (mS tk1 rfl (mS .here rfl (mS .here rfl (mS .here rfl (mS .here rfl (mS .here rfl mN))))))
    ·first|omega|(dsimp only; omega)
    ·exact (hGl1).trans hG119
    refine ⟨?_,?_,?_,?_,?_,?_⟩
    ·(try dsimp only)<;>(first|omega|rfl|assumption|(simp; done))
    ·(try dsimp only)<;>(simp [hrt])
    ·(try dsimp only)<;>(exact hB9.step (by omega) hN119)
    ·(try dsimp only)<;>(exact rt_step hrt ef)
    ·(try dsimp only)<;>(have hbd:=byte_dec hN119; exact ⟨by omega,fun z=>by have:=hbd.2 z; have:=lX.2 this.1; omega⟩)
    (try dsimp only)<;>(exact hs119)
   have c3k:=c3
   try simp only [qcA,qcC,qcB] at c3
   refine .exit (.xcode (.xlp (.xblk (.code (.seq ?_)))))
   have hg9:=bgp_got ef (hB9.all (by omega) hT3)
   simp only at hg9
   refine Wk.rg [0,1,2,3,4,5,6,7,8,9,10] rfl rfl (mV rfl rfl (kp rfl .no Fx.go58 (Evc rfl Evn) (Gp.add .here Gp.nil) (fun _ hle hq=>rFault_ok L ee s9 b90 _ RdNP.add) ?_))
   refine cp rfl .no (.u rfl) (.u rfl) rfl (mV rfl rfl (mv rfl (.t rfl rfl) (.u rfl) (mv rfl (.t rfl rfl) (.u rfl) (ln rfl (.t rfl rfl) Fx.sn36 (.s rfl) (cw rfl (.t rfl rfl) Fx.cv3_24 (.s rfl) (fun hc=>wrap_u64 (by (try simp only [Bool.and_eq_true,decide_eq_true_eq,Bool.not_eq_true',Bool.or_eq_false_iff,decide_eq_false_iff_not] at hc); omega) (by (try simp only [Bool.and_eq_true,decide_eq_true_eq,Bool.not_eq_true',Bool.or_eq_false_iff,decide_eq_false_iff_not] at hc); omega)) ?_)))))
   refine cp rfl (.t rfl rfl) (.s rfl) (.s rfl) rfl (pkA rfl .no (.u rfl) (.s rfl) (kpc rfl Fx.go43 (Evc rfl Evn) (need_p _ _) (fun ch G9 ρ9 μ9 hle9 hd he hm=>⟨hd.1,bgn5 hO hg9.2 (by first|rfl|omega) hd.2⟩) ?_))
   rintro _ G134 μ134 hG134 ⟨hq134,rfl,rfl⟩
   have hK:=hK.mono hG134
   have hbb4:=hbb4.mono hG134
   have hs78:=hs78.mono hG134
   have hs75:=hs75.mono hG134
   have hall:=hall.mono hG134
   have hsA:=hsA.mono hG134
   have hsR:=hsR.mono hG134
   have hs113:=hs113.mono hG134
   have hsl:=hsl.mono hG134
   refine .nil (.code (.seq ?_))
   obtain ⟨rfl,hsz⟩:=bgy5 (by first|rfl|omega) hq134
   have hrw:=hg9.1 ⟨rfl,hsz⟩
   refine Wk.draw (mc:=⟨false,false⟩) [0,1,2,3,4,5,6,7,8] Fx.mix (by kernel_rfl) ?_
   refine mV rfl rfl (mV rfl rfl (kE (n113) rfl .no Fx.se36 hsA (.u rfl) (.u rfl) (fun _=>by omega) (fun _=>by omega) ?_))
   intro h137 L137 eL137 lL137 hs137
   have lL137:=lL137 rfl
   refine mV rfl rfl (mV rfl rfl (kD (n113) rfl .no Fx.se36 hsA (.u rfl) (.u rfl) (fun _=>by omega) (fun _=>by omega) ?_))
   intro h140 L140 eL140 lL140 hs140
   have lL140:=lL140 rfl
   refine fz rfl .no Fx.fo96_1 (.u rfl) (s1 rfl (.u rfl) (.u rfl) rfl Fx.sz36 tk1 (by rw [rwC_len]; decide) (rfl) ?_)
   refine aS rfl rfl (.nil (.code (.seq (Wk.mixp ⟨false,false⟩ Fx.mix (by kernel_rfl) ?_))))
   refine Wp.one 0 (by kernel_rfl) ?_
   refine mV rfl rfl (.nil (Wp.one 1 (by kernel_rfl) ?_))
   refine mV rfl rfl (.nil (Wp.one 2 (by kernel_rfl) ?_))
   refine nc rfl .no (.u rfl) (.nil (Wp.one 3 (by kernel_rfl) ?_))
   refine fz rfl .no Fx.fo91_2 (.u rfl) (.nil (Wp.one 4 (by kernel_rfl) ?_))
   refine ld rfl .no Fx.ag89 (.u rfl) (fun _=>Rd.own tk4 wrc_out) ?_
   refine .nil (Wp.one 5 (by kernel_rfl) ?_)
   refine lA rfl .no Fx.ag96 (.u rfl) (fun _=>RdN.own .here) (fun _=>rwC_len) ?_
   refine .nil (Wp.b1 6 (by kernel_rfl) ?_)
   refine Go.Tan.b1 rfl Fx.se89 Fx.zv96 (.u rfl) rfl rfl (by decide) ?_; intro b148
   refine .nil (Wp.b1 7 (by kernel_rfl) ?_)
   refine apS (xs:=acc) ((⟨_,L137,f⟩,h137)) rfl Fx.se89 Fx.zv96 rfl (.u rfl) (.u rfl) tk3 .here (rowC_len) (one_app (one2 rfl rfl) (ba_one _ _)) (by omega) (by unfold maxLen; omega) ?_; intro v149 ov149
   refine .nil (Wp.one 8 (by kernel_rfl) ?_)
   refine nc rfl .no (.u rfl) (.nil (Wp.one 9 (by kernel_rfl) ?_))
   refine fz rfl .no Fx.fo91_2 (.u rfl) (.nil (Wp.b1 10 (by kernel_rfl) ?_))
   refine s1v rfl (.u rfl) (.u rfl) .here Fx.sz89 tk5 (by rw [wrc_len]; decide) (wrs_out) ?_
   refine .nil (Wp.last (by kernel_rfl) ?_)
   refine .code (rq6 rfl rfl (mV rfl rfl (fz rfl .no Fx.fo96_2 (.u rfl) (lA rfl .no Fx.ag23 (.u rfl) (fun _=>RdN.part (n:=32) (cs':=ba 32 f) tk3 (rwC_leaf)) (fun _=>(by first|exact rowC_len|exact rwC_len|exact (key_len _ _).trans (key_len _ _).symm|exact key_len _ _|exact ba_len _ _|exact Meta.len _|rfl)) ?_))))
   refine Go.Tan.b1 rfl Fx.se61 Fx.zw23 (.u rfl) rfl rfl (by decide) ?_; intro b155
   refine apS (xs:=D) (f) rfl Fx.se61 Fx.zw23 rfl (.u rfl) (.u rfl) tk6 .here (ba_len _ _) (ba_one _ _) (by omega) (by unfold maxLen; omega) ?_; intro v156 ov156
   refine aS rfl rfl (.nil (.blk (.code (rq3 rfl rfl (mV rfl rfl (ar rfl .no (.u rfl) (.u rfl) rfl (fun _=>wrap_u64 (by omega) (by omega)) ?_))))))
   refine aS rfl rfl (.nil (We.lpo (k+1,L140,h140,v149,acc++[(⟨M110,L137,f⟩,h137)],v156,D++[f],L,s9) ?_ ?_ ?_ ?_ ?_))
   ·exact (esD rfl (esD rfl (esC rfl (congrArg (Value.int .u64) (by dsimp only; omega)) (esD rfl (esD rfl (esD rfl (esD rfl eZ)))))))
   ·exact (mS tk3 rfl (mS .here rfl (mS tk4 rfl (mS tk1 rfl (mS tk3 rfl mN)))))
   ·first|omega|(dsimp only; omega)
   ·exact ((((hGl0).trans hG110).trans hG113).trans hGl1).trans hG134
   refine ⟨?_,?_,?_,?_,?_,?_,?_⟩
   ·(try dsimp only)<;>(first|omega|rfl|assumption|(simp; done))
   ·(try dsimp only)<;>(rw [List.map_append,eL137,eL140]; exact hrw)
   ·(try dsimp only)<;>(rw [eD,List.map_append]; rfl)
   ·(try dsimp only)<;>(have:=lX.2 rfl; refine ⟨by rw [List.length_append]; simp; omega,by rw [List.length_append]; simp only [List.length_cons,List.length_nil]; omega,by omega⟩)
   ·(try dsimp only)<;>(exact hall.snoc hs137 (by show L137.length≤_; omega))
   ·(try dsimp only)<;>(exact hs140)
   (try dsimp only)<;>(exact hsl)
  have c2k:=c2
  try simp only [qcA,qcC,qcB] at c2
  refine .skip (.code (.seq (rq3 rfl rfl (mV rfl rfl (ka rfl (.inr rfl) Fx.go57 (Evc rfl Evn) (mtk1 tk3) (rNum_ok R 0 sR b90 _ hsR (by omega)) ?_)))))
  rintro _ G113 μ113 hG113 ⟨n113,L113,e113,s113,hN113,rfl,rfl,hs113⟩
  have lL113:=rdnum_le hN113; have nL113:=rdnum_lt hN113; simp only at lL113
  have hK:=hK.mono hG113
  have hbb4:=hbb4.mono hG113
  have hs78:=hs78.mono hG113
  have hs75:=hs75.mono hG113
  have hall:=hall.mono hG113
  have hsA:=hsA.mono hG113
  refine aS rfl rfl (.nil (.code (.seq (.seq (rq1 rfl rfl (mV rfl rfl (.nil (.code (.block ?_)))))))))
  have hT3:=(bgp_last hrows (by omega) (by omega)).numE hN113
  refine Wk.lop (α:=Nat×List Y×Int×Sh×(Nat→Y)×List Y) (fun gh=>[(114,true,.int .i64 (gh.1:Int))]) (fun gh=>[.blk b90 (cl [Sh.val gh.2.2.2.1 gh.2.1.length,.int .i64 gh.2.2.1] 145),.blk b18 (cl (rwC [] (.slice none 0 0) gh.2.2.2.2.1) 96)])
   (fun gh Gl=>(gh.1≤32)∧(gh.2.2.2.2.2.length=gh.1)∧(ByR ⟨L113,e113⟩ ⟨gh.2.1,gh.2.2.1⟩ false gh.2.2.2.2.2)∧(∀ i,gh.2.2.2.2.1 i=gh.2.2.2.2.2.getD i 0)∧(gh.2.1.length≤L113.length∧(gh.2.2.1=0→gh.2.1.length+gh.1≤L113.length))∧(SlR Gl 1 encY gh.2.2.2.1 gh.2.1)) (fun gh=>32-gh.1) (0,L113,e113,s113,(fun _=>0#8),[]) [(4,true,_),(9,true,_),(13,true,_),(14,true,_),(15,true,_),(16,true,_),(17,true,_),(18,true,_),(19,true,_)] [_,_,_,_]
   (esC rfl (by first|rfl|exact evi (by omega)) (esD rfl (esD rfl (esD rfl (esD rfl (esD rfl (esD rfl (esD rfl (esD rfl (esD rfl eZ))))))))))
   (mS .here rfl (mS .here (by first|rfl | (rw [bnil]; rfl)) (mS .here rfl (mS .here rfl (mS .here rfl (mS .here rfl mN)))))) ?_ ?_
  ·refine ⟨?_,?_,?_,?_,?_,?_⟩
   ·(try dsimp only)<;>(first|omega|rfl|assumption|(simp; done))
   ·(try dsimp only)<;>(first|omega|rfl|assumption|(simp; done))
   ·(try dsimp only)<;>(exact ByR.zero)
   ·(try dsimp only)<;>(exact fun i=>by simp)
   ·(try dsimp only)<;>(exact ⟨Nat.le_refl _,fun _=>Nat.le_refl _⟩)
   (try dsimp only)<;>(exact hs113)
  intro gh N2 Gl2 hN2 hGl2 hF2
  obtain ⟨q,L,ee,s9,f,rt⟩:=gh; dsimp only at hF2 hN2 ⊢
  obtain ⟨hq,hrt,hB9,ef,lX,hsl⟩:=hF2
  have hK:=hK.mono hGl2
  have hbb4:=hbb4.mono hGl2
  have hs78:=hs78.mono hGl2
  have hs75:=hs75.mono hGl2
  have hall:=hall.mono hGl2
  have hsA:=hsA.mono hGl2
  refine .seq (rq1 rfl rfl (cp rfl .no (.u rfl) (.u rfl) rfl (.nil (.code (.seq (.cond rfl (fun c4=>?_) (fun c4=>?_)))))))
  ·have c4k:=c4
   try simp only [qcA,qcC,qcB] at c4
   refine .skip (.code (.seq (.block (.seq (rq2 rfl rfl (mV rfl rfl (aS rfl rfl (.nil (.code (rq7 rfl rfl (mV rfl rfl (mV rfl rfl (ka rfl (.inr rfl) Fx.go55 (Evc rfl (Evc rfl Evn)) (mtk1 .here) (rFix_ok L ee s9 b90 _ hsl (by omega)) ?_)))))))))))))
   rintro _ G119 μ119 hG119 ⟨y119,L119,e119,s119,hN119,rfl,rfl,hs119⟩
   have lL119:=rdbyte_le hN119; simp only at lL119
   have hK:=hK.mono hG119
   have hbb4:=hbb4.mono hG119
   have hs78:=hs78.mono hG119
   have hs75:=hs75.mono hG119
   have hall:=hall.mono hG119
   have hsA:=hsA.mono hG119
   have hsl:=hsl.mono hG119
   refine cu (k:=.u64) rfl .no rfl Fx.cv24_5 (.u rfl) ?_
   refine fz rfl .no Fx.fo96_2 (.u rfl) (iA rfl .no Fx.ar23 (.u rfl) (.u rfl) (fun _=>by omega) (fun _=>by omega) ?_)
   refine s1 rfl (.u rfl) (.u rfl) rfl Fx.sz5 tk1 (by rw [rwC_len]; omega) (rwC_set (k:=q) (by omega)) ?_
   refine .nil (.blk (.code (rq2 rfl rfl (arn (((q+1):Nat):Int) rfl .no (.u rfl) (.u rfl) rfl (fun _=>by omega) (fun _=>wrap_i64 (by omega) (by omega)) ?_))))
   refine mV rfl rfl (.nil (We.lpo (q+1,L119,e119,s119,upd f q ((y119.setWidth 64).setWidth 8),rt++[y119]) ?_ ?_ ?_ ?_ ?_))
   ·exact (esC rfl (by first|rfl|exact evi (by omega)) (esD rfl (esD rfl (esD rfl (esD rfl (esD rfl (esD rfl (esD rfl (esD rfl (esD rfl eZ))))))))))
   ·exact (mS tk1 rfl (mS .here rfl (mS .here rfl (mS .here rfl (mS .here rfl (mS .here rfl mN))))))
   ·first|omega|(dsimp only; omega)
   ·exact (hGl2).trans hG119
   refine ⟨?_,?_,?_,?_,?_,?_⟩
   ·(try dsimp only)<;>(first|omega|rfl|assumption|(simp; done))
   ·(try dsimp only)<;>(simp [hrt])
   ·(try dsimp only)<;>(exact hB9.step (by omega) hN119)
   ·(try dsimp only)<;>(exact rt_step hrt ef)
   ·(try dsimp only)<;>(have hbd:=byte_dec hN119; exact ⟨by omega,fun z=>by have:=hbd.2 z; have:=lX.2 this.1; omega⟩)
   (try dsimp only)<;>(exact hs119)
  have c4k:=c4
  try simp only [qcA,qcC,qcB] at c4
  refine .exit (.xcode (.xlp (.xblk (.code (.seq ?_)))))
  have hg9:=bgp_got ef (hB9.all (by omega) hT3)
  simp only at hg9
  refine Wk.rg [0,1,2,3,4,5,6,7,8,9,10] rfl rfl (mV rfl rfl (kp rfl .no Fx.go58 (Evc rfl Evn) (Gp.add .here Gp.nil) (fun _ hle hq=>rFault_ok L ee s9 b90 _ RdNP.add) ?_))
  refine cp rfl .no (.u rfl) (.u rfl) rfl (mV rfl rfl (mv rfl (.t rfl rfl) (.u rfl) (mv rfl (.t rfl rfl) (.u rfl) (ln rfl (.t rfl rfl) Fx.sn36 (.s rfl) (cw rfl (.t rfl rfl) Fx.cv3_24 (.s rfl) (fun hc=>wrap_u64 (by (try simp only [Bool.and_eq_true,decide_eq_true_eq,Bool.not_eq_true',Bool.or_eq_false_iff,decide_eq_false_iff_not] at hc); omega) (by (try simp only [Bool.and_eq_true,decide_eq_true_eq,Bool.not_eq_true',Bool.or_eq_false_iff,decide_eq_false_iff_not] at hc); omega)) ?_)))))
  refine cp rfl (.t rfl rfl) (.s rfl) (.s rfl) rfl (pkA rfl .no (.u rfl) (.s rfl) (kpc rfl Fx.go43 (Evc rfl Evn) (need_p _ _) (fun ch G9 ρ9 μ9 hle9 hd he hm=>⟨hd.1,bgn5 hO hg9.2 (by first|rfl|omega) hd.2⟩) ?_))
  rintro _ G134 μ134 hG134 ⟨hq134,rfl,rfl⟩
  have hK:=hK.mono hG134
  have hbb4:=hbb4.mono hG134
  have hs78:=hs78.mono hG134
  have hs75:=hs75.mono hG134
  have hall:=hall.mono hG134
  have hsA:=hsA.mono hG134
  have hsl:=hsl.mono hG134
  refine .nil (.code (.seq ?_))
  obtain ⟨rfl,hsz⟩:=bgy5 (by first|rfl|omega) hq134
  have hrw:=hg9.1 ⟨rfl,hsz⟩
  refine Wk.draw (mc:=⟨false,false⟩) [0,1,2,3,4,5,6,7,8] Fx.mix (by kernel_rfl) ?_
  refine mV rfl rfl (mV rfl rfl (kE (n113) rfl .no Fx.se36 hsA (.u rfl) (.u rfl) (fun _=>by omega) (fun _=>by omega) ?_))
  intro h137 L137 eL137 lL137 hs137
  have lL137:=lL137 rfl
  refine mV rfl rfl (mV rfl rfl (kD (n113) rfl .no Fx.se36 hsA (.u rfl) (.u rfl) (fun _=>by omega) (fun _=>by omega) ?_))
  intro h140 L140 eL140 lL140 hs140
  have lL140:=lL140 rfl
  refine fz rfl .no Fx.fo96_1 (.u rfl) (s1 rfl (.u rfl) (.u rfl) rfl Fx.sz36 tk1 (by rw [rwC_len]; decide) (rfl) ?_)
  refine aS rfl rfl (.nil (.code (.seq (Wk.mixp ⟨false,false⟩ Fx.mix (by kernel_rfl) ?_))))
  refine Wp.one 0 (by kernel_rfl) ?_
  refine mV rfl rfl (.nil (Wp.one 1 (by kernel_rfl) ?_))
  refine mV rfl rfl (.nil (Wp.one 2 (by kernel_rfl) ?_))
  refine nc rfl .no (.u rfl) (.nil (Wp.one 3 (by kernel_rfl) ?_))
  refine fz rfl .no Fx.fo91_2 (.u rfl) (.nil (Wp.one 4 (by kernel_rfl) ?_))
  refine ld rfl .no Fx.ag89 (.u rfl) (fun _=>Rd.own tk4 wrc_out) ?_
  refine .nil (Wp.one 5 (by kernel_rfl) ?_)
  refine lA rfl .no Fx.ag96 (.u rfl) (fun _=>RdN.own .here) (fun _=>rwC_len) ?_
  refine .nil (Wp.b1 6 (by kernel_rfl) ?_)
  refine Go.Tan.b1 rfl Fx.se89 Fx.zv96 (.u rfl) rfl rfl (by decide) ?_; intro b148
  refine .nil (Wp.b1 7 (by kernel_rfl) ?_)
  refine apS (xs:=acc) ((⟨_,L137,f⟩,h137)) rfl Fx.se89 Fx.zv96 rfl (.u rfl) (.u rfl) tk3 .here (rowC_len) (one_app (one2 rfl rfl) (ba_one _ _)) (by omega) (by unfold maxLen; omega) ?_; intro v149 ov149
  refine .nil (Wp.one 8 (by kernel_rfl) ?_)
  refine nc rfl .no (.u rfl) (.nil (Wp.one 9 (by kernel_rfl) ?_))
  refine fz rfl .no Fx.fo91_2 (.u rfl) (.nil (Wp.b1 10 (by kernel_rfl) ?_))
  refine s1v rfl (.u rfl) (.u rfl) .here Fx.sz89 tk5 (by rw [wrc_len]; decide) (wrs_out) ?_
  refine .nil (Wp.last (by kernel_rfl) ?_)
  refine .code (rq6 rfl rfl (mV rfl rfl (fz rfl .no Fx.fo96_2 (.u rfl) (lA rfl .no Fx.ag23 (.u rfl) (fun _=>RdN.part (n:=32) (cs':=ba 32 f) tk3 (rwC_leaf)) (fun _=>(by first|exact rowC_len|exact rwC_len|exact (key_len _ _).trans (key_len _ _).symm|exact key_len _ _|exact ba_len _ _|exact Meta.len _|rfl)) ?_))))
  refine Go.Tan.b1 rfl Fx.se61 Fx.zw23 (.u rfl) rfl rfl (by decide) ?_; intro b155
  refine apS (xs:=D) (f) rfl Fx.se61 Fx.zw23 rfl (.u rfl) (.u rfl) tk6 .here (ba_len _ _) (ba_one _ _) (by omega) (by unfold maxLen; omega) ?_; intro v156 ov156
  refine aS rfl rfl (.nil (.blk (.code (rq3 rfl rfl (mV rfl rfl (ar rfl .no (.u rfl) (.u rfl) rfl (fun _=>wrap_u64 (by omega) (by omega)) ?_))))))
  refine aS rfl rfl (.nil (We.lpo (k+1,L140,h140,v149,acc++[(⟨[],L137,f⟩,h137)],v156,D++[f],L,s9) ?_ ?_ ?_ ?_ ?_))
  ·exact (esD rfl (esD rfl (esC rfl (congrArg (Value.int .u64) (by dsimp only; omega)) (esD rfl (esD rfl (esD rfl (esD rfl eZ)))))))
  ·exact (mS tk3 rfl (mS .here rfl (mS tk4 rfl (mS tk1 rfl (mS tk3 rfl mN)))))
  ·first|omega|(dsimp only; omega)
  ·exact (((hGl0).trans hG113).trans hGl2).trans hG134
  refine ⟨?_,?_,?_,?_,?_,?_,?_⟩
  ·(try dsimp only)<;>(first|omega|rfl|assumption|(simp; done))
  ·(try dsimp only)<;>(rw [List.map_append,eL137,eL140]; exact hrw)
  ·(try dsimp only)<;>(rw [eD,List.map_append]; rfl)
  ·(try dsimp only)<;>(have:=lX.2 rfl; refine ⟨by rw [List.length_append]; simp; omega,by rw [List.length_append]; simp only [List.length_cons,List.length_nil]; omega,by omega⟩)
  ·(try dsimp only)<;>(exact hall.snoc hs137 (by show L137.length≤_; omega))
  ·(try dsimp only)<;>(exact hs140)
  (try dsimp only)<;>(exact hsl)
 have c1k:=c1
 try simp only [qcA,qcC,qcB] at c1
 refine .exit (.xcode (.xlp (.xblk (.code (.seq ?_)))))
 have hz9:n92+1-k=0:=by omega
 rw [hz9] at hrows
 rcases bge R A with ⟨eR0,eA0⟩ | ⟨eR0,eA0⟩ | eR0
 ·refine Wk.mixp ⟨true,false⟩ Fx.mix (by kernel_rfl) ?_
  refine Wp.one 0 (by kernel_rfl) ?_
  refine mV rfl rfl (.nil (Wp.b1 1 (by kernel_rfl) ?_))
  refine kp rfl .no Fx.go60 (Evc rfl Evn) (Gp.add tk2 Gp.nil) (fun _ hle hq=>rEnd_ok R 0 sR b90 _ RdNP.add) ?_
  refine .nil (Wp.one 2 (by kernel_rfl) ?_)
  refine cp rfl .no (.u rfl) (.u rfl) rfl (.nil (Wp.one 3 (by kernel_rfl) ?_))
  refine mV rfl rfl (wo_b true (by rw [eR0]; rfl) ?_)
  refine .nil (Wp.one 4 (by kernel_rfl) ?_)
  refine mv rfl (.t rfl rfl) (.u rfl) (.nil (Wp.one 5 (by kernel_rfl) ?_))
  refine ln rfl (.t rfl rfl) Fx.sn36 (.u rfl) (.nil (Wp.one 6 (by kernel_rfl) ?_))
  refine cp rfl (.t rfl rfl) (.u rfl) (.u rfl) rfl (.nil (Wp.one 7 (by kernel_rfl) ?_))
  refine pkA rfl .no (.u rfl) (.u rfl) (.nil (Wp.one 8 (by kernel_rfl) ?_))
  refine mV rfl rfl (wo_b true (by rw [eA0]; rfl) ?_)
  refine .nil (Wp.one 9 (by kernel_rfl) ?_)
  refine mv rfl (.t rfl rfl) (.u rfl) (.nil (Wp.one 10 (by kernel_rfl) ?_))
  refine mv rfl (.t rfl rfl) (.u rfl) (.nil (Wp.one 11 (by kernel_rfl) ?_))
  refine nc rfl (.t rfl rfl) (.u rfl) (.nil (Wp.one 12 (by kernel_rfl) ?_))
  refine fz rfl (.t rfl rfl) Fx.fo91_3 (.u rfl) (.nil (Wp.one 13 (by kernel_rfl) ?_))
  refine ld rfl (.t rfl rfl) Fx.ag36 (.u rfl) (fun _=>Rd.own tk3 wrc_lvs) ?_
  refine .nil (Wp.one 18 (by kernel_rfl) ?_)
  refine fa rfl (.t rfl rfl) Fx.fo38_8 (.u rfl) (.nil (Wp.pr 19 (by kernel_rfl) ?_))
  refine lA rfl (.t rfl rfl) Fx.ag23 (.u rfl) (fun _=>(hbb4.rdn (m:=32) (cs':=ba 32 (fun i=>BitVec.ofInt 8 (m.root i))) (root_cells hw)).rd) (fun _=>(ba_len _ _)) (.nil ⟨⟨rfl,rfl⟩,?_⟩)
  refine Wp.b1 14 (by kernel_rfl) ?_
  refine kv rfl (.t rfl rfl) FxTbH.go17 (Evc rfl Evn) (fun _=>leaf_ok L78 h78 _ hs78 hK (by omega)) ?_
  refine .nil (Wp.b1 15 (by kernel_rfl) ?_)
  refine Go.Tan.b1g rfl (.t rfl rfl) Fx.se61 Fx.zw23 (.u rfl) rfl rfl (by decide) ?_; intro b172
  refine .nil (Wp.b1 16 (by kernel_rfl) ?_)
  refine apSg (xs:=D) ((leafD L78)) rfl (.t rfl rfl) Fx.se61 Fx.zw23 rfl (.u rfl) (.u rfl) tk2 .here (ba_len _ _) (ba_one _ _) (by omega) (by unfold maxLen; omega) ?_; intro v173 ov173
  refine .nil (Wp.b1 17 (by kernel_rfl) ?_)
  refine kag rfl (.t rfl rfl) (.inl rfl) FxTbI.go18 (Evc rfl Evn) (mtk1 .here) (take_row (D++[leafD L78]) v173 _ hK (by rw [List.length_append,eD,List.length_map]; simp only [List.length_cons,List.length_nil]; omega)) ?_
  rintro _ G174 μ174 hG174 ⟨_,rfl,rfl,rfl⟩
  have hs78:=hs78.mono hG174
  have hs75:=hs75.mono hG174
  have hall:=hall.mono hG174
  refine .nil (Wp.one 20 (by kernel_rfl) ?_)
  refine eqB rfl (.t rfl rfl) Fx.baT23 (.u rfl) (.u rfl) ?_
  refine .nil (Wp.one 21 (by kernel_rfl) ?_)
  refine pkA rfl .no (.u rfl) (.u rfl) (.nil (Wp.bp 22 (by kernel_rfl) (by kernel_rfl) ?_))
  refine kpc rfl Fx.go43 (Evc rfl Evn) (need_p _ _) (fun ch G9 ρ9 μ9 hle9 hd he hm=>⟨hd.1,bgn6 hw hO (by rw [hrows,eR0,eA0]; exact rows_yes) eD hd.2⟩) ?_
  rintro _ G179 μ179 hG179 ⟨hq179,rfl,rfl⟩
  have hs78:=hs78.mono hG179
  have hs75:=hs75.mono hG179
  have hall:=hall.mono hG179
  refine .nil (Wp.last (by kernel_rfl) ?_)
  refine .code (.seq ?_)
  refine wk_fs tk2 (fun _ _=>rfl) (by intro b hb; cases hb) ?_; intro GfRR hRR hleRR evRR hsRR; subst evRR
  have hs78:=hs78.mono hleRR
  have hs75:=hs75.mono hleRR
  have hall:=hall.mono hleRR
  refine rq2 rfl rfl (mV rfl rfl (aS rfl rfl (.nil (.code (.ret (We.fin Tryd.results34 (.tmp rfl .nil) (mS tk3 rfl mN) ?_))))))
  exact ⟨L78,b80,acc,h75,hRR,h78,bgy6 hw hO (by rw [hrows,eR0,eA0]; exact rows_yes) eD hq179,rfl,rfl,⟨hs75,hsRR,hall.each,hs78,hall.sm,by omega⟩⟩
 ·refine Wk.mixp ⟨true,false⟩ Fx.mix (by kernel_rfl) ?_
  refine Wp.one 0 (by kernel_rfl) ?_
  refine mV rfl rfl (.nil (Wp.b1 1 (by kernel_rfl) ?_))
  refine kp rfl .no Fx.go60 (Evc rfl Evn) (Gp.add tk2 Gp.nil) (fun _ hle hq=>rEnd_ok R 0 sR b90 _ RdNP.add) ?_
  refine .nil (Wp.one 2 (by kernel_rfl) ?_)
  refine cp rfl .no (.u rfl) (.u rfl) rfl (.nil (Wp.one 3 (by kernel_rfl) ?_))
  refine mV rfl rfl (wo_b true (by rw [eR0]; rfl) ?_)
  refine .nil (Wp.one 4 (by kernel_rfl) ?_)
  refine mv rfl (.t rfl rfl) (.u rfl) (.nil (Wp.one 5 (by kernel_rfl) ?_))
  refine ln rfl (.t rfl rfl) Fx.sn36 (.u rfl) (.nil (Wp.one 6 (by kernel_rfl) ?_))
  refine cp rfl (.t rfl rfl) (.u rfl) (.u rfl) rfl (.nil (Wp.one 7 (by kernel_rfl) ?_))
  refine pkA rfl .no (.u rfl) (.u rfl) (.nil (Wp.one 8 (by kernel_rfl) ?_))
  refine mV rfl rfl (wo_b false (beq_eq_false_iff_ne.2 (fun q=>eA0 (List.eq_nil_of_length_eq_zero (by omega)))) ?_)
  refine .nil (Wp.one 9 (by kernel_rfl) ?_)
  refine skp (.bool false) rfl rfl (Gd.t (b:=false) rfl rfl) ?_
  refine .nil (Wp.one 10 (by kernel_rfl) ?_)
  refine skp (.bool false) rfl rfl (Gd.t (b:=false) rfl rfl) ?_
  refine .nil (Wp.one 11 (by kernel_rfl) ?_)
  refine skp (.bool false) rfl rfl (Gd.t (b:=false) rfl rfl) ?_
  refine .nil (Wp.one 12 (by kernel_rfl) ?_)
  refine skp (.bool false) rfl rfl (Gd.t (b:=false) rfl rfl) ?_
  refine .nil (Wp.one 13 (by kernel_rfl) ?_)
  refine skr (.bool false) rfl rfl (Gd.t (b:=false) rfl rfl) ?_
  refine .nil (Wp.one 18 (by kernel_rfl) ?_)
  refine skp (.bool false) rfl rfl (Gd.t (b:=false) rfl rfl) ?_
  refine .nil (Wp.pr 19 (by kernel_rfl) ?_)
  refine skr (.bool false) rfl rfl (Gd.t (b:=false) rfl rfl) ?_
  refine .nil ⟨⟨rfl,rfl⟩,?_⟩
  refine Wp.b1 14 (by kernel_rfl) ?_
  refine ska (.bool false) rfl rfl (Gd.t (b:=false) rfl rfl) ?_
  refine .nil (Wp.b1 15 (by kernel_rfl) ?_)
  refine skc (.bool false) rfl rfl (Gd.t (b:=false) rfl rfl) ?_
  refine .nil (Wp.b1 16 (by kernel_rfl) ?_)
  refine ska (.bool false) rfl rfl (Gd.t (b:=false) rfl rfl) ?_
  refine .nil (Wp.b1 17 (by kernel_rfl) ?_)
  refine ska (.bool false) rfl rfl (Gd.t (b:=false) rfl rfl) ?_
  refine .nil (Wp.one 20 (by kernel_rfl) ?_)
  refine skp (.bool false) rfl rfl (Gd.t (b:=false) rfl rfl) ?_
  refine .nil (Wp.one 21 (by kernel_rfl) ?_)
  refine pkA rfl .no (.u rfl) (.s rfl) (.nil (Wp.bp 22 (by kernel_rfl) (by kernel_rfl) ?_))
  refine kpc rfl Fx.go43 (Evc rfl Evn) (need_p _ _) (fun ch G9 ρ9 μ9 hle9 hd he hm=>⟨hd.1,hO.trans (by rw [hrows,rows_no (fun q=>eA0 q.2)]; rfl)⟩) ?_
  rintro _ G179 μ179 hG179 ⟨hq179,rfl,rfl⟩
  exact absurd hq179 (by simp)
 refine Wk.mixp ⟨true,false⟩ Fx.mix (by kernel_rfl) ?_
 refine Wp.one 0 (by kernel_rfl) ?_
 refine mV rfl rfl (.nil (Wp.b1 1 (by kernel_rfl) ?_))
 refine kp rfl .no Fx.go60 (Evc rfl Evn) (Gp.add tk2 Gp.nil) (fun _ hle hq=>rEnd_ok R 0 sR b90 _ RdNP.add) ?_
 refine .nil (Wp.one 2 (by kernel_rfl) ?_)
 refine cp rfl .no (.u rfl) (.u rfl) rfl (.nil (Wp.one 3 (by kernel_rfl) ?_))
 refine mV rfl rfl (wo_b false (end_no eR0) ?_)
 refine .nil (Wp.one 4 (by kernel_rfl) ?_)
 refine skp (.bool false) rfl rfl (Gd.t (b:=false) rfl rfl) ?_
 refine .nil (Wp.one 5 (by kernel_rfl) ?_)
 refine skr (.bool false) rfl rfl (Gd.t (b:=false) rfl rfl) ?_
 refine .nil (Wp.one 6 (by kernel_rfl) ?_)
 refine skp (.bool false) rfl rfl (Gd.t (b:=false) rfl rfl) ?_
 refine .nil (Wp.one 7 (by kernel_rfl) ?_)
 refine pkA rfl .no (.u rfl) (.s rfl) (.nil (Wp.one 8 (by kernel_rfl) ?_))
 refine mV rfl rfl (.nil (Wp.one 9 (by kernel_rfl) ?_))
 refine skp (.bool false) rfl rfl (Gd.t (b:=false) rfl rfl) ?_
 refine .nil (Wp.one 10 (by kernel_rfl) ?_)
 refine skp (.bool false) rfl rfl (Gd.t (b:=false) rfl rfl) ?_
 refine .nil (Wp.one 11 (by kernel_rfl) ?_)
 refine skp (.bool false) rfl rfl (Gd.t (b:=false) rfl rfl) ?_
 refine .nil (Wp.one 12 (by kernel_rfl) ?_)
 refine skp (.bool false) rfl rfl (Gd.t (b:=false) rfl rfl) ?_
 refine .nil (Wp.one 13 (by kernel_rfl) ?_)
 refine skr (.bool false) rfl rfl (Gd.t (b:=false) rfl rfl) ?_
 refine .nil (Wp.one 18 (by kernel_rfl) ?_)
 refine skp (.bool false) rfl rfl (Gd.t (b:=false) rfl rfl) ?_
 refine .nil (Wp.pr 19 (by kernel_rfl) ?_)
 refine skr (.bool false) rfl rfl (Gd.t (b:=false) rfl rfl) ?_
 refine .nil ⟨⟨rfl,rfl⟩,?_⟩
 refine Wp.b1 14 (by kernel_rfl) ?_
 refine ska (.bool false) rfl rfl (Gd.t (b:=false) rfl rfl) ?_
 refine .nil (Wp.b1 15 (by kernel_rfl) ?_)
 refine skc (.bool false) rfl rfl (Gd.t (b:=false) rfl rfl) ?_
 refine .nil (Wp.b1 16 (by kernel_rfl) ?_)
 refine ska (.bool false) rfl rfl (Gd.t (b:=false) rfl rfl) ?_
 refine .nil (Wp.b1 17 (by kernel_rfl) ?_)
 refine ska (.bool false) rfl rfl (Gd.t (b:=false) rfl rfl) ?_
 refine .nil (Wp.one 20 (by kernel_rfl) ?_)
 refine skp (.bool false) rfl rfl (Gd.t (b:=false) rfl rfl) ?_
 refine .nil (Wp.one 21 (by kernel_rfl) ?_)
 refine pkA rfl .no (.u rfl) (.s rfl) (.nil (Wp.bp 22 (by kernel_rfl) (by kernel_rfl) ?_))
 refine kpc rfl Fx.go43 (Evc rfl Evn) (need_p _ _) (fun ch G9 ρ9 μ9 hle9 hd he hm=>⟨hd.1,hO.trans (by rw [hrows,rows_no (fun q=>eR0 q.1)]; rfl)⟩) ?_
 rintro _ G179 μ179 hG179 ⟨hq179,rfl,rfl⟩
 exact absurd hq179 (by simp)
namespace Fx
theorem go33:goFn Tryd.prog 33=true:=by kernel_rfl
theorem if20:ifT Tryd.prog 20=true:=by kernel_rfl
theorem sn89:(slE Tryd.prog 89).isSome=true:=by kernel_rfl
theorem go38:goFn Tryd.prog 38=true:=by kernel_rfl
theorem go41:goFn Tryd.prog 41=true:=by kernel_rfl
theorem zr39:zrL Tryd.prog 39=some ([.int .i64 0]):=by kernel_rfl
theorem go34:goFn Tryd.prog 34=true:=by kernel_rfl
theorem go35:goFn Tryd.prog 35=true:=by kernel_rfl
theorem go37:goFn Tryd.prog 37=true:=by kernel_rfl
theorem go39:goFn Tryd.prog 39=true:=by kernel_rfl
theorem fo38_5:fOff Tryd.prog 38 5=some 5:=by kernel_rfl
theorem fo38_6:fOff Tryd.prog 38 6=some 6:=by kernel_rfl
theorem fo38_7:fOff Tryd.prog 38 7=some 7:=by kernel_rfl
end Fx
theorem caught_ret (w:World) (a:Addr):CallsD Tryd.prog 33 #[.pointer (some a)] .returning w (fun e u' w'=>(∃ v,e=.returned v)∧u'=.returning∧w'=w):=by
 refine callsD_of_wpS Tryd.func33 rfl fun c₀ cs hu=>(wpS_seq (wpS_region ?_))
 have hr:recoverD (c₀ :: cs)=none:=by simp [recoverD,hu]
 rw [show Tryd.f33.ntmps=11 from rfl]
 simp only [wpOpsS,List.range,List.range.loop,Array.size,List.length,List.getElem?_toArray,List.getElem?_cons_zero,List.getElem?_cons_succ,Region.wanted,if_true]
 have e1:∀ (ρ:Operand→Value) (d:Option Nat) (t:TypeId) (p:String) (af:Array Edge),(execOp ρ ⟨d,.call { callee:=.builtin .recover,args:=#[],argTypes:=#[] },t,p,af,none⟩).run Tryd.prog w=.ok .recover w:=fun ρ d t p af=>by
  simp [execOp,resolve,invoke,builtin]
 simp only [e1,hr]
 simp [execOp,Oper.upon,Exit.thenS,Act.put,Act.eval]
 refine wpS_of_wp ?_
 refine wp_seq (wp_region ?_)
 simp [wpOps,Region.wanted,execOp,Oper.wp,Oper.upon,Exit.then,Act.put,Act.eval,List.range,List.range.loop]
 refine .inl (wp_block (wp_seq (wp_region ?_)))
 have e2:(binOp .eql 20 .nilIface .nilIface).run Tryd.prog w=.ok (.bool true) w:=by
  have hu20:=ifT_some Fx.if20
  obtain ⟨q,hq⟩:=hu20
  have e4:∀ d,(Op.equalIn (d+1) 20 .nilIface .nilIface).run Tryd.prog w=.ok true w:=fun d=>by
   unfold Op.equalIn
   simp only [Sem.run_bind,run_underlying hq,Result.andThen_ok,Sem.run_pure]
  obtain ⟨d,hd⟩ : ∃ d,Op.maxDepth=d+1:=Nat.exists_eq_succ_of_ne_zero (by decide)
  simp [binOp,Op.equal,hd,e4]
 have e3:(eqGuard .eql 20 (.tmp 4) (.const .nilIface) .nilIface .nilIface).run Tryd.prog w=.ok () w:=by unfold eqGuard; simp
 simp [wpOps,Region.wanted,execOp,Oper.wp,Oper.upon,Exit.then,Act.put,Act.eval,List.range,List.range.loop,e2,e3]
 refine .inl (.inl (wp_cond_true (by simp [Act.eval]) (wp_skip ?_)))
 refine ⟨rfl,.returning,by rw [← hu],.tuple #[],?_,⟨_,rfl⟩,rfl,rfl⟩
 simp [results,Tryd.f33]
theorem idxR_ok (h:Sh) (l:List (RowT×Sh)) (G:PM) (hs:SlR G 34 rowC h l) (hl:l.length≤100000000) (f:Nat) (hf:goFn Tryd.prog f=true) (vc:List Value) (p:(RowT×Sh)→Bool) (hc:∀ G',PM.le G G'→∀ m∈l,Ct Tryd.prog f ([Value.agg (rowC m).toArray]++vc).toArray G' [] fun _ μ' u=>μ'=[]∧u=.bool (p m)):Ct Tryd.prog 37 ([h.val l.length,.func (.func f) #[] vc.toArray]:List Value).toArray G [] (fun _ μ' u=>μ'=[]∧u=.int .i64 (idxZ p l)):=by
 refine Ct.of Tryd.func37 rfl Tryd.ntmps37 rfl fun w0 hs0=>?_
 refine .seq (rq1 rfl rfl (aS rfl rfl (.nil (.code (.seq (.seq (rq3 rfl rfl (mV rfl rfl (ln rfl .no Fx.sn89 (.u rfl) (mV rfl rfl (.nil (.code (.block ?_)))))))))))))
 refine Wk.lop (α:=Nat) (fun k=>[(8,true,.int .i64 (k:Int))]) (fun _=>[])
  (fun k Gl=>(k≤l.length)∧(∀ j y,j<k→l[j]? = some y→p y=false)) (fun k=>l.length-k) 0 [(0,true,_),(1,true,_),(7,true,_)] []
  (esC rfl (by first|rfl|exact evi (by omega)) (esD rfl (esD rfl (esD rfl eZ))))
  mN ?_ ?_
 ·refine ⟨?_,?_⟩
  ·(try dsimp only)<;>(first|omega|rfl|assumption|(simp; done))
  (try dsimp only)<;>(exact fun j y h=>absurd h (Nat.not_lt_zero _))
 intro k N0 Gl0 hN0 hGl0 hF0
 try dsimp only at hF0 hN0 ⊢
 obtain ⟨hk,hno⟩:=hF0
 have hs:=hs.mono hGl0
 refine .seq (rq1 rfl rfl (cp rfl .no (.u rfl) (.u rfl) rfl (.nil (.code (.seq (.cond rfl (fun c1=>?_) (fun c1=>?_)))))))
 ·have c1k:=c1
  try simp only [qcA,qcB] at c1
  refine .skip (.code (.seq (.block (.seq (rq2 rfl rfl (mV rfl rfl (aS rfl rfl (.nil (.code (.seq (rq6 rfl rfl (mV rfl rfl (mV rfl rfl (mV rfl rfl (ih rfl .no Fx.se89 (.u rfl) (.u rfl) (fun _=>by omega) (fun _=>by omega) (fun _=>hs.nn (k:=k) (by first|omega|(simp only [Bool.and_eq_true,decide_eq_true_eq] at hc; omega)|(simp only [List.length_cons,List.length_nil]; omega))) ?_)))))))))))))))
  obtain ⟨x,ex⟩:=getx (k:=k) (xs:=l) (by omega)
  refine lA rfl .no Fx.ag96 (.u rfl) (fun _=>(hs.at (by omega) ex).rd) (fun _=>rowC_len) ?_
  refine kf rfl .no (.u rfl) hf (Evc rfl Evn) (fun _=>hc _ hGl0 x (List.mem_of_getElem? ex)) ?_
  refine .nil (.code (.cond rfl (fun c2=>?_) (fun c2=>?_)))
  ·have c2k:=c2
   try simp only [qcA,qcB] at c2
   refine .seq (rq2 rfl rfl (mV rfl rfl (aS rfl rfl (.nil (.code (.ret (We.fin0 Tryd.results37 (.tmp rfl .nil) ?_)))))))
   exact ⟨rfl,idz_hit hno ex (by simpa using c2k)⟩
  have c2k:=c2
  try simp only [qcA,qcB] at c2
  refine .skip (.blk (.code (rq2 rfl rfl (arn (((k+1):Nat):Int) rfl .no (.u rfl) (.u rfl) rfl (fun _=>by omega) (fun _=>wrap_i64 (by omega) (by omega)) ?_))))
  refine mV rfl rfl (.nil (We.lpo (k+1) ?_ ?_ ?_ ?_ ?_))
  ·exact (esC rfl (by first|rfl|exact evi (by omega)) (esD rfl (esD rfl (esD rfl eZ))))
  ·exact mN
  ·first|omega|(dsimp only; omega)
  ·exact hGl0
  refine ⟨?_,?_⟩
  ·(try dsimp only)<;>(first|omega|rfl|assumption|(simp; done))
  (try dsimp only)<;>(exact idz_step hno ex (by simpa using c2k))
 have c1k:=c1
 try simp only [qcA,qcB] at c1
 refine .exit (.xcode (.xlp (.xblk (.code (.seq (rq1 rfl rfl (aS rfl rfl (.nil (.code (.ret (We.fin0 Tryd.results37 (.tmp rfl .nil) ?_)))))))))))
 exact ⟨rfl,idz_none hno (by omega)⟩
theorem get1_ok (p:RowT×Sh) (user:ByteArray) (b:Nat) (G:PM) (hb:PB G b (cl [.string user] 9)):Ct Tryd.prog 38 ([.agg (rowC p).toArray,.pointer (some ⟨b,0,none⟩)]:List Value).toArray G [] (fun _ μ' u=>μ'=[]∧u=.bool (notLt user p)):=by
 refine Ct.of Tryd.func38 rfl Tryd.ntmps38 rfl fun w0 hs0=>?_
 refine .seq (rq2 rfl rfl ?_)
 refine bx rfl (.u rfl) rfl ?_; intro b2
 refine aS rfl rfl (.nil (.code (.seq (rq5 rfl rfl (fz rfl .no Fx.fo96_0 (.u rfl) (ld rfl .no Fx.ag9 (.u rfl) (fun _=>Rd.own .here (by first|exact wap_f rfl|rfl)) ?_))))))
 refine ld rfl .no Fx.ag9 (.u rfl) (fun _=>(hb.rd (by rfl)).rd) ?_
 refine cs rfl .no (.u rfl) (.u rfl) rfl (aS rfl rfl (.nil (.code (.ret (We.fin0 Tryd.results38 (.tmp rfl .nil) ?_)))))
 exact ⟨rfl,rfl⟩
theorem get2_ok (e:Ent) (user:ByteArray) (seq:BitVec 64) (b c:Nat) (G:PM) (hb:PB G b (cl [.string user] 9)) (hq9:PB G c (cl [uv .u64 seq] 24)):Ct Tryd.prog 41 ([e.val,.pointer (some ⟨b,0,none⟩),.pointer (some ⟨c,0,none⟩)]:List Value).toArray G [] (fun _ μ' u=>μ'=[]∧u=.bool (hitE user seq e)):=by
 refine Ct.of Tryd.func41 rfl Tryd.ntmps41 rfl fun w0 hs0=>?_
 refine .seq (rq2 rfl rfl ?_)
 refine bx rfl (.u rfl) rfl ?_; intro b3
 refine aS rfl rfl (.nil (.code (.seq (Wk.rg [0,1,2,3,4,5,6,7,8,9,10,11,12,13,14,15,16] rfl rfl (fz rfl .no Fx.fo43_0 (.u rfl) (ld rfl .no Fx.ag9 (.u rfl) (fun _=>Rd.own .here (by first|exact wap_f rfl|rfl)) ?_))))))
 refine ld rfl .no Fx.ag9 (.u rfl) (fun _=>(hb.rd (by rfl)).rd) ?_
 refine cs rfl .no (.u rfl) (.u rfl) rfl (mV rfl rfl (fz rfl (.f rfl rfl) Fx.fo43_0 (.u rfl) (ld rfl (.f rfl rfl) Fx.ag9 (.s rfl) (fun hc=>Rd.own .here (by first|exact wap_f rfl|rfl)) ?_)))
 refine ld rfl (.f rfl rfl) Fx.ag9 (.u rfl) (fun hc=>(hb.rd (by rfl)).rd) ?_
 refine cs rfl (.f rfl rfl) (.s rfl) (.s rfl) rfl (mv rfl (.f rfl rfl) (.s rfl) (fz rfl (.tc rfl rfl) Fx.fo43_1 (.u rfl) (ld rfl (.tc rfl rfl) Fx.ag24 (.s rfl) (fun hc=>Rd.own .here (by first|exact wap_f rfl|rfl)) ?_)))
 refine ld rfl (.tc rfl rfl) Fx.ag24 (.u rfl) (fun hc=>(hq9.rd (by rfl)).rd) ?_
 refine cp rfl (.tc rfl rfl) (.s rfl) (.s rfl) rfl (pkA rfl (.f rfl rfl) (.s rfl) (.s rfl) (pkO rfl .no (.u rfl) (.s rfl) (aS rfl rfl (.nil (.code (.ret (We.fin0 Tryd.results41 (.tmp rfl .nil) ?_)))))))
 exact ⟨rfl,congrArg Value.bool hit_val⟩
set_option maxHeartbeats 4000000 in
theorem tGet_ok (root:Nat→Y) (m:Meta) (xs:List Y) (hx:Sh) (user:ByteArray) (seq:BitVec 64) (R:Option Ent) (G:PM) (hw:m.wf) (hs:SlR G 1 encY hx xs) (hK:RdNP G 0 0 (wa 64 kW)) (hl:xs.length≤1000000) (hu:user.size≤1000000000000000) (hT:getT root m xs user seq=some R):Ct Tryd.prog 9 ([.agg (ba 32 root).toArray,m.val,hx.val xs.length,.string user,uv .u64 seq]:List Value).toArray G [] (fun _ μ' u=>μ'=[]∧u=.tuple #[(R.getD Ent.zero).val,.bool R.isSome,.int .i64 0]):=by
 refine Ct.of Tryd.func9 rfl Tryd.ntmps9 rfl fun w0 hs0=>?_
 obtain ⟨rows,ix,f,hB,hwf,hno,hyes⟩:=get_inv hT
 have h2r:=beg_len hB
 refine .seq (rq7 rfl rfl ?_)
 refine bx rfl (.u rfl) rfl ?_; intro b5
 refine bx rfl (.u rfl) rfl ?_; intro b6
 refine bx rfl (.u rfl) rfl ?_; intro b8
 refine bx rfl (.u rfl) rfl ?_; intro b9
 refine al rfl Fx.zq43 ?_; intro b10
 refine aS rfl rfl ?_
 refine al rfl Fx.zr39 ?_; intro b12
 refine .nil (.code (.seq (wk_dfr rfl rfl rfl ?_)))
 refine .code (.seq ?_)
 refine wk_fz tk3 (by intro b hb; cases hb) ?_; intro Gfb8 hleb8 hbb8
 have hs:=hs.mono hleb8
 have hK:=hK.mono hleb8
 refine wk_fz tk2 (by intro b hb; cases hb) ?_; intro Gfb9 hleb9 hbb9
 have hs:=hs.mono hleb9
 have hK:=hK.mono hleb9
 have hbb8:=hbb8.mono hleb9
 refine rq5 rfl rfl (lA rfl .no Fx.ag23 (.u rfl) (fun _=>RdN.own tk3) (fun _=>ba_len _ _) ?_)
 refine lA rfl .no FxTbI.ag38 (.u rfl) (fun _=>RdN.own tk2) (fun _=>Meta.len _) ?_
 refine mV rfl rfl (kc rfl Fx.go34 (Evc rfl (Evc rfl (Evc rfl Evn))) (tBegin_ok root m xs hx rows ix _ hw hs hK hl hB) ?_)
 rintro _ G22 μ22 hG22 ⟨b22,ps,ha22,hr22,hi22,eps,rfl,rfl,hR22⟩
 subst eps
 have hpl:=hR22.len
 rw [List.length_map] at h2r
 have hK:=hK.mono hG22
 have hbb8:=hbb8.mono hG22
 have hbb9:=hbb9.mono hG22
 refine aS rfl rfl (.nil (.code (.seq (rq7 rfl rfl (mV rfl rfl (nc rfl .no (.u rfl) (fz rfl .no Fx.fo91_2 (.u rfl) (ld rfl .no Fx.ag89 (.u rfl) (fun _=>Rd.own .here wrc_out) ?_))))))))
 refine ln rfl .no Fx.sn89 (.u rfl) (arn (((ps.length-1):Nat):Int) rfl .no (.u rfl) (.u rfl) rfl (fun _=>by omega) (fun _=>wrap_i64 (by omega) (by omega)) ?_)
 refine aS rfl rfl (.nil (.code (.seq (.seq ?_))))
 obtain ⟨pf,epf⟩:=getx (k:=ps.length-1) (xs:=ps) (by omega)
 rw [List.length_map,map_fst rfl epf] at hwf
 refine Wk.mixp ⟨true,false⟩ Fx.mix (by kernel_rfl) ?_
 refine Wp.one 0 (by kernel_rfl) ?_
 refine mV rfl rfl (.nil (Wp.one 1 (by kernel_rfl) ?_))
 refine mV rfl rfl (.nil (Wp.pr 3 (by kernel_rfl) ?_))
 refine ld rfl .no Fx.ag9 (.u rfl) (fun _=>(hbb8.rd (by rfl)).rd) ?_
 refine .nil ⟨⟨rfl,rfl⟩,?_⟩
 refine Wp.b1 2 (by kernel_rfl) ?_
 refine ka rfl (.inl rfl) Fx.go36 (Evc rfl (Evc rfl (Evc rfl Evn))) (mtk1 .here) (whole_ok root (hdM m) ps ix ha22 hr22 hi22 b22 _ hR22 hK (ps.length-1) 1 pf f epf (by decide) hwf) ?_
 rintro _ G31 μ31 hG31 ⟨h31,rfl,rfl,hs31⟩
 have hfl:=wh_len hwf; have hfs:=hR22.sm pf (List.mem_of_getElem? epf)
 have hK:=hK.mono hG31
 have hbb8:=hbb8.mono hG31
 have hbb9:=hbb9.mono hG31
 have hR22:=hR22.mono hG31
 refine .nil (Wp.b1 4 (by kernel_rfl) ?_)
 refine kv rfl .no Fx.go35 (Evc rfl (Evc rfl Evn)) (fun _=>may_ok h31 f user _ hs31 (by omega) hu) ?_
 refine .nil (Wp.one 5 (by kernel_rfl) ?_)
 refine nt rfl .no (.u rfl) (.nil (Wp.last (by kernel_rfl) ?_))
 refine .code (.cond rfl (fun c1=>?_) (fun c1=>?_))
 ·have c1k:=c1
  try simp only [qcA,qcC,qcB] at c1
  refine .seq (rq4 rfl rfl (bC rfl .no Fx.bp43_ .nil rfl ?_))
  refine sw rfl (.u rfl) (.u rfl) rfl Fx.sz43 tk2 rfl (Ent.one _) ?_
  refine aS rfl rfl (s1 rfl (.u rfl) (.u rfl) rfl Fx.sz39 tk2 (by first|decide|(simp only [wa_len,ba_len,qlA]; omega)) (rfl) ?_)
  refine .nil (.code (.ret (We.finR Fx.go33 rfl (fun w=>caught_ret w _) Tryd.results9 (.cell rfl (fun w hw=>run_loadVarN Fx.ag43 (RdN.own tk1) (Ent.len _) hw) (.tmp rfl (.cell rfl (fun w hw=>run_loadVar1 Fx.ag39 (Rd.own .here rfl w hw)) .nil))) mN ?_)))
  obtain rfl:=hno (by simpa using c1k)
  exact ⟨rfl,rfl⟩
 have c1k:=c1
 try simp only [qcA,qcC,qcB] at c1
 refine .skip (.code (.seq ?_))
 have hgr:=hyes (by simpa using c1k)
 rw [List.length_map] at hgr
 refine rq9 rfl rfl (mV rfl rfl (nc rfl .no (.u rfl) (fz rfl .no Fx.fo91_2 (.u rfl) (ld rfl .no Fx.ag89 (.u rfl) (fun _=>Rd.own .here wrc_out) ?_))))
 refine mV rfl rfl (kE ((ps.length-1)) rfl .no Fx.se89 hR22.rows (.u rfl) (.u rfl) (fun _=>by omega) (fun _=>by omega) ?_)
 intro h41 L41 eL41 lL41 hs41
 have lL41:=lL41 rfl
 refine mf (vf:=#[]) (vc:=[Value.pointer (some ⟨b8,0,none⟩)].toArray) rfl .no (fun a ha _=>by simp) (fun a ha _=>by simp [(Ev.u (c:=true) rfl:Ev _ true (.tmp 8) _).eval ha rfl]) ?_
 refine kv rfl .no Fx.go37 (Evc rfl (Evc rfl Evn)) (fun _=>idxR_ok h41 L41 _ hs41 (by omega) 38 Fx.go38 [.pointer (some ⟨b8,0,none⟩)] (notLt user) (fun G2 hle p hp=>get1_ok p user b8 G2 (hbb8.mono hle))) ?_
 refine aS rfl rfl (.nil (.code (.seq (.seq (rq2 rfl rfl (mV rfl rfl (aS rfl rfl (.nil (.code (.block ?_))))))))))
 refine Wk.lop (α:=Int) (fun k=>[(16,true,.int .i64 k)]) (fun _=>[])
  (fun k Gl=>((k = -1∧R=none)∨(0≤k∧k≤((ps.length-1:Nat):Int)∧getG root (hdM m) (ps.map (·.1)) user seq (ps.length-1-k.toNat) k.toNat=some R))) (fun k=>(((ps.length-1:Nat):Int)-k).toNat) (idxZ (notLt user) L41) [(8,true,_),(9,true,_),(10,true,_),(12,true,_),(13,true,_),(14,true,_)] [_,_,_,_,_]
  (esC rfl (by first|rfl|exact evi (by omega)) (esD rfl (esD rfl (esD rfl (esD rfl (esD rfl (esD rfl eZ)))))))
  (mS .here rfl (mS .here rfl (mS .here rfl (mS .here rfl (mS .here rfl mN))))) ?_ ?_
 ·(try dsimp only)<;>(exact gi_start (hpl:=by omega) eL41 hgr)
 intro k N0 Gl0 hN0 hGl0 hF0
 try dsimp only at hF0 hN0 ⊢
 have hI:=hF0
 have hK:=hK.mono hGl0
 have hbb8:=hbb8.mono hGl0
 have hbb9:=hbb9.mono hGl0
 have hR22:=hR22.mono hGl0
 refine .seq (.seq (rq7 rfl rfl (mV rfl rfl (cp rfl .no (.u rfl) (.u rfl) rfl (mV rfl rfl (mv rfl (.t rfl rfl) (.u rfl) (mv rfl (.t rfl rfl) (.u rfl) (cp rfl (.t rfl rfl) (.s rfl) (.s rfl) rfl (pkA rfl .no (.u rfl) (.s rfl) (.nil (.code (.cond rfl (fun c2=>?_) (fun c2=>?_)))))))))))))
 ·have c2k:=c2
  try simp only [qcA,qcC,qcB] at c2
  refine .skip (.code (.seq (.block (.seq ?_))))
  obtain ⟨j,rfl⟩ : ∃ j:Nat,k=(j:Int):=⟨k.toNat,by omega⟩
  obtain ⟨hj,hgj⟩ : j<ps.length-1∧getG root (hdM m) (ps.map (·.1)) user seq (ps.length-1-j) j=some R:=by rcases hI with ⟨h1,_⟩ | ⟨h1,h2,h3⟩; (omega); (exact ⟨by omega,by simpa using h3⟩)
  obtain ⟨l,hel,hln,hlh⟩:=gg_step hj hgj
  obtain ⟨p,ep⟩:=getx (k:=j) (xs:=ps) (by omega)
  obtain ⟨y,hwy,hry⟩:=en_inv hel
  rw [map_fst rfl ep] at hwy
  have hll:=read_len hry; have hyl:=wh_len hwy; have hps:=hR22.sm p (List.mem_of_getElem? ep)
  refine rq4 rfl rfl (mV rfl rfl (mV rfl rfl (ka rfl (.inr rfl) Fx.go39 (Evc rfl (Evc rfl Evn)) (mtk1 .here) (ents_ok root (hdM m) ps ix ha22 hr22 hi22 b22 _ hR22 hK j p l ep hel) ?_)))
  rintro _ G56 μ56 hG56 ⟨h56,rfl,rfl,hs56⟩
  have hbb8:=hbb8.mono hG56
  have hbb9:=hbb9.mono hG56
  refine aS rfl rfl (.nil (.code (.seq (rq4 rfl rfl (mV rfl rfl (mf (vf:=#[]) (vc:=[Value.pointer (some ⟨b8,0,none⟩),Value.pointer (some ⟨b9,0,none⟩)].toArray) rfl .no (fun a ha _=>by simp) (fun a ha _=>by simp [(Ev.u (c:=true) rfl:Ev _ true (.tmp 8) _).eval ha rfl,(Ev.u (c:=true) rfl:Ev _ true (.tmp 9) _).eval ha rfl]) ?_))))))
  refine kv rfl .no Fx.go40 (Evc rfl (Evc rfl Evn)) (fun _=>idxE_ok h56 l _ hs56 (by omega) 41 Fx.go41 [.pointer (some ⟨b8,0,none⟩),.pointer (some ⟨b9,0,none⟩)] (hitE user seq) (fun G2 hle e he=>get2_ok e user seq b8 b9 G2 (hbb8.mono hle) (hbb9.mono hle))) ?_
  refine aS rfl rfl (.nil (.code (.seq (.seq (rq2 rfl rfl (mV rfl rfl (cp rfl .no (.u rfl) (.u rfl) rfl (.nil (.code (.cond rfl (fun c3=>?_) (fun c3=>?_)))))))))))
  ·have c3k:=c3
   try simp only [qcA,qcC,qcB] at c3
   refine .exit (.xcode (.xblk (.code (rq3 rfl rfl (mV rfl rfl (ar rfl .no (.u rfl) (.u rfl) rfl (fun _=>wrap_i64 (by omega) (by omega)) ?_))))))
   refine aS rfl rfl (.nil (We.lpo ((j:Int)+1) ?_ ?_ ?_ ?_ ?_))
   ·exact (esC rfl (by first|rfl|exact evi (by omega)) (esD rfl (esD rfl (esD rfl (esD rfl (esD rfl (esD rfl eZ)))))))
   ·exact (mS .here rfl (mS .here rfl (mS .here rfl (mS .here rfl (mS .here rfl mN)))))
   ·first|omega|(dsimp only; omega)
   ·exact (hGl0).trans hG56
   (try dsimp only)<;>(exact .inr ⟨by omega,by omega,by have:=hln (gi_none (by omega)); rw [show ((j:Int)+1).toNat=j+1 by omega]; exact this⟩)
  have c3k:=c3
  try simp only [qcA,qcC,qcB] at c3
  refine .skip (.code (.seq (.seq ?_)))
  rcases find_idx (p:=hitE user seq) l with hq | ⟨x,hx0,hxi,hxf⟩
  ·exact absurd hq.1 (by omega)
  have hxl:=(List.getElem?_eq_some_iff.1 hxi).1
  have hRx:=hlh x hxf
  refine Wk.mixp ⟨true,false⟩ Fx.mix (by kernel_rfl) ?_
  refine Wp.one 0 (by kernel_rfl) ?_
  refine mV rfl rfl (.nil (Wp.one 1 (by kernel_rfl) ?_))
  refine mV rfl rfl (.nil (Wp.one 2 (by kernel_rfl) ?_))
  refine ih rfl .no Fx.se31 (.u rfl) (.u rfl) (fun _=>by omega) (fun _=>by omega) (fun _=>hs56.nn (k:=(idxZ (hitE user seq) l).toNat) (by omega)) ?_
  refine .nil (Wp.one 3 (by kernel_rfl) ?_)
  refine fa rfl .no Fx.fo43_0 (.u rfl) (.nil (Wp.one 4 (by kernel_rfl) ?_))
  refine ld rfl .no Fx.ag9 (.u rfl) (fun _=>(hs56.at rfl hxi 0 _ rfl).rd) ?_
  refine .nil (Wp.one 5 (by kernel_rfl) ?_)
  refine ld rfl .no Fx.ag9 (.u rfl) (fun _=>(hbb8.rd (by rfl)).rd) ?_
  refine .nil (Wp.one 6 (by kernel_rfl) ?_)
  refine cs rfl .no (.u rfl) (.u rfl) rfl (.nil (Wp.last (by kernel_rfl) ?_))
  refine .code (.cond rfl (fun c4=>?_) (fun c4=>?_))
  ·have c4k:=c4
   try simp only [qcA,qcC,qcB] at c4
   refine .exit (.xcode (.xnot rfl (.xcode (.xlp (.xblk (.code (.seq (rq4 rfl rfl (bC rfl .no Fx.bp43_ .nil rfl ?_)))))))))
   refine sw rfl (.u rfl) (.u rfl) rfl Fx.sz43 tk2 rfl (Ent.one _) ?_
   refine aS rfl rfl (s1 rfl (.u rfl) (.u rfl) rfl Fx.sz39 tk2 (by first|decide|(simp only [wa_len,ba_len,qlA]; omega)) (rfl) ?_)
   refine .nil (.code (.ret (We.finR Fx.go33 rfl (fun w=>caught_ret w _) Tryd.results9 (.cell rfl (fun w hw=>run_loadVarN Fx.ag43 (RdN.own tk1) (Ent.len _) hw) (.tmp rfl (.cell rfl (fun w hw=>run_loadVar1 Fx.ag39 (Rd.own .here rfl w hw)) .nil))) mN ?_)))
   rw [if_neg (by intro e; rw [e] at c4k; simp at c4k)] at hRx
   subst hRx
   exact ⟨rfl,rfl⟩
  have c4k:=c4
  try simp only [qcA,qcC,qcB] at c4
  refine .skip (.code (.seq (rq7 rfl rfl (mV rfl rfl (mV rfl rfl (ih rfl .no Fx.se31 (.u rfl) (.u rfl) (fun _=>by omega) (fun _=>by omega) (fun _=>hs56.nn (k:=(idxZ (hitE user seq) l).toNat) (by omega)) ?_))))))
  refine lA rfl .no Fx.ag43 (.u rfl) (fun _=>(hs56.at rfl hxi).rd) (fun _=>Ent.len _) ?_
  refine sw rfl (.u rfl) (.u rfl) rfl Fx.sz43 tk2 rfl (Ent.one _) ?_
  refine aS rfl rfl (s1 rfl (.u rfl) (.u rfl) rfl Fx.sz39 tk2 (by first|decide|(simp only [wa_len,ba_len,qlA]; omega)) (rfl) ?_)
  refine .nil (.code (.ret (We.finR Fx.go33 rfl (fun w=>caught_ret w _) Tryd.results9 (.cell rfl (fun w hw=>run_loadVarN Fx.ag43 (RdN.own tk1) (Ent.len _) hw) (.tmp rfl (.cell rfl (fun w hw=>run_loadVar1 Fx.ag39 (Rd.own .here rfl w hw)) .nil))) mN ?_)))
  rw [if_pos (toList_inj (by simpa using c4k))] at hRx
  subst hRx
  exact ⟨rfl,rfl⟩
 have c2k:=c2
 try simp only [qcA,qcC,qcB] at c2
 refine .exit (.xcode (.xlp (.xblk (.code (.seq (rq4 rfl rfl (bC rfl .no Fx.bp43_ .nil rfl ?_)))))))
 refine sw rfl (.u rfl) (.u rfl) rfl Fx.sz43 tk2 rfl (Ent.one _) ?_
 refine aS rfl rfl (s1 rfl (.u rfl) (.u rfl) rfl Fx.sz39 tk2 (by first|decide|(simp only [wa_len,ba_len,qlA]; omega)) (rfl) ?_)
 refine .nil (.code (.ret (We.finR Fx.go33 rfl (fun w=>caught_ret w _) Tryd.results9 (.cell rfl (fun w hw=>run_loadVarN Fx.ag43 (RdN.own tk1) (Ent.len _) hw) (.tmp rfl (.cell rfl (fun w hw=>run_loadVar1 Fx.ag39 (Rd.own .here rfl w hw)) .nil))) mN ?_)))
 obtain rfl:R=none:=gi_end hI (by omega)
 exact ⟨rfl,rfl⟩
theorem caught_pan (T b:Nat) (w:World) (x:Value) (hb:w.heap[b]? = some (cl [x] T)):CallsD Tryd.prog 33 #[.pointer (some ⟨b,0,none⟩)] (.panicking [brk]) w (fun e u' w'=>(∃ v,e=.returned v)∧u'=.panicking [brk']∧w'=w.setRow b #[.int .i64 170]):=by
 refine callsD_of_wpS Tryd.func33 rfl fun c₀ cs hu=>(wpS_seq (wpS_region ?_))
 have hr:recoverD (c₀ :: cs)=some (.iface 117 (.agg #[]),{ c₀ with mode:=.panicking [{ v:=.iface 117 (.agg #[]),recovered:=true }] } :: cs):=by simp [recoverD,hu,brk]
 rw [show Tryd.f33.ntmps=11 from rfl]
 simp only [wpOpsS,List.range,List.range.loop,Array.size,List.length,List.getElem?_toArray,List.getElem?_cons_zero,List.getElem?_cons_succ,Region.wanted,if_true]
 have e1:∀ (ρ:Operand→Value) (d:Option Nat) (t:TypeId) (p:String) (af:Array Edge),(execOp ρ ⟨d,.call { callee:=.builtin .recover,args:=#[],argTypes:=#[] },t,p,af,none⟩).run Tryd.prog w=.ok .recover w:=fun ρ d t p af=>by
  simp [execOp,resolve,invoke,builtin]
 simp only [e1,hr]
 simp [execOp,Oper.upon,Exit.thenS,Act.put,Act.eval]
 refine wpS_of_wp ?_
 refine wp_seq (wp_region ?_)
 simp [wpOps,Region.wanted,execOp,Oper.wp,Oper.upon,Exit.then,Act.put,Act.eval,List.range,List.range.loop]
 refine .inl (wp_block (wp_seq (wp_region ?_)))
 have e2:(binOp .eql 20 (.iface 117 (.agg #[])) .nilIface).run Tryd.prog w=.ok (.bool false) w:=by
  have hu20:=ifT_some Fx.if20
  obtain ⟨q,hq⟩:=hu20
  have e4:∀ d,(Op.equalIn (d+1) 20 (.iface 117 (.agg #[])) .nilIface).run Tryd.prog w=.ok false w:=fun d=>by
   unfold Op.equalIn
   simp only [Sem.run_bind,run_underlying hq,Result.andThen_ok,Sem.run_pure]
  obtain ⟨d,hd⟩ : ∃ d,Op.maxDepth=d+1:=Nat.exists_eq_succ_of_ne_zero (by decide)
  simp [binOp,Op.equal,hd,e4]
 have e3:(eqGuard .eql 20 (.tmp 4) (.const .nilIface) (.iface 117 (.agg #[])) .nilIface).run Tryd.prog w=.ok () w:=by unfold eqGuard; simp
 simp [wpOps,Region.wanted,execOp,Oper.wp,Oper.upon,Exit.then,Act.put,Act.eval,List.range,List.range.loop,e2,e3]
 refine .inl (.inl (wp_cond_false (by simp [Act.eval]) ?_))
 refine wp_seq (wp_region ?_)
 have e5:(Instr.typeAssert (.iface 117 (.agg #[])) 20 117 false).run Tryd.prog w=.ok (.agg #[]) w:=by
  unfold Instr.typeAssert
  simp only [Sem.run_bind,run_underlying Tryd.underlying117,Result.andThen_ok]
  simp
 simp [wpOps,Region.wanted,execOp,Oper.wp,Oper.upon,Exit.then,Act.put,Act.eval,List.range,List.range.loop,e5]
 refine .inl (.inl (wp_region ?_))
 have e6:(storeVar 39 ⟨b,0,none⟩ (.int .i64 170)).run Tryd.prog w=.ok () (w.setRow b #[.int .i64 170]):=by
  have:=run_storeCells_at Tryd.prog b 0 T [.int .i64 170] 0 #[x] w hb (by simp) (by simp [Value.oneCell'])
  have hz:szT Tryd.prog 39=some 1:=by kernel_rfl
  cases hi:Tryd.prog.info? 39 with
  | none=>simp [szT,hi] at hz
  | some inf =>
   simp only [szT,hi,Option.map_some,Option.some.injEq] at hz
   simp only [Nat.add_zero] at this
   simpa [storeVar,sizeOf,typeInfo,hi,hz,Value.cells] using this
 simp [wpOps,Region.wanted,execOp,Oper.wp,Oper.upon,Exit.then,Act.put,Act.eval,List.range,List.range.loop,Instr.storeAt,Instr.sureAddr,e6]
 refine .inl (.inl (.inl ?_))
 refine ⟨rfl,_,rfl,.tuple #[],?_,⟨_,rfl⟩,rfl,rfl⟩
 simp [results,Tryd.f33]
set_option maxHeartbeats 4000000 in
theorem tAll_p (root:Nat→Y) (m:Meta) (xs:List Y) (hx:Sh) (G:PM) (hw:m.wf) (hs:SlR G 1 encY hx xs) (hK:RdNP G 0 0 (wa 64 kW)) (hl:xs.length≤1000000):Ct Tryd.prog 12 ([.agg (ba 32 root).toArray,m.val,hx.val xs.length]:List Value).toArray G [] (fun G' μ' u=>∃ (h':Sh) (l:List Ent) (er:Int),AllR (allT root m xs) l er∧μ'=[]∧u=.tuple #[h'.val l.length,.int .i64 er]∧SlR G' 4 Ent.cells h' l):=by
 refine Ct.of Tryd.func12 rfl Tryd.ntmps12 rfl fun w0 hs0=>?_
 refine .seq (rq4 rfl rfl ?_)
 refine bx rfl (.u rfl) rfl ?_; intro b3
 refine bx rfl (.u rfl) rfl ?_; intro b4
 refine aS rfl rfl ?_
 refine al rfl Fx.zr39 ?_; intro b7
 refine .nil (.code (.seq (wk_dfrP (allT root m xs=none) [.slice none 0 0,.int .i64 170] rfl rfl rfl Fx.go33 Tryd.results12 (caught_pan 39 _) rfl (fun hD G'=>⟨⟨none,0⟩,[],170,.inr ⟨hD,rfl,rfl⟩,rfl,rfl,SlR.nul⟩) (.code (.seq (rq5 rfl rfl (lA rfl .no Fx.ag23 (.u rfl) (fun _=>RdN.own tk2) (fun _=>ba_len _ _) ?_)))))))
 refine lA rfl .no FxTbI.ag38 (.u rfl) (fun _=>RdN.own tk1) (fun _=>Meta.len _) ?_
 refine mV rfl rfl (kpc rfl Fx.go34 (Evc rfl (Evc rfl (Evc rfl Evn))) (begin_p root m xs hx _ hw hs hK hl) (fun ch G9 ρ9 μ9 hle9 hd he hm=>die_of ⟨hd.1,al_n1 hd.2⟩ he hm .here (.tmp rfl (.cell rfl (fun w hw=>run_loadVar1 Fx.ag39 (Rd.own .here rfl w hw)) .nil))) ?_)
 rintro _ G15 μ15 hG15 ⟨ix,b15,ps,ha15,hr15,hi15,hB15,rfl,rfl,hR15⟩
 have hpl:=hR15.len
 have h2r:=beg_len hB15
 rw [List.length_map] at h2r
 have hK:=hK.mono hG15
 refine aS rfl rfl (.nil (.code (.seq (rq7 rfl rfl (mV rfl rfl (nc rfl .no (.u rfl) (fz rfl .no Fx.fo91_2 (.u rfl) (ld rfl .no Fx.ag89 (.u rfl) (fun _=>Rd.own .here wrc_out) ?_))))))))
 refine ln rfl .no Fx.sn89 (.u rfl) (arn (((ps.length-1):Nat):Int) rfl .no (.u rfl) (.u rfl) rfl (fun _=>by omega) (fun _=>wrap_i64 (by omega) (by omega)) ?_)
 refine aS rfl rfl (.nil (.code (.seq ?_)))
 obtain ⟨pf,epf⟩:=getx (k:=ps.length-1) (xs:=ps) (by omega)
 have e9:(ps.map (·.1)).getD ((ps.map (·.1)).length-1) rowZ=pf.1:=by rw [List.length_map,map_fst rfl epf]
 refine rq3 rfl rfl (mV rfl rfl (mV rfl rfl (kpo rfl Fx.go36 (Evc rfl (Evc rfl (Evc rfl Evn))) (mtk1 .here) (whole_p root (hdM m) ps ix ha15 hr15 hi15 b15 _ hR15 hK (ps.length-1) 1 pf epf (by decide)) (fun ch G9 ρ9 μ9 hle9 hd he hm=>die_of ⟨hd.1,al_n2 hB15 (by rw [e9]; exact hd.2)⟩ he hm .here (.tmp rfl (.cell rfl (fun w hw=>run_loadVar1 Fx.ag39 (Rd.own .here rfl w hw)) .nil))) ?_)))
 rintro _ G24 μ24 hG24 ⟨f,h24,hwf,rfl,rfl,hs24⟩
 have hK:=hK.mono hG24
 have hR15:=hR15.mono hG24
 refine .nil (.code (.seq (wk_nilS 4 Ent.cells 43 ?_)))
 have hQ:=al_eq hB15 (by rw [e9]; exact hwf)
 rw [List.length_map] at hQ
 refine rq1 rfl rfl (aS rfl rfl (.nil (.code (.seq (.seq (rq2 rfl rfl (mV rfl rfl (mV rfl rfl (.nil (.code (.block ?_)))))))))))
 refine Wk.lop (α:=Nat×Value×List Ent) (fun gh=>[(10,true,gh.2.1),(26,true,.int .i64 (gh.1:Int))]) (fun gh=>[rS 4 Ent.cells gh.2.1 43 gh.2.2,.blk b15 (cl (wrC (keyEnc root (headL (hdM m))) (keyMac root (headL (hdM m))) (ha15.val (headL (hdM m)).length) (hr15.val ps.length) (hi15.val ix.length)) 91)])
  (fun gh Gl=>(gh.1≤ps.length-1)∧(allT root m xs=(allG root (hdM m) (ps.map (·.1)) (ps.length-1-gh.1) gh.1 gh.2.2).bind (allK m))∧(gh.2.2.length≤gh.1*1000000)) (fun gh=>ps.length-1-gh.1) (0,.slice none 0 0,[]) [(4,true,_),(6,true,_),(7,true,_),(8,true,_),(25,true,_)] [_,_,_]
  (esD rfl (esC rfl (by first|rfl|exact evi (by omega)) (esD rfl (esD rfl (esD rfl (esD rfl (esD rfl eZ)))))))
  (mS .here rfl (mS .here rfl (mS .here rfl (mS .here rfl (mS .here rfl mN))))) ?_ ?_
 ·refine ⟨?_,?_,?_⟩
  ·(try dsimp only)<;>(first|omega|rfl|assumption|(simp; done))
  ·(try dsimp only)<;>(exact hQ)
  (try dsimp only)<;>(exact Nat.zero_le _)
 intro gh N0 Gl0 hN0 hGl0 hF0
 obtain ⟨k,v,acc⟩:=gh; dsimp only at hF0 hN0 ⊢
 obtain ⟨hk,hG,hal⟩:=hF0
 have hK:=hK.mono hGl0
 have hR15:=hR15.mono hGl0
 refine .seq (rq1 rfl rfl (cp rfl .no (.u rfl) (.u rfl) rfl (.nil (.code (.seq (.cond rfl (fun c1=>?_) (fun c1=>?_)))))))
 ·have c1k:=c1
  try simp only [qcA,qcC,qcB] at c1
  refine .skip (.code (.seq (.block (.seq (rq2 rfl rfl (mV rfl rfl (aS rfl rfl (.nil (.code ?_)))))))))
  obtain ⟨hst1,hst2⟩:=alp_step hG (by omega)
  obtain ⟨p,ep⟩:=getx (k:=k) (xs:=ps) (by omega)
  refine rq6 rfl rfl (mV rfl rfl (mV rfl rfl (mV rfl rfl (kpo rfl Fx.go39 (Evc rfl (Evc rfl Evn)) (mtk1 tk1) (ents_p root (hdM m) ps ix ha15 hr15 hi15 b15 _ hR15 hK k p ep) (fun ch G9 ρ9 μ9 hle9 hd he hm=>die_of ⟨hd.1,hst1 hd.2⟩ he hm tk1 (.tmp rfl (.cell rfl (fun w hw=>run_loadVar1 Fx.ag39 (Rd.own .here rfl w hw)) .nil))) ?_))))
  rintro _ G32 μ32 hG32 ⟨lz9,h32,hel,rfl,rfl,hs32⟩
  obtain ⟨y9,hwy,hry⟩:=en_inv hel
  rw [map_fst rfl ep] at hwy
  have hll:=read_len hry; have hyl:=wh_len hwy; have hps:=hR15.sm p (List.mem_of_getElem? ep)
  have hgn:=hst2 _ hel
  refine apL (xs:=acc) rfl Fx.se31 Fx.zw43 rfl (.u rfl) (.u rfl) tk1 hs32 (fun _ _=>Ent.len _) (ents_oneC) (by omega) (by unfold maxLen; omega) ?_; intro v33 ov33
  refine aS rfl rfl (.nil (.blk (.code (rq2 rfl rfl (arn (((k+1):Nat):Int) rfl .no (.u rfl) (.u rfl) rfl (fun _=>by omega) (fun _=>wrap_i64 (by omega) (by omega)) ?_)))))
  refine mV rfl rfl (.nil (We.lpo (k+1,v33,acc++lz9) ?_ ?_ ?_ ?_ ?_))
  ·exact (esD rfl (esC rfl (by first|rfl|exact evi (by omega)) (esD rfl (esD rfl (esD rfl (esD rfl (esD rfl eZ)))))))
  ·exact (mS .here rfl (mS .here rfl (mS .here rfl (mS .here rfl (mS .here rfl mN)))))
  ·first|omega|(dsimp only; omega)
  ·exact (hGl0).trans hG32
  refine ⟨?_,?_,?_⟩
  ·(try dsimp only)<;>(first|omega|rfl|assumption|(simp; done))
  ·(try dsimp only)<;>(exact hgn)
  (try dsimp only)<;>(rw [List.length_append]; omega)
 have c1k:=c1
 try simp only [qcA,qcC,qcB] at c1
 refine .exit (.xcode (.xlp (.xblk (.code (.seq ?_)))))
 refine wk_fs .here (fun _ _=>rfl) (by intro b hb; cases hb) ?_; intro GfRA hRA hleRA evRA hsRA; subst evRA
 have hE:=alp_end (n:=ps.length-1) (k:=k) hG (by omega)
 refine Wk.mixp ⟨true,false⟩ Fx.mix (by kernel_rfl) ?_
 refine Wp.one 0 (by kernel_rfl) ?_
 refine mV rfl rfl (.nil (Wp.b1 1 (by kernel_rfl) ?_))
 refine kv rfl .no Fx.go22 (Evc rfl Evn) (fun _=>rises_ok hRA acc _ hsRA (by omega)) ?_
 refine .nil (Wp.one 2 (by kernel_rfl) ?_)
 refine mV rfl rfl (.nil (Wp.one 3 (by kernel_rfl) ?_))
 refine mv rfl (.t rfl rfl) (.u rfl) (.nil (Wp.one 4 (by kernel_rfl) ?_))
 refine ln rfl (.t rfl rfl) Fx.sn31 (.s rfl) (.nil (Wp.one 5 (by kernel_rfl) ?_))
 refine fz rfl (.t rfl rfl) Fx.fo38_5 (.u rfl) (.nil (Wp.one 6 (by kernel_rfl) ?_))
 refine ld rfl (.t rfl rfl) Fx.ag3 (.s rfl) (fun hc=>Rd.own tk2 (by first|exact wap_f rfl|rfl)) ?_
 refine .nil (Wp.one 7 (by kernel_rfl) ?_)
 refine cp rfl (.t rfl rfl) (.s rfl) (.s rfl) rfl (.nil (Wp.one 8 (by kernel_rfl) ?_))
 refine pkA rfl .no (.u rfl) (.s rfl) (.nil (Wp.one 9 (by kernel_rfl) ?_))
 refine mV rfl rfl (.nil (Wp.one 10 (by kernel_rfl) ?_))
 refine mv rfl (.t rfl rfl) (.u rfl) (.nil (Wp.one 11 (by kernel_rfl) ?_))
 refine ln rfl (.t rfl rfl) Fx.sn31 (.s rfl) (.nil (Wp.one 12 (by kernel_rfl) ?_))
 refine cp rfl (.t rfl rfl) (.s rfl) (.u rfl) rfl (.nil (Wp.one 13 (by kernel_rfl) ?_))
 refine mv rfl (.t rfl rfl) (.s rfl) (.nil (Wp.one 14 (by kernel_rfl) ?_))
 refine mv rfl (.fc rfl rfl) (.u rfl) (.nil (Wp.one 15 (by kernel_rfl) ?_))
 refine ih rfl (.fc rfl rfl) Fx.se31 (.s rfl) (.u rfl) (fun hc=>by (try simp only [Bool.and_eq_true,decide_eq_true_eq,Bool.not_eq_true',Bool.or_eq_false_iff,decide_eq_false_iff_not,beq_iff_eq,beq_eq_false_iff_ne,ne_eq] at hc); omega) (fun hc=>by (try simp only [Bool.and_eq_true,decide_eq_true_eq,Bool.not_eq_true',Bool.or_eq_false_iff,decide_eq_false_iff_not,beq_iff_eq,beq_eq_false_iff_ne,ne_eq] at hc); omega) (fun hc=>hsRA.nn (k:=0) (by first|omega|(simp only [Bool.and_eq_true,decide_eq_true_eq,Bool.not_eq_true',Bool.or_eq_false_iff,decide_eq_false_iff_not,beq_iff_eq,beq_eq_false_iff_ne,ne_eq] at hc; omega)|(simp only [List.length_cons,List.length_nil]; omega))) ?_
 refine .nil (Wp.one 16 (by kernel_rfl) ?_)
 refine fa rfl (.fc rfl rfl) Fx.fo43_0 (.s rfl) (.nil (Wp.one 17 (by kernel_rfl) ?_))
 refine ld rfl (.fc rfl rfl) Fx.ag9 (.s rfl) (fun hc=>(hsRA.at (by decide) (gd_at (z:=Ent.zero) (k:=0) (by (try simp only [Bool.and_eq_true,decide_eq_true_eq,Bool.not_eq_true',Bool.or_eq_false_iff,decide_eq_false_iff_not,beq_iff_eq,beq_eq_false_iff_ne,ne_eq] at hc); omega)) 0 _ rfl).rd) ?_
 refine .nil (Wp.one 18 (by kernel_rfl) ?_)
 refine fz rfl (.fc rfl rfl) Fx.fo38_6 (.u rfl) (.nil (Wp.one 19 (by kernel_rfl) ?_))
 refine ld rfl (.fc rfl rfl) Fx.ag9 (.s rfl) (fun hc=>Rd.own tk2 (by first|exact wap_f rfl|rfl)) ?_
 refine .nil (Wp.one 20 (by kernel_rfl) ?_)
 refine cs rfl (.fc rfl rfl) (.s rfl) (.s rfl) rfl (.nil (Wp.one 21 (by kernel_rfl) ?_))
 refine mv rfl (.fc rfl rfl) (.s rfl) (.nil (Wp.one 22 (by kernel_rfl) ?_))
 refine mv rfl (.tc rfl rfl) (.u rfl) (.nil (Wp.one 23 (by kernel_rfl) ?_))
 refine mv rfl (.tc rfl rfl) (.u rfl) (.nil (Wp.one 24 (by kernel_rfl) ?_))
 refine ln rfl (.tc rfl rfl) Fx.sn31 (.s rfl) (.nil (Wp.one 25 (by kernel_rfl) ?_))
 refine ar rfl (.tc rfl rfl) (.s rfl) (.u rfl) rfl (fun hc=>wrap_i64 (by (try simp only [Bool.and_eq_true,decide_eq_true_eq,Bool.not_eq_true',Bool.or_eq_false_iff,decide_eq_false_iff_not,beq_iff_eq,beq_eq_false_iff_ne,ne_eq] at hc); omega) (by (try simp only [Bool.and_eq_true,decide_eq_true_eq,Bool.not_eq_true',Bool.or_eq_false_iff,decide_eq_false_iff_not,beq_iff_eq,beq_eq_false_iff_ne,ne_eq] at hc); omega)) ?_
 refine .nil (Wp.one 26 (by kernel_rfl) ?_)
 refine ih rfl (.tc rfl rfl) Fx.se31 (.s rfl) (.s rfl) (fun hc=>by (try simp only [Bool.and_eq_true,decide_eq_true_eq,Bool.not_eq_true',Bool.or_eq_false_iff,decide_eq_false_iff_not,beq_iff_eq,beq_eq_false_iff_ne,ne_eq] at hc); omega) (fun hc=>by (try simp only [Bool.and_eq_true,decide_eq_true_eq,Bool.not_eq_true',Bool.or_eq_false_iff,decide_eq_false_iff_not,beq_iff_eq,beq_eq_false_iff_ne,ne_eq] at hc); omega) (fun hc=>hsRA.nn (k:=((((acc.length:Nat):Int)-(1:Int))).toNat) (by first|omega|(simp only [Bool.and_eq_true,decide_eq_true_eq,Bool.not_eq_true',Bool.or_eq_false_iff,decide_eq_false_iff_not,beq_iff_eq,beq_eq_false_iff_ne,ne_eq] at hc; omega)|(simp only [List.length_cons,List.length_nil]; omega))) ?_
 refine .nil (Wp.one 27 (by kernel_rfl) ?_)
 refine fa rfl (.tc rfl rfl) Fx.fo43_0 (.s rfl) (.nil (Wp.one 28 (by kernel_rfl) ?_))
 refine ld rfl (.tc rfl rfl) Fx.ag9 (.s rfl) (fun hc=>(hsRA.at (k:=acc.length-1) (by (try simp only [Bool.and_eq_true,decide_eq_true_eq,Bool.not_eq_true',Bool.or_eq_false_iff,decide_eq_false_iff_not,beq_iff_eq,beq_eq_false_iff_ne,ne_eq] at hc); omega) (gd_at (z:=Ent.zero) (k:=acc.length-1) (by (try simp only [Bool.and_eq_true,decide_eq_true_eq,Bool.not_eq_true',Bool.or_eq_false_iff,decide_eq_false_iff_not,beq_iff_eq,beq_eq_false_iff_ne,ne_eq] at hc); omega)) 0 _ rfl).rd) ?_
 refine .nil (Wp.one 29 (by kernel_rfl) ?_)
 refine fz rfl (.tc rfl rfl) Fx.fo38_7 (.u rfl) (.nil (Wp.one 30 (by kernel_rfl) ?_))
 refine ld rfl (.tc rfl rfl) Fx.ag9 (.s rfl) (fun hc=>Rd.own tk2 (by first|exact wap_f rfl|rfl)) ?_
 refine .nil (Wp.one 31 (by kernel_rfl) ?_)
 refine cs rfl (.tc rfl rfl) (.s rfl) (.s rfl) rfl (.nil (Wp.one 32 (by kernel_rfl) ?_))
 refine pkA rfl (.fc rfl rfl) (.s rfl) (.s rfl) (.nil (Wp.one 33 (by kernel_rfl) ?_))
 refine pkO rfl (.t rfl rfl) (.s rfl) (.s rfl) (.nil (Wp.one 34 (by kernel_rfl) ?_))
 refine pkA rfl .no (.u rfl) (.s rfl) (.nil (Wp.bp 35 (by kernel_rfl) (by kernel_rfl) ?_))
 refine kpc rfl Fx.go43 (Evc rfl Evn) (need_p _ _) (fun ch G9 ρ9 μ9 hle9 hd he hm=>die_of ⟨hd.1,alp_no hE hd.2⟩ he hm tk1 (.tmp rfl (.cell rfl (fun w hw=>run_loadVar1 Fx.ag39 (Rd.own .here rfl w hw)) .nil))) ?_
 rintro _ G70 μ70 hG70 ⟨hq70,rfl,rfl⟩
 have hsRA:=hsRA.mono hG70
 refine .nil (Wp.last (by kernel_rfl) ?_)
 refine .code (.seq (rq3 rfl rfl (mV rfl rfl (aS rfl rfl (s1 rfl (.u rfl) (.u rfl) rfl Fx.sz39 tk1 (by first|decide|(simp only [wa_len,ba_len,qlA]; omega)) (rfl) ?_)))))
 refine .nil (.code (.ret (We.finR Fx.go33 rfl (fun w=>caught_ret w _) Tryd.results12 (.tmp rfl (.cell rfl (fun w hw=>run_loadVar1 Fx.ag39 (Rd.own .here rfl w hw)) .nil)) mN ?_)))
 exact ⟨hRA,acc,0,.inl ⟨alp_yes hE hq70,rfl⟩,rfl,rfl,hsRA⟩
namespace FxTbF
theorem se61:slE Tryd.prog 61=some (23,32,32):=by kernel_rfl
theorem zw23:(Tryd.prog.info? 23).bind (·.zero)=some (.agg (ba 32 (fun _=>0#8)).toArray):=by kernel_rfl
end FxTbF
namespace Fx
theorem zv9:(Tryd.prog.info? 9).bind (·.zero)=some (.string ByteArray.empty):=by kernel_rfl
theorem fo73_0:fOff Tryd.prog 73 0=some 0:=by kernel_rfl
theorem fo73_1:fOff Tryd.prog 73 1=some 64:=by kernel_rfl
theorem go51:goFn Tryd.prog 51=true:=by kernel_rfl
theorem go50:goFn Tryd.prog 50=true:=by kernel_rfl
theorem go17:goFn Tryd.prog 17=true:=by kernel_rfl
theorem fo73_2:fOff Tryd.prog 73 2=some 65:=by kernel_rfl
theorem fo73_3:fOff Tryd.prog 73 3=some 66:=by kernel_rfl
theorem ag61:aggN Tryd.prog 61=some none:=by kernel_rfl
theorem sz61:szT Tryd.prog 61=some 1:=by kernel_rfl
end Fx
theorem compact_ok (L:List ByteArray) (v:Value) (G:PM) (hl:L.length≤1000000):Ct Tryd.prog 30 ([v]:List Value).toArray G [rS 1 encT v 9 L] (fun _ μ' u=>∃ v',μ'=[rS 1 encT v' 9 (cmpU L)]∧u=v'):=by
 refine Ct.of Tryd.func30 rfl Tryd.ntmps30 rfl fun w0 hs0=>?_
 refine .seq (rq1 rfl rfl (aS rfl rfl (.nil (.code (.seq (.seq (rq3 rfl rfl (mV rfl rfl (lr rfl .no Fx.sn74 (.u rfl) .here ?_)))))))))
 refine cp rfl .no (.u rfl) (.u rfl) rfl (.nil (.code (.cond rfl (fun c1=>?_) (fun c1=>?_))))
 ·have c1k:=c1
  try simp only [qcA,qcB] at c1
  refine .seq (rq2 rfl rfl (mV rfl rfl (aS rfl rfl (.nil (.code (.ret (We.fin Tryd.results30 (.tmp rfl .nil) (mS .here rfl mN) ?_)))))))
  exact ⟨_,by rw [cmp_short (by omega)]; rfl,rfl⟩
 have c1k:=c1
 try simp only [qcA,qcB] at c1
 refine .skip (.code (.seq (.seq ?_)))
 refine wk_rv .here (by omega) ?_; intro bbR capR evR lcR; subst evR
 refine rq1 rfl rfl (aS rfl rfl (.nil (.code (.block ?_))))
 refine Wk.lop (α:=Nat) (fun k=>[(3,true,.int .i64 (k:Int))]) (fun _=>[])
  (fun k Gl=>(1≤k∧k≤L.length)∧(∀ j,1≤j→j<k→¬ L.getD j emT=L.getD (j-1) emT)) (fun k=>L.length-k) 1 [(0,true,_)] [_]
  (esC rfl (by first|rfl|exact evi (by omega)) (esD rfl eZ))
  (mS .here rfl mN) ?_ ?_
 ·refine ⟨?_,?_⟩
  ·(try dsimp only)<;>(first|omega|rfl|assumption|(simp; done))
  (try dsimp only)<;>(exact fun j h1 h2=>absurd h1 (by omega))
 intro k N0 Gl0 hN0 hGl0 hF0
 try dsimp only at hF0 hN0 ⊢
 obtain ⟨hk,hj⟩:=hF0
 refine .seq (.seq (rq4 rfl rfl (mV rfl rfl (mV rfl rfl (lr rfl .no Fx.sn74 (.u rfl) .here ?_)))))
 refine cp rfl .no (.u rfl) (.u rfl) rfl (.nil (.code (.cond rfl (fun c2=>?_) (fun c2=>?_))))
 ·have c2k:=c2
  try simp only [qcA,qcB] at c2
  refine .skip (.code (.seq (.block (.seq (Wk.mixp ⟨false,false⟩ Fx.mix (by kernel_rfl) ?_)))))
  refine Wp.one 0 (by kernel_rfl) ?_
  refine mV rfl rfl (.nil (Wp.one 1 (by kernel_rfl) ?_))
  refine mV rfl rfl (.nil (Wp.one 2 (by kernel_rfl) ?_))
  refine ia rfl .no Fx.se74 (.u rfl) (.u rfl) (fun _=>by omega) (fun _=>by omega) ?_
  refine .nil (Wp.one 3 (by kernel_rfl) ?_)
  refine ld rfl .no Fx.ag9 (.u rfl) (fun _=>Rd.row .here (encT_ix (k) (by omega) (by omega))) ?_
  refine .nil (Wp.one 4 (by kernel_rfl) ?_)
  refine mV rfl rfl (.nil (Wp.one 5 (by kernel_rfl) ?_))
  refine mV rfl rfl (.nil (Wp.one 6 (by kernel_rfl) ?_))
  refine ar rfl .no (.u rfl) (.u rfl) rfl (fun _=>wrap_i64 (by omega) (by omega)) ?_
  refine .nil (Wp.one 7 (by kernel_rfl) ?_)
  refine ia rfl .no Fx.se74 (.u rfl) (.u rfl) (fun _=>by omega) (fun _=>by omega) ?_
  refine .nil (Wp.one 8 (by kernel_rfl) ?_)
  refine ld rfl .no Fx.ag9 (.u rfl) (fun _=>Rd.row .here (encT_ix (k-1) (by omega) (by omega))) ?_
  refine .nil (Wp.one 9 (by kernel_rfl) ?_)
  refine cs rfl .no (.u rfl) (.u rfl) rfl (.nil (Wp.last (by kernel_rfl) ?_))
  refine .code (.cond rfl (fun c3=>?_) (fun c3=>?_))
  ·have c3k:=c3
   try simp only [qcA,qcB] at c3
   refine .seq (rq4 rfl rfl (mV rfl rfl (mV rfl rfl (slr k rfl Fx.se74 (.u rfl) (.u rfl) (by omega) (by omega) (by omega) (by omega) ?_))))
   refine aS rfl rfl (.nil (.code (.seq (.seq (rq1 rfl rfl (aS rfl rfl (.nil (.code (.block ?_)))))))))
   refine Wk.lop (α:=Nat×Nat×List ByteArray) (fun gh=>[(3,true,.int .i64 (gh.2.1:Int)),(5,true,.int .i64 (gh.1:Int))]) (fun gh=>[rS 1 encT (.slice (some ⟨bbR,0,none⟩) gh.2.2.length capR) 9 gh.2.2])
    (fun gh Gl=>(CmR L gh.2.2 gh.2.1 (k+gh.1))∧(1≤gh.1)) (fun gh=>L.length-(k+gh.1)) (1,k,L) [(0,true,_),(4,true,_)] []
    (esC rfl (by first|rfl|exact evi (by omega)) (esC rfl (by first|rfl|exact evi (by omega)) (esD rfl (esD rfl eZ))))
    (mS .here rfl mN) ?_ ?_
   ·refine ⟨?_,?_⟩
    ·(try dsimp only)<;>(exact CmR.start hk.1 (by omega) hj (toList_inj c3k))
    (try dsimp only)<;>(first|omega|rfl|assumption|(simp; done))
   intro gh N1 Gl1 hN1 hGl1 hF1
   obtain ⟨q,c,M⟩:=gh; dsimp only at hF1 hN1 ⊢
   obtain ⟨hC,hq⟩:=hF1
   have hcj:=hC.cj; have hjl:=hC.jl; have hlen:=hC.len; have hc1:=hC.c1
   refine .seq (.seq (rq4 rfl rfl (mV rfl rfl (mV rfl rfl (ln rfl .no Fx.sn74 (.u rfl) (cp rfl .no (.u rfl) (.u rfl) rfl (.nil (.code (.cond rfl (fun c4=>?_) (fun c4=>?_))))))))))
   ·have c4k:=c4
    try simp only [qcA,qcB] at c4
    refine .skip (.code (.seq (.block (.seq (Wk.mixp ⟨false,false⟩ Fx.mix (by kernel_rfl) ?_)))))
    refine Wp.one 0 (by kernel_rfl) ?_
    refine mV rfl rfl (.nil (Wp.one 1 (by kernel_rfl) ?_))
    refine mV rfl rfl (.nil (Wp.one 2 (by kernel_rfl) ?_))
    refine ia rfl .no Fx.se74 (.u rfl) (.u rfl) (fun _=>by omega) (fun _=>by omega) ?_
    refine .nil (Wp.one 3 (by kernel_rfl) ?_)
    refine ld rfl .no Fx.ag9 (.u rfl) (fun _=>Rd.row .here (encT_ix (k+q) (by omega) (by omega))) ?_
    refine .nil (Wp.one 4 (by kernel_rfl) ?_)
    refine mV rfl rfl (.nil (Wp.one 5 (by kernel_rfl) ?_))
    refine mV rfl rfl (.nil (Wp.one 6 (by kernel_rfl) ?_))
    refine ar rfl .no (.u rfl) (.u rfl) rfl (fun _=>wrap_i64 (by omega) (by omega)) ?_
    refine .nil (Wp.one 7 (by kernel_rfl) ?_)
    refine ia rfl .no Fx.se74 (.u rfl) (.u rfl) (fun _=>by omega) (fun _=>by omega) ?_
    refine .nil (Wp.one 8 (by kernel_rfl) ?_)
    refine ld rfl .no Fx.ag9 (.u rfl) (fun _=>Rd.row .here (encT_ix (k+q-1) (by omega) (by omega))) ?_
    refine .nil (Wp.one 9 (by kernel_rfl) ?_)
    refine cs rfl .no (.u rfl) (.u rfl) rfl (.nil (Wp.last (by kernel_rfl) ?_))
    refine .code (.cond rfl (fun c5=>?_) (fun c5=>?_))
    ·have c5k:=c5
     try simp only [qcA,qcB] at c5
     refine .seq (rq8 rfl rfl (mV rfl rfl (mV rfl rfl (mV rfl rfl (mV rfl rfl (ia rfl .no Fx.se74 (.u rfl) (.u rfl) (fun _=>by omega) (fun _=>by omega) ?_))))))
     refine ld rfl .no Fx.ag9 (.u rfl) (fun _=>Rd.row .here (encT_ix (k+q) (by omega) (by omega))) ?_
     refine ia rfl .no Fx.se74 (.u rfl) (.u rfl) (fun _=>by omega) (fun _=>by omega) ?_
     refine stS (k:=c) (u:=(M.getD (k+q) emT)) rfl (.u rfl) (.u rfl) rfl Fx.sz9 .here (fun _ _=>rfl) (rfl) (one1 rfl) (by omega) (by (try simp only [List.length_set]); omega) ?_
     refine .nil (.code (rq3 rfl rfl (mV rfl rfl (arn (((c+1):Nat):Int) rfl .no (.u rfl) (.u rfl) rfl (fun _=>by omega) (fun _=>wrap_i64 (by omega) (by omega)) ?_))))
     refine aS rfl rfl (.nil (.blk (.code (rq3 rfl rfl (mV rfl rfl (arn (((q+1):Nat):Int) rfl .no (.u rfl) (.u rfl) rfl (fun _=>by omega) (fun _=>wrap_i64 (by omega) (by omega)) ?_))))))
     refine aS rfl rfl (.nil (We.lpo (q+1,c+1,M.set c (M.getD (k+q) emT)) ?_ ?_ ?_ ?_ ?_))
     ·exact (esC rfl (by first|rfl|exact evi (by omega)) (esC rfl (by first|rfl|exact evi (by omega)) (esD rfl (esD rfl eZ))))
     ·exact (mS .here (by rw [List.length_set]) mN)
     ·first|omega|(dsimp only; omega)
     ·exact hGl1
     refine ⟨?_,?_⟩
     ·(try dsimp only)<;>(exact hC.next (by omega) (str_f (by simpa using c5k)))
     (try dsimp only)<;>(first|omega|rfl|assumption|(simp; done))
    have c5k:=c5
    try simp only [qcA,qcB] at c5
    refine .skip (.blk (.code (rq3 rfl rfl (mV rfl rfl (arn (((q+1):Nat):Int) rfl .no (.u rfl) (.u rfl) rfl (fun _=>by omega) (fun _=>wrap_i64 (by omega) (by omega)) ?_)))))
    refine aS rfl rfl (.nil (We.lpo (q+1,c,M) ?_ ?_ ?_ ?_ ?_))
    ·exact (esC rfl (by first|rfl|exact evi (by omega)) (esC rfl (by first|rfl|exact evi (by omega)) (esD rfl (esD rfl eZ))))
    ·exact (mS .here rfl mN)
    ·first|omega|(dsimp only; omega)
    ·exact hGl1
    refine ⟨?_,?_⟩
    ·(try dsimp only)<;>(exact hC.same (by omega) (toList_inj (by simpa using c5k)))
    (try dsimp only)<;>(first|omega|rfl|assumption|(simp; done))
   have c4k:=c4
   try simp only [qcA,qcB] at c4
   refine .exit (.xcode (.xlp (.xblk (.code (.seq ?_)))))
   have lcc:(M.take c).length=c:=by rw [List.length_take]; omega
   refine wk_popS (M.take c) (M.drop c) (encT_len _) .here (by rw [List.take_append_drop]) ?_
   refine rq4 rfl rfl (mV rfl rfl (mV rfl rfl (slr (M.take c).length rfl Fx.se74 (.u rfl) (.u rfl) (by omega) (by omega) (by omega) (by omega) ?_)))
   refine clT rfl Fx.se74 Fx.zv9 rfl (by decide) (.u rfl) .here (by omega) (by omega) (fun _ _=>rfl) ?_
   refine .nil (.code (.seq (rq4 rfl rfl (mV rfl rfl (mV rfl rfl (srh (M.take c).length rfl Fx.se74 (.u rfl) (.u rfl) (by omega) (by omega) ?_))))))
   refine aS rfl rfl (.nil (.code (.ret (We.fin Tryd.results30 (.tmp rfl .nil) (mS .here rfl mN) ?_))))
   exact ⟨_,by rw [← hC.fin (by omega)]; rfl,rfl⟩
  have c3k:=c3
  try simp only [qcA,qcB] at c3
  refine .skip (.blk (.code (rq3 rfl rfl (mV rfl rfl (arn (((k+1):Nat):Int) rfl .no (.u rfl) (.u rfl) rfl (fun _=>by omega) (fun _=>wrap_i64 (by omega) (by omega)) ?_)))))
  refine aS rfl rfl (.nil (We.lpo (k+1) ?_ ?_ ?_ ?_ ?_))
  ·exact (esC rfl (by first|rfl|exact evi (by omega)) (esD rfl eZ))
  ·exact (mS .here rfl mN)
  ·first|omega|(dsimp only; omega)
  ·exact hGl0
  refine ⟨?_,?_⟩
  ·(try dsimp only)<;>(first|omega|rfl|assumption|(simp; done))
  (try dsimp only)<;>(exact cm_snoc hj c3k)
 have c2k:=c2
 try simp only [qcA,qcB] at c2
 refine .exit (.xcode (.xlp (.xblk (.code (.seq (rq2 rfl rfl (mV rfl rfl (aS rfl rfl (.nil (.code (.ret (We.fin Tryd.results30 (.tmp rfl .nil) (mS .here rfl mN) ?_))))))))))))
 exact ⟨_,by rw [cmp_full (by omega) hj]; rfl,rfl⟩
theorem tPut_ok (enc mac:Nat→Y) (ad:List Y) (ha:Sh) (O:List Y) (D:List Dg) (vo vl:Value) (bw part:Nat) (xs:List Y) (hx:Sh) (G:PM) (hsa:SlR G 1 encY ha ad) (hsx:SlR G 1 encY hx xs) (hK:RdNP G 0 0 (wa 64 kW)) (hla:ad.length≤1000) (hlx:xs.length≤1000000) (hlO:O.length≤100000000) (hlD:D.length≤1000000) (hp:part≤1000000000):Ct Tryd.prog 28 ([.pointer (some ⟨bw,0,none⟩),.int .i64 (part:Int),hx.val xs.length]:List Value).toArray G [.blk bw (cl (wrC enc mac (ha.val ad.length) vo vl) 73),rB vo 5 O,rS 32 (ba 32) vl 23 D] (fun _ μ' u=>∃ (X O' W':List Y) (D':List Dg) (vo' vl':Value) (b' cap':Nat),X=sealL enc mac (nonceF (BitVec.ofInt 64 (part:Int))) ad xs∧O'=O++X∧D'=D++[leafD X]∧W'=rowL X∧μ'=[.blk bw (cl (wrC enc mac (ha.val ad.length) vo' vl') 73),rB vo' 5 O',rS 32 (ba 32) vl' 23 D',rB (.slice (some ⟨b',0,none⟩) W'.length cap') 5 W']∧u=.slice (some ⟨b',0,none⟩) W'.length cap'):=by
 refine Ct.of Tryd.func28 rfl Tryd.ntmps28 rfl fun w0 hs0=>?_
 refine .seq (rq1 rfl rfl (aS rfl rfl (.nil (.code (.seq (Wk.draw (mc:=⟨false,false⟩) [0,1,2,3,4,5,7,8,9,10,11,6,12,13] Fx.mix (by kernel_rfl) ?_))))))
 refine mV rfl rfl (nc rfl .no (.u rfl) (fz rfl .no Fx.fo73_0 (.u rfl) (lA rfl .no Fx.ag70 (.u rfl) (fun _=>RdN.part (n:=64) (cs':=ba 32 enc++ba 32 mac) .here (wrc_key)) (fun _=>(by first|exact qE|exact qL|rfl)) ?_)))
 refine mV rfl rfl (ci rfl .no rfl Fx.cv3_24 (.u rfl) ?_)
 refine mV rfl rfl (nc rfl .no (.u rfl) (fz rfl .no Fx.fo73_1 (.u rfl) (ld rfl .no Fx.ag36 (.u rfl) (fun _=>Rd.own .here wrc_ad) ?_)))
 refine mV rfl rfl (kv rfl .no Fx.go51 (Evc rfl Evn) (fun _=>Nonce_ok _ _) ?_)
 refine kc rfl Fx.go50 (Evc rfl (Evc rfl (Evc rfl (Evc rfl Evn)))) (Ct.rowc (Seal_ok enc mac (nonceF (BitVec.ofInt 64 (part:Int))) ad ha xs hx _ hsa hsx hK (by omega) (by omega))) ?_
 rintro v21 G21 μ21 hG21 ⟨L21,ov21,eL21,rfl⟩
 have hK:=hK.mono hG21
 refine aS rfl rfl (.nil (.code (.seq ?_)))
 refine wk_fb .here (keys_k .here rfl (keys_k .here rfl (keys_k .here rfl (keys_0)))) ?_; intro GfR21 hR21 hleR21 evR21 hsR21; subst evR21
 have hK:=hK.mono hleR21
 refine rq4 rfl rfl (mV rfl rfl ?_)
 have lL21:L21.length=xs.length+16:=by rw [eL21,seal_len]
 refine kv rfl .no Fx.go17 (Evc rfl Evn) (fun _=>leaf_ok L21 hR21 _ hsR21 hK (by omega)) ?_
 refine al rfl Fx.zq23 ?_; intro b8
 refine sw rfl (.u rfl) (.u rfl) rfl Fx.sz23 .here rfl (ba_one _ _) ?_
 refine .nil (.code (.seq (rq10 rfl rfl (mV rfl rfl (mV rfl rfl (nc rfl .no (.u rfl) (fz rfl .no Fx.fo73_2 (.u rfl) (ld rfl .no Fx.ag36 (.u rfl) (fun _=>Rd.own tk1 wrc_out) ?_))))))))
 refine mV rfl rfl (apY rfl Fx.se36 Fx.zv5 (.u rfl) (.u rfl) tk2 hsR21.sc (by (try simp only [qlA,yl_len]); omega) ?_)
 intro v30 L30 ov30 eL30
 have lL30:L30.length=O.length+L21.length:=by rw [eL30,List.length_append]
 refine nc rfl .no (.u rfl) (fz rfl .no Fx.fo73_2 (.u rfl) (s1v rfl (.u rfl) (.u rfl) .here Fx.sz36 tk2 (by rw [wrc_len]; decide) (wrs_out) ?_))
 refine .nil (.code (.seq (Wk.mixp ⟨false,false⟩ Fx.mix (by kernel_rfl) ?_)))
 refine Wp.one 0 (by kernel_rfl) ?_
 refine mV rfl rfl (.nil (Wp.one 1 (by kernel_rfl) ?_))
 refine mV rfl rfl (.nil (Wp.one 2 (by kernel_rfl) ?_))
 refine nc rfl .no (.u rfl) (.nil (Wp.one 3 (by kernel_rfl) ?_))
 refine fz rfl .no Fx.fo73_3 (.u rfl) (.nil (Wp.one 4 (by kernel_rfl) ?_))
 refine ld rfl .no Fx.ag61 (.u rfl) (fun _=>Rd.own .here wrc_lvs) ?_
 refine .nil (Wp.one 5 (by kernel_rfl) ?_)
 refine lA rfl .no Fx.ag23 (.u rfl) (fun _=>RdN.own tk2) (fun _=>ba_len _ _) ?_
 refine .nil (Wp.b1 6 (by kernel_rfl) ?_)
 refine Go.Tan.b1 rfl FxTbF.se61 FxTbF.zw23 (.u rfl) rfl rfl (by decide) ?_; intro b39
 refine .nil (Wp.b1 7 (by kernel_rfl) ?_)
 refine apS (xs:=D) ((leafD L21)) rfl FxTbF.se61 FxTbF.zw23 rfl (.u rfl) (.u rfl) tk4 .here (ba_len _ _) (ba_one _ _) (by omega) (by unfold maxLen; omega) ?_; intro v40 ov40
 refine .nil (Wp.one 8 (by kernel_rfl) ?_)
 refine nc rfl .no (.u rfl) (.nil (Wp.one 9 (by kernel_rfl) ?_))
 refine fz rfl .no Fx.fo73_3 (.u rfl) (.nil (Wp.b1 10 (by kernel_rfl) ?_))
 refine s1v rfl (.u rfl) (.u rfl) .here Fx.sz61 tk2 (by rw [wrc_len]; decide) (wrs_lvs) ?_
 refine .nil (Wp.last (by kernel_rfl) ?_)
 refine .code (.seq (Wk.draw (mc:=⟨false,false⟩) [0,1,2,4,3,5,6] Fx.mix (by kernel_rfl) ?_))
 refine mV rfl rfl (ln rfl .no Fx.sn36 (.u rfl) (ci rfl .no rfl Fx.cv3_24 (.u rfl) ?_))
 refine sa0 rfl .no Fx.ar23 (.u rfl) (kc rfl Fx.go31 (Evc rfl (Evc rfl Evn)) (Ct.rowc (Num_ok [] ⟨none,0⟩ _ SlR.nul _ (Nat.zero_le _))) ?_)
 rintro v46 G46 μ46 hG46 ⟨L46,ov46,eL46,rfl⟩
 have lL46:=nm0 eL46
 refine apY rfl Fx.se36 Fx.zv5 (.u rfl) (.u rfl) .here (Sc.arr tk5) (by (try simp only [qlA,yl_len]); omega) ?_
 intro v48 L48 ov48 eL48
 have lL48:L48.length=L46.length+32:=by rw [eL48,List.length_append]; first|rfl | simp [yl_len]
 refine aS rfl rfl (.nil (.code (.ret ?_)))
 refine we_rv .here (by rw [eL48,List.length_append,yl_len]; omega) ?_; intro bbR46 capR46 evR46 lcR46; subst evR46
 refine We.fin Tryd.results28 (.tmp rfl .nil) (mS tk1 rfl (mS tk3 rfl (mS tk1 rfl (mS .here rfl mN)))) ?_
 exact ⟨L21,L30,L48,_,_,_,_,_,eL21,eL30,rfl,row_put (by omega) eL46 eL48,rfl,rfl⟩
theorem tPut_row (enc mac:Nat→Y) (ad:List Y) (ha:Sh) (O:List Y) (D:List Dg) (vo vl:Value) (bw part:Nat) (xs:List Y) (v:Value) (G:PM) (hsa:SlR G 1 encY ha ad) (hK:RdNP G 0 0 (wa 64 kW)) (hla:ad.length≤1000) (hlx:xs.length≤1000000) (hlO:O.length≤100000000) (hlD:D.length≤1000000) (hp:part≤1000000000) :
  Ct Tryd.prog 28 ([.pointer (some ⟨bw,0,none⟩),.int .i64 (part:Int),v]:List Value).toArray G (rB v 5 xs :: [.blk bw (cl (wrC enc mac (ha.val ad.length) vo vl) 73),rB vo 5 O,rS 32 (ba 32) vl 23 D]) (fun _ μ' u=>∃ ν,μ'=rB v 5 xs :: ν∧∃ (X O' W':List Y) (D':List Dg) (vo' vl':Value) (b' cap':Nat),X=sealL enc mac (nonceF (BitVec.ofInt 64 (part:Int))) ad xs∧O'=O++X∧D'=D++[leafD X]∧W'=rowL X∧ν=[.blk bw (cl (wrC enc mac (ha.val ad.length) vo' vl') 73),rB vo' 5 O',rS 32 (ba 32) vl' 23 D',rB (.slice (some ⟨b',0,none⟩) W'.length cap') 5 W']∧u=.slice (some ⟨b',0,none⟩) W'.length cap') :=
 Ct.lendB (fun hx G2 hle hv hs=>by subst hv; exact tPut_ok enc mac ad ha O D vo vl bw part xs hx G2 (hsa.mono hle) hs (hK.mono hle) hla hlx hlO hlD hp)
end Go.Proofs.YtbdnclpopappeaaDoor
