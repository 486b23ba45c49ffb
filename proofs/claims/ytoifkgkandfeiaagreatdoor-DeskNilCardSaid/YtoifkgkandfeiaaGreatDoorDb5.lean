/- Lemmas and contracts of functions, joined. -/
import Derived.Test.YtoifkgkandfeiaaGreatDoorDb4
import Derived.Shelf.Strings.OnBuilder
import Derived.Shelf.Strconv.Itoa2
import Derived.Shelf.Strconv.Itoa1
set_option linter.unusedSimpArgs false
set_option linter.unusedVariables false
set_option linter.unusedSectionVars false
namespace Go.Proofs.YtoifkgkandfeiaaGreatDoor
open Go.Tan Go.RowKit Go.Maps Go.Sort Go.Shelf
namespace FxGrC
theorem zq179:zrL Tryz.prog 179=some (Ent.zero.cells):=by kernel_rfl
theorem zw179:(Tryz.prog.info? 179).bind (·.zero)=some (.agg (Ent.zero.cells).toArray):=by kernel_rfl
end FxGrC
namespace Fx
theorem fo71_1:fOff Tryz.prog 71 1=some 1:=by kernel_rfl
theorem fo71_0:fOff Tryz.prog 71 0=some 0:=by kernel_rfl
theorem fo71_2:fOff Tryz.prog 71 2=some 2:=by kernel_rfl
theorem bp179_0_1_2_3:bPl Tryz.prog 179 [0,1,2,3]=some (Ent.zero.cells,[(0,1),(1,1),(2,1),(3,1)]):=by kernel_rfl
theorem se22:slE Tryz.prog 22=some (71,3,40):=by kernel_rfl
theorem sn22:(slE Tryz.prog 22).isSome=true:=by kernel_rfl
theorem ag71:aggN Tryz.prog 71=some (some 3):=by kernel_rfl
theorem zr71:zrL Tryz.prog 71=some ([.int .u8 0,.string ByteArray.empty,.string ByteArray.empty]):=by kernel_rfl
theorem sz71:szT Tryz.prog 71=some 3:=by kernel_rfl
theorem go145:goFn Tryz.prog 145=true:=by kernel_rfl
theorem go93:goFn Tryz.prog 93=true:=by kernel_rfl
end Fx
theorem entry_ok (q:BitVec 64) (o:Opn) (G:PM):Ct Tryz.prog 145 ([uv .u64 q,o.val]:List Value).toArray G [] (fun _ μ' u=>μ'=[]∧u=(entE q o).val):=by
 refine Ct.of Tryz.func145 rfl Tryz.ntmps145 rfl fun w0 hs0=>?_
 refine .seq (rq2 rfl rfl ?_)
 refine bx rfl (.u rfl) rfl ?_; intro b3
 refine al rfl FxGrC.zq179 ?_; intro b4
 refine .nil (.code (.seq (rq9 rfl rfl (fz rfl .no Fx.fo71_1 (.u rfl) (ld rfl .no Fx.ag9 (.u rfl) (fun _=>Rd.own tk1 (by first|exact wap_f rfl|rfl)) ?_)))))
 refine mV rfl rfl (fz rfl .no Fx.fo71_0 (.u rfl) (ld rfl .no Fx.ag5 (.u rfl) (fun _=>Rd.own tk1 (by first|exact wap_f rfl|rfl)) ?_))
 refine fz rfl .no Fx.fo71_2 (.u rfl) (ld rfl .no Fx.ag9 (.u rfl) (fun _=>Rd.own tk1 (by first|exact wap_f rfl|rfl)) ?_)
 refine bCe ((entE q o).cells) rfl .no Fx.bp179_0_1_2_3 (.cons (.u rfl) rfl (.cons (.u rfl) rfl (.cons (.u rfl) rfl (.cons (.u rfl) rfl .nil)))) rfl (rfl) ?_
 refine sw rfl (.u rfl) (.u rfl) rfl Fx.sz179 .here rfl (Ent.one _) ?_
 refine .nil (.code (.ret (We.fin0 Tryz.results145 (.cell rfl (fun w hw=>run_loadVarN Fx.ag179 (RdN.own .here) (Ent.len _) hw) .nil) ?_)))
 exact ⟨rfl,rfl⟩
theorem bRight_ok (h:Sh) (l:List Opn) (G:PM) (hs:SlR G 3 Opn.cells h l) (hl:l.length=1∨l.length=2) (hok:∀ o∈l,o.ok):Ct Tryz.prog 93 ([uv .u64 1#64,h.val l.length]:List Value).toArray G [] (fun _ μ' u=>μ'=[]∧u=.bool true):=by
 refine Ct.of Tryz.func93 rfl Tryz.ntmps93 rfl fun w0 hs0=>?_
 refine .seq (rq1 rfl rfl (aS rfl rfl (.nil (.code (.seq (rq4 rfl rfl (mV rfl rfl (ln rfl .no Fx.sn22 (.u rfl) (ci rfl .no rfl Fx.cv3_23 (.u rfl) ?_)))))))))
 refine aS rfl rfl (.nil (.code (.seq (.seq (Wk.rg [0,1,2,3,4,5,6,7,8,9,10,11,12,13,14,15,16] rfl rfl (mV rfl rfl (cp rfl .no (.u rfl) (.u rfl) rfl (mV rfl rfl (mv rfl (.f rfl rfl) (.u rfl) (cp rfl (.f rfl rfl) (.s rfl) (.u rfl) rfl (pkO rfl .no (.u rfl) (.s rfl) (mV rfl rfl (mv rfl (.f rfl rfl) (.u rfl) (cp rfl (.f rfl rfl) (.s rfl) (.u rfl) rfl (pkO rfl .no (.u rfl) (.s rfl) (mV rfl rfl (mv rfl (.f rfl rfl) (.u rfl) (mv rfl (.f rfl rfl) (.u rfl) (bw (k:=.u64) (a:=72057594037927935#64) rfl (.f rfl rfl) rfl (.u rfl) (.s rfl) rfl (bw (k:=.u64) (b:=1#64) rfl (.f rfl rfl) rfl (.s rfl) (.u rfl) rfl (cp rfl (.f rfl rfl) (.s rfl) (.s rfl) rfl (pkO rfl .no (.u rfl) (.s rfl) (.nil (.code (.cond rfl (fun c1=>?_) (fun c1=>?_))))))))))))))))))))))))))
 ·have c1k:=c1
  rcases hl with e | e<;>rw [e] at c1<;>exact absurd c1 (by decide)
 have c1k:=c1
 try simp only [qcA,qcC,qcB] at c1
 refine .skip (.code (.seq (.seq (rq3 rfl rfl (mV rfl rfl (ln rfl .no Fx.sn22 (.u rfl) (mV rfl rfl (.nil (.code (.block ?_))))))))))
 refine Wk.lop (α:=Nat) (fun k=>[(30,true,.int .i64 (k:Int))]) (fun _=>[])
  (fun k Gl=>(k≤l.length)) (fun k=>l.length-k) 0 [(0,true,_),(28,true,_),(29,true,_)] []
  (esC rfl (by first|rfl|exact evi (by omega)) (esD rfl (esD rfl (esD rfl eZ))))
  mN ?_ ?_
 ·(try dsimp only)<;>(first|omega|rfl|assumption|(simp; done))
 intro k N0 Gl0 hN0 hGl0 hF0
 try dsimp only at hF0 hN0 ⊢
 have hk:=hF0
 have hs:=hs.mono hGl0
 refine .seq (rq1 rfl rfl (cp rfl .no (.u rfl) (.u rfl) rfl (.nil (.code (.seq (.cond rfl (fun c2=>?_) (fun c2=>?_)))))))
 ·have c2k:=c2
  try simp only [qcA,qcC,qcB] at c2
  refine .skip (.code (.seq (.block (.seq (rq4 rfl rfl (ih rfl .no Fx.se22 (.u rfl) (.u rfl) (fun _=>by omega) (fun _=>by omega) (fun _=>hs.nn (k:=k) (by first|omega|(simp only [Bool.and_eq_true,decide_eq_true_eq] at hc; omega)|(simp only [List.length_cons,List.length_nil]; omega))) ?_))))))
  obtain ⟨o,eo⟩:=getx (k:=k) (xs:=l) (by omega)
  have ho:=hok o (List.mem_of_getElem? eo)
  refine lA rfl .no Fx.ag71 (.u rfl) (fun _=>(hs.at (by omega) eo).rd) (fun _=>Opn.len _) ?_
  refine al rfl Fx.zr71 ?_; intro b7
  refine sw rfl (.u rfl) (.u rfl) rfl Fx.sz71 .here rfl (Opn.one _) ?_
  refine .nil (.code (.seq (rq5 rfl rfl (mV rfl rfl (lA rfl .no Fx.ag71 (.u rfl) (fun _=>RdN.own .here) (fun _=>(by first|exact Opn.len _|exact Ent.len _|rfl)) ?_)))))
  refine kv rfl .no Fx.go145 (Evc rfl (Evc rfl Evn)) (fun _=>entry_ok 1#64 o _) ?_
  refine kv rfl .no Fx.go144 (Evc rfl Evn) (fun _=>eRight_ok (entE 1#64 o) _) ?_
  refine nt rfl .no (.u rfl) (.nil (.code (.cond rfl (fun c3=>?_) (fun c3=>?_))))
  ·have c3k:=c3
   rw [right_op ho (by decide)] at c3; cases c3
  have c3k:=c3
  try simp only [qcA,qcC,qcB] at c3
  refine .skip (.blk (.code (rq2 rfl rfl (arn (((k+1):Nat):Int) rfl .no (.u rfl) (.u rfl) rfl (fun _=>by omega) (fun _=>wrap_i64 (by omega) (by omega)) ?_))))
  refine mV rfl rfl (.nil (We.lpo (k+1) ?_ ?_ ?_ ?_ ?_))
  ·exact (esC rfl (by first|rfl|exact evi (by omega)) (esD rfl (esD rfl (esD rfl eZ))))
  ·exact mN
  ·first|omega|(dsimp only; omega)
  ·exact hGl0
  (try dsimp only)<;>(first|omega|rfl|assumption|(simp; done))
 have c2k:=c2
 try simp only [qcA,qcC,qcB] at c2
 refine .exit (.xcode (.xlp (.xblk (.code (.seq (rq1 rfl rfl (aS rfl rfl (.nil (.code (.ret (We.fin0 Tryz.results93 (.tmp rfl .nil) ?_)))))))))))
 exact ⟨rfl,rfl⟩
theorem bEnc_ok (h:Sh) (l:List Opn) (G:PM) (hs:SlR G 3 Opn.cells h l) (hl:l.length=1∨l.length=2) (hok:∀ o∈l,o.ok):Ct Tryz.prog 232 ([uv .u64 1#64,h.val l.length]:List Value).toArray G [] (fun G' μ' u=>∃ (s:Sh) (L:List Y),L.length≤20+60*l.length∧μ'=[]∧u=.tuple #[s.val L.length,.int .i64 0]∧SlR G' 1 encY s L):=by
 refine Ct.of Tryz.func232 rfl Tryz.ntmps232 rfl fun w0 hs0=>?_
 refine .seq (rq2 rfl rfl (aS rfl rfl (aS rfl rfl (.nil (.code (.seq (.seq (rq4 rfl rfl (mV rfl rfl (mV rfl rfl (kv rfl .no Fx.go93 (Evc rfl (Evc rfl Evn)) (fun _=>bRight_ok h l _ hs hl hok) ?_)))))))))))
 refine nt rfl .no (.u rfl) (.nil (.code (.cond rfl (fun c1=>?_) (fun c1=>?_))))
 ·have c1k:=c1
  cases c1
 have c1k:=c1
 try simp only [qcA,qcC,qcB] at c1
 refine .skip (.code (.seq (rq7 rfl rfl (mV rfl rfl (kc rfl Fx.go207 (Evc rfl (Evc rfl (Evc rfl Evn))) (Ct.frzB (Fix_ok [] ⟨none,0⟩ 1#64 8 _ SlR.nul (by simp) (by decide))) ?_)))))
 rintro _ G15 μ15 hG15 ⟨h15,L15,eL15,rfl,rfl,hs15⟩
 have hs:=hs.mono hG15
 refine mV rfl rfl (ln rfl .no Fx.sn22 (.u rfl) (ci rfl .no rfl Fx.cv3_23 (.u rfl) ?_))
 refine kc rfl Fx.go277 (Evc rfl (Evc rfl Evn)) (Ct.rowc (Num_ok L15 h15 _ hs15 _ (by rw [eL15,List.nil_append,fix_len]; decide))) ?_
 rintro v19 G19 μ19 hG19 ⟨L19,ov19,eL19,rfl⟩
 have hs:=hs.mono hG19
 refine aS rfl rfl (.nil (.code (.seq (.seq (rq3 rfl rfl (mV rfl rfl (ln rfl .no Fx.sn22 (.u rfl) (mV rfl rfl (.nil (.code (.block ?_)))))))))))
 refine Wk.lop (α:=Nat×Value×List Y) (fun gh=>[(6,true,gh.2.1),(22,true,.int .i64 (gh.1:Int))]) (fun gh=>[rB gh.2.1 5 gh.2.2])
  (fun gh Gl=>(gh.1≤l.length)∧(gh.2.2.length≤20+60*gh.1)) (fun gh=>l.length-gh.1) (0,v19,L19) [(20,true,_),(21,true,_)] []
  (esD rfl (esC rfl (by first|rfl|exact evi (by omega)) (esD rfl (esD rfl eZ))))
  (mS .here rfl mN) ?_ ?_
 ·refine ⟨?_,?_⟩
  ·(try dsimp only)<;>(first|omega|rfl|assumption|(simp; done))
  (try dsimp only)<;>(rw [eL19,eL15,List.nil_append,List.length_append,fix_len]; exact Nat.le_trans (Nat.add_le_add_left (num_len10 (BitVec.isLt _)) 8) (by omega))
 intro gh N0 Gl0 hN0 hGl0 hF0
 obtain ⟨k,v,L⟩:=gh; dsimp only at hF0 hN0 ⊢
 obtain ⟨hk,hL⟩:=hF0
 have hs:=hs.mono hGl0
 refine .seq (rq1 rfl rfl (cp rfl .no (.u rfl) (.u rfl) rfl (.nil (.code (.seq (.cond rfl (fun c2=>?_) (fun c2=>?_)))))))
 ·have c2k:=c2
  try simp only [qcA,qcC,qcB] at c2
  refine .skip (.code (.seq (.block (.seq (rq4 rfl rfl (ih rfl .no Fx.se22 (.u rfl) (.u rfl) (fun _=>by omega) (fun _=>by omega) (fun _=>hs.nn (k:=k) (by first|omega|(simp only [Bool.and_eq_true,decide_eq_true_eq] at hc; omega)|(simp only [List.length_cons,List.length_nil]; omega))) ?_))))))
  obtain ⟨o,eo⟩:=getx (k:=k) (xs:=l) (by omega)
  have ho:=hok o (List.mem_of_getElem? eo)
  refine lA rfl .no Fx.ag71 (.u rfl) (fun _=>(hs.at (by omega) eo).rd) (fun _=>Opn.len _) ?_
  refine al rfl Fx.zr71 ?_; intro b8
  refine sw rfl (.u rfl) (.u rfl) rfl Fx.sz71 .here rfl (Opn.one _) ?_
  refine .nil (.code (.seq (rq7 rfl rfl (fz rfl .no Fx.fo71_0 (.u rfl) (ld rfl .no Fx.ag5 (.u rfl) (fun _=>Rd.own .here (by first|exact wap_f rfl|rfl)) ?_)))))
  refine Go.Tan.b1 rfl Fx.se25 Fx.zv5 (.u rfl) rfl rfl (by decide) ?_; intro b28
  refine fz rfl .no Fx.fo71_1 (.u rfl) (ld rfl .no Fx.ag9 (.u rfl) (fun _=>Rd.own tk1 (by first|exact wap_f rfl|rfl)) ?_)
  refine ka rfl (.inr rfl) Fx.go273 (Evc rfl (Evc rfl Evn)) (mtk1 .here) (Ct.give fun hle=>Ct.frzB (Str_ok [o.kind] ⟨some ⟨b28,0,none⟩,1⟩ _ (SlR.ofBlk (xs:=[o.kind]) (PM.add_same _ _ _) (fun _ _=>rfl) (Nat.le_refl 1)) o.user (by have:=ho.user; show 1+_≤_; omega))) ?_
  rintro _ G31 μ31 hG31 ⟨h31,L31,eL31,rfl,rfl,hs31⟩
  have lL31:L31.length≤21:=by have:=strl_len o.user (by have:=ho.user; omega); have:=ho.user; rw [eL31,List.length_append]; show 1+_≤_; omega
  refine aS rfl rfl (.nil (.code (.seq (.seq (rq3 rfl rfl (fz rfl .no Fx.fo71_0 (.u rfl) (ld rfl .no Fx.ag5 (.u rfl) (fun _=>Rd.own .here (by first|exact wap_f rfl|rfl)) ?_)))))))
  refine cp rfl .no (.u rfl) (.u rfl) rfl (.nil (.code (.cond rfl (fun c3=>?_) (fun c3=>?_))))
  ·have c3k:=c3
   try simp only [qcA,qcC,qcB] at c3
   refine rq5 rfl rfl (mV rfl rfl (fz rfl .no Fx.fo71_2 (.u rfl) (ld rfl .no Fx.ag9 (.u rfl) (fun _=>Rd.own .here (by first|exact wap_f rfl|rfl)) ?_)))
   refine kc rfl Fx.go273 (Evc rfl (Evc rfl Evn)) (Ct.frzB (Str_ok L31 h31 _ hs31 o.value (by have:=ho.value; omega))) ?_
   rintro _ G38 μ38 hG38 ⟨h38,L38,eL38,rfl,rfl,hs38⟩
   have lL38:L38.length≤41:=by have:=strl_len o.value (by have:=ho.value; omega); have:=ho.value; rw [eL38,List.length_append]; omega
   have hs31:=hs31.mono hG38
   refine aS rfl rfl (.nil (.code (rq4 rfl rfl (mV rfl rfl (mV rfl rfl (apY rfl Fx.se25 Fx.zv5 (.u rfl) (.u rfl) tk1 hs38.sc (by (try simp only [qlA,yl_len]); omega) ?_))))))
   intro v41 L41 ov41 eL41
   have lL41:L41.length=L.length+L38.length:=by rw [eL41,List.length_append]
   refine aS rfl rfl (.nil (.blk (.code (rq2 rfl rfl (arn (((k+1):Nat):Int) rfl .no (.u rfl) (.u rfl) rfl (fun _=>by omega) (fun _=>wrap_i64 (by omega) (by omega)) ?_)))))
   refine mV rfl rfl (.nil (We.lpo (k+1,v41,L41) ?_ ?_ ?_ ?_ ?_))
   ·exact (esD rfl (esC rfl (by first|rfl|exact evi (by omega)) (esD rfl (esD rfl eZ))))
   ·exact (mS .here rfl mN)
   ·first|omega|(dsimp only; omega)
   ·exact ((hGl0).trans hG31).trans hG38
   refine ⟨?_,?_⟩
   ·(try dsimp only)<;>(first|omega|rfl|assumption|(simp; done))
   (try dsimp only)<;>(rw [lL41]; omega)
  have c3k:=c3
  try simp only [qcA,qcC,qcB] at c3
  refine .skip (.code (rq4 rfl rfl (mV rfl rfl (mV rfl rfl (apY rfl Fx.se25 Fx.zv5 (.u rfl) (.u rfl) tk1 hs31.sc (by (try simp only [qlA,yl_len]); omega) ?_)))))
  intro v41 L41 ov41 eL41
  have lL41:L41.length=L.length+L31.length:=by rw [eL41,List.length_append]
  refine aS rfl rfl (.nil (.blk (.code (rq2 rfl rfl (arn (((k+1):Nat):Int) rfl .no (.u rfl) (.u rfl) rfl (fun _=>by omega) (fun _=>wrap_i64 (by omega) (by omega)) ?_)))))
  refine mV rfl rfl (.nil (We.lpo (k+1,v41,L41) ?_ ?_ ?_ ?_ ?_))
  ·exact (esD rfl (esC rfl (by first|rfl|exact evi (by omega)) (esD rfl (esD rfl eZ))))
  ·exact (mS .here rfl mN)
  ·first|omega|(dsimp only; omega)
  ·exact (hGl0).trans hG31
  refine ⟨?_,?_⟩
  ·(try dsimp only)<;>(first|omega|rfl|assumption|(simp; done))
  (try dsimp only)<;>(rw [lL41]; omega)
 have c2k:=c2
 try simp only [qcA,qcC,qcB] at c2
 refine .exit (.xcode (.xlp (.xblk (.code (.seq (rq3 rfl rfl (mV rfl rfl (aS rfl rfl (aS rfl rfl (.nil (.code (.ret ?_))))))))))))
 refine we_fb .here (by first|(intro b hb; cases hb; done) | simp [keys,Res.keys]) ?_; intro GfR19 hR19 hleR19 evR19 hsR19; subst evR19
 refine We.fin0 Tryz.results232 (.tmp rfl (.tmp rfl .nil)) ?_
 obtain rfl:k=l.length:=by omega
 exact ⟨hR19,L,hL,rfl,rfl,hsR19⟩
theorem bEnts_ok (h:Sh) (l:List Opn) (G:PM) (hs:SlR G 3 Opn.cells h l) (hl:l.length=1∨l.length=2) (hok:∀ o∈l,o.ok):Ct Tryz.prog 234 ([uv .u64 1#64,h.val l.length]:List Value).toArray G [] (fun G' μ' u=>∃ (s:Sh),μ'=[]∧u=s.val (entsF 0 l).length∧SlR G' 4 Ent.cells s (entsF 0 l)):=by
 refine Ct.of Tryz.func234 rfl Tryz.ntmps234 rfl fun w0 hs0=>?_
 refine .seq (rq1 rfl rfl (aS rfl rfl (.nil (.code (.seq (rq1 rfl rfl (aS rfl rfl (.nil (.code (.seq (.seq (wk_nilS 4 Ent.cells 179 (rq3 rfl rfl (mV rfl rfl (ln rfl .no Fx.sn22 (.u rfl) (mV rfl rfl (.nil (.code (.block ?_)))))))))))))))))))
 refine Wk.lop (α:=Nat×Value) (fun gh=>[(0,true,uv .u64 (BitVec.ofNat 64 (gh.1+1))),(5,true,gh.2),(10,true,.int .i64 (gh.1:Int))]) (fun gh=>[rS 4 Ent.cells gh.2 179 (entsF 0 (l.take gh.1))])
  (fun gh Gl=>(gh.1≤l.length)) (fun gh=>l.length-gh.1) (0,.slice none 0 0) [(8,true,_),(9,true,_)] []
  (esD rfl (esD rfl (esC rfl (by first|rfl|exact evi (by omega)) (esD rfl (esD rfl eZ)))))
  (mS .here rfl mN) ?_ ?_
 ·(try dsimp only)<;>(first|omega|rfl|assumption|(simp; done))
 intro gh N0 Gl0 hN0 hGl0 hF0
 obtain ⟨k,v⟩:=gh; dsimp only at hF0 hN0 ⊢
 have hk:=hF0
 have hs:=hs.mono hGl0
 refine .seq (rq1 rfl rfl (cp rfl .no (.u rfl) (.u rfl) rfl (.nil (.code (.seq (.cond rfl (fun c1=>?_) (fun c1=>?_)))))))
 ·have c1k:=c1
  try simp only [qcA,qcC,qcB] at c1
  refine .skip (.code (.seq (.block (.seq (rq4 rfl rfl (ih rfl .no Fx.se22 (.u rfl) (.u rfl) (fun _=>by omega) (fun _=>by omega) (fun _=>hs.nn (k:=k) (by first|omega|(simp only [Bool.and_eq_true,decide_eq_true_eq] at hc; omega)|(simp only [List.length_cons,List.length_nil]; omega))) ?_))))))
  obtain ⟨o,eo⟩:=getx (k:=k) (xs:=l) (by omega)
  have ho:=hok o (List.mem_of_getElem? eo)
  refine lA rfl .no Fx.ag71 (.u rfl) (fun _=>(hs.at (by omega) eo).rd) (fun _=>Opn.len _) ?_
  refine al rfl Fx.zr71 ?_; intro b7
  refine sw rfl (.u rfl) (.u rfl) rfl Fx.sz71 .here rfl (Opn.one _) ?_
  refine .nil (.code (.seq (rq7 rfl rfl (mV rfl rfl (mV rfl rfl (lA rfl .no Fx.ag71 (.u rfl) (fun _=>RdN.own .here) (fun _=>(by first|exact Opn.len _|exact Ent.len _|rfl)) ?_))))))
  refine kv rfl .no Fx.go145 (Evc rfl (Evc rfl Evn)) (fun _=>entry_ok (BitVec.ofNat 64 (k+1)) o _) ?_
  refine Go.Tan.b1 rfl Fx.se189 FxGrC.zw179 (.u rfl) rfl rfl (by decide) ?_; intro b18
  refine apS (xs:=(entsF 0 (l.take k))) ((entE (BitVec.ofNat 64 (k+1)) o)) rfl Fx.se189 FxGrC.zw179 rfl (.u rfl) (.u rfl) tk2 .here (Ent.len _) (Ent.one _) (by rw [entsF_len,List.length_take]; omega) (by rw [entsF_len,List.length_take]; unfold maxLen; omega) ?_; intro v19 ov19
  refine aS rfl rfl (.nil (.code (rq3 rfl rfl (mV rfl rfl (bw (k:=.u64) (b:=1#64) rfl .no rfl (.u rfl) (.u rfl) rfl (aS rfl rfl (.nil (.blk (.code (rq2 rfl rfl (arn (((k+1):Nat):Int) rfl .no (.u rfl) (.u rfl) rfl (fun _=>by omega) (fun _=>wrap_i64 (by omega) (by omega)) ?_)))))))))))
  refine mV rfl rfl (.nil (We.lpo (k+1,v19) ?_ ?_ ?_ ?_ ?_))
  ·exact (esC rfl (congrArg (uv .u64) bv_succ) (esD rfl (esC rfl (by first|rfl|exact evi (by omega)) (esD rfl (esD rfl eZ)))))
  ·exact (mS .here (by rw [← entsF_snoc eo,Nat.zero_add]) mN)
  ·first|omega|(dsimp only; omega)
  ·exact hGl0
  (try dsimp only)<;>(first|omega|rfl|assumption|(simp; done))
 have c1k:=c1
 try simp only [qcA,qcC,qcB] at c1
 refine .exit (.xcode (.xlp (.xblk (.code (.seq (rq2 rfl rfl (mV rfl rfl (aS rfl rfl (.nil (.code (.ret ?_)))))))))))
 refine we_fs .here (fun _ _=>rfl) (by intro b hb; cases hb) ?_; intro GfRE hRE hleRE evRE hsRE; subst evRE
 refine We.fin0 Tryz.results234 (.tmp rfl .nil) ?_
 obtain rfl:k=l.length:=by omega
 rw [List.take_length] at hsRE ⊢
 exact ⟨hRE,rfl,rfl,hsRE⟩
theorem height_ok (k:Nat) (G:PM) (hk:k<2):Ct Tryz.prog 236 ([uv .u64 (BitVec.ofNat 64 (k+1))]:List Value).toArray G [] (fun _ μ' u=>μ'=[]∧u=.int .i64 ((k+1:Nat):Int)):=by
 refine Ct.of Tryz.func236 rfl Tryz.ntmps236 rfl fun w0 hs0=>?_
 refine .seq (rq1 rfl rfl (aS rfl rfl (.nil (.code (.seq (rq1 rfl rfl (aS rfl rfl (.nil (.code (.seq (.block ?_)))))))))))
 refine Wk.lop (α:=Nat) (fun j=>[(0,true,uv .u64 (BitVec.ofNat 64 (k+1) >>> j)),(3,true,.int .i64 ((j+1:Nat):Int))]) (fun _=>[])
  (fun j Gl=>(j≤k)) (fun j=>k-j) 0 [] []
  (esD rfl (esC rfl (by first|rfl|exact evi (by omega)) eZ))
  mN ?_ ?_
 ·(try dsimp only)<;>(first|omega|rfl|assumption|(simp; done))
 intro j N0 Gl0 hN0 hGl0 hF0
 try dsimp only at hF0 hN0 ⊢
 have hj:=hF0
 refine .seq (.seq (rq7 rfl rfl (mV rfl rfl (cp rfl .no (.u rfl) (.u rfl) rfl (mV rfl rfl (mv rfl (.t rfl rfl) (.u rfl) (bw (k:=.u64) (b:=1#64) rfl (.t rfl rfl) rfl (.s rfl) (.u rfl) rfl (cp rfl (.t rfl rfl) (.s rfl) (.u rfl) rfl (pkA rfl .no (.u rfl) (.s rfl) (.nil (.code (.cond rfl (fun c1=>?_) (fun c1=>?_)))))))))))))
 ·have c1k:=c1
  skip
  refine .skip (.code (.seq (.block (rq3 rfl rfl (mV rfl rfl (arn ((((j+1)+1):Nat):Int) rfl .no (.u rfl) (.u rfl) rfl (fun _=>by omega) (fun _=>wrap_i64 (by omega) (by omega)) ?_))))))
  refine aS rfl rfl (.nil (.blk (.code (rq3 rfl rfl (mV rfl rfl (rw' (k:=.u64) rfl .no (.u rfl) (.u rfl) (fun _=>by decide) ?_))))))
  refine aS rfl rfl (.nil (We.lpo (j+1) ?_ ?_ ?_ ?_ ?_))
  ·exact (esC rfl (congrArg (uv .u64) (BitVec.shiftRight_add _ j 1).symm) (esC rfl (by first|rfl|exact evi (by omega)) eZ))
  ·exact mN
  ·have hjk:j<k:=hgt_t hk hj c1k; omega
  ·exact hGl0
  (try dsimp only)<;>(exact hgt_t hk hj c1k)
 have c1k:=c1
 skip
 refine .exit (.xcode (.xlp (.xblk (.code (.seq (rq2 rfl rfl (mV rfl rfl (aS rfl rfl (.nil (.code (.ret (We.fin0 Tryz.results236 (.tmp rfl .nil) ?_))))))))))))
 obtain rfl:j=k:=hgt_f hk hj c1k
 exact ⟨rfl,rfl⟩
end Go.Proofs.YtoifkgkandfeiaaGreatDoor
namespace Go.Proofs.YtoifkgkandfeiaaGreatDoor
open Go.Tan Go.RowKit Go.Maps Go.Sort Go.Shelf
namespace Fx
theorem fo165_13:fOff Tryz.prog 165 13=some 81:=by kernel_rfl
theorem fo165_3:fOff Tryz.prog 165 3=some 34:=by kernel_rfl
theorem go317:goFn Tryz.prog 317=true:=by kernel_rfl
theorem go96:goFn Tryz.prog 96=true:=by kernel_rfl
theorem go232:goFn Tryz.prog 232=true:=by kernel_rfl
theorem go233:goFn Tryz.prog 233=true:=by kernel_rfl
theorem fo163_2:fOff Tryz.prog 163 2=some 6:=by kernel_rfl
theorem go234:goFn Tryz.prog 234=true:=by kernel_rfl
theorem go236:goFn Tryz.prog 236=true:=by kernel_rfl
theorem go235:goFn Tryz.prog 235=true:=by kernel_rfl
end Fx
theorem turn0_ok (bx:Nat) (d:Db) (v:Value) (sz:Nat) (G:PM) (hbx:PB G bx (cl d.cells 165)) (hbn:PB G d.now (cl [v,.int .i64 ((sz:Nat):Int)] 225)) (hm:(sz:Int)<d.o.mem):Ct Tryz.prog 233 ([pt bx]:List Value).toArray G [] (fun _ μ' u=>μ'=[]∧u=.tuple #[]):=by
 refine Ct.of Tryz.func233 rfl Tryz.ntmps233 rfl fun w0 hs0=>?_
 refine .seq (.seq (Wk.draw (mc:=⟨false,false⟩) [0,1,2,3,5,6,7,8,9,4,10] Fx.mix (by kernel_rfl) ?_))
 refine mV rfl rfl (nc rfl .no (.u rfl) (fa rfl .no Fx.fo165_13 (.u rfl) (ld rfl .no Fx.ag153 (.u rfl) (fun _=>(hbx.rd (rfl)).rd) ?_)))
 refine mV rfl rfl (nc rfl .no (.u rfl) (fa rfl .no Fx.fo165_3 (.u rfl) (fa rfl .no Fx.fo38_0 (.u rfl) (ld rfl .no Fx.ag3 (.u rfl) (fun _=>(hbx.rd (rfl)).rd) ?_))))
 refine kv rfl .no Fx.go317 (Evc rfl Evn) (fun _=>lSize_ok d.now v sz _ hbn) ?_
 refine cp rfl .no (.u rfl) (.u rfl) rfl (.nil (.code (.cond rfl (fun c1=>?_) (fun c1=>?_))))
 ·have c1k:=c1
  try simp only [qcA,qcB] at c1
  refine .ret (We.fin0 Tryz.results233 .nil ?_)
  exact ⟨rfl,rfl⟩
 have c1k:=c1
 exact absurd hm (of_decide_eq_false c1)
end Go.Proofs.YtoifkgkandfeiaaGreatDoor
namespace Go.Proofs.YtoifkgkandfeiaaGreatDoor
open Go.Tan Go.RowKit Go.Maps Go.Sort Go.Shelf
namespace Fx
theorem go188:goFn Tryz.prog 188=true:=by kernel_rfl
theorem go178:goFn Tryz.prog 178=true:=by kernel_rfl
end Fx
theorem idx1_ok (l:List UInt8) (c:UInt8) (G:PM):Ct Tryz.prog 188 ([.string (txt l),.string (txt [c])]:List Value).toArray G [] (fun _ μ' u=>μ'=[]∧u=.int .i64 (Lib.indexByte l c)):=ct_same fun w=>Tryz.stringslite_Index_one (txt l) c w
theorem cpre_ok (l p:List UInt8) (G:PM):Ct Tryz.prog 115 ([.string (txt l),.string (txt p)]:List Value).toArray G [] (fun _ μ' u=>μ'=[]∧u=.tuple #[.string (txt (Lib.trimPrefix l p)),.bool (Lib.hasPrefix l p)]):=ct_same fun w=>Tryz.strings_CutPrefix (txt l) (txt p) w
theorem hpre_ok (l p:List UInt8) (G:PM):Ct Tryz.prog 116 ([.string (txt l),.string (txt p)]:List Value).toArray G [] (fun _ μ' u=>μ'=[]∧u=.bool (Lib.hasPrefix l p)):=ct_same fun w=>Tryz.strings_HasPrefix (txt l) (txt p) w
theorem slCut_ok (l:List UInt8) (c:UInt8) (G:PM) (hl:l.length≤1000000000):Ct Tryz.prog 178 ([.string (txt l),.string (txt [c])]:List Value).toArray G [] (fun _ μ' u=>μ'=[]∧u=.tuple #[.string (txt (cutW c l).1),.string (txt (cutW c l).2.1),.bool (cutW c l).2.2]):=by
 refine Ct.of Tryz.func178 rfl Tryz.ntmps178 rfl fun w0 hs0=>?_
 have h1c:(txt [c]).size=1:=rfl
 have hix:=ix_lt c l
 refine .seq (rq3 rfl rfl (aS rfl rfl (aS rfl rfl (aS rfl rfl (.nil (.code (.seq (.seq (rq4 rfl rfl (mV rfl rfl (mV rfl rfl (kv rfl .no Fx.go188 (Evc rfl (Evc rfl Evn)) (fun _=>idx1_ok l c _) ?_))))))))))))
 refine aS rfl rfl (.nil (.code (.seq (rq2 rfl rfl (mV rfl rfl (cp rfl .no (.u rfl) (.u rfl) rfl (.nil (.code (.cond rfl (fun c1=>?_) (fun c1=>?_))))))))))
 ·have c1k:=c1
  try simp only [qcA,qcB] at c1
  refine .seq (Wk.draw (mc:=⟨false,false⟩) [0,1,2,3,4,5,6,7,8,9,10,11] Fx.mix (by kernel_rfl) ?_)
  refine mV rfl rfl (mV rfl rfl (sE ((Lib.indexByte l c).toNat) rfl .no Fx.st9 (.u rfl) (.u rfl) (fun _=>by omega) (fun _=>by have:=ix_lt c l; rw [txt_size]; omega) ?_))
  refine mV rfl rfl (mV rfl rfl (mV rfl rfl (ls rfl .no Fx.st9 (.u rfl) (ar rfl .no (.u rfl) (.u rfl) rfl (fun _=>wrap_i64 (by omega) (by omega)) ?_))))
  refine sD (((Lib.indexByte l c).toNat+1)) rfl .no Fx.st9 (.u rfl) (.u rfl) (fun _=>by omega) (fun _=>by have:=ix_lt c l; rw [txt_size]; omega) ?_
  refine aS rfl rfl (aS rfl rfl (aS rfl rfl (.nil (.code (.ret (We.fin0 Tryz.results178 (.tmp rfl (.tmp rfl (.tmp rfl .nil))) ?_))))))
  refine ⟨rfl,?_⟩; rw [txt_take,txt_drop,cutW_ix,if_pos (by omega)]; rfl
 have c1k:=c1
 try simp only [qcA,qcB] at c1
 refine .skip (.code (.seq (rq4 rfl rfl (mV rfl rfl (aS rfl rfl (aS rfl rfl (aS rfl rfl (.nil (.code (.ret (We.fin0 Tryz.results178 (.tmp rfl (.tmp rfl (.tmp rfl .nil))) ?_)))))))))))
 refine ⟨rfl,?_⟩; rw [cutW_ix,if_neg (by omega)]; rfl
theorem sCut_ok (l:List UInt8) (c:UInt8) (G:PM) (hl:l.length≤1000000000):Ct Tryz.prog 113 ([.string (txt l),.string (txt [c])]:List Value).toArray G [] (fun _ μ' u=>μ'=[]∧u=.tuple #[.string (txt (cutW c l).1),.string (txt (cutW c l).2.1),.bool (cutW c l).2.2]):=by
 refine Ct.of Tryz.func113 rfl Tryz.ntmps113 rfl fun w0 hs0=>?_
 refine .seq (rq3 rfl rfl (aS rfl rfl (aS rfl rfl (aS rfl rfl (.nil (.code (.seq (rq9 rfl rfl (mV rfl rfl (mV rfl rfl (kv rfl .no Fx.go178 (Evc rfl (Evc rfl Evn)) (fun _=>slCut_ok l c _ hl) ?_)))))))))))
 refine ex rfl .no (.u rfl) rfl (ex rfl .no (.u rfl) rfl (ex rfl .no (.u rfl) rfl (aS rfl rfl (aS rfl rfl (aS rfl rfl (.nil (.code (.ret (We.fin0 Tryz.results113 (.tmp rfl (.tmp rfl (.tmp rfl .nil))) ?_)))))))))
 exact ⟨rfl,rfl⟩
end Go.Proofs.YtoifkgkandfeiaaGreatDoor
namespace Go.Proofs.YtoifkgkandfeiaaGreatDoor
open Go.Tan Go.RowKit Go.Maps Go.Sort Go.Shelf
namespace Fx
theorem fo94_3:fOff Tryz.prog 94 3=some 3:=by kernel_rfl
theorem bp91_0:bPl Tryz.prog 91 [0]=some ([.int .i64 0],[(0,1)]):=by kernel_rfl
theorem sr91:srT Tryz.prog 91=true:=by kernel_rfl
end Fx
theorem lneed_p (bl:Nat) (l:Ln) (b:Bool) (G:PM):Cp Tryz.prog 68 ([.pointer (some ⟨bl,0,none⟩),.bool b]:List Value).toArray G [.blk bl (cl (Ln.cells l) 94)] (fun _ μ' u=>b=true∧μ'=[.blk bl (cl (Ln.cells l) 94)]∧u=tup []) (fun ch=>∃ e,ch=[wrn 91 e]∧b=false∧e=l.last):=by
 refine Cp.of Tryz.func68 rfl Tryz.ntmps68 rfl fun w0 hs0=>?_
 refine .seq (rq2 rfl rfl (mV rfl rfl (nt rfl .no (.u rfl) (.nil (.code (.cond rfl (fun c1=>?_) (fun c1=>?_)))))))
 ·have c1k:=c1
  try simp only [qcA,qcB] at c1
  refine rq7 rfl rfl (mV rfl rfl (nc rfl .no (.u rfl) (fz rfl .no Fx.fo94_3 (.u rfl) (ld rfl .no Fx.ag3 (.u rfl) (fun _=>Rd.own .here (by first|exact wap_f rfl|rfl)) ?_))))
  refine bC rfl .no Fx.bp91_0 (.cons (.u rfl) rfl .nil) rfl ?_
  refine mkI rfl Fx.sr91 (.u rfl) ?_
  refine pnc rfl rfl (fun _ _ _ _=>⟨l.last,rfl,by simpa using c1,rfl⟩)
 have c1k:=c1
 try simp only [qcA,qcB] at c1
 refine .skip (.nil (We.fin Tryz.results68 .nil (mS .here rfl mN) ?_))
 exact ⟨by simpa using c1,rfl,rfl⟩
end Go.Proofs.YtoifkgkandfeiaaGreatDoor
namespace Go.Proofs.YtoifkgkandfeiaaGreatDoor
open Go.Tan Go.RowKit Go.Maps Go.Sort Go.Shelf
namespace Fx
theorem fo94_1:fOff Tryz.prog 94 1=some 1:=by kernel_rfl
theorem fo94_2:fOff Tryz.prog 94 2=some 2:=by kernel_rfl
theorem fo94_0:fOff Tryz.prog 94 0=some 0:=by kernel_rfl
theorem go113:goFn Tryz.prog 113=true:=by kernel_rfl
theorem go68:goFn Tryz.prog 68=true:=by kernel_rfl
end Fx
theorem lword_p (bl:Nat) (l:Ln) (G:PM) (hf:l.fits):Cp Tryz.prog 66 ([.pointer (some ⟨bl,0,none⟩)]:List Value).toArray G [.blk bl (cl (Ln.cells l) 94)] (fun _ μ' u=>∃ s l',wordD l=.ok (s,l')∧μ'=[.blk bl (cl (Ln.cells l') 94)]∧u=.string (txt s)) (fun ch=>∃ e,ch=[wrn 91 e]∧wordD l=.error e):=by
 refine Cp.of Tryz.func66 rfl Tryz.ntmps66 rfl fun w0 hs0=>?_
 have hf0:=hf
 unfold Ln.fits at hf0
 have hcl:=cutW_le 32 l.rest
 have hcs:(txt (cutW 32 l.rest).1).size=(cutW 32 l.rest).1.length:=rfl
 refine .seq (rq1 rfl rfl (aS rfl rfl (.nil (.code (.seq (rq8 rfl rfl (mV rfl rfl (mV rfl rfl (nc rfl .no (.u rfl) (fz rfl .no Fx.fo94_1 (.u rfl) (ld rfl .no Fx.ag3 (.u rfl) (fun _=>Rd.own .here (by first|exact wap_f rfl|rfl)) ?_)))))))))))
 refine nc rfl .no (.u rfl) (fz rfl .no Fx.fo94_3 (.u rfl) (s1 rfl (.u rfl) (.u rfl) rfl Fx.sz3 .here (by first|decide | (show _<4; decide)) (rfl) ?_))
 refine .nil (.code (.seq (.seq (rq5 rfl rfl (mV rfl rfl (nc rfl .no (.u rfl) (fz rfl .no Fx.fo94_2 (.u rfl) (ld rfl .no Fx.ag4 (.u rfl) (fun _=>Rd.own .here (by first|exact wap_f rfl|rfl)) ?_))))))))
 refine nt rfl .no (.u rfl) (.nil (.code (.cond rfl (fun c1=>?_) (fun c1=>?_))))
 ·have c1k:=c1
  try simp only [qcA,qcB] at c1
  refine rq7 rfl rfl (mV rfl rfl (nc rfl .no (.u rfl) (fz rfl .no Fx.fo94_1 (.u rfl) (ld rfl .no Fx.ag3 (.u rfl) (fun _=>Rd.own .here (by first|exact wap_f rfl|rfl)) ?_))))
  refine bC rfl .no Fx.bp91_0 (.cons (.u rfl) rfl .nil) rfl ?_
  refine mkI rfl Fx.sr91 (.u rfl) ?_
  refine pnc rfl rfl (fun _ _ _ _=>⟨l.pos,rfl,by unfold wordD; rw [if_neg (by simpa using c1)]⟩)
 have c1k:=c1
 try simp only [qcA,qcB] at c1
 refine .skip (.code (.seq (Wk.rg [0,1,2,3,4,5,6,7,8,9,10,11] rfl rfl (mV rfl rfl (nc rfl .no (.u rfl) (fz rfl .no Fx.fo94_0 (.u rfl) (ld rfl .no Fx.ag9 (.u rfl) (fun _=>Rd.own .here (by first|exact wap_f rfl|rfl)) ?_)))))))
 refine kv rfl .no Fx.go113 (Evc rfl (Evc rfl Evn)) (fun _=>sCut_ok l.rest 32 _ (by omega)) ?_
 refine mV rfl rfl (ex rfl .no (.u rfl) rfl (ex rfl .no (.u rfl) rfl (ex rfl .no (.u rfl) rfl (aS rfl rfl (aS rfl rfl (aS rfl rfl (.nil (.code (.seq (rq10 rfl rfl (mV rfl rfl (nc rfl .no (.u rfl) (fz rfl .no Fx.fo94_1 (.u rfl) (ld rfl .no Fx.ag3 (.u rfl) (fun _=>Rd.own .here (by first|exact wap_f rfl|rfl)) ?_))))))))))))))
 refine mV rfl rfl (ls rfl .no Fx.st9 (.u rfl) (arn (((l.pos+(txt (cutW 32 l.rest).1).size):Nat):Int) rfl .no (.u rfl) (.u rfl) rfl (fun _=>by omega) (fun _=>wrap_i64 (by omega) (by omega)) ?_))
 refine nc rfl .no (.u rfl) (fz rfl .no Fx.fo94_1 (.u rfl) (s1 rfl (.u rfl) (.u rfl) rfl Fx.sz3 .here (by first|decide | (show _<4; decide)) (rfl) ?_))
 refine .nil (.code (.seq (.seq (rq1 rfl rfl (mV rfl rfl (.nil (.code (.cond rfl (fun c2=>?_) (fun c2=>?_)))))))))
 ·have c2k:=c2
  try simp only [qcA,qcB] at c2
  refine rq8 rfl rfl (mV rfl rfl (nc rfl .no (.u rfl) (fz rfl .no Fx.fo94_1 (.u rfl) (ld rfl .no Fx.ag3 (.u rfl) (fun _=>Rd.own .here (by first|exact wap_f rfl|rfl)) ?_))))
  refine arn ((((l.pos+(txt (cutW 32 l.rest).1).size)+1):Nat):Int) rfl .no (.u rfl) (.u rfl) rfl (fun _=>by omega) (fun _=>wrap_i64 (by omega) (by omega)) ?_
  refine nc rfl .no (.u rfl) (fz rfl .no Fx.fo94_1 (.u rfl) (s1 rfl (.u rfl) (.u rfl) rfl Fx.sz3 .here (by first|decide | (show _<4; decide)) (rfl) ?_))
  refine .nil (.code (.seq (rq10 rfl rfl (mV rfl rfl (mV rfl rfl (mV rfl rfl (mV rfl rfl (nc rfl .no (.u rfl) (fz rfl .no Fx.fo94_0 (.u rfl) (s1 rfl (.u rfl) (.u rfl) rfl Fx.sz9 .here (by first|decide | (show _<4; decide)) (rfl) ?_))))))))))
  refine nc rfl .no (.u rfl) (fz rfl .no Fx.fo94_2 (.u rfl) (s1 rfl (.u rfl) (.u rfl) rfl Fx.sz4 .here (by first|decide | (show _<4; decide)) (rfl) ?_))
  refine .nil (.code (.seq (rq4 rfl rfl (mV rfl rfl (mV rfl rfl (cs rfl .no (.u rfl) (.u rfl) rfl (kpo rfl Fx.go68 (Evc rfl (Evc rfl Evn)) (mtk1 .here) (lneed_p bl ⟨(cutW 32 l.rest).2.1,_,(cutW 32 l.rest).2.2,l.pos⟩ _ _) (fun ch G9 ρ9 μ9 hle9 hd he hm=>(by obtain ⟨e,h1,h2,rfl⟩:=hd; exact ⟨_,h1,word_bad (by simpa using c1) h2⟩)) ?_)))))))
  rintro _ G61 μ61 hG61 ⟨hne,rfl,rfl⟩
  refine .nil (.code (.seq (rq2 rfl rfl (mV rfl rfl (aS rfl rfl (.nil (.code (.ret (We.fin Tryz.results66 (.tmp rfl .nil) (mS .here rfl mN) ?_)))))))))
  refine ⟨_,_,word_good (by simpa using c1) hne,?_,rfl⟩; first|rw [if_pos c2] | rw [if_neg (by simpa using c2)]
  rfl
 have c2k:=c2
 try simp only [qcA,qcB] at c2
 refine .skip (.code (.seq (rq10 rfl rfl (mV rfl rfl (mV rfl rfl (mV rfl rfl (mV rfl rfl (nc rfl .no (.u rfl) (fz rfl .no Fx.fo94_0 (.u rfl) (s1 rfl (.u rfl) (.u rfl) rfl Fx.sz9 .here (by first|decide | (show _<4; decide)) (rfl) ?_))))))))))
 refine nc rfl .no (.u rfl) (fz rfl .no Fx.fo94_2 (.u rfl) (s1 rfl (.u rfl) (.u rfl) rfl Fx.sz4 .here (by first|decide | (show _<4; decide)) (rfl) ?_))
 refine .nil (.code (.seq (rq4 rfl rfl (mV rfl rfl (mV rfl rfl (cs rfl .no (.u rfl) (.u rfl) rfl (kpo rfl Fx.go68 (Evc rfl (Evc rfl Evn)) (mtk1 .here) (lneed_p bl ⟨(cutW 32 l.rest).2.1,_,(cutW 32 l.rest).2.2,l.pos⟩ _ _) (fun ch G9 ρ9 μ9 hle9 hd he hm=>(by obtain ⟨e,h1,h2,rfl⟩:=hd; exact ⟨_,h1,word_bad (by simpa using c1) h2⟩)) ?_)))))))
 rintro _ G61 μ61 hG61 ⟨hne,rfl,rfl⟩
 refine .nil (.code (.seq (rq2 rfl rfl (mV rfl rfl (aS rfl rfl (.nil (.code (.ret (We.fin Tryz.results66 (.tmp rfl .nil) (mS .here rfl mN) ?_)))))))))
 refine ⟨_,_,word_good (by simpa using c1) hne,?_,rfl⟩; first|rw [if_pos c2] | rw [if_neg (by simpa using c2)]
 rfl
end Go.Proofs.YtoifkgkandfeiaaGreatDoor
namespace Go.Proofs.YtoifkgkandfeiaaGreatDoor
open Go.Tan Go.RowKit Go.Maps Go.Sort Go.Shelf
namespace Fx
theorem go115:goFn Tryz.prog 115=true:=by kernel_rfl
theorem cv21_3:cvK Tryz.prog 21 3=some .i64:=by kernel_rfl
end Fx
theorem cpm_ok (s:List UInt8) (G:PM):Ct Tryz.prog 115 ([.string (txt s),.string (txt [45])]:List Value).toArray G [] (fun _ μ' u=>μ'=[]∧u=.tuple #[.string (txt (absD s)),.bool (minY s)]):=by
 have h:=cpre_ok s [45] G
 rw [trimM,hasM] at h
 exact h
theorem lval_ok (s:List UInt8) (G:PM) (hz:s.length≤1000000):Ct Tryz.prog 114 ([.string (txt s)]:List Value).toArray G [] (fun _ μ' u=>μ'=[]∧u=.tuple #[.int .i64 (valP s).1,.bool (valP s).2]):=by
 refine Ct.of Tryz.func114 rfl Tryz.ntmps114 rfl fun w0 hs0=>?_
 have hza:(absD s).length≤s.length:=by unfold absD; split; (rw [List.length_tail]; omega); exact Nat.le_refl _
 have hts:(txt (absD s)).size=(absD s).length:=rfl
 refine .seq (rq2 rfl rfl (aS rfl rfl (aS rfl rfl (.nil (.code (.seq (rq7 rfl rfl (mV rfl rfl (kv rfl .no Fx.go115 (Evc rfl (Evc rfl Evn)) (fun _=>cpm_ok s _) ?_)))))))))
 refine mV rfl rfl (ex rfl .no (.u rfl) rfl (ex rfl .no (.u rfl) rfl (aS rfl rfl (aS rfl rfl (.nil (.code (.seq (rq1 rfl rfl (aS rfl rfl (.nil (.code (.seq (.seq (rq2 rfl rfl (mV rfl rfl ?_)))))))))))))))
 refine rgT rfl Fx.st9 (.u rfl) ?_; intro b15
 refine .nil (.code (.block ?_))
 refine Wk.lop (α:=Nat×Nat) (fun gh=>[(6,true,.int .i64 ((gh.2:Nat):Int))]) (fun gh=>[.blk b15 (.stringIter (txt (absD s)) gh.1)])
  (fun gh Gl=>(gh.1≤(absD s).length)∧(((absD s).take gh.1).all digY=true)∧(gh.2=modV ((absD s).take gh.1))∧(gh.2<10000000000)) (fun gh=>(absD s).length-gh.1) (0,0) [(0,true,_),(4,true,_),(5,true,_),(15,true,_)] []
  (esC rfl (by first|rfl|exact evi (by omega)) (esD rfl (esD rfl (esD rfl (esD rfl eZ)))))
  (mS .here rfl mN) ?_ ?_
 ·refine ⟨?_,?_,?_,?_⟩
  ·(try dsimp only)<;>(first|omega|rfl|assumption|(simp; done))
  ·(try dsimp only)<;>(rfl)
  ·(try dsimp only)<;>(rfl)
  (try dsimp only)<;>(first|omega|rfl|assumption|(simp; done))
 intro gh N0 Gl0 hN0 hGl0 hF0
 obtain ⟨k,n⟩:=gh; dsimp only at hF0 hN0 ⊢
 obtain ⟨hk,hall,hn,hn9⟩:=hF0
 refine .seq (rq2 rfl rfl (nxt_ rfl (.u rfl) .here ?_))
 refine ex (vs:=(itA (txt (absD s)) k).toList) rfl .no (.u rfl) (it_b _ _) (.nil (.code (.seq (.cond rfl (fun c1=>?_) (fun c1=>?_)))))
 ·have c1k:=c1
  try simp only [qcA,qcC,qcB] at c1
  refine .skip (.code (.block (.seq (rq2 rfl rfl ?_))))
  have hkl:k<(absD s).length:=by rw [← hts]; simpa using c1
  refine ex (vs:=(itA (txt (absD s)) k).toList) rfl .no (.u rfl) (it_r hkl) (aS rfl rfl (.nil (.code (.seq (.seq (rq6 rfl rfl (mV rfl rfl (cp rfl .no (.u rfl) (.u rfl) rfl (mV rfl rfl (mv rfl (.f rfl rfl) (.u rfl) (cp rfl (.f rfl rfl) (.s rfl) (.u rfl) rfl (pkO rfl .no (.u rfl) (.s rfl) (.nil (.code (.cond rfl (fun c2=>?_) (fun c2=>?_))))))))))))))))
  ·have c2k:=c2
   try simp only [qcA,qcC,qcB] at c2
   refine .seq (rq2 rfl rfl (aS rfl rfl (aS rfl rfl (.nil (.code (.ret (We.fin0 Tryz.results114 (.tmp rfl (.tmp rfl .nil)) ?_)))))))
   refine ⟨rfl,?_⟩; rw [val_no (okD_all (dig_bad hkl (by omega)))]; rfl
  have c2k:=c2
  try simp only [qcA,qcC,qcB] at c2
  refine .skip (.code (rq8 rfl rfl ?_))
  obtain ⟨c,ec,ecn,hcd,hit⟩:=dig_step (d:=absD s) (k:=k) hkl (by omega) (by omega)
  refine mV rfl rfl (arn (((n*10):Nat):Int) rfl .no (.u rfl) (.u rfl) rfl (fun _=>by omega) (fun _=>wrap_i64 (by omega) (by omega)) ?_)
  refine mV rfl rfl (arn ((((Utf8.decode (txt (absD s)) k).1-48:Nat)):Int) rfl .no (.u rfl) (.u rfl) rfl (fun _=>by omega) (fun _=>wrap_i32 (by omega) (by omega)) ?_)
  refine cw rfl .no Fx.cv21_3 (.u rfl) (fun _=>wrap_i64 (by omega) (by omega)) ?_
  refine arn ((((n*10)+((Utf8.decode (txt (absD s)) k).1-48)):Nat):Int) rfl .no (.u rfl) (.u rfl) rfl (fun _=>by omega) (fun _=>wrap_i64 (by omega) (by omega)) ?_
  refine rmn (((n*10)+((Utf8.decode (txt (absD s)) k).1-48))) (10000000000) rfl .no (.u rfl) (.u rfl) (fun _=>by omega) (fun _=>by omega) (fun _=>by first|decide|omega) ?_
  refine aS rfl rfl (.nil (.blk (We.lpo (k+1,(n*10+((Utf8.decode (txt (absD s)) k).1-48))%10000000000) ?_ ?_ ?_ ?_ ?_)))
  ·exact (esC rfl (by first|rfl|exact evi (by omega)) (esD rfl (esD rfl (esD rfl (esD rfl eZ)))))
  ·exact (mS .here (by rw [hit]) mN)
  ·first|omega|(dsimp only; omega)
  ·exact hGl0
  refine ⟨?_,?_,?_,?_⟩
  ·(try dsimp only)<;>(first|omega|rfl|assumption|(simp; done))
  ·(try dsimp only)<;>(exact all_snoc ec hall hcd)
  ·(try dsimp only)<;>(rw [modV_snoc ec,←hn,ecn])
  (try dsimp only)<;>(exact Nat.mod_lt _ (by decide))
 have c1k:=c1
 try simp only [qcA,qcC,qcB] at c1
 refine .exit (.xcode (.xlp (.xblk (.code (.seq (.seq (Wk.rg [0,1,2,3,4,5,6,7,8,9,10,11,12,13,14,15] rfl rfl (mV rfl rfl (cs rfl .no (.u rfl) (.u rfl) rfl (mV rfl rfl (mv rfl (.f rfl rfl) (.u rfl) (ls rfl (.f rfl rfl) Fx.st9 (.s rfl) (cp rfl (.f rfl rfl) (.s rfl) (.u rfl) rfl (pkO rfl .no (.u rfl) (.s rfl) (mV rfl rfl (mv rfl (.f rfl rfl) (.u rfl) (sI (0) rfl (.f rfl rfl) Fx.st9 (.s rfl) (.u rfl) (fun hc=>by omega) (fun hc=>ne_size hc) ?_)))))))))))))))))
 refine cp rfl (.f rfl rfl) (.s rfl) (.u rfl) rfl (mv rfl (.f rfl rfl) (.s rfl) (mv rfl (.tc rfl rfl) (.u rfl) (cs rfl (.tc rfl rfl) (.s rfl) (.u rfl) rfl (pkA rfl (.f rfl rfl) (.s rfl) (.s rfl) (pkO rfl .no (.u rfl) (.s rfl) (.nil (.code (.cond rfl (fun c3=>?_) (fun c3=>?_)))))))))
 ·have c3k:=c3
  try simp only [qcA,qcC,qcB] at c3
  refine .seq (rq2 rfl rfl (aS rfl rfl (aS rfl rfl (.nil (.code (.ret (We.fin0 Tryz.results114 (.tmp rfl (.tmp rfl .nil)) ?_)))))))
  refine ⟨rfl,?_⟩; rw [val_big (by omega) hall c3k]; rfl
 have c3k:=c3
 try simp only [qcA,qcC,qcB] at c3
 refine .skip (.code (.seq (.seq (rq1 rfl rfl (mV rfl rfl (.nil (.code (.cond rfl (fun c4=>?_) (fun c4=>?_)))))))))
 ·have c4k:=c4
  try simp only [qcA,qcC,qcB] at c4
  refine .seq (rq4 rfl rfl (mV rfl rfl (ng rfl .no (.u rfl) (fun _=>wrap_i64 (by omega) (by omega)) ?_)))
  refine aS rfl rfl (aS rfl rfl (.nil (.code (.ret (We.fin0 Tryz.results114 (.tmp rfl (.tmp rfl .nil)) ?_)))))
  refine ⟨rfl,?_⟩; rw [val_yes (by omega) hall hn c3k,if_pos c4k]; rfl
 have c4k:=c4
 try simp only [qcA,qcC,qcB] at c4
 refine .skip (.code (.seq (rq3 rfl rfl (mV rfl rfl (aS rfl rfl (aS rfl rfl (.nil (.code (.ret (We.fin0 Tryz.results114 (.tmp rfl (.tmp rfl .nil)) ?_))))))))))
 refine ⟨rfl,?_⟩; rw [val_yes (by omega) hall hn c3k,if_neg (by rw [c4k]; decide)]; rfl
end Go.Proofs.YtoifkgkandfeiaaGreatDoor
namespace Go.Proofs.YtoifkgkandfeiaaGreatDoor
open Go.Tan Go.RowKit Go.Maps Go.Sort Go.Shelf
namespace Fx
theorem go66:goFn Tryz.prog 66=true:=by kernel_rfl
theorem go114:goFn Tryz.prog 114=true:=by kernel_rfl
end Fx
theorem lnum_p (bl:Nat) (l:Ln) (G:PM) (hf:l.fits):Cp Tryz.prog 67 ([.pointer (some ⟨bl,0,none⟩)]:List Value).toArray G [.blk bl (cl (Ln.cells l) 94)] (fun _ μ' u=>∃ s l',numD l=.ok (s,l')∧l'.fits∧μ'=[.blk bl (cl (Ln.cells l') 94)]∧u=.int .i64 s) (fun ch=>∃ e,ch=[wrn 91 e]∧numD l=.error e):=by
 refine Cp.of Tryz.func67 rfl Tryz.ntmps67 rfl fun w0 hs0=>?_
 refine .seq (rq1 rfl rfl (aS rfl rfl (.nil (.code (.seq (rq8 rfl rfl (mV rfl rfl (kpo rfl Fx.go66 (Evc rfl Evn) (mtk1 .here) (lword_p bl l _ hf) (fun ch G9 ρ9 μ9 hle9 hd he hm=>(by obtain ⟨e,h1,h2⟩:=hd; exact ⟨e,h1,numD_w h2⟩)) ?_))))))))
 rintro _ G7 μ7 hG7 ⟨sx,lw,ew,rfl,rfl⟩
 obtain ⟨hfw,hsw⟩:=word_fits hf ew
 refine kv rfl .no Fx.go114 (Evc rfl Evn) (fun _=>lval_ok sx _ hsw) ?_
 refine mV rfl rfl (ex rfl .no (.u rfl) rfl (ex rfl .no (.u rfl) rfl (aS rfl rfl (aS rfl rfl (.nil (.code (.seq (rq3 rfl rfl (mV rfl rfl (mV rfl rfl (kpo rfl Fx.go68 (Evc rfl (Evc rfl Evn)) (mtk1 .here) (lneed_p bl lw _ _) (fun ch G9 ρ9 μ9 hle9 hd he hm=>(by obtain ⟨e,h1,h2,rfl⟩:=hd; exact ⟨_,h1,numD_no ew h2⟩)) ?_)))))))))))
 rintro _ G13 μ13 hG13 ⟨hne,rfl,rfl⟩
 refine .nil (.code (.seq (rq2 rfl rfl (mV rfl rfl (aS rfl rfl (.nil (.code (.ret (We.fin Tryz.results67 (.tmp rfl .nil) (mS .here rfl mN) ?_)))))))))
 exact ⟨_,_,numD_ok ew hne,hfw,rfl,rfl⟩
theorem ltext_p (bl:Nat) (l:Ln) (G:PM) (hf:l.fits):Cp Tryz.prog 70 ([.pointer (some ⟨bl,0,none⟩)]:List Value).toArray G [.blk bl (cl (Ln.cells l) 94)] (fun _ μ' u=>∃ s l',textD l=.ok (s,l')∧l'.fits∧μ'=[.blk bl (cl (Ln.cells l') 94)]∧u=.string (txt s)) (fun ch=>∃ e,ch=[wrn 91 e]∧textD l=.error e):=by
 refine Cp.of Tryz.func70 rfl Tryz.ntmps70 rfl fun w0 hs0=>?_
 refine .seq (rq1 rfl rfl (aS rfl rfl (.nil (.code (.seq (.seq (rq3 rfl rfl (mV rfl rfl (kpo rfl Fx.go66 (Evc rfl Evn) (mtk1 .here) (lword_p bl l _ hf) (fun ch G9 ρ9 μ9 hle9 hd he hm=>(by obtain ⟨e,h1,h2⟩:=hd; exact ⟨e,h1,textD_w h2⟩)) ?_)))))))))
 rintro _ G5 μ5 hG5 ⟨sx,lw,ew,rfl,rfl⟩
 obtain ⟨hfw,hsw⟩:=word_fits hf ew
 refine aS rfl rfl (.nil (.code (.seq (rq2 rfl rfl (mV rfl rfl (cs rfl .no (.u rfl) (.u rfl) rfl (.nil (.code (.cond rfl (fun c1=>?_) (fun c1=>?_))))))))))
 ·have c1k:=c1
  try simp only [qcA,qcB] at c1
  refine .seq (rq2 rfl rfl (mV rfl rfl (aS rfl rfl (.nil (.code (.ret (We.fin Tryz.results70 (.tmp rfl .nil) (mS .here rfl mN) ?_)))))))
  exact ⟨_,_,textD_no ew c1k,hfw,rfl,rfl⟩
 have c1k:=c1
 try simp only [qcA,qcB] at c1
 refine .skip (.code (.seq (rq1 rfl rfl (aS rfl rfl (.nil (.code (.ret (We.fin Tryz.results70 (.tmp rfl .nil) (mS .here rfl mN) ?_))))))))
 exact ⟨_,_,textD_ok ew c1k,hfw,rfl,rfl⟩
theorem lmom_p (bl:Nat) (l:Ln) (G:PM) (hf:l.fits):Cp Tryz.prog 71 ([.pointer (some ⟨bl,0,none⟩)]:List Value).toArray G [.blk bl (cl (Ln.cells l) 94)] (fun _ μ' u=>∃ s l',momD l=.ok (s,l')∧l'.fits∧μ'=[.blk bl (cl (Ln.cells l') 94)]∧u=uv .u64 s) (fun ch=>∃ e,ch=[wrn 91 e]∧momD l=.error e):=by
 refine Cp.of Tryz.func71 rfl Tryz.ntmps71 rfl fun w0 hs0=>?_
 refine .seq (rq1 rfl rfl (aS rfl rfl (.nil (.code (.seq (rq3 rfl rfl (mV rfl rfl (kpo rfl Fx.go66 (Evc rfl Evn) (mtk1 .here) (lword_p bl l _ hf) (fun ch G9 ρ9 μ9 hle9 hd he hm=>(by obtain ⟨e,h1,h2⟩:=hd; exact ⟨e,h1,momD_w h2⟩)) ?_))))))))
 rintro _ G7 μ7 hG7 ⟨sx,lw,ew,rfl,rfl⟩
 obtain ⟨hfw,hsw⟩:=word_fits hf ew
 refine aS rfl rfl (.nil (.code (.seq (.seq (rq2 rfl rfl (mV rfl rfl (cs rfl .no (.u rfl) (.u rfl) rfl (.nil (.code (.cond rfl (fun c1=>?_) (fun c1=>?_)))))))))))
 ·have c1k:=c1
  try simp only [qcA,qcB] at c1
  refine .seq (rq1 rfl rfl (aS rfl rfl (.nil (.code (.ret (We.fin Tryz.results71 (.tmp rfl .nil) (mS .here rfl mN) ?_))))))
  exact ⟨_,_,momD_now ew c1k,hfw,rfl,rfl⟩
 have c1k:=c1
 try simp only [qcA,qcB] at c1
 refine .skip (.code (.seq (rq7 rfl rfl (mV rfl rfl (kv rfl .no Fx.go114 (Evc rfl Evn) (fun _=>lval_ok sx _ hsw) ?_)))))
 refine mV rfl rfl (ex rfl .no (.u rfl) rfl (ex rfl .no (.u rfl) rfl (aS rfl rfl (aS rfl rfl (.nil (.code (.seq (rq7 rfl rfl (mV rfl rfl (mV rfl rfl (mV rfl rfl (mv rfl (.t rfl rfl) (.u rfl) (cp rfl (.t rfl rfl) (.s rfl) (.u rfl) rfl (pkA rfl .no (.u rfl) (.s rfl) (kpo rfl Fx.go68 (Evc rfl (Evc rfl Evn)) (mtk1 .here) (lneed_p bl lw _ _) (fun ch G9 ρ9 μ9 hle9 hd he hm=>(by obtain ⟨e,h1,h2,rfl⟩:=hd; exact ⟨_,h1,momD_no ew c1k h2⟩)) ?_)))))))))))))))
 rintro _ G21 μ21 hG21 ⟨hne,rfl,rfl⟩
 refine .nil (.code (.seq (rq3 rfl rfl (mV rfl rfl ?_))))
 have hvl:=val_lt (s:=sx)
 have hv0:0≤(valP sx).1:=by have:=hne; simp at this; exact this.2
 refine cw rfl .no Fx.cv3_23 (.u rfl) (fun _=>wrap_u64 hv0 (by omega)) ?_
 refine aS rfl rfl (.nil (.code (.ret (We.fin Tryz.results71 (.tmp rfl .nil) (mS .here rfl mN) ?_))))
 exact ⟨_,_,momD_ok ew c1k hne,hfw,rfl,by rw [uv_int hv0 hvl.2]; rfl⟩
end Go.Proofs.YtoifkgkandfeiaaGreatDoor
namespace Go.Proofs.YtoifkgkandfeiaaGreatDoor
open Go.Tan Go.RowKit Go.Maps Go.Sort Go.Shelf
namespace Fx
theorem bp71_0_1:bPl Tryz.prog 71 [0,1]=some ([.int .u8 0,.string ByteArray.empty,.string ByteArray.empty],[(0,1),(1,1)]):=by kernel_rfl
theorem go116:goFn Tryz.prog 116=true:=by kernel_rfl
theorem bp71_0_1_2:bPl Tryz.prog 71 [0,1,2]=some ([.int .u8 0,.string ByteArray.empty,.string ByteArray.empty],[(0,1),(1,1),(2,1)]):=by kernel_rfl
end Fx
theorem hpl_ok (s:List UInt8) (G:PM):Ct Tryz.prog 116 ([.string (txt s),.string (txt [43])]:List Value).toArray G [] (fun _ μ' u=>μ'=[]∧u=.bool (decide (s.head? = some 43))):=by
 have h:=hpre_ok s [43] G
 rw [hasP1] at h
 exact h
theorem lop_p (bl:Nat) (l:Ln) (G:PM) (hf:l.fits):Cp Tryz.prog 69 ([.pointer (some ⟨bl,0,none⟩)]:List Value).toArray G [.blk bl (cl (Ln.cells l) 94)] (fun _ μ' u=>∃ s l',opD l=.ok (s,l')∧l'.fits∧μ'=[.blk bl (cl (Ln.cells l') 94)]∧u=.agg (Opn.cells s).toArray) (fun ch=>∃ e,ch=[wrn 91 e]∧opD l=.error e):=by
 refine Cp.of Tryz.func69 rfl Tryz.ntmps69 rfl fun w0 hs0=>?_
 refine .seq (rq1 rfl rfl ?_)
 refine al rfl Fx.zr71 ?_; intro b2
 refine .nil (.code (.seq (rq3 rfl rfl (mV rfl rfl (kpo rfl Fx.go66 (Evc rfl Evn) (mtk1 tk1) (lword_p bl l _ hf) (fun ch G9 ρ9 μ9 hle9 hd he hm=>(by obtain ⟨e,h1,h2⟩:=hd; exact ⟨e,h1,opD_w h2⟩)) ?_)))))
 rintro _ G10 μ10 hG10 ⟨sx,lw,ew,rfl,rfl⟩
 obtain ⟨hfw,hsw⟩:=word_fits hf ew
 refine aS rfl rfl (.nil (.code (.seq (.seq (rq7 rfl rfl (mV rfl rfl (kv rfl .no Fx.go115 (Evc rfl (Evc rfl Evn)) (fun _=>cpm_ok sx _) ?_)))))))
 refine mV rfl rfl (ex rfl .no (.u rfl) rfl (ex rfl .no (.u rfl) rfl (aS rfl rfl (aS rfl rfl (.nil (.code (.seq (rq1 rfl rfl (mV rfl rfl (.nil (.code (.cond rfl (fun c1=>?_) (fun c1=>?_)))))))))))))
 ·have c1k:=c1
  try simp only [qcA,qcB] at c1
  refine .seq (rq3 rfl rfl (mV rfl rfl (bC rfl .no Fx.bp71_0_1 (.cons (.u rfl) rfl (.cons (.u rfl) rfl .nil)) rfl ?_)))
  refine sw rfl (.u rfl) (.u rfl) rfl Fx.sz71 tk1 rfl (Opn.one ⟨0#8,txt (absD sx),⟨#[]⟩⟩) ?_
  refine .nil (.code (.ret (We.fin Tryz.results69 (.cell rfl (fun w hw=>run_loadVarN Fx.ag71 (RdN.own .here) (rfl) hw) .nil) (mS tk1 rfl mN) ?_)))
  exact ⟨_,_,opD_del ew c1k,hfw,rfl,rfl⟩
 have c1k:=c1
 try simp only [qcA,qcB] at c1
 refine .skip (.code (.seq (rq9 rfl rfl (mV rfl rfl (kv rfl .no Fx.go113 (Evc rfl (Evc rfl Evn)) (fun _=>sCut_ok sx 61 _ (by omega)) ?_)))))
 refine mV rfl rfl (ex rfl .no (.u rfl) rfl (ex rfl .no (.u rfl) rfl (ex rfl .no (.u rfl) rfl (aS rfl rfl (aS rfl rfl (aS rfl rfl (.nil (.code (.seq (rq7 rfl rfl (mV rfl rfl (mV rfl rfl (mV rfl rfl (mv rfl (.t rfl rfl) (.u rfl) (kv rfl (.t rfl rfl) Fx.go116 (Eva.cons (.s rfl) (Evc rfl Evn)) (fun hc=>hpl_ok _ _) ?_)))))))))))))))
 refine pkA rfl .no (.u rfl) (.s rfl) (kpo rfl Fx.go68 (Evc rfl (Evc rfl Evn)) (mtk1 .here) (lneed_p bl lw _ _) (fun ch G9 ρ9 μ9 hle9 hd he hm=>(by obtain ⟨e,h1,h2,rfl⟩:=hd; exact ⟨_,h1,opD_no ew c1k h2⟩)) ?_)
 rintro _ G31 μ31 hG31 ⟨hne,rfl,rfl⟩
 refine .nil (.code (.seq (rq5 rfl rfl (mV rfl rfl (sD (1) rfl .no Fx.st9 (.u rfl) (.u rfl) (fun _=>by omega) (fun _=>opn1 hne) ?_)))))
 refine mV rfl rfl (bC rfl .no Fx.bp71_0_1_2 (.cons (.u rfl) rfl (.cons (.u rfl) rfl (.cons (.u rfl) rfl .nil))) rfl ?_)
 refine sw rfl (.u rfl) (.u rfl) rfl Fx.sz71 tk1 rfl (Opn.one ⟨1#8,bstr ((yb (txt (cutW 61 sx).1)).drop 1),txt (cutW 61 sx).2.1⟩) ?_
 refine .nil (.code (.ret (We.fin Tryz.results69 (.cell rfl (fun w hw=>run_loadVarN Fx.ag71 (RdN.own .here) (rfl) hw) .nil) (mS tk1 rfl mN) ?_)))
 exact ⟨_,_,opD_ok ew c1k hne,hfw,rfl,by rw [txt_drop]; rfl⟩
end Go.Proofs.YtoifkgkandfeiaaGreatDoor
namespace Go.Proofs.YtoifkgkandfeiaaGreatDoor
open Go.Tan Go.RowKit Go.Maps Go.Sort Go.Shelf
namespace FxDkL
theorem zv71:(Tryz.prog.info? 71).bind (·.zero)=some (.agg #[.int .u8 0,.string ByteArray.empty,.string ByteArray.empty]):=by kernel_rfl
theorem ag22:aggN Tryz.prog 22=some none:=by kernel_rfl
end FxDkL
namespace Fx
theorem zr27:zrL Tryz.prog 27=some ([.int .u8 0,.int .i64 0,.slice none 0 0,.bool false,.string ByteArray.empty,.string ByteArray.empty,.int .u64 0,.int .i64 0,.slice none 0 0,.string ByteArray.empty,.slice none 0 0]):=by kernel_rfl
theorem go67:goFn Tryz.prog 67=true:=by kernel_rfl
theorem fo27_0:fOff Tryz.prog 27 0=some 0:=by kernel_rfl
theorem fo27_1:fOff Tryz.prog 27 1=some 1:=by kernel_rfl
theorem fo27_3:fOff Tryz.prog 27 3=some 3:=by kernel_rfl
theorem go69:goFn Tryz.prog 69=true:=by kernel_rfl
theorem fo27_2:fOff Tryz.prog 27 2=some 2:=by kernel_rfl
theorem sz22:szT Tryz.prog 22=some 1:=by kernel_rfl
theorem ag27:aggN Tryz.prog 27=some (some 11):=by kernel_rfl
theorem sz27:szT Tryz.prog 27=some 11:=by kernel_rfl
theorem go70:goFn Tryz.prog 70=true:=by kernel_rfl
theorem fo27_4:fOff Tryz.prog 27 4=some 4:=by kernel_rfl
theorem go71:goFn Tryz.prog 71=true:=by kernel_rfl
theorem fo27_6:fOff Tryz.prog 27 6=some 6:=by kernel_rfl
theorem fo27_5:fOff Tryz.prog 27 5=some 5:=by kernel_rfl
theorem fo27_7:fOff Tryz.prog 27 7=some 7:=by kernel_rfl
theorem fo27_8:fOff Tryz.prog 27 8=some 8:=by kernel_rfl
theorem ag24:aggN Tryz.prog 24=some none:=by kernel_rfl
theorem se24:slE Tryz.prog 24=some (3,1,8):=by kernel_rfl
theorem sz24:szT Tryz.prog 24=some 1:=by kernel_rfl
theorem fo27_9:fOff Tryz.prog 27 9=some 9:=by kernel_rfl
theorem fo27_10:fOff Tryz.prog 27 10=some 10:=by kernel_rfl
end Fx
theorem levent_p (bl:Nat) (l:Ln) (G:PM) (hf:l.fits):Cp Tryz.prog 38 ([.pointer (some ⟨bl,0,none⟩)]:List Value).toArray G [.blk bl (cl (Ln.cells l) 94)] (fun G' μ' u=>∃ e hO hK hB l',evD l=.ok e∧l'.fits∧μ'=[.blk bl (cl (Ln.cells l') 94)]∧u=.agg (EvD.cells e (hO.val e.ops.length) (hK.val e.keep.length) (hB.val e.bytes.length)).toArray∧SlR G' 3 Opn.cells hO e.ops∧SlR G' 1 encZ hK e.keep∧SlR G' 1 encY hB (yb (txt e.bytes))) (fun ch=>∃ e,ch=[wrn 91 e]∧evD l=.error e):=by
 refine Cp.of Tryz.func38 rfl Tryz.ntmps38 rfl fun w0 hs0=>?_
 refine .seq (rq1 rfl rfl ?_)
 refine al rfl Fx.zr27 ?_; intro b2
 refine .nil (.code (.seq (.seq (rq2 rfl rfl (mV rfl rfl (kpo rfl Fx.go66 (Evc rfl Evn) (mtk1 tk1) (lword_p bl l _ hf) (fun ch G9 ρ9 μ9 hle9 hd he hm=>(by obtain ⟨e,h1,h2⟩:=hd; exact ⟨e,h1,evD_w h2⟩)) ?_))))))
 rintro _ G7 μ7 hG7 ⟨sx,lx,ew,rfl,rfl⟩
 have hfx:=(word_fits hf ew).1
 have hc:=evD_k ew
 refine .nil (.code (.block (.seq (rq2 rfl rfl (cs rfl .no (.u rfl) (.u rfl) rfl (aS rfl rfl (.nil (.code (.cond rfl (fun c1=>?_) (fun c1=>?_))))))))))
 ·have c1k:=c1
  try simp only [qcA,qcB] at c1
  refine .seq (rq6 rfl rfl ?_)
  obtain rfl:sx=wWrite:=tx_eq (by assumption)
  rw [evK_write] at hc
  refine mV rfl rfl (kpo rfl Fx.go67 (Evc rfl Evn) (mtk1 .here) (lnum_p bl _ _ (by assumption)) (fun ch G9 ρ9 μ9 hle9 hd he hm=>(by obtain ⟨e,h1,h2⟩:=hd; exact ⟨e,h1,by rw [hc,andE_err h2]⟩)) ?_)
  rintro _ G13 μ13 hG13 ⟨a7,lx,ha,hfx,rfl,rfl⟩
  rw [andE_ok ha] at hc
  refine fz rfl .no Fx.fo27_0 (.u rfl) (s1 rfl (.u rfl) (.u rfl) rfl Fx.sz5 tk1 (by first|decide | (show _<4; decide) | (show _<11; decide)) (rfl) ?_)
  refine fz rfl .no Fx.fo27_1 (.u rfl) (s1 rfl (.u rfl) (.u rfl) rfl Fx.sz3 .here (by first|decide | (show _<4; decide) | (show _<11; decide)) (rfl) ?_)
  refine .nil (.code (.seq (rq3 rfl rfl (mV rfl rfl (kpo rfl Fx.go66 (Evc rfl Evn) (mtk1 tk1) (lword_p bl _ _ (by assumption)) (fun ch G9 ρ9 μ9 hle9 hd he hm=>(by obtain ⟨e,h1,h2⟩:=hd; exact ⟨e,h1,by rw [hc,andE_err h2]⟩)) ?_)))))
  rintro _ G17 μ17 hG17 ⟨how,lx,ha,rfl,rfl⟩
  have hfx:=(word_fits (by assumption) ha).1
  have hsx:=(word_fits (by assumption) ha).2
  rw [andE_ok ha] at hc
  refine aS rfl rfl (.nil (.code (.seq (rq8 rfl rfl (mV rfl rfl (mV rfl rfl (cs rfl .no (.u rfl) (.u rfl) rfl (mV rfl rfl (mv rfl (.f rfl rfl) (.u rfl) (cs rfl (.f rfl rfl) (.s rfl) (.u rfl) rfl (pkO rfl .no (.u rfl) (.s rfl) (kpo rfl Fx.go68 (Evc rfl (Evc rfl Evn)) (mtk1 .here) (lneed_p bl lx _ _) (fun ch G9 ρ9 μ9 hle9 hd he hm=>(by obtain ⟨e,h1,h2,rfl⟩:=hd; exact ⟨_,h1,by rw [hc,if_neg (how_no h2)]⟩)) ?_))))))))))))
  rintro _ G25 μ25 hG25 ⟨hne,rfl,rfl⟩
  rw [if_pos (how_ok hne)] at hc
  refine .nil (.code (.seq (rq4 rfl rfl (mV rfl rfl (cs rfl .no (.u rfl) (.u rfl) rfl (fz rfl .no Fx.fo27_3 (.u rfl) (s1 rfl (.u rfl) (.u rfl) rfl Fx.sz4 tk1 (by first|decide | (show _<4; decide) | (show _<11; decide)) (rfl) ?_)))))))
  refine .nil (.code (.seq (rq5 rfl rfl (mV rfl rfl (kpo rfl Fx.go69 (Evc rfl Evn) (mtk1 tk1) (lop_p bl _ _ (by assumption)) (fun ch G9 ρ9 μ9 hle9 hd he hm=>(by obtain ⟨e,h1,h2⟩:=hd; exact ⟨e,h1,by rw [hc,andE_err h2]⟩)) ?_)))))
  rintro _ G30 μ30 hG30 ⟨o,lx,ha,hfx,rfl,rfl⟩
  rw [andE_ok ha] at hc
  refine Go.Tan.b1 rfl Fx.se22 FxDkL.zv71 (.u rfl) rfl rfl (by decide) ?_; intro b31
  refine fz rfl .no Fx.fo27_2 (.u rfl) (s1 rfl (.u rfl) (.u rfl) rfl Fx.sz22 tk2 (by first|decide | (show _<4; decide) | (show _<11; decide)) (rfl) ?_)
  refine .nil (.code (.block (wk_bS (sz:=3) (enc:=Opn.cells) [o] 1 tk1 rfl rfl (fun _ _=>rfl) (by decide) ?_)))
  refine Wk.lop (α:=Value×List Opn×Ln) (fun _=>[]) (fun gh=>[rS 3 Opn.cells gh.1 71 gh.2.1,.blk b2 (cl (EvD.cells { EvD.zero with kind:=1#8,client:=a7,sync:=decide (how=wSync) } gh.1 (.slice none 0 0) (.slice none 0 0)) 27),.blk bl (cl (Ln.cells gh.2.2) 94)])
   (fun gh Gl=>(gh.2.2.fits)∧(addE [o] (opsF lx)=addE gh.2.1 (opsF gh.2.2))∧(gh.2.1.length+gh.2.2.rest.length≤1000001)∧(gh.1.oneCell'=true)) (fun gh=>gh.2.2.rest.length) (_,[o],lx) [(0,true,_),(2,true,_)] []
   (esD rfl (esD rfl eZ))
   (mS .here rfl (mS .here (by rw [← txt_eq how wSync]; rfl) (mS .here rfl mN))) ?_ ?_
  ·refine ⟨?_,?_,?_,?_⟩
   ·(try dsimp only)<;>(first|omega|rfl|assumption|(simp; done))
   ·(try dsimp only)<;>(first|omega|rfl|assumption|(simp; done))
   ·(try dsimp only)<;>(have:=hfx; unfold Ln.fits at this; simp; omega)
   (try dsimp only)<;>(rfl)
  intro gh N0 Gl0 hN0 hGl0 hF0
  obtain ⟨v,os,lw⟩:=gh; dsimp only at hF0 hN0 ⊢
  obtain ⟨hfw,hcw,hos,hov⟩:=hF0
  refine .seq (.seq (rq4 rfl rfl (mV rfl rfl (nc rfl .no (.u rfl) (fz rfl .no Fx.fo94_2 (.u rfl) (ld rfl .no Fx.ag4 (.u rfl) (fun _=>Rd.own tk2 (by first|exact wap_f rfl|rfl)) ?_))))))
  refine .nil (.code (.cond rfl (fun c2=>?_) (fun c2=>?_)))
  ·have c2k:=c2
   try simp only [qcA,qcB] at c2
   refine .skip (.code (.block (.seq (rq4 rfl rfl (mV rfl rfl (kpo rfl Fx.go69 (Evc rfl Evn) (mtk1 tk2) (lop_p bl _ _ (by assumption)) (fun ch G9 ρ9 μ9 hle9 hd he hm=>(by obtain ⟨e,h1,h2⟩:=hd; exact ⟨e,h1,by rw [hc,andE_err (adE_err (hcw.trans (ops_die (by assumption) h2)))]⟩)) ?_))))))
   rintro _ G38 μ38 hG38 ⟨o2,lx,ha,hfx,rfl,rfl⟩
   have hgo:=hcw.trans (ops_go (by assumption) ha)
   have hls:=opD_less ha
   refine al rfl Fx.zr71 ?_; intro b4
   refine sw rfl (.u rfl) (.u rfl) rfl Fx.sz71 .here rfl (Opn.one o2) ?_
   refine .nil (.code (rq7 rfl rfl (fz rfl .no Fx.fo27_2 (.u rfl) (ld rfl .no FxDkL.ag22 (.u rfl) (fun _=>Rd.own tk3 (by first|exact wap_f rfl|rfl)) ?_))))
   refine lA rfl .no Fx.ag71 (.u rfl) (fun _=>RdN.own .here) (fun _=>rfl) ?_
   refine Go.Tan.b1 rfl Fx.se22 FxDkL.zv71 (.u rfl) rfl rfl (by decide) ?_; intro b42
   refine apS (xs:=os) (o2) rfl Fx.se22 FxDkL.zv71 rfl (.u rfl) (.u rfl) tk3 .here (rfl) (Opn.one _) (by omega) (by unfold maxLen; omega) ?_; intro v43 ov43
   refine fz rfl .no Fx.fo27_2 (.u rfl) (s1v rfl (.u rfl) (.u rfl) .here Fx.sz22 tk4 (by first|decide | (show _<4; decide) | (show _<11; decide)) (rfl) ?_)
   refine .nil (.blk (We.lpo (_,os++[o2],lx) (esD rfl (esD rfl eZ)) (mS tk1 rfl (mS .here rfl (mS tk2 rfl mN))) ?_ ?_ ?_))
   ·first|omega|(dsimp only; omega)
   ·exact (hGl0).trans hG38
   refine ⟨?_,?_,?_,?_⟩
   ·(try dsimp only)<;>(first|omega|rfl|assumption|(simp; done))
   ·(try dsimp only)<;>(exact hgo)
   ·(try dsimp only)<;>(simp; omega)
   (try dsimp only)<;>(assumption)
  have c2k:=c2
  try simp only [qcA,qcB] at c2
  refine .exit (.xcode (.xlp (.xblk (.blk (.code (.seq (.seq (rq4 rfl rfl (mV rfl rfl (nc rfl .no (.u rfl) (fz rfl .no Fx.fo94_2 (.u rfl) (ld rfl .no Fx.ag4 (.u rfl) (fun _=>Rd.own tk2 (by first|exact wap_f rfl|rfl)) ?_))))))))))))
  refine .nil (.code (.cond rfl (fun c3=>?_) (fun c3=>?_)))
  ·have c3k:=c3
   try simp only [qcA,qcB] at c3
   refine rq7 rfl rfl (mV rfl rfl (nc rfl .no (.u rfl) (fz rfl .no Fx.fo94_1 (.u rfl) (ld rfl .no Fx.ag3 (.u rfl) (fun _=>Rd.own tk2 (by first|exact wap_f rfl|rfl)) ?_))))
   refine bC rfl .no Fx.bp91_0 (.cons (.u rfl) rfl .nil) rfl ?_
   refine mkI rfl Fx.sr91 (.u rfl) ?_
   refine pnc rfl rfl (fun _ _ _ _=>⟨_,rfl,by first|exact fin_no hc (by assumption)|exact fin_no (hc.trans (andE_ok (hcw.trans (nums_no (by assumption))))) (by assumption) | (obtain ⟨q,hq,rfl⟩:=adE_end (hcw.trans (ops_no (by assumption))); exact fin_no (hc.trans (andE_ok hq)) (by assumption))⟩)
  have c3k:=c3
  try simp only [qcA,qcB] at c3
  refine .skip (.code (.seq (rq2 rfl rfl (lA rfl .no Fx.ag27 (.u rfl) (fun _=>RdN.own tk1) (fun _=>rfl) ?_))))
  refine sw rfl (.u rfl) (.u rfl) rfl Fx.sz27 tk1 rfl (by first|exact one11 rfl|exact EvD.one _ hov rfl rfl|exact EvD.one _ rfl hov rfl) ?_
  refine .nil (.code (.ret ?_))
  obtain ⟨q,hq,rfl⟩:=adE_end (hcw.trans (ops_no (by assumption)))
  rw [andE_ok hq] at hc
  refine we_fs tk1 (fun _ _=>rfl) (keys_k tk1 rfl (keys_0)) ?_; intro GfRO hRO hleRO evRO hsRO; subst evRO
  refine We.fin Tryz.results38 (.cell rfl (fun w hw=>run_loadVarN Fx.ag27 (RdN.own .here) (rfl) hw) .nil) (mS tk1 rfl mN) ?_
  exact ⟨_,hRO,⟨none,0⟩,⟨none,0⟩,lw,fin_ok hc (by assumption),hfw,rfl,rfl,hsRO,SlR.nul,nulB⟩
 have c1k:=c1
 try simp only [qcA,qcB] at c1
 refine .seq (rq2 rfl rfl (cs rfl .no (.u rfl) (.u rfl) rfl (aS rfl rfl (.nil (.code (.cond rfl (fun c4=>?_) (fun c4=>?_)))))))
 ·have c4k:=c4
  try simp only [qcA,qcB] at c4
  refine .seq (rq6 rfl rfl ?_)
  obtain rfl:sx=wGet:=tx_eq (by assumption)
  rw [evK_get] at hc
  refine mV rfl rfl (kpo rfl Fx.go70 (Evc rfl Evn) (mtk1 .here) (ltext_p bl _ _ (by assumption)) (fun ch G9 ρ9 μ9 hle9 hd he hm=>(by obtain ⟨e,h1,h2⟩:=hd; exact ⟨e,h1,by rw [hc,andE_err h2]⟩)) ?_)
  rintro _ G48 μ48 hG48 ⟨a7,lx,ha,hfx,rfl,rfl⟩
  rw [andE_ok ha] at hc
  refine fz rfl .no Fx.fo27_0 (.u rfl) (s1 rfl (.u rfl) (.u rfl) rfl Fx.sz5 tk1 (by first|decide | (show _<4; decide) | (show _<11; decide)) (rfl) ?_)
  refine fz rfl .no Fx.fo27_4 (.u rfl) (s1 rfl (.u rfl) (.u rfl) rfl Fx.sz9 .here (by first|decide | (show _<4; decide) | (show _<11; decide)) (rfl) ?_)
  refine .nil (.code (rq4 rfl rfl (mV rfl rfl (kpo rfl Fx.go71 (Evc rfl Evn) (mtk1 tk1) (lmom_p bl _ _ (by assumption)) (fun ch G9 ρ9 μ9 hle9 hd he hm=>(by obtain ⟨e,h1,h2⟩:=hd; exact ⟨e,h1,by rw [hc,andE_err h2]⟩)) ?_))))
  rintro _ G52 μ52 hG52 ⟨a7,lx,ha,hfx,rfl,rfl⟩
  rw [andE_ok ha] at hc
  refine fz rfl .no Fx.fo27_6 (.u rfl) (s1 rfl (.u rfl) (.u rfl) rfl Fx.sz23 tk1 (by first|decide | (show _<4; decide) | (show _<11; decide)) (rfl) ?_)
  refine .nil (.blk (.code (.seq (.seq (rq4 rfl rfl (mV rfl rfl (nc rfl .no (.u rfl) (fz rfl .no Fx.fo94_2 (.u rfl) (ld rfl .no Fx.ag4 (.u rfl) (fun _=>Rd.own tk1 (by first|exact wap_f rfl|rfl)) ?_)))))))))
  refine .nil (.code (.cond rfl (fun c5=>?_) (fun c5=>?_)))
  ·have c5k:=c5
   try simp only [qcA,qcB] at c5
   refine rq7 rfl rfl (mV rfl rfl (nc rfl .no (.u rfl) (fz rfl .no Fx.fo94_1 (.u rfl) (ld rfl .no Fx.ag3 (.u rfl) (fun _=>Rd.own tk1 (by first|exact wap_f rfl|rfl)) ?_))))
   refine bC rfl .no Fx.bp91_0 (.cons (.u rfl) rfl .nil) rfl ?_
   refine mkI rfl Fx.sr91 (.u rfl) ?_
   refine pnc rfl rfl (fun _ _ _ _=>⟨_,rfl,by first|exact fin_no hc (by assumption)|exact fin_no (hc.trans (andE_ok (hcw.trans (nums_no (by assumption))))) (by assumption) | (obtain ⟨q,hq,rfl⟩:=adE_end (hcw.trans (ops_no (by assumption))); exact fin_no (hc.trans (andE_ok hq)) (by assumption))⟩)
  have c5k:=c5
  try simp only [qcA,qcB] at c5
  refine .skip (.code (.seq (rq2 rfl rfl (lA rfl .no Fx.ag27 (.u rfl) (fun _=>RdN.own .here) (fun _=>rfl) ?_))))
  refine sw rfl (.u rfl) (.u rfl) rfl Fx.sz27 .here rfl (by first|exact one11 rfl|exact EvD.one _ hov rfl rfl|exact EvD.one _ rfl hov rfl) ?_
  refine .nil (.code (.ret (We.fin Tryz.results38 (.cell rfl (fun w hw=>run_loadVarN Fx.ag27 (RdN.own .here) (rfl) hw) .nil) (mS tk1 rfl mN) ?_)))
  exact ⟨_,⟨none,0⟩,⟨none,0⟩,⟨none,0⟩,lx,fin_ok hc (by assumption),hfx,rfl,rfl,SlR.nul,SlR.nul,nulB⟩
 have c4k:=c4
 try simp only [qcA,qcB] at c4
 refine .seq (rq2 rfl rfl (cs rfl .no (.u rfl) (.u rfl) rfl (aS rfl rfl (.nil (.code (.cond rfl (fun c6=>?_) (fun c6=>?_)))))))
 ·have c6k:=c6
  try simp only [qcA,qcB] at c6
  refine .seq (rq6 rfl rfl ?_)
  obtain rfl:sx=wScan:=tx_eq (by assumption)
  rw [evK_scan] at hc
  refine mV rfl rfl (kpo rfl Fx.go70 (Evc rfl Evn) (mtk1 .here) (ltext_p bl _ _ (by assumption)) (fun ch G9 ρ9 μ9 hle9 hd he hm=>(by obtain ⟨e,h1,h2⟩:=hd; exact ⟨e,h1,by rw [hc,andE_err h2]⟩)) ?_)
  rintro _ G57 μ57 hG57 ⟨a7,lx,ha,hfx,rfl,rfl⟩
  rw [andE_ok ha] at hc
  refine fz rfl .no Fx.fo27_0 (.u rfl) (s1 rfl (.u rfl) (.u rfl) rfl Fx.sz5 tk1 (by first|decide | (show _<4; decide) | (show _<11; decide)) (rfl) ?_)
  refine fz rfl .no Fx.fo27_4 (.u rfl) (s1 rfl (.u rfl) (.u rfl) rfl Fx.sz9 .here (by first|decide | (show _<4; decide) | (show _<11; decide)) (rfl) ?_)
  refine .nil (.code (.seq (rq4 rfl rfl (mV rfl rfl (kpo rfl Fx.go70 (Evc rfl Evn) (mtk1 tk1) (ltext_p bl _ _ (by assumption)) (fun ch G9 ρ9 μ9 hle9 hd he hm=>(by obtain ⟨e,h1,h2⟩:=hd; exact ⟨e,h1,by rw [hc,andE_err h2]⟩)) ?_)))))
  rintro _ G61 μ61 hG61 ⟨a7,lx,ha,hfx,rfl,rfl⟩
  rw [andE_ok ha] at hc
  refine fz rfl .no Fx.fo27_5 (.u rfl) (s1 rfl (.u rfl) (.u rfl) rfl Fx.sz9 tk1 (by first|decide | (show _<4; decide) | (show _<11; decide)) (rfl) ?_)
  refine .nil (.code (rq4 rfl rfl (mV rfl rfl (kpo rfl Fx.go71 (Evc rfl Evn) (mtk1 tk1) (lmom_p bl _ _ (by assumption)) (fun ch G9 ρ9 μ9 hle9 hd he hm=>(by obtain ⟨e,h1,h2⟩:=hd; exact ⟨e,h1,by rw [hc,andE_err h2]⟩)) ?_))))
  rintro _ G64 μ64 hG64 ⟨a7,lx,ha,hfx,rfl,rfl⟩
  rw [andE_ok ha] at hc
  refine fz rfl .no Fx.fo27_6 (.u rfl) (s1 rfl (.u rfl) (.u rfl) rfl Fx.sz23 tk1 (by first|decide | (show _<4; decide) | (show _<11; decide)) (rfl) ?_)
  refine .nil (.blk (.code (.seq (.seq (rq4 rfl rfl (mV rfl rfl (nc rfl .no (.u rfl) (fz rfl .no Fx.fo94_2 (.u rfl) (ld rfl .no Fx.ag4 (.u rfl) (fun _=>Rd.own tk1 (by first|exact wap_f rfl|rfl)) ?_)))))))))
  refine .nil (.code (.cond rfl (fun c7=>?_) (fun c7=>?_)))
  ·have c7k:=c7
   try simp only [qcA,qcB] at c7
   refine rq7 rfl rfl (mV rfl rfl (nc rfl .no (.u rfl) (fz rfl .no Fx.fo94_1 (.u rfl) (ld rfl .no Fx.ag3 (.u rfl) (fun _=>Rd.own tk1 (by first|exact wap_f rfl|rfl)) ?_))))
   refine bC rfl .no Fx.bp91_0 (.cons (.u rfl) rfl .nil) rfl ?_
   refine mkI rfl Fx.sr91 (.u rfl) ?_
   refine pnc rfl rfl (fun _ _ _ _=>⟨_,rfl,by first|exact fin_no hc (by assumption)|exact fin_no (hc.trans (andE_ok (hcw.trans (nums_no (by assumption))))) (by assumption) | (obtain ⟨q,hq,rfl⟩:=adE_end (hcw.trans (ops_no (by assumption))); exact fin_no (hc.trans (andE_ok hq)) (by assumption))⟩)
  have c7k:=c7
  try simp only [qcA,qcB] at c7
  refine .skip (.code (.seq (rq2 rfl rfl (lA rfl .no Fx.ag27 (.u rfl) (fun _=>RdN.own .here) (fun _=>rfl) ?_))))
  refine sw rfl (.u rfl) (.u rfl) rfl Fx.sz27 .here rfl (by first|exact one11 rfl|exact EvD.one _ hov rfl rfl|exact EvD.one _ rfl hov rfl) ?_
  refine .nil (.code (.ret (We.fin Tryz.results38 (.cell rfl (fun w hw=>run_loadVarN Fx.ag27 (RdN.own .here) (rfl) hw) .nil) (mS tk1 rfl mN) ?_)))
  exact ⟨_,⟨none,0⟩,⟨none,0⟩,⟨none,0⟩,lx,fin_ok hc (by assumption),hfx,rfl,rfl,SlR.nul,SlR.nul,nulB⟩
 have c6k:=c6
 try simp only [qcA,qcB] at c6
 refine .seq (rq2 rfl rfl (cs rfl .no (.u rfl) (.u rfl) rfl (aS rfl rfl (.nil (.code (.cond rfl (fun c8=>?_) (fun c8=>?_)))))))
 ·have c8k:=c8
  try simp only [qcA,qcB] at c8
  refine rq2 rfl rfl ?_
  obtain rfl:sx=wHold:=tx_eq (by assumption)
  rw [evK_hold] at hc
  refine fz rfl .no Fx.fo27_0 (.u rfl) (s1 rfl (.u rfl) (.u rfl) rfl Fx.sz5 tk1 (by first|decide | (show _<4; decide) | (show _<11; decide)) (rfl) ?_)
  refine .nil (.blk (.code (.seq (.seq (rq4 rfl rfl (mV rfl rfl (nc rfl .no (.u rfl) (fz rfl .no Fx.fo94_2 (.u rfl) (ld rfl .no Fx.ag4 (.u rfl) (fun _=>Rd.own tk1 (by first|exact wap_f rfl|rfl)) ?_)))))))))
  refine .nil (.code (.cond rfl (fun c9=>?_) (fun c9=>?_)))
  ·have c9k:=c9
   try simp only [qcA,qcB] at c9
   refine rq7 rfl rfl (mV rfl rfl (nc rfl .no (.u rfl) (fz rfl .no Fx.fo94_1 (.u rfl) (ld rfl .no Fx.ag3 (.u rfl) (fun _=>Rd.own tk1 (by first|exact wap_f rfl|rfl)) ?_))))
   refine bC rfl .no Fx.bp91_0 (.cons (.u rfl) rfl .nil) rfl ?_
   refine mkI rfl Fx.sr91 (.u rfl) ?_
   refine pnc rfl rfl (fun _ _ _ _=>⟨_,rfl,by first|exact fin_no hc (by assumption)|exact fin_no (hc.trans (andE_ok (hcw.trans (nums_no (by assumption))))) (by assumption) | (obtain ⟨q,hq,rfl⟩:=adE_end (hcw.trans (ops_no (by assumption))); exact fin_no (hc.trans (andE_ok hq)) (by assumption))⟩)
  have c9k:=c9
  try simp only [qcA,qcB] at c9
  refine .skip (.code (.seq (rq2 rfl rfl (lA rfl .no Fx.ag27 (.u rfl) (fun _=>RdN.own .here) (fun _=>rfl) ?_))))
  refine sw rfl (.u rfl) (.u rfl) rfl Fx.sz27 .here rfl (by first|exact one11 rfl|exact EvD.one _ hov rfl rfl|exact EvD.one _ rfl hov rfl) ?_
  refine .nil (.code (.ret (We.fin Tryz.results38 (.cell rfl (fun w hw=>run_loadVarN Fx.ag27 (RdN.own .here) (rfl) hw) .nil) (mS tk1 rfl mN) ?_)))
  exact ⟨_,⟨none,0⟩,⟨none,0⟩,⟨none,0⟩,lx,fin_ok hc (by assumption),hfx,rfl,rfl,SlR.nul,SlR.nul,nulB⟩
 have c8k:=c8
 try simp only [qcA,qcB] at c8
 refine .seq (rq2 rfl rfl (cs rfl .no (.u rfl) (.u rfl) rfl (aS rfl rfl (.nil (.code (.cond rfl (fun c10=>?_) (fun c10=>?_)))))))
 ·have c10k:=c10
  try simp only [qcA,qcB] at c10
  refine rq6 rfl rfl ?_
  obtain rfl:sx=wLet:=tx_eq (by assumption)
  rw [evK_let] at hc
  refine mV rfl rfl (kpo rfl Fx.go71 (Evc rfl Evn) (mtk1 .here) (lmom_p bl _ _ (by assumption)) (fun ch G9 ρ9 μ9 hle9 hd he hm=>(by obtain ⟨e,h1,h2⟩:=hd; exact ⟨e,h1,by rw [hc,andE_err h2]⟩)) ?_)
  rintro _ G72 μ72 hG72 ⟨a7,lx,ha,hfx,rfl,rfl⟩
  rw [andE_ok ha] at hc
  refine fz rfl .no Fx.fo27_0 (.u rfl) (s1 rfl (.u rfl) (.u rfl) rfl Fx.sz5 tk1 (by first|decide | (show _<4; decide) | (show _<11; decide)) (rfl) ?_)
  refine fz rfl .no Fx.fo27_6 (.u rfl) (s1 rfl (.u rfl) (.u rfl) rfl Fx.sz23 .here (by first|decide | (show _<4; decide) | (show _<11; decide)) (rfl) ?_)
  refine .nil (.blk (.code (.seq (.seq (rq4 rfl rfl (mV rfl rfl (nc rfl .no (.u rfl) (fz rfl .no Fx.fo94_2 (.u rfl) (ld rfl .no Fx.ag4 (.u rfl) (fun _=>Rd.own tk1 (by first|exact wap_f rfl|rfl)) ?_)))))))))
  refine .nil (.code (.cond rfl (fun c11=>?_) (fun c11=>?_)))
  ·have c11k:=c11
   try simp only [qcA,qcB] at c11
   refine rq7 rfl rfl (mV rfl rfl (nc rfl .no (.u rfl) (fz rfl .no Fx.fo94_1 (.u rfl) (ld rfl .no Fx.ag3 (.u rfl) (fun _=>Rd.own tk1 (by first|exact wap_f rfl|rfl)) ?_))))
   refine bC rfl .no Fx.bp91_0 (.cons (.u rfl) rfl .nil) rfl ?_
   refine mkI rfl Fx.sr91 (.u rfl) ?_
   refine pnc rfl rfl (fun _ _ _ _=>⟨_,rfl,by first|exact fin_no hc (by assumption)|exact fin_no (hc.trans (andE_ok (hcw.trans (nums_no (by assumption))))) (by assumption) | (obtain ⟨q,hq,rfl⟩:=adE_end (hcw.trans (ops_no (by assumption))); exact fin_no (hc.trans (andE_ok hq)) (by assumption))⟩)
  have c11k:=c11
  try simp only [qcA,qcB] at c11
  refine .skip (.code (.seq (rq2 rfl rfl (lA rfl .no Fx.ag27 (.u rfl) (fun _=>RdN.own .here) (fun _=>rfl) ?_))))
  refine sw rfl (.u rfl) (.u rfl) rfl Fx.sz27 .here rfl (by first|exact one11 rfl|exact EvD.one _ hov rfl rfl|exact EvD.one _ rfl hov rfl) ?_
  refine .nil (.code (.ret (We.fin Tryz.results38 (.cell rfl (fun w hw=>run_loadVarN Fx.ag27 (RdN.own .here) (rfl) hw) .nil) (mS tk1 rfl mN) ?_)))
  exact ⟨_,⟨none,0⟩,⟨none,0⟩,⟨none,0⟩,lx,fin_ok hc (by assumption),hfx,rfl,rfl,SlR.nul,SlR.nul,nulB⟩
 have c10k:=c10
 try simp only [qcA,qcB] at c10
 refine .seq (rq2 rfl rfl (cs rfl .no (.u rfl) (.u rfl) rfl (aS rfl rfl (.nil (.code (.cond rfl (fun c12=>?_) (fun c12=>?_)))))))
 ·have c12k:=c12
  try simp only [qcA,qcB] at c12
  refine rq6 rfl rfl ?_
  obtain rfl:sx=wPick:=tx_eq (by assumption)
  rw [evK_pick] at hc
  refine mV rfl rfl (kpo rfl Fx.go67 (Evc rfl Evn) (mtk1 .here) (lnum_p bl _ _ (by assumption)) (fun ch G9 ρ9 μ9 hle9 hd he hm=>(by obtain ⟨e,h1,h2⟩:=hd; exact ⟨e,h1,by rw [hc,andE_err h2]⟩)) ?_)
  rintro _ G78 μ78 hG78 ⟨a7,lx,ha,hfx,rfl,rfl⟩
  rw [andE_ok ha] at hc
  refine fz rfl .no Fx.fo27_0 (.u rfl) (s1 rfl (.u rfl) (.u rfl) rfl Fx.sz5 tk1 (by first|decide | (show _<4; decide) | (show _<11; decide)) (rfl) ?_)
  refine fz rfl .no Fx.fo27_7 (.u rfl) (s1 rfl (.u rfl) (.u rfl) rfl Fx.sz3 .here (by first|decide | (show _<4; decide) | (show _<11; decide)) (rfl) ?_)
  refine .nil (.blk (.code (.seq (.seq (rq4 rfl rfl (mV rfl rfl (nc rfl .no (.u rfl) (fz rfl .no Fx.fo94_2 (.u rfl) (ld rfl .no Fx.ag4 (.u rfl) (fun _=>Rd.own tk1 (by first|exact wap_f rfl|rfl)) ?_)))))))))
  refine .nil (.code (.cond rfl (fun c13=>?_) (fun c13=>?_)))
  ·have c13k:=c13
   try simp only [qcA,qcB] at c13
   refine rq7 rfl rfl (mV rfl rfl (nc rfl .no (.u rfl) (fz rfl .no Fx.fo94_1 (.u rfl) (ld rfl .no Fx.ag3 (.u rfl) (fun _=>Rd.own tk1 (by first|exact wap_f rfl|rfl)) ?_))))
   refine bC rfl .no Fx.bp91_0 (.cons (.u rfl) rfl .nil) rfl ?_
   refine mkI rfl Fx.sr91 (.u rfl) ?_
   refine pnc rfl rfl (fun _ _ _ _=>⟨_,rfl,by first|exact fin_no hc (by assumption)|exact fin_no (hc.trans (andE_ok (hcw.trans (nums_no (by assumption))))) (by assumption) | (obtain ⟨q,hq,rfl⟩:=adE_end (hcw.trans (ops_no (by assumption))); exact fin_no (hc.trans (andE_ok hq)) (by assumption))⟩)
  have c13k:=c13
  try simp only [qcA,qcB] at c13
  refine .skip (.code (.seq (rq2 rfl rfl (lA rfl .no Fx.ag27 (.u rfl) (fun _=>RdN.own .here) (fun _=>rfl) ?_))))
  refine sw rfl (.u rfl) (.u rfl) rfl Fx.sz27 .here rfl (by first|exact one11 rfl|exact EvD.one _ hov rfl rfl|exact EvD.one _ rfl hov rfl) ?_
  refine .nil (.code (.ret (We.fin Tryz.results38 (.cell rfl (fun w hw=>run_loadVarN Fx.ag27 (RdN.own .here) (rfl) hw) .nil) (mS tk1 rfl mN) ?_)))
  exact ⟨_,⟨none,0⟩,⟨none,0⟩,⟨none,0⟩,lx,fin_ok hc (by assumption),hfx,rfl,rfl,SlR.nul,SlR.nul,nulB⟩
 have c12k:=c12
 try simp only [qcA,qcB] at c12
 refine .seq (rq2 rfl rfl (cs rfl .no (.u rfl) (.u rfl) rfl (aS rfl rfl (.nil (.code (.cond rfl (fun c14=>?_) (fun c14=>?_)))))))
 ·have c14k:=c14
  try simp only [qcA,qcB] at c14
  refine rq6 rfl rfl ?_
  obtain rfl:sx=wRotate:=tx_eq (by assumption)
  rw [evK_rotate] at hc
  refine mV rfl rfl (kpo rfl Fx.go67 (Evc rfl Evn) (mtk1 .here) (lnum_p bl _ _ (by assumption)) (fun ch G9 ρ9 μ9 hle9 hd he hm=>(by obtain ⟨e,h1,h2⟩:=hd; exact ⟨e,h1,by rw [hc,andE_err h2]⟩)) ?_)
  rintro _ G84 μ84 hG84 ⟨a7,lx,ha,hfx,rfl,rfl⟩
  rw [andE_ok ha] at hc
  refine fz rfl .no Fx.fo27_0 (.u rfl) (s1 rfl (.u rfl) (.u rfl) rfl Fx.sz5 tk1 (by first|decide | (show _<4; decide) | (show _<11; decide)) (rfl) ?_)
  refine fz rfl .no Fx.fo27_7 (.u rfl) (s1 rfl (.u rfl) (.u rfl) rfl Fx.sz3 .here (by first|decide | (show _<4; decide) | (show _<11; decide)) (rfl) ?_)
  refine .nil (.blk (.code (.seq (.seq (rq4 rfl rfl (mV rfl rfl (nc rfl .no (.u rfl) (fz rfl .no Fx.fo94_2 (.u rfl) (ld rfl .no Fx.ag4 (.u rfl) (fun _=>Rd.own tk1 (by first|exact wap_f rfl|rfl)) ?_)))))))))
  refine .nil (.code (.cond rfl (fun c15=>?_) (fun c15=>?_)))
  ·have c15k:=c15
   try simp only [qcA,qcB] at c15
   refine rq7 rfl rfl (mV rfl rfl (nc rfl .no (.u rfl) (fz rfl .no Fx.fo94_1 (.u rfl) (ld rfl .no Fx.ag3 (.u rfl) (fun _=>Rd.own tk1 (by first|exact wap_f rfl|rfl)) ?_))))
   refine bC rfl .no Fx.bp91_0 (.cons (.u rfl) rfl .nil) rfl ?_
   refine mkI rfl Fx.sr91 (.u rfl) ?_
   refine pnc rfl rfl (fun _ _ _ _=>⟨_,rfl,by first|exact fin_no hc (by assumption)|exact fin_no (hc.trans (andE_ok (hcw.trans (nums_no (by assumption))))) (by assumption) | (obtain ⟨q,hq,rfl⟩:=adE_end (hcw.trans (ops_no (by assumption))); exact fin_no (hc.trans (andE_ok hq)) (by assumption))⟩)
  have c15k:=c15
  try simp only [qcA,qcB] at c15
  refine .skip (.code (.seq (rq2 rfl rfl (lA rfl .no Fx.ag27 (.u rfl) (fun _=>RdN.own .here) (fun _=>rfl) ?_))))
  refine sw rfl (.u rfl) (.u rfl) rfl Fx.sz27 .here rfl (by first|exact one11 rfl|exact EvD.one _ hov rfl rfl|exact EvD.one _ rfl hov rfl) ?_
  refine .nil (.code (.ret (We.fin Tryz.results38 (.cell rfl (fun w hw=>run_loadVarN Fx.ag27 (RdN.own .here) (rfl) hw) .nil) (mS tk1 rfl mN) ?_)))
  exact ⟨_,⟨none,0⟩,⟨none,0⟩,⟨none,0⟩,lx,fin_ok hc (by assumption),hfx,rfl,rfl,SlR.nul,SlR.nul,nulB⟩
 have c14k:=c14
 try simp only [qcA,qcB] at c14
 refine .seq (rq2 rfl rfl (cs rfl .no (.u rfl) (.u rfl) rfl (aS rfl rfl (.nil (.code (.cond rfl (fun c16=>?_) (fun c16=>?_)))))))
 ·have c16k:=c16
  try simp only [qcA,qcB] at c16
  refine rq6 rfl rfl ?_
  obtain rfl:sx=wCut:=tx_eq (by assumption)
  rw [evK_cut] at hc
  refine mV rfl rfl (kpo rfl Fx.go67 (Evc rfl Evn) (mtk1 .here) (lnum_p bl _ _ (by assumption)) (fun ch G9 ρ9 μ9 hle9 hd he hm=>(by obtain ⟨e,h1,h2⟩:=hd; exact ⟨e,h1,by rw [hc,andE_err h2]⟩)) ?_)
  rintro _ G90 μ90 hG90 ⟨a7,lx,ha,hfx,rfl,rfl⟩
  rw [andE_ok ha] at hc
  refine fz rfl .no Fx.fo27_0 (.u rfl) (s1 rfl (.u rfl) (.u rfl) rfl Fx.sz5 tk1 (by first|decide | (show _<4; decide) | (show _<11; decide)) (rfl) ?_)
  refine fz rfl .no Fx.fo27_7 (.u rfl) (s1 rfl (.u rfl) (.u rfl) rfl Fx.sz3 .here (by first|decide | (show _<4; decide) | (show _<11; decide)) (rfl) ?_)
  refine .nil (.blk (.code (.seq (.seq (rq4 rfl rfl (mV rfl rfl (nc rfl .no (.u rfl) (fz rfl .no Fx.fo94_2 (.u rfl) (ld rfl .no Fx.ag4 (.u rfl) (fun _=>Rd.own tk1 (by first|exact wap_f rfl|rfl)) ?_)))))))))
  refine .nil (.code (.cond rfl (fun c17=>?_) (fun c17=>?_)))
  ·have c17k:=c17
   try simp only [qcA,qcB] at c17
   refine rq7 rfl rfl (mV rfl rfl (nc rfl .no (.u rfl) (fz rfl .no Fx.fo94_1 (.u rfl) (ld rfl .no Fx.ag3 (.u rfl) (fun _=>Rd.own tk1 (by first|exact wap_f rfl|rfl)) ?_))))
   refine bC rfl .no Fx.bp91_0 (.cons (.u rfl) rfl .nil) rfl ?_
   refine mkI rfl Fx.sr91 (.u rfl) ?_
   refine pnc rfl rfl (fun _ _ _ _=>⟨_,rfl,by first|exact fin_no hc (by assumption)|exact fin_no (hc.trans (andE_ok (hcw.trans (nums_no (by assumption))))) (by assumption) | (obtain ⟨q,hq,rfl⟩:=adE_end (hcw.trans (ops_no (by assumption))); exact fin_no (hc.trans (andE_ok hq)) (by assumption))⟩)
  have c17k:=c17
  try simp only [qcA,qcB] at c17
  refine .skip (.code (.seq (rq2 rfl rfl (lA rfl .no Fx.ag27 (.u rfl) (fun _=>RdN.own .here) (fun _=>rfl) ?_))))
  refine sw rfl (.u rfl) (.u rfl) rfl Fx.sz27 .here rfl (by first|exact one11 rfl|exact EvD.one _ hov rfl rfl|exact EvD.one _ rfl hov rfl) ?_
  refine .nil (.code (.ret (We.fin Tryz.results38 (.cell rfl (fun w hw=>run_loadVarN Fx.ag27 (RdN.own .here) (rfl) hw) .nil) (mS tk1 rfl mN) ?_)))
  exact ⟨_,⟨none,0⟩,⟨none,0⟩,⟨none,0⟩,lx,fin_ok hc (by assumption),hfx,rfl,rfl,SlR.nul,SlR.nul,nulB⟩
 have c16k:=c16
 try simp only [qcA,qcB] at c16
 refine .seq (rq2 rfl rfl (cs rfl .no (.u rfl) (.u rfl) rfl (aS rfl rfl (.nil (.code (.cond rfl (fun c18=>?_) (fun c18=>?_)))))))
 ·have c18k:=c18
  try simp only [qcA,qcB] at c18
  refine .seq (rq2 rfl rfl ?_)
  obtain rfl:sx=wCrash:=tx_eq (by assumption)
  rw [evK_crash] at hc
  refine fz rfl .no Fx.fo27_0 (.u rfl) (s1 rfl (.u rfl) (.u rfl) rfl Fx.sz5 tk1 (by first|decide | (show _<4; decide) | (show _<11; decide)) (rfl) ?_)
  refine .nil (.code (.block (wk_nilS 1 encZ 3 ?_)))
  refine Wk.lop (α:=Value×List Int×Ln) (fun _=>[]) (fun gh=>[rS 1 encZ gh.1 3 gh.2.1,.blk b2 (cl (EvD.cells { EvD.zero with kind:=9#8 } (.slice none 0 0) gh.1 (.slice none 0 0)) 27),.blk bl (cl (Ln.cells gh.2.2) 94)])
   (fun gh Gl=>(gh.2.2.fits)∧(numsF lx=addE gh.2.1 (numsF gh.2.2))∧(gh.2.1.length+gh.2.2.rest.length≤1000001)∧(gh.1.oneCell'=true)) (fun gh=>gh.2.2.rest.length) (_,[],lx) [(0,true,_),(2,true,_)] []
   (esD rfl (esD rfl eZ))
   (mS .here rfl (mS .here rfl (mS .here rfl mN))) ?_ ?_
  ·refine ⟨?_,?_,?_,?_⟩
   ·(try dsimp only)<;>(first|omega|rfl|assumption|(simp; done))
   ·(try dsimp only)<;>(exact (addE_nil _).symm)
   ·(try dsimp only)<;>(have:=hfx; unfold Ln.fits at this; simp; omega)
   (try dsimp only)<;>(rfl)
  intro gh N1 Gl1 hN1 hGl1 hF1
  obtain ⟨v,os,lw⟩:=gh; dsimp only at hF1 hN1 ⊢
  obtain ⟨hfw,hcw,hos,hov⟩:=hF1
  refine .seq (.seq (rq4 rfl rfl (mV rfl rfl (nc rfl .no (.u rfl) (fz rfl .no Fx.fo94_2 (.u rfl) (ld rfl .no Fx.ag4 (.u rfl) (fun _=>Rd.own tk2 (by first|exact wap_f rfl|rfl)) ?_))))))
  refine .nil (.code (.cond rfl (fun c19=>?_) (fun c19=>?_)))
  ·have c19k:=c19
   try simp only [qcA,qcB] at c19
   refine .skip (.code (.block (.seq (rq3 rfl rfl (mV rfl rfl (kpo rfl Fx.go67 (Evc rfl Evn) (mtk1 tk2) (lnum_p bl _ _ (by assumption)) (fun ch G9 ρ9 μ9 hle9 hd he hm=>(by obtain ⟨e,h1,h2⟩:=hd; exact ⟨e,h1,by rw [hc,andE_err (hcw.trans (nums_die (by assumption) h2))]⟩)) ?_))))))
   rintro _ G101 μ101 hG101 ⟨o2,lx,ha,hfx,rfl,rfl⟩
   have hgo:=hcw.trans (nums_go (by assumption) ha)
   have hls:=numD_less ha
   refine aS rfl rfl (.nil (.code (rq7 rfl rfl (fz rfl .no Fx.fo27_8 (.u rfl) (ld rfl .no Fx.ag24 (.u rfl) (fun _=>Rd.own tk2 (by first|exact wap_f rfl|rfl)) ?_)))))
   refine mV rfl rfl ?_
   refine Go.Tan.b1 rfl Fx.se24 Fx.zv3 (.u rfl) rfl rfl (by decide) ?_; intro b105
   refine apS (xs:=os) (o2) rfl Fx.se24 Fx.zv3 rfl (.u rfl) (.u rfl) tk2 .here (rfl) (one1 rfl) (by omega) (by unfold maxLen; omega) ?_; intro v106 ov106
   refine fz rfl .no Fx.fo27_8 (.u rfl) (s1v rfl (.u rfl) (.u rfl) .here Fx.sz24 tk3 (by first|decide | (show _<4; decide) | (show _<11; decide)) (rfl) ?_)
   refine .nil (.blk (We.lpo (_,os++[o2],lx) (esD rfl (esD rfl eZ)) (mS tk1 rfl (mS .here rfl (mS tk1 rfl mN))) ?_ ?_ ?_))
   ·first|omega|(dsimp only; omega)
   ·exact (hGl1).trans hG101
   refine ⟨?_,?_,?_,?_⟩
   ·(try dsimp only)<;>(first|omega|rfl|assumption|(simp; done))
   ·(try dsimp only)<;>(exact hgo)
   ·(try dsimp only)<;>(simp; omega)
   (try dsimp only)<;>(assumption)
  have c19k:=c19
  try simp only [qcA,qcB] at c19
  refine .exit (.xcode (.xlp (.xblk (.blk (.code (.seq (.seq (rq4 rfl rfl (mV rfl rfl (nc rfl .no (.u rfl) (fz rfl .no Fx.fo94_2 (.u rfl) (ld rfl .no Fx.ag4 (.u rfl) (fun _=>Rd.own tk2 (by first|exact wap_f rfl|rfl)) ?_))))))))))))
  refine .nil (.code (.cond rfl (fun c20=>?_) (fun c20=>?_)))
  ·have c20k:=c20
   try simp only [qcA,qcB] at c20
   refine rq7 rfl rfl (mV rfl rfl (nc rfl .no (.u rfl) (fz rfl .no Fx.fo94_1 (.u rfl) (ld rfl .no Fx.ag3 (.u rfl) (fun _=>Rd.own tk2 (by first|exact wap_f rfl|rfl)) ?_))))
   refine bC rfl .no Fx.bp91_0 (.cons (.u rfl) rfl .nil) rfl ?_
   refine mkI rfl Fx.sr91 (.u rfl) ?_
   refine pnc rfl rfl (fun _ _ _ _=>⟨_,rfl,by first|exact fin_no hc (by assumption)|exact fin_no (hc.trans (andE_ok (hcw.trans (nums_no (by assumption))))) (by assumption) | (obtain ⟨q,hq,rfl⟩:=adE_end (hcw.trans (ops_no (by assumption))); exact fin_no (hc.trans (andE_ok hq)) (by assumption))⟩)
  have c20k:=c20
  try simp only [qcA,qcB] at c20
  refine .skip (.code (.seq (rq2 rfl rfl (lA rfl .no Fx.ag27 (.u rfl) (fun _=>RdN.own tk1) (fun _=>rfl) ?_))))
  refine sw rfl (.u rfl) (.u rfl) rfl Fx.sz27 tk1 rfl (by first|exact one11 rfl|exact EvD.one _ hov rfl rfl|exact EvD.one _ rfl hov rfl) ?_
  refine .nil (.code (.ret ?_))
  have hq:=hcw.trans (nums_no (by assumption))
  rw [andE_ok hq] at hc
  refine we_fs tk1 (fun _ _=>rfl) (keys_k tk1 rfl (keys_0)) ?_; intro GfRK hRK hleRK evRK hsRK; subst evRK
  refine We.fin Tryz.results38 (.cell rfl (fun w hw=>run_loadVarN Fx.ag27 (RdN.own .here) (rfl) hw) .nil) (mS tk1 rfl mN) ?_
  exact ⟨_,⟨none,0⟩,hRK,⟨none,0⟩,lw,fin_ok hc (by assumption),hfw,rfl,rfl,SlR.nul,hsRK,nulB⟩
 have c18k:=c18
 try simp only [qcA,qcB] at c18
 refine .seq (rq2 rfl rfl (cs rfl .no (.u rfl) (.u rfl) rfl (aS rfl rfl (.nil (.code (.cond rfl (fun c21=>?_) (fun c21=>?_)))))))
 ·have c21k:=c21
  try simp only [qcA,qcB] at c21
  refine rq2 rfl rfl ?_
  obtain rfl:sx=wOpen:=tx_eq (by assumption)
  rw [evK_open] at hc
  refine fz rfl .no Fx.fo27_0 (.u rfl) (s1 rfl (.u rfl) (.u rfl) rfl Fx.sz5 tk1 (by first|decide | (show _<4; decide) | (show _<11; decide)) (rfl) ?_)
  refine .nil (.blk (.code (.seq (.seq (rq4 rfl rfl (mV rfl rfl (nc rfl .no (.u rfl) (fz rfl .no Fx.fo94_2 (.u rfl) (ld rfl .no Fx.ag4 (.u rfl) (fun _=>Rd.own tk1 (by first|exact wap_f rfl|rfl)) ?_)))))))))
  refine .nil (.code (.cond rfl (fun c22=>?_) (fun c22=>?_)))
  ·have c22k:=c22
   try simp only [qcA,qcB] at c22
   refine rq7 rfl rfl (mV rfl rfl (nc rfl .no (.u rfl) (fz rfl .no Fx.fo94_1 (.u rfl) (ld rfl .no Fx.ag3 (.u rfl) (fun _=>Rd.own tk1 (by first|exact wap_f rfl|rfl)) ?_))))
   refine bC rfl .no Fx.bp91_0 (.cons (.u rfl) rfl .nil) rfl ?_
   refine mkI rfl Fx.sr91 (.u rfl) ?_
   refine pnc rfl rfl (fun _ _ _ _=>⟨_,rfl,by first|exact fin_no hc (by assumption)|exact fin_no (hc.trans (andE_ok (hcw.trans (nums_no (by assumption))))) (by assumption) | (obtain ⟨q,hq,rfl⟩:=adE_end (hcw.trans (ops_no (by assumption))); exact fin_no (hc.trans (andE_ok hq)) (by assumption))⟩)
  have c22k:=c22
  try simp only [qcA,qcB] at c22
  refine .skip (.code (.seq (rq2 rfl rfl (lA rfl .no Fx.ag27 (.u rfl) (fun _=>RdN.own .here) (fun _=>rfl) ?_))))
  refine sw rfl (.u rfl) (.u rfl) rfl Fx.sz27 .here rfl (by first|exact one11 rfl|exact EvD.one _ hov rfl rfl|exact EvD.one _ rfl hov rfl) ?_
  refine .nil (.code (.ret (We.fin Tryz.results38 (.cell rfl (fun w hw=>run_loadVarN Fx.ag27 (RdN.own .here) (rfl) hw) .nil) (mS tk1 rfl mN) ?_)))
  exact ⟨_,⟨none,0⟩,⟨none,0⟩,⟨none,0⟩,lx,fin_ok hc (by assumption),hfx,rfl,rfl,SlR.nul,SlR.nul,nulB⟩
 have c21k:=c21
 try simp only [qcA,qcB] at c21
 refine .seq (rq2 rfl rfl (cs rfl .no (.u rfl) (.u rfl) rfl (aS rfl rfl (.nil (.code (.cond rfl (fun c23=>?_) (fun c23=>?_)))))))
 ·have c23k:=c23
  try simp only [qcA,qcB] at c23
  refine rq2 rfl rfl ?_
  obtain rfl:sx=wClose:=tx_eq (by assumption)
  rw [evK_close] at hc
  refine fz rfl .no Fx.fo27_0 (.u rfl) (s1 rfl (.u rfl) (.u rfl) rfl Fx.sz5 tk1 (by first|decide | (show _<4; decide) | (show _<11; decide)) (rfl) ?_)
  refine .nil (.blk (.code (.seq (.seq (rq4 rfl rfl (mV rfl rfl (nc rfl .no (.u rfl) (fz rfl .no Fx.fo94_2 (.u rfl) (ld rfl .no Fx.ag4 (.u rfl) (fun _=>Rd.own tk1 (by first|exact wap_f rfl|rfl)) ?_)))))))))
  refine .nil (.code (.cond rfl (fun c24=>?_) (fun c24=>?_)))
  ·have c24k:=c24
   try simp only [qcA,qcB] at c24
   refine rq7 rfl rfl (mV rfl rfl (nc rfl .no (.u rfl) (fz rfl .no Fx.fo94_1 (.u rfl) (ld rfl .no Fx.ag3 (.u rfl) (fun _=>Rd.own tk1 (by first|exact wap_f rfl|rfl)) ?_))))
   refine bC rfl .no Fx.bp91_0 (.cons (.u rfl) rfl .nil) rfl ?_
   refine mkI rfl Fx.sr91 (.u rfl) ?_
   refine pnc rfl rfl (fun _ _ _ _=>⟨_,rfl,by first|exact fin_no hc (by assumption)|exact fin_no (hc.trans (andE_ok (hcw.trans (nums_no (by assumption))))) (by assumption) | (obtain ⟨q,hq,rfl⟩:=adE_end (hcw.trans (ops_no (by assumption))); exact fin_no (hc.trans (andE_ok hq)) (by assumption))⟩)
  have c24k:=c24
  try simp only [qcA,qcB] at c24
  refine .skip (.code (.seq (rq2 rfl rfl (lA rfl .no Fx.ag27 (.u rfl) (fun _=>RdN.own .here) (fun _=>rfl) ?_))))
  refine sw rfl (.u rfl) (.u rfl) rfl Fx.sz27 .here rfl (by first|exact one11 rfl|exact EvD.one _ hov rfl rfl|exact EvD.one _ rfl hov rfl) ?_
  refine .nil (.code (.ret (We.fin Tryz.results38 (.cell rfl (fun w hw=>run_loadVarN Fx.ag27 (RdN.own .here) (rfl) hw) .nil) (mS tk1 rfl mN) ?_)))
  exact ⟨_,⟨none,0⟩,⟨none,0⟩,⟨none,0⟩,lx,fin_ok hc (by assumption),hfx,rfl,rfl,SlR.nul,SlR.nul,nulB⟩
 have c23k:=c23
 try simp only [qcA,qcB] at c23
 refine .seq (rq2 rfl rfl (cs rfl .no (.u rfl) (.u rfl) rfl (aS rfl rfl (.nil (.code (.cond rfl (fun c25=>?_) (fun c25=>?_)))))))
 ·have c25k:=c25
  try simp only [qcA,qcB] at c25
  refine .seq (rq6 rfl rfl ?_)
  obtain rfl:sx=wLay:=tx_eq (by assumption)
  rw [evK_lay] at hc
  refine mV rfl rfl (kpo rfl Fx.go66 (Evc rfl Evn) (mtk1 .here) (lword_p bl _ _ (by assumption)) (fun ch G9 ρ9 μ9 hle9 hd he hm=>(by obtain ⟨e,h1,h2⟩:=hd; exact ⟨e,h1,by rw [hc,andE_err h2]⟩)) ?_)
  rintro _ G117 μ117 hG117 ⟨a7,lx,ha,rfl,rfl⟩
  have hfx:=(word_fits (by assumption) ha).1
  have hsx:=(word_fits (by assumption) ha).2
  rw [andE_ok ha] at hc
  refine fz rfl .no Fx.fo27_0 (.u rfl) (s1 rfl (.u rfl) (.u rfl) rfl Fx.sz5 tk1 (by first|decide | (show _<4; decide) | (show _<11; decide)) (rfl) ?_)
  refine fz rfl .no Fx.fo27_9 (.u rfl) (s1 rfl (.u rfl) (.u rfl) rfl Fx.sz9 .here (by first|decide | (show _<4; decide) | (show _<11; decide)) (rfl) ?_)
  refine .nil (.code (rq5 rfl rfl (mV rfl rfl (kpo rfl Fx.go70 (Evc rfl Evn) (mtk1 tk1) (ltext_p bl _ _ (by assumption)) (fun ch G9 ρ9 μ9 hle9 hd he hm=>(by obtain ⟨e,h1,h2⟩:=hd; exact ⟨e,h1,by rw [hc,andE_err h2]⟩)) ?_))))
  rintro _ G121 μ121 hG121 ⟨a7,lx,ha,hfx,rfl,rfl⟩
  rw [andE_ok ha] at hc
  refine cvS rfl rfl FxGrBa.sb9_25 (.u rfl) ?_; intro G122 h122 hG122 hs122
  refine fz rfl .no Fx.fo27_10 (.u rfl) (s1 rfl (.u rfl) (.u rfl) rfl Fx.sz25 tk1 (by first|decide | (show _<4; decide) | (show _<11; decide)) (rfl) ?_)
  refine .nil (.blk (.code (.seq (.seq (rq4 rfl rfl (mV rfl rfl (nc rfl .no (.u rfl) (fz rfl .no Fx.fo94_2 (.u rfl) (ld rfl .no Fx.ag4 (.u rfl) (fun _=>Rd.own tk1 (by first|exact wap_f rfl|rfl)) ?_)))))))))
  refine .nil (.code (.cond rfl (fun c26=>?_) (fun c26=>?_)))
  ·have c26k:=c26
   try simp only [qcA,qcB] at c26
   refine rq7 rfl rfl (mV rfl rfl (nc rfl .no (.u rfl) (fz rfl .no Fx.fo94_1 (.u rfl) (ld rfl .no Fx.ag3 (.u rfl) (fun _=>Rd.own tk1 (by first|exact wap_f rfl|rfl)) ?_))))
   refine bC rfl .no Fx.bp91_0 (.cons (.u rfl) rfl .nil) rfl ?_
   refine mkI rfl Fx.sr91 (.u rfl) ?_
   refine pnc rfl rfl (fun _ _ _ _=>⟨_,rfl,by first|exact fin_no hc (by assumption)|exact fin_no (hc.trans (andE_ok (hcw.trans (nums_no (by assumption))))) (by assumption) | (obtain ⟨q,hq,rfl⟩:=adE_end (hcw.trans (ops_no (by assumption))); exact fin_no (hc.trans (andE_ok hq)) (by assumption))⟩)
  have c26k:=c26
  try simp only [qcA,qcB] at c26
  refine .skip (.code (.seq (rq2 rfl rfl (lA rfl .no Fx.ag27 (.u rfl) (fun _=>RdN.own .here) (fun _=>rfl) ?_))))
  refine sw rfl (.u rfl) (.u rfl) rfl Fx.sz27 .here rfl (by first|exact one11 rfl|exact EvD.one _ hov rfl rfl|exact EvD.one _ rfl hov rfl) ?_
  refine .nil (.code (.ret (We.fin Tryz.results38 (.cell rfl (fun w hw=>run_loadVarN Fx.ag27 (RdN.own .here) (rfl) hw) .nil) (mS tk1 rfl mN) ?_)))
  exact ⟨_,⟨none,0⟩,⟨none,0⟩,h122,lx,fin_ok hc (by assumption),hfx,rfl,(by rw [show (yb (txt a7)).length=a7.length from by rw [yb_len]; rfl]; rfl),SlR.nul,SlR.nul,hs122⟩
 have c25k:=c25
 try simp only [qcA,qcB] at c25
 refine .seq (rq2 rfl rfl (cs rfl .no (.u rfl) (.u rfl) rfl (aS rfl rfl (.nil (.code (.cond rfl (fun c27=>?_) (fun c27=>?_)))))))
 ·have c27k:=c27
  try simp only [qcA,qcB] at c27
  refine rq6 rfl rfl ?_
  obtain rfl:sx=wDrop:=tx_eq (by assumption)
  rw [evK_drop] at hc
  refine mV rfl rfl (kpo rfl Fx.go66 (Evc rfl Evn) (mtk1 .here) (lword_p bl _ _ (by assumption)) (fun ch G9 ρ9 μ9 hle9 hd he hm=>(by obtain ⟨e,h1,h2⟩:=hd; exact ⟨e,h1,by rw [hc,andE_err h2]⟩)) ?_)
  rintro _ G127 μ127 hG127 ⟨a7,lx,ha,rfl,rfl⟩
  have hfx:=(word_fits (by assumption) ha).1
  have hsx:=(word_fits (by assumption) ha).2
  rw [andE_ok ha] at hc
  refine fz rfl .no Fx.fo27_0 (.u rfl) (s1 rfl (.u rfl) (.u rfl) rfl Fx.sz5 tk1 (by first|decide | (show _<4; decide) | (show _<11; decide)) (rfl) ?_)
  refine fz rfl .no Fx.fo27_9 (.u rfl) (s1 rfl (.u rfl) (.u rfl) rfl Fx.sz9 .here (by first|decide | (show _<4; decide) | (show _<11; decide)) (rfl) ?_)
  refine .nil (.blk (.code (.seq (.seq (rq4 rfl rfl (mV rfl rfl (nc rfl .no (.u rfl) (fz rfl .no Fx.fo94_2 (.u rfl) (ld rfl .no Fx.ag4 (.u rfl) (fun _=>Rd.own tk1 (by first|exact wap_f rfl|rfl)) ?_)))))))))
  refine .nil (.code (.cond rfl (fun c28=>?_) (fun c28=>?_)))
  ·have c28k:=c28
   try simp only [qcA,qcB] at c28
   refine rq7 rfl rfl (mV rfl rfl (nc rfl .no (.u rfl) (fz rfl .no Fx.fo94_1 (.u rfl) (ld rfl .no Fx.ag3 (.u rfl) (fun _=>Rd.own tk1 (by first|exact wap_f rfl|rfl)) ?_))))
   refine bC rfl .no Fx.bp91_0 (.cons (.u rfl) rfl .nil) rfl ?_
   refine mkI rfl Fx.sr91 (.u rfl) ?_
   refine pnc rfl rfl (fun _ _ _ _=>⟨_,rfl,by first|exact fin_no hc (by assumption)|exact fin_no (hc.trans (andE_ok (hcw.trans (nums_no (by assumption))))) (by assumption) | (obtain ⟨q,hq,rfl⟩:=adE_end (hcw.trans (ops_no (by assumption))); exact fin_no (hc.trans (andE_ok hq)) (by assumption))⟩)
  have c28k:=c28
  try simp only [qcA,qcB] at c28
  refine .skip (.code (.seq (rq2 rfl rfl (lA rfl .no Fx.ag27 (.u rfl) (fun _=>RdN.own .here) (fun _=>rfl) ?_))))
  refine sw rfl (.u rfl) (.u rfl) rfl Fx.sz27 .here rfl (by first|exact one11 rfl|exact EvD.one _ hov rfl rfl|exact EvD.one _ rfl hov rfl) ?_
  refine .nil (.code (.ret (We.fin Tryz.results38 (.cell rfl (fun w hw=>run_loadVarN Fx.ag27 (RdN.own .here) (rfl) hw) .nil) (mS tk1 rfl mN) ?_)))
  exact ⟨_,⟨none,0⟩,⟨none,0⟩,⟨none,0⟩,lx,fin_ok hc (by assumption),hfx,rfl,rfl,SlR.nul,SlR.nul,nulB⟩
 have c27k:=c27
 try simp only [qcA,qcB] at c27
 refine rq2 rfl rfl (mV rfl rfl (kpo rfl Fx.go68 (Evc rfl (Evc rfl Evn)) (mtk1 .here) (lneed_p bl lx false _) (fun ch G9 ρ9 μ9 hle9 hd he hm=>(by obtain ⟨e,h1,h2,rfl⟩:=hd; exact ⟨_,h1,by rw [hc,evK_no (tx_ne (by assumption)) (tx_ne (by assumption)) (tx_ne (by assumption)) (tx_ne (by assumption)) (tx_ne (by assumption)) (tx_ne (by assumption)) (tx_ne (by assumption)) (tx_ne (by assumption)) (tx_ne (by assumption)) (tx_ne (by assumption)) (tx_ne (by assumption)) (tx_ne (by assumption)) (tx_ne (by assumption))]⟩)) ?_))
 rintro _ G9 μ9 hG9 ⟨hne,rfl,rfl⟩
 cases hne
end Go.Proofs.YtoifkgkandfeiaaGreatDoor
namespace Go.Proofs.YtoifkgkandfeiaaGreatDoor
open Go.Tan Go.RowKit Go.Maps Go.Sort Go.Shelf
namespace Fx
theorem go37:goFn Tryz.prog 37=true:=by kernel_rfl
end Fx
theorem parse1_ret (w:World) (a b c:Addr):CallsD Tryz.prog 37 #[.pointer (some a),.pointer (some b),.pointer (some c)] .returning w (fun e u' w'=>(∃ v,e=.returned v)∧u'=.returning∧w'=w):=by
 refine callsD_of_wpS Tryz.func37 rfl fun c₀ cs hu=>(wpS_seq (wpS_region ?_))
 have hr:recoverD (c₀ :: cs)=none:=by simp [recoverD,hu]
 rw [show Tryz.f37.ntmps=11 from rfl]
 simp only [wpOpsS,List.range,List.range.loop,Array.size,List.length,List.getElem?_toArray,List.getElem?_cons_zero,List.getElem?_cons_succ,Region.wanted,if_true]
 have e1:∀ (ρ:Operand→Value) (d:Option Nat) (t:TypeId) (p:String) (af:Array Edge),(execOp ρ ⟨d,.call { callee:=.builtin .recover,args:=#[],argTypes:=#[] },t,p,af,none⟩).run Tryz.prog w=.ok .recover w:=fun ρ d t p af=>by
  simp [execOp,resolve,invoke,builtin]
 simp only [e1,hr]
 simp [execOp,Oper.upon,Exit.thenS,Act.put,Act.eval]
 refine wpS_of_wp ?_
 have e2:(binOp .eql 20 .nilIface .nilIface).run Tryz.prog w=.ok (.bool true) w:=by
  have hu20:=ifT_some FxGrBb.if20
  obtain ⟨q,hq⟩:=hu20
  have e4:∀ d,(Op.equalIn (d+1) 20 .nilIface .nilIface).run Tryz.prog w=.ok true w:=fun d=>by
   unfold Op.equalIn
   simp only [Sem.run_bind,run_underlying hq,Result.andThen_ok,Sem.run_pure]
  obtain ⟨d,hd⟩ : ∃ d,Op.maxDepth=d+1:=Nat.exists_eq_succ_of_ne_zero (by decide)
  simp [binOp,Op.equal,hd,e4]
 have e3:(eqGuard .eql 20 (.tmp 5) (.const .nilIface) .nilIface .nilIface).run Tryz.prog w=.ok () w:=by unfold eqGuard; simp
 refine wp_seq_k fun K1 hK1=>wp_seq_k fun K2 hK2=>wp_region ?_
 simp [wpOps,Region.wanted,execOp,Oper.wp,Oper.upon,Exit.then,Act.put,Act.eval,List.range,List.range.loop,e2,e3]
 refine .inl (.inl (hK2 _ _ ?_))
 refine wp_cond_true ?_ ?_
 ·simp [Act.eval]
 refine wp_ret ?_
 refine ⟨rfl,.returning,by rw [← hu],.tuple #[],?_,⟨_,rfl⟩,rfl,rfl⟩
 simp [results,Tryz.f37]
end Go.Proofs.YtoifkgkandfeiaaGreatDoor
namespace Go.Proofs.YtoifkgkandfeiaaGreatDoor
open Go.Tan Go.RowKit Go.Maps Go.Sort Go.Shelf
namespace Fx
theorem fl91_0:flP Tryz.prog 91 0=some 0:=by kernel_rfl
theorem bp27_:bPl Tryz.prog 27 []=some ([.int .u8 0,.int .i64 0,.slice none 0 0,.bool false,.string ByteArray.empty,.string ByteArray.empty,.int .u64 0,.int .i64 0,.slice none 0 0,.string ByteArray.empty,.slice none 0 0],[]):=by kernel_rfl
end Fx
theorem parse1_pan (w:World) (G:PM) (e:Nat) (es:List Value) (x y:Value) (be ba bc TE TI TC:Nat) (hs:Sat G [.blk be (cl es TE),.blk ba (cl [x] TI),.blk bc (cl [y] TC)] w) (hl:es.length=11):CallsD Tryz.prog 37 #[.pointer (some ⟨be,0,none⟩),.pointer (some ⟨ba,0,none⟩),.pointer (some ⟨bc,0,none⟩)] (.panicking [wrn 91 e]) w (fun r u' w'=>(∃ v,r=.returned v)∧u'=.panicking [wrn' 91 e]∧Tr G (keys [.blk be (cl es TE),.blk ba (cl [x] TI),.blk bc (cl [y] TC)]) w G [.blk be (cl (EvD.cells EvD.zero (.slice none 0 0) (.slice none 0 0) (.slice none 0 0)) TE),.blk ba (cl [.int .i64 (e:Int)] TI),.blk bc (cl [.int .i64 260] TC)] w'):=by
 refine callsD_of_wpS Tryz.func37 rfl fun c₀ cs hu=>(wpS_seq (wpS_region ?_))
 have hr:recoverD (c₀ :: cs)=some (.iface 91 (.agg #[.int .i64 (e:Int)]),{ c₀ with mode:=.panicking [wrn' 91 e] } :: cs):=by simp [recoverD,hu,wrn,wrn']
 rw [show Tryz.f37.ntmps=11 from rfl]
 simp only [wpOpsS,List.range,List.range.loop,Array.size,List.length,List.getElem?_toArray,List.getElem?_cons_zero,List.getElem?_cons_succ,Region.wanted,if_true]
 have e1:∀ (ρ:Operand→Value) (d:Option Nat) (t:TypeId) (p:String) (af:Array Edge),(execOp ρ ⟨d,.call { callee:=.builtin .recover,args:=#[],argTypes:=#[] },t,p,af,none⟩).run Tryz.prog w=.ok .recover w:=fun ρ d t p af=>by
  simp [execOp,resolve,invoke,builtin]
 simp only [e1,hr]
 simp [execOp,Oper.upon,Exit.thenS,Act.put,Act.eval]
 refine wpS_of_wp ?_
 have e2:(binOp .eql 20 (.iface 91 (.agg #[.int .i64 (e:Int)])) .nilIface).run Tryz.prog w=.ok (.bool false) w:=by
  have hu20:=ifT_some FxGrBb.if20
  obtain ⟨q,hq⟩:=hu20
  have e4:∀ d,(Op.equalIn (d+1) 20 (.iface 91 (.agg #[.int .i64 (e:Int)])) .nilIface).run Tryz.prog w=.ok false w:=fun d=>by
   unfold Op.equalIn
   simp only [Sem.run_bind,run_underlying hq,Result.andThen_ok,Sem.run_pure]
  obtain ⟨d,hd⟩ : ∃ d,Op.maxDepth=d+1:=Nat.exists_eq_succ_of_ne_zero (by decide)
  simp [binOp,Op.equal,hd,e4]
 have e3:(eqGuard .eql 20 (.tmp 5) (.const .nilIface) (.iface 91 (.agg #[.int .i64 (e:Int)])) .nilIface).run Tryz.prog w=.ok () w:=by unfold eqGuard; simp
 refine wp_seq_k fun K1 hK1=>wp_seq_k fun K2 hK2=>wp_region ?_
 simp [wpOps,Region.wanted,execOp,Oper.wp,Oper.upon,Exit.then,Act.put,Act.eval,List.range,List.range.loop,e2,e3]
 refine .inl (.inl (hK2 _ _ ?_))
 refine wp_cond_false ?_ ?_
 ·simp [Act.eval]
 refine wp_skip ?_
 refine hK1 _ _ ?_
 refine wp_of_wk (fn:=Tryz.f37) (n:=11) (G:=G) (G1:=G) (K0:=keys [.blk be (cl es TE),.blk ba (cl [x] TI),.blk bc (cl [y] TC)]) (w0:=w) (ρ:=[(0,true,.pointer (some ⟨be,0,none⟩)),(1,true,.pointer (some ⟨ba,0,none⟩)),(2,true,.pointer (some ⟨bc,0,none⟩)),(3,true,.iface 91 (.agg #[.int .i64 (e:Int)]))]) (μ:=[.blk be (cl es TE),.blk ba (cl [x] TI),.blk bc (cl [y] TC)])
  (I:=fun a w'=>a.defers=[]∧Tr G (keys [.blk be (cl es TE),.blk ba (cl [x] TI),.blk bc (cl [y] TC)]) w G [.blk be (cl (EvD.cells EvD.zero (.slice none 0 0) (.slice none 0 0) (.slice none 0 0)) TE),.blk ba (cl [.int .i64 (e:Int)] TI),.blk bc (cl [.int .i64 260] TC)] w') ?_ ⟨by simp [fm0],rfl,?_⟩ (Tr.begin hs) ?_
 ·skip
  refine Wk.mixp ⟨false,false⟩ Fx.mix (by kernel_rfl) ?_
  refine Wp.one 0 (by kernel_rfl) ?_
  refine bCe (EvD.cells EvD.zero (.slice none 0 0) (.slice none 0 0) (.slice none 0 0)) rfl .no Fx.bp27_ .nil rfl (rfl) (.nil (Wp.one 1 (by kernel_rfl) ?_))
  refine mV rfl rfl (.nil (Wp.b2 2 4 (by kernel_rfl) ?_ ?_))
  ·refine tA rfl Fx.sr91 (.u rfl) ?_
   refine .nil (Wp.one 3 (by kernel_rfl) ?_)
   refine fdV rfl .no Fx.fl91_0 (.u rfl) (fun _=>rfl) ?_
   refine .nil (Wp.b1 4 (by kernel_rfl) ?_)
   refine sw rfl (.u rfl) (.u rfl) rfl Fx.sz27 .here (by rw [hl]; rfl) (EvD.one _ rfl rfl rfl) ?_
   refine .nil (Wp.b1 5 (by kernel_rfl) ?_)
   refine s1 rfl (.u rfl) (.u rfl) rfl Fx.sz3 tk1 (by first|decide|(simp only [wa_len,ba_len,qlA]; omega)) (rfl) ?_
   refine .nil (Wp.b1 6 (by kernel_rfl) ?_)
   refine s1 rfl (.u rfl) (.u rfl) rfl Fx.sz30 tk2 (by first|decide|(simp only [wa_len,ba_len,qlA]; omega)) (rfl) ?_
   refine .nil (Wp.last (by kernel_rfl) ?_)
   exact ⟨fun a w ha ht=>⟨ha.defers,ht.perm (mtk3 tk2 tk1 .here)⟩⟩
  refine sw rfl (.u rfl) (.u rfl) rfl Fx.sz27 .here (by rw [hl]; rfl) (EvD.one _ rfl rfl rfl) ?_
  refine .nil (Wp.b1 2 (by kernel_rfl) ?_)
  refine tA rfl Fx.sr91 (.u rfl) ?_
  refine .nil (Wp.one 3 (by kernel_rfl) ?_)
  refine fdV rfl .no Fx.fl91_0 (.u rfl) (fun _=>rfl) ?_
  refine .nil (Wp.b1 5 (by kernel_rfl) ?_)
  refine s1 rfl (.u rfl) (.u rfl) rfl Fx.sz3 tk1 (by first|decide|(simp only [wa_len,ba_len,qlA]; omega)) (rfl) ?_
  refine .nil (Wp.b1 6 (by kernel_rfl) ?_)
  refine s1 rfl (.u rfl) (.u rfl) rfl Fx.sz30 tk2 (by first|decide|(simp only [wa_len,ba_len,qlA]; omega)) (rfl) ?_
  refine .nil (Wp.last (by kernel_rfl) ?_)
  exact ⟨fun a w ha ht=>⟨ha.defers,ht.perm (mtk3 tk2 tk1 .here)⟩⟩
 ·intro i c v h
  simp only [look_cons] at h
  repeat' split at h
  all_goals first
   | (rename_i hq; subst hq; cases h; simp)
   | cases h
 rintro a w' ⟨h1,h2⟩
 refine ⟨h1,.panicking [wrn' 91 e],rfl,.tuple #[],?_,⟨_,rfl⟩,rfl,h2⟩
 simp [results,Tryz.f37]
end Go.Proofs.YtoifkgkandfeiaaGreatDoor
namespace Go.Proofs.YtoifkgkandfeiaaGreatDoor
open Go.Tan Go.RowKit Go.Maps Go.Sort Go.Shelf
namespace Fx
theorem go36:goFn Tryz.prog 36=true:=by kernel_rfl
theorem bp94_0_2:bPl Tryz.prog 94 [0,2]=some ([.string ByteArray.empty,.int .i64 0,.bool false,.int .i64 0],[(0,1),(2,1)]):=by kernel_rfl
theorem go38:goFn Tryz.prog 38=true:=by kernel_rfl
end Fx
theorem decS_ok (s:List UInt8) (k:Nat) (G:PM) (h:k<s.length) (h7:s[k].toNat<127):Ct Tryz.prog 36 ([.string (bstr ((yb (txt s)).drop k))]:List Value).toArray G [] (fun _ μ' u=>μ'=[]∧u=.tuple #[.int .i32 (s[k].toNat:Int),.int .i64 1]):=by
 rw [txt_drop]
 exact ct_same fun w=>Tryz.utf8_DecodeRuneInString_ascii (txt (s.drop k)) s[k] w (dropT_at h) (by omega)
theorem parse_seen (s:List UInt8) (G:PM) (hl:s.length≤1000) (hsn:s.all seenY=true):Ct Tryz.prog 17 ([.string (txt s)]:List Value).toArray G [] (fun G' μ' u=>∃ (e:EvD) (hO hK hB:Sh) (i:Nat) (c:Int),PrsR s e i c∧μ'=[]∧u=.tuple #[.agg (EvD.cells e (hO.val e.ops.length) (hK.val e.keep.length) (hB.val e.bytes.length)).toArray,.int .i64 (i:Int),.int .i64 c]∧SlR G' 3 Opn.cells hO e.ops∧SlR G' 1 encZ hK e.keep∧SlR G' 1 encY hB (yb (txt e.bytes))):=by
 refine Ct.of Tryz.func17 rfl Tryz.ntmps17 rfl fun w0 hs0=>?_
 have hts:(txt s).size=s.length:=rfl
 refine .seq (rq3 rfl rfl ?_)
 refine al rfl Fx.zr27 ?_; intro b2
 refine al rfl Fx.zr3 ?_; intro b3
 refine al rfl FxGrBb.zr30 ?_; intro b4
 refine .nil (.code (.seq (.seq (rq3 rfl rfl (mV rfl rfl (ls rfl .no Fx.st9 (.u rfl) (cp rfl .no (.u rfl) (.u rfl) rfl (.nil (.code (.cond rfl (fun c1=>?_) (fun c1=>?_)))))))))))
 ·have c1k:=c1
  have c1:=of_decide_eq_true c1
  omega
 have c1k:=c1
 try simp only [qcA,qcC,qcB] at c1
 refine .skip (.code (.seq (.seq (rq2 rfl rfl (mV rfl rfl ?_)))))
 refine rgT rfl Fx.st9 (.u rfl) ?_; intro b15
 refine .nil (.code (.block ?_))
 refine Wk.lop (α:=Nat) (fun _=>[]) (fun k=>[.blk b15 (.stringIter (txt s) k)])
  (fun k Gl=>(k≤s.length)) (fun k=>s.length-k) 0 [(0,true,_),(2,true,_),(3,true,_),(4,true,_),(15,true,_)] [_,_,_]
  (esD rfl (esD rfl (esD rfl (esD rfl (esD rfl eZ)))))
  (mS .here rfl (mS .here rfl (mS .here rfl (mS .here rfl mN)))) ?_ ?_
 ·(try dsimp only)<;>(first|omega|rfl|assumption|(simp; done))
 intro k N0 Gl0 hN0 hGl0 hF0
 try dsimp only at hF0 hN0 ⊢
 have hk:=hF0
 refine .seq (rq2 rfl rfl (nxt_ rfl (.u rfl) .here ?_))
 refine ex (vs:=(itA (txt s) k).toList) rfl .no (.u rfl) (it_b _ _) (.nil (.code (.seq (.cond rfl (fun c2=>?_) (fun c2=>?_)))))
 ·have c2k:=c2
  try simp only [qcA,qcC,qcB] at c2
  refine .skip (.code (.block (.seq (rq4 rfl rfl ?_))))
  have hkl:k<s.length:=by rw [← hts]; simpa using c2
  obtain ⟨er,h32,h127,hit⟩:=seen_step (d:=s) (k:=k) hkl hsn
  refine ex (vs:=(itA (txt s) k).toList) rfl .no (.u rfl) (it_i hkl) (ex (vs:=(itA (txt s) k).toList) rfl .no (.u rfl) (it_r hkl) (aS rfl rfl (aS rfl rfl (.nil (.code (.seq (rq9 rfl rfl (mV rfl rfl (mV rfl rfl (sD (k) rfl .no Fx.st9 (.u rfl) (.u rfl) (fun _=>by omega) (fun _=>by rw [txt_size]; omega) ?_))))))))))
  refine kv rfl .no Fx.go36 (Evc rfl Evn) (fun _=>decS_ok s k _ hkl h127) ?_
  refine mV rfl rfl (ex rfl .no (.u rfl) rfl (ex rfl .no (.u rfl) rfl (aS rfl rfl (aS rfl rfl (.nil (.code (.seq (Wk.rg [0,1,2,3,4,5,6,7,8,9,10,11,12,13] rfl rfl (mV rfl rfl (cp rfl .no (.u rfl) (.u rfl) rfl (mV rfl rfl (mv rfl (.f rfl rfl) (.u rfl) (cp rfl (.f rfl rfl) (.s rfl) (.u rfl) rfl (pkO rfl .no (.u rfl) (.s rfl) (mV rfl rfl (mv rfl (.f rfl rfl) (.u rfl) (cp rfl (.f rfl rfl) (.s rfl) (.u rfl) rfl (mv rfl (.f rfl rfl) (.s rfl) (mv rfl (.tc rfl rfl) (.u rfl) (cp rfl (.tc rfl rfl) (.s rfl) (.u rfl) rfl (pkA rfl (.f rfl rfl) (.s rfl) (.s rfl) (pkO rfl .no (.u rfl) (.s rfl) (.nil (.code (.cond rfl (fun c3=>?_) (fun c3=>?_))))))))))))))))))))))))))
  ·have c3k:=c3
   rw [er] at c3
   simp at c3
   omega
  have c3k:=c3
  try simp only [qcA,qcC,qcB] at c3
  refine .skip (.blk (We.lpo (k+1) ?_ ?_ ?_ ?_ ?_))
  ·exact (esD rfl (esD rfl (esD rfl (esD rfl (esD rfl eZ)))))
  ·exact (mS .here (by rw [hit]) (mS .here rfl (mS .here rfl (mS .here rfl mN))))
  ·first|omega|(dsimp only; omega)
  ·exact hGl0
  (try dsimp only)<;>(first|omega|rfl|assumption|(simp; done))
 have c2k:=c2
 try simp only [qcA,qcC,qcB] at c2
 refine .exit (.xcode (.xlp (.xblk (.code (.seq (Wk.defersE [0] 1 ⟨37,[],[.pointer (some ⟨b2,0,none⟩),.pointer (some ⟨b3,0,none⟩),.pointer (some ⟨b4,0,none⟩)]⟩ 91 b2 b3 b4 27 3 30 11 (EvD.cells EvD.zero (.slice none 0 0) (.slice none 0 0) (.slice none 0 0)) (.int .i64 260) (fun e=>parseD s=.error e) (fun e=>[.agg (EvD.cells EvD.zero (.slice none 0 0) (.slice none 0 0) (.slice none 0 0)).toArray,.int .i64 (e:Int),.int .i64 260]) Fx.go37 rfl rfl (fun w G e es x y hs hl=>parse1_pan w G e es x y b2 b3 b4 27 3 30 hs hl) (fun e hD G'=>⟨EvD.zero,⟨none,0⟩,⟨none,0⟩,⟨none,0⟩,e,260,.inr ⟨hD,rfl,rfl⟩,rfl,rfl,SlR.nul,SlR.nul,nulB⟩) rfl rfl (mf (vf:=#[]) (vc:=[Value.pointer (some ⟨b2,0,none⟩),Value.pointer (some ⟨b3,0,none⟩),Value.pointer (some ⟨b4,0,none⟩)].toArray) rfl .no (fun a ha _=>by simp) (fun a ha _=>by simp [(Ev.u (c:=true) rfl:Ev _ true (.tmp 2) _).eval ha rfl,(Ev.u (c:=true) rfl:Ev _ true (.tmp 3) _).eval ha rfl,(Ev.u (c:=true) rfl:Ev _ true (.tmp 4) _).eval ha rfl]) ?_)))))))
 refine .nil ⟨DefOp.clo rfl rfl,?_⟩
 refine .code (.seq (rq6 rfl rfl (mV rfl rfl (mV rfl rfl (cs rfl .no (.u rfl) (.u rfl) rfl (bCe (Ln.cells ⟨s,0, !decide (s=[]),0⟩) rfl .no Fx.bp94_0_2 (.cons (.u rfl) rfl (.cons (.u rfl) rfl .nil)) rfl (by rw [← ne0_txt]; rfl) ?_))))))
 refine bx rfl (.u rfl) rfl ?_; intro b48
 refine aS rfl rfl (.nil (.code (.seq (rq5 rfl rfl (mV rfl rfl (kpo rfl Fx.go38 (Evc rfl Evn) (mtk1 .here) (levent_p b48 ⟨s,0, !decide (s=[]),0⟩ _ (fits0 hl)) (fun ch G9 ρ9 μ9 hle9 hd he hm=>dieE_of hd he hm tk3 rfl tk2 tk1 (fun e=>.cell rfl (fun w hw=>run_loadVarN Fx.ag27 (RdN.own .here) rfl hw) (.cell rfl (fun w hw=>run_loadVar1 Fx.ag3 (Rd.own tk1 rfl w hw)) (.cell rfl (fun w hw=>run_loadVar1 Fx.ag30 (Rd.own tk2 rfl w hw)) .nil)))) ?_))))))
 rintro _ G50 μ50 hG50 ⟨e,hO,hK,hB,lx,he,hfx,rfl,rfl,hsO,hsK,hsB⟩
 refine sw rfl (.u rfl) (.u rfl) rfl Fx.sz27 tk4 rfl (EvD.one _ rfl rfl rfl) ?_
 refine s1 rfl (.u rfl) (.u rfl) rfl Fx.sz3 tk4 (by first|decide|(simp only [wa_len,ba_len,qlA]; omega)) (rfl) ?_
 refine s1 rfl (.u rfl) (.u rfl) rfl Fx.sz30 tk4 (by first|decide|(simp only [wa_len,ba_len,qlA]; omega)) (rfl) ?_
 refine .nil (.code (.ret (We.finQ [⟨37,[],[.pointer (some ⟨b2,0,none⟩),.pointer (some ⟨b3,0,none⟩),.pointer (some ⟨b4,0,none⟩)]⟩] rfl (by intro q hq; rw [List.mem_singleton.1 hq]; exact ⟨Fx.go37,fun w hw=>parse1_ret w _ _ _⟩) Tryz.results17 (.cell rfl (fun w hw=>run_loadVarN Fx.ag27 (RdN.own tk2) (rfl) hw) (.cell rfl (fun w hw=>run_loadVar1 Fx.ag3 (Rd.own tk1 rfl w hw)) (.cell rfl (fun w hw=>run_loadVar1 Fx.ag30 (Rd.own .here rfl w hw)) .nil))) mN ?_)))
 exact ⟨e,hO,hK,hB,0,0,.inl ⟨he,rfl,rfl⟩,rfl,rfl,hsO,hsK,hsB⟩
end Go.Proofs.YtoifkgkandfeiaaGreatDoor
namespace Go.Proofs
open Go.Shelf
def Tryz.lays156_ren:Go.Shelf.Ren:=⟨fun | 156=>79 | 165=>119 | 166=>43 | 169=>46 | 240=>78 | 241=>181 | 276=>118 | 277=>248 | n=>n,fun | 31=>97 | 9=>9 | 3=>3 | 4=>4 | 0=>0 | 20=>20 | 72=>106 | 76=>109 | 70=>104 | 37=>25 | 75=>108 | 127=>148 | 164=>217 | 5=>5 | 80=>112 | n=>n,fun | n=>n⟩
theorem Tryz.lays156:Go.Proofs.Lays.n156 Tryz.prog Tryz.lays156_ren:={
 mixed:=by kernel_rfl
 f156:=Tryz.func79.trans (congrArg some (by kernel_rfl))
 f165:=Tryz.func119.trans (congrArg some (by kernel_rfl))
 f166:=Tryz.func43.trans (congrArg some (by kernel_rfl))
 f169:=Tryz.func46.trans (congrArg some (by kernel_rfl))
 f240:=Tryz.func78.trans (congrArg some (by kernel_rfl))
 f241:=Tryz.func181.trans (congrArg some (by kernel_rfl))
 f276:=Tryz.func118.trans (congrArg some (by kernel_rfl))
 f277:=Tryz.func248.trans (congrArg some (by kernel_rfl))
 t0:=Tryz.underlying0
 a0:=Tryz.isAgg0
 z0:=Tryz.sizeOf0
 v0:=Tryz.zeroValue0
 t3:=Tryz.underlying3
 a3:=Tryz.isAgg3
 z3:=Tryz.sizeOf3
 v3:=Tryz.zeroValue3
 t4:=Tryz.underlying4
 a4:=Tryz.isAgg4
 z4:=Tryz.sizeOf4
 v4:=Tryz.zeroValue4
 t9:=Tryz.underlying9
 a9:=Tryz.isAgg9
 z9:=Tryz.sizeOf9
 v9:=Tryz.zeroValue9
 t20:=Tryz.underlying20
 a20:=Tryz.isAgg20
 z20:=Tryz.sizeOf20
 v20:=Tryz.zeroValue20
 t31:=Tryz.underlying97
 a31:=Tryz.isAgg97
 z31:=Tryz.sizeOf97
 v31:=Tryz.zeroValue97
 t37:=Tryz.underlying25
 a37:=Tryz.isAgg25
 z37:=Tryz.sizeOf25
 v37:=Tryz.zeroValue25
 t70:=Tryz.underlying104
 a70:=Tryz.isAgg104
 z70:=Tryz.sizeOf104
 v70:=Tryz.zeroValue104
 t72:=Tryz.underlying106
 a72:=Tryz.isAgg106
 z72:=Tryz.sizeOf106
 v72:=Tryz.zeroValue106
 t75:=Tryz.underlying108
 a75:=Tryz.isAgg108
 z75:=Tryz.sizeOf108
 v75:=Tryz.zeroValue108
 t76:=Tryz.underlying109
 a76:=Tryz.isAgg109
 z76:=Tryz.sizeOf109
 v76:=Tryz.zeroValue109
 t127:=Tryz.underlying148
 a127:=Tryz.isAgg148
 z127:=Tryz.sizeOf148
 v127:=Tryz.zeroValue148
 t164:=Tryz.underlying217
 a164:=Tryz.isAgg217
 z164:=Tryz.sizeOf217
 v164:=Tryz.zeroValue217 }
theorem Tryz.Builder_Extra_156:Builder.Extra Tryz.prog Tryz.lays156_ren:={
 sizeBuilder:=by kernel_rfl
 liesBuilder:=by kernel_rfl
 t5:=Tryz.underlying5
 a5:=Tryz.isAgg5
 z5:=Tryz.sizeOf5
 v5:=Tryz.zeroValue5
 infoByte:=by kernel_rfl
 cellsByte:=by kernel_rfl
 sizeByte:=by kernel_rfl
 neB5:=by decide }
open Go.RowKit in
theorem Tryz.strings_Join (bk o c:Nat) (xs:List ByteArray) (sep:ByteArray) (w:World) (hcells:∀ (j:Nat) x,xs[j]? = some x→w.cell? ⟨bk,o+j,none⟩=some (.string x)) (hbk:bk<w.heap.size) (hN:xs.length≤140737488355328) (hcap:xs.length≤c) (hlen:(Lib.join (xs.map (·.data.toList)) sep.data.toList).length≤140737488355328) :
  Calls Tryz.prog 79 #[.slice (some ⟨bk,o,none⟩) xs.length c,.string sep] w fun e w'=>e=.returned (.string ⟨(Lib.join (xs.map (·.data.toList)) sep.data.toList).toArray⟩)∧Below w.heap.size w w':=Any.strings_Join Tryz.lays156 Tryz.Builder_Extra_156 bk o c xs sep w hcells hbk hN hcap hlen
def Tryz.lays283_ren:Go.Shelf.Ren:=⟨fun | 283=>182 | n=>n,fun | 3=>3 | 9=>9 | 4=>4 | n=>n,fun | n=>n⟩
theorem Tryz.lays283:Go.Proofs.Lays.n283 Tryz.prog Tryz.lays283_ren:={
 mixed:=by kernel_rfl
 f283:=Tryz.func182.trans (congrArg some (by kernel_rfl))
 t3:=Tryz.underlying3
 a3:=Tryz.isAgg3
 z3:=Tryz.sizeOf3
 v3:=Tryz.zeroValue3
 t4:=Tryz.underlying4
 a4:=Tryz.isAgg4
 z4:=Tryz.sizeOf4
 v4:=Tryz.zeroValue4
 t9:=Tryz.underlying9
 a9:=Tryz.isAgg9
 z9:=Tryz.sizeOf9
 v9:=Tryz.zeroValue9 }
open Go.Lib in
theorem Tryz.internal_strconv_small (i:Nat) (h:i<100) (w:World) :
  Calls Tryz.prog 182 #[.int .i64 i] w fun e w'=>e=.returned (.string ⟨(Lib.decDigits i).toArray⟩)∧w'=w:=Any.internal_strconv_small Tryz.lays283 i h w
def Tryz.laysM284_ren:Go.Shelf.Ren:=⟨fun | 284=>183 | 129=>250 | 317=>249 | 318=>251 | n=>n,fun | 53=>23 | 3=>3 | 212=>365 | 0=>0 | 4=>4 | 46=>206 | 5=>5 | 9=>9 | n=>n,fun | 17=>2 | n=>n⟩
theorem Tryz.laysM284:Go.Proofs.LaysM.n284 Tryz.prog Tryz.laysM284_ren:={
 mixed:=by kernel_rfl
 f129:=Tryz.func250.trans (congrArg some (by kernel_rfl))
 f284:=Tryz.func183.trans (congrArg some (by kernel_rfl))
 f317:=Tryz.func249.trans (congrArg some (by kernel_rfl))
 f318:=Tryz.func251.trans (congrArg some (by kernel_rfl))
 t0:=Tryz.underlying0
 a0:=Tryz.isAgg0
 z0:=Tryz.sizeOf0
 v0:=Tryz.zeroValue0
 t3:=Tryz.underlying3
 a3:=Tryz.isAgg3
 z3:=Tryz.sizeOf3
 v3:=Tryz.zeroValue3
 t4:=Tryz.underlying4
 a4:=Tryz.isAgg4
 z4:=Tryz.sizeOf4
 v4:=Tryz.zeroValue4
 t5:=Tryz.underlying5
 a5:=Tryz.isAgg5
 z5:=Tryz.sizeOf5
 v5:=Tryz.zeroValue5
 t9:=Tryz.underlying9
 a9:=Tryz.isAgg9
 z9:=Tryz.sizeOf9
 v9:=Tryz.zeroValue9
 t46:=Tryz.underlying206
 a46:=Tryz.isAgg206
 z46:=Tryz.sizeOf206
 v46:=Tryz.zeroValue206
 t53:=Tryz.underlying23
 a53:=Tryz.isAgg23
 z53:=Tryz.sizeOf23
 v53:=Tryz.zeroValue23
 t212:=Tryz.underlying365
 a212:=Tryz.isAgg365
 z212:=Tryz.sizeOf365
 v212:=Tryz.zeroValue365
 g17:=by kernel_rfl
 i0:=by kernel_rfl
 i3:=by kernel_rfl
 i4:=by kernel_rfl
 i5:=by kernel_rfl
 i9:=by kernel_rfl
 i46:=by kernel_rfl
 i53:=by kernel_rfl
 i212:=by kernel_rfl
 m17:=by kernel_rfl }
open Go.Lib in
theorem Tryz.internal_strconv_numDigits (u:Nat) (h1:1≤u) (h2:u<18446744073709551616) (w:World) (htab:Lib.TabIs Tryz.prog w "internal/strconv.uint64pow10" .u64 Lib.pow10Tab) :
  Calls Tryz.prog 183 #[.int .u64 u] w fun e w'=>e=.returned (.int .i64 (Lib.nDigits u))∧w'=w:=Any.internal_strconv_numDigits Tryz.laysM284 u h1 h2 w htab
def Tryz.lays285_ren:Go.Shelf.Ren:=⟨fun | 285=>184 | n=>n,fun | 37=>25 | 53=>23 | 3=>3 | 4=>4 | 51=>344 | 9=>9 | 5=>5 | 0=>0 | n=>n,fun | n=>n⟩
theorem Tryz.lays285:Go.Proofs.Lays.n285 Tryz.prog Tryz.lays285_ren:={
 mixed:=by kernel_rfl
 f285:=Tryz.func184.trans (congrArg some (by kernel_rfl))
 t0:=Tryz.underlying0
 a0:=Tryz.isAgg0
 z0:=Tryz.sizeOf0
 v0:=Tryz.zeroValue0
 t3:=Tryz.underlying3
 a3:=Tryz.isAgg3
 z3:=Tryz.sizeOf3
 v3:=Tryz.zeroValue3
 t4:=Tryz.underlying4
 a4:=Tryz.isAgg4
 z4:=Tryz.sizeOf4
 v4:=Tryz.zeroValue4
 t5:=Tryz.underlying5
 a5:=Tryz.isAgg5
 z5:=Tryz.sizeOf5
 v5:=Tryz.zeroValue5
 t9:=Tryz.underlying9
 a9:=Tryz.isAgg9
 z9:=Tryz.sizeOf9
 v9:=Tryz.zeroValue9
 t37:=Tryz.underlying25
 a37:=Tryz.isAgg25
 z37:=Tryz.sizeOf25
 v37:=Tryz.zeroValue25
 t51:=Tryz.underlying344
 a51:=Tryz.isAgg344
 z51:=Tryz.sizeOf344
 v51:=Tryz.zeroValue344
 t53:=Tryz.underlying23
 a53:=Tryz.isAgg23
 z53:=Tryz.sizeOf23
 v53:=Tryz.zeroValue23 }
open Go.RowKit Go.Sort Go.Lib in
theorem Tryz.internal_strconv_formatBase10 (blk off cap:Nat) (u:Nat) (d:Array UInt8) (w:World) (hH:Holds (fun (b:UInt8)=>Value.int .u8 (b.toNat:Int)) w blk off d) (hu:u<10^d.size) (hu64:u<18446744073709551616) (hsz:d.size<4611686018427387904) :
  Calls Tryz.prog 184 #[.slice (some ⟨blk,off,none⟩) d.size cap,.int .u64 u] w fun e w' =>
   e=.returned (.tuple #[])∧∃ (n v':Nat) (dk:Array UInt8),w'=(putRow (fun (b:UInt8)=>Value.int .u8 (b.toNat:Int)) w blk off dk).drewN n∧FmtInv d.size u 0 v' dk:=Any.internal_strconv_formatBase10 Tryz.lays285 blk off cap u d w hH hu hu64 hsz
end Go.Proofs
namespace Go.Proofs.YtoifkgkandfeiaaGreatDoor
open Go.Tan Go.RowKit Go.Maps Go.Sort Go.Shelf
namespace Fx
theorem go78:goFn Tryz.prog 78=true:=by kernel_rfl
theorem fo106_1:fOff Tryz.prog 106 1=some 1:=by kernel_rfl
theorem pt148:ptE Tryz.prog 148=some 5:=by kernel_rfl
end Fx
theorem itoa_ok (n:Int) (G:PM) (h0 : -9223372036854775808≤n) (h1:n≤9223372036854775807) (hP:PwG Tryz.prog G):Ct Tryz.prog 45 ([.int .i64 n]:List Value).toArray G [] (fun _ μ' u=>μ'=[]∧u=.string (txt (Lib.itoa n))):=ct_grow fun w hs=>Tryz.strconv_Itoa n h0 h1 w (hP.tab hs)
theorem joinT_ok (h:Sh) (xs:List ByteArray) (G:PM) (hs:SlR G 1 encTx h xs) (h0:xs≠[]) (hN:xs.length≤140737488355328) (hl:(Lib.join (xs.map bts) [32]).length≤140737488355328):Ct Tryz.prog 79 ([h.val xs.length,.string (txt [32])]:List Value).toArray G [] (fun _ μ' u=>μ'=[]∧u=.string (txt (Lib.join (xs.map bts) [32]))):=by
 have e1:h.val xs.length=.slice (some ⟨h.b,h.o,none⟩) xs.length h.cap:=by unfold Sh.val; rw [hs.there h0]
 rw [e1]
 refine ct_below fun w hw=>?_
 obtain ⟨x,ex⟩:=getx (k:=0) (xs:=xs) (List.length_pos_iff.2 h0)
 have hc:=hs.strAt hw.sub
 have hb:h.b<w.heap.size:=by
  have h2:=hc 0 x ex
  rcases Nat.lt_or_ge h.b w.heap.size with h' | h'
  ·exact h'
  simp [World.cell?,Array.getElem?_eq_none h'] at h2
 exact Tryz.strings_Join h.b h.o h.cap xs (txt [32]) w hc hb hN hs.le hl
theorem ccf_ok (bb:Nat) (v:Value) (G:PM):Ct Tryz.prog 78 ([.pointer (some ⟨bb,0,none⟩)]:List Value).toArray G [.blk bb (cl [.pointer none,v] 106)] (fun _ μ' u=>μ'=[.blk bb (cl [.pointer (some ⟨bb,0,none⟩),v] 106)]∧u=.tuple #[]):=fun w hs=>by
 have hb:w.heap[bb]? = some (cl [.pointer none,v] 106):=hs.own _ (List.mem_singleton.2 rfl)
 refine (Any.Builder_copyCheck_fresh { Tryz.lays156 with } Tryz.Builder_Extra_156.toX72 bb w (by simp [World.cell?,hb]) (by simp [World.shape?,hb]; rfl) (by simp [World.frozen?,hb])).mono ?_
 rintro e w' ⟨rfl,rfl⟩
 have e1:w.setCell ⟨bb,0,none⟩ (.pointer (some ⟨bb,0,none⟩))=w.setRow bb [.pointer (some ⟨bb,0,none⟩),v].toArray:=setCell_eq_setRow w bb 0 #[.pointer none,v] 106 (0,0) _ hb
 rw [e1]
 exact ⟨_,G,_,rfl,Tr.setRow hs,rfl,rfl⟩
theorem ccu_ok (bb:Nat) (v:Value) (G:PM) (hb:PB G bb (cl [.pointer (some ⟨bb,0,none⟩),v] 106)):Ct Tryz.prog 78 ([.pointer (some ⟨bb,0,none⟩)]:List Value).toArray G [] (fun _ μ' u=>μ'=[]∧u=.tuple #[]):=fun w hs=>by
 have hb:w.heap[bb]? = some (cl [.pointer (some ⟨bb,0,none⟩),v] 106):=hs.sub _ _ hb.h
 refine (Any.Builder_copyCheck_used { Tryz.lays156 with } Tryz.Builder_Extra_156.toX72 bb w (by simp [World.cell?,hb])).mono ?_
 rintro e w' ⟨rfl,rfl⟩
 exact ⟨_,G,_,rfl,Tr.begin hs,rfl,rfl⟩
theorem wsf_ok (bb:Nat) (v:Value) (l:List UInt8) (s:ByteArray) (G:PM) (hv:v.oneCell'=true) (hl:l.length+s.size≤100000000):Ct Tryz.prog 43 ([.pointer (some ⟨bb,0,none⟩),.string s]:List Value).toArray G [.blk bb (cl [.pointer none,v] 106),rB v 5 (yb (txt (l)))] (fun _ μ' u=>∃ v':Value,v'.oneCell'=true∧μ'=[.blk bb (cl [.pointer (some ⟨bb,0,none⟩),v'] 106),rB v' 5 (yb (txt (l++bts s)))]∧u=.tuple #[.int .i64 (s.size:Int),.nilIface]):=by
 refine Ct.of Tryz.func43 rfl Tryz.ntmps43 rfl fun w0 hs0=>?_
 have hyl:(yb (txt l)).length=l.length:=yb_len _
 have hys:(yb s).length=s.size:=yb_len _
 refine .seq (rq2 rfl rfl (aS rfl rfl (aS rfl rfl (.nil (.code (.seq (rq2 rfl rfl (mV rfl rfl (ka rfl (.inr rfl) Fx.go78 (Evc rfl Evn) (mtk1 .here) (ccf_ok bb v _) ?_)))))))))
 rintro _ G7 μ7 hG7 ⟨rfl,rfl⟩
 refine .nil (.code (.seq (rq10 rfl rfl (mV rfl rfl (mV rfl rfl (nc rfl .no (.u rfl) (fz rfl .no Fx.fo106_1 (.u rfl) (ld rfl .no Fx.ag25 (.u rfl) (fun _=>Rd.own .here (by first|exact wap_f rfl|rfl)) ?_))))))))
 refine mV rfl rfl ?_
 refine apT rfl Fx.se25 Fx.st9 Fx.zv5 (.u rfl) (.u rfl) tk1 (by omega) ?_; intro v14 L14 ov14 eL14
 refine nc rfl .no (.u rfl) (fz rfl .no Fx.fo106_1 (.u rfl) (s1v rfl (.u rfl) (.u rfl) .here Fx.sz25 tk1 (by first|decide|(simp only [wa_len,ba_len,qlA]; omega)) (rfl) ?_))
 refine .nil (.code (.seq (rq4 rfl rfl (mV rfl rfl (ls rfl .no Fx.st9 (.u rfl) (aS rfl rfl (aS rfl rfl (.nil (.code (.ret (We.fin Tryz.results43 (.tmp rfl (.tmp rfl .nil)) (mS .here rfl (mS .here rfl mN)) ?_)))))))))))
 rw [eL14,yb_cat]
 exact ⟨v14,ov14,rfl,rfl⟩
theorem wsu_ok (bb:Nat) (v:Value) (l:List UInt8) (s:ByteArray) (G:PM) (hv:v.oneCell'=true) (hl:l.length+s.size≤100000000):Ct Tryz.prog 43 ([.pointer (some ⟨bb,0,none⟩),.string s]:List Value).toArray G [.blk bb (cl [.pointer (some ⟨bb,0,none⟩),v] 106),rB v 5 (yb (txt (l)))] (fun _ μ' u=>∃ v':Value,v'.oneCell'=true∧μ'=[.blk bb (cl [.pointer (some ⟨bb,0,none⟩),v'] 106),rB v' 5 (yb (txt (l++bts s)))]∧u=.tuple #[.int .i64 (s.size:Int),.nilIface]):=by
 refine Ct.of Tryz.func43 rfl Tryz.ntmps43 rfl fun w0 hs0=>?_
 have hyl:(yb (txt l)).length=l.length:=yb_len _
 have hys:(yb s).length=s.size:=yb_len _
 refine .seq (rq2 rfl rfl (aS rfl rfl (aS rfl rfl (.nil (.code (.seq (rq2 rfl rfl (mV rfl rfl (kp rfl .no Fx.go78 (Evc rfl Evn) (Gp.add .here Gp.nil) (fun _ hle hq=>ccu_ok bb v _ ⟨PM.add_same _ _ _⟩) ?_)))))))))
 refine .nil (.code (.seq (rq10 rfl rfl (mV rfl rfl (mV rfl rfl (nc rfl .no (.u rfl) (fz rfl .no Fx.fo106_1 (.u rfl) (ld rfl .no Fx.ag25 (.u rfl) (fun _=>Rd.own .here (by first|exact wap_f rfl|rfl)) ?_))))))))
 refine mV rfl rfl ?_
 refine apT rfl Fx.se25 Fx.st9 Fx.zv5 (.u rfl) (.u rfl) tk1 (by omega) ?_; intro v14 L14 ov14 eL14
 refine nc rfl .no (.u rfl) (fz rfl .no Fx.fo106_1 (.u rfl) (s1v rfl (.u rfl) (.u rfl) .here Fx.sz25 tk1 (by first|decide|(simp only [wa_len,ba_len,qlA]; omega)) (rfl) ?_))
 refine .nil (.code (.seq (rq4 rfl rfl (mV rfl rfl (ls rfl .no Fx.st9 (.u rfl) (aS rfl rfl (aS rfl rfl (.nil (.code (.ret (We.fin Tryz.results43 (.tmp rfl (.tmp rfl .nil)) (mS .here rfl (mS .here rfl mN)) ?_)))))))))))
 rw [eL14,yb_cat]
 exact ⟨v14,ov14,rfl,rfl⟩
theorem bstr_ok (bb:Nat) (v:Value) (l:List UInt8) (G:PM) (h0:l≠[]) (hl:l.length≤100000000):Ct Tryz.prog 46 ([.pointer (some ⟨bb,0,none⟩)]:List Value).toArray G [.blk bb (cl [.pointer (some ⟨bb,0,none⟩),v] 106),rB v 5 (yb (txt (l)))] (fun _ μ' u=>μ'=[]∧u=.string (txt l)):=by
 refine Ct.of Tryz.func46 rfl Tryz.ntmps46 rfl fun w0 hs0=>?_
 have hyl:(yb (txt l)).length=l.length:=yb_len _
 have h1:0<l.length:=List.length_pos_iff.2 h0
 refine .seq (rq1 rfl rfl (aS rfl rfl (.nil (.code (.seq ?_)))))
 refine wk_rv tk1 (by omega) ?_; intro b9 cap9 evRB lcRB; subst evRB
 refine Wk.mixp ⟨false,false⟩ Fx.mix (by kernel_rfl) ?_
 refine Wp.one 0 (by kernel_rfl) ?_
 refine mV rfl rfl (.nil (Wp.one 1 (by kernel_rfl) ?_))
 refine nc rfl .no (.u rfl) (.nil (Wp.one 2 (by kernel_rfl) ?_))
 refine fz rfl .no Fx.fo106_1 (.u rfl) (.nil (Wp.one 3 (by kernel_rfl) ?_))
 refine ld rfl .no Fx.ag25 (.u rfl) (fun _=>Rd.own .here (by first|exact wap_f rfl|rfl)) ?_
 refine .nil (Wp.one 5 (by kernel_rfl) ?_)
 refine mV rfl rfl (.nil (Wp.one 6 (by kernel_rfl) ?_))
 refine nc rfl .no (.u rfl) (.nil (Wp.one 7 (by kernel_rfl) ?_))
 refine fz rfl .no Fx.fo106_1 (.u rfl) (.nil (Wp.b2 4 8 (by kernel_rfl) ?_ ?_))
 ·refine uSD rfl (.u rfl) (by omega) ?_
  refine .nil (Wp.one 8 (by kernel_rfl) ?_)
  refine ld rfl .no Fx.ag25 (.u rfl) (fun _=>Rd.own .here (by first|exact wap_f rfl|rfl)) ?_
  refine .nil (Wp.one 9 (by kernel_rfl) ?_)
  refine lr rfl .no Fx.sn25 (.u rfl) tk1 ?_
  refine .nil (Wp.b1 10 (by kernel_rfl) ?_)
  refine uST (l:=l) rfl Fx.pt148 (.u rfl) (.u (by rw [← hyl]; rfl)) h0 (by omega) tk1 ?_
  refine .nil (Wp.one 11 (by kernel_rfl) ?_)
  refine aS rfl rfl (.nil (Wp.last (by kernel_rfl) ?_))
  refine .code (.ret (We.fin0 Tryz.results46 (.tmp rfl .nil) ?_))
  exact ⟨rfl,rfl⟩
 refine ld rfl .no Fx.ag25 (.u rfl) (fun _=>Rd.own .here (by first|exact wap_f rfl|rfl)) ?_
 refine .nil (Wp.b2 4 9 (by kernel_rfl) ?_ ?_)
 ·refine uSD rfl (.u rfl) (by omega) ?_
  refine .nil (Wp.one 9 (by kernel_rfl) ?_)
  refine lr rfl .no Fx.sn25 (.u rfl) tk1 ?_
  refine .nil (Wp.b1 10 (by kernel_rfl) ?_)
  refine uST (l:=l) rfl Fx.pt148 (.u rfl) (.u (by rw [← hyl]; rfl)) h0 (by omega) tk1 ?_
  refine .nil (Wp.one 11 (by kernel_rfl) ?_)
  refine aS rfl rfl (.nil (Wp.last (by kernel_rfl) ?_))
  refine .code (.ret (We.fin0 Tryz.results46 (.tmp rfl .nil) ?_))
  exact ⟨rfl,rfl⟩
 refine lr rfl .no Fx.sn25 (.u rfl) tk1 ?_
 refine .nil (Wp.b1 4 (by kernel_rfl) ?_)
 refine uSD rfl (.u rfl) (by omega) ?_
 refine .nil (Wp.b1 10 (by kernel_rfl) ?_)
 refine uST (l:=l) rfl Fx.pt148 (.u rfl) (.u (by rw [← hyl]; rfl)) h0 (by omega) tk1 ?_
 refine .nil (Wp.one 11 (by kernel_rfl) ?_)
 refine aS rfl rfl (.nil (Wp.last (by kernel_rfl) ?_))
 refine .code (.ret (We.fin0 Tryz.results46 (.tmp rfl .nil) ?_))
 exact ⟨rfl,rfl⟩
end Go.Proofs.YtoifkgkandfeiaaGreatDoor
namespace Go.Proofs.YtoifkgkandfeiaaGreatDoor
open Go.Tan Go.RowKit Go.Maps Go.Sort Go.Shelf
namespace Fx
theorem go120:goFn Tryz.prog 120=true:=by kernel_rfl
end Fx
theorem hz0 (w:World) (T:TypeId) (nd:Nat) (hs:nd≤24):Holds (fun (b:UInt8)=>Value.int .u8 (b.toNat:Int)) (w.alloc (.cells Lib.zeros24 T)) w.heap.size 0 (Array.replicate nd (0:UInt8)):=fun j hj=>by
 have hj':j<nd:=by simpa using hj
 refine ⟨?_,World.frozen?_alloc_new _ _ _ _⟩
 rw [World.cell?_alloc_new,Lib.zeros24_at _ (by omega),getElem!_pos _ j hj]
 simp
theorem fin0P (w:World) (o:Obj) (dk:Array UInt8) (k:Nat):∃ os,(putRow (fun (b:UInt8)=>Value.int .u8 (b.toNat:Int)) (w.alloc o) w.heap.size 0 dk).drewN k=grow (w.drewN k) os:=by
 rw [alloc_eq_grow]
 obtain ⟨os',_,e⟩:=putRow_grow_new (fun (b:UInt8)=>Value.int .u8 (b.toNat:Int)) w #[o] w.heap.size 0 dk (Nat.le_refl _)
 exact ⟨os',by rw [e]; rfl⟩
set_option maxHeartbeats 1000000 in
set_option maxRecDepth 100000 in
theorem fu10 (u:Nat) (hu64:u<18446744073709551616) (w:World) (htab:Lib.TabIs Tryz.prog w "internal/strconv.uint64pow10" .u64 Lib.pow10Tab):Calls Tryz.prog 120 #[.int .u64 u,.int .i64 10] w (fun e w'=>e=.returned (.string ⟨(Lib.decDigits u).toArray⟩)∧∃ k os,w'=grow (w.drewN k) os):=by
 by_cases hs:u<100
 ·go_enter Tryz.func120,Tryz.ntmps120
  go_wp2_with (go_at_call 182; refine (Tryz.internal_strconv_small u hs _).mono ?_; rintro e w' ⟨rfl,rfl⟩)
  go_ret
  exact ⟨rfl,0, #[],by simp [World.drewN_zero]⟩
 have hu1:1≤u:=by omega
 have hnd20:Lib.nDigits u≤20:=by have:=Lib.numDigits_eq u hu1 hu64; split at this<;>omega
 have hal:Tryz.prog.arrayLen 290=24:=by kernel_rfl
 have hsl1:∀ W,(Instr.sliceAt 290 (.pointer (some ⟨w.heap.size,0,none⟩)) none (some (.int .i64 (Lib.nDigits u:Int))) none).run Tryz.prog W=.ok (.slice (some ⟨w.heap.size,0,none⟩) (Lib.nDigits u) 24) W:=fun W=>by
  rw [run_sliceAt_array_h W 290 ⟨w.heap.size,0,none⟩ (by kernel_rfl) .i64 (Lib.nDigits u:Int) (by omega) (by rw [hal]; omega)]
  go_simp
 have hH0:=hz0 w 290 (Lib.nDigits u) (by omega)
 have hfmt:=Tryz.internal_strconv_formatBase10 w.heap.size 0 24 u (Array.replicate (Lib.nDigits u) 0) (w.alloc (.cells Lib.zeros24 290)) hH0 (by rw [Array.size_replicate]; exact Lib.lt_pow_nDigits u) hu64 (by rw [Array.size_replicate]; omega)
 rw [Array.size_replicate] at hfmt
 have HH0:=Lib.hid hH0
 clear hH0 hal
 go_enter Tryz.func120,Tryz.ntmps120
 go_wp2_with (go_at_call 183; refine (Tryz.internal_strconv_numDigits u hu1 hu64 _ (Lib.tabIs_alloc htab _)).mono ?_; rintro e w' ⟨rfl,rfl⟩)
 go_at_call 184
 refine hfmt.mono ?_
 rintro e w' ⟨rfl,k,v',dk,rfl,hF⟩
 have hcv:(convert 25 9 (.slice (some ⟨w.heap.size,0,none⟩) (Lib.nDigits u) 24)).run Tryz.prog ((putRow (fun (b:UInt8)=>Value.int .u8 (b.toNat:Int)) (w.alloc (.cells Lib.zeros24 290)) w.heap.size 0 dk).drewN k)=.ok (.string ⟨(Lib.decDigits u).toArray⟩) ((putRow (fun (b:UInt8)=>Value.int .u8 (b.toNat:Int)) (w.alloc (.cells Lib.zeros24 290)) w.heap.size 0 dk).drewN k):=by
  have h:=run_convert_bytes_back (P:=Tryz.prog) ((putRow (fun (b:UInt8)=>Value.int .u8 (b.toNat:Int)) (w.alloc (.cells Lib.zeros24 290)) w.heap.size 0 dk).drewN k) 25 9 5 ⟨w.heap.size,0,none⟩ 24 (Lib.decDigits u) Tryz.underlying25 Tryz.underlying5 Tryz.underlying9 (fun j hj=>by
   rw [Lib.row_is_numeral hF j hj,Lib.add_plain,World.cell?_drewN]
   exact cell?_putRow (fun (b:UInt8)=>Value.int .u8 (b.toNat:Int)) _ w.heap.size 0 _ dk HH0.out (by rw [hF.size,Array.size_replicate]) j (by rw [hF.size]; rw [Lib.decDigits_length] at hj; exact hj))
  rw [Lib.decDigits_length] at h
  exact h
 go_wp2
 go_ret
 obtain ⟨os,eo⟩:=fin0P w (.cells Lib.zeros24 290) dk k
 exact ⟨rfl,k,os,eo⟩
theorem fui_ok (u:BitVec 64) (G:PM) (hP:PwG Tryz.prog G):Ct Tryz.prog 120 ([uv .u64 u,.int .i64 10]:List Value).toArray G [] (fun _ μ' v=>μ'=[]∧v=.string (txt (Lib.decDigits u.toNat))):=ct_grow fun w hs=>fu10 u.toNat u.isLt w (hP.tab hs)
theorem ftu_ok (q:BitVec 64) (G:PM) (hP:PwG Tryz.prog G):Ct Tryz.prog 80 ([uv .u64 q,.int .i64 10]:List Value).toArray G [] (fun _ μ' u=>μ'=[]∧u=.string (txt (Lib.decDigits q.toNat))):=by
 refine Ct.of Tryz.func80 rfl Tryz.ntmps80 rfl fun w0 hs0=>?_
 refine .seq (rq1 rfl rfl (aS rfl rfl (.nil (.code (.seq (rq4 rfl rfl (mV rfl rfl (mV rfl rfl (kv rfl .no Fx.go120 (Evc rfl (Evc rfl Evn)) (fun _=>fui_ok q _ hP) ?_)))))))))
 refine aS rfl rfl (.nil (.code (.ret (We.fin0 Tryz.results80 (.tmp rfl .nil) ?_))))
 exact ⟨rfl,rfl⟩
end Go.Proofs.YtoifkgkandfeiaaGreatDoor
namespace Go.Proofs.YtoifkgkandfeiaaGreatDoor
open Go.Tan Go.RowKit Go.Maps Go.Sort Go.Shelf
namespace FxDkR
theorem sn40:(slE Tryz.prog 40).isSome=true:=by kernel_rfl
theorem se40:slE Tryz.prog 40=some (61,2,32):=by kernel_rfl
end FxDkR
namespace Fx
theorem fo43_0:fOff Tryz.prog 43 0=some 0:=by kernel_rfl
theorem go45:goFn Tryz.prog 45=true:=by kernel_rfl
theorem fo43_3:fOff Tryz.prog 43 3=some 3:=by kernel_rfl
theorem fo43_2:fOff Tryz.prog 43 2=some 2:=by kernel_rfl
theorem fo43_4:fOff Tryz.prog 43 4=some 4:=by kernel_rfl
theorem ag40:aggN Tryz.prog 40=some none:=by kernel_rfl
theorem ag61:aggN Tryz.prog 61=some (some 2):=by kernel_rfl
theorem zr61:zrL Tryz.prog 61=some ([.string ByteArray.empty,.string ByteArray.empty]):=by kernel_rfl
theorem sz61:szT Tryz.prog 61=some 2:=by kernel_rfl
theorem fo61_0:fOff Tryz.prog 61 0=some 0:=by kernel_rfl
theorem fo61_1:fOff Tryz.prog 61 1=some 1:=by kernel_rfl
theorem go79:goFn Tryz.prog 79=true:=by kernel_rfl
theorem fo43_1:fOff Tryz.prog 43 1=some 1:=by kernel_rfl
theorem go80:goFn Tryz.prog 80=true:=by kernel_rfl
theorem fo43_5:fOff Tryz.prog 43 5=some 5:=by kernel_rfl
theorem ag41:aggN Tryz.prog 41=some none:=by kernel_rfl
theorem sn41:(slE Tryz.prog 41).isSome=true:=by kernel_rfl
end Fx
theorem told_ok (e:EvD) (vo vk vb:Value) (r:Rep) (hp hd:Sh) (G:PM) (ho:vo.oneCell'=true) (hk9:vk.oneCell'=true) (hb9:vb.oneCell'=true) (hsp:SlR G 2 encPr hp r.pairs) (hsd:SlR G 2 encDn hd r.dones) (hr:r.ok) (hP:PwG Tryz.prog G):Ct Tryz.prog 44 ([.agg (EvD.cells e vo vk vb).toArray,.agg (Rep.cells r (hp.val r.pairs.length) (hd.val r.dones.length)).toArray]:List Value).toArray G [] (fun _ μ' u=>μ'=[]∧u=.string (txt (toldT e.kind e.n r))):=by
 refine Ct.of Tryz.func44 rfl Tryz.ntmps44 rfl fun w0 hs0=>?_
 obtain ⟨hre0,hre1⟩:=hr.err
 obtain ⟨hpl,hpp⟩:=hr.pairs
 obtain ⟨hdl,hdd⟩:=hr.dones
 have hvl:=hr.value
 refine .seq (rq3 rfl rfl ?_)
 refine bx rfl (.u rfl) rfl ?_; intro b2
 refine bx rfl (.u rfl) rfl ?_; intro b3
 refine aS rfl rfl (.nil (.code (.seq (.seq (rq3 rfl rfl (fz rfl .no Fx.fo43_0 (.u rfl) (ld rfl .no Fx.ag30 (.u rfl) (fun _=>Rd.own .here rfl) ?_)))))))
 refine cp rfl .no (.u rfl) (.u rfl) rfl (.nil (.code (.cond rfl (fun c1=>?_) (fun c1=>?_))))
 ·have c1k:=c1
  try simp only [qcA,qcC,qcB] at c1
  refine .seq (rq5 rfl rfl (fz rfl .no Fx.fo43_0 (.u rfl) (ld rfl .no Fx.ag30 (.u rfl) (fun _=>Rd.own .here rfl) ?_)))
  refine kv rfl .no Fx.go45 (Evc rfl Evn) (fun _=>itoa_ok r.err _ hre0 hre1 hP) ?_
  refine sPt (toldT e.kind e.n r) rfl .no (.u rfl) (.u rfl) (by unfold toldT; rw [if_neg c1]; rfl) (fun _=>by have:=itoa_le hre0 hre1; show 6+(Lib.itoa r.err).length≤_; omega) ?_
  refine aS rfl rfl (.nil (.code (.ret (We.fin0 Tryz.results44 (.tmp rfl .nil) ?_))))
  exact ⟨rfl,rfl⟩
 have c1k:=c1
 try simp only [qcA,qcC,qcB] at c1
 refine .skip (.code (.seq (.seq (rq2 rfl rfl (fz rfl .no Fx.fo27_0 (.u rfl) (ld rfl .no Fx.ag5 (.u rfl) (fun _=>Rd.own tk1 (by first|exact wap_f rfl|rfl)) ?_))))))
 refine .nil (.code (.block (.seq (rq2 rfl rfl (cp rfl .no (.u rfl) (.u rfl) rfl (aS rfl rfl (.nil (.code (.cond rfl (fun c2=>?_) (fun c2=>?_))))))))))
 ·have c2k:=c2
  have c2:=ky_t (m:=2) c2
  refine .seq (.seq (rq2 rfl rfl (fz rfl .no Fx.fo43_3 (.u rfl) (ld rfl .no Fx.ag4 (.u rfl) (fun _=>Rd.own .here (by first|exact wap_f rfl|rfl)) ?_))))
  refine .nil (.code (.cond rfl (fun c3=>?_) (fun c3=>?_)))
  ·have c3k:=c3
   try simp only [qcA,qcC,qcB] at c3
   refine .seq (rq4 rfl rfl (fz rfl .no Fx.fo43_2 (.u rfl) (ld rfl .no Fx.ag9 (.u rfl) (fun _=>Rd.own .here (by first|exact wap_f rfl|rfl)) ?_)))
   refine sPt (61 :: bts r.value) rfl .no (.u rfl) (.u rfl) (rfl) (fun _=>by show 1+r.value.size≤_; omega) ?_
   refine aS rfl rfl (.nil (.code (.ret (We.fin0 Tryz.results44 (.tmp rfl .nil) ?_))))
   refine ⟨rfl,?_⟩
   unfold toldT okT
   rw [if_pos c1,if_pos c2,if_pos c3k]
   rfl
  have c3k:=c3
  try simp only [qcA,qcC,qcB] at c3
  refine .skip (.code (.seq (rq1 rfl rfl (aS rfl rfl (.nil (.code (.ret (We.fin0 Tryz.results44 (.tmp rfl .nil) ?_))))))))
  refine ⟨rfl,?_⟩
  unfold toldT okT
  rw [if_pos c1,if_pos c2,if_neg (by rw [c3k]; decide)]
  rfl
 have c2k:=c2
 have c2:=ky_f (m:=2) (by decide) c2
 refine .seq (rq2 rfl rfl (cp rfl .no (.u rfl) (.u rfl) rfl (aS rfl rfl (.nil (.code (.cond rfl (fun c4=>?_) (fun c4=>?_)))))))
 ·have c4k:=c4
  have c4:=ky_t (m:=3) c4
  refine .seq (rq1 rfl rfl (aS rfl rfl (.nil (.code (.seq (.seq (wk_nilS 1 encTx 9 ?_)))))))
  refine rq4 rfl rfl (fz rfl .no Fx.fo43_4 (.u rfl) (ld rfl .no Fx.ag40 (.u rfl) (fun _=>Rd.own tk1 rfl) ?_))
  refine ln rfl .no FxDkR.sn40 (.u rfl) (mV rfl rfl (.nil (.code (.block ?_))))
  refine Wk.lop (α:=Nat×Value) (fun gh=>[(5,true,gh.2),(29,true,.int .i64 (gh.1:Int))]) (fun gh=>[rS 1 encTx gh.2 9 ((r.pairs.take gh.1).map pairB)])
   (fun gh Gl=>(gh.1≤r.pairs.length)) (fun gh=>r.pairs.length-gh.1) (0,.slice none 0 0) [(27,true,_),(28,true,_)] [_,_]
   (esD rfl (esC rfl (by first|rfl|exact evi (by omega)) (esD rfl (esD rfl eZ))))
   (mS .here rfl (mS .here rfl (mS .here rfl mN))) ?_ ?_
  ·(try dsimp only)<;>(first|omega|rfl|assumption|(simp; done))
  intro gh N0 Gl0 hN0 hGl0 hF0
  obtain ⟨k,v⟩:=gh; dsimp only at hF0 hN0 ⊢
  have hk:=hF0
  have hsp:=hsp.mono hGl0
  have hP:=hP.mono hGl0
  refine .seq (rq1 rfl rfl (cp rfl .no (.u rfl) (.u rfl) rfl (.nil (.code (.seq (.cond rfl (fun c5=>?_) (fun c5=>?_)))))))
  ·have c5k:=c5
   try simp only [qcA,qcC,qcB] at c5
   refine .skip (.code (.seq (.block (.seq (rq4 rfl rfl (ih rfl .no FxDkR.se40 (.u rfl) (.u rfl) (fun _=>by omega) (fun _=>by omega) (fun _=>hsp.nn (k:=k) (by first|omega|(simp only [Bool.and_eq_true,decide_eq_true_eq] at hc; omega)|(simp only [List.length_cons,List.length_nil]; omega))) ?_))))))
   obtain ⟨p,ep⟩:=getx (k:=k) (xs:=r.pairs) (by omega)
   have hpq:=hpp p (List.mem_of_getElem? ep)
   refine lA rfl .no Fx.ag61 (.u rfl) (fun _=>(hsp.at (by omega) ep).rd) (fun _=>rfl) ?_
   refine al rfl Fx.zr61 ?_; intro b7
   refine sw rfl (.u rfl) (.u rfl) rfl Fx.sz61 .here rfl (one2 rfl rfl) ?_
   refine .nil (.code (rq10 rfl rfl (mV rfl rfl (fz rfl .no Fx.fo61_0 (.u rfl) (ld rfl .no Fx.ag9 (.u rfl) (fun _=>Rd.own .here (by first|exact wap_f rfl|rfl)) ?_)))))
   refine sPt (bts p.1++[61]) rfl .no (.u rfl) (.u rfl) (rfl) (fun _=>by show p.1.size+1≤_; omega) ?_
   refine fz rfl .no Fx.fo61_1 (.u rfl) (ld rfl .no Fx.ag9 (.u rfl) (fun _=>Rd.own .here (by first|exact wap_f rfl|rfl)) ?_)
   refine sPt (pairT p) rfl .no (.u rfl) (.u rfl) (by unfold pairT; rw [bts_txt,List.append_assoc]; rfl) (fun _=>by rw [txt_size,List.length_append,bts_len]; show p.1.size+1+p.2.size≤_; omega) ?_
   refine Go.Tan.b1 rfl FxGrQ.se97 FxGrQ.zv9 (.u rfl) rfl rfl (by decide) ?_; intro b40
   refine apS (xs:=((r.pairs.take k).map pairB)) ((pairB p)) rfl FxGrQ.se97 FxGrQ.zv9 rfl (.u rfl) (.u rfl) tk2 .here (rfl) (one1 rfl) (by rw [List.length_map,List.length_take]; omega) (by rw [List.length_map,List.length_take]; unfold maxLen; omega) ?_; intro v41 ov41
   refine aS rfl rfl (.nil (.blk (.code (rq2 rfl rfl (arn (((k+1):Nat):Int) rfl .no (.u rfl) (.u rfl) rfl (fun _=>by omega) (fun _=>wrap_i64 (by omega) (by omega)) ?_)))))
   refine mV rfl rfl (.nil (We.lpo (k+1,v41) ?_ ?_ ?_ ?_ ?_))
   ·exact (esD rfl (esC rfl (by first|rfl|exact evi (by omega)) (esD rfl (esD rfl eZ))))
   ·exact (mS .here (by rw [mtk_snoc pairB ep]) (mS tk2 rfl (mS tk2 rfl mN)))
   ·first|omega|(dsimp only; omega)
   ·exact hGl0
   (try dsimp only)<;>(first|omega|rfl|assumption|(simp; done))
  have c5k:=c5
  try simp only [qcA,qcC,qcB] at c5
  refine .exit (.xcode (.xlp (.xblk (.code (.seq (.seq (rq3 rfl rfl (mV rfl rfl (lr rfl .no FxGrQ.sn97 (.u rfl) .here ?_)))))))))
  refine cp rfl .no (.u rfl) (.u rfl) rfl (.nil (.code (.cond rfl (fun c6=>?_) (fun c6=>?_))))
  ·have c6k:=c6
   try simp only [qcA,qcC,qcB] at c6
   refine .seq (rq1 rfl rfl (aS rfl rfl (.nil (.code (.ret (We.fin0 Tryz.results44 (.tmp rfl .nil) ?_))))))
   have hpe:r.pairs=[]:=by
    simp only [List.length_map,List.length_take] at c6
    exact List.eq_nil_of_length_eq_zero (by omega)
   refine ⟨rfl,?_⟩
   unfold toldT okT
   rw [if_pos c1,if_neg c2,if_pos c4,if_pos hpe]
   rfl
  have c6k:=c6
  try simp only [qcA,qcC,qcB] at c6
  refine .skip (.code (.seq ?_))
  obtain rfl:k=r.pairs.length:=by omega
  rw [List.take_length]
  have hne:r.pairs≠[]:=fun e=>by rw [e] at c6; simp at c6
  have hjn:r.pairs.map pairB≠[]:=fun e=>hne (List.map_eq_nil_iff.1 e)
  have hjl:(Lib.join ((r.pairs.map pairB).map bts) [32]).length≤140737488355328:=by rw [pairB_map]; exact join_le2 hpp hpl
  refine wk_fs .here (fun _ _=>rfl) (by intro b hb; cases hb) ?_; intro GfRS hRS hleRS evRS hsRS; subst evRS
  have hP:=hP.mono hleRS
  refine rq3 rfl rfl (mV rfl rfl (kv rfl .no Fx.go79 (Evc rfl (Evc rfl Evn)) (fun _=>joinT_ok hRS (r.pairs.map pairB) _ hsRS hjn (by rw [List.length_map]; omega) hjl) ?_))
  refine aS rfl rfl (.nil (.code (.ret (We.fin0 Tryz.results44 (.tmp rfl .nil) ?_))))
  rw [pairB_map]
  refine ⟨rfl,?_⟩
  unfold toldT okT
  rw [if_pos c1,if_neg c2,if_pos c4,if_neg hne]
  rfl
 have c4k:=c4
 have c4:=ky_f (m:=3) (by decide) c4
 refine .seq (rq2 rfl rfl (cp rfl .no (.u rfl) (.u rfl) rfl (aS rfl rfl (.nil (.code (.cond rfl (fun c7=>?_) (fun c7=>?_)))))))
 ·have c7k:=c7
  have c7:=ky_t (m:=4) c7
  refine .seq (rq5 rfl rfl (fz rfl .no Fx.fo43_1 (.u rfl) (ld rfl .no Fx.ag23 (.u rfl) (fun _=>Rd.own .here (by first|exact wap_f rfl|rfl)) ?_)))
  refine kv rfl .no Fx.go80 (Evc rfl (Evc rfl Evn)) (fun _=>ftu_ok r.n _ hP) ?_
  refine sPt (sHeld++Lib.decDigits r.n.toNat) rfl .no (.u rfl) (.u rfl) (rfl) (fun _=>by have:=dec_le r.n.isLt; show 5+(Lib.decDigits r.n.toNat).length≤_; omega) ?_
  refine aS rfl rfl (.nil (.code (.ret (We.fin0 Tryz.results44 (.tmp rfl .nil) ?_))))
  refine ⟨rfl,?_⟩
  unfold toldT okT
  rw [if_pos c1,if_neg c2,if_neg c4,if_pos c7]
  rfl
 have c7k:=c7
 have c7:=ky_f (m:=4) (by decide) c7
 refine .seq (rq2 rfl rfl (cp rfl .no (.u rfl) (.u rfl) rfl (aS rfl rfl (.nil (.code (.cond rfl (fun c8=>?_) (fun c8=>?_)))))))
 ·have c8k:=c8
  have c8:=ky_t (m:=6) c8
  refine .seq (.block (.seq (rq9 rfl rfl (fz rfl .no Fx.fo27_7 (.u rfl) (ld rfl .no Fx.ag3 (.u rfl) (fun _=>Rd.own tk1 rfl) ?_)))))
  refine anA rfl .no (.u rfl) (.u rfl) ?_
  refine cp rfl .no (.u rfl) (.u rfl) rfl (mV rfl rfl (fz rfl (.t rfl rfl) Fx.fo43_3 (.u rfl) (ld rfl (.t rfl rfl) Fx.ag4 (.s rfl) (fun hc=>Rd.own .here (by first|exact wap_f rfl|rfl)) ?_)))
  refine pkA rfl .no (.u rfl) (.s rfl) (aS rfl rfl (.nil (.code (.cond rfl (fun c9=>?_) (fun c9=>?_)))))
  ·have c9k:=c9
   try simp only [qcA,qcC,qcB] at c9
   refine .seq (rq1 rfl rfl (aS rfl rfl (.nil (.code (.ret (We.fin0 Tryz.results44 (.tmp rfl .nil) ?_))))))
   refine ⟨rfl,?_⟩
   unfold toldT okT
   rw [if_pos c1,if_neg c2,if_neg c4,if_neg c7,if_pos c8,if_pos (odd_t c9k)]
   rfl
  have c9k:=c9
  try simp only [qcA,qcC,qcB] at c9
  refine .seq (Wk.rg [0,1,2,3,4,5,6,7,8,9,10] rfl rfl (fz rfl .no Fx.fo27_7 (.u rfl) (ld rfl .no Fx.ag3 (.u rfl) (fun _=>Rd.own tk1 rfl) ?_)))
  refine anA rfl .no (.u rfl) (.u rfl) ?_
  refine cp rfl .no (.u rfl) (.u rfl) rfl (mV rfl rfl (fz rfl (.f rfl rfl) Fx.fo43_5 (.u rfl) (ld rfl (.f rfl rfl) Fx.ag41 (.s rfl) (fun hc=>Rd.own .here rfl) ?_)))
  refine ln rfl (.f rfl rfl) Fx.sn41 (.s rfl) (cp rfl (.f rfl rfl) (.s rfl) (.u rfl) rfl (pkO rfl .no (.u rfl) (.s rfl) (aS rfl rfl (.nil (.code (.cond rfl (fun c10=>?_) (fun c10=>?_)))))))
  ·have c10k:=c10
   try simp only [qcA,qcC,qcB] at c10
   refine .seq (rq1 rfl rfl (aS rfl rfl (.nil (.code (.ret (We.fin0 Tryz.results44 (.tmp rfl .nil) ?_))))))
   refine ⟨rfl,?_⟩
   unfold toldT okT
   rw [if_pos c1,if_neg c2,if_neg c4,if_neg c7,if_pos c8,if_neg (odd_f c9k),if_pos (odo_t c10k)]
   rfl
  have c10k:=c10
  try simp only [qcA,qcC,qcB] at c10
  refine .skip (.blk (.code (.seq (rq1 rfl rfl (aS rfl rfl (.nil (.code (.ret (We.fin0 Tryz.results44 (.tmp rfl .nil) ?_)))))))))
  refine ⟨rfl,?_⟩
  unfold toldT okT
  rw [if_pos c1,if_neg c2,if_neg c4,if_neg c7,if_pos c8,if_neg (odd_f c9k),if_neg (odo_f c10k)]
  rfl
 have c8k:=c8
 have c8:=ky_f (m:=6) (by decide) c8
 refine .skip (.blk (.code (.seq (rq1 rfl rfl (aS rfl rfl (.nil (.code (.ret (We.fin0 Tryz.results44 (.tmp rfl .nil) ?_)))))))))
 refine ⟨rfl,?_⟩
 unfold toldT okT
 rw [if_pos c1,if_neg c2,if_neg c4,if_neg c7,if_neg c8]
 rfl
end Go.Proofs.YtoifkgkandfeiaaGreatDoor
namespace Go.Proofs.YtoifkgkandfeiaaGreatDoor
open Go.Tan Go.RowKit Go.Maps Go.Sort Go.Shelf
namespace FxDkT
theorem se41:slE Tryz.prog 41=some (73,2,16):=by kernel_rfl
end FxDkT
namespace Fx
theorem zr106:zrL Tryz.prog 106=some ([.pointer none,.slice none 0 0]):=by kernel_rfl
theorem ag43:aggN Tryz.prog 43=some (some 6):=by kernel_rfl
theorem go44:goFn Tryz.prog 44=true:=by kernel_rfl
theorem go43:goFn Tryz.prog 43=true:=by kernel_rfl
theorem ag73:aggN Tryz.prog 73=some (some 2):=by kernel_rfl
theorem zr73:zrL Tryz.prog 73=some ([.int .i64 0,.int .i64 0]):=by kernel_rfl
theorem sz73:szT Tryz.prog 73=some 2:=by kernel_rfl
theorem fo73_0:fOff Tryz.prog 73 0=some 0:=by kernel_rfl
theorem fo73_1:fOff Tryz.prog 73 1=some 1:=by kernel_rfl
theorem go46:goFn Tryz.prog 46=true:=by kernel_rfl
end Fx
theorem ws0_ok (bb:Nat) (s:ByteArray) (G:PM) (hl:s.size≤100000000):Ct Tryz.prog 43 ([.pointer (some ⟨bb,0,none⟩),.string s]:List Value).toArray G [.blk bb (cl [.pointer none,.slice none 0 0] 106),rB (.slice none 0 0) 5 []] (fun _ μ' u=>∃ v':Value,v'.oneCell'=true∧μ'=[.blk bb (cl [.pointer (some ⟨bb,0,none⟩),v'] 106),rB v' 5 (yb (txt (bts s)))]∧u=.tuple #[.int .i64 (s.size:Int),.nilIface]):=by
 have h:=wsf_ok bb (.slice none 0 0) [] s G rfl (by rw [List.length_nil,Nat.zero_add]; exact hl)
 rw [yb_0,List.nil_append] at h
 exact h
theorem text_ok (e:EvD) (vo vk vb:Value) (r:Rep) (hp hd:Sh) (G:PM) (ho:vo.oneCell'=true) (hk9:vk.oneCell'=true) (hb9:vb.oneCell'=true) (hsp:SlR G 2 encPr hp r.pairs) (hsd:SlR G 2 encDn hd r.dones) (hr:r.ok) (hP:PwG Tryz.prog G):Ct Tryz.prog 20 ([.agg (EvD.cells e vo vk vb).toArray,.agg (Rep.cells r (hp.val r.pairs.length) (hd.val r.dones.length)).toArray]:List Value).toArray G [] (fun _ μ' u=>μ'=[]∧u=.string (txt (textT e.kind e.n r))):=by
 refine Ct.of Tryz.func20 rfl Tryz.ntmps20 rfl fun w0 hs0=>?_
 obtain ⟨hre0,hre1⟩:=hr.err
 obtain ⟨hpl,hpp⟩:=hr.pairs
 obtain ⟨hdl,hdd⟩:=hr.dones
 have hvl:=hr.value
 obtain ⟨htl,htn⟩:=toldT_le (k:=e.kind) (n:=e.n) hr
 refine .seq (rq3 rfl rfl ?_)
 refine bx rfl (.u rfl) rfl ?_; intro b2
 refine bx rfl (.u rfl) rfl ?_; intro b3
 refine aS rfl rfl (.nil (.code (.seq (rq1 rfl rfl ?_))))
 refine al rfl Fx.zr106 ?_; intro b5
 refine .nil (.code (.seq (wk_nilB 5 ?_)))
 refine rq4 rfl rfl (lA rfl .no Fx.ag27 (.u rfl) (fun _=>RdN.part (n:=11) (cs':=EvD.cells e vo vk vb) tk3 (rfl)) (fun _=>rfl) (lA rfl .no Fx.ag43 (.u rfl) (fun _=>RdN.part (n:=6) (cs':=Rep.cells r (hp.val r.pairs.length) (hd.val r.dones.length)) tk2 (rfl)) (fun _=>rfl) (kv rfl .no Fx.go44 (Evc rfl (Evc rfl Evn)) (fun _=>told_ok e vo vk vb r hp hd _ ho hk9 hb9 hsp hsd hr hP) ?_)))
 refine ka rfl (.inr rfl) Fx.go43 (Evc rfl (Evc rfl Evn)) (mtk2 tk1 .here) (ws0_ok b5 (txt (toldT e.kind e.n r)) _ (by rw [txt_size]; omega)) ?_
 rintro _ G11 μ11 hG11 ⟨v11,ov11,rfl,rfl⟩
 have hsd:=hsd.mono hG11
 have hP:=hP.mono hG11
 refine .nil (.code (.seq (.seq (rq4 rfl rfl (fz rfl .no Fx.fo43_5 (.u rfl) (ld rfl .no Fx.ag41 (.u rfl) (fun _=>Rd.own tk2 rfl) ?_))))))
 refine ln rfl .no Fx.sn41 (.u rfl) (mV rfl rfl (.nil (.code (.block ?_))))
 refine Wk.lop (α:=Nat×Value) (fun gh=>[(15,true,.int .i64 (gh.1:Int))]) (fun gh=>[.blk b5 (cl [.pointer (some ⟨b5,0,none⟩),gh.2] 106),rB gh.2 5 (yb (txt (toldT e.kind e.n r++(r.dones.take gh.1).flatMap doneT)))])
  (fun gh Gl=>(gh.1≤r.dones.length)∧(gh.2.oneCell'=true)) (fun gh=>r.dones.length-gh.1) (0,v11) [(5,true,_),(13,true,_),(14,true,_)] [_,_]
  (esC rfl (by first|rfl|exact evi (by omega)) (esD rfl (esD rfl (esD rfl eZ))))
  (mS .here rfl (mS .here (by rw [List.take_zero,List.flatMap_nil,List.append_nil]; rfl) (mS .here rfl (mS .here rfl mN)))) ?_ ?_
 ·refine ⟨?_,?_⟩
  ·(try dsimp only)<;>(first|omega|rfl|assumption|(simp; done))
  (try dsimp only)<;>(first|omega|rfl|assumption|(simp; done))
 intro gh N0 Gl0 hN0 hGl0 hF0
 obtain ⟨k,v⟩:=gh; dsimp only at hF0 hN0 ⊢
 obtain ⟨hk,ov⟩:=hF0
 have hsd:=hsd.mono hGl0
 have hP:=hP.mono hGl0
 refine .seq (rq1 rfl rfl (cp rfl .no (.u rfl) (.u rfl) rfl (.nil (.code (.seq (.cond rfl (fun c1=>?_) (fun c1=>?_)))))))
 ·have c1k:=c1
  try simp only [qcA,qcC,qcB] at c1
  refine .skip (.code (.seq (.block (.seq (rq4 rfl rfl (ih rfl .no FxDkT.se41 (.u rfl) (.u rfl) (fun _=>by omega) (fun _=>by omega) (fun _=>hsd.nn (k:=k) (by first|omega|(simp only [Bool.and_eq_true,decide_eq_true_eq] at hc; omega)|(simp only [List.length_cons,List.length_nil]; omega))) ?_))))))
  obtain ⟨d,ed⟩:=getx (k:=k) (xs:=r.dones) (by omega)
  obtain ⟨hd1,hd2⟩:=hdd d (List.mem_of_getElem? ed)
  have hq1:=itoa_le hd1.1 hd1.2
  have hq2:=itoa_le hd2.1 hd2.2
  have hdl1:=dones_le (l:=r.dones.take k) (fun x hx=>hdd x (List.mem_of_mem_take hx))
  have hdl2:(r.dones.take k).length≤k:=by rw [List.length_take]; omega
  have hdl3:=doneT_le (d:=d) ⟨hd1,hd2⟩
  refine lA rfl .no Fx.ag73 (.u rfl) (fun _=>(hsd.at (by omega) ed).rd) (fun _=>rfl) ?_
  refine al rfl Fx.zr73 ?_; intro b7
  refine sw rfl (.u rfl) (.u rfl) rfl Fx.sz73 .here rfl (one2 rfl rfl) ?_
  refine .nil (.code (Wk.mixp ⟨true,false⟩ Fx.mix (by kernel_rfl) ?_))
  refine Wp.one 0 (by kernel_rfl) ?_
  refine fz rfl .no Fx.fo73_0 (.u rfl) (.nil (Wp.one 1 (by kernel_rfl) ?_))
  refine ld rfl .no Fx.ag3 (.u rfl) (fun _=>Rd.own .here rfl) ?_
  refine .nil (Wp.one 5 (by kernel_rfl) ?_)
  refine fz rfl .no Fx.fo73_1 (.u rfl) (.nil (Wp.b2 2 6 (by kernel_rfl) ?_ ?_))
  ·refine kv rfl .no Fx.go45 (Evc rfl Evn) (fun _=>itoa_ok d.1 _ hd1.1 hd1.2 hP) ?_
   refine .nil (Wp.one 3 (by kernel_rfl) ?_)
   refine sPt (32 :: Lib.itoa d.1) rfl .no (.u rfl) (.u rfl) (rfl) (fun _=>by show 1+(Lib.itoa d.1).length≤_; omega) ?_
   refine .nil (Wp.one 4 (by kernel_rfl) ?_)
   refine sPt (32 :: (Lib.itoa d.1++[58])) rfl .no (.u rfl) (.u rfl) (rfl) (fun _=>by show (Lib.itoa d.1).length+1+1≤_; omega) ?_
   refine .nil (Wp.one 6 (by kernel_rfl) ?_)
   refine ld rfl .no Fx.ag30 (.u rfl) (fun _=>Rd.own .here rfl) ?_
   refine .nil (Wp.b1 7 (by kernel_rfl) ?_)
   refine kv rfl .no Fx.go45 (Evc rfl Evn) (fun _=>itoa_ok d.2 _ hd2.1 hd2.2 hP) ?_
   refine .nil (Wp.one 8 (by kernel_rfl) ?_)
   refine sPt (doneT d) rfl .no (.u rfl) (.u rfl) (by unfold doneT; rw [bts_txt,bts_txt]; simp) (fun _=>by rw [txt_size,txt_size]; simp only [List.length_cons,List.length_append,List.length_nil]; omega) ?_
   refine .nil (Wp.b1 9 (by kernel_rfl) ?_)
   refine ka rfl (.inl rfl) Fx.go43 (Evc rfl (Evc rfl Evn)) (mtk2 tk1 tk1) (wsu_ok b5 v (toldT e.kind e.n r++(r.dones.take k).flatMap doneT) (txt (doneT d)) _ ov (by rw [txt_size,List.length_append]; omega)) ?_
   rintro _ G28 μ28 hG28 ⟨v28,ov28,rfl,rfl⟩
   have hP:=hP.mono hG28
   refine .nil (Wp.last (by kernel_rfl) ?_)
   refine .blk (.code (rq2 rfl rfl (arn (((k+1):Nat):Int) rfl .no (.u rfl) (.u rfl) rfl (fun _=>by omega) (fun _=>wrap_i64 (by omega) (by omega)) ?_)))
   refine mV rfl rfl (.nil (We.lpo (k+1,v28) ?_ ?_ ?_ ?_ ?_))
   ·exact (esC rfl (by first|rfl|exact evi (by omega)) (esD rfl (esD rfl (esD rfl eZ))))
   ·exact (mS .here rfl (mS .here (by rw [bts_txt,List.append_assoc,fmtk_snoc doneT ed]) (mS tk1 rfl (mS tk1 rfl mN))))
   ·first|omega|(dsimp only; omega)
   ·exact (hGl0).trans hG28
   refine ⟨?_,?_⟩
   ·(try dsimp only)<;>(first|omega|rfl|assumption|(simp; done))
   (try dsimp only)<;>(exact ov28)
  refine ld rfl .no Fx.ag30 (.u rfl) (fun _=>Rd.own .here rfl) ?_
  refine .nil (Wp.b1 2 (by kernel_rfl) ?_)
  refine kv rfl .no Fx.go45 (Evc rfl Evn) (fun _=>itoa_ok d.1 _ hd1.1 hd1.2 hP) ?_
  refine .nil (Wp.one 3 (by kernel_rfl) ?_)
  refine sPt (32 :: Lib.itoa d.1) rfl .no (.u rfl) (.u rfl) (rfl) (fun _=>by show 1+(Lib.itoa d.1).length≤_; omega) ?_
  refine .nil (Wp.one 4 (by kernel_rfl) ?_)
  refine sPt (32 :: (Lib.itoa d.1++[58])) rfl .no (.u rfl) (.u rfl) (rfl) (fun _=>by show (Lib.itoa d.1).length+1+1≤_; omega) ?_
  refine .nil (Wp.b1 7 (by kernel_rfl) ?_)
  refine kv rfl .no Fx.go45 (Evc rfl Evn) (fun _=>itoa_ok d.2 _ hd2.1 hd2.2 hP) ?_
  refine .nil (Wp.one 8 (by kernel_rfl) ?_)
  refine sPt (doneT d) rfl .no (.u rfl) (.u rfl) (by unfold doneT; rw [bts_txt,bts_txt]; simp) (fun _=>by rw [txt_size,txt_size]; simp only [List.length_cons,List.length_append,List.length_nil]; omega) ?_
  refine .nil (Wp.b1 9 (by kernel_rfl) ?_)
  refine ka rfl (.inl rfl) Fx.go43 (Evc rfl (Evc rfl Evn)) (mtk2 tk1 tk1) (wsu_ok b5 v (toldT e.kind e.n r++(r.dones.take k).flatMap doneT) (txt (doneT d)) _ ov (by rw [txt_size,List.length_append]; omega)) ?_
  rintro _ G28 μ28 hG28 ⟨v28,ov28,rfl,rfl⟩
  refine .nil (Wp.last (by kernel_rfl) ?_)
  refine .blk (.code (rq2 rfl rfl (arn (((k+1):Nat):Int) rfl .no (.u rfl) (.u rfl) rfl (fun _=>by omega) (fun _=>wrap_i64 (by omega) (by omega)) ?_)))
  refine mV rfl rfl (.nil (We.lpo (k+1,v28) ?_ ?_ ?_ ?_ ?_))
  ·exact (esC rfl (by first|rfl|exact evi (by omega)) (esD rfl (esD rfl (esD rfl eZ))))
  ·exact (mS .here rfl (mS .here (by rw [bts_txt,List.append_assoc,fmtk_snoc doneT ed]) (mS tk1 rfl (mS tk1 rfl mN))))
  ·first|omega|(dsimp only; omega)
  ·exact (hGl0).trans hG28
  refine ⟨?_,?_⟩
  ·(try dsimp only)<;>(first|omega|rfl|assumption|(simp; done))
  (try dsimp only)<;>(exact ov28)
 have c1k:=c1
 try simp only [qcA,qcC,qcB] at c1
 refine .exit (.xcode (.xlp (.xblk (.code (.seq (rq2 rfl rfl (ka rfl (.inr rfl) Fx.go46 (Evc rfl Evn) (mtk2 .here .here) (bstr_ok b5 v (toldT e.kind e.n r++(r.dones.take k).flatMap doneT) _ (by simp [htn]) (by have hdl1:=dones_le (l:=r.dones.take k) (fun x hx=>hdd x (List.mem_of_mem_take hx)); have hdl2:(r.dones.take k).length≤k:=(by rw [List.length_take]; omega); rw [List.length_append]; omega)) ?_)))))))
 rintro _ G30 μ30 hG30 ⟨rfl,rfl⟩
 refine aS rfl rfl (.nil (.code (.ret (We.fin0 Tryz.results20 (.tmp rfl .nil) ?_))))
 obtain rfl:k=r.dones.length:=by omega
 rw [List.take_length]
 exact ⟨rfl,rfl⟩
end Go.Proofs.YtoifkgkandfeiaaGreatDoor
namespace Go.Proofs.YtoifkgkandfeiaaGreatDoor
open Go.Tan Go.RowKit Go.Maps Go.Sort Go.Shelf
set_option maxHeartbeats 4000000 in
theorem dWriteS_ok (bx bm room bd bt held bn:Nat) (root:Nat→Y) (o:Opts) (v0:Value) (F:List Fi) (h:Sh) (l:List Opn) (o1:BitVec 64) (G:PM) (hD:DkR F 3) (hnm:F.map Fi.nm=[nmB 3 0,nmB 4 0]) (hz:szF F≤2000) (hr:5000≤room) (hr9:room≤1000000000) (hmem:0<o.mem) (hs:SlR G 3 Opn.cells h l) (hl:l.length=1∨l.length=2) (hok:∀ o∈l,o.ok) (hord:l.length=2→lt (l.getD 0 Opn.zero).user (l.getD 1 Opn.zero).user=true) (hK:RdNP G 6 0 (wa 64 kW)):Ct Tryz.prog 168 ([pt bx,h.val l.length,.bool true]:List Value).toArray G [.blk bx (cl (Db.cells (Db.d3 bd bt root o 1#64 held bn)) 165),.blk bd (cl (dkC bm room 5) 118),.blk bm (mO (F.map Fi.fe) 3),.blk bn (cl [v0,.int .i64 ((0:Nat):Int)] 225),rS 16 Nd.cells v0 249 [Nd.z],.blk bt (cl [uv .u64 1#64,uv .u64 o1] 87)] (fun _ μ' u=>∃ (bb m cap sz:Nat) (F':List Fi) (nn:BitVec 64),m=(lstW (entsF 0 l) l.length).length∧μ'=[.blk bx (cl (Db.cells { Db.d3 bd bt root o 1#64 held bn with lg:=⟨⟨1#8,0#8,0#64,1#64,1#64⟩,nn,true⟩,seq:=(0#64+BitVec.ofInt 64 ((l.length:Nat):Int)) }) 165),.blk bd (cl (dkC bm room 7) 118),.blk bm (mO (F'.map Fi.fe) 4),.blk bn (cl [.slice (some ⟨bb,0,none⟩) m cap,.int .i64 ((sz:Nat):Int)] 225),rS 16 Nd.cells (.slice (some ⟨bb,0,none⟩) m cap) 249 (lstW (entsF 0 l) l.length),.blk bt (cl [uv .u64 2#64,uv .u64 o1] 87)]∧u=.int .i64 0):=by
 refine Ct.of Tryz.func168 rfl Tryz.ntmps168 rfl fun w0 hs0=>?_
 refine .seq (rq1 rfl rfl ?_)
 refine al rfl FxGrBb.zr30 ?_; intro b6
 refine .nil (.code (.seq (.seq (rq3 rfl rfl (mV rfl rfl (kp rfl .no Fx.go96 (Evc rfl Evn) (Gp.add tk1 Gp.nil) (fun _ hle hq=>usable_ok bx (Db.d3 bd bt root o 1#64 held bn) _ ⟨PM.add_same _ _ _⟩) (aS rfl rfl (.nil (.code (.seq (rq2 rfl rfl (mV rfl rfl (cp rfl .no (.u rfl) (.u rfl) rfl (.nil (.code (.cond rfl (fun c1=>?_) (fun c1=>?_)))))))))))))))))
 ·have c1k:=c1
  exact absurd c1 (by decide)
 have c1k:=c1
 try simp only [qcA,qcC,qcB] at c1
 refine .skip (.code (.seq (Wk.defers [0] 1 (DQ.d ⟨89,[.pointer (some ⟨bx,0,none⟩),.pointer (some ⟨b6,0,none⟩)],[]⟩) (fun _ _ _ _=>False) (fun _ _ _ _ _ _ hq=>hq.elim) rfl rfl ?_)))
 refine mV rfl rfl (.nil ⟨DefOp.fn rfl (Evc rfl (Evc rfl Evn)),?_⟩)
 refine .code (.seq (Wk.rg [0,1,2,3,4,5,6,7,8,9,10,11] rfl rfl (mV rfl rfl (nc rfl .no (.u rfl) (fz rfl .no Fx.fo165_7 (.u rfl) (ld rfl .no Fx.ag23 (.u rfl) (fun _=>Rd.own tk1 rfl) ?_))))))
 refine bw (k:=.u64) (b:=1#64) rfl .no rfl (.u rfl) (.u rfl) rfl (mV rfl rfl (kc rfl Fx.go232 (Evc rfl (Evc rfl Evn)) (bEnc_ok h l _ hs hl hok) ?_))
 rintro _ G31 μ31 hG31 ⟨s31,L31,lL31,rfl,rfl,hs31⟩
 have lL31:L31.length≤140:=by rcases hl with e | e<;>rw [e] at lL31<;>omega
 have hK:=hK.mono hG31
 have hs:=hs.mono hG31
 refine mV rfl rfl (ex rfl .no (.u rfl) rfl (ex rfl .no (.u rfl) rfl (aS rfl rfl (aS rfl rfl (.nil (.code (.seq (.seq (rq2 rfl rfl (mV rfl rfl (cp rfl .no (.u rfl) (.u rfl) rfl (.nil (.code (.cond rfl (fun c2=>?_) (fun c2=>?_)))))))))))))))
 ·have c2k:=c2
  exact absurd c2 (by decide)
 have c2k:=c2
 try simp only [qcA,qcC,qcB] at c2
 refine .skip (.code (.seq (.seq (rq3 rfl rfl (mV rfl rfl (ln rfl .no Fx.sn25 (.u rfl) (cp rfl .no (.u rfl) (.u rfl) rfl (.nil (.code (.cond rfl (fun c3=>?_) (fun c3=>?_)))))))))))
 ·have c3k:=c3
  have:=of_decide_eq_true c3; omega
 have c3k:=c3
 try simp only [qcA,qcC,qcB] at c3
 refine .skip (.code (.seq (rq2 rfl rfl (mV rfl rfl (kp rfl .no Fx.go233 (Evc rfl Evn) (Gp.add tk4 (Gp.add tk1 Gp.nil)) (fun _ hle hq=>turn0_ok bx (Db.d3 bd bt root o 1#64 held bn) v0 0 _ ⟨hq.1 _ _ (PM.add_same _ _ _)⟩ ⟨PM.add_same _ _ _⟩ hmem) (.nil (.code (.seq (rq5 rfl rfl ?_)))))))))
 refine Go.Tan.b1 rfl Fx.se25 Fx.zv5 (.u rfl) rfl rfl (by decide) ?_; intro b42
 refine mV rfl rfl ?_
 refine apB [0#8] rfl Fx.se25 Fx.zv5 (.u rfl) rfl rfl (.u rfl) .here hs31.sc (by show 1+L31.length≤_; omega) ?_; intro v44 L44 ov44 eL44
 have lL44:L44.length≤150:=by rw [eL44]; simp; omega
 refine Go.Tan.b1 (cs:=[v44]) rfl Fx.se351 Fx.zv25 (.u rfl) (cells_one ov44) rfl (by decide) ?_; intro b45
 refine aS rfl rfl (.nil (.code (.seq (.seq ?_))))
 refine wk_fb tk1 (keys_k tk2 rfl (keys_k tk2 rfl (keys_k tk2 rfl (keys_k tk2 rfl (keys_k tk2 rfl (keys_k tk2 rfl (keys_0))))))) ?_; intro GfR44 hR44 hleR44 evR44 hsR44; subst evR44
 have hK:=hK.mono hleR44
 have hs:=hs.mono hleR44
 refine wk_bS (enc:=encP) [(hR44,L44)] 1 .here rfl rfl (fun _ _=>rfl) (by decide) ?_
 refine rq1 rfl rfl (mV rfl rfl (.nil (.code (.cond rfl (fun c4=>?_) (fun c4=>?_)))))
 ·have c4k:=c4
  try simp only [qcA,qcC,qcB] at c4
  refine Wk.rg [0,1,2,3,4,5,6,7,8,9,10,11] rfl rfl (mV rfl rfl ?_)
  refine Go.Tan.b1 rfl Fx.se25 Fx.zv5 (.u rfl) rfl rfl (by decide) ?_; intro b48
  refine mV rfl rfl (nc rfl .no (.u rfl) (fz rfl .no Fx.fo165_1 (.u rfl) (ld rfl .no Fx.ag50 (.u rfl) (fun _=>Rd.own tk3 rfl) ?_)))
  refine kp rfl .no Fx.go134 (Evc rfl Evn) (Gp.add tk8 Gp.nil) (fun _ hle hq=>marks_ok bt 1#64 o1 _ ⟨PM.add_same _ _ _⟩) (bw (k:=.u64) (b:=1#64) rfl .no rfl (.u rfl) (.u rfl) rfl (ka rfl (.inr rfl) Fx.go207 (Evc rfl (Evc rfl (Evc rfl Evn))) (mtk1 .here) (Ct.give fun hle=>Ct.frzB (Fix_ok [1#8] ⟨some ⟨b48,0,none⟩,1⟩ (1#64+1#64) 8 _ (SlR.ofBlk (xs:=[1#8]) (PM.add_same _ _ _) (fun _ _=>rfl) (Nat.le_refl 1)) (by decide) (by decide))) ?_))
  rintro _ G55 μ55 hG55 ⟨h55,L55,eL55,rfl,rfl,hs55⟩
  have lL55:L55.length=9:=by rw [eL55,List.length_append,fix_len]; rfl
  have hK:=hK.mono hG55
  have hs:=hs.mono hG55
  have hsR44:=hsR44.mono hG55
  refine Go.Tan.b1 rfl Fx.se351 Fx.zv25 (.u rfl) rfl rfl (by decide) ?_; intro b56
  refine apS (xs:=[(hR44,L44)]) ((h55,L55)) rfl Fx.se351 Fx.zv25 rfl (.u rfl) (.u rfl) tk1 .here (rfl) (one1 rfl) (by show (1+1)*24≤_; decide) (by show 1+1≤maxLen; decide) ?_; intro v57 ov57
  refine aS rfl rfl (.nil (.code (.seq ?_)))
  obtain ⟨rs,ers⟩ : ∃ rs:List (Sh×List Y),rs=[(hR44,L44)]++[(h55,L55)]:=⟨_,rfl⟩
  rw [← ers]
  have hrl:rs.length=2:=by rw [ers]; rfl
  have hAr:=AllS.snoc (AllS.snoc AllS.nil hsR44) hs55
  rw [List.nil_append,←ers] at hAr
  have hpl:∀ p∈rs,p.2.length≤150:=by rw [ers]; intro p hp; simp at hp; rcases hp with rfl|rfl; (show L44.length≤150; omega); (show L55.length≤150; omega)
  refine wk_fs .here (fun _ _=>rfl) (keys_k tk2 rfl (keys_k tk2 rfl (keys_k tk2 rfl (keys_k tk2 rfl (keys_k tk2 rfl (keys_k tk2 rfl (keys_0))))))) ?_; intro GfRR hRR hleRR evRR hsRR; subst evRR
  have hK:=hK.mono hleRR
  have hs:=hs.mono hleRR
  have hAr:=hAr.mono hleRR
  have hsRR:=SlP.of hsRR hAr
  refine rq1 rfl rfl (aS rfl rfl (.nil (.code (.seq (.seq (rq6 rfl rfl (mV rfl rfl (nc rfl .no (.u rfl) (fz rfl .no Fx.fo165_10 (.u rfl) (fa rfl .no Fx.fo163_1 (.u rfl) (ld rfl .no Fx.ag23 (.u rfl) (fun _=>Rd.own tk2 rfl) ?_)))))))))))
  refine cp rfl .no (.u rfl) (.u rfl) rfl (.nil (.code (.cond rfl (fun c5=>?_) (fun c5=>?_))))
  ·have c5k:=c5
   try simp only [qcA,qcC,qcB] at c5
   refine rq7 rfl rfl (mV rfl rfl (nc rfl .no (.u rfl) (fz rfl .no Fx.fo165_10 (.u rfl) (fa rfl .no Fx.fo163_0 (.u rfl) (lA rfl .no Fx.ag161 (.u rfl) (fun _=>RdN.part (n:=5) (cs':=[V 1#8,V 0#8,uv .u64 0#64,uv .u64 1#64,uv .u64 1#64]) tk2 (rfl)) (fun _=>rfl) ?_)))))
   refine kc rfl Fx.go138 (Evc rfl Evn) (Ct.rowc (nLay_ok ⟨1#8,0#8,0#64,1#64,1#64⟩ _)) ?_
   rintro v69 G69 μ69 hG69 ⟨L69,ov69,eL69,rfl⟩
   have hK:=hK.mono hG69
   have hs:=hs.mono hG69
   have hsRR:=hsRR.mono hG69
   refine aS rfl rfl (.nil (.code (.seq (.seq (rq3 rfl rfl (mV rfl rfl (ln rfl .no Fx.sn351 (.u rfl) (mV rfl rfl (.nil (.code (.block ?_)))))))))))
   refine Wk.lop (α:=Nat×Value×List Y) (fun gh=>[(11,true,gh.2.1),(72,true,.int .i64 (gh.1:Int))]) (fun gh=>[rB gh.2.1 5 gh.2.2])
    (fun gh Gl=>(gh.1≤rs.length)∧(gh.2.2.length≤30+600*gh.1)) (fun gh=>rs.length-gh.1) (0,v69,L69) [(0,true,_),(1,true,_),(2,true,_),(6,true,_),(10,true,_),(70,true,_),(71,true,_)] [_,_,_,_,_,_,_,_]
    (esD rfl (esC rfl (by first|rfl|exact evi (by omega)) (esD rfl (esD rfl (esD rfl (esD rfl (esD rfl (esD rfl (esD rfl eZ)))))))))
    (mS .here rfl (mS .here rfl (mS .here rfl (mS .here rfl (mS .here rfl (mS .here rfl (mS .here rfl (mS .here rfl (mS .here rfl mN))))))))) ?_ ?_
   ·refine ⟨?_,?_⟩
    ·(try dsimp only)<;>(first|omega|rfl|assumption|(simp; done))
    (try dsimp only)<;>(rw [eL69,head_len]; omega)
   intro gh N0 Gl0 hN0 hGl0 hF0
   obtain ⟨k,v,LO⟩:=gh; dsimp only at hF0 hN0 ⊢
   obtain ⟨hk,hLO⟩:=hF0
   have hK:=hK.mono hGl0
   have hs:=hs.mono hGl0
   have hsRR:=hsRR.mono hGl0
   refine .seq (rq1 rfl rfl (cp rfl .no (.u rfl) (.u rfl) rfl (.nil (.code (.seq (.cond rfl (fun c6=>?_) (fun c6=>?_)))))))
   ·have c6k:=c6
    try simp only [qcA,qcC,qcB] at c6
    refine .skip (.code (.seq (.block (.seq (rq5 rfl rfl (mV rfl rfl (ih rfl .no Fx.se351 (.u rfl) (.u rfl) (fun _=>by omega) (fun _=>by omega) (fun _=>hsRR.sl.nn (k:=k) (by omega)) ?_)))))))
    obtain ⟨p76,ep76⟩:=getx (k:=k) (xs:=rs) (by omega)
    have hq76:=hsRR.get ep76
    refine ld rfl .no Fx.ag25 (.u rfl) (fun _=>(hsRR.at (k) (by omega) ep76).rd) ?_
    refine aS rfl rfl (aS rfl rfl (.nil (.code (.seq (Wk.draw (mc:=⟨true,false⟩) [0,1,2,3,4,5,6,7,8,9,10,11,12,13,14,15,16,17,18,19,20,21,22,23] Fx.mix (by kernel_rfl) ?_)))))
    refine mV rfl rfl (nc rfl .no (.u rfl) (fz rfl .no Fx.fo165_2 (.u rfl) (lA rfl .no Fx.ag34 (.u rfl) (fun _=>RdN.part (n:=32) (cs':=ba 32 root) tk3 (rfl)) (fun _=>(ba_len _ _)) ?_)))
    refine mV rfl rfl (nc rfl .no (.u rfl) (fz rfl .no Fx.fo165_10 (.u rfl) (fa rfl .no Fx.fo163_0 (.u rfl) (lA rfl .no Fx.ag161 (.u rfl) (fun _=>RdN.part (n:=5) (cs':=[V 1#8,V 0#8,uv .u64 0#64,uv .u64 1#64,uv .u64 1#64]) tk3 (rfl)) (fun _=>rfl) ?_))))
    refine mV rfl rfl (nc rfl .no (.u rfl) (fz rfl .no Fx.fo165_10 (.u rfl) (fa rfl .no Fx.fo163_1 (.u rfl) (ld rfl .no Fx.ag23 (.u rfl) (fun _=>Rd.own tk3 rfl) ?_))))
    refine mV rfl rfl (ci rfl .no rfl Fx.cv3_23 (.u rfl) ?_)
    refine bw (k:=.u64) rfl .no rfl (.u rfl) (.u rfl) rfl (mV rfl rfl (kc rfl Fx.go206 (Evc rfl (Evc rfl (Evc rfl (Evc rfl Evn)))) (wLay_ok root ⟨1#8,0#8,0#64,1#64,1#64⟩ _ p76.2 p76.1 _ hq76 hK) ?_))
    rintro _ G96 μ96 hG96 ⟨vW,LW,eW,hLW,rfl,rfl⟩
    have hp76:=hpl p76 (List.mem_of_getElem? ep76)
    obtain ⟨rfl,lLW⟩:=lay_fit (by omega) hLW
    have hs:=hs.mono hG96
    refine mV rfl rfl (ex rfl .no (.u rfl) rfl (ex rfl .no (.u rfl) rfl (aS rfl rfl (aS rfl rfl (.nil (.code (.seq (rq2 rfl rfl (mV rfl rfl (kv rfl .no Fx.go135 (Evc rfl Evn) (fun _=>must_ok _) ?_))))))))))
    refine .nil (.code ?_)
    refine wk_rs .here ?_; intro sRW bbRW evRW lcRW oaRW; subst evRW
    refine rq4 rfl rfl (mV rfl rfl (mV rfl rfl (apY rfl Fx.se25 Fx.zv5 (.u rfl) (.u rfl) tk1 (Sc.rowS .here oaRW) (by (try simp only [qlA,yl_len]); omega) ?_)))
    intro v103 L103 ov103 eL103
    have lL103:L103.length=LO.length+LW.length:=by rw [eL103,List.length_append]
    refine aS rfl rfl (.nil (.blk (.code (rq2 rfl rfl (arn (((k+1):Nat):Int) rfl .no (.u rfl) (.u rfl) rfl (fun _=>by omega) (fun _=>wrap_i64 (by omega) (by omega)) ?_)))))
    refine mV rfl rfl (.nil (We.lpo (k+1,v103,L103) ?_ ?_ ?_ ?_ ?_))
    ·exact (esD rfl (esC rfl (by first|rfl|exact evi (by omega)) (esD rfl (esD rfl (esD rfl (esD rfl (esD rfl (esD rfl (esD rfl eZ)))))))))
    ·exact (mS .here rfl (mS tk1 rfl (mS tk1 rfl (mS tk1 rfl (mS tk1 rfl (mS tk1 rfl (mS tk1 rfl (mS tk1 rfl (mS tk1 rfl mN)))))))))
    ·first|omega|(dsimp only; omega)
    ·exact (hGl0).trans hG96
    refine ⟨?_,?_⟩
    ·(try dsimp only)<;>(first|omega|rfl|assumption|(simp; done))
    (try dsimp only)<;>(rw [lL103]; omega)
   have c6k:=c6
   try simp only [qcA,qcC,qcB] at c6
   refine .exit (.xcode (.xlp (.xblk (.code (.seq ?_)))))
   refine Wk.jn (α:=List Fi) (fun F3=>[]) (fun F3=>[.blk bd (cl (dkC bm room 6) 118),.blk bm (mO (F3.map Fi.fe) 4)]) (fun F3 Gl=>(DkR F3 4)∧(∃ f,fget (nmB 1 1) F3=some f)) [(0,true,_),(1,true,_),(2,true,_),(6,true,_),(10,true,_)] [_,_,_,_,_,_]
    (esD rfl (esD rfl (esD rfl (esD rfl (esD rfl eZ))))) (mS tk1 rfl (mS tk1 rfl (mS tk1 rfl (mS tk3 rfl (mS tk3 rfl (mS tk3 rfl mN)))))) ?_ ?_
   ·refine Wk.mixp ⟨true,false⟩ Fx.mix (by kernel_rfl) ?_
    refine Wp.one 0 (by kernel_rfl) ?_
    refine mV rfl rfl (.nil (Wp.one 1 (by kernel_rfl) ?_))
    refine nc rfl .no (.u rfl) (.nil (Wp.one 2 (by kernel_rfl) ?_))
    refine fz rfl .no Fx.fo165_0 (.u rfl) (.nil (Wp.one 4 (by kernel_rfl) ?_))
    refine mV rfl rfl (.nil (Wp.one 5 (by kernel_rfl) ?_))
    refine nc rfl .no (.u rfl) (.nil (Wp.one 6 (by kernel_rfl) ?_))
    refine fz rfl .no Fx.fo165_10 (.u rfl) (.nil (Wp.one 8 (by kernel_rfl) ?_))
    refine mV rfl rfl (.nil (Wp.b2 3 7 (by kernel_rfl) ?_ ?_))
    ·refine ld rfl .no Fx.ag48 (.u rfl) (fun _=>Rd.own tk3 rfl) ?_
     refine .nil (Wp.b1 7 (by kernel_rfl) ?_)
     refine kp rfl .no Fx.go137 (Evc rfl Evn) (Gp.add tk3 Gp.nil) (fun _ hle hq=>called_ok bx 60 (flL 1#64 0#64) _ (PB.rdn (m:=7) ⟨PM.add_same _ _ _⟩ rfl) (by show (1#64:BitVec 64).toNat<10; decide)) ?_
     refine .nil (Wp.b1 9 (by kernel_rfl) ?_)
     refine ka rfl (.inl rfl) Fx.go175 (Evc rfl (Evc rfl (Evc rfl Evn))) (mtk3 .here tk3 tk3) (Ct.giveR fun s9 G2 hle hv hs9=>by subst hv; exact dAppend_ok bd bm room 5 3 F G2 hD (by decide) hr9 (nmB 1 1) s9 LO hs9 nm_good1 (fget_nil (by rw [hnm]; exact nm_ne1)) (by omega) (by omega)) ?_
     rintro _ G114 μ114 hG114 ⟨f,hfn,hfl,hfs,hfb,rfl,rfl⟩
     have hF2:F.length=2:=by have:=congrArg List.length hnm; simpa using this
     have hD4:DkR (F++[f]) 4:=hD.app hfb (by omega) (by rw [hfn]; exact fget_nil (by rw [hnm]; exact nm_ne1)) (by rw [hfn]; exact nm_good1.2) (by omega)
     have hs:=hs.mono hG114
     refine .nil (Wp.b1 10 (by kernel_rfl) ?_)
     refine kv rfl .no Fx.go135 (Evc rfl Evn) (fun _=>must_ok _) ?_
     refine .nil (Wp.last (by kernel_rfl) ?_)
     refine We.lpo (F++[f]) ?_ ?_ ?_ ?_ ?_
     ·exact (esD rfl (esD rfl (esD rfl (esD rfl (esD rfl eZ)))))
     ·exact (mS .here rfl (mS .here rfl (mS .here rfl (mS .here rfl (mS .here rfl (mS .here rfl (mS .here rfl (mS .here rfl mN))))))))
     ·exact zro_lt _
     ·exact hG114
     refine ⟨?_,?_⟩
     ·(try dsimp only)<;>(exact hD4)
     (try dsimp only)<;>(exact ⟨f,fget_app (fget_nil (by rw [hnm]; exact nm_ne1)) hfn⟩)
    refine kp rfl .no Fx.go137 (Evc rfl Evn) (Gp.add tk3 Gp.nil) (fun _ hle hq=>called_ok bx 60 (flL 1#64 0#64) _ (PB.rdn (m:=7) ⟨PM.add_same _ _ _⟩ rfl) (by show (1#64:BitVec 64).toNat<10; decide)) ?_
    refine .nil (Wp.one 3 (by kernel_rfl) ?_)
    refine ld rfl .no Fx.ag48 (.u rfl) (fun _=>Rd.own tk3 rfl) ?_
    refine .nil (Wp.b1 9 (by kernel_rfl) ?_)
    refine ka rfl (.inl rfl) Fx.go175 (Evc rfl (Evc rfl (Evc rfl Evn))) (mtk3 .here tk3 tk3) (Ct.giveR fun s9 G2 hle hv hs9=>by subst hv; exact dAppend_ok bd bm room 5 3 F G2 hD (by decide) hr9 (nmB 1 1) s9 LO hs9 nm_good1 (fget_nil (by rw [hnm]; exact nm_ne1)) (by omega) (by omega)) ?_
    rintro _ G114 μ114 hG114 ⟨f,hfn,hfl,hfs,hfb,rfl,rfl⟩
    have hF2:F.length=2:=by have:=congrArg List.length hnm; simpa using this
    have hD4:DkR (F++[f]) 4:=hD.app hfb (by omega) (by rw [hfn]; exact fget_nil (by rw [hnm]; exact nm_ne1)) (by rw [hfn]; exact nm_good1.2) (by omega)
    have hs:=hs.mono hG114
    refine .nil (Wp.b1 10 (by kernel_rfl) ?_)
    refine kv rfl .no Fx.go135 (Evc rfl Evn) (fun _=>must_ok _) ?_
    refine .nil (Wp.last (by kernel_rfl) ?_)
    refine We.lpo (F++[f]) ?_ ?_ ?_ ?_ ?_
    ·exact (esD rfl (esD rfl (esD rfl (esD rfl (esD rfl eZ)))))
    ·exact (mS .here rfl (mS .here rfl (mS .here rfl (mS .here rfl (mS .here rfl (mS .here rfl (mS .here rfl (mS .here rfl mN))))))))
    ·exact zro_lt _
    ·exact hG114
    refine ⟨?_,?_⟩
    ·(try dsimp only)<;>(exact hD4)
    (try dsimp only)<;>(exact ⟨f,fget_app (fget_nil (by rw [hnm]; exact nm_ne1)) hfn⟩)
   intro F3 Glj24 hGlj24 hFj24
   obtain ⟨hD3,hg3⟩:=hFj24
   have hs:=hs.mono hGlj24
   refine .code (.seq (Wk.rg [0,1,2,3,4,5,6,7,8,9,10,11,12] rfl rfl (mV rfl rfl (nc rfl .no (.u rfl) (fz rfl .no Fx.fo165_10 (.u rfl) (fa rfl .no Fx.fo163_1 (.u rfl) (ld rfl .no Fx.ag23 (.u rfl) (fun _=>Rd.own tk4 rfl) ?_)))))))
   refine mV rfl rfl (ln rfl .no Fx.sn351 (.u rfl) (ci rfl .no rfl Fx.cv3_23 (.u rfl) ?_))
   refine bw (k:=.u64) rfl .no rfl (.u rfl) (.u rfl) rfl (nc rfl .no (.u rfl) (fz rfl .no Fx.fo165_10 (.u rfl) (fa rfl .no Fx.fo163_1 (.u rfl) (s1 rfl (.u rfl) (.u rfl) rfl Fx.sz23 tk4 (by first|decide | (show _<85; decide)) (Db.p_ln _ (0#64+BitVec.ofInt 64 ((rs.length:Nat):Int))) (.nil (.code (.seq (rq5 rfl rfl (mV rfl rfl (nc rfl .no (.u rfl) (fz rfl .no Fx.fo165_10 (.u rfl) (fa rfl .no Fx.fo163_2 (.u rfl) (s1 rfl (.u rfl) (.u rfl) rfl Fx.sz4 .here (by first|decide | (show _<85; decide)) (Db.p_ls _ false) (.nil (.code (.seq (.seq (rq1 rfl rfl (mV rfl rfl (.nil (.code (.cond rfl (fun c7=>?_) (fun c7=>?_)))))))))))))))))))))))
   ·have c7k:=c7
    try simp only [qcA,qcC,qcB] at c7
    refine .seq (rq6 rfl rfl ?_)
    obtain ⟨f9,hf9⟩:=hg3
    refine mV rfl rfl (mV rfl rfl (nc rfl .no (.u rfl) (fz rfl .no Fx.fo165_10 (.u rfl) (kp rfl .no Fx.go137 (Evc rfl Evn) (Gp.add .here Gp.nil) (fun _ hle hq=>called_ok bx 60 ⟨⟨1#8,0#8,0#64,1#64,1#64⟩,(0#64+BitVec.ofInt 64 ((rs.length:Nat):Int)),false⟩ _ (PB.rdn (m:=7) ⟨PM.add_same _ _ _⟩ rfl) (by show (1#64:BitVec 64).toNat<10; decide)) ?_))))
    refine ka rfl (.inr rfl) Fx.go174 (Evc rfl (Evc rfl Evn)) (mtk3 .here .here .here) (lend1 fun G1 hle1 h1=>dbsync_ok bx bm room 6 4 { Db.d3 bd bt root o 1#64 held bn with lg:=⟨⟨1#8,0#8,0#64,1#64,1#64⟩,(0#64+BitVec.ofInt 64 ((rs.length:Nat):Int)),false⟩ } F3 G1 h1 hD3 (by decide) hr9 (nmB 1 1) f9 nm_good1 hf9) ?_
    rintro _ G138 μ138 hG138 ⟨ν5,rfl,rfl,rfl⟩
    have hs:=hs.mono hG138
    refine .nil (.code (.seq (rq5 rfl rfl (mV rfl rfl (nc rfl .no (.u rfl) (fz rfl .no Fx.fo165_10 (.u rfl) (fa rfl .no Fx.fo163_2 (.u rfl) (s1 rfl (.u rfl) (.u rfl) rfl Fx.sz4 .here (by first|decide | (show _<85; decide)) (Db.p_ls _ true) (.nil (.code (rq2 rfl rfl (mV rfl rfl (ka rfl (.inr rfl) Fx.go140 (Evc rfl Evn) (mtk2 .here tk6) (lend1 fun G1 hle1 h1=>dmark_ok bx bt { Db.d3 bd bt root o 1#64 held bn with lg:=⟨⟨1#8,0#8,0#64,1#64,1#64⟩,(0#64+BitVec.ofInt 64 ((rs.length:Nat):Int)),true⟩ } 1#64 o1 G1 h1 rfl (by decide)) ?_)))))))))))))
    rintro _ G144 μ144 hG144 ⟨ν7,rfl,rfl,rfl⟩
    have hs:=hs.mono hG144
    refine .nil (.code (.seq (.seq ?_)))
    refine wk_rv tk7 (by decide) ?_; intro bbRL capRL evRL lcRL; subst evRL
    refine rq9 rfl rfl (mV rfl rfl (nc rfl .no (.u rfl) (fz rfl .no Fx.fo165_7 (.u rfl) (ld rfl .no Fx.ag23 (.u rfl) (fun _=>Rd.own .here rfl) ?_))))
    refine bw (k:=.u64) (b:=1#64) rfl .no rfl (.u rfl) (.u rfl) rfl (mV rfl rfl (kc rfl Fx.go234 (Evc rfl (Evc rfl Evn)) (bEnts_ok h l _ hs hl hok) ?_))
    rintro _ G151 μ151 hG151 ⟨s151,rfl,rfl,hs151⟩
    have l151:(entsF 0 l).length=l.length:=entsF_len
    refine ln rfl .no Fx.sn189 (.u rfl) (mV rfl rfl (.nil (.code (.block ?_))))
    refine Wk.lop (α:=Nat×Nat×Nat×Nat×Nat) (fun gh=>[(153,true,.int .i64 (gh.1:Int))]) (fun gh=>[.blk bn (cl [.slice (some ⟨gh.2.2.1,0,none⟩) gh.2.1 gh.2.2.2.1,.int .i64 ((gh.2.2.2.2:Nat):Int)] 225),rS 16 Nd.cells (.slice (some ⟨gh.2.2.1,0,none⟩) gh.2.1 gh.2.2.2.1) 249 (lstW (entsF 0 l) gh.1)])
     (fun gh Gl=>(gh.1≤l.length)∧(gh.2.1=(lstW (entsF 0 l) gh.1).length)∧(gh.2.2.2.2≤100000*gh.1)) (fun gh=>l.length-gh.1) (0,1,bbRL,capRL,0) [(0,true,_),(1,true,_),(6,true,_),(151,true,_),(152,true,_)] [_,_,_,_,_,_]
     (esC rfl (by first|rfl|exact evi (by omega)) (esD rfl (esD rfl (esD rfl (esD rfl (esD rfl eZ))))))
     (mS tk6 rfl (mS tk6 rfl (mS .here rfl (mS .here rfl (mS .here rfl (mS .here rfl (mS .here rfl (mS .here rfl mN)))))))) ?_ ?_
    ·refine ⟨?_,?_,?_⟩
     ·(try dsimp only)<;>(first|omega|rfl|assumption|(simp; done))
     ·(try dsimp only)<;>(first|omega|rfl|assumption|(simp; done))
     (try dsimp only)<;>(first|omega|rfl|assumption|(simp; done))
    intro gh N1 Gl1 hN1 hGl1 hF1
    obtain ⟨k,m,bb,cap,sz⟩:=gh; dsimp only at hF1 hN1 ⊢
    obtain ⟨hk,hm,hsz⟩:=hF1
    have hs151:=hs151.mono hGl1
    refine .seq (rq1 rfl rfl (cp rfl .no (.u rfl) (.u rfl) rfl (.nil (.code (.seq (.cond rfl (fun c8=>?_) (fun c8=>?_)))))))
    ·have c8k:=c8
     try simp only [qcA,qcC,qcB] at c8
     refine .skip (.code (.seq (.block (.seq (rq4 rfl rfl (ih rfl .no Fx.se189 (.u rfl) (.u rfl) (fun _=>by omega) (fun _=>by omega) (fun _=>hs151.nn (k:=k) (by first|omega|(simp only [Bool.and_eq_true,decide_eq_true_eq] at hc; omega)|(simp only [List.length_cons,List.length_nil]; omega))) ?_))))))
     obtain ⟨e,ee⟩:=getx (k:=k) (xs:=(entsF 0 l)) (by rw [entsF_len]; omega)
     obtain ⟨op,eop⟩:=getx (k:=k) (xs:=l) (by omega)
     have hop:=hok op (List.mem_of_getElem? eop)
     have heq:=entsF_at (j:=0) eop
     rw [ee,Nat.zero_add] at heq
     have heq:=Option.some.inj heq
     subst heq
     obtain ⟨hW,hWn⟩:=wayW (k:=k) (q:=BitVec.ofNat 64 (k+1)) (by omega) eop hord (by omega)
     refine lA rfl .no Fx.ag179 (.u rfl) (fun _=>(hs151.at (by omega) ee).rd) (fun _=>Ent.len _) ?_
     refine al rfl FxGrC.zq179 ?_; intro b17
     refine sw rfl (.u rfl) (.u rfl) rfl Fx.sz179 .here rfl (Ent.one _) ?_
     refine .nil (.code (Wk.mixp ⟨true,false⟩ Fx.mix (by kernel_rfl) ?_))
     refine Wp.one 0 (by kernel_rfl) ?_
     refine mV rfl rfl (.nil (Wp.one 1 (by kernel_rfl) ?_))
     refine nc rfl .no (.u rfl) (.nil (Wp.one 2 (by kernel_rfl) ?_))
     refine fz rfl .no Fx.fo165_13 (.u rfl) (.nil (Wp.one 5 (by kernel_rfl) ?_))
     refine fz rfl .no Fx.fo179_1 (.u rfl) (.nil (Wp.one 6 (by kernel_rfl) ?_))
     refine ld rfl .no Fx.ag23 (.u rfl) (fun _=>Rd.own .here rfl) ?_
     refine .nil (Wp.b3 3 4 7 (by kernel_rfl) ?_ ?_ ?_)
     ·refine ld rfl .no Fx.ag153 (.u rfl) (fun _=>Rd.own tk3 rfl) ?_
      refine .nil (Wp.b2 4 7 (by kernel_rfl) ?_ ?_)
      ·refine lA rfl .no Fx.ag179 (.u rfl) (fun _=>RdN.own .here) (fun _=>Ent.len _) ?_
       refine .nil (Wp.b1 7 (by kernel_rfl) ?_)
       refine kv rfl .no Fx.go236 (Evc rfl Evn) (fun _=>height_ok k _ (by omega)) ?_
       refine .nil (Wp.b1 8 (by kernel_rfl) ?_)
       refine ka rfl (.inl rfl) Fx.go235 (Evc rfl (Evc rfl (Evc rfl Evn))) (mtk2 tk1 tk1) (lPut_ok bn bb m cap sz (k+1) (lstW (entsF 0 l) k) (entE (BitVec.ofNat 64 (k+1)) op) (wyW k) _ hm hW hWn (right_op hop (by simp; omega)) (by omega) (by omega) (by rw [lstW_len]; omega) (by omega)) ?_
       rintro _ G165 μ165 hG165 ⟨bb2,cap2,rfl,rfl⟩
       refine .nil (Wp.one 9 (by kernel_rfl) ?_)
       refine cp rfl .no (.u rfl) (.u rfl) rfl (.nil (Wp.b1 10 (by kernel_rfl) ?_))
       refine kv rfl .no Fx.go103 (Evc rfl Evn) (fun _=>dneed_ok _ rfl _) ?_
       refine .nil (Wp.last (by kernel_rfl) ?_)
       refine .blk (.code (rq2 rfl rfl (arn (((k+1):Nat):Int) rfl .no (.u rfl) (.u rfl) rfl (fun _=>by omega) (fun _=>wrap_i64 (by omega) (by omega)) ?_)))
       refine mV rfl rfl (.nil (We.lpo (k+1,(lstW (entsF 0 l) k++[(entE (BitVec.ofNat 64 (k+1)) op,fun _=>0)]).length,bb2,cap2,sz+(op.user.size+op.value.size+8)) (esC rfl (by first|rfl|exact evi (by omega)) (esD rfl (esD rfl (esD rfl (esD rfl (esD rfl eZ)))))) (mS .here rfl (mS .here (by rw [lstW_step ee]) (mS tk1 rfl (mS tk1 rfl (mS tk1 rfl (mS tk1 rfl (mS tk1 rfl (mS tk1 rfl mN)))))))) ?_ ?_ ?_))
       ·first|omega|(dsimp only; omega)
       ·exact (hGl1).trans hG165
       refine ⟨?_,?_,?_⟩
       ·(try dsimp only)<;>(first|omega|rfl|assumption|(simp; done))
       ·(try dsimp only)<;>(rw [lstW_step ee,lnkN_len])
       (try dsimp only)<;>(have:=hop.user; have:=hop.value; omega)
      refine kv rfl .no Fx.go236 (Evc rfl Evn) (fun _=>height_ok k _ (by omega)) ?_
      refine .nil (Wp.one 4 (by kernel_rfl) ?_)
      refine lA rfl .no Fx.ag179 (.u rfl) (fun _=>RdN.own .here) (fun _=>Ent.len _) ?_
      refine .nil (Wp.b1 8 (by kernel_rfl) ?_)
      refine ka rfl (.inl rfl) Fx.go235 (Evc rfl (Evc rfl (Evc rfl Evn))) (mtk2 tk1 tk1) (lPut_ok bn bb m cap sz (k+1) (lstW (entsF 0 l) k) (entE (BitVec.ofNat 64 (k+1)) op) (wyW k) _ hm hW hWn (right_op hop (by simp; omega)) (by omega) (by omega) (by rw [lstW_len]; omega) (by omega)) ?_
      rintro _ G165 μ165 hG165 ⟨bb2,cap2,rfl,rfl⟩
      refine .nil (Wp.one 9 (by kernel_rfl) ?_)
      refine cp rfl .no (.u rfl) (.u rfl) rfl (.nil (Wp.b1 10 (by kernel_rfl) ?_))
      refine kv rfl .no Fx.go103 (Evc rfl Evn) (fun _=>dneed_ok _ rfl _) ?_
      refine .nil (Wp.last (by kernel_rfl) ?_)
      refine .blk (.code (rq2 rfl rfl (arn (((k+1):Nat):Int) rfl .no (.u rfl) (.u rfl) rfl (fun _=>by omega) (fun _=>wrap_i64 (by omega) (by omega)) ?_)))
      refine mV rfl rfl (.nil (We.lpo (k+1,(lstW (entsF 0 l) k++[(entE (BitVec.ofNat 64 (k+1)) op,fun _=>0)]).length,bb2,cap2,sz+(op.user.size+op.value.size+8)) (esC rfl (by first|rfl|exact evi (by omega)) (esD rfl (esD rfl (esD rfl (esD rfl (esD rfl eZ)))))) (mS .here rfl (mS .here (by rw [lstW_step ee]) (mS tk1 rfl (mS tk1 rfl (mS tk1 rfl (mS tk1 rfl (mS tk1 rfl (mS tk1 rfl mN)))))))) ?_ ?_ ?_))
      ·first|omega|(dsimp only; omega)
      ·exact (hGl1).trans hG165
      refine ⟨?_,?_,?_⟩
      ·(try dsimp only)<;>(first|omega|rfl|assumption|(simp; done))
      ·(try dsimp only)<;>(rw [lstW_step ee,lnkN_len])
      (try dsimp only)<;>(have:=hop.user; have:=hop.value; omega)
     ·refine lA rfl .no Fx.ag179 (.u rfl) (fun _=>RdN.own .here) (fun _=>Ent.len _) ?_
      refine .nil (Wp.b2 3 7 (by kernel_rfl) ?_ ?_)
      ·refine ld rfl .no Fx.ag153 (.u rfl) (fun _=>Rd.own tk3 rfl) ?_
       refine .nil (Wp.b1 7 (by kernel_rfl) ?_)
       refine kv rfl .no Fx.go236 (Evc rfl Evn) (fun _=>height_ok k _ (by omega)) ?_
       refine .nil (Wp.b1 8 (by kernel_rfl) ?_)
       refine ka rfl (.inl rfl) Fx.go235 (Evc rfl (Evc rfl (Evc rfl Evn))) (mtk2 tk1 tk1) (lPut_ok bn bb m cap sz (k+1) (lstW (entsF 0 l) k) (entE (BitVec.ofNat 64 (k+1)) op) (wyW k) _ hm hW hWn (right_op hop (by simp; omega)) (by omega) (by omega) (by rw [lstW_len]; omega) (by omega)) ?_
       rintro _ G165 μ165 hG165 ⟨bb2,cap2,rfl,rfl⟩
       refine .nil (Wp.one 9 (by kernel_rfl) ?_)
       refine cp rfl .no (.u rfl) (.u rfl) rfl (.nil (Wp.b1 10 (by kernel_rfl) ?_))
       refine kv rfl .no Fx.go103 (Evc rfl Evn) (fun _=>dneed_ok _ rfl _) ?_
       refine .nil (Wp.last (by kernel_rfl) ?_)
       refine .blk (.code (rq2 rfl rfl (arn (((k+1):Nat):Int) rfl .no (.u rfl) (.u rfl) rfl (fun _=>by omega) (fun _=>wrap_i64 (by omega) (by omega)) ?_)))
       refine mV rfl rfl (.nil (We.lpo (k+1,(lstW (entsF 0 l) k++[(entE (BitVec.ofNat 64 (k+1)) op,fun _=>0)]).length,bb2,cap2,sz+(op.user.size+op.value.size+8)) (esC rfl (by first|rfl|exact evi (by omega)) (esD rfl (esD rfl (esD rfl (esD rfl (esD rfl eZ)))))) (mS .here rfl (mS .here (by rw [lstW_step ee]) (mS tk1 rfl (mS tk1 rfl (mS tk1 rfl (mS tk1 rfl (mS tk1 rfl (mS tk1 rfl mN)))))))) ?_ ?_ ?_))
       ·first|omega|(dsimp only; omega)
       ·exact (hGl1).trans hG165
       refine ⟨?_,?_,?_⟩
       ·(try dsimp only)<;>(first|omega|rfl|assumption|(simp; done))
       ·(try dsimp only)<;>(rw [lstW_step ee,lnkN_len])
       (try dsimp only)<;>(have:=hop.user; have:=hop.value; omega)
      refine kv rfl .no Fx.go236 (Evc rfl Evn) (fun _=>height_ok k _ (by omega)) ?_
      refine .nil (Wp.one 3 (by kernel_rfl) ?_)
      refine ld rfl .no Fx.ag153 (.u rfl) (fun _=>Rd.own tk3 rfl) ?_
      refine .nil (Wp.b1 8 (by kernel_rfl) ?_)
      refine ka rfl (.inl rfl) Fx.go235 (Evc rfl (Evc rfl (Evc rfl Evn))) (mtk2 tk1 tk1) (lPut_ok bn bb m cap sz (k+1) (lstW (entsF 0 l) k) (entE (BitVec.ofNat 64 (k+1)) op) (wyW k) _ hm hW hWn (right_op hop (by simp; omega)) (by omega) (by omega) (by rw [lstW_len]; omega) (by omega)) ?_
      rintro _ G165 μ165 hG165 ⟨bb2,cap2,rfl,rfl⟩
      refine .nil (Wp.one 9 (by kernel_rfl) ?_)
      refine cp rfl .no (.u rfl) (.u rfl) rfl (.nil (Wp.b1 10 (by kernel_rfl) ?_))
      refine kv rfl .no Fx.go103 (Evc rfl Evn) (fun _=>dneed_ok _ rfl _) ?_
      refine .nil (Wp.last (by kernel_rfl) ?_)
      refine .blk (.code (rq2 rfl rfl (arn (((k+1):Nat):Int) rfl .no (.u rfl) (.u rfl) rfl (fun _=>by omega) (fun _=>wrap_i64 (by omega) (by omega)) ?_)))
      refine mV rfl rfl (.nil (We.lpo (k+1,(lstW (entsF 0 l) k++[(entE (BitVec.ofNat 64 (k+1)) op,fun _=>0)]).length,bb2,cap2,sz+(op.user.size+op.value.size+8)) (esC rfl (by first|rfl|exact evi (by omega)) (esD rfl (esD rfl (esD rfl (esD rfl (esD rfl eZ)))))) (mS .here rfl (mS .here (by rw [lstW_step ee]) (mS tk1 rfl (mS tk1 rfl (mS tk1 rfl (mS tk1 rfl (mS tk1 rfl (mS tk1 rfl mN)))))))) ?_ ?_ ?_))
      ·first|omega|(dsimp only; omega)
      ·exact (hGl1).trans hG165
      refine ⟨?_,?_,?_⟩
      ·(try dsimp only)<;>(first|omega|rfl|assumption|(simp; done))
      ·(try dsimp only)<;>(rw [lstW_step ee,lnkN_len])
      (try dsimp only)<;>(have:=hop.user; have:=hop.value; omega)
     refine kv rfl .no Fx.go236 (Evc rfl Evn) (fun _=>height_ok k _ (by omega)) ?_
     refine .nil (Wp.one 3 (by kernel_rfl) ?_)
     refine ld rfl .no Fx.ag153 (.u rfl) (fun _=>Rd.own tk3 rfl) ?_
     refine .nil (Wp.one 4 (by kernel_rfl) ?_)
     refine lA rfl .no Fx.ag179 (.u rfl) (fun _=>RdN.own .here) (fun _=>Ent.len _) ?_
     refine .nil (Wp.b1 8 (by kernel_rfl) ?_)
     refine ka rfl (.inl rfl) Fx.go235 (Evc rfl (Evc rfl (Evc rfl Evn))) (mtk2 tk1 tk1) (lPut_ok bn bb m cap sz (k+1) (lstW (entsF 0 l) k) (entE (BitVec.ofNat 64 (k+1)) op) (wyW k) _ hm hW hWn (right_op hop (by simp; omega)) (by omega) (by omega) (by rw [lstW_len]; omega) (by omega)) ?_
     rintro _ G165 μ165 hG165 ⟨bb2,cap2,rfl,rfl⟩
     refine .nil (Wp.one 9 (by kernel_rfl) ?_)
     refine cp rfl .no (.u rfl) (.u rfl) rfl (.nil (Wp.b1 10 (by kernel_rfl) ?_))
     refine kv rfl .no Fx.go103 (Evc rfl Evn) (fun _=>dneed_ok _ rfl _) ?_
     refine .nil (Wp.last (by kernel_rfl) ?_)
     refine .blk (.code (rq2 rfl rfl (arn (((k+1):Nat):Int) rfl .no (.u rfl) (.u rfl) rfl (fun _=>by omega) (fun _=>wrap_i64 (by omega) (by omega)) ?_)))
     refine mV rfl rfl (.nil (We.lpo (k+1,(lstW (entsF 0 l) k++[(entE (BitVec.ofNat 64 (k+1)) op,fun _=>0)]).length,bb2,cap2,sz+(op.user.size+op.value.size+8)) (esC rfl (by first|rfl|exact evi (by omega)) (esD rfl (esD rfl (esD rfl (esD rfl (esD rfl eZ)))))) (mS .here rfl (mS .here (by rw [lstW_step ee]) (mS tk1 rfl (mS tk1 rfl (mS tk1 rfl (mS tk1 rfl (mS tk1 rfl (mS tk1 rfl mN)))))))) ?_ ?_ ?_))
     ·first|omega|(dsimp only; omega)
     ·exact (hGl1).trans hG165
     refine ⟨?_,?_,?_⟩
     ·(try dsimp only)<;>(first|omega|rfl|assumption|(simp; done))
     ·(try dsimp only)<;>(rw [lstW_step ee,lnkN_len])
     (try dsimp only)<;>(have:=hop.user; have:=hop.value; omega)
    have c8k:=c8
    try simp only [qcA,qcC,qcB] at c8
    refine .exit (.xcode (.xlp (.xblk (.code (.seq (Wk.rg [0,1,2,3,4,5,6,7,8,9,10] rfl rfl (mV rfl rfl (nc rfl .no (.u rfl) (fz rfl .no Fx.fo165_7 (.u rfl) (ld rfl .no Fx.ag23 (.u rfl) (fun _=>Rd.own tk2 rfl) ?_))))))))))
    refine mV rfl rfl (ln rfl .no Fx.sn22 (.u rfl) (ci rfl .no rfl Fx.cv3_23 (.u rfl) ?_))
    refine bw (k:=.u64) rfl .no rfl (.u rfl) (.u rfl) rfl (nc rfl .no (.u rfl) (fz rfl .no Fx.fo165_7 (.u rfl) (s1 rfl (.u rfl) (.u rfl) rfl Fx.sz23 tk2 (by first|decide | (show _<85; decide)) (Db.p_seq _ (0#64+BitVec.ofInt 64 ((l.length:Nat):Int))) (.nil (.code (.seq (rq1 rfl rfl (s1 rfl (.u rfl) (.u rfl) rfl Fx.sz30 tk7 (by first|decide | (show _<85; decide)) (rfl) ?_))))))))
    refine .nil (.code (.ret (We.finQ [⟨89,[.pointer (some ⟨bx,0,none⟩),.pointer (some ⟨b6,0,none⟩)],[]⟩] rfl (by intro q hq; rw [List.mem_singleton.1 hq]; exact ⟨Fx.go89,fun w hw=>guard_ret w _ _⟩) Tryz.results168 (.cell rfl (fun w hw=>run_loadVar1 Fx.ag30 (Rd.own .here rfl w hw)) .nil) (mS tk1 rfl (mS tk4 rfl (mS tk4 rfl (mS tk1 rfl (mS tk1 rfl (mS tk1 rfl mN)))))) ?_)))
    obtain rfl:k=l.length:=by omega
    exact ⟨bb,m,cap,sz,fsy (nmB 1 1) F3,_,hm,rfl,rfl⟩
   have c7k:=c7
   cases c7
  have c5k:=c5
  cases c5
 have c4k:=c4
 cases c4
end Go.Proofs.YtoifkgkandfeiaaGreatDoor
namespace Go.Proofs.YtoifkgkandfeiaaGreatDoor
open Go.Tan Go.RowKit Go.Maps Go.Sort Go.Shelf
namespace Fx
theorem bp140_0:bPl Tryz.prog 140 [0]=some ([.pointer none,.slice none 0 0],[(0,1)]):=by kernel_rfl
theorem se138:slE Tryz.prog 138=some (142,3,40):=by kernel_rfl
theorem sn138:(slE Tryz.prog 138).isSome=true:=by kernel_rfl
theorem zv71:(Tryz.prog.info? 71).bind (·.zero)=some (.agg #[.int .u8 0,.string ByteArray.empty,.string ByteArray.empty]):=by kernel_rfl
theorem se274:slE Tryz.prog 274=some (22,1,24):=by kernel_rfl
theorem sn274:(slE Tryz.prog 274).isSome=true:=by kernel_rfl
theorem ag22:aggN Tryz.prog 22=some none:=by kernel_rfl
theorem fo142_0:fOff Tryz.prog 142 0=some 0:=by kernel_rfl
theorem ag142:aggN Tryz.prog 142=some (some 3):=by kernel_rfl
theorem go147:goFn Tryz.prog 147=true:=by kernel_rfl
theorem fo140_1:fOff Tryz.prog 140 1=some 1:=by kernel_rfl
theorem ag138:aggN Tryz.prog 138=some none:=by kernel_rfl
theorem go146:goFn Tryz.prog 146=true:=by kernel_rfl
end Fx
theorem gNew0_ok (G:PM):Ct Tryz.prog 51 ([.pointer none]:List Value).toArray G [] (fun _ μ' u=>μ'=[]∧u=.pointer none):=by
 refine Ct.of Tryz.func51 rfl Tryz.ntmps51 rfl fun w0 hs0=>?_
 refine .seq (rq1 rfl rfl (aS rfl rfl (.nil (.code (.seq (.seq (rq2 rfl rfl (mV rfl rfl (pe0 rfl .no Fx.pt45 (.u rfl) (.u rfl) ?_)))))))))
 refine .nil (.code (Wk.condT rfl rfl ?_))
 refine .seq (rq1 rfl rfl (aS rfl rfl (.nil (.code (.ret (We.fin0 Tryz.results51 (.tmp rfl .nil) ?_))))))
 exact ⟨rfl,rfl⟩
theorem gNew_ok (bq:Nat) (G:PM):Ct Tryz.prog 51 ([pt bq]:List Value).toArray G [] (fun _ μ' u=>∃ bg,μ'=[.blk bg (cl [pt bq,.slice none 0 0] 140)]∧u=pt bg):=by
 refine Ct.of Tryz.func51 rfl Tryz.ntmps51 rfl fun w0 hs0=>?_
 refine .seq (rq1 rfl rfl (aS rfl rfl (.nil (.code (.seq (.seq (rq2 rfl rfl (mV rfl rfl (pe rfl .no Fx.pt45 (.u rfl) (.u rfl) ?_)))))))))
 refine .nil (.code (Wk.condF rfl rfl ?_))
 refine .skip (.code (.seq (rq4 rfl rfl (mV rfl rfl (bCe ([pt bq,.slice none 0 0]) rfl .no Fx.bp140_0 (.cons (.u rfl) rfl .nil) rfl (rfl) ?_)))))
 refine bx rfl (.u rfl) rfl ?_; intro b7
 refine aS rfl rfl (.nil (.code (.ret (We.fin Tryz.results51 (.tmp rfl .nil) (mS .here rfl mN) ?_))))
 exact ⟨b7,rfl,rfl⟩
theorem cloneW0_ok (s:Sh) (n:Nat) (hn:n=0) (G:PM):Ct Tryz.prog 170 ([s.val n]:List Value).toArray G [] (fun _ μ' u=>∃ o,μ'=[]∧u=.slice o 0 0):=by
 subst hn
 refine Ct.of Tryz.func170 rfl Tryz.ntmps170 rfl fun w0 hs0=>?_
 refine .seq (rq1 rfl rfl (aS rfl rfl (.nil (.code (.seq (.seq (rq2 rfl rfl (mV rfl rfl (sn0 rfl .no Fx.sn138 (.u rfl) (.u rfl) ?_)))))))))
 refine .nil (.code (.cond rfl (fun c1=>?_) (fun c1=>?_)))
 ·have c1k:=c1
  try simp only [qcA,qcB] at c1
  refine .seq (rq1 rfl rfl (aS rfl rfl (.nil (.code (.ret (We.fin0 Tryz.results170 (.tmp rfl .nil) ?_))))))
  exact ⟨none,rfl,rfl⟩
 have c1k:=c1
 try simp only [qcA,qcB] at c1
 refine .skip (.code (.seq (rq4 rfl rfl ?_)))
 refine b0B rfl Fx.se138 ?_; intro b5
 refine mV rfl rfl (apE0 rfl Fx.se138 (.u rfl) (.u rfl) ?_)
 refine aS rfl rfl (.nil (.code (.ret (We.fin0 Tryz.results170 (.tmp rfl .nil) ?_))))
 exact ⟨some _,rfl,rfl⟩
theorem cloneO_ok (h:Sh) (l:List Opn) (G:PM) (hs:SlR G 3 Opn.cells h l) (h0:0<l.length) (hl:l.length≤1000):Ct Tryz.prog 95 ([h.val l.length]:List Value).toArray G [] (fun G' μ' u=>∃ s,μ'=[]∧u=s.val l.length∧SlR G' 3 Opn.cells s l):=by
 refine Ct.of Tryz.func95 rfl Tryz.ntmps95 rfl fun w0 hs0=>?_
 refine .seq (rq1 rfl rfl (aS rfl rfl (.nil (.code (.seq (.seq (rq2 rfl rfl (mV rfl rfl (sn0 rfl .no Fx.sn22 (.u rfl) (.u rfl) ?_)))))))))
 refine .nil (.code (.cond rfl (fun c1=>?_) (fun c1=>?_)))
 ·have c1k:=c1
  rw [hs.nn h0] at c1; cases c1
 have c1k:=c1
 try simp only [qcA,qcB] at c1
 refine .skip (.code (.seq (rq4 rfl rfl ?_)))
 refine b0B rfl Fx.se22 ?_; intro b5
 refine mV rfl rfl ?_
 refine apE (enc:=Opn.cells) rfl Fx.se22 Fx.zv71 rfl (.u rfl) (.u rfl) hs h0 (fun _ _=>rfl) (opns_one l) (by omega) (by unfold maxLen; omega) ?_; intro v7 ov7
 refine aS rfl rfl (.nil (.code (.ret ?_)))
 refine we_fs .here (fun _ _=>rfl) (by intro b hb; cases hb) ?_; intro GfR7 hR7 hleR7 evR7 hsR7; subst evR7
 refine We.fin0 Tryz.results95 (.tmp rfl .nil) ?_
 exact ⟨hR7,rfl,rfl,hsR7⟩
theorem bSize_ok (h:Sh) (l:List Opn) (G:PM) (hs:SlR G 3 Opn.cells h l) (hl:l.length≤2) (hok:∀ o∈l,o.ok):Ct Tryz.prog 167 ([h.val l.length]:List Value).toArray G [] (fun _ μ' u=>μ'=[]∧u=.int .i64 ((8*l.length+szO l:Nat):Int)):=by
 refine Ct.of Tryz.func167 rfl Tryz.ntmps167 rfl fun w0 hs0=>?_
 refine .seq (rq1 rfl rfl (aS rfl rfl (.nil (.code (.seq (rq4 rfl rfl (mV rfl rfl (ln rfl .no Fx.sn22 (.u rfl) (arn (((8*l.length):Nat):Int) rfl .no (.u rfl) (.u rfl) rfl (fun _=>by omega) (fun _=>wrap_i64 (by omega) (by omega)) ?_)))))))))
 refine aS rfl rfl (.nil (.code (.seq (.seq (rq3 rfl rfl (mV rfl rfl (ln rfl .no Fx.sn22 (.u rfl) (mV rfl rfl (.nil (.code (.block ?_)))))))))))
 refine Wk.lop (α:=Nat) (fun k=>[(3,true,.int .i64 ((8*l.length+szO (l.take k):Nat):Int)),(11,true,.int .i64 (k:Int))]) (fun _=>[])
  (fun k Gl=>(k≤l.length)) (fun k=>l.length-k) 0 [(9,true,_),(10,true,_)] []
  (esC rfl (by simp [szO]) (esC rfl (by first|rfl|exact evi (by omega)) (esD rfl (esD rfl eZ))))
  mN ?_ ?_
 ·(try dsimp only)<;>(first|omega|rfl|assumption|(simp; done))
 intro k N0 Gl0 hN0 hGl0 hF0
 try dsimp only at hF0 hN0 ⊢
 have hk:=hF0
 have hs:=hs.mono hGl0
 have hz:=szO_le (l:=l.take k) (fun o ho=>hok o (List.mem_of_mem_take ho)); have hz2:(l.take k).length≤k:=by rw [List.length_take]; omega
 refine .seq (rq1 rfl rfl (cp rfl .no (.u rfl) (.u rfl) rfl (.nil (.code (.seq (.cond rfl (fun c1=>?_) (fun c1=>?_)))))))
 ·have c1k:=c1
  try simp only [qcA,qcB] at c1
  refine .skip (.code (.seq (.block (.seq (rq4 rfl rfl (ih rfl .no Fx.se22 (.u rfl) (.u rfl) (fun _=>by omega) (fun _=>by omega) (fun _=>hs.nn (k:=k) (by first|omega|(simp only [Bool.and_eq_true,decide_eq_true_eq] at hc; omega)|(simp only [List.length_cons,List.length_nil]; omega))) ?_))))))
  obtain ⟨o,eo⟩:=getx (k:=k) (xs:=l) (by omega)
  have ho:=hok o (List.mem_of_getElem? eo)
  have hou:=ho.user; have hov:=ho.value
  refine lA rfl .no Fx.ag71 (.u rfl) (fun _=>(hs.at (by omega) eo).rd) (fun _=>Opn.len _) ?_
  refine al rfl Fx.zr71 ?_; intro b5
  refine sw rfl (.u rfl) (.u rfl) rfl Fx.sz71 .here rfl (Opn.one _) ?_
  refine .nil (.code (rq10 rfl rfl (mV rfl rfl (fz rfl .no Fx.fo71_1 (.u rfl) (ld rfl .no Fx.ag9 (.u rfl) (fun _=>Rd.own .here (by first|exact wap_f rfl|rfl)) ?_)))))
  refine ls rfl .no Fx.st9 (.u rfl) (fz rfl .no Fx.fo71_2 (.u rfl) (ld rfl .no Fx.ag9 (.u rfl) (fun _=>Rd.own .here (by first|exact wap_f rfl|rfl)) ?_))
  refine ls rfl .no Fx.st9 (.u rfl) (arn (((o.user.size+o.value.size):Nat):Int) rfl .no (.u rfl) (.u rfl) rfl (fun _=>by omega) (fun _=>wrap_i64 (by omega) (by omega)) ?_)
  refine arn (((8*l.length+szO (l.take k)+(o.user.size+o.value.size)):Nat):Int) rfl .no (.u rfl) (.u rfl) rfl (fun _=>by omega) (fun _=>wrap_i64 (by omega) (by omega)) ?_
  refine aS rfl rfl (.nil (.blk (.code (rq2 rfl rfl (arn (((k+1):Nat):Int) rfl .no (.u rfl) (.u rfl) rfl (fun _=>by omega) (fun _=>wrap_i64 (by omega) (by omega)) ?_)))))
  refine mV rfl rfl (.nil (We.lpo (k+1) ?_ ?_ ?_ ?_ ?_))
  ·exact (esC rfl (congrArg (fun z:Nat=>Value.int .i64 (z:Int)) (by rw [szO_snoc eo,Nat.add_assoc])) (esC rfl (by first|rfl|exact evi (by omega)) (esD rfl (esD rfl eZ))))
  ·exact mN
  ·first|omega|(dsimp only; omega)
  ·exact hGl0
  (try dsimp only)<;>(first|omega|rfl|assumption|(simp; done))
 have c1k:=c1
 try simp only [qcA,qcB] at c1
 refine .exit (.xcode (.xlp (.xblk (.code (.seq (rq2 rfl rfl (mV rfl rfl (aS rfl rfl (.nil (.code (.ret (We.fin0 Tryz.results167 (.tmp rfl .nil) ?_))))))))))))
 obtain rfl:k=l.length:=by omega
 rw [List.take_length]
 exact ⟨rfl,rfl⟩
theorem bJoin_ok (h:Sh) (ws:List Wtg) (G:PM) (hs:SlR G 1 encW h ws) (hA:AllW G ws) (hw:ws.length≤1000) (h1:∀ w∈ws,w.ops.length≤10):Ct Tryz.prog 169 ([h.val ws.length]:List Value).toArray G [] (fun G' μ' u=>∃ s,μ'=[]∧u=s.val (jn ws).length∧SlR G' 3 Opn.cells s (jn ws)):=by
 refine Ct.of Tryz.func169 rfl Tryz.ntmps169 rfl fun w0 hs0=>?_
 refine .seq (rq1 rfl rfl (aS rfl rfl (.nil (.code (.seq (rq1 rfl rfl (aS rfl rfl (.nil (.code (.seq (.seq (wk_nilS 3 Opn.cells 71 (rq3 rfl rfl (mV rfl rfl (ln rfl .no Fx.sn274 (.u rfl) (mV rfl rfl (.nil (.code (.block ?_)))))))))))))))))))
 refine Wk.lop (α:=Nat×Value) (fun gh=>[(3,true,gh.2),(8,true,.int .i64 (gh.1:Int))]) (fun gh=>[rS 3 Opn.cells gh.2 71 (jn (ws.take gh.1))])
  (fun gh Gl=>(gh.1≤ws.length)) (fun gh=>ws.length-gh.1) (0,.slice none 0 0) [(6,true,_),(7,true,_)] []
  (esD rfl (esC rfl (by first|rfl|exact evi (by omega)) (esD rfl (esD rfl eZ))))
  (mS .here rfl mN) ?_ ?_
 ·(try dsimp only)<;>(first|omega|rfl|assumption|(simp; done))
 intro gh N0 Gl0 hN0 hGl0 hF0
 obtain ⟨k,v⟩:=gh; dsimp only at hF0 hN0 ⊢
 have hk:=hF0
 have hs:=hs.mono hGl0
 have hA:=hA.mono hGl0
 refine .seq (rq1 rfl rfl (cp rfl .no (.u rfl) (.u rfl) rfl (.nil (.code (.seq (.cond rfl (fun c1=>?_) (fun c1=>?_)))))))
 ·have c1k:=c1
  try simp only [qcA,qcB] at c1
  refine .skip (.code (.seq (.block (.seq (rq3 rfl rfl (ih rfl .no Fx.se274 (.u rfl) (.u rfl) (fun _=>by omega) (fun _=>by omega) (fun _=>hs.nn (k:=k) (by first|omega|(simp only [Bool.and_eq_true,decide_eq_true_eq] at hc; omega)|(simp only [List.length_cons,List.length_nil]; omega))) ?_))))))
  obtain ⟨w,ew⟩:=getx (k:=k) (xs:=ws) (by omega)
  have hwo:=hA w (List.mem_of_getElem? ew)
  have hw1:=h1 w (List.mem_of_getElem? ew)
  have hlt:(jn (ws.take k)).length≤10*k:=Nat.le_trans (jn_le fun w hw=>h1 w (List.mem_of_mem_take hw)) (by rw [List.length_take]; omega)
  refine ld rfl .no Fx.ag22 (.u rfl) (fun _=>(hs.at (by omega) ew 0 _ rfl).rd) ?_
  refine aS rfl rfl (.nil (.code (rq4 rfl rfl (mV rfl rfl (mV rfl rfl ?_)))))
  refine apL (xs:=(jn (ws.take k))) rfl Fx.se22 Fx.zv71 rfl (.u rfl) (.u rfl) .here hwo (fun _ _=>rfl) (opns_one _) (by omega) (by unfold maxLen; omega) ?_; intro v14 ov14
  refine aS rfl rfl (.nil (.blk (.code (rq2 rfl rfl (arn (((k+1):Nat):Int) rfl .no (.u rfl) (.u rfl) rfl (fun _=>by omega) (fun _=>wrap_i64 (by omega) (by omega)) ?_)))))
  refine mV rfl rfl (.nil (We.lpo (k+1,v14) ?_ ?_ ?_ ?_ ?_))
  ·exact (esD rfl (esC rfl (by first|rfl|exact evi (by omega)) (esD rfl (esD rfl eZ))))
  ·exact (mS .here (by rw [jn_snoc ew]) mN)
  ·first|omega|(dsimp only; omega)
  ·exact hGl0
  (try dsimp only)<;>(first|omega|rfl|assumption|(simp; done))
 have c1k:=c1
 try simp only [qcA,qcB] at c1
 refine .exit (.xcode (.xlp (.xblk (.code (.seq (rq2 rfl rfl (mV rfl rfl (aS rfl rfl (.nil (.code (.ret ?_)))))))))))
 refine we_fs .here (fun _ _=>rfl) (by intro b hb; cases hb) ?_; intro GfRO hRO hleRO evRO hsRO; subst evRO
 refine We.fin0 Tryz.results169 (.tmp rfl .nil) ?_
 obtain rfl:k=ws.length:=by omega
 rw [List.take_length] at hsRO ⊢
 exact ⟨hRO,rfl,rfl,hsRO⟩
theorem of1_ok (w:Wtg) (c bc:Nat) (G:PM) (hb:PB G bc (cl [.int .i64 ((c:Nat):Int)] 3)):Ct Tryz.prog 147 ([Value.agg w.cells.toArray,.pointer (some ⟨bc,0,none⟩)]:List Value).toArray G [] (fun _ μ' u=>μ'=[]∧u=.bool ((fun w=>decide ((w.c:Int)=((c:Nat):Int))) w)):=by
 refine Ct.of Tryz.func147 rfl Tryz.ntmps147 rfl fun w0 hs0=>?_
 refine .seq (rq2 rfl rfl ?_)
 refine bx rfl (.u rfl) rfl ?_; intro b2
 refine aS rfl rfl (.nil (.code (.seq (rq5 rfl rfl (fz rfl .no Fx.fo142_0 (.u rfl) (ld rfl .no Fx.ag3 (.u rfl) (fun _=>Rd.own .here rfl) ?_))))))
 refine ld rfl .no Fx.ag3 (.u rfl) (fun _=>(hb.rd (rfl)).rd) ?_
 refine cp rfl .no (.u rfl) (.u rfl) rfl (aS rfl rfl (.nil (.code (.ret (We.fin0 Tryz.results147 (.tmp rfl .nil) ?_)))))
 exact ⟨rfl,rfl⟩
theorem idxW_ok (h:Sh) (l:List Wtg) (G:PM) (hs:SlR G 3 Wtg.cells h l) (hl:l.length≤100000000) (f:Nat) (hf:goFn Tryz.prog f=true) (vc:List Value) (p:Wtg→Bool) (hc:∀ G',PM.le G G'→∀ m∈l,Ct Tryz.prog f ([Value.agg m.cells.toArray]++vc).toArray G' [] fun _ μ' u=>μ'=[]∧u=.bool (p m)):Ct Tryz.prog 146 ([h.val l.length,.func (.func f) #[] vc.toArray]:List Value).toArray G [] (fun _ μ' u=>μ'=[]∧u=.int .i64 (idxZ p l)):=by
 refine Ct.of Tryz.func146 rfl Tryz.ntmps146 rfl fun w0 hs0=>?_
 refine .seq (rq1 rfl rfl (aS rfl rfl (.nil (.code (.seq (.seq (rq3 rfl rfl (mV rfl rfl (ln rfl .no Fx.sn138 (.u rfl) (mV rfl rfl (.nil (.code (.block ?_)))))))))))))
 refine Wk.lop (α:=Nat) (fun k=>[(8,true,.int .i64 (k:Int))]) (fun _=>[])
  (fun k Gl=>(k≤l.length)∧(∀ j y,j<k→l[j]? = some y→p y=false)) (fun k=>l.length-k) 0 [(0,true,_),(1,true,_),(7,true,_)] []
  (esC rfl (by first|rfl|exact evi (by omega)) (esD rfl (esD rfl (esD rfl eZ))))
  mN ?_ ?_
 ·refine ⟨?_,?_⟩
  ·(try dsimp only)<;>(first|omega|rfl|assumption|(simp; done))
  (try dsimp only)<;>(exact fun j y h=>absurd h (Nat.not_lt_zero _))
 intro k N0 Gl0 hN0 hGl0 hF0
 try dsimp only at hF0 hN0 ⊢
 obtain ⟨hk,hno⟩:=hF0
 have hs:=hs.mono hGl0
 refine .seq (rq1 rfl rfl (cp rfl .no (.u rfl) (.u rfl) rfl (.nil (.code (.seq (.cond rfl (fun c1=>?_) (fun c1=>?_)))))))
 ·have c1k:=c1
  try simp only [qcA,qcB] at c1
  refine .skip (.code (.seq (.block (.seq (rq2 rfl rfl (mV rfl rfl (aS rfl rfl (.nil (.code (.seq (rq6 rfl rfl (mV rfl rfl (mV rfl rfl (mV rfl rfl (ih rfl .no Fx.se138 (.u rfl) (.u rfl) (fun _=>by omega) (fun _=>by omega) (fun _=>hs.nn (k:=k) (by first|omega|(simp only [Bool.and_eq_true,decide_eq_true_eq] at hc; omega)|(simp only [List.length_cons,List.length_nil]; omega))) ?_)))))))))))))))
  obtain ⟨x,ex⟩:=getx (k:=k) (xs:=l) (by omega)
  refine lA rfl .no Fx.ag142 (.u rfl) (fun _=>(hs.at (by omega) ex).rd) (fun _=>Wtg.len _) ?_
  refine kf rfl .no (.u rfl) hf (Evc rfl Evn) (fun _=>hc _ hGl0 x (List.mem_of_getElem? ex)) ?_
  refine .nil (.code (.cond rfl (fun c2=>?_) (fun c2=>?_)))
  ·have c2k:=c2
   try simp only [qcA,qcB] at c2
   refine .seq (rq2 rfl rfl (mV rfl rfl (aS rfl rfl (.nil (.code (.ret (We.fin0 Tryz.results146 (.tmp rfl .nil) ?_)))))))
   exact ⟨rfl,idz_hit hno ex (by simpa using c2k)⟩
  have c2k:=c2
  try simp only [qcA,qcB] at c2
  refine .skip (.blk (.code (rq2 rfl rfl (arn (((k+1):Nat):Int) rfl .no (.u rfl) (.u rfl) rfl (fun _=>by omega) (fun _=>wrap_i64 (by omega) (by omega)) ?_))))
  refine mV rfl rfl (.nil (We.lpo (k+1) ?_ ?_ ?_ ?_ ?_))
  ·exact (esC rfl (by first|rfl|exact evi (by omega)) (esD rfl (esD rfl (esD rfl eZ))))
  ·exact mN
  ·first|omega|(dsimp only; omega)
  ·exact hGl0
  refine ⟨?_,?_⟩
  ·(try dsimp only)<;>(first|omega|rfl|assumption|(simp; done))
  (try dsimp only)<;>(exact idz_step hno ex (by simpa using c2k))
 have c1k:=c1
 try simp only [qcA,qcB] at c1
 refine .exit (.xcode (.xlp (.xblk (.code (.seq (rq1 rfl rfl (aS rfl rfl (.nil (.code (.ret (We.fin0 Tryz.results146 (.tmp rfl .nil) ?_)))))))))))
 exact ⟨rfl,idz_none hno (by omega)⟩
theorem of_ok (bg:Nat) (z:Value) (h:Sh) (ws:List Wtg) (c:Nat) (G:PM) (hbg:PB G bg (cl [z,h.val ws.length] 140)) (hs:SlR G 3 Wtg.cells h ws) (hw:ws.length≤1000):Ct Tryz.prog 94 ([pt bg,.int .i64 ((c:Nat):Int)]:List Value).toArray G [] (fun _ μ' u=>μ'=[]∧u=.int .i64 (idxZ (fun w=>decide ((w.c:Int)=((c:Nat):Int))) ws)):=by
 refine Ct.of Tryz.func94 rfl Tryz.ntmps94 rfl fun w0 hs0=>?_
 refine .seq (rq2 rfl rfl ?_)
 refine bx rfl (.u rfl) rfl ?_; intro b3
 refine aS rfl rfl (.nil (.code (.seq ?_)))
 refine wk_fz .here (by intro b hb; cases hb) ?_; intro Gfb3 hleb3 hbb3
 have hbg:=hbg.mono hleb3
 have hs:=hs.mono hleb3
 refine rq7 rfl rfl (mV rfl rfl (nc rfl .no (.u rfl) (fa rfl .no Fx.fo140_1 (.u rfl) (ld rfl .no Fx.ag138 (.u rfl) (fun _=>(hbg.rd (rfl)).rd) ?_))))
 refine mf (vf:=#[]) (vc:=[Value.pointer (some ⟨b3,0,none⟩)].toArray) rfl .no (fun a ha _=>by simp) (fun a ha _=>by simp [(Ev.u (c:=true) rfl:Ev _ true (.tmp 3) _).eval ha rfl]) ?_
 refine kv rfl .no Fx.go146 (Evc rfl (Evc rfl Evn)) (fun _=>idxW_ok h ws _ hs (by omega) 147 Fx.go147 [.pointer (some ⟨b3,0,none⟩)] (fun w=>decide ((w.c:Int)=((c:Nat):Int))) (fun G2 hle m hm=>of1_ok m c b3 G2 (hbb3.mono hle))) ?_
 refine aS rfl rfl (.nil (.code (.ret (We.fin0 Tryz.results94 (.tmp rfl .nil) ?_))))
 exact ⟨rfl,rfl⟩
end Go.Proofs.YtoifkgkandfeiaaGreatDoor
namespace Go.Proofs.YtoifkgkandfeiaaGreatDoor
open Go.Tan Go.RowKit Go.Maps Go.Sort Go.Shelf
namespace Fx
theorem pt75:ptT Tryz.prog 75=true:=by kernel_rfl
theorem go94:goFn Tryz.prog 94=true:=by kernel_rfl
theorem go95:goFn Tryz.prog 95=true:=by kernel_rfl
theorem bp142_0_1_2:bPl Tryz.prog 142 [0,1,2]=some ([.int .i64 0,.slice none 0 0,.bool false],[(0,1),(1,1),(2,1)]):=by kernel_rfl
theorem zv142:(Tryz.prog.info? 142).bind (·.zero)=some (.agg #[.int .i64 0,.slice none 0 0,.bool false]):=by kernel_rfl
theorem sz138:szT Tryz.prog 138=some 1:=by kernel_rfl
end Fx
theorem subm_ok (bg:Nat) (z v0:Value) (ws:List Wtg) (c:Nat) (h:Sh) (l:List Opn) (sy:Bool) (G:PM) (hs:SlR G 3 Opn.cells h l) (hl:l.length=1∨l.length=2) (hok:∀ o∈l,o.ok) (hc:c<8) (hw:ws.length≤100) (hno:idxZ (fun w=>decide ((w.c:Int)=((c:Nat):Int))) ws<0):Ct Tryz.prog 57 ([pt bg,.int .i64 ((c:Nat):Int),h.val l.length,.bool sy]:List Value).toArray G [.blk bg (cl [z,v0] 140),rS 3 Wtg.cells v0 142 (ws)] (fun G' μ' u=>∃ (v:Value) (s:Sh),v.oneCell'=true∧SlR G' 3 Opn.cells s l∧μ'=[.blk bg (cl [z,v] 140),rS 3 Wtg.cells v 142 (ws++[⟨c,s,l,sy⟩])]∧u=.int .i64 0):=by
 refine Ct.of Tryz.func57 rfl Tryz.ntmps57 rfl fun w0 hs0=>?_
 refine .seq (rq1 rfl rfl (aS rfl rfl (.nil (.code (.seq (.block (.seq (rq3 rfl rfl (mV rfl rfl (pe rfl .no Fx.pt75 (.u rfl) (.u rfl) ?_))))))))))
 refine aS rfl rfl (.nil (.code (.cond rfl (fun c1=>?_) (fun c1=>?_))))
 ·have c1k:=c1
  cases c1
 have c1k:=c1
 try simp only [qcA,qcC,qcB] at c1
 refine .seq (Wk.rg [0,1,2,3,4,5,6,7,8,9,10,11] rfl rfl (mV rfl rfl (cp rfl .no (.u rfl) (.u rfl) rfl (mV rfl rfl (mv rfl (.f rfl rfl) (.u rfl) (cp rfl (.f rfl rfl) (.s rfl) (.u rfl) rfl (pkO rfl .no (.u rfl) (.s rfl) (mV rfl rfl (mv rfl (.f rfl rfl) (.u rfl) (kv rfl (.f rfl rfl) Fx.go93 (Evc rfl (Eva.cons (.s rfl) Evn)) (fun hc=>bRight_ok h l _ hs hl hok) ?_))))))))))
 refine nt rfl (.f rfl rfl) (.s rfl) (pkO rfl .no (.u rfl) (.s rfl) (aS rfl rfl (.nil (.code (.cond rfl (fun c2=>?_) (fun c2=>?_))))))
 ·have c2k:=c2
  simp at c2; omega
 have c2k:=c2
 try simp only [qcA,qcC,qcB] at c2
 refine .seq (rq5 rfl rfl (mV rfl rfl (mV rfl rfl (ka rfl (.inr rfl) Fx.go94 (Evc rfl (Evc rfl Evn)) (mtk2 .here .here) (lendR (fun _ _=>rfl) fun s G2 hle hv hs2 hb2=>by rw [hv] at hb2; exact of_ok bg z s ws c G2 hb2 hs2 (by omega)) ?_))))
 rintro _ G27 μ27 hG27 ⟨rfl,rfl⟩
 have hs:=hs.mono hG27
 refine cp rfl .no (.u rfl) (.u rfl) rfl (aS rfl rfl (.nil (.code (.cond rfl (fun c3=>?_) (fun c3=>?_)))))
 ·have c3k:=c3
  exact absurd c3 (by simpa using hno)
 have c3k:=c3
 try simp only [qcA,qcC,qcB] at c3
 refine .skip (.blk (.code (.seq (Wk.mixp ⟨true,false⟩ Fx.mix (by kernel_rfl) ?_))))
 refine Wp.one 0 (by kernel_rfl) ?_
 refine mV rfl rfl (.nil (Wp.one 1 (by kernel_rfl) ?_))
 refine mV rfl rfl (.nil (Wp.one 2 (by kernel_rfl) ?_))
 refine nc rfl .no (.u rfl) (.nil (Wp.one 3 (by kernel_rfl) ?_))
 refine fz rfl .no Fx.fo140_1 (.u rfl) (.nil (Wp.one 5 (by kernel_rfl) ?_))
 refine mV rfl rfl (.nil (Wp.one 6 (by kernel_rfl) ?_))
 refine mV rfl rfl (.nil (Wp.one 8 (by kernel_rfl) ?_))
 refine mV rfl rfl (.nil (Wp.b2 4 7 (by kernel_rfl) ?_ ?_))
 ·refine ld rfl .no Fx.ag138 (.u rfl) (fun _=>Rd.own .here rfl) ?_
  refine .nil (Wp.b1 7 (by kernel_rfl) ?_)
  refine kc rfl Fx.go95 (Evc rfl Evn) (cloneO_ok h l _ hs (by omega) (by omega)) ?_
  rintro _ G36 μ36 hG36 ⟨s36,rfl,rfl,hs36⟩
  have hs:=hs.mono hG36
  refine .nil (Wp.one 9 (by kernel_rfl) ?_)
  refine bCe (Wtg.cells ⟨c,s36,l,sy⟩) rfl .no Fx.bp142_0_1_2 (.cons (.u rfl) rfl (.cons (.u rfl) rfl (.cons (.u rfl) rfl .nil))) rfl (rfl) (.nil (Wp.b1 10 (by kernel_rfl) ?_))
  refine Go.Tan.b1 rfl Fx.se138 Fx.zv142 (.u rfl) rfl rfl (by decide) ?_; intro b39
  refine .nil (Wp.b1 11 (by kernel_rfl) ?_)
  refine apS (xs:=ws) (⟨c,s36,l,sy⟩) rfl Fx.se138 Fx.zv142 rfl (.u rfl) (.u rfl) tk2 .here (rfl) (Wtg.one _) (by omega) (by unfold maxLen; omega) ?_; intro v40 ov40
  refine .nil (Wp.one 12 (by kernel_rfl) ?_)
  refine nc rfl .no (.u rfl) (.nil (Wp.one 13 (by kernel_rfl) ?_))
  refine fz rfl .no Fx.fo140_1 (.u rfl) (.nil (Wp.b1 14 (by kernel_rfl) ?_))
  refine s1v rfl (.u rfl) (.u rfl) .here Fx.sz138 tk2 (by first|decide|(simp only [wa_len,ba_len,qlA]; omega)) (rfl) ?_
  refine .nil (Wp.last (by kernel_rfl) ?_)
  refine .code (.seq (rq1 rfl rfl (aS rfl rfl (.nil (.code (.ret (We.fin Tryz.results57 (.tmp rfl .nil) (mS .here rfl (mS .here rfl mN)) ?_)))))))
  exact ⟨v40,s36,ov40,hs36,rfl,rfl⟩
 refine kc rfl Fx.go95 (Evc rfl Evn) (cloneO_ok h l _ hs (by omega) (by omega)) ?_
 rintro _ G36 μ36 hG36 ⟨s36,rfl,rfl,hs36⟩
 refine .nil (Wp.one 4 (by kernel_rfl) ?_)
 refine ld rfl .no Fx.ag138 (.u rfl) (fun _=>Rd.own .here rfl) ?_
 refine .nil (Wp.one 9 (by kernel_rfl) ?_)
 refine bCe (Wtg.cells ⟨c,s36,l,sy⟩) rfl .no Fx.bp142_0_1_2 (.cons (.u rfl) rfl (.cons (.u rfl) rfl (.cons (.u rfl) rfl .nil))) rfl (rfl) (.nil (Wp.b1 10 (by kernel_rfl) ?_))
 refine Go.Tan.b1 rfl Fx.se138 Fx.zv142 (.u rfl) rfl rfl (by decide) ?_; intro b39
 refine .nil (Wp.b1 11 (by kernel_rfl) ?_)
 refine apS (xs:=ws) (⟨c,s36,l,sy⟩) rfl Fx.se138 Fx.zv142 rfl (.u rfl) (.u rfl) tk2 .here (rfl) (Wtg.one _) (by omega) (by unfold maxLen; omega) ?_; intro v40 ov40
 refine .nil (Wp.one 12 (by kernel_rfl) ?_)
 refine nc rfl .no (.u rfl) (.nil (Wp.one 13 (by kernel_rfl) ?_))
 refine fz rfl .no Fx.fo140_1 (.u rfl) (.nil (Wp.b1 14 (by kernel_rfl) ?_))
 refine s1v rfl (.u rfl) (.u rfl) .here Fx.sz138 tk2 (by first|decide|(simp only [wa_len,ba_len,qlA]; omega)) (rfl) ?_
 refine .nil (Wp.last (by kernel_rfl) ?_)
 refine .code (.seq (rq1 rfl rfl (aS rfl rfl (.nil (.code (.ret (We.fin Tryz.results57 (.tmp rfl .nil) (mS .here rfl (mS .here rfl mN)) ?_)))))))
 exact ⟨v40,s36,ov40,hs36,rfl,rfl⟩
end Go.Proofs.YtoifkgkandfeiaaGreatDoor
namespace Go.Proofs.YtoifkgkandfeiaaGreatDoor
open Go.Tan Go.RowKit Go.Maps Go.Sort Go.Shelf
namespace Fx
theorem zr142:zrL Tryz.prog 142=some ([.int .i64 0,.slice none 0 0,.bool false]):=by kernel_rfl
theorem sz142:szT Tryz.prog 142=some 3:=by kernel_rfl
theorem fo142_1:fOff Tryz.prog 142 1=some 1:=by kernel_rfl
theorem go167:goFn Tryz.prog 167=true:=by kernel_rfl
theorem zv22:(Tryz.prog.info? 22).bind (·.zero)=some (.slice none 0 0):=by kernel_rfl
theorem fo142_2:fOff Tryz.prog 142 2=some 2:=by kernel_rfl
theorem fo140_0:fOff Tryz.prog 140 0=some 0:=by kernel_rfl
theorem go169:goFn Tryz.prog 169=true:=by kernel_rfl
theorem go168:goFn Tryz.prog 168=true:=by kernel_rfl
theorem bp73_0_1:bPl Tryz.prog 73 [0,1]=some ([.int .i64 0,.int .i64 0],[(0,1),(1,1)]):=by kernel_rfl
theorem se41:slE Tryz.prog 41=some (73,2,16):=by kernel_rfl
theorem zv73:(Tryz.prog.info? 73).bind (·.zero)=some (.agg #[.int .i64 0,.int .i64 0]):=by kernel_rfl
theorem go170:goFn Tryz.prog 170=true:=by kernel_rfl
end Fx
end Go.Proofs.YtoifkgkandfeiaaGreatDoor
namespace Go.Proofs.YtoifkgkandfeiaaGreatDoor
open Go.Tan Go.RowKit Go.Maps Go.Sort Go.Shelf
set_option maxHeartbeats 1000000 in
theorem gComS_ok (bg bx bm room bd bt held bn:Nat) (root:Nat→Y) (o:Opts) (v0:Value) (F:List Fi) (h:Sh) (w:Wtg) (o1:BitVec 64) (G:PM) (hD:DkR F 3) (hnm:F.map Fi.nm=[nmB 3 0,nmB 4 0]) (hz:szF F≤2000) (hr:5000≤room) (hr9:room≤1000000000) (hmem:0<o.mem) (hs:SlR G 3 Wtg.cells h [w]) (hwo:SlR G 3 Opn.cells w.sh w.ops) (hw:w.ops.length=1∨w.ops.length=2) (hsy:w.sy=true) (hok:∀ o∈w.ops,o.ok) (hord:w.ops.length=2→lt (w.ops.getD 0 Opn.zero).user (w.ops.getD 1 Opn.zero).user=true) (hK:RdNP G 6 0 (wa 64 kW)):Ct Tryz.prog 109 ([pt bg,.int .i64 100]:List Value).toArray G [.blk bg (cl [pt bx,h.val 1] 140),.blk bx (cl (Db.cells (Db.d3 bd bt root o 1#64 held bn)) 165),.blk bd (cl (dkC bm room 5) 118),.blk bm (mO ((F).map Fi.fe) 3),.blk bn (cl [v0,.int .i64 ((0:Nat):Int)] 225),rS 16 Nd.cells v0 249 [Nd.z],.blk bt (cl [uv .u64 1#64,uv .u64 o1] 87)] (fun _ μ' u=>∃ (oa:Option Addr) (v:Value) (bb m cap sz:Nat) (F4:List Fi) (nn:BitVec 64),v.oneCell'=true∧m=(lstW (entsF 0 w.ops) w.ops.length).length∧μ'=[.blk bg (cl [pt bx,.slice oa 0 0] 140),rS 2 encD v 73 [w.c],.blk bx (cl (Db.cells { Db.d3 bd bt root o 1#64 held bn with lg:=⟨⟨1#8,0#8,0#64,1#64,1#64⟩,nn,true⟩,seq:=(0#64+BitVec.ofInt 64 ((w.ops.length:Nat):Int)) }) 165),.blk bd (cl (dkC bm room 7) 118),.blk bm (mO ((F4).map Fi.fe) 4),.blk bn (cl [.slice (some ⟨bb,0,none⟩) m cap,.int .i64 ((sz:Nat):Int)] 225),rS 16 Nd.cells (.slice (some ⟨bb,0,none⟩) m cap) 249 (lstW (entsF 0 w.ops) w.ops.length),.blk bt (cl [uv .u64 2#64,uv .u64 o1] 87)]∧u=.tuple #[v,.int .i64 0]):=by
 refine Ct.of Tryz.func109 rfl Tryz.ntmps109 rfl fun w0 hs0=>?_
 obtain ⟨ws,ews⟩ : ∃ ws,ws=[w]:=⟨_,rfl⟩
 have hw1:ws.length=1:=by rw [ews]; rfl
 rw [← ews] at hs
 have ejn:jn ws=w.ops:=by rw [ews]; simp [jn]
 refine .seq (rq2 rfl rfl (aS rfl rfl (aS rfl rfl (.nil (.code (.seq (.seq (rq2 rfl rfl (mV rfl rfl (pe rfl .no Fx.pt75 (.u rfl) (.u rfl) ?_))))))))))
 refine .nil (.code (Wk.condF rfl rfl ?_))
 refine .skip (.code (.seq (.seq (rq6 rfl rfl (mV rfl rfl (nc rfl .no (.u rfl) (fz rfl .no Fx.fo140_1 (.u rfl) (ld rfl .no Fx.ag138 (.u rfl) (fun _=>Rd.own .here (show [pt bx,h.val 1][1]? = some (h.val ws.length) by rw [hw1]; rfl)) ?_))))))))
 refine ln rfl .no Fx.sn138 (.u rfl) (cp rfl .no (.u rfl) (.u rfl) rfl (.nil (.code (.cond rfl (fun c1=>?_) (fun c1=>?_)))))
 ·have c1k:=c1
  rw [hw1] at c1; cases c1
 have c1k:=c1
 try simp only [qcA,qcC,qcB] at c1
 refine .skip (.code (.seq (rq5 rfl rfl (mV rfl rfl (mIn (100) (1048576) rfl .no (.u rfl) (.u rfl) (fun _=>by omega) (fun _=>by omega) ?_)))))
 refine mAn (0) ((min 100 1048576)) rfl .no (.u rfl) (.u rfl) (fun _=>by omega) (fun _=>by omega) ?_
 refine aS rfl rfl (aS rfl rfl (.nil (.code (.seq (rq1 rfl rfl (aS rfl rfl (.nil (.code (.seq (wk_nilS 1 encW 22 ?_))))))))))
 refine rq1 rfl rfl (aS rfl rfl (.nil (.code (.seq (.seq (rq6 rfl rfl (mV rfl rfl (nc rfl .no (.u rfl) (fz rfl .no Fx.fo140_1 (.u rfl) (ld rfl .no Fx.ag138 (.u rfl) (fun _=>Rd.own tk1 (show [pt bx,h.val 1][1]? = some (h.val ws.length) by rw [hw1]; rfl)) ?_))))))))))
 refine ln rfl .no Fx.sn138 (.u rfl) (mV rfl rfl (.nil (.code (.block ?_))))
 refine Wk.lop (α:=Nat×Int×Value×Nat) (fun gh=>[(6,true,.int .i64 gh.2.1),(7,true,.int .i64 ((gh.2.2.2:Nat):Int)),(8,true,gh.2.2.1),(9,true,.bool (decide (0<gh.1))),(33,true,.int .i64 (gh.1:Int))]) (fun gh=>[rS 1 encW gh.2.2.1 22 (ws.take gh.1)])
  (fun gh Gl=>(gh.1≤ws.length)∧(100-60*(gh.1:Int)≤gh.2.1∧gh.2.1≤100)∧(gh.2.2.2≤10*gh.1)) (fun gh=>ws.length-gh.1) (0,100,.slice none 0 0,0) [(0,true,_),(31,true,_),(32,true,_)] [_,_,_,_,_,_,_]
  (esC rfl (by first|rfl|exact evi (by omega)) (esC rfl (by first|rfl|exact evi (by omega)) (esD rfl (esD rfl (esC rfl (by first|rfl|exact evi (by omega)) (esD rfl (esD rfl (esD rfl eZ))))))))
  (mS .here rfl (mS .here rfl (mS .here rfl (mS .here rfl (mS .here rfl (mS .here rfl (mS .here rfl (mS .here rfl mN)))))))) ?_ ?_
 ·refine ⟨?_,?_,?_⟩
  ·(try dsimp only)<;>(first|omega|rfl|assumption|(simp; done))
  ·(try dsimp only)<;>(first|omega|rfl|assumption|(simp; done))
  (try dsimp only)<;>(first|omega|rfl|assumption|(simp; done))
 intro gh N0 Gl0 hN0 hGl0 hF0
 obtain ⟨k,r,v,c⟩:=gh; dsimp only at hF0 hN0 ⊢
 obtain ⟨hk,hrr,hcc⟩:=hF0
 have hs:=hs.mono hGl0
 have hwo:=hwo.mono hGl0
 have hK:=hK.mono hGl0
 refine .seq (rq1 rfl rfl (cp rfl .no (.u rfl) (.u rfl) rfl (.nil (.code (.seq (.cond rfl (fun c2=>?_) (fun c2=>?_)))))))
 ·have c2k:=c2
  try simp only [qcA,qcC,qcB] at c2
  refine .skip (.code (.seq (.block (.seq (rq6 rfl rfl (mV rfl rfl (ih rfl .no Fx.se138 (.u rfl) (.u rfl) (fun _=>by omega) (fun _=>by omega) (fun _=>hs.nn (k:=k) (by first|omega|(simp only [Bool.and_eq_true,decide_eq_true_eq] at hc; omega)|(simp only [List.length_cons,List.length_nil]; omega))) ?_)))))))
  have hk0:k=0:=by omega
  have ew:ws[k]? = some w:=by rw [ews,hk0]; rfl
  have hzw:=szO_le hok
  refine lA rfl .no Fx.ag142 (.u rfl) (fun _=>(hs.at (by omega) ew).rd) (fun _=>Wtg.len _) ?_
  refine al rfl Fx.zr142 ?_; intro b11
  refine aS rfl rfl (sw rfl (.u rfl) (.u rfl) rfl Fx.sz142 .here rfl (Wtg.one _) ?_)
  refine .nil (.code (.seq (rq4 rfl rfl (fz rfl .no Fx.fo142_1 (.u rfl) (ld rfl .no Fx.ag22 (.u rfl) (fun _=>Rd.own .here (by first|exact wap_f rfl|rfl)) ?_)))))
  refine kv rfl .no Fx.go167 (Evc rfl Evn) (fun _=>bSize_ok w.sh w.ops _ hwo (by omega) hok) ?_
  refine aS rfl rfl (.nil (.code (.seq (.seq (Wk.rg [0,1,2,3,4,5,6,7,8,9,10,11,12,13,14] rfl rfl (mV rfl rfl (cp rfl .no (.u rfl) (.u rfl) rfl (mV rfl rfl (mv rfl (.t rfl rfl) (.u rfl) (mv rfl (.t rfl rfl) (.u rfl) (cp rfl (.t rfl rfl) (.s rfl) (.s rfl) rfl (mv rfl (.t rfl rfl) (.s rfl) (mv rfl (.fc rfl rfl) (.u rfl) (fz rfl (.fc rfl rfl) Fx.fo142_1 (.u rfl) (ld rfl (.fc rfl rfl) Fx.ag22 (.s rfl) (fun hc=>Rd.own .here (by first|exact wap_f rfl|rfl)) ?_)))))))))))))))
  refine ln rfl (.fc rfl rfl) Fx.sn22 (.s rfl) (arn (((c+w.ops.length):Nat):Int) rfl (.fc rfl rfl) (.s rfl) (.s rfl) rfl (fun hc=>by omega) (fun hc=>wrap_i64 (by omega) (by omega)) ?_)
  refine cp rfl (.fc rfl rfl) (.s rfl) (.u rfl) rfl (pkO rfl (.t rfl rfl) (.s rfl) (.s rfl) (pkA rfl .no (.u rfl) (.s rfl) (.nil (.code (.cond rfl (fun c3=>?_) (fun c3=>?_))))))
  ·have c3k:=c3
   simp [hk0] at c3
  have c3k:=c3
  try simp only [qcA,qcC,qcB] at c3
  refine .skip (.code (.seq (rq4 rfl rfl (mV rfl rfl (mV rfl rfl (ar rfl .no (.u rfl) (.u rfl) rfl (fun _=>wrap_i64 (by omega) (by omega)) ?_))))))
  refine aS rfl rfl (.nil (.code (.seq (rq6 rfl rfl (mV rfl rfl (fz rfl .no Fx.fo142_1 (.u rfl) (ld rfl .no Fx.ag22 (.u rfl) (fun _=>Rd.own .here (by first|exact wap_f rfl|rfl)) ?_)))))))
  refine ln rfl .no Fx.sn22 (.u rfl) (arn (((c+w.ops.length):Nat):Int) rfl .no (.u rfl) (.u rfl) rfl (fun _=>by omega) (fun _=>wrap_i64 (by omega) (by omega)) ?_)
  refine aS rfl rfl (.nil (.code (.seq (rq6 rfl rfl (mV rfl rfl (fz rfl .no Fx.fo142_1 (.u rfl) (ld rfl .no Fx.ag22 (.u rfl) (fun _=>Rd.own .here (by first|exact wap_f rfl|rfl)) ?_)))))))
  refine Go.Tan.b1 rfl Fx.se274 Fx.zv22 (.u rfl) rfl rfl (by decide) ?_; intro b67
  refine apS (xs:=(ws.take k)) (w) rfl Fx.se274 Fx.zv22 rfl (.u rfl) (.u rfl) tk2 .here (rfl) (one1 rfl) (by rw [List.length_take]; omega) (by rw [List.length_take]; unfold maxLen; omega) ?_; intro v68 ov68
  refine aS rfl rfl (.nil (.code (rq6 rfl rfl (mV rfl rfl (mV rfl rfl (fz rfl (.f rfl rfl) Fx.fo142_2 (.u rfl) (ld rfl (.f rfl rfl) Fx.ag4 (.s rfl) (fun hc=>Rd.own tk2 (by first|exact wap_f rfl|rfl)) ?_)))))))
  refine pkO rfl .no (.u rfl) (.s rfl) (aS rfl rfl (.nil (.blk (.code (rq2 rfl rfl (arn (((k+1):Nat):Int) rfl .no (.u rfl) (.u rfl) rfl (fun _=>by omega) (fun _=>wrap_i64 (by omega) (by omega)) ?_))))))
  refine mV rfl rfl (.nil (We.lpo (k+1,r-((8*w.ops.length+szO w.ops:Nat):Int),v68,c+w.ops.length) ?_ ?_ ?_ ?_ ?_))
  ·exact (esC rfl (by first|rfl|exact evi (by omega)) (esD rfl (esD rfl (esC rfl (by rw [hsy,hk0]; rfl) (esC rfl (by first|rfl|exact evi (by omega)) (esD rfl (esD rfl (esD rfl eZ))))))))
  ·exact (mS .here (by rw [tk_snoc ew]) (mS tk2 rfl (mS tk2 rfl (mS tk2 rfl (mS tk2 rfl (mS tk2 rfl (mS tk2 rfl (mS tk2 rfl mN))))))))
  ·first|omega|(dsimp only; omega)
  ·exact hGl0
  refine ⟨?_,?_,?_⟩
  ·(try dsimp only)<;>(first|omega|rfl|assumption|(simp; done))
  ·(try dsimp only)<;>(first|omega|rfl|assumption|(simp; done))
  (try dsimp only)<;>(first|omega|rfl|assumption|(simp; done))
 have c2k:=c2
 try simp only [qcA,qcC,qcB] at c2
 refine .exit (.xcode (.xlp (.xblk (.code (.seq ?_)))))
 obtain rfl:k=ws.length:=by omega
 have hsd:decide (0<ws.length)=true:=by rw [hw1]; rfl
 rw [List.take_length,hsd]
 refine wk_fs .here (fun _ _=>rfl) (keys_k .here rfl (keys_k .here rfl (keys_k .here rfl (keys_k .here rfl (keys_k .here rfl (keys_k .here rfl (keys_k .here rfl (keys_0)))))))) ?_; intro GfRP hRP hleRP evRP hsRP; subst evRP
 have hs:=hs.mono hleRP
 have hwo:=hwo.mono hleRP
 have hK:=hK.mono hleRP
 refine Wk.jn (α:=Nat×Nat×Nat×Nat×List Fi×BitVec 64) (fun gh=>[(13,true,.int .i64 0)]) (fun gh=>[.blk bx (cl (Db.cells { Db.d3 bd bt root o 1#64 held bn with lg:=⟨⟨1#8,0#8,0#64,1#64,1#64⟩,gh.2.2.2.2.2,true⟩,seq:=(0#64+BitVec.ofInt 64 ((w.ops.length:Nat):Int)) }) 165),.blk bd (cl (dkC bm room 7) 118),.blk bm (mO ((gh.2.2.2.2.1).map Fi.fe) 4),.blk bn (cl [.slice (some ⟨gh.1,0,none⟩) gh.2.1 gh.2.2.1,.int .i64 ((gh.2.2.2.1:Nat):Int)] 225),rS 16 Nd.cells (.slice (some ⟨gh.1,0,none⟩) gh.2.1 gh.2.2.1) 249 (lstW (entsF 0 w.ops) w.ops.length),.blk bt (cl [uv .u64 2#64,uv .u64 o1] 87)]) (fun gh Gl=>(gh.2.1=(lstW (entsF 0 w.ops) w.ops.length).length)) [(0,true,_),(8,true,_)] [_]
  (esD rfl (esD rfl eZ)) (mS .here rfl mN) ?_ ?_
 ·refine Wk.mixp ⟨true,false⟩ Fx.mix (by kernel_rfl) ?_
  refine Wp.one 0 (by kernel_rfl) ?_
  refine mV rfl rfl (.nil (Wp.one 1 (by kernel_rfl) ?_))
  refine nc rfl .no (.u rfl) (.nil (Wp.one 2 (by kernel_rfl) ?_))
  refine fz rfl .no Fx.fo140_0 (.u rfl) (.nil (Wp.one 4 (by kernel_rfl) ?_))
  refine mV rfl rfl (.nil (Wp.one 6 (by kernel_rfl) ?_))
  refine mV rfl rfl (.nil (Wp.b2 3 5 (by kernel_rfl) ?_ ?_))
  ·refine ld rfl .no Fx.ag45 (.u rfl) (fun _=>Rd.own .here rfl) ?_
   refine .nil (Wp.b1 5 (by kernel_rfl) ?_)
   refine kc rfl Fx.go169 (Evc rfl Evn) (bJoin_ok hRP ws _ hsRP (by rw [ews]; intro x hx; rw [List.mem_singleton.1 hx]; exact hwo) (by omega) (by rw [ews]; intro x hx; rw [List.mem_singleton.1 hx]; omega)) ?_
   rintro _ G80 μ80 hG80 ⟨s80,rfl,rfl,hs80⟩
   rw [ejn] at hs80 ⊢
   have hs:=hs.mono hG80
   have hwo:=hwo.mono hG80
   have hK:=hK.mono hG80
   have hsRP:=hsRP.mono hG80
   refine .nil (Wp.b1 7 (by kernel_rfl) ?_)
   refine ka rfl (.inl rfl) Fx.go168 (Evc rfl (Evc rfl (Evc rfl Evn))) (mtq6 tk1 tk1 tk1 tk1 tk1 tk1) (dWriteS_ok bx bm room bd bt held bn root o v0 F s80 w.ops o1 _ hD hnm hz hr hr9 hmem hs80 hw hok hord hK) ?_
   rintro _ G82 μ82 hG82 ⟨bb,m,cap,sz,F4,nn,hm4,rfl,rfl⟩
   have hs:=hs.mono hG82
   have hwo:=hwo.mono hG82
   have hK:=hK.mono hG82
   have hsRP:=hsRP.mono hG82
   have hs80:=hs80.mono hG82
   refine .nil (Wp.one 8 (by kernel_rfl) ?_)
   refine aS rfl rfl (.nil (Wp.last (by kernel_rfl) ?_))
   refine We.lpo (bb,m,cap,sz,F4,nn) ?_ ?_ ?_ ?_ ?_
   ·exact (esC rfl (by first|rfl|exact evi (by omega)) (esD rfl (esD rfl eZ)))
   ·exact (mS .here rfl (mS .here rfl (mS .here rfl (mS .here rfl (mS .here rfl (mS .here rfl (mS .here rfl mN)))))))
   ·exact zro_lt _
   ·exact (hG80).trans hG82
   (try dsimp only)<;>(exact hm4)
  refine kc rfl Fx.go169 (Evc rfl Evn) (bJoin_ok hRP ws _ hsRP (by rw [ews]; intro x hx; rw [List.mem_singleton.1 hx]; exact hwo) (by omega) (by rw [ews]; intro x hx; rw [List.mem_singleton.1 hx]; omega)) ?_
  rintro _ G80 μ80 hG80 ⟨s80,rfl,rfl,hs80⟩
  rw [ejn] at hs80 ⊢
  have hs:=hs.mono hG80
  have hK:=hK.mono hG80
  refine .nil (Wp.one 3 (by kernel_rfl) ?_)
  refine ld rfl .no Fx.ag45 (.u rfl) (fun _=>Rd.own .here rfl) ?_
  refine .nil (Wp.b1 7 (by kernel_rfl) ?_)
  refine ka rfl (.inl rfl) Fx.go168 (Evc rfl (Evc rfl (Evc rfl Evn))) (mtq6 tk1 tk1 tk1 tk1 tk1 tk1) (dWriteS_ok bx bm room bd bt held bn root o v0 F s80 w.ops o1 _ hD hnm hz hr hr9 hmem hs80 hw hok hord hK) ?_
  rintro _ G82 μ82 hG82 ⟨bb,m,cap,sz,F4,nn,hm4,rfl,rfl⟩
  have hs:=hs.mono hG82
  refine .nil (Wp.one 8 (by kernel_rfl) ?_)
  refine aS rfl rfl (.nil (Wp.last (by kernel_rfl) ?_))
  refine We.lpo (bb,m,cap,sz,F4,nn) ?_ ?_ ?_ ?_ ?_
  ·exact (esC rfl (by first|rfl|exact evi (by omega)) (esD rfl (esD rfl eZ)))
  ·exact (mS .here rfl (mS .here rfl (mS .here rfl (mS .here rfl (mS .here rfl (mS .here rfl (mS .here rfl mN)))))))
  ·exact zro_lt _
  ·exact (hG80).trans hG82
  (try dsimp only)<;>(exact hm4)
 intro gh Glj18 hGlj18 hFj18
 obtain ⟨bb,m,cap,sz,F4,nn⟩:=gh; dsimp only at hFj18 ⊢
 have hm4:=hFj18
 have hs:=hs.mono hGlj18
 refine .code (.seq (.seq (rq2 rfl rfl (mV rfl rfl (cp rfl .no (.u rfl) (.u rfl) rfl (.nil (.code (.cond rfl (fun c4=>?_) (fun c4=>?_)))))))))
 ·have c4k:=c4
  cases c4
 have c4k:=c4
 try simp only [qcA,qcC,qcB] at c4
 refine .skip (.code (.seq (rq1 rfl rfl (aS rfl rfl (.nil (.code (.seq (.seq (wk_nilS 2 encD 73 ?_)))))))))
 refine rq9 rfl rfl (mV rfl rfl (nc rfl .no (.u rfl) (fz rfl .no Fx.fo140_1 (.u rfl) (ld rfl .no Fx.ag138 (.u rfl) (fun _=>Rd.own tk7 (show [pt bx,h.val 1][1]? = some (h.val ws.length) by rw [hw1]; rfl)) ?_))))
 refine mV rfl rfl (ln rfl .no Fx.sn274 (.u rfl) (kE (ws.length) rfl .no Fx.se138 hs (.u rfl) (.u rfl) (fun _=>by omega) (fun _=>by omega) ?_))
 intro h92 L92 eL92 lL92 hs92
 have lL92:=lL92 rfl
 refine ln rfl .no Fx.sn138 (.u rfl) (mV rfl rfl (.nil (.code (.block ?_))))
 refine Wk.lop (α:=Nat×Value) (fun gh=>[(14,true,gh.2),(94,true,.int .i64 (gh.1:Int))]) (fun gh=>[rS 2 encD gh.2 73 ((L92.take gh.1).map Wtg.c)])
  (fun gh Gl=>(gh.1≤L92.length)∧(gh.2.oneCell'=true)) (fun gh=>L92.length-gh.1) (0,.slice none 0 0) [(0,true,_),(8,true,_),(13,true,_),(92,true,_),(93,true,_)] [_,_,_,_,_,_,_]
  (esD rfl (esC rfl (by first|rfl|exact evi (by omega)) (esD rfl (esD rfl (esD rfl (esD rfl (esD rfl eZ)))))))
  (mS .here rfl (mS .here rfl (mS .here rfl (mS .here rfl (mS .here rfl (mS .here rfl (mS .here rfl (mS .here rfl mN)))))))) ?_ ?_
 ·refine ⟨?_,?_⟩
  ·(try dsimp only)<;>(first|omega|rfl|assumption|(simp; done))
  (try dsimp only)<;>(first|omega|rfl|assumption|(simp; done))
 intro gh N1 Gl1 hN1 hGl1 hF1
 obtain ⟨k,v⟩:=gh; dsimp only at hF1 hN1 ⊢
 obtain ⟨hk2,ov⟩:=hF1
 have hs:=hs.mono hGl1
 have hs92:=hs92.mono hGl1
 refine .seq (rq1 rfl rfl (cp rfl .no (.u rfl) (.u rfl) rfl (.nil (.code (.seq (.cond rfl (fun c5=>?_) (fun c5=>?_)))))))
 ·have c5k:=c5
  try simp only [qcA,qcC,qcB] at c5
  refine .skip (.code (.seq (.block (.seq (rq4 rfl rfl (ih rfl .no Fx.se138 (.u rfl) (.u rfl) (fun _=>by omega) (fun _=>by omega) (fun _=>hs92.nn (k:=k) (by first|omega|(simp only [Bool.and_eq_true,decide_eq_true_eq] at hc; omega)|(simp only [List.length_cons,List.length_nil]; omega))) ?_))))))
  obtain ⟨w,ew⟩:=getx (k:=k) (xs:=L92) (by omega)
  refine lA rfl .no Fx.ag142 (.u rfl) (fun _=>(hs92.at (by omega) ew).rd) (fun _=>Wtg.len _) ?_
  refine al rfl Fx.zr142 ?_; intro b16
  refine sw rfl (.u rfl) (.u rfl) rfl Fx.sz142 .here rfl (Wtg.one _) ?_
  refine .nil (.code (rq8 rfl rfl (mV rfl rfl (fz rfl .no Fx.fo142_0 (.u rfl) (ld rfl .no Fx.ag3 (.u rfl) (fun _=>Rd.own .here (by first|exact wap_f rfl|rfl)) ?_)))))
  refine mV rfl rfl (bCe (encD w.c) rfl .no Fx.bp73_0_1 (.cons (.u rfl) rfl (.cons (.u rfl) rfl .nil)) rfl (rfl) ?_)
  refine Go.Tan.b1 rfl Fx.se41 Fx.zv73 (.u rfl) rfl rfl (by decide) ?_; intro b103
  refine apS (xs:=((L92.take k).map Wtg.c)) (w.c) rfl Fx.se41 Fx.zv73 rfl (.u rfl) (.u rfl) tk2 .here (rfl) (one2 rfl rfl) (by rw [List.length_map,List.length_take]; omega) (by rw [List.length_map,List.length_take]; unfold maxLen; omega) ?_; intro v104 ov104
  refine aS rfl rfl (.nil (.blk (.code (rq2 rfl rfl (arn (((k+1):Nat):Int) rfl .no (.u rfl) (.u rfl) rfl (fun _=>by omega) (fun _=>wrap_i64 (by omega) (by omega)) ?_)))))
  refine mV rfl rfl (.nil (We.lpo (k+1,v104) ?_ ?_ ?_ ?_ ?_))
  ·exact (esD rfl (esC rfl (by first|rfl|exact evi (by omega)) (esD rfl (esD rfl (esD rfl (esD rfl (esD rfl eZ)))))))
  ·exact (mS .here (by rw [← tk_snoc ew,List.map_append]; rfl) (mS tk2 rfl (mS tk2 rfl (mS tk2 rfl (mS tk2 rfl (mS tk2 rfl (mS tk2 rfl (mS tk2 rfl mN))))))))
  ·first|omega|(dsimp only; omega)
  ·exact hGl1
  refine ⟨?_,?_⟩
  ·(try dsimp only)<;>(first|omega|rfl|assumption|(simp; done))
  (try dsimp only)<;>(first|omega|rfl|assumption|(simp; done))
 have c5k:=c5
 try simp only [qcA,qcC,qcB] at c5
 refine .exit (.xcode (.xlp (.xblk (.code (.seq (Wk.rg [0,1,2,3,4,5,6,7,8,9,10,11] rfl rfl (mV rfl rfl (mV rfl rfl (nc rfl .no (.u rfl) (fz rfl .no Fx.fo140_1 (.u rfl) (ld rfl .no Fx.ag138 (.u rfl) (fun _=>Rd.own tk7 (show [pt bx,h.val 1][1]? = some (h.val ws.length) by rw [hw1]; rfl)) ?_)))))))))))
 refine mV rfl rfl (ln rfl .no Fx.sn274 (.u rfl) (kD (ws.length) rfl .no Fx.se138 hs (.u rfl) (.u rfl) (fun _=>by omega) (fun _=>by omega) ?_))
 intro h113 L113 eL113 lL113 hs113
 have lL113:=lL113 rfl
 refine kc rfl Fx.go170 (Evc rfl Evn) (cloneW0_ok h113 _ (by rw [eL113,List.length_drop]; omega) _) ?_
 rintro _ G114 μ114 hG114 ⟨oa,rfl,rfl⟩
 refine nc rfl .no (.u rfl) (fz rfl .no Fx.fo140_1 (.u rfl) (s1 rfl (.u rfl) (.u rfl) rfl Fx.sz138 tk7 (by first|decide | (show _<2; decide)) (rfl) ?_))
 refine .nil (.code (.seq (rq3 rfl rfl (mV rfl rfl (aS rfl rfl (aS rfl rfl (.nil (.code (.ret (We.fin Tryz.results109 (.tmp rfl (.tmp rfl .nil)) (mS .here rfl (mS .here rfl (mS .here rfl (mS .here rfl (mS .here rfl (mS .here rfl (mS .here rfl (mS .here rfl mN)))))))) ?_))))))))))
 have ek:(L92.take k).map Wtg.c=[w.c]:=by rw [show k=L92.length by omega,List.take_length,eL92,List.take_length,ews]; rfl
 rw [ek]
 exact ⟨oa,v,bb,m,cap,sz,F4,nn,ov,hm4,rfl,rfl⟩
end Go.Proofs.YtoifkgkandfeiaaGreatDoor
namespace Go.Proofs.YtoifkgkandfeiaaGreatDoor
open Go.Tan Go.RowKit Go.Maps Go.Sort Go.Shelf
namespace Fx
theorem fo77_0:fOff Tryz.prog 77 0=some 0:=by kernel_rfl
theorem fo77_1:fOff Tryz.prog 77 1=some 1:=by kernel_rfl
theorem fo77_2:fOff Tryz.prog 77 2=some 2:=by kernel_rfl
theorem fo77_3:fOff Tryz.prog 77 3=some 34:=by kernel_rfl
theorem go50:goFn Tryz.prog 50=true:=by kernel_rfl
theorem go51:goFn Tryz.prog 51=true:=by kernel_rfl
theorem fo77_5:fOff Tryz.prog 77 5=some 42:=by kernel_rfl
theorem fo77_6:fOff Tryz.prog 77 6=some 43:=by kernel_rfl
theorem sz75:szT Tryz.prog 75=some 1:=by kernel_rfl
theorem go26:goFn Tryz.prog 26=true:=by kernel_rfl
theorem go27:goFn Tryz.prog 27=true:=by kernel_rfl
theorem bp77_0_1_2_3_4:bPl Tryz.prog 77 [0,1,2,3,4]=some ([.pointer none,.pointer none,.int .u8 0,.int .u8 0,.int .u8 0,.int .u8 0,.int .u8 0,.int .u8 0,.int .u8 0,.int .u8 0,.int .u8 0,.int .u8 0,.int .u8 0,.int .u8 0,.int .u8 0,.int .u8 0,.int .u8 0,.int .u8 0,.int .u8 0,.int .u8 0,.int .u8 0,.int .u8 0,.int .u8 0,.int .u8 0,.int .u8 0,.int .u8 0,.int .u8 0,.int .u8 0,.int .u8 0,.int .u8 0,.int .u8 0,.int .u8 0,.int .u8 0,.int .u8 0,.int .i64 0,.int .i64 0,.int .i64 0,.int .i64 0,.int .i64 0,.int .i64 0,.int .i64 0,.int .i64 0,.pointer none,.pointer none],[(0,1),(1,1),(2,32),(34,7),(41,1)]):=by kernel_rfl
theorem go28:goFn Tryz.prog 28=true:=by kernel_rfl
theorem go8:goFn Tryz.prog 8=true:=by kernel_rfl
theorem bp115_0:bPl Tryz.prog 115 [0]=some ([.pointer none],[(0,1)]):=by kernel_rfl
end Fx
theorem wOpen_ok (bw:Nat) (bd bm room bt:Nat) (root:Nat→Y) (o:Opts) (most:Int) (G:PM) (hO:rightO o=true) (hr:5000≤room) (hr9:room≤1000000000) (hK:RdNP G 6 0 (wa 64 kW)):Ct Tryz.prog 28 ([.pointer (some ⟨bw,0,none⟩)]:List Value).toArray G [.blk bw (cl (wdC bd bt root o most (.pointer none) (.pointer none)) 77),.blk bd (cl (dkC bm room 0) 118),.blk bm (mO [] 0),.blk bt (cl [uv .u64 0#64,uv .u64 0#64] 87)] (fun _ μ' u=>∃ (bq held now bg:Nat) (v:Value) (F:List Fi),v.oneCell'=true∧DkR F 3∧F.map Fi.nm=[nmB 3 0,nmB 4 0]∧szF F≤2000∧μ'=[.blk bw (cl (wdC bd bt root o most ((pt bq)) ((pt bg))) 77),.blk bg (cl [pt bq,.slice none 0 0] 140),.blk bq (cl (Db.cells (Db.d3 bd bt root o 1#64 held now)) 165),.blk bd (cl (dkC bm room 5) 118),.blk bm (mO (F.map Fi.fe) 3),.blk bt (cl [uv .u64 1#64,uv .u64 1#64] 87),.blk now (cl [v,.int .i64 ((0:Nat):Int)] 225),rS 16 Nd.cells v 249 [Nd.z],.mp held .u64 (fun _=>none)]∧u=.int .i64 0):=by
 refine Ct.of Tryz.func28 rfl Tryz.ntmps28 rfl fun w0 hs0=>?_
 refine .seq (rq1 rfl rfl (aS rfl rfl (.nil (.code (.seq (Wk.mixp ⟨true,false⟩ Fx.mix (by kernel_rfl) ?_))))))
 refine Wp.one 0 (by kernel_rfl) ?_
 refine mV rfl rfl (.nil (Wp.one 1 (by kernel_rfl) ?_))
 refine nc rfl .no (.u rfl) (.nil (Wp.one 2 (by kernel_rfl) ?_))
 refine fz rfl .no Fx.fo77_0 (.u rfl) (.nil (Wp.one 3 (by kernel_rfl) ?_))
 refine ld rfl .no Fx.ag48 (.u rfl) (fun _=>Rd.own .here rfl) ?_
 refine .nil (Wp.one 4 (by kernel_rfl) ?_)
 refine mV rfl rfl (.nil (Wp.one 5 (by kernel_rfl) ?_))
 refine nc rfl .no (.u rfl) (.nil (Wp.one 6 (by kernel_rfl) ?_))
 refine fz rfl .no Fx.fo77_1 (.u rfl) (.nil (Wp.one 7 (by kernel_rfl) ?_))
 refine ld rfl .no Fx.ag50 (.u rfl) (fun _=>Rd.own .here rfl) ?_
 refine .nil (Wp.one 8 (by kernel_rfl) ?_)
 refine mV rfl rfl (.nil (Wp.one 9 (by kernel_rfl) ?_))
 refine nc rfl .no (.u rfl) (.nil (Wp.one 10 (by kernel_rfl) ?_))
 refine fz rfl .no Fx.fo77_2 (.u rfl) (.nil (Wp.one 11 (by kernel_rfl) ?_))
 refine lA rfl .no Fx.ag34 (.u rfl) (fun _=>RdN.part (n:=32) (cs':=ba 32 root) .here (rfl)) (fun _=>(ba_len _ _)) ?_
 refine .nil (Wp.one 12 (by kernel_rfl) ?_)
 refine mV rfl rfl (.nil (Wp.one 13 (by kernel_rfl) ?_))
 refine nc rfl .no (.u rfl) (.nil (Wp.one 14 (by kernel_rfl) ?_))
 refine fz rfl .no Fx.fo77_3 (.u rfl) (.nil (Wp.one 15 (by kernel_rfl) ?_))
 refine lA rfl .no Fx.ag38 (.u rfl) (fun _=>RdN.part (n:=7) (cs':=o.cells) .here (rfl)) (fun _=>rfl) ?_
 refine .nil (Wp.b1 16 (by kernel_rfl) ?_)
 refine ka rfl (.inl rfl) Fx.go50 (Evc rfl (Evc rfl (Evc rfl (Evc rfl Evn)))) (mtk3 tk1 tk1 tk1) (dOpen_ok bd bm room bt root o _ hO hr hr9 hK) ?_
 rintro _ G22 μ22 hG22 ⟨bq,held,now,v,F,ov,hD,hn,hz,rfl,rfl⟩
 refine .nil (Wp.one 17 (by kernel_rfl) ?_)
 refine mV rfl rfl (.nil (Wp.one 18 (by kernel_rfl) ?_))
 refine ex rfl .no (.u rfl) rfl (.nil (Wp.one 19 (by kernel_rfl) ?_))
 refine ex rfl .no (.u rfl) rfl (.nil (Wp.one 20 (by kernel_rfl) ?_))
 refine aS rfl rfl (.nil (Wp.one 21 (by kernel_rfl) ?_))
 refine aS rfl rfl (.nil (Wp.last (by kernel_rfl) ?_))
 refine .code (.seq (Wk.rg [0,1,2,3,4,5,6,7,8,9,10] rfl rfl (mV rfl rfl (mV rfl rfl (mV rfl rfl (mV rfl rfl (kc rfl Fx.go51 (Evc rfl Evn) (gNew_ok bq _) ?_)))))))
 rintro _ G29 μ29 hG29 ⟨bg,rfl,rfl⟩
 refine nc rfl .no (.u rfl) (fz rfl .no Fx.fo77_5 (.u rfl) (s1 rfl (.u rfl) (.u rfl) rfl Fx.sz45 tk8 ((by rw [wd_len]; decide)) (wd_db) ?_))
 refine nc rfl .no (.u rfl) (fz rfl .no Fx.fo77_6 (.u rfl) (s1 rfl (.u rfl) (.u rfl) rfl Fx.sz75 .here ((by rw [wd_len]; decide)) (wd_gr) ?_))
 refine .nil (.code (.seq (rq2 rfl rfl (mV rfl rfl (aS rfl rfl (.nil (.code (.ret (We.fin Tryz.results28 (.tmp rfl .nil) (mS .here rfl (mS .here rfl (mS .here rfl (mS .here rfl (mS .here rfl (mS .here rfl (mS .here rfl (mS .here rfl (mS .here rfl mN))))))))) ?_)))))))))
 exact ⟨bq,held,now,bg,v,F,ov,hD,hn,hz,rfl,rfl⟩
theorem wNew_ok (room:Nat) (root:Nat→Y) (o:Opts) (most:Int) (G:PM) (hO:rightO o=true) (hr:5000≤room) (hr9:room≤1000000000) (hK:RdNP G 6 0 (wa 64 kW)):Ct Tryz.prog 8 ([.int .i64 ((room:Nat):Int),.agg (ba 32 root).toArray,o.val,.int .i64 most]:List Value).toArray G [] (fun G' μ' u=>∃ (bd bm bt bw bq held now bg:Nat) (v:Value) (F:List Fi),v.oneCell'=true∧DkR F 3∧F.map Fi.nm=[nmB 3 0,nmB 4 0]∧szF F≤2000∧PB G' bw (cl (wdC bd bt root o most ((pt bq)) ((pt bg))) 77)∧μ'=[.blk bg (cl [pt bq,.slice none 0 0] 140),.blk bq (cl (Db.cells (Db.d3 bd bt root o 1#64 held now)) 165),.blk bd (cl (dkC bm room 5) 118),.blk bm (mO (F.map Fi.fe) 3),.blk bt (cl [uv .u64 1#64,uv .u64 1#64] 87),.blk now (cl [v,.int .i64 ((0:Nat):Int)] 225),rS 16 Nd.cells v 249 [Nd.z],.mp held .u64 (fun _=>none)]∧u=.tuple #[.pointer (some ⟨bw,0,none⟩),.int .i64 0]):=by
 refine Ct.of Tryz.func8 rfl Tryz.ntmps8 rfl fun w0 hs0=>?_
 refine .seq (rq4 rfl rfl ?_)
 refine bx rfl (.u rfl) rfl ?_; intro b5
 refine bx rfl (.u rfl) rfl ?_; intro b6
 refine aS rfl rfl (aS rfl rfl (.nil (.code (.seq ?_))))
 refine wk_fz tk1 (by intro b hb; cases hb) ?_; intro Gfb5 hleb5 hbb5
 have hK:=hK.mono hleb5
 refine wk_fz .here (by intro b hb; cases hb) ?_; intro Gfb6 hleb6 hbb6
 have hK:=hK.mono hleb6
 have hbb5:=hbb5.mono hleb6
 refine Wk.mixp ⟨true,false⟩ Fx.mix (by kernel_rfl) ?_
 refine Wp.one 0 (by kernel_rfl) ?_
 refine mV rfl rfl (.nil (Wp.one 5 (by kernel_rfl) ?_))
 refine mV rfl rfl (.nil (Wp.pr 3 (by kernel_rfl) ?_))
 refine lA rfl .no Fx.ag34 (.u rfl) (fun _=>(hbb5.rdn (m:=32) (cs':=ba 32 root) (rfl)).rd) (fun _=>(ba_len _ _)) ?_
 refine .nil ⟨⟨rfl,rfl⟩,?_⟩
 refine Wp.pr 4 (by kernel_rfl) ?_
 refine lA rfl .no Fx.ag38 (.u rfl) (fun _=>(hbb6.rdn (m:=7) (cs':=o.cells) (rfl)).rd) (fun _=>rfl) ?_
 refine .nil ⟨⟨rfl,rfl⟩,?_⟩
 refine Wp.b1 1 (by kernel_rfl) ?_
 refine kc rfl Fx.go26 (Evc rfl Evn) (dnew_ok room _ hr9) ?_
 rintro _ G13 μ13 hG13 ⟨bd,bm,rfl,rfl⟩
 have hK:=hK.mono hG13
 refine .nil (Wp.b1 2 (by kernel_rfl) ?_)
 refine kc rfl Fx.go27 Evn (tnew_ok _) ?_
 rintro _ G14 μ14 hG14 ⟨bt,rfl,rfl⟩
 have hK:=hK.mono hG14
 refine .nil (Wp.one 6 (by kernel_rfl) ?_)
 refine bCe (wdC bd bt root o most (.pointer none) (.pointer none)) rfl .no Fx.bp77_0_1_2_3_4 (.cons (.u rfl) rfl (.cons (.u rfl) rfl (.cons (.u rfl) rfl (.cons (.u rfl) rfl (.cons (.u rfl) rfl .nil))))) rfl (rfl) (.nil (Wp.b1 7 (by kernel_rfl) ?_))
 refine bx rfl (.u rfl) rfl ?_; intro b19
 refine .nil (Wp.one 8 (by kernel_rfl) ?_)
 refine aS rfl rfl (.nil (Wp.last (by kernel_rfl) ?_))
 refine .code (.seq (.seq (rq3 rfl rfl (mV rfl rfl (ka rfl (.inr rfl) Fx.go28 (Evc rfl Evn) (mtq4 .here tk1 tk1 .here) (wOpen_ok b19 bd bm room bt root o most _ hO hr hr9 hK) ?_)))))
 rintro _ G21 μ21 hG21 ⟨bq,held,now,bg,v,F,ov,hD,hn,hz,rfl,rfl⟩
 refine aS rfl rfl (.nil (.code (.seq (rq2 rfl rfl (mV rfl rfl (cp rfl .no (.u rfl) (.u rfl) rfl (.nil (.code (.cond rfl (fun c1=>?_) (fun c1=>?_))))))))))
 ·have c1k:=c1
  cases c1
 have c1k:=c1
 try simp only [qcA,qcC,qcB] at c1
 refine .skip (.code (.seq ?_))
 refine wk_fz .here (by intro b hb; cases hb) ?_; intro Gfb19 hleb19 hbb19
 refine rq3 rfl rfl (mV rfl rfl (aS rfl rfl (aS rfl rfl (.nil (.code (.ret (We.fin Tryz.results8 (.tmp rfl (.tmp rfl .nil)) (mS .here rfl (mS .here rfl (mS .here rfl (mS .here rfl (mS .here rfl (mS .here rfl (mS .here rfl (mS .here rfl mN)))))))) ?_)))))))
 exact ⟨bd,bm,bt,b19,bq,held,now,bg,v,F,ov,hD,hn,hz,hbb19,rfl,rfl⟩
theorem dkNew_ok (room:Nat) (root:Nat→Y) (o:Opts) (most:Int) (G:PM) (hO:rightO o=true) (hr:5000≤room) (hr9:room≤1000000000) (hK:RdNP G 6 0 (wa 64 kW)):Ct Tryz.prog 23 ([.int .i64 ((room:Nat):Int),.agg (ba 32 root).toArray,o.val,.int .i64 most]:List Value).toArray G [] (fun G' μ' u=>∃ (bk:Nat),(∃ (bd bm bt bw bq held now bg:Nat) (v:Value) (F:List Fi),v.oneCell'=true∧DkR F 3∧F.map Fi.nm=[nmB 3 0,nmB 4 0]∧szF F≤2000∧PB G' bw (cl (wdC bd bt root o most ((pt bq)) ((pt bg))) 77)∧PB G' bk (cl [.pointer (some ⟨bw,0,none⟩)] 115)∧μ'=[.blk bg (cl [pt bq,.slice none 0 0] 140),.blk bq (cl (Db.cells (Db.d3 bd bt root o 1#64 held now)) 165),.blk bd (cl (dkC bm room 5) 118),.blk bm (mO (F.map Fi.fe) 3),.blk bt (cl [uv .u64 1#64,uv .u64 1#64] 87),.blk now (cl [v,.int .i64 ((0:Nat):Int)] 225),rS 16 Nd.cells v 249 [Nd.z],.mp held .u64 (fun _=>none)]∧u=.tuple #[.pointer (some ⟨bk,0,none⟩),.int .i64 0])):=by
 refine Ct.of Tryz.func23 rfl Tryz.ntmps23 rfl fun w0 hs0=>?_
 refine .seq (rq4 rfl rfl ?_)
 refine bx rfl (.u rfl) rfl ?_; intro b5
 refine bx rfl (.u rfl) rfl ?_; intro b6
 refine aS rfl rfl (aS rfl rfl (.nil (.code (.seq (rq10 rfl rfl (mV rfl rfl (lA rfl .no Fx.ag34 (.u rfl) (fun _=>RdN.part (n:=32) (cs':=ba 32 root) tk1 (rfl)) (fun _=>(ba_len _ _)) ?_)))))))
 refine lA rfl .no Fx.ag38 (.u rfl) (fun _=>RdN.part (n:=7) (cs':=o.cells) .here (rfl)) (fun _=>rfl) ?_
 refine mV rfl rfl (kc rfl Fx.go8 (Evc rfl (Evc rfl (Evc rfl (Evc rfl Evn)))) (wNew_ok room root o most _ hO hr hr9 hK) ?_)
 rintro _ G17 μ17 hG17 ⟨bd,bm,bt,bw,bq,held,now,bg,v,F,ov,hD,hn,hz,hbw,rfl,rfl⟩
 refine mV rfl rfl (ex rfl .no (.u rfl) rfl (ex rfl .no (.u rfl) rfl (aS rfl rfl (aS rfl rfl (.nil (.code (.seq (.seq (rq2 rfl rfl (mV rfl rfl (cp rfl .no (.u rfl) (.u rfl) rfl (.nil (.code (.cond rfl (fun c1=>?_) (fun c1=>?_)))))))))))))))
 ·have c1k:=c1
  cases c1
 have c1k:=c1
 try simp only [qcA,qcC,qcB] at c1
 refine .skip (.code (.seq (rq5 rfl rfl (mV rfl rfl (bC rfl .no Fx.bp115_0 (.cons (.u rfl) rfl .nil) rfl ?_)))))
 refine bx rfl (.u rfl) rfl ?_; intro b25
 refine aS rfl rfl (aS rfl rfl (.nil (.code (.ret ?_))))
 refine we_fz .here (by intro b hb; cases hb) ?_; intro Gfb25 hleb25 hqb25; have hbb25:PB Gfb25 b25 _:=⟨hqb25⟩
 have hbw:=hbw.mono hleb25
 refine We.fin Tryz.results23 (.tmp rfl (.tmp rfl .nil)) (mS .here rfl (mS .here rfl (mS .here rfl (mS .here rfl (mS .here rfl (mS .here rfl (mS .here rfl (mS .here rfl mN)))))))) ?_
 exact ⟨b25,bd,bm,bt,bw,bq,held,now,bg,v,F,ov,hD,hn,hz,hbw,hbb25,rfl,rfl⟩
end Go.Proofs.YtoifkgkandfeiaaGreatDoor
namespace Go.Proofs.YtoifkgkandfeiaaGreatDoor
open Go.Tan Go.RowKit Go.Maps Go.Sort Go.Shelf
namespace Fx
theorem zr43:zrL Tryz.prog 43=some ([.int .i64 0,.int .u64 0,.string ByteArray.empty,.bool false,.slice none 0 0,.slice none 0 0]):=by kernel_rfl
theorem ag75:aggN Tryz.prog 75=some none:=by kernel_rfl
theorem go57:goFn Tryz.prog 57=true:=by kernel_rfl
theorem sz43:szT Tryz.prog 43=some 6:=by kernel_rfl
theorem pt29:ptT Tryz.prog 29=true:=by kernel_rfl
theorem go34:goFn Tryz.prog 34=true:=by kernel_rfl
end Fx
theorem askS_ok (bw bd bt bq bg:Nat) (root:Nat→Y) (o:Opts) (most:Int) (v0 vk vb:Value) (c:Nat) (h:Sh) (l:List Opn) (sy:Bool) (G:PM) (hbw:PB G bw (cl (wdC bd bt root o most ((pt bq)) ((pt bg))) 77)) (hs:SlR G 3 Opn.cells h l) (hl:l.length=1∨l.length=2) (hok:∀ o∈l,o.ok) (hc:c<8) (hk9:vk.oneCell'=true) (hb9:vb.oneCell'=true):Ct Tryz.prog 34 ([.pointer (some ⟨bw,0,none⟩),.agg (EvD.cells (⟨1#8,((c:Nat):Int),l,sy,[],[],0#64,0,[],[],[]⟩ : EvD) (h.val l.length) vk vb).toArray]:List Value).toArray G [.blk bg (cl [pt bq,v0] 140),rS 3 Wtg.cells v0 142 []] (fun G' μ' u=>∃ (v:Value) (s:Sh),v.oneCell'=true∧SlR G' 3 Opn.cells s l∧μ'=[.blk bg (cl [pt bq,v] 140),rS 3 Wtg.cells v 142 [⟨c,s,l,sy⟩]]∧u=.agg (Rep.cells (Rep.zero) (.slice none 0 0) (.slice none 0 0)).toArray):=by
 refine Ct.of Tryz.func34 rfl Tryz.ntmps34 rfl fun w0 hs0=>?_
 refine .seq (rq2 rfl rfl ?_)
 refine bx rfl (.u rfl) rfl ?_; intro b3
 refine al rfl Fx.zr43 ?_; intro b4
 refine .nil (.code (.seq (.seq (rq2 rfl rfl (fz rfl .no Fx.fo27_0 (.u rfl) (ld rfl .no Fx.ag5 (.u rfl) (fun _=>Rd.own tk1 rfl) ?_))))))
 refine .nil (.code (.block (.seq (rq2 rfl rfl (cp rfl .no (.u rfl) (.u rfl) rfl (aS rfl rfl (.nil (.code (.cond rfl (fun c1=>?_) (fun c1=>?_))))))))))
 ·have c1k:=c1
  try simp only [qcA,qcC,qcB] at c1
  refine Wk.mixp ⟨true,false⟩ Fx.mix (by kernel_rfl) ?_
  refine Wp.one 0 (by kernel_rfl) ?_
  refine mV rfl rfl (.nil (Wp.one 1 (by kernel_rfl) ?_))
  refine nc rfl .no (.u rfl) (.nil (Wp.one 2 (by kernel_rfl) ?_))
  refine fa rfl .no Fx.fo77_6 (.u rfl) (.nil (Wp.one 3 (by kernel_rfl) ?_))
  refine ld rfl .no Fx.ag75 (.u rfl) (fun _=>(hbw.rd (wd_y)).rd) ?_
  refine .nil (Wp.one 4 (by kernel_rfl) ?_)
  refine fz rfl .no Fx.fo27_1 (.u rfl) (.nil (Wp.one 5 (by kernel_rfl) ?_))
  refine ld rfl .no Fx.ag3 (.u rfl) (fun _=>Rd.own tk1 rfl) ?_
  refine .nil (Wp.one 6 (by kernel_rfl) ?_)
  refine fz rfl .no Fx.fo27_2 (.u rfl) (.nil (Wp.one 7 (by kernel_rfl) ?_))
  refine ld rfl .no Fx.ag22 (.u rfl) (fun _=>Rd.own tk1 rfl) ?_
  refine .nil (Wp.one 8 (by kernel_rfl) ?_)
  refine fz rfl .no Fx.fo27_3 (.u rfl) (.nil (Wp.one 9 (by kernel_rfl) ?_))
  refine ld rfl .no Fx.ag4 (.u rfl) (fun _=>Rd.own tk1 rfl) ?_
  refine .nil (Wp.b1 10 (by kernel_rfl) ?_)
  refine ka rfl (.inl rfl) Fx.go57 (Evc rfl (Evc rfl (Evc rfl (Evc rfl Evn)))) (mtk2 tk2 tk2) (subm_ok bg (pt bq) v0 [] c h l sy _ hs hl hok hc (by decide) idz_0) ?_
  rintro _ G19 μ19 hG19 ⟨vS,sS,ovS,hsS,rfl,rfl⟩
  refine .nil (Wp.one 11 (by kernel_rfl) ?_)
  refine fz rfl .no Fx.fo43_0 (.u rfl) (.nil (Wp.b1 12 (by kernel_rfl) ?_))
  refine s1 rfl (.u rfl) (.u rfl) rfl Fx.sz30 tk2 ((by show 0<6; decide)) (rfl) ?_
  refine .nil (Wp.last (by kernel_rfl) ?_)
  refine .blk (.code (.seq (rq2 rfl rfl (lA rfl .no Fx.ag43 (.u rfl) (fun _=>RdN.part (n:=6) (cs':=Rep.cells Rep.zero (.slice none 0 0) (.slice none 0 0)) .here (rfl)) (fun _=>rfl) (sw rfl (.u rfl) (.u rfl) rfl Fx.sz43 .here rfl (Rep.one _ rfl rfl) ?_)))))
  refine .nil (.code (.ret (We.fin Tryz.results34 (.cell rfl (fun w hw=>run_loadVarN Fx.ag43 (RdN.own .here) (rfl) hw) .nil) (mS tk1 rfl (mS tk1 rfl mN)) ?_)))
  exact ⟨vS,sS,ovS,hsS,rfl,rfl⟩
 have c1k:=c1
 exact Bool.noConfusion (id c1:true=false)
theorem doS_ok (bw bd bt bq bg:Nat) (root:Nat→Y) (o:Opts) (most:Int) (vk vb:Value) (c:Nat) (h:Sh) (l:List Opn) (sy:Bool) (G:PM) (hbw:PB G bw (cl (wdC bd bt root o most ((pt bq)) ((pt bg))) 77)) (hs:SlR G 3 Opn.cells h l) (hl:l.length=1∨l.length=2) (hok:∀ o∈l,o.ok) (hc:c<8) (hk9:vk.oneCell'=true) (hb9:vb.oneCell'=true):Ct Tryz.prog 10 ([.pointer (some ⟨bw,0,none⟩),.agg (EvD.cells (⟨1#8,((c:Nat):Int),l,sy,[],[],0#64,0,[],[],[]⟩ : EvD) (h.val l.length) vk vb).toArray]:List Value).toArray G [.blk bg (cl [pt bq,.slice none 0 0] 140)] (fun G' μ' u=>∃ (h2 s:Sh),SlR G' 3 Wtg.cells h2 [⟨c,s,l,sy⟩]∧SlR G' 3 Opn.cells s l∧μ'=[.blk bg (cl [pt bq,h2.val 1] 140)]∧u=.agg (Rep.cells (Rep.zero) (.slice none 0 0) (.slice none 0 0)).toArray):=by
 refine Ct.of Tryz.func10 rfl Tryz.ntmps10 rfl fun w0 hs0=>?_
 refine .seq (rq2 rfl rfl ?_)
 refine bx rfl (.u rfl) rfl ?_; intro b3
 refine al rfl Fx.zr43 ?_; intro b4
 refine .nil (.code (.seq (.seq (rq2 rfl rfl (mV rfl rfl (pe rfl .no Fx.pt29 (.u rfl) (.u rfl) ?_))))))
 refine .nil (.code (Wk.condF rfl rfl ?_))
 refine .skip (.code (.seq (.seq (rq2 rfl rfl (fz rfl .no Fx.fo27_0 (.u rfl) (ld rfl .no Fx.ag5 (.u rfl) (fun _=>Rd.own tk1 rfl) ?_))))))
 refine .nil (.code (.block (.seq (rq2 rfl rfl (cp rfl .no (.u rfl) (.u rfl) rfl (aS rfl rfl (.nil (.code (.cond rfl (fun c1=>?_) (fun c1=>?_))))))))))
 ·have c1k:=c1
  cases c1
 have c1k:=c1
 try simp only [qcA,qcC,qcB] at c1
 refine .seq (rq2 rfl rfl (cp rfl .no (.u rfl) (.u rfl) rfl (aS rfl rfl (.nil (.code (.cond rfl (fun c2=>?_) (fun c2=>?_)))))))
 ·have c2k:=c2
  exact Bool.noConfusion (id c2:false=true)
 have c2k:=c2
 try simp only [qcA,qcC,qcB] at c2
 refine .seq (rq2 rfl rfl (cp rfl .no (.u rfl) (.u rfl) rfl (aS rfl rfl (.nil (.code (.cond rfl (fun c3=>?_) (fun c3=>?_)))))))
 ·have c3k:=c3
  exact Bool.noConfusion (id c3:false=true)
 have c3k:=c3
 try simp only [qcA,qcC,qcB] at c3
 refine .seq (rq2 rfl rfl (cp rfl .no (.u rfl) (.u rfl) rfl (aS rfl rfl (.nil (.code (.cond rfl (fun c4=>?_) (fun c4=>?_)))))))
 ·have c4k:=c4
  exact Bool.noConfusion (id c4:false=true)
 have c4k:=c4
 try simp only [qcA,qcC,qcB] at c4
 refine .seq (rq2 rfl rfl (cp rfl .no (.u rfl) (.u rfl) rfl (aS rfl rfl (.nil (.code (.cond rfl (fun c5=>?_) (fun c5=>?_)))))))
 ·have c5k:=c5
  exact Bool.noConfusion (id c5:false=true)
 have c5k:=c5
 try simp only [qcA,qcC,qcB] at c5
 refine .block (.seq (rq9 rfl rfl (fz rfl .no Fx.fo27_0 (.u rfl) (ld rfl .no Fx.ag5 (.u rfl) (fun _=>Rd.own tk1 rfl) ?_))))
 refine cp rfl .no (.u rfl) (.u rfl) rfl (mV rfl rfl (fz rfl (.f rfl rfl) Fx.fo27_0 (.u rfl) (ld rfl (.f rfl rfl) Fx.ag5 (.s rfl) (fun hc=>Rd.own tk1 rfl) ?_)))
 refine cp rfl (.f rfl rfl) (.s rfl) (.u rfl) rfl (pkO rfl .no (.u rfl) (.s rfl) (aS rfl rfl (.nil (.code (.cond rfl (fun c6=>?_) (fun c6=>?_))))))
 ·have c6k:=c6
  exact Bool.noConfusion (id c6:false=true)
 have c6k:=c6
 try simp only [qcA,qcC,qcB] at c6
 refine .seq (rq6 rfl rfl (mV rfl rfl (nc rfl .no (.u rfl) (fa rfl .no Fx.fo77_5 (.u rfl) (ld rfl .no Fx.ag45 (.u rfl) (fun _=>(hbw.rd (wd_x)).rd) ?_)))))
 refine pe rfl .no Fx.pt45 (.u rfl) (.u rfl) ?_
 refine aS rfl rfl (.nil (.code (.cond rfl (fun c7=>?_) (fun c7=>?_))))
 ·have c7k:=c7
  exact Bool.noConfusion (id c7:false=true)
 have c7k:=c7
 try simp only [qcA,qcC,qcB] at c7
 refine .seq (wk_nilS 3 Wtg.cells 142 (rq4 rfl rfl (mV rfl rfl (lA rfl .no Fx.ag27 (.u rfl) (fun _=>RdN.part (n:=11) (cs':=EvD.cells (⟨1#8,((c:Nat):Int),l,sy,[],[],0#64,0,[],[],[]⟩ : EvD) (h.val l.length) vk vb) tk2 (rfl)) (fun _=>rfl) (ka rfl (.inr rfl) Fx.go34 (Evc rfl (Evc rfl Evn)) (mtk2 tk3 .here) (askS_ok bw bd bt bq bg root o most (.slice none 0 0) vk vb c h l sy _ hbw hs hl hok hc hk9 hb9) ?_)))))
 rintro _ G12 μ12 hG12 ⟨vS,sS,ovS,hsS,rfl,rfl⟩
 refine sw rfl (.u rfl) (.u rfl) rfl Fx.sz43 tk2 rfl (Rep.one _ rfl rfl) ?_
 refine .nil (.code (.ret ?_))
 refine we_fs tk2 (fun _ _=>rfl) (keys_k tk1 rfl (keys_0)) ?_; intro GfRW hRW hleRW evRW hsRW; subst evRW
 have hsS:=hsS.mono hleRW
 refine We.fin Tryz.results10 (.cell rfl (fun w hw=>run_loadVarN Fx.ag43 (RdN.own .here) (rfl) hw) .nil) (mS tk1 rfl mN) ?_
 exact ⟨hRW,sS,hsRW,hsS,rfl,rfl⟩
end Go.Proofs.YtoifkgkandfeiaaGreatDoor
namespace Go.Proofs.YtoifkgkandfeiaaGreatDoor
open Go.Tan Go.RowKit Go.Maps Go.Sort Go.Shelf
namespace Fx
theorem fo77_4:fOff Tryz.prog 77 4=some 41:=by kernel_rfl
theorem go109:goFn Tryz.prog 109=true:=by kernel_rfl
theorem sz41:szT Tryz.prog 41=some 1:=by kernel_rfl
theorem go62:goFn Tryz.prog 62=true:=by kernel_rfl
end Fx
set_option maxHeartbeats 1000000 in
theorem pickC_ok (bw bg bq bm room bd bt held bn:Nat) (root:Nat→Y) (o:Opts) (v0:Value) (F:List Fi) (h:Sh) (w:Wtg) (o1:BitVec 64) (G:PM) (hbw:PB G bw (cl (wdC bd bt root o 100 (pt bq) (pt bg)) 77)) (hD:DkR F 3) (hnm:F.map Fi.nm=[nmB 3 0,nmB 4 0]) (hz:szF F≤2000) (hr:5000≤room) (hr9:room≤1000000000) (hmem:0<o.mem) (hs:SlR G 3 Wtg.cells h [w]) (hwo:SlR G 3 Opn.cells w.sh w.ops) (hw:w.ops.length=1∨w.ops.length=2) (hsy:w.sy=true) (hok:∀ o∈w.ops,o.ok) (hord:w.ops.length=2→lt (w.ops.getD 0 Opn.zero).user (w.ops.getD 1 Opn.zero).user=true) (hK:RdNP G 6 0 (wa 64 kW)):Ct Tryz.prog 62 ([.pointer (some ⟨bw,0,none⟩),.int .i64 0]:List Value).toArray G [.blk bg (cl [pt bq,h.val 1] 140),.blk bq (cl (Db.cells (Db.d3 bd bt root o 1#64 held bn)) 165),.blk bd (cl (dkC bm room 5) 118),.blk bm (mO ((F).map Fi.fe) 3),.blk bn (cl [v0,.int .i64 ((0:Nat):Int)] 225),rS 16 Nd.cells v0 249 [Nd.z],.blk bt (cl [uv .u64 1#64,uv .u64 o1] 87)] (fun G' μ' u=>∃ (oa:Option Addr) (hd:Sh) (bb m cap sz:Nat) (F4:List Fi) (nn:BitVec 64),m=(lstW (entsF 0 w.ops) w.ops.length).length∧SlR G' 2 encDn hd [((w.c:Int),(0:Int))]∧μ'=[.blk bg (cl [pt bq,.slice oa 0 0] 140),.blk bq (cl (Db.cells { Db.d3 bd bt root o 1#64 held bn with lg:=⟨⟨1#8,0#8,0#64,1#64,1#64⟩,nn,true⟩,seq:=(0#64+BitVec.ofInt 64 ((w.ops.length:Nat):Int)) }) 165),.blk bd (cl (dkC bm room 7) 118),.blk bm (mO ((F4).map Fi.fe) 4),.blk bn (cl [.slice (some ⟨bb,0,none⟩) m cap,.int .i64 ((sz:Nat):Int)] 225),rS 16 Nd.cells (.slice (some ⟨bb,0,none⟩) m cap) 249 (lstW (entsF 0 w.ops) w.ops.length),.blk bt (cl [uv .u64 2#64,uv .u64 o1] 87)]∧u=.agg (Rep.cells (⟨0,0#64,⟨#[]⟩,false,[],[((w.c:Int),(0:Int))]⟩) (.slice none 0 0) (hd.val 1)).toArray):=by
 refine Ct.of Tryz.func62 rfl Tryz.ntmps62 rfl fun w0 hs0=>?_
 refine .seq (rq1 rfl rfl ?_)
 refine al rfl Fx.zr43 ?_; intro b4
 refine .nil (.code (.seq (.seq (rq2 rfl rfl (mV rfl rfl (anA rfl .no (.u rfl) (.u rfl) ?_))))))
 refine .nil (.code (.block (.seq (rq2 rfl rfl (cp rfl .no (.u rfl) (.u rfl) rfl (aS rfl rfl (.nil (.code (.cond rfl (fun c1=>?_) (fun c1=>?_))))))))))
 ·have c1k:=c1
  try simp only [qcA,qcC,qcB] at c1
  refine Wk.mixp ⟨true,false⟩ Fx.mix (by kernel_rfl) ?_
  refine Wp.one 0 (by kernel_rfl) ?_
  refine mV rfl rfl (.nil (Wp.one 1 (by kernel_rfl) ?_))
  refine nc rfl .no (.u rfl) (.nil (Wp.one 2 (by kernel_rfl) ?_))
  refine fa rfl .no Fx.fo77_6 (.u rfl) (.nil (Wp.one 3 (by kernel_rfl) ?_))
  refine ld rfl .no Fx.ag75 (.u rfl) (fun _=>(hbw.rd (wd_y)).rd) ?_
  refine .nil (Wp.one 4 (by kernel_rfl) ?_)
  refine mV rfl rfl (.nil (Wp.one 5 (by kernel_rfl) ?_))
  refine nc rfl .no (.u rfl) (.nil (Wp.one 6 (by kernel_rfl) ?_))
  refine fa rfl .no Fx.fo77_4 (.u rfl) (.nil (Wp.one 7 (by kernel_rfl) ?_))
  refine ld rfl .no Fx.ag3 (.u rfl) (fun _=>(hbw.rd (wd_mo)).rd) ?_
  refine .nil (Wp.b1 8 (by kernel_rfl) ?_)
  refine ka rfl (.inl rfl) Fx.go109 (Evc rfl (Evc rfl Evn)) (mtq7 tk1 tk1 tk1 tk1 tk1 tk1 tk1) (gComS_ok bg bq bm room bd bt held bn root o v0 F h w o1 _ hD hnm hz hr hr9 hmem hs hwo hw hsy hok hord hK) ?_
  rintro _ G18 μ18 hG18 ⟨oa,vD,bb,m,cap,sz,F4,nn,oD,hm4,rfl,rfl⟩
  refine .nil (Wp.one 9 (by kernel_rfl) ?_)
  refine mV rfl rfl (.nil (Wp.one 10 (by kernel_rfl) ?_))
  refine ex rfl .no (.u rfl) rfl (.nil (Wp.one 11 (by kernel_rfl) ?_))
  refine ex rfl .no (.u rfl) rfl (.nil (Wp.one 12 (by kernel_rfl) ?_))
  refine fz rfl .no Fx.fo43_5 (.u rfl) (.nil (Wp.b1 13 (by kernel_rfl) ?_))
  refine s1v rfl (.u rfl) (.u rfl) tk1 Fx.sz41 tk8 ((by show 5<6; decide)) (rfl) ?_
  refine .nil (Wp.one 14 (by kernel_rfl) ?_)
  refine fz rfl .no Fx.fo43_0 (.u rfl) (.nil (Wp.b1 15 (by kernel_rfl) ?_))
  refine s1 rfl (.u rfl) (.u rfl) rfl Fx.sz30 .here ((by show 0<6; decide)) (rfl) ?_
  refine .nil (Wp.last (by kernel_rfl) ?_)
  refine .blk (.code (.seq ?_))
  refine wk_fs0 tk2 (fun _ _=>rfl) ?_; intro GfRD hRD hleRD evRD hsRD; subst evRD
  have hsd:=SlR.dn hsRD
  refine rq2 rfl rfl (lA rfl .no Fx.ag43 (.u rfl) (fun _=>RdN.part (n:=6) (cs':=Rep.cells ⟨0,0#64,⟨#[]⟩,false,[],[((w.c:Int),(0:Int))]⟩ (.slice none 0 0) (hRD.val 1)) .here (rfl)) (fun _=>rfl) (sw rfl (.u rfl) (.u rfl) rfl Fx.sz43 .here rfl (Rep.one _ rfl rfl) ?_))
  refine .nil (.code (.ret (We.fin Tryz.results62 (.cell rfl (fun w hw=>run_loadVarN Fx.ag43 (RdN.own .here) (rfl) hw) .nil) (mS tk1 rfl (mS tk1 rfl (mS tk1 rfl (mS tk1 rfl (mS tk1 rfl (mS tk1 rfl (mS tk1 rfl mN))))))) ?_)))
  exact ⟨oa,hRD,bb,m,cap,sz,F4,nn,hm4,hsd,rfl,rfl⟩
 have c1k:=c1
 exact Bool.noConfusion (id c1:true=false)
set_option maxHeartbeats 1000000 in
theorem askP_ok (bw bg bq bm room bd bt held bn:Nat) (root:Nat→Y) (o:Opts) (v0:Value) (F:List Fi) (h:Sh) (w:Wtg) (o1:BitVec 64) (G:PM) (hbw:PB G bw (cl (wdC bd bt root o 100 (pt bq) (pt bg)) 77)) (hD:DkR F 3) (hnm:F.map Fi.nm=[nmB 3 0,nmB 4 0]) (hz:szF F≤2000) (hr:5000≤room) (hr9:room≤1000000000) (hmem:0<o.mem) (hs:SlR G 3 Wtg.cells h [w]) (hwo:SlR G 3 Opn.cells w.sh w.ops) (hw:w.ops.length=1∨w.ops.length=2) (hsy:w.sy=true) (hok:∀ o∈w.ops,o.ok) (hord:w.ops.length=2→lt (w.ops.getD 0 Opn.zero).user (w.ops.getD 1 Opn.zero).user=true) (hK:RdNP G 6 0 (wa 64 kW)) (vo vk vb:Value) (ho:vo.oneCell'=true) (hk9:vk.oneCell'=true) (hb9:vb.oneCell'=true):Ct Tryz.prog 34 ([.pointer (some ⟨bw,0,none⟩),.agg (EvD.cells (⟨6#8,0,[],false,[],[],0#64,0,[],[],[]⟩ : EvD) vo vk vb).toArray]:List Value).toArray G [.blk bg (cl [pt bq,h.val 1] 140),.blk bq (cl (Db.cells (Db.d3 bd bt root o 1#64 held bn)) 165),.blk bd (cl (dkC bm room 5) 118),.blk bm (mO ((F).map Fi.fe) 3),.blk bn (cl [v0,.int .i64 ((0:Nat):Int)] 225),rS 16 Nd.cells v0 249 [Nd.z],.blk bt (cl [uv .u64 1#64,uv .u64 o1] 87)] (fun G' μ' u=>∃ (oa:Option Addr) (hd:Sh) (bb m cap sz:Nat) (F4:List Fi) (nn:BitVec 64),m=(lstW (entsF 0 w.ops) w.ops.length).length∧SlR G' 2 encDn hd [((w.c:Int),(0:Int))]∧μ'=[.blk bg (cl [pt bq,.slice oa 0 0] 140),.blk bq (cl (Db.cells { Db.d3 bd bt root o 1#64 held bn with lg:=⟨⟨1#8,0#8,0#64,1#64,1#64⟩,nn,true⟩,seq:=(0#64+BitVec.ofInt 64 ((w.ops.length:Nat):Int)) }) 165),.blk bd (cl (dkC bm room 7) 118),.blk bm (mO ((F4).map Fi.fe) 4),.blk bn (cl [.slice (some ⟨bb,0,none⟩) m cap,.int .i64 ((sz:Nat):Int)] 225),rS 16 Nd.cells (.slice (some ⟨bb,0,none⟩) m cap) 249 (lstW (entsF 0 w.ops) w.ops.length),.blk bt (cl [uv .u64 2#64,uv .u64 o1] 87)]∧u=.agg (Rep.cells (⟨0,0#64,⟨#[]⟩,false,[],[((w.c:Int),(0:Int))]⟩) (.slice none 0 0) (hd.val 1)).toArray):=by
 refine Ct.of Tryz.func34 rfl Tryz.ntmps34 rfl fun w0 hs0=>?_
 refine .seq (rq2 rfl rfl ?_)
 refine bx rfl (.u rfl) rfl ?_; intro b3
 refine al rfl Fx.zr43 ?_; intro b4
 refine .nil (.code (.seq (.seq (rq2 rfl rfl (fz rfl .no Fx.fo27_0 (.u rfl) (ld rfl .no Fx.ag5 (.u rfl) (fun _=>Rd.own tk1 rfl) ?_))))))
 refine .nil (.code (.block (.seq (rq2 rfl rfl (cp rfl .no (.u rfl) (.u rfl) rfl (aS rfl rfl (.nil (.code (.cond rfl (fun c1=>?_) (fun c1=>?_))))))))))
 ·have c1k:=c1
  exact Bool.noConfusion (id c1:false=true)
 have c1k:=c1
 try simp only [qcA,qcC,qcB] at c1
 refine .seq (rq2 rfl rfl (cp rfl .no (.u rfl) (.u rfl) rfl (aS rfl rfl (.nil (.code (.cond rfl (fun c2=>?_) (fun c2=>?_)))))))
 ·have c2k:=c2
  exact Bool.noConfusion (id c2:false=true)
 have c2k:=c2
 try simp only [qcA,qcC,qcB] at c2
 refine .seq (rq2 rfl rfl (cp rfl .no (.u rfl) (.u rfl) rfl (aS rfl rfl (.nil (.code (.cond rfl (fun c3=>?_) (fun c3=>?_)))))))
 ·have c3k:=c3
  exact Bool.noConfusion (id c3:false=true)
 have c3k:=c3
 try simp only [qcA,qcC,qcB] at c3
 refine .seq (rq2 rfl rfl (cp rfl .no (.u rfl) (.u rfl) rfl (aS rfl rfl (.nil (.code (.cond rfl (fun c4=>?_) (fun c4=>?_)))))))
 ·have c4k:=c4
  exact Bool.noConfusion (id c4:false=true)
 have c4k:=c4
 try simp only [qcA,qcC,qcB] at c4
 refine .seq (rq2 rfl rfl (cp rfl .no (.u rfl) (.u rfl) rfl (aS rfl rfl (.nil (.code (.cond rfl (fun c5=>?_) (fun c5=>?_)))))))
 ·have c5k:=c5
  exact Bool.noConfusion (id c5:false=true)
 have c5k:=c5
 try simp only [qcA,qcC,qcB] at c5
 refine .seq (rq2 rfl rfl (cp rfl .no (.u rfl) (.u rfl) rfl (aS rfl rfl (.nil (.code (.cond rfl (fun c6=>?_) (fun c6=>?_)))))))
 ·have c6k:=c6
  try simp only [qcA,qcC,qcB] at c6
  refine .seq (rq5 rfl rfl (mV rfl rfl (fz rfl .no Fx.fo27_7 (.u rfl) (ld rfl .no Fx.ag3 (.u rfl) (fun _=>Rd.own tk1 rfl) ?_))))
  refine ka rfl (.inr rfl) Fx.go62 (Evc rfl (Evc rfl Evn)) (mtq7 tk2 tk2 tk2 tk2 tk2 tk2 tk2) (pickC_ok bw bg bq bm room bd bt held bn root o v0 F h w o1 _ hbw hD hnm hz hr hr9 hmem hs hwo hw hsy hok hord hK) ?_
  rintro _ G84 μ84 hG84 ⟨oa,hd,bb,m,cap,sz,F4,nn,hm4,hsd,rfl,rfl⟩
  refine sw rfl (.u rfl) (.u rfl) rfl Fx.sz43 tk7 rfl (Rep.one _ rfl rfl) ?_
  refine .nil (.code (.ret (We.fin Tryz.results34 (.cell rfl (fun w hw=>run_loadVarN Fx.ag43 (RdN.own .here) (rfl) hw) .nil) (mS tk1 rfl (mS tk1 rfl (mS tk1 rfl (mS tk1 rfl (mS tk1 rfl (mS tk1 rfl (mS tk1 rfl mN))))))) ?_)))
  exact ⟨oa,hd,bb,m,cap,sz,F4,nn,hm4,hsd,rfl,rfl⟩
 have c6k:=c6
 exact Bool.noConfusion (id c6:true=false)
set_option maxHeartbeats 1000000 in
theorem doP_ok (bw bg bq bm room bd bt held bn:Nat) (root:Nat→Y) (o:Opts) (v0:Value) (F:List Fi) (h:Sh) (w:Wtg) (o1:BitVec 64) (G:PM) (hbw:PB G bw (cl (wdC bd bt root o 100 (pt bq) (pt bg)) 77)) (hD:DkR F 3) (hnm:F.map Fi.nm=[nmB 3 0,nmB 4 0]) (hz:szF F≤2000) (hr:5000≤room) (hr9:room≤1000000000) (hmem:0<o.mem) (hs:SlR G 3 Wtg.cells h [w]) (hwo:SlR G 3 Opn.cells w.sh w.ops) (hw:w.ops.length=1∨w.ops.length=2) (hsy:w.sy=true) (hok:∀ o∈w.ops,o.ok) (hord:w.ops.length=2→lt (w.ops.getD 0 Opn.zero).user (w.ops.getD 1 Opn.zero).user=true) (hK:RdNP G 6 0 (wa 64 kW)) (vo vk vb:Value) (ho:vo.oneCell'=true) (hk9:vk.oneCell'=true) (hb9:vb.oneCell'=true):Ct Tryz.prog 10 ([.pointer (some ⟨bw,0,none⟩),.agg (EvD.cells (⟨6#8,0,[],false,[],[],0#64,0,[],[],[]⟩ : EvD) vo vk vb).toArray]:List Value).toArray G [.blk bg (cl [pt bq,h.val 1] 140),.blk bq (cl (Db.cells (Db.d3 bd bt root o 1#64 held bn)) 165),.blk bd (cl (dkC bm room 5) 118),.blk bm (mO ((F).map Fi.fe) 3),.blk bn (cl [v0,.int .i64 ((0:Nat):Int)] 225),rS 16 Nd.cells v0 249 [Nd.z],.blk bt (cl [uv .u64 1#64,uv .u64 o1] 87)] (fun G' μ' u=>∃ (oa:Option Addr) (hd:Sh) (bb m cap sz:Nat) (F4:List Fi) (nn:BitVec 64),m=(lstW (entsF 0 w.ops) w.ops.length).length∧SlR G' 2 encDn hd [((w.c:Int),(0:Int))]∧μ'=[.blk bg (cl [pt bq,.slice oa 0 0] 140),.blk bq (cl (Db.cells { Db.d3 bd bt root o 1#64 held bn with lg:=⟨⟨1#8,0#8,0#64,1#64,1#64⟩,nn,true⟩,seq:=(0#64+BitVec.ofInt 64 ((w.ops.length:Nat):Int)) }) 165),.blk bd (cl (dkC bm room 7) 118),.blk bm (mO ((F4).map Fi.fe) 4),.blk bn (cl [.slice (some ⟨bb,0,none⟩) m cap,.int .i64 ((sz:Nat):Int)] 225),rS 16 Nd.cells (.slice (some ⟨bb,0,none⟩) m cap) 249 (lstW (entsF 0 w.ops) w.ops.length),.blk bt (cl [uv .u64 2#64,uv .u64 o1] 87)]∧u=.agg (Rep.cells (⟨0,0#64,⟨#[]⟩,false,[],[((w.c:Int),(0:Int))]⟩) (.slice none 0 0) (hd.val 1)).toArray):=by
 refine Ct.of Tryz.func10 rfl Tryz.ntmps10 rfl fun w0 hs0=>?_
 refine .seq (rq2 rfl rfl ?_)
 refine bx rfl (.u rfl) rfl ?_; intro b3
 refine al rfl Fx.zr43 ?_; intro b4
 refine .nil (.code (.seq (.seq (rq2 rfl rfl (mV rfl rfl (pe rfl .no Fx.pt29 (.u rfl) (.u rfl) ?_))))))
 refine .nil (.code (Wk.condF rfl rfl ?_))
 refine .skip (.code (.seq (.seq (rq2 rfl rfl (fz rfl .no Fx.fo27_0 (.u rfl) (ld rfl .no Fx.ag5 (.u rfl) (fun _=>Rd.own tk1 rfl) ?_))))))
 refine .nil (.code (.block (.seq (rq2 rfl rfl (cp rfl .no (.u rfl) (.u rfl) rfl (aS rfl rfl (.nil (.code (.cond rfl (fun c1=>?_) (fun c1=>?_))))))))))
 ·have c1k:=c1
  cases c1
 have c1k:=c1
 try simp only [qcA,qcC,qcB] at c1
 refine .seq (rq2 rfl rfl (cp rfl .no (.u rfl) (.u rfl) rfl (aS rfl rfl (.nil (.code (.cond rfl (fun c2=>?_) (fun c2=>?_)))))))
 ·have c2k:=c2
  exact Bool.noConfusion (id c2:false=true)
 have c2k:=c2
 try simp only [qcA,qcC,qcB] at c2
 refine .seq (rq2 rfl rfl (cp rfl .no (.u rfl) (.u rfl) rfl (aS rfl rfl (.nil (.code (.cond rfl (fun c3=>?_) (fun c3=>?_)))))))
 ·have c3k:=c3
  exact Bool.noConfusion (id c3:false=true)
 have c3k:=c3
 try simp only [qcA,qcC,qcB] at c3
 refine .seq (rq2 rfl rfl (cp rfl .no (.u rfl) (.u rfl) rfl (aS rfl rfl (.nil (.code (.cond rfl (fun c4=>?_) (fun c4=>?_)))))))
 ·have c4k:=c4
  exact Bool.noConfusion (id c4:false=true)
 have c4k:=c4
 try simp only [qcA,qcC,qcB] at c4
 refine .seq (rq2 rfl rfl (cp rfl .no (.u rfl) (.u rfl) rfl (aS rfl rfl (.nil (.code (.cond rfl (fun c5=>?_) (fun c5=>?_)))))))
 ·have c5k:=c5
  exact Bool.noConfusion (id c5:false=true)
 have c5k:=c5
 try simp only [qcA,qcC,qcB] at c5
 refine .block (.seq (rq9 rfl rfl (fz rfl .no Fx.fo27_0 (.u rfl) (ld rfl .no Fx.ag5 (.u rfl) (fun _=>Rd.own tk1 rfl) ?_))))
 refine cp rfl .no (.u rfl) (.u rfl) rfl (mV rfl rfl (fz rfl (.f rfl rfl) Fx.fo27_0 (.u rfl) (ld rfl (.f rfl rfl) Fx.ag5 (.s rfl) (fun hc=>Rd.own tk1 rfl) ?_)))
 refine cp rfl (.f rfl rfl) (.s rfl) (.u rfl) rfl (pkO rfl .no (.u rfl) (.s rfl) (aS rfl rfl (.nil (.code (.cond rfl (fun c6=>?_) (fun c6=>?_))))))
 ·have c6k:=c6
  exact Bool.noConfusion (id c6:false=true)
 have c6k:=c6
 try simp only [qcA,qcC,qcB] at c6
 refine .seq (rq6 rfl rfl (mV rfl rfl (nc rfl .no (.u rfl) (fa rfl .no Fx.fo77_5 (.u rfl) (ld rfl .no Fx.ag45 (.u rfl) (fun _=>(hbw.rd (wd_x)).rd) ?_)))))
 refine pe rfl .no Fx.pt45 (.u rfl) (.u rfl) ?_
 refine aS rfl rfl (.nil (.code (.cond rfl (fun c7=>?_) (fun c7=>?_))))
 ·have c7k:=c7
  exact Bool.noConfusion (id c7:false=true)
 have c7k:=c7
 try simp only [qcA,qcC,qcB] at c7
 refine .seq (rq4 rfl rfl (mV rfl rfl (lA rfl .no Fx.ag27 (.u rfl) (fun _=>RdN.part (n:=11) (cs':=EvD.cells (⟨6#8,0,[],false,[],[],0#64,0,[],[],[]⟩ : EvD) vo vk vb) tk1 (rfl)) (fun _=>rfl) (ka rfl (.inr rfl) Fx.go34 (Evc rfl (Evc rfl Evn)) (mtq7 tk2 tk2 tk2 tk2 tk2 tk2 tk2) (askP_ok bw bg bq bm room bd bt held bn root o v0 F h w o1 _ hbw hD hnm hz hr hr9 hmem hs hwo hw hsy hok hord hK vo vk vb ho hk9 hb9) ?_))))
 rintro _ G12 μ12 hG12 ⟨oa,hd,bb,m,cap,sz,F4,nn,hm4,hsd,rfl,rfl⟩
 refine sw rfl (.u rfl) (.u rfl) rfl Fx.sz43 tk7 rfl (Rep.one _ rfl rfl) ?_
 refine .nil (.code (.ret (We.fin Tryz.results10 (.cell rfl (fun w hw=>run_loadVarN Fx.ag43 (RdN.own .here) (rfl) hw) .nil) (mS tk1 rfl (mS tk1 rfl (mS tk1 rfl (mS tk1 rfl (mS tk1 rfl (mS tk1 rfl (mS tk1 rfl mN))))))) ?_)))
 exact ⟨oa,hd,bb,m,cap,sz,F4,nn,hm4,hsd,rfl,rfl⟩
end Go.Proofs.YtoifkgkandfeiaaGreatDoor

namespace Go.Proofs.YtoifkgkandfeiaaGreatDoor
open Go.Tan Go.RowKit Go.Maps Go.Sort Go.Shelf
namespace Fx
theorem go97:goFn Tryz.prog 97=true:=by kernel_rfl
theorem go98:goFn Tryz.prog 98=true:=by kernel_rfl
theorem go99:goFn Tryz.prog 99=true:=by kernel_rfl
end Fx
theorem lGet_ok (bl:Nat) (h:Sh) (xs:List Nd) (sz:Value) (G:PM) (hbl:PB G bl (cl [h.val xs.length,sz] 225)) (hs:SlR G 16 Nd.cells h xs) (w:Nat→Nat) (us:ByteArray) (q:BitVec 64) (hW:WayN xs us q w) (e:Ent) (h0:0<nxt xs (w 0) 0) (he:(xs.getD (nxt xs (w 0) 0) Nd.z).1=e) (hu:e.user=us):Ct Tryz.prog 98 ([.pointer (some ⟨bl,0,none⟩),.string us,uv .u64 q]:List Value).toArray G [] (fun _ μ' u=>μ'=[]∧u=.tuple #[e.val,.bool true]):=by
 subst he
 refine Ct.of Tryz.func98 rfl Tryz.ntmps98 rfl fun w0 hs0=>?_
 have hnx:nxt xs (w 0) 0<xs.length:=hW.inb _ (hW.lt 0 (by decide)) 0 (by decide)
 refine .seq (rq2 rfl rfl ?_)
 refine al rfl FxGrC.zq179 ?_; intro b6
 refine aS rfl rfl (.nil (.code (.seq (rq5 rfl rfl (mV rfl rfl (mV rfl rfl (mV rfl rfl (kv rfl .no Fx.go148 (Evc rfl (Evc rfl (Evc rfl Evn))) (fun _=>first_l bl h xs sz _ hbl hs w us q hW) ?_))))))))
 refine aS rfl rfl (.nil (.code (.seq (.seq (Wk.rg [0,1,2,3,4,5,6,7,8,9,10,11,12,13,14] rfl rfl (mV rfl rfl (cp rfl .no (.u rfl) (.u rfl) rfl (mV rfl rfl (mv rfl (.f rfl rfl) (.u rfl) (nc rfl (.f rfl rfl) (.s rfl) (fa rfl (.f rfl rfl) Fx.fo225_0 (.s rfl) (ld rfl (.f rfl rfl) Fx.ag223 (.s rfl) (fun hc=>(hbl.rd (rfl)).rd) ?_))))))))))))
 refine mv rfl (.f rfl rfl) (.u rfl) (ih rfl (.f rfl rfl) Fx.se223 (.s rfl) (.s rfl) (fun _=>by omega) (fun _=>by omega) (fun _=>hs.nn (k:=nxt xs (w 0) 0) hnx) ?_)
 refine fa rfl (.f rfl rfl) Fx.fo249_0 (.s rfl) (fa rfl (.f rfl rfl) Fx.fo179_0 (.s rfl) (ld rfl (.f rfl rfl) Fx.ag9 (.s rfl) (fun hc=>((Nd.rde hs (a:=nxt xs (w 0) 0) hnx (by simp)) 0 _ rfl).rd) ?_))
 refine mv rfl (.f rfl rfl) (.u rfl) (cs rfl (.f rfl rfl) (.s rfl) (.s rfl) rfl (pkO rfl .no (.u rfl) (.s rfl) (.nil (.code (.cond rfl (fun c1=>?_) (fun c1=>?_))))))
 ·have c1k:=c1
  have h10:nxt xs (w 0) 0≠0:=by omega
  have h9:((nxt xs (w 0) 0:Nat):Int)≠0:=by omega
  rw [hu] at c1k
  simp [h9,h10] at c1k
 have c1k:=c1
 try simp only [qcA,qcB] at c1
 refine .skip (.code (.seq (rq10 rfl rfl (mV rfl rfl (nc rfl .no (.u rfl) (fa rfl .no Fx.fo225_0 (.u rfl) (ld rfl .no Fx.ag223 (.u rfl) (fun _=>(hbl.rd (rfl)).rd) ?_)))))))
 refine mV rfl rfl (ih rfl .no Fx.se223 (.u rfl) (.u rfl) (fun _=>by omega) (fun _=>by omega) (fun _=>hs.nn (k:=nxt xs (w 0) 0) hnx) ?_)
 refine fa rfl .no Fx.fo249_0 (.u rfl) (lA rfl .no Fx.ag179 (.u rfl) (fun _=>(Nd.rde hs (a:=nxt xs (w 0) 0) hnx (by simp)).rd) (fun _=>Ent.len _) ?_)
 refine sw rfl (.u rfl) (.u rfl) rfl Fx.sz179 .here rfl (Ent.one _) ?_
 refine aS rfl rfl (.nil (.code (.ret (We.fin0 Tryz.results98 (.cell rfl (fun w hw=>run_loadVarN Fx.ag179 (RdN.own .here) (Ent.len _) hw) (.tmp rfl .nil)) ?_))))
 exact ⟨rfl,rfl⟩
theorem askGe_ok (bx:Nat) (d:Db) (G:PM) (hbx:PB G bx (cl d.cells 165)) (m:BitVec 64) (hm:d.seq.toNat≤m.toNat):Ct Tryz.prog 97 ([pt bx,uv .u64 m]:List Value).toArray G [] (fun _ μ' u=>μ'=[]∧u=.tuple #[uv .u64 d.seq,.bool true]):=by
 refine Ct.of Tryz.func97 rfl Tryz.ntmps97 rfl fun w0 hs0=>?_
 refine .seq (rq2 rfl rfl (aS rfl rfl (aS rfl rfl (.nil (.code (.seq (.seq (rq6 rfl rfl (mV rfl rfl (mV rfl rfl (nc rfl .no (.u rfl) (fa rfl .no Fx.fo165_7 (.u rfl) (ld rfl .no Fx.ag23 (.u rfl) (fun _=>(hbx.rd (rfl)).rd) ?_)))))))))))))
 refine cp rfl .no (.u rfl) (.u rfl) rfl (.nil (.code (.cond rfl (fun c1=>?_) (fun c1=>?_))))
 ·have c1k:=c1
  try simp only [qcA,qcB] at c1
  refine .seq (rq6 rfl rfl (mV rfl rfl (nc rfl .no (.u rfl) (fa rfl .no Fx.fo165_7 (.u rfl) (ld rfl .no Fx.ag23 (.u rfl) (fun _=>(hbx.rd (rfl)).rd) ?_)))))
  refine aS rfl rfl (aS rfl rfl (.nil (.code (.ret (We.fin0 Tryz.results97 (.tmp rfl (.tmp rfl .nil)) ?_)))))
  exact ⟨rfl,rfl⟩
 have c1k:=c1
 have h1:@BitVec.toNat IntKind.u64.bits m=m.toNat:=rfl; have h2:@BitVec.toNat IntKind.u64.bits d.seq=d.seq.toNat:=rfl; simp at c1; omega
theorem dGet_ok (bx:Nat) (d:Db) (G:PM) (hbx:PB G bx (cl d.cells 165)) (us:ByteArray) (m:BitVec 64) (h:Sh) (xs:List Nd) (sz:Value) (w:Nat→Nat) (hbl:PB G d.now (cl [h.val xs.length,sz] 225)) (hs:SlR G 16 Nd.cells h xs) (hst:d.s.cells d.hd=(stF 1 2).cells hd0) (hW:WayN xs us d.seq w) (e:Ent) (h0:0<nxt xs (w 0) 0) (he:(xs.getD (nxt xs (w 0) 0) Nd.z).1=e) (hu:e.user=us) (hk:e.kind=1#8) (hm:d.seq.toNat≤m.toNat):Ct Tryz.prog 58 ([pt bx,.string us,uv .u64 m]:List Value).toArray G [] (fun _ μ' u=>μ'=[]∧u=.tuple #[.string e.value,.bool true,.int .i64 0]):=by
 refine Ct.of Tryz.func58 rfl Tryz.ntmps58 rfl fun w0 hs0=>?_
 refine .seq (rq3 rfl rfl (aS rfl rfl (aS rfl rfl ?_)))
 refine al rfl FxGrBb.zr30 ?_; intro b8
 refine .nil (.code (.seq (.seq (rq3 rfl rfl (mV rfl rfl (kv rfl .no Fx.go96 (Evc rfl Evn) (fun _=>usable_ok bx d _ hbx) ?_))))))
 refine aS rfl rfl (.nil (.code (.seq (rq2 rfl rfl (mV rfl rfl (cp rfl .no (.u rfl) (.u rfl) rfl (.nil (.code (.cond rfl (fun c1=>?_) (fun c1=>?_))))))))))
 ·have c1k:=c1
  exact absurd c1 (by decide)
 have c1k:=c1
 try simp only [qcA,qcC,qcB] at c1
 refine .skip (.code (.seq (Wk.defers [0] 1 (DQ.d ⟨89,[.pointer (some ⟨bx,0,none⟩),.pointer (some ⟨b8,0,none⟩)],[]⟩) (fun _ _ _ _=>False) (fun _ _ _ _ _ _ hq=>hq.elim) rfl rfl ?_)))
 refine mV rfl rfl (.nil ⟨DefOp.fn rfl (Evc rfl (Evc rfl Evn)),?_⟩)
 refine .code (.seq (rq8 rfl rfl (mV rfl rfl (mV rfl rfl (kv rfl .no Fx.go97 (Evc rfl (Evc rfl Evn)) (fun _=>askGe_ok bx d _ hbx m hm) ?_)))))
 refine mV rfl rfl (ex rfl .no (.u rfl) rfl (ex rfl .no (.u rfl) rfl (aS rfl rfl (aS rfl rfl (.nil (.code (.seq (.seq (rq2 rfl rfl (mV rfl rfl (nt rfl .no (.u rfl) (.nil (.code (.cond rfl (fun c2=>?_) (fun c2=>?_)))))))))))))))
 ·have c2k:=c2
  cases c2
 have c2k:=c2
 try simp only [qcA,qcC,qcB] at c2
 refine .skip (.code (.seq (Wk.rg [0,1,2,3,4,5,6,7,8,9,10,11,12] rfl rfl (mV rfl rfl (nc rfl .no (.u rfl) (fa rfl .no Fx.fo165_13 (.u rfl) (ld rfl .no Fx.ag153 (.u rfl) (fun _=>(hbx.rd (rfl)).rd) ?_)))))))
 refine mV rfl rfl (mV rfl rfl (kv rfl .no Fx.go98 (Evc rfl (Evc rfl (Evc rfl Evn))) (fun _=>lGet_ok d.now h xs sz _ hbl hs w us d.seq hW e h0 he hu) ?_))
 refine mV rfl rfl (ex rfl .no (.u rfl) rfl (ex rfl .no (.u rfl) rfl ?_))
 refine al rfl FxGrC.zq179 ?_; intro b12
 refine sw rfl (.u rfl) (.u rfl) rfl Fx.sz179 .here rfl (Ent.one _) ?_
 refine aS rfl rfl (.nil (.code (.seq (.seq (rq2 rfl rfl (mV rfl rfl (nt rfl .no (.u rfl) (.nil (.code (.cond rfl (fun c3=>?_) (fun c3=>?_)))))))))))
 ·have c3k:=c3
  cases c3
 have c3k:=c3
 try simp only [qcA,qcC,qcB] at c3
 refine .skip (.code (.seq (.seq (rq8 rfl rfl (mV rfl rfl (nc rfl .no (.u rfl) (fa rfl .no Fx.fo165_5 (.u rfl) (lA rfl .no Fx.ag159 (.u rfl) (fun _=>(hbx.rdn (m:=14) (cs':=(stF 1 2).cells hd0) (by rw [← hst]; rfl)).rd) (fun _=>State.len) ?_))))))))
 refine mV rfl rfl (kc rfl Fx.go99 (Evc rfl (Evc rfl Evn)) (look_ok (stF 1 2) hd0 _ stF_R (by simp [tot,stF]) us) ?_)
 rintro _ G60 μ60 hG60 ⟨rfl,h60,rfl,hs60⟩
 refine ln rfl .no Fx.sn155 (.u rfl) (mV rfl rfl (.nil (.code (.block ?_))))
 refine Wk.lop (α:=Nat) (fun k=>[(13,true,.bool true),(62,true,.int .i64 (k:Int))]) (fun k=>[.blk b12 (cl e.cells 179)])
  (fun k Gl=>(k=0)) (fun k=>0) 0 [(0,true,_),(1,true,_),(8,true,_),(10,true,_),(12,true,_),(60,true,_),(61,true,_)] [_]
  (esD rfl (esC rfl (by first|rfl|exact evi (by omega)) (esD rfl (esD rfl (esD rfl (esD rfl (esD rfl (esD rfl (esD rfl eZ)))))))))
  (mS .here rfl (mS .here rfl mN)) ?_ ?_
 ·(try dsimp only)<;>(first|omega|rfl|assumption|(simp; done))
 intro k N0 Gl0 hN0 hGl0 hF0
 try dsimp only at hF0 hN0 ⊢
 have hk0:=hF0
 refine .seq (rq1 rfl rfl (cp rfl .no (.u rfl) (.u rfl) rfl (.nil (.code (.seq (.cond rfl (fun c4=>?_) (fun c4=>?_)))))))
 ·have c4k:=c4
  have hL:(lookM (stF 1 2) us 5).length=0:=by simp [lookM,ovl,stF]
  have h4:=of_decide_eq_true c4
  omega
 have c4k:=c4
 try simp only [qcA,qcC,qcB] at c4
 refine .exit (.xcode (.xlp (.xblk (.code (.seq (.seq (rq7 rfl rfl (mV rfl rfl (nt rfl .no (.u rfl) (mV rfl rfl (fz rfl (.f rfl rfl) Fx.fo179_2 (.u rfl) (ld rfl (.f rfl rfl) Fx.ag5 (.s rfl) (fun hc=>Rd.own .here (by first|exact wap_f rfl|rfl)) ?_))))))))))))
 refine cp rfl (.f rfl rfl) (.s rfl) (.u rfl) rfl (pkO rfl .no (.u rfl) (.s rfl) (.nil (.code (.cond rfl (fun c5=>?_) (fun c5=>?_)))))
 ·have c5k:=c5
  rw [hk] at c5; exact absurd c5 (by decide)
 have c5k:=c5
 try simp only [qcA,qcC,qcB] at c5
 refine .skip (.code (.seq (rq5 rfl rfl (fz rfl .no Fx.fo179_3 (.u rfl) (ld rfl .no Fx.ag9 (.u rfl) (fun _=>Rd.own .here (by first|exact wap_f rfl|rfl)) ?_)))))
 refine aS rfl rfl (aS rfl rfl (s1 rfl (.u rfl) (.u rfl) rfl Fx.sz30 tk1 (by first|decide|(simp only [wa_len,ba_len,qlA]; omega)) (rfl) ?_))
 refine .nil (.code (.ret (We.finQ [⟨89,[.pointer (some ⟨bx,0,none⟩),.pointer (some ⟨b8,0,none⟩)],[]⟩] rfl (by intro q hq; rw [List.mem_singleton.1 hq]; exact ⟨Fx.go89,fun w hw=>guard_ret w _ _⟩) Tryz.results58 (.tmp rfl (.tmp rfl (.cell rfl (fun w hw=>run_loadVar1 Fx.ag30 (Rd.own .here rfl w hw)) .nil))) mN ?_)))
 exact ⟨rfl,rfl⟩
theorem openBad_ok (bd bt:Nat) (root:Nat→Y) (o:Opts) (G:PM) (hO:rightO o=false):Ct Tryz.prog 50 ([.pointer (some ⟨bd,0,none⟩),.pointer (some ⟨bt,0,none⟩),.agg (ba 32 root).toArray,o.val]:List Value).toArray G [] (fun _ μ' u=>μ'=[]∧u=.tuple #[.pointer none,.int .i64 1]):=by
 refine Ct.of Tryz.func50 rfl Tryz.ntmps50 rfl fun w0 hs0=>?_
 refine .seq (rq4 rfl rfl ?_)
 refine bx rfl (.u rfl) rfl ?_; intro b6
 refine bx rfl (.u rfl) rfl ?_; intro b7
 refine al rfl Fx.zr45 ?_; intro b8
 refine al rfl FxGrBb.zr30 ?_; intro b9
 refine .nil (.code (.seq (.block (.seq (rq7 rfl rfl (mV rfl rfl (pe rfl .no Fx.pt48 (.u rfl) (.u rfl) ?_)))))))
 refine mV rfl rfl (mv rfl (.f rfl rfl) (.u rfl) (pe rfl (.f rfl rfl) Fx.pt50 (.s rfl) (.u rfl) ?_))
 refine pkO rfl .no (.u rfl) (.s rfl) (aS rfl rfl (.nil (.code (.cond rfl (fun c1=>?_) (fun c1=>?_)))))
 ·have c1k:=c1
  cases c1
 have c1k:=c1
 try simp only [qcA,qcC,qcB] at c1
 refine .seq (rq4 rfl rfl (lA rfl .no Fx.ag38 (.u rfl) (fun _=>RdN.part (n:=7) (cs':=o.cells) tk2 (rfl)) (fun _=>rfl) ?_))
 refine kv rfl .no Fx.go84 (Evc rfl Evn) (fun _=>oright_ok o _) ?_
 refine nt rfl .no (.u rfl) (aS rfl rfl (.nil (.code (.cond rfl (fun c2=>?_) (fun c2=>?_)))))
 ·have c2k:=c2
  try simp only [qcA,qcC,qcB] at c2
  refine .seq (rq2 rfl rfl (s1 rfl (.u rfl) (.u rfl) rfl Fx.sz45 tk1 (by first|decide|(simp only [wa_len,ba_len,qlA]; omega)) (rfl) ?_))
  refine s1 rfl (.u rfl) (.u rfl) rfl Fx.sz30 tk1 (by first|decide|(simp only [wa_len,ba_len,qlA]; omega)) (rfl) ?_
  refine .nil (.code (.ret (We.fin0 Tryz.results50 (.cell rfl (fun w hw=>run_loadVar1 Fx.ag45 (Rd.own tk1 rfl w hw)) (.cell rfl (fun w hw=>run_loadVar1 Fx.ag30 (Rd.own .here rfl w hw)) .nil)) ?_)))
  exact ⟨rfl,rfl⟩
 have c2k:=c2
 rw [hO] at c2; cases c2
end Go.Proofs.YtoifkgkandfeiaaGreatDoor
namespace Go.Proofs.YtoifkgkandfeiaaGreatDoor
open Go.Tan Go.RowKit Go.Maps Go.Sort Go.Shelf
namespace Fx
theorem go58:goFn Tryz.prog 58=true:=by kernel_rfl
end Fx
set_option maxHeartbeats 1000000 in
theorem askG_ok (bw bg bq bd bt held bn bb cap sz:Nat) (root:Nat→Y) (o:Opts) (nn:BitVec 64) (G:PM) (hbw:PB G bw (cl (wdC bd bt root o 100 (pt bq) (pt bg)) 77)) (vo vk vb:Value) (ho:vo.oneCell'=true) (hk9:vk.oneCell'=true) (hb9:vb.oneCell'=true):Ct Tryz.prog 34 ([.pointer (some ⟨bw,0,none⟩),.agg (EvD.cells eGt vo vk vb).toArray]:List Value).toArray G [.blk bq (cl (Db.cells { Db.d3 bd bt root o 1#64 held bn with lg:=⟨⟨1#8,0#8,0#64,1#64,1#64⟩,nn,true⟩,seq:=(0#64+BitVec.ofInt 64 (([oA6,oB6].length:Nat):Int)) }) 165),.blk bn (cl [.slice (some ⟨bb,0,none⟩) (lstW (entsF 0 [oA6,oB6]) [oA6,oB6].length).length cap,.int .i64 ((sz:Nat):Int)] 225),rS 16 Nd.cells (.slice (some ⟨bb,0,none⟩) (lstW (entsF 0 [oA6,oB6]) [oA6,oB6].length).length cap) 249 (lstW (entsF 0 [oA6,oB6]) [oA6,oB6].length)] (fun _ μ' u=>μ'=[.blk bq (cl (Db.cells { Db.d3 bd bt root o 1#64 held bn with lg:=⟨⟨1#8,0#8,0#64,1#64,1#64⟩,nn,true⟩,seq:=(0#64+BitVec.ofInt 64 (([oA6,oB6].length:Nat):Int)) }) 165),.blk bn (cl [.slice (some ⟨bb,0,none⟩) (lstW (entsF 0 [oA6,oB6]) [oA6,oB6].length).length cap,.int .i64 ((sz:Nat):Int)] 225),rS 16 Nd.cells (.slice (some ⟨bb,0,none⟩) (lstW (entsF 0 [oA6,oB6]) [oA6,oB6].length).length cap) 249 (lstW (entsF 0 [oA6,oB6]) [oA6,oB6].length)]∧u=.agg (Rep.cells (rGt) (.slice none 0 0) (.slice none 0 0)).toArray):=by
 refine Ct.of Tryz.func34 rfl Tryz.ntmps34 rfl fun w0 hs0=>?_
 refine .seq (rq2 rfl rfl ?_)
 refine bx rfl (.u rfl) rfl ?_; intro b3
 refine al rfl Fx.zr43 ?_; intro b4
 refine .nil (.code (.seq (.seq (rq2 rfl rfl (fz rfl .no Fx.fo27_0 (.u rfl) (ld rfl .no Fx.ag5 (.u rfl) (fun _=>Rd.own tk1 rfl) ?_))))))
 refine .nil (.code (.block (.seq (rq2 rfl rfl (cp rfl .no (.u rfl) (.u rfl) rfl (aS rfl rfl (.nil (.code (.cond rfl (fun c1=>?_) (fun c1=>?_))))))))))
 ·have c1k:=c1
  exact Bool.noConfusion (id c1:false=true)
 have c1k:=c1
 try simp only [qcA,qcC,qcB] at c1
 refine .seq (rq2 rfl rfl (cp rfl .no (.u rfl) (.u rfl) rfl (aS rfl rfl (.nil (.code (.cond rfl (fun c2=>?_) (fun c2=>?_)))))))
 ·have c2k:=c2
  try simp only [qcA,qcC,qcB] at c2
  refine Wk.mixp ⟨true,false⟩ Fx.mix (by kernel_rfl) ?_
  refine Wp.one 0 (by kernel_rfl) ?_
  refine mV rfl rfl (.nil (Wp.one 1 (by kernel_rfl) ?_))
  refine nc rfl .no (.u rfl) (.nil (Wp.one 2 (by kernel_rfl) ?_))
  refine fa rfl .no Fx.fo77_5 (.u rfl) (.nil (Wp.one 3 (by kernel_rfl) ?_))
  refine ld rfl .no Fx.ag45 (.u rfl) (fun _=>(hbw.rd (wd_x)).rd) ?_
  refine .nil (Wp.one 4 (by kernel_rfl) ?_)
  refine fz rfl .no Fx.fo27_4 (.u rfl) (.nil (Wp.one 5 (by kernel_rfl) ?_))
  refine ld rfl .no Fx.ag9 (.u rfl) (fun _=>Rd.own tk1 rfl) ?_
  refine .nil (Wp.one 6 (by kernel_rfl) ?_)
  refine fz rfl .no Fx.fo27_6 (.u rfl) (.nil (Wp.one 7 (by kernel_rfl) ?_))
  refine ld rfl .no Fx.ag23 (.u rfl) (fun _=>Rd.own tk1 rfl) ?_
  refine .nil (Wp.b1 8 (by kernel_rfl) ?_)
  refine ka rfl (.inl rfl) Fx.go58 (Evc rfl (Evc rfl (Evc rfl Evn))) (mtk3 tk2 tk2 tk2) (lend1 fun G1 hle1 h1=>lendL2 fun s G2 hle hv hs2 hb2=>by rw [hv] at hb2; exact dGet_ok bq { Db.d3 bd bt root o 1#64 held bn with lg:=⟨⟨1#8,0#8,0#64,1#64,1#64⟩,nn,true⟩,seq:=(0#64+BitVec.ofInt 64 (([oA6,oB6].length:Nat):Int)) } G2 (h1.mono hle) (txt [97]) 18446744073709551615#64 s (lstW (entsF 0 [oA6,oB6]) [oA6,oB6].length) _ (fun _=>0) hb2 hs2 rfl (wayG2 (l:=[oA6,oB6]) (us:=txt [97]) (q:=(0#64+BitVec.ofInt 64 (([oA6,oB6].length:Nat):Int):BitVec 64)) rfl (by kernel_rfl) (by kernel_rfl)).1 (entE 1#64 oA6) (by show 0<nxt (lstW (entsF 0 [oA6,oB6]) 2) 0 0; rw [(wayG2 (l:=[oA6,oB6]) (us:=txt [97]) (q:=(0#64+BitVec.ofInt 64 (([oA6,oB6].length:Nat):Int):BitVec 64)) rfl (by kernel_rfl) (by kernel_rfl)).2.1]; decide) (by show (List.getD (lstW (entsF 0 [oA6,oB6]) 2) (nxt (lstW (entsF 0 [oA6,oB6]) 2) 0 0) Nd.z).1=_; rw [(wayG2 (l:=[oA6,oB6]) (us:=txt [97]) (q:=(0#64+BitVec.ofInt 64 (([oA6,oB6].length:Nat):Int):BitVec 64)) rfl (by kernel_rfl) (by kernel_rfl)).2.1]; exact (wayG2 (l:=[oA6,oB6]) (us:=txt [97]) (q:=(0#64+BitVec.ofInt 64 (([oA6,oB6].length:Nat):Int):BitVec 64)) rfl (by kernel_rfl) (by kernel_rfl)).2.2) rfl rfl (by show (0#64+BitVec.ofInt 64 (([oA6,oB6].length:Nat):Int):BitVec 64).toNat≤(18446744073709551615#64:BitVec 64).toNat; decide)) ?_
  rintro _ G32 μ32 hG32 ⟨ν3,rfl,rfl,rfl⟩
  refine .nil (Wp.one 9 (by kernel_rfl) ?_)
  refine mV rfl rfl (.nil (Wp.one 10 (by kernel_rfl) ?_))
  refine ex rfl .no (.u rfl) rfl (.nil (Wp.one 11 (by kernel_rfl) ?_))
  refine ex rfl .no (.u rfl) rfl (.nil (Wp.one 12 (by kernel_rfl) ?_))
  refine ex rfl .no (.u rfl) rfl (.nil (Wp.one 13 (by kernel_rfl) ?_))
  refine fz rfl .no Fx.fo43_2 (.u rfl) (.nil (Wp.b1 14 (by kernel_rfl) ?_))
  refine s1 rfl (.u rfl) (.u rfl) rfl Fx.sz9 tk3 ((by show 2<6; decide)) (rfl) ?_
  refine .nil (Wp.one 15 (by kernel_rfl) ?_)
  refine fz rfl .no Fx.fo43_3 (.u rfl) (.nil (Wp.b1 16 (by kernel_rfl) ?_))
  refine s1 rfl (.u rfl) (.u rfl) rfl Fx.sz4 .here ((by show 3<6; decide)) (rfl) ?_
  refine .nil (Wp.one 17 (by kernel_rfl) ?_)
  refine fz rfl .no Fx.fo43_0 (.u rfl) (.nil (Wp.b1 18 (by kernel_rfl) ?_))
  refine s1 rfl (.u rfl) (.u rfl) rfl Fx.sz30 .here ((by show 0<6; decide)) (rfl) ?_
  refine .nil (Wp.last (by kernel_rfl) ?_)
  refine .blk (.code (.seq (rq2 rfl rfl (lA rfl .no Fx.ag43 (.u rfl) (fun _=>RdN.part (n:=6) (cs':=Rep.cells rGt (.slice none 0 0) (.slice none 0 0)) .here (rfl)) (fun _=>rfl) (sw rfl (.u rfl) (.u rfl) rfl Fx.sz43 .here rfl (Rep.one _ rfl rfl) ?_)))))
  refine .nil (.code (.ret (We.fin Tryz.results34 (.cell rfl (fun w hw=>run_loadVarN Fx.ag43 (RdN.own .here) (rfl) hw) .nil) (mS tk1 rfl (mS tk1 rfl (mS tk1 rfl mN))) ?_)))
  exact ⟨rfl,rfl⟩
 have c2k:=c2
 exact Bool.noConfusion (id c2:true=false)
theorem doG_ok (bw bg bq bd bt held bn bb cap sz:Nat) (root:Nat→Y) (o:Opts) (nn:BitVec 64) (G:PM) (hbw:PB G bw (cl (wdC bd bt root o 100 (pt bq) (pt bg)) 77)) (vo vk vb:Value) (ho:vo.oneCell'=true) (hk9:vk.oneCell'=true) (hb9:vb.oneCell'=true):Ct Tryz.prog 10 ([.pointer (some ⟨bw,0,none⟩),.agg (EvD.cells eGt vo vk vb).toArray]:List Value).toArray G [.blk bq (cl (Db.cells { Db.d3 bd bt root o 1#64 held bn with lg:=⟨⟨1#8,0#8,0#64,1#64,1#64⟩,nn,true⟩,seq:=(0#64+BitVec.ofInt 64 (([oA6,oB6].length:Nat):Int)) }) 165),.blk bn (cl [.slice (some ⟨bb,0,none⟩) (lstW (entsF 0 [oA6,oB6]) [oA6,oB6].length).length cap,.int .i64 ((sz:Nat):Int)] 225),rS 16 Nd.cells (.slice (some ⟨bb,0,none⟩) (lstW (entsF 0 [oA6,oB6]) [oA6,oB6].length).length cap) 249 (lstW (entsF 0 [oA6,oB6]) [oA6,oB6].length)] (fun _ μ' u=>μ'=[.blk bq (cl (Db.cells { Db.d3 bd bt root o 1#64 held bn with lg:=⟨⟨1#8,0#8,0#64,1#64,1#64⟩,nn,true⟩,seq:=(0#64+BitVec.ofInt 64 (([oA6,oB6].length:Nat):Int)) }) 165),.blk bn (cl [.slice (some ⟨bb,0,none⟩) (lstW (entsF 0 [oA6,oB6]) [oA6,oB6].length).length cap,.int .i64 ((sz:Nat):Int)] 225),rS 16 Nd.cells (.slice (some ⟨bb,0,none⟩) (lstW (entsF 0 [oA6,oB6]) [oA6,oB6].length).length cap) 249 (lstW (entsF 0 [oA6,oB6]) [oA6,oB6].length)]∧u=.agg (Rep.cells (rGt) (.slice none 0 0) (.slice none 0 0)).toArray):=by
 refine Ct.of Tryz.func10 rfl Tryz.ntmps10 rfl fun w0 hs0=>?_
 refine .seq (rq2 rfl rfl ?_)
 refine bx rfl (.u rfl) rfl ?_; intro b3
 refine al rfl Fx.zr43 ?_; intro b4
 refine .nil (.code (.seq (.seq (rq2 rfl rfl (mV rfl rfl (pe rfl .no Fx.pt29 (.u rfl) (.u rfl) ?_))))))
 refine .nil (.code (Wk.condF rfl rfl ?_))
 refine .skip (.code (.seq (.seq (rq2 rfl rfl (fz rfl .no Fx.fo27_0 (.u rfl) (ld rfl .no Fx.ag5 (.u rfl) (fun _=>Rd.own tk1 rfl) ?_))))))
 refine .nil (.code (.block (.seq (rq2 rfl rfl (cp rfl .no (.u rfl) (.u rfl) rfl (aS rfl rfl (.nil (.code (.cond rfl (fun c1=>?_) (fun c1=>?_))))))))))
 ·have c1k:=c1
  cases c1
 have c1k:=c1
 try simp only [qcA,qcC,qcB] at c1
 refine .seq (rq2 rfl rfl (cp rfl .no (.u rfl) (.u rfl) rfl (aS rfl rfl (.nil (.code (.cond rfl (fun c2=>?_) (fun c2=>?_)))))))
 ·have c2k:=c2
  exact Bool.noConfusion (id c2:false=true)
 have c2k:=c2
 try simp only [qcA,qcC,qcB] at c2
 refine .seq (rq2 rfl rfl (cp rfl .no (.u rfl) (.u rfl) rfl (aS rfl rfl (.nil (.code (.cond rfl (fun c3=>?_) (fun c3=>?_)))))))
 ·have c3k:=c3
  exact Bool.noConfusion (id c3:false=true)
 have c3k:=c3
 try simp only [qcA,qcC,qcB] at c3
 refine .seq (rq2 rfl rfl (cp rfl .no (.u rfl) (.u rfl) rfl (aS rfl rfl (.nil (.code (.cond rfl (fun c4=>?_) (fun c4=>?_)))))))
 ·have c4k:=c4
  exact Bool.noConfusion (id c4:false=true)
 have c4k:=c4
 try simp only [qcA,qcC,qcB] at c4
 refine .seq (rq2 rfl rfl (cp rfl .no (.u rfl) (.u rfl) rfl (aS rfl rfl (.nil (.code (.cond rfl (fun c5=>?_) (fun c5=>?_)))))))
 ·have c5k:=c5
  exact Bool.noConfusion (id c5:false=true)
 have c5k:=c5
 try simp only [qcA,qcC,qcB] at c5
 refine .block (.seq (rq9 rfl rfl (fz rfl .no Fx.fo27_0 (.u rfl) (ld rfl .no Fx.ag5 (.u rfl) (fun _=>Rd.own tk1 rfl) ?_))))
 refine cp rfl .no (.u rfl) (.u rfl) rfl (mV rfl rfl (fz rfl (.f rfl rfl) Fx.fo27_0 (.u rfl) (ld rfl (.f rfl rfl) Fx.ag5 (.s rfl) (fun hc=>Rd.own tk1 rfl) ?_)))
 refine cp rfl (.f rfl rfl) (.s rfl) (.u rfl) rfl (pkO rfl .no (.u rfl) (.s rfl) (aS rfl rfl (.nil (.code (.cond rfl (fun c6=>?_) (fun c6=>?_))))))
 ·have c6k:=c6
  exact Bool.noConfusion (id c6:false=true)
 have c6k:=c6
 try simp only [qcA,qcC,qcB] at c6
 refine .seq (rq6 rfl rfl (mV rfl rfl (nc rfl .no (.u rfl) (fa rfl .no Fx.fo77_5 (.u rfl) (ld rfl .no Fx.ag45 (.u rfl) (fun _=>(hbw.rd (wd_x)).rd) ?_)))))
 refine pe rfl .no Fx.pt45 (.u rfl) (.u rfl) ?_
 refine aS rfl rfl (.nil (.code (.cond rfl (fun c7=>?_) (fun c7=>?_))))
 ·have c7k:=c7
  exact Bool.noConfusion (id c7:false=true)
 have c7k:=c7
 try simp only [qcA,qcC,qcB] at c7
 refine .seq (rq4 rfl rfl (mV rfl rfl (lA rfl .no Fx.ag27 (.u rfl) (fun _=>RdN.part (n:=11) (cs':=EvD.cells eGt vo vk vb) tk1 (rfl)) (fun _=>rfl) (ka rfl (.inr rfl) Fx.go34 (Evc rfl (Evc rfl Evn)) (mtk3 tk2 tk2 tk2) (askG_ok bw bg bq bd bt held bn bb cap sz root o nn _ hbw vo vk vb ho hk9 hb9) ?_))))
 rintro _ G12 μ12 hG12 ⟨rfl,rfl⟩
 refine sw rfl (.u rfl) (.u rfl) rfl Fx.sz43 tk3 rfl (Rep.one _ rfl rfl) ?_
 refine .nil (.code (.ret (We.fin Tryz.results10 (.cell rfl (fun w hw=>run_loadVarN Fx.ag43 (RdN.own .here) (rfl) hw) .nil) (mS tk1 rfl (mS tk1 rfl (mS tk1 rfl mN))) ?_)))
 exact ⟨rfl,rfl⟩
end Go.Proofs.YtoifkgkandfeiaaGreatDoor
