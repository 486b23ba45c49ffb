/- Lemmas and contracts of functions, joined. -/
import Derived.Test.YtdeobooblmjlfaaDoorMb5
import Derived.Test.YtdeobooblmjlfaaDoorCards
import Derived.Test.YtdeobooblmjlfaaDoorTie
import Derived.OpenShut
import Derived.Deep.DeepHandedRow
import Derived.Deep.CondSized
import Derived.JoinedCond
set_option linter.unusedSimpArgs false
set_option linter.unusedVariables false
set_option linter.unusedSectionVars false
namespace Go.Proofs.YtdeobooblmjlfaaDoor
open Go.Tan Go.RowKit
namespace Fx
theorem go48:goFn Tryd.prog 48=true:=by kernel_rfl
theorem fo49_2:fOff Tryd.prog 49 2=some 19:=by kernel_rfl
theorem fo49_1:fOff Tryd.prog 49 1=some 5:=by kernel_rfl
theorem baT34:baT Tryd.prog 34 32=true:=by kernel_rfl
theorem fo49_3:fOff Tryd.prog 49 3=some 20:=by kernel_rfl
end Fx
set_option maxHeartbeats 2000000 in
theorem step_ok (h:Hd) (S:State) (hS:Nat→Sh) (m:Mn) (used:Int) (torn:Bool) (bm:Nat) (p:List Y) (hp:Sh) (G:PM) (hs:SlR G 1 encY hp p) (hSR:StR G S hS) (hM:MnR S m) (hl:p.length≤100000000) (hmn:m.n≤1000000000) (hK:RdNP G 1 0 (wa 64 kW)):Ct Tryd.prog 25 ([.pointer (some ⟨bm,0,none⟩),hp.val p.length]:List Value).toArray G [.blk bm (cl (maniC h S hS m.mark (m.n:Int) used torn) 49)] (fun G' μ' u=>(stepM m p=none∧μ'=[]∧u=.bool false)∨∃ m' X hX,stepM m p=some m'∧MnR X m'∧m'.n=m.n+1∧μ'=[.blk bm (cl (maniC h X hX m'.mark (m'.n:Int) used torn) 49)]∧u=.bool true∧StR G' X hX):=by
 refine Ct.of Tryd.func25 rfl Tryd.ntmps25 rfl fun w0 hs0=>?_
 refine .seq (Wk.rg [0] rfl rfl (asg rfl .no (.u rfl) (.nil (.code (.seq (.seq (Wk.rg [0,1,2] rfl rfl (mv rfl .no (.u rfl) (ln rfl .no Fx.sn42 (.u rfl) (cp rfl .no (.u rfl) (.u rfl) rfl (.nil (.code (.cond rfl (fun c1=>?_) (fun c1=>?_))))))))))))))
 ·have c1k:=c1
  try simp only [qcA,qcC,qcB] at c1
  refine .seq (Wk.rg [0] rfl rfl (asg rfl .no (.u rfl) (.nil (.code (.ret (We.fin0 Tryd.results25 (.tmp rfl .nil) ?_))))))
  exact .inl ⟨st_short (by omega),rfl,rfl⟩
 have c1k:=c1
 try simp only [qcA,qcC,qcB] at c1
 refine .skip (.code (.seq (Wk.rg [0,1,2] rfl rfl (mv rfl .no (.u rfl) (kc rfl Fx.go46 (Evc rfl Evn) (wcNew_ok p hp _ hs (by omega)) ?_)))))
 rintro _ G14 μ14 hG14 ⟨b14,s14,rfl,rfl,hs14⟩
 have hs:=hs.mono hG14
 have hSR:=hSR.mono hG14
 have hK:=hK.mono hG14
 refine asg rfl .no (.u rfl) (.nil (.code (.seq (Wk.rg [0,1,2] rfl rfl (mv rfl .no (.u rfl) (ka rfl (.inr rfl) Fx.go47 (Evc rfl (Evc rfl Evn)) (mtk1 .here) (rdFix_ok p s14 _ _ hs14 (by omega) (by omega)) ?_))))))
 rintro _ G16 μ16 hG16 ⟨s16,rfl,rfl,hs16⟩
 have hs:=hs.mono hG16
 have hSR:=hSR.mono hG16
 have hK:=hK.mono hG16
 refine asg rfl .no (.u rfl) (.nil (.code (.seq (Wk.rg [0,1,2,3,4,5,6,7,8] rfl rfl (mv rfl .no (.u rfl) (kD (40) rfl .no Fx.se42 hs (.u rfl) (.u rfl) (fun _=>by omega) (fun _=>by omega) ?_))))))
 intro h19 L19 eL19 lL19 hs19
 have lL19:=lL19 rfl
 refine kc rfl Fx.go48 (Evc rfl Evn) (decode_ok L19 h19 _ hs19 (by omega)) ?_
 rintro _ G20 μ20 hG20 ⟨e20,er20,ha20,hd20,hD20,rfl,rfl,hE20⟩
 have hs:=hs.mono hG20
 have hSR:=hSR.mono hG20
 have hK:=hK.mono hG20
 refine mv rfl .no (.u rfl) (ex rfl .no (.u rfl) rfl (ex rfl .no (.u rfl) rfl ?_))
 refine al rfl Fx.zq32 ?_; intro b7
 refine sw rfl (.u rfl) (.u rfl) rfl Fx.sz32 .here (by first|exact qE|exact qL|rfl) (Edit.one') ?_
 refine asg rfl .no (.u rfl) (.nil ?_)
 rw [eL19] at hD20
 refine .code (.seq (.seq (Wk.rg [0,1,2,3,4,5,6,7,8,9] rfl rfl (mv rfl .no (.u rfl) (cp rfl .no (.u rfl) (.u rfl) rfl (mv rfl .no (.u rfl) (mv rfl (.f rfl rfl) (.u rfl) (mv rfl (.f rfl rfl) (.u rfl) (nc rfl (.f rfl rfl) (.s rfl) (fz rfl (.f rfl rfl) Fx.fo49_2 (.s rfl) (ld rfl (.f rfl rfl) Fx.ag24 (.s rfl) (fun hc=>Rd.own (.there (.there .here)) rfl) ?_)))))))))))
 refine cp rfl (.f rfl rfl) (.s rfl) (.s rfl) rfl (pkO rfl .no (.u rfl) (.s rfl) (.nil (.code (.cond rfl (fun c2=>?_) (fun c2=>?_)))))
 ·have c2k:=c2
  try simp only [qcA,qcC,qcB] at c2
  refine .seq (Wk.rg [0] rfl rfl (asg rfl .no (.u rfl) (.nil (.code (.ret (We.fin0 Tryd.results25 (.tmp rfl .nil) ?_))))))
  exact .inl ⟨step_c2 (by omega) hD20 (c2.imp id leU.1),rfl,rfl⟩
 have c2k:=c2
 try simp only [qcA,qcC,qcB] at c2
 refine .skip (.code (.seq (Wk.draw (mc:=⟨false,false⟩) [0,1,2,3,4,5,6,7,8,9,10,11] Fx.mix (by kernel_rfl) ?_)))
 refine mv rfl .no (.u rfl) (nc rfl .no (.u rfl) (fz rfl .no Fx.fo49_1 (.u rfl) (lA rfl .no Fx.ag27 (.u rfl) (fun _=>RdN.part (n:=14) (cs':=S.cells hS) (.there (.there .here)) (mani_st)) (fun _=>(by first|exact qE|exact qL|rfl)) ?_)))
 refine lA rfl .no Fx.ag32 (.u rfl) (fun _=>RdN.own .here) (fun _=>(by first|exact qE|exact qL|rfl)) ?_
 refine kc rfl Fx.go29 (Evc rfl (Evc rfl Evn)) (apply_ok S hS e20 ha20 hd20 _ hSR hE20) ?_
 rintro _ G39 μ39 hG39 ⟨X39,hX39,er39,hA39,rfl,rfl,hR39⟩
 have hs:=hs.mono hG39
 have hK:=hK.mono hG39
 have hE20:=hE20.mono hG39
 refine mv rfl .no (.u rfl) (ex rfl .no (.u rfl) rfl (ex rfl .no (.u rfl) rfl ?_))
 refine al rfl Fx.zq27 ?_; intro b9
 refine sw rfl (.u rfl) (.u rfl) rfl Fx.sz27 .here (by first|exact qE|exact qL|rfl) (State.one') ?_
 refine asg rfl .no (.u rfl) (.nil (.code (.seq (.seq (Wk.draw (mc:=⟨false,false⟩) [0,1,2,3,5,6,7,8,4,9,10] Fx.mix (by kernel_rfl) ?_)))))
 refine mv rfl .no (.u rfl) (cp rfl .no (.u rfl) (.u rfl) rfl (mv rfl .no (.u rfl) (lA rfl (.f rfl rfl) Fx.ag27 (.u rfl) (fun _=>RdN.own .here) (fun _=>(by first|exact qE|exact qL|rfl)) ?_)))
 refine mv rfl (.f rfl rfl) (.u rfl) (kS (8) (40) rfl (.f rfl rfl) Fx.se42 hs (.s rfl) (.u rfl) (.u rfl) (fun hc=>by omega) (fun hc=>by omega) (fun hc=>by omega) (fun hc=>by omega) ?_)
 intro h48 L48 eL48 lL48 hs48
 have lL48:L48.length=32:=by rw [eL48,List.length_take,List.length_drop]; omega
 refine spS rfl (.f rfl rfl) Fx.ar34 hs48 (.s rfl) (fun hc=>by omega) (by decide) ?_
 refine lA rfl (.f rfl rfl) Fx.ag34 (.s rfl) (fun hc=>(hs48.arr (m:=32) (by omega)).rd) (fun _=>ba_len _ _) ?_
 refine kv rfl (.f rfl rfl) Fx.go9 (Eva.cons (.s rfl) Evn) (fun hc=>mRoot_ok X39 hX39 _ hR39 (hA39.stN hE20.wf) hA39.stL hK) ?_
 refine nqB rfl (.f rfl rfl) Fx.baT34 (.s rfl) (.s rfl) ?_
 refine pkO rfl .no (.u rfl) (.s rfl) (.nil (.code (.cond rfl (fun c3=>?_) (fun c3=>?_))))
 ·have c3k:=c3
  try simp only [qcA,qcC,qcB] at c3
  refine .seq (Wk.rg [0] rfl rfl (asg rfl .no (.u rfl) (.nil (.code (.ret (We.fin0 Tryd.results25 (.tmp rfl .nil) ?_))))))
  exact .inl ⟨step_c3 hM (by omega) (dec_ok hD20 (by omega)) hA39 eL48 (by simpa using c3),rfl,rfl⟩
 have c3k:=c3
 try simp only [qcA,qcC,qcB] at c3
 refine .skip (.code (.seq (Wk.rg [0,1,2,3,4,5,6,7,8,9] rfl rfl (mv rfl .no (.u rfl) (mv rfl .no (.u rfl) (lA rfl .no Fx.ag27 (.u rfl) (fun _=>RdN.own .here) (fun _=>(by first|exact qE|exact qL|rfl)) ?_))))))
 refine mv rfl .no (.u rfl) (nc rfl .no (.u rfl) (fz rfl .no Fx.fo49_1 (.u rfl) (st rfl (.u rfl) (.u rfl) rfl Fx.sz27 (.there (.there (.there .here))) (by show 5+14≤23; decide) (State.one') ?_)))
 refine nc rfl .no (.u rfl) (fz rfl .no Fx.fo49_2 (.u rfl) (s1 rfl (.u rfl) (.u rfl) rfl Fx.sz24 .here (by show 19<23; decide) (rfl) ?_))
 refine .nil (.code (.seq (Wk.rg [0,1,2,3,4,5,6,7] rfl rfl (mv rfl .no (.u rfl) (nc rfl .no (.u rfl) (fz rfl .no Fx.fo49_3 (.u rfl) (ld rfl .no Fx.ag3 (.u rfl) (fun _=>Rd.own .here rfl) ?_)))))))
 refine arn (((m.n+1):Nat):Int) rfl .no (.u rfl) (.u rfl) rfl (fun _=>by omega) (fun _=>wrap_i64 (by omega) (by omega)) ?_
 refine nc rfl .no (.u rfl) (fz rfl .no Fx.fo49_3 (.u rfl) (s1 rfl (.u rfl) (.u rfl) rfl Fx.sz3 .here (by show 20<23; decide) (rfl) ?_))
 refine .nil (.code (.seq (Wk.rg [0] rfl rfl (asg rfl .no (.u rfl) (.nil (.code (.ret (We.fin Tryd.results25 (.tmp rfl .nil) (MSub.cons .here rfl MSub.nil) ?_))))))))
 obtain ⟨m2,q1,q2,q3,q4⟩:=step_c4 hM (by omega) (dec_ok hD20 (by omega)) (fun q=>absurd (leU.2 q) (Int.not_le.2 c2.2)) hA39 eL48 (by omega) (by simpa using c3.2)
 refine .inr ⟨m2,X39,hX39,q1,q2,q4,?_,rfl,hR39⟩
 rw [q3,q4]; rfl
namespace Fx
theorem zr49:zrL Tryd.prog 49=some ([.int .u8 0,.int .u8 0,.int .u64 0,.int .u64 0,.int .u64 0,.slice none 0 0,.slice none 0 0,.slice none 0 0,.slice none 0 0,.slice none 0 0,.int .u64 0,.int .u64 0,.int .u64 0,.int .u64 0,.int .u64 0,.int .u64 0,.int .u64 0,.int .u64 0,.int .u64 0,.int .u64 0,.int .i64 0,.int .i64 0,.bool false]):=by kernel_rfl
theorem go24:goFn Tryd.prog 24=true:=by kernel_rfl
theorem fo74_0:fOff Tryd.prog 74 0=some 0:=by kernel_rfl
theorem bp49_:bPl Tryd.prog 49 []=some ([.int .u8 0,.int .u8 0,.int .u64 0,.int .u64 0,.int .u64 0,.slice none 0 0,.slice none 0 0,.slice none 0 0,.slice none 0 0,.slice none 0 0,.int .u64 0,.int .u64 0,.int .u64 0,.int .u64 0,.int .u64 0,.int .u64 0,.int .u64 0,.int .u64 0,.int .u64 0,.int .u64 0,.int .i64 0,.int .i64 0,.bool false],[]):=by kernel_rfl
theorem sz49:szT Tryd.prog 49=some 23:=by kernel_rfl
theorem ag49:aggN Tryd.prog 49=some (some 23):=by kernel_rfl
theorem bp49_0_4_5:bPl Tryd.prog 49 [0,4,5]=some ([.int .u8 0,.int .u8 0,.int .u64 0,.int .u64 0,.int .u64 0,.slice none 0 0,.slice none 0 0,.slice none 0 0,.slice none 0 0,.slice none 0 0,.int .u64 0,.int .u64 0,.int .u64 0,.int .u64 0,.int .u64 0,.int .u64 0,.int .u64 0,.int .u64 0,.int .u64 0,.int .u64 0,.int .i64 0,.int .i64 0,.bool false],[(0,5),(21,1),(22,1)]):=by kernel_rfl
theorem go25:goFn Tryd.prog 25=true:=by kernel_rfl
end Fx
theorem step_no (h:Hd) (S:State) (hS:Nat→Sh) (m:Mn) (used:Int) (torn:Bool) (bm:Nat) (p:List Y) (hp:Sh) (G:PM) (hs:SlR G 1 encY hp p) (hSR:StR G S hS) (hM:MnR S m) (hl:p.length≤100000000) (hmn:m.n≤1000000000) (hK:RdNP G 1 0 (wa 64 kW)) (hq:stepM m p=none):Ct Tryd.prog 25 ([.pointer (some ⟨bm,0,none⟩),hp.val p.length]:List Value).toArray G [.blk bm (cl (maniC h S hS m.mark (m.n:Int) used torn) 49)] (fun _ μ' u=>μ'=[]∧u=.bool false) :=
 (step_ok h S hS m used torn bm p hp G hs hSR hM hl hmn hK).mono fun G' μ' u hh=>by
  rcases hh with ⟨_,h1,h2⟩ | ⟨m',X,hX,h1,_⟩
  ·exact ⟨h1,h2⟩
  ·rw [hq] at h1; cases h1
theorem step_yes (h:Hd) (S:State) (hS:Nat→Sh) (m:Mn) (used:Int) (torn:Bool) (bm:Nat) (p:List Y) (hp:Sh) (G:PM) (hs:SlR G 1 encY hp p) (hSR:StR G S hS) (hM:MnR S m) (hl:p.length≤100000000) (hmn:m.n≤1000000000) (hK:RdNP G 1 0 (wa 64 kW)) {m2:Mn} (hq:stepM m p=some m2):Ct Tryd.prog 25 ([.pointer (some ⟨bm,0,none⟩),hp.val p.length]:List Value).toArray G [.blk bm (cl (maniC h S hS m.mark (m.n:Int) used torn) 49)] (fun G' μ' u=>∃ X hX,MnR X m2∧m2.n=m.n+1∧μ'=[.blk bm (cl (maniC h X hX m2.mark (m2.n:Int) used torn) 49)]∧u=.bool true∧StR G' X hX) :=
 (step_ok h S hS m used torn bm p hp G hs hSR hM hl hmn hK).mono fun G' μ' u hh=>by
  rcases hh with ⟨h1,_⟩ | ⟨m',X,hX,h1,h2,h3,h4⟩
  ·rw [hq] at h1; cases h1
  ·rw [hq] at h1; cases h1; exact ⟨X,hX,h2,h3,h4⟩
theorem mRead_ok (root:Nat→Y) (xs:List Y) (hx:Sh) (G:PM) (hs:SlR G 1 encY hx xs) (hK:RdNP G 1 0 (wa 64 kW)) (hm:xs.length≤100000000):Ct Tryd.prog 12 ([.agg (ba 32 root).toArray,hx.val xs.length]:List Value).toArray G [] (fun G' μ' u=>(readM root xs=none∧μ'=[]∧u=.tuple #[.agg (maniC Hd.zero State.zero hd0 0#64 0 0 false).toArray,.int .i64 190])∨∃ v X hX,readM root xs=some v∧MnR X v.m∧μ'=[]∧u=.tuple #[.agg (maniC v.hd X hX v.m.mark (v.m.n:Int) (v.used:Int) v.torn).toArray,.int .i64 0]∧StR G' X hX):=by
 refine Ct.of Tryd.func12 rfl Tryd.ntmps12 rfl fun w0 hs0=>?_
 refine .seq (Wk.rg [0,1,2] rfl rfl ?_)
 refine bx rfl (.u rfl) rfl ?_; intro b2
 refine al rfl Fx.zr49 ?_; intro b4
 refine asg rfl .no (.u rfl) (.nil (.code (.seq (Wk.rg [0,1,2,3,4,5,6,7,8] rfl rfl (lA rfl .no Fx.ag34 (.u rfl) (fun _=>RdN.own (.there .here)) (fun _=>(by first|exact mani_len|rfl)) ?_)))))
 refine mv rfl .no (.u rfl) (kc rfl Fx.go24 (Evc rfl (Evc rfl Evn)) (wRead_ok root xs hx _ hs hK hm) ?_)
 rintro _ G14 μ14 hG14 ⟨s14,ps14,hp14,ep14,rfl,rfl⟩
 have hfw:=readP_few root xs
 rw [← ep14] at hfw
 have hfl:=hfw.2; rw [List.length_map] at hfl
 have hK:=hK.mono hG14
 refine mv rfl .no (.u rfl) (ex rfl .no (.u rfl) rfl (ex rfl .no (.u rfl) rfl ?_))
 refine al rfl Fx.zq74 ?_; intro b6
 refine sw rfl (.u rfl) (.u rfl) rfl Fx.sz74 .here (by first|exact mani_len|rfl) (one8 rfl rfl rfl rfl rfl rfl rfl rfl) ?_
 refine asg rfl .no (.u rfl) (.nil (.code (.seq (.seq (Wk.rg [0,1,2,3,4,5,6,7,8,9,10,11,12] rfl rfl (mv rfl .no (.u rfl) (cp rfl .no (.u rfl) (.u rfl) rfl (mv rfl .no (.u rfl) (mv rfl (.f rfl rfl) (.u rfl) (ln rfl (.f rfl rfl) Fx.sn42 (.s rfl) (cp rfl (.f rfl rfl) (.s rfl) (.u rfl) rfl (mv rfl (.f rfl rfl) (.s rfl) (fz rfl (.tc rfl rfl) Fx.fo74_0 (.u rfl) (fz rfl (.tc rfl rfl) Fx.fo38_0 (.s rfl) (ld rfl (.tc rfl rfl) Fx.ag5 (.s rfl) (fun hc=>Rd.own .here rfl) ?_)))))))))))))))
 refine cp rfl (.tc rfl rfl) (.s rfl) (.u rfl) rfl (pkA rfl (.f rfl rfl) (.s rfl) (.s rfl) (pkO rfl .no (.u rfl) (.s rfl) (.nil (.code (.cond rfl (fun c1=>?_) (fun c1=>?_))))))
 ·have c1k:=c1
  try simp only [qcA,qcC,qcB] at c1
  refine .seq (Wk.rg [0,1,2] rfl rfl (bCe (maniC Hd.zero State.zero hd0 0#64 0 0 false) rfl .no Fx.bp49_ .nil rfl (rfl) ?_))
  refine sw rfl (.u rfl) (.u rfl) rfl Fx.sz49 (.there .here) (by first|exact mani_len|rfl) (mani_one) ?_
  refine asg rfl .no (.u rfl) (.nil (.code (.ret (We.fin0 Tryd.results12 (.cell rfl (fun w hw=>run_loadVarN Fx.ag49 (RdN.own .here) (mani_len) hw) (.tmp rfl .nil)) ?_))))
  exact .inl ⟨readM_bad (c1.imp id (fun q=>⟨by omega,fun e=>q.2 (by rw [e]; rfl)⟩)),rfl,rfl⟩
 have c1k:=c1
 try simp only [qcA,qcC,qcB] at c1
 refine .skip (.code (.seq (Wk.rg [0,1,2,3,4,5,6,7,8] rfl rfl (fz rfl .no Fx.fo74_0 (.u rfl) (lA rfl .no Fx.ag38 (.u rfl) (fun _=>RdN.part (n:=5) (cs':=[V (readP root xs).1.hd.kind,V (readP root xs).1.hd.level,uv .u64 (readP root xs).1.hd.gen,uv .u64 (readP root xs).1.hd.epoch,uv .u64 (readP root xs).1.hd.num]) .here (rfl)) (fun _=>rfl) ?_)))))
 refine fz rfl .no Fx.fo74_2 (.u rfl) (ld rfl .no Fx.ag3 (.u rfl) (fun _=>Rd.own .here (by first|exact wap_f rfl|rfl)) ?_)
 refine fz rfl .no Fx.fo74_3 (.u rfl) (ld rfl .no Fx.ag4 (.u rfl) (fun _=>Rd.own .here (by first|exact wap_f rfl|rfl)) ?_)
 refine bCe (maniC (readP root xs).1.hd State.zero hd0 0#64 0 ((readP root xs).1.used:Int) (readP root xs).1.torn) rfl .no Fx.bp49_0_4_5 (.cons (.u rfl) rfl (.cons (.u rfl) rfl (.cons (.u rfl) rfl .nil))) rfl (rfl) ?_
 refine al rfl Fx.zr49 ?_; intro b8
 refine sw rfl (.u rfl) (.u rfl) rfl Fx.sz49 .here (by first|exact mani_len|rfl) (mani_one) ?_
 refine .nil (.code (.seq (.seq (Wk.rg [0,1,2,3] rfl rfl (fz rfl .no Fx.fo74_1 (.u rfl) (ld rfl .no Fx.ag72 (.u rfl) (fun _=>Rd.own (.there .here) rfl) ?_))))))
 refine ln rfl .no Fx.sn72 (.u rfl) (mv rfl .no (.u rfl) (.nil (.code (.block ?_))))
 refine Wk.lop (α:=Nat×Mn×State×(Nat→Sh)) (fun gh=>[(41,true,.int .i64 (gh.1:Int))]) (fun gh=>[.blk b8 (cl (maniC (readP root xs).1.hd gh.2.2.1 gh.2.2.2 gh.2.1.mark (gh.2.1.n:Int) ((readP root xs).1.used:Int) (readP root xs).1.torn) 49)])
  (fun gh Gl=>(gh.1≤ps14.length)∧(stepsM ((ps14.map (·.2)).take gh.1) Mn.zero=some gh.2.1)∧(MnR gh.2.2.1 gh.2.1)∧(gh.2.1.n=gh.1)∧(StR Gl gh.2.2.1 gh.2.2.2)) (fun gh=>ps14.length-gh.1) (0,Mn.zero,State.zero,hd0) [(4,true,_),(8,true,_),(39,true,_),(40,true,_)] [_,_,_]
  (ESub.cons rfl (by first|rfl|exact evi (by omega)) (ESub.c rfl (ESub.c rfl (ESub.c rfl (ESub.c rfl ESub.nil)))))
  (MSub.cons .here rfl (MSub.cons .here rfl (MSub.cons .here rfl (MSub.cons .here rfl MSub.nil)))) ?_ ?_
 ·refine ⟨?_,?_,?_,?_,?_⟩
  ·(try dsimp only)<;>(first|omega|rfl|assumption|(simp; done))
  ·(try dsimp only)<;>(rfl)
  ·(try dsimp only)<;>(exact MnR.zero)
  ·(try dsimp only)<;>(rfl)
  (try dsimp only)<;>(exact st_zero)
 intro gh N0 Gl0 hN0 hGl0 hF0
 obtain ⟨k,m,X,hX⟩:=gh; dsimp only at hF0 hN0 ⊢
 obtain ⟨hk,hq,hM,hmn,hXR⟩:=hF0
 have hK:=hK.mono hGl0
 have hp14:=hp14.mono hGl0
 refine .seq (Wk.rg [0] rfl rfl (cp rfl .no (.u rfl) (.u rfl) rfl (.nil (.code (.seq (.cond rfl (fun c2=>?_) (fun c2=>?_)))))))
 ·have c2k:=c2
  try simp only [qcA,qcC,qcB] at c2
  refine .skip (.code (.seq (.block (.seq (Wk.rg [0,1,2] rfl rfl (ih rfl .no Fx.se72 (.u rfl) (.u rfl) (fun _=>by omega) (fun _=>by omega) (fun _=>hp14.sl.nn (k:=k) (by omega)) ?_))))))
  obtain ⟨p44,ep44⟩:=getx (k:=k) (xs:=ps14) (by omega)
  have hq44:=hp14.get ep44
  refine ld rfl .no Fx.ag42 (.u rfl) (fun _=>(hp14.at (k) (by omega) ep44).rd) ?_
  refine asg rfl .no (.u rfl) (.nil (.code (.seq ?_)))
  rcases hst:stepM m p44.2 with _ | m2
  ·have hlp:=hfw.1 p44.2 (List.mem_of_getElem? (map_at ep44))
   refine Wk.rg [0,1,2] rfl rfl (mv rfl .no (.u rfl) (ka rfl (.inr rfl) Fx.go25 (Evc rfl (Evc rfl Evn)) (mtk1 .here) (step_no (readP root xs).1.hd X hX m (((readP root xs).1.used:Nat):Int) (readP root xs).1.torn b8 p44.2 p44.1 _ hq44 hXR hM (by omega) (by omega) hK hst) ?_))
   rintro _ G46 μ46 hG46 ⟨rfl,rfl⟩
   have hK:=hK.mono hG46
   have hXR:=hXR.mono hG46
   have hq44:=hq44.mono hG46
   refine nt rfl .no (.u rfl) (.nil (.code (Wk.condT rfl rfl ?_)))
   refine .seq (Wk.rg [0,1,2] rfl rfl (bCe (maniC Hd.zero State.zero hd0 0#64 0 0 false) rfl .no Fx.bp49_ .nil rfl (rfl) ?_))
   refine sw rfl (.u rfl) (.u rfl) rfl Fx.sz49 (.there .here) (by first|exact mani_len|rfl) (mani_one) ?_
   refine asg rfl .no (.u rfl) (.nil (.code (.ret (We.fin0 Tryd.results12 (.cell rfl (fun w hw=>run_loadVarN Fx.ag49 (RdN.own .here) (mani_len) hw) (.tmp rfl .nil)) ?_))))
   exact .inl ⟨readM_no (by rw [← ep14]; exact stepsM_none (k:=k+1) (by rw [stepsM_take (map_at ep44),hq]; exact hst)),rfl,rfl⟩
  have hlp:=hfw.1 p44.2 (List.mem_of_getElem? (map_at ep44))
  refine Wk.rg [0,1,2] rfl rfl (mv rfl .no (.u rfl) (ka rfl (.inr rfl) Fx.go25 (Evc rfl (Evc rfl Evn)) (mtk1 .here) (step_yes (readP root xs).1.hd X hX m (((readP root xs).1.used:Nat):Int) (readP root xs).1.torn b8 p44.2 p44.1 _ hq44 hXR hM (by omega) (by omega) hK hst) ?_))
  rintro _ G46 μ46 hG46 ⟨X2,hX2,hM2,hn2,rfl,rfl,hR2⟩
  have hXR:=hXR.mono hG46
  refine nt rfl .no (.u rfl) (.nil (.code (Wk.condF rfl rfl ?_)))
  refine .skip (.blk (.code (Wk.rg [0,1] rfl rfl (arn (((k+1):Nat):Int) rfl .no (.u rfl) (.u rfl) rfl (fun _=>by omega) (fun _=>wrap_i64 (by omega) (by omega)) ?_))))
  refine mv rfl .no (.u rfl) (.nil (We.lpo (k+1,m2,X2,hX2) ?_ ?_ ?_ ?_ ?_))
  ·exact (ESub.cons rfl (by first|rfl|exact evi (by omega)) (ESub.c rfl (ESub.c rfl (ESub.c rfl (ESub.c rfl ESub.nil)))))
  ·exact (MSub.cons .here rfl (MSub.cons .here rfl (MSub.cons .here rfl (MSub.cons .here rfl MSub.nil))))
  ·first|omega|(dsimp only; omega)
  ·exact (hGl0).trans hG46
  refine ⟨?_,?_,?_,?_,?_⟩
  ·(try dsimp only)<;>(first|omega|rfl|assumption|(simp; done))
  ·(try dsimp only)<;>(rw [stepsM_take (map_at ep44),hq]; exact hst)
  ·(try dsimp only)<;>(exact hM2)
  ·(try dsimp only)<;>(omega)
  (try dsimp only)<;>(exact hR2)
 have c2k:=c2
 try simp only [qcA,qcC,qcB] at c2
 refine .exit (.xcode (.xlp (.xblk (.code (.seq (Wk.rg [0,1,2] rfl rfl (lA rfl .no Fx.ag49 (.u rfl) (fun _=>RdN.own .here) (fun _=>(by first|exact mani_len|rfl)) ?_)))))))
 refine sw rfl (.u rfl) (.u rfl) rfl Fx.sz49 (.there (.there .here)) (by first|exact mani_len|rfl) (mani_one) ?_
 refine asg rfl .no (.u rfl) (.nil (.code (.ret (We.fin0 Tryd.results12 (.cell rfl (fun w hw=>run_loadVarN Fx.ag49 (RdN.own .here) (mani_len) hw) (.tmp rfl .nil)) ?_))))
 obtain rfl:k=ps14.length:=by omega
 rw [List.take_of_length_le (by rw [List.length_map]; exact Nat.le_refl _),ep14] at hq
 exact .inr ⟨_,X,hX,readM_yes (fun q=>by rcases q with q | q; (exact q c1.1); (rcases c1.2 with c | c; (omega); (exact q.2 (BitVec.eq_of_toNat_eq (by have:((readP root xs).1.hd.kind.toNat:Int)=3:=c; show _=3; omega))))) hq,hM,rfl,rfl,hXR⟩
end Go.Proofs.YtdeobooblmjlfaaDoor
namespace Go.Tan
open Go.RowKit
structure MAct where
 mark:BitVec 64
 e:Edit
 ha:Sh
 he:Sh
def MAct.cells (a:MAct):List Value:=uv .u64 a.mark :: a.e.cells a.ha a.he
theorem MAct.len (a:MAct):a.cells.length=12:=rfl
structure ActR (G:PM) (h:Sh) (l:List MAct):Prop where
 sl:SlR G 12 MAct.cells h l
 all:∀ a∈l,EdR G a.e a.ha a.he∧a.e.canon=a.e∧∀ m∈a.e.add,m.min.size+m.max.size≤4194304000
theorem ActR.mono {G G':PM} {h:Sh} {l:List MAct} (k:ActR G h l) (hle:PM.le G G'):ActR G' h l:=⟨k.sl.mono hle,fun a ha=>⟨(k.all a ha).1.mono hle,(k.all a ha).2⟩⟩
theorem RdNP.hd {G:PM} {b o:Nat} {v:Value} {cs:List Value} (h:RdNP G b o (v :: cs)):RdP G ⟨b,o+0,none⟩ v:=h 0 v rfl
structure AllSt (G:PM) (l:List (State×(Nat→Sh))):Prop where
 all:∀ p∈l,StR G p.1 p.2∧∀ i,i<5→u64 (p.1.gens i)
theorem AllSt.mono {G G':PM} {l:List (State×(Nat→Sh))} (h:AllSt G l) (hle:PM.le G G'):AllSt G' l:=⟨fun p hp=>⟨(h.all p hp).1.mono hle,(h.all p hp).2⟩⟩
theorem AllSt.nil {G:PM}:AllSt G []:=⟨fun p hp=>absurd hp List.not_mem_nil⟩
theorem AllSt.snoc {G:PM} {l:List (State×(Nat→Sh))} {s:State} {hd:Nat→Sh} (h:AllSt G l) (hs:StR G s hd) (hg:∀ i,i<5→u64 (s.gens i)):AllSt G (l++[(s,hd)]):=⟨fun p hp=>by
 rcases List.mem_append.1 hp with hp | hp
 ·exact h.all p hp
 ·rw [List.mem_singleton.1 hp]; exact ⟨hs,hg⟩⟩
theorem metas_lb:∀ {l:List Meta},(∀ m∈l,m.wf)→(∀ m∈l,m.min.size+m.max.size≤4194304000)→(l.flatMap encM).length≤l.length*4194304112
 | [],_,_=>by simp
 | m :: l,h,hq=>by
  have h1:=encM_len (h m (List.mem_cons_self ..))
  have h2:=hq m (List.mem_cons_self ..)
  have h3:=metas_lb (fun x hx=>h x (List.mem_cons_of_mem _ hx)) (fun x hx=>hq x (List.mem_cons_of_mem _ hx))
  rw [List.flatMap_cons,List.length_append,List.length_cons,Nat.succ_mul]; omega
theorem light_add {s:State} {e:Edit} (h:lightP s e=true) (hq:∀ m∈e.add,m.min.size+m.max.size≤4194304000) (hw:e.wf):tot s 5≤200∧e.add.length≤200∧e.drop.length≤200∧(e.add.flatMap encM).length≤900000000000:=by
 unfold lightP at h
 simp only [Bool.and_eq_true,decide_eq_true_eq] at h
 have h1:=metas_lb hw.add hq
 have h2:e.add.length*4194304112≤200*4194304112:=Nat.mul_le_mul_right _ (by omega)
 exact ⟨h.1,by omega,by omega,by omega⟩
theorem readM_back {root:Nat→Y} {h:Hd} {R:List (List Y)} {m:Mn} (hk:h.kind=3#8) (hr:h.right=true) (hs:stepsM R Mn.zero=some m):readM root (logL root h R)=some ⟨h,m,(logL root h R).length,false⟩:=by
 have e:=log_back (root:=root) (h:=h) R hr
 have:=readM_yes (root:=root) (xs:=logL root h R) (m:=m) (by rw [e]; rintro (q | q); (exact q rfl); (exact q.2 hk)) (by rw [e]; exact hs)
 rw [e] at this; exact this
theorem readM_kind {root:Nat→Y} {h:Hd} {R:List (List Y)} (hk:h.kind≠3#8∨h.right=false):readM root (logL root h R)=none:=by
 by_cases hr:h.right=true
 ·have e:=log_back (root:=root) (h:=h) R hr
  refine readM_bad (.inr ⟨?_,by rw [e]; exact hk.resolve_right (by simp [hr])⟩)
  rw [logL,List.length_append,head_len]; omega
 exact readM_bad (.inl (by rw [log_wrong R (by simpa using hr)]; decide))
theorem readM_nil {root:Nat→Y}:readM root []=some ⟨Hd.zero,Mn.zero,0,true⟩:=by
 have e:readP root []=(⟨Hd.zero,[],0,true⟩,0):=read_short (by decide)
 have:=readM_yes (root:=root) (xs:=[]) (m:=Mn.zero) (by rw [e]; rintro (q | q); (exact q rfl); (exact absurd q.1 (by decide))) (by rw [e]; rfl)
 rw [e] at this; exact this
theorem readM_head {root:Nat→Y} {h:Hd} (hk:h.kind=3#8) (hr:h.right=true):readM root (headL h)=some ⟨h,Mn.zero,30,false⟩:=by
 have:=readM_back (root:=root) (R:=[]) hk hr rfl
 have e:logL root h []=headL h:=by simp [logL,bodyL]
 rw [e,head_len] at this; exact this
theorem readM_other {root:Nat→Y} {h:Hd} (hk:h.kind≠3#8):readM root (headL h)=none:=by
 have:=readM_kind (root:=root) (h:=h) (R:=[]) (.inl hk)
 have e:logL root h []=headL h:=by simp [logL,bodyL]
 rw [e] at this; exact this
end Go.Tan
namespace Go.Proofs.YtdeobooblmjlfaaDoor
open Go.Tan Go.RowKit
namespace Fx
theorem bp34_:bPl Tryd.prog 34 []=some (ba 32 (fun _=>0#8),[]):=by kernel_rfl
theorem go12:goFn Tryd.prog 12=true:=by kernel_rfl
theorem bp38_0:bPl Tryd.prog 38 [0]=some ([V 0#8,V 0#8,uv .u64 0#64,uv .u64 0#64,uv .u64 0#64],[(0,1)]):=by kernel_rfl
theorem fo49_5:fOff Tryd.prog 49 5=some 22:=by kernel_rfl
theorem fo49_4:fOff Tryd.prog 49 4=some 21:=by kernel_rfl
theorem go8:goFn Tryd.prog 8=true:=by kernel_rfl
end Fx
theorem mRead_v (root:Nat→Y) (xs:List Y) (hx:Sh) (G:PM) (hs:SlR G 1 encY hx xs) (hK:RdNP G 1 0 (wa 64 kW)) (hm:xs.length≤100000000) {v:ManV} (hv:readM root xs=some v):Ct Tryd.prog 12 ([.agg (ba 32 root).toArray,hx.val xs.length]:List Value).toArray G [] (fun G' μ' u=>∃ X hX,MnR X v.m∧μ'=[]∧u=.tuple #[.agg (maniC v.hd X hX v.m.mark (v.m.n:Int) (v.used:Int) v.torn).toArray,.int .i64 0]∧StR G' X hX) :=
 (mRead_ok root xs hx G hs hK hm).mono fun G' μ' u hh=>by
  rcases hh with ⟨h1,_⟩ | ⟨w,X,hX,h1,h2⟩
  ·rw [hv] at h1; cases h1
  ·rw [hv] at h1; cases h1; exact ⟨X,hX,h2⟩
theorem mRead_n (root:Nat→Y) (xs:List Y) (hx:Sh) (G:PM) (hs:SlR G 1 encY hx xs) (hK:RdNP G 1 0 (wa 64 kW)) (hm:xs.length≤100000000) (hv:readM root xs=none):Ct Tryd.prog 12 ([.agg (ba 32 root).toArray,hx.val xs.length]:List Value).toArray G [] (fun _ μ' u=>μ'=[]∧u=.tuple #[.agg (maniC Hd.zero State.zero hd0 0#64 0 0 false).toArray,.int .i64 190]) :=
 (mRead_ok root xs hx G hs hK hm).mono fun G' μ' u hh=>by
  rcases hh with ⟨_,h2⟩ | ⟨w,X,hX,h1,h2⟩
  ·exact h2
  ·rw [hv] at h1; cases h1
theorem shown19_ok (G:PM) (hK:RdNP G 1 0 (wa 64 kW)):Ct Tryd.prog 7 ([]:List Value).toArray G [] (fun _ μ' u=>μ'=[]∧u=.bool true):=by
 refine Ct.of Tryd.func7 rfl Tryd.ntmps7 rfl fun w0 hs0=>?_
 refine .seq (Wk.rg [0] rfl rfl (asg rfl .no (.u rfl) (.nil (.code (.seq (Wk.rg [0,1,2,3,4,5,6,7] rfl rfl (bCe (ba 32 zF) rfl .no Fx.bp34_ .nil rfl (rfl) ?_)))))))
 refine kc rfl Fx.go12 (Evc rfl (Evc rfl Evn)) (mRead_v zF [] ⟨none,0⟩ _ SlR.nul hK (by simp) readM_nil) ?_
 rintro _ G9 μ9 hG9 ⟨X9,hX9,hM9,rfl,rfl,hR9⟩
 have hK:=hK.mono hG9
 refine mv rfl .no (.u rfl) (ex rfl .no (.u rfl) rfl (ex rfl .no (.u rfl) rfl ?_))
 refine al rfl Fx.zr49 ?_; intro b1
 refine sw rfl (.u rfl) (.u rfl) rfl Fx.sz49 .here (by first|exact mani_len|rfl) (mani_one) ?_
 refine asg rfl .no (.u rfl) (.nil (.code (.seq (Wk.rg [0,1,2,3,4,5,6,7,8,9] rfl rfl (bCe (ba 32 zF) rfl .no Fx.bp34_ .nil rfl (rfl) ?_)))))
 refine bCe ([V 1#8,V 0#8,uv .u64 0#64,uv .u64 0#64,uv .u64 0#64]) rfl .no Fx.bp38_0 (.cons (.u rfl) rfl .nil) rfl (rfl) ?_
 refine kc rfl Fx.go17 (Evc rfl Evn) (Ct.frzB (nLay_ok ⟨1#8,0#8,0#64,0#64,0#64⟩ _)) ?_
 rintro _ G15 μ15 hG15 ⟨h15,L15,eL15,rfl,rfl,hs15⟩
 have hK:=hK.mono hG15
 refine kc rfl Fx.go12 (Evc rfl (Evc rfl Evn)) (mRead_n zF L15 h15 _ hs15 hK (by rw [eL15,head_len]; decide) (by rw [eL15]; exact readM_other (by decide))) ?_
 rintro _ G16 μ16 hG16 ⟨rfl,rfl⟩
 have hK:=hK.mono hG16
 refine mv rfl .no (.u rfl) (ex rfl .no (.u rfl) rfl (ex rfl .no (.u rfl) rfl ?_))
 refine al rfl Fx.zr49 ?_; intro b3
 refine sw rfl (.u rfl) (.u rfl) rfl Fx.sz49 .here (by first|exact mani_len|rfl) (mani_one) ?_
 refine asg rfl .no (.u rfl) (.nil (.code (.seq (Wk.rg [0,1,2,3,4,5,6,7,8,9] rfl rfl (bCe (ba 32 zF) rfl .no Fx.bp34_ .nil rfl (rfl) ?_)))))
 refine bCe ([V 3#8,V 0#8,uv .u64 0#64,uv .u64 0#64,uv .u64 0#64]) rfl .no Fx.bp38_0 (.cons (.u rfl) rfl .nil) rfl (rfl) ?_
 refine kc rfl Fx.go17 (Evc rfl Evn) (Ct.frzB (nLay_ok ⟨3#8,0#8,0#64,0#64,0#64⟩ _)) ?_
 rintro _ G22 μ22 hG22 ⟨h22,L22,eL22,rfl,rfl,hs22⟩
 have hK:=hK.mono hG22
 refine kc rfl Fx.go12 (Evc rfl (Evc rfl Evn)) (mRead_v zF L22 h22 _ hs22 hK (by rw [eL22,head_len]; decide) (by rw [eL22]; exact readM_head rfl rfl)) ?_
 rintro _ G23 μ23 hG23 ⟨X23,hX23,hM23,rfl,rfl,hR23⟩
 refine mv rfl .no (.u rfl) (ex rfl .no (.u rfl) rfl (ex rfl .no (.u rfl) rfl ?_))
 refine al rfl Fx.zr49 ?_; intro b5
 refine sw rfl (.u rfl) (.u rfl) rfl Fx.sz49 .here (by first|exact mani_len|rfl) (mani_one) ?_
 refine asg rfl .no (.u rfl) (.nil (.code (.seq (Wk.rg [0,1,2,3,4,5,6,7,8,9,10,11,12,13,14,15,16,17,18,19,20,21,22,23,24,25,26,27,28,29] rfl rfl (mv rfl .no (.u rfl) (cp rfl .no (.u rfl) (.u rfl) rfl (mv rfl .no (.u rfl) (fz rfl (.t rfl rfl) Fx.fo49_5 (.u rfl) (ld rfl (.t rfl rfl) Fx.ag4 (.s rfl) (fun hc=>Rd.own (.there (.there .here)) (by first|exact wap_f rfl|rfl)) ?_)))))))))
 refine pkA rfl .no (.u rfl) (.s rfl) (mv rfl .no (.u rfl) (fz rfl (.t rfl rfl) Fx.fo49_4 (.u rfl) (ld rfl (.t rfl rfl) Fx.ag3 (.s rfl) (fun hc=>Rd.own (.there (.there .here)) (by first|exact wap_f rfl|rfl)) ?_)))
 refine cp rfl (.t rfl rfl) (.s rfl) (.u rfl) rfl (pkA rfl .no (.u rfl) (.s rfl) (mv rfl .no (.u rfl) (mv rfl (.t rfl rfl) (.u rfl) (cp rfl (.t rfl rfl) (.s rfl) (.u rfl) rfl (pkA rfl .no (.u rfl) (.s rfl) (mv rfl .no (.u rfl) (mv rfl (.t rfl rfl) (.u rfl) (cp rfl (.t rfl rfl) (.s rfl) (.u rfl) rfl (pkA rfl .no (.u rfl) (.s rfl) (mv rfl .no (.u rfl) (fz rfl (.t rfl rfl) Fx.fo49_3 (.u rfl) (ld rfl (.t rfl rfl) Fx.ag3 (.s rfl) (fun hc=>Rd.own .here (by first|exact wap_f rfl|rfl)) ?_))))))))))))
 refine cp rfl (.t rfl rfl) (.s rfl) (.u rfl) rfl (pkA rfl .no (.u rfl) (.s rfl) (mv rfl .no (.u rfl) (fz rfl (.t rfl rfl) Fx.fo49_5 (.u rfl) (ld rfl (.t rfl rfl) Fx.ag4 (.s rfl) (fun hc=>Rd.own .here (by first|exact wap_f rfl|rfl)) ?_))))
 refine nt rfl (.t rfl rfl) (.s rfl) (pkA rfl .no (.u rfl) (.s rfl) (asg rfl .no (.u rfl) (.nil (.code (.ret (We.fin0 Tryd.results7 (.tmp rfl .nil) ?_))))))
 exact ⟨rfl,rfl⟩
set_option maxRecDepth 100000
namespace FxManOa
theorem co67:Tryd.prog.cellsOf 67=40:=by kernel_rfl
theorem co5:Tryd.prog.cellsOf 5=1:=by kernel_rfl
theorem co24:Tryd.prog.cellsOf 24=1:=by kernel_rfl
theorem co3:Tryd.prog.cellsOf 3=1:=by kernel_rfl
theorem co9:Tryd.prog.cellsOf 9=1:=by kernel_rfl
theorem co34:Tryd.prog.cellsOf 34=32:=by kernel_rfl
theorem co27:Tryd.prog.cellsOf 27=14:=by kernel_rfl
theorem co25:Tryd.prog.cellsOf 25=5:=by kernel_rfl
theorem co23:Tryd.prog.cellsOf 23=5:=by kernel_rfl
theorem co22:Tryd.prog.cellsOf 22=1:=by kernel_rfl
end FxManOa
namespace Fx
theorem by67:Tryd.prog.bytesOf 67=112:=by kernel_rfl
theorem co125:Tryd.prog.cellsOf 125=1:=by kernel_rfl
theorem co163:Tryd.prog.cellsOf 163=64:=by kernel_rfl
end Fx
section
variable {H:Type} {R:Nat} {enc:TypeId×Value→H} {W:World} {cs:List Value}
def mQ (R:Nat) (m:Meta):Prop:=m.wf∧m.min.size≤R∧m.max.size≤R
theorem meta_of (hR:R≤140737488351232) (h:Rg R enc Tryd.prog W 67 cs):∃ m:Meta,cs=m.cells∧mQ R m:=by
 have hl:=h.len Tryd.underlying67
 rw [FxManOa.co67] at hl
 obtain ⟨n0,h0,w0⟩:=h.intAt Tryd.underlying67 0 5 0 rfl Tryd.underlying5 FxManOa.co5
 obtain ⟨n1,h1,w1⟩:=h.intAt Tryd.underlying67 1 24 1 rfl Tryd.underlying24 FxManOa.co24
 obtain ⟨n2,h2,w2⟩:=h.intAt Tryd.underlying67 2 24 2 rfl Tryd.underlying24 FxManOa.co24
 obtain ⟨n3,h3,w3⟩:=h.intAt Tryd.underlying67 3 24 3 rfl Tryd.underlying24 FxManOa.co24
 obtain ⟨n4,h4,w4⟩:=h.intAt Tryd.underlying67 4 3 4 rfl Tryd.underlying3 FxManOa.co3
 obtain ⟨n5,h5,w5⟩:=h.intAt Tryd.underlying67 5 3 5 rfl Tryd.underlying3 FxManOa.co3
 obtain ⟨s6,h6,w6⟩:=h.strAt Tryd.underlying67 6 9 6 rfl Tryd.underlying9 FxManOa.co9
 obtain ⟨s7,h7,w7⟩:=h.strAt Tryd.underlying67 7 9 7 rfl Tryd.underlying9 FxManOa.co9
 obtain ⟨r,hr⟩:=(h.fld Tryd.underlying67 8 34 8 rfl FxManOa.co34).ints Tryd.underlying34 Tryd.underlying5 FxManOa.co5
 rw [show IntKind.u8.min=0 by decide,show IntKind.u8.max=255 by decide] at w0
 rw [show IntKind.u64.min=0 by decide,show IntKind.u64.max=18446744073709551615 by decide] at w1
 rw [show IntKind.u64.min=0 by decide,show IntKind.u64.max=18446744073709551615 by decide] at w2
 rw [show IntKind.u64.min=0 by decide,show IntKind.u64.max=18446744073709551615 by decide] at w3
 rw [show IntKind.i64.min = -9223372036854775808 by decide,show IntKind.i64.max=9223372036854775807 by decide] at w4
 rw [show IntKind.i64.min = -9223372036854775808 by decide,show IntKind.i64.max=9223372036854775807 by decide] at w5
 refine ⟨⟨n0,n1,n2,n3,n4,n5,s6,s7,r⟩,list_eq hl fun i hi=>?_,⟨⟨w0.1,by show n0<_; omega⟩,⟨w3.1,by show n3<_; omega⟩,w4,Nat.le_trans w6 (by omega),Nat.le_trans w7 (by omega),w1,w2,w5,fun j hj=>?_⟩,w6,w7⟩
 ·match i,hi with
  | 0,_=>exact h0
  | 1,_=>exact h1
  | 2,_=>exact h2
  | 3,_=>exact h3
  | 4,_=>exact h4
  | 5,_=>exact h5
  | 6,_=>exact h6
  | 7,_=>exact h7
  | n+8,hi =>
   have hn:n<32:=by have:n+8<40:=hi; omega
   rw [show n+8=8+n by omega,take_at (hr n hn).1]
   rw [Meta.cells,List.getElem?_append_right (by simp)]
   simp [hn]
 have w8:=(hr j hj).2; rw [show IntKind.u8.min=0 by decide,show IntKind.u8.max=255 by decide] at w8; exact w8
theorem state_of (hR:R≤140737488351232) (h:Rg R enc Tryd.prog W 27 cs):∃ (s:State) (hd:Nat→Sh),cs=s.cells hd∧StR (fun b=>W.heap[b]?) s hd∧(u64 s.log∧u64 s.next∧u64 s.seq∧u64 s.least∧∀ i,i<5→u64 (s.gens i))∧∀ i,i<5→∀ m∈s.lv i,mQ R m:=by
 have hl:=h.len Tryd.underlying27
 rw [FxManOa.co27] at hl
 obtain ⟨n1,h1,w1⟩:=h.intAt Tryd.underlying27 1 24 5 rfl Tryd.underlying24 FxManOa.co24
 obtain ⟨n2,h2,w2⟩:=h.intAt Tryd.underlying27 2 24 6 rfl Tryd.underlying24 FxManOa.co24
 obtain ⟨n3,h3,w3⟩:=h.intAt Tryd.underlying27 3 24 7 rfl Tryd.underlying24 FxManOa.co24
 obtain ⟨n4,h4,w4⟩:=h.intAt Tryd.underlying27 4 24 8 rfl Tryd.underlying24 FxManOa.co24
 obtain ⟨r,hr⟩:=(h.fld Tryd.underlying27 5 25 9 rfl FxManOa.co25).ints Tryd.underlying25 Tryd.underlying24 FxManOa.co24
 rw [show IntKind.u64.min=0 by decide,show IntKind.u64.max=18446744073709551615 by decide] at w1
 rw [show IntKind.u64.min=0 by decide,show IntKind.u64.max=18446744073709551615 by decide] at w2
 rw [show IntKind.u64.min=0 by decide,show IntKind.u64.max=18446744073709551615 by decide] at w3
 rw [show IntKind.u64.min=0 by decide,show IntKind.u64.max=18446744073709551615 by decide] at w4
 have hlv:∀ i,∃ (y:Sh×List Meta),i<5→cs[i]? = some (y.1.val y.2.length)∧SlR (fun b=>W.heap[b]?) 40 Meta.cells y.1 y.2∧y.2.length*112≤R∧∀ m∈y.2,mQ R m:=by
  intro i
  by_cases hi:i<5
  ·obtain ⟨hd,l,e,hs,hc,hq⟩:=((h.fld Tryd.underlying27 0 23 0 rfl FxManOa.co23).elm Tryd.underlying23 hi FxManOa.co22).sl Meta.cells (mQ R) Tryd.underlying22 FxManOa.co67 (by decide) Fx.by67 (fun cs' h'=>meta_of hR h')
   have:=take_at (take1 e)
   refine ⟨(hd,l),fun _=>⟨by simpa using this,hs,Nat.le_trans (Nat.mul_le_mul_right _ hs.le) hc,hq⟩⟩
  exact ⟨(⟨none,0⟩,[]),fun h=>absurd h hi⟩
 obtain ⟨M,hM⟩ : ∃ M:Nat→Sh×List Meta,∀ i,i<5→cs[i]? = some ((M i).1.val (M i).2.length)∧SlR (fun b=>W.heap[b]?) 40 Meta.cells (M i).1 (M i).2∧(M i).2.length*112≤R∧∀ m∈(M i).2,mQ R m:=⟨fun i=>Classical.choose (hlv i),fun i=>Classical.choose_spec (hlv i)⟩
 refine ⟨⟨fun i=>(M i).2,n1,n2,n3,n4,r⟩,fun i=>(M i).1,list_eq hl fun i hi=>?_,⟨fun i hi=>(hM i hi).2.1,fun i hi=>Nat.le_trans (hM i hi).2.2.1 hR,fun i hi m hm=>((hM i hi).2.2.2 m hm).1⟩,⟨⟨w1.1,by show n1<_; omega⟩,⟨w2.1,by show n2<_; omega⟩,⟨w3.1,by show n3<_; omega⟩,⟨w4.1,by show n4<_; omega⟩,fun j hj=>by
  have w8:=(hr j hj).2; rw [show IntKind.u64.min=0 by decide,show IntKind.u64.max=18446744073709551615 by decide] at w8; exact ⟨w8.1,by show r j<_; omega⟩⟩,fun i hi=>(hM i hi).2.2.2⟩
 match i,hi with
 | 0,_=>exact (hM 0 (by decide)).1
 | 1,_=>exact (hM 1 (by decide)).1
 | 2,_=>exact (hM 2 (by decide)).1
 | 3,_=>exact (hM 3 (by decide)).1
 | 4,_=>exact (hM 4 (by decide)).1
 | 5,_=>exact h1
 | 6,_=>exact h2
 | 7,_=>exact h3
 | 8,_=>exact h4
 | 9,_=>exact take_at (hr 0 (by decide)).1
 | 10,_=>exact take_at (hr 1 (by decide)).1
 | 11,_=>exact take_at (hr 2 (by decide)).1
 | 12,_=>exact take_at (hr 3 (by decide)).1
 | 13,_=>exact take_at (hr 4 (by decide)).1
 | n+14,hi=>exact absurd hi (by show ¬ n+14<14; omega)
theorem agg_of {t:TypeId} {fs:Array Field} {base:Nat} {v:Value} (ht:Tryd.prog.underlying t=some (.struct fs)) (h:Value.okWide Tryd.prog W .any base t v) {l:List Value} (hl:v.cells.toList=l):v=.agg l.toArray:=by
 unfold Value.okWide at h
 rw [ht] at h
 obtain ⟨c,rfl,_⟩:=h
 rw [← hl]; rfl
end
theorem tanOwn:ownKnob Tryd.prog.godebug=none:=by kernel_rfl
theorem tanLaid:laidOutB Tryd.prog=true:=by kernel_rfl
theorem gC:Tryd.prog.globalNamed "tantalus/sha.constants" = some 1:=by kernel_rfl
theorem gCT:(Tryd.prog.globals[1]?).map (·.type)=some 163:=by kernel_rfl
theorem gR:Tryd.prog.globalNamed "tantalus/tantalusref03.K" = some 0:=by kernel_rfl
theorem gRT:(Tryd.prog.globals[0]?).map (·.type)=some 163:=by kernel_rfl
def kInts:List Int:=[1116352408,1899447441,3049323471,3921009573,961987163,1508970993,2453635748,2870763221,3624381080,310598401,607225278,1426881987,1925078388,2162078206,2614888103,3248222580,3835390401,4022224774,264347078,604807628,770255983,1249150122,1555081692,1996064986,2554220882,2821834349,2952996808,3210313671,3336571891,3584528711,113926993,338241895,666307205,773529912,1294757372,1396182291,1695183700,1986661051,2177026350,2456956037,2730485921,2820302411,3259730800,3345764771,3516065817,3600352804,4094571909,275423344,430227734,506948616,659060556,883997877,958139571,1322822218,1537002063,1747873779,1955562222,2024104815,2227730452,2361852424,2428436474,2756734187,3204031479,3329325298]
theorem kInts_at:∀ j,j<64→kInts.getD j 0=((kW j).toNat:Int):=by decide
theorem tabC {W:World} {rest:List (String×DataW Unit)} (h:laidMet Tryd.prog (("tantalus/sha.constants",Rows.laid_tantalus_sha_constants) :: rest) W):RdNP (fun b=>W.heap[b]?) 1 0 (wa 64 kW) :=
 tab_rd (Lib.tabIs_of_head (zs:=kInts) (rest:=rest) gC gCT Tryd.underlying163 Tryd.underlying125 Fx.co125 Fx.co163 h) gC rfl kInts_at
theorem tabR {W:World} {x:String×DataW Unit} {rest:List (String×DataW Unit)} (h:laidMet Tryd.prog (x :: ("tantalus/tantalusref03.K",Rows.laid_tantalus_tantalusref03_K) :: rest) W):RdNP (fun b=>W.heap[b]?) 0 0 (wa 64 kW) :=
 tab_rd (Lib.tabIs_of_head (zs:=kInts) (rest:=rest) gR gRT Tryd.underlying163 Tryd.underlying125 Fx.co125 Fx.co163 (laid_tail h)) gR rfl kInts_at
def kCells:Array Value:=#[.int .u32 1116352408,.int .u32 1899447441,.int .u32 3049323471,.int .u32 3921009573,.int .u32 961987163,.int .u32 1508970993,.int .u32 2453635748,.int .u32 2870763221,.int .u32 3624381080,.int .u32 310598401,.int .u32 607225278,.int .u32 1426881987,.int .u32 1925078388,.int .u32 2162078206,.int .u32 2614888103,.int .u32 3248222580,.int .u32 3835390401,.int .u32 4022224774,.int .u32 264347078,.int .u32 604807628,.int .u32 770255983,.int .u32 1249150122,.int .u32 1555081692,.int .u32 1996064986,.int .u32 2554220882,.int .u32 2821834349,.int .u32 2952996808,.int .u32 3210313671,.int .u32 3336571891,.int .u32 3584528711,.int .u32 113926993,.int .u32 338241895,.int .u32 666307205,.int .u32 773529912,.int .u32 1294757372,.int .u32 1396182291,.int .u32 1695183700,.int .u32 1986661051,.int .u32 2177026350,.int .u32 2456956037,.int .u32 2730485921,.int .u32 2820302411,.int .u32 3259730800,.int .u32 3345764771,.int .u32 3516065817,.int .u32 3600352804,.int .u32 4094571909,.int .u32 275423344,.int .u32 430227734,.int .u32 506948616,.int .u32 659060556,.int .u32 883997877,.int .u32 958139571,.int .u32 1322822218,.int .u32 1537002063,.int .u32 1747873779,.int .u32 1955562222,.int .u32 2024104815,.int .u32 2227730452,.int .u32 2361852424,.int .u32 2428436474,.int .u32 2756734187,.int .u32 3204031479,.int .u32 3329325298]
def setO:Obj→Obj
 | .cells _ t frozen=>.cells kCells t frozen
 | o=>o
noncomputable def laidWorld (os:Os):World :=
 { World.holding Tryd.prog os ⟨#[], #[],[]⟩ with heap:=((World.holding Tryd.prog os ⟨#[], #[],[]⟩).heap.modify 0 setO).modify 1 setO }
set_option maxRecDepth 100000
namespace Fx
end Fx
section
variable {H:Type} {M:Nat}
theorem wt_mul {a b c M:Nat} (h:a≤b*M) (hb:b≤c):a≤c*M:=Nat.le_trans h (Nat.mul_le_mul_right M hb)
theorem bulk_one (d:DataW H):1≤Rows.uptoBulk d:=by
 cases d with
 | lit l=>cases l<;>simp [Rows.uptoBulk]
 | nil=>simp [Rows.uptoBulk]
 | ptr d=>simp [Rows.uptoBulk]
 | slice elems spare=>simp [Rows.uptoBulk]
 | agg parts=>simp [Rows.uptoBulk]
 | iface t d=>simp [Rows.uptoBulk]
 | map entries=>simp [Rows.uptoBulk]
 | held h=>simp [Rows.uptoBulk]
theorem bulk_len (l:List (DataW H)):l.length≤Rows.uptoBulkAll l:=by
 induction l with
 | nil=>simp [Rows.uptoBulkAll]
 | cons x r ih=>have:=bulk_one x; simp only [Rows.uptoBulkAll,List.length_cons]; omega
theorem bulk_entries (l:List (Lit×DataW H)):l.length≤Rows.uptoBulkEntries l:=by
 induction l with
 | nil=>simp [Rows.uptoBulkEntries]
 | cons x r ih =>
  obtain ⟨k,d⟩:=x
  have h1:=bulk_one d
  have:1≤Rows.uptoBulkEntry (k,d):=by cases k<;>simp [Rows.uptoBulkEntry]
  simp only [Rows.uptoBulkEntries,List.length_cons]; omega
theorem bulk_part {d:DataW H} {l:List (DataW H)} (h:d∈l):Rows.uptoBulk d≤Rows.uptoBulkAll l:=by
 induction l with
 | nil=>cases h
 | cons x r ih =>
  simp only [Rows.uptoBulkAll]
  cases List.mem_cons.1 h with
  | inl e=>subst e; omega
  | inr e=>have:=ih e; omega
structure TyOk (M:Nat):Prop where
 ptr:∀ t e,t<201→Tryd.prog.underlying t=some (.pointer e)→e<201
 sl:∀ t e,t<201→Tryd.prog.underlying t=some (.slice e)→e<201∧Tryd.prog.bytesOf e≤M
 ar:∀ t q e,t<201→Tryd.prog.underlying t=some (.array q e)→e<201
 st:∀ t fs,t<201→Tryd.prog.underlying t=some (.struct fs)→∀ u∈fs.toList.map (·.type),u<201
 mp:∀ t k e,t<201→Tryd.prog.underlying t=some (.map k e)→e<201∧Tryd.prog.bytesOf k+Tryd.prog.bytesOf e≤2*M
noncomputable def tyOne (t:Nat):Bool:=match Tryd.prog.underlying t with
 | some (.pointer e)=>Nat.blt e 201
 | some (.slice e)=>Nat.blt e 201&&Nat.ble (Tryd.prog.bytesOf e) 1000
 | some (.array _ e)=>Nat.blt e 201
 | some (.struct fs)=>fs.toList.all fun f=>Nat.blt f.type 201
 | some (.map k e)=>Nat.blt e 201&&Nat.ble (Tryd.prog.bytesOf k+Tryd.prog.bytesOf e) 2000
 | _=>true
theorem tyAll:((List.range 201).all tyOne)=true:=by kernel_rfl
theorem blt_lt {a b:Nat} (h:Nat.blt a b=true):a<b:=Nat.le_of_ble_eq_true h
theorem tyOk:TyOk 1000:=by
 have key:∀ t,t<201→tyOne t=true:=fun t ht=>List.all_eq_true.1 tyAll t (List.mem_range.2 ht)
 refine ⟨fun t e ht hu=>?_,fun t e ht hu=>?_,fun t q e ht hu=>?_,fun t fs ht hu u hm=>?_,fun t k e ht hu=>?_⟩<;>have h:=key t ht<;>unfold tyOne at h<;>rw [hu] at h<;>simp only [Bool.and_eq_true] at h
 ·exact blt_lt h
 ·exact ⟨blt_lt h.1,Nat.le_of_ble_eq_true h.2⟩
 ·exact blt_lt h
 ·obtain ⟨f,hf,rfl⟩:=List.mem_map.1 hm
  exact blt_lt (List.all_eq_true.1 h f hf)
 exact ⟨blt_lt h.1,Nat.le_of_ble_eq_true h.2⟩
mutual
theorem wt (hM:TyOk M) (h1:1≤M):∀ (d:DataW H) (t n:Nat),t<201→n∈d.weights Tryd.prog t→n≤Rows.uptoBulk d*(2*M)
 | .lit (.string bytes),t,n,ht,h=>by
  simp only [DataW.weights,List.mem_singleton] at h
  subst h
  simp only [Rows.uptoBulk]
  exact Nat.le_trans (by omega) (Nat.le_mul_of_pos_right _ (by omega))
 | .lit (.bool _),t,n,ht,h=>by simp [DataW.weights] at h
 | .lit (.int ..),t,n,ht,h=>by simp [DataW.weights] at h
 | .lit (.float ..),t,n,ht,h=>by simp [DataW.weights] at h
 | .nil,t,n,ht,h=>by simp [DataW.weights] at h
 | .ptr d,t,n,ht,h=>by
  simp only [DataW.weights] at h
  split at h
  ·rename_i e hu
   exact wt_mul (wt hM h1 d _ n (hM.ptr t e ht hu) h) (by simp [Rows.uptoBulk])
  ·cases h
 | .slice elems spare,t,n,ht,h=>by
  simp only [DataW.weights] at h
  split at h
  ·rename_i e hu
   obtain ⟨he,hb⟩:=hM.sl t e ht hu
   rcases List.mem_cons.1 h with rfl | h
   ·have l1:=bulk_len elems
    have l2:=bulk_len spare
    simp only [Rows.uptoBulk]
    exact Nat.mul_le_mul (by omega) (Nat.le_trans hb (by omega))
   ·rcases List.mem_append.1 h with h | h
    ·exact wt_mul (wtAll hM h1 elems _ n he h) (by simp only [Rows.uptoBulk]; omega)
    ·exact wt_mul (wtAll hM h1 spare _ n he h) (by simp only [Rows.uptoBulk]; omega)
  ·cases h
 | .agg parts,t,n,ht,h=>by
  simp only [DataW.weights] at h
  split at h
  ·rename_i fs hu
   exact wt_mul (wtEach hM h1 parts _ n (hM.st t fs ht hu) h) (by simp only [Rows.uptoBulk]; omega)
  ·rename_i q e hu
   exact wt_mul (wtAll hM h1 parts _ n (hM.ar t q e ht hu) h) (by simp only [Rows.uptoBulk]; omega)
  ·cases h
 | .iface _ _,t,n,ht,h=>by simp [DataW.weights] at h
 | .map entries,t,n,ht,h=>by
  simp only [DataW.weights] at h
  split at h
  ·rename_i k e hu
   obtain ⟨he,hb⟩:=hM.mp t k e ht hu
   rcases List.mem_cons.1 h with rfl | h
   ·have l1:=bulk_entries entries
    simp only [Rows.uptoBulk]
    exact Nat.mul_le_mul (by omega) hb
   ·exact wt_mul (wtEntries hM h1 entries _ n he h) (by simp only [Rows.uptoBulk]; omega)
  ·cases h
 | .held _,t,n,ht,h=>by simp [DataW.weights] at h
theorem wtAll (hM:TyOk M) (h1:1≤M):∀ (l:List (DataW H)) (e n:Nat),e<201→n∈DataW.weightsAll Tryd.prog e l→n≤Rows.uptoBulkAll l*(2*M)
 | [],e,n,ht,h=>by simp [DataW.weightsAll] at h
 | d :: r,e,n,ht,h=>by
  simp only [DataW.weightsAll,List.mem_append] at h
  rcases h with h | h
  ·exact wt_mul (wt hM h1 d _ n ht h) (by simp only [Rows.uptoBulkAll]; omega)
  ·exact wt_mul (wtAll hM h1 r _ n ht h) (by simp only [Rows.uptoBulkAll]; omega)
theorem wtEach (hM:TyOk M) (h1:1≤M):∀ (l:List (DataW H)) (ts:List Nat) (n:Nat),(∀ t∈ts,t<201)→n∈DataW.weightsEach Tryd.prog ts l→n≤Rows.uptoBulkAll l*(2*M)
 | [],ts,n,ht,h=>by cases ts<;>simp [DataW.weightsEach] at h
 | d :: r,[],n,ht,h=>by simp [DataW.weightsEach] at h
 | d :: r,t :: ts,n,ht,h=>by
  simp only [DataW.weightsEach,List.mem_append] at h
  rcases h with h | h
  ·exact wt_mul (wt hM h1 d _ n (ht t (List.mem_cons_self ..)) h) (by simp only [Rows.uptoBulkAll]; omega)
  ·exact wt_mul (wtEach hM h1 r _ n (fun t hm=>ht t (List.mem_cons_of_mem _ hm)) h) (by simp only [Rows.uptoBulkAll]; omega)
theorem wtEntries (hM:TyOk M) (h1:1≤M):∀ (l:List (Lit×DataW H)) (e n:Nat),e<201→n∈DataW.weightsEntries Tryd.prog e l→n≤Rows.uptoBulkEntries l*(2*M)
 | [],e,n,ht,h=>by simp [DataW.weightsEntries] at h
 | (k,d) :: r,e,n,ht,h=>by
  simp only [DataW.weightsEntries,List.mem_append] at h
  rcases h with h | h
  ·have hd:∀ n,n∈d.weights Tryd.prog e→n≤Rows.uptoBulk d*(2*M):=fun n h=>wt hM h1 d e n ht h
   have h2:n≤Rows.uptoBulkEntry (k,d)*(2*M):=by
    cases k with
    | string bytes =>
     simp only [DataW.weightsEntry,List.mem_cons] at h
     rcases h with rfl | h
     ·simp only [Rows.uptoBulkEntry]; exact Nat.le_trans (by omega) (Nat.le_mul_of_pos_right _ (by omega))
     ·exact wt_mul (hd n h) (by simp only [Rows.uptoBulkEntry]; omega)
    | _=>simp only [DataW.weightsEntry] at h; exact wt_mul (hd n h) (by simp only [Rows.uptoBulkEntry]; omega)
   exact wt_mul h2 (by simp only [Rows.uptoBulkEntries]; omega)
  ·exact wt_mul (wtEntries hM h1 r _ n ht h) (by simp only [Rows.uptoBulkEntries]; omega)
end
theorem Rg.argU {enc:TypeId×Value→H} {W:World} {t:TypeId} {v:Value} {d:DataW H} {ps:List MemPlace} {ds:List (DataW H)} {i:Nat} (h:DataW.Trod enc Tryd.prog W 0 (fun _=>true) true t v d ps) (hup:Rows.uptoSmall H ds=true) (hd:ds[i]? = some d) (ht:t<201:=by decide):Rg 2097152000 enc Tryd.prog W t v.cells.toList:=by
 obtain ⟨fuel,h⟩:=h
 refine ⟨fuel,_,h,fun n hn=>?_⟩
 have h1:Rows.uptoBulkAll ds≤1048576:=of_decide_eq_true hup
 have h2:=bulk_part (List.mem_of_getElem? hd)
 have h3:=wt tyOk (by decide) d t n ht hn
 exact Nat.le_trans h3 (Nat.le_trans (Nat.mul_le_mul_right _ (Nat.le_trans h2 h1)) (by decide))
end
section
variable {H:Type} {R:Nat} {enc:TypeId×Value→H} {W:World} {cs:List Value}
end
namespace Fx
theorem go7:goFn Tryd.prog 7=true:=by kernel_rfl
theorem go10:goFn Tryd.prog 10=true:=by kernel_rfl
end Fx
theorem ManifestRoots_ok (s:State) (hd:Nat→Sh) (G:PM) (hs:StR G s hd) (hn:StN s) (hq:∀ i,i<5→∀ m∈s.lv i,m.min.size+m.max.size≤4194304000) (hK:RdNP G 1 0 (wa 64 kW)) (hR:RdNP G 0 0 (wa 64 kW)):Ct Tryd.prog 3 ([s.val hd]:List Value).toArray G [] (fun _ μ' u=>μ'=[]∧u=.bool true):=by
 refine Ct.of Tryd.func3 rfl Tryd.ntmps3 rfl fun w0 hs0=>?_
 refine .seq (Wk.rg [0,1] rfl rfl ?_)
 refine bx rfl (.u rfl) rfl ?_; intro b1
 refine asg rfl .no (.u rfl) (.nil (.code (.seq (Wk.rg [0,1] rfl rfl (kv rfl .no Fx.go7 Evn (fun _=>shown19_ok _ hK) ?_)))))
 refine asg rfl .no (.u rfl) (.nil (.code (.seq (.seq (Wk.rg [0,1,2,3] rfl rfl (lA rfl .no Fx.ag27 (.u rfl) (fun _=>RdN.own .here) (fun _=>(by first|exact qE|exact qL|rfl)) ?_))))))
 refine bCe (Edit.zero.cells ⟨none,0⟩ ⟨none,0⟩) rfl .no Fx.bp32_ .nil rfl (rfl) (kv rfl .no Fx.go8 (Evc rfl (Evc rfl Evn)) (fun _=>light19_ok s hd Edit.zero ⟨none,0⟩ ⟨none,0⟩ _) ?_)
 refine nt rfl .no (.u rfl) (.nil (.code (.cond rfl (fun c1=>?_) (fun c1=>?_))))
 ·have c1k:=c1
  try simp only [qcA,qcC,qcB] at c1
  refine .seq (Wk.rg [0,1] rfl rfl (mv rfl .no (.u rfl) (asg rfl .no (.u rfl) (.nil (.code (.ret (We.fin0 Tryd.results3 (.tmp rfl .nil) ?_)))))))
  exact ⟨rfl,rfl⟩
 have c1k:=c1
 try simp only [qcA,qcC,qcB] at c1
 have hlg:=light_add (s:=s) (e:=Edit.zero) c1 (fun m hm=>absurd hm List.not_mem_nil) Edit.zero_wf
 have hl:StL s:=⟨by omega,fun i hi m hm=>by have:=hq i hi m hm; omega⟩
 refine .skip (.code (.seq (Wk.draw (mc:=⟨false,false⟩) [0,1,2,4,3,5,6,7,8] Fx.mix (by kernel_rfl) ?_)))
 refine mv rfl .no (.u rfl) (mv rfl .no (.u rfl) (lA rfl (.t rfl rfl) Fx.ag27 (.u rfl) (fun _=>RdN.own .here) (fun _=>(by first|exact qE|exact qL|rfl)) ?_))
 refine lA rfl (.t rfl rfl) Fx.ag27 (.u rfl) (fun _=>RdN.own .here) (fun _=>(by first|exact qE|exact qL|rfl)) ?_
 refine kv rfl (.t rfl rfl) Fx.go9 (Evc rfl Evn) (fun _=>mRoot_ok s hd _ hs hn hl hK) ?_
 refine kv rfl (.t rfl rfl) Fx.go10 (Evc rfl Evn) (fun _=>r19Root_ok s hd _ hs hn hl hR) ?_
 refine eqB rfl (.t rfl rfl) Fx.baT34 (.u rfl) (.u rfl) ?_
 refine wo_b true (decide_eq_true rfl) ?_
 refine pkA rfl .no (.u rfl) (.u rfl) (asg rfl .no (.u rfl) (.nil (.code (.ret (We.fin0 Tryd.results3 (.tmp rfl .nil) ?_)))))
 exact ⟨rfl,rfl⟩
end Go.Proofs.YtdeobooblmjlfaaDoor
