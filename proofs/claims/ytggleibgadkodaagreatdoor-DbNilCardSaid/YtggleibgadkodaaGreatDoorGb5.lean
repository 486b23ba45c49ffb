/- Lemmas and contracts of functions, joined. -/
import Derived.Test.YtggleibgadkodaaGreatDoorGb4
set_option linter.unusedSimpArgs false
set_option linter.unusedVariables false
set_option linter.unusedSectionVars false
namespace Go.Proofs.YtggleibgadkodaaGreatDoor
open Go.Tan Go.RowKit Go.Maps Go.Sort Go.Shelf
namespace Fx
theorem fo124_9:fOff Tryz.prog 124 9=some 59:=by kernel_rfl
theorem ag117:aggN Tryz.prog 117=some none:=by kernel_rfl
theorem go42:goFn Tryz.prog 42=true:=by kernel_rfl
theorem go43:goFn Tryz.prog 43=true:=by kernel_rfl
theorem go44:goFn Tryz.prog 44=true:=by kernel_rfl
theorem fo124_14:fOff Tryz.prog 124 14=some 82:=by kernel_rfl
theorem go53:goFn Tryz.prog 53=true:=by kernel_rfl
theorem go52:goFn Tryz.prog 52=true:=by kernel_rfl
theorem go51:goFn Tryz.prog 51=true:=by kernel_rfl
end Fx
theorem lGet_ok (bl:Nat) (h:Sh) (xs:List Nd) (sz:Value) (G:PM) (hbl:PB G bl (cl [h.val xs.length,sz] 202)) (hs:SlR G 16 Nd.cells h xs) (w:Nat→Nat) (us:ByteArray) (q:BitVec 64) (hW:WayN xs us q w) (e:Ent) (h0:0<nxt xs (w 0) 0) (he:(xs.getD (nxt xs (w 0) 0) Nd.z).1=e) (hu:e.user=us):Ct Tryz.prog 43 ([.pointer (some ⟨bl,0,none⟩),.string us,uv .u64 q]:List Value).toArray G [] (fun _ μ' u=>μ'=[]∧u=.tuple #[e.val,.bool true]):=by
 subst he
 refine Ct.of Tryz.func43 rfl Tryz.ntmps43 rfl fun w0 hs0=>?_
 have hnx:nxt xs (w 0) 0<xs.length:=hW.inb _ (hW.lt 0 (by decide)) 0 (by decide)
 refine .seq (rq2 rfl rfl ?_)
 refine al rfl FxGrC.zq115 ?_; intro b6
 refine aS rfl rfl (.nil (.code (.seq (rq5 rfl rfl (mV rfl rfl (mV rfl rfl (mV rfl rfl (kv rfl .no Fx.go90 (Evc rfl (Evc rfl (Evc rfl Evn))) (fun _=>first_l bl h xs sz _ hbl hs w us q hW) ?_))))))))
 refine aS rfl rfl (.nil (.code (.seq (.seq (Wk.rg [0,1,2,3,4,5,6,7,8,9,10,11,12,13,14] rfl rfl (mV rfl rfl (cp rfl .no (.u rfl) (.u rfl) rfl (mV rfl rfl (mv rfl (.f rfl rfl) (.u rfl) (nc rfl (.f rfl rfl) (.s rfl) (fa rfl (.f rfl rfl) Fx.fo202_0 (.s rfl) (ld rfl (.f rfl rfl) Fx.ag200 (.s rfl) (fun hc=>(hbl.rd (rfl)).rd) ?_))))))))))))
 refine mv rfl (.f rfl rfl) (.u rfl) (ih rfl (.f rfl rfl) Fx.se200 (.s rfl) (.s rfl) (fun _=>by omega) (fun _=>by omega) (fun _=>hs.nn (k:=nxt xs (w 0) 0) hnx) ?_)
 refine fa rfl (.f rfl rfl) Fx.fo199_0 (.s rfl) (fa rfl (.f rfl rfl) Fx.fo115_0 (.s rfl) (ld rfl (.f rfl rfl) Fx.ag9 (.s rfl) (fun hc=>((Nd.rde hs (a:=nxt xs (w 0) 0) hnx (by simp)) 0 _ rfl).rd) ?_))
 refine mv rfl (.f rfl rfl) (.u rfl) (cs rfl (.f rfl rfl) (.s rfl) (.s rfl) rfl (pkO rfl .no (.u rfl) (.s rfl) (.nil (.code (.cond rfl (fun c1=>?_) (fun c1=>?_))))))
 ·have c1k:=c1
  have h10:nxt xs (w 0) 0≠0:=by omega
  have h9:((nxt xs (w 0) 0:Nat):Int)≠0:=by omega
  rw [hu] at c1k
  simp [h9,h10] at c1k
 have c1k:=c1
 try simp only [qcA,qcB] at c1
 refine .skip (.code (.seq (rq10 rfl rfl (mV rfl rfl (nc rfl .no (.u rfl) (fa rfl .no Fx.fo202_0 (.u rfl) (ld rfl .no Fx.ag200 (.u rfl) (fun _=>(hbl.rd (rfl)).rd) ?_)))))))
 refine mV rfl rfl (ih rfl .no Fx.se200 (.u rfl) (.u rfl) (fun _=>by omega) (fun _=>by omega) (fun _=>hs.nn (k:=nxt xs (w 0) 0) hnx) ?_)
 refine fa rfl .no Fx.fo199_0 (.u rfl) (lA rfl .no Fx.ag115 (.u rfl) (fun _=>(Nd.rde hs (a:=nxt xs (w 0) 0) hnx (by simp)).rd) (fun _=>Ent.len _) ?_)
 refine sw rfl (.u rfl) (.u rfl) rfl Fx.sz115 .here rfl (Ent.one _) ?_
 refine aS rfl rfl (.nil (.code (.ret (We.fin0 Tryz.results43 (.cell rfl (fun w hw=>run_loadVarN Fx.ag115 (RdN.own .here) (Ent.len _) hw) (.tmp rfl .nil)) ?_))))
 exact ⟨rfl,rfl⟩
theorem askGe_ok (bx:Nat) (d:Db) (G:PM) (hbx:PB G bx (cl d.cells 124)) (m:BitVec 64) (hm:d.seq.toNat≤m.toNat):Ct Tryz.prog 42 ([pt bx,uv .u64 m]:List Value).toArray G [] (fun _ μ' u=>μ'=[]∧u=.tuple #[uv .u64 d.seq,.bool true]):=by
 refine Ct.of Tryz.func42 rfl Tryz.ntmps42 rfl fun w0 hs0=>?_
 refine .seq (rq2 rfl rfl (aS rfl rfl (aS rfl rfl (.nil (.code (.seq (.seq (rq6 rfl rfl (mV rfl rfl (mV rfl rfl (nc rfl .no (.u rfl) (fa rfl .no Fx.fo124_7 (.u rfl) (ld rfl .no Fx.ag41 (.u rfl) (fun _=>(hbx.rd (rfl)).rd) ?_)))))))))))))
 refine cp rfl .no (.u rfl) (.u rfl) rfl (.nil (.code (.cond rfl (fun c1=>?_) (fun c1=>?_))))
 ·have c1k:=c1
  try simp only [qcA,qcB] at c1
  refine .seq (rq6 rfl rfl (mV rfl rfl (nc rfl .no (.u rfl) (fa rfl .no Fx.fo124_7 (.u rfl) (ld rfl .no Fx.ag41 (.u rfl) (fun _=>(hbx.rd (rfl)).rd) ?_)))))
  refine aS rfl rfl (aS rfl rfl (.nil (.code (.ret (We.fin0 Tryz.results42 (.tmp rfl (.tmp rfl .nil)) ?_)))))
  exact ⟨rfl,rfl⟩
 have c1k:=c1
 have h1:@BitVec.toNat IntKind.u64.bits m=m.toNat:=rfl; have h2:@BitVec.toNat IntKind.u64.bits d.seq=d.seq.toNat:=rfl; simp at c1; omega
theorem askNo_ok (bx:Nat) (d:Db) (G:PM) (hbx:PB G bx (cl d.cells 124)) (m:BitVec 64) (bh:Nat) (hh:d.held=bh) (hm:m.toNat<d.seq.toNat):Ct Tryz.prog 42 ([pt bx,uv .u64 m]:List Value).toArray G [.mp bh .u64 (fun _=>none)] (fun _ μ' u=>μ'=[.mp bh .u64 (fun _=>none)]∧u=.tuple #[uv .u64 m,.bool false]):=by
 subst hh
 refine Ct.of Tryz.func42 rfl Tryz.ntmps42 rfl fun w0 hs0=>?_
 refine .seq (rq2 rfl rfl (aS rfl rfl (aS rfl rfl (.nil (.code (.seq (.seq (rq6 rfl rfl (mV rfl rfl (mV rfl rfl (nc rfl .no (.u rfl) (fa rfl .no Fx.fo124_7 (.u rfl) (ld rfl .no Fx.ag41 (.u rfl) (fun _=>(hbx.rd (rfl)).rd) ?_)))))))))))))
 refine cp rfl .no (.u rfl) (.u rfl) rfl (.nil (.code (.cond rfl (fun c1=>?_) (fun c1=>?_))))
 ·have c1k:=c1
  have h1:@BitVec.toNat IntKind.u64.bits m=m.toNat:=rfl; have h2:@BitVec.toNat IntKind.u64.bits d.seq=d.seq.toNat:=rfl; simp at c1; omega
 have c1k:=c1
 try simp only [qcA,qcB] at c1
 refine .skip (.code (.seq (Wk.draw (mc:=⟨false,false⟩) [0,1,2,3,4,5,6,7,8,9] Fx.mix (by kernel_rfl) ?_)))
 refine mV rfl rfl (mV rfl rfl (nc rfl .no (.u rfl) (fa rfl .no Fx.fo124_9 (.u rfl) (ld rfl .no Fx.ag117 (.u rfl) (fun _=>(hbx.rd (rfl)).rd) ?_))))
 refine mV rfl rfl (lk rfl .no Fx.mp117 Fx.zv3 (.u rfl) (.u rfl) .here (rfl) ?_)
 refine cp rfl .no (.u rfl) (.u rfl) rfl (aS rfl rfl (aS rfl rfl (.nil (.code (.ret (We.fin Tryz.results42 (.tmp rfl (.tmp rfl .nil)) (mS .here rfl mN) ?_))))))
 exact ⟨rfl,rfl⟩
theorem dGet_ok (bx:Nat) (d:Db) (G:PM) (hbx:PB G bx (cl d.cells 124)) (us:ByteArray) (m:BitVec 64) (h:Sh) (xs:List Nd) (sz:Value) (w:Nat→Nat) (hbl:PB G d.now (cl [h.val xs.length,sz] 202)) (hs:SlR G 16 Nd.cells h xs) (hst:d.s.cells d.hd=(stF 1 2).cells hd0) (hW:WayN xs us d.seq w) (e:Ent) (h0:0<nxt xs (w 0) 0) (he:(xs.getD (nxt xs (w 0) 0) Nd.z).1=e) (hu:e.user=us) (hk:e.kind=1#8) (hm:d.seq.toNat≤m.toNat):Ct Tryz.prog 12 ([pt bx,.string us,uv .u64 m]:List Value).toArray G [] (fun _ μ' u=>μ'=[]∧u=.tuple #[.string e.value,.bool true,.int .i64 0]):=by
 refine Ct.of Tryz.func12 rfl Tryz.ntmps12 rfl fun w0 hs0=>?_
 refine .seq (rq3 rfl rfl (aS rfl rfl (aS rfl rfl ?_)))
 refine al rfl FxGrBb.zr29 ?_; intro b8
 refine .nil (.code (.seq (.seq (rq3 rfl rfl (mV rfl rfl (kv rfl .no Fx.go40 (Evc rfl Evn) (fun _=>usable_ok bx d _ hbx) ?_))))))
 refine aS rfl rfl (.nil (.code (.seq (rq2 rfl rfl (mV rfl rfl (cp rfl .no (.u rfl) (.u rfl) rfl (.nil (.code (.cond rfl (fun c1=>?_) (fun c1=>?_))))))))))
 ·have c1k:=c1
  exact absurd c1 (by decide)
 have c1k:=c1
 try simp only [qcA,qcC,qcB] at c1
 refine .skip (.code (.seq (Wk.defers [0] 1 (DQ.d ⟨41,[.pointer (some ⟨bx,0,none⟩),.pointer (some ⟨b8,0,none⟩)],[]⟩) (fun _ _ _ _=>False) (fun _ _ _ _ _ _ hq=>hq.elim) rfl rfl ?_)))
 refine mV rfl rfl (.nil ⟨DefOp.fn rfl (Evc rfl (Evc rfl Evn)),?_⟩)
 refine .code (.seq (rq8 rfl rfl (mV rfl rfl (mV rfl rfl (kv rfl .no Fx.go42 (Evc rfl (Evc rfl Evn)) (fun _=>askGe_ok bx d _ hbx m hm) ?_)))))
 refine mV rfl rfl (ex rfl .no (.u rfl) rfl (ex rfl .no (.u rfl) rfl (aS rfl rfl (aS rfl rfl (.nil (.code (.seq (.seq (rq2 rfl rfl (mV rfl rfl (nt rfl .no (.u rfl) (.nil (.code (.cond rfl (fun c2=>?_) (fun c2=>?_)))))))))))))))
 ·have c2k:=c2
  cases c2
 have c2k:=c2
 try simp only [qcA,qcC,qcB] at c2
 refine .skip (.code (.seq (Wk.rg [0,1,2,3,4,5,6,7,8,9,10,11,12] rfl rfl (mV rfl rfl (nc rfl .no (.u rfl) (fa rfl .no Fx.fo124_13 (.u rfl) (ld rfl .no Fx.ag122 (.u rfl) (fun _=>(hbx.rd (rfl)).rd) ?_)))))))
 refine mV rfl rfl (mV rfl rfl (kv rfl .no Fx.go43 (Evc rfl (Evc rfl (Evc rfl Evn))) (fun _=>lGet_ok d.now h xs sz _ hbl hs w us d.seq hW e h0 he hu) ?_))
 refine mV rfl rfl (ex rfl .no (.u rfl) rfl (ex rfl .no (.u rfl) rfl ?_))
 refine al rfl FxGrC.zq115 ?_; intro b12
 refine sw rfl (.u rfl) (.u rfl) rfl Fx.sz115 .here rfl (Ent.one _) ?_
 refine aS rfl rfl (.nil (.code (.seq (.seq (rq2 rfl rfl (mV rfl rfl (nt rfl .no (.u rfl) (.nil (.code (.cond rfl (fun c3=>?_) (fun c3=>?_)))))))))))
 ·have c3k:=c3
  cases c3
 have c3k:=c3
 try simp only [qcA,qcC,qcB] at c3
 refine .skip (.code (.seq (.seq (rq8 rfl rfl (mV rfl rfl (nc rfl .no (.u rfl) (fa rfl .no Fx.fo124_5 (.u rfl) (lA rfl .no Fx.ag64 (.u rfl) (fun _=>(hbx.rdn (m:=14) (cs':=(stF 1 2).cells hd0) (by rw [← hst]; rfl)).rd) (fun _=>State.len) ?_))))))))
 refine mV rfl rfl (kc rfl Fx.go44 (Evc rfl (Evc rfl Evn)) (look_ok (stF 1 2) hd0 _ stF_R (by simp [tot,stF]) us) ?_)
 rintro _ G60 μ60 hG60 ⟨rfl,h60,rfl,hs60⟩
 refine ln rfl .no Fx.sn60 (.u rfl) (mV rfl rfl (.nil (.code (.block ?_))))
 refine Wk.lop (α:=Nat) (fun k=>[(13,true,.bool true),(62,true,.int .i64 (k:Int))]) (fun k=>[.blk b12 (cl e.cells 115)])
  (fun k Gl=>(k=0)) (fun k=>0) 0 [(0,true,_),(1,true,_),(8,true,_),(10,true,_),(12,true,_),(60,true,_),(61,true,_)] [_]
  (esD rfl (esC rfl (by first|rfl|exact evi (by omega)) (esD rfl (esD rfl (esD rfl (esD rfl (esD rfl (esD rfl (esD rfl eZ)))))))))
  (mS .here rfl (mS .here rfl mN)) ?_ ?_
 ·(try dsimp only)<;>(first|omega|rfl|assumption|(simp; done))
 intro k N0 Gl0 hN0 hGl0 hF0
 try dsimp only at hF0 hN0 ⊢
 have hk0:=hF0
 refine .seq (rq1 rfl rfl (cp rfl .no (.u rfl) (.u rfl) rfl (.nil (.code (.seq (.cond rfl (fun c4=>?_) (fun c4=>?_)))))))
 ·have c4k:=c4
  have hL:(lookM (stF 1 2) us 5).length=0:=by simp [lookM,ovl,stF]
  have h4:=of_decide_eq_true c4
  omega
 have c4k:=c4
 try simp only [qcA,qcC,qcB] at c4
 refine .exit (.xcode (.xlp (.xblk (.code (.seq (.seq (rq7 rfl rfl (mV rfl rfl (nt rfl .no (.u rfl) (mV rfl rfl (fz rfl (.f rfl rfl) Fx.fo115_2 (.u rfl) (ld rfl (.f rfl rfl) Fx.ag5 (.s rfl) (fun hc=>Rd.own .here (by first|exact wap_f rfl|rfl)) ?_))))))))))))
 refine cp rfl (.f rfl rfl) (.s rfl) (.u rfl) rfl (pkO rfl .no (.u rfl) (.s rfl) (.nil (.code (.cond rfl (fun c5=>?_) (fun c5=>?_)))))
 ·have c5k:=c5
  rw [hk] at c5; exact absurd c5 (by decide)
 have c5k:=c5
 try simp only [qcA,qcC,qcB] at c5
 refine .skip (.code (.seq (rq5 rfl rfl (fz rfl .no Fx.fo115_3 (.u rfl) (ld rfl .no Fx.ag9 (.u rfl) (fun _=>Rd.own .here (by first|exact wap_f rfl|rfl)) ?_)))))
 refine aS rfl rfl (aS rfl rfl (s1 rfl (.u rfl) (.u rfl) rfl Fx.sz29 tk1 (by first|decide|(simp only [wa_len,ba_len,qlA]; omega)) (rfl) ?_))
 refine .nil (.code (.ret (We.finQ [⟨41,[.pointer (some ⟨bx,0,none⟩),.pointer (some ⟨b8,0,none⟩)],[]⟩] rfl (by intro q hq; rw [List.mem_singleton.1 hq]; exact ⟨Fx.go41,fun w hw=>guard_ret w _ _⟩) Tryz.results12 (.tmp rfl (.tmp rfl (.cell rfl (fun w hw=>run_loadVar1 Fx.ag29 (Rd.own .here rfl w hw)) .nil))) mN ?_)))
 exact ⟨rfl,rfl⟩
theorem dGetNo_ok (bx:Nat) (d:Db) (G:PM) (hbx:PB G bx (cl d.cells 124)) (us:ByteArray) (m:BitVec 64) (bh:Nat) (hh:d.held=bh) (hm:m.toNat<d.seq.toNat):Ct Tryz.prog 12 ([pt bx,.string us,uv .u64 m]:List Value).toArray G [.mp bh .u64 (fun _=>none)] (fun _ μ' u=>μ'=[.mp bh .u64 (fun _=>none)]∧u=.tuple #[.string ⟨#[]⟩,.bool false,.int .i64 2]):=by
 refine Ct.of Tryz.func12 rfl Tryz.ntmps12 rfl fun w0 hs0=>?_
 refine .seq (rq3 rfl rfl (aS rfl rfl (aS rfl rfl ?_)))
 refine al rfl FxGrBb.zr29 ?_; intro b8
 refine .nil (.code (.seq (.seq (rq3 rfl rfl (mV rfl rfl (kv rfl .no Fx.go40 (Evc rfl Evn) (fun _=>usable_ok bx d _ hbx) ?_))))))
 refine aS rfl rfl (.nil (.code (.seq (rq2 rfl rfl (mV rfl rfl (cp rfl .no (.u rfl) (.u rfl) rfl (.nil (.code (.cond rfl (fun c1=>?_) (fun c1=>?_))))))))))
 ·have c1k:=c1
  exact absurd c1 (by decide)
 have c1k:=c1
 try simp only [qcA,qcB] at c1
 refine .skip (.code (.seq (Wk.defers [0] 1 (DQ.d ⟨41,[.pointer (some ⟨bx,0,none⟩),.pointer (some ⟨b8,0,none⟩)],[]⟩) (fun _ _ _ _=>False) (fun _ _ _ _ _ _ hq=>hq.elim) rfl rfl ?_)))
 refine mV rfl rfl (.nil ⟨DefOp.fn rfl (Evc rfl (Evc rfl Evn)),?_⟩)
 refine .code (.seq (rq8 rfl rfl (mV rfl rfl (mV rfl rfl (ka rfl (.inr rfl) Fx.go42 (Evc rfl (Evc rfl Evn)) (mtk1 tk1) (askNo_ok bx d _ hbx m bh hh hm) ?_)))))
 rintro _ G28 μ28 hG28 ⟨rfl,rfl⟩
 refine mV rfl rfl (ex rfl .no (.u rfl) rfl (ex rfl .no (.u rfl) rfl (aS rfl rfl (aS rfl rfl (.nil (.code (.seq (.seq (rq2 rfl rfl (mV rfl rfl (nt rfl .no (.u rfl) (.nil (.code (.cond rfl (fun c2=>?_) (fun c2=>?_)))))))))))))))
 ·have c2k:=c2
  try simp only [qcA,qcB] at c2
  refine .seq (rq3 rfl rfl (aS rfl rfl (aS rfl rfl (s1 rfl (.u rfl) (.u rfl) rfl Fx.sz29 tk1 (by first|decide|(simp only [wa_len,ba_len,qlA]; omega)) (rfl) ?_))))
  refine .nil (.code (.ret (We.finQ [⟨41,[.pointer (some ⟨bx,0,none⟩),.pointer (some ⟨b8,0,none⟩)],[]⟩] rfl (by intro q hq; rw [List.mem_singleton.1 hq]; exact ⟨Fx.go41,fun w hw=>guard_ret w _ _⟩) Tryz.results12 (.tmp rfl (.tmp rfl (.cell rfl (fun w hw=>run_loadVar1 Fx.ag29 (Rd.own .here rfl w hw)) .nil))) (mS tk1 rfl mN) ?_)))
  exact ⟨rfl,rfl⟩
 have c2k:=c2
 cases c2
theorem dScan0_ok (bx:Nat) (d:Db) (G:PM) (hbx:PB G bx (cl d.cells 124)) (a c:ByteArray) (m:BitVec 64) (h:Sh) (xs:List Nd) (sz:Value) (w:Nat→Nat) (hbl:PB G d.now (cl [h.val xs.length,sz] 202)) (hs:SlR G 16 Nd.cells h xs) (hst:d.s.cells d.hd=(stF 1 2).cells hd0) (hW:WayN xs ⟨#[]⟩ 18446744073709551615#64 w) (hn:nxt xs (w 0) 0=0) (hl:xs.length≤1000000) (hm:d.seq.toNat≤m.toNat):Ct Tryz.prog 13 ([pt bx,.string a,.string c,uv .u64 m]:List Value).toArray G [] (fun _ μ' u=>μ'=[]∧u=.tuple #[.slice none 0 0,.int .i64 0]):=by
 refine Ct.of Tryz.func13 rfl Tryz.ntmps13 rfl fun w0 hs0=>?_
 refine .seq (rq2 rfl rfl (aS rfl rfl ?_))
 refine al rfl FxGrBb.zr29 ?_; intro b9
 refine .nil (.code (.seq (.seq (rq3 rfl rfl (mV rfl rfl (kv rfl .no Fx.go40 (Evc rfl Evn) (fun _=>usable_ok bx d _ hbx) ?_))))))
 refine aS rfl rfl (.nil (.code (.seq (rq2 rfl rfl (mV rfl rfl (cp rfl .no (.u rfl) (.u rfl) rfl (.nil (.code (.cond rfl (fun c1=>?_) (fun c1=>?_))))))))))
 ·have c1k:=c1
  exact absurd c1 (by decide)
 have c1k:=c1
 try simp only [qcA,qcC,qcB] at c1
 refine .skip (.code (.seq (Wk.defers [0] 1 (DQ.d ⟨41,[.pointer (some ⟨bx,0,none⟩),.pointer (some ⟨b9,0,none⟩)],[]⟩) (fun _ _ _ _=>False) (fun _ _ _ _ _ _ hq=>hq.elim) rfl rfl ?_)))
 refine mV rfl rfl (.nil ⟨DefOp.fn rfl (Evc rfl (Evc rfl Evn)),?_⟩)
 refine .code (.seq (rq8 rfl rfl (mV rfl rfl (mV rfl rfl (kv rfl .no Fx.go42 (Evc rfl (Evc rfl Evn)) (fun _=>askGe_ok bx d _ hbx m hm) ?_)))))
 refine mV rfl rfl (ex rfl .no (.u rfl) rfl (ex rfl .no (.u rfl) rfl (aS rfl rfl (aS rfl rfl (.nil (.code (.seq (.seq (rq2 rfl rfl (mV rfl rfl (nt rfl .no (.u rfl) (.nil (.code (.cond rfl (fun c2=>?_) (fun c2=>?_)))))))))))))))
 ·have c2k:=c2
  cases c2
 have c2k:=c2
 try simp only [qcA,qcC,qcB] at c2
 refine .skip (.code (.seq (Wk.draw (mc:=⟨false,false⟩) [0,1,2,3,5,6,7,8,4,9,10,11] Fx.mix (by kernel_rfl) ?_)))
 refine mV rfl rfl (nc rfl .no (.u rfl) (fa rfl .no Fx.fo124_13 (.u rfl) (ld rfl .no Fx.ag122 (.u rfl) (fun _=>(hbx.rd (rfl)).rd) ?_)))
 refine mV rfl rfl (nc rfl .no (.u rfl) (fa rfl .no Fx.fo124_14 (.u rfl) (ld rfl .no Fx.ag122 (.u rfl) (fun _=>(hbx.rd (rfl)).rd) ?_)))
 refine kv rfl .no Fx.go49 (Evc rfl Evn) (fun _=>lAll0_ok d.now h xs sz w _ hbl hs hW hn hl) ?_
 refine kv rfl .no Fx.go49 (Evc rfl Evn) (fun _=>allN_ok _) ?_
 refine Go.Tan.bN rfl Fx.se137 Fx.zv135 (Evp.cons (.u rfl) (Evp.cons (.u rfl) Evp.nil)) rfl (by decide) (one2 rfl rfl) ?_; intro b42
 refine aS rfl rfl (.nil (.code (.seq (.seq (rq6 rfl rfl (mV rfl rfl (nc rfl .no (.u rfl) (fa rfl .no Fx.fo124_5 (.u rfl) (fa rfl .no Fx.fo64_0 (.u rfl) (lA rfl .no Fx.ag61 (.u rfl) (fun _=>(hbx.rdn (m:=5) (cs':=(List.range 5).map (fun _=>.slice none 0 0)) (by show (d.s.cells d.hd).take 5=_; rw [hst]; rfl)).rd) (fun _=>rfl) (mV rfl rfl (.nil (.code (.block ?_))))))))))))))
 refine Wk.lop (α:=Nat) (fun k=>[(13,true,.slice (some ⟨b42,0,none⟩) 2 2),(48,true,.int .i64 (k:Int))]) (fun _=>[])
  (fun k Gl=>(k≤5)) (fun k=>5-k) 0 [(0,true,_),(1,true,_),(2,true,_),(9,true,_),(11,true,_),(47,true,_)] [_,_]
  (esD rfl (esC rfl (by first|rfl|exact evi (by omega)) (esD rfl (esD rfl (esD rfl (esD rfl (esD rfl (esD rfl eZ))))))))
  (mS .here rfl (mS .here rfl mN)) ?_ ?_
 ·(try dsimp only)<;>(first|omega|rfl|assumption|(simp; done))
 intro k N0 Gl0 hN0 hGl0 hF0
 try dsimp only at hF0 hN0 ⊢
 have hk:=hF0
 refine .seq (rq1 rfl rfl (cp rfl .no (.u rfl) (.u rfl) rfl (.nil (.code (.seq (.cond rfl (fun c3=>?_) (fun c3=>?_)))))))
 ·have c3k:=c3
  try simp only [qcA,qcC,qcB] at c3
  refine .skip (.code (.seq (.block (.seq (rq2 rfl rfl (ix rfl .no Fx.ar61 Fx.ag60 (.u rfl) (.u rfl) (fun _=>by omega) (fun _=>by omega) (fun _=>nil5 (by omega)) ?_))))))
  refine aS rfl rfl (.nil (.code (.seq (rq3 rfl rfl (mV rfl rfl (ln rfl .no Fx.sn60 (.u rfl) (mV rfl rfl (.nil (.code (.block ?_))))))))))
  refine Wk.lop (α:=Nat) (fun j=>[(13,true,.slice (some ⟨b42,0,none⟩) 2 2),(53,true,.int .i64 (j:Int))]) (fun _=>[])
   (fun j Gl=>(j=0)) (fun j=>0) 0 [(0,true,_),(1,true,_),(2,true,_),(9,true,_),(11,true,_),(47,true,_),(48,true,_),(51,true,_),(52,true,_)] [_,_]
   (esD rfl (esC rfl (by first|rfl|exact evi (by omega)) (esD rfl (esD rfl (esD rfl (esD rfl (esD rfl (esD rfl (esD rfl (esD rfl (esD rfl eZ)))))))))))
   (mS .here rfl (mS .here rfl mN)) ?_ ?_
  ·(try dsimp only)<;>(first|omega|rfl|assumption|(simp; done))
  intro j N1 Gl1 hN1 hGl1 hF1
  try dsimp only at hF1 hN1 ⊢
  have hj:=hF1
  refine .seq (rq1 rfl rfl (cp rfl .no (.u rfl) (.u rfl) rfl (.nil (.code (.seq (.cond rfl (fun c4=>?_) (fun c4=>?_)))))))
  ·have c4k:=c4
   subst hj; cases c4
  have c4k:=c4
  try simp only [qcA,qcC,qcB] at c4
  refine .exit (.xcode (.xlp (.xblk (.blk (.code (rq2 rfl rfl (arn (((k+1):Nat):Int) rfl .no (.u rfl) (.u rfl) rfl (fun _=>by omega) (fun _=>wrap_i64 (by omega) (by omega)) ?_)))))))
  refine mV rfl rfl (.nil (We.lpo (k+1) ?_ ?_ ?_ ?_ ?_))
  ·exact (esD rfl (esC rfl (by first|rfl|exact evi (by omega)) (esD rfl (esD rfl (esD rfl (esD rfl (esD rfl (esD rfl eZ))))))))
  ·exact (mS .here rfl (mS .here rfl mN))
  ·first|omega|(dsimp only; omega)
  ·exact (hGl0).trans hGl1
  (try dsimp only)<;>(first|omega|rfl|assumption|(simp; done))
 have c3k:=c3
 try simp only [qcA,qcC,qcB] at c3
 refine .exit (.xcode (.xlp (.xblk (.code (.seq (rq9 rfl rfl (mV rfl rfl (kp rfl .no Fx.go53 (Evc rfl Evn) (Gp.add .here Gp.nil) (fun _ hle hq=>merge0_ok ⟨some ⟨b42,0,none⟩,2⟩ [(),()] _ (SlR.ofBlk (xs:=[(),()]) (PM.add_same _ _ _) (fun _ _=>rfl) (by decide)) (by decide) (by decide)) ?_))))))))
 refine mV rfl rfl (kv rfl .no Fx.go52 (Evc rfl (Evc rfl Evn)) (fun _=>view0_ok _ _) ?_)
 refine mV rfl rfl (mV rfl rfl (kv rfl .no Fx.go51 (Evc rfl (Evc rfl (Evc rfl Evn))) (fun _=>range0_ok _ _ _) ?_))
 refine aS rfl rfl (s1 rfl (.u rfl) (.u rfl) rfl Fx.sz29 tk1 (by first|decide|(simp only [wa_len,ba_len,qlA]; omega)) (rfl) ?_)
 refine .nil (.code (.ret (We.finQ [⟨41,[.pointer (some ⟨bx,0,none⟩),.pointer (some ⟨b9,0,none⟩)],[]⟩] rfl (by intro q hq; rw [List.mem_singleton.1 hq]; exact ⟨Fx.go41,fun w hw=>guard_ret w _ _⟩) Tryz.results13 (.tmp rfl (.cell rfl (fun w hw=>run_loadVar1 Fx.ag29 (Rd.own .here rfl w hw)) .nil)) mN ?_)))
 exact ⟨rfl,rfl⟩
theorem openN1_ok (bt:Nat) (root:Nat→Y) (o:Opts) (G:PM):Ct Tryz.prog 25 ([.pointer none,.pointer (some ⟨bt,0,none⟩),.agg (ba 32 root).toArray,o.val]:List Value).toArray G [] (fun _ μ' u=>μ'=[]∧u=.tuple #[.pointer none,.int .i64 2]):=by
 refine Ct.of Tryz.func25 rfl Tryz.ntmps25 rfl fun w0 hs0=>?_
 refine .seq (rq4 rfl rfl ?_)
 refine bx rfl (.u rfl) rfl ?_; intro b6
 refine bx rfl (.u rfl) rfl ?_; intro b7
 refine al rfl Fx.zr44 ?_; intro b8
 refine al rfl FxGrBb.zr29 ?_; intro b9
 refine .nil (.code (.seq (.block (.seq (rq7 rfl rfl (mV rfl rfl (pe0 rfl .no Fx.pt72 (.u rfl) (.u rfl) ?_)))))))
 refine mV rfl rfl (mv rfl (.f rfl rfl) (.u rfl) (pe rfl (.f rfl rfl) Fx.pt68 (.s rfl) (.u rfl) ?_))
 refine pkO rfl .no (.u rfl) (.s rfl) (aS rfl rfl (.nil (.code (.cond rfl (fun c1=>?_) (fun c1=>?_)))))
 ·have c1k:=c1
  try simp only [qcA,qcC,qcB] at c1
  refine .seq (rq2 rfl rfl (s1 rfl (.u rfl) (.u rfl) rfl Fx.sz44 tk1 (by first|decide|(simp only [wa_len,ba_len,qlA]; omega)) (rfl) ?_))
  refine s1 rfl (.u rfl) (.u rfl) rfl Fx.sz29 tk1 (by first|decide|(simp only [wa_len,ba_len,qlA]; omega)) (rfl) ?_
  refine .nil (.code (.ret (We.fin0 Tryz.results25 (.cell rfl (fun w hw=>run_loadVar1 Fx.ag44 (Rd.own tk1 rfl w hw)) (.cell rfl (fun w hw=>run_loadVar1 Fx.ag29 (Rd.own .here rfl w hw)) .nil)) ?_)))
  exact ⟨rfl,rfl⟩
 have c1k:=c1
 simp at c1
theorem openN2_ok (bd:Nat) (root:Nat→Y) (o:Opts) (G:PM):Ct Tryz.prog 25 ([.pointer (some ⟨bd,0,none⟩),.pointer none,.agg (ba 32 root).toArray,o.val]:List Value).toArray G [] (fun _ μ' u=>μ'=[]∧u=.tuple #[.pointer none,.int .i64 2]):=by
 refine Ct.of Tryz.func25 rfl Tryz.ntmps25 rfl fun w0 hs0=>?_
 refine .seq (rq4 rfl rfl ?_)
 refine bx rfl (.u rfl) rfl ?_; intro b6
 refine bx rfl (.u rfl) rfl ?_; intro b7
 refine al rfl Fx.zr44 ?_; intro b8
 refine al rfl FxGrBb.zr29 ?_; intro b9
 refine .nil (.code (.seq (.block (.seq (rq7 rfl rfl (mV rfl rfl (pe rfl .no Fx.pt72 (.u rfl) (.u rfl) ?_)))))))
 refine mV rfl rfl (mv rfl (.f rfl rfl) (.u rfl) (pe0 rfl (.f rfl rfl) Fx.pt68 (.s rfl) (.u rfl) ?_))
 refine pkO rfl .no (.u rfl) (.s rfl) (aS rfl rfl (.nil (.code (.cond rfl (fun c1=>?_) (fun c1=>?_)))))
 ·have c1k:=c1
  try simp only [qcA,qcC,qcB] at c1
  refine .seq (rq2 rfl rfl (s1 rfl (.u rfl) (.u rfl) rfl Fx.sz44 tk1 (by first|decide|(simp only [wa_len,ba_len,qlA]; omega)) (rfl) ?_))
  refine s1 rfl (.u rfl) (.u rfl) rfl Fx.sz29 tk1 (by first|decide|(simp only [wa_len,ba_len,qlA]; omega)) (rfl) ?_
  refine .nil (.code (.ret (We.fin0 Tryz.results25 (.cell rfl (fun w hw=>run_loadVar1 Fx.ag44 (Rd.own tk1 rfl w hw)) (.cell rfl (fun w hw=>run_loadVar1 Fx.ag29 (Rd.own .here rfl w hw)) .nil)) ?_)))
  exact ⟨rfl,rfl⟩
 have c1k:=c1
 simp at c1
theorem openBad_ok (bd bt:Nat) (root:Nat→Y) (o:Opts) (G:PM) (hO:rightO o=false):Ct Tryz.prog 25 ([.pointer (some ⟨bd,0,none⟩),.pointer (some ⟨bt,0,none⟩),.agg (ba 32 root).toArray,o.val]:List Value).toArray G [] (fun _ μ' u=>μ'=[]∧u=.tuple #[.pointer none,.int .i64 1]):=by
 refine Ct.of Tryz.func25 rfl Tryz.ntmps25 rfl fun w0 hs0=>?_
 refine .seq (rq4 rfl rfl ?_)
 refine bx rfl (.u rfl) rfl ?_; intro b6
 refine bx rfl (.u rfl) rfl ?_; intro b7
 refine al rfl Fx.zr44 ?_; intro b8
 refine al rfl FxGrBb.zr29 ?_; intro b9
 refine .nil (.code (.seq (.block (.seq (rq7 rfl rfl (mV rfl rfl (pe rfl .no Fx.pt72 (.u rfl) (.u rfl) ?_)))))))
 refine mV rfl rfl (mv rfl (.f rfl rfl) (.u rfl) (pe rfl (.f rfl rfl) Fx.pt68 (.s rfl) (.u rfl) ?_))
 refine pkO rfl .no (.u rfl) (.s rfl) (aS rfl rfl (.nil (.code (.cond rfl (fun c1=>?_) (fun c1=>?_)))))
 ·have c1k:=c1
  cases c1
 have c1k:=c1
 try simp only [qcA,qcC,qcB] at c1
 refine .seq (rq4 rfl rfl (lA rfl .no Fx.ag40 (.u rfl) (fun _=>RdN.part (n:=7) (cs':=o.cells) tk2 (rfl)) (fun _=>rfl) ?_))
 refine kv rfl .no Fx.go28 (Evc rfl Evn) (fun _=>oright_ok o _) ?_
 refine nt rfl .no (.u rfl) (aS rfl rfl (.nil (.code (.cond rfl (fun c2=>?_) (fun c2=>?_)))))
 ·have c2k:=c2
  try simp only [qcA,qcC,qcB] at c2
  refine .seq (rq2 rfl rfl (s1 rfl (.u rfl) (.u rfl) rfl Fx.sz44 tk1 (by first|decide|(simp only [wa_len,ba_len,qlA]; omega)) (rfl) ?_))
  refine s1 rfl (.u rfl) (.u rfl) rfl Fx.sz29 tk1 (by first|decide|(simp only [wa_len,ba_len,qlA]; omega)) (rfl) ?_
  refine .nil (.code (.ret (We.fin0 Tryz.results25 (.cell rfl (fun w hw=>run_loadVar1 Fx.ag44 (Rd.own tk1 rfl w hw)) (.cell rfl (fun w hw=>run_loadVar1 Fx.ag29 (Rd.own .here rfl w hw)) .nil)) ?_)))
  exact ⟨rfl,rfl⟩
 have c2k:=c2
 rw [hO] at c2; cases c2
end Go.Proofs.YtggleibgadkodaaGreatDoor
namespace Go.Proofs.YtggleibgadkodaaGreatDoor
open Go.Tan Go.RowKit Go.Maps Go.Sort Go.Shelf
namespace FxDnC
theorem zr40:zrL Tryz.prog 40=some ([.int .i64 0,.int .i64 0,.int .i64 0,.int .i64 0,.int .i64 0,.int .i64 0,.int .i64 0]):=by kernel_rfl
theorem bp38_0_1_2:bPl Tryz.prog 38 [0,1,2]=some ([.int .i64 0,.int .i64 0,.int .i64 0],[(0,1),(1,1),(2,1)]):=by kernel_rfl
theorem bp40_0_1_2_3_4:bPl Tryz.prog 40 [0,1,2,3,4]=some ([.int .i64 0,.int .i64 0,.int .i64 0,.int .i64 0,.int .i64 0,.int .i64 0,.int .i64 0],[(0,1),(1,1),(2,1),(3,1),(4,3)]):=by kernel_rfl
theorem sz40:szT Tryz.prog 40=some 7:=by kernel_rfl
theorem bp185_:bPl Tryz.prog 185 []=some ([.slice none 0 0,.slice none 0 0],[]):=by kernel_rfl
theorem go27:goFn Tryz.prog 27=true:=by kernel_rfl
theorem go26:goFn Tryz.prog 26=true:=by kernel_rfl
theorem go25:goFn Tryz.prog 25=true:=by kernel_rfl
end FxDnC
namespace Fx
theorem fo106_1:fOff Tryz.prog 106 1=some 32:=by kernel_rfl
theorem ag104:aggN Tryz.prog 104=some none:=by kernel_rfl
theorem cv104_3:cvK Tryz.prog 104 3=some .i64:=by kernel_rfl
theorem fo106_2:fOff Tryz.prog 106 2=some 33:=by kernel_rfl
theorem fo106_4:fOff Tryz.prog 106 4=some 35:=by kernel_rfl
theorem fo106_3:fOff Tryz.prog 106 3=some 34:=by kernel_rfl
theorem fo106_6:fOff Tryz.prog 106 6=some 37:=by kernel_rfl
theorem fo106_5:fOff Tryz.prog 106 5=some 36:=by kernel_rfl
theorem ag106:aggN Tryz.prog 106=some (some 38):=by kernel_rfl
theorem bp109_0_1_2_4:bPl Tryz.prog 109 [0,1,2,4]=some ([.int .u8 0,.int .u8 0,.int .u8 0,.int .u8 0,.int .u8 0,.int .u8 0,.int .u8 0,.int .u8 0,.int .u8 0,.int .u8 0,.int .u8 0,.int .u8 0,.int .u8 0,.int .u8 0,.int .u8 0,.int .u8 0,.int .u8 0,.int .u8 0,.int .u8 0,.int .u8 0,.int .u8 0,.int .u8 0,.int .u8 0,.int .u8 0,.int .u8 0,.int .u8 0,.int .u8 0,.int .u8 0,.int .u8 0,.int .u8 0,.int .u8 0,.int .u8 0,.int .u16 0,.int .u16 0,.int .u16 0,.int .u8 0,.int .u8 0,.int .u8 0,.pointer none,.pointer none,.pointer none,.pointer none,.int .i64 0,.bool false,.slice none 0 0,.slice none 0 0,.bool false],[(0,38),(38,1),(39,1),(41,1)]):=by kernel_rfl
theorem fo109_1:fOff Tryz.prog 109 1=some 38:=by kernel_rfl
theorem fo109_2:fOff Tryz.prog 109 2=some 39:=by kernel_rfl
theorem fo106_0:fOff Tryz.prog 106 0=some 0:=by kernel_rfl
theorem go88:goFn Tryz.prog 88=true:=by kernel_rfl
theorem fo109_3:fOff Tryz.prog 109 3=some 40:=by kernel_rfl
end Fx
theorem opt23_ok (G:PM):Ct Tryz.prog 88 ([.agg how0.toArray]:List Value).toArray G [] (fun _ μ' u=>μ'=[]∧u=(⟨1,1,1,1,1,1,10⟩ : Opts).val):=by
 refine Ct.of Tryz.func88 rfl Tryz.ntmps88 rfl fun w0 hs0=>?_
 refine .seq (rq2 rfl rfl ?_)
 refine bx rfl (.u rfl) rfl ?_; intro b1
 refine al rfl FxDnC.zr40 ?_; intro b2
 refine .nil (.code (.seq (Wk.rg [0,1,2,3,4,5,6,7,8,9,10,11,12,13,14,15,16,17,18,19,20,21,22,23,24,25,26,27,28,29,30,31] rfl rfl (fz rfl .no Fx.fo106_1 (.u rfl) (ld rfl .no Fx.ag104 (.u rfl) (fun _=>Rd.own tk1 rfl) ?_)))))
 refine mw (k:=.u16) (b:=1000#16) rfl .no (.u rfl) (.u rfl) (fun _=>show (1000#16:BitVec 16)≠0#16 by decide) ?_
 refine cn (k:=.u16) rfl .no Fx.cv104_3 (by decide) (.u rfl) ?_; intro m6 em6 lm6
 refine arn ((1:Nat):Int) rfl .no (.u rfl) (.u rfl) rfl (fun _=>by rw [em6]; rfl) (fun _=>wrap_i64 (by omega) (by omega)) ?_
 refine fz rfl .no Fx.fo106_2 (.u rfl) (ld rfl .no Fx.ag104 (.u rfl) (fun _=>Rd.own tk1 rfl) ?_)
 refine mw (k:=.u16) (b:=1000#16) rfl .no (.u rfl) (.u rfl) (fun _=>show (1000#16:BitVec 16)≠0#16 by decide) ?_
 refine cn (k:=.u16) rfl .no Fx.cv104_3 (by decide) (.u rfl) ?_; intro m11 em11 lm11
 refine arn ((1:Nat):Int) rfl .no (.u rfl) (.u rfl) rfl (fun _=>by rw [em11]; rfl) (fun _=>wrap_i64 (by omega) (by omega)) ?_
 refine fz rfl .no Fx.fo106_4 (.u rfl) (ld rfl .no Fx.ag5 (.u rfl) (fun _=>Rd.own tk1 rfl) ?_)
 refine mw (k:=.u8) (b:=8#8) rfl .no (.u rfl) (.u rfl) (fun _=>show (8#8:BitVec 8)≠0#8 by decide) ?_
 refine cn (k:=.u8) rfl .no Fx.cv5_3 (by decide) (.u rfl) ?_; intro m16 em16 lm16
 refine arn ((1:Nat):Int) rfl .no (.u rfl) (.u rfl) rfl (fun _=>by rw [em16]; rfl) (fun _=>wrap_i64 (by omega) (by omega)) ?_
 refine fz rfl .no Fx.fo106_3 (.u rfl) (ld rfl .no Fx.ag104 (.u rfl) (fun _=>Rd.own tk1 rfl) ?_)
 refine mw (k:=.u16) (b:=5000#16) rfl .no (.u rfl) (.u rfl) (fun _=>show (5000#16:BitVec 16)≠0#16 by decide) ?_
 refine cn (k:=.u16) rfl .no Fx.cv104_3 (by decide) (.u rfl) ?_; intro m21 em21 lm21
 refine arn ((1:Nat):Int) rfl .no (.u rfl) (.u rfl) rfl (fun _=>by rw [em21]; rfl) (fun _=>wrap_i64 (by omega) (by omega)) ?_
 refine fz rfl .no Fx.fo106_6 (.u rfl) (ld rfl .no Fx.ag5 (.u rfl) (fun _=>Rd.own tk1 rfl) ?_)
 refine cn (k:=.u8) rfl .no Fx.cv5_3 (by decide) (.u rfl) ?_; intro m25 em25 lm25
 refine arn ((1:Nat):Int) rfl .no (.u rfl) (.u rfl) rfl (fun _=>by rw [em25]; rfl) (fun _=>wrap_i64 (by omega) (by omega)) ?_
 refine fz rfl .no Fx.fo106_5 (.u rfl) (ld rfl .no Fx.ag5 (.u rfl) (fun _=>Rd.own tk1 rfl) ?_)
 refine mw (k:=.u8) (b:=20#8) rfl .no (.u rfl) (.u rfl) (fun _=>show (20#8:BitVec 8)≠0#8 by decide) ?_
 refine cn (k:=.u8) rfl .no Fx.cv5_3 (by decide) (.u rfl) ?_; intro m30 em30 lm30
 refine arn ((1:Nat):Int) rfl .no (.u rfl) (.u rfl) rfl (fun _=>by rw [em30]; rfl) (fun _=>wrap_i64 (by omega) (by omega)) ?_
 refine bCe ([.int .i64 1,.int .i64 1,.int .i64 10]) rfl .no FxDnC.bp38_0_1_2 (.cons (.u rfl) rfl (.cons (.u rfl) rfl (.cons (.u rfl) rfl .nil))) rfl (rfl) (bCe (Opts.cells (⟨1,1,1,1,1,1,10⟩ : Opts)) rfl .no FxDnC.bp40_0_1_2_3_4 (.cons (.u rfl) rfl (.cons (.u rfl) rfl (.cons (.u rfl) rfl (.cons (.u rfl) rfl (.cons (.u rfl) rfl .nil))))) rfl (rfl) (sw rfl (.u rfl) (.u rfl) rfl FxDnC.sz40 .here rfl (by first|exact ba_one _ _|exact wa_one _ _|exact one_V _|decide|exact one_app (wa_one _ _) (by simp [Value.oneCell'])) ?_))
 refine .nil (.code (.ret (We.fin0 Tryz.results88 (.cell rfl (fun w hw=>run_loadVarN Fx.ag40 (RdN.own .here) (rfl) hw) .nil) ?_)))
 exact ⟨rfl,rfl⟩
set_option maxHeartbeats 1000000 in
theorem built23_ok (G:PM) (hK:RdNP G 0 0 (wa 64 kW)):Ct Tryz.prog 39 ([.agg how0.toArray,.int .i64 10000]:List Value).toArray G [] (fun G' μ' u=>∃ (bh bd bm bt bq held now b1:Nat) (v:Value) (F:List Fi),v.oneCell'=true∧DkR F 3∧F.map Fi.nm=[nmB 3 0,nmB 4 0]∧szF F≤2000∧PB G' bh (cl (how0++[pt bd,pt bt,pt bq,pt b1,.int .i64 0,.bool false,.slice none 0 0,.slice none 0 0,.bool false]) 109)∧μ'=[.blk bq (cl (Db.cells (Db.d3 bd bt (fun _=>0#8) (⟨1,1,1,1,1,1,10⟩ : Opts) 1#64 held now)) 124),.blk bd (cl (dkC bm 10000 5) 178),.blk bm (mO ((F).map Fi.fe) 3),.blk bt (cl [uv .u64 1#64,uv .u64 1#64] 175),.blk now (cl [v,.int .i64 ((0:Nat):Int)] 202),rS 16 Nd.cells v 199 [Nd.z],.mp held .u64 (fun _=>none)]∧u=.tuple #[pt bh,.bool true]):=by
 refine Ct.of Tryz.func39 rfl Tryz.ntmps39 rfl fun w0 hs0=>?_
 refine .seq (rq3 rfl rfl ?_)
 refine bx rfl (.u rfl) rfl ?_; intro b2
 refine aS rfl rfl (aS rfl rfl (.nil (.code (.seq ?_))))
 refine Wk.jn (α:=Nat×Nat×Nat×Nat×Nat) (fun gh=>[(6,true,pt gh.2.2.2.2)]) (fun gh=>[.blk gh.1 (cl (dkC gh.2.1 10000 0) 178),.blk gh.2.1 (mO [] 0),.blk gh.2.2.1 (cl [uv .u64 0#64,uv .u64 0#64] 175),.blk gh.2.2.2.1 (cl [.slice none 0 0,.slice none 0 0] 185),.blk gh.2.2.2.2 (cl (how0++[pt gh.1,pt gh.2.2.1,.pointer none,pt gh.2.2.2.1,.int .i64 0,.bool false,.slice none 0 0,.slice none 0 0,.bool false]) 109)]) (fun gh Gl=>True) [(2,true,_)] [_]
  (esD rfl eZ) (mS .here rfl mN) ?_ ?_
 ·refine Wk.mixp ⟨false,false⟩ Fx.mix (by kernel_rfl) ?_
  refine Wp.one 0 (by kernel_rfl) ?_
  refine lA rfl .no Fx.ag106 (.u rfl) (fun _=>RdN.part (n:=38) (cs':=how0) .here (rfl)) (fun _=>how_len) ?_
  refine .nil (Wp.one 1 (by kernel_rfl) ?_)
  refine mV rfl rfl (.nil (Wp.one 4 (by kernel_rfl) ?_))
  refine bCe ([.slice none 0 0,.slice none 0 0]) rfl .no FxDnC.bp185_ .nil rfl (rfl) ?_
  refine .nil (Wp.b2 2 5 (by kernel_rfl) ?_ ?_)
  ·refine kc rfl FxDnC.go27 (Evc rfl Evn) (dnew_ok 10000 _ (by decide)) ?_
   rintro _ G11 μ11 hG11 ⟨bd,bm,rfl,rfl⟩
   have hK:=hK.mono hG11
   refine .nil (Wp.b2 3 5 (by kernel_rfl) ?_ ?_)
   ·refine kc rfl FxDnC.go26 Evn (tnew_ok _) ?_
    rintro _ G12 μ12 hG12 ⟨bt,rfl,rfl⟩
    have hK:=hK.mono hG12
    refine .nil (Wp.b1 5 (by kernel_rfl) ?_)
    refine bx rfl (.u rfl) rfl ?_; intro b14
    refine .nil (Wp.one 6 (by kernel_rfl) ?_)
    refine bCe ((how0++[pt bd,pt bt,.pointer none,pt b14,.int .i64 0,.bool false,.slice none 0 0,.slice none 0 0,.bool false])) rfl .no Fx.bp109_0_1_2_4 (.cons (.u rfl) rfl (.cons (.u rfl) rfl (.cons (.u rfl) rfl (.cons (.u rfl) rfl .nil)))) rfl (rfl) (.nil (Wp.b1 7 (by kernel_rfl) ?_))
    refine bx rfl (.u rfl) rfl ?_; intro b16
    refine .nil (Wp.one 8 (by kernel_rfl) ?_)
    refine aS rfl rfl (.nil (Wp.last (by kernel_rfl) ?_))
    refine We.lpo (bd,bm,bt,b14,b16) ?_ ?_ ?_ ?_ ?_
    ·exact (esD rfl (esD rfl eZ))
    ·exact (mS tk3 rfl (mS tk3 rfl (mS tk2 rfl (mS tk1 rfl (mS .here rfl (mS .here rfl mN))))))
    ·exact zro_lt _
    ·exact (hG11).trans hG12
    trivial
   refine bx rfl (.u rfl) rfl ?_; intro b14
   refine .nil (Wp.b1 3 (by kernel_rfl) ?_)
   refine kc rfl FxDnC.go26 Evn (tnew_ok _) ?_
   rintro _ G12 μ12 hG12 ⟨bt,rfl,rfl⟩
   have hK:=hK.mono hG12
   refine .nil (Wp.one 6 (by kernel_rfl) ?_)
   refine bCe ((how0++[pt bd,pt bt,.pointer none,pt b14,.int .i64 0,.bool false,.slice none 0 0,.slice none 0 0,.bool false])) rfl .no Fx.bp109_0_1_2_4 (.cons (.u rfl) rfl (.cons (.u rfl) rfl (.cons (.u rfl) rfl (.cons (.u rfl) rfl .nil)))) rfl (rfl) (.nil (Wp.b1 7 (by kernel_rfl) ?_))
   refine bx rfl (.u rfl) rfl ?_; intro b16
   refine .nil (Wp.one 8 (by kernel_rfl) ?_)
   refine aS rfl rfl (.nil (Wp.last (by kernel_rfl) ?_))
   refine We.lpo (bd,bm,bt,b14,b16) ?_ ?_ ?_ ?_ ?_
   ·exact (esD rfl (esD rfl eZ))
   ·exact (mS tk3 rfl (mS tk3 rfl (mS tk1 rfl (mS tk1 rfl (mS .here rfl (mS .here rfl mN))))))
   ·exact zro_lt _
   ·exact (hG11).trans hG12
   trivial
  refine bx rfl (.u rfl) rfl ?_; intro b14
  refine .nil (Wp.b1 2 (by kernel_rfl) ?_)
  refine kc rfl FxDnC.go27 (Evc rfl Evn) (dnew_ok 10000 _ (by decide)) ?_
  rintro _ G11 μ11 hG11 ⟨bd,bm,rfl,rfl⟩
  have hK:=hK.mono hG11
  refine .nil (Wp.b1 3 (by kernel_rfl) ?_)
  refine kc rfl FxDnC.go26 Evn (tnew_ok _) ?_
  rintro _ G12 μ12 hG12 ⟨bt,rfl,rfl⟩
  have hK:=hK.mono hG12
  refine .nil (Wp.one 6 (by kernel_rfl) ?_)
  refine bCe ((how0++[pt bd,pt bt,.pointer none,pt b14,.int .i64 0,.bool false,.slice none 0 0,.slice none 0 0,.bool false])) rfl .no Fx.bp109_0_1_2_4 (.cons (.u rfl) rfl (.cons (.u rfl) rfl (.cons (.u rfl) rfl (.cons (.u rfl) rfl .nil)))) rfl (rfl) (.nil (Wp.b1 7 (by kernel_rfl) ?_))
  refine bx rfl (.u rfl) rfl ?_; intro b16
  refine .nil (Wp.one 8 (by kernel_rfl) ?_)
  refine aS rfl rfl (.nil (Wp.last (by kernel_rfl) ?_))
  refine We.lpo (bd,bm,bt,b14,b16) ?_ ?_ ?_ ?_ ?_
  ·exact (esD rfl (esD rfl eZ))
  ·exact (mS tk2 rfl (mS tk2 rfl (mS tk1 rfl (mS tk1 rfl (mS .here rfl (mS .here rfl mN))))))
  ·exact zro_lt _
  ·exact (hG11).trans hG12
  trivial
 intro gh Glj1 hGlj1 hFj1
 obtain ⟨bd,bm,bt,b14,b16⟩:=gh; dsimp only at hFj1 ⊢
 have hK:=hK.mono hGlj1
 refine .code (.seq (.seq (Wk.rg [0,1,2,3,4,5,6,7,8,9,10,11] rfl rfl (mV rfl rfl (nc rfl .no (.u rfl) (fz rfl .no Fx.fo109_1 (.u rfl) (ld rfl .no Fx.ag72 (.u rfl) (fun _=>Rd.own tk4 rfl) ?_)))))))
 refine pe rfl .no Fx.pt72 (.u rfl) (.u rfl) ?_
 refine mV rfl rfl (mv rfl (Gd.f (b:=false) rfl rfl) (.u rfl) (nc rfl (Gd.f (b:=false) rfl rfl) (.u rfl) (fz rfl (Gd.f (b:=false) rfl rfl) Fx.fo109_2 (.u rfl) (ld rfl (Gd.f (b:=false) rfl rfl) Fx.ag68 (.u rfl) (fun _=>Rd.own tk4 rfl) ?_))))
 refine pe rfl (Gd.f (b:=false) rfl rfl) Fx.pt68 (.u rfl) (.u rfl) ?_
 refine pkO rfl .no (.u rfl) (.u rfl) (.nil (.code (.cond rfl (fun c1=>?_) (fun c1=>?_))))
 ·have c1k:=c1
  cases c1
 have c1k:=c1
 try simp only [qcA,qcC,qcB] at c1
 refine .skip (.code (.seq ?_))
 refine wk_fz tk5 (by intro b hb; cases hb) ?_; intro Gfb2 hleb2 hbb2
 have hK:=hK.mono hleb2
 refine Wk.jn (α:=Nat×Nat×Nat×Value×List Fi) (fun gh=>[(7,true,pt gh.1),(8,true,.int .i64 0)]) (fun gh=>[.blk gh.1 (cl (Db.cells (Db.d3 bd bt (fun _=>0#8) (⟨1,1,1,1,1,1,10⟩ : Opts) 1#64 gh.2.1 gh.2.2.1)) 124),.blk bd (cl (dkC bm 10000 5) 178),.blk bm (mO ((gh.2.2.2.2).map Fi.fe) 3),.blk bt (cl [uv .u64 1#64,uv .u64 1#64] 175),.blk gh.2.2.1 (cl [gh.2.2.2.1,.int .i64 ((0:Nat):Int)] 202),rS 16 Nd.cells gh.2.2.2.1 199 [Nd.z],.mp gh.2.1 .u64 (fun _=>none)]) (fun gh Gl=>(gh.2.2.2.1.oneCell'=true)∧(DkR gh.2.2.2.2 3)∧(gh.2.2.2.2.map Fi.nm=[nmB 3 0,nmB 4 0])∧(szF gh.2.2.2.2≤2000)) [(6,true,_)] [_,_]
  (esD rfl eZ) (mS tk3 rfl (mS tk3 rfl mN)) ?_ ?_
 ·refine Wk.mixp ⟨true,false⟩ Fx.mix (by kernel_rfl) ?_
  refine Wp.one 0 (by kernel_rfl) ?_
  refine mV rfl rfl (.nil (Wp.one 1 (by kernel_rfl) ?_))
  refine nc rfl .no (.u rfl) (.nil (Wp.one 2 (by kernel_rfl) ?_))
  refine fz rfl .no Fx.fo109_1 (.u rfl) (.nil (Wp.one 4 (by kernel_rfl) ?_))
  refine mV rfl rfl (.nil (Wp.one 5 (by kernel_rfl) ?_))
  refine nc rfl .no (.u rfl) (.nil (Wp.one 6 (by kernel_rfl) ?_))
  refine fz rfl .no Fx.fo109_2 (.u rfl) (.nil (Wp.one 8 (by kernel_rfl) ?_))
  refine fa rfl .no Fx.fo106_0 (.u rfl) (.nil (Wp.one 10 (by kernel_rfl) ?_))
  refine lA rfl .no Fx.ag106 (.u rfl) (fun _=>(hbb2.rdn (m:=38) (cs':=how0) (rfl)).rd) (fun _=>how_len) ?_
  refine .nil (Wp.pr 9 (by kernel_rfl) ?_)
  refine lA rfl .no Fx.ag71 (.u rfl) (fun _=>(hbb2.rdn (m:=32) (cs':=ba 32 (fun _=>0#8)) (rfl)).rd) (fun _=>(ba_len _ _)) ?_
  refine .nil ⟨⟨rfl,rfl⟩,?_⟩
  refine Wp.b3 3 7 11 (by kernel_rfl) ?_ ?_ ?_
  ·refine ld rfl .no Fx.ag72 (.u rfl) (fun _=>Rd.own tk4 rfl) ?_
   refine .nil (Wp.b2 7 11 (by kernel_rfl) ?_ ?_)
   ·refine ld rfl .no Fx.ag68 (.u rfl) (fun _=>Rd.own tk4 rfl) ?_
    refine .nil (Wp.b1 11 (by kernel_rfl) ?_)
    refine kv rfl .no Fx.go88 (Evc rfl Evn) (fun _=>opt23_ok _) ?_
    refine .nil (Wp.b1 12 (by kernel_rfl) ?_)
    refine ka rfl (.inl rfl) FxDnC.go25 (Evc rfl (Evc rfl (Evc rfl (Evc rfl Evn)))) (mtk3 .here .here .here) (dOpen_ok bd bm 10000 bt (fun _=>0#8) (⟨1,1,1,1,1,1,10⟩ : Opts) _ rfl (by decide) (by decide) hK) ?_
    rintro _ G42 μ42 hG42 ⟨bq,held,now,v,F,ov,hD,hn,hz,rfl,rfl⟩
    have hK:=hK.mono hG42
    refine .nil (Wp.one 13 (by kernel_rfl) ?_)
    refine mV rfl rfl (.nil (Wp.one 14 (by kernel_rfl) ?_))
    refine ex rfl .no (.u rfl) rfl (.nil (Wp.one 15 (by kernel_rfl) ?_))
    refine ex rfl .no (.u rfl) rfl (.nil (Wp.one 16 (by kernel_rfl) ?_))
    refine aS rfl rfl (.nil (Wp.one 17 (by kernel_rfl) ?_))
    refine aS rfl rfl (.nil (Wp.last (by kernel_rfl) ?_))
    refine We.lpo (bq,held,now,v,F) ?_ ?_ ?_ ?_ ?_
    ·exact (esD rfl (esC rfl (by first|rfl|exact evi (by omega)) (esD rfl eZ)))
    ·exact (mS .here rfl (mS .here rfl (mS .here rfl (mS .here rfl (mS .here rfl (mS .here rfl (mS .here rfl (mS .here rfl (mS .here rfl mN)))))))))
    ·exact zro_lt _
    ·exact hG42
    refine ⟨?_,?_,?_,?_⟩
    ·(try dsimp only)<;>(exact ov)
    ·(try dsimp only)<;>(exact hD)
    ·(try dsimp only)<;>(exact hn)
    (try dsimp only)<;>(exact hz)
   refine kv rfl .no Fx.go88 (Evc rfl Evn) (fun _=>opt23_ok _) ?_
   refine .nil (Wp.one 7 (by kernel_rfl) ?_)
   refine ld rfl .no Fx.ag68 (.u rfl) (fun _=>Rd.own tk4 rfl) ?_
   refine .nil (Wp.b1 12 (by kernel_rfl) ?_)
   refine ka rfl (.inl rfl) FxDnC.go25 (Evc rfl (Evc rfl (Evc rfl (Evc rfl Evn)))) (mtk3 .here .here .here) (dOpen_ok bd bm 10000 bt (fun _=>0#8) (⟨1,1,1,1,1,1,10⟩ : Opts) _ rfl (by decide) (by decide) hK) ?_
   rintro _ G42 μ42 hG42 ⟨bq,held,now,v,F,ov,hD,hn,hz,rfl,rfl⟩
   have hK:=hK.mono hG42
   refine .nil (Wp.one 13 (by kernel_rfl) ?_)
   refine mV rfl rfl (.nil (Wp.one 14 (by kernel_rfl) ?_))
   refine ex rfl .no (.u rfl) rfl (.nil (Wp.one 15 (by kernel_rfl) ?_))
   refine ex rfl .no (.u rfl) rfl (.nil (Wp.one 16 (by kernel_rfl) ?_))
   refine aS rfl rfl (.nil (Wp.one 17 (by kernel_rfl) ?_))
   refine aS rfl rfl (.nil (Wp.last (by kernel_rfl) ?_))
   refine We.lpo (bq,held,now,v,F) ?_ ?_ ?_ ?_ ?_
   ·exact (esD rfl (esC rfl (by first|rfl|exact evi (by omega)) (esD rfl eZ)))
   ·exact (mS .here rfl (mS .here rfl (mS .here rfl (mS .here rfl (mS .here rfl (mS .here rfl (mS .here rfl (mS .here rfl (mS .here rfl mN)))))))))
   ·exact zro_lt _
   ·exact hG42
   refine ⟨?_,?_,?_,?_⟩
   ·(try dsimp only)<;>(exact ov)
   ·(try dsimp only)<;>(exact hD)
   ·(try dsimp only)<;>(exact hn)
   (try dsimp only)<;>(exact hz)
  ·refine ld rfl .no Fx.ag68 (.u rfl) (fun _=>Rd.own tk4 rfl) ?_
   refine .nil (Wp.b2 3 11 (by kernel_rfl) ?_ ?_)
   ·refine ld rfl .no Fx.ag72 (.u rfl) (fun _=>Rd.own tk4 rfl) ?_
    refine .nil (Wp.b1 11 (by kernel_rfl) ?_)
    refine kv rfl .no Fx.go88 (Evc rfl Evn) (fun _=>opt23_ok _) ?_
    refine .nil (Wp.b1 12 (by kernel_rfl) ?_)
    refine ka rfl (.inl rfl) FxDnC.go25 (Evc rfl (Evc rfl (Evc rfl (Evc rfl Evn)))) (mtk3 .here .here .here) (dOpen_ok bd bm 10000 bt (fun _=>0#8) (⟨1,1,1,1,1,1,10⟩ : Opts) _ rfl (by decide) (by decide) hK) ?_
    rintro _ G42 μ42 hG42 ⟨bq,held,now,v,F,ov,hD,hn,hz,rfl,rfl⟩
    have hK:=hK.mono hG42
    refine .nil (Wp.one 13 (by kernel_rfl) ?_)
    refine mV rfl rfl (.nil (Wp.one 14 (by kernel_rfl) ?_))
    refine ex rfl .no (.u rfl) rfl (.nil (Wp.one 15 (by kernel_rfl) ?_))
    refine ex rfl .no (.u rfl) rfl (.nil (Wp.one 16 (by kernel_rfl) ?_))
    refine aS rfl rfl (.nil (Wp.one 17 (by kernel_rfl) ?_))
    refine aS rfl rfl (.nil (Wp.last (by kernel_rfl) ?_))
    refine We.lpo (bq,held,now,v,F) ?_ ?_ ?_ ?_ ?_
    ·exact (esD rfl (esC rfl (by first|rfl|exact evi (by omega)) (esD rfl eZ)))
    ·exact (mS .here rfl (mS .here rfl (mS .here rfl (mS .here rfl (mS .here rfl (mS .here rfl (mS .here rfl (mS .here rfl (mS .here rfl mN)))))))))
    ·exact zro_lt _
    ·exact hG42
    refine ⟨?_,?_,?_,?_⟩
    ·(try dsimp only)<;>(exact ov)
    ·(try dsimp only)<;>(exact hD)
    ·(try dsimp only)<;>(exact hn)
    (try dsimp only)<;>(exact hz)
   refine kv rfl .no Fx.go88 (Evc rfl Evn) (fun _=>opt23_ok _) ?_
   refine .nil (Wp.one 3 (by kernel_rfl) ?_)
   refine ld rfl .no Fx.ag72 (.u rfl) (fun _=>Rd.own tk4 rfl) ?_
   refine .nil (Wp.b1 12 (by kernel_rfl) ?_)
   refine ka rfl (.inl rfl) FxDnC.go25 (Evc rfl (Evc rfl (Evc rfl (Evc rfl Evn)))) (mtk3 .here .here .here) (dOpen_ok bd bm 10000 bt (fun _=>0#8) (⟨1,1,1,1,1,1,10⟩ : Opts) _ rfl (by decide) (by decide) hK) ?_
   rintro _ G42 μ42 hG42 ⟨bq,held,now,v,F,ov,hD,hn,hz,rfl,rfl⟩
   have hK:=hK.mono hG42
   refine .nil (Wp.one 13 (by kernel_rfl) ?_)
   refine mV rfl rfl (.nil (Wp.one 14 (by kernel_rfl) ?_))
   refine ex rfl .no (.u rfl) rfl (.nil (Wp.one 15 (by kernel_rfl) ?_))
   refine ex rfl .no (.u rfl) rfl (.nil (Wp.one 16 (by kernel_rfl) ?_))
   refine aS rfl rfl (.nil (Wp.one 17 (by kernel_rfl) ?_))
   refine aS rfl rfl (.nil (Wp.last (by kernel_rfl) ?_))
   refine We.lpo (bq,held,now,v,F) ?_ ?_ ?_ ?_ ?_
   ·exact (esD rfl (esC rfl (by first|rfl|exact evi (by omega)) (esD rfl eZ)))
   ·exact (mS .here rfl (mS .here rfl (mS .here rfl (mS .here rfl (mS .here rfl (mS .here rfl (mS .here rfl (mS .here rfl (mS .here rfl mN)))))))))
   ·exact zro_lt _
   ·exact hG42
   refine ⟨?_,?_,?_,?_⟩
   ·(try dsimp only)<;>(exact ov)
   ·(try dsimp only)<;>(exact hD)
   ·(try dsimp only)<;>(exact hn)
   (try dsimp only)<;>(exact hz)
  refine kv rfl .no Fx.go88 (Evc rfl Evn) (fun _=>opt23_ok _) ?_
  refine .nil (Wp.one 3 (by kernel_rfl) ?_)
  refine ld rfl .no Fx.ag72 (.u rfl) (fun _=>Rd.own tk4 rfl) ?_
  refine .nil (Wp.one 7 (by kernel_rfl) ?_)
  refine ld rfl .no Fx.ag68 (.u rfl) (fun _=>Rd.own tk4 rfl) ?_
  refine .nil (Wp.b1 12 (by kernel_rfl) ?_)
  refine ka rfl (.inl rfl) FxDnC.go25 (Evc rfl (Evc rfl (Evc rfl (Evc rfl Evn)))) (mtk3 .here .here .here) (dOpen_ok bd bm 10000 bt (fun _=>0#8) (⟨1,1,1,1,1,1,10⟩ : Opts) _ rfl (by decide) (by decide) hK) ?_
  rintro _ G42 μ42 hG42 ⟨bq,held,now,v,F,ov,hD,hn,hz,rfl,rfl⟩
  refine .nil (Wp.one 13 (by kernel_rfl) ?_)
  refine mV rfl rfl (.nil (Wp.one 14 (by kernel_rfl) ?_))
  refine ex rfl .no (.u rfl) rfl (.nil (Wp.one 15 (by kernel_rfl) ?_))
  refine ex rfl .no (.u rfl) rfl (.nil (Wp.one 16 (by kernel_rfl) ?_))
  refine aS rfl rfl (.nil (Wp.one 17 (by kernel_rfl) ?_))
  refine aS rfl rfl (.nil (Wp.last (by kernel_rfl) ?_))
  refine We.lpo (bq,held,now,v,F) ?_ ?_ ?_ ?_ ?_
  ·exact (esD rfl (esC rfl (by first|rfl|exact evi (by omega)) (esD rfl eZ)))
  ·exact (mS .here rfl (mS .here rfl (mS .here rfl (mS .here rfl (mS .here rfl (mS .here rfl (mS .here rfl (mS .here rfl (mS .here rfl mN)))))))))
  ·exact zro_lt _
  ·exact hG42
  refine ⟨?_,?_,?_,?_⟩
  ·(try dsimp only)<;>(exact ov)
  ·(try dsimp only)<;>(exact hD)
  ·(try dsimp only)<;>(exact hn)
  (try dsimp only)<;>(exact hz)
 intro gh Glj4 hGlj4 hFj4
 obtain ⟨bq,held,now,v,F⟩:=gh; dsimp only at hFj4 ⊢
 obtain ⟨ov,hD,hn,hz⟩:=hFj4
 refine .code (.seq (rq5 rfl rfl (mV rfl rfl (mV rfl rfl (nc rfl .no (.u rfl) (fz rfl .no Fx.fo109_3 (.u rfl) (s1 rfl (.u rfl) (.u rfl) rfl Fx.sz44 tk8 ((by show 40<47; decide)) (rfl) ?_)))))))
 refine .nil (.code (.seq (rq9 rfl rfl (mV rfl rfl (mV rfl rfl (cp rfl .no (.u rfl) (.u rfl) rfl (mV rfl rfl (mv rfl (.t rfl rfl) (.u rfl) (pn rfl (.t rfl rfl) Fx.pt44 (.s rfl) (.u rfl) ?_)))))))))
 refine pkA rfl .no (.u rfl) (.s rfl) (aS rfl rfl (aS rfl rfl (.nil (.code (.ret ?_)))))
 refine we_fz .here (by intro b hb; cases hb) ?_; intro Gfb16 hleb16 hqb16; have hbb16:PB Gfb16 b16 _:=⟨hqb16⟩
 refine We.fin Tryz.results39 (.tmp rfl (.tmp rfl .nil)) (mS .here rfl (mS .here rfl (mS .here rfl (mS .here rfl (mS .here rfl (mS .here rfl (mS .here rfl mN))))))) ?_
 exact ⟨b16,bd,bm,bt,bq,held,now,b14,v,F,ov,hD,hn,hz,hbb16,rfl,rfl⟩
end Go.Proofs.YtggleibgadkodaaGreatDoor
namespace Go.Proofs.YtggleibgadkodaaGreatDoor
open Go.Tan Go.RowKit Go.Maps Go.Sort Go.Shelf
namespace FxDnD
theorem bp99_0_1_2:bPl Tryz.prog 99 [0,1,2]=some ([.int .u8 0,.string ByteArray.empty,.string ByteArray.empty],[(0,1),(1,1),(2,1)]):=by kernel_rfl
theorem zv99:(Tryz.prog.info? 99).bind (·.zero)=some (.agg #[.int .u8 0,.string ByteArray.empty,.string ByteArray.empty]):=by kernel_rfl
theorem go16:goFn Tryz.prog 16=true:=by kernel_rfl
end FxDnD
namespace Fx
theorem bp106_:bPl Tryz.prog 106 []=some ([.int .u8 0,.int .u8 0,.int .u8 0,.int .u8 0,.int .u8 0,.int .u8 0,.int .u8 0,.int .u8 0,.int .u8 0,.int .u8 0,.int .u8 0,.int .u8 0,.int .u8 0,.int .u8 0,.int .u8 0,.int .u8 0,.int .u8 0,.int .u8 0,.int .u8 0,.int .u8 0,.int .u8 0,.int .u8 0,.int .u8 0,.int .u8 0,.int .u8 0,.int .u8 0,.int .u8 0,.int .u8 0,.int .u8 0,.int .u8 0,.int .u8 0,.int .u8 0,.int .u16 0,.int .u16 0,.int .u16 0,.int .u8 0,.int .u8 0,.int .u8 0],[]):=by kernel_rfl
theorem go39:goFn Tryz.prog 39=true:=by kernel_rfl
theorem go21:goFn Tryz.prog 21=true:=by kernel_rfl
theorem go13:goFn Tryz.prog 13=true:=by kernel_rfl
theorem go12:goFn Tryz.prog 12=true:=by kernel_rfl
end Fx
theorem okD:∀ o∈[(⟨1#8,(⟨#[97]⟩ : ByteArray),(⟨#[120]⟩ : ByteArray)⟩ : Opn)],o.ok:=fun o ho=>by rw [List.mem_singleton.1 ho]; exact ⟨rfl,by decide,by decide⟩
theorem es1:(entsF 0 [(⟨1#8,(⟨#[97]⟩ : ByteArray),(⟨#[120]⟩ : ByteArray)⟩ : Opn)])[0]? = some (entE 1#64 (⟨1#8,(⟨#[97]⟩ : ByteArray),(⟨#[120]⟩ : ByteArray)⟩ : Opn)):=rfl
set_option maxHeartbeats 1000000 in
theorem shown23_ok (G:PM) (hK:RdNP G 0 0 (wa 64 kW)):Ct Tryz.prog 11 ([]:List Value).toArray G [] (fun _ μ' u=>μ'=[]∧u=.bool true):=by
 refine Ct.of Tryz.func11 rfl Tryz.ntmps11 rfl fun w0 hs0=>?_
 refine .seq (rq1 rfl rfl (aS rfl rfl (.nil (.code (.seq (rq7 rfl rfl (bCe (how0) rfl .no Fx.bp106_ .nil rfl (rfl) ?_)))))))
 refine kc rfl Fx.go39 (Evc rfl (Evc rfl Evn)) (built23_ok _ hK) ?_
 rintro _ G14 μ14 hG14 ⟨bh,bd,bm,bt,bq,held,now,b1,v,F,ov,hD,hn,hz,hbh,rfl,rfl⟩
 have hK:=hK.mono hG14
 refine mV rfl rfl (ex rfl .no (.u rfl) rfl (ex rfl .no (.u rfl) rfl (aS rfl rfl (aS rfl rfl (.nil (.code (.seq (.seq (rq10 rfl rfl (mV rfl rfl (nt rfl .no (.u rfl) (wo_b false (rfl) ?_))))))))))))
 refine mV rfl rfl (mv rfl (Gd.f (b:=false) rfl rfl) (.u rfl) (nc rfl (Gd.f (b:=false) rfl rfl) (.u rfl) (fa rfl (Gd.f (b:=false) rfl rfl) Fx.fo109_3 (.u rfl) (ld rfl (Gd.f (b:=false) rfl rfl) Fx.ag44 (.u rfl) (fun _=>(hbh.rd (rfl)).rd) ?_))))
 refine kag rfl (Gd.f (b:=false) rfl rfl) (.inr rfl) Fx.go21 (Evc rfl Evn) (mtk1 .here) (lend1 fun G1 hle1 h1=>mom_ok bq (Db.d3 bd bt (fun _=>0#8) (⟨1,1,1,1,1,1,10⟩ : Opts) 1#64 held now) G1 h1) ?_
 rintro _ G24 μ24 hG24 ⟨ν1,rfl,rfl,rfl⟩
 have hK:=hK.mono hG24
 have hbh:=hbh.mono hG24
 refine cp rfl (Gd.f (b:=false) rfl rfl) (.u rfl) (.u rfl) rfl (pkO rfl .no (.u rfl) (.u rfl) (.nil (.code (.cond rfl (fun c1=>?_) (fun c1=>?_)))))
 ·have c1k:=c1
  cases c1
 have c1k:=c1
 try simp only [qcA,qcC,qcB] at c1
 refine .skip (.code (.seq (rq10 rfl rfl (mV rfl rfl (nc rfl .no (.u rfl) (fa rfl .no Fx.fo109_3 (.u rfl) (ld rfl .no Fx.ag44 (.u rfl) (fun _=>(hbh.rd (rfl)).rd) ?_)))))))
 refine ka rfl (.inr rfl) Fx.go13 (Evc rfl (Evc rfl (Evc rfl (Evc rfl Evn)))) (mtk3 .here tk3 tk3) (lend1 fun G1 hle1 h1=>lendL2 fun s G2 hle hv hs2 hb2=>by rw [hv] at hb2; exact dScan0_ok bq (Db.d3 bd bt (fun _=>0#8) (⟨1,1,1,1,1,1,10⟩ : Opts) 1#64 held now) G2 (h1.mono hle) ⟨#[]⟩ ⟨#[]⟩ 0#64 s [Nd.z] _ (fun _=>0) hb2 hs2 rfl wayZ rfl (by decide) (by show (0#64:BitVec 64).toNat≤(0#64:BitVec 64).toNat; decide)) ?_
 rintro _ G32 μ32 hG32 ⟨ν2,rfl,rfl,rfl⟩
 have hK:=hK.mono hG32
 have hbh:=hbh.mono hG32
 refine mV rfl rfl (ex rfl .no (.u rfl) rfl (ex rfl .no (.u rfl) rfl (aS rfl rfl (aS rfl rfl (.nil (.code (.seq (rq8 rfl rfl (mV rfl rfl (nc rfl .no (.u rfl) (fa rfl .no Fx.fo109_3 (.u rfl) (ld rfl .no Fx.ag44 (.u rfl) (fun _=>(hbh.rd (rfl)).rd) ?_))))))))))))
 refine bCe (Opn.cells (⟨1#8,(⟨#[97]⟩ : ByteArray),(⟨#[120]⟩ : ByteArray)⟩ : Opn)) rfl .no FxDnD.bp99_0_1_2 (.cons (.u rfl) rfl (.cons (.u rfl) rfl (.cons (.u rfl) rfl .nil))) rfl (rfl) ?_
 refine Go.Tan.b1 rfl Fx.se22 FxDnD.zv99 (.u rfl) rfl rfl (by decide) ?_; intro b40
 refine ka rfl (.inr rfl) FxDnD.go16 (Evc rfl (Evc rfl (Evc rfl Evn))) (mtq6 .here .here tk2 tk2 .here .here) (Ct.give fun hle=>dWrite_ok bq bm 10000 bd bt held now (fun _=>0#8) (⟨1,1,1,1,1,1,10⟩ : Opts) v F ⟨some ⟨b40,0,none⟩,1⟩ [(⟨1#8,(⟨#[97]⟩ : ByteArray),(⟨#[120]⟩ : ByteArray)⟩ : Opn)] _ hD hn hz (by decide) (by decide) (by decide) (SlR.ofBlk (xs:=[(⟨1#8,(⟨#[97]⟩ : ByteArray),(⟨#[120]⟩ : ByteArray)⟩ : Opn)]) (PM.add_same _ _ _) (fun _ _=>rfl) (Nat.le_refl 1)) (.inl rfl) okD (fun h=>absurd h (by decide)) (hK.mono hle)) ?_
 rintro _ G41 μ41 hG41 ⟨bb,m,cap,sz,F4,hm4,hD4,hn4,hz4,rfl,rfl⟩
 obtain rfl:m=(lstW (entsF 0 [(⟨1#8,(⟨#[97]⟩ : ByteArray),(⟨#[120]⟩ : ByteArray)⟩ : Opn)]) 1).length:=hm4
 have hbh:=hbh.mono hG41
 refine aS rfl rfl (.nil (.code (.seq (Wk.rg [0,1,2,3,4,5,6,7,8,9,10,11] rfl rfl (mV rfl rfl (nc rfl .no (.u rfl) (fa rfl .no Fx.fo109_3 (.u rfl) (ld rfl .no Fx.ag44 (.u rfl) (fun _=>(hbh.rd (rfl)).rd) ?_))))))))
 refine ka rfl (.inr rfl) Fx.go12 (Evc rfl (Evc rfl (Evc rfl Evn))) (mtk3 .here tk2 tk2) (lend1 fun G1 hle1 h1=>lendL2 fun s G2 hle hv hs2 hb2=>by rw [hv] at hb2; exact dGet_ok bq { Db.d3 bd bt (fun _=>0#8) (⟨1,1,1,1,1,1,10⟩ : Opts) 1#64 held now with lg:=⟨⟨1#8,0#8,0#64,1#64,1#64⟩,1#64,false⟩,seq:=(0#64+BitVec.ofInt 64 ((1:Nat):Int)) } G2 (h1.mono hle) (⟨#[97]⟩ : ByteArray) 1#64 s (lstW (entsF 0 [(⟨1#8,(⟨#[97]⟩ : ByteArray),(⟨#[120]⟩ : ByteArray)⟩ : Opn)]) 1) _ (fun _=>0) hb2 hs2 rfl (wayG es1 (by show aheadK (entE 1#64 (⟨1#8,(⟨#[97]⟩ : ByteArray),(⟨#[120]⟩ : ByteArray)⟩ : Opn)) (⟨#[97]⟩ : ByteArray) (0#64+BitVec.ofInt 64 ((1:Nat):Int):BitVec 64)=false; kernel_rfl)) (entE 1#64 (⟨1#8,(⟨#[97]⟩ : ByteArray),(⟨#[120]⟩ : ByteArray)⟩ : Opn)) (by rw [(nx1 es1).1]; decide) (by rw [(nx1 es1).1]; exact (nx1 es1).2) rfl rfl (by show (0#64+BitVec.ofInt 64 ((1:Nat):Int):BitVec 64).toNat≤(1#64:BitVec 64).toNat; decide)) ?_
 rintro _ G47 μ47 hG47 ⟨ν3,rfl,rfl,rfl⟩
 have hbh:=hbh.mono hG47
 refine mV rfl rfl (ex rfl .no (.u rfl) rfl (ex rfl .no (.u rfl) rfl (ex rfl .no (.u rfl) rfl (aS rfl rfl (aS rfl rfl (aS rfl rfl (.nil (.code (.seq (Wk.rg [0,1,2,3,4,5,6,7,8,9,10,11] rfl rfl (mV rfl rfl (nc rfl .no (.u rfl) (fa rfl .no Fx.fo109_3 (.u rfl) (ld rfl .no Fx.ag44 (.u rfl) (fun _=>(hbh.rd (rfl)).rd) ?_))))))))))))))
 refine ka rfl (.inr rfl) Fx.go12 (Evc rfl (Evc rfl (Evc rfl Evn))) (mtk2 .here tk5) (lend1 fun G1 hle1 h1=>dGetNo_ok bq { Db.d3 bd bt (fun _=>0#8) (⟨1,1,1,1,1,1,10⟩ : Opts) 1#64 held now with lg:=⟨⟨1#8,0#8,0#64,1#64,1#64⟩,1#64,false⟩,seq:=(0#64+BitVec.ofInt 64 ((1:Nat):Int)) } G1 h1 (⟨#[97]⟩ : ByteArray) 0#64 held rfl (by show (0#64:BitVec 64).toNat<(0#64+BitVec.ofInt 64 ((1:Nat):Int):BitVec 64).toNat; decide)) ?_
 rintro _ G56 μ56 hG56 ⟨ν4,rfl,rfl,rfl⟩
 refine mV rfl rfl (ex rfl .no (.u rfl) rfl (ex rfl .no (.u rfl) rfl (ex rfl .no (.u rfl) rfl (aS rfl rfl (aS rfl rfl (aS rfl rfl (.nil (.code (.seq (Wk.rg [0,1,2,3,4,5,6,7,8,9,10,11,12,13,14,15,16,17,18,19,20,21,22,23,24,25,26] rfl rfl (mV rfl rfl (ln rfl .no Fx.sn47 (.u rfl) (cp rfl .no (.u rfl) (.u rfl) rfl (mV rfl rfl (mv rfl (.t rfl rfl) (.u rfl) (cp rfl (.t rfl rfl) (.s rfl) (.u rfl) rfl (pkA rfl .no (.u rfl) (.s rfl) (mV rfl rfl (mv rfl (.t rfl rfl) (.u rfl) (cp rfl (.t rfl rfl) (.s rfl) (.u rfl) rfl (pkA rfl .no (.u rfl) (.s rfl) (mV rfl rfl (mv rfl (.t rfl rfl) (.u rfl) (cs rfl (.t rfl rfl) (.s rfl) (.u rfl) rfl (pkA rfl .no (.u rfl) (.s rfl) (mV rfl rfl (mv rfl (.t rfl rfl) (.u rfl) (pkA rfl .no (.u rfl) (.s rfl) (mV rfl rfl (mv rfl (.t rfl rfl) (.u rfl) (cp rfl (.t rfl rfl) (.s rfl) (.u rfl) rfl (pkA rfl .no (.u rfl) (.s rfl) (mV rfl rfl (mv rfl (.t rfl rfl) (.u rfl) (cp rfl (.t rfl rfl) (.s rfl) (.u rfl) rfl (pkA rfl .no (.u rfl) (.s rfl) (aS rfl rfl (.nil (.code (.ret (We.fin0 Tryz.results11 (.tmp rfl .nil) ?_)))))))))))))))))))))))))))))))))))))))))
 exact ⟨rfl,by kernel_rfl⟩
end Go.Proofs.YtggleibgadkodaaGreatDoor
namespace Go.Proofs.YtggleibgadkodaaGreatDoor
open Go.Tan Go.RowKit Go.Maps Go.Sort Go.Shelf
namespace FxDnE
theorem ag22:aggN Tryz.prog 22=some none:=by kernel_rfl
theorem bp71_:bPl Tryz.prog 71 []=some (ba 32 (fun _=>0#8),[]):=by kernel_rfl
end FxDnE
namespace Fx
theorem go11:goFn Tryz.prog 11=true:=by kernel_rfl
theorem fo43_3:fOff Tryz.prog 43 3=some 3:=by kernel_rfl
theorem fo43_5:fOff Tryz.prog 43 5=some 5:=by kernel_rfl
theorem fo43_4:fOff Tryz.prog 43 4=some 4:=by kernel_rfl
theorem go14:goFn Tryz.prog 14=true:=by kernel_rfl
theorem go15:goFn Tryz.prog 15=true:=by kernel_rfl
theorem fo43_1:fOff Tryz.prog 43 1=some 1:=by kernel_rfl
theorem fo43_2:fOff Tryz.prog 43 2=some 2:=by kernel_rfl
theorem go17:goFn Tryz.prog 17=true:=by kernel_rfl
theorem fo43_6:fOff Tryz.prog 43 6=some 6:=by kernel_rfl
theorem go18:goFn Tryz.prog 18=true:=by kernel_rfl
theorem go19:goFn Tryz.prog 19=true:=by kernel_rfl
theorem go20:goFn Tryz.prog 20=true:=by kernel_rfl
theorem go22:goFn Tryz.prog 22=true:=by kernel_rfl
theorem go24:goFn Tryz.prog 24=true:=by kernel_rfl
theorem bt4:boolT Tryz.prog 4=true:=by kernel_rfl
theorem go29:goFn Tryz.prog 29=true:=by kernel_rfl
end Fx
set_option maxHeartbeats 1000000 in
theorem dbNil_ok (o:Opts) (k:Y) (ov kp9:Value) (y:Bool) (lo hi:ByteArray) (m:BitVec 64) (n:Int) (G:PM) (ho:ov.oneCell'=true) (hk:kp9.oneCell'=true) (hK:RdNP G 0 0 (wa 64 kW)):Ct Tryz.prog 4 ([o.val,Value.agg ([V k,ov,.bool y,.string lo,.string hi,uv .u64 m,.int .i64 n,kp9]:List Value).toArray]:List Value).toArray G [] (fun _ μ' u=>μ'=[]∧u=.bool true):=by
 refine Ct.of Tryz.func4 rfl Tryz.ntmps4 rfl fun w0 hs0=>?_
 refine .seq (rq3 rfl rfl ?_)
 refine bx rfl (.u rfl) rfl ?_; intro b2
 refine bx rfl (.u rfl) rfl ?_; intro b3
 refine aS rfl rfl (.nil (.code (.seq ?_)))
 refine wk_fz tk1 (by intro b hb; cases hb) ?_; intro Gfb2 hleb2 hbb2
 have hK:=hK.mono hleb2
 refine wk_fz .here (by intro b hb; cases hb) ?_; intro Gfb3 hleb3 hbb3
 have hK:=hK.mono hleb3
 have hbb2:=hbb2.mono hleb3
 refine rq2 rfl rfl (kv rfl .no Fx.go11 Evn (fun _=>shown23_ok _ hK) ?_)
 refine aS rfl rfl (.nil (.code (.seq (rq1 rfl rfl (aS rfl rfl (.nil (.code (.seq (Wk.rg [0,1,2,3,4,5,6,7,8,9,10,11,12] rfl rfl (mV rfl rfl (fa rfl .no Fx.fo43_3 (.u rfl) (ld rfl .no Fx.ag9 (.u rfl) (fun _=>(hbb3.rd (rfl)).rd) ?_))))))))))))
 refine fa rfl .no Fx.fo43_5 (.u rfl) (ld rfl .no Fx.ag41 (.u rfl) (fun _=>(hbb3.rd (rfl)).rd) ?_)
 refine kv rfl .no Fx.go12 (Evc rfl (Evc rfl (Evc rfl Evn))) (fun _=>getN_ok lo m _) ?_
 refine mV rfl rfl (ex rfl .no (.u rfl) rfl (ex rfl .no (.u rfl) rfl (ex rfl .no (.u rfl) rfl (aS rfl rfl (aS rfl rfl (aS rfl rfl (.nil (.code (.seq (Wk.rg [0,1,2,3,4,5,6,7,8,9,10,11,12] rfl rfl (mV rfl rfl (fa rfl .no Fx.fo43_3 (.u rfl) (ld rfl .no Fx.ag9 (.u rfl) (fun _=>(hbb3.rd (rfl)).rd) ?_)))))))))))))
 refine fa rfl .no Fx.fo43_4 (.u rfl) (ld rfl .no Fx.ag9 (.u rfl) (fun _=>(hbb3.rd (rfl)).rd) ?_)
 refine fa rfl .no Fx.fo43_5 (.u rfl) (ld rfl .no Fx.ag41 (.u rfl) (fun _=>(hbb3.rd (rfl)).rd) ?_)
 refine kv rfl .no Fx.go13 (Evc rfl (Evc rfl (Evc rfl (Evc rfl Evn)))) (fun _=>scanN_ok lo hi m _) ?_
 refine mV rfl rfl (ex rfl .no (.u rfl) rfl (ex rfl .no (.u rfl) rfl (aS rfl rfl (aS rfl rfl (.nil (.code (.seq (rq7 rfl rfl (mV rfl rfl (kv rfl .no Fx.go14 (Evc rfl Evn) (fun _=>snapN_ok _) ?_))))))))))
 refine mV rfl rfl (ex rfl .no (.u rfl) rfl (ex rfl .no (.u rfl) rfl (aS rfl rfl (aS rfl rfl (.nil (.code (.seq (rq7 rfl rfl (mV rfl rfl (kv rfl .no Fx.go15 (Evc rfl Evn) (fun _=>workN_ok _) ?_))))))))))
 refine mV rfl rfl (ex rfl .no (.u rfl) rfl (ex rfl .no (.u rfl) rfl (aS rfl rfl (aS rfl rfl (.nil (.code (.seq (rq1 rfl rfl (aS rfl rfl (.nil (.code (.seq (.seq (Wk.rg [0,1,2,3,4,5,6,7,8,9,10,11,12,13,14,15,16,17,18,19,20,21,22,23,24,25,26,27,28,29,30,31,32,33,34,35,36,37,38,39,40,41,42,43,44,45,46,47,48,49,50,51,52,53,54,55,56,57,58,59,60,61,62,63,64,65,66,67,68,69,70] rfl rfl (mV rfl rfl (mV rfl rfl (cp rfl .no (.u rfl) (.u rfl) rfl (wo_b false (rfl) ?_))))))))))))))))))
 refine mV rfl rfl (mv rfl (Gd.f (b:=false) rfl rfl) (.u rfl) (mv rfl (Gd.f (b:=false) rfl rfl) (.u rfl) (cp rfl (Gd.f (b:=false) rfl rfl) (.u rfl) (.u rfl) rfl (pkO rfl .no (.u rfl) (.u rfl) (wo_b false (rfl) ?_)))))
 refine mV rfl rfl (mv rfl (Gd.f (b:=false) rfl rfl) (.u rfl) (mv rfl (Gd.f (b:=false) rfl rfl) (.u rfl) (cp rfl (Gd.f (b:=false) rfl rfl) (.u rfl) (.u rfl) rfl (pkO rfl .no (.u rfl) (.u rfl) (wo_b false (rfl) ?_)))))
 refine mV rfl rfl (mv rfl (Gd.f (b:=false) rfl rfl) (.u rfl) (mv rfl (Gd.f (b:=false) rfl rfl) (.u rfl) (cp rfl (Gd.f (b:=false) rfl rfl) (.u rfl) (.u rfl) rfl (pkO rfl .no (.u rfl) (.u rfl) (wo_b false (rfl) ?_)))))
 refine mV rfl rfl (mv rfl (Gd.f (b:=false) rfl rfl) (.u rfl) (fa rfl (Gd.f (b:=false) rfl rfl) Fx.fo43_1 (.u rfl) (ld rfl (Gd.f (b:=false) rfl rfl) FxDnE.ag22 (.u rfl) (fun _=>(hbb3.rd (rfl)).rd) ?_)))
 refine fa rfl (Gd.f (b:=false) rfl rfl) Fx.fo43_2 (.u rfl) (ld rfl (Gd.f (b:=false) rfl rfl) Fx.ag4 (.u rfl) (fun _=>(hbb3.rd (rfl)).rd) ?_)
 refine kv rfl (Gd.f (b:=false) rfl rfl) FxDnD.go16 (Evc rfl (Evc rfl (Evc rfl Evn))) (fun _=>writeN_ok ov y _) ?_
 refine mv rfl (Gd.f (b:=false) rfl rfl) (.u rfl) (cp rfl (Gd.f (b:=false) rfl rfl) (.u rfl) (.u rfl) rfl (pkO rfl .no (.u rfl) (.u rfl) (wo_b false (rfl) ?_)))
 refine mV rfl rfl (mv rfl (Gd.f (b:=false) rfl rfl) (.u rfl) (fa rfl (Gd.f (b:=false) rfl rfl) Fx.fo43_5 (.u rfl) (ld rfl (Gd.f (b:=false) rfl rfl) Fx.ag41 (.u rfl) (fun _=>(hbb3.rd (rfl)).rd) ?_)))
 refine kv rfl (Gd.f (b:=false) rfl rfl) Fx.go17 (Evc rfl (Evc rfl Evn)) (fun _=>relN_ok m _) ?_
 refine mv rfl (Gd.f (b:=false) rfl rfl) (.u rfl) (cp rfl (Gd.f (b:=false) rfl rfl) (.u rfl) (.u rfl) rfl (pkO rfl .no (.u rfl) (.u rfl) (wo_b false (rfl) ?_)))
 refine mV rfl rfl (mv rfl (Gd.f (b:=false) rfl rfl) (.u rfl) (fa rfl (Gd.f (b:=false) rfl rfl) Fx.fo43_6 (.u rfl) (ld rfl (Gd.f (b:=false) rfl rfl) Fx.ag3 (.u rfl) (fun _=>(hbb3.rd (rfl)).rd) ?_)))
 refine kv rfl (Gd.f (b:=false) rfl rfl) Fx.go18 (Evc rfl (Evc rfl Evn)) (fun _=>rotN_ok n _) ?_
 refine mv rfl (Gd.f (b:=false) rfl rfl) (.u rfl) (cp rfl (Gd.f (b:=false) rfl rfl) (.u rfl) (.u rfl) rfl (pkO rfl .no (.u rfl) (.u rfl) (wo_b false (rfl) ?_)))
 refine mV rfl rfl (mv rfl (Gd.f (b:=false) rfl rfl) (.u rfl) (kv rfl (Gd.f (b:=false) rfl rfl) Fx.go19 (Evc rfl Evn) (fun _=>faultN_ok _) ?_))
 refine mv rfl (Gd.f (b:=false) rfl rfl) (.u rfl) (cp rfl (Gd.f (b:=false) rfl rfl) (.u rfl) (.u rfl) rfl (pkO rfl .no (.u rfl) (.u rfl) (wo_b false (rfl) ?_)))
 refine mV rfl rfl (mv rfl (Gd.f (b:=false) rfl rfl) (.u rfl) (kv rfl (Gd.f (b:=false) rfl rfl) Fx.go20 (Evc rfl Evn) (fun _=>closeN_ok _) ?_))
 refine mv rfl (Gd.f (b:=false) rfl rfl) (.u rfl) (cp rfl (Gd.f (b:=false) rfl rfl) (.u rfl) (.u rfl) rfl (pkO rfl .no (.u rfl) (.u rfl) (wo_b false (rfl) ?_)))
 refine mV rfl rfl (mv rfl (Gd.f (b:=false) rfl rfl) (.u rfl) (kv rfl (Gd.f (b:=false) rfl rfl) Fx.go21 (Evc rfl Evn) (fun _=>momN_ok _) ?_))
 refine cp rfl (Gd.f (b:=false) rfl rfl) (.u rfl) (.u rfl) rfl (pkO rfl .no (.u rfl) (.u rfl) (wo_b false (rfl) ?_))
 refine mV rfl rfl (mv rfl (Gd.f (b:=false) rfl rfl) (.u rfl) (kv rfl (Gd.f (b:=false) rfl rfl) Fx.go22 (Evc rfl Evn) (fun _=>stallN_ok _) ?_))
 refine pkO rfl .no (.u rfl) (.u rfl) (wo_b false (rfl) ?_)
 refine mV rfl rfl (mv rfl (Gd.f (b:=false) rfl rfl) (.u rfl) (kv rfl (Gd.f (b:=false) rfl rfl) Fx.go24 (Evc rfl Evn) (fun _=>stateN_ok _) ?_))
 refine kv rfl (Gd.f (b:=false) rfl rfl) Fx.go23 (Evc rfl Evn) (fun _=>vRight_ok State.zero hd0 _ st_zero) ?_
 refine wo_b true (by rw [right_zero]) ?_
 refine nt rfl (Gd.f (b:=false) rfl rfl) (.u rfl) (pkO rfl .no (.u rfl) (.u rfl) (.nil (.code (.cond rfl (fun c1=>?_) (fun c1=>?_)))))
 ·have c1k:=c1
  cases c1
 have c1k:=c1
 try simp only [qcA,qcC,qcB] at c1
 refine .skip (.code (.seq (Wk.draw (mc:=⟨false,false⟩) [1,2,0,3,4,5,6,7,8] Fx.mix (by kernel_rfl) ?_)))
 refine bCe (ba 32 (fun _=>0#8)) rfl .no FxDnE.bp71_ .nil rfl (rfl) ?_
 refine lA rfl .no Fx.ag40 (.u rfl) (fun _=>(hbb2.rdn (m:=7) (cs':=o.cells) (rfl)).rd) (fun _=>rfl) ?_
 refine kc rfl FxDnC.go26 Evn (tnew_ok _) ?_
 rintro _ G128 μ128 hG128 ⟨bt1,rfl,rfl⟩
 have hK:=hK.mono hG128
 have hbb2:=hbb2.mono hG128
 refine kv rfl .no FxDnC.go25 (Evc rfl (Evc rfl (Evc rfl (Evc rfl Evn)))) (fun _=>openN1_ok bt1 (fun _=>0#8) o _) ?_
 refine mV rfl rfl (ex rfl .no (.u rfl) rfl (ex rfl .no (.u rfl) rfl (aS rfl rfl (aS rfl rfl (.nil (.code (.seq (Wk.draw (mc:=⟨false,false⟩) [1,2,0,3,4,5,6,7,8] Fx.mix (by kernel_rfl) ?_))))))))
 refine bCe (ba 32 (fun _=>0#8)) rfl .no FxDnE.bp71_ .nil rfl (rfl) ?_
 refine lA rfl .no Fx.ag40 (.u rfl) (fun _=>(hbb2.rdn (m:=7) (cs':=o.cells) (rfl)).rd) (fun _=>rfl) ?_
 refine kc rfl FxDnC.go27 (Evc rfl Evn) (dnew_ok 1 _ (by decide)) ?_
 rintro _ G135 μ135 hG135 ⟨bd1,bm1,rfl,rfl⟩
 have hK:=hK.mono hG135
 have hbb2:=hbb2.mono hG135
 refine kv rfl .no FxDnC.go25 (Evc rfl (Evc rfl (Evc rfl (Evc rfl Evn)))) (fun _=>openN2_ok bd1 (fun _=>0#8) o _) ?_
 refine mV rfl rfl (ex rfl .no (.u rfl) rfl (ex rfl .no (.u rfl) rfl (aS rfl rfl (aS rfl rfl (.nil (.code (.seq (rq2 rfl rfl (kc rfl FxDnC.go26 Evn (tnew_ok _) ?_)))))))))
 rintro _ G141 μ141 hG141 ⟨bt,rfl,rfl⟩
 have hK:=hK.mono hG141
 have hbb2:=hbb2.mono hG141
 refine aS rfl rfl (.nil (.code (.seq ?_)))
 cases hO:rightO o
 ·refine Wk.draw (mc:=⟨false,false⟩) [1,2,3,0,4,5,6,7,8,9] Fx.mix (by kernel_rfl) ?_
  refine mV rfl rfl (bCe (ba 32 (fun _=>0#8)) rfl .no FxDnE.bp71_ .nil rfl (rfl) ?_)
  refine lA rfl .no Fx.ag40 (.u rfl) (fun _=>(hbb2.rdn (m:=7) (cs':=o.cells) (rfl)).rd) (fun _=>rfl) ?_
  refine kc rfl FxDnC.go27 (Evc rfl Evn) (dnew_ok 1048576 _ (by decide)) ?_
  rintro _ G143 μ143 hG143 ⟨bd,bm,rfl,rfl⟩
  have hK:=hK.mono hG143
  have hbb2:=hbb2.mono hG143
  refine kv rfl .no FxDnC.go25 (Evc rfl (Evc rfl (Evc rfl (Evc rfl Evn)))) (fun _=>openBad_ok bd bt (fun _=>0#8) o _ hO) (mV rfl rfl (ex rfl .no (.u rfl) rfl (ex rfl .no (.u rfl) rfl (aS rfl rfl (aS rfl rfl (.nil (.code (.seq (Wk.rg [0,1,2,3,4,5,6,7,8,9,10,11,12,13,14,15,16,17,18,19,20,21,22,23,24,25,26,27,28,29,30,31,32,33,34,35,36,37,38,39,40,41,42,43,44,45,46] rfl rfl (mV rfl rfl (mV rfl rfl (mv rfl (.t rfl rfl) (.u rfl) (pe0 rfl (.t rfl rfl) Fx.pt44 (.u rfl) (.u rfl) ?_)))))))))))))
  refine pkA rfl .no (.u rfl) (.u rfl) (wo_b true (rfl) ?_)
  refine mV rfl rfl (mv rfl (.t rfl rfl) (.u rfl) (pe0 rfl (.t rfl rfl) Fx.pt44 (.u rfl) (.u rfl) ?_))
  refine pkA rfl .no (.u rfl) (.u rfl) (wo_b true (rfl) ?_)
  refine mV rfl rfl (mv rfl (.t rfl rfl) (.u rfl) (mv rfl (.t rfl rfl) (.u rfl) (cp rfl (.t rfl rfl) (.u rfl) (.u rfl) rfl (pkA rfl .no (.u rfl) (.u rfl) (wo_b true (rfl) ?_)))))
  refine mV rfl rfl (mv rfl (.t rfl rfl) (.u rfl) (mv rfl (.t rfl rfl) (.u rfl) (cp rfl (.t rfl rfl) (.u rfl) (.u rfl) rfl (pkA rfl .no (.u rfl) (.u rfl) (wo_b true (rfl) ?_)))))
  refine mV rfl rfl (mv rfl (.t rfl rfl) (.u rfl) (cp rfl (.t rfl rfl) (.u rfl) (.u rfl) rfl (lA rfl (.t rfl rfl) Fx.ag40 (.u rfl) (fun _=>(hbb2.rdn (m:=7) (cs':=o.cells) (rfl)).rd) (fun _=>rfl) ?_)))
  refine kv rfl (.t rfl rfl) Fx.go28 (Evc rfl Evn) (fun _=>oright_ok o _) ?_
  refine eb rfl (.t rfl rfl) Fx.bt4 (.u rfl) (.u rfl) (wo_b true (by rw [hO]; rfl) ?_)
  refine pkA rfl .no (.u rfl) (.u rfl) (wo_b true (rfl) ?_)
  refine mV rfl rfl (mv rfl (.t rfl rfl) (.u rfl) (pn0 rfl (.t rfl rfl) Fx.pt44 (.u rfl) (.u rfl) ?_))
  refine mv rfl (.t rfl rfl) (.u rfl) (cp rfl (.t rfl rfl) (.u rfl) (.u rfl) rfl (eb rfl (.t rfl rfl) Fx.bt4 (.u rfl) (.u rfl) (wo_b true (rfl) ?_)))
  refine pkA rfl .no (.u rfl) (.u rfl) (wo_b true (rfl) ?_)
  refine mV rfl rfl (mv rfl (.t rfl rfl) (.u rfl) (cp rfl (.t rfl rfl) (.u rfl) (.u rfl) rfl (mv rfl (.t rfl rfl) (.u rfl) (mv rfl (Gd.f (b:=false) rfl rfl) (.u rfl) (cp rfl (Gd.f (b:=false) rfl rfl) (.u rfl) (.u rfl) rfl (mv rfl (Gd.f (b:=false) rfl rfl) (.u rfl) (mv rfl (.t rfl rfl) (.u rfl) (kag rfl (.t rfl rfl) (.inr rfl) Fx.go29 (Evc rfl Evn) (mtk1 tk2) (lend1 fun G1 hle1 h1=>opens_ok bt 0#64 0#64 G1 h1) ?_))))))))
  rintro _ G191 μ191 hG191 ⟨ν1,rfl,rfl,rfl⟩
  have hK:=hK.mono hG191
  have hbb2:=hbb2.mono hG191
  refine cp rfl (.t rfl rfl) (.u rfl) (.u rfl) rfl (pkA rfl (Gd.f (b:=false) rfl rfl) (.u rfl) (.u rfl) (pkO rfl (.t rfl rfl) (.u rfl) (.u rfl) (pkA rfl .no (.u rfl) (.u rfl) (aS rfl rfl (.nil (.code (.ret (We.fin0 Tryz.results4 (.tmp rfl .nil) ?_))))))))
  exact ⟨rfl,rfl⟩
 refine Wk.mixp ⟨true,false⟩ Fx.mix (by kernel_rfl) ?_
 refine Wp.one 1 (by kernel_rfl) ?_
 refine mV rfl rfl (.nil (Wp.one 2 (by kernel_rfl) ?_))
 refine bCe (ba 32 (fun _=>0#8)) rfl .no FxDnE.bp71_ .nil rfl (rfl) ?_
 refine .nil (Wp.pr 3 (by kernel_rfl) ?_)
 refine lA rfl .no Fx.ag40 (.u rfl) (fun _=>(hbb2.rdn (m:=7) (cs':=o.cells) (rfl)).rd) (fun _=>rfl) ?_
 refine .nil ⟨⟨rfl,rfl⟩,?_⟩
 refine Wp.b1 0 (by kernel_rfl) ?_
 refine kc rfl FxDnC.go27 (Evc rfl Evn) (dnew_ok 1048576 _ (by decide)) ?_
 rintro _ G143 μ143 hG143 ⟨bd,bm,rfl,rfl⟩
 have hK:=hK.mono hG143
 have hbb2:=hbb2.mono hG143
 refine .nil (Wp.b1 4 (by kernel_rfl) ?_)
 refine ka rfl (.inl rfl) FxDnC.go25 (Evc rfl (Evc rfl (Evc rfl (Evc rfl Evn)))) (mtk3 .here .here .here) (dOpen_ok bd bm 1048576 bt (fun _=>0#8) o _ hO (by decide) (by decide) hK) ?_
 rintro _ G147 μ147 hG147 ⟨bq,held,now,v,F,ov9,hD,hn,hz,rfl,rfl⟩
 have hbb2:=hbb2.mono hG147
 refine .nil (Wp.one 5 (by kernel_rfl) ?_)
 refine mV rfl rfl (.nil (Wp.one 6 (by kernel_rfl) ?_))
 refine ex rfl .no (.u rfl) rfl (.nil (Wp.one 7 (by kernel_rfl) ?_))
 refine ex rfl .no (.u rfl) rfl (.nil (Wp.one 8 (by kernel_rfl) ?_))
 refine aS rfl rfl (.nil (Wp.one 9 (by kernel_rfl) ?_))
 refine aS rfl rfl (.nil (Wp.last (by kernel_rfl) ?_))
 refine .code (.seq (Wk.rg [0,1,2,3,4,5,6,7,8,9,10,11,12,13,14,15,16,17,18,19,20,21,22,23,24,25,26,27,28,29,30,31,32,33,34,35,36,37,38,39,40,41,42,43,44,45,46] rfl rfl (mV rfl rfl (mV rfl rfl (mv rfl (.t rfl rfl) (.u rfl) (pe0 rfl (.t rfl rfl) Fx.pt44 (.u rfl) (.u rfl) ?_))))))
 refine pkA rfl .no (.u rfl) (.u rfl) (wo_b true (rfl) ?_)
 refine mV rfl rfl (mv rfl (.t rfl rfl) (.u rfl) (pe0 rfl (.t rfl rfl) Fx.pt44 (.u rfl) (.u rfl) ?_))
 refine pkA rfl .no (.u rfl) (.u rfl) (wo_b true (rfl) ?_)
 refine mV rfl rfl (mv rfl (.t rfl rfl) (.u rfl) (mv rfl (.t rfl rfl) (.u rfl) (cp rfl (.t rfl rfl) (.u rfl) (.u rfl) rfl (pkA rfl .no (.u rfl) (.u rfl) (wo_b true (rfl) ?_)))))
 refine mV rfl rfl (mv rfl (.t rfl rfl) (.u rfl) (mv rfl (.t rfl rfl) (.u rfl) (cp rfl (.t rfl rfl) (.u rfl) (.u rfl) rfl (pkA rfl .no (.u rfl) (.u rfl) (wo_b true (rfl) ?_)))))
 refine mV rfl rfl (mv rfl (.t rfl rfl) (.u rfl) (cp rfl (.t rfl rfl) (.u rfl) (.u rfl) rfl (lA rfl (.t rfl rfl) Fx.ag40 (.u rfl) (fun _=>(hbb2.rdn (m:=7) (cs':=o.cells) (rfl)).rd) (fun _=>rfl) ?_)))
 refine kv rfl (.t rfl rfl) Fx.go28 (Evc rfl Evn) (fun _=>oright_ok o _) ?_
 refine eb rfl (.t rfl rfl) Fx.bt4 (.u rfl) (.u rfl) (wo_b true (by rw [hO]; rfl) ?_)
 refine pkA rfl .no (.u rfl) (.u rfl) (wo_b true (rfl) ?_)
 refine mV rfl rfl (mv rfl (.t rfl rfl) (.u rfl) (pn rfl (.t rfl rfl) Fx.pt44 (.u rfl) (.u rfl) ?_))
 refine mv rfl (.t rfl rfl) (.u rfl) (cp rfl (.t rfl rfl) (.u rfl) (.u rfl) rfl (eb rfl (.t rfl rfl) Fx.bt4 (.u rfl) (.u rfl) (wo_b true (rfl) ?_)))
 refine pkA rfl .no (.u rfl) (.u rfl) (wo_b true (rfl) ?_)
 refine mV rfl rfl (mv rfl (.t rfl rfl) (.u rfl) (cp rfl (.t rfl rfl) (.u rfl) (.u rfl) rfl (mv rfl (.t rfl rfl) (.u rfl) (skp (.bool false) rfl rfl (Gd.f (b:=true) rfl rfl) ?_))))
 refine skp (.bool false) rfl rfl (Gd.f (b:=true) rfl rfl) ?_
 refine skp (.bool false) rfl rfl (Gd.f (b:=true) rfl rfl) ?_
 refine skp (.bool false) rfl rfl (Gd.tc (c:=false) (b:=false) rfl rfl) ?_
 refine skc (.bool false) rfl rfl (Gd.tc (c:=false) (b:=false) rfl rfl) ?_
 refine skp (.bool false) rfl rfl (Gd.tc (c:=false) (b:=false) rfl rfl) ?_
 refine skp (.bool false) rfl rfl (Gd.f (b:=true) rfl rfl) ?_
 refine pkO rfl (.t rfl rfl) (.u rfl) (.s rfl) (pkA rfl .no (.u rfl) (.u rfl) (aS rfl rfl (.nil (.code (.ret (We.fin0 Tryz.results4 (.tmp rfl .nil) ?_))))))
 exact ⟨rfl,rfl⟩
end Go.Proofs.YtggleibgadkodaaGreatDoor
