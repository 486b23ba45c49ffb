/- Lemmas and contracts of functions, joined. -/
import Derived.Test.YtoifkgkandfeiaaGreatDoorDa5
set_option linter.unusedSimpArgs false
set_option linter.unusedVariables false
set_option linter.unusedSectionVars false
namespace Go.Proofs.YtoifkgkandfeiaaGreatDoor
open Go.Tan Go.RowKit Go.Maps Go.Sort Go.Shelf
namespace Fx
theorem go97:goFn Tryz.prog 97=true:=by kernel_rfl
theorem go98:goFn Tryz.prog 98=true:=by kernel_rfl
theorem go99:goFn Tryz.prog 99=true:=by kernel_rfl
end Fx
theorem lGet_ok (bl:Nat) (h:Sh) (xs:List Nd) (sz:Value) (G:PM) (hbl:PB G bl (cl [h.val xs.length,sz] 225)) (hs:SlR G 16 Nd.cells h xs) (w:Nat→Nat) (us:ByteArray) (q:BitVec 64) (hW:WayN xs us q w) (e:Ent) (h0:0<nxt xs (w 0) 0) (he:(xs.getD (nxt xs (w 0) 0) Nd.z).1=e) (hu:e.user=us):Ct Tryz.prog 98 ([.pointer (some ⟨bl,0,none⟩),.string us,uv .u64 q]:List Value).toArray G [] (fun _ μ' u=>μ'=[]∧u=.tuple #[e.val,.bool true]):=by
 subst he
 refine Ct.of Tryz.func98 rfl Tryz.ntmps98 rfl fun w0 hs0=>?_
 have hnx:nxt xs (w 0) 0<xs.length:=hW.inb _ (hW.lt 0 (by decide)) 0 (by decide)
 refine .seq (rq2 rfl rfl ?_)
 refine al rfl FxGrC.zq179 ?_; intro b6
 refine aS rfl rfl (.nil (.code (.seq (rq5 rfl rfl (mV rfl rfl (mV rfl rfl (mV rfl rfl (kv rfl .no Fx.go148 (Evc rfl (Evc rfl (Evc rfl Evn))) (fun _=>first_l bl h xs sz _ hbl hs w us q hW) ?_))))))))
 refine aS rfl rfl (.nil (.code (.seq (.seq (Wk.rg [0,1,2,3,4,5,6,7,8,9,10,11,12,13,14] rfl rfl (mV rfl rfl (cp rfl .no (.u rfl) (.u rfl) rfl (mV rfl rfl (mv rfl (.f rfl rfl) (.u rfl) (nc rfl (.f rfl rfl) (.s rfl) (fa rfl (.f rfl rfl) Fx.fo225_0 (.s rfl) (ld rfl (.f rfl rfl) Fx.ag223 (.s rfl) (fun hc=>(hbl.rd (rfl)).rd) ?_))))))))))))
 refine mv rfl (.f rfl rfl) (.u rfl) (ih rfl (.f rfl rfl) Fx.se223 (.s rfl) (.s rfl) (fun _=>by omega) (fun _=>by omega) (fun _=>hs.nn (k:=nxt xs (w 0) 0) hnx) ?_)
 refine fa rfl (.f rfl rfl) Fx.fo249_0 (.s rfl) (fa rfl (.f rfl rfl) Fx.fo179_0 (.s rfl) (ld rfl (.f rfl rfl) Fx.ag9 (.s rfl) (fun hc=>((Nd.rde hs (a:=nxt xs (w 0) 0) hnx (by simp)) 0 _ rfl).rd) ?_))
 refine mv rfl (.f rfl rfl) (.u rfl) (cs rfl (.f rfl rfl) (.s rfl) (.s rfl) rfl (pkO rfl .no (.u rfl) (.s rfl) (.nil (.code (.cond rfl (fun c1=>?_) (fun c1=>?_))))))
 ·have c1k:=c1
  have h10:nxt xs (w 0) 0≠0:=by omega
  have h9:((nxt xs (w 0) 0:Nat):Int)≠0:=by omega
  rw [hu] at c1k
  simp [h9,h10] at c1k
 have c1k:=c1
 try simp only [qcA,qcB] at c1
 refine .skip (.code (.seq (rq10 rfl rfl (mV rfl rfl (nc rfl .no (.u rfl) (fa rfl .no Fx.fo225_0 (.u rfl) (ld rfl .no Fx.ag223 (.u rfl) (fun _=>(hbl.rd (rfl)).rd) ?_)))))))
 refine mV rfl rfl (ih rfl .no Fx.se223 (.u rfl) (.u rfl) (fun _=>by omega) (fun _=>by omega) (fun _=>hs.nn (k:=nxt xs (w 0) 0) hnx) ?_)
 refine fa rfl .no Fx.fo249_0 (.u rfl) (lA rfl .no Fx.ag179 (.u rfl) (fun _=>(Nd.rde hs (a:=nxt xs (w 0) 0) hnx (by simp)).rd) (fun _=>Ent.len _) ?_)
 refine sw rfl (.u rfl) (.u rfl) rfl Fx.sz179 .here rfl (Ent.one _) ?_
 refine aS rfl rfl (.nil (.code (.ret (We.fin0 Tryz.results98 (.cell rfl (fun w hw=>run_loadVarN Fx.ag179 (RdN.own .here) (Ent.len _) hw) (.tmp rfl .nil)) ?_))))
 exact ⟨rfl,rfl⟩
theorem askGe_ok (bx:Nat) (d:Db) (G:PM) (hbx:PB G bx (cl d.cells 165)) (m:BitVec 64) (hm:d.seq.toNat≤m.toNat):Ct Tryz.prog 97 ([pt bx,uv .u64 m]:List Value).toArray G [] (fun _ μ' u=>μ'=[]∧u=.tuple #[uv .u64 d.seq,.bool true]):=by
 refine Ct.of Tryz.func97 rfl Tryz.ntmps97 rfl fun w0 hs0=>?_
 refine .seq (rq2 rfl rfl (aS rfl rfl (aS rfl rfl (.nil (.code (.seq (.seq (rq6 rfl rfl (mV rfl rfl (mV rfl rfl (nc rfl .no (.u rfl) (fa rfl .no Fx.fo165_7 (.u rfl) (ld rfl .no Fx.ag23 (.u rfl) (fun _=>(hbx.rd (rfl)).rd) ?_)))))))))))))
 refine cp rfl .no (.u rfl) (.u rfl) rfl (.nil (.code (.cond rfl (fun c1=>?_) (fun c1=>?_))))
 ·have c1k:=c1
  try simp only [qcA,qcB] at c1
  refine .seq (rq6 rfl rfl (mV rfl rfl (nc rfl .no (.u rfl) (fa rfl .no Fx.fo165_7 (.u rfl) (ld rfl .no Fx.ag23 (.u rfl) (fun _=>(hbx.rd (rfl)).rd) ?_)))))
  refine aS rfl rfl (aS rfl rfl (.nil (.code (.ret (We.fin0 Tryz.results97 (.tmp rfl (.tmp rfl .nil)) ?_)))))
  exact ⟨rfl,rfl⟩
 have c1k:=c1
 have h1:@BitVec.toNat IntKind.u64.bits m=m.toNat:=rfl; have h2:@BitVec.toNat IntKind.u64.bits d.seq=d.seq.toNat:=rfl; simp at c1; omega
theorem dGet_ok (bx:Nat) (d:Db) (G:PM) (hbx:PB G bx (cl d.cells 165)) (us:ByteArray) (m:BitVec 64) (h:Sh) (xs:List Nd) (sz:Value) (w:Nat→Nat) (hbl:PB G d.now (cl [h.val xs.length,sz] 225)) (hs:SlR G 16 Nd.cells h xs) (hst:d.s.cells d.hd=(stF 1 2).cells hd0) (hW:WayN xs us d.seq w) (e:Ent) (h0:0<nxt xs (w 0) 0) (he:(xs.getD (nxt xs (w 0) 0) Nd.z).1=e) (hu:e.user=us) (hk:e.kind=1#8) (hm:d.seq.toNat≤m.toNat):Ct Tryz.prog 58 ([pt bx,.string us,uv .u64 m]:List Value).toArray G [] (fun _ μ' u=>μ'=[]∧u=.tuple #[.string e.value,.bool true,.int .i64 0]):=by
 refine Ct.of Tryz.func58 rfl Tryz.ntmps58 rfl fun w0 hs0=>?_
 refine .seq (rq3 rfl rfl (aS rfl rfl (aS rfl rfl ?_)))
 refine al rfl FxGrBb.zr30 ?_; intro b8
 refine .nil (.code (.seq (.seq (rq3 rfl rfl (mV rfl rfl (kv rfl .no Fx.go96 (Evc rfl Evn) (fun _=>usable_ok bx d _ hbx) ?_))))))
 refine aS rfl rfl (.nil (.code (.seq (rq2 rfl rfl (mV rfl rfl (cp rfl .no (.u rfl) (.u rfl) rfl (.nil (.code (.cond rfl (fun c1=>?_) (fun c1=>?_))))))))))
 ·have c1k:=c1
  exact absurd c1 (by decide)
 have c1k:=c1
 try simp only [qcA,qcC,qcB] at c1
 refine .skip (.code (.seq (Wk.defers [0] 1 (DQ.d ⟨89,[.pointer (some ⟨bx,0,none⟩),.pointer (some ⟨b8,0,none⟩)],[]⟩) (fun _ _ _ _=>False) (fun _ _ _ _ _ _ hq=>hq.elim) rfl rfl ?_)))
 refine mV rfl rfl (.nil ⟨DefOp.fn rfl (Evc rfl (Evc rfl Evn)),?_⟩)
 refine .code (.seq (rq8 rfl rfl (mV rfl rfl (mV rfl rfl (kv rfl .no Fx.go97 (Evc rfl (Evc rfl Evn)) (fun _=>askGe_ok bx d _ hbx m hm) ?_)))))
 refine mV rfl rfl (ex rfl .no (.u rfl) rfl (ex rfl .no (.u rfl) rfl (aS rfl rfl (aS rfl rfl (.nil (.code (.seq (.seq (rq2 rfl rfl (mV rfl rfl (nt rfl .no (.u rfl) (.nil (.code (.cond rfl (fun c2=>?_) (fun c2=>?_)))))))))))))))
 ·have c2k:=c2
  cases c2
 have c2k:=c2
 try simp only [qcA,qcC,qcB] at c2
 refine .skip (.code (.seq (Wk.rg [0,1,2,3,4,5,6,7,8,9,10,11,12] rfl rfl (mV rfl rfl (nc rfl .no (.u rfl) (fa rfl .no Fx.fo165_13 (.u rfl) (ld rfl .no Fx.ag153 (.u rfl) (fun _=>(hbx.rd (rfl)).rd) ?_)))))))
 refine mV rfl rfl (mV rfl rfl (kv rfl .no Fx.go98 (Evc rfl (Evc rfl (Evc rfl Evn))) (fun _=>lGet_ok d.now h xs sz _ hbl hs w us d.seq hW e h0 he hu) ?_))
 refine mV rfl rfl (ex rfl .no (.u rfl) rfl (ex rfl .no (.u rfl) rfl ?_))
 refine al rfl FxGrC.zq179 ?_; intro b12
 refine sw rfl (.u rfl) (.u rfl) rfl Fx.sz179 .here rfl (Ent.one _) ?_
 refine aS rfl rfl (.nil (.code (.seq (.seq (rq2 rfl rfl (mV rfl rfl (nt rfl .no (.u rfl) (.nil (.code (.cond rfl (fun c3=>?_) (fun c3=>?_)))))))))))
 ·have c3k:=c3
  cases c3
 have c3k:=c3
 try simp only [qcA,qcC,qcB] at c3
 refine .skip (.code (.seq (.seq (rq8 rfl rfl (mV rfl rfl (nc rfl .no (.u rfl) (fa rfl .no Fx.fo165_5 (.u rfl) (lA rfl .no Fx.ag159 (.u rfl) (fun _=>(hbx.rdn (m:=14) (cs':=(stF 1 2).cells hd0) (by rw [← hst]; rfl)).rd) (fun _=>State.len) ?_))))))))
 refine mV rfl rfl (kc rfl Fx.go99 (Evc rfl (Evc rfl Evn)) (look_ok (stF 1 2) hd0 _ stF_R (by simp [tot,stF]) us) ?_)
 rintro _ G60 μ60 hG60 ⟨rfl,h60,rfl,hs60⟩
 refine ln rfl .no Fx.sn155 (.u rfl) (mV rfl rfl (.nil (.code (.block ?_))))
 refine Wk.lop (α:=Nat) (fun k=>[(13,true,.bool true),(62,true,.int .i64 (k:Int))]) (fun k=>[.blk b12 (cl e.cells 179)])
  (fun k Gl=>(k=0)) (fun k=>0) 0 [(0,true,_),(1,true,_),(8,true,_),(10,true,_),(12,true,_),(60,true,_),(61,true,_)] [_]
  (esD rfl (esC rfl (by first|rfl|exact evi (by omega)) (esD rfl (esD rfl (esD rfl (esD rfl (esD rfl (esD rfl (esD rfl eZ)))))))))
  (mS .here rfl (mS .here rfl mN)) ?_ ?_
 ·(try dsimp only)<;>(first|omega|rfl|assumption|(simp; done))
 intro k N0 Gl0 hN0 hGl0 hF0
 try dsimp only at hF0 hN0 ⊢
 have hk0:=hF0
 refine .seq (rq1 rfl rfl (cp rfl .no (.u rfl) (.u rfl) rfl (.nil (.code (.seq (.cond rfl (fun c4=>?_) (fun c4=>?_)))))))
 ·have c4k:=c4
  have hL:(lookM (stF 1 2) us 5).length=0:=by simp [lookM,ovl,stF]
  have h4:=of_decide_eq_true c4
  omega
 have c4k:=c4
 try simp only [qcA,qcC,qcB] at c4
 refine .exit (.xcode (.xlp (.xblk (.code (.seq (.seq (rq7 rfl rfl (mV rfl rfl (nt rfl .no (.u rfl) (mV rfl rfl (fz rfl (.f rfl rfl) Fx.fo179_2 (.u rfl) (ld rfl (.f rfl rfl) Fx.ag5 (.s rfl) (fun hc=>Rd.own .here (by first|exact wap_f rfl|rfl)) ?_))))))))))))
 refine cp rfl (.f rfl rfl) (.s rfl) (.u rfl) rfl (pkO rfl .no (.u rfl) (.s rfl) (.nil (.code (.cond rfl (fun c5=>?_) (fun c5=>?_)))))
 ·have c5k:=c5
  rw [hk] at c5; exact absurd c5 (by decide)
 have c5k:=c5
 try simp only [qcA,qcC,qcB] at c5
 refine .skip (.code (.seq (rq5 rfl rfl (fz rfl .no Fx.fo179_3 (.u rfl) (ld rfl .no Fx.ag9 (.u rfl) (fun _=>Rd.own .here (by first|exact wap_f rfl|rfl)) ?_)))))
 refine aS rfl rfl (aS rfl rfl (s1 rfl (.u rfl) (.u rfl) rfl Fx.sz30 tk1 (by first|decide|(simp only [wa_len,ba_len,qlA]; omega)) (rfl) ?_))
 refine .nil (.code (.ret (We.finQ [⟨89,[.pointer (some ⟨bx,0,none⟩),.pointer (some ⟨b8,0,none⟩)],[]⟩] rfl (by intro q hq; rw [List.mem_singleton.1 hq]; exact ⟨Fx.go89,fun w hw=>guard_ret w _ _⟩) Tryz.results58 (.tmp rfl (.tmp rfl (.cell rfl (fun w hw=>run_loadVar1 Fx.ag30 (Rd.own .here rfl w hw)) .nil))) mN ?_)))
 exact ⟨rfl,rfl⟩
end Go.Proofs.YtoifkgkandfeiaaGreatDoor
namespace Go.Proofs.YtoifkgkandfeiaaGreatDoor
open Go.Tan Go.RowKit Go.Maps Go.Sort Go.Shelf
namespace Fx
theorem go58:goFn Tryz.prog 58=true:=by kernel_rfl
end Fx
set_option maxHeartbeats 1000000 in
theorem askG_ok (bw bg bq bd bt held bn bb cap sz:Nat) (root:Nat→Y) (o:Opts) (nn:BitVec 64) (G:PM) (hbw:PB G bw (cl (wdC bd bt root o 100 (pt bq) (pt bg)) 77)) (vo vk vb:Value) (ho:vo.oneCell'=true) (hk9:vk.oneCell'=true) (hb9:vb.oneCell'=true):Ct Tryz.prog 34 ([.pointer (some ⟨bw,0,none⟩),.agg (EvD.cells eGt vo vk vb).toArray]:List Value).toArray G [.blk bq (cl (Db.cells { Db.d3 bd bt root o 1#64 held bn with lg:=⟨⟨1#8,0#8,0#64,1#64,1#64⟩,nn,true⟩,seq:=(0#64+BitVec.ofInt 64 (([oA6,oB6].length:Nat):Int)) }) 165),.blk bn (cl [.slice (some ⟨bb,0,none⟩) (lstW (entsF 0 [oA6,oB6]) [oA6,oB6].length).length cap,.int .i64 ((sz:Nat):Int)] 225),rS 16 Nd.cells (.slice (some ⟨bb,0,none⟩) (lstW (entsF 0 [oA6,oB6]) [oA6,oB6].length).length cap) 249 (lstW (entsF 0 [oA6,oB6]) [oA6,oB6].length)] (fun _ μ' u=>μ'=[.blk bq (cl (Db.cells { Db.d3 bd bt root o 1#64 held bn with lg:=⟨⟨1#8,0#8,0#64,1#64,1#64⟩,nn,true⟩,seq:=(0#64+BitVec.ofInt 64 (([oA6,oB6].length:Nat):Int)) }) 165),.blk bn (cl [.slice (some ⟨bb,0,none⟩) (lstW (entsF 0 [oA6,oB6]) [oA6,oB6].length).length cap,.int .i64 ((sz:Nat):Int)] 225),rS 16 Nd.cells (.slice (some ⟨bb,0,none⟩) (lstW (entsF 0 [oA6,oB6]) [oA6,oB6].length).length cap) 249 (lstW (entsF 0 [oA6,oB6]) [oA6,oB6].length)]∧u=.agg (Rep.cells (rGt) (.slice none 0 0) (.slice none 0 0)).toArray):=by
 refine Ct.of Tryz.func34 rfl Tryz.ntmps34 rfl fun w0 hs0=>?_
 refine .seq (rq2 rfl rfl ?_)
 refine bx rfl (.u rfl) rfl ?_; intro b3
 refine al rfl Fx.zr43 ?_; intro b4
 refine .nil (.code (.seq (.seq (rq2 rfl rfl (fz rfl .no Fx.fo27_0 (.u rfl) (ld rfl .no Fx.ag5 (.u rfl) (fun _=>Rd.own tk1 rfl) ?_))))))
 refine .nil (.code (.block (.seq (rq2 rfl rfl (cp rfl .no (.u rfl) (.u rfl) rfl (aS rfl rfl (.nil (.code (.cond rfl (fun c1=>?_) (fun c1=>?_))))))))))
 ·have c1k:=c1
  exact Bool.noConfusion (id c1:false=true)
 have c1k:=c1
 try simp only [qcA,qcC,qcB] at c1
 refine .seq (rq2 rfl rfl (cp rfl .no (.u rfl) (.u rfl) rfl (aS rfl rfl (.nil (.code (.cond rfl (fun c2=>?_) (fun c2=>?_)))))))
 ·have c2k:=c2
  try simp only [qcA,qcC,qcB] at c2
  refine Wk.mixp ⟨true,false⟩ Fx.mix (by kernel_rfl) ?_
  refine Wp.one 0 (by kernel_rfl) ?_
  refine mV rfl rfl (.nil (Wp.one 1 (by kernel_rfl) ?_))
  refine nc rfl .no (.u rfl) (.nil (Wp.one 2 (by kernel_rfl) ?_))
  refine fa rfl .no Fx.fo77_5 (.u rfl) (.nil (Wp.one 3 (by kernel_rfl) ?_))
  refine ld rfl .no Fx.ag45 (.u rfl) (fun _=>(hbw.rd (wd_x)).rd) ?_
  refine .nil (Wp.one 4 (by kernel_rfl) ?_)
  refine fz rfl .no Fx.fo27_4 (.u rfl) (.nil (Wp.one 5 (by kernel_rfl) ?_))
  refine ld rfl .no Fx.ag9 (.u rfl) (fun _=>Rd.own tk1 rfl) ?_
  refine .nil (Wp.one 6 (by kernel_rfl) ?_)
  refine fz rfl .no Fx.fo27_6 (.u rfl) (.nil (Wp.one 7 (by kernel_rfl) ?_))
  refine ld rfl .no Fx.ag23 (.u rfl) (fun _=>Rd.own tk1 rfl) ?_
  refine .nil (Wp.b1 8 (by kernel_rfl) ?_)
  refine ka rfl (.inl rfl) Fx.go58 (Evc rfl (Evc rfl (Evc rfl Evn))) (mtk3 tk2 tk2 tk2) (lend1 fun G1 hle1 h1=>lendL2 fun s G2 hle hv hs2 hb2=>by rw [hv] at hb2; exact dGet_ok bq { Db.d3 bd bt root o 1#64 held bn with lg:=⟨⟨1#8,0#8,0#64,1#64,1#64⟩,nn,true⟩,seq:=(0#64+BitVec.ofInt 64 (([oA6,oB6].length:Nat):Int)) } G2 (h1.mono hle) (txt [97]) 18446744073709551615#64 s (lstW (entsF 0 [oA6,oB6]) [oA6,oB6].length) _ (fun _=>0) hb2 hs2 rfl (wayG2 (l:=[oA6,oB6]) (us:=txt [97]) (q:=(0#64+BitVec.ofInt 64 (([oA6,oB6].length:Nat):Int):BitVec 64)) rfl (by kernel_rfl) (by kernel_rfl)).1 (entE 1#64 oA6) (by show 0<nxt (lstW (entsF 0 [oA6,oB6]) 2) 0 0; rw [(wayG2 (l:=[oA6,oB6]) (us:=txt [97]) (q:=(0#64+BitVec.ofInt 64 (([oA6,oB6].length:Nat):Int):BitVec 64)) rfl (by kernel_rfl) (by kernel_rfl)).2.1]; decide) (by show (List.getD (lstW (entsF 0 [oA6,oB6]) 2) (nxt (lstW (entsF 0 [oA6,oB6]) 2) 0 0) Nd.z).1=_; rw [(wayG2 (l:=[oA6,oB6]) (us:=txt [97]) (q:=(0#64+BitVec.ofInt 64 (([oA6,oB6].length:Nat):Int):BitVec 64)) rfl (by kernel_rfl) (by kernel_rfl)).2.1]; exact (wayG2 (l:=[oA6,oB6]) (us:=txt [97]) (q:=(0#64+BitVec.ofInt 64 (([oA6,oB6].length:Nat):Int):BitVec 64)) rfl (by kernel_rfl) (by kernel_rfl)).2.2) rfl rfl (by show (0#64+BitVec.ofInt 64 (([oA6,oB6].length:Nat):Int):BitVec 64).toNat≤(18446744073709551615#64:BitVec 64).toNat; decide)) ?_
  rintro _ G32 μ32 hG32 ⟨ν3,rfl,rfl,rfl⟩
  refine .nil (Wp.one 9 (by kernel_rfl) ?_)
  refine mV rfl rfl (.nil (Wp.one 10 (by kernel_rfl) ?_))
  refine ex rfl .no (.u rfl) rfl (.nil (Wp.one 11 (by kernel_rfl) ?_))
  refine ex rfl .no (.u rfl) rfl (.nil (Wp.one 12 (by kernel_rfl) ?_))
  refine ex rfl .no (.u rfl) rfl (.nil (Wp.one 13 (by kernel_rfl) ?_))
  refine fz rfl .no Fx.fo43_2 (.u rfl) (.nil (Wp.b1 14 (by kernel_rfl) ?_))
  refine s1 rfl (.u rfl) (.u rfl) rfl Fx.sz9 tk3 ((by show 2<6; decide)) (rfl) ?_
  refine .nil (Wp.one 15 (by kernel_rfl) ?_)
  refine fz rfl .no Fx.fo43_3 (.u rfl) (.nil (Wp.b1 16 (by kernel_rfl) ?_))
  refine s1 rfl (.u rfl) (.u rfl) rfl Fx.sz4 .here ((by show 3<6; decide)) (rfl) ?_
  refine .nil (Wp.one 17 (by kernel_rfl) ?_)
  refine fz rfl .no Fx.fo43_0 (.u rfl) (.nil (Wp.b1 18 (by kernel_rfl) ?_))
  refine s1 rfl (.u rfl) (.u rfl) rfl Fx.sz30 .here ((by show 0<6; decide)) (rfl) ?_
  refine .nil (Wp.last (by kernel_rfl) ?_)
  refine .blk (.code (.seq (rq2 rfl rfl (lA rfl .no Fx.ag43 (.u rfl) (fun _=>RdN.part (n:=6) (cs':=Rep.cells rGt (.slice none 0 0) (.slice none 0 0)) .here (rfl)) (fun _=>rfl) (sw rfl (.u rfl) (.u rfl) rfl Fx.sz43 .here rfl (Rep.one _ rfl rfl) ?_)))))
  refine .nil (.code (.ret (We.fin Tryz.results34 (.cell rfl (fun w hw=>run_loadVarN Fx.ag43 (RdN.own .here) (rfl) hw) .nil) (mS tk1 rfl (mS tk1 rfl (mS tk1 rfl mN))) ?_)))
  exact ⟨rfl,rfl⟩
 have c2k:=c2
 exact Bool.noConfusion (id c2:true=false)
theorem doG_ok (bw bg bq bd bt held bn bb cap sz:Nat) (root:Nat→Y) (o:Opts) (nn:BitVec 64) (G:PM) (hbw:PB G bw (cl (wdC bd bt root o 100 (pt bq) (pt bg)) 77)) (vo vk vb:Value) (ho:vo.oneCell'=true) (hk9:vk.oneCell'=true) (hb9:vb.oneCell'=true):Ct Tryz.prog 10 ([.pointer (some ⟨bw,0,none⟩),.agg (EvD.cells eGt vo vk vb).toArray]:List Value).toArray G [.blk bq (cl (Db.cells { Db.d3 bd bt root o 1#64 held bn with lg:=⟨⟨1#8,0#8,0#64,1#64,1#64⟩,nn,true⟩,seq:=(0#64+BitVec.ofInt 64 (([oA6,oB6].length:Nat):Int)) }) 165),.blk bn (cl [.slice (some ⟨bb,0,none⟩) (lstW (entsF 0 [oA6,oB6]) [oA6,oB6].length).length cap,.int .i64 ((sz:Nat):Int)] 225),rS 16 Nd.cells (.slice (some ⟨bb,0,none⟩) (lstW (entsF 0 [oA6,oB6]) [oA6,oB6].length).length cap) 249 (lstW (entsF 0 [oA6,oB6]) [oA6,oB6].length)] (fun _ μ' u=>μ'=[.blk bq (cl (Db.cells { Db.d3 bd bt root o 1#64 held bn with lg:=⟨⟨1#8,0#8,0#64,1#64,1#64⟩,nn,true⟩,seq:=(0#64+BitVec.ofInt 64 (([oA6,oB6].length:Nat):Int)) }) 165),.blk bn (cl [.slice (some ⟨bb,0,none⟩) (lstW (entsF 0 [oA6,oB6]) [oA6,oB6].length).length cap,.int .i64 ((sz:Nat):Int)] 225),rS 16 Nd.cells (.slice (some ⟨bb,0,none⟩) (lstW (entsF 0 [oA6,oB6]) [oA6,oB6].length).length cap) 249 (lstW (entsF 0 [oA6,oB6]) [oA6,oB6].length)]∧u=.agg (Rep.cells (rGt) (.slice none 0 0) (.slice none 0 0)).toArray):=by
 refine Ct.of Tryz.func10 rfl Tryz.ntmps10 rfl fun w0 hs0=>?_
 refine .seq (rq2 rfl rfl ?_)
 refine bx rfl (.u rfl) rfl ?_; intro b3
 refine al rfl Fx.zr43 ?_; intro b4
 refine .nil (.code (.seq (.seq (rq2 rfl rfl (mV rfl rfl (pe rfl .no Fx.pt29 (.u rfl) (.u rfl) ?_))))))
 refine .nil (.code (Wk.condF rfl rfl ?_))
 refine .skip (.code (.seq (.seq (rq2 rfl rfl (fz rfl .no Fx.fo27_0 (.u rfl) (ld rfl .no Fx.ag5 (.u rfl) (fun _=>Rd.own tk1 rfl) ?_))))))
 refine .nil (.code (.block (.seq (rq2 rfl rfl (cp rfl .no (.u rfl) (.u rfl) rfl (aS rfl rfl (.nil (.code (.cond rfl (fun c1=>?_) (fun c1=>?_))))))))))
 ·have c1k:=c1
  cases c1
 have c1k:=c1
 try simp only [qcA,qcC,qcB] at c1
 refine .seq (rq2 rfl rfl (cp rfl .no (.u rfl) (.u rfl) rfl (aS rfl rfl (.nil (.code (.cond rfl (fun c2=>?_) (fun c2=>?_)))))))
 ·have c2k:=c2
  exact Bool.noConfusion (id c2:false=true)
 have c2k:=c2
 try simp only [qcA,qcC,qcB] at c2
 refine .seq (rq2 rfl rfl (cp rfl .no (.u rfl) (.u rfl) rfl (aS rfl rfl (.nil (.code (.cond rfl (fun c3=>?_) (fun c3=>?_)))))))
 ·have c3k:=c3
  exact Bool.noConfusion (id c3:false=true)
 have c3k:=c3
 try simp only [qcA,qcC,qcB] at c3
 refine .seq (rq2 rfl rfl (cp rfl .no (.u rfl) (.u rfl) rfl (aS rfl rfl (.nil (.code (.cond rfl (fun c4=>?_) (fun c4=>?_)))))))
 ·have c4k:=c4
  exact Bool.noConfusion (id c4:false=true)
 have c4k:=c4
 try simp only [qcA,qcC,qcB] at c4
 refine .seq (rq2 rfl rfl (cp rfl .no (.u rfl) (.u rfl) rfl (aS rfl rfl (.nil (.code (.cond rfl (fun c5=>?_) (fun c5=>?_)))))))
 ·have c5k:=c5
  exact Bool.noConfusion (id c5:false=true)
 have c5k:=c5
 try simp only [qcA,qcC,qcB] at c5
 refine .block (.seq (rq9 rfl rfl (fz rfl .no Fx.fo27_0 (.u rfl) (ld rfl .no Fx.ag5 (.u rfl) (fun _=>Rd.own tk1 rfl) ?_))))
 refine cp rfl .no (.u rfl) (.u rfl) rfl (mV rfl rfl (fz rfl (.f rfl rfl) Fx.fo27_0 (.u rfl) (ld rfl (.f rfl rfl) Fx.ag5 (.s rfl) (fun hc=>Rd.own tk1 rfl) ?_)))
 refine cp rfl (.f rfl rfl) (.s rfl) (.u rfl) rfl (pkO rfl .no (.u rfl) (.s rfl) (aS rfl rfl (.nil (.code (.cond rfl (fun c6=>?_) (fun c6=>?_))))))
 ·have c6k:=c6
  exact Bool.noConfusion (id c6:false=true)
 have c6k:=c6
 try simp only [qcA,qcC,qcB] at c6
 refine .seq (rq6 rfl rfl (mV rfl rfl (nc rfl .no (.u rfl) (fa rfl .no Fx.fo77_5 (.u rfl) (ld rfl .no Fx.ag45 (.u rfl) (fun _=>(hbw.rd (wd_x)).rd) ?_)))))
 refine pe rfl .no Fx.pt45 (.u rfl) (.u rfl) ?_
 refine aS rfl rfl (.nil (.code (.cond rfl (fun c7=>?_) (fun c7=>?_))))
 ·have c7k:=c7
  exact Bool.noConfusion (id c7:false=true)
 have c7k:=c7
 try simp only [qcA,qcC,qcB] at c7
 refine .seq (rq4 rfl rfl (mV rfl rfl (lA rfl .no Fx.ag27 (.u rfl) (fun _=>RdN.part (n:=11) (cs':=EvD.cells eGt vo vk vb) tk1 (rfl)) (fun _=>rfl) (ka rfl (.inr rfl) Fx.go34 (Evc rfl (Evc rfl Evn)) (mtk3 tk2 tk2 tk2) (askG_ok bw bg bq bd bt held bn bb cap sz root o nn _ hbw vo vk vb ho hk9 hb9) ?_))))
 rintro _ G12 μ12 hG12 ⟨rfl,rfl⟩
 refine sw rfl (.u rfl) (.u rfl) rfl Fx.sz43 tk3 rfl (Rep.one _ rfl rfl) ?_
 refine .nil (.code (.ret (We.fin Tryz.results10 (.cell rfl (fun w hw=>run_loadVarN Fx.ag43 (RdN.own .here) (rfl) hw) .nil) (mS tk1 rfl (mS tk1 rfl (mS tk1 rfl mN))) ?_)))
 exact ⟨rfl,rfl⟩
end Go.Proofs.YtoifkgkandfeiaaGreatDoor
namespace Go.Proofs.YtoifkgkandfeiaaGreatDoor
open Go.Tan Go.RowKit Go.Maps Go.Sort Go.Shelf
namespace Fx
theorem pt64:ptT Tryz.prog 64=true:=by kernel_rfl
theorem go17:goFn Tryz.prog 17=true:=by kernel_rfl
theorem fo115_0:fOff Tryz.prog 115 0=some 0:=by kernel_rfl
theorem ag29:aggN Tryz.prog 29=some none:=by kernel_rfl
theorem go10:goFn Tryz.prog 10=true:=by kernel_rfl
theorem go20:goFn Tryz.prog 20=true:=by kernel_rfl
end Fx
theorem lineS_ok (bk bw bd bt bq bg:Nat) (root:Nat→Y) (o:Opts) (G:PM) (hbk:PB G bk (cl [.pointer (some ⟨bw,0,none⟩)] 115)) (hbw:PB G bw (cl (wdC bd bt root o 100 (pt bq) (pt bg)) 77)) (hP:PwG Tryz.prog G):Ct Tryz.prog 25 ([.pointer (some ⟨bk,0,none⟩),.string (txt sW1)]:List Value).toArray G [.blk bg (cl [pt bq,.slice none 0 0] 140)] (fun G' μ' u=>∃ (h2 s:Sh),SlR G' 3 Wtg.cells h2 [⟨2,s,[oA6,oB6],true⟩]∧SlR G' 3 Opn.cells s [oA6,oB6]∧μ'=[.blk bg (cl [pt bq,h2.val 1] 140)]∧u=.string (txt [111,107])):=by
 refine Ct.of Tryz.func25 rfl Tryz.ntmps25 rfl fun w0 hs0=>?_
 refine .seq (rq1 rfl rfl (aS rfl rfl (.nil (.code (.seq (.seq (rq2 rfl rfl (mV rfl rfl (pe rfl .no Fx.pt64 (.u rfl) (.u rfl) ?_)))))))))
 refine .nil (.code (Wk.condF rfl rfl ?_))
 refine .skip (.code (.seq (rq10 rfl rfl (mV rfl rfl (kc rfl Fx.go17 (Evc rfl Evn) (parse_seen sW1 _ (by decide) (by decide)) ?_)))))
 rintro _ G12 μ12 hG12 ⟨e1,hO,hK1,hB,i1,cd1,hp1,rfl,rfl,hsO,hsK,hsB⟩
 obtain ⟨rfl,rfl,rfl⟩:=prsR_ok hp1 prs_W
 have hbk:=hbk.mono hG12
 have hbw:=hbw.mono hG12
 have hP:=hP.mono hG12
 refine mV rfl rfl (ex rfl .no (.u rfl) rfl (ex rfl .no (.u rfl) rfl (ex rfl .no (.u rfl) rfl ?_)))
 refine al rfl Fx.zr27 ?_; intro b5
 refine sw rfl (.u rfl) (.u rfl) rfl Fx.sz27 .here rfl (EvD.one _ rfl rfl rfl) ?_
 refine aS rfl rfl (aS rfl rfl (.nil (.code (.seq (.seq (rq1 rfl rfl (mV rfl rfl (.nil (.code (.block (.seq (rq2 rfl rfl (cp rfl .no (.u rfl) (.u rfl) rfl (aS rfl rfl (.nil (.code (.cond rfl (fun c1=>?_) (fun c1=>?_))))))))))))))))))
 ·have c1k:=c1
  try simp only [qcA,qcC,qcB] at c1
  refine .seq ?_
  refine wk_fz .here (keys_k .here rfl (keys_0)) ?_; intro Gfb5 hleb5 hbb5
  have hbk:=hbk.mono hleb5
  have hbw:=hbw.mono hleb5
  have hP:=hP.mono hleb5
  have hsO:=hsO.mono hleb5
  refine Wk.mixp ⟨true,false⟩ Fx.mix (by kernel_rfl) ?_
  refine Wp.one 1 (by kernel_rfl) ?_
  refine mV rfl rfl (.nil (Wp.one 2 (by kernel_rfl) ?_))
  refine nc rfl .no (.u rfl) (.nil (Wp.one 3 (by kernel_rfl) ?_))
  refine fa rfl .no Fx.fo115_0 (.u rfl) (.nil (Wp.one 4 (by kernel_rfl) ?_))
  refine ld rfl .no Fx.ag29 (.u rfl) (fun _=>(hbk.rd (rfl)).rd) ?_
  refine .nil (Wp.one 5 (by kernel_rfl) ?_)
  refine lA rfl .no Fx.ag27 (.u rfl) (fun _=>(hbb5.rdn (m:=11) (cs':=EvD.cells eW1 (hO.val eW1.ops.length) (hK1.val eW1.keep.length) (hB.val eW1.bytes.length)) (rfl)).rd) (fun _=>rfl) (.nil (Wp.pr 0 (by kernel_rfl) ?_))
  refine lA rfl .no Fx.ag27 (.u rfl) (fun _=>(hbb5.rdn (m:=11) (cs':=EvD.cells eW1 (hO.val eW1.ops.length) (hK1.val eW1.keep.length) (hB.val eW1.bytes.length)) (rfl)).rd) (fun _=>rfl) (.nil ⟨⟨rfl,rfl⟩,?_⟩)
  refine Wp.b1 6 (by kernel_rfl) ?_
  refine ka rfl (.inl rfl) Fx.go10 (Evc rfl (Evc rfl Evn)) (mtk1 .here) (doS_ok bw bd bt bq bg root o 100 (hK1.val eW1.keep.length) (hB.val eW1.bytes.length) 2 hO [oA6,oB6] true _ hbw hsO (.inr rfl) ok_A6 (by decide) rfl rfl) ?_
  rintro _ G25 μ25 hG25 ⟨h2,s2,hsW,hsS,rfl,rfl⟩
  have hP:=hP.mono hG25
  refine .nil (Wp.b1 7 (by kernel_rfl) ?_)
  refine kv rfl .no Fx.go20 (Evc rfl (Evc rfl Evn)) (fun _=>text_ok eW1 (hO.val eW1.ops.length) (hK1.val eW1.keep.length) (hB.val eW1.bytes.length) Rep.zero ⟨none,0⟩ ⟨none,0⟩ _ rfl rfl rfl SlR.nul SlR.nul okR0 hP) ?_
  refine .nil (Wp.one 8 (by kernel_rfl) ?_)
  refine aS rfl rfl (.nil (Wp.last (by kernel_rfl) ?_))
  refine .code (.ret (We.fin Tryz.results25 (.tmp rfl .nil) (mS .here rfl mN) ?_))
  exact ⟨h2,s2,hsW,hsS,rfl,by show Value.string (txt (textT eW1.kind eW1.n Rep.zero))=_; rw [txW]⟩
 have c1k:=c1
 exact Bool.noConfusion (id c1:true=false)
set_option maxHeartbeats 1000000 in
theorem lineP_ok (bk bw bg bq bm room bd bt held bn:Nat) (root:Nat→Y) (o:Opts) (v0:Value) (F:List Fi) (h s:Sh) (G:PM) (hbk:PB G bk (cl [.pointer (some ⟨bw,0,none⟩)] 115)) (hbw:PB G bw (cl (wdC bd bt root o 100 (pt bq) (pt bg)) 77)) (hP:PwG Tryz.prog G) (hD:DkR F 3) (hnm:F.map Fi.nm=[nmB 3 0,nmB 4 0]) (hz:szF F≤2000) (hr:5000≤room) (hr9:room≤1000000000) (hmem:0<o.mem) (hs:SlR G 3 Wtg.cells h [(⟨2,s,[oA6,oB6],true⟩ : Wtg)]) (hwo:SlR G 3 Opn.cells s [oA6,oB6]) (hK:RdNP G 6 0 (wa 64 kW)):Ct Tryz.prog 25 ([.pointer (some ⟨bk,0,none⟩),.string (txt sPk)]:List Value).toArray G [.blk bg (cl [pt bq,h.val 1] 140),.blk bq (cl (Db.cells (Db.d3 bd bt root o 1#64 held bn)) 165),.blk bd (cl (dkC bm room 5) 118),.blk bm (mO ((F).map Fi.fe) 3),.blk bn (cl [v0,.int .i64 ((0:Nat):Int)] 225),rS 16 Nd.cells v0 249 [Nd.z],.blk bt (cl [uv .u64 1#64,uv .u64 1#64] 87)] (fun G' μ' u=>∃ (oa:Option Addr) (bb cap sz:Nat) (F4:List Fi) (nn:BitVec 64),μ'=[.blk bg (cl [pt bq,.slice oa 0 0] 140),.blk bq (cl (Db.cells { Db.d3 bd bt root o 1#64 held bn with lg:=⟨⟨1#8,0#8,0#64,1#64,1#64⟩,nn,true⟩,seq:=(0#64+BitVec.ofInt 64 (([oA6,oB6].length:Nat):Int)) }) 165),.blk bd (cl (dkC bm room 7) 118),.blk bm (mO ((F4).map Fi.fe) 4),.blk bn (cl [.slice (some ⟨bb,0,none⟩) (lstW (entsF 0 [oA6,oB6]) [oA6,oB6].length).length cap,.int .i64 ((sz:Nat):Int)] 225),rS 16 Nd.cells (.slice (some ⟨bb,0,none⟩) (lstW (entsF 0 [oA6,oB6]) [oA6,oB6].length).length cap) 249 (lstW (entsF 0 [oA6,oB6]) [oA6,oB6].length),.blk bt (cl [uv .u64 2#64,uv .u64 1#64] 87)]∧u=.string (txt [100,111,110,101,32,50,58,48])):=by
 refine Ct.of Tryz.func25 rfl Tryz.ntmps25 rfl fun w0 hs0=>?_
 refine .seq (rq1 rfl rfl (aS rfl rfl (.nil (.code (.seq (.seq (rq2 rfl rfl (mV rfl rfl (pe rfl .no Fx.pt64 (.u rfl) (.u rfl) ?_)))))))))
 refine .nil (.code (Wk.condF rfl rfl ?_))
 refine .skip (.code (.seq (rq10 rfl rfl (mV rfl rfl (kc rfl Fx.go17 (Evc rfl Evn) (parse_seen sPk _ (by decide) (by decide)) ?_)))))
 rintro _ G12 μ12 hG12 ⟨e1,hO,hK1,hB,i1,cd1,hp1,rfl,rfl,hsO,hsK,hsB⟩
 obtain ⟨rfl,rfl,rfl⟩:=prsR_ok hp1 prs_Pk
 have hbk:=hbk.mono hG12
 have hbw:=hbw.mono hG12
 have hP:=hP.mono hG12
 have hs:=hs.mono hG12
 have hwo:=hwo.mono hG12
 have hK:=hK.mono hG12
 refine mV rfl rfl (ex rfl .no (.u rfl) rfl (ex rfl .no (.u rfl) rfl (ex rfl .no (.u rfl) rfl ?_)))
 refine al rfl Fx.zr27 ?_; intro b5
 refine sw rfl (.u rfl) (.u rfl) rfl Fx.sz27 .here rfl (EvD.one _ rfl rfl rfl) ?_
 refine aS rfl rfl (aS rfl rfl (.nil (.code (.seq (.seq (rq1 rfl rfl (mV rfl rfl (.nil (.code (.block (.seq (rq2 rfl rfl (cp rfl .no (.u rfl) (.u rfl) rfl (aS rfl rfl (.nil (.code (.cond rfl (fun c1=>?_) (fun c1=>?_))))))))))))))))))
 ·have c1k:=c1
  try simp only [qcA,qcC,qcB] at c1
  refine .seq ?_
  refine wk_fz .here (keys_k .here rfl (keys_k .here rfl (keys_k .here rfl (keys_k .here rfl (keys_k .here rfl (keys_k .here rfl (keys_k .here rfl (keys_0)))))))) ?_; intro Gfb5 hleb5 hbb5
  have hbk:=hbk.mono hleb5
  have hbw:=hbw.mono hleb5
  have hP:=hP.mono hleb5
  have hs:=hs.mono hleb5
  have hwo:=hwo.mono hleb5
  have hK:=hK.mono hleb5
  refine Wk.mixp ⟨true,false⟩ Fx.mix (by kernel_rfl) ?_
  refine Wp.one 1 (by kernel_rfl) ?_
  refine mV rfl rfl (.nil (Wp.one 2 (by kernel_rfl) ?_))
  refine nc rfl .no (.u rfl) (.nil (Wp.one 3 (by kernel_rfl) ?_))
  refine fa rfl .no Fx.fo115_0 (.u rfl) (.nil (Wp.one 4 (by kernel_rfl) ?_))
  refine ld rfl .no Fx.ag29 (.u rfl) (fun _=>(hbk.rd (rfl)).rd) ?_
  refine .nil (Wp.one 5 (by kernel_rfl) ?_)
  refine lA rfl .no Fx.ag27 (.u rfl) (fun _=>(hbb5.rdn (m:=11) (cs':=EvD.cells ePk (hO.val ePk.ops.length) (hK1.val ePk.keep.length) (hB.val ePk.bytes.length)) (rfl)).rd) (fun _=>rfl) (.nil (Wp.pr 0 (by kernel_rfl) ?_))
  refine lA rfl .no Fx.ag27 (.u rfl) (fun _=>(hbb5.rdn (m:=11) (cs':=EvD.cells ePk (hO.val ePk.ops.length) (hK1.val ePk.keep.length) (hB.val ePk.bytes.length)) (rfl)).rd) (fun _=>rfl) (.nil ⟨⟨rfl,rfl⟩,?_⟩)
  refine Wp.b1 6 (by kernel_rfl) ?_
  refine ka rfl (.inl rfl) Fx.go10 (Evc rfl (Evc rfl Evn)) (mtq7 .here .here .here .here .here .here .here) (doP_ok bw bg bq bm room bd bt held bn root o v0 F h (⟨2,s,[oA6,oB6],true⟩ : Wtg) 1#64 _ hbw hD hnm hz hr hr9 hmem hs hwo (.inr rfl) rfl ok_A6 (fun _=>lt_A6) hK (hO.val ePk.ops.length) (hK1.val ePk.keep.length) (hB.val ePk.bytes.length) rfl rfl rfl) ?_
  rintro _ G25 μ25 hG25 ⟨oa,hd,bb,m,cap,sz,F4,nn,hm4,hsd,rfl,rfl⟩
  have hP:=hP.mono hG25
  refine .nil (Wp.b1 7 (by kernel_rfl) ?_)
  refine kv rfl .no Fx.go20 (Evc rfl (Evc rfl Evn)) (fun _=>text_ok ePk (hO.val ePk.ops.length) (hK1.val ePk.keep.length) (hB.val ePk.bytes.length) rPk ⟨none,0⟩ hd _ rfl rfl rfl SlR.nul hsd okRP hP) ?_
  refine .nil (Wp.one 8 (by kernel_rfl) ?_)
  refine aS rfl rfl (.nil (Wp.last (by kernel_rfl) ?_))
  refine .code (.ret (We.fin Tryz.results25 (.tmp rfl .nil) (mS .here rfl (mS .here rfl (mS .here rfl (mS .here rfl (mS .here rfl (mS .here rfl (mS .here rfl mN))))))) ?_))
  obtain rfl:m=(lstW (entsF 0 [oA6,oB6]) [oA6,oB6].length).length:=hm4
  exact ⟨oa,bb,cap,sz,F4,nn,rfl,by show Value.string (txt (textT ePk.kind ePk.n rPk))=_; rw [txP]⟩
 have c1k:=c1
 exact Bool.noConfusion (id c1:true=false)
theorem lineG_ok (bk bw bg bq bd bt held bn bb cap sz:Nat) (root:Nat→Y) (o:Opts) (nn:BitVec 64) (G:PM) (hbk:PB G bk (cl [.pointer (some ⟨bw,0,none⟩)] 115)) (hbw:PB G bw (cl (wdC bd bt root o 100 (pt bq) (pt bg)) 77)) (hP:PwG Tryz.prog G):Ct Tryz.prog 25 ([.pointer (some ⟨bk,0,none⟩),.string (txt sGt)]:List Value).toArray G [.blk bq (cl (Db.cells { Db.d3 bd bt root o 1#64 held bn with lg:=⟨⟨1#8,0#8,0#64,1#64,1#64⟩,nn,true⟩,seq:=(0#64+BitVec.ofInt 64 (([oA6,oB6].length:Nat):Int)) }) 165),.blk bn (cl [.slice (some ⟨bb,0,none⟩) (lstW (entsF 0 [oA6,oB6]) [oA6,oB6].length).length cap,.int .i64 ((sz:Nat):Int)] 225),rS 16 Nd.cells (.slice (some ⟨bb,0,none⟩) (lstW (entsF 0 [oA6,oB6]) [oA6,oB6].length).length cap) 249 (lstW (entsF 0 [oA6,oB6]) [oA6,oB6].length)] (fun _ μ' u=>μ'=[.blk bq (cl (Db.cells { Db.d3 bd bt root o 1#64 held bn with lg:=⟨⟨1#8,0#8,0#64,1#64,1#64⟩,nn,true⟩,seq:=(0#64+BitVec.ofInt 64 (([oA6,oB6].length:Nat):Int)) }) 165),.blk bn (cl [.slice (some ⟨bb,0,none⟩) (lstW (entsF 0 [oA6,oB6]) [oA6,oB6].length).length cap,.int .i64 ((sz:Nat):Int)] 225),rS 16 Nd.cells (.slice (some ⟨bb,0,none⟩) (lstW (entsF 0 [oA6,oB6]) [oA6,oB6].length).length cap) 249 (lstW (entsF 0 [oA6,oB6]) [oA6,oB6].length)]∧u=.string (txt [61,120])):=by
 refine Ct.of Tryz.func25 rfl Tryz.ntmps25 rfl fun w0 hs0=>?_
 refine .seq (rq1 rfl rfl (aS rfl rfl (.nil (.code (.seq (.seq (rq2 rfl rfl (mV rfl rfl (pe rfl .no Fx.pt64 (.u rfl) (.u rfl) ?_)))))))))
 refine .nil (.code (Wk.condF rfl rfl ?_))
 refine .skip (.code (.seq (rq10 rfl rfl (mV rfl rfl (kc rfl Fx.go17 (Evc rfl Evn) (parse_seen sGt _ (by decide) (by decide)) ?_)))))
 rintro _ G12 μ12 hG12 ⟨e1,hO,hK1,hB,i1,cd1,hp1,rfl,rfl,hsO,hsK,hsB⟩
 obtain ⟨rfl,rfl,rfl⟩:=prsR_ok hp1 prs_Gt
 have hbk:=hbk.mono hG12
 have hbw:=hbw.mono hG12
 have hP:=hP.mono hG12
 refine mV rfl rfl (ex rfl .no (.u rfl) rfl (ex rfl .no (.u rfl) rfl (ex rfl .no (.u rfl) rfl ?_)))
 refine al rfl Fx.zr27 ?_; intro b5
 refine sw rfl (.u rfl) (.u rfl) rfl Fx.sz27 .here rfl (EvD.one _ rfl rfl rfl) ?_
 refine aS rfl rfl (aS rfl rfl (.nil (.code (.seq (.seq (rq1 rfl rfl (mV rfl rfl (.nil (.code (.block (.seq (rq2 rfl rfl (cp rfl .no (.u rfl) (.u rfl) rfl (aS rfl rfl (.nil (.code (.cond rfl (fun c1=>?_) (fun c1=>?_))))))))))))))))))
 ·have c1k:=c1
  try simp only [qcA,qcC,qcB] at c1
  refine .seq ?_
  refine wk_fz .here (keys_k .here rfl (keys_k .here rfl (keys_k .here rfl (keys_0)))) ?_; intro Gfb5 hleb5 hbb5
  have hbk:=hbk.mono hleb5
  have hbw:=hbw.mono hleb5
  have hP:=hP.mono hleb5
  refine Wk.mixp ⟨true,false⟩ Fx.mix (by kernel_rfl) ?_
  refine Wp.one 1 (by kernel_rfl) ?_
  refine mV rfl rfl (.nil (Wp.one 2 (by kernel_rfl) ?_))
  refine nc rfl .no (.u rfl) (.nil (Wp.one 3 (by kernel_rfl) ?_))
  refine fa rfl .no Fx.fo115_0 (.u rfl) (.nil (Wp.one 4 (by kernel_rfl) ?_))
  refine ld rfl .no Fx.ag29 (.u rfl) (fun _=>(hbk.rd (rfl)).rd) ?_
  refine .nil (Wp.one 5 (by kernel_rfl) ?_)
  refine lA rfl .no Fx.ag27 (.u rfl) (fun _=>(hbb5.rdn (m:=11) (cs':=EvD.cells eGt (hO.val eGt.ops.length) (hK1.val eGt.keep.length) (hB.val eGt.bytes.length)) (rfl)).rd) (fun _=>rfl) (.nil (Wp.pr 0 (by kernel_rfl) ?_))
  refine lA rfl .no Fx.ag27 (.u rfl) (fun _=>(hbb5.rdn (m:=11) (cs':=EvD.cells eGt (hO.val eGt.ops.length) (hK1.val eGt.keep.length) (hB.val eGt.bytes.length)) (rfl)).rd) (fun _=>rfl) (.nil ⟨⟨rfl,rfl⟩,?_⟩)
  refine Wp.b1 6 (by kernel_rfl) ?_
  refine ka rfl (.inl rfl) Fx.go10 (Evc rfl (Evc rfl Evn)) (mtk3 .here .here .here) (doG_ok bw bg bq bd bt held bn bb cap sz root o nn _ hbw (hO.val eGt.ops.length) (hK1.val eGt.keep.length) (hB.val eGt.bytes.length) rfl rfl rfl) ?_
  rintro _ G25 μ25 hG25 ⟨rfl,rfl⟩
  have hP:=hP.mono hG25
  refine .nil (Wp.b1 7 (by kernel_rfl) ?_)
  refine kv rfl .no Fx.go20 (Evc rfl (Evc rfl Evn)) (fun _=>text_ok eGt (hO.val eGt.ops.length) (hK1.val eGt.keep.length) (hB.val eGt.bytes.length) rGt ⟨none,0⟩ ⟨none,0⟩ _ rfl rfl rfl SlR.nul SlR.nul okRG hP) ?_
  refine .nil (Wp.one 8 (by kernel_rfl) ?_)
  refine aS rfl rfl (.nil (Wp.last (by kernel_rfl) ?_))
  refine .code (.ret (We.fin Tryz.results25 (.tmp rfl .nil) (mS .here rfl (mS .here rfl (mS .here rfl mN))) ?_))
  exact ⟨rfl,by show Value.string (txt (textT eGt.kind eGt.n rGt))=_; rw [txG]⟩
 have c1k:=c1
 exact Bool.noConfusion (id c1:true=false)
theorem lineF_ok (bk:Nat) (v:Value) (G:PM) (hbk:PB G bk (cl [v] 115)) (hP:PwG Tryz.prog G):Ct Tryz.prog 25 ([.pointer (some ⟨bk,0,none⟩),.string (txt sFo)]:List Value).toArray G [] (fun _ μ' u=>μ'=[]∧u=.string (txt [101,114,114,111,114,32,50,54,48,32,97,116,32,48])):=by
 refine Ct.of Tryz.func25 rfl Tryz.ntmps25 rfl fun w0 hs0=>?_
 refine .seq (rq1 rfl rfl (aS rfl rfl (.nil (.code (.seq (.seq (rq2 rfl rfl (mV rfl rfl (pe rfl .no Fx.pt64 (.u rfl) (.u rfl) ?_)))))))))
 refine .nil (.code (Wk.condF rfl rfl ?_))
 refine .skip (.code (.seq (rq10 rfl rfl (mV rfl rfl (kc rfl Fx.go17 (Evc rfl Evn) (parse_seen sFo _ (by decide) (by decide)) ?_)))))
 rintro _ G12 μ12 hG12 ⟨e1,hO,hK1,hB,i1,cd1,hp1,rfl,rfl,hsO,hsK,hsB⟩
 obtain ⟨rfl,rfl,rfl⟩:=prsR_er hp1 prs_Fo
 have hP:=hP.mono hG12
 refine mV rfl rfl (ex rfl .no (.u rfl) rfl (ex rfl .no (.u rfl) rfl (ex rfl .no (.u rfl) rfl ?_)))
 refine al rfl Fx.zr27 ?_; intro b5
 refine sw rfl (.u rfl) (.u rfl) rfl Fx.sz27 .here rfl (EvD.one _ rfl rfl rfl) ?_
 refine aS rfl rfl (aS rfl rfl (.nil (.code (.seq (.seq (rq1 rfl rfl (mV rfl rfl (.nil (.code (.block (.seq (rq2 rfl rfl (cp rfl .no (.u rfl) (.u rfl) rfl (aS rfl rfl (.nil (.code (.cond rfl (fun c1=>?_) (fun c1=>?_))))))))))))))))))
 ·have c1k:=c1
  exact Bool.noConfusion (id c1:false=true)
 have c1k:=c1
 try simp only [qcA,qcC,qcB] at c1
 refine .seq (rq2 rfl rfl (cp rfl .no (.u rfl) (.u rfl) rfl (aS rfl rfl (.nil (.code (.cond rfl (fun c2=>?_) (fun c2=>?_)))))))
 ·have c2k:=c2
  try simp only [qcA,qcC,qcB] at c2
  refine .seq (rq8 rfl rfl (mV rfl rfl (kv rfl .no Fx.go45 (Evc rfl Evn) (fun _=>itoa_ok 260 _ (by decide) (by decide) hP) ?_)))
  refine sPt (sError++Lib.itoa 260) rfl .no (.u rfl) (.u rfl) (rfl) (fun _=>by rw [txt_size,it_260]; decide) ?_
  refine sPt (sError++Lib.itoa 260++[32,97,116,32]) rfl .no (.u rfl) (.u rfl) (rfl) (fun _=>by rw [txt_size,it_260]; decide) ?_
  refine mV rfl rfl (kv rfl .no Fx.go45 (Evc rfl Evn) (fun _=>itoa_ok 0 _ (by decide) (by decide) hP) ?_)
  refine sPt (sError++Lib.itoa 260++[32,97,116,32]++Lib.itoa 0) rfl .no (.u rfl) (.u rfl) (rfl) (fun _=>by rw [txt_size,txt_size,it_260,it_0]; decide) ?_
  refine aS rfl rfl (.nil (.code (.ret (We.fin0 Tryz.results25 (.tmp rfl .nil) ?_))))
  exact ⟨rfl,by rw [it_260,it_0]; rfl⟩
 have c2k:=c2
 exact Bool.noConfusion (id c2:true=false)
end Go.Proofs.YtoifkgkandfeiaaGreatDoor
namespace Go.Proofs.YtoifkgkandfeiaaGreatDoor
open Go.Tan Go.RowKit Go.Maps Go.Sort Go.Shelf
namespace Fx
theorem zr38:zrL Tryz.prog 38=some ([.int .i64 0,.int .i64 0,.int .i64 0,.int .i64 0,.int .i64 0,.int .i64 0,.int .i64 0]):=by kernel_rfl
theorem bp36_0_1_2:bPl Tryz.prog 36 [0,1,2]=some ([.int .i64 0,.int .i64 0,.int .i64 0],[(0,1),(1,1),(2,1)]):=by kernel_rfl
theorem bp38_0_1_2_3_4:bPl Tryz.prog 38 [0,1,2,3,4]=some ([.int .i64 0,.int .i64 0,.int .i64 0,.int .i64 0,.int .i64 0,.int .i64 0,.int .i64 0],[(0,1),(1,1),(2,1),(3,1),(4,3)]):=by kernel_rfl
theorem sz38:szT Tryz.prog 38=some 7:=by kernel_rfl
theorem bp34_:bPl Tryz.prog 34 []=some (ba 32 (fun _=>0#8),[]):=by kernel_rfl
theorem go24:goFn Tryz.prog 24=true:=by kernel_rfl
theorem go23:goFn Tryz.prog 23=true:=by kernel_rfl
theorem go25:goFn Tryz.prog 25=true:=by kernel_rfl
theorem eqt71:eqT Tryz.prog 4 71 ([.int .u8,.str,.str])=true:=by kernel_rfl
end Fx
theorem opt26_ok (G:PM):Ct Tryz.prog 24 ([V 100#8]:List Value).toArray G [] (fun _ μ' u=>μ'=[]∧u=(⟨101,150,2,1500,40,4,10⟩ : Opts).val):=by
 refine Ct.of Tryz.func24 rfl Tryz.ntmps24 rfl fun w0 hs0=>?_
 refine .seq (rq1 rfl rfl ?_)
 refine al rfl Fx.zr38 ?_; intro b2
 refine .nil (.code (.seq (rq6 rfl rfl (mV rfl rfl ?_))))
 refine cn (k:=.u8) rfl .no Fx.cv5_3 (by decide) (.u rfl) ?_; intro m4 em4 lm4
 refine arn ((101:Nat):Int) rfl .no (.u rfl) (.u rfl) rfl (fun _=>by rw [em4]; rfl) (fun _=>wrap_i64 (by omega) (by omega)) ?_
 refine bCe ([.int .i64 40,.int .i64 4,.int .i64 10]) rfl .no Fx.bp36_0_1_2 (.cons (.u rfl) rfl (.cons (.u rfl) rfl (.cons (.u rfl) rfl .nil))) rfl (rfl) (bCe (Opts.cells (⟨101,150,2,1500,40,4,10⟩ : Opts)) rfl .no Fx.bp38_0_1_2_3_4 (.cons (.u rfl) rfl (.cons (.u rfl) rfl (.cons (.u rfl) rfl (.cons (.u rfl) rfl (.cons (.u rfl) rfl .nil))))) rfl (rfl) (sw rfl (.u rfl) (.u rfl) rfl Fx.sz38 .here (by first|exact qE|exact qL|rfl) (by first|exact ba_one _ _|exact wa_one _ _|exact one_V _|decide|exact one_app (wa_one _ _) (by simp [Value.oneCell'])) ?_))
 refine .nil (.code (.ret (We.fin0 Tryz.results24 (.cell rfl (fun w hw=>run_loadVarN Fx.ag38 (RdN.own .here) ((by first|exact qE|exact qL|rfl)) hw) .nil) ?_)))
 exact ⟨rfl,rfl⟩
set_option maxHeartbeats 1000000 in
theorem shown26_ok (G:PM) (hP:PwG Tryz.prog G) (hK:RdNP G 6 0 (wa 64 kW)):Ct Tryz.prog 16 ([]:List Value).toArray G [] (fun _ μ' u=>μ'=[]∧u=.bool true):=by
 refine Ct.of Tryz.func16 rfl Tryz.ntmps16 rfl fun w0 hs0=>?_
 refine .seq (rq1 rfl rfl (aS rfl rfl (.nil (.code (.seq (rq9 rfl rfl (kc rfl Fx.go17 (Evc rfl Evn) (parse_seen sW1 _ (by decide) (by decide)) ?_)))))))
 rintro _ G14 μ14 hG14 ⟨e1,hO,hK1,hB,i1,cd1,hp1,rfl,rfl,hsO,hsK,hsB⟩
 obtain ⟨rfl,rfl,rfl⟩:=prsR_ok hp1 prs_W
 have hK:=hK.mono hG14
 have hP:=hP.mono hG14
 refine mV rfl rfl (ex rfl .no (.u rfl) rfl (ex rfl .no (.u rfl) rfl (ex rfl .no (.u rfl) rfl ?_)))
 refine al rfl Fx.zr27 ?_; intro b1
 refine sw rfl (.u rfl) (.u rfl) rfl Fx.sz27 .here rfl (EvD.one _ rfl rfl rfl) ?_
 refine aS rfl rfl (aS rfl rfl (.nil (.code (.seq (rq9 rfl rfl (kc rfl Fx.go17 (Evc rfl Evn) (parse_seen sG0 _ (by decide) (by decide)) ?_))))))
 rintro _ G19 μ19 hG19 ⟨e2,hO2,hK2,hB2,i2,cd2,hp2,rfl,rfl,hsO2,hsK2,hsB2⟩
 obtain ⟨rfl,rfl,rfl⟩:=prsR_er hp2 prs_G0
 have hK:=hK.mono hG19
 have hP:=hP.mono hG19
 have hsO:=hsO.mono hG19
 refine mV rfl rfl (ex rfl .no (.u rfl) rfl (ex rfl .no (.u rfl) rfl (ex rfl .no (.u rfl) rfl ?_)))
 refine al rfl Fx.zr27 ?_; intro b4
 refine sw rfl (.u rfl) (.u rfl) rfl Fx.sz27 .here rfl (EvD.one _ rfl rfl rfl) ?_
 refine aS rfl rfl (aS rfl rfl (.nil (.code (.seq (rq8 rfl rfl (bCe (ba 32 (fun _=>0#8)) rfl .no Fx.bp34_ .nil rfl (rfl) ?_))))))
 refine kv rfl .no Fx.go24 (Evc rfl Evn) (fun _=>opt26_ok _) ?_
 refine kc rfl Fx.go23 (Evc rfl (Evc rfl (Evc rfl (Evc rfl Evn)))) (dkNew_ok 1048576 (fun _=>0#8) (⟨101,150,2,1500,40,4,10⟩ : Opts) 100 _ rfl (by decide) (by decide) hK) ?_
 rintro _ G26 μ26 hG26 ⟨bk,bd,bm,bt,bw,bq,held,now,bg,v,F,ov,hD,hn,hz,hbw,hbk,rfl,rfl⟩
 have hK:=hK.mono hG26
 have hP:=hP.mono hG26
 have hsO:=hsO.mono hG26
 refine mV rfl rfl (ex rfl .no (.u rfl) rfl (ex rfl .no (.u rfl) rfl (aS rfl rfl (aS rfl rfl (.nil (.code (.seq (.seq (Wk.rg [0,1,2,3,4,5,6,7,8,9,10,11] rfl rfl (mV rfl rfl (cp rfl .no (.u rfl) (.u rfl) rfl (mV rfl rfl (mv rfl (.f rfl rfl) (.u rfl) (pe rfl (.f rfl rfl) Fx.pt64 (.s rfl) (.u rfl) ?_))))))))))))))
 refine pkO rfl .no (.u rfl) (.s rfl) (mV rfl rfl (fz rfl (.f rfl rfl) Fx.fo27_2 (.u rfl) (ld rfl (.f rfl rfl) Fx.ag22 (.s rfl) (fun hc=>Rd.own (.there tk8) rfl) ?_)))
 refine ln rfl (.f rfl rfl) Fx.sn22 (.s rfl) (cp rfl (.f rfl rfl) (.s rfl) (.u rfl) rfl (pkO rfl .no (.u rfl) (.s rfl) (.nil (.code (.cond rfl (fun c1=>?_) (fun c1=>?_))))))
 ·have c1k:=c1
  exact Bool.noConfusion (id c1:false=true)
 have c1k:=c1
 try simp only [qcA,qcC,qcB] at c1
 refine .skip (.code (.seq (Wk.rg [0,1,2,3,4,5,6,7,8,9,10,11] rfl rfl (mV rfl rfl (ka rfl (.inr rfl) Fx.go25 (Evc rfl (Evc rfl Evn)) (mtk1 .here) (lineS_ok bk bw bd bt bq bg (fun _=>0#8) (⟨101,150,2,1500,40,4,10⟩ : Opts) _ hbk hbw hP) ?_)))))
 rintro _ G42 μ42 hG42 ⟨h2,s2,hsW,hsS,rfl,rfl⟩
 have hK:=hK.mono hG42
 have hP:=hP.mono hG42
 have hsO:=hsO.mono hG42
 have hbw:=hbw.mono hG42
 have hbk:=hbk.mono hG42
 refine mV rfl rfl (ka rfl (.inr rfl) Fx.go25 (Evc rfl (Evc rfl Evn)) (mtq7 .here .here .here .here tk1 tk1 .here) (lineP_ok bk bw bg bq bm 1048576 bd bt held now (fun _=>0#8) (⟨101,150,2,1500,40,4,10⟩ : Opts) v F h2 s2 _ hbk hbw hP hD hn hz (by decide) (by decide) (by decide) hsW hsS hK) ?_)
 rintro _ G44 μ44 hG44 ⟨oa,bb,cap,sz,F4,nn,rfl,rfl⟩
 have hP:=hP.mono hG44
 have hsO:=hsO.mono hG44
 have hbw:=hbw.mono hG44
 have hbk:=hbk.mono hG44
 refine mV rfl rfl (ka rfl (.inr rfl) Fx.go25 (Evc rfl (Evc rfl Evn)) (mtk3 tk1 tk3 tk3) (lineG_ok bk bw bg bq bd bt held now bb cap sz (fun _=>0#8) (⟨101,150,2,1500,40,4,10⟩ : Opts) nn _ hbk hbw hP) ?_)
 rintro _ G46 μ46 hG46 ⟨rfl,rfl⟩
 have hP:=hP.mono hG46
 have hsO:=hsO.mono hG46
 have hbk:=hbk.mono hG46
 refine mV rfl rfl (kv rfl .no Fx.go25 (Evc rfl (Evc rfl Evn)) (fun _=>lineF_ok bk _ _ hbk hP) ?_)
 refine aS rfl rfl (aS rfl rfl (aS rfl rfl (aS rfl rfl (.nil (.code (.seq (Wk.rg [0,1,2,3,4,5,6,7,8,9,10,11,12,13,14,15,16,17,18,19,20,21,22,23,24,25,26,27,28,29,30,31,32,33,34,35,36,37,38,39,40,41,42,43] rfl rfl (mV rfl rfl (cp rfl .no (.u rfl) (.u rfl) rfl (mV rfl rfl (fz rfl (.t rfl rfl) Fx.fo27_1 (.u rfl) (ld rfl (.t rfl rfl) Fx.ag3 (.s rfl) (fun hc=>Rd.own (.there tk8) rfl) ?_))))))))))))
 refine cp rfl (.t rfl rfl) (.s rfl) (.u rfl) rfl (pkA rfl .no (.u rfl) (.s rfl) (mV rfl rfl (fz rfl (.t rfl rfl) Fx.fo27_3 (.u rfl) (ld rfl (.t rfl rfl) Fx.ag4 (.s rfl) (fun hc=>Rd.own (.there tk8) rfl) ?_))))
 refine pkA rfl .no (.u rfl) (.s rfl) (mV rfl rfl (fz rfl (.t rfl rfl) Fx.fo27_2 (.u rfl) (ld rfl (.t rfl rfl) Fx.ag22 (.s rfl) (fun hc=>Rd.own (.there tk8) rfl) ?_)))
 refine ih rfl (.t rfl rfl) Fx.se22 (.s rfl) (.u rfl) (fun hc=>by omega) (fun hc=>by omega) (fun hc=>hsO.nn (k:=0) (by first|omega|(simp only [Bool.and_eq_true,decide_eq_true_eq] at hc; omega)|(simp only [List.length_cons,List.length_nil]; omega))) ?_
 refine lA rfl (.t rfl rfl) Fx.ag71 (.s rfl) (fun hc=>(hsO.at (k:=0) rfl rfl).rd) (fun _=>Opn.len _) ?_
 refine bCe (Opn.cells oA6) rfl (.t rfl rfl) Fx.bp71_0_1_2 (.cons (.u rfl) rfl (.cons (.u rfl) rfl (.cons (.u rfl) rfl .nil))) rfl (rfl) (eqC (true) rfl (.t rfl rfl) Fx.eqt71 (.s rfl) (.s rfl) (fun hc=>.cons (.int (by decide) (by decide)) (.cons (.str (by decide)) (.cons (.str (by decide)) .nil))) (fun hc=>.cons (.int (by decide) (by decide)) (.cons (.str (by decide)) (.cons (.str (by decide)) .nil))) (fun hc=>⟨fun _=>rfl,fun _=>rfl⟩) ?_)
 refine pkA rfl .no (.u rfl) (.s rfl) (mV rfl rfl (mv rfl (.t rfl rfl) (.u rfl) (cp rfl (.t rfl rfl) (.s rfl) (.u rfl) rfl (pkA rfl .no (.u rfl) (.s rfl) (mV rfl rfl (mv rfl (.t rfl rfl) (.u rfl) (cp rfl (.t rfl rfl) (.s rfl) (.u rfl) rfl (pkA rfl .no (.u rfl) (.s rfl) (mV rfl rfl (mv rfl (.t rfl rfl) (.u rfl) (cs rfl (.t rfl rfl) (.s rfl) (.u rfl) rfl (pkA rfl .no (.u rfl) (.s rfl) (mV rfl rfl (mv rfl (.t rfl rfl) (.u rfl) (cs rfl (.t rfl rfl) (.s rfl) (.u rfl) rfl (pkA rfl .no (.u rfl) (.s rfl) (mV rfl rfl (mv rfl (.t rfl rfl) (.u rfl) (cs rfl (.t rfl rfl) (.s rfl) (.u rfl) rfl (pkA rfl .no (.u rfl) (.s rfl) (mV rfl rfl (mv rfl (.t rfl rfl) (.u rfl) (cs rfl (.t rfl rfl) (.s rfl) (.u rfl) rfl (pkA rfl .no (.u rfl) (.s rfl) (aS rfl rfl (.nil (.code (.ret (We.fin0 Tryz.results16 (.tmp rfl .nil) ?_)))))))))))))))))))))))))))))
 exact ⟨rfl,by kernel_rfl⟩
end Go.Proofs.YtoifkgkandfeiaaGreatDoor
namespace Go.Tan
open Go.RowKit
theorem dec_step {n:Nat} (h:9<n):Lib.decDigits n=Lib.decDigits (n / 10)++[UInt8.ofNat (48+n%10)]:=by
 rw [Lib.decDigits,dif_neg (by omega)]
theorem dec_last {n:Nat} (h:n≤9):Lib.decDigits n=[UInt8.ofNat (48+n)]:=Lib.decDigits_one (by omega)
theorem bts_1 (y:Y):bts (bstr [y])=[UInt8.ofNat y.toNat]:=bstr_data [y]
theorem itoa_neg2 {n:Int} (h:n<0):Lib.itoa n=45 :: Lib.decDigits n.natAbs:=by unfold Lib.itoa; rw [if_pos h]
theorem itoa_pos2 {n:Int} (h:0≤n):Lib.itoa n=Lib.decDigits n.toNat:=by unfold Lib.itoa; rw [if_neg (by omega)]
theorem dg_c (q:BitVec 64):bts (bstr [BitVec.setWidth IntKind.u8.bits (48#64+q%10#64)])=[UInt8.ofNat (48+q.toNat%10)]:=by
 refine (bts_1 _).trans ?_
 have h:(BitVec.setWidth 8 (48#64+q%10#64)).toNat=48+q.toNat%10:=by
  rw [BitVec.toNat_setWidth,BitVec.toNat_add,BitVec.toNat_umod]
  show (48+q.toNat%10)%18446744073709551616%256=_
  omega
 exact congrArg (fun n=>[UInt8.ofNat n]) h
theorem dg_l {q:BitVec 64} (hq:q.toNat≤9):bts (bstr [BitVec.setWidth IntKind.u8.bits (48#64+q)])=[UInt8.ofNat (48+q.toNat)]:=by
 refine (bts_1 _).trans ?_
 have h:(BitVec.setWidth 8 (48#64+q)).toNat=48+q.toNat:=by
  rw [BitVec.toNat_setWidth,BitVec.toNat_add]
  show (48+q.toNat)%18446744073709551616%256=_
  omega
 exact congrArg (fun n=>[UInt8.ofNat n]) h
theorem neg_nat {n:Int} (h0 : -9223372036854775808≤n) (h:n<0):(-(BitVec.ofInt 64 n)).toNat=n.natAbs:=by
 rw [BitVec.toNat_neg,BitVec.toNat_ofInt]; omega
theorem pos_nat {n:Int} (h1:n≤9223372036854775807) (h:0≤n):(BitVec.ofInt 64 n).toNat=n.toNat:=by
 rw [BitVec.toNat_ofInt]; omega
section
variable {dr:Bool} {mc:Md} {P:Program} {n:Fm} {l:List Oper} {K:Env→PM→Mem→Prop} {i:Nat} {σ:List Nat} {ρ:Env} {G:PM} {μ:Mem}
variable {d t:Nat} {p:String} {af:Array Edge} {g:Option (Nat×Bool)} {c:Bool}
theorem rm2 {T T':TypeId} {x y:Operand} {a:Int} (ho:nth l i=some ⟨some d,.binOp .rem T x y T',t,p,af,g⟩) (hg:Gd l ρ g c) (hx:Ev ρ c x (.int .i64 a)) (hy:Ev ρ c y (.int .i64 2))
  (h:Wo dr mc P n l K σ ((d,c,.int .i64 (a.tmod 2)) :: ρ) G μ):Wo dr mc P n l K (i :: σ) ρ G μ :=
 .pure ho (.inl rfl) hg (fun hc q w ha=>by simp [execOp,hx.eval ha hc,hy.eval ha hc,eqGuard_int,binOp,Op.intDiv]) h
end
theorem jtk_le {l:List (ByteArray×ByteArray)} (h:∀ p∈l,p.1.size≤1000∧p.2.size≤1000) (k:Nat):(Lib.join ((l.take k).map pairT) [32]).length≤2002*k:=by
 have h3:=join_le (x:=[]) (m:=2001) (l:=(l.take k).map pairT) (fun y hy=>by obtain ⟨p,hp,rfl⟩:=List.mem_map.1 hy; exact pairT_le (h p (List.mem_of_mem_take hp)))
 rw [List.length_map,List.length_take] at h3
 have:min k l.length≤k:=Nat.min_le_left ..
 omega
theorem jtk_t {l:List (ByteArray×ByteArray)} {k:Nat} {p:ByteArray×ByteArray} (ep:l[k]? = some p) (hk:0<k):Lib.join ((l.take k).map pairT) [32]++[32]++pairT p=Lib.join ((l.take (k+1)).map pairT) [32]:=by
 have hlt:k<l.length:=by
  rcases Nat.lt_or_ge k l.length with h | h
  ·exact h
  ·rw [List.getElem?_eq_none h] at ep; cases ep
 rw [← mtk_snoc pairT ep,join_snoc (fun e=>by
  have h1:=congrArg List.length e
  rw [List.length_map,List.length_take,List.length_nil,Nat.min_eq_left (by omega)] at h1
  omega),List.append_assoc]
theorem jtk_f {l:List (ByteArray×ByteArray)} {k:Nat} {p:ByteArray×ByteArray} (ep:l[k]? = some p) (hk:k=0):Lib.join ((l.take k).map pairT) [32]++pairT p=Lib.join ((l.take (k+1)).map pairT) [32]:=by
 subst hk
 rw [← mtk_snoc pairT ep,List.take_zero,List.map_nil,List.nil_append,Lib.join_nil,List.nil_append,Lib.join_one]
theorem all_tk {l:List (ByteArray×ByteArray)} {k:Nat} {p:ByteArray×ByteArray} (ep:l[k]? = some p) (h:∀ q∈l.take k,q.1.size≤1000∧q.2.size≤1000) (hp:p.1.size≤1000∧p.2.size≤1000):∀ q∈l.take (k+1),q.1.size≤1000∧q.2.size≤1000:=fun q hq=>by
 rw [List.take_add_one,ep] at hq
 rcases List.mem_append.1 hq with h1 | h1
 ·exact h q h1
 ·rw [List.mem_singleton.1 h1]; exact hp
section
variable {k:Y} {n:Int} {r:Rep}
theorem kyd (k:Y) {m:Nat} (hm:m<256):(((BitVec.toNat k:Nat):Int) == (m:Int))=decide (k=BitVec.ofNat 8 m):=by
 cases h:(((BitVec.toNat k:Nat):Int) == (m:Int)) with
 | true=>rw [decide_eq_true (ky_t h)]
 | false=>rw [decide_eq_false (ky_f hm h)]
def kq (k:Y) (m:Nat):Bool:=((BitVec.toNat k:Nat):Int) == (m:Int)
theorem kqd {m:Nat} (hm:m<256):kq k m=decide (k=BitVec.ofNat 8 m):=kyd k hm
theorem o6_2 (h:(kq k 2&&r.is)=true):okT k n r=61 :: bts r.value:=by
 rw [kqd (by decide),Bool.and_eq_true,decide_eq_true_eq] at h
 unfold okT; rw [if_pos h.1,if_pos h.2]
theorem o6_n (h1:(kq k 2&&r.is)=false) (h:(kq k 2||(kq k 3&&(((r.pairs.length:Nat):Int) == 0)))=true):okT k n r=sNone:=by
 rw [kqd (by decide)] at h1
 rw [kqd (by decide),kqd (by decide)] at h
 unfold okT
 by_cases h2:k=2#8
 ·rw [if_pos h2,if_neg (fun e=>by rw [decide_eq_true h2,e] at h1; cases h1)]
 ·rw [decide_eq_false h2,Bool.false_or,Bool.and_eq_true,decide_eq_true_eq] at h
  rw [if_neg h2,if_pos h.1,if_pos (len0_t (k:=0) h.2)]
theorem o6_s (h:(kq k 2||(kq k 3&&(((r.pairs.length:Nat):Int) == 0)))=false) (h3:kq k 3=true):okT k n r=Lib.join (r.pairs.map pairT) [32]:=by
 have e3:=ky_t (m:=3) h3
 rw [h3,Bool.true_and,Bool.or_eq_false_iff] at h
 have h2:¬ k=2#8:=ky_f (m:=2) (by decide) h.1
 unfold okT
 rw [if_neg h2,if_pos e3,if_neg (fun e=>by rw [e] at h; exact absurd h.2 (by decide))]
theorem o6_h (h4:kq k 4=true):okT k n r=sHeld++Lib.decDigits r.n.toNat:=by
 have e4:=ky_t (m:=4) h4
 subst e4; rfl
theorem o6_w (h:(kq k 6&&(!(n.tmod 2 == 0))&&r.is)=true):okT k n r=sWorked:=by
 rw [tmod2,Bool.and_eq_true,Bool.and_eq_true] at h
 have e6:=ky_t (m:=6) h.1.1
 subst e6
 show (if oddZ n=true∧r.is=true then sWorked else _)=_
 rw [if_pos ⟨h.1.2,h.2⟩]
theorem o6_i (h7:(kq k 6&&(!(n.tmod 2 == 0))&&r.is)=false) (h:(kq k 6&&((!(n.tmod 2 == 0))||(((r.dones.length:Nat):Int) == 0)))=true):okT k n r=sIdle:=by
 rw [tmod2] at h h7
 rw [Bool.and_eq_true] at h
 have e6:=ky_t (m:=6) h.1
 rw [h.1,Bool.true_and] at h7
 subst e6
 show (if oddZ n=true∧r.is=true then sWorked else if oddZ n=true∨r.dones=[] then sIdle else sDone)=_
 rw [if_neg (fun e=>by rw [e.1,e.2] at h7; cases h7),if_pos ?_]
 rcases (Bool.or_eq_true _ _).mp h.2 with q | q
 ·exact .inl q
 ·exact .inr (len0_t (k:=0) q)
theorem o6_d (h7:(kq k 6&&(!(n.tmod 2 == 0))&&r.is)=false) (h:(kq k 6&&((!(n.tmod 2 == 0))||(((r.dones.length:Nat):Int) == 0)))=false) (h6:kq k 6=true):okT k n r=sDone:=by
 rw [tmod2] at h h7
 rw [h6,Bool.true_and] at h h7
 have e6:=ky_t (m:=6) h6
 subst e6
 show (if oddZ n=true∧r.is=true then sWorked else if oddZ n=true∨r.dones=[] then sIdle else sDone)=_
 rw [if_neg (fun e=>by rw [e.1,e.2] at h7; cases h7),if_neg ?_]
 rintro (q | q)
 ·rw [q] at h; cases h
 ·rw [q] at h; simp at h
theorem o6_o (h:(kq k 2||(kq k 3&&(((r.pairs.length:Nat):Int) == 0)))=false) (h3:kq k 3=false) (h4:kq k 4=false) (h6:kq k 6=false):okT k n r=sOk:=by
 rw [Bool.or_eq_false_iff] at h
 unfold okT
 rw [if_neg (ky_f (m:=2) (by decide) h.1),if_neg (ky_f (m:=3) (by decide) h3),if_neg (ky_f (m:=4) (by decide) h4),if_neg (ky_f (m:=6) (by decide) h6)]
end
end Go.Tan
namespace Go.Proofs.YtoifkgkandfeiaaGreatDoor
open Go.Tan Go.RowKit Go.Maps Go.Sort Go.Shelf
theorem rDig6_ok (n0:BitVec 64) (G:PM):Ct Tryz.prog 82 ([uv .u64 n0]:List Value).toArray G [] (fun _ μ' u=>μ'=[]∧u=.string (txt (Lib.decDigits n0.toNat))):=by
 refine Ct.of Tryz.func82 rfl Tryz.ntmps82 rfl fun w0 hs0=>?_
 refine .seq (rq1 rfl rfl (aS rfl rfl (.nil (.code (.seq (rq1 rfl rfl (aS rfl rfl (.nil (.code (.seq (.block ?_)))))))))))
 refine Wk.lop (α:=BitVec 64×List UInt8) (fun gh=>[(0,true,uv .u64 gh.1),(3,true,.string (txt gh.2))]) (fun _=>[])
  (fun gh Gl=>(Lib.decDigits n0.toNat=Lib.decDigits gh.1.toNat++gh.2)) (fun gh=>gh.1.toNat) (n0,[]) [] []
  (esD rfl (esD rfl eZ))
  mN ?_ ?_
 ·(try dsimp only)<;>(rw [List.append_nil])
 intro gh N0 Gl0 hN0 hGl0 hF0
 obtain ⟨q,l⟩:=gh; dsimp only at hF0 hN0 ⊢
 have hE:=hF0
 have hll:l.length≤20:=by have h9:=dec_le n0.isLt; rw [hE,List.length_append] at h9; omega
 refine .seq (.seq (rq2 rfl rfl (mV rfl rfl (cp rfl .no (.u rfl) (.u rfl) rfl (.nil (.code (.cond rfl (fun c1=>?_) (fun c1=>?_))))))))
 ·have c1k:=c1
  try simp only [qcA,qcC,qcB] at c1
  refine .skip (.code (.block (.seq (rq9 rfl rfl ?_))))
  have c9:9<q.toNat:=Int.ofNat_lt.1 c1
  refine mV rfl rfl (mw (k:=.u64) (b:=10#64) rfl .no (.u rfl) (.u rfl) (fun _=>show (10#64:BitVec 64)≠0#64 by decide) ?_)
  refine bw (k:=.u64) (a:=48#64) rfl .no rfl (.u rfl) (.u rfl) rfl (cu (k:=.u64) rfl .no rfl Fx.cv23_5 (.u rfl) ?_)
  refine Go.Tan.b1 rfl Fx.se25 Fx.zv5 (.u rfl) rfl rfl (by decide) ?_; intro b10
  refine sB rfl .no Fx.bs25_9 (.u rfl) (fun _=>(Sc.one .here)) ?_
  refine mV rfl rfl (sPt (UInt8.ofNat (48+q.toNat%10) :: l) rfl .no (.u rfl) (.u rfl) ((congrArg (fun z=>z++l) (dg_c q)).symm) (fun _=>by rw [bstr_len,txt_size]; exact Nat.le_trans (Nat.add_le_add_left hll 1) (by decide)) ?_)
  refine aS rfl rfl (.nil (.code (rq3 rfl rfl (mV rfl rfl (dw (k:=.u64) (b:=10#64) rfl .no rfl (.u rfl) (.u rfl) (fun _=>show (10#64:BitVec 64)≠0#64 by decide) ?_)))))
  refine aS rfl rfl (.nil (.blk (We.lpo (q / 10#64,UInt8.ofNat (48+q.toNat%10) :: l) ?_ ?_ ?_ ?_ ?_)))
  ·exact (esD rfl (esD rfl eZ))
  ·exact mN
  ·show (q / 10#64:BitVec 64).toNat<N0; rw [BitVec.toNat_udiv]; show q.toNat / 10<N0; omega
  ·exact hGl0
  (try dsimp only)<;>(rw [hE,dec_step (by omega),BitVec.toNat_udiv,List.append_assoc]; rfl)
 have c1k:=c1
 try simp only [qcA,qcC,qcB] at c1
 refine .exit (.xcode (.xlp (.xblk (.code (.seq (rq8 rfl rfl ?_))))))
 have c9:q.toNat≤9:=Int.ofNat_le.1 c1
 refine mV rfl rfl (bw (k:=.u64) (a:=48#64) rfl .no rfl (.u rfl) (.u rfl) rfl (cu (k:=.u64) rfl .no rfl Fx.cv23_5 (.u rfl) ?_))
 refine Go.Tan.b1 rfl Fx.se25 Fx.zv5 (.u rfl) rfl rfl (by decide) ?_; intro b19
 refine sB rfl .no Fx.bs25_9 (.u rfl) (fun _=>(Sc.one .here)) ?_
 refine mV rfl rfl (sPt (Lib.decDigits n0.toNat) rfl .no (.u rfl) (.u rfl) (by rw [hE,dec_last (by omega)]; exact (congrArg (fun z=>z++l) (dg_l (by omega))).symm) (fun _=>by rw [bstr_len,txt_size]; exact Nat.le_trans (Nat.add_le_add_left hll 1) (by decide)) ?_)
 refine aS rfl rfl (.nil (.code (.ret (We.fin0 Tryz.results82 (.tmp rfl .nil) ?_))))
 exact ⟨rfl,rfl⟩
end Go.Proofs.YtoifkgkandfeiaaGreatDoor
namespace Go.Proofs.YtoifkgkandfeiaaGreatDoor
open Go.Tan Go.RowKit Go.Maps Go.Sort Go.Shelf
namespace Fx
theorem go82:goFn Tryz.prog 82=true:=by kernel_rfl
end Fx
theorem rSig6_ok (n:Int) (G:PM) (h0 : -9223372036854775808≤n) (h1:n≤9223372036854775807):Ct Tryz.prog 48 ([.int .i64 n]:List Value).toArray G [] (fun _ μ' u=>μ'=[]∧u=.string (txt (Lib.itoa n))):=by
 refine Ct.of Tryz.func48 rfl Tryz.ntmps48 rfl fun w0 hs0=>?_
 have hil:=itoa_le h0 h1
 refine .seq (rq1 rfl rfl (aS rfl rfl (.nil (.code (.seq (.seq (rq2 rfl rfl (mV rfl rfl (cp rfl .no (.u rfl) (.u rfl) rfl (.nil (.code (.cond rfl (fun c1=>?_) (fun c1=>?_)))))))))))))
 ·have c1k:=c1
  try simp only [qcA,qcC,qcB] at c1
  refine .seq (rq6 rfl rfl (mV rfl rfl (ci rfl .no rfl Fx.cv3_23 (.u rfl) ?_)))
  refine nw (k:=.u64) rfl .no rfl (.u rfl) ?_
  refine kv rfl .no Fx.go82 (Evc rfl Evn) (fun _=>rDig6_ok (-(BitVec.ofInt 64 n)) _) (sPt (Lib.itoa n) rfl .no (.u rfl) (.u rfl) (by rw [itoa_neg2 c1,←neg_nat h0 c1]; rfl) (fun _=>by have e9:=itoa_neg2 c1; rw [← neg_nat h0 c1] at e9; rw [e9] at hil; rw [List.length_cons] at hil; show 1+(Lib.decDigits _).length≤_; omega) ?_)
  refine aS rfl rfl (.nil (.code (.ret (We.fin0 Tryz.results48 (.tmp rfl .nil) ?_))))
  exact ⟨rfl,rfl⟩
 have c1k:=c1
 try simp only [qcA,qcC,qcB] at c1
 refine .skip (.code (.seq (rq4 rfl rfl (mV rfl rfl (ci rfl .no rfl Fx.cv3_23 (.u rfl) ?_)))))
 refine kv rfl .no Fx.go82 (Evc rfl Evn) (fun _=>rDig6_ok (BitVec.ofInt 64 n) _) (aS rfl rfl (.nil (.code (.ret (We.fin0 Tryz.results48 (.tmp rfl .nil) ?_)))))
 exact ⟨rfl,by rw [itoa_pos2 c1,pos_nat h1 c1]; rfl⟩
theorem rOk6_ok (e:EvD) (vo vk vb:Value) (r:Rep) (hp hd:Sh) (G:PM) (ho:vo.oneCell'=true) (hk9:vk.oneCell'=true) (hb9:vb.oneCell'=true) (hsp:SlR G 2 encPr hp r.pairs) (hsd:SlR G 2 encDn hd r.dones) (hr:r.ok) (hP:PwG Tryz.prog G):Ct Tryz.prog 47 ([.agg (EvD.cells e vo vk vb).toArray,.agg (Rep.cells r (hp.val r.pairs.length) (hd.val r.dones.length)).toArray]:List Value).toArray G [] (fun _ μ' u=>μ'=[]∧u=.string (txt (okT e.kind e.n r))):=by
 refine Ct.of Tryz.func47 rfl Tryz.ntmps47 rfl fun w0 hs0=>?_
 obtain ⟨hre0,hre1⟩:=hr.err
 obtain ⟨hpl,hpp⟩:=hr.pairs
 obtain ⟨hdl,hdd⟩:=hr.dones
 have hvl:=hr.value
 refine .seq (rq3 rfl rfl ?_)
 refine bx rfl (.u rfl) rfl ?_; intro b2
 refine bx rfl (.u rfl) rfl ?_; intro b3
 refine aS rfl rfl (.nil (.code (.seq (.block (.seq (rq8 rfl rfl (fz rfl .no Fx.fo27_0 (.u rfl) (ld rfl .no Fx.ag5 (.u rfl) (fun _=>Rd.own tk1 (by first|exact wap_f rfl|rfl)) ?_))))))))
 refine cp rfl .no (.u rfl) (.u rfl) rfl (mV rfl rfl (fz rfl (.t rfl rfl) Fx.fo43_3 (.u rfl) (ld rfl (.t rfl rfl) Fx.ag4 (.s rfl) (fun hc=>Rd.own .here (by first|exact wap_f rfl|rfl)) ?_)))
 refine pkA rfl .no (.u rfl) (.s rfl) (aS rfl rfl (.nil (.code (.cond rfl (fun c1=>?_) (fun c1=>?_)))))
 ·have c1k:=c1
  skip
  refine .seq (rq4 rfl rfl (fz rfl .no Fx.fo43_2 (.u rfl) (ld rfl .no Fx.ag9 (.u rfl) (fun _=>Rd.own .here (by first|exact wap_f rfl|rfl)) ?_)))
  refine sPt (61 :: bts r.value) rfl .no (.u rfl) (.u rfl) (rfl) (fun _=>by show 1+r.value.size≤_; omega) ?_
  refine aS rfl rfl (.nil (.code (.ret (We.fin0 Tryz.results47 (.tmp rfl .nil) ?_))))
  exact ⟨rfl,by rw [o6_2 c1]; rfl⟩
 have c1k:=c1
 skip
 refine .seq (Wk.rg [0,1,2,3,4,5,6,7,8,9,10,11,12,13,14] rfl rfl (fz rfl .no Fx.fo27_0 (.u rfl) (ld rfl .no Fx.ag5 (.u rfl) (fun _=>Rd.own tk1 (by first|exact wap_f rfl|rfl)) ?_)))
 refine cp rfl .no (.u rfl) (.u rfl) rfl (mV rfl rfl (fz rfl (.f rfl rfl) Fx.fo27_0 (.u rfl) (ld rfl (.f rfl rfl) Fx.ag5 (.s rfl) (fun hc=>Rd.own tk1 (by first|exact wap_f rfl|rfl)) ?_)))
 refine cp rfl (.f rfl rfl) (.s rfl) (.u rfl) rfl (mv rfl (.f rfl rfl) (.s rfl) (fz rfl (.tc rfl rfl) Fx.fo43_4 (.u rfl) (ld rfl (.tc rfl rfl) Fx.ag40 (.s rfl) (fun hc=>Rd.own .here rfl) ?_)))
 refine ln rfl (.tc rfl rfl) Fx.sn40 (.s rfl) (cp rfl (.tc rfl rfl) (.s rfl) (.u rfl) rfl (pkA rfl (.f rfl rfl) (.s rfl) (.s rfl) (pkO rfl .no (.u rfl) (.s rfl) (aS rfl rfl (.nil (.code (.cond rfl (fun c2=>?_) (fun c2=>?_))))))))
 ·have c2k:=c2
  skip
  refine .seq (rq1 rfl rfl (aS rfl rfl (.nil (.code (.ret (We.fin0 Tryz.results47 (.tmp rfl .nil) ?_))))))
  exact ⟨rfl,by rw [o6_n c1 c2]; rfl⟩
 have c2k:=c2
 skip
 refine .seq (rq4 rfl rfl (fz rfl .no Fx.fo27_0 (.u rfl) (ld rfl .no Fx.ag5 (.u rfl) (fun _=>Rd.own tk1 (by first|exact wap_f rfl|rfl)) ?_)))
 refine cp rfl .no (.u rfl) (.u rfl) rfl (aS rfl rfl (.nil (.code (.cond rfl (fun c3=>?_) (fun c3=>?_)))))
 ·have c3k:=c3
  skip
  refine .seq (rq1 rfl rfl (aS rfl rfl (.nil (.code (.seq (.seq (rq1 rfl rfl (aS rfl rfl (.nil (.code (.block ?_)))))))))))
  refine Wk.lop (α:=Nat×List UInt8) (fun gh=>[(5,true,.string (txt gh.2)),(6,true,.int .i64 (gh.1:Int))]) (fun _=>[])
   (fun gh Gl=>(gh.1≤r.pairs.length)∧(gh.2=Lib.join ((r.pairs.take gh.1).map pairT) [32])) (fun gh=>r.pairs.length-gh.1) (0,[]) [(3,true,_)] [_,_]
   (esD rfl (esC rfl (by first|rfl|exact evi (by omega)) (esD rfl eZ)))
   (mS .here rfl (mS .here rfl mN)) ?_ ?_
  ·refine ⟨?_,?_⟩
   ·(try dsimp only)<;>(first|omega|rfl|assumption|(simp; done))
   (try dsimp only)<;>(rfl)
  intro gh N0 Gl0 hN0 hGl0 hF0
  obtain ⟨k,l⟩:=gh; dsimp only at hF0 hN0 ⊢
  obtain ⟨hk,hl⟩:=hF0
  have hsp:=hsp.mono hGl0
  have hll:l.length≤2002*k:=by rw [hl]; exact jtk_le hpp k
  refine .seq (.seq (rq5 rfl rfl (mV rfl rfl (fz rfl .no Fx.fo43_4 (.u rfl) (ld rfl .no Fx.ag40 (.u rfl) (fun _=>Rd.own .here rfl) ?_)))))
  refine ln rfl .no Fx.sn40 (.u rfl) (cp rfl .no (.u rfl) (.u rfl) rfl (.nil (.code (.cond rfl (fun c4=>?_) (fun c4=>?_)))))
  ·have c4k:=c4
   have c4:=Int.ofNat_lt.1 (of_decide_eq_true c4)
   obtain ⟨p,ep⟩:=getx (k:=k) (xs:=r.pairs) c4
   have hpq:=hpp p (List.mem_of_getElem? ep)
   refine .skip (.code (.seq (.block (.seq (.seq (rq2 rfl rfl (mV rfl rfl (cp rfl .no (.u rfl) (.u rfl) rfl (.nil (.code (.cond rfl (fun c5=>?_) (fun c5=>?_))))))))))))
   ·have c5k:=c5
    have c5:=of_decide_eq_true c5
    refine rq3 rfl rfl (mV rfl rfl (sPt (l++[32]) rfl .no (.u rfl) (.u rfl) (rfl) (fun _=>by show l.length+1≤_; omega) ?_))
    refine aS rfl rfl (.nil (.code (Wk.draw (mc:=⟨false,false⟩) [0,1,2,3,4,5,6,7,8,9,10,11,12,13,14,15,16] Fx.mix (by kernel_rfl) ?_)))
    refine mV rfl rfl (fz rfl .no Fx.fo43_4 (.u rfl) (ld rfl .no Fx.ag40 (.u rfl) (fun _=>Rd.own .here rfl) ?_))
    refine mV rfl rfl (ih rfl .no Fx.se40 (.u rfl) (.u rfl) (fun _=>by omega) (fun _=>by omega) (fun _=>hsp.nn (k:=k) (by first|omega|(simp only [Bool.and_eq_true,decide_eq_true_eq] at hc; omega)|(simp only [List.length_cons,List.length_nil]; omega))) ?_)
    refine fa rfl .no Fx.fo61_0 (.u rfl) (ld rfl .no Fx.ag9 (.u rfl) (fun _=>(hsp.at (by omega) ep 0 _ rfl).rd) ?_)
    refine sPt ((l++[32])++bts p.1) rfl .no (.u rfl) (.u rfl) (rfl) (fun _=>by rw [txt_size]; (try simp only [qlA,bts_len]); omega) ?_
    refine sPt ((l++[32])++bts p.1++[61]) rfl .no (.u rfl) (.u rfl) (rfl) (fun _=>by rw [txt_size]; simp only [qlA,bts_len]; show _+1≤_; omega) ?_
    refine fz rfl .no Fx.fo43_4 (.u rfl) (ld rfl .no Fx.ag40 (.u rfl) (fun _=>Rd.own .here rfl) ?_)
    refine mV rfl rfl (ih rfl .no Fx.se40 (.u rfl) (.u rfl) (fun _=>by omega) (fun _=>by omega) (fun _=>hsp.nn (k:=k) (by first|omega|(simp only [Bool.and_eq_true,decide_eq_true_eq] at hc; omega)|(simp only [List.length_cons,List.length_nil]; omega))) ?_)
    refine fa rfl .no Fx.fo61_1 (.u rfl) (ld rfl .no Fx.ag9 (.u rfl) (fun _=>(hsp.at (by omega) ep 1 _ rfl).rd) ?_)
    refine sPt ((l++[32])++pairT p) rfl .no (.u rfl) (.u rfl) (by unfold pairT; rw [bts_txt]; simp) (fun _=>by rw [txt_size]; (try simp only [qlA,bts_len]); omega) ?_
    refine aS rfl rfl (.nil (.blk (.code (rq3 rfl rfl (mV rfl rfl (arn (((k+1):Nat):Int) rfl .no (.u rfl) (.u rfl) rfl (fun _=>by omega) (fun _=>wrap_i64 (by omega) (by omega)) ?_))))))
    refine aS rfl rfl (.nil (We.lpo (k+1,l++[32]++pairT p) ?_ ?_ ?_ ?_ ?_))
    ·exact (esD rfl (esC rfl (by first|rfl|exact evi (by omega)) (esD rfl eZ)))
    ·exact (mS .here rfl (mS .here rfl mN))
    ·first|omega|(dsimp only; omega)
    ·exact hGl0
    refine ⟨?_,?_⟩
    ·(try dsimp only)<;>(first|omega|rfl|assumption|(simp; done))
    (try dsimp only)<;>(rw [hl]; exact jtk_t ep (by omega))
   have c5k:=c5
   have c5:=of_decide_eq_false c5
   refine .skip (.code (Wk.draw (mc:=⟨false,false⟩) [0,1,2,3,4,5,6,7,8,9,10,11,12,13,14,15,16] Fx.mix (by kernel_rfl) ?_))
   refine mV rfl rfl (fz rfl .no Fx.fo43_4 (.u rfl) (ld rfl .no Fx.ag40 (.u rfl) (fun _=>Rd.own .here rfl) ?_))
   refine mV rfl rfl (ih rfl .no Fx.se40 (.u rfl) (.u rfl) (fun _=>by omega) (fun _=>by omega) (fun _=>hsp.nn (k:=k) (by first|omega|(simp only [Bool.and_eq_true,decide_eq_true_eq] at hc; omega)|(simp only [List.length_cons,List.length_nil]; omega))) ?_)
   refine fa rfl .no Fx.fo61_0 (.u rfl) (ld rfl .no Fx.ag9 (.u rfl) (fun _=>(hsp.at (by omega) ep 0 _ rfl).rd) ?_)
   refine sPt (l++bts p.1) rfl .no (.u rfl) (.u rfl) (rfl) (fun _=>by rw [txt_size]; (try simp only [qlA,bts_len]); omega) ?_
   refine sPt (l++bts p.1++[61]) rfl .no (.u rfl) (.u rfl) (rfl) (fun _=>by rw [txt_size]; simp only [qlA,bts_len]; show _+1≤_; omega) ?_
   refine fz rfl .no Fx.fo43_4 (.u rfl) (ld rfl .no Fx.ag40 (.u rfl) (fun _=>Rd.own .here rfl) ?_)
   refine mV rfl rfl (ih rfl .no Fx.se40 (.u rfl) (.u rfl) (fun _=>by omega) (fun _=>by omega) (fun _=>hsp.nn (k:=k) (by first|omega|(simp only [Bool.and_eq_true,decide_eq_true_eq] at hc; omega)|(simp only [List.length_cons,List.length_nil]; omega))) ?_)
   refine fa rfl .no Fx.fo61_1 (.u rfl) (ld rfl .no Fx.ag9 (.u rfl) (fun _=>(hsp.at (by omega) ep 1 _ rfl).rd) ?_)
   refine sPt (l++pairT p) rfl .no (.u rfl) (.u rfl) (by unfold pairT; rw [bts_txt]; simp) (fun _=>by rw [txt_size]; (try simp only [qlA,bts_len]); omega) ?_
   refine aS rfl rfl (.nil (.blk (.code (rq3 rfl rfl (mV rfl rfl (arn (((k+1):Nat):Int) rfl .no (.u rfl) (.u rfl) rfl (fun _=>by omega) (fun _=>wrap_i64 (by omega) (by omega)) ?_))))))
   refine aS rfl rfl (.nil (We.lpo (k+1,l++pairT p) ?_ ?_ ?_ ?_ ?_))
   ·exact (esD rfl (esC rfl (by first|rfl|exact evi (by omega)) (esD rfl eZ)))
   ·exact (mS .here rfl (mS .here rfl mN))
   ·first|omega|(dsimp only; omega)
   ·exact hGl0
   refine ⟨?_,?_⟩
   ·(try dsimp only)<;>(first|omega|rfl|assumption|(simp; done))
   (try dsimp only)<;>(rw [hl]; exact jtk_f ep (by omega))
  have c4k:=c4
  have c4:=of_decide_eq_false c4
  refine .exit (.xcode (.xlp (.xblk (.code (.seq (rq2 rfl rfl (mV rfl rfl (aS rfl rfl (.nil (.code (.ret (We.fin0 Tryz.results47 (.tmp rfl .nil) ?_))))))))))))
  obtain rfl:k=r.pairs.length:=by omega
  rw [List.take_length] at hl
  exact ⟨rfl,by rw [o6_s c2 c3,hl]; rfl⟩
 have c3k:=c3
 skip
 refine .seq (rq4 rfl rfl (fz rfl .no Fx.fo27_0 (.u rfl) (ld rfl .no Fx.ag5 (.u rfl) (fun _=>Rd.own tk1 (by first|exact wap_f rfl|rfl)) ?_)))
 refine cp rfl .no (.u rfl) (.u rfl) rfl (aS rfl rfl (.nil (.code (.cond rfl (fun c6=>?_) (fun c6=>?_)))))
 ·have c6k:=c6
  skip
  refine .seq (rq5 rfl rfl (fz rfl .no Fx.fo43_1 (.u rfl) (ld rfl .no Fx.ag23 (.u rfl) (fun _=>Rd.own .here (by first|exact wap_f rfl|rfl)) ?_)))
  refine kv rfl .no Fx.go82 (Evc rfl Evn) (fun _=>rDig6_ok r.n _) ?_
  refine sPt (sHeld++Lib.decDigits r.n.toNat) rfl .no (.u rfl) (.u rfl) (rfl) (fun _=>by have:=dec_le r.n.isLt; show 5+(Lib.decDigits r.n.toNat).length≤_; omega) ?_
  refine aS rfl rfl (.nil (.code (.ret (We.fin0 Tryz.results47 (.tmp rfl .nil) ?_))))
  exact ⟨rfl,by rw [o6_h c6]; rfl⟩
 have c6k:=c6
 skip
 refine .seq (Wk.rg [0,1,2,3,4,5,6,7,8,9,10,11,12,13] rfl rfl (fz rfl .no Fx.fo27_0 (.u rfl) (ld rfl .no Fx.ag5 (.u rfl) (fun _=>Rd.own tk1 (by first|exact wap_f rfl|rfl)) ?_)))
 refine cp rfl .no (.u rfl) (.u rfl) rfl (mV rfl rfl (fz rfl (.t rfl rfl) Fx.fo27_7 (.u rfl) (ld rfl (.t rfl rfl) Fx.ag3 (.s rfl) (fun hc=>Rd.own tk1 rfl) ?_)))
 refine rm2 rfl (.t rfl rfl) (.s rfl) (.u rfl) ?_
 refine cp rfl (.t rfl rfl) (.s rfl) (.u rfl) rfl (pkA rfl .no (.u rfl) (.s rfl) (mV rfl rfl (fz rfl (.t rfl rfl) Fx.fo43_3 (.u rfl) (ld rfl (.t rfl rfl) Fx.ag4 (.s rfl) (fun hc=>Rd.own .here (by first|exact wap_f rfl|rfl)) ?_))))
 refine pkA rfl .no (.u rfl) (.s rfl) (aS rfl rfl (.nil (.code (.cond rfl (fun c7=>?_) (fun c7=>?_)))))
 ·have c7k:=c7
  skip
  refine .seq (rq1 rfl rfl (aS rfl rfl (.nil (.code (.ret (We.fin0 Tryz.results47 (.tmp rfl .nil) ?_))))))
  exact ⟨rfl,by rw [o6_w c7]; rfl⟩
 have c7k:=c7
 skip
 refine .seq (Wk.rg [0,1,2,3,4,5,6,7,8,9,10,11,12,13,14,15] rfl rfl (fz rfl .no Fx.fo27_0 (.u rfl) (ld rfl .no Fx.ag5 (.u rfl) (fun _=>Rd.own tk1 (by first|exact wap_f rfl|rfl)) ?_)))
 refine cp rfl .no (.u rfl) (.u rfl) rfl (mV rfl rfl (fz rfl (.t rfl rfl) Fx.fo27_7 (.u rfl) (ld rfl (.t rfl rfl) Fx.ag3 (.s rfl) (fun hc=>Rd.own tk1 rfl) ?_)))
 refine rm2 rfl (.t rfl rfl) (.s rfl) (.u rfl) ?_
 refine cp rfl (.t rfl rfl) (.s rfl) (.u rfl) rfl (mv rfl (.t rfl rfl) (.s rfl) (fz rfl (.fc rfl rfl) Fx.fo43_5 (.u rfl) (ld rfl (.fc rfl rfl) Fx.ag41 (.s rfl) (fun hc=>Rd.own .here rfl) ?_)))
 refine ln rfl (.fc rfl rfl) Fx.sn41 (.s rfl) (cp rfl (.fc rfl rfl) (.s rfl) (.u rfl) rfl (pkO rfl (.t rfl rfl) (.s rfl) (.s rfl) (pkA rfl .no (.u rfl) (.s rfl) (aS rfl rfl (.nil (.code (.cond rfl (fun c8=>?_) (fun c8=>?_))))))))
 ·have c8k:=c8
  skip
  refine .seq (rq1 rfl rfl (aS rfl rfl (.nil (.code (.ret (We.fin0 Tryz.results47 (.tmp rfl .nil) ?_))))))
  exact ⟨rfl,by rw [o6_i c7 c8]; rfl⟩
 have c8k:=c8
 skip
 refine .seq (rq4 rfl rfl (fz rfl .no Fx.fo27_0 (.u rfl) (ld rfl .no Fx.ag5 (.u rfl) (fun _=>Rd.own tk1 (by first|exact wap_f rfl|rfl)) ?_)))
 refine cp rfl .no (.u rfl) (.u rfl) rfl (aS rfl rfl (.nil (.code (.cond rfl (fun c9=>?_) (fun c9=>?_)))))
 ·have c9k:=c9
  skip
  refine .seq (rq1 rfl rfl (aS rfl rfl (.nil (.code (.ret (We.fin0 Tryz.results47 (.tmp rfl .nil) ?_))))))
  exact ⟨rfl,by rw [o6_d c7 c8 c9]; rfl⟩
 have c9k:=c9
 skip
 refine .skip (.blk (.code (.seq (rq1 rfl rfl (aS rfl rfl (.nil (.code (.ret (We.fin0 Tryz.results47 (.tmp rfl .nil) ?_)))))))))
 exact ⟨rfl,by rw [o6_o c2 c3 c6 c9]; rfl⟩
end Go.Proofs.YtoifkgkandfeiaaGreatDoor
namespace Go.Proofs.YtoifkgkandfeiaaGreatDoor
open Go.Tan Go.RowKit Go.Maps Go.Sort Go.Shelf
namespace Fx
theorem go47:goFn Tryz.prog 47=true:=by kernel_rfl
theorem go48:goFn Tryz.prog 48=true:=by kernel_rfl
end Fx
theorem rText6_ok (e:EvD) (vo vk vb:Value) (r:Rep) (hp hd:Sh) (G:PM) (ho:vo.oneCell'=true) (hk9:vk.oneCell'=true) (hb9:vb.oneCell'=true) (hsp:SlR G 2 encPr hp r.pairs) (hsd:SlR G 2 encDn hd r.dones) (hr:r.ok) (hP:PwG Tryz.prog G):Ct Tryz.prog 21 ([.agg (EvD.cells e vo vk vb).toArray,.agg (Rep.cells r (hp.val r.pairs.length) (hd.val r.dones.length)).toArray]:List Value).toArray G [] (fun _ μ' u=>μ'=[]∧u=.string (txt (textT e.kind e.n r))):=by
 refine Ct.of Tryz.func21 rfl Tryz.ntmps21 rfl fun w0 hs0=>?_
 obtain ⟨hre0,hre1⟩:=hr.err
 obtain ⟨hpl,hpp⟩:=hr.pairs
 obtain ⟨hdl,hdd⟩:=hr.dones
 have hvl:=hr.value
 obtain ⟨htl,htn⟩:=toldT_le (k:=e.kind) (n:=e.n) hr
 refine .seq (rq3 rfl rfl ?_)
 refine bx rfl (.u rfl) rfl ?_; intro b2
 refine bx rfl (.u rfl) rfl ?_; intro b3
 refine aS rfl rfl (.nil (.code (.seq (rq4 rfl rfl (lA rfl .no Fx.ag27 (.u rfl) (fun _=>RdN.part (n:=11) (cs':=EvD.cells e vo vk vb) tk1 (rfl)) (fun _=>rfl) (lA rfl .no Fx.ag43 (.u rfl) (fun _=>RdN.part (n:=6) (cs':=Rep.cells r (hp.val r.pairs.length) (hd.val r.dones.length)) .here (rfl)) (fun _=>rfl) (kv rfl .no Fx.go47 (Evc rfl (Evc rfl Evn)) (fun _=>rOk6_ok e vo vk vb r hp hd _ ho hk9 hb9 hsp hsd hr hP) ?_)))))))
 refine aS rfl rfl (.nil (.code (.seq (.seq (rq3 rfl rfl (fz rfl .no Fx.fo43_0 (.u rfl) (ld rfl .no Fx.ag30 (.u rfl) (fun _=>Rd.own .here rfl) ?_)))))))
 refine cp rfl .no (.u rfl) (.u rfl) rfl (.nil (.code (.cond rfl (fun c1=>?_) (fun c1=>?_))))
 ·have c1k:=c1
  try simp only [qcA,qcC,qcB] at c1
  refine rq5 rfl rfl (fz rfl .no Fx.fo43_0 (.u rfl) (ld rfl .no Fx.ag30 (.u rfl) (fun _=>Rd.own .here rfl) ?_))
  refine kv rfl .no Fx.go48 (Evc rfl Evn) (fun _=>rSig6_ok r.err _ hre0 hre1) ?_
  refine sPt (toldT e.kind e.n r) rfl .no (.u rfl) (.u rfl) (by unfold toldT; rw [if_neg c1]; rfl) (fun _=>by have:=itoa_le hre0 hre1; show 6+(Lib.itoa r.err).length≤_; omega) ?_
  refine aS rfl rfl (.nil (.code (.seq (.seq (rq1 rfl rfl (aS rfl rfl (.nil (.code (.block ?_)))))))))
  refine Wk.lop (α:=Nat×List UInt8) (fun gh=>[(5,true,.string (txt gh.2)),(6,true,.int .i64 (gh.1:Int))]) (fun _=>[])
   (fun gh Gl=>(gh.1≤r.dones.length)∧(gh.2=toldT e.kind e.n r++(r.dones.take gh.1).flatMap doneT)) (fun gh=>r.dones.length-gh.1) (0,toldT e.kind e.n r) [(3,true,_)] [_,_]
   (esD rfl (esC rfl (by first|rfl|exact evi (by omega)) (esD rfl eZ)))
   (mS .here rfl (mS .here rfl mN)) ?_ ?_
  ·refine ⟨?_,?_⟩
   ·(try dsimp only)<;>(first|omega|rfl|assumption|(simp; done))
   (try dsimp only)<;>(rw [List.take_zero,List.flatMap_nil,List.append_nil])
  intro gh N0 Gl0 hN0 hGl0 hF0
  obtain ⟨k,l⟩:=gh; dsimp only at hF0 hN0 ⊢
  obtain ⟨hk,hl⟩:=hF0
  have hsd:=hsd.mono hGl0
  have hdl1:=dones_le (l:=r.dones.take k) (fun x hx=>hdd x (List.mem_of_mem_take hx))
  have hdl2:(r.dones.take k).length≤k:=by rw [List.length_take]; omega
  have hll:l.length≤1100000+50*k:=by rw [hl,List.length_append]; omega
  refine .seq (.seq (rq5 rfl rfl (mV rfl rfl (fz rfl .no Fx.fo43_5 (.u rfl) (ld rfl .no Fx.ag41 (.u rfl) (fun _=>Rd.own .here rfl) ?_)))))
  refine ln rfl .no Fx.sn41 (.u rfl) (cp rfl .no (.u rfl) (.u rfl) rfl (.nil (.code (.cond rfl (fun c2=>?_) (fun c2=>?_)))))
  ·have c2k:=c2
   have c9:=Int.ofNat_lt.1 (of_decide_eq_true c2)
   obtain ⟨d,ed⟩:=getx (k:=k) (xs:=r.dones) c9
   obtain ⟨hd1,hd2⟩:=hdd d (List.mem_of_getElem? ed)
   have hq1:=itoa_le hd1.1 hd1.2
   have hq2:=itoa_le hd2.1 hd2.2
   have hdl3:=doneT_le (d:=d) ⟨hd1,hd2⟩
   refine .skip (.code (.seq (.block (Wk.draw (mc:=⟨false,false⟩) [0,1,2,3,4,5,6,7,11,12,13,14,15,16,8,9,10,17,18,19] Fx.mix (by kernel_rfl) ?_))))
   refine mV rfl rfl (sPt (l++[32]) rfl .no (.u rfl) (.u rfl) (rfl) (fun _=>by show l.length+1≤_; omega) ?_)
   refine fz rfl .no Fx.fo43_5 (.u rfl) (ld rfl .no Fx.ag41 (.u rfl) (fun _=>Rd.own .here rfl) ?_)
   refine mV rfl rfl (ih rfl .no Fx.se41 (.u rfl) (.u rfl) (fun _=>by omega) (fun _=>by omega) (fun _=>hsd.nn (k:=k) (by first|omega|(simp only [Bool.and_eq_true,decide_eq_true_eq] at hc; omega)|(simp only [List.length_cons,List.length_nil]; omega))) ?_)
   refine fa rfl .no Fx.fo73_0 (.u rfl) (ld rfl .no Fx.ag3 (.u rfl) (fun _=>(hsd.at (by omega) ed 0 _ rfl).rd) ?_)
   refine fz rfl .no Fx.fo43_5 (.u rfl) (ld rfl .no Fx.ag41 (.u rfl) (fun _=>Rd.own .here rfl) ?_)
   refine mV rfl rfl (ih rfl .no Fx.se41 (.u rfl) (.u rfl) (fun _=>by omega) (fun _=>by omega) (fun _=>hsd.nn (k:=k) (by first|omega|(simp only [Bool.and_eq_true,decide_eq_true_eq] at hc; omega)|(simp only [List.length_cons,List.length_nil]; omega))) ?_)
   refine fa rfl .no Fx.fo73_1 (.u rfl) (ld rfl .no Fx.ag30 (.u rfl) (fun _=>(hsd.at (by omega) ed 1 _ rfl).rd) ?_)
   refine kv rfl .no Fx.go48 (Evc rfl Evn) (fun _=>rSig6_ok d.1 _ hd1.1 hd1.2) ?_
   refine sPt (l++[32]++Lib.itoa d.1) rfl .no (.u rfl) (.u rfl) (rfl) (fun _=>by rw [txt_size,txt_size]; simp only [qlA]; omega) ?_
   refine sPt (l++[32]++Lib.itoa d.1++[58]) rfl .no (.u rfl) (.u rfl) (rfl) (fun _=>by rw [txt_size]; simp only [qlA]; show _+1≤_; omega) ?_
   refine kv rfl .no Fx.go48 (Evc rfl Evn) (fun _=>rSig6_ok d.2 _ hd2.1 hd2.2) ?_
   refine sPt (l++doneT d) rfl .no (.u rfl) (.u rfl) (by unfold doneT; rw [bts_txt,bts_txt]; simp) (fun _=>by rw [txt_size,txt_size]; simp only [qlA]; omega) ?_
   refine aS rfl rfl (.nil (.blk (.code (rq3 rfl rfl (mV rfl rfl (arn (((k+1):Nat):Int) rfl .no (.u rfl) (.u rfl) rfl (fun _=>by omega) (fun _=>wrap_i64 (by omega) (by omega)) ?_))))))
   refine aS rfl rfl (.nil (We.lpo (k+1,l++doneT d) ?_ ?_ ?_ ?_ ?_))
   ·exact (esD rfl (esC rfl (by first|rfl|exact evi (by omega)) (esD rfl eZ)))
   ·exact (mS .here rfl (mS .here rfl mN))
   ·first|omega|(dsimp only; omega)
   ·exact hGl0
   refine ⟨?_,?_⟩
   ·(try dsimp only)<;>(first|omega|rfl|assumption|(simp; done))
   (try dsimp only)<;>(rw [hl,List.append_assoc,fmtk_snoc doneT ed])
  have c2k:=c2
  have c9:=of_decide_eq_false c2
  refine .exit (.xcode (.xlp (.xblk (.code (.seq (rq2 rfl rfl (mV rfl rfl (aS rfl rfl (.nil (.code (.ret (We.fin0 Tryz.results21 (.tmp rfl .nil) ?_))))))))))))
  obtain rfl:k=r.dones.length:=by omega
  rw [List.take_length] at hl
  exact ⟨rfl,by rw [hl]; rfl⟩
 have c1k:=c1
 try simp only [qcA,qcC,qcB] at c1
 refine .skip (.code (.seq (.seq (rq1 rfl rfl (aS rfl rfl (.nil (.code (.block ?_))))))))
 refine Wk.lop (α:=Nat×List UInt8) (fun gh=>[(5,true,.string (txt gh.2)),(6,true,.int .i64 (gh.1:Int))]) (fun _=>[])
  (fun gh Gl=>(gh.1≤r.dones.length)∧(gh.2=toldT e.kind e.n r++(r.dones.take gh.1).flatMap doneT)) (fun gh=>r.dones.length-gh.1) (0,toldT e.kind e.n r) [(3,true,_)] [_,_]
  (esC rfl (by unfold toldT; rw [if_pos c1]) (esC rfl (by first|rfl|exact evi (by omega)) (esD rfl eZ)))
  (mS .here rfl (mS .here rfl mN)) ?_ ?_
 ·refine ⟨?_,?_⟩
  ·(try dsimp only)<;>(first|omega|rfl|assumption|(simp; done))
  (try dsimp only)<;>(rw [List.take_zero,List.flatMap_nil,List.append_nil])
 intro gh N1 Gl1 hN1 hGl1 hF1
 obtain ⟨k,l⟩:=gh; dsimp only at hF1 hN1 ⊢
 obtain ⟨hk,hl⟩:=hF1
 have hsd:=hsd.mono hGl1
 have hdl1:=dones_le (l:=r.dones.take k) (fun x hx=>hdd x (List.mem_of_mem_take hx))
 have hdl2:(r.dones.take k).length≤k:=by rw [List.length_take]; omega
 have hll:l.length≤1100000+50*k:=by rw [hl,List.length_append]; omega
 refine .seq (.seq (rq5 rfl rfl (mV rfl rfl (fz rfl .no Fx.fo43_5 (.u rfl) (ld rfl .no Fx.ag41 (.u rfl) (fun _=>Rd.own .here rfl) ?_)))))
 refine ln rfl .no Fx.sn41 (.u rfl) (cp rfl .no (.u rfl) (.u rfl) rfl (.nil (.code (.cond rfl (fun c3=>?_) (fun c3=>?_)))))
 ·have c3k:=c3
  have c9:=Int.ofNat_lt.1 (of_decide_eq_true c3)
  obtain ⟨d,ed⟩:=getx (k:=k) (xs:=r.dones) c9
  obtain ⟨hd1,hd2⟩:=hdd d (List.mem_of_getElem? ed)
  have hq1:=itoa_le hd1.1 hd1.2
  have hq2:=itoa_le hd2.1 hd2.2
  have hdl3:=doneT_le (d:=d) ⟨hd1,hd2⟩
  refine .skip (.code (.seq (.block (Wk.draw (mc:=⟨false,false⟩) [0,1,2,3,4,5,6,7,11,12,13,14,15,16,8,9,10,17,18,19] Fx.mix (by kernel_rfl) ?_))))
  refine mV rfl rfl (sPt (l++[32]) rfl .no (.u rfl) (.u rfl) (rfl) (fun _=>by show l.length+1≤_; omega) ?_)
  refine fz rfl .no Fx.fo43_5 (.u rfl) (ld rfl .no Fx.ag41 (.u rfl) (fun _=>Rd.own .here rfl) ?_)
  refine mV rfl rfl (ih rfl .no Fx.se41 (.u rfl) (.u rfl) (fun _=>by omega) (fun _=>by omega) (fun _=>hsd.nn (k:=k) (by first|omega|(simp only [Bool.and_eq_true,decide_eq_true_eq] at hc; omega)|(simp only [List.length_cons,List.length_nil]; omega))) ?_)
  refine fa rfl .no Fx.fo73_0 (.u rfl) (ld rfl .no Fx.ag3 (.u rfl) (fun _=>(hsd.at (by omega) ed 0 _ rfl).rd) ?_)
  refine fz rfl .no Fx.fo43_5 (.u rfl) (ld rfl .no Fx.ag41 (.u rfl) (fun _=>Rd.own .here rfl) ?_)
  refine mV rfl rfl (ih rfl .no Fx.se41 (.u rfl) (.u rfl) (fun _=>by omega) (fun _=>by omega) (fun _=>hsd.nn (k:=k) (by first|omega|(simp only [Bool.and_eq_true,decide_eq_true_eq] at hc; omega)|(simp only [List.length_cons,List.length_nil]; omega))) ?_)
  refine fa rfl .no Fx.fo73_1 (.u rfl) (ld rfl .no Fx.ag30 (.u rfl) (fun _=>(hsd.at (by omega) ed 1 _ rfl).rd) ?_)
  refine kv rfl .no Fx.go48 (Evc rfl Evn) (fun _=>rSig6_ok d.1 _ hd1.1 hd1.2) ?_
  refine sPt (l++[32]++Lib.itoa d.1) rfl .no (.u rfl) (.u rfl) (rfl) (fun _=>by rw [txt_size,txt_size]; simp only [qlA]; omega) ?_
  refine sPt (l++[32]++Lib.itoa d.1++[58]) rfl .no (.u rfl) (.u rfl) (rfl) (fun _=>by rw [txt_size]; simp only [qlA]; show _+1≤_; omega) ?_
  refine kv rfl .no Fx.go48 (Evc rfl Evn) (fun _=>rSig6_ok d.2 _ hd2.1 hd2.2) ?_
  refine sPt (l++doneT d) rfl .no (.u rfl) (.u rfl) (by unfold doneT; rw [bts_txt,bts_txt]; simp) (fun _=>by rw [txt_size,txt_size]; simp only [qlA]; omega) ?_
  refine aS rfl rfl (.nil (.blk (.code (rq3 rfl rfl (mV rfl rfl (arn (((k+1):Nat):Int) rfl .no (.u rfl) (.u rfl) rfl (fun _=>by omega) (fun _=>wrap_i64 (by omega) (by omega)) ?_))))))
  refine aS rfl rfl (.nil (We.lpo (k+1,l++doneT d) ?_ ?_ ?_ ?_ ?_))
  ·exact (esD rfl (esC rfl (by first|rfl|exact evi (by omega)) (esD rfl eZ)))
  ·exact (mS .here rfl (mS .here rfl mN))
  ·first|omega|(dsimp only; omega)
  ·exact hGl1
  refine ⟨?_,?_⟩
  ·(try dsimp only)<;>(first|omega|rfl|assumption|(simp; done))
  (try dsimp only)<;>(rw [hl,List.append_assoc,fmtk_snoc doneT ed])
 have c3k:=c3
 have c9:=of_decide_eq_false c3
 refine .exit (.xcode (.xlp (.xblk (.code (.seq (rq2 rfl rfl (mV rfl rfl (aS rfl rfl (.nil (.code (.ret (We.fin0 Tryz.results21 (.tmp rfl .nil) ?_))))))))))))
 obtain rfl:k=r.dones.length:=by omega
 rw [List.take_length] at hl
 exact ⟨rfl,by rw [hl]; rfl⟩
end Go.Proofs.YtoifkgkandfeiaaGreatDoor
namespace Go.Proofs.YtoifkgkandfeiaaGreatDoor
open Go.Tan Go.RowKit Go.Maps Go.Sort Go.Shelf
namespace Fx
theorem go16:goFn Tryz.prog 16=true:=by kernel_rfl
theorem fo59_1:fOff Tryz.prog 59 1=some 11:=by kernel_rfl
theorem fo59_0:fOff Tryz.prog 59 0=some 0:=by kernel_rfl
theorem go21:goFn Tryz.prog 21=true:=by kernel_rfl
end Fx
theorem deskTexts_ok (e:EvD) (vo vk vb:Value) (r:Rep) (hp hd:Sh) (G:PM) (ho:vo.oneCell'=true) (hk9:vk.oneCell'=true) (hb9:vb.oneCell'=true) (hsp:SlR G 2 encPr hp r.pairs) (hsd:SlR G 2 encDn hd r.dones) (hre : -9223372036854775808≤r.err∧r.err≤9223372036854775807) (hdr:∀ d∈r.dones,(-9223372036854775808≤d.1∧d.1≤9223372036854775807)∧(-9223372036854775808≤d.2∧d.2≤9223372036854775807)) (hP:PwG Tryz.prog G) (hK:RdNP G 6 0 (wa 64 kW)):Ct Tryz.prog 5 ([.agg (EvD.cells e vo vk vb++Rep.cells r (hp.val r.pairs.length) (hd.val r.dones.length)).toArray]:List Value).toArray G [] (fun _ μ' u=>μ'=[]∧u=.bool true):=by
 refine Ct.of Tryz.func5 rfl Tryz.ntmps5 rfl fun w0 hs0=>?_
 refine .seq (rq2 rfl rfl ?_)
 refine bx rfl (.u rfl) rfl ?_; intro b1
 refine aS rfl rfl (.nil (.code (.seq (rq2 rfl rfl (kv rfl .no Fx.go16 Evn (fun _=>shown26_ok _ hP hK) ?_)))))
 refine aS rfl rfl (.nil (.code (.seq (.seq (Wk.rg [0,1,2,3,4,5,6,7,8,9,10,11,12,13,14,15,16,17,18] rfl rfl (fz rfl .no Fx.fo59_1 (.u rfl) (fa rfl .no Fx.fo43_4 (.u rfl) (ld rfl .no Fx.ag40 (.u rfl) (fun _=>Rd.own .here rfl) ?_))))))))
 refine ln rfl .no Fx.sn40 (.u rfl) (cp rfl .no (.u rfl) (.u rfl) rfl (mV rfl rfl (fz rfl (.f rfl rfl) Fx.fo59_1 (.u rfl) (fa rfl (.f rfl rfl) Fx.fo43_5 (.s rfl) (ld rfl (.f rfl rfl) Fx.ag41 (.s rfl) (fun hc=>Rd.own .here rfl) ?_)))))
 refine ln rfl (.f rfl rfl) Fx.sn41 (.s rfl) (cp rfl (.f rfl rfl) (.s rfl) (.u rfl) rfl (pkO rfl .no (.u rfl) (.s rfl) (mV rfl rfl (fz rfl (.f rfl rfl) Fx.fo59_1 (.u rfl) (fa rfl (.f rfl rfl) Fx.fo43_2 (.s rfl) (ld rfl (.f rfl rfl) Fx.ag9 (.s rfl) (fun hc=>Rd.own .here rfl) ?_))))))
 refine ls rfl (.f rfl rfl) Fx.st9 (.s rfl) (cp rfl (.f rfl rfl) (.s rfl) (.u rfl) rfl (pkO rfl .no (.u rfl) (.s rfl) (.nil (.code (.cond rfl (fun c1=>?_) (fun c1=>?_))))))
 ·have c1k:=c1
  try simp only [qcA,qcC,qcB] at c1
  refine .seq (rq2 rfl rfl (mV rfl rfl (aS rfl rfl (.nil (.code (.ret (We.fin0 Tryz.results5 (.tmp rfl .nil) ?_)))))))
  exact ⟨rfl,rfl⟩
 have c1k:=c1
 have hc1:r.pairs.length≤500∧r.dones.length≤500∧r.value.size≤100000:=by
  simp at c1
  omega
 refine .skip (.code (.seq (.seq (rq5 rfl rfl (fz rfl .no Fx.fo59_1 (.u rfl) (fa rfl .no Fx.fo43_4 (.u rfl) (ld rfl .no Fx.ag40 (.u rfl) (fun _=>Rd.own .here rfl) ?_)))))))
 refine ln rfl .no Fx.sn40 (.u rfl) (mV rfl rfl (.nil (.code (.block ?_))))
 refine Wk.lop (α:=Nat) (fun k=>[(31,true,.int .i64 (k:Int))]) (fun _=>[])
  (fun k Gl=>(k≤r.pairs.length)∧(∀ p∈r.pairs.take k,p.1.size≤1000∧p.2.size≤1000)) (fun k=>r.pairs.length-k) 0 [(1,true,_),(3,true,_),(29,true,_),(30,true,_)] [_]
  (esC rfl (by first|rfl|exact evi (by omega)) (esD rfl (esD rfl (esD rfl (esD rfl eZ)))))
  (mS .here rfl mN) ?_ ?_
 ·refine ⟨?_,?_⟩
  ·(try dsimp only)<;>(first|omega|rfl|assumption|(simp; done))
  (try dsimp only)<;>(intro p hp9; rw [List.take_zero] at hp9; exact absurd hp9 List.not_mem_nil)
 intro k N0 Gl0 hN0 hGl0 hF0
 try dsimp only at hF0 hN0 ⊢
 obtain ⟨hk,hall⟩:=hF0
 have hsp:=hsp.mono hGl0
 have hsd:=hsd.mono hGl0
 have hP:=hP.mono hGl0
 refine .seq (rq1 rfl rfl (cp rfl .no (.u rfl) (.u rfl) rfl (.nil (.code (.seq (.cond rfl (fun c2=>?_) (fun c2=>?_)))))))
 ·have c2k:=c2
  have c2:=Int.ofNat_lt.1 (of_decide_eq_true c2)
  obtain ⟨p,ep⟩:=getx (k:=k) (xs:=r.pairs) c2
  refine .skip (.code (.seq (.block (.seq (rq4 rfl rfl (ih rfl .no Fx.se40 (.u rfl) (.u rfl) (fun _=>by omega) (fun _=>by omega) (fun _=>hsp.nn (k:=k) (by first|omega|(simp only [Bool.and_eq_true,decide_eq_true_eq] at hc; omega)|(simp only [List.length_cons,List.length_nil]; omega))) ?_))))))
  refine lA rfl .no Fx.ag61 (.u rfl) (fun _=>(hsp.at (by omega) ep).rd) (fun _=>rfl) ?_
  refine al rfl Fx.zr61 ?_; intro b5
  refine sw rfl (.u rfl) (.u rfl) rfl Fx.sz61 .here rfl (one2 rfl rfl) ?_
  refine .nil (.code (.seq (rq10 rfl rfl (fz rfl .no Fx.fo61_0 (.u rfl) (ld rfl .no Fx.ag9 (.u rfl) (fun _=>Rd.own .here (by first|exact wap_f rfl|rfl)) ?_)))))
  refine ls rfl .no Fx.st9 (.u rfl) (cp rfl .no (.u rfl) (.u rfl) rfl (mV rfl rfl (fz rfl (.f rfl rfl) Fx.fo61_1 (.u rfl) (ld rfl (.f rfl rfl) Fx.ag9 (.s rfl) (fun hc=>Rd.own .here (by first|exact wap_f rfl|rfl)) ?_))))
  refine ls rfl (.f rfl rfl) Fx.st9 (.s rfl) (cp rfl (.f rfl rfl) (.s rfl) (.u rfl) rfl (pkO rfl .no (.u rfl) (.s rfl) (.nil (.code (.cond rfl (fun c3=>?_) (fun c3=>?_))))))
  ·have c3k:=c3
   try simp only [qcA,qcC,qcB] at c3
   refine .seq (rq2 rfl rfl (mV rfl rfl (aS rfl rfl (.nil (.code (.ret (We.fin0 Tryz.results5 (.tmp rfl .nil) ?_)))))))
   exact ⟨rfl,rfl⟩
  have c3k:=c3
  have hc3:p.1.size≤1000∧p.2.size≤1000:=by
   simp at c3
   omega
  refine .skip (.blk (.code (rq2 rfl rfl (arn (((k+1):Nat):Int) rfl .no (.u rfl) (.u rfl) rfl (fun _=>by omega) (fun _=>wrap_i64 (by omega) (by omega)) ?_))))
  refine mV rfl rfl (.nil (We.lpo (k+1) ?_ ?_ ?_ ?_ ?_))
  ·exact (esC rfl (by first|rfl|exact evi (by omega)) (esD rfl (esD rfl (esD rfl (esD rfl eZ)))))
  ·exact (mS tk1 rfl mN)
  ·first|omega|(dsimp only; omega)
  ·exact hGl0
  refine ⟨?_,?_⟩
  ·(try dsimp only)<;>(first|omega|rfl|assumption|(simp; done))
  (try dsimp only)<;>(exact all_tk ep hall hc3)
 have c2k:=c2
 have c2:=of_decide_eq_false c2
 refine .exit (.xcode (.xlp (.xblk (.code (.seq ?_)))))
 obtain rfl:k=r.pairs.length:=by omega
 rw [List.take_length] at hall
 have hr:r.ok:=⟨hre,hc1.2.2,⟨hc1.1,hall⟩,⟨hc1.2.1,hdr⟩⟩
 refine Wk.draw (mc:=⟨false,false⟩) [0,1,2,3,4,5,7,8,9,10,6,11,12,13,14] Fx.mix (by kernel_rfl) ?_
 refine mV rfl rfl (mV rfl rfl (fz rfl (.t rfl rfl) Fx.fo59_0 (.u rfl) (lA rfl (.t rfl rfl) Fx.ag27 (.u rfl) (fun _=>RdN.part (n:=11) (cs':=EvD.cells e vo vk vb) .here (rfl)) (fun _=>rfl) (fz rfl (.t rfl rfl) Fx.fo59_1 (.u rfl) (lA rfl (.t rfl rfl) Fx.ag43 (.u rfl) (fun _=>RdN.part (n:=6) (cs':=Rep.cells r (hp.val r.pairs.length) (hd.val r.dones.length)) .here (rfl)) (fun _=>rfl) (fz rfl (.t rfl rfl) Fx.fo59_0 (.u rfl) (lA rfl (.t rfl rfl) Fx.ag27 (.u rfl) (fun _=>RdN.part (n:=11) (cs':=EvD.cells e vo vk vb) .here (rfl)) (fun _=>rfl) (fz rfl (.t rfl rfl) Fx.fo59_1 (.u rfl) (lA rfl (.t rfl rfl) Fx.ag43 (.u rfl) (fun _=>RdN.part (n:=6) (cs':=Rep.cells r (hp.val r.pairs.length) (hd.val r.dones.length)) .here (rfl)) (fun _=>rfl) (kv rfl (.t rfl rfl) Fx.go20 (Evc rfl (Evc rfl Evn)) (fun _=>text_ok e vo vk vb r hp hd _ ho hk9 hb9 hsp hsd hr hP) ?_))))))))))
 refine kv rfl (.t rfl rfl) Fx.go21 (Evc rfl (Evc rfl Evn)) (fun _=>rText6_ok e vo vk vb r hp hd _ ho hk9 hb9 hsp hsd hr hP) ?_
 refine cs rfl (.t rfl rfl) (.u rfl) (.u rfl) rfl (pkA rfl .no (.u rfl) (.u rfl) (aS rfl rfl (.nil (.code (.ret (We.fin0 Tryz.results5 (.tmp rfl .nil) ?_))))))
 exact ⟨rfl,by rw [beq_self_eq_true]; rfl⟩
end Go.Proofs.YtoifkgkandfeiaaGreatDoor
namespace Go.Proofs.YtoifkgkandfeiaaGreatDoor
open Go.Tan Go.RowKit Go.ChangeShapes Go.WideShapes Go.ChangeAt
namespace deskTexts
def zArgs:Array Value:=#[.agg ([.int .u8 0]++[.int .i64 0]++[.slice none 0 0]++[.bool false]++List.replicate 2 (.string ByteArray.empty)++[.int .u64 0]++[.int .i64 0]++[.slice none 0 0]++[.string ByteArray.empty]++[.slice none 0 0]++[.int .i64 0]++[.int .u64 0]++[.string ByteArray.empty]++[.bool false]++List.replicate 2 (.slice none 0 0):List Value).toArray]
theorem laid_met (os:Os):laidMet Tryz.prog Rows.deskTextsRow.laid ((laidWorld os).forCall (fun _ _=>0) ⟨#[],zArgs,[]⟩).memory :=
 laidMet_of_run' 8 (by kernel_rfl) (by kernel_rfl)
theorem reads (os:Os) {H:Type} (enc:TypeId×Value→H):∃ places,DataW.whole enc Tryz.prog ((laidWorld os).forCall (fun _ _=>0) ⟨#[],zArgs,[]⟩).memory Tryz.f5.params.toList Rows.deskTextsSpec.vars false zArgs.toList 8=some ([.agg [.agg [.lit (.int .u8 0),.lit (.int .i64 0),.nil,.lit (.bool false),.lit (.string []),.lit (.string []),.lit (.int .u64 0),.lit (.int .i64 0),.nil,.lit (.string []),.nil],.agg [.lit (.int .i64 0),.lit (.int .u64 0),.lit (.string []),.lit (.bool false),.nil,.nil]]],[],places) :=
 ⟨[],by kernel_rfl⟩
set_option maxRecDepth 100000 in
set_option maxHeartbeats 1000000 in
theorem lifted (os:Os) (started:os.Started) (H:Type) (enc:TypeId×Value→H) (F:Stop.Interp) :
  ReturnsInHanded {} Tryz.checked os 5 .any ((OpenSpec.ofChange Rows.deskTextsSpec).preRow enc Tryz.prog Tryz.f5 Rows.deskTextsRow.domain false Rows.deskTextsRow.laid) (((OpenSpec.ofChange Rows.deskTextsSpec).at F).post enc Tryz.prog Tryz.f5 false true false false):=by
 obtain ⟨places,hx⟩:=reads os enc
 refine returnsInHanded_of_row (C:=Tryz.checked) (s:=OpenSpec.ofChange Rows.deskTextsSpec) tanOwn started (by kernel_rfl) Tryz.func5
  (witness_row_at (enc:=enc) (C:=Tryz.checked) false (laidWorld os) zArgs rfl (by kernel_rfl) (by kernel_rfl) (by kernel_rfl)
   (OpenSpec.preRow_of_cond 8 hx (by kernel_rfl) (fun k hk=>by cases hk) (by kernel_rfl) (laid_met os))) ?_
 intro W base args ds gs before hval0 hW _ hcond hwt0 hL _ _
 have hval:∀ (j:Nat) t v,Tryz.f5.params[j]? = some t→args[j]? = some v→Value.okWide Tryz.prog W .any base t v:=hval0
 have hW2:DataW.Whole enc Tryz.prog Tryz.f5.params.toList [] false W args.toList ds gs before:=hW
 have hwt:(DataW.weightsEach Tryz.prog (Tryz.f5.params.toList++[]) (ds++gs)).all (·≤reachBytes)=true:=hwt0
 have hW3:DataW.Whole enc Tryz.prog Tryz.f5.params.toList Rows.deskTextsSpec.vars false W args.toList ds gs before:=hW
 show Calls Tryz.prog 5 args W fun e W'=>∃ v,e=.returned v∧Rows.deskTextsSpec.post enc Tryz.prog Tryz.f5 false true false false W args v W'
 have hK:RdNP (fun b=>W.heap[b]?) 6 0 (wa 64 kW):=tab6 hL
 have hP:PwG Tryz.prog (fun b=>W.heap[b]?):=pw6 hL
 obtain ⟨p,q,hA,hV,hq,hfz,hnd⟩:=hW2
 rw [Tryz.params5] at hA hval hwt
 obtain ⟨v0,vs0,d0,ds0,p0,q0,hargs,rfl,rfl,r0,rr⟩:=trodAll_cons hA
 obtain ⟨rfl,rfl,rfl⟩:=trodAll_nil rr
 obtain rfl:args = #[v0]:=by cases args; simp_all
 obtain ⟨rfl,rfl⟩:=trodVars_none hV
 refine of_ct tanLaid hW3 rfl ?_ rfl (by kernel_rfl) Tryz.underlying4 ?_
 ·rw [Tryz.params5]; exact (List.forall_mem_cons.2 ⟨⟨by kernel_rfl,of_decide_eq_true (by kernel_rfl)⟩,List.forall_mem_nil _⟩)
 obtain ⟨e,vo,vk,vb,r,hp9,hd9,ha0,o1,o2,o3,s1,s2,w9,q9⟩:=cm6_of (by decide) (Rg.arg (i:=0) r0 hwt rfl rfl)
 obtain rfl:=agg_of Tryz.underlying59 (hval 0 59 v0 rfl rfl) ha0
 exact deskTexts_ok e vo vk vb r hp9 hd9 _ o1 o2 o3 s1 s2 w9 q9 hP hK
theorem c10:(Rows.deskTextsRow.inPlace == Tryz.prog.inPlace 5)=true:=by kernel_rfl
theorem c11:(Rows.deskTextsRow.unfollowed == Tryz.prog.unfollowed 5)=true:=by kernel_rfl
theorem c12:(Rows.deskTextsRow.recurses == Tryz.prog.recurses 5)=true:=by kernel_rfl
theorem c13:(Rows.deskTextsRow.named == Tryz.prog.varsNamed 5)=true:=by kernel_rfl
theorem closed:joinedFacts Tryz.prog 5 Tryz.f5 (OpenSpec.ofChange Rows.deskTextsSpec).bare Rows.deskTextsRow=true :=
 (tab (tab (tab (tab (tab (tab (tab (tab (tab (tab (tab (tab (tab (tab (tab (tab (tab (tab (tab (tab (tab (tab (tab (tab (tab (tab (tab (tab (tab (tab (tab (by kernel_rfl) tanLaid) tanRowed) (by kernel_rfl)) (by kernel_rfl)) (by kernel_rfl)) (by kernel_rfl)) (by kernel_rfl)) (by kernel_rfl)) c10) c11) c12) c13) (by kernel_rfl)) (by kernel_rfl)) (by kernel_rfl)) (by kernel_rfl)) (by kernel_rfl)) (by kernel_rfl)) (by kernel_rfl)) (by kernel_rfl)) (by kernel_rfl)) tanKeys) (by kernel_rfl)) tanHeard) tanEnter) (by kernel_rfl)) (by kernel_rfl)) (by kernel_rfl)) (by kernel_rfl)) (by kernel_rfl)) (by kernel_rfl))
theorem said:Rows.DeskTextsSaid :=
 OpenClaim.holds_of_cond 5 Tryz.f5 rfl rfl rfl rfl rfl rfl rfl ⟨rfl,rfl,rfl,rfl,rfl⟩ rfl rfl rfl rfl rfl (by kernel_rfl) Tryz.func5 closed
  (of_decide_eq_true (by kernel_rfl)) (by unfold Func.isWrapper; first|(rw [if_pos (by decide +kernel)]; kernel_rfl) | (rw [if_neg (by decide +kernel)]; exact ⟨rfl,rfl⟩))
  (fun os started H enc _ F=>by rw [OpenClaim.pre_eq_preRow]; exact lifted os started H enc F)
theorem plain (f:FuncId) (fn:Func) (hf:Tryz.pinned.checked.prog.funcNamed "tantalus/tantaluslaw26.DeskTexts" = some f) (hfn:Tryz.pinned.checked.prog.funcs[f]? = some fn) :
  true=Tryz.pinned.checked.prog.looks []∧∀ (j:Nat) t,fn.params[j]? = some t→Tryz.pinned.checked.prog.wantsStandIn t=false:=by
 obtain rfl:f=5:=Option.some.inj ((show Tryz.prog.funcNamed "tantalus/tantaluslaw26.DeskTexts" = some 5 by kernel_rfl).symm.trans hf) |>.symm
 obtain rfl:fn=Tryz.f5:=(Option.some.inj (Tryz.func5.symm.trans hfn)).symm
 refine ⟨by kernel_rfl,fun j t ht=>?_⟩
 rw [Tryz.params5] at ht
 have hm:t∈([59]:List Nat):=by have:=Array.mem_of_getElem? ht; simpa using this
 have hall:∀ t∈([59]:List Nat),Tryz.prog.wantsStandIn t=false:=by
  intro t ht
  simp only [List.mem_cons,List.not_mem_nil,or_false] at ht
  rcases ht with rfl
  kernel_rfl
 exact hall t hm
end deskTexts
end Go.Proofs.YtoifkgkandfeiaaGreatDoor
