/- Lemmas and contracts of functions, joined. -/
import Derived.Test.YtoifkgkandfeiaaGreatDoorWk5
import Derived.Shelf.Strings.OnBuilder
import Derived.Shelf.Strconv.Itoa2
import Derived.Shelf.Strconv.Itoa1
set_option linter.unusedSimpArgs false
set_option linter.unusedVariables false
set_option linter.unusedSectionVars false
namespace Go.Proofs.YtoifkgkandfeiaaGreatDoor
open Go.Tan Go.RowKit Go.Maps Go.Sort Go.Shelf
theorem aXo:aL Tryz.prog 97=true:=by kernel_rfl
theorem aXp:aL Tryz.prog 98=true:=by kernel_rfl
theorem aXq:aL Tryz.prog 99=true:=by kernel_rfl
theorem aQX (bl:Nat) (h:Sh) (xs:List Nd) (sz:Value) (G:PM) (hbl:PB G bl (cl [h.val xs.length,sz] 225)) (hs:SlR G 16 Nd.cells h xs) (w:Nat→Nat) (us:ByteArray) (q:BitVec 64) (hW:WayN xs us q w) (e:Ent) (h0:0<cY xs (w 0) 0) (he:(xs.getD (cY xs (w 0) 0) Nd.z).1=e) (hu:e.user=us):Ct Tryz.prog 98 ([.pointer (some ⟨bl,0,none⟩),.string us,uv .u64 q]:List Value).toArray G [] (fun _ μ' u=>μ'=[]∧u=.tuple #[e.val,.bool true]):=by
 subst he
 refine Ct.of Tryz.func98 rfl Tryz.ntmps98 rfl fun w0 hs0=>?_
 have hnx:cY xs (w 0) 0<xs.length:=hW.inb _ (hW.lt 0 (by decide)) 0 (by decide)
 refine .seq (bB rfl rfl ?_)
 refine al rfl aDW ?_; intro b6
 refine .g (kV rfl aL1 (aB rfl (aB rfl (aB rfl aF))) (aHt bl h xs sz _ hbl hs w us q hW) ?_)
 refine .g (cP rfl rfl rfl rfl (mV rfl rfl (mv rfl (.f rfl rfl) (.u rfl) (nc rfl (.f rfl rfl) (.s rfl) (fa rfl (.f rfl rfl) lP (.s rfl) (ld rfl (.f rfl rfl) mP (.s rfl) (fun hc=>(hbl.rd (rfl)).rd) ?_))))))
 refine mv rfl (.f rfl rfl) (.u rfl) (ih rfl (.f rfl rfl) mY (.s rfl) (.s rfl) (by omega) (by omega) (fun _=>hs.nn (k:=cY xs (w 0) 0) hnx) ?_)
 refine fa rfl (.f rfl rfl) aFp (.s rfl) (fa rfl (.f rfl rfl) lK (.s rfl) (ld rfl (.f rfl rfl) cW (.s rfl) (fun hc=>((aDe hs (a:=cY xs (w 0) 0) hnx (by simp)) 0 _ rfl).rd) ?_))
 refine mv rfl (.f rfl rfl) (.u rfl) (cs rfl (.f rfl rfl) (.s rfl) (.s rfl) rfl (bZ rfl .no (.u rfl) (.s rfl) (.g (cD rfl (fun c1=>?_) (fun c1=>?_)))))
 ·have c1k:=c1
  have h10:cY xs (w 0) 0≠0:=by omega
  have h9:((cY xs (w 0) 0:Nat):Int)≠0:=by omega
  rw [hu] at c1k
  simp [h9,h10] at c1k
 have c1k:=c1
 try simp only [aD,aE] at c1
 refine .g (nC rfl rfl (fA rfl lP rfl (lN rfl mP rfl ((hbl.rd (rfl)).rd) ?_)))
 refine mV rfl rfl (ih rfl .no mY (.u rfl) (.u rfl) (by omega) (by omega) (fun _=>hs.nn (k:=cY xs (w 0) 0) hnx) ?_)
 refine fA rfl aFp rfl (lA rfl .no mM (.u rfl) (fun _=>(aDe hs (a:=cY xs (w 0) 0) hnx (by simp)).rd) (fun _=>Ent.len _) ?_)
 refine sw rfl (.u rfl) (.u rfl) rfl uE .here rfl (Ent.one _) ?_
 refine aS rfl rfl (.nc (.ret (aK Tryz.results98 (.cell rfl (fun w hw=>bW mM (RdN.own .here) (Ent.len _) hw) (.tmp rfl .nil)) ?_)))
 exact ⟨rfl,rfl⟩
theorem aNp (bx:Nat) (d:Db) (G:PM) (hbx:PB G bx (cl d.cells 165)) (m:BitVec 64) (hm:d.seq.toNat≤m.toNat):Ct Tryz.prog 97 ([pt bx,uv .u64 m]:List Value).toArray G [] (fun _ μ' u=>μ'=[]∧u=.tuple #[uv .u64 d.seq,.bool true]):=by
 refine Ct.of Tryz.func97 rfl Tryz.ntmps97 rfl fun w0 hs0=>?_
 refine .g (nC rfl rfl (fA rfl nY rfl (lN rfl aZ rfl ((hbx.rd (rfl)).rd) ?_)))
 refine cP rfl rfl rfl rfl (.g (cD rfl (fun c1=>?_) (fun c1=>?_)))
 ·have c1k:=c1
  try simp only [aD,aE] at c1
  refine .g (nC rfl rfl (fA rfl nY rfl (lN rfl aZ rfl ((hbx.rd (rfl)).rd) ?_)))
  refine aS rfl rfl (aS rfl rfl (.nc (.ret (aK Tryz.results97 (.tmp rfl (.tmp rfl .nil)) ?_))))
  exact ⟨rfl,rfl⟩
 have c1k:=c1
 have h1:@BitVec.toNat IntKind.u64.bits m=m.toNat:=rfl; have h2:@BitVec.toNat IntKind.u64.bits d.seq=d.seq.toNat:=rfl; simp at c1; omega
theorem aOl (bx:Nat) (d:Db) (G:PM) (hbx:PB G bx (cl d.cells 165)) (us:ByteArray) (m:BitVec 64) (h:Sh) (xs:List Nd) (sz:Value) (w:Nat→Nat) (hbl:PB G d.now (cl [h.val xs.length,sz] 225)) (hs:SlR G 16 Nd.cells h xs) (hst:d.s.cells d.hd=(cM 1 2).cells dE) (hW:WayN xs us d.seq w) (e:Ent) (h0:0<cY xs (w 0) 0) (he:(xs.getD (cY xs (w 0) 0) Nd.z).1=e) (hu:e.user=us) (hk:e.kind=1#8) (hm:d.seq.toNat≤m.toNat):Ct Tryz.prog 58 ([pt bx,.string us,uv .u64 m]:List Value).toArray G [] (fun _ μ' u=>μ'=[]∧u=.tuple #[.string e.value,.bool true,.int .i64 0]):=by
 refine Ct.of Tryz.func58 rfl Tryz.ntmps58 rfl fun w0 hs0=>?_
 refine .seq (dP rfl rfl (aS rfl rfl (aS rfl rfl ?_)))
 refine al rfl aBZ ?_; intro b8
 refine .g (kV rfl aGD (aB rfl aF) (aFI bx d _ hbx) ?_)
 refine .g (cP rfl rfl rfl rfl (.g (cD rfl (fun c1=>?_) (fun c1=>?_))))
 ·have c1k:=c1
  exact absurd c1 (by decide)
 have c1k:=c1
 try simp only [aD,aH,aE] at c1
 refine .skip (.code (.seq (Wk.defers [0] 1 (DQ.d ⟨89,[.pointer (some ⟨bx,0,none⟩),.pointer (some ⟨b8,0,none⟩)],[]⟩) (fun _ _ _ _=>False) (fun _ _ _ _ _ _ hq=>hq.elim) rfl rfl ?_)))
 refine mV rfl rfl (.nil ⟨DefOp.fn rfl (aB rfl (aB rfl aF)),?_⟩)
 refine .g (kV rfl aXo (aB rfl (aB rfl aF)) (aNp bx d _ hbx m hm) ?_)
 refine .p (eX rfl rfl rfl (eX rfl rfl rfl (.g (nt rfl .no (.u rfl) (.g (cD rfl (fun c2=>?_) (fun c2=>?_)))))))
 ·have c2k:=c2
  cases c2
 have c2k:=c2
 try simp only [aD,aH,aE] at c2
 refine .g (nC rfl rfl (fA rfl aFh rfl (lN rfl tR rfl ((hbx.rd (rfl)).rd) ?_)))
 refine .p (kV rfl aXp (aB rfl (aB rfl (aB rfl aF))) (aQX d.now h xs sz _ hbl hs w us d.seq hW e h0 he hu) ?_)
 refine .p (eX rfl rfl rfl (eX rfl rfl rfl ?_))
 refine al rfl aDW ?_; intro b12
 refine sw rfl (.u rfl) (.u rfl) rfl uE .here rfl (Ent.one _) ?_
 refine .g (nt rfl .no (.u rfl) (.g (cD rfl (fun c3=>?_) (fun c3=>?_))))
 ·have c3k:=c3
  cases c3
 have c3k:=c3
 try simp only [aD,aH,aE] at c3
 refine .g (nC rfl rfl (fA rfl sA rfl (lA rfl .no jV (.u rfl) (fun _=>(hbx.rdn (m:=14) (cs':=(cM 1 2).cells dE) (by rw [← hst]; rfl)).rd) (fun _=>State.len) ?_)))
 refine .p (kc rfl aXq (aB rfl (aB rfl aF)) (aQ0 (cM 1 2) dE _ aCf (by simp [tot,cM]) us) ?_)
 rintro _ G60 μ60 hG60 ⟨rfl,h60,rfl,hs60⟩
 refine lE rfl iZ rfl (mV rfl rfl (.nc (.block ?_)))
 refine aX (α:=Nat) (fun k=>[(13,true,.bool true),(62,true,.int .i64 (k:Int))]) (fun k=>[.blk b12 (cl e.cells 179)])
  (fun k Gl=>(k=0)) (fun k=>0) 0 [(0,true,_),(1,true,_),(8,true,_),(10,true,_),(12,true,_),(60,true,_),(61,true,_)] [_]
  (aA rfl (aM rfl (aA rfl (aA rfl (aA rfl (aA rfl (aA rfl (aA rfl (aA rfl eZ)))))))))
  (mS .here rfl (mS .here rfl mN)) ?_ ?_
 ·(try dsimp only)<;>(first|omega|rfl|assumption|(simp; done))
 intro k N0 Gl0 hN0 hGl0 hF0
 try dsimp only at hF0 hN0 ⊢
 have hk0:=hF0
 refine .g (cP rfl rfl rfl rfl (.g (cD rfl (fun c4=>?_) (fun c4=>?_))))
 ·have c4k:=c4
  have hL:(kI (cM 1 2) us 5).length=0:=by simp [kI,nO,cM]
  have h4:=of_decide_eq_true c4
  omega
 have c4k:=c4
 try simp only [aD,aH,aE] at c4
 refine .g (nt rfl .no (.u rfl) (.p (fz rfl (.f rfl rfl) aFi (.u rfl) (ld rfl (.f rfl rfl) bM (.s rfl) (fun hc=>Rd.own .here (by first|exact aV rfl|rfl)) ?_))))
 refine cp rfl (.f rfl rfl) (.s rfl) (.u rfl) rfl (bZ rfl .no (.u rfl) (.s rfl) (.g (cD rfl (fun c5=>?_) (fun c5=>?_))))
 ·have c5k:=c5
  rw [hk] at c5; exact absurd c5 (by decide)
 have c5k:=c5
 try simp only [aD,aH,aE] at c5
 refine .g (fZ rfl aDA rfl (lO rfl cW rfl .here (by first|exact aV rfl|rfl) ?_))
 refine .p (s1 rfl (.u rfl) (.u rfl) rfl jX aC (by first|decide|(simp only [cC,bP,cI]; omega)) (rfl) ?_)
 refine .nil (.code (.ret (aDi [⟨89,[.pointer (some ⟨bx,0,none⟩),.pointer (some ⟨b8,0,none⟩)],[]⟩] rfl (by intro q hq; rw [List.mem_singleton.1 hq]; exact ⟨aDK,fun w hw=>aEN w _ _⟩) Tryz.results58 (.tmp rfl (.tmp rfl (.cell rfl (fun w hw=>pP jA (Rd.own .here rfl w hw)) .nil))) mN ?_)))
 exact ⟨rfl,rfl⟩
theorem aSO (bd bt:Nat) (root:Nat→Y) (o:Opts) (G:PM) (hO:oN o=false):Ct Tryz.prog 50 ([.pointer (some ⟨bd,0,none⟩),.pointer (some ⟨bt,0,none⟩),.agg (ba 32 root).toArray,o.val]:List Value).toArray G [] (fun _ μ' u=>μ'=[]∧u=.tuple #[.pointer none,.int .i64 1]):=by
 refine Ct.of Tryz.func50 rfl Tryz.ntmps50 rfl fun w0 hs0=>?_
 refine .seq (dT rfl rfl ?_)
 refine bX rfl rfl rfl ?_; intro b6
 refine bX rfl rfl rfl ?_; intro b7
 refine al rfl aGN ?_; intro b8
 refine al rfl aBZ ?_; intro b9
 refine .g (pe rfl .no iY (.u rfl) (.u rfl) ?_)
 refine mV rfl rfl (mv rfl (.f rfl rfl) (.u rfl) (pe rfl (.f rfl rfl) sC (.s rfl) (.u rfl) ?_))
 refine bZ rfl .no (.u rfl) (.s rfl) (.g (cD rfl (fun c1=>?_) (fun c1=>?_)))
 ·have c1k:=c1
  cases c1
 have c1k:=c1
 try simp only [aD,aH,aE] at c1
 refine .g (lA rfl .no mQ (.u rfl) (fun _=>RdN.part (n:=7) (cs':=o.cells) aI (rfl)) (fun _=>rfl) ?_)
 refine kV rfl aGC (aB rfl aF) (aEl o _) ?_
 refine nt rfl .no (.u rfl) (.g (cD rfl (fun c2=>?_) (fun c2=>?_)))
 ·have c2k:=c2
  try simp only [aD,aH,aE] at c2
  refine .g (s1 rfl (.u rfl) (.u rfl) rfl uG aC (by first|decide|(simp only [cC,bP,cI]; omega)) (rfl) ?_)
  refine s1 rfl (.u rfl) (.u rfl) rfl jX aC (by first|decide|(simp only [cC,bP,cI]; omega)) (rfl) ?_
  refine .nil (.code (.ret (aK Tryz.results50 (.cell rfl (fun w hw=>pP lI (Rd.own aC rfl w hw)) (.cell rfl (fun w hw=>pP jA (Rd.own .here rfl w hw)) .nil)) ?_)))
  exact ⟨rfl,rfl⟩
 have c2k:=c2
 rw [hO] at c2; cases c2
end Go.Proofs.YtoifkgkandfeiaaGreatDoor
namespace Go.Proofs.YtoifkgkandfeiaaGreatDoor
open Go.Tan Go.RowKit Go.Maps Go.Sort Go.Shelf
theorem iP:dV Tryz.prog 43=some ([.int .i64 0,.int .u64 0,.string ByteArray.empty,.bool false,.slice none 0 0,.slice none 0 0]):=by kernel_rfl
theorem fB:aT Tryz.prog 27 0=some 0:=by kernel_rfl
theorem zM:bT Tryz.prog 75=some none:=by kernel_rfl
theorem aYK:aT Tryz.prog 27 1=some 1:=by kernel_rfl
theorem aYL:aT Tryz.prog 27 2=some 2:=by kernel_rfl
theorem aYM:aT Tryz.prog 27 3=some 3:=by kernel_rfl
theorem aYR:aL Tryz.prog 57=true:=by kernel_rfl
theorem lW:aT Tryz.prog 43 0=some 0:=by kernel_rfl
theorem dZ:bT Tryz.prog 43=some (some 6):=by kernel_rfl
theorem fN:cE Tryz.prog 43=some 6:=by kernel_rfl
theorem fY:jR Tryz.prog 29=true:=by kernel_rfl
theorem wO:bT Tryz.prog 27=some (some 11):=by kernel_rfl
theorem aDc:aL Tryz.prog 34=true:=by kernel_rfl
theorem aYP:aT Tryz.prog 77 4=some 41:=by kernel_rfl
theorem aYQ:aL Tryz.prog 109=true:=by kernel_rfl
theorem zN:aT Tryz.prog 43 5=some 5:=by kernel_rfl
theorem aDd:cE Tryz.prog 41=some 1:=by kernel_rfl
theorem aM5:aT Tryz.prog 27 7=some 7:=by kernel_rfl
theorem aYT:aL Tryz.prog 62=true:=by kernel_rfl
theorem aYN:aT Tryz.prog 27 4=some 4:=by kernel_rfl
theorem aYO:aT Tryz.prog 27 6=some 6:=by kernel_rfl
theorem aYS:aL Tryz.prog 58=true:=by kernel_rfl
theorem aM6:aT Tryz.prog 43 2=some 2:=by kernel_rfl
theorem aM7:aT Tryz.prog 43 3=some 3:=by kernel_rfl
theorem aNs (bw bd bt bq bg:Nat) (root:Nat→Y) (o:Opts) (most:Int) (v0 vk vb:Value) (c:Nat) (h:Sh) (l:List Opn) (sy:Bool) (G:PM)  (hs:SlR G 3 Opn.cells h l) (hl:l.length=1∨l.length=2) (hok:∀ o∈l,o.ok) (hc:c<8) (hk9:vk.oneCell'=true) (hb9:vb.oneCell'=true):Ct Tryz.prog 34 ([.pointer (some ⟨bw,0,none⟩),.agg (EvD.cells (⟨1#8,((c:Nat):Int),l,sy,[],[],0#64,0,[],[],[]⟩ : EvD) (h.val l.length) vk vb).toArray]:List Value).toArray G [.blk bw (cl (cV bd bt root o most ((pt bq)) ((pt bg))) 77),.blk bg (cl [pt bq,v0] 140),rS 3 Wtg.cells v0 142 []] (fun G' μ' u=>∃ (v:Value) (s:Sh),v.oneCell'=true∧SlR G' 3 Opn.cells s l∧μ'=[.blk bw (cl (cV bd bt root o most ((pt bq)) ((pt bg))) 77),.blk bg (cl [pt bq,v] 140),rS 3 Wtg.cells v 142 [⟨c,s,l,sy⟩]]∧u=.agg (Rep.cells (Rep.zero) (.slice none 0 0) (.slice none 0 0)).toArray):=by
 refine Ct.of Tryz.func34 rfl Tryz.ntmps34 rfl fun w0 hs0=>?_
 refine .seq (bB rfl rfl ?_)
 refine bX rfl rfl rfl ?_; intro b3
 refine al rfl iP ?_; intro b4
 refine .g (fZ rfl fB rfl (lO rfl bM rfl aC rfl ?_))
 refine .g (cP rfl rfl rfl rfl (.g (cD rfl (fun c1=>?_) (fun c1=>?_))))
 ·have c1k:=c1
  try simp only [aD,aH,aE] at c1
  refine dL aC (bF aC rfl (bF aC rfl (bF aC rfl (eT)))) ?_; intro Gfb3 hleb3 hbb3
  have hs:=hs.mono hleb3
  refine dX ⟨true,false⟩ aY (by kernel_rfl) ?_
  refine Wp.one 0 (by kernel_rfl) ?_
  refine mV rfl rfl (.nil (Wp.one 1 (by kernel_rfl) ?_))
  refine nC rfl rfl (.nil (Wp.one 2 (by kernel_rfl) ?_))
  refine fZ rfl oW rfl (.nil (Wp.one 3 (by kernel_rfl) ?_))
  refine lN rfl zM rfl (Rd.own aC yH) ?_
  refine .nil (Wp.one 4 (by kernel_rfl) ?_)
  refine fA rfl aYK rfl (.nil (Wp.one 5 (by kernel_rfl) ?_))
  refine lN rfl cJ rfl ((hbb3.rd (rfl)).rd) ?_
  refine .nil (Wp.one 6 (by kernel_rfl) ?_)
  refine fA rfl aYL rfl (.nil (Wp.one 7 (by kernel_rfl) ?_))
  refine lN rfl yM rfl ((hbb3.rd (rfl)).rd) ?_
  refine .nil (Wp.one 8 (by kernel_rfl) ?_)
  refine fA rfl aYM rfl (.nil (Wp.one 9 (by kernel_rfl) ?_))
  refine lN rfl kX rfl ((hbb3.rd (rfl)).rd) ?_
  refine .nil (Wp.b1 10 (by kernel_rfl) ?_)
  refine ka rfl (.inl rfl) aYR (aB rfl (aB rfl (aB rfl (aB rfl aF)))) (dI aI aI) (aUS bg (pt bq) v0 [] c h l sy _ hs hl hok hc (by decide) aP7) ?_
  rintro _ G19 μ19 hG19 ⟨vS,sS,ovS,hsS,rfl,rfl⟩
  refine .nil (Wp.one 11 (by kernel_rfl) ?_)
  refine fZ rfl lW rfl (.nil (Wp.b1 12 (by kernel_rfl) ?_))
  refine s1 rfl (.u rfl) (.u rfl) rfl jX aI ((by show 0<6; decide)) (rfl) ?_
  refine .nil (Wp.last (by kernel_rfl) ?_)
  refine .g (lA rfl .no dZ (.u rfl) (fun _=>RdN.part (n:=6) (cs':=Rep.cells Rep.zero (.slice none 0 0) (.slice none 0 0)) .here (rfl)) (fun _=>rfl) (sw rfl (.u rfl) (.u rfl) rfl fN .here rfl (Rep.one _ rfl rfl) ?_))
  refine .nil (.code (.ret (bD Tryz.results34 (.cell rfl (fun w hw=>bW dZ (RdN.own .here) (rfl) hw) .nil) (mS bE rfl (mS aC rfl (mS aC rfl mN))) ?_)))
  exact ⟨vS,sS,ovS,hsS,rfl,rfl⟩
 have c1k:=c1
 exact Bool.noConfusion (id c1:true=false)
theorem aPB (bw bd bt bq bg:Nat) (root:Nat→Y) (o:Opts) (most:Int) (vk vb:Value) (c:Nat) (h:Sh) (l:List Opn) (sy:Bool) (G:PM)  (hs:SlR G 3 Opn.cells h l) (hl:l.length=1∨l.length=2) (hok:∀ o∈l,o.ok) (hc:c<8) (hk9:vk.oneCell'=true) (hb9:vb.oneCell'=true):Ct Tryz.prog 10 ([.pointer (some ⟨bw,0,none⟩),.agg (EvD.cells (⟨1#8,((c:Nat):Int),l,sy,[],[],0#64,0,[],[],[]⟩ : EvD) (h.val l.length) vk vb).toArray]:List Value).toArray G [.blk bw (cl (cV bd bt root o most ((pt bq)) ((pt bg))) 77),.blk bg (cl [pt bq,.slice none 0 0] 140)] (fun G' μ' u=>∃ (h2 s:Sh),SlR G' 3 Wtg.cells h2 [⟨c,s,l,sy⟩]∧SlR G' 3 Opn.cells s l∧μ'=[.blk bw (cl (cV bd bt root o most ((pt bq)) ((pt bg))) 77),.blk bg (cl [pt bq,h2.val 1] 140)]∧u=.agg (Rep.cells (Rep.zero) (.slice none 0 0) (.slice none 0 0)).toArray):=by
 refine Ct.of Tryz.func10 rfl Tryz.ntmps10 rfl fun w0 hs0=>?_
 refine .seq (bB rfl rfl ?_)
 refine bX rfl rfl rfl ?_; intro b3
 refine al rfl iP ?_; intro b4
 refine .g (pe rfl .no fY (.u rfl) (.u rfl) ?_)
 refine .g (dM rfl rfl ?_)
 refine .g (fZ rfl fB rfl (lO rfl bM rfl aC rfl ?_))
 refine .g (cP rfl rfl rfl rfl (.g (cD rfl (fun c1=>?_) (fun c1=>?_))))
 ·have c1k:=c1
  cases c1
 have c1k:=c1
 try simp only [aD,aH,aE] at c1
 refine .g (cP rfl rfl rfl rfl (.g (cD rfl (fun c2=>?_) (fun c2=>?_))))
 ·have c2k:=c2
  exact Bool.noConfusion (id c2:false=true)
 have c2k:=c2
 try simp only [aD,aH,aE] at c2
 refine .g (cP rfl rfl rfl rfl (.g (cD rfl (fun c3=>?_) (fun c3=>?_))))
 ·have c3k:=c3
  exact Bool.noConfusion (id c3:false=true)
 have c3k:=c3
 try simp only [aD,aH,aE] at c3
 refine .g (cP rfl rfl rfl rfl (.g (cD rfl (fun c4=>?_) (fun c4=>?_))))
 ·have c4k:=c4
  exact Bool.noConfusion (id c4:false=true)
 have c4k:=c4
 try simp only [aD,aH,aE] at c4
 refine .g (cP rfl rfl rfl rfl (.g (cD rfl (fun c5=>?_) (fun c5=>?_))))
 ·have c5k:=c5
  exact Bool.noConfusion (id c5:false=true)
 have c5k:=c5
 try simp only [aD,aH,aE] at c5
 refine .g (fZ rfl fB rfl (lO rfl bM rfl aC rfl ?_))
 refine cP rfl rfl rfl rfl (.p (fz rfl (.f rfl rfl) fB (.u rfl) (ld rfl (.f rfl rfl) bM (.s rfl) (fun hc=>Rd.own aC rfl) ?_)))
 refine cp rfl (.f rfl rfl) (.s rfl) (.u rfl) rfl (bZ rfl .no (.u rfl) (.s rfl) (.g (cD rfl (fun c6=>?_) (fun c6=>?_))))
 ·have c6k:=c6
  exact Bool.noConfusion (id c6:false=true)
 have c6k:=c6
 try simp only [aD,aH,aE] at c6
 refine .g (nC rfl rfl (fZ rfl lV rfl (lN rfl lI rfl (Rd.own aI rM) ?_)))
 refine pe rfl .no mX (.u rfl) (.u rfl) ?_
 refine .g (cD rfl (fun c7=>?_) (fun c7=>?_))
 ·have c7k:=c7
  exact Bool.noConfusion (id c7:false=true)
 have c7k:=c7
 try simp only [aD,aH,aE] at c7
 refine .seq (rO 3 Wtg.cells 142 (.g (lA rfl .no wO (.u rfl) (fun _=>RdN.part (n:=11) (cs':=EvD.cells (⟨1#8,((c:Nat):Int),l,sy,[],[],0#64,0,[],[],[]⟩ : EvD) (h.val l.length) vk vb) aI (rfl)) (fun _=>rfl) (ka rfl (.inr rfl) aDc (aB rfl (aB rfl aF)) (fF bE bE .here) (aNs bw bd bt bq bg root o most (.slice none 0 0) vk vb c h l sy _ hs hl hok hc hk9 hb9) ?_))))
 rintro _ G12 μ12 hG12 ⟨vS,sS,ovS,hsS,rfl,rfl⟩
 refine sw rfl (.u rfl) (.u rfl) rfl fN bE rfl (Rep.one _ rfl rfl) ?_
 refine .nil (.code (.ret ?_))
 refine aAu bE (fun _ _=>rfl) (bF aC rfl (bF aC rfl (eT))) ?_; intro GfRW hRW hleRW evRW hsRW; subst evRW
 have hsS:=hsS.mono hleRW
 refine bD Tryz.results10 (.cell rfl (fun w hw=>bW dZ (RdN.own .here) (rfl) hw) .nil) (mS aC rfl (mS aC rfl mN)) ?_
 exact ⟨hRW,sS,hsRW,hsS,rfl,rfl⟩
set_option maxHeartbeats 1000000 in
theorem aSm (bw bg bq bm room bd bt held bn:Nat) (root:Nat→Y) (o:Opts) (v0:Value) (F:List Fi) (h s:Sh) (G:PM) (hD:DkR F 3) (hnm:F.map Fi.nm=[aO 3 0,aO 4 0]) (hz:cA F≤2000) (hr:5000≤room) (hr9:room≤1000000000) (hmem:0<o.mem) (hs:SlR G 3 Wtg.cells h [(⟨2,s,[oX],false⟩ : Wtg)]) (hwo:SlR G 3 Opn.cells s [oX]) (hK:RdNP G 6 0 (wa 64 kW)):Ct Tryz.prog 62 ([.pointer (some ⟨bw,0,none⟩),.int .i64 0]:List Value).toArray G [.blk bw (cl (cV bd bt root o 100 ((pt bq)) ((pt bg))) 77),.blk bg (cl [pt bq,h.val 1] 140),.blk bq (cl (Db.cells (iD bd bt root o 1#64 held bn)) 165),.blk bd (cl (bH bm room 5) 118),.blk bm (mO ((F).map Fi.fe) 3),.blk bn (cl [v0,.int .i64 ((0:Nat):Int)] 225),rS 16 Nd.cells v0 249 [Nd.z]] (fun G' μ' u=>∃ (oa:Option Addr) (hd:Sh) (bb cap sz:Nat) (F4:List Fi),SlR G' 2 aAB hd [((2:Int),(0:Int))]∧μ'=[.blk bw (cl (cV bd bt root o 100 ((pt bq)) ((pt bg))) 77),.blk bg (cl [pt bq,.slice oa 0 0] 140),.blk bq (cl (Db.cells { iD bd bt root o 1#64 held bn with lg:=⟨⟨1#8,0#8,0#64,1#64,1#64⟩,1#64,false⟩,seq:=(0#64+BitVec.ofInt 64 ((1:Nat):Int)) }) 165),.blk bd (cl (bH bm room 6) 118),.blk bm (mO ((F4).map Fi.fe) 4),.blk bn (cl [.slice (some ⟨bb,0,none⟩) (cK (cB 0 [oX]) 1).length cap,.int .i64 ((sz:Nat):Int)] 225),rS 16 Nd.cells (.slice (some ⟨bb,0,none⟩) (cK (cB 0 [oX]) 1).length cap) 249 (cK (cB 0 [oX]) 1)]∧u=.agg (Rep.cells (rP) (.slice none 0 0) (hd.val 1)).toArray):=by
 refine Ct.of Tryz.func62 rfl Tryz.ntmps62 rfl fun w0 hs0=>?_
 refine .seq (aQ rfl rfl ?_)
 refine al rfl iP ?_; intro b4
 refine .g (anA rfl .no (.u rfl) (.u rfl) ?_)
 refine .g (cP rfl rfl rfl rfl (.g (cD rfl (fun c1=>?_) (fun c1=>?_))))
 ·have c1k:=c1
  try simp only [aD,aH,aE] at c1
  refine dX ⟨true,false⟩ aY (by kernel_rfl) ?_
  refine Wp.one 0 (by kernel_rfl) ?_
  refine mV rfl rfl (.nil (Wp.one 1 (by kernel_rfl) ?_))
  refine nC rfl rfl (.nil (Wp.one 2 (by kernel_rfl) ?_))
  refine fZ rfl oW rfl (.nil (Wp.one 3 (by kernel_rfl) ?_))
  refine lN rfl zM rfl (Rd.own aC yH) ?_
  refine .nil (Wp.one 4 (by kernel_rfl) ?_)
  refine mV rfl rfl (.nil (Wp.one 5 (by kernel_rfl) ?_))
  refine nC rfl rfl (.nil (Wp.one 6 (by kernel_rfl) ?_))
  refine fZ rfl aYP rfl (.nil (Wp.one 7 (by kernel_rfl) ?_))
  refine lN rfl cJ rfl (Rd.own aC aVK) ?_
  refine .nil (Wp.b1 8 (by kernel_rfl) ?_)
  refine ka rfl (.inl rfl) aYQ (aB rfl (aB rfl aF)) (aIq aI aI aI aI aI aI) (aPm bg bq bm room bd bt held bn root o v0 F h [(⟨2,s,[oX],false⟩ : Wtg)] _ hD hnm hz hr hr9 hmem hs (fun w hw=>by rw [List.mem_singleton.1 hw]; exact hwo) (.inl rfl) (fun w hw=>by rw [List.mem_singleton.1 hw]; rfl) (fun w hw=>by rw [List.mem_singleton.1 hw]) (show ∀ o∈[oX],o.ok from okX) (fun h=>absurd h (show ¬ (1:Nat)=2 by decide)) hK) ?_
  rintro _ G18 μ18 hG18 ⟨oa,vD,bb,m,cap,sz,F4,oD,hm4,_,_,_,rfl,rfl⟩
  obtain rfl:m=(cK (cB 0 [oX]) 1).length:=hm4
  refine .nil (Wp.one 9 (by kernel_rfl) ?_)
  refine mV rfl rfl (.nil (Wp.one 10 (by kernel_rfl) ?_))
  refine eX rfl rfl rfl (.nil (Wp.one 11 (by kernel_rfl) ?_))
  refine eX rfl rfl rfl (.nil (Wp.one 12 (by kernel_rfl) ?_))
  refine fZ rfl zN rfl (.nil (Wp.b1 13 (by kernel_rfl) ?_))
  refine oP rfl (.u rfl) (.u rfl) aC aDd oR ((by show 5<6; decide)) (rfl) ?_
  refine .nil (Wp.one 14 (by kernel_rfl) ?_)
  refine fZ rfl lW rfl (.nil (Wp.b1 15 (by kernel_rfl) ?_))
  refine s1 rfl (.u rfl) (.u rfl) rfl jX .here ((by show 0<6; decide)) (rfl) ?_
  refine .nil (Wp.last (by kernel_rfl) ?_)
  refine .blk (.code (.seq ?_))
  refine aVO aI (fun _ _=>rfl) ?_; intro GfRD hRD hleRD evRD hsRD; subst evRD
  have hsd:=SlR.dn hsRD
  refine .g (lA rfl .no dZ (.u rfl) (fun _=>RdN.part (n:=6) (cs':=Rep.cells rP (.slice none 0 0) (hRD.val 1)) .here (rfl)) (fun _=>rfl) (sw rfl (.u rfl) (.u rfl) rfl fN .here rfl (Rep.one _ rfl rfl) ?_))
  refine .nil (.code (.ret (bD Tryz.results62 (.cell rfl (fun w hw=>bW dZ (RdN.own .here) (rfl) hw) .nil) (mS oR rfl (mS aC rfl (mS aC rfl (mS aC rfl (mS aC rfl (mS aC rfl (mS aC rfl mN))))))) ?_)))
  exact ⟨oa,hRD,bb,cap,sz,F4,hsd,rfl,rfl⟩
 have c1k:=c1
 exact Bool.noConfusion (id c1:true=false)
set_option maxHeartbeats 1000000 in
theorem aNr (bw bg bq bm room bd bt held bn:Nat) (root:Nat→Y) (o:Opts) (v0:Value) (F:List Fi) (h s:Sh) (G:PM) (hD:DkR F 3) (hnm:F.map Fi.nm=[aO 3 0,aO 4 0]) (hz:cA F≤2000) (hr:5000≤room) (hr9:room≤1000000000) (hmem:0<o.mem) (hs:SlR G 3 Wtg.cells h [(⟨2,s,[oX],false⟩ : Wtg)]) (hwo:SlR G 3 Opn.cells s [oX]) (hK:RdNP G 6 0 (wa 64 kW)) (vo vk vb:Value) (ho:vo.oneCell'=true) (hk9:vk.oneCell'=true) (hb9:vb.oneCell'=true):Ct Tryz.prog 34 ([.pointer (some ⟨bw,0,none⟩),.agg (EvD.cells eP vo vk vb).toArray]:List Value).toArray G [.blk bw (cl (cV bd bt root o 100 ((pt bq)) ((pt bg))) 77),.blk bg (cl [pt bq,h.val 1] 140),.blk bq (cl (Db.cells (iD bd bt root o 1#64 held bn)) 165),.blk bd (cl (bH bm room 5) 118),.blk bm (mO ((F).map Fi.fe) 3),.blk bn (cl [v0,.int .i64 ((0:Nat):Int)] 225),rS 16 Nd.cells v0 249 [Nd.z]] (fun G' μ' u=>∃ (oa:Option Addr) (hd:Sh) (bb cap sz:Nat) (F4:List Fi),SlR G' 2 aAB hd [((2:Int),(0:Int))]∧μ'=[.blk bw (cl (cV bd bt root o 100 ((pt bq)) ((pt bg))) 77),.blk bg (cl [pt bq,.slice oa 0 0] 140),.blk bq (cl (Db.cells { iD bd bt root o 1#64 held bn with lg:=⟨⟨1#8,0#8,0#64,1#64,1#64⟩,1#64,false⟩,seq:=(0#64+BitVec.ofInt 64 ((1:Nat):Int)) }) 165),.blk bd (cl (bH bm room 6) 118),.blk bm (mO ((F4).map Fi.fe) 4),.blk bn (cl [.slice (some ⟨bb,0,none⟩) (cK (cB 0 [oX]) 1).length cap,.int .i64 ((sz:Nat):Int)] 225),rS 16 Nd.cells (.slice (some ⟨bb,0,none⟩) (cK (cB 0 [oX]) 1).length cap) 249 (cK (cB 0 [oX]) 1)]∧u=.agg (Rep.cells (rP) (.slice none 0 0) (hd.val 1)).toArray):=by
 refine Ct.of Tryz.func34 rfl Tryz.ntmps34 rfl fun w0 hs0=>?_
 refine .seq (bB rfl rfl ?_)
 refine bX rfl rfl rfl ?_; intro b3
 refine al rfl iP ?_; intro b4
 refine .g (fZ rfl fB rfl (lO rfl bM rfl aC rfl ?_))
 refine .g (cP rfl rfl rfl rfl (.g (cD rfl (fun c1=>?_) (fun c1=>?_))))
 ·have c1k:=c1
  exact Bool.noConfusion (id c1:false=true)
 have c1k:=c1
 try simp only [aD,aH,aE] at c1
 refine .g (cP rfl rfl rfl rfl (.g (cD rfl (fun c2=>?_) (fun c2=>?_))))
 ·have c2k:=c2
  exact Bool.noConfusion (id c2:false=true)
 have c2k:=c2
 try simp only [aD,aH,aE] at c2
 refine .g (cP rfl rfl rfl rfl (.g (cD rfl (fun c3=>?_) (fun c3=>?_))))
 ·have c3k:=c3
  exact Bool.noConfusion (id c3:false=true)
 have c3k:=c3
 try simp only [aD,aH,aE] at c3
 refine .g (cP rfl rfl rfl rfl (.g (cD rfl (fun c4=>?_) (fun c4=>?_))))
 ·have c4k:=c4
  exact Bool.noConfusion (id c4:false=true)
 have c4k:=c4
 try simp only [aD,aH,aE] at c4
 refine .g (cP rfl rfl rfl rfl (.g (cD rfl (fun c5=>?_) (fun c5=>?_))))
 ·have c5k:=c5
  exact Bool.noConfusion (id c5:false=true)
 have c5k:=c5
 try simp only [aD,aH,aE] at c5
 refine .g (cP rfl rfl rfl rfl (.g (cD rfl (fun c6=>?_) (fun c6=>?_))))
 ·have c6k:=c6
  try simp only [aD,aH,aE] at c6
  refine .g (fZ rfl aM5 rfl (lO rfl cJ rfl aC rfl ?_))
  refine ka rfl (.inr rfl) aYT (aB rfl (aB rfl aF)) (aEc aI aI aI aI aI aI aI) (aSm bw bg bq bm room bd bt held bn root o v0 F h s _ hD hnm hz hr hr9 hmem hs hwo hK) ?_
  rintro _ G84 μ84 hG84 ⟨oa,hd,bb,cap,sz,F4,hsd,rfl,rfl⟩
  refine sw rfl (.u rfl) (.u rfl) rfl fN oR rfl (Rep.one _ rfl rfl) ?_
  refine .nil (.code (.ret (bD Tryz.results34 (.cell rfl (fun w hw=>bW dZ (RdN.own .here) (rfl) hw) .nil) (mS aC rfl (mS aC rfl (mS aC rfl (mS aC rfl (mS aC rfl (mS aC rfl (mS aC rfl mN))))))) ?_)))
  exact ⟨oa,hd,bb,cap,sz,F4,hsd,rfl,rfl⟩
 have c6k:=c6
 exact Bool.noConfusion (id c6:true=false)
set_option maxHeartbeats 1000000 in
theorem aPA (bw bg bq bm room bd bt held bn:Nat) (root:Nat→Y) (o:Opts) (v0:Value) (F:List Fi) (h s:Sh) (G:PM) (hD:DkR F 3) (hnm:F.map Fi.nm=[aO 3 0,aO 4 0]) (hz:cA F≤2000) (hr:5000≤room) (hr9:room≤1000000000) (hmem:0<o.mem) (hs:SlR G 3 Wtg.cells h [(⟨2,s,[oX],false⟩ : Wtg)]) (hwo:SlR G 3 Opn.cells s [oX]) (hK:RdNP G 6 0 (wa 64 kW)) (vo vk vb:Value) (ho:vo.oneCell'=true) (hk9:vk.oneCell'=true) (hb9:vb.oneCell'=true):Ct Tryz.prog 10 ([.pointer (some ⟨bw,0,none⟩),.agg (EvD.cells eP vo vk vb).toArray]:List Value).toArray G [.blk bw (cl (cV bd bt root o 100 ((pt bq)) ((pt bg))) 77),.blk bg (cl [pt bq,h.val 1] 140),.blk bq (cl (Db.cells (iD bd bt root o 1#64 held bn)) 165),.blk bd (cl (bH bm room 5) 118),.blk bm (mO ((F).map Fi.fe) 3),.blk bn (cl [v0,.int .i64 ((0:Nat):Int)] 225),rS 16 Nd.cells v0 249 [Nd.z]] (fun G' μ' u=>∃ (oa:Option Addr) (hd:Sh) (bb cap sz:Nat) (F4:List Fi),SlR G' 2 aAB hd [((2:Int),(0:Int))]∧μ'=[.blk bw (cl (cV bd bt root o 100 ((pt bq)) ((pt bg))) 77),.blk bg (cl [pt bq,.slice oa 0 0] 140),.blk bq (cl (Db.cells { iD bd bt root o 1#64 held bn with lg:=⟨⟨1#8,0#8,0#64,1#64,1#64⟩,1#64,false⟩,seq:=(0#64+BitVec.ofInt 64 ((1:Nat):Int)) }) 165),.blk bd (cl (bH bm room 6) 118),.blk bm (mO ((F4).map Fi.fe) 4),.blk bn (cl [.slice (some ⟨bb,0,none⟩) (cK (cB 0 [oX]) 1).length cap,.int .i64 ((sz:Nat):Int)] 225),rS 16 Nd.cells (.slice (some ⟨bb,0,none⟩) (cK (cB 0 [oX]) 1).length cap) 249 (cK (cB 0 [oX]) 1)]∧u=.agg (Rep.cells (rP) (.slice none 0 0) (hd.val 1)).toArray):=by
 refine Ct.of Tryz.func10 rfl Tryz.ntmps10 rfl fun w0 hs0=>?_
 refine .seq (bB rfl rfl ?_)
 refine bX rfl rfl rfl ?_; intro b3
 refine al rfl iP ?_; intro b4
 refine .g (pe rfl .no fY (.u rfl) (.u rfl) ?_)
 refine .g (dM rfl rfl ?_)
 refine .g (fZ rfl fB rfl (lO rfl bM rfl aC rfl ?_))
 refine .g (cP rfl rfl rfl rfl (.g (cD rfl (fun c1=>?_) (fun c1=>?_))))
 ·have c1k:=c1
  cases c1
 have c1k:=c1
 try simp only [aD,aH,aE] at c1
 refine .g (cP rfl rfl rfl rfl (.g (cD rfl (fun c2=>?_) (fun c2=>?_))))
 ·have c2k:=c2
  exact Bool.noConfusion (id c2:false=true)
 have c2k:=c2
 try simp only [aD,aH,aE] at c2
 refine .g (cP rfl rfl rfl rfl (.g (cD rfl (fun c3=>?_) (fun c3=>?_))))
 ·have c3k:=c3
  exact Bool.noConfusion (id c3:false=true)
 have c3k:=c3
 try simp only [aD,aH,aE] at c3
 refine .g (cP rfl rfl rfl rfl (.g (cD rfl (fun c4=>?_) (fun c4=>?_))))
 ·have c4k:=c4
  exact Bool.noConfusion (id c4:false=true)
 have c4k:=c4
 try simp only [aD,aH,aE] at c4
 refine .g (cP rfl rfl rfl rfl (.g (cD rfl (fun c5=>?_) (fun c5=>?_))))
 ·have c5k:=c5
  exact Bool.noConfusion (id c5:false=true)
 have c5k:=c5
 try simp only [aD,aH,aE] at c5
 refine .g (fZ rfl fB rfl (lO rfl bM rfl aC rfl ?_))
 refine cP rfl rfl rfl rfl (.p (fz rfl (.f rfl rfl) fB (.u rfl) (ld rfl (.f rfl rfl) bM (.s rfl) (fun hc=>Rd.own aC rfl) ?_)))
 refine cp rfl (.f rfl rfl) (.s rfl) (.u rfl) rfl (bZ rfl .no (.u rfl) (.s rfl) (.g (cD rfl (fun c6=>?_) (fun c6=>?_))))
 ·have c6k:=c6
  exact Bool.noConfusion (id c6:false=true)
 have c6k:=c6
 try simp only [aD,aH,aE] at c6
 refine .g (nC rfl rfl (fZ rfl lV rfl (lN rfl lI rfl (Rd.own aI rM) ?_)))
 refine pe rfl .no mX (.u rfl) (.u rfl) ?_
 refine .g (cD rfl (fun c7=>?_) (fun c7=>?_))
 ·have c7k:=c7
  exact Bool.noConfusion (id c7:false=true)
 have c7k:=c7
 try simp only [aD,aH,aE] at c7
 refine .g (lA rfl .no wO (.u rfl) (fun _=>RdN.part (n:=11) (cs':=EvD.cells eP vo vk vb) aC (rfl)) (fun _=>rfl) (ka rfl (.inr rfl) aDc (aB rfl (aB rfl aF)) (aEc aI aI aI aI aI aI aI) (aNr bw bg bq bm room bd bt held bn root o v0 F h s _ hD hnm hz hr hr9 hmem hs hwo hK vo vk vb ho hk9 hb9) ?_))
 rintro _ G12 μ12 hG12 ⟨oa,hd,bb,cap,sz,F4,hsd,rfl,rfl⟩
 refine sw rfl (.u rfl) (.u rfl) rfl fN oR rfl (Rep.one _ rfl rfl) ?_
 refine .nil (.code (.ret (bD Tryz.results10 (.cell rfl (fun w hw=>bW dZ (RdN.own .here) (rfl) hw) .nil) (mS aC rfl (mS aC rfl (mS aC rfl (mS aC rfl (mS aC rfl (mS aC rfl (mS aC rfl mN))))))) ?_)))
 exact ⟨oa,hd,bb,cap,sz,F4,hsd,rfl,rfl⟩
set_option maxHeartbeats 1000000 in
theorem aNq (bw bq bg bd bt held bn bb cap sz:Nat) (root:Nat→Y) (o:Opts) (G:PM) (vo vk vb:Value) (ho:vo.oneCell'=true) (hk9:vk.oneCell'=true) (hb9:vb.oneCell'=true):Ct Tryz.prog 34 ([.pointer (some ⟨bw,0,none⟩),.agg (EvD.cells eG vo vk vb).toArray]:List Value).toArray G [.blk bw (cl (cV bd bt root o 100 ((pt bq)) ((pt bg))) 77),.blk bq (cl (Db.cells { iD bd bt root o 1#64 held bn with lg:=⟨⟨1#8,0#8,0#64,1#64,1#64⟩,1#64,false⟩,seq:=(0#64+BitVec.ofInt 64 ((1:Nat):Int)) }) 165),.blk bn (cl [.slice (some ⟨bb,0,none⟩) (cK (cB 0 [oX]) 1).length cap,.int .i64 ((sz:Nat):Int)] 225),rS 16 Nd.cells (.slice (some ⟨bb,0,none⟩) (cK (cB 0 [oX]) 1).length cap) 249 (cK (cB 0 [oX]) 1)] (fun _ μ' u=>μ'=[.blk bw (cl (cV bd bt root o 100 ((pt bq)) ((pt bg))) 77),.blk bq (cl (Db.cells { iD bd bt root o 1#64 held bn with lg:=⟨⟨1#8,0#8,0#64,1#64,1#64⟩,1#64,false⟩,seq:=(0#64+BitVec.ofInt 64 ((1:Nat):Int)) }) 165),.blk bn (cl [.slice (some ⟨bb,0,none⟩) (cK (cB 0 [oX]) 1).length cap,.int .i64 ((sz:Nat):Int)] 225),rS 16 Nd.cells (.slice (some ⟨bb,0,none⟩) (cK (cB 0 [oX]) 1).length cap) 249 (cK (cB 0 [oX]) 1)]∧u=.agg (Rep.cells (rG) (.slice none 0 0) (.slice none 0 0)).toArray):=by
 refine Ct.of Tryz.func34 rfl Tryz.ntmps34 rfl fun w0 hs0=>?_
 refine .seq (bB rfl rfl ?_)
 refine bX rfl rfl rfl ?_; intro b3
 refine al rfl iP ?_; intro b4
 refine .g (fZ rfl fB rfl (lO rfl bM rfl aC rfl ?_))
 refine .g (cP rfl rfl rfl rfl (.g (cD rfl (fun c1=>?_) (fun c1=>?_))))
 ·have c1k:=c1
  exact Bool.noConfusion (id c1:false=true)
 have c1k:=c1
 try simp only [aD,aH,aE] at c1
 refine .g (cP rfl rfl rfl rfl (.g (cD rfl (fun c2=>?_) (fun c2=>?_))))
 ·have c2k:=c2
  try simp only [aD,aH,aE] at c2
  refine dL aC (bF aC rfl (bF aC rfl (bF aC rfl (bF aC rfl (eT))))) ?_; intro Gfb3 hleb3 hbb3
  refine dX ⟨true,false⟩ aY (by kernel_rfl) ?_
  refine Wp.one 0 (by kernel_rfl) ?_
  refine mV rfl rfl (.nil (Wp.one 1 (by kernel_rfl) ?_))
  refine nC rfl rfl (.nil (Wp.one 2 (by kernel_rfl) ?_))
  refine fZ rfl lV rfl (.nil (Wp.one 3 (by kernel_rfl) ?_))
  refine lN rfl lI rfl (Rd.own aC rM) ?_
  refine .nil (Wp.one 4 (by kernel_rfl) ?_)
  refine fA rfl aYN rfl (.nil (Wp.one 5 (by kernel_rfl) ?_))
  refine lN rfl cW rfl ((hbb3.rd (rfl)).rd) ?_
  refine .nil (Wp.one 6 (by kernel_rfl) ?_)
  refine fA rfl aYO rfl (.nil (Wp.one 7 (by kernel_rfl) ?_))
  refine lN rfl aZ rfl ((hbb3.rd (rfl)).rd) ?_
  refine .nil (Wp.b1 8 (by kernel_rfl) ?_)
  refine ka rfl (.inl rfl) aYS (aB rfl (aB rfl (aB rfl aF))) (fF aI aI aI) (cX fun G1 hle1 h1=>aQr fun s G2 hle hv hs2 hb2=>by rw [hv] at hb2; exact aOl bq { iD bd bt root o 1#64 held bn with lg:=⟨⟨1#8,0#8,0#64,1#64,1#64⟩,1#64,false⟩,seq:=(0#64+BitVec.ofInt 64 ((1:Nat):Int)) } G2 (h1.mono hle) (⟨#[97]⟩ : ByteArray) 9#64 s (cK (cB 0 [oX]) 1) _ (fun _=>0) hb2 hs2 rfl (aVG esX (by show pA (fS 1#64 oX) (⟨#[97]⟩ : ByteArray) (0#64+BitVec.ofInt 64 ((1:Nat):Int):BitVec 64)=false; kernel_rfl)) (fS 1#64 oX) (by rw [(nx1 esX).1]; decide) (by rw [(nx1 esX).1]; exact (nx1 esX).2) rfl rfl (by show (0#64+BitVec.ofInt 64 ((1:Nat):Int):BitVec 64).toNat≤(9#64:BitVec 64).toNat; decide)) ?_
  rintro _ G32 μ32 hG32 ⟨ν3,rfl,rfl,rfl⟩
  refine .nil (Wp.one 9 (by kernel_rfl) ?_)
  refine mV rfl rfl (.nil (Wp.one 10 (by kernel_rfl) ?_))
  refine eX rfl rfl rfl (.nil (Wp.one 11 (by kernel_rfl) ?_))
  refine eX rfl rfl rfl (.nil (Wp.one 12 (by kernel_rfl) ?_))
  refine eX rfl rfl rfl (.nil (Wp.one 13 (by kernel_rfl) ?_))
  refine fZ rfl aM6 rfl (.nil (Wp.b1 14 (by kernel_rfl) ?_))
  refine s1 rfl (.u rfl) (.u rfl) rfl aXz bE ((by show 2<6; decide)) (rfl) ?_
  refine .nil (Wp.one 15 (by kernel_rfl) ?_)
  refine fZ rfl aM7 rfl (.nil (Wp.b1 16 (by kernel_rfl) ?_))
  refine s1 rfl (.u rfl) (.u rfl) rfl wN .here ((by show 3<6; decide)) (rfl) ?_
  refine .nil (Wp.one 17 (by kernel_rfl) ?_)
  refine fZ rfl lW rfl (.nil (Wp.b1 18 (by kernel_rfl) ?_))
  refine s1 rfl (.u rfl) (.u rfl) rfl jX .here ((by show 0<6; decide)) (rfl) ?_
  refine .nil (Wp.last (by kernel_rfl) ?_)
  refine .g (lA rfl .no dZ (.u rfl) (fun _=>RdN.part (n:=6) (cs':=Rep.cells rG (.slice none 0 0) (.slice none 0 0)) .here (rfl)) (fun _=>rfl) (sw rfl (.u rfl) (.u rfl) rfl fN .here rfl (Rep.one _ rfl rfl) ?_))
  refine .nil (.code (.ret (bD Tryz.results34 (.cell rfl (fun w hw=>bW dZ (RdN.own .here) (rfl) hw) .nil) (mS dK rfl (mS aC rfl (mS aC rfl (mS aC rfl mN)))) ?_)))
  exact ⟨rfl,rfl⟩
 have c2k:=c2
 exact Bool.noConfusion (id c2:true=false)
theorem aO8 (bw bq bg bd bt held bn bb cap sz:Nat) (root:Nat→Y) (o:Opts) (G:PM) (vo vk vb:Value) (ho:vo.oneCell'=true) (hk9:vk.oneCell'=true) (hb9:vb.oneCell'=true):Ct Tryz.prog 10 ([.pointer (some ⟨bw,0,none⟩),.agg (EvD.cells eG vo vk vb).toArray]:List Value).toArray G [.blk bw (cl (cV bd bt root o 100 ((pt bq)) ((pt bg))) 77),.blk bq (cl (Db.cells { iD bd bt root o 1#64 held bn with lg:=⟨⟨1#8,0#8,0#64,1#64,1#64⟩,1#64,false⟩,seq:=(0#64+BitVec.ofInt 64 ((1:Nat):Int)) }) 165),.blk bn (cl [.slice (some ⟨bb,0,none⟩) (cK (cB 0 [oX]) 1).length cap,.int .i64 ((sz:Nat):Int)] 225),rS 16 Nd.cells (.slice (some ⟨bb,0,none⟩) (cK (cB 0 [oX]) 1).length cap) 249 (cK (cB 0 [oX]) 1)] (fun _ μ' u=>μ'=[.blk bw (cl (cV bd bt root o 100 ((pt bq)) ((pt bg))) 77),.blk bq (cl (Db.cells { iD bd bt root o 1#64 held bn with lg:=⟨⟨1#8,0#8,0#64,1#64,1#64⟩,1#64,false⟩,seq:=(0#64+BitVec.ofInt 64 ((1:Nat):Int)) }) 165),.blk bn (cl [.slice (some ⟨bb,0,none⟩) (cK (cB 0 [oX]) 1).length cap,.int .i64 ((sz:Nat):Int)] 225),rS 16 Nd.cells (.slice (some ⟨bb,0,none⟩) (cK (cB 0 [oX]) 1).length cap) 249 (cK (cB 0 [oX]) 1)]∧u=.agg (Rep.cells (rG) (.slice none 0 0) (.slice none 0 0)).toArray):=by
 refine Ct.of Tryz.func10 rfl Tryz.ntmps10 rfl fun w0 hs0=>?_
 refine .seq (bB rfl rfl ?_)
 refine bX rfl rfl rfl ?_; intro b3
 refine al rfl iP ?_; intro b4
 refine .g (pe rfl .no fY (.u rfl) (.u rfl) ?_)
 refine .g (dM rfl rfl ?_)
 refine .g (fZ rfl fB rfl (lO rfl bM rfl aC rfl ?_))
 refine .g (cP rfl rfl rfl rfl (.g (cD rfl (fun c1=>?_) (fun c1=>?_))))
 ·have c1k:=c1
  cases c1
 have c1k:=c1
 try simp only [aD,aH,aE] at c1
 refine .g (cP rfl rfl rfl rfl (.g (cD rfl (fun c2=>?_) (fun c2=>?_))))
 ·have c2k:=c2
  exact Bool.noConfusion (id c2:false=true)
 have c2k:=c2
 try simp only [aD,aH,aE] at c2
 refine .g (cP rfl rfl rfl rfl (.g (cD rfl (fun c3=>?_) (fun c3=>?_))))
 ·have c3k:=c3
  exact Bool.noConfusion (id c3:false=true)
 have c3k:=c3
 try simp only [aD,aH,aE] at c3
 refine .g (cP rfl rfl rfl rfl (.g (cD rfl (fun c4=>?_) (fun c4=>?_))))
 ·have c4k:=c4
  exact Bool.noConfusion (id c4:false=true)
 have c4k:=c4
 try simp only [aD,aH,aE] at c4
 refine .g (cP rfl rfl rfl rfl (.g (cD rfl (fun c5=>?_) (fun c5=>?_))))
 ·have c5k:=c5
  exact Bool.noConfusion (id c5:false=true)
 have c5k:=c5
 try simp only [aD,aH,aE] at c5
 refine .g (fZ rfl fB rfl (lO rfl bM rfl aC rfl ?_))
 refine cP rfl rfl rfl rfl (.p (fz rfl (.f rfl rfl) fB (.u rfl) (ld rfl (.f rfl rfl) bM (.s rfl) (fun hc=>Rd.own aC rfl) ?_)))
 refine cp rfl (.f rfl rfl) (.s rfl) (.u rfl) rfl (bZ rfl .no (.u rfl) (.s rfl) (.g (cD rfl (fun c6=>?_) (fun c6=>?_))))
 ·have c6k:=c6
  exact Bool.noConfusion (id c6:false=true)
 have c6k:=c6
 try simp only [aD,aH,aE] at c6
 refine .g (nC rfl rfl (fZ rfl lV rfl (lN rfl lI rfl (Rd.own aI rM) ?_)))
 refine pe rfl .no mX (.u rfl) (.u rfl) ?_
 refine .g (cD rfl (fun c7=>?_) (fun c7=>?_))
 ·have c7k:=c7
  exact Bool.noConfusion (id c7:false=true)
 have c7k:=c7
 try simp only [aD,aH,aE] at c7
 refine .g (lA rfl .no wO (.u rfl) (fun _=>RdN.part (n:=11) (cs':=EvD.cells eG vo vk vb) aC (rfl)) (fun _=>rfl) (ka rfl (.inr rfl) aDc (aB rfl (aB rfl aF)) (jF aI aI aI aI) (aNq bw bq bg bd bt held bn bb cap sz root o _ vo vk vb ho hk9 hb9) ?_))
 rintro _ G12 μ12 hG12 ⟨rfl,rfl⟩
 refine sw rfl (.u rfl) (.u rfl) rfl fN dK rfl (Rep.one _ rfl rfl) ?_
 refine .nil (.code (.ret (bD Tryz.results10 (.cell rfl (fun w hw=>bW dZ (RdN.own .here) (rfl) hw) .nil) (mS aC rfl (mS aC rfl (mS aC rfl (mS aC rfl mN)))) ?_)))
 exact ⟨rfl,rfl⟩
end Go.Proofs.YtoifkgkandfeiaaGreatDoor
namespace Go.Proofs.YtoifkgkandfeiaaGreatDoor
open Go.Tan Go.RowKit Go.Maps Go.Sort Go.Shelf
theorem aKv (G:PM):Ct Tryz.prog 35 ([.pointer none]:List Value).toArray G [] (fun _ μ' u=>μ'=[]∧u=.slice none 0 0):=by
 refine Ct.of Tryz.func35 rfl Tryz.ntmps35 rfl fun w0 hs0=>?_
 refine .g (hY rfl .no aBQ (.u rfl) (.u rfl) ?_)
 refine .g (gK rfl rfl ?_)
 refine .seq (aQ rfl rfl (aS rfl rfl (.nc (.ret (aK Tryz.results35 (.tmp rfl .nil) ?_)))))
 exact ⟨rfl,rfl⟩
end Go.Proofs.YtoifkgkandfeiaaGreatDoor

namespace Go.Proofs.YtoifkgkandfeiaaGreatDoor
open Go.Tan Go.RowKit Go.Maps Go.Sort Go.Shelf
theorem aDI:aL Tryz.prog 35=true:=by kernel_rfl
theorem aXl:aL Tryz.prog 64=true:=by kernel_rfl
theorem aF5:aL Tryz.prog 30=true:=by kernel_rfl
theorem aVD (bg:Nat) (z:Value) (oa:Option Addr) (G:PM) (hbg:PB G bg (cl [z,.slice oa 0 0] 140)):Ct Tryz.prog 35 ([pt bg]:List Value).toArray G [] (fun _ μ' u=>μ'=[]∧u=.slice none 0 0):=by
 refine Ct.of Tryz.func35 rfl Tryz.ntmps35 rfl fun w0 hs0=>?_
 refine .g (pe rfl .no aBQ (.u rfl) (.u rfl) ?_)
 refine .g (dM rfl rfl ?_)
 refine .g (nC rfl rfl (fA rfl oU rfl (lN rfl rV rfl ((hbg.rd (rfl)).rd) ?_)))
 refine lE rfl wH rfl (mV rfl rfl (.nc (.block ?_)))
 refine aX (α:=Nat) (fun k=>[(3,true,.slice none 0 0),(13,true,.int .i64 (k:Int))]) (fun _=>[])
  (fun k Gl=>(k=0)) (fun k=>0) 0 [(11,true,_),(12,true,_)] []
  (aA rfl (aM rfl (aA rfl (aA rfl eZ))))
  mN ?_ ?_
 ·(try dsimp only)<;>(first|omega|rfl|assumption|(simp; done))
 intro k N0 Gl0 hN0 hGl0 hF0
 try dsimp only at hF0 hN0 ⊢
 have hk:=hF0
 refine .g (cP rfl rfl rfl rfl (.g (cD rfl (fun c1=>?_) (fun c1=>?_))))
 ·have c1k:=c1
  subst hk; cases c1
 have c1k:=c1
 try simp only [aD,aE] at c1
 refine .exit (.xcode (.xlp (.xblk (.code (.seq (bB rfl rfl (mV rfl rfl (aS rfl rfl (.nc (.ret (aK Tryz.results35 (.tmp rfl .nil) ?_)))))))))))
 exact ⟨rfl,rfl⟩
theorem aPt (bw bd bt:Nat) (root:Nat→Y) (o:Opts) (most e:Int) (x:Value) (bg:Nat) (z:Value) (oa:Option Addr) (G:PM):Ct Tryz.prog 30 ([.pointer (some ⟨bw,0,none⟩),.int .i64 e]:List Value).toArray G [.blk bw (cl (cV bd bt root o most x ((pt bg))) 77),.blk bg (cl [z,.slice oa 0 0] 140)] (fun _ μ' u=>μ'=[.blk bw (cl (cV bd bt root o most (.pointer none) (.pointer none)) 77)]∧u=.slice none 0 0):=by
 refine Ct.of Tryz.func30 rfl Tryz.ntmps30 rfl fun w0 hs0=>?_
 refine .g (nC rfl rfl (fZ rfl oW rfl (lN rfl zM rfl (Rd.own .here yH) ?_)))
 refine kp rfl .no aDI (aB rfl aF) (Gp.add aC Gp.nil) (fun _ hle hq=>aVD bg z oa _ ⟨bU _ _ _⟩) ?_
 refine lE rfl wI rfl (mV rfl rfl (.nc (.block ?_)))
 refine aX (α:=Nat) (fun k=>[(5,true,.slice none 0 0),(14,true,.int .i64 (k:Int))]) (fun _=>[])
  (fun k Gl=>(k=0)) (fun k=>0) 0 [(0,true,_),(1,true,_),(12,true,_),(13,true,_)] [_,_]
  (aA rfl (aM rfl (aA rfl (aA rfl (aA rfl (aA rfl eZ))))))
  (mS .here rfl (mS .here rfl mN)) ?_ ?_
 ·(try dsimp only)<;>(first|omega|rfl|assumption|(simp; done))
 intro k N0 Gl0 hN0 hGl0 hF0
 try dsimp only at hF0 hN0 ⊢
 have hk:=hF0
 refine .g (cP rfl rfl rfl rfl (.g (cD rfl (fun c1=>?_) (fun c1=>?_))))
 ·have c1k:=c1
  subst hk; cases c1
 have c1k:=c1
 try simp only [aD,aH,aE] at c1
 refine .g (nC rfl rfl (fZ rfl lV rfl (s1 rfl (.u rfl) (.u rfl) rfl uG .here ((by rw [pT]; decide)) (aAs) ?_)))
 refine nC rfl rfl (fZ rfl oW rfl (s1 rfl (.u rfl) (.u rfl) rfl aBc .here ((by rw [pT]; decide)) (aAt) ?_))
 refine .nil (.code (.seq (bB rfl rfl (mV rfl rfl (aS rfl rfl (.nc (.ret (bD Tryz.results30 (.tmp rfl .nil) (mS .here rfl mN) ?_))))))))
 exact ⟨rfl,rfl⟩
theorem aH8 (bw bd bt:Nat) (root:Nat→Y) (o:Opts) (most e:Int) (x:Value) (G:PM):Ct Tryz.prog 30 ([.pointer (some ⟨bw,0,none⟩),.int .i64 e]:List Value).toArray G [.blk bw (cl (cV bd bt root o most x (.pointer none)) 77)] (fun _ μ' u=>μ'=[.blk bw (cl (cV bd bt root o most (.pointer none) (.pointer none)) 77)]∧u=.slice none 0 0):=by
 refine Ct.of Tryz.func30 rfl Tryz.ntmps30 rfl fun w0 hs0=>?_
 refine .g (nC rfl rfl (fZ rfl oW rfl (lN rfl zM rfl (Rd.own .here yH) ?_)))
 refine kV rfl aDI (aB rfl aF) (aKv _) ?_
 refine lE rfl wI rfl (mV rfl rfl (.nc (.block ?_)))
 refine aX (α:=Nat) (fun k=>[(5,true,.slice none 0 0),(14,true,.int .i64 (k:Int))]) (fun _=>[])
  (fun k Gl=>(k=0)) (fun k=>0) 0 [(0,true,_),(1,true,_),(12,true,_),(13,true,_)] [_]
  (aA rfl (aM rfl (aA rfl (aA rfl (aA rfl (aA rfl eZ))))))
  (mS .here rfl mN) ?_ ?_
 ·(try dsimp only)<;>(first|omega|rfl|assumption|(simp; done))
 intro k N0 Gl0 hN0 hGl0 hF0
 try dsimp only at hF0 hN0 ⊢
 have hk:=hF0
 refine .g (cP rfl rfl rfl rfl (.g (cD rfl (fun c1=>?_) (fun c1=>?_))))
 ·have c1k:=c1
  subst hk; cases c1
 have c1k:=c1
 try simp only [aD,aH,aE] at c1
 refine .g (nC rfl rfl (fZ rfl lV rfl (s1 rfl (.u rfl) (.u rfl) rfl uG .here ((by rw [pT]; decide)) (aAs) ?_)))
 refine nC rfl rfl (fZ rfl oW rfl (s1 rfl (.u rfl) (.u rfl) rfl aBc .here ((by rw [pT]; decide)) (aAt) ?_))
 refine .nil (.code (.seq (bB rfl rfl (mV rfl rfl (aS rfl rfl (.nc (.ret (bD Tryz.results30 (.tmp rfl .nil) (mS .here rfl mN) ?_))))))))
 exact ⟨rfl,rfl⟩
theorem aOi (bq:Nat) (d:Db) (G:PM):Ct Tryz.prog 64 ([pt bq]:List Value).toArray G [.blk bq (cl d.cells 165)] (fun _ μ' u=>μ'=[]∧u=.int .i64 0):=by
 refine Ct.of Tryz.func64 rfl Tryz.ntmps64 rfl fun w0 hs0=>?_
 refine .g (kp rfl .no aGD (aB rfl aF) (Gp.add .here Gp.nil) (fun _ hle hq=>aFI bq d _ ⟨bU _ _ _⟩) ?_)
 refine .g (cP rfl rfl rfl rfl (.g (cD rfl (fun c1=>?_) (fun c1=>?_))))
 ·have c1k:=c1
  try simp only [aD,aH,aE] at c1
  refine .g (nC rfl rfl (fZ rfl aLg rfl (s1 rfl (.u rfl) (.u rfl) rfl wN .here (by first|decide | (show _<85; decide)) (rfl) ?_)))
  refine .nil (.code (.seq (bB rfl rfl (mV rfl rfl (aS rfl rfl (.nc (.ret (aK Tryz.results64 (.tmp rfl .nil) ?_))))))))
  exact ⟨rfl,rfl⟩
 have c1k:=c1
 exact absurd c1 (by decide)
theorem aNo (bw bd bt bq bg:Nat) (root:Nat→Y) (o:Opts) (most:Int) (oa:Option Addr) (d:Db) (G:PM) (vo vk vb:Value) (ho:vo.oneCell'=true) (hk9:vk.oneCell'=true) (hb9:vb.oneCell'=true):Ct Tryz.prog 34 ([.pointer (some ⟨bw,0,none⟩),.agg (EvD.cells (⟨11#8,0,[],false,[],[],0#64,0,[],[],[]⟩ : EvD) vo vk vb).toArray]:List Value).toArray G [.blk bw (cl (cV bd bt root o most ((pt bq)) ((pt bg))) 77),.blk bg (cl [pt bq,.slice oa 0 0] 140),.blk bq (cl d.cells 165)] (fun _ μ' u=>μ'=[.blk bw (cl (cV bd bt root o most (.pointer none) (.pointer none)) 77)]∧u=.agg (Rep.cells (Rep.zero) (.slice none 0 0) (.slice none 0 0)).toArray):=by
 refine Ct.of Tryz.func34 rfl Tryz.ntmps34 rfl fun w0 hs0=>?_
 refine .seq (bB rfl rfl ?_)
 refine bX rfl rfl rfl ?_; intro b3
 refine al rfl iP ?_; intro b4
 refine .g (fZ rfl fB rfl (lO rfl bM rfl aC rfl ?_))
 refine .g (cP rfl rfl rfl rfl (.g (cD rfl (fun c1=>?_) (fun c1=>?_))))
 ·have c1k:=c1
  exact Bool.noConfusion (id c1:false=true)
 have c1k:=c1
 try simp only [aD,aH,aE] at c1
 refine .g (cP rfl rfl rfl rfl (.g (cD rfl (fun c2=>?_) (fun c2=>?_))))
 ·have c2k:=c2
  exact Bool.noConfusion (id c2:false=true)
 have c2k:=c2
 try simp only [aD,aH,aE] at c2
 refine .g (cP rfl rfl rfl rfl (.g (cD rfl (fun c3=>?_) (fun c3=>?_))))
 ·have c3k:=c3
  exact Bool.noConfusion (id c3:false=true)
 have c3k:=c3
 try simp only [aD,aH,aE] at c3
 refine .g (cP rfl rfl rfl rfl (.g (cD rfl (fun c4=>?_) (fun c4=>?_))))
 ·have c4k:=c4
  exact Bool.noConfusion (id c4:false=true)
 have c4k:=c4
 try simp only [aD,aH,aE] at c4
 refine .g (cP rfl rfl rfl rfl (.g (cD rfl (fun c5=>?_) (fun c5=>?_))))
 ·have c5k:=c5
  exact Bool.noConfusion (id c5:false=true)
 have c5k:=c5
 try simp only [aD,aH,aE] at c5
 refine .g (cP rfl rfl rfl rfl (.g (cD rfl (fun c6=>?_) (fun c6=>?_))))
 ·have c6k:=c6
  exact Bool.noConfusion (id c6:false=true)
 have c6k:=c6
 try simp only [aD,aH,aE] at c6
 refine .g (cP rfl rfl rfl rfl (.g (cD rfl (fun c7=>?_) (fun c7=>?_))))
 ·have c7k:=c7
  exact Bool.noConfusion (id c7:false=true)
 have c7k:=c7
 try simp only [aD,aH,aE] at c7
 refine .g (cP rfl rfl rfl rfl (.g (cD rfl (fun c8=>?_) (fun c8=>?_))))
 ·have c8k:=c8
  try simp only [aD,aH,aE] at c8
  refine .g (nC rfl rfl (fZ rfl lV rfl (lN rfl lI rfl (Rd.own aI rM) ?_)))
  refine ka rfl (.inr rfl) aXl (aB rfl aF) (cO dK) (aOi bq d _) ?_
  rintro _ G101 μ101 hG101 ⟨rfl,rfl⟩
  refine fZ rfl lW rfl (s1 rfl (.u rfl) (.u rfl) rfl jX .here ((by show 0<6; decide)) (rfl) ?_)
  refine .g (ka rfl (.inr rfl) aF5 (aB rfl (aB rfl aF)) (dI aI aI) (aPt bw bd bt root o most 233 (pt bq) bg (pt bq) oa _) ?_)
  rintro _ G104 μ104 hG104 ⟨rfl,rfl⟩
  refine fZ rfl zN rfl (s1 rfl (.u rfl) (.u rfl) rfl aDd aC ((by show 5<6; decide)) (rfl) ?_)
  refine .g (lA rfl .no dZ (.u rfl) (fun _=>RdN.part (n:=6) (cs':=Rep.cells Rep.zero (.slice none 0 0) (.slice none 0 0)) .here (rfl)) (fun _=>rfl) (sw rfl (.u rfl) (.u rfl) rfl fN .here rfl (Rep.one _ rfl rfl) ?_))
  refine .nil (.code (.ret (bD Tryz.results34 (.cell rfl (fun w hw=>bW dZ (RdN.own .here) (rfl) hw) .nil) (mS aC rfl mN) ?_)))
  exact ⟨rfl,rfl⟩
 have c8k:=c8
 exact Bool.noConfusion (id c8:true=false)
theorem aHS (bw bd bt bq bg:Nat) (root:Nat→Y) (o:Opts) (most:Int) (oa:Option Addr) (d:Db) (G:PM) (vo vk vb:Value) (ho:vo.oneCell'=true) (hk9:vk.oneCell'=true) (hb9:vb.oneCell'=true):Ct Tryz.prog 10 ([.pointer (some ⟨bw,0,none⟩),.agg (EvD.cells (⟨11#8,0,[],false,[],[],0#64,0,[],[],[]⟩ : EvD) vo vk vb).toArray]:List Value).toArray G [.blk bw (cl (cV bd bt root o most ((pt bq)) ((pt bg))) 77),.blk bg (cl [pt bq,.slice oa 0 0] 140),.blk bq (cl d.cells 165)] (fun _ μ' u=>μ'=[.blk bw (cl (cV bd bt root o most (.pointer none) (.pointer none)) 77)]∧u=.agg (Rep.cells (Rep.zero) (.slice none 0 0) (.slice none 0 0)).toArray):=by
 refine Ct.of Tryz.func10 rfl Tryz.ntmps10 rfl fun w0 hs0=>?_
 refine .seq (bB rfl rfl ?_)
 refine bX rfl rfl rfl ?_; intro b3
 refine al rfl iP ?_; intro b4
 refine .g (pe rfl .no fY (.u rfl) (.u rfl) ?_)
 refine .g (dM rfl rfl ?_)
 refine .g (fZ rfl fB rfl (lO rfl bM rfl aC rfl ?_))
 refine .g (cP rfl rfl rfl rfl (.g (cD rfl (fun c1=>?_) (fun c1=>?_))))
 ·have c1k:=c1
  cases c1
 have c1k:=c1
 try simp only [aD,aH,aE] at c1
 refine .g (cP rfl rfl rfl rfl (.g (cD rfl (fun c2=>?_) (fun c2=>?_))))
 ·have c2k:=c2
  exact Bool.noConfusion (id c2:false=true)
 have c2k:=c2
 try simp only [aD,aH,aE] at c2
 refine .g (cP rfl rfl rfl rfl (.g (cD rfl (fun c3=>?_) (fun c3=>?_))))
 ·have c3k:=c3
  exact Bool.noConfusion (id c3:false=true)
 have c3k:=c3
 try simp only [aD,aH,aE] at c3
 refine .g (cP rfl rfl rfl rfl (.g (cD rfl (fun c4=>?_) (fun c4=>?_))))
 ·have c4k:=c4
  exact Bool.noConfusion (id c4:false=true)
 have c4k:=c4
 try simp only [aD,aH,aE] at c4
 refine .g (cP rfl rfl rfl rfl (.g (cD rfl (fun c5=>?_) (fun c5=>?_))))
 ·have c5k:=c5
  exact Bool.noConfusion (id c5:false=true)
 have c5k:=c5
 try simp only [aD,aH,aE] at c5
 refine .g (fZ rfl fB rfl (lO rfl bM rfl aC rfl ?_))
 refine cP rfl rfl rfl rfl (.p (fz rfl (.f rfl rfl) fB (.u rfl) (ld rfl (.f rfl rfl) bM (.s rfl) (fun hc=>Rd.own aC rfl) ?_)))
 refine cp rfl (.f rfl rfl) (.s rfl) (.u rfl) rfl (bZ rfl .no (.u rfl) (.s rfl) (.g (cD rfl (fun c6=>?_) (fun c6=>?_))))
 ·have c6k:=c6
  exact Bool.noConfusion (id c6:false=true)
 have c6k:=c6
 try simp only [aD,aH,aE] at c6
 refine .g (nC rfl rfl (fZ rfl lV rfl (lN rfl lI rfl (Rd.own aI rM) ?_)))
 refine pe rfl .no mX (.u rfl) (.u rfl) ?_
 refine .g (cD rfl (fun c7=>?_) (fun c7=>?_))
 ·have c7k:=c7
  exact Bool.noConfusion (id c7:false=true)
 have c7k:=c7
 try simp only [aD,aH,aE] at c7
 refine .g (lA rfl .no wO (.u rfl) (fun _=>RdN.part (n:=11) (cs':=EvD.cells (⟨11#8,0,[],false,[],[],0#64,0,[],[],[]⟩ : EvD) vo vk vb) aC (rfl)) (fun _=>rfl) (ka rfl (.inr rfl) aDc (aB rfl (aB rfl aF)) (fF aI aI aI) (aNo bw bd bt bq bg root o most oa d _ vo vk vb ho hk9 hb9) ?_))
 rintro _ G12 μ12 hG12 ⟨rfl,rfl⟩
 refine sw rfl (.u rfl) (.u rfl) rfl fN aC rfl (Rep.one _ rfl rfl) ?_
 refine .nil (.code (.ret (bD Tryz.results10 (.cell rfl (fun w hw=>bW dZ (RdN.own .here) (rfl) hw) .nil) (mS aC rfl mN) ?_)))
 exact ⟨rfl,rfl⟩
end Go.Proofs.YtoifkgkandfeiaaGreatDoor
namespace Go.Proofs.YtoifkgkandfeiaaGreatDoor
open Go.Tan Go.RowKit Go.Maps Go.Sort Go.Shelf
theorem aYW:aT Tryz.prog 27 8=some 8:=by kernel_rfl
theorem aYU:bT Tryz.prog 24=some none:=by kernel_rfl
theorem aM8:aT Tryz.prog 27 9=some 9:=by kernel_rfl
theorem aYV:aT Tryz.prog 27 10=some 10:=by kernel_rfl
theorem aXK:aL Tryz.prog 29=true:=by kernel_rfl
theorem aXP:aL Tryz.prog 31=true:=by kernel_rfl
theorem aXV:aL Tryz.prog 32=true:=by kernel_rfl
theorem aPC (bw bd bm room bt:Nat) (root:Nat→Y) (o:Opts) (most:Int) (E:EvD) (vo:Value) (hk hb:Sh) (keep:List Int) (bs:List Y) (F:List Fi) (G:PM) (hO:oN o=true) (hD:DkR F 3) (hF:FirstF G root 1#64 0#64 0#64 F 3 5) (hr:5000≤room) (hr9:room≤1000000000) (hsk:SlR G 1 xA hk keep) (hkl:keep.length≤140737488355328) (hsb:SlR G 1 aN hb bs) (hbl:bs.length≤140737488355328) (ho:vo.oneCell'=true) (hK:RdNP G 6 0 (wa 64 kW)):Ct Tryz.prog 10 ([.pointer (some ⟨bw,0,none⟩),.agg (EvD.cells E vo (hk.val keep.length) (hb.val bs.length)).toArray]:List Value).toArray G [.blk bw (cl (cV bd bt root o most (.pointer none) (.pointer none)) 77),.blk bd (cl (bH bm room 5) 118),.blk bm (mO (F.map Fi.fe) 3),.blk bt (cl [uv .u64 1#64,uv .u64 1#64] 87)] (fun _ μ' u=>∃ (x y:Value) (e:Int) (m2 o2:BitVec 64),x.oneCell'=true∧y.oneCell'=true∧(clK E.kind=true→e=233∧x=.pointer none∧y=.pointer none)∧1≤o2.toNat∧μ'=[.blk bw (cl (cV bd bt root o most x y) 77),.blk bt (cl [uv .u64 m2,uv .u64 o2] 87)]∧u=.agg (Rep.cells ({ Rep.zero with err:=e }) (.slice none 0 0) (.slice none 0 0)).toArray):=by
 refine Ct.of Tryz.func10 rfl Tryz.ntmps10 rfl fun w0 hs0=>?_
 obtain ⟨_,_,hnm,hz,hl2,hok⟩:=aEJ hF
 have tq:@BitVec.toNat IntKind.u8.bits E.kind=E.kind.toNat:=rfl
 refine .seq (bB rfl rfl ?_)
 refine bX rfl rfl rfl ?_; intro b3
 refine al rfl iP ?_; intro b4
 refine .g (pe rfl .no fY (.u rfl) (.u rfl) ?_)
 refine .g (dM rfl rfl ?_)
 refine .skip (.code (.seq (.seq ?_)))
 refine dL aC (bF aC rfl (bF aC rfl (bF aC rfl (bF aC rfl (eT))))) ?_; intro Gfb3 hleb3 hbb3
 have hF:=hF.mono hleb3
 have hsk:=hsk.mono hleb3
 have hsb:=hsb.mono hleb3
 have hK:=hK.mono hleb3
 refine .g (fA rfl fB rfl (lN rfl bM rfl ((hbb3.rd (rfl)).rd) ?_))
 refine .g (cP rfl rfl rfl rfl (.g (cD rfl (fun c1=>?_) (fun c1=>?_))))
 ·have c1k:=c1
  try simp only [aD,aH,aE] at c1
  refine dX ⟨true,false⟩ aY (by kernel_rfl) ?_
  refine Wp.one 0 (by kernel_rfl) ?_
  refine mV rfl rfl (.nil (Wp.one 1 (by kernel_rfl) ?_))
  refine nC rfl rfl (.nil (Wp.one 2 (by kernel_rfl) ?_))
  refine fZ rfl uJ rfl (.nil (Wp.one 3 (by kernel_rfl) ?_))
  refine lO rfl gU rfl aC rfl ?_
  refine .nil (Wp.one 4 (by kernel_rfl) ?_)
  refine fA rfl aM5 rfl (.nil (Wp.one 5 (by kernel_rfl) ?_))
  refine lN rfl cJ rfl ((hbb3.rd (rfl)).rd) ?_
  refine .nil (Wp.b1 6 (by kernel_rfl) ?_)
  refine ka rfl (.inl rfl) aXK (aB rfl (aB rfl aF)) (cO aI) (aOk bd bm room 5 E.n _) ?_
  rintro _ G38 μ38 hG38 ⟨rfl,rfl⟩
  have hF:=hF.mono hG38
  have hsk:=hsk.mono hG38
  have hsb:=hsb.mono hG38
  have hK:=hK.mono hG38
  have hbb3:=hbb3.mono hG38
  refine .nil (Wp.last (by kernel_rfl) ?_)
  refine .g (lB rfl dZ rfl .here ?_)
  refine sw rfl (.u rfl) (.u rfl) rfl fN .here rfl (oL rfl) ?_
  refine .nil (.code (.ret (bD Tryz.results10 (.cell rfl (fun w hw=>bW dZ (RdN.own .here) (rfl) hw) .nil) (mS aC rfl (mS aI rfl mN)) ?_)))
  exact ⟨.pointer none,.pointer none,0,1#64,1#64,rfl,rfl,(fun h=>by have:=wW h; omega),by decide,rfl,rfl⟩
 have c1k:=c1
 try simp only [aD,aH,aE] at c1
 refine .g (cP rfl rfl rfl rfl (.g (cD rfl (fun c2=>?_) (fun c2=>?_))))
 ·have c2k:=c2
  try simp only [aD,aH,aE] at c2
  refine .g (ka rfl (.inr rfl) aF5 (aB rfl (aB rfl aF)) (cO aC) (aH8 bw bd bt root o most _ (.pointer none) _) ?_)
  rintro _ G42 μ42 hG42 ⟨rfl,rfl⟩
  have hF:=hF.mono hG42
  have hsk:=hsk.mono hG42
  have hsb:=hsb.mono hG42
  have hK:=hK.mono hG42
  have hbb3:=hbb3.mono hG42
  refine fZ rfl zN rfl (s1 rfl (.u rfl) (.u rfl) rfl aDd aC ((by show 5<6; decide)) (rfl) ?_)
  refine .nil (.code (dX ⟨true,false⟩ aY (by kernel_rfl) ?_))
  refine Wp.one 0 (by kernel_rfl) ?_
  refine mV rfl rfl (.nil (Wp.one 1 (by kernel_rfl) ?_))
  refine nC rfl rfl (.nil (Wp.one 2 (by kernel_rfl) ?_))
  refine fZ rfl uJ rfl (.nil (Wp.one 3 (by kernel_rfl) ?_))
  refine lO rfl gU rfl aC rfl ?_
  refine .nil (Wp.one 4 (by kernel_rfl) ?_)
  refine fA rfl aYW rfl (.nil (Wp.one 5 (by kernel_rfl) ?_))
  refine lN rfl aYU rfl ((hbb3.rd (rfl)).rd) ?_
  refine .nil (Wp.b1 6 (by kernel_rfl) ?_)
  refine ka rfl (.inl rfl) aXP (aB rfl (aB rfl aF)) (dI aI aI) (aOj bd bm room 5 3 F _ hD (by decide) hr9 hk keep hsk hkl hok) ?_
  rintro _ G50 μ50 hG50 ⟨rfl,rfl⟩
  have hF:=hF.mono hG50
  have hsb:=hsb.mono hG50
  have hK:=hK.mono hG50
  have hbb3:=hbb3.mono hG50
  refine .nil (Wp.last (by kernel_rfl) ?_)
  refine .g (lB rfl dZ rfl .here ?_)
  refine sw rfl (.u rfl) (.u rfl) rfl fN .here rfl (oL rfl) ?_
  refine .nil (.code (.ret (bD Tryz.results10 (.cell rfl (fun w hw=>bW dZ (RdN.own .here) (rfl) hw) .nil) (mS aC rfl (mS aC rfl mN)) ?_)))
  exact ⟨.pointer none,.pointer none,0,1#64,1#64,rfl,rfl,(fun h=>by have:=wW h; omega),by decide,rfl,rfl⟩
 have c2k:=c2
 try simp only [aD,aH,aE] at c2
 refine .g (cP rfl rfl rfl rfl (.g (cD rfl (fun c3=>?_) (fun c3=>?_))))
 ·have c3k:=c3
  try simp only [aD,aH,aE] at c3
  refine .g (ka rfl (.inr rfl) aF5 (aB rfl (aB rfl aF)) (cO aC) (aH8 bw bd bt root o most _ (.pointer none) _) ?_)
  rintro _ G54 μ54 hG54 ⟨rfl,rfl⟩
  have hF:=hF.mono hG54
  have hsb:=hsb.mono hG54
  have hK:=hK.mono hG54
  have hbb3:=hbb3.mono hG54
  refine fZ rfl zN rfl (s1 rfl (.u rfl) (.u rfl) rfl aDd aC ((by show 5<6; decide)) (rfl) ?_)
  refine .nil (.code (dT rfl rfl (mV rfl rfl ?_)))
  refine ka rfl (.inr rfl) aDb (aB rfl aF) (jF aC aC aC aC) (aKs bw most bd bm room bt 5 3 root o 1#64 1#64 1 2 2#64 F [aO 4 0,aO 3 0] _ hO (by decide) hD (fun f hf=>by rcases aIt hnm f hf with e | e<;>rw [e]<;>first|(rw [sz3]; decide) | (rw [sz4]; decide)) (by decide) (fun f hf=>by rcases aIt hnm f hf with e | e<;>rw [e]<;>first|exact List.mem_cons_self ..|exact List.mem_cons_of_mem _ (List.mem_cons_self ..)) (aHz hnm aRp aRr) (aHz hnm aRu aRt) (.inr rfl) hz (by omega) (by decide) (by decide) hr hr9 hK (aUF bm room bd bt root o _ _ F 3 5 _ hD hF hK)) ?_
  rintro _ G57 μ57 hG57 ⟨bq,held,now,bg,v,F2,clk2,dn2,ov,hD2,hfst,rfl,rfl⟩
  have hsb:=hsb.mono hG57
  have hbb3:=hbb3.mono hG57
  refine fZ rfl lW rfl (s1 rfl (.u rfl) (.u rfl) rfl jX (.there oS) ((by show 0<6; decide)) (rfl) ?_)
  refine .g (lB rfl dZ rfl .here ?_)
  refine sw rfl (.u rfl) (.u rfl) rfl fN .here rfl (oL rfl) ?_
  refine .nil (.code (.ret (bD Tryz.results10 (.cell rfl (fun w hw=>bW dZ (RdN.own .here) (rfl) hw) .nil) (mS aC rfl (mS mK rfl mN)) ?_)))
  exact ⟨(pt bq),(pt bg),0,(1#64+1#64),(1#64+1#64),rfl,rfl,(fun h=>by have:=wW h; omega),by decide,rfl,rfl⟩
 have c3k:=c3
 try simp only [aD,aH,aE] at c3
 refine .g (cP rfl rfl rfl rfl (.g (cD rfl (fun c4=>?_) (fun c4=>?_))))
 ·have c4k:=c4
  try simp only [aD,aH,aE] at c4
  refine dX ⟨true,false⟩ aY (by kernel_rfl) ?_
  refine Wp.one 0 (by kernel_rfl) ?_
  refine mV rfl rfl (.nil (Wp.one 1 (by kernel_rfl) ?_))
  refine nC rfl rfl (.nil (Wp.one 2 (by kernel_rfl) ?_))
  refine fZ rfl uJ rfl (.nil (Wp.one 3 (by kernel_rfl) ?_))
  refine lO rfl gU rfl aC rfl ?_
  refine .nil (Wp.one 4 (by kernel_rfl) ?_)
  refine fA rfl aM8 rfl (.nil (Wp.one 5 (by kernel_rfl) ?_))
  refine lN rfl cW rfl ((hbb3.rd (rfl)).rd) ?_
  refine .nil (Wp.one 6 (by kernel_rfl) ?_)
  refine fA rfl aYV rfl (.nil (Wp.one 7 (by kernel_rfl) ?_))
  refine lN rfl dB rfl ((hbb3.rd (rfl)).rd) ?_
  refine .nil (Wp.b1 8 (by kernel_rfl) ?_)
  refine ka rfl (.inl rfl) aXV (aB rfl (aB rfl (aB rfl aF))) (dI aI aI) (aOo bd bm room 5 3 F _ hD (by decide) hr9 (eK E.name) hb bs hsb hbl) ?_
  rintro _ G69 μ69 hG69 ⟨rfl,rfl⟩
  have hbb3:=hbb3.mono hG69
  refine .nil (Wp.last (by kernel_rfl) ?_)
  refine .g (lB rfl dZ rfl .here ?_)
  refine sw rfl (.u rfl) (.u rfl) rfl fN .here rfl (oL rfl) ?_
  refine .nil (.code (.ret (bD Tryz.results10 (.cell rfl (fun w hw=>bW dZ (RdN.own .here) (rfl) hw) .nil) (mS aC rfl (mS aC rfl mN)) ?_)))
  exact ⟨.pointer none,.pointer none,0,1#64,1#64,rfl,rfl,(fun h=>by have:=wW h; omega),by decide,rfl,rfl⟩
 have c4k:=c4
 try simp only [aD,aH,aE] at c4
 refine .g (cP rfl rfl rfl rfl (.g (cD rfl (fun c5=>?_) (fun c5=>?_))))
 ·have c5k:=c5
  try simp only [aD,aH,aE] at c5
  refine dX ⟨true,false⟩ aY (by kernel_rfl) ?_
  refine Wp.one 0 (by kernel_rfl) ?_
  refine mV rfl rfl (.nil (Wp.one 1 (by kernel_rfl) ?_))
  refine nC rfl rfl (.nil (Wp.one 2 (by kernel_rfl) ?_))
  refine fZ rfl uJ rfl (.nil (Wp.one 3 (by kernel_rfl) ?_))
  refine lO rfl gU rfl aC rfl ?_
  refine .nil (Wp.one 4 (by kernel_rfl) ?_)
  refine fA rfl aM8 rfl (.nil (Wp.one 5 (by kernel_rfl) ?_))
  refine lN rfl cW rfl ((hbb3.rd (rfl)).rd) ?_
  refine .nil (Wp.b1 6 (by kernel_rfl) ?_)
  refine ka rfl (.inl rfl) aMK (aB rfl (aB rfl aF)) (dI aI aI) (aHJ bd bm room 5 3 F _ hD (by decide) hr9 (eK E.name)) ?_
  rintro _ G78 μ78 hG78 ⟨F9,e9,dn9,_,_,_,_,_,rfl,rfl⟩
  have hbb3:=hbb3.mono hG78
  refine .nil (Wp.one 7 (by kernel_rfl) ?_)
  refine fZ rfl lW rfl (.nil (Wp.b1 8 (by kernel_rfl) ?_))
  refine s1 rfl (.u rfl) (.u rfl) rfl jX aI ((by show 0<6; decide)) (rfl) ?_
  refine .nil (Wp.last (by kernel_rfl) ?_)
  refine .g (lB rfl dZ rfl .here ?_)
  refine sw rfl (.u rfl) (.u rfl) rfl fN .here rfl (oL rfl) ?_
  refine .nil (.code (.ret (bD Tryz.results10 (.cell rfl (fun w hw=>bW dZ (RdN.own .here) (rfl) hw) .nil) (mS bE rfl (mS bE rfl mN)) ?_)))
  exact ⟨.pointer none,.pointer none,e9,1#64,1#64,rfl,rfl,(fun h=>by have:=wW h; omega),by decide,rfl,rfl⟩
 have c5k:=c5
 try simp only [aD,aH,aE] at c5
 refine .g (fA rfl fB rfl (lN rfl bM rfl ((hbb3.rd (rfl)).rd) ?_))
 refine cP rfl rfl rfl rfl (.p (fa rfl (.f rfl rfl) fB (.u rfl) (ld rfl (.f rfl rfl) bM (.s rfl) (fun hc=>(hbb3.rd (rfl)).rd) ?_)))
 refine cp rfl (.f rfl rfl) (.s rfl) (.u rfl) rfl (bZ rfl .no (.u rfl) (.s rfl) (.g (cD rfl (fun c6=>?_) (fun c6=>?_))))
 ·have c6k:=c6
  try simp only [aD,aH,aE] at c6
  refine .g (fZ rfl lW rfl (s1 rfl (.u rfl) (.u rfl) rfl jX .here ((by show 0<6; decide)) (rfl) ?_))
  refine .g (lB rfl dZ rfl .here ?_)
  refine sw rfl (.u rfl) (.u rfl) rfl fN .here rfl (oL rfl) ?_
  refine .nil (.code (.ret (bD Tryz.results10 (.cell rfl (fun w hw=>bW dZ (RdN.own .here) (rfl) hw) .nil) (mS aC rfl (mS bE rfl mN)) ?_)))
  exact ⟨.pointer none,.pointer none,1,1#64,1#64,rfl,rfl,(fun h=>by have:=wW h; omega),by decide,rfl,rfl⟩
 have c6k:=c6
 try simp only [aD,aH,aE] at c6
 refine .g (nC rfl rfl (fZ rfl lV rfl (lN rfl lI rfl (Rd.own aC rM) ?_)))
 refine hY rfl .no mX (.u rfl) (.u rfl) ?_
 refine .g (cD rfl (fun c7=>?_) (fun c7=>?_))
 ·have c7k:=c7
  try simp only [aD,aH,aE] at c7
  refine .g (fZ rfl lW rfl (s1 rfl (.u rfl) (.u rfl) rfl jX .here ((by show 0<6; decide)) (rfl) ?_))
  refine .g (lB rfl dZ rfl .here ?_)
  refine sw rfl (.u rfl) (.u rfl) rfl fN .here rfl (oL rfl) ?_
  refine .nil (.code (.ret (bD Tryz.results10 (.cell rfl (fun w hw=>bW dZ (RdN.own .here) (rfl) hw) .nil) (mS aC rfl (mS bE rfl mN)) ?_)))
  exact ⟨.pointer none,.pointer none,233,1#64,1#64,rfl,rfl,(fun h=>⟨rfl,rfl,rfl⟩),by decide,rfl,rfl⟩
 have c7k:=c7
 cases c7
end Go.Proofs.YtoifkgkandfeiaaGreatDoor
namespace Go.Proofs.YtoifkgkandfeiaaGreatDoor
open Go.Tan Go.RowKit Go.Maps Go.Sort Go.Shelf
theorem aV7:cT Tryz.prog 43 [0]=some ([.int .i64 0,.int .u64 0,.string ByteArray.empty,.bool false,.slice none 0 0,.slice none 0 0],[(0,1)]):=by kernel_rfl
theorem aVE (bg:Nat) (z:Value) (h:Sh) (ws:List Wtg) (G:PM) (hbg:PB G bg (cl [z,h.val ws.length] 140)) (hs:SlR G 3 Wtg.cells h ws) (hw:ws.length≤100):Ct Tryz.prog 35 ([pt bg]:List Value).toArray G [] (fun _ μ' u=>∃ v:Value,v.oneCell'=true∧μ'=[rS 1 aBw v 3 (ws.map Wtg.c)]∧u=v):=by
 refine Ct.of Tryz.func35 rfl Tryz.ntmps35 rfl fun w0 hs0=>?_
 refine .g (pe rfl .no aBQ (.u rfl) (.u rfl) ?_)
 refine .g (dM rfl rfl ?_)
 refine .skip (.code (.seq (aQ rfl rfl (aS rfl rfl (.nc (.seq (.seq (rO 1 aBw 3 ?_))))))))
 refine .g (nC rfl rfl (fA rfl oU rfl (lN rfl rV rfl ((hbg.rd (rfl)).rd) ?_)))
 refine lE rfl wH rfl (mV rfl rfl (.nc (.block ?_)))
 refine aX (α:=Nat×Value) (fun gh=>[(3,true,gh.2),(13,true,.int .i64 (gh.1:Int))]) (fun gh=>[rS 1 aBw gh.2 3 ((ws.take gh.1).map Wtg.c)])
  (fun gh Gl=>(gh.1≤ws.length)∧(gh.2.oneCell'=true)) (fun gh=>ws.length-gh.1) (0,.slice none 0 0) [(11,true,_),(12,true,_)] []
  (aA rfl (aM rfl (aA rfl (aA rfl eZ))))
  (mS .here rfl mN) ?_ ?_
 ·refine ⟨?_,?_⟩
  ·(try dsimp only)<;>(first|omega|rfl|assumption|(simp; done))
  (try dsimp only)<;>(first|omega|rfl|assumption|(simp; done))
 intro gh N0 Gl0 hN0 hGl0 hF0
 obtain ⟨k,v⟩:=gh; dsimp only at hF0 hN0 ⊢
 obtain ⟨hk,ov⟩:=hF0
 have hs:=hs.mono hGl0
 refine .g (cP rfl rfl rfl rfl (.g (cD rfl (fun c1=>?_) (fun c1=>?_))))
 ·have c1k:=c1
  have c1:=of_decide_eq_true c1
  refine .skip (.code (.seq (.block (.seq (dT rfl rfl (ih rfl .no oA (.u rfl) (.u rfl) (by omega) (by omega) (fun _=>hs.nn (k:=k) (by first|omega|(simp only [Bool.and_eq_true,decide_eq_true_eq] at hc; omega)|(simp only [List.length_cons,List.length_nil]; omega))) ?_))))))
  obtain ⟨w,ew⟩:=dY (k:=k) (xs:=ws) (by omega)
  refine lA rfl .no aCv (.u rfl) (fun _=>(hs.at (by omega) ew).rd) (fun _=>Wtg.len _) ?_
  refine al rfl aGM ?_; intro b5
  refine sw rfl (.u rfl) (.u rfl) rfl aGJ .here rfl (Wtg.one _) ?_
  refine .g (fZ rfl aFg rfl (lO rfl cJ rfl .here (by first|exact aV rfl|rfl) ?_))
  refine Go.Tan.b1 rfl aDZ aDT (.u rfl) rfl rfl (by decide) ?_; intro b20
  refine oC (xs:=((ws.take k).map Wtg.c)) (w.c) rfl aDZ aDT rfl (.u rfl) (.u rfl) aI .here (rfl) (one1 rfl) (by rw [List.length_map,List.length_take]; omega) (by rw [List.length_map,List.length_take]; unfold maxLen; omega) ?_; intro v21 ov21
  refine .g (aW (((k+1):Nat):Int) rfl rfl rfl rfl ?_)
  refine .g (aU (k+1,v21) ?_ ?_ ?_ ?_ ?_)
  ·exact (aA rfl (aM rfl (aA rfl (aA rfl eZ))))
  ·exact (mS .here (by rw [← aFC ew,List.map_append]; rfl) mN)
  ·first|omega|(dsimp only; omega)
  ·exact hGl0
  refine ⟨?_,?_⟩
  ·(try dsimp only)<;>(first|omega|rfl|assumption|(simp; done))
  (try dsimp only)<;>(first|omega|rfl|assumption|(simp; done))
 have c1k:=c1
 have c1:=of_decide_eq_false c1
 refine .exit (.xcode (.xlp (.xblk (.code (.seq (bB rfl rfl (mV rfl rfl (aS rfl rfl (.nc (.ret (bD Tryz.results35 (.tmp rfl .nil) (mS .here rfl mN) ?_)))))))))))
 have ek:ws.take k=ws:=List.take_of_length_le (by omega)
 rw [ek]
 exact ⟨v,ov,rfl,rfl⟩
theorem aVY (bw bd bt bg:Nat) (root:Nat→Y) (o:Opts) (most:Int) (x z:Value) (h:Sh) (ws:List Wtg) (G:PM) (hbw:PB G bw (cl (cV bd bt root o most x ((pt bg))) 77)) (hs:SlR G 3 Wtg.cells h ws) (hw:ws.length≤100):Ct Tryz.prog 12 ([.pointer (some ⟨bw,0,none⟩)]:List Value).toArray G [.blk bg (cl [z,h.val ws.length] 140)] (fun _ μ' u=>∃ v:Value,v.oneCell'=true∧μ'=[.blk bg (cl [z,h.val ws.length] 140),rS 1 aBw v 3 (ws.map Wtg.c)]∧u=v):=by
 refine Ct.of Tryz.func12 rfl Tryz.ntmps12 rfl fun w0 hs0=>?_
 refine .g (pe rfl .no fY (.u rfl) (.u rfl) ?_)
 refine .g (dM rfl rfl ?_)
 refine .g (nC rfl rfl (fA rfl oW rfl (lN rfl zM rfl ((hbw.rd (yH)).rd) ?_)))
 refine ka rfl (.inr rfl) aDI (aB rfl aF) (cO .here) (cX fun G2 hle h2=>aVE bg z h ws G2 h2 (hs.mono hle) hw) ?_
 rintro v9 G9 μ9 hG9 ⟨ν9,rfl,v,ov9,rfl,rfl⟩
 refine aS rfl rfl (.nc (.ret (bD Tryz.results12 (.tmp rfl .nil) (mS .here rfl (mS .here rfl mN)) ?_)))
 exact ⟨v9,ov9,rfl,rfl⟩
theorem aVX (bw bd bt:Nat) (root:Nat→Y) (o:Opts) (most:Int) (x:Value) (G:PM) (hbw:PB G bw (cl (cV bd bt root o most x (.pointer none)) 77)):Ct Tryz.prog 12 ([.pointer (some ⟨bw,0,none⟩)]:List Value).toArray G [] (fun _ μ' u=>μ'=[]∧u=.slice none 0 0):=by
 refine Ct.of Tryz.func12 rfl Tryz.ntmps12 rfl fun w0 hs0=>?_
 refine .g (pe rfl .no fY (.u rfl) (.u rfl) ?_)
 refine .g (dM rfl rfl ?_)
 refine .g (nC rfl rfl (fA rfl oW rfl (lN rfl zM rfl ((hbw.rd (yH)).rd) ?_)))
 refine kV rfl aDI (aB rfl aF) (aKv _) ?_
 refine aS rfl rfl (.nc (.ret (aK Tryz.results12 (.tmp rfl .nil) ?_)))
 exact ⟨rfl,rfl⟩
theorem aKm (bw bd bt:Nat) (root:Nat→Y) (o:Opts) (most:Int) (x y:Value) (G:PM) (hbw:PB G bw (cl (cV bd bt root o most x y) 77)):Ct Tryz.prog 11 ([.pointer (some ⟨bw,0,none⟩)]:List Value).toArray G [] (fun _ μ' u=>μ'=[]∧u=x):=by
 refine Ct.of Tryz.func11 rfl Tryz.ntmps11 rfl fun w0 hs0=>?_
 refine .g (pe rfl .no fY (.u rfl) (.u rfl) ?_)
 refine .g (dM rfl rfl ?_)
 refine .g (nC rfl rfl (fA rfl lV rfl (lN rfl lI rfl ((hbw.rd (rM)).rd) ?_)))
 refine aS rfl rfl (.nc (.ret (aK Tryz.results11 (.tmp rfl .nil) ?_)))
 exact ⟨rfl,rfl⟩
theorem aKn (bw bd bt:Nat) (root:Nat→Y) (o:Opts) (most:Int) (x y:Value) (G:PM) (hbw:PB G bw (cl (cV bd bt root o most x y) 77)):Ct Tryz.prog 13 ([.pointer (some ⟨bw,0,none⟩)]:List Value).toArray G [] (fun _ μ' u=>μ'=[]∧u=pt bd):=by
 refine Ct.of Tryz.func13 rfl Tryz.ntmps13 rfl fun w0 hs0=>?_
 refine .g (pe rfl .no fY (.u rfl) (.u rfl) ?_)
 refine .g (dM rfl rfl ?_)
 refine .g (nC rfl rfl (fA rfl uJ rfl (lN rfl gU rfl ((hbw.rd (rfl)).rd) ?_)))
 refine aS rfl rfl (.nc (.ret (aK Tryz.results13 (.tmp rfl .nil) ?_)))
 exact ⟨rfl,rfl⟩
theorem aKt (bw bd bt:Nat) (root:Nat→Y) (o:Opts) (most:Int) (x y:Value) (G:PM) (hbw:PB G bw (cl (cV bd bt root o most x y) 77)):Ct Tryz.prog 14 ([.pointer (some ⟨bw,0,none⟩)]:List Value).toArray G [] (fun _ μ' u=>μ'=[]∧u=pt bt):=by
 refine Ct.of Tryz.func14 rfl Tryz.ntmps14 rfl fun w0 hs0=>?_
 refine .g (pe rfl .no fY (.u rfl) (.u rfl) ?_)
 refine .g (dM rfl rfl ?_)
 refine .g (nC rfl rfl (fA rfl aDa rfl (lN rfl pY rfl ((hbw.rd (rfl)).rd) ?_)))
 refine aS rfl rfl (.nc (.ret (aK Tryz.results14 (.tmp rfl .nil) ?_)))
 exact ⟨rfl,rfl⟩
theorem aKM (bt:Nat) (a b:BitVec 64) (G:PM) (hbt:PB G bt (cl [uv .u64 a,uv .u64 b] 87)):Ct Tryz.prog 15 ([pt bt]:List Value).toArray G [] (fun _ μ' u=>μ'=[]∧u=uv .u64 b):=by
 refine Ct.of Tryz.func15 rfl Tryz.ntmps15 rfl fun w0 hs0=>?_
 refine .g (pe rfl .no sC (.u rfl) (.u rfl) ?_)
 refine .g (dM rfl rfl ?_)
 refine .g (nC rfl rfl (fA rfl qD rfl (fA rfl yY rfl (lN rfl aZ rfl ((hbt.rd (rfl)).rd) ?_))))
 refine aS rfl rfl (.nc (.ret (aK Tryz.results15 (.tmp rfl .nil) ?_)))
 exact ⟨rfl,rfl⟩
theorem aK4 (G:PM):Ct Tryz.prog 12 ([.pointer none]:List Value).toArray G [] (fun _ μ' u=>μ'=[]∧u=.slice none 0 0):=by
 refine Ct.of Tryz.func12 rfl Tryz.ntmps12 rfl fun w0 hs0=>?_
 refine .g (hY rfl .no fY (.u rfl) (.u rfl) ?_)
 refine .g (gK rfl rfl ?_)
 refine .seq (aQ rfl rfl (aS rfl rfl (.nc (.ret (aK Tryz.results12 (.tmp rfl .nil) ?_)))))
 exact ⟨rfl,rfl⟩
theorem aK0 (G:PM):Ct Tryz.prog 11 ([.pointer none]:List Value).toArray G [] (fun _ μ' u=>μ'=[]∧u=.pointer none):=by
 refine Ct.of Tryz.func11 rfl Tryz.ntmps11 rfl fun w0 hs0=>?_
 refine .g (hY rfl .no fY (.u rfl) (.u rfl) ?_)
 refine .g (gK rfl rfl ?_)
 refine .seq (aQ rfl rfl (aS rfl rfl (.nc (.ret (aK Tryz.results11 (.tmp rfl .nil) ?_)))))
 exact ⟨rfl,rfl⟩
theorem aK1 (G:PM):Ct Tryz.prog 13 ([.pointer none]:List Value).toArray G [] (fun _ μ' u=>μ'=[]∧u=.pointer none):=by
 refine Ct.of Tryz.func13 rfl Tryz.ntmps13 rfl fun w0 hs0=>?_
 refine .g (hY rfl .no fY (.u rfl) (.u rfl) ?_)
 refine .g (gK rfl rfl ?_)
 refine .seq (aQ rfl rfl (aS rfl rfl (.nc (.ret (aK Tryz.results13 (.tmp rfl .nil) ?_)))))
 exact ⟨rfl,rfl⟩
theorem aK3 (G:PM):Ct Tryz.prog 14 ([.pointer none]:List Value).toArray G [] (fun _ μ' u=>μ'=[]∧u=.pointer none):=by
 refine Ct.of Tryz.func14 rfl Tryz.ntmps14 rfl fun w0 hs0=>?_
 refine .g (hY rfl .no fY (.u rfl) (.u rfl) ?_)
 refine .g (gK rfl rfl ?_)
 refine .seq (aQ rfl rfl (aS rfl rfl (.nc (.ret (aK Tryz.results14 (.tmp rfl .nil) ?_)))))
 exact ⟨rfl,rfl⟩
theorem aK2 (E:EvD) (vo vk vb:Value) (ho:vo.oneCell'=true) (hk9:vk.oneCell'=true) (hb9:vb.oneCell'=true) (G:PM):Ct Tryz.prog 10 ([.pointer none,.agg (EvD.cells E vo vk vb).toArray]:List Value).toArray G [] (fun _ μ' u=>μ'=[]∧u=.agg (Rep.cells ({ Rep.zero with err:=2 }) (.slice none 0 0) (.slice none 0 0)).toArray):=by
 refine Ct.of Tryz.func10 rfl Tryz.ntmps10 rfl fun w0 hs0=>?_
 refine .seq (bB rfl rfl ?_)
 refine bX rfl rfl rfl ?_; intro b3
 refine al rfl iP ?_; intro b4
 refine .g (hY rfl .no fY (.u rfl) (.u rfl) ?_)
 refine .g (gK rfl rfl ?_)
 refine .g (bC rfl .no aV7 (.cons (.u rfl) rfl .nil) rfl ?_)
 refine sw rfl (.u rfl) (.u rfl) rfl fN .here rfl (oL rfl) ?_
 refine .nil (.code (.ret (aK Tryz.results10 (.cell rfl (fun w hw=>bW dZ (RdN.own .here) (rfl) hw) .nil) ?_)))
 exact ⟨rfl,rfl⟩
theorem aPD (bw bd bt:Nat) (root:Nat→Y) (o:Opts) (most:Int) (G:PM) (hbw:PB G bw (cl (cV bd bt root o most (.pointer none) (.pointer none)) 77)):Ct Tryz.prog 10 ([.pointer (some ⟨bw,0,none⟩),.agg (EvD.cells (⟨2#8,0,[],false,[],[],0#64,0,[],[],[]⟩ : EvD) (.slice none 0 0) (.slice none 0 0) (.slice none 0 0)).toArray]:List Value).toArray G [] (fun _ μ' u=>μ'=[]∧u=.agg (Rep.cells ({ Rep.zero with err:=233 }) (.slice none 0 0) (.slice none 0 0)).toArray):=by
 refine Ct.of Tryz.func10 rfl Tryz.ntmps10 rfl fun w0 hs0=>?_
 refine .seq (bB rfl rfl ?_)
 refine bX rfl rfl rfl ?_; intro b3
 refine al rfl iP ?_; intro b4
 refine .g (pe rfl .no fY (.u rfl) (.u rfl) ?_)
 refine .g (dM rfl rfl ?_)
 refine .g (fZ rfl fB rfl (lO rfl bM rfl aC rfl ?_))
 refine .g (cP rfl rfl rfl rfl (.g (cD rfl (fun c1=>?_) (fun c1=>?_))))
 ·have c1k:=c1
  exact Bool.noConfusion (id c1:false=true)
 have c1k:=c1
 try simp only [aD,aH,aE] at c1
 refine .g (cP rfl rfl rfl rfl (.g (cD rfl (fun c2=>?_) (fun c2=>?_))))
 ·have c2k:=c2
  exact Bool.noConfusion (id c2:false=true)
 have c2k:=c2
 try simp only [aD,aH,aE] at c2
 refine .g (cP rfl rfl rfl rfl (.g (cD rfl (fun c3=>?_) (fun c3=>?_))))
 ·have c3k:=c3
  exact Bool.noConfusion (id c3:false=true)
 have c3k:=c3
 try simp only [aD,aH,aE] at c3
 refine .g (cP rfl rfl rfl rfl (.g (cD rfl (fun c4=>?_) (fun c4=>?_))))
 ·have c4k:=c4
  exact Bool.noConfusion (id c4:false=true)
 have c4k:=c4
 try simp only [aD,aH,aE] at c4
 refine .g (cP rfl rfl rfl rfl (.g (cD rfl (fun c5=>?_) (fun c5=>?_))))
 ·have c5k:=c5
  exact Bool.noConfusion (id c5:false=true)
 have c5k:=c5
 try simp only [aD,aH,aE] at c5
 refine .g (fZ rfl fB rfl (lO rfl bM rfl aC rfl ?_))
 refine cP rfl rfl rfl rfl (.p (fz rfl (.f rfl rfl) fB (.u rfl) (ld rfl (.f rfl rfl) bM (.s rfl) (fun hc=>Rd.own aC rfl) ?_)))
 refine cp rfl (.f rfl rfl) (.s rfl) (.u rfl) rfl (bZ rfl .no (.u rfl) (.s rfl) (.g (cD rfl (fun c6=>?_) (fun c6=>?_))))
 ·have c6k:=c6
  exact Bool.noConfusion (id c6:false=true)
 have c6k:=c6
 try simp only [aD,aH,aE] at c6
 refine .g (nC rfl rfl (fA rfl lV rfl (lN rfl lI rfl ((hbw.rd (rM)).rd) ?_)))
 refine hY rfl .no mX (.u rfl) (.u rfl) ?_
 refine .g (cD rfl (fun c7=>?_) (fun c7=>?_))
 ·have c7k:=c7
  try simp only [aD,aH,aE] at c7
  refine .g (fZ rfl lW rfl (s1 rfl (.u rfl) (.u rfl) rfl jX .here ((by show 0<6; decide)) (rfl) ?_))
  refine .g (lB rfl dZ rfl .here ?_)
  refine sw rfl (.u rfl) (.u rfl) rfl fN .here rfl (oL rfl) ?_
  refine .nil (.code (.ret (aK Tryz.results10 (.cell rfl (fun w hw=>bW dZ (RdN.own .here) (rfl) hw) .nil) ?_)))
  exact ⟨rfl,rfl⟩
 have c7k:=c7
 cases c7
theorem aO9 (bw bd bt:Nat) (root:Nat→Y) (o:Opts) (most:Int) (G:PM) (hbw:PB G bw (cl (cV bd bt root o most (.pointer none) (.pointer none)) 77)):Ct Tryz.prog 10 ([.pointer (some ⟨bw,0,none⟩),.agg (EvD.cells EvD.zero (.slice none 0 0) (.slice none 0 0) (.slice none 0 0)).toArray]:List Value).toArray G [] (fun _ μ' u=>μ'=[]∧u=.agg (Rep.cells ({ Rep.zero with err:=1 }) (.slice none 0 0) (.slice none 0 0)).toArray):=by
 refine Ct.of Tryz.func10 rfl Tryz.ntmps10 rfl fun w0 hs0=>?_
 refine .seq (bB rfl rfl ?_)
 refine bX rfl rfl rfl ?_; intro b3
 refine al rfl iP ?_; intro b4
 refine .g (pe rfl .no fY (.u rfl) (.u rfl) ?_)
 refine .g (dM rfl rfl ?_)
 refine .g (fZ rfl fB rfl (lO rfl bM rfl aC rfl ?_))
 refine .g (cP rfl rfl rfl rfl (.g (cD rfl (fun c1=>?_) (fun c1=>?_))))
 ·have c1k:=c1
  exact Bool.noConfusion (id c1:false=true)
 have c1k:=c1
 try simp only [aD,aH,aE] at c1
 refine .g (cP rfl rfl rfl rfl (.g (cD rfl (fun c2=>?_) (fun c2=>?_))))
 ·have c2k:=c2
  exact Bool.noConfusion (id c2:false=true)
 have c2k:=c2
 try simp only [aD,aH,aE] at c2
 refine .g (cP rfl rfl rfl rfl (.g (cD rfl (fun c3=>?_) (fun c3=>?_))))
 ·have c3k:=c3
  exact Bool.noConfusion (id c3:false=true)
 have c3k:=c3
 try simp only [aD,aH,aE] at c3
 refine .g (cP rfl rfl rfl rfl (.g (cD rfl (fun c4=>?_) (fun c4=>?_))))
 ·have c4k:=c4
  exact Bool.noConfusion (id c4:false=true)
 have c4k:=c4
 try simp only [aD,aH,aE] at c4
 refine .g (cP rfl rfl rfl rfl (.g (cD rfl (fun c5=>?_) (fun c5=>?_))))
 ·have c5k:=c5
  exact Bool.noConfusion (id c5:false=true)
 have c5k:=c5
 try simp only [aD,aH,aE] at c5
 refine .g (fZ rfl fB rfl (lO rfl bM rfl aC rfl ?_))
 refine cP rfl rfl rfl rfl (.p (fz rfl (.f rfl rfl) fB (.u rfl) (ld rfl (.f rfl rfl) bM (.s rfl) (fun hc=>Rd.own aC rfl) ?_)))
 refine cp rfl (.f rfl rfl) (.s rfl) (.u rfl) rfl (bZ rfl .no (.u rfl) (.s rfl) (.g (cD rfl (fun c6=>?_) (fun c6=>?_))))
 ·have c6k:=c6
  try simp only [aD,aH,aE] at c6
  refine .g (fZ rfl lW rfl (s1 rfl (.u rfl) (.u rfl) rfl jX .here ((by show 0<6; decide)) (rfl) ?_))
  refine .g (lB rfl dZ rfl .here ?_)
  refine sw rfl (.u rfl) (.u rfl) rfl fN .here rfl (oL rfl) ?_
  refine .nil (.code (.ret (aK Tryz.results10 (.cell rfl (fun w hw=>bW dZ (RdN.own .here) (rfl) hw) .nil) ?_)))
  exact ⟨rfl,rfl⟩
 have c6k:=c6
 exact Bool.noConfusion (id c6:true=false)
end Go.Proofs.YtoifkgkandfeiaaGreatDoor




namespace Go.Proofs.YtoifkgkandfeiaaGreatDoor
open Go.Tan Go.RowKit Go.Maps Go.Sort Go.Shelf
theorem aWB:cT Tryz.prog 71 [0,1,2]=some ([.int .u8 0,.string ByteArray.empty,.string ByteArray.empty],[(0,1),(1,1),(2,1)]):=by kernel_rfl
end Go.Proofs.YtoifkgkandfeiaaGreatDoor
namespace Go.Proofs.YtoifkgkandfeiaaGreatDoor
open Go.Tan Go.RowKit Go.Maps Go.Sort Go.Shelf
end Go.Proofs.YtoifkgkandfeiaaGreatDoor

namespace Go.Proofs.YtoifkgkandfeiaaGreatDoor
open Go.Tan Go.RowKit Go.Maps Go.Sort Go.Shelf
theorem aVz:cT Tryz.prog 27 []=some ([.int .u8 0,.int .i64 0,.slice none 0 0,.bool false,.string ByteArray.empty,.string ByteArray.empty,.int .u64 0,.int .i64 0,.slice none 0 0,.string ByteArray.empty,.slice none 0 0],[]):=by kernel_rfl
end Go.Proofs.YtoifkgkandfeiaaGreatDoor




namespace Go.Proofs.YtoifkgkandfeiaaGreatDoor
open Go.Tan Go.RowKit Go.Maps Go.Sort Go.Shelf
theorem aLO:bT Tryz.prog 41=some none:=by kernel_rfl
theorem aXs:(bJ Tryz.prog 41).isSome=true:=by kernel_rfl
end Go.Proofs.YtoifkgkandfeiaaGreatDoor
namespace Go.Proofs.YtoifkgkandfeiaaGreatDoor
open Go.Tan Go.RowKit Go.Maps Go.Sort Go.Shelf
theorem aVk:bT Tryz.prog 73=some (some 2):=by kernel_rfl
end Go.Proofs.YtoifkgkandfeiaaGreatDoor


namespace Go.Proofs.YtoifkgkandfeiaaGreatDoor
open Go.Tan Go.RowKit Go.Maps Go.Sort Go.Shelf
theorem zE:aL Tryz.prog 8=true:=by kernel_rfl
end Go.Proofs.YtoifkgkandfeiaaGreatDoor
namespace Go.Proofs.YtoifkgkandfeiaaGreatDoor
open Go.Tan Go.RowKit Go.Maps Go.Sort Go.Shelf
end Go.Proofs.YtoifkgkandfeiaaGreatDoor


namespace Go.Proofs.YtoifkgkandfeiaaGreatDoor
open Go.Tan Go.RowKit Go.Maps Go.Sort Go.Shelf
theorem qF:aL Tryz.prog 10=true:=by kernel_rfl
end Go.Proofs.YtoifkgkandfeiaaGreatDoor
namespace Go.Proofs.YtoifkgkandfeiaaGreatDoor
open Go.Tan Go.RowKit Go.Maps Go.Sort Go.Shelf
theorem aMw:dV Tryz.prog 38=some ([.int .i64 0,.int .i64 0,.int .i64 0,.int .i64 0,.int .i64 0,.int .i64 0,.int .i64 0]):=by kernel_rfl
theorem aLX:cT Tryz.prog 36 [0,1,2]=some ([.int .i64 0,.int .i64 0,.int .i64 0],[(0,1),(1,1),(2,1)]):=by kernel_rfl
theorem aLY:cT Tryz.prog 38 [0,1,2,3,4]=some ([.int .i64 0,.int .i64 0,.int .i64 0,.int .i64 0,.int .i64 0,.int .i64 0,.int .i64 0],[(0,1),(1,1),(2,1),(3,1),(4,3)]):=by kernel_rfl
theorem aMm:cE Tryz.prog 38=some 7:=by kernel_rfl
theorem yR:cT Tryz.prog 34 []=some (ba 32 (fun _=>0#8),[]):=by kernel_rfl
end Go.Proofs.YtoifkgkandfeiaaGreatDoor
namespace Go.Proofs.YtoifkgkandfeiaaGreatDoor
open Go.Tan Go.RowKit Go.Maps Go.Sort Go.Shelf
theorem aVw:cT Tryz.prog 227 [0]=some ([.int .i64 0],[(0,1)]):=by kernel_rfl
theorem aMh:srT Tryz.prog 227=true:=by kernel_rfl
theorem aRR (e:Nat) (G:PM) (he:e≠0):Cp Tryz.prog 135 ([.int .i64 ((e:Nat):Int)]:List Value).toArray G [] (fun _ _ _=>False) (fun ch=>ch=[rQ 227 e]):=by
 refine Cp.of Tryz.func135 rfl Tryz.ntmps135 rfl fun w0 hs0=>?_
 refine .g (cP rfl rfl rfl rfl (.g (cD rfl (fun c1=>?_) (fun c1=>?_))))
 ·have c1k:=c1
  try simp only [aD,aE] at c1
  refine .g (bC rfl .no aVw (.cons (.u rfl) rfl .nil) rfl ?_)
  refine mkI rfl aMh (.u rfl) ?_
  refine pnc rfl rfl (fun _ _ _ _=>rfl)
 have c1k:=c1
 simp at c1; omega
theorem aOh (bd bm room done clk:Nat) (F:List Fi) (G:PM) (hD:DkR F clk) (hd9:done≤1000000000) (hr9:room≤1000000000) (nm:ByteArray) (h:Sh) (xs:List Y) (hs:SlR G 1 aN h xs) (hn:eH nm) (hx:xs.length≤1000000000) (hfull:room<xs.length+cA F):Ct Tryz.prog 175 ([.pointer (some ⟨bd,0,none⟩),.string nm,h.val xs.length]:List Value).toArray G [.blk bd (cl (bH bm room (done)) 118),.blk bm (mO ((F).map Fi.fe) (clk))] (fun _ μ' u=>μ'=[.blk bd (cl (bH bm room (done)) 118),.blk bm (mO ((F).map Fi.fe) (clk))]∧u=.int .i64 141):=by
 refine Ct.of Tryz.func175 rfl Tryz.ntmps175 rfl fun w0 hs0=>?_
 have hfw:=hD.few
 refine .g (ka rfl (.inr rfl) zC (aB rfl (aB rfl (aB rfl (aB rfl aF)))) (dI .here .here) (aAg bd bm room done clk F _ hD hd9 hr9 nm false ⟨none,0⟩ [] SlR.nul (Nat.zero_le _) (fun s hs=>absurd hs List.not_mem_nil) hn (fun h=>absurd h (by decide))) ?_)
 rintro _ G11 μ11 hG11 ⟨rfl,rfl⟩
 refine .g (cP rfl rfl rfl rfl (.g (cD rfl (fun c1=>?_) (fun c1=>?_))))
 ·have c1k:=c1
  exact absurd c1 (by decide)
 have c1k:=c1
 try simp only [aD,aH,aE] at c1
 refine .g (bO (mc:=⟨false,false⟩) [0,1,2,3,4,5,6,7,8,9] aY (by kernel_rfl) ?_)
 refine .p (lE rfl bV rfl (.p (nC rfl rfl (fZ rfl aLd rfl (lO rfl cJ rfl .here rfl ?_)))))
 refine .p (kp rfl .no aMF (aB rfl aF) (Gp.add aC (Gp.add .here Gp.nil)) (fun _ hle hq=>aJ4 bd bm room done clk F _ hD ⟨hq.1 _ _ (bU _ _ _)⟩ ⟨bU _ _ _⟩) ?_)
 refine aR rfl rfl rfl rfl ?_
 refine cP rfl rfl rfl rfl (.g (cD rfl (fun c2=>?_) (fun c2=>?_)))
 ·have c2k:=c2
  try simp only [aD,aH,aE] at c2
  refine .seq (aQ rfl rfl (aS rfl rfl (.nc (.ret (bD Tryz.results175 (.tmp rfl .nil) (mS .here rfl (mS .here rfl mN)) ?_)))))
  exact ⟨rfl,rfl⟩
 have c2k:=c2
 simp only [decide_eq_false_iff_not] at c2; omega
theorem aHM (bx bm room:Nat) (d:Db) (nm:ByteArray) (v:Value) (L:List Y) (G:PM) (hr9:room≤1000000000) (hn:eH nm) (hL:L.length≤1000000) (hfull:room<L.length):Cp Tryz.prog 136 ([pt bx,.string nm,v]:List Value).toArray G [.blk bx (cl d.cells 165),rB v 5 L,.blk d.dk (cl (bH bm room 0) 118),.blk bm (mO [] 0)] (fun _ _ _=>False) (fun ch=>ch=[rQ 227 141]):=by
 refine Cp.of Tryz.func136 rfl Tryz.ntmps136 rfl fun w0 hs0=>?_
 refine .g (nC rfl rfl (fZ rfl nX rfl (lO rfl gU rfl .here rfl ?_)))
 refine .p (ka rfl (.inr rfl) aDG (aB rfl (aB rfl (aB rfl aF))) (fF aC aC aC) (aAy fun s9 G2 hle hv hs9=>by subst hv; exact aOh d.dk bm room 0 0 [] G2 yK (by decide) hr9 nm s9 L hs9 hn (by omega) (by show room<L.length+0; omega)) ?_)
 rintro _ G13 μ13 hG13 ⟨rfl,rfl⟩
 refine .g (kpc rfl mW (aB rfl aF) (aRR 141 _ (by decide)) (fun ch G9 ρ9 μ9 hle9 hd he hm=>hd) ?_)
 rintro _ G15 μ15 hG15 hF
 exact hF.elim
set_option maxHeartbeats 4000000 in
theorem aOu (bx bm room dk tr held now:Nat) (root:Nat→Y) (o:Opts) (ep o1:BitVec 64) (G:PM) (hr:room<30) (hK:RdNP G 6 0 (wa 64 kW)):Cp Tryz.prog 90 ([pt bx]:List Value).toArray G [.blk bx (cl (Db.cells (eY dk tr root o ep held now)) 165),.blk dk (cl (bH bm room 0) 118),.blk bm (mO [] 0),.blk tr (cl [uv .u64 0#64,uv .u64 o1] 87)] (fun _ _ _=>False) (fun ch=>ch=[rQ 227 141]):=by
 refine Cp.of Tryz.func90 rfl Tryz.ntmps90 rfl fun w0 hs0=>?_
 refine .g (ka rfl (.inr rfl) aLu (aB rfl aF) (jF bE .here .here .here) (cX fun G1 hle1 h1=>aEX fun G2 hle h2 h3 h4=>aJ1 bx (eY dk tr root o ep held now) bm room 0 0 [] G2 h2 h3 h4 yK o1 ⟨hle _ _ h1.h⟩ rfl) ?_)
 rintro _ G15 μ15 hG15 ⟨ν1,rfl,ν2,rfl,bl,vl,ol,rfl,rfl⟩
 have hK:=hK.mono hG15
 refine al rfl zJ ?_; intro b2
 refine sw rfl (.u rfl) (.u rfl) rfl zI .here rfl (by simp [Value.oneCell']) ?_
 refine .nil (.code (.seq ?_))
 refine rN iL (fun _ _=>rfl) (bF aI rfl (bF aI rfl (bF aI rfl (bF aC rfl (eT))))) ?_; intro GfRL hRL hleRL evRL hsRL; subst evRL
 have hK:=hK.mono hleRL
 refine dL mK (bF aI rfl (bF aI rfl (bF aI rfl (bF aC rfl (eT))))) ?_; intro Gfbl hlebl hbbl
 have hK:=hK.mono hlebl
 have hsRL:=hsRL.mono hlebl
 refine .g (fZ rfl aFn rfl (lO rfl aLP rfl .here rfl ?_))
 refine ka rfl (.inr rfl) aFx (aB rfl (aB rfl aF)) (fF aI aI aI) (aEX fun G2 hle h1 h2 h3=>aUV bx (eY dk tr root o ep held now) bm room 0 0 [] G2 h1 h2 h3 yK ⟨none,0⟩ [] SlR.nul (by decide) (fun f hf=>absurd hf List.not_mem_nil)) ?_
 rintro _ G19 μ19 hG19 ⟨ν3,rfl,rfl,rfl⟩
 have hK:=hK.mono hG19
 have hsRL:=hsRL.mono hG19
 have hbbl:=hbbl.mono hG19
 refine .nil (.code (.seq ?_))
 refine Wk.jn (α:=Unit) (fun _u=>[]) (fun _u=>[.blk bx (cl (Db.cells (Db.d1 dk tr root o ep held now)) 165)]) (fun _u Gl=>True) [(0,true,_),(2,true,_)] [_,_,_,_]
  (aA rfl (aA rfl eZ)) (mS aC rfl (mS aC rfl (mS aC rfl (mS aC rfl mN)))) ?_ ?_
 ·refine dX ⟨true,false⟩ aY (by kernel_rfl) ?_
  refine Wp.one 0 (by kernel_rfl) ?_
  refine mV rfl rfl (.nil (Wp.one 1 (by kernel_rfl) ?_))
  refine mV rfl rfl (.nil (Wp.one 2 (by kernel_rfl) ?_))
  refine nC rfl rfl (.nil (Wp.one 3 (by kernel_rfl) ?_))
  refine fZ rfl aC9 rfl (.nil (Wp.one 5 (by kernel_rfl) ?_))
  refine mV rfl rfl (.nil (Wp.b2 4 6 (by kernel_rfl) ?_ ?_))
  ·refine lO rfl aZ rfl .here rfl ?_
   refine .nil (Wp.b1 6 (by kernel_rfl) ?_)
   refine ka rfl (.inl rfl) tY (aB rfl aF) (cO .here) (sR bx (eY dk tr root o ep held now) _ (by show (0#64:BitVec 64).toNat<1000; decide)) ?_
   rintro _ G26 μ26 hG26 ⟨rfl,rfl⟩
   have hK:=hK.mono hG26
   have hsRL:=hsRL.mono hG26
   have hbbl:=hbbl.mono hG26
   refine .nil (Wp.one 7 (by kernel_rfl) ?_)
   refine bR ([V 3#8,V 0#8,uv .u64 0#64,uv .u64 ep,uv .u64 0#64]) rfl .no tS (.cons (.u rfl) rfl (.cons (.u rfl) rfl (.cons (.u rfl) rfl .nil))) rfl (rfl) ?_
   refine .nil (Wp.one 8 (by kernel_rfl) ?_)
   refine bR ((qS ep 0#64).cells) rfl .no tT (.cons (.u rfl) rfl .nil) rfl (rfl) ?_
   refine .nil (Wp.one 9 (by kernel_rfl) ?_)
   refine nC rfl rfl (.nil (Wp.one 10 (by kernel_rfl) ?_))
   refine fZ rfl mT rfl (.nil (Wp.b1 11 (by kernel_rfl) ?_))
   refine pR rfl (.u rfl) (.u rfl) rfl uD .here (by show 74+7≤85; decide) (Fl.one _) (aA0 _ (qS ep 0#64)) ?_
   refine .nil (Wp.last (by kernel_rfl) ?_)
   refine aU () ?_ ?_ ?_ ?_ ?_
   ·exact (aA rfl (aA rfl eZ))
   ·exact (mS .here rfl (mS .here rfl (mS .here rfl (mS .here rfl (mS .here rfl mN)))))
   ·exact fL _
   ·exact hG26
   trivial
  refine ka rfl (.inl rfl) tY (aB rfl aF) (cO .here) (sR bx (eY dk tr root o ep held now) _ (by show (0#64:BitVec 64).toNat<1000; decide)) ?_
  rintro _ G26 μ26 hG26 ⟨rfl,rfl⟩
  have hK:=hK.mono hG26
  have hsRL:=hsRL.mono hG26
  have hbbl:=hbbl.mono hG26
  refine .nil (Wp.one 4 (by kernel_rfl) ?_)
  refine lO rfl aZ rfl .here rfl ?_
  refine .nil (Wp.one 7 (by kernel_rfl) ?_)
  refine bR ([V 3#8,V 0#8,uv .u64 0#64,uv .u64 ep,uv .u64 0#64]) rfl .no tS (.cons (.u rfl) rfl (.cons (.u rfl) rfl (.cons (.u rfl) rfl .nil))) rfl (rfl) ?_
  refine .nil (Wp.one 8 (by kernel_rfl) ?_)
  refine bR ((qS ep 0#64).cells) rfl .no tT (.cons (.u rfl) rfl .nil) rfl (rfl) ?_
  refine .nil (Wp.one 9 (by kernel_rfl) ?_)
  refine nC rfl rfl (.nil (Wp.one 10 (by kernel_rfl) ?_))
  refine fZ rfl mT rfl (.nil (Wp.b1 11 (by kernel_rfl) ?_))
  refine pR rfl (.u rfl) (.u rfl) rfl uD .here (by show 74+7≤85; decide) (Fl.one _) (aA0 _ (qS ep 0#64)) ?_
  refine .nil (Wp.last (by kernel_rfl) ?_)
  refine aU () ?_ ?_ ?_ ?_ ?_
  ·exact (aA rfl (aA rfl eZ))
  ·exact (mS .here rfl (mS .here rfl (mS .here rfl (mS .here rfl (mS .here rfl mN)))))
  ·exact fL _
  ·exact hG26
  trivial
 intro _u Glj2 hGlj2 hFj2
 have hK:=hK.mono hGlj2
 have hsRL:=hsRL.mono hGlj2
 have hbbl:=hbbl.mono hGlj2
 refine .code (.seq ?_)
 refine Wk.jn (α:=Unit) (fun _u=>[]) (fun _u=>[.blk bx (cl (Db.cells (Db.d2 dk tr root o ep held now)) 165)]) (fun _u Gl=>True) [(0,true,_),(2,true,_)] [_,_,_,_]
  (aA rfl (aA rfl eZ)) (mS aC rfl (mS aC rfl (mS aC rfl (mS aC rfl mN)))) ?_ ?_
 ·refine dX ⟨true,false⟩ aY (by kernel_rfl) ?_
  refine Wp.one 0 (by kernel_rfl) ?_
  refine mV rfl rfl (.nil (Wp.one 1 (by kernel_rfl) ?_))
  refine mV rfl rfl (.nil (Wp.one 2 (by kernel_rfl) ?_))
  refine nC rfl rfl (.nil (Wp.one 3 (by kernel_rfl) ?_))
  refine fZ rfl aC9 rfl (.nil (Wp.one 5 (by kernel_rfl) ?_))
  refine mV rfl rfl (.nil (Wp.b2 4 6 (by kernel_rfl) ?_ ?_))
  ·refine lO rfl aZ rfl .here rfl ?_
   refine .nil (Wp.b1 6 (by kernel_rfl) ?_)
   refine ka rfl (.inl rfl) tY (aB rfl aF) (cO .here) (sR bx (Db.d1 dk tr root o ep held now) _ (by show (1#64:BitVec 64).toNat<1000; decide)) ?_
   rintro _ G37 μ37 hG37 ⟨rfl,rfl⟩
   have hK:=hK.mono hG37
   have hsRL:=hsRL.mono hG37
   have hbbl:=hbbl.mono hG37
   refine .nil (Wp.one 7 (by kernel_rfl) ?_)
   refine bR ([V 1#8,V 0#8,uv .u64 0#64,uv .u64 ep,uv .u64 1#64]) rfl .no tS (.cons (.u rfl) rfl (.cons (.u rfl) rfl (.cons (.u rfl) rfl .nil))) rfl (rfl) ?_
   refine .nil (Wp.one 8 (by kernel_rfl) ?_)
   refine bR ((sX ep 0#64).cells) rfl .no tT (.cons (.u rfl) rfl .nil) rfl (rfl) ?_
   refine .nil (Wp.one 9 (by kernel_rfl) ?_)
   refine nC rfl rfl (.nil (Wp.one 10 (by kernel_rfl) ?_))
   refine fZ rfl lJ rfl (.nil (Wp.b1 11 (by kernel_rfl) ?_))
   refine pR rfl (.u rfl) (.u rfl) rfl uD .here (by show 60+7≤85; decide) (Fl.one _) (aAz _ (sX ep 0#64)) ?_
   refine .nil (Wp.last (by kernel_rfl) ?_)
   refine aU () ?_ ?_ ?_ ?_ ?_
   ·exact (aA rfl (aA rfl eZ))
   ·exact (mS .here rfl (mS .here rfl (mS .here rfl (mS .here rfl (mS .here rfl mN)))))
   ·exact fL _
   ·exact hG37
   trivial
  refine ka rfl (.inl rfl) tY (aB rfl aF) (cO .here) (sR bx (Db.d1 dk tr root o ep held now) _ (by show (1#64:BitVec 64).toNat<1000; decide)) ?_
  rintro _ G37 μ37 hG37 ⟨rfl,rfl⟩
  have hK:=hK.mono hG37
  have hsRL:=hsRL.mono hG37
  have hbbl:=hbbl.mono hG37
  refine .nil (Wp.one 4 (by kernel_rfl) ?_)
  refine lO rfl aZ rfl .here rfl ?_
  refine .nil (Wp.one 7 (by kernel_rfl) ?_)
  refine bR ([V 1#8,V 0#8,uv .u64 0#64,uv .u64 ep,uv .u64 1#64]) rfl .no tS (.cons (.u rfl) rfl (.cons (.u rfl) rfl (.cons (.u rfl) rfl .nil))) rfl (rfl) ?_
  refine .nil (Wp.one 8 (by kernel_rfl) ?_)
  refine bR ((sX ep 0#64).cells) rfl .no tT (.cons (.u rfl) rfl .nil) rfl (rfl) ?_
  refine .nil (Wp.one 9 (by kernel_rfl) ?_)
  refine nC rfl rfl (.nil (Wp.one 10 (by kernel_rfl) ?_))
  refine fZ rfl lJ rfl (.nil (Wp.b1 11 (by kernel_rfl) ?_))
  refine pR rfl (.u rfl) (.u rfl) rfl uD .here (by show 60+7≤85; decide) (Fl.one _) (aAz _ (sX ep 0#64)) ?_
  refine .nil (Wp.last (by kernel_rfl) ?_)
  refine aU () ?_ ?_ ?_ ?_ ?_
  ·exact (aA rfl (aA rfl eZ))
  ·exact (mS .here rfl (mS .here rfl (mS .here rfl (mS .here rfl (mS .here rfl mN)))))
  ·exact fL _
  ·exact hG37
  trivial
 intro _u Glj3 hGlj3 hFj3
 have hK:=hK.mono hGlj3
 have hsRL:=hsRL.mono hGlj3
 have hbbl:=hbbl.mono hGlj3
 refine .g (bO (mc:=⟨false,false⟩) [0,1,2,3,4,5,6,7,8,9,10,11,12,13,14,15,16,17,18,19,20,21] aY (by kernel_rfl) ?_)
 refine .p (nC rfl rfl (fZ rfl lJ rfl (fA rfl qA rfl (fA rfl yS rfl (lO rfl aZ rfl .here rfl ?_)))))
 refine .p (nC rfl rfl (fZ rfl nY rfl (lO rfl aZ rfl .here rfl ?_)))
 refine .p (nC rfl rfl (fZ rfl nY rfl (lO rfl aZ rfl .here rfl ?_)))
 refine .p (nC rfl rfl (fZ rfl sA rfl (fA rfl aA8 rfl (lA rfl .no aA1 (.u rfl) (fun _=>RdN.part (n:=5) (cs':=(List.range 5).map (fun _=>.int .u64 0)) .here (rfl)) (fun _=>rfl) (bR ((cU 1 0).cells ⟨none,0⟩ ⟨none,0⟩) rfl .no aLV (.cons (.u rfl) rfl (.cons (.u rfl) rfl (.cons (.u rfl) rfl (.cons (.u rfl) rfl .nil)))) rfl (rfl) ?_)))))
 refine al rfl aBY ?_; intro b3
 refine sw rfl (.u rfl) (.u rfl) rfl aDN .here (by first|exact qE|exact qL|rfl) (aCu) ?_
 refine .g (nC rfl rfl (fZ rfl sA rfl (fA rfl pZ rfl (lA rfl .no vT (.u rfl) (fun _=>RdN.part (n:=5) (cs':=(List.range 5).map (fun _=>.slice none 0 0)) aC (rfl)) (fun _=>rfl) ?_))))
 refine mV rfl rfl (.nc (.block ?_))
 refine aX (α:=Nat) (fun k=>[(67,true,.int .i64 (k:Int))]) (fun k=>[.blk b3 (cl ((cU 1 0).cells ⟨none,0⟩ ⟨none,0⟩) 202)])
  (fun k Gl=>(k≤5)) (fun k=>5-k) 0 [(0,true,_),(2,true,_),(3,true,_),(66,true,_)] [_,_,_,_,_]
  (aM rfl (aA rfl (aA rfl (aA rfl (aA rfl eZ)))))
  (mS .here rfl (mS .here rfl (mS .here rfl (mS .here rfl (mS .here rfl (mS .here rfl mN)))))) ?_ ?_
 ·(try dsimp only)<;>(first|omega|rfl|assumption|(simp; done))
 intro k N0 Gl0 hN0 hGl0 hF0
 try dsimp only at hF0 hN0 ⊢
 have hk:=hF0
 have hK:=hK.mono hGl0
 have hsRL:=hsRL.mono hGl0
 have hbbl:=hbbl.mono hGl0
 refine .g (cP rfl rfl rfl rfl (.g (cD rfl (fun c1=>?_) (fun c1=>?_))))
 ·have c1k:=c1
  try simp only [aD,aH,aE] at c1
  refine .g (ix rfl .no rY gS (.u rfl) (.u rfl) (by omega) (by omega) (fun _=>aCL (by omega)) ?_)
  refine .g (fZ rfl jJ rfl (lO rfl gS rfl .here rfl ?_))
  refine .p (apZ rfl lQ (.u rfl) (.u rfl) ?_)
  refine fZ rfl jJ rfl (s1 rfl (.u rfl) (.u rfl) rfl aBT .here (by first|decide | (show _<85; decide)) (aHW) ?_)
  refine .g (aW (((k+1):Nat):Int) rfl rfl rfl rfl ?_)
  refine .g (aU (k+1) ?_ ?_ ?_ ?_ ?_)
  ·exact (aM rfl (aA rfl (aA rfl (aA rfl (aA rfl eZ)))))
  ·exact (mS .here rfl (mS .here rfl (mS .here rfl (mS .here rfl (mS .here rfl (mS .here rfl mN))))))
  ·first|omega|(dsimp only; omega)
  ·exact hGl0
  (try dsimp only)<;>(first|omega|rfl|assumption|(simp; done))
 have c1k:=c1
 try simp only [aD,aH,aE] at c1
 refine .g (bO (mc:=⟨false,false⟩) [0,1,2,3,4,5,6,7,8,9,10,11] aY (by kernel_rfl) ?_)
 refine fZ rfl jJ rfl (lO rfl gS rfl .here rfl ?_)
 refine .p (fZ rfl aLk rfl (lO rfl tR rfl dK rfl ?_))
 refine kV rfl aLt (aB rfl aF) (aIQ bl hRL [Nd.z] _ (fun _=>0) _ hbbl hsRL aFJ rfl (by decide)) ?_
 refine kV rfl aLx (aB rfl (aB rfl (aB rfl aF))) (aIO _) ?_
 refine kV rfl aLw (aB rfl (aB rfl aF)) (aJ6 _ _) ?_
 refine kV rfl aLv (aB rfl (aB rfl (aB rfl aF))) (aKN _ 0 _) ?_
 refine apZ rfl lQ (.u rfl) (.u rfl) ?_
 refine fZ rfl jJ rfl (s1 rfl (.u rfl) (.u rfl) rfl aBT .here (by first|decide | (show _<85; decide)) (aHW) ?_)
 refine .g (nC rfl rfl (fZ rfl vX rfl (lO rfl aZ rfl aC rfl ?_)))
 refine fZ rfl vZ rfl (s1 rfl (.u rfl) (.u rfl) rfl kB .here (by first|decide | (show _<85; decide)) (aPI) ?_)
 refine .g (bO (mc:=⟨false,false⟩) [0,1,2,3,4,5,6,7,8,9,10,11,12,15,16,13,14,17,18,19,20,21,22,23,24,25] aY (by kernel_rfl) ?_)
 refine .p (nC rfl rfl (fZ rfl aC8 rfl (lA rfl .no dJ (.u rfl) (fun _=>RdN.part (n:=32) (cs':=ba 32 root) aC (rfl)) (fun _=>(bP _ _)) ?_)))
 refine .p (nC rfl rfl (fZ rfl mT rfl (fA rfl qA rfl (lA rfl .no gT (.u rfl) (fun _=>RdN.part (n:=5) (cs':=[V 3#8,V 0#8,uv .u64 0#64,uv .u64 ep,uv .u64 0#64]) aC (rfl)) (fun _=>rfl) ?_))))
 refine .p (nC rfl rfl (fZ rfl yT rfl (lO rfl pY rfl aC rfl ?_)))
 refine bR (State.zero.cells dE) rfl .no aLT .nil rfl (rfl) (lA rfl .no rW (.u rfl) (fun _=>RdN.part (n:=11) (cs':=(cU 1 2).cells ⟨none,0⟩ ⟨none,0⟩) .here (rfl)) (fun _=>(by first|exact qE|exact qL|rfl)) ?_)
 refine kp rfl .no aBJ (aB rfl aF) (Gp.add mK Gp.nil) (fun _ hle hq=>aAS tr 0#64 o1 _ ⟨bU _ _ _⟩) ?_
 refine bw (k:=.u64) (b:=1#64) rfl .no rfl (.u rfl) (.u rfl) rfl (kc rfl aLy (aB rfl (aB rfl (aB rfl (aB rfl (aB rfl (aB rfl aF)))))) (aQ4 root ⟨3#8,0#8,0#64,ep,0#64⟩ 0#64 (0#64+1#64) 1 2 _ rJ rK (by decide) hK) ?_)
 rintro _ G110 μ110 hG110 ⟨vL,LL,lLL,rfl,rfl⟩
 refine .p (eX rfl rfl rfl (eX rfl rfl rfl (eX rfl rfl rfl ?_)))
 refine al rfl wJ ?_; intro b7
 refine .p (sw rfl (.u rfl) (.u rfl) rfl qJ .here (by first|exact qE|exact qL|rfl) (oB) ?_)
 refine .g (cP rfl rfl rfl rfl (.g (cD rfl (fun c2=>?_) (fun c2=>?_))))
 ·have c2k:=c2
  exact absurd c2 (by decide)
 have c2k:=c2
 try simp only [aD,aH,aE] at c2
 refine .g (kV rfl mW (aB rfl aF) (nL _) ?_)
 refine .nil (.code (.seq ?_))
 refine tQ aC ?_; intro sRM bbRM evRM lcRM oaRM; subst evRM
 refine dX ⟨true,false⟩ aY (by kernel_rfl) ?_
 refine Wp.one 0 (by kernel_rfl) ?_
 refine mV rfl rfl (.nil (Wp.one 1 (by kernel_rfl) ?_))
 refine mV rfl rfl (.nil (Wp.one 2 (by kernel_rfl) ?_))
 refine nC rfl rfl (.nil (Wp.one 3 (by kernel_rfl) ?_))
 refine fZ rfl mT rfl (.nil (Wp.one 5 (by kernel_rfl) ?_))
 refine mV rfl rfl (.nil (Wp.one 6 (by kernel_rfl) ?_))
 refine nC rfl rfl (.nil (Wp.one 7 (by kernel_rfl) ?_))
 refine fZ rfl mT rfl (.nil (Wp.one 8 (by kernel_rfl) ?_))
 refine fA rfl qA rfl (.nil (Wp.one 11 (by kernel_rfl) ?_))
 refine mV rfl rfl (.nil (Wp.b2 4 9 (by kernel_rfl) ?_ ?_))
 ·refine kp rfl .no tZ (aB rfl aF) (Gp.add bE Gp.nil) (fun _ hle hq=>sM bx 74 (qS ep 0#64) _ (PB.rdn (m:=7) ⟨bU _ _ _⟩ rfl) (by show (0#64:BitVec 64).toNat<10; decide)) ?_
  refine .nil (Wp.one 9 (by kernel_rfl) ?_)
  refine lA rfl .no gT (.u rfl) (fun _=>RdN.part (n:=5) (cs':=[V 3#8,V 0#8,uv .u64 0#64,uv .u64 ep,uv .u64 0#64]) bE (rfl)) (fun _=>rfl) ?_
  refine .nil (Wp.b1 10 (by kernel_rfl) ?_)
  refine kc rfl uA (aB rfl aF) (iM (tH ⟨3#8,0#8,0#64,ep,0#64⟩ _)) ?_
  rintro v128 G128 μ128 hG128 ⟨L128,ov128,eL128,rfl⟩
  refine .nil (Wp.b1 12 (by kernel_rfl) ?_)
  refine eN rfl aP bY (.u rfl) (.u rfl) .here (sJ aI oaRM) (by rw [eL128,fE]; omega) ?_
  intro v130 L130 ov130 eL130
  have lL130:L130.length=L128.length+LL.length:=by rw [eL130,List.length_append]
  refine .nil (aGk 13 (by kernel_rfl) (by kernel_rfl) ?_)
  refine kpo rfl aBK (aB rfl (aB rfl (aB rfl aF))) (jF dK .here bE bE) (aHM bx bm room (Db.d2 dk tr root o ep held now) (aO 3 0) v130 L130 _ (by omega) uY (by have q9:L128.length=30:=(by rw [eL128,fE]); omega) (by have q9:L128.length=30:=(by rw [eL128,fE]); omega)) (fun ch G9 ρ9 μ9 hle9 hd he hm=>hd) ?_
  rintro _ G131 μ131 hG131 hF
  exact hF.elim
 refine lA rfl .no gT (.u rfl) (fun _=>RdN.part (n:=5) (cs':=[V 3#8,V 0#8,uv .u64 0#64,uv .u64 ep,uv .u64 0#64]) bE (rfl)) (fun _=>rfl) ?_
 refine .nil (Wp.b1 4 (by kernel_rfl) ?_)
 refine kp rfl .no tZ (aB rfl aF) (Gp.add bE Gp.nil) (fun _ hle hq=>sM bx 74 (qS ep 0#64) _ (PB.rdn (m:=7) ⟨bU _ _ _⟩ rfl) (by show (0#64:BitVec 64).toNat<10; decide)) ?_
 refine .nil (Wp.b1 10 (by kernel_rfl) ?_)
 refine kc rfl uA (aB rfl aF) (iM (tH ⟨3#8,0#8,0#64,ep,0#64⟩ _)) ?_
 rintro v128 G128 μ128 hG128 ⟨L128,ov128,eL128,rfl⟩
 refine .nil (Wp.b1 12 (by kernel_rfl) ?_)
 refine eN rfl aP bY (.u rfl) (.u rfl) .here (sJ aI oaRM) (by rw [eL128,fE]; omega) ?_
 intro v130 L130 ov130 eL130
 have lL130:L130.length=L128.length+LL.length:=by rw [eL130,List.length_append]
 refine .nil (aGk 13 (by kernel_rfl) (by kernel_rfl) ?_)
 refine kpo rfl aBK (aB rfl (aB rfl (aB rfl aF))) (jF dK .here bE bE) (aHM bx bm room (Db.d2 dk tr root o ep held now) (aO 3 0) v130 L130 _ (by omega) uY (by have q9:L128.length=30:=(by rw [eL128,fE]); omega) (by have q9:L128.length=30:=(by rw [eL128,fE]); omega)) (fun ch G9 ρ9 μ9 hle9 hd he hm=>hd) ?_
 rintro _ G131 μ131 hG131 hF
 exact hF.elim
end Go.Proofs.YtoifkgkandfeiaaGreatDoor
namespace Go.Proofs.YtoifkgkandfeiaaGreatDoor
open Go.Tan Go.RowKit Go.Maps Go.Sort Go.Shelf
theorem aMd:bJ Tryz.prog 229=some (30,1,8):=by kernel_rfl
theorem aXr:(bJ Tryz.prog 229).isSome=true:=by kernel_rfl
theorem aWs:aL Tryz.prog 189=true:=by kernel_rfl
theorem aQG (b:Nat) (G:PM) (hb:PB G b (cl [.int .i64 141,.int .i64 230,.int .i64 4] 30)):Ct Tryz.prog 189 ([.slice (some ⟨b,0,none⟩) 3 3,.int .i64 141]:List Value).toArray G [] (fun _ μ' u=>μ'=[]∧u=.int .i64 0):=by
 refine Ct.of Tryz.func189 rfl Tryz.ntmps189 rfl fun w0 hs0=>?_
 have hsb:SlR G 1 xA ⟨some ⟨b,0,none⟩,3⟩ [(141:Int),230,4]:=fD (xs:=[(141:Int),230,4]) hb.h (fun _ _=>rfl) (Nat.le_refl 3)
 refine .g (lE rfl aXr rfl (mV rfl rfl (.nc (.block ?_))))
 refine aX (α:=Nat) (fun k=>[(8,true,.int .i64 (k:Int))]) (fun _=>[])
  (fun k Gl=>(k=0)) (fun k=>0) 0 [(0,true,_),(1,true,_),(7,true,_)] []
  (aM rfl (aA rfl (aA rfl (aA rfl eZ))))
  mN ?_ ?_
 ·(try dsimp only)<;>(first|omega|rfl|assumption|(simp; done))
 intro k N0 Gl0 hN0 hGl0 hF0
 try dsimp only at hF0 hN0 ⊢
 have hk:=hF0
 have hsb:=hsb.mono hGl0
 refine .g (cP rfl rfl rfl rfl (.g (cD rfl (fun c1=>?_) (fun c1=>?_))))
 ·have c1k:=c1
  try simp only [aD,aE] at c1
  refine .skip (.code (.seq (.block (.seq (bB rfl rfl (mV rfl rfl (aS rfl rfl (.nc (.seq (iV rfl rfl (mV rfl rfl (mV rfl rfl (mV rfl rfl (ih rfl .no aMd (.u rfl) (.u rfl) (by omega) (by omega) (fun _=>hsb.nn (k:=k) (by first|omega|(simp only [Bool.and_eq_true,decide_eq_true_eq] at hc; omega)|(simp only [List.length_cons,List.length_nil]; omega))) ?_))))))))))))))
  refine lN rfl jA rfl ((hsb.at (k:=0) (by omega) rfl 0 _ rfl).rd) ?_
  refine cP rfl rfl rfl rfl (.g (cD rfl (fun c2=>?_) (fun c2=>?_)))
  ·have c2k:=c2
   try simp only [aD,aE] at c2
   refine .seq (bB rfl rfl (mV rfl rfl (aS rfl rfl (.nc (.ret (aK Tryz.results189 (.tmp rfl .nil) ?_))))))
   subst hk; exact ⟨rfl,rfl⟩
  have c2k:=c2
  exact Bool.noConfusion (id c2:true=false)
 have c1k:=c1
 subst hk; exact Bool.noConfusion (id c1:true=false)
theorem aOb (b:Nat) (G:PM) (hb:PB G b (cl [.int .i64 141,.int .i64 230,.int .i64 4] 30)):Ct Tryz.prog 126 ([.slice (some ⟨b,0,none⟩) 3 3,.int .i64 141]:List Value).toArray G [] (fun _ μ' u=>μ'=[]∧u=.bool true):=by
 refine Ct.of Tryz.func126 rfl Tryz.ntmps126 rfl fun w0 hs0=>?_
 refine .g (kV rfl aWs (aB rfl (aB rfl aF)) (aQG b _ hb) ?_)
 refine cP rfl rfl rfl rfl (aS rfl rfl (.nc (.ret (aK Tryz.results126 (.tmp rfl .nil) ?_))))
 exact ⟨rfl,rfl⟩
end Go.Proofs.YtoifkgkandfeiaaGreatDoor
namespace Go.Proofs.YtoifkgkandfeiaaGreatDoor
open Go.Tan Go.RowKit Go.Maps Go.Sort Go.Shelf
theorem aX4:dV Tryz.prog 227=some ([.int .i64 0]):=by kernel_rfl
theorem aXv:cE Tryz.prog 227=some 1:=by kernel_rfl
theorem aLj:aT Tryz.prog 227 0=some 0:=by kernel_rfl
theorem aX8:(Tryz.prog.info? 30).bind (·.zero)=some (.int .i64 0):=by kernel_rfl
theorem aWf:aL Tryz.prog 126=true:=by kernel_rfl
theorem aPw (w:World) (G:PM) (x y:Value) (b9:Nat) (hs:Sat G [.blk b9 (cl [y] 30)] w):CallsD Tryz.prog 89 #[x,.pointer (some ⟨b9,0,none⟩)] (.panicking [rQ 227 141]) w (fun r u' w'=>(∃ v,r=.returned v)∧u'=.panicking [rR 227 141]∧Tr G (keys [.blk b9 (cl [y] 30)]) w G [.blk b9 (cl [.int .i64 141] 30)] w'):=by
 refine callsD_of_wpS Tryz.func89 rfl fun c₀ cs hu=>(wpS_seq (wpS_region ?_))
 have hr:recoverD (c₀ :: cs)=some (.iface 227 (.agg #[.int .i64 141]),{ c₀ with mode:=.panicking [rR 227 141] } :: cs):=by simp [recoverD,hu,rQ,rR]
 rw [show Tryz.f89.ntmps=25 from rfl]
 simp only [wpOpsS,List.range,List.range.loop,Array.size,List.length,List.getElem?_toArray,List.getElem?_cons_zero,List.getElem?_cons_succ,Region.wanted,if_true]
 have e1:∀ (ρ:Operand→Value) (d:Option Nat) (t:TypeId) (p:String) (af:Array Edge),(execOp ρ ⟨d,.call { callee:=.builtin .recover,args:=#[],argTypes:=#[] },t,p,af,none⟩).run Tryz.prog w=.ok .recover w:=fun ρ d t p af=>by
  simp [execOp,resolve,invoke,builtin]
 simp only [e1,hr]
 simp [execOp,Oper.upon,Exit.thenS,Act.put,Act.eval]
 refine wpS_of_wp ?_
 have e2:(binOp .eql 20 (.iface 227 (.agg #[.int .i64 141])) .nilIface).run Tryz.prog w=.ok (.bool false) w:=by
  have hu20:=aIH aM0
  obtain ⟨q,hq⟩:=hu20
  have e4:∀ d,(Op.equalIn (d+1) 20 (.iface 227 (.agg #[.int .i64 141])) .nilIface).run Tryz.prog w=.ok false w:=fun d=>by
   unfold Op.equalIn
   simp only [Sem.run_bind,run_underlying hq,Result.andThen_ok,Sem.run_pure]
  obtain ⟨d,hd⟩ : ∃ d,Op.maxDepth=d+1:=Nat.exists_eq_succ_of_ne_zero (by decide)
  simp [binOp,Op.equal,hd,e4]
 have e3:(eqGuard .eql 20 (.tmp 7) (.const .nilIface) (.iface 227 (.agg #[.int .i64 141])) .nilIface).run Tryz.prog w=.ok () w:=by unfold eqGuard; simp
 refine wp_seq_k fun K1 hK1=>wp_seq_k fun K2 hK2=>wp_region ?_
 simp [wpOps,Region.wanted,execOp,Oper.wp,Oper.upon,Exit.then,Act.put,Act.eval,List.range,List.range.loop,e2,e3]
 refine .inl (.inl (hK2 _ _ ?_))
 refine wp_cond_false ?_ ?_
 ·simp [Act.eval]
 refine wp_skip ?_
 refine hK1 _ _ ?_
 refine aK6 (fn:=Tryz.f89) (n:=25) (G:=G) (G1:=G) (K0:=keys [.blk b9 (cl [y] 30)]) (w0:=w) (ρ:=[(0,true,x),(1,true,.pointer (some ⟨b9,0,none⟩)),(4,true,.iface 227 (.agg #[.int .i64 141]))]) (μ:=[.blk b9 (cl [y] 30)])
  (I:=fun a w'=>a.defers=[]∧Tr G (keys [.blk b9 (cl [y] 30)]) w G [.blk b9 (cl [.int .i64 141] 30)] w') ?_ ⟨by simp [tB],rfl,?_⟩ (eQ hs) ?_
 ·skip
  refine .g (tA rfl aMh (.u rfl) ?_)
  refine al rfl aX4 ?_; intro b5
  refine sw rfl (.u rfl) (.u rfl) rfl aXv .here rfl (one1 rfl) ?_
  refine .g (fZ rfl aLj rfl (lO rfl jA rfl .here rfl ?_))
  refine nC rfl rfl (s1 rfl (.u rfl) (.u rfl) rfl jX aC (by show 0<1; decide) (rfl) ?_)
  refine .nil (.code (.seq (lF rfl rfl ?_)))
  refine Go.Tan.bN rfl aMd aX8 (Evp.cons (.u rfl) (Evp.cons (.u rfl) (Evp.cons (.u rfl) Evp.nil))) rfl (by decide) (by simp [Value.oneCell',Sh.val]) ?_; intro b15
  refine fZ rfl aLj rfl (lO rfl jA rfl aI rfl ?_)
  refine kp rfl .no aWf (aB rfl (aB rfl aF)) (Gp.add .here Gp.nil) (fun _ hle hq=>aOb b15 _ ⟨bU _ _ _⟩) ?_
  refine nt rfl .no (.u rfl) (.g (cD rfl (fun c1=>?_) (fun c1=>?_)))
  ·have c1k:=c1
   exact Bool.noConfusion (id c1:false=true)
  have c1k:=c1
  try simp only [aD,aE] at c1
  refine .skip ?_
  exact ⟨fun a w ha ht=>⟨ha.defers,(mS aC rfl mN).tr ht⟩⟩
 ·intro i c v h
  simp only [pK] at h
  repeat' split at h
  all_goals first
   | (rename_i hq; subst hq; cases h; simp)
   | cases h
 rintro a w' ⟨h1,h2⟩
 refine ⟨h1,.panicking [rR 227 141],rfl,.tuple #[],?_,⟨_,rfl⟩,rfl,h2⟩
 simp [results,Tryz.f89]
theorem aSM (w:World) (G:PM) (x:Value) (b8 b9:Nat) (hs:Sat G [.blk b8 (cl [x] 45),.blk b9 (cl [.int .i64 141] 30)] w):CallsD Tryz.prog 88 #[.pointer (some ⟨b9,0,none⟩),.pointer (some ⟨b8,0,none⟩)] .returning w (fun r u' w'=>(∃ v,r=.returned v)∧u'=.returning∧Tr G (keys [.blk b8 (cl [x] 45),.blk b9 (cl [.int .i64 141] 30)]) w G [.blk b8 (cl [.pointer none] 45),.blk b9 (cl [.int .i64 141] 30)] w'):=by
 refine callsD_of_wpS Tryz.func88 rfl fun c₀ cs hu=>wpS_of_wp ?_
 refine aK6 (fn:=Tryz.f88) (n:=4) (G:=G) (G1:=G) (K0:=keys [.blk b8 (cl [x] 45),.blk b9 (cl [.int .i64 141] 30)]) (w0:=w) (ρ:=[(0,true,.pointer (some ⟨b9,0,none⟩)),(1,true,.pointer (some ⟨b8,0,none⟩))]) (μ:=[.blk b8 (cl [x] 45),.blk b9 (cl [.int .i64 141] 30)])
  (I:=fun a w'=>a.defers=[]∧Tr G (keys [.blk b8 (cl [x] 45),.blk b9 (cl [.int .i64 141] 30)]) w G [.blk b8 (cl [.pointer none] 45),.blk b9 (cl [.int .i64 141] 30)] w') ?_ ⟨by rfl,rfl,?_⟩ (eQ hs) ?_
 ·skip
  refine .g (lO rfl jA rfl aC rfl ?_)
  refine cP rfl rfl rfl rfl (.g (cD rfl (fun c1=>?_) (fun c1=>?_)))
  ·have c1k:=c1
   try simp only [aD,aE] at c1
   refine .g (s1 rfl (.u rfl) (.u rfl) rfl uG .here (by show 0<1; decide) (rfl) ?_)
   refine .nil ?_
   exact ⟨fun a w ha ht=>⟨ha.defers,(mS .here rfl (mS .here rfl mN)).tr ht⟩⟩
  have c1k:=c1
  exact Bool.noConfusion (id c1:true=false)
 ·intro i c v h
  simp only [pK] at h
  repeat' split at h
  all_goals first
   | (rename_i hq; subst hq; cases h; rfl)
   | cases h
 rintro a w' ⟨h1,h2⟩
 refine ⟨h1,.returning,by rw [← hu],.tuple #[],?_,⟨_,rfl⟩,rfl,h2⟩
 simp [results,Tryz.f88]
end Go.Proofs.YtoifkgkandfeiaaGreatDoor
namespace Go.Proofs.YtoifkgkandfeiaaGreatDoor
open Go.Tan Go.RowKit Go.Maps Go.Sort Go.Shelf
set_option maxHeartbeats 1000000 in
theorem aOm (bd bm room bt:Nat) (root:Nat→Y) (o:Opts) (G:PM) (hO:oN o=true) (hr:room<30) (hK:RdNP G 6 0 (wa 64 kW)):Ct Tryz.prog 50 ([.pointer (some ⟨bd,0,none⟩),.pointer (some ⟨bt,0,none⟩),.agg (ba 32 root).toArray,o.val]:List Value).toArray G [.blk bd (cl (bH bm room 0) 118),.blk bm (mO [] 0),.blk bt (cl [uv .u64 0#64,uv .u64 0#64] 87)] (fun _ μ' u=>μ'=[]∧u=.tuple #[.pointer none,.int .i64 141]):=by
 refine Ct.of Tryz.func50 rfl Tryz.ntmps50 rfl fun w0 hs0=>?_
 refine .seq (dT rfl rfl ?_)
 refine bX rfl rfl rfl ?_; intro b6
 refine bX rfl rfl rfl ?_; intro b7
 refine al rfl aGN ?_; intro b8
 refine al rfl aBZ ?_; intro b9
 refine .g (pe rfl .no iY (.u rfl) (.u rfl) ?_)
 refine mV rfl rfl (mv rfl (.f rfl rfl) (.u rfl) (pe rfl (.f rfl rfl) sC (.s rfl) (.u rfl) ?_))
 refine bZ rfl .no (.u rfl) (.s rfl) (.g (cD rfl (fun c1=>?_) (fun c1=>?_)))
 ·have c1k:=c1
  cases c1
 have c1k:=c1
 try simp only [aD,aH,aE] at c1
 refine .g (lA rfl .no mQ (.u rfl) (fun _=>RdN.part (n:=7) (cs':=o.cells) aI (rfl)) (fun _=>rfl) ?_)
 refine kV rfl aGC (aB rfl aF) (aEl o _) ?_
 refine nt rfl .no (.u rfl) (.g (cD rfl (fun c2=>?_) (fun c2=>?_)))
 ·have c2k:=c2
  rw [hO] at c2; cases c2
 have c2k:=c2
 try simp only [aD,aH,aE] at c2
 refine .g (kp rfl .no aMS (aB rfl aF) (Gp.add dK Gp.nil) (fun _ hle hq=>aHP bd bm room 0 0 [] _ ⟨bU _ _ _⟩) ?_)
 refine .g (cD rfl (fun c3=>?_) (fun c3=>?_))
 ·have c3k:=c3
  cases c3
 have c3k:=c3
 try simp only [aD,aH,aE] at c3
 refine .g (ka rfl (.inr rfl) aMT (aB rfl aF) (cO iL) (aKX bt 0#64 0#64 _ (by decide)) ?_)
 rintro _ G29 μ29 hG29 ⟨rfl,rfl⟩
 have hK:=hK.mono hG29
 refine .p (eX rfl rfl rfl (eX rfl rfl rfl (.g (cP rfl rfl rfl rfl (.g (cD rfl (fun c4=>?_) (fun c4=>?_)))))))
 ·have c4k:=c4
  exact absurd c4 (by decide)
 have c4k:=c4
 try simp only [aD,aH,aE] at c4
 refine .skip (.code (.seq ?_))
 refine Wk.jn (α:=Nat×Nat×Nat×Value) (fun gh=>[(12,true,.pointer (some ⟨gh.1,0,none⟩))]) (fun gh=>[.blk gh.1 (cl (Db.cells (eY bd bt root o 1#64 gh.2.1 gh.2.2.1)) 165),.mp gh.2.1 .u64 (fun _=>none),.blk gh.2.2.1 (cl [gh.2.2.2,.int .i64 ((0:Nat):Int)] 225),rS 16 Nd.cells gh.2.2.2 249 [Nd.z]]) (fun gh Gl=>(gh.2.2.2.oneCell'=true)) [(8,true,_),(9,true,_)] [_,_,_,_,_]
  (aA rfl (aA rfl eZ)) (mS .here rfl (mS .here rfl (mS .here rfl (mS aI rfl (mS aI rfl mN))))) ?_ ?_
 ·refine dL dK (bF dK rfl (bF dK rfl (bF .here rfl (eT)))) ?_; intro Gfb6 hleb6 hbb6
  have hK:=hK.mono hleb6
  refine dL bE (bF bE rfl (bF bE rfl (bF .here rfl (eT)))) ?_; intro Gfb7 hleb7 hbb7
  have hK:=hK.mono hleb7
  have hbb6:=hbb6.mono hleb7
  refine dX ⟨true,false⟩ aY (by kernel_rfl) ?_
  refine Wp.one 0 (by kernel_rfl) ?_
  refine mV rfl rfl (.nil (Wp.one 1 (by kernel_rfl) ?_))
  refine mV rfl rfl (.nil (Wp.one 4 (by kernel_rfl) ?_))
  refine mV rfl rfl (.nil (iE 2 (by kernel_rfl) ?_))
  refine lA rfl .no dJ (.u rfl) (fun _=>(hbb6.rdn (m:=32) (cs':=ba 32 root) (rfl)).rd) (fun _=>(bP _ _)) ?_
  refine .nil ⟨⟨rfl,rfl⟩,?_⟩
  refine iE 3 (by kernel_rfl) ?_
  refine lA rfl .no mQ (.u rfl) (fun _=>(hbb7.rdn (m:=7) (cs':=o.cells) (rfl)).rd) (fun _=>rfl) ?_
  refine .nil ⟨⟨rfl,rfl⟩,?_⟩
  refine Wp.b2 5 6 (by kernel_rfl) ?_ ?_
  ·refine mk rfl .u64 ?_; intro b40
   refine .nil (Wp.b1 6 (by kernel_rfl) ?_)
   refine kc rfl zG aF (xH _) ?_
   rintro _ G41 μ41 hG41 ⟨bl,vl,ol,rfl,rfl⟩
   have hK:=hK.mono hG41
   refine .nil (Wp.one 7 (by kernel_rfl) ?_)
   refine bR ((eY bd bt root o (0#64+1#64) b40 bl).cells) rfl .no aCy (.cons (.u rfl) rfl (.cons (.u rfl) rfl (.cons (.u rfl) rfl (.cons (.u rfl) rfl (.cons (.u rfl) rfl (.cons (.u rfl) rfl (.cons (.u rfl) rfl .nil))))))) rfl (rfl) (.nil (Wp.b1 8 (by kernel_rfl) ?_))
   refine bX rfl rfl rfl ?_; intro b43
   refine .nil (Wp.one 9 (by kernel_rfl) ?_)
   refine aS rfl rfl (.nil (Wp.last (by kernel_rfl) ?_))
   refine aU (b43,b40,bl,vl) ?_ ?_ ?_ ?_ ?_
   ·exact (aA rfl (aA rfl (aA rfl eZ)))
   ·exact (mS .here rfl (mS aI rfl (mS .here rfl (mS .here rfl (mS .here rfl (mS .here rfl (mS .here rfl (mS .here rfl (mS .here rfl mN)))))))))
   ·exact fL _
   ·exact ((hleb6).trans hleb7).trans hG41
   (try dsimp only)<;>(first|omega|rfl|assumption|(simp; done))
  refine kc rfl zG aF (xH _) ?_
  rintro _ G41 μ41 hG41 ⟨bl,vl,ol,rfl,rfl⟩
  have hK:=hK.mono hG41
  refine .nil (Wp.b1 5 (by kernel_rfl) ?_)
  refine mk rfl .u64 ?_; intro b40
  refine .nil (Wp.one 7 (by kernel_rfl) ?_)
  refine bR ((eY bd bt root o (0#64+1#64) b40 bl).cells) rfl .no aCy (.cons (.u rfl) rfl (.cons (.u rfl) rfl (.cons (.u rfl) rfl (.cons (.u rfl) rfl (.cons (.u rfl) rfl (.cons (.u rfl) rfl (.cons (.u rfl) rfl .nil))))))) rfl (rfl) (.nil (Wp.b1 8 (by kernel_rfl) ?_))
  refine bX rfl rfl rfl ?_; intro b43
  refine .nil (Wp.one 9 (by kernel_rfl) ?_)
  refine aS rfl rfl (.nil (Wp.last (by kernel_rfl) ?_))
  refine aU (b43,b40,bl,vl) ?_ ?_ ?_ ?_ ?_
  ·exact (aA rfl (aA rfl (aA rfl eZ)))
  ·exact (mS .here rfl (mS .here rfl (mS .here rfl (mS .here rfl (mS .here rfl (mS .here rfl (mS .here rfl (mS .here rfl (mS .here rfl mN)))))))))
  ·exact fL _
  ·exact ((hleb6).trans hleb7).trans hG41
  (try dsimp only)<;>(first|omega|rfl|assumption|(simp; done))
 intro gh Glj10 hGlj10 hFj10
 obtain ⟨b43,b40,bl,vl⟩:=gh; dsimp only at hFj10 ⊢
 have ol:=hFj10
 have hK:=hK.mono hGlj10
 refine .code (.seq (Wk.defers [0] 1 (DQ.d ⟨88,[],[.pointer (some ⟨b9,0,none⟩),.pointer (some ⟨b8,0,none⟩)]⟩) (fun _ _ _ _=>False) (fun _ _ _ _ _ _ hq=>hq.elim) rfl rfl ?_))
 refine mf (vf:=#[]) (vc:=[Value.pointer (some ⟨b9,0,none⟩),Value.pointer (some ⟨b8,0,none⟩)].toArray) rfl .no (fun a ha _=>by simp) (fun a ha _=>by simp [(Ev.u (c:=true) rfl:Ev _ true (.tmp 9) _).eval ha rfl,(Ev.u (c:=true) rfl:Ev _ true (.tmp 8) _).eval ha rfl]) ?_
 refine .nil ⟨aFW rfl rfl,?_⟩
 refine .code (.seq (aNT [0] 1 ⟨89,[.pointer (some ⟨b43,0,none⟩),.pointer (some ⟨b9,0,none⟩)],[]⟩ ⟨88,[],[.pointer (some ⟨b9,0,none⟩),.pointer (some ⟨b8,0,none⟩)]⟩ 227 141 b8 b9 45 30 [.pointer none,.int .i64 141] aDK aMU rfl rfl (fun w G y hs=>aPw w G _ y b9 hs) (fun w G x hs=>aSM w G x b8 b9 hs) (fun _=>⟨rfl,rfl⟩) rfl rfl (mV rfl rfl (.nil ⟨DefOp.fn rfl (aB rfl (aB rfl aF)),?_⟩))))
 refine .g (kpo rfl aMV (aB rfl aF) (jF .here iL iL bE) (aOu b43 bm room bd bt b40 bl root o 1#64 (0#64+1#64) _ hr hK) (fun ch G9 ρ9 μ9 hle9 hd he hm=>aO4 hd he hm dK bE (.cell rfl (fun w hw=>pP lI (Rd.own .here rfl w hw)) (.cell rfl (fun w hw=>pP jA (Rd.own aC rfl w hw)) .nil))) ?_)
 rintro _ G47 μ47 hG47 hF
 exact hF.elim
end Go.Proofs.YtoifkgkandfeiaaGreatDoor
namespace Go.Proofs.YtoifkgkandfeiaaGreatDoor
open Go.Tan Go.RowKit Go.Maps Go.Sort Go.Shelf
theorem aU9 (bw:Nat) (bd bm room bt:Nat) (root:Nat→Y) (o:Opts) (most:Int) (G:PM) (hO:oN o=true) (hr:room<30) (hr9:room≤1000000000) (hK:RdNP G 6 0 (wa 64 kW)):Ct Tryz.prog 28 ([.pointer (some ⟨bw,0,none⟩)]:List Value).toArray G [.blk bw (cl (cV bd bt root o most (.pointer none) (.pointer none)) 77),.blk bd (cl (bH bm room 0) 118),.blk bm (mO [] 0),.blk bt (cl [uv .u64 0#64,uv .u64 0#64] 87)] (fun _ μ' u=>μ'=[.blk bw (cl (cV bd bt root o most (.pointer none) (.pointer none)) 77)]∧u=.int .i64 141):=by
 refine Ct.of Tryz.func28 rfl Tryz.ntmps28 rfl fun w0 hs0=>?_
 refine .seq (aQ rfl rfl (aS rfl rfl (.nc (.seq (dX ⟨true,false⟩ aY (by kernel_rfl) ?_)))))
 refine Wp.one 0 (by kernel_rfl) ?_
 refine mV rfl rfl (.nil (Wp.one 1 (by kernel_rfl) ?_))
 refine nC rfl rfl (.nil (Wp.one 2 (by kernel_rfl) ?_))
 refine fZ rfl uJ rfl (.nil (Wp.one 3 (by kernel_rfl) ?_))
 refine lO rfl gU rfl .here rfl ?_
 refine .nil (Wp.one 4 (by kernel_rfl) ?_)
 refine mV rfl rfl (.nil (Wp.one 5 (by kernel_rfl) ?_))
 refine nC rfl rfl (.nil (Wp.one 6 (by kernel_rfl) ?_))
 refine fZ rfl aDa rfl (.nil (Wp.one 7 (by kernel_rfl) ?_))
 refine lO rfl pY rfl .here rfl ?_
 refine .nil (Wp.one 8 (by kernel_rfl) ?_)
 refine mV rfl rfl (.nil (Wp.one 9 (by kernel_rfl) ?_))
 refine nC rfl rfl (.nil (Wp.one 10 (by kernel_rfl) ?_))
 refine fZ rfl aGR rfl (.nil (Wp.one 11 (by kernel_rfl) ?_))
 refine lA rfl .no dJ (.u rfl) (fun _=>RdN.part (n:=32) (cs':=ba 32 root) .here (rfl)) (fun _=>(bP _ _)) ?_
 refine .nil (Wp.one 12 (by kernel_rfl) ?_)
 refine mV rfl rfl (.nil (Wp.one 13 (by kernel_rfl) ?_))
 refine nC rfl rfl (.nil (Wp.one 14 (by kernel_rfl) ?_))
 refine fZ rfl aGS rfl (.nil (Wp.one 15 (by kernel_rfl) ?_))
 refine lA rfl .no mQ (.u rfl) (fun _=>RdN.part (n:=7) (cs':=o.cells) .here (rfl)) (fun _=>rfl) ?_
 refine .nil (Wp.b1 16 (by kernel_rfl) ?_)
 refine ka rfl (.inl rfl) aGV (aB rfl (aB rfl (aB rfl (aB rfl aF)))) (fF aC aC aC) (aOm bd bm room bt root o _ hO hr hK) ?_
 rintro _ G22 μ22 hG22 ⟨rfl,rfl⟩
 refine .nil (Wp.one 17 (by kernel_rfl) ?_)
 refine mV rfl rfl (.nil (Wp.one 18 (by kernel_rfl) ?_))
 refine eX rfl rfl rfl (.nil (Wp.one 19 (by kernel_rfl) ?_))
 refine eX rfl rfl rfl (.nil (Wp.one 20 (by kernel_rfl) ?_))
 refine aS rfl rfl (.nil (Wp.one 21 (by kernel_rfl) ?_))
 refine aS rfl rfl (.nil (Wp.last (by kernel_rfl) ?_))
 refine .g (kV rfl aGW (aB rfl aF) (aH3 _) ?_)
 refine nC rfl rfl (fZ rfl lV rfl (s1 rfl (.u rfl) (.u rfl) rfl uG .here ((by rw [pT]; decide)) (aAs) ?_))
 refine nC rfl rfl (fZ rfl oW rfl (s1 rfl (.u rfl) (.u rfl) rfl aBc .here ((by rw [pT]; decide)) (aAt) ?_))
 refine .nil (.code (.seq (bB rfl rfl (mV rfl rfl (aS rfl rfl (.nc (.ret (bD Tryz.results28 (.tmp rfl .nil) (mS .here rfl mN) ?_))))))))
 exact ⟨rfl,rfl⟩
theorem aKq (room:Nat) (root:Nat→Y) (o:Opts) (most:Int) (G:PM) (hO:oN o=true) (hr:room<30) (hr9:room≤1000000000) (hK:RdNP G 6 0 (wa 64 kW)):Ct Tryz.prog 8 ([.int .i64 ((room:Nat):Int),.agg (ba 32 root).toArray,o.val,.int .i64 most]:List Value).toArray G [] (fun _ μ' u=>μ'=[]∧u=.tuple #[.pointer none,.int .i64 141]):=by
 refine Ct.of Tryz.func8 rfl Tryz.ntmps8 rfl fun w0 hs0=>?_
 refine .seq (dT rfl rfl ?_)
 refine bX rfl rfl rfl ?_; intro b5
 refine bX rfl rfl rfl ?_; intro b6
 refine aS rfl rfl (aS rfl rfl (.nc (.seq ?_)))
 refine dL aC (by intro b hb; cases hb) ?_; intro Gfb5 hleb5 hbb5
 have hK:=hK.mono hleb5
 refine dL .here (by intro b hb; cases hb) ?_; intro Gfb6 hleb6 hbb6
 have hK:=hK.mono hleb6
 have hbb5:=hbb5.mono hleb6
 refine dX ⟨true,false⟩ aY (by kernel_rfl) ?_
 refine Wp.one 0 (by kernel_rfl) ?_
 refine mV rfl rfl (.nil (Wp.one 5 (by kernel_rfl) ?_))
 refine mV rfl rfl (.nil (iE 3 (by kernel_rfl) ?_))
 refine lA rfl .no dJ (.u rfl) (fun _=>(hbb5.rdn (m:=32) (cs':=ba 32 root) (rfl)).rd) (fun _=>(bP _ _)) ?_
 refine .nil ⟨⟨rfl,rfl⟩,?_⟩
 refine iE 4 (by kernel_rfl) ?_
 refine lA rfl .no mQ (.u rfl) (fun _=>(hbb6.rdn (m:=7) (cs':=o.cells) (rfl)).rd) (fun _=>rfl) ?_
 refine .nil ⟨⟨rfl,rfl⟩,?_⟩
 refine Wp.b1 1 (by kernel_rfl) ?_
 refine kc rfl aGT (aB rfl aF) (aD3 room _ hr9) ?_
 rintro _ G13 μ13 hG13 ⟨bd,bm,rfl,rfl⟩
 have hK:=hK.mono hG13
 refine .nil (Wp.b1 2 (by kernel_rfl) ?_)
 refine kc rfl aGU aF (aFD _) ?_
 rintro _ G14 μ14 hG14 ⟨bt,rfl,rfl⟩
 have hK:=hK.mono hG14
 refine .nil (Wp.one 6 (by kernel_rfl) ?_)
 refine bR (cV bd bt root o most (.pointer none) (.pointer none)) rfl .no aGQ (.cons (.u rfl) rfl (.cons (.u rfl) rfl (.cons (.u rfl) rfl (.cons (.u rfl) rfl (.cons (.u rfl) rfl .nil))))) rfl (rfl) (.nil (Wp.b1 7 (by kernel_rfl) ?_))
 refine bX rfl rfl rfl ?_; intro b19
 refine .nil (Wp.one 8 (by kernel_rfl) ?_)
 refine aS rfl rfl (.nil (Wp.last (by kernel_rfl) ?_))
 refine .g (ka rfl (.inr rfl) aDb (aB rfl aF) (jF .here aC aC .here) (aU9 b19 bd bm room bt root o most _ hO hr hr9 hK) ?_)
 rintro _ G21 μ21 hG21 ⟨rfl,rfl⟩
 refine .g (cP rfl rfl rfl rfl (.g (cD rfl (fun c1=>?_) (fun c1=>?_))))
 ·have c1k:=c1
  try simp only [aD,aH,aE] at c1
  refine .seq (dP rfl rfl (mV rfl rfl (aS rfl rfl (aS rfl rfl (.nc (.ret (aK Tryz.results8 (.tmp rfl (.tmp rfl .nil)) ?_)))))))
  exact ⟨rfl,rfl⟩
 have c1k:=c1
 exact Bool.noConfusion (id c1:true=false)
theorem aU8 (bw:Nat) (bd bm room bt:Nat) (root:Nat→Y) (o:Opts) (most:Int) (G:PM) (hO:oN o=false) (hr9:room≤1000000000):Ct Tryz.prog 28 ([.pointer (some ⟨bw,0,none⟩)]:List Value).toArray G [.blk bw (cl (cV bd bt root o most (.pointer none) (.pointer none)) 77),.blk bd (cl (bH bm room 0) 118),.blk bm (mO [] 0),.blk bt (cl [uv .u64 0#64,uv .u64 0#64] 87)] (fun _ μ' u=>μ'=[.blk bw (cl (cV bd bt root o most (.pointer none) (.pointer none)) 77),.blk bd (cl (bH bm room 0) 118),.blk bm (mO [] 0),.blk bt (cl [uv .u64 0#64,uv .u64 0#64] 87)]∧u=.int .i64 1):=by
 refine Ct.of Tryz.func28 rfl Tryz.ntmps28 rfl fun w0 hs0=>?_
 refine .seq (aQ rfl rfl (aS rfl rfl (.nc (.seq (dX ⟨true,false⟩ aY (by kernel_rfl) ?_)))))
 refine Wp.one 0 (by kernel_rfl) ?_
 refine mV rfl rfl (.nil (Wp.one 1 (by kernel_rfl) ?_))
 refine nC rfl rfl (.nil (Wp.one 2 (by kernel_rfl) ?_))
 refine fZ rfl uJ rfl (.nil (Wp.one 3 (by kernel_rfl) ?_))
 refine lO rfl gU rfl .here rfl ?_
 refine .nil (Wp.one 4 (by kernel_rfl) ?_)
 refine mV rfl rfl (.nil (Wp.one 5 (by kernel_rfl) ?_))
 refine nC rfl rfl (.nil (Wp.one 6 (by kernel_rfl) ?_))
 refine fZ rfl aDa rfl (.nil (Wp.one 7 (by kernel_rfl) ?_))
 refine lO rfl pY rfl .here rfl ?_
 refine .nil (Wp.one 8 (by kernel_rfl) ?_)
 refine mV rfl rfl (.nil (Wp.one 9 (by kernel_rfl) ?_))
 refine nC rfl rfl (.nil (Wp.one 10 (by kernel_rfl) ?_))
 refine fZ rfl aGR rfl (.nil (Wp.one 11 (by kernel_rfl) ?_))
 refine lA rfl .no dJ (.u rfl) (fun _=>RdN.part (n:=32) (cs':=ba 32 root) .here (rfl)) (fun _=>(bP _ _)) ?_
 refine .nil (Wp.one 12 (by kernel_rfl) ?_)
 refine mV rfl rfl (.nil (Wp.one 13 (by kernel_rfl) ?_))
 refine nC rfl rfl (.nil (Wp.one 14 (by kernel_rfl) ?_))
 refine fZ rfl aGS rfl (.nil (Wp.one 15 (by kernel_rfl) ?_))
 refine lA rfl .no mQ (.u rfl) (fun _=>RdN.part (n:=7) (cs':=o.cells) .here (rfl)) (fun _=>rfl) ?_
 refine .nil (Wp.b1 16 (by kernel_rfl) ?_)
 refine kV rfl aGV (aB rfl (aB rfl (aB rfl (aB rfl aF)))) (aSO bd bt root o _ hO) (.nil (Wp.one 17 (by kernel_rfl) ?_))
 refine mV rfl rfl (.nil (Wp.one 18 (by kernel_rfl) ?_))
 refine eX rfl rfl rfl (.nil (Wp.one 19 (by kernel_rfl) ?_))
 refine eX rfl rfl rfl (.nil (Wp.one 20 (by kernel_rfl) ?_))
 refine aS rfl rfl (.nil (Wp.one 21 (by kernel_rfl) ?_))
 refine aS rfl rfl (.nil (Wp.last (by kernel_rfl) ?_))
 refine .g (kV rfl aGW (aB rfl aF) (aH3 _) ?_)
 refine nC rfl rfl (fZ rfl lV rfl (s1 rfl (.u rfl) (.u rfl) rfl uG .here ((by rw [pT]; decide)) (aAs) ?_))
 refine nC rfl rfl (fZ rfl oW rfl (s1 rfl (.u rfl) (.u rfl) rfl aBc .here ((by rw [pT]; decide)) (aAt) ?_))
 refine .nil (.code (.seq (bB rfl rfl (mV rfl rfl (aS rfl rfl (.nc (.ret (bD Tryz.results28 (.tmp rfl .nil) (mS .here rfl (mS .here rfl (mS .here rfl (mS .here rfl mN)))) ?_))))))))
 exact ⟨rfl,rfl⟩
theorem aKp (room:Nat) (root:Nat→Y) (o:Opts) (most:Int) (G:PM) (hO:oN o=false) (hr9:room≤1000000000):Ct Tryz.prog 8 ([.int .i64 ((room:Nat):Int),.agg (ba 32 root).toArray,o.val,.int .i64 most]:List Value).toArray G [] (fun _ μ' u=>μ'=[]∧u=.tuple #[.pointer none,.int .i64 1]):=by
 refine Ct.of Tryz.func8 rfl Tryz.ntmps8 rfl fun w0 hs0=>?_
 refine .seq (dT rfl rfl ?_)
 refine bX rfl rfl rfl ?_; intro b5
 refine bX rfl rfl rfl ?_; intro b6
 refine aS rfl rfl (aS rfl rfl (.nc (.seq ?_)))
 refine dL aC (by intro b hb; cases hb) ?_; intro Gfb5 hleb5 hbb5
 refine dL .here (by intro b hb; cases hb) ?_; intro Gfb6 hleb6 hbb6
 have hbb5:=hbb5.mono hleb6
 refine dX ⟨true,false⟩ aY (by kernel_rfl) ?_
 refine Wp.one 0 (by kernel_rfl) ?_
 refine mV rfl rfl (.nil (Wp.one 5 (by kernel_rfl) ?_))
 refine mV rfl rfl (.nil (iE 3 (by kernel_rfl) ?_))
 refine lA rfl .no dJ (.u rfl) (fun _=>(hbb5.rdn (m:=32) (cs':=ba 32 root) (rfl)).rd) (fun _=>(bP _ _)) ?_
 refine .nil ⟨⟨rfl,rfl⟩,?_⟩
 refine iE 4 (by kernel_rfl) ?_
 refine lA rfl .no mQ (.u rfl) (fun _=>(hbb6.rdn (m:=7) (cs':=o.cells) (rfl)).rd) (fun _=>rfl) ?_
 refine .nil ⟨⟨rfl,rfl⟩,?_⟩
 refine Wp.b1 1 (by kernel_rfl) ?_
 refine kc rfl aGT (aB rfl aF) (aD3 room _ hr9) ?_
 rintro _ G13 μ13 hG13 ⟨bd,bm,rfl,rfl⟩
 refine .nil (Wp.b1 2 (by kernel_rfl) ?_)
 refine kc rfl aGU aF (aFD _) ?_
 rintro _ G14 μ14 hG14 ⟨bt,rfl,rfl⟩
 refine .nil (Wp.one 6 (by kernel_rfl) ?_)
 refine bR (cV bd bt root o most (.pointer none) (.pointer none)) rfl .no aGQ (.cons (.u rfl) rfl (.cons (.u rfl) rfl (.cons (.u rfl) rfl (.cons (.u rfl) rfl (.cons (.u rfl) rfl .nil))))) rfl (rfl) (.nil (Wp.b1 7 (by kernel_rfl) ?_))
 refine bX rfl rfl rfl ?_; intro b19
 refine .nil (Wp.one 8 (by kernel_rfl) ?_)
 refine aS rfl rfl (.nil (Wp.last (by kernel_rfl) ?_))
 refine .g (ka rfl (.inr rfl) aDb (aB rfl aF) (jF .here aC aC .here) (aU8 b19 bd bm room bt root o most _ hO hr9) ?_)
 rintro _ G21 μ21 hG21 ⟨rfl,rfl⟩
 refine .g (cP rfl rfl rfl rfl (.g (cD rfl (fun c1=>?_) (fun c1=>?_))))
 ·have c1k:=c1
  try simp only [aD,aH,aE] at c1
  refine .seq (dP rfl rfl (mV rfl rfl (aS rfl rfl (aS rfl rfl (.nc (.ret (aK Tryz.results8 (.tmp rfl (.tmp rfl .nil)) ?_)))))))
  exact ⟨rfl,rfl⟩
 have c1k:=c1
 exact Bool.noConfusion (id c1:true=false)
end Go.Proofs.YtoifkgkandfeiaaGreatDoor
namespace Go.Proofs.YtoifkgkandfeiaaGreatDoor
open Go.Tan Go.RowKit Go.Maps Go.Sort Go.Shelf
theorem aM9:cT Tryz.prog 38 []=some ([.int .i64 0,.int .i64 0,.int .i64 0,.int .i64 0,.int .i64 0,.int .i64 0,.int .i64 0],[]):=by kernel_rfl
theorem aFf:flP Tryz.prog 43 0=some 0:=by kernel_rfl
theorem aDL:aL Tryz.prog 9=true:=by kernel_rfl
theorem aV0:cT Tryz.prog 27 [0,1,2]=some ([.int .u8 0,.int .i64 0,.slice none 0 0,.bool false,.string ByteArray.empty,.string ByteArray.empty,.int .u64 0,.int .i64 0,.slice none 0 0,.string ByteArray.empty,.slice none 0 0],[(0,1),(1,1),(2,1)]):=by kernel_rfl
theorem aDD:aL Tryz.prog 12=true:=by kernel_rfl
theorem aCz:cT Tryz.prog 27 [0]=some ([.int .u8 0,.int .i64 0,.slice none 0 0,.bool false,.string ByteArray.empty,.string ByteArray.empty,.int .u64 0,.int .i64 0,.slice none 0 0,.string ByteArray.empty,.slice none 0 0],[(0,1)]):=by kernel_rfl
theorem aV1:cT Tryz.prog 27 [0,4,6]=some ([.int .u8 0,.int .i64 0,.slice none 0 0,.bool false,.string ByteArray.empty,.string ByteArray.empty,.int .u64 0,.int .i64 0,.slice none 0 0,.string ByteArray.empty,.slice none 0 0],[(0,1),(4,1),(6,1)]):=by kernel_rfl
theorem aWC:cT Tryz.prog 73 [0]=some ([.int .i64 0,.int .i64 0],[(0,1)]):=by kernel_rfl
theorem aWT:eqT Tryz.prog 4 73 ([.int .i64,.int .i64])=true:=by kernel_rfl
theorem aDC:aL Tryz.prog 11=true:=by kernel_rfl
theorem aXm:aL Tryz.prog 7=true:=by kernel_rfl
theorem aDE:aL Tryz.prog 13=true:=by kernel_rfl
theorem aDF:aL Tryz.prog 14=true:=by kernel_rfl
theorem aL2:aL Tryz.prog 15=true:=by kernel_rfl
theorem aSS (G:PM):Ct Tryz.prog 9 ([V 200#8]:List Value).toArray G [] (fun _ μ' u=>μ'=[]∧u=(⟨201,150,2,1500,40,4,10⟩ : Opts).val):=by
 refine Ct.of Tryz.func9 rfl Tryz.ntmps9 rfl fun w0 hs0=>?_
 refine .seq (aQ rfl rfl ?_)
 refine al rfl aMw ?_; intro b2
 refine .nil (.code (.seq (iV rfl rfl (mV rfl rfl ?_))))
 refine cn (k:=.u8) rfl .no zK (by decide) (.u rfl) ?_; intro m4 em4 lm4
 refine iF ((201:Nat):Int) rfl .no (.u rfl) (.u rfl) rfl (fun _=>by rw [em4]; rfl) (fun _=>eV (by omega) (by omega)) ?_
 refine bR ([.int .i64 40,.int .i64 4,.int .i64 10]) rfl .no aLX (.cons (.u rfl) rfl (.cons (.u rfl) rfl (.cons (.u rfl) rfl .nil))) rfl (rfl) (bR (Opts.cells (⟨201,150,2,1500,40,4,10⟩ : Opts)) rfl .no aLY (.cons (.u rfl) rfl (.cons (.u rfl) rfl (.cons (.u rfl) rfl (.cons (.u rfl) rfl (.cons (.u rfl) rfl .nil))))) rfl (rfl) (sW rfl rfl rfl rfl aMm .here ?_))
 refine .nil (.code (.ret (aK Tryz.results9 (.cell rfl (fun w hw=>bW mQ (RdN.own .here) ((by first|exact qE|exact qL|rfl)) hw) .nil) ?_)))
 exact ⟨rfl,rfl⟩
theorem aEk (G:PM):Ct Tryz.prog 9 ([V 100#8]:List Value).toArray G [] (fun _ μ' u=>μ'=[]∧u=(⟨101,150,2,1500,40,4,10⟩ : Opts).val):=by
 refine Ct.of Tryz.func9 rfl Tryz.ntmps9 rfl fun w0 hs0=>?_
 refine .seq (aQ rfl rfl ?_)
 refine al rfl aMw ?_; intro b2
 refine .nil (.code (.seq (iV rfl rfl (mV rfl rfl ?_))))
 refine cn (k:=.u8) rfl .no zK (by decide) (.u rfl) ?_; intro m4 em4 lm4
 refine iF ((101:Nat):Int) rfl .no (.u rfl) (.u rfl) rfl (fun _=>by rw [em4]; rfl) (fun _=>eV (by omega) (by omega)) ?_
 refine bR ([.int .i64 40,.int .i64 4,.int .i64 10]) rfl .no aLX (.cons (.u rfl) rfl (.cons (.u rfl) rfl (.cons (.u rfl) rfl .nil))) rfl (rfl) (bR (Opts.cells (⟨101,150,2,1500,40,4,10⟩ : Opts)) rfl .no aLY (.cons (.u rfl) rfl (.cons (.u rfl) rfl (.cons (.u rfl) rfl (.cons (.u rfl) rfl (.cons (.u rfl) rfl .nil))))) rfl (rfl) (sW rfl rfl rfl rfl aMm .here ?_))
 refine .nil (.code (.ret (aK Tryz.results9 (.cell rfl (fun w hw=>bW mQ (RdN.own .here) ((by first|exact qE|exact qL|rfl)) hw) .nil) ?_)))
 exact ⟨rfl,rfl⟩
set_option maxHeartbeats 2000000 in
theorem aTz (G:PM) (hK:RdNP G 6 0 (wa 64 kW)):Ct Tryz.prog 7 ([]:List Value).toArray G [] (fun _ μ' u=>μ'=[]∧u=.bool true):=by
 refine Ct.of Tryz.func7 rfl Tryz.ntmps7 rfl fun w0 hs0=>?_
 refine .g (bR (ba 32 (fun _=>0#8)) rfl .no yR .nil rfl (rfl) ?_)
 refine kV rfl aDL (aB rfl aF) (aSS _) ?_
 refine kc rfl zE (aB rfl (aB rfl (aB rfl (aB rfl aF)))) (aKr 1048576 (fun _=>0#8) (⟨201,150,2,1500,40,4,10⟩ : Opts) 100 _ rfl (by decide) (by decide) hK) ?_
 rintro _ G12 μ12 hG12 ⟨bd,bm,bt,bw,bq,held,now,bg,v,F,clk9,dn9,ov,hD,hfst,rfl,rfl⟩
 obtain ⟨rfl,rfl,hnm,hz,_,_⟩:=aEJ hfst
 have hK:=hK.mono hG12
 refine .p (eX rfl rfl rfl (eX rfl rfl rfl (.g (cP rfl rfl rfl rfl (mV rfl rfl (mv rfl (.f rfl rfl) (.u rfl) (pe rfl (.f rfl rfl) fY (.s rfl) (.u rfl) ?_)))))))
 refine bZ rfl .no (.u rfl) (.s rfl) (.g (cD rfl (fun c1=>?_) (fun c1=>?_)))
 ·have c1k:=c1
  exact Bool.noConfusion (id c1:false=true)
 have c1k:=c1
 try simp only [aD,aH,aE] at c1
 refine .g (bR (Opn.cells oX) rfl .no aWB (.cons (.u rfl) rfl (.cons (.u rfl) rfl (.cons (.u rfl) rfl .nil))) rfl (rfl) ?_)
 refine Go.Tan.b1 rfl uB aGP (.u rfl) rfl rfl (by decide) ?_; intro b23
 refine bR (EvD.cells (⟨1#8,((2:Nat):Int),[oX],false,[],[],0#64,0,[],[],[]⟩ : EvD) ((⟨some ⟨b23,0,none⟩,1⟩ : Sh).val 1) (.slice none 0 0) (.slice none 0 0)) rfl .no aV0 (.cons (.u rfl) rfl (.cons (.u rfl) rfl (.cons (.u rfl) rfl .nil))) rfl (rfl) (ka rfl (.inr rfl) qF (aB rfl (aB rfl aF)) (fF .here .here .here) (pV fun hle=>aPB bw bd bt bq bg (fun _=>0#8) (⟨201,150,2,1500,40,4,10⟩ : Opts) 100 (.slice none 0 0) (.slice none 0 0) 2 (⟨some ⟨b23,0,none⟩,1⟩ : Sh) [oX] false _ (fD (xs:=[oX]) (bU _ _ _) (fun _ _=>rfl) (Nat.le_refl 1)) (.inl rfl) okX (by decide) rfl rfl) ?_)
 rintro _ G25 μ25 hG25 ⟨h2,s2,hsW,hsS,rfl,rfl⟩
 have hK:=hK.mono hG25
 refine al rfl iP ?_; intro b3
 refine sw rfl (.u rfl) (.u rfl) rfl fN .here rfl (Rep.one _ rfl rfl) ?_
 refine .g (ka rfl (.inr rfl) aDD (aB rfl aF) (dI aC aC) (cX fun G1 hle1 h1=>aVY bw bd bt bg (fun _=>0#8) (⟨201,150,2,1500,40,4,10⟩ : Opts) 100 _ _ h2 [⟨2,s2,[oX],false⟩] _ h1 (hsW.mono hle1) (show 1≤100 by decide)) ?_)
 rintro v27 G27 μ27 hG27 ⟨ν9,rfl,v9,ov9,rfl,rfl⟩
 rw [show List.map Wtg.c [(⟨2,s2,[oX],false⟩ : Wtg)]=[2] from rfl]
 have hK:=hK.mono hG27
 have hsW:=hsW.mono hG27
 have hsS:=hsS.mono hG27
 refine .g (bR (EvD.cells eP (.slice none 0 0) (.slice none 0 0) (.slice none 0 0)) rfl .no aCz (.cons (.u rfl) rfl .nil) rfl (rfl) (ka rfl (.inr rfl) qF (aB rfl (aB rfl aF)) (aEc .here .here aI aI aI bE bE) (aPA bw bg bq bm 1048576 bd bt held now (fun _=>0#8) (⟨201,150,2,1500,40,4,10⟩ : Opts) v F h2 s2 _ hD hnm hz (by decide) (by decide) (by decide) hsW hsS hK (.slice none 0 0) (.slice none 0 0) (.slice none 0 0) rfl rfl rfl) ?_))
 rintro _ G30 μ30 hG30 ⟨oa,hd,bb,cap,sz,F4,hsd,rfl,rfl⟩
 refine al rfl iP ?_; intro b5
 refine sw rfl (.u rfl) (.u rfl) rfl fN .here rfl (Rep.one _ rfl rfl) ?_
 refine .g (bR (EvD.cells eG (.slice none 0 0) (.slice none 0 0) (.slice none 0 0)) rfl .no aV1 (.cons (.u rfl) rfl (.cons (.u rfl) rfl (.cons (.u rfl) rfl .nil))) rfl (rfl) (ka rfl (.inr rfl) qF (aB rfl (aB rfl aF)) (jF aC aI dK dK) (aO8 bw bq bg bd bt held now bb cap sz (fun _=>0#8) (⟨201,150,2,1500,40,4,10⟩ : Opts) _ (.slice none 0 0) (.slice none 0 0) (.slice none 0 0) rfl rfl rfl) ?_))
 rintro _ G33 μ33 hG33 ⟨rfl,rfl⟩
 have hsd:=hsd.mono hG33
 refine al rfl iP ?_; intro b6
 refine sw rfl (.u rfl) (.u rfl) rfl fN .here rfl (Rep.one _ rfl rfl) ?_
 refine .g (bR (EvD.cells (⟨11#8,0,[],false,[],[],0#64,0,[],[],[]⟩ : EvD) (.slice none 0 0) (.slice none 0 0) (.slice none 0 0)) rfl .no aCz (.cons (.u rfl) rfl .nil) rfl (rfl) (ka rfl (.inr rfl) qF (aB rfl (aB rfl aF)) (fF aC mK aC) (aHS bw bd bt bq bg (fun _=>0#8) (⟨201,150,2,1500,40,4,10⟩ : Opts) 100 oa { iD bd bt (fun _=>0#8) (⟨201,150,2,1500,40,4,10⟩ : Opts) 1#64 held now with lg:=⟨⟨1#8,0#8,0#64,1#64,1#64⟩,1#64,false⟩,seq:=(0#64+BitVec.ofInt 64 ((1:Nat):Int)) } _ (.slice none 0 0) (.slice none 0 0) (.slice none 0 0) rfl rfl rfl) ?_))
 rintro _ G36 μ36 hG36 ⟨rfl,rfl⟩
 have hsd:=hsd.mono hG36
 refine al rfl iP ?_; intro b7
 refine sw rfl (.u rfl) (.u rfl) rfl fN .here rfl (Rep.one _ rfl rfl) ?_
 refine .g (bR (EvD.cells (⟨2#8,0,[],false,[],[],0#64,0,[],[],[]⟩ : EvD) (.slice none 0 0) (.slice none 0 0) (.slice none 0 0)) rfl .no aCz (.cons (.u rfl) rfl .nil) rfl (rfl) (ka rfl (.inr rfl) qF (aB rfl (aB rfl aF)) (cO aC) (cX fun G1 hle1 h1=>aPD bw bd bt (fun _=>0#8) (⟨201,150,2,1500,40,4,10⟩ : Opts) 100 _ h1) ?_))
 rintro _ G39 μ39 hG39 ⟨ν5,rfl,rfl,rfl⟩
 have hsd:=hsd.mono hG39
 refine al rfl iP ?_; intro b8
 refine sw rfl (.u rfl) (.u rfl) rfl fN .here rfl (Rep.one _ rfl rfl) ?_
 refine .nil (.code (.seq ?_))
 refine rN (.there oS) (fun _ _=>rfl) (by intro b hb; cases hb) ?_; intro GfRO hRO hleRO evRO hsRO; subst evRO
 have hsd:=hsd.mono hleRO
 refine .g (fZ rfl lW rfl (lO rfl jA rfl (.there oS) rfl ?_))
 refine cP rfl rfl rfl rfl (mV rfl rfl (mv rfl (.t rfl rfl) (.u rfl) (ln rfl (.t rfl rfl) wI (.u rfl) (cp rfl (.t rfl rfl) (.u rfl) (.u rfl) rfl (bL rfl .no (.u rfl) (.u rfl) (mV rfl rfl (mv rfl (.t rfl rfl) (.u rfl) (ih rfl (.t rfl rfl) aDZ (.u rfl) (.u rfl) (by omega) (fun _=>by decide) (fun _=>hsRO.nn (k:=0) (by first|omega|(simp only [Bool.and_eq_true,decide_eq_true_eq] at hc; omega)|(simp only [List.length_cons,List.length_nil]; omega))) ?_))))))))
 refine ld rfl (.t rfl rfl) cJ (.u rfl) (fun _=>(hsRO.at (j:=(0:Int)) (k:=0) rfl rfl 0 _ rfl).rd) ?_
 refine cp rfl (.t rfl rfl) (.u rfl) (.u rfl) rfl (bL rfl .no (.u rfl) (.u rfl) (.p (fz rfl (.t rfl rfl) zN (.u rfl) (ld rfl (.t rfl rfl) aLO (.u rfl) (fun _=>Rd.own iL rfl) ?_))))
 refine ln rfl (.t rfl rfl) aXs (.u rfl) (cp rfl (.t rfl rfl) (.u rfl) (.u rfl) rfl (bL rfl .no (.u rfl) (.u rfl) (.p (fz rfl (.t rfl rfl) zN (.u rfl) (ld rfl (.t rfl rfl) aLO (.u rfl) (fun _=>Rd.own iL rfl) ?_)))))
 refine ih rfl (.t rfl rfl) aGG (.u rfl) (.u rfl) (by omega) (fun _=>by decide) (fun _=>hsd.nn (k:=0) (by first|omega|(simp only [Bool.and_eq_true,decide_eq_true_eq] at hc; omega)|(simp only [List.length_cons,List.length_nil]; omega))) ?_
 refine lA rfl (.t rfl rfl) aVk (.u rfl) (fun _=>(hsd.at (j:=(0:Int)) (k:=0) rfl rfl).rd) (fun _=>rfl) ?_
 refine bR (aAB ((2:Int),(0:Int))) rfl (.t rfl rfl) aWC (.cons (.u rfl) rfl .nil) rfl (rfl) ?_
 refine eqC (true) rfl (.t rfl rfl) aWT (.u rfl) (.u rfl) (fun _=>.cons (.int (by decide) (by decide)) (.cons (.int (by decide) (by decide)) .nil)) (fun _=>.cons (.int (by decide) (by decide)) (.cons (.int (by decide) (by decide)) .nil)) (fun _=>⟨fun _=>rfl,fun _=>rfl⟩) ?_
 refine bL rfl .no (.u rfl) (.u rfl) (.p (fz rfl (.t rfl rfl) aM6 (.u rfl) (ld rfl (.t rfl rfl) cW (.u rfl) (fun _=>Rd.own bE rfl) ?_)))
 refine cs rfl (.t rfl rfl) (.u rfl) (.u rfl) rfl (vP true (by kernel_rfl) ?_)
 refine bL rfl .no (.u rfl) (.u rfl) (.p (fz rfl (.t rfl rfl) aM7 (.u rfl) (ld rfl (.t rfl rfl) kX (.u rfl) (fun _=>Rd.own bE rfl) ?_)))
 refine bL rfl .no (.u rfl) (.u rfl) (.p (fz rfl (.t rfl rfl) lW (.u rfl) (ld rfl (.t rfl rfl) jA (.u rfl) (fun _=>Rd.own aI rfl) ?_)))
 refine cp rfl (.t rfl rfl) (.u rfl) (.u rfl) rfl (bL rfl .no (.u rfl) (.u rfl) (.p (fz rfl (.t rfl rfl) lW (.u rfl) (ld rfl (.t rfl rfl) jA (.u rfl) (fun _=>Rd.own .here rfl) ?_))))
 refine cp rfl (.t rfl rfl) (.u rfl) (.u rfl) rfl (bL rfl .no (.u rfl) (.u rfl) (mV rfl rfl (mv rfl (.t rfl rfl) (.u rfl) (bR (EvD.cells EvD.zero (.slice none 0 0) (.slice none 0 0) (.slice none 0 0)) rfl (.t rfl rfl) aVz .nil rfl (rfl) (nG rfl (.t rfl rfl) (.inr rfl) qF (aB rfl (aB rfl aF)) (cO aC) (cX fun G1 hle1 h1=>aO9 bw bd bt (fun _=>0#8) (⟨201,150,2,1500,40,4,10⟩ : Opts) 100 _ h1) ?_)))))
 rintro _ G90 μ90 hG90 ⟨ν6,rfl,rfl,rfl⟩
 refine fdV rfl (.t rfl rfl) aFf (.u rfl) (fun _=>rfl) ?_
 refine cp rfl (.t rfl rfl) (.u rfl) (.u rfl) rfl (bL rfl .no (.u rfl) (.u rfl) (mV rfl rfl (mv rfl (.t rfl rfl) (.u rfl) (nG rfl (.t rfl rfl) (.inr rfl) aDC (aB rfl aF) (cO .here) (cX fun G1 hle1 h1=>aKm bw bd bt (fun _=>0#8) (⟨201,150,2,1500,40,4,10⟩ : Opts) 100 (.pointer none) (.pointer none) _ h1) ?_))))
 rintro _ G96 μ96 hG96 ⟨ν7,rfl,rfl,rfl⟩
 refine hY rfl (.t rfl rfl) mX (.u rfl) (.u rfl) ?_
 refine bL rfl .no (.u rfl) (.u rfl) (aS rfl rfl (.nc (.ret (aK Tryz.results7 (.tmp rfl .nil) ?_))))
 exact ⟨rfl,by kernel_rfl⟩
set_option maxHeartbeats 2000000 in
theorem aVR (E:EvD) (vo:Value) (hk hb:Sh) (keep:List Int) (bs:List Y) (G:PM) (hsk:SlR G 1 xA hk keep) (hkl:keep.length≤140737488355328) (hsb:SlR G 1 aN hb bs) (hbl:bs.length≤140737488355328) (ho:vo.oneCell'=true) (hK:RdNP G 6 0 (wa 64 kW)):Ct Tryz.prog 3 ([.agg (EvD.cells E vo (hk.val keep.length) (hb.val bs.length)).toArray]:List Value).toArray G [] (fun _ μ' u=>μ'=[]∧u=.bool true):=by
 refine Ct.of Tryz.func3 rfl Tryz.ntmps3 rfl fun w0 hs0=>?_
 have tq:@BitVec.toNat IntKind.u8.bits E.kind=E.kind.toNat:=rfl
 refine .seq (bB rfl rfl ?_)
 refine bX rfl rfl rfl ?_; intro b1
 refine aS rfl rfl (.nc (.seq ?_))
 refine dL .here (by intro b hb; cases hb) ?_; intro Gfb1 hleb1 hbb1
 have hK:=hK.mono hleb1
 have hsk:=hsk.mono hleb1
 have hsb:=hsb.mono hleb1
 refine .g (kv rfl .no aXm aF (fun _=>aTz _ hK) ?_)
 refine .g (bR (ba 32 (fun _=>0#8)) rfl .no yR .nil rfl (rfl) ?_)
 refine kV rfl aDL (aB rfl aF) (aEk _) ?_
 refine kc rfl zE (aB rfl (aB rfl (aB rfl (aB rfl aF)))) (aKr 1048576 (fun _=>0#8) (⟨101,150,2,1500,40,4,10⟩ : Opts) 100 _ rfl (by decide) (by decide) hK) ?_
 rintro _ G16 μ16 hG16 ⟨bd,bm,bt,bw,bq,held,now,bg,v,F,clk9,dn9,ov,hD,hfst,rfl,rfl⟩
 obtain ⟨rfl,rfl,hnm,hz,_,_⟩:=aEJ hfst
 have hK:=hK.mono hG16
 have hsk:=hsk.mono hG16
 have hsb:=hsb.mono hG16
 have hbb1:=hbb1.mono hG16
 refine .p (eX rfl rfl rfl (eX rfl rfl rfl (.g (cP rfl rfl rfl rfl (mV rfl rfl (mv rfl (.f rfl rfl) (.u rfl) (pe rfl (.f rfl rfl) fY (.s rfl) (.u rfl) ?_)))))))
 refine bZ rfl .no (.u rfl) (.s rfl) (.g (cD rfl (fun c1=>?_) (fun c1=>?_)))
 ·have c1k:=c1
  exact Bool.noConfusion (id c1:false=true)
 have c1k:=c1
 try simp only [aD,aH,aE] at c1
 refine .g (bR (EvD.cells (⟨11#8,0,[],false,[],[],0#64,0,[],[],[]⟩ : EvD) (.slice none 0 0) (.slice none 0 0) (.slice none 0 0)) rfl .no aCz (.cons (.u rfl) rfl .nil) rfl (rfl) (ka rfl (.inr rfl) qF (aB rfl (aB rfl aF)) (fF .here .here .here) (aHS bw bd bt bq bg (fun _=>0#8) (⟨101,150,2,1500,40,4,10⟩ : Opts) 100 none (Db.g3 bd bt (fun _=>0#8) (⟨101,150,2,1500,40,4,10⟩ : Opts) 1#64 held now 0#64) _ (.slice none 0 0) (.slice none 0 0) (.slice none 0 0) rfl rfl rfl) ?_))
 rintro _ G27 μ27 hG27 ⟨rfl,rfl⟩
 have hK:=hK.mono hG27
 have hsk:=hsk.mono hG27
 have hsb:=hsb.mono hG27
 have hbb1:=hbb1.mono hG27
 have hfst:=hfst.mono hG27
 refine .g (lA rfl .no wO (.u rfl) (fun _=>(hbb1.rdn (m:=11) (cs':=EvD.cells E vo (hk.val keep.length) (hb.val bs.length)) (rfl)).rd) (fun _=>rfl) (ka rfl (.inr rfl) qF (aB rfl (aB rfl aF)) (jF .here .here .here .here) (aPC bw bd bm 1048576 bt (fun _=>0#8) (⟨101,150,2,1500,40,4,10⟩ : Opts) 100 E vo hk hb keep bs F _ rfl hD hfst (by decide) (by decide) hsk hkl hsb hbl ho hK) ?_))
 rintro _ G30 μ30 hG30 ⟨x,y,e,m2,o2,ox,oy,hcl,h2o,rfl,rfl⟩
 have hK:=hK.mono hG30
 have hbb1:=hbb1.mono hG30
 refine al rfl iP ?_; intro b6
 refine sw rfl (.u rfl) (.u rfl) rfl fN .here rfl (Rep.one _ rfl rfl) ?_
 refine .g (fA rfl fB rfl (lN rfl bM rfl ((hbb1.rd (rfl)).rd) ?_))
 refine cP rfl rfl rfl rfl (.p (fa rfl (.t rfl rfl) fB (.u rfl) (ld rfl (.t rfl rfl) bM (.s rfl) (fun hc=>(hbb1.rd (rfl)).rd) ?_)))
 refine cp rfl (.t rfl rfl) (.s rfl) (.u rfl) rfl (bL rfl .no (.u rfl) (.s rfl) (.p (fa rfl (.f rfl rfl) fB (.u rfl) (ld rfl (.f rfl rfl) bM (.s rfl) (fun hc=>(hbb1.rd (rfl)).rd) ?_))))
 refine cp rfl (.f rfl rfl) (.s rfl) (.u rfl) rfl (bZ rfl .no (.u rfl) (.s rfl) (.g (cD rfl (fun c2=>?_) (fun c2=>?_))))
 ·have c2k:=c2
  obtain ⟨rfl,rfl,rfl⟩:=hcl (by have h:=c2k; simp at h; unfold clK; simp; omega)
  refine .g (fZ rfl lW rfl (lO rfl jA rfl .here rfl ?_))
  refine cP rfl rfl rfl rfl (mV rfl rfl (mv rfl (Gd.f (b:=false) rfl rfl) (.u rfl) (nG rfl (Gd.f (b:=false) rfl rfl) (.inr rfl) aDC (aB rfl aF) (cO aC) (cX fun G1 hle1 h1=>aKm bw bd bt (fun _=>0#8) (⟨101,150,2,1500,40,4,10⟩ : Opts) 100 _ _ _ h1) ?_)))
  rintro _ G49 μ49 hG49 ⟨ν1,rfl,rfl,rfl⟩
  have hK:=hK.mono hG49
  have hbb1:=hbb1.mono hG49
  refine pn0 rfl (Gd.f (b:=false) rfl rfl) mX (.u rfl) (.u rfl) ?_
  refine bZ rfl .no (.u rfl) (.u rfl) (mV rfl rfl (mv rfl (Gd.f (b:=false) rfl rfl) (.u rfl) (nG rfl (Gd.f (b:=false) rfl rfl) (.inr rfl) aDD (aB rfl aF) (cO .here) (cX fun G1 hle1 h1=>aVX bw bd bt (fun _=>0#8) (⟨101,150,2,1500,40,4,10⟩ : Opts) 100 _ _ h1) ?_)))
  rintro _ G54 μ54 hG54 ⟨ν2,rfl,rfl,rfl⟩
  have hK:=hK.mono hG54
  have hbb1:=hbb1.mono hG54
  refine ln rfl (Gd.f (b:=false) rfl rfl) wI (.u rfl) (cp rfl (Gd.f (b:=false) rfl rfl) (.u rfl) (.u rfl) rfl (bZ rfl .no (.u rfl) (.u rfl) (.g (cD rfl (fun c3=>?_) (fun c3=>?_)))))
  ·have c3k:=c3
   exact Bool.noConfusion (id c3:false=true)
  have c3k:=c3
  try simp only [aD,aH,aE] at c3
  refine .g (bR (ba 32 (fun _=>0#8)) rfl .no yR .nil rfl (rfl) ?_)
  refine kV rfl aDL (aB rfl aF) (aEk _) ?_
  refine kV rfl zE (aB rfl (aB rfl (aB rfl (aB rfl aF)))) (aKq 10 (fun _=>0#8) (⟨101,150,2,1500,40,4,10⟩ : Opts) 100 _ rfl (by decide) (by decide) hK) ?_
  refine .p (eX rfl rfl rfl (eX rfl rfl rfl (.g (bR (ba 32 (fun _=>0#8)) rfl .no yR .nil rfl (rfl) ?_))))
  refine bR (Opts.cells (⟨0,0,0,0,0,0,0⟩ : Opts)) rfl .no aM9 .nil rfl (rfl) (kV rfl zE (aB rfl (aB rfl (aB rfl (aB rfl aF)))) (aKp 1048576 (fun _=>0#8) (⟨0,0,0,0,0,0,0⟩ : Opts) 100 _ rfl (by decide)) ?_)
  refine .p (eX rfl rfl rfl (eX rfl rfl rfl (aS rfl rfl (aS rfl rfl (.nc (.seq (Wk.rg [0,1,2,3,4,5,6,7,8,9,10,11,12,13,14,15,16,17,18,19,20,21,22,23,24,25,26,27,28,29,30,31,32,33,34,35,36,37,38,39,40,41,42,43,44,45,46,47,48,49,50,51,52,53,54,55,56] rfl rfl (mV rfl rfl (mV rfl rfl (mv rfl (.t rfl rfl) (.u rfl) (lA rfl (.t rfl rfl) wO (.u rfl) (fun _=>(hbb1.rdn (m:=11) (cs':=EvD.cells E vo (hk.val keep.length) (hb.val bs.length)) (rfl)).rd) (fun _=>rfl) (kv rfl (.t rfl rfl) qF (aB rfl (aB rfl aF)) (fun _=>aK2 E vo _ _ ho rfl rfl _) ?_))))))))))))
  refine fdV rfl (.t rfl rfl) aFf (.u rfl) (fun _=>rfl) ?_
  refine cp rfl (.t rfl rfl) (.u rfl) (.u rfl) rfl (bL rfl .no (.u rfl) (.u rfl) (mV rfl rfl (mv rfl (.t rfl rfl) (.u rfl) (kv rfl (.t rfl rfl) aDD (aB rfl aF) (fun _=>aK4 _) ?_))))
  refine ln rfl (.t rfl rfl) wI (.u rfl) (cp rfl (.t rfl rfl) (.u rfl) (.u rfl) rfl (bL rfl .no (.u rfl) (.u rfl) (mV rfl rfl (mv rfl (.t rfl rfl) (.u rfl) (kv rfl (.t rfl rfl) aDC (aB rfl aF) (fun _=>aK0 _) ?_)))))
  refine hY rfl (.t rfl rfl) mX (.u rfl) (.u rfl) ?_
  refine bL rfl .no (.u rfl) (.u rfl) (mV rfl rfl (mv rfl (.t rfl rfl) (.u rfl) (kv rfl (.t rfl rfl) aDE (aB rfl aF) (fun _=>aK1 _) ?_)))
  refine hY rfl (.t rfl rfl) iY (.u rfl) (.u rfl) ?_
  refine bL rfl .no (.u rfl) (.u rfl) (mV rfl rfl (mv rfl (.t rfl rfl) (.u rfl) (kv rfl (.t rfl rfl) aDF (aB rfl aF) (fun _=>aK3 _) ?_)))
  refine hY rfl (.t rfl rfl) sC (.u rfl) (.u rfl) ?_
  refine bL rfl .no (.u rfl) (.u rfl) (mV rfl rfl (mv rfl (.t rfl rfl) (.u rfl) (hY rfl (.t rfl rfl) fY (.u rfl) (.u rfl) ?_)))
  refine bL rfl .no (.u rfl) (.u rfl) (mV rfl rfl (mv rfl (.t rfl rfl) (.u rfl) (cp rfl (.t rfl rfl) (.u rfl) (.u rfl) rfl (bL rfl .no (.u rfl) (.u rfl) (mV rfl rfl (mv rfl (.t rfl rfl) (.u rfl) (hY rfl (.t rfl rfl) fY (.u rfl) (.u rfl) ?_)))))))
  refine bL rfl .no (.u rfl) (.u rfl) (mV rfl rfl (mv rfl (.t rfl rfl) (.u rfl) (cp rfl (.t rfl rfl) (.u rfl) (.u rfl) rfl (bL rfl .no (.u rfl) (.u rfl) (mV rfl rfl (mv rfl (.t rfl rfl) (.u rfl) (nG rfl (.t rfl rfl) (.inr rfl) aDE (aB rfl aF) (cO .here) (cX fun G1 hle1 h1=>aKn bw bd bt (fun _=>0#8) (⟨101,150,2,1500,40,4,10⟩ : Opts) 100 _ _ _ h1) ?_)))))))
  rintro _ G117 μ117 hG117 ⟨ν3,rfl,rfl,rfl⟩
  have hK:=hK.mono hG117
  have hbb1:=hbb1.mono hG117
  refine pn rfl (.t rfl rfl) iY (.u rfl) (.u rfl) ?_
  refine bL rfl .no (.u rfl) (.u rfl) (mV rfl rfl (mv rfl (.t rfl rfl) (.u rfl) (nG rfl (.t rfl rfl) (.inr rfl) aDF (aB rfl aF) (cO .here) (cX fun G1 hle1 h1=>aKt bw bd bt (fun _=>0#8) (⟨101,150,2,1500,40,4,10⟩ : Opts) 100 _ _ _ h1) ?_)))
  rintro _ G122 μ122 hG122 ⟨ν4,rfl,rfl,rfl⟩
  have hK:=hK.mono hG122
  have hbb1:=hbb1.mono hG122
  refine nG rfl (.t rfl rfl) (.inr rfl) aL2 (aB rfl aF) (cO aI) (cX fun G1 hle1 h1=>aKM bt m2 o2 _ h1) ?_
  rintro _ G123 μ123 hG123 ⟨ν5,rfl,rfl,rfl⟩
  have hK:=hK.mono hG123
  have hbb1:=hbb1.mono hG123
  refine cp rfl (.t rfl rfl) (.u rfl) (.u rfl) rfl (vP true (decide_eq_true (Int.ofNat_le.2 h2o)) ?_)
  refine bL rfl .no (.u rfl) (.u rfl) (aS rfl rfl (.nc (.ret (aK Tryz.results3 (.tmp rfl .nil) ?_))))
  exact ⟨rfl,rfl⟩
 have c2k:=c2
 skip
 refine .g (bR (ba 32 (fun _=>0#8)) rfl .no yR .nil rfl (rfl) ?_)
 refine kV rfl aDL (aB rfl aF) (aEk _) ?_
 refine kV rfl zE (aB rfl (aB rfl (aB rfl (aB rfl aF)))) (aKq 10 (fun _=>0#8) (⟨101,150,2,1500,40,4,10⟩ : Opts) 100 _ rfl (by decide) (by decide) hK) ?_
 refine .p (eX rfl rfl rfl (eX rfl rfl rfl (.g (bR (ba 32 (fun _=>0#8)) rfl .no yR .nil rfl (rfl) ?_))))
 refine bR (Opts.cells (⟨0,0,0,0,0,0,0⟩ : Opts)) rfl .no aM9 .nil rfl (rfl) (kV rfl zE (aB rfl (aB rfl (aB rfl (aB rfl aF)))) (aKp 1048576 (fun _=>0#8) (⟨0,0,0,0,0,0,0⟩ : Opts) 100 _ rfl (by decide)) ?_)
 refine .p (eX rfl rfl rfl (eX rfl rfl rfl (aS rfl rfl (aS rfl rfl (.nc (.seq (Wk.rg [0,1,2,3,4,5,6,7,8,9,10,11,12,13,14,15,16,17,18,19,20,21,22,23,24,25,26,27,28,29,30,31,32,33,34,35,36,37,38,39,40,41,42,43,44,45,46,47,48,49,50,51,52,53,54,55,56] rfl rfl (mV rfl rfl (mV rfl rfl (mv rfl (.t rfl rfl) (.u rfl) (lA rfl (.t rfl rfl) wO (.u rfl) (fun _=>(hbb1.rdn (m:=11) (cs':=EvD.cells E vo (hk.val keep.length) (hb.val bs.length)) (rfl)).rd) (fun _=>rfl) (kv rfl (.t rfl rfl) qF (aB rfl (aB rfl aF)) (fun _=>aK2 E vo _ _ ho rfl rfl _) ?_))))))))))))
 refine fdV rfl (.t rfl rfl) aFf (.u rfl) (fun _=>rfl) ?_
 refine cp rfl (.t rfl rfl) (.u rfl) (.u rfl) rfl (bL rfl .no (.u rfl) (.u rfl) (mV rfl rfl (mv rfl (.t rfl rfl) (.u rfl) (kv rfl (.t rfl rfl) aDD (aB rfl aF) (fun _=>aK4 _) ?_))))
 refine ln rfl (.t rfl rfl) wI (.u rfl) (cp rfl (.t rfl rfl) (.u rfl) (.u rfl) rfl (bL rfl .no (.u rfl) (.u rfl) (mV rfl rfl (mv rfl (.t rfl rfl) (.u rfl) (kv rfl (.t rfl rfl) aDC (aB rfl aF) (fun _=>aK0 _) ?_)))))
 refine hY rfl (.t rfl rfl) mX (.u rfl) (.u rfl) ?_
 refine bL rfl .no (.u rfl) (.u rfl) (mV rfl rfl (mv rfl (.t rfl rfl) (.u rfl) (kv rfl (.t rfl rfl) aDE (aB rfl aF) (fun _=>aK1 _) ?_)))
 refine hY rfl (.t rfl rfl) iY (.u rfl) (.u rfl) ?_
 refine bL rfl .no (.u rfl) (.u rfl) (mV rfl rfl (mv rfl (.t rfl rfl) (.u rfl) (kv rfl (.t rfl rfl) aDF (aB rfl aF) (fun _=>aK3 _) ?_)))
 refine hY rfl (.t rfl rfl) sC (.u rfl) (.u rfl) ?_
 refine bL rfl .no (.u rfl) (.u rfl) (mV rfl rfl (mv rfl (.t rfl rfl) (.u rfl) (hY rfl (.t rfl rfl) fY (.u rfl) (.u rfl) ?_)))
 refine bL rfl .no (.u rfl) (.u rfl) (mV rfl rfl (mv rfl (.t rfl rfl) (.u rfl) (cp rfl (.t rfl rfl) (.u rfl) (.u rfl) rfl (bL rfl .no (.u rfl) (.u rfl) (mV rfl rfl (mv rfl (.t rfl rfl) (.u rfl) (hY rfl (.t rfl rfl) fY (.u rfl) (.u rfl) ?_)))))))
 refine bL rfl .no (.u rfl) (.u rfl) (mV rfl rfl (mv rfl (.t rfl rfl) (.u rfl) (cp rfl (.t rfl rfl) (.u rfl) (.u rfl) rfl (bL rfl .no (.u rfl) (.u rfl) (mV rfl rfl (mv rfl (.t rfl rfl) (.u rfl) (nG rfl (.t rfl rfl) (.inr rfl) aDE (aB rfl aF) (cO aC) (cX fun G1 hle1 h1=>aKn bw bd bt (fun _=>0#8) (⟨101,150,2,1500,40,4,10⟩ : Opts) 100 _ _ _ h1) ?_)))))))
 rintro _ G117 μ117 hG117 ⟨ν3,rfl,rfl,rfl⟩
 refine pn rfl (.t rfl rfl) iY (.u rfl) (.u rfl) ?_
 refine bL rfl .no (.u rfl) (.u rfl) (mV rfl rfl (mv rfl (.t rfl rfl) (.u rfl) (nG rfl (.t rfl rfl) (.inr rfl) aDF (aB rfl aF) (cO .here) (cX fun G1 hle1 h1=>aKt bw bd bt (fun _=>0#8) (⟨101,150,2,1500,40,4,10⟩ : Opts) 100 _ _ _ h1) ?_)))
 rintro _ G122 μ122 hG122 ⟨ν4,rfl,rfl,rfl⟩
 refine nG rfl (.t rfl rfl) (.inr rfl) aL2 (aB rfl aF) (cO aI) (cX fun G1 hle1 h1=>aKM bt m2 o2 _ h1) ?_
 rintro _ G123 μ123 hG123 ⟨ν5,rfl,rfl,rfl⟩
 refine cp rfl (.t rfl rfl) (.u rfl) (.u rfl) rfl (vP true (decide_eq_true (Int.ofNat_le.2 h2o)) ?_)
 refine bL rfl .no (.u rfl) (.u rfl) (aS rfl rfl (.nc (.ret (aK Tryz.results3 (.tmp rfl .nil) ?_))))
 exact ⟨rfl,rfl⟩
end Go.Proofs.YtoifkgkandfeiaaGreatDoor
namespace Go.Proofs.YtoifkgkandfeiaaGreatDoor
open Go.Tan Go.RowKit Go.ChangeShapes Go.WideShapes Go.ChangeAt
namespace worldClosed
def zArgs:Array Value:=#[.agg ([.int .u8 0]++[.int .i64 0]++[.slice none 0 0]++[.bool false]++List.replicate 2 (.string ByteArray.empty)++[.int .u64 0]++[.int .i64 0]++[.slice none 0 0]++[.string ByteArray.empty]++[.slice none 0 0]:List Value).toArray]
theorem laid_met (os:Os):laidMet Tryz.prog Rows.worldClosedRow.laid ((aEU os).forCall (fun _ _=>0) ⟨#[],zArgs,[]⟩).memory :=
 laidMet_of_run' 8 (by kernel_rfl) (by kernel_rfl)
theorem reads (os:Os) {H:Type} (enc:TypeId×Value→H):∃ places,DataW.whole enc Tryz.prog ((aEU os).forCall (fun _ _=>0) ⟨#[],zArgs,[]⟩).memory Tryz.f3.params.toList Rows.worldClosedSpec.vars false zArgs.toList 8=some ([.agg [.lit (.int .u8 0),.lit (.int .i64 0),.nil,.lit (.bool false),.lit (.string []),.lit (.string []),.lit (.int .u64 0),.lit (.int .i64 0),.nil,.lit (.string []),.nil]],[],places) :=
 ⟨[],by kernel_rfl⟩
set_option maxRecDepth 100000 in
set_option maxHeartbeats 1000000 in
theorem lifted (os:Os) (started:os.Started) (H:Type) (enc:TypeId×Value→H) (F:Stop.Interp) :
  ReturnsInHanded {} Tryz.checked os 3 .any ((OpenSpec.ofChange Rows.worldClosedSpec).preRow enc Tryz.prog Tryz.f3 Rows.worldClosedRow.domain false Rows.worldClosedRow.laid) (((OpenSpec.ofChange Rows.worldClosedSpec).at F).post enc Tryz.prog Tryz.f3 false true false false):=by
 obtain ⟨places,hx⟩:=reads os enc
 refine returnsInHanded_of_row (C:=Tryz.checked) (s:=OpenSpec.ofChange Rows.worldClosedSpec) aUq started (by kernel_rfl) Tryz.func3
  (witness_row_at (enc:=enc) (C:=Tryz.checked) false (aEU os) zArgs rfl (by kernel_rfl) (by kernel_rfl) (by kernel_rfl)
   (OpenSpec.preRow_of_cond 8 hx (by kernel_rfl) (fun k hk=>by cases hk) (by kernel_rfl) (laid_met os))) ?_
 intro W base args ds gs before hval0 hW _ hcond hwt0 hL _ _
 have hval:∀ (j:Nat) t v,Tryz.f3.params[j]? = some t→args[j]? = some v→Value.okWide Tryz.prog W .any base t v:=hval0
 have hW2:DataW.Whole enc Tryz.prog Tryz.f3.params.toList [] false W args.toList ds gs before:=hW
 have hwt:(DataW.weightsEach Tryz.prog (Tryz.f3.params.toList++[]) (ds++gs)).all (·≤reachBytes)=true:=hwt0
 have hW3:DataW.Whole enc Tryz.prog Tryz.f3.params.toList Rows.worldClosedSpec.vars false W args.toList ds gs before:=hW
 show Calls Tryz.prog 3 args W fun e W'=>∃ v,e=.returned v∧Rows.worldClosedSpec.post enc Tryz.prog Tryz.f3 false true false false W args v W'
 have hK:RdNP (fun b=>W.heap[b]?) 6 0 (wa 64 kW):=aUW hL
 obtain ⟨p,q,hA,hV,hq,hfz,hnd⟩:=hW2
 rw [Tryz.params3] at hA hval hwt
 obtain ⟨v0,vs0,d0,ds0,p0,q0,hargs,rfl,rfl,r0,rr⟩:=trodAll_cons hA
 obtain ⟨rfl,rfl,rfl⟩:=trodAll_nil rr
 obtain rfl:args = #[v0]:=by cases args; simp_all
 obtain ⟨rfl,rfl⟩:=trodVars_none hV
 refine aSG aKU hW3 rfl ?_ rfl (by kernel_rfl) Tryz.underlying4 ?_
 ·rw [Tryz.params3]; exact (List.forall_mem_cons.2 ⟨⟨by kernel_rfl,of_decide_eq_true (by kernel_rfl)⟩,List.forall_mem_nil _⟩)
 obtain ⟨e,vo,hk,hb,keep,bs,ha0,o1,s8,l8,s10,l10⟩:=aPS (by decide) (aNL (i:=0) r0 hwt rfl rfl)
 obtain rfl:=aNX Tryz.underlying27 (hval 0 27 v0 rfl rfl) ha0
 exact aVR e vo hk hb keep bs _ s8 l8 s10 l10 o1 hK
theorem c10:(Rows.worldClosedRow.inPlace == Tryz.prog.inPlace 3)=true:=by kernel_rfl
theorem c11:(Rows.worldClosedRow.unfollowed == Tryz.prog.unfollowed 3)=true:=by kernel_rfl
theorem c12:(Rows.worldClosedRow.recurses == Tryz.prog.recurses 3)=true:=by kernel_rfl
theorem c13:(Rows.worldClosedRow.named == Tryz.prog.varsNamed 3)=true:=by kernel_rfl
theorem closed:joinedFacts Tryz.prog 3 Tryz.f3 (OpenSpec.ofChange Rows.worldClosedSpec).bare Rows.worldClosedRow=true :=
 (eI (eI (eI (eI (eI (eI (eI (eI (eI (eI (eI (eI (eI (eI (eI (eI (eI (eI (eI (eI (eI (eI (eI (eI (eI (eI (eI (eI (eI (eI (eI (by kernel_rfl) aKU) aUr) (by kernel_rfl)) (by kernel_rfl)) (by kernel_rfl)) (by kernel_rfl)) (by kernel_rfl)) (by kernel_rfl)) c10) c11) c12) c13) (by kernel_rfl)) (by kernel_rfl)) (by kernel_rfl)) (by kernel_rfl)) (by kernel_rfl)) (by kernel_rfl)) (by kernel_rfl)) (by kernel_rfl)) (by kernel_rfl)) aUp) (by kernel_rfl)) aUo) aUn) (by kernel_rfl)) (by kernel_rfl)) (by kernel_rfl)) (by kernel_rfl)) (by kernel_rfl)) (by kernel_rfl))
theorem said:Rows.WorldClosedSaid :=
 OpenClaim.holds_of_cond 3 Tryz.f3 rfl rfl rfl rfl rfl rfl rfl ⟨rfl,rfl,rfl,rfl,rfl⟩ rfl rfl rfl rfl rfl (by kernel_rfl) Tryz.func3 closed
  (of_decide_eq_true (by kernel_rfl)) (by unfold Func.isWrapper; first|(rw [if_pos (by decide +kernel)]; kernel_rfl) | (rw [if_neg (by decide +kernel)]; exact ⟨rfl,rfl⟩))
  (fun os started H enc _ F=>by rw [OpenClaim.pre_eq_preRow]; exact lifted os started H enc F)
theorem plain (f:FuncId) (fn:Func) (hf:Tryz.pinned.checked.prog.funcNamed "tantalus/tantaluslaw25.WorldClosed" = some f) (hfn:Tryz.pinned.checked.prog.funcs[f]? = some fn) :
  true=Tryz.pinned.checked.prog.looks []∧∀ (j:Nat) t,fn.params[j]? = some t→Tryz.pinned.checked.prog.wantsStandIn t=false:=by
 obtain rfl:f=3:=Option.some.inj ((show Tryz.prog.funcNamed "tantalus/tantaluslaw25.WorldClosed" = some 3 by kernel_rfl).symm.trans hf) |>.symm
 obtain rfl:fn=Tryz.f3:=(Option.some.inj (Tryz.func3.symm.trans hfn)).symm
 refine ⟨by kernel_rfl,fun j t ht=>?_⟩
 rw [Tryz.params3] at ht
 have hm:t∈([27]:List Nat):=by have:=Array.mem_of_getElem? ht; simpa using this
 have hall:∀ t∈([27]:List Nat),Tryz.prog.wantsStandIn t=false:=by
  intro t ht
  simp only [List.mem_cons,List.not_mem_nil,or_false] at ht
  rcases ht with rfl
  kernel_rfl
 exact hall t hm
end worldClosed
end Go.Proofs.YtoifkgkandfeiaaGreatDoor
