/- Lemmas and contracts of functions, joined. -/
import Derived.Test.YtoifkgkandfeiaaGreatDoorDc3
import Derived.Shelf.SlIter.Nil
import Derived.Shelf.SlIter.Sorted
import Derived.Shelf.SortM.Plain
import Derived.Shelf.SortM.SortNone
set_option linter.unusedSimpArgs false
set_option linter.unusedVariables false
set_option linter.unusedSectionVars false
namespace Go.Proofs.YtoifkgkandfeiaaGreatDoor
open Go.Tan Go.RowKit
theorem nB:bL Tryz.prog 223=some (249,16,144):=by kernel_rfl
theorem aGv:dV Tryz.prog 247=some (wA (fun _=>0)):=by kernel_rfl
theorem mC:aQ Tryz.prog 225 0=some 0:=by kernel_rfl
theorem mZ:bY Tryz.prog 223=some none:=by kernel_rfl
theorem wH:aQ Tryz.prog 249 1=some 4:=by kernel_rfl
theorem nW:fN Tryz.prog 247=some (12,3,1):=by kernel_rfl
theorem aGJ:aQ Tryz.prog 249 0=some 0:=by kernel_rfl
theorem aYK:aJ Tryz.prog 306=true:=by kernel_rfl
theorem aLm:bY Tryz.prog 247=some (some 12):=by kernel_rfl
theorem aMy:cI Tryz.prog 247=some 12:=by kernel_rfl
theorem aDR:nN Tryz.prog 153=true:=by kernel_rfl
theorem aMa:aJ Tryz.prog 213=true:=by kernel_rfl
theorem aMv:(bL Tryz.prog 223).isSome=true:=by kernel_rfl
theorem aGI:aQ Tryz.prog 225 1=some 1:=by kernel_rfl
theorem aMU:aJ Tryz.prog 148=true:=by kernel_rfl
theorem aGx:(Tryz.prog.info? 249).bind (·.zero)=some (.agg #[.string ByteArray.empty,.int .u64 0,.int .u8 0,.string ByteArray.empty,.int .i64 0,.int .i64 0,.int .i64 0,.int .i64 0,.int .i64 0,.int .i64 0,.int .i64 0,.int .i64 0,.int .i64 0,.int .i64 0,.int .i64 0,.int .i64 0]):=by kernel_rfl
theorem aWW:cX Tryz.prog 225 [0]=some ([.slice none 0 0,.int .i64 0],[(0,1)]):=by kernel_rfl
theorem aWY:cX Tryz.prog 249 [0]=some ([.string ByteArray.empty,.int .u64 0,.int .u8 0,.string ByteArray.empty,.int .i64 0,.int .i64 0,.int .i64 0,.int .i64 0,.int .i64 0,.int .i64 0,.int .i64 0,.int .i64 0,.int .i64 0,.int .i64 0,.int .i64 0,.int .i64 0],[(0,4)]):=by kernel_rfl
theorem aY6:cI Tryz.prog 223=some 1:=by kernel_rfl
theorem aT0 (e:Ent) (us:ByteArray) (q:BitVec 64) (G:PM):Ct Tryz.prog 306 ([e.val,.string us,uv .u64 q]:List Value).toArray G [] (fun _ μ' u=>μ'=[]∧u=.bool (pD e us q)):=by
 refine Ct.of Tryz.func306 rfl Tryz.ntmps306 rfl fun w0 hs0=>?_
 refine .seq (bF rfl rfl ?_)
 refine bX rfl rfl rfl ?_; intro b3
 refine .g (fZ rfl mB rfl (lO rfl cQ rfl .here (by first|exact aK rfl|rfl) ?_))
 refine .p (cs rfl .no (.u rfl) (.u rfl) rfl (.p (fz rfl (.f rfl rfl) mB (.u rfl) (ld rfl (.f rfl rfl) cQ (.s rfl) (fun hc=>Rd.own .here (by first|exact aK rfl|rfl)) ?_))))
 refine mv rfl (.f rfl rfl) (.u rfl) (cs rfl (.f rfl rfl) (.s rfl) (.s rfl) rfl (mv rfl (.f rfl rfl) (.s rfl) (fz rfl (.tc rfl rfl) tP (.u rfl) (ld rfl (.tc rfl rfl) bI (.s rfl) (fun hc=>Rd.own .here (by first|exact aK rfl|rfl)) ?_))))
 refine mv rfl (.tc rfl rfl) (.u rfl) (cp rfl (.tc rfl rfl) (.s rfl) (.s rfl) rfl (cW rfl (.f rfl rfl) (.s rfl) (.s rfl) (cF rfl .no (.u rfl) (.s rfl) (aS rfl rfl (.nc (.ret (aN Tryz.results306 (.tmp rfl .nil) ?_)))))))
 exact ⟨rfl,congrArg Value.bool (by unfold pD lt; simp [gt_iff_lt]; rfl)⟩
theorem aKZ (bl:Nat) (h:Sh) (xs:List Nd) (sz:Value) (G:PM) (hbl:PB G bl (cl [h.val xs.length,sz] 225)) (hs:SlR G 16 Nd.cells h xs) (w:Nat→Nat) (us:ByteArray) (q:BitVec 64) (hW:WayN xs us q w):Ct Tryz.prog 213 ([.pointer (some ⟨bl,0,none⟩),.string us,uv .u64 q]:List Value).toArray G [] (fun _ μ' u=>μ'=[]∧u=.agg (wA w).toArray):=by
 refine Ct.of Tryz.func213 rfl Tryz.ntmps213 rfl fun w0 hs0=>?_
 refine .seq (aP rfl rfl ?_)
 refine al rfl aGv ?_; intro b6
 refine .nil (.code (.seq (aP rfl rfl ?_)))
 refine al rfl aGv ?_; intro b7
 refine .nil (.code (.seq (aP rfl rfl (aS rfl rfl (.nc (.seq (.seq (aP rfl rfl (aS rfl rfl (.nc (.block ?_)))))))))))
 refine aV (α:=Nat) (fun k=>[(8,true,.int .i64 ((w k:Nat):Int)),(9,true,.int .i64 ((k:Int)-1))]) (fun k=>[.blk b7 (cl (wA (wK w k)) 247)])
  (fun k Gl=>(k≤12)) (fun k=>k) 12 [(0,true,_),(1,true,_),(2,true,_),(6,true,_),(7,true,_)] [_]
  (dY rfl (by rw [hW.top]; rfl) (aA rfl (aA rfl (aA rfl (aA rfl (aA rfl (aA rfl eZ)))))))
  (mS .here rfl (mS .here rfl mN)) ?_ ?_
 ·(try dsimp only)<;>(first|omega|rfl|assumption|(simp; done))
 intro k N0 Gl0 hN0 hGl0 hF0
 try dsimp only at hF0 hN0 ⊢
 have hk:=hF0
 have hbl:=hbl.mono hGl0
 have hs:=hs.mono hGl0
 refine .g (cP rfl rfl rfl rfl (.g (cD rfl (fun c1=>?_) (fun c1=>?_))))
 ·have c1k:=c1
  try simp only [aD,aL,aE] at c1
  refine .g (nC rfl rfl (fA rfl mC rfl (lN rfl mZ rfl ((hbl.rd (rfl)).rd) ?_)))
  refine mV rfl rfl (mV rfl rfl (ih rfl .no nB (.u rfl) (.u rfl) (by omega) (fun _=>by have:=hW.lt k (by omega); omega) (fun _=>hs.nn (k:=w k) (hW.lt k (by omega))) ?_))
  refine fA rfl wH rfl (iW rfl nW rfl rfl ?_)
  refine lN rfl bA rfl ((aDe hs (a:=w k) (k:=k-1) (hW.lt k (by omega)) (by omega) (by first|omega|(simp; omega))).rd) ?_
  refine aS rfl rfl (.nc (.block ?_))
  refine aV (α:=Nat) (fun p=>[(8,true,.int .i64 ((wq w (k-1) p:Nat):Int)),(10,true,.int .i64 ((cU xs (wq w (k-1) p) (k-1):Nat):Int))]) (fun _=>[])
   (fun p Gl=>(p=0∨p=1∧uY xs us q (w (k-1)) (k-1))) (fun p=>1-p) 0 [(0,true,_),(1,true,_),(2,true,_),(6,true,_),(7,true,_),(9,true,_)] [_,_]
   (dY rfl (by rw [wq,if_pos rfl,show k-1+1=k by omega]) (dY rfl (by rw [wq,if_pos rfl,show k-1+1=k by omega]) (aA rfl (aA rfl (aA rfl (aA rfl (aA rfl (aA rfl eZ))))))))
   (mS .here rfl (mS .here rfl mN)) ?_ ?_
  ·(try dsimp only)<;>(first|omega|rfl|assumption|(simp; done))
  intro p N1 Gl1 hN1 hGl1 hF1
  try dsimp only at hF1 hN1 ⊢
  have hp:=hF1
  have hbl:=hbl.mono hGl1
  have hs:=hs.mono hGl1
  have hwl:wq w (k-1) p<xs.length:=by unfold wq; split; exact hW.lt _ (by omega); exact hW.lt _ (by omega)
  have hwq1:wq w (k-1) 1<xs.length:=hW.lt _ (by omega)
  have hnx:=hW.inb _ hwl (k-1) (by omega)
  refine .g (cP rfl rfl rfl rfl (mV rfl rfl (mv rfl (.t rfl rfl) (.u rfl) (nc rfl (.t rfl rfl) (.s rfl) (fa rfl (.t rfl rfl) mC (.s rfl) (ld rfl (.t rfl rfl) mZ (.s rfl) (fun hc=>(hbl.rd (rfl)).rd) ?_))))))
  refine mv rfl (.t rfl rfl) (.u rfl) (ih rfl (.t rfl rfl) nB (.s rfl) (.s rfl) (by omega) (by omega) (fun _=>hs.nn (k:=cU xs (wq w (k-1) p) (k-1)) hnx) ?_)
  refine fa rfl (.t rfl rfl) aGJ (.s rfl) (lA rfl (.t rfl rfl) mY (.s rfl) (fun hc=>(aDd hs (a:=cU xs (wq w (k-1) p) (k-1)) hnx (by simp)).rd) (fun _=>Ent.len _) ?_)
  refine mv rfl (.t rfl rfl) (.u rfl) (mv rfl (.t rfl rfl) (.u rfl) (kv rfl (.t rfl rfl) aYK (Eva.cons (.s rfl) (Eva.cons (.s rfl) (Eva.cons (.s rfl) aF))) (fun hc=>aT0 _ _ _ _) ?_))
  refine cW rfl .no (.u rfl) (.s rfl) (.g (cD rfl (fun c2=>?_) (fun c2=>?_)))
  ·have c2k:=c2
   obtain ⟨hp0,hstp,hwk⟩:=aVc hW (by omega) hp c2
   subst hp0
   have hwe:cU xs (wq w (k-1) 0) (k-1)=wq w (k-1) 1:=hwk.symm
   refine .g (nC rfl rfl (fA rfl mC rfl (lN rfl mZ rfl ((hbl.rd (rfl)).rd) ?_)))
   refine mV rfl rfl (mV rfl rfl (ih rfl .no nB (.u rfl) (.u rfl) (by omega) (fun _=>by have:=hnx; omega) (fun _=>hs.nn (k:=cU xs (wq w (k-1) 0) (k-1)) (hnx)) ?_))
   refine fA rfl wH rfl (iW rfl nW rfl rfl ?_)
   refine ld rfl .no bA (.u rfl) (fun _=>(aDe hs (a:=cU xs (wq w (k-1) 0) (k-1)) (k:=k-1) (hnx) (by omega) (by first|omega|(simp; omega))).rd) ?_
   refine .g (aT 1 ?_ ?_ ?_ ?_ ?_)
   ·exact (dY rfl (by rw [hwe]) (dY rfl (by rw [hwe]) (aA rfl (aA rfl (aA rfl (aA rfl (aA rfl (aA rfl eZ))))))))
   ·exact (mS .here rfl (mS .here rfl mN))
   ·first|omega|(dsimp only; omega)
   ·exact hGl1
   (try dsimp only)<;>(exact .inr ⟨rfl,hstp⟩)
  have c2k:=c2
  have hex9:wq w (k-1) p=w (k-1):=aVb hW (by omega) hp c2
  refine .g (iW rfl nW rfl rfl ?_)
  refine s1 rfl (.u rfl) (.u rfl) rfl fL .here (by simp [oP]; omega) (aVT (k:=k-1) (w':=wK w (k-1)) (by omega) (by first|omega|(simp; omega)) (by rw [hex9]; simp [wK]) (fun j hj=>by unfold wK; by_cases h:j<k-1; rw [if_pos h,if_pos (by omega)]; rw [if_neg h,if_neg (by omega)])) ?_
  refine .g (aR rfl rfl rfl rfl ?_)
  refine .g (aT (k-1) ?_ ?_ ?_ ?_ ?_)
  ·exact (dY rfl (by rw [← hex9]) (dY rfl (evi (by omega)) (aA rfl (aA rfl (aA rfl (aA rfl (aA rfl eZ)))))))
  ·exact (mS .here rfl (mS .here rfl mN))
  ·first|omega|(dsimp only; omega)
  ·exact (hGl0).trans hGl1
  (try dsimp only)<;>(first|omega|rfl|assumption|(simp; done))
 have c1k:=c1
 try simp only [aD,aL,aE] at c1
 refine .g (lA rfl .no aLm (.u rfl) (fun _=>RdN.own .here) (fun _=>oP) ?_)
 refine sw rfl (.u rfl) (.u rfl) rfl aMy aC (oP.trans oP.symm) (aLA _) ?_
 refine .nil (.code (.ret (aN Tryz.results213 (.cell rfl (fun w hw=>bE aLm (RdN.own .here) (oP) hw) .nil) ?_)))
 obtain rfl:k=0:=by omega
 exact ⟨rfl,by rw [aVU]; rfl⟩
theorem aIO (bl:Nat) (h:Sh) (xs:List Nd) (sz:Value) (G:PM) (hbl:PB G bl (cl [h.val xs.length,sz] 225)) (hs:SlR G 16 Nd.cells h xs) (w:Nat→Nat) (us:ByteArray) (q:BitVec 64) (hW:WayN xs us q w):Ct Tryz.prog 148 ([.pointer (some ⟨bl,0,none⟩),.string us,uv .u64 q]:List Value).toArray G [] (fun _ μ' u=>μ'=[]∧u=.int .i64 ((cU xs (w 0) 0:Nat):Int)):=by
 refine Ct.of Tryz.func148 rfl Tryz.ntmps148 rfl fun w0 hs0=>?_
 refine .g (pe rfl .no aDR (.u rfl) (.u rfl) ?_)
 refine .g (jE rfl rfl ?_)
 refine .g (bZ (mc:=⟨false,false⟩) [0,1,2,3,4,5,6,7,8,9,10,11,12,13] aY (by kernel_rfl) ?_)
 refine .p (nC rfl rfl (fA rfl mC rfl (lN rfl mZ rfl ((hbl.rd (rfl)).rd) ?_)))
 refine .p (kV rfl aMa (aB rfl (aB rfl (aB rfl aF))) (aKZ bl h xs sz _ hbl hs w us q hW) ?_)
 refine ix rfl .no nW bA (.u rfl) (.u rfl) (by omega) (by omega) (fun _=>aCo (k:=0) (by omega) rfl) ?_
 refine ih rfl .no nB (.u rfl) (.u rfl) (by omega) (fun _=>by have:=hW.lt 0 (by omega); omega) (fun _=>hs.nn (k:=w 0) (hW.lt 0 (by omega))) ?_
 refine fA rfl wH rfl (iW rfl nW rfl rfl ?_)
 refine lN rfl bA rfl ((aDe hs (a:=w 0) (k:=0) (hW.lt 0 (by omega)) (by omega) (by first|omega|(simp; omega))).rd) ?_
 refine aS rfl rfl (.nc (.ret (aN Tryz.results148 (.tmp rfl .nil) ?_)))
 exact ⟨rfl,rfl⟩
theorem aQa (bl:Nat) (h:Sh) (xs:List Nd) (sz:Value) (G:PM) (hbl:PB G bl (cl [h.val xs.length,sz] 225)) (hl:xs.length≤1000000):Ct Tryz.prog 162 ([.pointer (some ⟨bl,0,none⟩)]:List Value).toArray G [] (fun _ μ' u=>μ'=[]∧u=.int .i64 ((xs.length:Int)-1)):=by
 refine Ct.of Tryz.func162 rfl Tryz.ntmps162 rfl fun w0 hs0=>?_
 refine .g (pe rfl .no aDR (.u rfl) (.u rfl) ?_)
 refine .g (jE rfl rfl ?_)
 refine .g (nC rfl rfl (fA rfl mC rfl (lN rfl mZ rfl ((hbl.rd (rfl)).rd) ?_)))
 refine lE rfl aMv rfl (aR rfl rfl rfl rfl ?_)
 refine aS rfl rfl (.nc (.ret (aN Tryz.results162 (.tmp rfl .nil) ?_)))
 exact ⟨rfl,rfl⟩
theorem aQb (bl:Nat) (v:Value) (sz:Nat) (G:PM) (hbl:PB G bl (cl [v,.int .i64 ((sz:Nat):Int)] 225)):Ct Tryz.prog 317 ([.pointer (some ⟨bl,0,none⟩)]:List Value).toArray G [] (fun _ μ' u=>μ'=[]∧u=.int .i64 ((sz:Nat):Int)):=by
 refine Ct.of Tryz.func317 rfl Tryz.ntmps317 rfl fun w0 hs0=>?_
 refine .g (pe rfl .no aDR (.u rfl) (.u rfl) ?_)
 refine .g (jE rfl rfl ?_)
 refine .g (nC rfl rfl (fA rfl aGI rfl (lN rfl bA rfl ((hbl.rd (rfl)).rd) ?_)))
 refine aS rfl rfl (.nc (.ret (aN Tryz.results317 (.tmp rfl .nil) ?_)))
 exact ⟨rfl,rfl⟩
theorem aQY (bl:Nat) (h:Sh) (xs:List Nd) (sz:Value) (G:PM) (hbl:PB G bl (cl [h.val xs.length,sz] 225)) (hs:SlR G 16 Nd.cells h xs) (w:Nat→Nat) (us:ByteArray) (q:BitVec 64) (hW:WayN xs us q w) (n:Int) (hn:cU xs (w 0) 0=0):Ct Tryz.prog 161 ([.pointer (some ⟨bl,0,none⟩),.string us,uv .u64 q,.int .i64 n]:List Value).toArray G [] (fun _ μ' u=>μ'=[]∧u=.slice none 0 0):=by
 refine Ct.of Tryz.func161 rfl Tryz.ntmps161 rfl fun w0 hs0=>?_
 refine .g (kV rfl aMU (aB rfl (aB rfl (aB rfl aF))) (aIO bl h xs sz _ hbl hs w us q hW) ?_)
 refine aS rfl rfl (.nc (.block ?_))
 refine aV (α:=Nat) (fun k=>[(9,true,.slice none 0 0),(10,true,.int .i64 0)]) (fun _=>[])
  (fun k Gl=>True) (fun k=>0) 0 [(0,true,_),(3,true,_)] []
  (aA rfl (dY rfl (by rw [hn]; rfl) (aA rfl (aA rfl eZ))))
  mN ?_ ?_
 ·trivial
 intro k N0 Gl0 hN0 hGl0 hF0
 try dsimp only at hF0 hN0 ⊢
 refine .g (cP rfl rfl rfl rfl (mV rfl rfl (mv rfl (.t rfl rfl) (.u rfl) (ln rfl (.t rfl rfl) aBL (.s rfl) (mv rfl (.t rfl rfl) (.u rfl) (cp rfl (.t rfl rfl) (.s rfl) (.s rfl) rfl (cW rfl .no (.u rfl) (.s rfl) (.g (cD rfl (fun c1=>?_) (fun c1=>?_))))))))))
 ·have c1k:=c1
  cases c1
 have c1k:=c1
 try simp only [aD,aE] at c1
 refine .exit (.xcode (.xlp (.xblk (.code (.seq (bF rfl rfl (mV rfl rfl (aS rfl rfl (.nc (.ret (aN Tryz.results161 (.tmp rfl .nil) ?_)))))))))))
 exact ⟨rfl,rfl⟩
theorem aEi (G:PM):Ct Tryz.prog 87 ([]:List Value).toArray G [] (fun _ μ' u=>∃ bl v,v.oneCell'=true∧μ'=[.blk bl (cl [v,.int .i64 ((0:Nat):Int)] 225),rS 16 Nd.cells v 249 [Nd.z]]∧u=.pointer (some ⟨bl,0,none⟩)):=by
 refine Ct.of Tryz.func87 rfl Tryz.ntmps87 rfl fun w0 hs0=>?_
 refine .seq (aP rfl rfl (aS rfl rfl (.nc (.seq (dI rfl rfl ?_)))))
 refine aRN (enc:=Nd.cells) Nd.z rfl nB aGx (.u rfl) (.u rfl) rfl rfl (by decide) ?_; intro b1
 refine bC rfl .no aWW (.cons (.u rfl) rfl .nil) rfl ?_
 refine bX rfl rfl rfl ?_; intro b3
 refine aS rfl rfl (.nc (.ret (We.fin Tryz.results87 (.tmp rfl .nil) (mS .here rfl (mS .here rfl mN)) ?_)))
 exact ⟨b3,_,rfl,rfl,rfl⟩
theorem aAP (bl bb m cap sz ht:Nat) (xs:List Nd) (e:Ent) (w:Nat→Nat) (G:PM) (hm:m=xs.length) (hW:WayN xs e.user e.seq w) (hn:cU xs (w 0) 0=0) (hR:jT e=true) (h1:1≤ht) (h12:ht≤12) (hl:xs.length≤1000) (hsz:sz≤1000000000):Ct Tryz.prog 235 ([.pointer (some ⟨bl,0,none⟩),e.val,.int .i64 ((ht:Nat):Int)]:List Value).toArray G [.blk bl (cl [(.slice (some ⟨bb,0,none⟩) m cap),.int .i64 ((sz:Nat):Int)] 225),rS 16 Nd.cells (.slice (some ⟨bb,0,none⟩) m cap) 249 (xs)] (fun _ μ' u=>∃ bb2 cap2,μ'=[.blk bl (cl [.slice (some ⟨bb2,0,none⟩) (xs++[(e,fun _=>0)]).length cap2,.int .i64 ((sz+(e.user.size+e.value.size+8):Nat):Int)] 225),rS 16 Nd.cells (.slice (some ⟨bb2,0,none⟩) (xs++[(e,fun _=>0)]).length cap2) 249 (nJ w xs.length (xs++[(e,fun _=>0)]) ht)]∧u=.int .i64 0):=by
 subst hm
 refine Ct.of Tryz.func235 rfl Tryz.ntmps235 rfl fun w0 hs0=>?_
 have hRs:=aTa hR; have hxl:0<xs.length:=by have:=hW.lt 0 (by omega); omega
 have hlen:(xs++[(e,fun _=>0)]:List Nd).length=xs.length+1:=by simp
 refine .seq (bF rfl rfl ?_)
 refine bX rfl rfl rfl ?_; intro b4
 refine .g (pe rfl .no aDR (.u rfl) (.u rfl) ?_)
 refine .g (cD rfl (fun c1=>?_) (fun c1=>?_))
 ·have c1k:=c1
  cases c1
 have c1k:=c1
 try simp only [aD,aL,aE] at c1
 refine .g (lA rfl .no mY (.u rfl) (fun _=>RdN.own .here) (fun _=>(by first|exact Ent.len _|exact oP|rfl)) ?_)
 refine kV rfl aMS (aB rfl aF) (aHy e _) ?_
 refine nt rfl .no (.u rfl) (.g (cD rfl (fun c2=>?_) (fun c2=>?_)))
 ·have c2k:=c2
  rw [hR] at c2; cases c2
 have c2k:=c2
 try simp only [aD,aL,aE] at c2
 refine .g (fZ rfl mB rfl (lO rfl cQ rfl .here (by first|exact aK rfl|rfl) ?_))
 refine fZ rfl tP rfl (lO rfl bI rfl .here (by first|exact aK rfl|rfl) ?_)
 refine ka rfl (.inr rfl) aMa (aB rfl (aB rfl (aB rfl aF))) (eI aC aC) (aQr fun s G2 hv hs2 hb2=>by rw [hv] at hb2; exact aKZ bl s xs _ G2 hb2 hs2 w e.user e.seq hW) ?_
 rintro _ G23 μ23 hG23 ⟨rfl,rfl⟩
 refine al rfl aGv ?_; intro b7
 refine sw rfl (.u rfl) (.u rfl) rfl aMy .here (oP.trans oP.symm) (aLA _) ?_
 refine .g (bZ (mc:=⟨false,false⟩) [0,1,2,3,4,5,6,7,8,9,10] aY (by kernel_rfl) ?_)
 refine .p (nC rfl rfl (fZ rfl mC rfl (lO rfl mZ rfl aC rfl ?_)))
 refine iW rfl nW rfl rfl ?_
 refine lO rfl bA rfl .here (aCo (k:=0) (by omega) rfl) ?_
 refine ia rfl .no nB (.u rfl) (.u rfl) (by omega) (fun _=>by have:=hW.lt 0 (by omega); omega) ?_
 refine fA rfl wH rfl (iW rfl nW rfl rfl ?_)
 refine lN rfl bA rfl (aG4 aM (a:=w 0) (k:=0) (hW.lt 0 (by omega)) (by omega) (by simp)) ?_
 refine .g (bZ (mc:=⟨false,false⟩) [0,1,2,3,4,5,6,7,8,9,10,11,12,13,14,15,16,17,18,19,20,21,22,23,24,25,26,27,28,29] aY (by kernel_rfl) ?_)
 refine .p (cP rfl rfl rfl rfl (aLJ false (by rw [hn]; rfl) ?_))
 refine mV rfl rfl (jA (.bool false) rfl rfl (Gd.t (b:=false) rfl rfl) ?_)
 refine jA (.bool false) rfl rfl (Gd.t (b:=false) rfl rfl) ?_
 refine jA (.bool false) rfl rfl (Gd.t (b:=false) rfl rfl) ?_
 refine yL (.bool false) rfl rfl (Gd.t (b:=false) rfl rfl) ?_
 refine jA (.bool false) rfl rfl (Gd.t (b:=false) rfl rfl) ?_
 refine jA (.bool false) rfl rfl (Gd.t (b:=false) rfl rfl) ?_
 refine jA (.bool false) rfl rfl (Gd.t (b:=false) rfl rfl) ?_
 refine jA (.bool false) rfl rfl (Gd.t (b:=false) rfl rfl) ?_
 refine yL (.bool false) rfl rfl (Gd.t (b:=false) rfl rfl) ?_
 refine jA (.bool false) rfl rfl (Gd.t (b:=false) rfl rfl) ?_
 refine yL (.bool false) rfl rfl (Gd.t (b:=false) rfl rfl) ?_
 refine jA (.bool false) rfl rfl (Gd.t (b:=false) rfl rfl) ?_
 refine cW rfl .no (.u rfl) (.s rfl) (mV rfl rfl (jA (.bool false) rfl rfl (Gd.t (b:=false) rfl rfl) ?_))
 refine jA (.bool false) rfl rfl (Gd.t (b:=false) rfl rfl) ?_
 refine jA (.bool false) rfl rfl (Gd.t (b:=false) rfl rfl) ?_
 refine yL (.bool false) rfl rfl (Gd.t (b:=false) rfl rfl) ?_
 refine jA (.bool false) rfl rfl (Gd.t (b:=false) rfl rfl) ?_
 refine jA (.bool false) rfl rfl (Gd.t (b:=false) rfl rfl) ?_
 refine jA (.bool false) rfl rfl (Gd.t (b:=false) rfl rfl) ?_
 refine jA (.bool false) rfl rfl (Gd.t (b:=false) rfl rfl) ?_
 refine yL (.bool false) rfl rfl (Gd.t (b:=false) rfl rfl) ?_
 refine jA (.bool false) rfl rfl (Gd.t (b:=false) rfl rfl) ?_
 refine yL (.bool false) rfl rfl (Gd.t (b:=false) rfl rfl) ?_
 refine jA (.bool false) rfl rfl (Gd.t (b:=false) rfl rfl) ?_
 refine cW rfl .no (.u rfl) (.s rfl) (.g (cD rfl (fun c3=>?_) (fun c3=>?_)))
 ·have c3k:=c3
  cases c3
 have c3k:=c3
 try simp only [aD,aL,aE] at c3
 refine .g (nC rfl rfl (fZ rfl mC rfl (lO rfl mZ rfl aC rfl ?_)))
 refine lr rfl .no aMv (.u rfl) aM ?_
 refine .g (bZ (mc:=⟨false,false⟩) [0,1,2,3,4,5,6,7,8,9,10,11] aY (by kernel_rfl) ?_)
 refine .p (nC rfl rfl (fZ rfl mC rfl (lO rfl mZ rfl aC rfl ?_)))
 refine lA rfl .no mY (.u rfl) (fun _=>RdN.own bG) (fun _=>(by first|exact Ent.len _|exact oP|rfl)) ?_
 refine dK (Nd.cells (e,fun _=>0)) rfl .no aWY (.cons (.u rfl) rfl .nil) rfl (rfl) ?_
 refine Go.Tan.b1 rfl nB aGx (.u rfl) rfl rfl (by decide) ?_; intro b76
 refine gZ (xs:=xs) ((e,fun _=>0)) rfl nB aGx rfl (.u rfl) (.u rfl) bG .here (Nd.len _) (Nd.one _) (by omega) (by unfold maxLen; omega) ?_; intro v77 ov77
 refine nC rfl rfl (fZ rfl mC rfl (iM rfl (.u rfl) (.u rfl) .here aY6 bG (by first|decide|(simp [oP]; done)) (rfl) ?_))
 refine .nil (.code (.seq (.seq ?_)))
 refine aAv aC (by omega) ?_; intro bbRL capRL evRL lcRL; subst evRL
 refine .g (xT (ht) (12) rfl .no (.u rfl) (.u rfl) (by omega) (by omega) ?_)
 refine mAn (1) ((min ht 12)) rfl .no (.u rfl) (.u rfl) (by omega) (by omega) ?_
 refine mV rfl rfl (.nc (.block ?_))
 refine aV (α:=Nat) (fun k=>[(83,true,.int .i64 ((k:Nat):Int))]) (fun k=>[rS 16 Nd.cells (.slice (some ⟨bbRL,0,none⟩) (xs++[(e,fun _=>0)]).length capRL) 249 (nJ w xs.length (xs++[(e,fun _=>0)]) k)])
  (fun k Gl=>(k≤ht)) (fun k=>ht-k) 0 [(0,true,_),(4,true,_),(7,true,_),(9,true,_),(82,true,_)] [_,_,_,_]
  (aO rfl (aA rfl (aA rfl (aA rfl (aA rfl (aA rfl eZ))))))
  (mS aC rfl (mS .here rfl (mS .here rfl (mS .here rfl (mS .here rfl mN))))) ?_ ?_
 ·(try dsimp only)<;>(first|omega|rfl|assumption|(simp; done))
 intro k N0 Gl0 hN0 hGl0 hF0
 try dsimp only at hF0 hN0 ⊢
 have hk:=hF0
 refine .g (cP rfl rfl rfl rfl (.g (cD rfl (fun c4=>?_) (fun c4=>?_))))
 ·have c4k:=c4
  try simp only [aD,aL,aE] at c4
  refine .g (bZ (mc:=⟨false,false⟩) [0,1,2,3,4,5,6,7,8,9,10,11,12,13,14,15,16,17,18,19,20,21] aY (by kernel_rfl) ?_)
  refine .p (nC rfl rfl (fZ rfl mC rfl (lO rfl mZ rfl aC rfl ?_)))
  refine .p (nC rfl rfl (fZ rfl mC rfl (lO rfl mZ rfl aC rfl ?_)))
  refine .p (iW rfl nW rfl rfl ?_)
  refine lO rfl bA rfl bG (aCo (k:=k) (by omega) (by simp)) ?_
  refine .p (ia rfl .no nB (.u rfl) (.u rfl) (by omega) (fun _=>by have:=hW.lt k (by omega); omega) ?_)
  refine fA rfl wH rfl (iW rfl nW rfl rfl ?_)
  refine lN rfl bA rfl (aG4 .here (a:=w k) (k:=k) (by (try rw [aEr]); (try simp only [List.length_set]); (try rw [pN]); have:=hW.lt k (by omega); omega) (by omega) (by simp)) ?_
  refine ia rfl .no nB (.u rfl) (.u rfl) (by omega) (by omega) ?_
  refine fA rfl wH rfl (iW rfl nW rfl rfl ?_)
  refine stE (k:=xs.length) (q:=4+k) (e:=(nJ w xs.length (xs++[(e,fun _=>0)]) k).getD (xs.length) Nd.z) (u:=xX ((nJ w xs.length (xs++[(e,fun _=>0)]) k).getD (xs.length) Nd.z) k (cU (nJ w xs.length (xs++[(e,fun _=>0)]) k) (w k) k)) rfl (.u rfl) (.u rfl) fL .here (fun y _=>Nd.len y) (aIZ (by (try rw [aEr]); (try simp only [List.length_set]); (try rw [pN]); have:=hW.lt k (by omega); omega)) (aJY (by omega)) (by simp; omega) (by omega) rfl ?_
  refine .g (bZ (mc:=⟨false,false⟩) [0,1,2,3,4,5,6,7,8,9,10,11,12] aY (by kernel_rfl) ?_)
  refine .p (nC rfl rfl (fZ rfl mC rfl (lO rfl mZ rfl aC rfl ?_)))
  refine .p (iW rfl nW rfl rfl ?_)
  refine lO rfl bA rfl bG (aCo (k:=k) (by omega) (by simp)) ?_
  refine .p (ia rfl .no nB (.u rfl) (.u rfl) (by omega) (fun _=>by have:=hW.lt k (by omega); omega) ?_)
  refine fA rfl wH rfl (iW rfl nW rfl rfl ?_)
  refine stE (k:=w k) (q:=4+k) (e:=(xR w xs.length (nJ w xs.length (xs++[(e,fun _=>0)]) k) k).getD (w k) Nd.z) (u:=xX ((xR w xs.length (nJ w xs.length (xs++[(e,fun _=>0)]) k) k).getD (w k) Nd.z) k (xs.length)) rfl (.u rfl) (.u rfl) fL .here (fun y _=>Nd.len y) (aIZ (by (try rw [aEr]); (try simp only [List.length_set]); (try rw [pN]); have:=hW.lt k (by omega); omega)) (aJY (by omega)) (by simp; omega) (by omega) rfl ?_
  refine .g (aW (((k+1):Nat):Int) rfl rfl rfl rfl ?_)
  refine .g (aT (k+1) ?_ ?_ ?_ ?_ ?_)
  ·exact (aO rfl (aA rfl (aA rfl (aA rfl (aA rfl (aA rfl eZ))))))
  ·exact (mS .here rfl (mS .here rfl (mS .here rfl (mS .here rfl (mS .here rfl mN)))))
  ·first|omega|(dsimp only; omega)
  ·exact hGl0
  (try dsimp only)<;>(first|omega|rfl|assumption|(simp; done))
 have c4k:=c4
 try simp only [aD,aL,aE] at c4
 refine .g (bZ (mc:=⟨false,false⟩) [0,1,2,3,4,5,6,7,8,9,10,11,12,13,14,15] aY (by kernel_rfl) ?_)
 refine .p (nC rfl rfl (fZ rfl aGI rfl (lO rfl bA rfl aC (by first|exact aK rfl|rfl) ?_)))
 refine fZ rfl mB rfl (lO rfl cQ rfl eN (by first|exact aK rfl|rfl) ?_)
 refine ls rfl .no cE (.u rfl) (fZ rfl aDD rfl (lO rfl cQ rfl eN (by first|exact aK rfl|rfl) ?_))
 refine ls rfl .no cE (.u rfl) (aW (((e.user.size+e.value.size):Nat):Int) rfl rfl rfl rfl ?_)
 refine aW (((e.user.size+e.value.size+8):Nat):Int) rfl rfl rfl rfl ?_
 refine hJ (((sz+(e.user.size+e.value.size+8)):Nat):Int) rfl .no (.u rfl) (.u rfl) rfl (by omega) (fun _=>eJ (by omega) (by omega)) ?_
 refine nC rfl rfl (fZ rfl aGI rfl (s1 rfl (.u rfl) (.u rfl) rfl fL aC (by first|decide|(simp [oP]; done)) (rfl) ?_))
 refine .nil (.code (.seq (aP rfl rfl (aS rfl rfl (.nc (.ret (We.fin Tryz.results235 (.tmp rfl .nil) (mS .here rfl (mS .here rfl mN)) ?_)))))))
 obtain rfl:k=ht:=by omega
 exact ⟨bbRL,capRL,rfl,rfl⟩
end Go.Proofs.YtoifkgkandfeiaaGreatDoor
namespace Go.Proofs.YtoifkgkandfeiaaGreatDoor
open Go.Tan Go.RowKit Go.Maps Go.Sort Go.Shelf
def aHA:Go.Shelf.Ren:=⟨fun | 7=>92 | 10=>143 | n=>n,fun | 23=>116 | 26=>9 | 3=>124 | 28=>170 | 0=>0 | 27=>169 | 33=>57 | 4=>4 | n=>n,fun | n=>n⟩
theorem aG9:Go.Proofs.SlLaysZ.n7 Tryz.prog aHA:={
 mixed:=by kernel_rfl
 f7:=⟨"maps.Keys[map[string]tantalus/disk.file,string,tantalus/disk.file]",by decide,Tryz.func92.trans (congrArg some (by kernel_rfl))⟩
 f10:=⟨"maps.Keys[map[string]tantalus/disk.file,string,tantalus/disk.file]$1",by decide,Tryz.func143.trans (congrArg some (by kernel_rfl))⟩
 t0:=Tryz.underlying0
 a0:=Tryz.isAgg0
 z0:=Tryz.sizeOf0
 v0:=Tryz.zeroValue0
 t4:=Tryz.underlying4
 a4:=Tryz.isAgg4
 z4:=Tryz.sizeOf4
 v4:=Tryz.zeroValue4
 t23:=Tryz.underlying116
 a23:=Tryz.isAgg116
 z23:=Tryz.sizeOf116
 v23:=Tryz.zeroValue116
 t26:=Tryz.underlying9
 a26:=Tryz.isAgg9
 z26:=Tryz.sizeOf9
 v26:=Tryz.zeroValue9
 t27:=Tryz.underlying169
 a27:=Tryz.isAgg169
 z27:=Tryz.sizeOf169
 v27:=Tryz.zeroValue169
 t28:=Tryz.underlying170
 a28:=Tryz.isAgg170
 z28:=Tryz.sizeOf170
 v28:=Tryz.zeroValue170
 t33:=Tryz.underlying57
 a33:=Tryz.isAgg57
 z33:=Tryz.sizeOf57
 v33:=Tryz.zeroValue57 }
def aHC:Go.Shelf.Ren:=⟨fun | 6=>91 | 8=>141 | 9=>142 | 11=>210 | 13=>212 | 12=>211 | 23=>305 | 24=>250 | 14=>296 | 15=>297 | 16=>298 | 17=>299 | 18=>300 | 19=>301 | 20=>302 | 21=>303 | 22=>304 | 25=>343 | 26=>344 | 27=>345 | 28=>346 | 29=>347 | 30=>339 | 31=>382 | n=>n,fun | 26=>9 | 28=>170 | 24=>97 | 0=>0 | 3=>3 | 37=>206 | 48=>344 | 50=>23 | 4=>4 | 40=>411 | 39=>410 | 45=>212 | 5=>5 | 9=>9 | 51=>454 | 55=>457 | 57=>495 | 58=>496 | 33=>57 | n=>n,fun | n=>n⟩
theorem aNV:Go.Proofs.SlLaysZ.n6 Tryz.prog aHC:={
 mixed:=by kernel_rfl
 f6:=⟨"slices.Sorted[string]",by decide,Tryz.func91.trans (congrArg some (by kernel_rfl))⟩
 f8:=⟨"slices.Collect[string]",by decide,Tryz.func141.trans (congrArg some (by kernel_rfl))⟩
 f11:=⟨"slices.AppendSeq[[]string,string]",by decide,Tryz.func210.trans (congrArg some (by kernel_rfl))⟩
 t0:=Tryz.underlying0
 a0:=Tryz.isAgg0
 z0:=Tryz.sizeOf0
 v0:=Tryz.zeroValue0
 t24:=Tryz.underlying97
 a24:=Tryz.isAgg97
 z24:=Tryz.sizeOf97
 v24:=Tryz.zeroValue97
 t26:=Tryz.underlying9
 a26:=Tryz.isAgg9
 z26:=Tryz.sizeOf9
 v26:=Tryz.zeroValue9
 t28:=Tryz.underlying170
 a28:=Tryz.isAgg170
 z28:=Tryz.sizeOf170
 v28:=Tryz.zeroValue170
 i26:=by kernel_rfl }
def aNU:Go.Shelf.Ren:=⟨fun | 6=>142 | 8=>212 | 9=>211 | 19=>305 | 20=>250 | 21=>296 | 22=>297 | 23=>298 | 24=>299 | 25=>300 | 26=>301 | 27=>302 | 28=>303 | 29=>304 | 36=>343 | 31=>344 | 32=>345 | 37=>346 | 38=>347 | 39=>339 | 41=>382 | n=>n,fun | 27=>97 | 29=>9 | 3=>3 | 32=>206 | 26=>97 | 0=>0 | 44=>344 | 46=>23 | 4=>4 | 36=>411 | 35=>410 | 41=>212 | 5=>5 | 9=>9 | 53=>454 | 57=>457 | 63=>495 | 64=>496 | n=>n,fun | n=>n⟩
theorem aHB:Go.Proofs.SlLaysM.n6 Tryz.prog aNU:={
 mixed:=by kernel_rfl
 f6:=⟨"slices.Sort[[]string,string]",by decide,Tryz.func142.trans (congrArg some (by kernel_rfl))⟩
 f8:=Tryz.func212.trans (congrArg some (by kernel_rfl))
 f9:=⟨"slices.pdqsortOrdered[string]",by decide,Tryz.func211.trans (congrArg some (by kernel_rfl))⟩
 f19:=Tryz.func305.trans (congrArg some (by kernel_rfl))
 f20:=Tryz.func250.trans (congrArg some (by kernel_rfl))
 f21:=⟨"slices.insertionSortOrdered[string]",by decide,Tryz.func296.trans (congrArg some (by kernel_rfl))⟩
 f22:=⟨"slices.heapSortOrdered[string]",by decide,Tryz.func297.trans (congrArg some (by kernel_rfl))⟩
 f23:=⟨"slices.breakPatternsOrdered[string]",by decide,Tryz.func298.trans (congrArg some (by kernel_rfl))⟩
 f24:=⟨"slices.choosePivotOrdered[string]",by decide,Tryz.func299.trans (congrArg some (by kernel_rfl))⟩
 f25:=⟨"slices.reverseRangeOrdered[string]",by decide,Tryz.func300.trans (congrArg some (by kernel_rfl))⟩
 f26:=⟨"slices.partialInsertionSortOrdered[string]",by decide,Tryz.func301.trans (congrArg some (by kernel_rfl))⟩
 f27:=⟨"cmp.Less[string]",by decide,Tryz.func302.trans (congrArg some (by kernel_rfl))⟩
 f28:=⟨"slices.partitionEqualOrdered[string]",by decide,Tryz.func303.trans (congrArg some (by kernel_rfl))⟩
 f29:=⟨"slices.partitionOrdered[string]",by decide,Tryz.func304.trans (congrArg some (by kernel_rfl))⟩
 f31:=Tryz.func344.trans (congrArg some (by kernel_rfl))
 f32:=Tryz.func345.trans (congrArg some (by kernel_rfl))
 f36:=⟨"slices.siftDownOrdered[string]",by decide,Tryz.func343.trans (congrArg some (by kernel_rfl))⟩
 f37:=⟨"slices.medianAdjacentOrdered[string]",by decide,Tryz.func346.trans (congrArg some (by kernel_rfl))⟩
 f38:=⟨"slices.medianOrdered[string]",by decide,Tryz.func347.trans (congrArg some (by kernel_rfl))⟩
 f39:=⟨"cmp.isNaN[string]",by decide,Tryz.func339.trans (congrArg some (by kernel_rfl))⟩
 f41:=⟨"slices.order2Ordered[string]",by decide,Tryz.func382.trans (congrArg some (by kernel_rfl))⟩
 t0:=Tryz.underlying0
 a0:=Tryz.isAgg0
 z0:=Tryz.sizeOf0
 v0:=Tryz.zeroValue0
 t3:=Tryz.underlying3
 a3:=Tryz.isAgg3
 z3:=Tryz.sizeOf3
 v3:=Tryz.zeroValue3
 t4:=Tryz.underlying4
 a4:=Tryz.isAgg4
 z4:=Tryz.sizeOf4
 v4:=Tryz.zeroValue4
 t5:=Tryz.underlying5
 a5:=Tryz.isAgg5
 z5:=Tryz.sizeOf5
 v5:=Tryz.zeroValue5
 t9:=Tryz.underlying9
 a9:=Tryz.isAgg9
 z9:=Tryz.sizeOf9
 v9:=Tryz.zeroValue9
 t26:=Tryz.underlying97
 a26:=Tryz.isAgg97
 z26:=Tryz.sizeOf97
 v26:=Tryz.zeroValue97
 t27:=Tryz.underlying97
 a27:=Tryz.isAgg97
 z27:=Tryz.sizeOf97
 v27:=Tryz.zeroValue97
 t29:=Tryz.underlying9
 a29:=Tryz.isAgg9
 z29:=Tryz.sizeOf9
 v29:=Tryz.zeroValue9
 t32:=Tryz.underlying206
 a32:=Tryz.isAgg206
 z32:=Tryz.sizeOf206
 v32:=Tryz.zeroValue206
 t35:=Tryz.underlying410
 a35:=Tryz.isAgg410
 z35:=Tryz.sizeOf410
 v35:=Tryz.zeroValue410
 t36:=Tryz.underlying411
 a36:=Tryz.isAgg411
 z36:=Tryz.sizeOf411
 v36:=Tryz.zeroValue411
 t41:=Tryz.underlying212
 a41:=Tryz.isAgg212
 z41:=Tryz.sizeOf212
 v41:=Tryz.zeroValue212
 t44:=Tryz.underlying344
 a44:=Tryz.isAgg344
 z44:=Tryz.sizeOf344
 v44:=Tryz.zeroValue344
 t46:=Tryz.underlying23
 a46:=Tryz.isAgg23
 z46:=Tryz.sizeOf23
 v46:=Tryz.zeroValue23
 t53:=Tryz.underlying454
 a53:=Tryz.isAgg454
 z53:=Tryz.sizeOf454
 v53:=Tryz.zeroValue454
 t57:=Tryz.underlying457
 a57:=Tryz.isAgg457
 z57:=Tryz.sizeOf457
 v57:=Tryz.zeroValue457
 t63:=Tryz.underlying495
 a63:=Tryz.isAgg495
 z63:=Tryz.sizeOf495
 v63:=Tryz.zeroValue495
 t64:=Tryz.underlying496
 a64:=Tryz.isAgg496
 z64:=Tryz.sizeOf496
 v64:=Tryz.zeroValue496 }
theorem aNW (m:Nat):AnyZ.SortsIn Tryz.prog aHC Fence.wide m :=
 ⟨fun blk off cap ss W hH hblk hsz=>callsIn_wide.2 (AnyM.slices_Sort_string aHB blk off cap ss W hH hblk hsz),
  fun p cap W=>callsIn_wide.2 (AnyM.slices_Sort_string_none aHB p cap W)⟩
theorem aQR (mb:Nat) (G:PM):Ct Tryz.prog 92 #[.map (some mb)] G [] (fun _ μ' u=>∃ bk,μ'=[.blk bk (cl [.map (some mb)] 116)]∧u=.func (.func 143) #[] #[.pointer (some ⟨bk,0,none⟩)]):=fun w hs=>by
 refine (callsIn_wide.1 (AnyZ.keys_in aG9 Fence.wide 5 trivial rfl (some mb) w)).mono ?_
 rintro e w' ⟨rfl,rfl⟩
 exact ⟨_,G,_,rfl,(eK (μ:=[]) hs).alloc _,w.heap.size,rfl,rfl⟩
theorem aQP {l:List (Lit×DataW Unit)}:∀ {y},y∈l.foldr DataW.insert []→y∈l:=by
 induction l with
 | nil=>intro y h; exact h
 | cons x r ih =>
  intro y h
  rcases ChangeMaps.mem_insert_iff.1 h with rfl | h
  ·exact List.mem_cons_self ..
  ·exact List.mem_cons_of_mem _ (ih h)
theorem aQD {l:List (Lit×DataW Unit)}:(l.foldr DataW.insert []).length=l.length:=by
 have h1:∀ (x:Lit×DataW Unit) (r:List (Lit×DataW Unit)),(DataW.insert x r).length=r.length+1:=by
  intro x r
  induction r with
  | nil=>rfl
  | cons y r ih=>rw [DataW.insert]; split<;>simp [ih]
 induction l with
 | nil=>rfl
 | cons x r ih=>rw [List.foldr_cons,h1,ih]; rfl
theorem aKB {f:Fi} (h:f.nm.size≤100):WideElems.rd (H:=Unit) Tryz.prog 9 (fun _=>some (.nil,[])) (mE f.fe)=some (.string f.nm.data.toList,.nil):=by
 unfold WideElems.rd
 rw [show (mE f.fe).key=.string f.nm from rfl,Go.WideMaps.keyOf_string_mk Tryz.underlying9 (by unfold maxLen; omega)]
 rfl
theorem aUM (bk bm clk:Nat) (F:List Fi) (G:PM) (hD:DkR F clk) (hbk:PB G bk (cl [.map (some bm)] 116)) (hbm:PB G bm (mO (F.map Fi.fe) clk)) :
  Ct Tryz.prog 91 #[.func (.func 143) #[] #[.pointer (some ⟨bk,0,none⟩)]] G [] (fun _ μ' u=>∃ L:List ByteArray,(∀ s∈L,s∈F.map Fi.nm)∧L.length≤1000∧μ'=[rS 1 pH u 9 L]):=fun w hs=>by
 have hk:w.heap[bk]? = some (cl [.map (some bm)] 116):=hs.sub _ _ hbk.h
 have hm:w.heap[bm]? = some (mO (F.map Fi.fe) clk):=hs.sub _ _ hbm.h
 have hc:=hD.cnt
 have hown:w.ownsMap (H:=Unit) Tryz.prog 9 (fun _=>some (.nil,[])) bm F.length (.map ((((F.map Fi.fe).map mE).map (WideElems.rg Tryz.prog 9 (fun _=>some (.nil,[])))).foldr DataW.insert [])):=by
  refine ⟨((F.map Fi.fe).map mE).toArray,clk,hm,⟨by simp [maxLen]; omega,⟨fun x hx=>?_,?_,?_⟩,fun x hx=>?_⟩,by simp,rfl⟩
  ·simp only [List.mem_map] at hx
   obtain ⟨_,⟨f,hf,rfl⟩,rfl⟩:=hx
   exact hD.old f hf
  ·have:((F.map Fi.fe).map mE).map (·.born)=F.map Fi.born:=by simp [Function.comp_def,mE,Fi.fe]
   rw [show ((F.map Fi.fe).map mE).toArray.toList=(F.map Fi.fe).map mE from rfl,this]; exact hD.nd
  ·have:((F.map Fi.fe).map mE).map (·.key)=(F.map Fi.nm).map Value.string:=by simp [Function.comp_def,mE,Fi.fe]
   rw [show ((F.map Fi.fe).map mE).toArray.toList=(F.map Fi.fe).map mE from rfl,this]
   exact List.Pairwise.map _ (fun a b h e=>h (Value.string.inj e)) hD.un
  simp only [List.mem_map] at hx
  obtain ⟨_,⟨f,hf,rfl⟩,rfl⟩:=hx
  exact ⟨_,aKB (hD.gn f hf)⟩
 have hsz:Maps.size (DataW.map ((((F.map Fi.fe).map mE).map (WideElems.rg (H:=Unit) Tryz.prog 9 (fun _=>some (.nil,[])))).foldr DataW.insert []))=F.length:=by
  show List.length _=_
  rw [aQD]; simp
 have hcell:w.cell? ⟨bk,0,none⟩=some (.map (some bm)):=by simp [World.cell?,hk,cl]
 have hseq:=AnyZ.keys_gives (ρ:=aHA) { aG9 with } Fence.wide 2 trivial rfl (by omega) bk bm F.length _ w (Array.getElem?_eq_some_iff.1 hk).1 hcell hown
 refine (callsIn_wide.1 (AnyZ.sorted_in aNV Fence.wide 5 trivial trivial trivial trivial rfl (by omega) (aNW _) (enters_of Tryz.func142 (by kernel_rfl) rfl) 143 #[.pointer (some ⟨bk,0,none⟩)] trivial (enters_of Tryz.func143 (by kernel_rfl) rfl) _ _ (by rw [hsz]; unfold maxLen; omega) (by rw [hsz]; omega) _ hseq)).mono ?_
 rintro e w' ⟨v,ss,rfl,hS,hrow,hnil,hb⟩
 obtain ⟨L,hL⟩ : ∃ L:List ByteArray,L=(ss.mergeSort (fun x y=>decide (x≤y))).map fun l=>⟨l.toArray⟩:=⟨_,rfl⟩
 have hLl:L.length=ss.length:=by rw [hL,List.length_map,List.length_mergeSort]
 have hLe:(ss.mergeSort (fun x y=>decide (x≤y))).map encStr=L.flatMap pH:=by
  rw [hL]
  generalize ss.mergeSort (fun x y=>decide (x≤y))=q
  induction q with
  | nil=>rfl
  | cons x r ih=>simp only [List.map_cons,List.flatMap_cons,ih,pH,List.singleton_append]
 rw [hLe,←hLl] at hrow
 have hmem:∀ s∈L,s∈F.map Fi.nm:=fun s hsm=>by
  rw [hL] at hsm
  obtain ⟨l,hl,rfl⟩:=List.mem_map.1 hsm
  have h1:l∈ss:=List.mem_mergeSort.1 hl
  have h2:=hS.mem_iff.1 h1
  obtain ⟨p,hp,rfl⟩:=List.mem_map.1 h2
  obtain ⟨x,hx,rfl⟩:=List.mem_map.1 (aQP hp)
  simp only [List.mem_map] at hx
  obtain ⟨_,⟨f,hf,rfl⟩,rfl⟩:=hx
  rw [WideElems.rg_of (aKB (hD.gn f hf))]
  exact List.mem_map.2 ⟨f,hf,by simp [strOf]⟩
 have hlen:L.length≤1000:=by
  rw [hLl,hS.length_eq]
  have:(strKeys (DataW.map ((((F.map Fi.fe).map mE).map (WideElems.rg (H:=Unit) Tryz.prog 9 (fun _=>some (.nil,[])))).foldr DataW.insert []))).length=F.length:=by rw [← hsz]; exact List.length_map _
  omega
 have hsub:∀ b o,G b=some o→w'.heap[b]? = some o:=fun b o hbo=>by
  have h1:=hs.sub b o hbo
  rw [hb.block b (Array.getElem?_eq_some_iff.1 h1).1]; exact h1
 have hkeys:∀ b∈keys [rS 1 pH v 9 L],w.heap.size≤b:=fun b hbk'=>by
  simp only [keys,Res.keys,List.flatMap_cons,List.flatMap_nil,List.append_nil] at hbk'
  rcases hrow.2 with ⟨rfl,_⟩ | ⟨g,cap,cur,rfl,hg,_⟩
  ·simp [Value.ownBlock] at hbk'
  simp [Value.ownBlock] at hbk'; omega
 refine ⟨v,G,_,rfl,⟨⟨hsub,fun r hr=>?_,fun b hbk'=>?_,?_⟩,hb.os,hb.tape,hb.output,hb.size,fun b hbl _=>⟨hb.block b hbl,rfl⟩,fun b hbk'=>.inr (hkeys b hbk'),fun _ _ _ h=>h⟩,L,hmem,hlen,rfl⟩
 ·rw [List.mem_singleton.1 hr]
  refine ⟨hrow.1,hrow.2.imp id ?_⟩
  rintro ⟨g,cap,cur,h1,h2,h3⟩
  exact ⟨g,cap,cur,h1,Nat.zero_le _,h3⟩
 ·cases hG:G b with
  | none=>rfl
  | some o =>
   have h1:=(Array.getElem?_eq_some_iff.1 (hs.sub b o hG)).1
   have h2:=hkeys b hbk'
   omega
 simp only [keys,Res.keys,List.flatMap_cons,List.flatMap_nil,List.append_nil]
 cases v.ownBlock<;>simp
end Go.Proofs.YtoifkgkandfeiaaGreatDoor
namespace Go.Proofs.YtoifkgkandfeiaaGreatDoor
open Go.Tan Go.RowKit Go.Maps Go.Sort Go.Shelf
theorem aG2:(bL Tryz.prog 279).isSome=true:=by kernel_rfl
theorem aDb:jP Tryz.prog 5 3=some .i64:=by kernel_rfl
theorem aWC:bY Tryz.prog 279=some none:=by kernel_rfl
theorem aX8:aJ Tryz.prog 250=true:=by kernel_rfl
theorem aYZ:aJ Tryz.prog 370=true:=by kernel_rfl
theorem aXu:aJ Tryz.prog 212=true:=by kernel_rfl
theorem aYS:aJ Tryz.prog 337=true:=by kernel_rfl
theorem aVR (y:Value) (bk:Nat) (G:PM) (hbk:PB G bk (cl [.slice none 0 0] 279)):Ct Tryz.prog 280 ([y,.pointer (some ⟨bk,0,none⟩)]:List Value).toArray G [] (fun _ μ' u=>μ'=[]∧u=.tuple #[]):=by
 refine Ct.of Tryz.func280 rfl Tryz.ntmps280 rfl fun w0 hs0=>?_
 refine .g (lN rfl aWC rfl ((hbk.rd (rfl)).rd) ?_)
 refine lE rfl aG2 rfl (mV rfl rfl (.nc (.block ?_)))
 refine aV (α:=Nat) (fun k=>[(7,true,.int .i64 ((k:Nat):Int))]) (fun _=>[])
  (fun k Gl=>(k=0)) (fun k=>0) 0 [(0,true,_),(5,true,_),(6,true,_)] []
  (aO rfl (aA rfl (aA rfl (aA rfl eZ))))
  mN ?_ ?_
 ·(try dsimp only)<;>(first|omega|rfl|assumption|(simp; done))
 intro k N0 Gl0 hN0 hGl0 hF0
 try dsimp only at hF0 hN0 ⊢
 have hk:=hF0
 refine .g (cP rfl rfl rfl rfl (.g (cD rfl (fun c1=>?_) (fun c1=>?_))))
 ·have c1k:=c1
  subst hk; exact absurd c1 (by decide)
 have c1k:=c1
 try simp only [aD,aE] at c1
 refine .g (aN Tryz.results280 .nil ?_)
 exact ⟨rfl,rfl⟩
theorem aVS (G:PM):Ct Tryz.prog 201 ([.slice none 0 0]:List Value).toArray G [] (fun _ μ' u=>∃ bk,μ'=[.blk bk (cl [.slice none 0 0] 279)]∧u=.func (.func 280) #[] #[.pointer (some ⟨bk,0,none⟩)]):=by
 refine Ct.of Tryz.func201 rfl Tryz.ntmps201 rfl fun w0 hs0=>?_
 refine .seq (bF rfl rfl ?_)
 refine bX rfl rfl rfl ?_; intro b1
 refine .g (mf (vf:=#[]) (vc:=[Value.pointer (some ⟨b1,0,none⟩)].toArray) rfl .no (fun a ha _=>by simp) (fun a ha _=>by simp [(Ev.u (c:=true) rfl:Ev _ true (.tmp 1) _).eval ha rfl]) ?_)
 refine aS rfl rfl (.nc (.ret (We.fin Tryz.results201 (.tmp rfl .nil) (mS .here rfl mN) ?_)))
 exact ⟨b1,rfl,rfl⟩
theorem aQo (G:PM):Ct Tryz.prog 250 ([.int .u64 0]:List Value).toArray G [] (fun _ μ' u=>μ'=[]):=by
 refine Ct.of Tryz.func250 rfl Tryz.ntmps250 rfl fun w0 hs0=>?_
 refine .g (cP rfl rfl rfl rfl (.g (cD rfl (fun c1=>?_) (fun c1=>?_))))
 ·have c1k:=c1
  exact absurd c1 (by decide)
 have c1k:=c1
 try simp only [aD,aL,aE] at c1
 refine .g (cP rfl rfl rfl rfl (.g (cD rfl (fun c2=>?_) (fun c2=>?_))))
 ·have c2k:=c2
  exact absurd c2 (by decide)
 have c2k:=c2
 try simp only [aD,aL,aE] at c2
 refine .g (cP rfl rfl rfl rfl (.g (cD rfl (fun c3=>?_) (fun c3=>?_))))
 ·have c3k:=c3
  exact absurd c3 (by decide)
 have c3k:=c3
 try simp only [aD,aL,aE] at c3
 refine .g (cv rfl .no wD (.u rfl) (sI 0 rfl .no cE (.u rfl) (.u rfl) (fun _=>rfl) (fun _=>of_decide_eq_true (by kernel_rfl)) ?_))
 refine cv rfl .no aDb (.u rfl) (aw rfl .no (.u rfl) (.u rfl) rfl (aS rfl rfl (.nc (.ret (aN Tryz.results250 (.tmp rfl .nil) ?_)))))
 exact rfl
theorem aN4 (G:PM):Ct Tryz.prog 212 ([.int .u64 0]:List Value).toArray G [] (fun _ μ' u=>μ'=[]):=by
 refine Ct.of Tryz.func212 rfl Tryz.ntmps212 rfl fun w0 hs0=>?_
 refine .g (cD rfl (fun c1=>?_) (fun c1=>?_))
 ·exact absurd c1 (by decide)
 try simp only [aD,aE] at c1
 refine .g (kc rfl aX8 (aB rfl aF) (aQo _) ?_)
 rintro v7 G7 μ7 hG7 rfl
 refine aS rfl rfl (.nc (.ret (aN Tryz.results212 (.tmp rfl .nil) ?_)))
 exact rfl
theorem aQB (G:PM):Ct Tryz.prog 370 ([.slice none 0 0,.int .i64 0,.int .i64 0]:List Value).toArray G [] (fun _ μ' u=>μ'=[]∧u=.tuple #[]):=by
 refine Ct.of Tryz.func370 rfl Tryz.ntmps370 rfl fun w0 hs0=>?_
 refine .g (aW (((0+1):Nat):Int) rfl rfl rfl rfl ?_)
 refine aS rfl rfl (.nc (.block ?_))
 refine aV (α:=Nat) (fun k=>[(6,true,.int .i64 ((k:Nat):Int))]) (fun _=>[])
  (fun k Gl=>(k=1)) (fun k=>0) 1 [(0,true,_),(1,true,_),(2,true,_)] []
  (aO rfl (aA rfl (aA rfl (aA rfl eZ))))
  mN ?_ ?_
 ·(try dsimp only)<;>(first|omega|rfl|assumption|(simp; done))
 intro k N0 Gl0 hN0 hGl0 hF0
 try dsimp only at hF0 hN0 ⊢
 have hk:=hF0
 refine .g (cP rfl rfl rfl rfl (.g (cD rfl (fun c1=>?_) (fun c1=>?_))))
 ·have c1k:=c1
  subst hk; exact absurd c1 (by decide)
 have c1k:=c1
 try simp only [aD,aE] at c1
 refine .g (aN Tryz.results370 .nil ?_)
 exact ⟨rfl,rfl⟩
theorem aSy (v:Value) (G:PM):Ct Tryz.prog 337 ([.slice none 0 0,.int .i64 0,.int .i64 0,v]:List Value).toArray G [] (fun _ μ' u=>μ'=[]∧u=.tuple #[]):=by
 refine Ct.of Tryz.func337 rfl Tryz.ntmps337 rfl fun w0 hs0=>?_
 refine .seq (aP rfl rfl (aS rfl rfl (.nc (.seq (aP rfl rfl (aS rfl rfl (.nc (.block ?_))))))))
 refine aV (α:=Nat) (fun k=>[(1,true,.int .i64 0),(2,true,.int .i64 0),(3,true,v),(8,true,.bool true),(9,true,.bool true)]) (fun _=>[])
  (fun k Gl=>True) (fun k=>0) 0 [(0,true,_)] []
  (aO rfl (aO rfl (aA rfl (aA rfl (aA rfl (aA rfl eZ))))))
  mN ?_ ?_
 ·trivial
 intro k N0 Gl0 hN0 hGl0 hF0
 try dsimp only at hF0 hN0 ⊢
 refine .g (aR rfl rfl rfl rfl ?_)
 refine .g (cP rfl rfl rfl rfl (.g (cD rfl (fun c1=>?_) (fun c1=>?_))))
 ·have c1k:=c1
  try simp only [aD,aE] at c1
  refine .g (kV rfl aYZ (aB rfl (aB rfl (aB rfl aF))) (aQB _) ?_)
  refine .nil (.code (.ret (aN Tryz.results337 .nil ?_)))
  exact ⟨rfl,rfl⟩
 have c1k:=c1
 exact absurd c1 (by decide)
theorem aUK (G:PM):Ct Tryz.prog 279 ([.slice none 0 0]:List Value).toArray G [] (fun _ μ' u=>μ'=[]∧u=.tuple #[]):=by
 refine Ct.of Tryz.func279 rfl Tryz.ntmps279 rfl fun w0 hs0=>?_
 refine .g (lE rfl aG2 rfl (.g (cw rfl .no aL3 (.u rfl) (fun _=>oR (by omega) (by omega)) ?_)))
 refine kc rfl aXu (aB rfl aF) (aN4 _) ?_
 rintro v9 G9 μ9 hG9 rfl
 refine kV rfl aYS (aB rfl (aB rfl (aB rfl (aB rfl aF)))) (aSy _ _) ?_
 refine .g (aN Tryz.results279 .nil ?_)
 exact ⟨rfl,rfl⟩
theorem aTV {P:Program} {g:Operand} {ps:Array Tmp} {assign body:Code} {Q:Exit→Act→World→Prop} {a:Act} {w:World} {gf:Nat} {lb:Array Value} (hg:a.eval g=.func (.func gf) #[] lb)
  (eg:∀ args w,(callFunc gf args).run P w=.ok (.enter gf args) w)
  (hcall:∀ l W,Below w.heap.size w W→Calls P gf (#[.func (.yield l) #[] #[]]++lb) W fun e W'=>(∃ v,e=.returned v)∧Below W.heap.size W W')
  (hQ:∀ D W,Below w.heap.size w W→w.heap.size≤D→W.heap[D]? = some (.deferred (some []))→Q .normal { a with defers:={ target:=.collected D,args:=#[] } :: a.defers } W) :
  (Code.rangeFunc g ps assign body).wpIn Fence.wide 5 P Q a w:=by
 refine wpIn_rangeFunc fun fn hfn=>?_
 obtain ⟨lp,hlp⟩ : ∃ lp:Loop,lp = { state:=.ready,pending:=none,fn,tmps:=a.tmps,params:=ps,assign,body,defers:=w.heap.size }:=⟨_,rfl⟩
 obtain ⟨W1,hW1⟩ : ∃ W1,(w.alloc (.deferred (some []))).alloc (.loop lp)=W1:=⟨_,rfl⟩
 have hL1:W1.heap[w.heap.size+1]? = some (.loop lp):=by
  rw [← hW1]; have:=World.alloc_heap_new (w.alloc (.deferred (some []))) (.loop lp); rwa [World.size_alloc] at this
 have hK1:W1.heap[w.heap.size]? = some (.deferred (some [])):=by
  rw [← hW1]; exact (Below.heap_alloc _ _ _ (by simp)).trans (World.alloc_heap_new w _)
 have hb1:Below w.heap.size w W1:=by
  rw [← hW1]; exact ((Below.refl _ w).alloc (Nat.le_refl _) _).alloc (by simp) _
 refine ⟨w.heap.size+1,[{ target:=.collected w.heap.size,args:=#[] }],W1,{ target:=.fn (.func gf) lb,args:=#[.func (.yield (w.heap.size+1)) #[] #[]] },W1,gf, #[.func (.yield (w.heap.size+1)) #[] #[]]++lb,W1,?_,?_,?_,?_,fun _=>by omega,?_⟩
 ·rw [← hW1,hlp]; exact run_enterLoop_outer _ _ _ _ _
 ·simp only [resolve,hg]; simp [go_sem]
 ·intro f' _; trivial
 ·simp [invoke,go_sem,eg]
 refine callsIn_wide.2 ((hcall _ W1 hb1).mono ?_)
 rintro e W2 ⟨⟨v,rfl⟩,hb2⟩
 have hL2:W2.heap[w.heap.size+1]? = some (.loop lp):=(hb2.block _ (Array.getElem?_eq_some_iff.1 hL1).1).trans hL1
 have hK2:W2.heap[w.heap.size]? = some (.deferred (some [])):=(hb2.block _ (Array.getElem?_eq_some_iff.1 hK1).1).trans hK1
 have hend:=run_endLoop (P:=P) hL2 (by rw [hlp]; simp)
 have hpe:lp.pending=none:=by rw [hlp]
 rw [hpe] at hend
 have hb12:Below w.heap.size w W2:=hb1.trans (hb2.mono hb1.size)
 refine ⟨none,_,hend,hQ w.heap.size _ (hb12.grown (grownBy_putObj_a _ _ _) hb12.size (fun k e=>by cases e; omega)) (Nat.le_refl _) ((World.putObj_heap_other (by omega)).trans hK2)⟩
theorem aNp (bk:Nat) (G:PM) (hbk:PB G bk (cl [.slice none 0 0] 279)):Ct Tryz.prog 336 #[.slice none 0 0,.func (.func 280) #[] #[.pointer (some ⟨bk,0,none⟩)]] G [] (fun _ μ' u=>μ'=[]∧u=.slice none 0 0):=fun w hs=>by
 refine (callsIn_wide (n:=5)).1 ?_
 refine callsIn_of_wp_marks Tryz.func336 rfl trivial ?_ rfl
 simp only [Tryz.ntmps336,List.size_toArray,List.length_cons,List.length_nil,Nat.reduceAdd,Nat.reduceSub,Array.replicate_succ,Array.replicate_zero,List.push_toArray,List.append_toArray,List.nil_append,List.cons_append]
 gi_wp2
 have hbl:Below w.heap.size w (w.alloc (.cells #[.slice none 0 0] 279)):=(Below.refl _ w).alloc (Nat.le_refl _) _
 have hv0:(w.alloc (.cells #[.slice none 0 0] 279)).heap[w.heap.size]? = some (.cells #[.slice none 0 0] 279 (0,0)):=World.alloc_heap_new w _
 have hs0:(w.alloc (.cells #[.slice none 0 0] 279)).heap.size=w.heap.size+1:=by simp
 refine aTV (gf:=280) (lb:=#[.pointer (some ⟨bk,0,none⟩)]) rfl (enters_of Tryz.func280 (by kernel_rfl) rfl) (fun l W hb=>?_) (fun D W hb hD hK=>?_)
 ·have hsub:∀ b o,G b=some o→W.heap[b]? = some o:=fun b o h=>by
   have h1:=hs.sub b o h
   have h2:=(Array.getElem?_eq_some_iff.1 h1).1
   rw [hb.block b (by omega),hbl.block b h2]; exact h1
  refine (aVR (.func (.yield l) #[] #[]) bk G hbk W ⟨hsub,fun r hr=>(by cases hr),fun b hb=>(by cases hb),List.nodup_nil⟩).mono ?_
  rintro e W' ⟨v,G',μ',rfl,ht,_⟩
  exact ⟨⟨v,rfl⟩,ht.os,ht.tape,ht.output,ht.size,fun k hk=>(ht.old k hk (fun h=>by cases h)).1⟩
 have hv3:W.heap[w.heap.size]? = some (.cells #[.slice none 0 0] 279 (0,0)):=(hb.block _ (by omega)).trans hv0
 obtain ⟨hc3,hf3⟩:=cell_of_box_a hv3
 have hbw:Below w.heap.size w W:=hbl.trans (hb.mono (by omega))
 gi_wp2
 refine ⟨by simp,.inl ⟨_,_,rfl,run_takeDeferred hK,?_⟩⟩
 have hbz:=hbw.grown (grownBy_putObj_a W D (.deferred none)) hbw.size (fun k e=>by cases e; omega)
 refine ⟨_,results_tmp rfl _ _ _,_,G,[],rfl,⟨⟨fun b o h=>?_,fun r hr=>(by cases hr),fun b hb=>(by cases hb),List.nodup_nil⟩,hbz.os,hbz.tape,hbz.output,hbz.size,fun b hb _=>⟨hbz.block b hb,rfl⟩,fun b hb=>(by cases hb),fun _ _ _ h=>h⟩,rfl,rfl⟩
 have h1:=hs.sub b o h
 exact (hbz.block b (Array.getElem?_eq_some_iff.1 h1).1).trans h1
end Go.Proofs.YtoifkgkandfeiaaGreatDoor
namespace Go.Proofs.YtoifkgkandfeiaaGreatDoor
open Go.Tan Go.RowKit Go.Maps Go.Sort Go.Shelf
theorem aNE:aJ Tryz.prog 196=true:=by kernel_rfl
theorem aMr:bL Tryz.prog 191=some (189,1,24):=by kernel_rfl
theorem aMu:(bL Tryz.prog 191).isSome=true:=by kernel_rfl
theorem aX1:aJ Tryz.prog 231=true:=by kernel_rfl
theorem aFx:bY Tryz.prog 189=some none:=by kernel_rfl
theorem aYN:aJ Tryz.prog 316=true:=by kernel_rfl
theorem aX0:aJ Tryz.prog 230=true:=by kernel_rfl
theorem aYR:aJ Tryz.prog 336=true:=by kernel_rfl
theorem aYC:aJ Tryz.prog 278=true:=by kernel_rfl
theorem aYD:aJ Tryz.prog 279=true:=by kernel_rfl
theorem aZO:(Tryz.prog.info? 189).bind (·.zero)=some (.slice none 0 0):=by kernel_rfl
theorem aXg:aJ Tryz.prog 164=true:=by kernel_rfl
theorem aXq:aJ Tryz.prog 201=true:=by kernel_rfl
theorem aXp:aJ Tryz.prog 200=true:=by kernel_rfl
theorem aZH:dV Tryz.prog 191=some ([.slice none 0 0]):=by kernel_rfl
theorem aDV:dV Tryz.prog 3=some ([.int .i64 0]):=by kernel_rfl
theorem aXo:aJ Tryz.prog 197=true:=by kernel_rfl
theorem aWB:bY Tryz.prog 191=some none:=by kernel_rfl
theorem aKH:aAg []=true:=aCx fun j h=>absurd h (by simp)
theorem aRZ (G:PM):Ct Tryz.prog 231 ([.slice none 0 0]:List Value).toArray G [] (fun _ μ' u=>μ'=[]∧u=.bool false):=by
 refine Ct.of Tryz.func231 rfl Tryz.ntmps231 rfl fun w0 hs0=>?_
 refine .g (kV rfl aNE (aB rfl aF) (aKI ⟨none,0⟩ [] _ SlR.nul (by decide)) ?_)
 refine nt rfl .no (.u rfl) (aS rfl rfl (.nc (.ret (aN Tryz.results231 (.tmp rfl .nil) ?_))))
 exact ⟨rfl,congrArg Value.bool (by rw [aKH]; rfl)⟩
theorem aP6 (b:Nat) (G:PM) (hb:PB G b (cl [.slice none 0 0] 189)):Ct Tryz.prog 316 ([.slice (some ⟨b,0,none⟩) 1 1,.func (.func 231) #[] #[]]:List Value).toArray G [] (fun _ μ' u=>μ'=[]∧u=.int .i64 (-1)):=by
 refine Ct.of Tryz.func316 rfl Tryz.ntmps316 rfl fun w0 hs0=>?_
 refine .g (lE rfl aMu rfl (mV rfl rfl (.nc (.block ?_))))
 refine aV (α:=Nat) (fun k=>[(8,true,.int .i64 (k:Int))]) (fun _=>[])
  (fun k Gl=>(k≤1)) (fun k=>1-k) 0 [(0,true,_),(1,true,_),(7,true,_)] []
  (aO rfl (aA rfl (aA rfl (aA rfl eZ))))
  mN ?_ ?_
 ·(try dsimp only)<;>(first|omega|rfl|assumption|(simp; done))
 intro k N0 Gl0 hN0 hGl0 hF0
 try dsimp only at hF0 hN0 ⊢
 have hk:=hF0
 have hb:=hb.mono hGl0
 refine .g (cP rfl rfl rfl rfl (.g (cD rfl (fun c1=>?_) (fun c1=>?_))))
 ·have c1k:=c1
  try simp only [aD,aE] at c1
  refine .skip (.code (.seq (.block (.seq (bF rfl rfl (mV rfl rfl (aS rfl rfl (.nc (.seq (gM rfl rfl (mV rfl rfl (mV rfl rfl (mV rfl rfl ?_)))))))))))))
  have hk0:k=0:=by omega
  refine ia rfl .no aMr (.u rfl) (.u rfl) (by omega) (by omega) ?_
  refine lN rfl aFx rfl ((hb.rd (by rw [hk0]; rfl)).rd) ?_
  refine kf rfl .no (.u rfl) aX1 (aB rfl aF) (fun _=>aRZ _) ?_
  refine .g (cD rfl (fun c2=>?_) (fun c2=>?_))
  ·have c2k:=c2
   cases c2
  have c2k:=c2
  try simp only [aD,aE] at c2
  refine .g (aW (((k+1):Nat):Int) rfl rfl rfl rfl ?_)
  refine .g (aT (k+1) ?_ ?_ ?_ ?_ ?_)
  ·exact (aO rfl (aA rfl (aA rfl (aA rfl eZ))))
  ·exact mN
  ·first|omega|(dsimp only; omega)
  ·exact hGl0
  (try dsimp only)<;>(first|omega|rfl|assumption|(simp; done))
 have c1k:=c1
 try simp only [aD,aE] at c1
 refine .exit (.xcode (.xlp (.xblk (.code (.seq (aP rfl rfl (aS rfl rfl (.nc (.ret (aN Tryz.results316 (.tmp rfl .nil) ?_))))))))))
 exact ⟨rfl,rfl⟩
theorem aOR (b:Nat) (G:PM) (hb:PB G b (cl [.slice none 0 0] 189)):Ct Tryz.prog 230 ([.slice (some ⟨b,0,none⟩) 1 1,.func (.func 231) #[] #[]]:List Value).toArray G [] (fun _ μ' u=>μ'=[]∧u=.bool false):=by
 refine Ct.of Tryz.func230 rfl Tryz.ntmps230 rfl fun w0 hs0=>?_
 refine .g (kV rfl aYN (aB rfl (aB rfl aF)) (aP6 b _ hb) ?_)
 refine cP rfl rfl rfl rfl (aS rfl rfl (.nc (.ret (aN Tryz.results230 (.tmp rfl .nil) ?_))))
 exact ⟨rfl,rfl⟩
theorem aRa (b:Nat) (G:PM) (hb:PB G b (cl [.slice none 0 0] 189)):Ct Tryz.prog 164 ([.slice (some ⟨b,0,none⟩) 1 1]:List Value).toArray G [] (fun _ μ' u=>μ'=[]∧u=.bool true):=by
 refine Ct.of Tryz.func164 rfl Tryz.ntmps164 rfl fun w0 hs0=>?_
 refine .g (kV rfl aX0 (aB rfl (aB rfl aF)) (aOR b _ hb) ?_)
 refine nt rfl .no (.u rfl) (aS rfl rfl (.nc (.ret (aN Tryz.results164 (.tmp rfl .nil) ?_))))
 exact ⟨rfl,rfl⟩
theorem aOQ (bk:Nat) (G:PM) (hbk:PB G bk (cl [.slice none 0 0] 279)):Ct Tryz.prog 278 ([.func (.func 280) #[] #[.pointer (some ⟨bk,0,none⟩)]]:List Value).toArray G [] (fun _ μ' u=>μ'=[]∧u=.slice none 0 0):=by
 refine Ct.of Tryz.func278 rfl Tryz.ntmps278 rfl fun w0 hs0=>?_
 refine .g (kV rfl aYR (aB rfl (aB rfl aF)) (aNp bk _ hbk) ?_)
 refine aS rfl rfl (.nc (.ret (aN Tryz.results278 (.tmp rfl .nil) ?_)))
 exact ⟨rfl,rfl⟩
theorem aUL (bk:Nat) (G:PM) (hbk:PB G bk (cl [.slice none 0 0] 279)):Ct Tryz.prog 200 ([.func (.func 280) #[] #[.pointer (some ⟨bk,0,none⟩)]]:List Value).toArray G [] (fun _ μ' u=>μ'=[]∧u=.slice none 0 0):=by
 refine Ct.of Tryz.func200 rfl Tryz.ntmps200 rfl fun w0 hs0=>?_
 refine .g (kV rfl aYC (aB rfl aF) (aOQ bk _ hbk) ?_)
 refine .g (kV rfl aYD (aB rfl aF) (aUK _) ?_)
 refine .nil (.code (.seq (bF rfl rfl (mV rfl rfl (aS rfl rfl (.nc (.ret (aN Tryz.results200 (.tmp rfl .nil) ?_))))))))
 exact ⟨rfl,rfl⟩
theorem aQN (G:PM):Ct Tryz.prog 132 ([.slice none 0 0,.slice none 0 0,.bool false]:List Value).toArray G [] (fun _ μ' u=>μ'=[]∧u=.slice none 0 0):=by
 refine Ct.of Tryz.func132 rfl Tryz.ntmps132 rfl fun w0 hs0=>?_
 refine .seq (bF rfl rfl ?_)
 refine bX rfl rfl rfl ?_; intro b3
 refine .g (lO rfl aFx rfl .here (by first|exact aK rfl|rfl) ?_)
 refine Go.Tan.b1 rfl aMr aZO (.u rfl) rfl rfl (by decide) ?_; intro b15
 refine kp rfl .no aXg (aB rfl aF) (Gp.add .here Gp.nil) (fun _ hle hq=>aRa b15 _ ⟨cH _ _ _⟩) ?_
 refine nt rfl .no (.u rfl) (.g (cD rfl (fun c1=>?_) (fun c1=>?_)))
 ·have c1k:=c1
  cases c1
 have c1k:=c1
 try simp only [aD,aE] at c1
 refine .g (kc rfl aXq (aB rfl aF) (aVS _) ?_)
 rintro _ G19 μ19 hG19 ⟨b19,rfl,rfl⟩
 refine kp rfl .no aXp (aB rfl aF) (Gp.add .here Gp.nil) (fun _ hle hq=>aUL b19 _ ⟨cH _ _ _⟩) ?_
 refine aS rfl rfl (.nc (.seq (aP rfl rfl (aS rfl rfl (.nc (.seq (.block ?_)))))))
 refine aV (α:=Nat) (fun k=>[(8,true,.slice none 0 0)]) (fun k=>[.blk b3 (cl [.slice none 0 0] 189)])
  (fun k Gl=>True) (fun k=>0) 0 [(2,true,_),(3,true,_),(7,true,_)] [_,_]
  (aA rfl (aA rfl (aA rfl (aA rfl eZ))))
  (mS aM rfl (mS .here rfl (mS .here rfl mN))) ?_ ?_
 ·trivial
 intro k N0 Gl0 hN0 hGl0 hF0
 try dsimp only at hF0 hN0 ⊢
 refine .g (lO rfl aFx rfl .here (by first|exact aK rfl|rfl) ?_)
 refine lE rfl aBL rfl (cP rfl rfl rfl rfl (.g (cD rfl (fun c2=>?_) (fun c2=>?_))))
 ·have c2k:=c2
  cases c2
 have c2k:=c2
 try simp only [aD,aE] at c2
 refine .exit (.xcode (.xlp (.xblk (.code (.seq (bF rfl rfl (mV rfl rfl (aS rfl rfl (.nc (.ret (aN Tryz.results132 (.tmp rfl .nil) ?_)))))))))))
 exact ⟨rfl,rfl⟩
theorem aUI (f:Value) (G:PM):Ct Tryz.prog 197 ([.slice none 0 0,f]:List Value).toArray G [] (fun _ μ' u=>μ'=[]∧u=.tuple #[]):=by
 refine Ct.of Tryz.func197 rfl Tryz.ntmps197 rfl fun w0 hs0=>?_
 refine .block ?_
 refine aV (α:=Nat) (fun k=>[(0,true,.slice none 0 0)]) (fun _=>[])
  (fun k Gl=>True) (fun k=>0) 0 [(1,true,_)] []
  (aA rfl (aA rfl eZ))
  mN ?_ ?_
 ·trivial
 intro k N0 Gl0 hN0 hGl0 hF0
 try dsimp only at hF0 hN0 ⊢
 refine .g (lE rfl aBL rfl (cP rfl rfl rfl rfl (.g (cD rfl (fun c1=>?_) (fun c1=>?_)))))
 ·have c1k:=c1
  cases c1
 have c1k:=c1
 try simp only [aD,aE] at c1
 refine .g (aN Tryz.results197 .nil ?_)
 exact ⟨rfl,rfl⟩
theorem aUN (n:Int) (G:PM):Ct Tryz.prog 131 ([.slice none 0 0,.int .i64 n]:List Value).toArray G [] (fun _ μ' u=>μ'=[]∧u=.slice none 0 0):=by
 refine Ct.of Tryz.func131 rfl Tryz.ntmps131 rfl fun w0 hs0=>?_
 refine .seq (bF rfl rfl ?_)
 refine bX rfl rfl rfl ?_; intro b3
 refine .g (kV rfl aNE (aB rfl aF) (aKI ⟨none,0⟩ [] _ SlR.nul (by decide)) ?_)
 refine nt rfl .no (.u rfl) (.g (cD rfl (fun c1=>?_) (fun c1=>?_)))
 ·have c1k:=c1
  rw [aKH] at c1; cases c1
 have c1k:=c1
 try simp only [aD,aE] at c1
 refine .skip (.code (.seq (aP rfl rfl ?_)))
 refine al rfl aZH ?_; intro b5
 refine .nil (.code (.seq (bF rfl rfl ?_)))
 refine al rfl aDV ?_; intro b6
 refine s1 rfl (.u rfl) (.u rfl) rfl fL .here (by first|decide|(simp only [bW,bR,cC]; omega)) (rfl) ?_
 refine .g (mf (vf:=#[]) (vc:=[Value.pointer (some ⟨b5,0,none⟩),Value.pointer (some ⟨b6,0,none⟩),Value.pointer (some ⟨b3,0,none⟩)].toArray) rfl .no (fun a ha _=>by simp) (fun a ha _=>by simp [(Ev.u (c:=true) rfl:Ev _ true (.tmp 5) _).eval ha rfl,(Ev.u (c:=true) rfl:Ev _ true (.tmp 6) _).eval ha rfl,(Ev.u (c:=true) rfl:Ev _ true (.tmp 3) _).eval ha rfl]) ?_)
 refine kV rfl aXo (aB rfl (aB rfl aF)) (aUI _ _) ?_
 refine .g (lO rfl aWB rfl aC (by first|exact aK rfl|rfl) ?_)
 refine aS rfl rfl (.nc (.ret (aN Tryz.results131 (.tmp rfl .nil) ?_)))
 exact ⟨rfl,rfl⟩
theorem aUk (y:Value) (n:Int) (G:PM):Ct Tryz.prog 130 ([y,.int .i64 n,.slice none 0 0]:List Value).toArray G [] (fun _ μ' u=>μ'=[]∧u=.slice none 0 0):=by
 refine Ct.of Tryz.func130 rfl Tryz.ntmps130 rfl fun w0 hs0=>?_
 refine .g (lE rfl aMu rfl (mV rfl rfl (.nc (.block ?_))))
 refine aV (α:=Nat) (fun k=>[(7,true,.slice none 0 0),(16,true,.int .i64 (k:Int))]) (fun _=>[])
  (fun k Gl=>(k=0)) (fun k=>0) 0 [(0,true,_),(1,true,_),(14,true,_),(15,true,_)] []
  (aA rfl (aO rfl (aA rfl (aA rfl (aA rfl (aA rfl eZ))))))
  mN ?_ ?_
 ·(try dsimp only)<;>(first|omega|rfl|assumption|(simp; done))
 intro k N0 Gl0 hN0 hGl0 hF0
 try dsimp only at hF0 hN0 ⊢
 have hk:=hF0
 refine .g (cP rfl rfl rfl rfl (.g (cD rfl (fun c1=>?_) (fun c1=>?_))))
 ·have c1k:=c1
  subst hk; cases c1
 have c1k:=c1
 try simp only [aD,aE] at c1
 refine .exit (.xcode (.xlp (.xblk (.code (.seq (bF rfl rfl (mV rfl rfl (aS rfl rfl (.nc (.ret (aN Tryz.results130 (.tmp rfl .nil) ?_)))))))))))
 exact ⟨rfl,rfl⟩
end Go.Proofs.YtoifkgkandfeiaaGreatDoor
namespace Go.Proofs.YtoifkgkandfeiaaGreatDoor
open Go.Tan Go.RowKit Go.Maps Go.Sort Go.Shelf
theorem lG:bY Tryz.prog 30=some none:=by kernel_rfl
theorem aYA:aJ Tryz.prog 266=true:=by kernel_rfl
theorem aYz:aJ Tryz.prog 92=true:=by kernel_rfl
theorem aYy:aJ Tryz.prog 91=true:=by kernel_rfl
theorem yZ:aQ Tryz.prog 165 0=some 0:=by kernel_rfl
theorem tK:bY Tryz.prog 48=some none:=by kernel_rfl
theorem aYm:aJ Tryz.prog 52=true:=by kernel_rfl
theorem aXn:aJ Tryz.prog 194=true:=by kernel_rfl
theorem aA4:aQ Tryz.prog 165 6=some 56:=by kernel_rfl
theorem zG:aJ Tryz.prog 103=true:=by kernel_rfl
theorem aA3:aQ Tryz.prog 165 1=some 1:=by kernel_rfl
theorem yW:bY Tryz.prog 50=some none:=by kernel_rfl
theorem aDK:aJ Tryz.prog 134=true:=by kernel_rfl
theorem aXt:aJ Tryz.prog 209=true:=by kernel_rfl
theorem tS:aJ Tryz.prog 135=true:=by kernel_rfl
theorem wF:aQ Tryz.prog 163 0=some 0:=by kernel_rfl
theorem aDI:aJ Tryz.prog 102=true:=by kernel_rfl
theorem aBH:nN Tryz.prog 45=true:=by kernel_rfl
theorem aW5:aQ Tryz.prog 165 15=some 83:=by kernel_rfl
theorem aW6:aQ Tryz.prog 165 16=some 84:=by kernel_rfl
theorem aX6:aJ Tryz.prog 246=true:=by kernel_rfl
theorem aGV:aJ Tryz.prog 175=true:=by kernel_rfl
theorem aMX:aJ Tryz.prog 174=true:=by kernel_rfl
theorem aP7 (h:Sh) (l:List ByteArray) (x:ByteArray) (G:PM) (hs:SlR G 1 pH h l) (hl:l.length≤100000000):Ct Tryz.prog 266 ([h.val l.length,.string x]:List Value).toArray G [] (fun _ μ' u=>μ'=[]∧u=.int .i64 (oJ (fun y=>x.toList == y.toList) l)):=by
 refine Ct.of Tryz.func266 rfl Tryz.ntmps266 rfl fun w0 hs0=>?_
 refine .g (lE rfl tX rfl (mV rfl rfl (.nc (.block ?_))))
 refine aV (α:=Nat) (fun k=>[(8,true,.int .i64 (k:Int))]) (fun _=>[])
  (fun k Gl=>(k≤l.length)∧(∀ j y,j<k→l[j]? = some y→(x.toList == y.toList)=false)) (fun k=>l.length-k) 0 [(0,true,_),(1,true,_),(7,true,_)] []
  (aO rfl (aA rfl (aA rfl (aA rfl eZ))))
  mN ?_ ?_
 ·refine ⟨?_,?_⟩
  ·(try dsimp only)<;>(first|omega|rfl|assumption|(simp; done))
  (try dsimp only)<;>(exact fun j y h=>absurd h (Nat.not_lt_zero _))
 intro k N0 Gl0 hN0 hGl0 hF0
 try dsimp only at hF0 hN0 ⊢
 obtain ⟨hk,hno⟩:=hF0
 have hs:=hs.mono hGl0
 refine .g (cP rfl rfl rfl rfl (.g (cD rfl (fun c1=>?_) (fun c1=>?_))))
 ·have c1k:=c1
  try simp only [aD,aE] at c1
  refine .skip (.code (.seq (.block (.seq (bF rfl rfl (mV rfl rfl (aS rfl rfl (.nc (.seq (gM rfl rfl (mV rfl rfl (mV rfl rfl (mV rfl rfl (ih rfl .no mG (.u rfl) (.u rfl) (by omega) (by omega) (fun _=>hs.nn (k:=k) (by first|omega|(simp only [Bool.and_eq_true,decide_eq_true_eq] at hc; omega)|(simp only [List.length_cons,List.length_nil]; omega))) ?_))))))))))))))
  obtain ⟨y,ey⟩:=dT (k:=k) (xs:=l) (by omega)
  refine lN rfl cQ rfl ((hs.at (by omega) ey 0 _ rfl).rd) ?_
  refine cs rfl .no (.u rfl) (.u rfl) rfl (.g (cD rfl (fun c2=>?_) (fun c2=>?_)))
  ·have c2k:=c2
   try simp only [aD,aE] at c2
   refine .seq (bF rfl rfl (mV rfl rfl (aS rfl rfl (.nc (.ret (aN Tryz.results266 (.tmp rfl .nil) ?_))))))
   exact ⟨rfl,aIj hno ey (by simpa using c2k)⟩
  have c2k:=c2
  try simp only [aD,aE] at c2
  refine .g (aW (((k+1):Nat):Int) rfl rfl rfl rfl ?_)
  refine .g (aT (k+1) ?_ ?_ ?_ ?_ ?_)
  ·exact (aO rfl (aA rfl (aA rfl (aA rfl eZ))))
  ·exact mN
  ·first|omega|(dsimp only; omega)
  ·exact hGl0
  refine ⟨?_,?_⟩
  ·(try dsimp only)<;>(first|omega|rfl|assumption|(simp; done))
  (try dsimp only)<;>(exact aIl (p:=fun y=>x.toList == y.toList) hno ey (by simpa using c2k))
 have c1k:=c1
 try simp only [aD,aE] at c1
 refine .exit (.xcode (.xlp (.xblk (.code (.seq (aP rfl rfl (aS rfl rfl (.nc (.ret (aN Tryz.results266 (.tmp rfl .nil) ?_))))))))))
 exact ⟨rfl,aIk hno (by omega)⟩
theorem aOS (h:Sh) (l:List ByteArray) (x:ByteArray) (G:PM) (hs:SlR G 1 pH h l) (hl:l.length≤100000000):Ct Tryz.prog 194 ([h.val l.length,.string x]:List Value).toArray G [] (fun _ μ' u=>μ'=[]∧u=.bool (l.any (fun y=>x.toList == y.toList))):=by
 refine Ct.of Tryz.func194 rfl Tryz.ntmps194 rfl fun w0 hs0=>?_
 refine .g (kV rfl aYA (aB rfl (aB rfl aF)) (aP7 h l x _ hs hl) ?_)
 refine cP rfl rfl rfl rfl (aS rfl rfl (.nc (.ret (aN Tryz.results194 (.tmp rfl .nil) ?_))))
 exact ⟨rfl,congrArg Value.bool aQA⟩
theorem aRf (bd bm room done clk:Nat) (F:List Fi) (G:PM) (hbd:PB G bd (cl (cS bm room done) 118)) (hbm:PB G bm (mO (F.map Fi.fe) clk)) (hD:DkR F clk):Ct Tryz.prog 52 ([.pointer (some ⟨bd,0,none⟩)]:List Value).toArray G [] (fun G' μ' u=>∃ (h:Sh) (L:List ByteArray),(∀ s∈L,s∈F.map Fi.nm)∧L.length≤1000∧SlR G' 1 pH h L∧μ'=[]∧u=h.val L.length):=by
 refine Ct.of Tryz.func52 rfl Tryz.ntmps52 rfl fun w0 hs0=>?_
 refine .g (pe rfl .no zK (.u rfl) (.u rfl) ?_)
 refine .g (jE rfl rfl ?_)
 refine .g (nC rfl rfl (fA rfl oW rfl (lN rfl oU rfl ((hbd.rd (rfl)).rd) ?_)))
 refine kc rfl aYz (aB rfl aF) (aQR bm _) ?_
 rintro _ G9 μ9 hG9 ⟨b9,rfl,rfl⟩
 have hbm:=hbm.mono hG9
 refine ka rfl (.inr rfl) aYy (aB rfl aF) (bK .here) (tI fun hle=>aUM b9 bm clk F _ hD ⟨cH _ _ _⟩ (hbm.mono hle)) ?_
 rintro v10 G10 μ10 hG10 ⟨L10,hm10,hl10,rfl⟩
 refine aS rfl rfl (.nc (.ret ?_))
 refine oQ .here (fun _ _=>rfl) (by intro b hb; cases hb) ?_; intro GfRN hRN hleRN evRN hsRN; subst evRN
 refine aN Tryz.results52 (.tmp rfl .nil) ?_
 exact ⟨_,L10,hm10,hl10,hsRN,rfl,rfl⟩
theorem aKi (bx:Nat) (d:Db) (bm room done clk:Nat) (F:List Fi) (G:PM) (hbx:PB G bx (cl d.cells 165)) (hbd:PB G d.dk (cl (cS bm room done) 118)) (hbm:PB G bm (mO (F.map Fi.fe) clk)) (hD:DkR F clk) (h:Sh) (l:List ByteArray) (hs:SlR G 1 pH h l) (hl:l.length≤100000) (hall:∀ f∈F,f.nm∈l):Ct Tryz.prog 128 ([pt bx,h.val l.length]:List Value).toArray G [] (fun _ μ' u=>μ'=[]∧u=.tuple #[]):=by
 refine Ct.of Tryz.func128 rfl Tryz.ntmps128 rfl fun w0 hs0=>?_
 refine .g (nC rfl rfl (fA rfl yZ rfl (lN rfl tK rfl ((hbx.rd (rfl)).rd) ?_)))
 refine kc rfl aYm (aB rfl aF) (aRf d.dk bm room done clk F _ hbd hbm hD) ?_
 rintro _ G10 μ10 hG10 ⟨h10,L10,hm10,hl10,hs10,rfl,rfl⟩
 have hs:=hs.mono hG10
 refine lE rfl tX rfl (mV rfl rfl (.nc (.block ?_)))
 refine aV (α:=Nat) (fun k=>[(12,true,.int .i64 (k:Int))]) (fun _=>[])
  (fun k Gl=>(k≤L10.length)) (fun k=>L10.length-k) 0 [(0,true,_),(1,true,_),(10,true,_),(11,true,_)] []
  (aO rfl (aA rfl (aA rfl (aA rfl (aA rfl eZ)))))
  mN ?_ ?_
 ·(try dsimp only)<;>(first|omega|rfl|assumption|(simp; done))
 intro k N0 Gl0 hN0 hGl0 hF0
 try dsimp only at hF0 hN0 ⊢
 have hk:=hF0
 have hs:=hs.mono hGl0
 have hs10:=hs10.mono hGl0
 refine .g (cP rfl rfl rfl rfl (.g (cD rfl (fun c1=>?_) (fun c1=>?_))))
 ·have c1k:=c1
  try simp only [aD,aE] at c1
  refine .skip (.code (.seq (.block (.seq (dQ rfl rfl (ih rfl .no mG (.u rfl) (.u rfl) (by omega) (by omega) (fun _=>hs10.nn (k:=k) (by first|omega|(simp only [Bool.and_eq_true,decide_eq_true_eq] at hc; omega)|(simp only [List.length_cons,List.length_nil]; omega))) ?_))))))
  obtain ⟨y,ey⟩:=dT (k:=k) (xs:=L10) (by omega)
  refine lN rfl cQ rfl ((hs10.at (by omega) ey 0 _ rfl).rd) ?_
  refine .g (kV rfl aXn (aB rfl (aB rfl aF)) (aOS h l y _ hs (by omega)) ?_)
  refine nt rfl .no (.u rfl) (.g (cD rfl (fun c2=>?_) (fun c2=>?_)))
  ·have c2k:=c2
   have hq9:(l.any fun z=>y.toList == z.toList)=true:=by
    obtain ⟨f,hf,e⟩:=List.mem_map.1 (hm10 y (List.mem_of_getElem? ey))
    exact List.any_eq_true.2 ⟨y,by rw [← e]; exact hall f hf,by simp⟩
   rw [hq9] at c2; cases c2
  have c2k:=c2
  try simp only [aD,aE] at c2
  refine .g (aW (((k+1):Nat):Int) rfl rfl rfl rfl ?_)
  refine .g (aT (k+1) ?_ ?_ ?_ ?_ ?_)
  ·exact (aO rfl (aA rfl (aA rfl (aA rfl (aA rfl eZ)))))
  ·exact mN
  ·first|omega|(dsimp only; omega)
  ·exact hGl0
  (try dsimp only)<;>(first|omega|rfl|assumption|(simp; done))
 have c1k:=c1
 try simp only [aD,aE] at c1
 refine .g (aN Tryz.results128 .nil ?_)
 exact ⟨rfl,rfl⟩
theorem aBp (bx:Nat) (d:Db) (G:PM) (hn:d.next.toNat<1000):Ct Tryz.prog 129 ([pt bx]:List Value).toArray G [.blk bx (cl (Db.cells d) 165)] (fun _ μ' u=>μ'=[.blk bx (cl (Db.cells { d with next:=d.next+1#64 }) 165)]∧u=uv .u64 d.next):=by
 refine Ct.of Tryz.func129 rfl Tryz.ntmps129 rfl fun w0 hs0=>?_
 have hn2:@BitVec.toNat IntKind.u64.bits d.next = @BitVec.toNat 64 d.next:=rfl
 refine .g (nC rfl rfl (fZ rfl aA4 rfl (lO rfl bI rfl .here rfl ?_)))
 refine cP rfl rfl rfl rfl (kV rfl zG (aB rfl aF) (xH _ (by simp; omega) _) ?_)
 refine .g (nC rfl rfl (fZ rfl aA4 rfl (lO rfl bI rfl .here rfl ?_)))
 refine bw (k:=.u64) (b:=1#64) rfl .no rfl (.u rfl) (.u rfl) rfl (nC rfl rfl (fZ rfl aA4 rfl (s1 rfl (.u rfl) (.u rfl) rfl pA .here (by show _<85; decide) (aLe d _) ?_)))
 refine .g (nC rfl rfl (fZ rfl aA4 rfl (lO rfl bI rfl .here rfl ?_)))
 refine bw (k:=.u64) (b:=1#64) rfl .no rfl (.u rfl) (.u rfl) rfl (aS rfl rfl (.nc (.ret (We.fin Tryz.results129 (.tmp rfl .nil) (mS .here rfl mN) ?_))))
 exact ⟨rfl,congrArg (uv .u64) (BitVec.add_sub_cancel d.next 1#64)⟩
theorem aHv (bx bt:Nat) (d:Db) (m o:BitVec 64) (G:PM) (hbx:PB G bx (cl d.cells 165)) (ht:d.tr=bt) (hm:m.toNat≤1000):Ct Tryz.prog 140 ([pt bx]:List Value).toArray G [.blk bt (cl [uv .u64 (m),uv .u64 (o)] 87)] (fun _ μ' u=>μ'=[.blk bt (cl [uv .u64 (m+1#64),uv .u64 (o)] 87)]∧u=.tuple #[]):=by
 subst ht
 refine Ct.of Tryz.func140 rfl Tryz.ntmps140 rfl fun w0 hs0=>?_
 refine eT ⟨true,false⟩ aY (by kernel_rfl) ?_
 refine Wp.one 0 (by kernel_rfl) ?_
 refine mV rfl rfl (.nil (Wp.one 1 (by kernel_rfl) ?_))
 refine nC rfl rfl (.nil (Wp.one 2 (by kernel_rfl) ?_))
 refine fA rfl aA3 rfl (.nil (Wp.one 4 (by kernel_rfl) ?_))
 refine mV rfl rfl (.nil (Wp.one 5 (by kernel_rfl) ?_))
 refine nC rfl rfl (.nil (Wp.one 6 (by kernel_rfl) ?_))
 refine fA rfl aA3 rfl (.nil (Wp.one 7 (by kernel_rfl) ?_))
 refine lN rfl yW rfl ((hbx.rd (rfl)).rd) ?_
 refine .nil (mH 3 (by kernel_rfl) ?_)
 refine lN rfl yW rfl ((hbx.rd (rfl)).rd) ?_
 refine .nil ⟨⟨rfl,rfl⟩,?_⟩
 refine Wp.b1 8 (by kernel_rfl) ?_
 refine kp rfl .no aDK (aB rfl aF) (Gp.add .here Gp.nil) (fun _ hle hq=>aCK d.tr m o _ ⟨cH _ _ _⟩) ?_
 refine .nil (Wp.one 9 (by kernel_rfl) ?_)
 refine bw (k:=.u64) (b:=1#64) rfl .no rfl (.u rfl) (.u rfl) rfl (.nil (Wp.b1 10 (by kernel_rfl) ?_))
 refine ka rfl (.inl rfl) aXt (aB rfl (aB rfl aF)) (bK .here) (aRF d.tr m o _ (by omega)) ?_
 rintro _ G12 μ12 hG12 ⟨rfl,rfl⟩
 refine .nil (Wp.b1 11 (by kernel_rfl) ?_)
 refine kV rfl tS (aB rfl aF) (sR _) ?_
 refine .nil (Wp.last (by kernel_rfl) ?_)
 refine .nil (We.fin Tryz.results140 .nil (mS .here rfl mN) ?_)
 exact ⟨rfl,rfl⟩
theorem uE (b o:Nat) (f:Fl) (G:PM) (hf:RdNP G b o f.cells) (hn:f.h.num.toNat<10):Ct Tryz.prog 137 ([.pointer (some ⟨b,o,none⟩)]:List Value).toArray G [] (fun _ μ' u=>μ'=[]∧u=.string (bP f.h.kind.toNat f.h.num.toNat)):=by
 refine Ct.of Tryz.func137 rfl Tryz.ntmps137 rfl fun w0 hs0=>?_
 refine .g (bZ (mc:=⟨false,false⟩) [0,1,2,3,4,5,6,7,8,9,10,11] aY (by kernel_rfl) ?_)
 refine .p (nC rfl rfl (fA rfl wF rfl (fA rfl aMA rfl (lN rfl cZ rfl ((hf 0 _ rfl).rd) ?_))))
 refine .p (nC rfl rfl (fA rfl wF rfl (fA rfl aF8 rfl (lN rfl bI rfl ((hf 4 _ rfl).rd) ?_))))
 refine kV rfl aDI (aB rfl (aB rfl aF)) (aCN f.h.kind f.h.num _ hn) ?_
 refine aS rfl rfl (.nc (.ret (aN Tryz.results137 (.tmp rfl .nil) ?_)))
 exact ⟨rfl,rfl⟩
theorem aK1 (bx:Nat) (d:Db) (G:PM) (hbx:PB G bx (cl d.cells 165)):Ct Tryz.prog 96 ([pt bx]:List Value).toArray G [] (fun _ μ' u=>μ'=[]∧u=.int .i64 0):=by
 refine Ct.of Tryz.func96 rfl Tryz.ntmps96 rfl fun w0 hs0=>?_
 refine .g (pe rfl .no aBH (.u rfl) (.u rfl) ?_)
 refine .g (cD rfl (fun c1=>?_) (fun c1=>?_))
 ·have c1k:=c1
  cases c1
 have c1k:=c1
 try simp only [aD,aE] at c1
 refine .g (nC rfl rfl (fA rfl aW5 rfl (lN rfl lG rfl ((hbx.rd (rfl)).rd) ?_)))
 refine cP rfl rfl rfl rfl (.g (cD rfl (fun c2=>?_) (fun c2=>?_)))
 ·have c2k:=c2
  exact absurd c2 (by decide)
 have c2k:=c2
 try simp only [aD,aE] at c2
 refine .g (nC rfl rfl (fA rfl aW6 rfl (lN rfl fG rfl ((hbx.rd (rfl)).rd) ?_)))
 refine .g (cD rfl (fun c3=>?_) (fun c3=>?_))
 ·have c3k:=c3
  cases c3
 have c3k:=c3
 try simp only [aD,aE] at c3
 refine .skip (.blk (.code (.seq (aP rfl rfl (aS rfl rfl (.nc (.ret (aN Tryz.results96 (.tmp rfl .nil) ?_))))))))
 exact ⟨rfl,rfl⟩
theorem aHp (bx bm room done clk:Nat) (d:Db) (F:List Fi) (G:PM) (hbx:PB G bx (cl d.cells 165)) (hD:DkR F clk) (hd9:done≤200000000) (hr9:room≤1000000000) (nm:ByteArray) (f:Fi) (hn:jG nm) (hf:cV nm F=some f):Ct Tryz.prog 174 ([pt bx,.string nm]:List Value).toArray G [.blk d.dk (cl (cS bm room (done)) 118),.blk bm (mO ((F).map Fi.fe) (clk))] (fun _ μ' u=>μ'=[.blk d.dk (cl (cS bm room (done+1)) 118),.blk bm (mO ((iT nm F).map Fi.fe) (clk))]∧u=.tuple #[]):=by
 refine Ct.of Tryz.func174 rfl Tryz.ntmps174 rfl fun w0 hs0=>?_
 refine .g (nC rfl rfl (fA rfl yZ rfl (lN rfl tK rfl ((hbx.rd (rfl)).rd) ?_)))
 refine .p (ka rfl (.inr rfl) aX6 (aB rfl (aB rfl aF)) (eI .here .here) (aOl d.dk bm room done clk F _ hD (by omega) hr9 nm f hn hf) ?_)
 rintro _ G10 μ10 hG10 ⟨rfl,rfl⟩
 refine .g (cP rfl rfl rfl rfl (.g (cD rfl (fun c1=>?_) (fun c1=>?_))))
 ·have c1k:=c1
  exact absurd c1 (by decide)
 have c1k:=c1
 try simp only [aD,aE] at c1
 refine .g (kV rfl tS (aB rfl aF) (sR _) ?_)
 refine .g (We.fin Tryz.results174 .nil (mS .here rfl (mS .here rfl mN)) ?_)
 exact ⟨rfl,rfl⟩
theorem aHr (bx bm room done clk:Nat) (d:Db) (F:List Fi) (G:PM) (hbx:PB G bx (cl d.cells 165)) (hD:DkR F clk) (hd9:done≤100000000) (hr9:room≤1000000000) (nm:ByteArray) (h:Sh) (xs:List Y) (hs:SlR G 1 aU h xs) (hn:jG nm) (hab:cV nm F=none) (hx:xs.length≤1000000) (hfit:xs.length+cR F≤room) (hcf:F.length<100):Ct Tryz.prog 136 ([pt bx,.string nm,h.val xs.length]:List Value).toArray G [.blk d.dk (cl (cS bm room (done)) 118),.blk bm (mO ((F).map Fi.fe) (clk))] (fun _ μ' u=>∃ F':List Fi,DkR F' (clk+1)∧F'.map Fi.nm=F.map Fi.nm++[nm]∧cR F'=cR F+xs.length∧μ'=[.blk d.dk (cl (cS bm room (done+1+1)) 118),.blk bm (mO ((F').map Fi.fe) (clk+1))]∧u=.tuple #[]):=by
 refine Ct.of Tryz.func136 rfl Tryz.ntmps136 rfl fun w0 hs0=>?_
 refine .g (nC rfl rfl (fA rfl yZ rfl (lN rfl tK rfl ((hbx.rd (rfl)).rd) ?_)))
 refine .p (ka rfl (.inr rfl) aGV (aB rfl (aB rfl (aB rfl aF))) (eI .here .here) (aD3 d.dk bm room done clk F _ hD (by omega) hr9 nm h xs hs hn hab (by omega) hfit) ?_)
 rintro _ G13 μ13 hG13 ⟨f,hfn,hfl,hfs,hfb,rfl,rfl⟩
 have hD2:DkR (F++[f]) (clk+1):=hD.app hfb (by omega) (by rw [hfn]; exact hab) (by rw [hfn]; exact hn.2) (by omega)
 have hg2:cV nm (F++[f])=some f:=aB0 hab hfn
 have hbx:=hbx.mono hG13
 refine .g (kV rfl tS (aB rfl aF) (sR _) ?_)
 refine .g (ka rfl (.inr rfl) aMX (aB rfl (aB rfl aF)) (eI .here .here) (aHp bx bm room (done+1) (clk+1) d (F++[f]) _ hbx hD2 (by omega) hr9 nm f hn hg2) ?_)
 rintro _ G18 μ18 hG18 ⟨rfl,rfl⟩
 refine .g (We.fin Tryz.results136 .nil (mS .here rfl (mS .here rfl mN)) ?_)
 obtain ⟨hDn,hnn,hzn⟩:=aVo hD hfn hfl hfb hab hn.2 (by omega) hcf
 exact ⟨_,hDn,hnn,hzn,rfl,rfl⟩
theorem aF6:aQ Tryz.prog 159 3=some 7:=by kernel_rfl
theorem aF7:aQ Tryz.prog 159 4=some 8:=by kernel_rfl
theorem aF5:aQ Tryz.prog 159 1=some 5:=by kernel_rfl
theorem tM:aQ Tryz.prog 159 0=some 0:=by kernel_rfl
theorem aA0:bY Tryz.prog 156=some (some 5):=by kernel_rfl
theorem wC:fN Tryz.prog 156=some (5,155,1):=by kernel_rfl
theorem lZ:bY Tryz.prog 155=some none:=by kernel_rfl
theorem oB:bL Tryz.prog 155=some (184,40,112):=by kernel_rfl
theorem mF:(bL Tryz.prog 155).isSome=true:=by kernel_rfl
theorem pV:bY Tryz.prog 184=some (some 40):=by kernel_rfl
theorem aBQ:dV Tryz.prog 184=some (Meta.zero.cells):=by kernel_rfl
theorem aBN:cI Tryz.prog 184=some 40:=by kernel_rfl
theorem aGl:mpE Tryz.prog 152=some (.u64,3):=by kernel_rfl
theorem qD:(Tryz.prog.info? 3).bind (·.zero)=some (.int .i64 0):=by kernel_rfl
theorem aYP:aJ Tryz.prog 319=true:=by kernel_rfl
theorem aYQ:aJ Tryz.prog 320=true:=by kernel_rfl
theorem aDY:(Tryz.prog.info? 184).bind (·.zero)=some (.agg (Meta.zero.cells).toArray):=by kernel_rfl
set_option maxHeartbeats 1000000 in
theorem aK4 (s:State) (hd:Nat→Sh) (G:PM) (hs:StR G s hd):Ct Tryz.prog 238 ([s.val hd]:List Value).toArray G [] (fun _ μ' u=>μ'=[]∧u=.bool (uT s)):=by
 refine Ct.of Tryz.func238 rfl Tryz.ntmps238 rfl fun w0 hs0=>?_
 refine .seq (bF rfl rfl ?_)
 refine bX rfl rfl rfl ?_; intro b1
 refine .g (fZ rfl aF6 rfl (lO rfl bI rfl .here rfl ?_))
 refine fZ rfl aF7 rfl (lO rfl bI rfl .here rfl ?_)
 refine mA rfl .no (.u rfl) (.u rfl) ?_
 refine cP rfl rfl rfl rfl (.p (fz rfl (.f rfl rfl) aF5 (.u rfl) (ld rfl (.f rfl rfl) bI (.s rfl) (fun _=>Rd.own .here rfl) ?_)))
 refine fz rfl (.f rfl rfl) aDA (.u rfl) (ld rfl (.f rfl rfl) bI (.s rfl) (fun _=>Rd.own .here rfl) ?_)
 refine cp rfl (.f rfl rfl) (.s rfl) (.s rfl) rfl (cF rfl .no (.u rfl) (.s rfl) (.g (cD rfl (fun c1=>?_) (fun c1=>?_))))
 ·have c1k:=c1
  try simp only [aD] at c1
  refine .seq (aP rfl rfl (aS rfl rfl (.nc (.ret (aN Tryz.results238 (.tmp rfl .nil) ?_)))))
  exact ⟨rfl,aET (aTp c1)⟩
 have c1k:=c1
 try simp only [aD] at c1
 refine .skip (.code (.seq (bF rfl rfl ?_)))
 refine mk rfl .u64 ?_; intro b22
 refine .g (fZ rfl tM rfl (lA rfl .no aA0 (.u rfl) (fun _=>RdN.part (n:=5) aC rfl) (fun _=>rfl) ?_))
 refine mV rfl rfl (.nc (.block ?_))
 refine aV (α:=Nat) (fun i=>[(4,true,.int .i64 (1024-dO s i)),(25,true,.int .i64 (i:Int))]) (fun i=>[.mp b22 .u64 (mI (iK (dD s i)))])
  (fun i Gl=>i≤5∧dO s i≤1024∧(∀ j,j<i→aBT s j (s.lv j))∧rK (dD s i)) (fun i=>5-i) 0 [(1,true,_),(3,true,_),(24,true,_)] [.blk b1 _]
  (aA rfl (aA rfl (aA rfl (aA rfl (aA rfl eZ)))))
  (mS .here rfl (mS .here rfl mN)) ?_ ?_
 ·exact ⟨by omega,by simp [dO],fun j hj=>by omega,aO6⟩
 intro i N0 Gl0 hN0 hGl0 hF0
 try dsimp only at hF0 hN0 ⊢
 obtain ⟨hi,ht,hall,hdi⟩:=hF0
 refine .g (cP rfl rfl rfl rfl (.g (cD rfl (fun c2=>?_) (fun c2=>?_))))
 ·have c2k:=c2
  try simp only [aD] at c2
  refine .skip (.code (.seq (.block (.seq (dI rfl rfl ?_)))))
  have hli:=hs.len i (by omega); have htn:=aFc s i
  refine .p (ix rfl .no wC lZ (.u rfl) (.u rfl) (by omega) (by omega) (fun _=>(s.arr_lv hd (k:=i) (by omega))) ?_)
  refine .g (lE rfl mF rfl (.p (cP rfl rfl rfl rfl (.g (cD rfl (fun c3=>?_) (fun c3=>?_))))))
  ·have c3k:=c3
   try simp only [aD] at c3
   refine .seq (aP rfl rfl (aS rfl rfl (.nc (.ret (aN Tryz.results238 (.tmp rfl .nil) ?_)))))
   exact ⟨rfl,aET (aTo (by omega) c3)⟩
  have c3k:=c3
  try simp only [aD] at c3
  refine .g (lE rfl mF rfl (aR rfl rfl rfl rfl ?_))
  refine .g (lE rfl mF rfl (mV rfl rfl (.nc (.block ?_))))
  refine aV (α:=Nat) (fun k=>[(39,true,.int .i64 (k:Int))]) (fun k=>[.mp b22 .u64 (mI (iK (dD s i++(s.lv i).take k)))])
   (fun k Gl=>Part s i k) (fun k=>(s.lv i).length-k) 0 [(1,true,_),(3,true,_),(4,true,_),(5,true,_),(6,true,_),(24,true,_),(25,true,_),(37,true,_),(38,true,_)] [.blk b1 _]
   (aA rfl (aA rfl (aA rfl (aA rfl (aA rfl (aA rfl (aA rfl (aA rfl (aA rfl (aA rfl eZ))))))))))
   (mS .here (aOP s i _) (mS .here rfl mN)) ?_ ?_
  ·exact Part.zero hdi
  intro k N1 Gl1 hN1 hGl1 hF1
  try dsimp only at hF1 hN1 ⊢
  have hP:Part s i k:=hF1; have hkl:=hP.le
  refine .g (cP rfl rfl rfl rfl (.g (cD rfl (fun c4=>?_) (fun c4=>?_))))
  ·have c4k:=c4
   try simp only [aD] at c4
   refine .skip (.code (.seq (.block (.seq (gM rfl rfl ?_)))))
   have hwf:=(hs.wf i (by omega) _ (aB6 (k:=k) (by omega))).level; have hcb:=aOH (iK (dD s i++(s.lv i).take k)) ((s.lv i).getD k Meta.zero).number
   refine mV rfl rfl (ih rfl .no oB (.u rfl) (.u rfl) (by omega) (by omega) (fun _=>(hs.lv i (by omega)).nn (k:=k) (by omega)) ?_)
   refine lA rfl .no pV (.u rfl) (fun _=>((((hs.mono hGl0).mono hGl1).lv i (by omega)).gat k (by omega) (by omega)).rd) (fun _=>rfl) ?_
   refine al rfl aBQ ?_; intro b8
   refine .p (sw rfl (.u rfl) (.u rfl) rfl aBN .here rfl (Meta.one _) ?_)
   refine .g (fZ rfl wG rfl (lO rfl bI rfl .here rfl ?_))
   refine lk rfl .no aGl qD (.u rfl) (.u rfl) aC (aOI _ _) ?_
   refine aR rfl rfl rfl rfl ?_
   refine mu rfl aGl (.u rfl) (.u rfl) (.u rfl) aC ?_
   refine .g (bZ (mc:=⟨false,false⟩) [0,1,2,3,4,5,6,7,8,9,10,11,12,13,14,15,16,17,18,19,20,21,22,23,24,25,26,27,28,29,30] aY (by kernel_rfl) ?_)
   refine fZ rfl zA rfl (lO rfl cZ rfl aC rfl ?_)
   refine cw rfl .no aDb (.u rfl) (fun _=>eJ (by omega) (by omega)) ?_
   refine .p (cP rfl rfl rfl rfl (.p (lA rfl (.f rfl rfl) pV (.u rfl) (fun _=>RdN.own aC) (fun _=>rfl) ?_)))
   refine kp rfl (.f rfl rfl) aYP (aB rfl (Eva.cons (.s rfl) aF)) (Gp.add aM Gp.nil) (fun hc hle hq=>aPX s hd _ b1 _ RdNP.add hwf.1) ?_
   refine nt rfl (.f rfl rfl) (.s rfl) (cF rfl .no (.u rfl) (.s rfl) (mV rfl rfl (mv rfl (.f rfl rfl) (.u rfl) (fz rfl (.f rfl rfl) wG (.u rfl) (ld rfl (.f rfl rfl) bI (.s rfl) (fun _=>Rd.own aC rfl) ?_)))))
   refine lk rfl (.f rfl rfl) aGl qD (.s rfl) (.s rfl) .here (aOO _ _ _ _) ?_
   refine cp rfl (.f rfl rfl) (.s rfl) (.u rfl) rfl (cF rfl .no (.u rfl) (.s rfl) (mV rfl rfl (mv rfl (.f rfl rfl) (.u rfl) (cp rfl (.f rfl rfl) (.s rfl) (.u rfl) rfl (mv rfl (.f rfl rfl) (.s rfl) (mv rfl (.tc rfl rfl) (.u rfl) (mv rfl (.tc rfl rfl) (.u rfl) (ar rfl (.tc rfl rfl) (.s rfl) (.u rfl) rfl (fun hc=>eJ (by omega) (by omega)) ?_))))))))
   refine ih rfl (.tc rfl rfl) oB (.s rfl) (.s rfl) (fun hc=>by simp only [Bool.and_eq_true,decide_eq_true_eq] at hc; omega) (fun hc=>by simp only [Bool.and_eq_true,decide_eq_true_eq] at hc; omega) (fun hc=>(hs.lv i (by omega)).nn (k:=k) (by omega)) ?_
   refine lA rfl (.tc rfl rfl) pV (.s rfl) (fun hc=>((((hs.mono hGl0).mono hGl1).lv i (by omega)).gat (k-1) (by simp only [Bool.and_eq_true,decide_eq_true_eq] at hc; omega) (by omega)).rd) (fun _=>rfl) ?_
   refine lA rfl (.tc rfl rfl) pV (.u rfl) (fun _=>RdN.own aC) (fun _=>rfl) ?_
   refine kv rfl (.tc rfl rfl) aYQ (Eva.cons (.s rfl) (Eva.cons (.s rfl) aF)) (fun hc=>aUZ _ _ _ (hs.wf i (by omega) _ (aB6 (by simp only [Bool.and_eq_true,decide_eq_true_eq] at hc; omega))).level.1) ?_
   refine nt rfl (.tc rfl rfl) (.s rfl) (cW rfl (.f rfl rfl) (.s rfl) (.s rfl) (cF rfl .no (.u rfl) (.s rfl) (.g (cD rfl (fun c5=>?_) (fun c5=>?_)))))
   ·have c5k:=c5
    try simp only [aD] at c5
    refine .seq (aP rfl rfl (aS rfl rfl (.nc (.ret (aN Tryz.results238 (.tmp rfl .nil) ?_)))))
    exact ⟨rfl,aET (aTq (by omega) (by omega) hP c5k)⟩
   have c5k:=c5
   try simp only [aD] at c5
   refine .g (aR rfl rfl rfl rfl ?_)
   refine mV rfl rfl (.nil ?_)
   have hst:=aTr (by omega) hP c5k
   refine aT (k+1) ?_ ?_ ?_ ?_ ?_
   ·exact (aA rfl (aA rfl (aA rfl (aA rfl (aA rfl (aA rfl (aA rfl (aA rfl (aA rfl (aA rfl eZ))))))))))
   ·exact (mS .here (aON (by omega) hst.2) (mS aC rfl mN))
   ·first|omega|(dsimp only; omega)
   ·exact hGl1
   exact hst.1
  have c4k:=c4
  try simp only [aD] at c4
  refine .g (aR rfl rfl rfl rfl ?_)
  refine .g (aT (i+1) ?_ ?_ ?_ ?_ ?_)
  ·exact (dY rfl (congrArg _ (by rw [show dO s (i+1)=dO s i+(s.lv i).length from rfl]; omega)) (aA rfl (aA rfl (aA rfl (aA rfl eZ)))))
  ·exact (mS .here (aOK (by omega)) (mS .here rfl mN))
  ·first|omega|(dsimp only; omega)
  ·exact hGl0.trans hGl1
  exact ⟨by omega,by rw [show dO s (i+1)=dO s i+(s.lv i).length from rfl]; omega,fun j hj=>(by by_cases e:j=i; (subst e; exact hP.lvOk (by omega)); exact hall j (by omega)),hP.next (by omega)⟩
 have c2k:=c2
 try simp only [aD] at c2
 refine .exit (.xcode (.xlp (.xblk (.code (.seq (aP rfl rfl (aS rfl rfl (.nc (.ret (aN Tryz.results238 (.tmp rfl .nil) ?_))))))))))
 exact ⟨rfl,aPV (aTm c1 (by omega) ht hall hdi)⟩
theorem aSs (s:State) (hd:Nat→Sh) (G:PM) (hs:StR G s hd) (level:Int) (lo hi:ByteArray):Ct Tryz.prog 149 ([s.val hd,.int .i64 level,.string lo,.string hi]:List Value).toArray G [] (fun G' μ' u=>μ'=[]∧∃ h:Sh,u=h.val (nL s level lo hi).length∧SlR G' 40 Meta.cells h (nL s level lo hi)):=by
 refine Ct.of Tryz.func149 rfl Tryz.ntmps149 rfl fun w0 hs0=>?_
 refine .seq (bF rfl rfl ?_)
 refine bX rfl rfl rfl ?_; intro b4
 refine .g (cP rfl rfl rfl rfl (mV rfl rfl (mv rfl (.f rfl rfl) (.u rfl) (cp rfl (.f rfl rfl) (.s rfl) (.u rfl) rfl (cF rfl .no (.u rfl) (.s rfl) (.g (cD rfl (fun c1=>?_) (fun c1=>?_))))))))
 ·have c1k:=c1
  try simp only [aD] at c1
  refine .seq (aP rfl rfl (aS rfl rfl (.nc (.ret (aN Tryz.results149 (.tmp rfl .nil) ?_)))))
  exact ⟨rfl,⟨none,0⟩,by rw [aJu c1]; rfl,by rw [aJu c1]; exact SlR.nul⟩
 have c1k:=c1
 try simp only [aD] at c1
 refine .skip (.code (.seq (.seq (gM rfl rfl ?_))))
 have hli:=hs.len level.toNat (by omega)
 refine .p (fZ rfl tM rfl (iW rfl wC rfl rfl ?_))
 refine lO rfl lZ rfl .here (s.cell_lv hd (k:=level.toNat) (by omega)) ?_
 refine lE rfl mF rfl (mV rfl rfl (.nc (.block (aCu 184 40 ?_))))
 refine aV (α:=Nat×Value) (fun gh=>[(9,true,gh.2),(23,true,.int .i64 (gh.1:Int))]) (fun gh=>[.row gh.2 184 40 (((s.lv level.toNat).take gh.1).filter (kR lo hi)).length ((((s.lv level.toNat).take gh.1).filter (kR lo hi)).flatMap Meta.cells)])
  (fun gh Gl=>gh.1≤(s.lv level.toNat).length) (fun gh=>(s.lv level.toNat).length-gh.1) (0,.slice none 0 0) [(2,true,_),(3,true,_),(21,true,_),(22,true,_)] [.blk b4 _]
  (aA rfl (aA rfl (aA rfl (aA rfl (aA rfl (aA rfl eZ))))))
  (mS .here rfl (mS .here rfl mN)) ?_ ?_
 ·show 0≤(s.lv level.toNat).length; omega
 intro gh N0 Gl0 hN0 hGl0 hF0
 obtain ⟨k,v⟩:=gh; dsimp only at hF0 hN0 ⊢
 have hk:k≤(s.lv level.toNat).length:=hF0; have hfl:=aPS (s.lv level.toNat) (kR lo hi) k
 refine .g (cP rfl rfl rfl rfl (.g (cD rfl (fun c2=>?_) (fun c2=>?_))))
 ·have c2k:=c2
  try simp only [aD] at c2
  refine .skip (.code (.seq (.block (.seq (dI rfl rfl (ih rfl .no oB (.u rfl) (.u rfl) (by omega) (by omega) (fun _=>(hs.lv level.toNat (by omega)).nn (k:=k) (by omega)) ?_))))))
  refine lA rfl .no pV (.u rfl) (fun _=>(((hs.mono hGl0).lv level.toNat (by omega)).gat k (by omega) (by omega)).rd) (fun _=>rfl) ?_
  refine al rfl aBQ ?_; intro b11
  refine sw rfl (.u rfl) (.u rfl) rfl aBN .here rfl (Meta.one _) ?_
  refine .g (fZ rfl zC rfl (lO rfl cQ rfl .here rfl ?_))
  refine .p (cs rfl .no (.u rfl) (.u rfl) rfl (.p (fz rfl (.t rfl rfl) zB (.u rfl) (ld rfl (.t rfl rfl) cQ (.s rfl) (fun _=>Rd.own .here rfl) ?_))))
  refine mv rfl (.t rfl rfl) (.u rfl) (cs rfl (.t rfl rfl) (.s rfl) (.s rfl) rfl (cW rfl .no (.u rfl) (.s rfl) (.g (cD rfl (fun c3=>?_) (fun c3=>?_)))))
  ·have c3k:=c3
   try simp only [aD] at c3
   refine .g (lB rfl pV rfl .here ?_)
   refine Go.Tan.b1 rfl oB aDY (.u rfl) rfl rfl (by decide) ?_; intro b39
   refine ap rfl oB aDY rfl (.u rfl) (.u rfl) aM (rfl) (fun _=>⟨_,_,rfl,RdN.own .here⟩) (Meta.one _) (by omega) (by unfold maxLen; omega) ?_; intro v40
   refine .g (aR rfl rfl rfl rfl ?_)
   refine .g (aT (k+1,v40) ?_ ?_ ?_ ?_ ?_)
   ·exact (aA rfl (aA rfl (aA rfl (aA rfl (aA rfl (aA rfl eZ))))))
   ·exact (mS .here (aSq (by omega) c3k) (mS aM rfl mN))
   ·first|omega|(dsimp only; omega)
   ·exact hGl0
   show k+1≤(s.lv level.toNat).length; omega
  have c3k:=c3
  try simp only [aD] at c3
  refine .g (aR rfl rfl rfl rfl ?_)
  refine .g (aT (k+1,v) ?_ ?_ ?_ ?_ ?_)
  ·exact (aA rfl (aA rfl (aA rfl (aA rfl (aA rfl (aA rfl eZ))))))
  ·exact (mS aC (aSp (by omega) c3k) (mS aC rfl mN))
  ·first|omega|(dsimp only; omega)
  ·exact hGl0
  show k+1≤(s.lv level.toNat).length; omega
 have c2k:=c2
 try simp only [aD] at c2
 refine .exit (.xcode (.xlp (.xblk (.code (.seq (bF rfl rfl (mV rfl rfl (aS rfl rfl (.nc (.ret (aLH .here (fun b hb=>by cases hb) ?_)))))))))))
 intro Gf hh hlef hv hcap hnn hrd; subst hv
 refine aN Tryz.results149 (.tmp rfl .nil) ?_
 have hko:k=(s.lv level.toNat).length:=by omega
 subst hko
 rw [List.take_length] at hcap hnn hrd
 exact ⟨rfl,hh,by rw [aJt c1,List.take_length]; rfl,by rw [aJt c1]; exact SlR.ofRow (aCL _) hcap hnn hrd⟩
theorem aDc:jP Tryz.prog 5 23=some .u64:=by kernel_rfl
theorem aGX:aJ Tryz.prog 277=true:=by kernel_rfl
theorem aG6 (xs:List Y) (h:Sh) (G:PM) (hs:SlR G 1 aU h xs) (n:BitVec 64) (hl:xs.length≤100000000000000):Ct Tryz.prog 277 ([h.val xs.length,uv .u64 n]:List Value).toArray G [] (PR 5 (fun L=>L=xs++dH n.toNat)):=by
 refine Ct.of Tryz.func277 rfl Tryz.ntmps277 rfl fun w0 hs0=>?_
 have ln:=iD n.isLt
 refine .seq (aP rfl rfl (aS rfl rfl (.nc (.seq (dI rfl rfl ?_)))))
 refine rX rfl aX ?_; intro b6
 refine .p (wZ rfl aX cG (.u rfl) (.u rfl) .here hs.sc (by (try simp only [cC,cY]); omega) ?_)
 intro v8 L8 _ ov8 eL8
 have lL8:L8.length=xs.length:=by rw [eL8]
 refine aS rfl rfl (.nc (.seq (.block ?_)))
 refine aV (α:=BitVec 64×Value×List Y) (fun gh=>[(1,true,uv .u64 gh.1),(5,true,gh.2.1)]) (fun gh=>[rB gh.2.1 5 gh.2.2])
  (fun gh Gl=>(gh.2.2++dH gh.1.toNat=xs++dH n.toNat)) (fun gh=>gh.1.toNat) (n,v8,L8) [] []
  (aA rfl (aA rfl eZ))
  (mS .here rfl mN) ?_ ?_
 ·(try dsimp only)<;>(rw [eL8])
 intro gh N0 Gl0 hN0 hGl0 hF0
 obtain ⟨m,v,L⟩:=gh; dsimp only at hF0 hN0 ⊢
 have eq:=hF0
 have tq:@BitVec.toNat IntKind.u64.bits m=m.toNat:=rfl
 have lq:=congrArg List.length eq
 simp only [List.length_append] at lq
 have lp:=aR5 m.toNat
 refine .g (cP rfl rfl rfl rfl (.g (cD rfl (fun c1=>?_) (fun c1=>?_))))
 ·have c1k:=c1
  try simp only [aD,aL,aE] at c1
  refine .g (cu (k:=.u64) rfl .no rfl wD (.u rfl) ?_)
  refine bw (k:=.u8) (b:=128#8) rfl .no rfl (.u rfl) (.u rfl) rfl ?_
  refine Go.Tan.b1 rfl aX cG (.u rfl) rfl rfl (by decide) ?_; intro b17
  refine eY rfl aX cG (.u rfl) (.u rfl) aC (Sc.one .here) (by show _+1≤_; omega) ?_
  intro v18 L18 ov18 eL18
  have lL18:L18.length=L.length+1:=by rw [eL18,List.length_append]; first|rfl | simp [cY]
  refine .g (oN (k:=.u64) rfl .no (.u rfl) (.u rfl) (fun _=>by decide) ?_)
  refine .g (aT (m >>> 7,v18,L18) ?_ ?_ ?_ ?_ ?_)
  ·exact (aA rfl (aA rfl eZ))
  ·exact (mS .here rfl mN)
  ·(dsimp only; rw [aUD]; omega)
  ·exact hGl0
  (try dsimp only)<;>(rw [eL18,←eq,aR4 (m:=m) (by omega),List.append_assoc]; rfl)
 have c1k:=c1
 try simp only [aD,aL,aE] at c1
 refine .g (cu (k:=.u64) rfl .no rfl wD (.u rfl) ?_)
 refine Go.Tan.b1 rfl aX cG (.u rfl) rfl rfl (by decide) ?_; intro b22
 refine eY rfl aX cG (.u rfl) (.u rfl) aC (Sc.one .here) (by show _+1≤_; omega) ?_
 intro v23 L23 ov23 eL23
 have lL23:L23.length=L.length+1:=by rw [eL23,List.length_append]; first|rfl | simp [cY]
 refine aS rfl rfl (.nc (.ret (We.fin Tryz.results277 (.tmp rfl .nil) (mS .here rfl mN) ?_)))
 exact ⟨L23,by rw [eL23,←eq,aR3 (m:=m) (by omega)]; rfl,rfl⟩
theorem aG5 (xs:List Y) (h:Sh) (G:PM) (hs:SlR G 1 aU h xs) (x:Int) (hx:u64 x) (hl:xs.length≤100000000000000):Ct Tryz.prog 277 ([h.val xs.length,.int .u64 x]:List Value).toArray G [] (PR 5 (fun L=>L=xs++dH x.toNat)):=by
 rw [uvI hx,←ofI hx]; exact aG6 xs h G hs _ hl
theorem wX (xs:List Y) (h:Sh) (G:PM) (hs:SlR G 1 aU h xs) (s:ByteArray) (hl:xs.length+s.size≤100000000000000):Ct Tryz.prog 273 ([h.val xs.length,.string s]:List Value).toArray G [] (PR 5 (fun L=>L=xs++nQ (yb s))):=by
 refine Ct.of Tryz.func273 rfl Tryz.ntmps273 rfl fun w0 hs0=>?_
 have ly:=eQ s
 have ln:=iD (n:=s.size) (by omega)
 refine .g (ls rfl .no cE (.u rfl) (cw rfl .no jC (.u rfl) (fun _=>oR (by omega) (by omega)) ?_))
 refine kc rfl aGX (aB rfl (aB rfl aF)) (mX (aG5 xs h _ hs (s.size:Int) ⟨by omega,by omega⟩ (by omega))) ?_
 rintro v9 G9 μ9 hG9 ⟨L9,ov9,eL9,rfl⟩
 refine mV rfl rfl ?_
 have l9:L9.length=xs.length+(dH s.size).length:=by rw [eL9,List.length_append,Int.toNat_natCast]
 refine apT rfl aX cE cG (.u rfl) (.u rfl) .here (by (try simp only [List.length_append]); omega) ?_; intro v11 L11 ov11 eL11
 refine aS rfl rfl (.nc (.ret (We.fin Tryz.results273 (.tmp rfl .nil) (mS .here rfl mN) ?_)))
 exact ⟨L11,by rw [eL11,eL9,nQ,ly,Int.toNat_natCast,List.append_assoc],rfl⟩
theorem oC:cI Tryz.prog 30=some 1:=by kernel_rfl
theorem qC:bL Tryz.prog 279=some (23,1,8):=by kernel_rfl
theorem oM (xs:List Y) (h:Sh) (ns:List Int) (hn:Sh) (G:PM) (hs:SlR G 1 aU h xs) (hsn:SlR G 1 nE hn ns) (hu:∀ x∈ns,u64 x) (hl:xs.length+10*ns.length≤100000000000000):Ct Tryz.prog 295 ([h.val xs.length,hn.val ns.length]:List Value).toArray G [] (fun G' μ' u=>∃ (s:Sh) (L:List Y),L=xs++fH ns∧μ'=[]∧u=s.val L.length∧SlR G' 1 aU s L):=by
 refine Ct.of Tryz.func295 rfl Tryz.ntmps295 rfl fun w0 hs0=>?_
 refine .g (lE rfl aG2 rfl (mV rfl rfl (.nc (.block ?_))))
 refine aV (α:=Nat×Sh×List Y) (fun gh=>[(0,true,gh.2.1.val gh.2.2.length),(9,true,.int .i64 (gh.1:Int))]) (fun _=>[])
  (fun gh Gl=>(gh.1≤ns.length)∧(gh.2.2=xs++fH (ns.take gh.1))∧(SlR Gl 1 aU gh.2.1 gh.2.2)) (fun gh=>ns.length-gh.1) (0,h,xs) [(7,true,_),(8,true,_)] []
  (aA rfl (aO rfl (aA rfl (aA rfl eZ))))
  mN ?_ ?_
 ·refine ⟨?_,?_,?_⟩
  ·(try dsimp only)<;>(first|omega|rfl|assumption|(simp; done))
  ·(try dsimp only)<;>(simp [fH])
  (try dsimp only)<;>(exact hs)
 intro gh N0 Gl0 hN0 hGl0 hF0
 obtain ⟨k,h0,L⟩:=gh; dsimp only at hF0 hN0 ⊢
 obtain ⟨hk,eL,hsl⟩:=hF0
 have hsn:=hsn.mono hGl0
 have lt:=aSA hu k
 have lL:L.length=xs.length+(fH (ns.take k)).length:=by rw [eL,List.length_append]
 refine .g (cP rfl rfl rfl rfl (.g (cD rfl (fun c1=>?_) (fun c1=>?_))))
 ·have c1k:=c1
  try simp only [aD,aE] at c1
  refine .skip (.code (.seq (.block (.seq (dQ rfl rfl (ih rfl .no qC (.u rfl) (.u rfl) (by omega) (by omega) (fun _=>hsn.nn (k:=k) (by first|omega|(simp only [Bool.and_eq_true,decide_eq_true_eq] at hc; omega)|(simp only [List.length_cons,List.length_nil]; omega))) ?_))))))
  obtain ⟨x12,ex12⟩:=dT (k:=k) (xs:=ns) (by omega)
  refine lN rfl bI rfl ((hsn.u1 k (by omega) ex12).rd) ?_
  refine .g (kc rfl aGX (aB rfl (aB rfl aF)) (Ct.frzB (aG5 L h0 _ hsl x12 (hu x12 (List.mem_of_getElem? ex12)) (by omega))) ?_)
  rintro _ G15 μ15 hG15 ⟨h15,L15,eL15,rfl,rfl,hs15⟩
  have hsl:=hsl.mono hG15
  refine .g (aW (((k+1):Nat):Int) rfl rfl rfl rfl ?_)
  refine .g (aT (k+1,h15,L15) ?_ ?_ ?_ ?_ ?_)
  ·exact (aA rfl (aO rfl (aA rfl (aA rfl eZ))))
  ·exact mN
  ·first|omega|(dsimp only; omega)
  ·exact (hGl0).trans hG15
  refine ⟨?_,?_,?_⟩
  ·(try dsimp only)<;>(first|omega|rfl|assumption|(simp; done))
  ·(try dsimp only)<;>(rw [eL15,eL,aR9 ex12,List.append_assoc])
  (try dsimp only)<;>(exact hs15)
 have c1k:=c1
 try simp only [aD,aE] at c1
 refine .exit (.xcode (.xlp (.xblk (.code (.seq (bF rfl rfl (mV rfl rfl (aS rfl rfl (.nc (.ret (aN Tryz.results295 (.tmp rfl .nil) ?_)))))))))))
 obtain rfl:k=ns.length:=by omega
 rw [List.take_length] at eL
 exact ⟨h0,L,eL,rfl,rfl,hsl⟩
theorem wQ:cI Tryz.prog 4=some 1:=by kernel_rfl
theorem aME:aQ Tryz.prog 184 2=some 2:=by kernel_rfl
theorem rR:cI Tryz.prog 9=some 1:=by kernel_rfl
theorem aMF:aQ Tryz.prog 184 8=some 8:=by kernel_rfl
theorem aZE:dV Tryz.prog 202=some (sT (fun _=>0)++[.slice none 0 0,.slice none 0 0]):=by kernel_rfl
theorem aGE:aQ Tryz.prog 202 0=some 0:=by kernel_rfl
theorem aDE:aQ Tryz.prog 202 1=some 1:=by kernel_rfl
theorem aGF:aQ Tryz.prog 202 2=some 2:=by kernel_rfl
theorem aGG:aQ Tryz.prog 202 3=some 3:=by kernel_rfl
theorem aGH:aQ Tryz.prog 202 4=some 4:=by kernel_rfl
theorem pX:aQ Tryz.prog 202 5=some 9:=by kernel_rfl
theorem aGs:cI Tryz.prog 155=some 1:=by kernel_rfl
theorem aM9:dV Tryz.prog 289=some ([.int .u8 0,.int .u64 0]):=by kernel_rfl
theorem aM0:cI Tryz.prog 289=some 2:=by kernel_rfl
theorem aMH:aQ Tryz.prog 289 1=some 1:=by kernel_rfl
theorem zE:aQ Tryz.prog 202 6=some 10:=by kernel_rfl
theorem yU:bY Tryz.prog 200=some none:=by kernel_rfl
theorem aLn:bY Tryz.prog 289=some (some 2):=by kernel_rfl
theorem aMs:bL Tryz.prog 200=some (289,2,16):=by kernel_rfl
theorem aY5:cI Tryz.prog 202=some 11:=by kernel_rfl
theorem aA1:bY Tryz.prog 202=some (some 11):=by kernel_rfl
theorem nV:bY Tryz.prog 159=some (some 14):=by kernel_rfl
theorem aXc:aJ Tryz.prog 149=true:=by kernel_rfl
theorem aQ2 (s:State) (hd:Nat→Sh) (G:PM) (hs:StR G s hd) (hf:dO s 5≤1024) (us:ByteArray):Ct Tryz.prog 99 ([s.val hd,.string us]:List Value).toArray G [] (fun G' μ' u=>μ'=[]∧∃ h:Sh,u=h.val (kJ s us 5).length∧SlR G' 40 Meta.cells h (kJ s us 5)):=by
 refine Ct.of Tryz.func99 rfl Tryz.ntmps99 rfl fun w0 hs0=>?_
 refine .seq (bF rfl rfl ?_)
 refine bX rfl rfl rfl ?_; intro b2
 refine aS rfl rfl (.nc (.seq (aP rfl rfl (aS rfl rfl (.nc (.seq (.seq (aP rfl rfl (mV rfl rfl (.nc (.block (aCu 184 40 ?_))))))))))))
 refine aV (α:=Nat×Value) (fun gh=>[(5,true,gh.2),(7,true,.int .i64 (gh.1:Int))]) (fun gh=>[.row gh.2 184 40 (kJ s us gh.1).length ((kJ s us gh.1).flatMap Meta.cells)])
  (fun gh Gl=>gh.1≤5) (fun gh=>5-gh.1) (0,.slice none 0 0) [(1,true,_),(2,true,_)] [.blk b2 _]
  (aA rfl (aA rfl (aA rfl (aA rfl eZ))))
  (mS .here rfl (mS .here rfl mN)) ?_ ?_
 ·show 0≤5; omega
 intro gh N0 Gl0 hN0 hGl0 hF0
 obtain ⟨k,v⟩:=gh; dsimp only at hF0 hN0 ⊢
 have hk:k≤5:=hF0; have hn:=aCj s (show k≤5 by omega); have hal:=aI3 s us k
 refine .g (cP rfl rfl rfl rfl (.g (cD rfl (fun c1=>?_) (fun c1=>?_))))
 ·have c1k:=c1
  try simp only [aD] at c1
  refine .skip (.code (.seq (.block (.seq (bF rfl rfl (mV rfl rfl (aS rfl rfl (.nc (rq8 rfl rfl ?_)))))))))
  have hn1:=aCj s (show k+1≤5 by omega); rw [show dO s (k+1)=dO s k+(s.lv k).length from rfl] at hn1; have hov:=aJv s k us
  refine .p (lB rfl nV rfl aC ?_)
  refine .p (kc rfl aXc (aB rfl (aB rfl (aB rfl (aB rfl aF)))) (aSs s hd _ (hs.mono hGl0) (k:Int) us us) ?_)
  rintro v Ga μa hGa ⟨rfl,ha,rfl,hsa⟩
  refine ap rfl oB aDY rfl (.u rfl) (.u rfl) .here (uG (aCL _)) (fun h=>⟨_,_,hsa.nn h,(hsa.flat (aCL _)).rd⟩) (aRH _) (by omega) (by unfold maxLen; omega) ?_; intro v16
  refine .g (aR rfl rfl rfl rfl ?_)
  refine .g (aT (k+1,v16) ?_ ?_ ?_ ?_ ?_)
  ·exact (aA rfl (aA rfl (aA rfl (aA rfl eZ))))
  ·exact (mS .here (aQ1 s us k _ _) (mS .here rfl mN))
  ·first|omega|(dsimp only; omega)
  ·exact hGl0.trans hGa
  show k+1≤5; omega
 have c1k:=c1
 try simp only [aD] at c1
 refine .exit (.xcode (.xlp (.xblk (.code (.seq (bF rfl rfl (mV rfl rfl (aS rfl rfl (.nc (.ret (aLH .here (fun b hb=>by cases hb) ?_)))))))))))
 intro Gf hh hlef hv hcap hnn hrd; subst hv
 refine aN Tryz.results99 (.tmp rfl .nil) ?_
 obtain rfl:k=5:=by omega
 exact ⟨rfl,hh,rfl,SlR.ofRow (aCL _) hcap hnn hrd⟩
theorem rT:(Tryz.prog.info? 23).bind (·.zero)=some (.int .u64 0):=by kernel_rfl
theorem oX:aJ Tryz.prog 295=true:=by kernel_rfl
theorem zI:aJ Tryz.prog 273=true:=by kernel_rfl
theorem zL:(bL Tryz.prog 200).isSome=true:=by kernel_rfl
theorem aMG:aQ Tryz.prog 289 0=some 0:=by kernel_rfl
set_option maxHeartbeats 2000000 in
theorem aH8 (e:Edit) (ha hd:Sh) (G:PM) (he:EdR G e ha hd) (hla:e.add.length≤1000000) (hld:e.drop.length≤1000000) (hlm:(e.add.flatMap fX).length≤10000000000000):Ct Tryz.prog 208 ([e.val ha hd]:List Value).toArray G [] (fun G' μ' u=>∃ (s:Sh) (L:List Y),L=uF e∧μ'=[]∧u=s.val L.length∧SlR G' 1 aU s L):=by
 refine Ct.of Tryz.func208 rfl Tryz.ntmps208 rfl fun w0 hs0=>?_
 have hea:=he.add; have hed:=he.drop; have hw:=he.wf; have hw1:=hw.log; have hw2:=hw.next; have hw3:=hw.seq; have hw4:=hw.least; have lgn:(lS e).length=5:=rfl
 refine .seq (bF rfl rfl ?_)
 refine bX rfl rfl rfl ?_; intro b1
 refine aS rfl rfl (.nc (.seq ?_))
 refine fE .here (by intro b hb; cases hb) ?_; intro Gfb1 hleb1 hbb1
 have hea:=hea.mono hleb1
 have hed:=hed.mono hleb1
 have hgn:=aPn hbb1
 refine .g (fA rfl aGE rfl (lN rfl bI rfl ((hbb1.rd (by rfl)).rd) ?_))
 refine fA rfl aDE rfl (lN rfl bI rfl ((hbb1.rd (by rfl)).rd) ?_)
 refine fA rfl aGF rfl (lN rfl bI rfl ((hbb1.rd (by rfl)).rd) ?_)
 refine fA rfl aGG rfl (lN rfl bI rfl ((hbb1.rd (by rfl)).rd) ?_)
 refine bQ [e.log,e.next,e.seq,e.least] rfl qC rT (Evp.cons (.u rfl) (Evp.cons (.u rfl) (Evp.cons (.u rfl) (Evp.cons (.u rfl) Evp.nil)))) rfl rfl (by decide) ?_; intro G16 h16 hG16 hs16
 have hea:=hea.mono hG16
 have hed:=hed.mono hG16
 have hbb1:=hbb1.mono hG16
 have hgn:=hgn.mono hG16
 refine kc rfl oX (aB rfl (aB rfl aF)) (oM ([]:List Y) ⟨none,0⟩ [e.log,e.next,e.seq,e.least] h16 _ SlR.nul hs16 (q4 hw1 hw2 hw3 hw4) (by simp only [List.length_cons,List.length_nil]; omega)) ?_
 rintro _ G17 μ17 hG17 ⟨h17,L17,eL17,rfl,rfl,hs17⟩
 have lL17:L17.length≤([]:List Y).length+10*([e.log,e.next,e.seq,e.least]:List Int).length:=by rw [eL17,List.length_append]; have:=lU (ns:=[e.log,e.next,e.seq,e.least]) (q4 hw1 hw2 hw3 hw4); omega
 try simp only [List.length_cons,List.length_nil] at lL17
 have hea:=hea.mono hG17
 have hed:=hed.mono hG17
 have hbb1:=hbb1.mono hG17
 have hgn:=hgn.mono hG17
 refine aS rfl rfl (.nc (.seq (Wk.mix ⟨false,false⟩ aY (by kernel_rfl) ?_)))
 refine Wt.one 0 (by kernel_rfl) ?_
 refine mV rfl rfl (.nil (Wt.one 1 (by kernel_rfl) ?_))
 refine fA rfl aGH rfl (.nil (Wt.one 2 (by kernel_rfl) ?_))
 refine rC rfl .no aC4 (.u rfl) (.nil (Wt.one 4 (by kernel_rfl) ?_))
 refine fA rfl pX rfl (.nil (Wt.one 5 (by kernel_rfl) ?_))
 refine lN rfl lZ rfl ((hbb1.rd (by rfl)).rd) ?_
 refine .nil (Wt.one 6 (by kernel_rfl) ?_)
 refine lE rfl mF rfl (.nil (Wt.one 7 (by kernel_rfl) ?_))
 refine cw rfl .no jC (.u rfl) (fun _=>oR (by omega) (by omega)) ?_
 refine .nil (Wt.b2 3 8 (by kernel_rfl) ?_ ?_)
 ·refine kc rfl oX (aB rfl (aB rfl aF)) (oM L17 h17 (lS e) ⟨some ⟨b1,4,none⟩,5⟩ _ hs17 hgn (aAN hw) (by show _+10*5≤_; omega)) ?_
  rintro _ G21 μ21 hG21 ⟨h21,L21,eL21,rfl,rfl,hs21⟩
  have lL21:L21.length≤L17.length+10*((lS e):List Int).length:=by rw [eL21,List.length_append]; have:=lU (ns:=(lS e)) (aAN hw); omega
  try simp only [List.length_cons,List.length_nil] at lL21
  have hea:=hea.mono hG21
  have hed:=hed.mono hG21
  have hbb1:=hbb1.mono hG21
  have hgn:=hgn.mono hG21
  have hs17:=hs17.mono hG21
  refine .nil (Wt.b1 8 (by kernel_rfl) ?_)
  refine bQ [(e.add.length:Int)] rfl qC rT (Evp.cons (.u rfl) Evp.nil) rfl rfl (by decide) ?_; intro G26 h26 hG26 hs26
  have hea:=hea.mono hG26
  have hed:=hed.mono hG26
  have hbb1:=hbb1.mono hG26
  have hgn:=hgn.mono hG26
  have hs17:=hs17.mono hG26
  have hs21:=hs21.mono hG26
  refine .nil (Wt.b1 9 (by kernel_rfl) ?_)
  refine kc rfl oX (aB rfl (aB rfl aF)) (oM L21 h21 [(e.add.length:Int)] h26 _ hs21 hs26 (q1 (tD (by omega))) (by simp only [List.length_cons,List.length_nil]; omega)) ?_
  rintro _ G27 μ27 hG27 ⟨h27,L27,eL27,rfl,rfl,hs27⟩
  have lL27:L27.length≤L21.length+10*([(e.add.length:Int)]:List Int).length:=by rw [eL27,List.length_append]; have:=lU (ns:=[(e.add.length:Int)]) (q1 (tD (by omega))); omega
  try simp only [List.length_cons,List.length_nil] at lL27
  have hea:=hea.mono hG27
  have hed:=hed.mono hG27
  have hbb1:=hbb1.mono hG27
  have hgn:=hgn.mono hG27
  have hs17:=hs17.mono hG27
  have hs21:=hs21.mono hG27
  have hs26:=hs26.mono hG27
  refine .nil (Wt.one 10 (by kernel_rfl) ?_)
  refine aS rfl rfl (.nil (Wt.last (by kernel_rfl) ?_))
  refine .g (fA rfl pX rfl (lN rfl lZ rfl ((hbb1.rd (by rfl)).rd) ?_))
  refine lE rfl mF rfl (mV rfl rfl (.nc (.block ?_)))
  refine aV (α:=Nat×Sh×List Y) (fun gh=>[(3,true,gh.2.1.val gh.2.2.length),(31,true,.int .i64 (gh.1:Int))]) (fun _=>[])
   (fun gh Gl=>(gh.1≤e.add.length)∧(gh.2.2=L27++(e.add.take gh.1).flatMap fX)∧(SlR Gl 1 aU gh.2.1 gh.2.2)) (fun gh=>e.add.length-gh.1) (0,h27,L27) [(1,true,_),(29,true,_),(30,true,_)] []
   (aA rfl (aO rfl (aA rfl (aA rfl (aA rfl eZ)))))
   mN ?_ ?_
  ·refine ⟨?_,?_,?_⟩
   ·(try dsimp only)<;>(first|omega|rfl|assumption|(simp; done))
   ·(try dsimp only)<;>(simp)
   (try dsimp only)<;>(exact hs27)
  intro gh N0 Gl0 hN0 hGl0 hF0
  obtain ⟨k,h3,L3⟩:=gh; dsimp only at hF0 hN0 ⊢
  obtain ⟨hk,eL,hsl⟩:=hF0
  have hea:=hea.mono hGl0
  have hed:=hed.mono hGl0
  have hbb1:=hbb1.mono hGl0
  have hgn:=hgn.mono hGl0
  have hs17:=hs17.mono hGl0
  have hs21:=hs21.mono hGl0
  have hs26:=hs26.mono hGl0
  have hs27:=hs27.mono hGl0
  have lk:=aB3 (f:=fX) (xs:=e.add) k
  have lL:L3.length=L27.length+((e.add.take k).flatMap fX).length:=by rw [eL,List.length_append]
  refine .g (cP rfl rfl rfl rfl (.g (cD rfl (fun c1=>?_) (fun c1=>?_))))
  ·have c1k:=c1
   try simp only [aD,aE] at c1
   refine .skip (.code (.seq (.block (.seq (dI rfl rfl (ih rfl .no oB (.u rfl) (.u rfl) (by omega) (by omega) (fun _=>hea.nn (k:=k) (by first|omega|(simp only [Bool.and_eq_true,decide_eq_true_eq] at hc; omega)|(simp only [List.length_cons,List.length_nil]; omega))) ?_))))))
   obtain ⟨m,em⟩:=dT (k:=k) (xs:=e.add) (by omega)
   refine lA rfl .no pV (.u rfl) (fun _=>(hea.at (by omega) em).rd) (fun _=>Meta.len _) ?_
   refine al rfl aBQ ?_; intro b5
   refine sw rfl (.u rfl) (.u rfl) rfl aBN .here rfl (Meta.one _) ?_
   refine .nil (.code (.seq ?_))
   refine fE .here (by intro b hb; cases hb) ?_; intro Gfb5 hleb5 hbb5
   have hea:=hea.mono hleb5
   have hed:=hed.mono hleb5
   have hbb1:=hbb1.mono hleb5
   have hgn:=hgn.mono hleb5
   have hs17:=hs17.mono hleb5
   have hs21:=hs21.mono hleb5
   have hs26:=hs26.mono hleb5
   have hs27:=hs27.mono hleb5
   have hsl:=hsl.mono hleb5
   have hwm:=hw.add m (List.mem_of_getElem? em); have w1:=hwm.level; have w2:=hwm.gen; have w3:=hwm.epoch; have w4:=hwm.number; have l6:=aKx hwm; have lt:=aB2 (f:=fX) em; have lg:=aH5 m
   refine .g (fA rfl zA rfl (lN rfl cZ rfl ((hbb5.rd (by rfl)).rd) ?_))
   refine cw rfl .no aDc (.u rfl) (fun _=>oR (by omega) (by omega)) ?_
   refine fA rfl aGB rfl (lN rfl bI rfl ((hbb5.rd (by rfl)).rd) ?_)
   refine fA rfl aME rfl (lN rfl bI rfl ((hbb5.rd (by rfl)).rd) ?_)
   refine fA rfl wG rfl (lN rfl bI rfl ((hbb5.rd (by rfl)).rd) ?_)
   refine fA rfl aGC rfl (lN rfl bA rfl ((hbb5.rd (by rfl)).rd) ?_)
   refine cv rfl .no jC (.u rfl) (fA rfl aGD rfl (lN rfl bA rfl ((hbb5.rd (by rfl)).rd) ?_))
   refine cv rfl .no jC (.u rfl) ?_
   refine bQ [m.level,m.gen,m.epoch,m.number,IntKind.u64.wrap m.size,IntKind.u64.wrap m.count] rfl qC rT (Evp.cons (.u rfl) (Evp.cons (.u rfl) (Evp.cons (.u rfl) (Evp.cons (.u rfl) (Evp.cons (.u rfl) (Evp.cons (.u rfl) Evp.nil)))))) rfl rfl (by decide) ?_; intro G51 h51 hG51 hs51
   have hea:=hea.mono hG51
   have hed:=hed.mono hG51
   have hbb1:=hbb1.mono hG51
   have hgn:=hgn.mono hG51
   have hs17:=hs17.mono hG51
   have hs21:=hs21.mono hG51
   have hs26:=hs26.mono hG51
   have hs27:=hs27.mono hG51
   have hsl:=hsl.mono hG51
   have hbb5:=hbb5.mono hG51
   refine kc rfl oX (aB rfl (aB rfl aF)) (oM L3 h3 [m.level,m.gen,m.epoch,m.number,IntKind.u64.wrap m.size,IntKind.u64.wrap m.count] h51 _ hsl hs51 l6 (by simp only [List.length_cons,List.length_nil]; omega)) ?_
   rintro _ G52 μ52 hG52 ⟨h52,L52,eL52,rfl,rfl,hs52⟩
   have lL52:L52.length≤L3.length+10*([m.level,m.gen,m.epoch,m.number,IntKind.u64.wrap m.size,IntKind.u64.wrap m.count]:List Int).length:=by rw [eL52,List.length_append]; have:=lU (ns:=[m.level,m.gen,m.epoch,m.number,IntKind.u64.wrap m.size,IntKind.u64.wrap m.count]) l6; omega
   try simp only [List.length_cons,List.length_nil] at lL52
   have hea:=hea.mono hG52
   have hed:=hed.mono hG52
   have hbb1:=hbb1.mono hG52
   have hgn:=hgn.mono hG52
   have hs17:=hs17.mono hG52
   have hs21:=hs21.mono hG52
   have hs26:=hs26.mono hG52
   have hs27:=hs27.mono hG52
   have hsl:=hsl.mono hG52
   have hbb5:=hbb5.mono hG52
   have hs51:=hs51.mono hG52
   refine .g (bZ (mc:=⟨false,false⟩) [0,1,2,4,5,7,8,3,6,9,10] aY (by kernel_rfl) ?_)
   refine .p (fA rfl zB rfl (lN rfl cQ rfl ((hbb5.rd (by rfl)).rd) ?_))
   refine fA rfl zC rfl (lN rfl cQ rfl ((hbb5.rd (by rfl)).rd) ?_)
   refine fA rfl aMF rfl ?_
   refine kA rfl .no nX (.u rfl) hbb5 (aJD hwm) ?_; intro h61 L61 eL61 lL61 hs61
   have ly:=eQ m.min; have ly2:=eQ m.max
   refine kc rfl zI (aB rfl (aB rfl aF)) (Ct.frzB (wX L52 h52 _ hs52 m.min (by omega))) ?_
   rintro _ G56 μ56 hG56 ⟨h56,L56,eL56,rfl,rfl,hs56⟩
   have hea:=hea.mono hG56
   have hed:=hed.mono hG56
   have hbb1:=hbb1.mono hG56
   have hgn:=hgn.mono hG56
   have hs17:=hs17.mono hG56
   have hs21:=hs21.mono hG56
   have hs26:=hs26.mono hG56
   have hs27:=hs27.mono hG56
   have hsl:=hsl.mono hG56
   have hbb5:=hbb5.mono hG56
   have hs51:=hs51.mono hG56
   have hs52:=hs52.mono hG56
   have hs61:=hs61.mono hG56
   have l56:L56.length≤L52.length+(m.min.size+10):=by rw [eL56,List.length_append]; have:=yN (xs:=yb m.min) (by omega); omega
   refine kc rfl zI (aB rfl (aB rfl aF)) (mX (wX L56 h56 _ hs56 m.max (by omega))) ?_
   rintro v59 G59 μ59 hG59 ⟨L59,ov59,eL59,rfl⟩
   have hea:=hea.mono hG59
   have hed:=hed.mono hG59
   have hbb1:=hbb1.mono hG59
   have hgn:=hgn.mono hG59
   have hs17:=hs17.mono hG59
   have hs21:=hs21.mono hG59
   have hs26:=hs26.mono hG59
   have hs27:=hs27.mono hG59
   have hsl:=hsl.mono hG59
   have hbb5:=hbb5.mono hG59
   have hs51:=hs51.mono hG59
   have hs52:=hs52.mono hG59
   have hs61:=hs61.mono hG59
   have hs56:=hs56.mono hG59
   have l59:L59.length≤L56.length+(m.max.size+10):=by rw [eL59,List.length_append]; have:=yN (xs:=yb m.max) (by omega); omega
   refine eY rfl aX cG (.u rfl) (.u rfl) .here hs61.sc (by (try simp only [cC,cY]); omega) ?_
   intro v62 L62 ov62 eL62
   have lL62:L62.length=L59.length+L61.length:=by rw [eL62,List.length_append]
   refine aS rfl rfl (.nil (.blk (.code ?_)))
   refine tF .here (by first|(intro b hb; cases hb; done) | simp [keys,Res.keys]) ?_; intro GfR59 hR59 hleR59 evR59 hsR59; subst evR59
   have hea:=hea.mono hleR59
   have hed:=hed.mono hleR59
   have hbb1:=hbb1.mono hleR59
   have hgn:=hgn.mono hleR59
   have hs17:=hs17.mono hleR59
   have hs21:=hs21.mono hleR59
   have hs26:=hs26.mono hleR59
   have hs27:=hs27.mono hleR59
   have hsl:=hsl.mono hleR59
   have hbb5:=hbb5.mono hleR59
   have hs51:=hs51.mono hleR59
   have hs52:=hs52.mono hleR59
   have hs61:=hs61.mono hleR59
   have hs56:=hs56.mono hleR59
   refine .g (aW (((k+1):Nat):Int) rfl rfl rfl rfl ?_)
   refine .g (aT (k+1,hR59,L62) ?_ ?_ ?_ ?_ ?_)
   ·exact (aA rfl (aO rfl (aA rfl (aA rfl (aA rfl eZ)))))
   ·exact mN
   ·first|omega|(dsimp only; omega)
   ·exact ((((((hGl0).trans hleb5).trans hG51).trans hG52).trans hG56).trans hG59).trans hleR59
   refine ⟨?_,?_,?_⟩
   ·(try dsimp only)<;>(first|omega|rfl|assumption|(simp; done))
   ·(try dsimp only)<;>(rw [eL62,eL59,eL56,eL52,eL61,aH4,eL,aAK em,List.append_assoc])
   (try dsimp only)<;>(exact hsR59)
  have c1k:=c1
  try simp only [aD,aE] at c1
  refine .g (fA rfl zE rfl (lN rfl yU rfl ((hbb1.rd (by rfl)).rd) ?_))
  refine lE rfl zL rfl (cw rfl .no jC (.u rfl) (fun _=>oR (by omega) (by omega)) ?_)
  refine bQ [(e.drop.length:Int)] rfl qC rT (Evp.cons (.u rfl) Evp.nil) rfl rfl (by decide) ?_; intro G69 h69 hG69 hs69
  have hea:=hea.mono hG69
  have hed:=hed.mono hG69
  have hbb1:=hbb1.mono hG69
  have hgn:=hgn.mono hG69
  have hs17:=hs17.mono hG69
  have hs21:=hs21.mono hG69
  have hs26:=hs26.mono hG69
  have hs27:=hs27.mono hG69
  have hsl:=hsl.mono hG69
  refine kc rfl oX (aB rfl (aB rfl aF)) (oM L3 h3 [(e.drop.length:Int)] h69 _ hsl hs69 (q1 (tD (by omega))) (by simp only [List.length_cons,List.length_nil]; omega)) ?_
  rintro _ G70 μ70 hG70 ⟨h70,L70,eL70,rfl,rfl,hs70⟩
  have lL70:L70.length≤L3.length+10*([(e.drop.length:Int)]:List Int).length:=by rw [eL70,List.length_append]; have:=lU (ns:=[(e.drop.length:Int)]) (q1 (tD (by omega))); omega
  try simp only [List.length_cons,List.length_nil] at lL70
  have hea:=hea.mono hG70
  have hed:=hed.mono hG70
  have hbb1:=hbb1.mono hG70
  have hgn:=hgn.mono hG70
  have hs17:=hs17.mono hG70
  have hs21:=hs21.mono hG70
  have hs26:=hs26.mono hG70
  have hs27:=hs27.mono hG70
  have hsl:=hsl.mono hG70
  have hs69:=hs69.mono hG70
  refine .g (fA rfl zE rfl (lN rfl yU rfl ((hbb1.rd (by rfl)).rd) ?_))
  refine lE rfl zL rfl (mV rfl rfl (.nc (.block ?_)))
  refine aV (α:=Nat×Sh×List Y) (fun gh=>[(3,true,gh.2.1.val gh.2.2.length),(74,true,.int .i64 (gh.1:Int))]) (fun _=>[])
   (fun gh Gl=>(gh.1≤e.drop.length)∧(gh.2.2=L70++(e.drop.take gh.1).flatMap kG)∧(SlR Gl 1 aU gh.2.1 gh.2.2)) (fun gh=>e.drop.length-gh.1) (0,h70,L70) [(72,true,_),(73,true,_)] []
   (aA rfl (aO rfl (aA rfl (aA rfl eZ))))
   mN ?_ ?_
  ·refine ⟨?_,?_,?_⟩
   ·(try dsimp only)<;>(first|omega|rfl|assumption|(simp; done))
   ·(try dsimp only)<;>(simp)
   (try dsimp only)<;>(exact hs70)
  intro gh N1 Gl1 hN1 hGl1 hF1
  obtain ⟨j,h9,L9⟩:=gh; dsimp only at hF1 hN1 ⊢
  obtain ⟨hj,eL9,hsl2⟩:=hF1
  have hea:=hea.mono hGl1
  have hed:=hed.mono hGl1
  have hbb1:=hbb1.mono hGl1
  have hgn:=hgn.mono hGl1
  have hs17:=hs17.mono hGl1
  have hs21:=hs21.mono hGl1
  have hs26:=hs26.mono hGl1
  have hs27:=hs27.mono hGl1
  have hsl:=hsl.mono hGl1
  have hs69:=hs69.mono hGl1
  have hs70:=hs70.mono hGl1
  have lk2:=aB3 (f:=kG) (xs:=e.drop) j
  have ld2:=aEa hw.drop
  have lL9:L9.length=L70.length+((e.drop.take j).flatMap kG).length:=by rw [eL9,List.length_append]
  refine .g (cP rfl rfl rfl rfl (.g (cD rfl (fun c2=>?_) (fun c2=>?_))))
  ·have c2k:=c2
   try simp only [aD,aE] at c2
   refine .skip (.code (.seq (.block (.seq (dI rfl rfl (ih rfl .no aMs (.u rfl) (.u rfl) (by omega) (by omega) (fun _=>hed.nn (k:=j) (by first|omega|(simp only [Bool.and_eq_true,decide_eq_true_eq] at hc; omega)|(simp only [List.length_cons,List.length_nil]; omega))) ?_))))))
   obtain ⟨g,eg⟩:=dT (k:=j) (xs:=e.drop) (by omega)
   refine lA rfl .no aLn (.u rfl) (fun _=>(hed.at (by omega) eg).rd) (fun _=>rfl) ?_
   refine al rfl aM9 ?_; intro b7
   refine sw rfl (.u rfl) (.u rfl) rfl aM0 .here rfl (aIa) ?_
   refine .nil (.code ?_)
   refine fE .here (by intro b hb; cases hb) ?_; intro Gfb7 hleb7 hbb7
   have hea:=hea.mono hleb7
   have hed:=hed.mono hleb7
   have hbb1:=hbb1.mono hleb7
   have hgn:=hgn.mono hleb7
   have hs17:=hs17.mono hleb7
   have hs21:=hs21.mono hleb7
   have hs26:=hs26.mono hleb7
   have hs27:=hs27.mono hleb7
   have hsl:=hsl.mono hleb7
   have hs69:=hs69.mono hleb7
   have hs70:=hs70.mono hleb7
   have hsl2:=hsl2.mono hleb7
   have hwg:=hw.drop g (List.mem_of_getElem? eg); have w1:=hwg.level; have w2:=hwg.number; have lt:=aB2 (f:=kG) eg
   refine .g (fA rfl aMG rfl (lN rfl cZ rfl ((hbb7.rd (by rfl)).rd) ?_))
   refine cw rfl .no aDc (.u rfl) (fun _=>oR (by omega) (by omega)) ?_
   refine fA rfl aMH rfl (lN rfl bI rfl ((hbb7.rd (by rfl)).rd) ?_)
   refine bQ [g.level,g.number] rfl qC rT (Evp.cons (.u rfl) (Evp.cons (.u rfl) Evp.nil)) rfl rfl (by decide) ?_; intro G84 h84 hG84 hs84
   have hea:=hea.mono hG84
   have hed:=hed.mono hG84
   have hbb1:=hbb1.mono hG84
   have hgn:=hgn.mono hG84
   have hs17:=hs17.mono hG84
   have hs21:=hs21.mono hG84
   have hs26:=hs26.mono hG84
   have hs27:=hs27.mono hG84
   have hsl:=hsl.mono hG84
   have hs69:=hs69.mono hG84
   have hs70:=hs70.mono hG84
   have hsl2:=hsl2.mono hG84
   have hbb7:=hbb7.mono hG84
   refine kc rfl oX (aB rfl (aB rfl aF)) (oM L9 h9 [g.level,g.number] h84 _ hsl2 hs84 (q2 ⟨by omega,by omega⟩ ⟨by omega,by omega⟩) (by simp only [List.length_cons,List.length_nil]; omega)) ?_
   rintro _ G85 μ85 hG85 ⟨h85,L85,eL85,rfl,rfl,hs85⟩
   have lL85:L85.length≤L9.length+10*([g.level,g.number]:List Int).length:=by rw [eL85,List.length_append]; have:=lU (ns:=[g.level,g.number]) (q2 ⟨by omega,by omega⟩ ⟨by omega,by omega⟩); omega
   try simp only [List.length_cons,List.length_nil] at lL85
   have hea:=hea.mono hG85
   have hed:=hed.mono hG85
   have hbb1:=hbb1.mono hG85
   have hgn:=hgn.mono hG85
   have hs17:=hs17.mono hG85
   have hs21:=hs21.mono hG85
   have hs26:=hs26.mono hG85
   have hs27:=hs27.mono hG85
   have hsl:=hsl.mono hG85
   have hs69:=hs69.mono hG85
   have hs70:=hs70.mono hG85
   have hsl2:=hsl2.mono hG85
   have hbb7:=hbb7.mono hG85
   have hs84:=hs84.mono hG85
   refine .g (aW (((j+1):Nat):Int) rfl rfl rfl rfl ?_)
   refine .g (aT (j+1,h85,L85) ?_ ?_ ?_ ?_ ?_)
   ·exact (aA rfl (aO rfl (aA rfl (aA rfl eZ))))
   ·exact mN
   ·first|omega|(dsimp only; omega)
   ·exact (((hGl1).trans hleb7).trans hG84).trans hG85
   refine ⟨?_,?_,?_⟩
   ·(try dsimp only)<;>(first|omega|rfl|assumption|(simp; done))
   ·(try dsimp only)<;>(rw [eL85,aH3,eL9,aAK eg,List.append_assoc])
   (try dsimp only)<;>(exact hs85)
  have c2k:=c2
  try simp only [aD,aE] at c2
  refine .exit (.xcode (.xlp (.xblk (.code (.seq (bF rfl rfl (mV rfl rfl (aS rfl rfl (.nc (.ret (aN Tryz.results208 (.tmp rfl .nil) ?_)))))))))))
  obtain rfl:k=e.add.length:=by omega
  obtain rfl:j=e.drop.length:=by omega
  rw [List.take_length] at eL eL9
  exact ⟨h9,L9,by rw [eL9,eL70,eL,eL27,eL21,eL17,List.nil_append,aH1],rfl,rfl,hsl2⟩
 refine bQ [(e.add.length:Int)] rfl qC rT (Evp.cons (.u rfl) Evp.nil) rfl rfl (by decide) ?_; intro G26 h26 hG26 hs26
 have hea:=hea.mono hG26
 have hed:=hed.mono hG26
 have hbb1:=hbb1.mono hG26
 have hgn:=hgn.mono hG26
 have hs17:=hs17.mono hG26
 refine .nil (Wt.b1 3 (by kernel_rfl) ?_)
 refine kc rfl oX (aB rfl (aB rfl aF)) (oM L17 h17 (lS e) ⟨some ⟨b1,4,none⟩,5⟩ _ hs17 hgn (aAN hw) (by show _+10*5≤_; omega)) ?_
 rintro _ G21 μ21 hG21 ⟨h21,L21,eL21,rfl,rfl,hs21⟩
 have lL21:L21.length≤L17.length+10*((lS e):List Int).length:=by rw [eL21,List.length_append]; have:=lU (ns:=(lS e)) (aAN hw); omega
 try simp only [List.length_cons,List.length_nil] at lL21
 have hea:=hea.mono hG21
 have hed:=hed.mono hG21
 have hbb1:=hbb1.mono hG21
 have hs26:=hs26.mono hG21
 refine .nil (Wt.b1 9 (by kernel_rfl) ?_)
 refine kc rfl oX (aB rfl (aB rfl aF)) (oM L21 h21 [(e.add.length:Int)] h26 _ hs21 hs26 (q1 (tD (by omega))) (by simp only [List.length_cons,List.length_nil]; omega)) ?_
 rintro _ G27 μ27 hG27 ⟨h27,L27,eL27,rfl,rfl,hs27⟩
 have lL27:L27.length≤L21.length+10*([(e.add.length:Int)]:List Int).length:=by rw [eL27,List.length_append]; have:=lU (ns:=[(e.add.length:Int)]) (q1 (tD (by omega))); omega
 try simp only [List.length_cons,List.length_nil] at lL27
 have hea:=hea.mono hG27
 have hed:=hed.mono hG27
 have hbb1:=hbb1.mono hG27
 refine .nil (Wt.one 10 (by kernel_rfl) ?_)
 refine aS rfl rfl (.nil (Wt.last (by kernel_rfl) ?_))
 refine .g (fA rfl pX rfl (lN rfl lZ rfl ((hbb1.rd (by rfl)).rd) ?_))
 refine lE rfl mF rfl (mV rfl rfl (.nc (.block ?_)))
 refine aV (α:=Nat×Sh×List Y) (fun gh=>[(3,true,gh.2.1.val gh.2.2.length),(31,true,.int .i64 (gh.1:Int))]) (fun _=>[])
  (fun gh Gl=>(gh.1≤e.add.length)∧(gh.2.2=L27++(e.add.take gh.1).flatMap fX)∧(SlR Gl 1 aU gh.2.1 gh.2.2)) (fun gh=>e.add.length-gh.1) (0,h27,L27) [(1,true,_),(29,true,_),(30,true,_)] []
  (aA rfl (aO rfl (aA rfl (aA rfl (aA rfl eZ)))))
  mN ?_ ?_
 ·refine ⟨?_,?_,?_⟩
  ·(try dsimp only)<;>(first|omega|rfl|assumption|(simp; done))
  ·(try dsimp only)<;>(simp)
  (try dsimp only)<;>(exact hs27)
 intro gh N0 Gl0 hN0 hGl0 hF0
 obtain ⟨k,h3,L3⟩:=gh; dsimp only at hF0 hN0 ⊢
 obtain ⟨hk,eL,hsl⟩:=hF0
 have hea:=hea.mono hGl0
 have hed:=hed.mono hGl0
 have hbb1:=hbb1.mono hGl0
 have lk:=aB3 (f:=fX) (xs:=e.add) k
 have lL:L3.length=L27.length+((e.add.take k).flatMap fX).length:=by rw [eL,List.length_append]
 refine .g (cP rfl rfl rfl rfl (.g (cD rfl (fun c1=>?_) (fun c1=>?_))))
 ·have c1k:=c1
  try simp only [aD,aE] at c1
  refine .skip (.code (.seq (.block (.seq (dI rfl rfl (ih rfl .no oB (.u rfl) (.u rfl) (by omega) (by omega) (fun _=>hea.nn (k:=k) (by first|omega|(simp only [Bool.and_eq_true,decide_eq_true_eq] at hc; omega)|(simp only [List.length_cons,List.length_nil]; omega))) ?_))))))
  obtain ⟨m,em⟩:=dT (k:=k) (xs:=e.add) (by omega)
  refine lA rfl .no pV (.u rfl) (fun _=>(hea.at (by omega) em).rd) (fun _=>Meta.len _) ?_
  refine al rfl aBQ ?_; intro b5
  refine sw rfl (.u rfl) (.u rfl) rfl aBN .here rfl (Meta.one _) ?_
  refine .nil (.code (.seq ?_))
  refine fE .here (by intro b hb; cases hb) ?_; intro Gfb5 hleb5 hbb5
  have hed:=hed.mono hleb5
  have hbb1:=hbb1.mono hleb5
  have hsl:=hsl.mono hleb5
  have hwm:=hw.add m (List.mem_of_getElem? em); have w1:=hwm.level; have w2:=hwm.gen; have w3:=hwm.epoch; have w4:=hwm.number; have l6:=aKx hwm; have lt:=aB2 (f:=fX) em; have lg:=aH5 m
  refine .g (fA rfl zA rfl (lN rfl cZ rfl ((hbb5.rd (by rfl)).rd) ?_))
  refine cw rfl .no aDc (.u rfl) (fun _=>oR (by omega) (by omega)) ?_
  refine fA rfl aGB rfl (lN rfl bI rfl ((hbb5.rd (by rfl)).rd) ?_)
  refine fA rfl aME rfl (lN rfl bI rfl ((hbb5.rd (by rfl)).rd) ?_)
  refine fA rfl wG rfl (lN rfl bI rfl ((hbb5.rd (by rfl)).rd) ?_)
  refine fA rfl aGC rfl (lN rfl bA rfl ((hbb5.rd (by rfl)).rd) ?_)
  refine cv rfl .no jC (.u rfl) (fA rfl aGD rfl (lN rfl bA rfl ((hbb5.rd (by rfl)).rd) ?_))
  refine cv rfl .no jC (.u rfl) ?_
  refine bQ [m.level,m.gen,m.epoch,m.number,IntKind.u64.wrap m.size,IntKind.u64.wrap m.count] rfl qC rT (Evp.cons (.u rfl) (Evp.cons (.u rfl) (Evp.cons (.u rfl) (Evp.cons (.u rfl) (Evp.cons (.u rfl) (Evp.cons (.u rfl) Evp.nil)))))) rfl rfl (by decide) ?_; intro G51 h51 hG51 hs51
  have hed:=hed.mono hG51
  have hbb1:=hbb1.mono hG51
  have hsl:=hsl.mono hG51
  have hbb5:=hbb5.mono hG51
  refine kc rfl oX (aB rfl (aB rfl aF)) (oM L3 h3 [m.level,m.gen,m.epoch,m.number,IntKind.u64.wrap m.size,IntKind.u64.wrap m.count] h51 _ hsl hs51 l6 (by simp only [List.length_cons,List.length_nil]; omega)) ?_
  rintro _ G52 μ52 hG52 ⟨h52,L52,eL52,rfl,rfl,hs52⟩
  have lL52:L52.length≤L3.length+10*([m.level,m.gen,m.epoch,m.number,IntKind.u64.wrap m.size,IntKind.u64.wrap m.count]:List Int).length:=by rw [eL52,List.length_append]; have:=lU (ns:=[m.level,m.gen,m.epoch,m.number,IntKind.u64.wrap m.size,IntKind.u64.wrap m.count]) l6; omega
  try simp only [List.length_cons,List.length_nil] at lL52
  have hed:=hed.mono hG52
  have hbb1:=hbb1.mono hG52
  have hsl:=hsl.mono hG52
  have hbb5:=hbb5.mono hG52
  refine .g (bZ (mc:=⟨false,false⟩) [0,1,2,4,5,7,8,3,6,9,10] aY (by kernel_rfl) ?_)
  refine .p (fA rfl zB rfl (lN rfl cQ rfl ((hbb5.rd (by rfl)).rd) ?_))
  refine fA rfl zC rfl (lN rfl cQ rfl ((hbb5.rd (by rfl)).rd) ?_)
  refine fA rfl aMF rfl ?_
  refine kA rfl .no nX (.u rfl) hbb5 (aJD hwm) ?_; intro h61 L61 eL61 lL61 hs61
  have ly:=eQ m.min; have ly2:=eQ m.max
  refine kc rfl zI (aB rfl (aB rfl aF)) (Ct.frzB (wX L52 h52 _ hs52 m.min (by omega))) ?_
  rintro _ G56 μ56 hG56 ⟨h56,L56,eL56,rfl,rfl,hs56⟩
  have hed:=hed.mono hG56
  have hbb1:=hbb1.mono hG56
  have hsl:=hsl.mono hG56
  have hs61:=hs61.mono hG56
  have l56:L56.length≤L52.length+(m.min.size+10):=by rw [eL56,List.length_append]; have:=yN (xs:=yb m.min) (by omega); omega
  refine kc rfl zI (aB rfl (aB rfl aF)) (mX (wX L56 h56 _ hs56 m.max (by omega))) ?_
  rintro v59 G59 μ59 hG59 ⟨L59,ov59,eL59,rfl⟩
  have hed:=hed.mono hG59
  have hbb1:=hbb1.mono hG59
  have hsl:=hsl.mono hG59
  have hs61:=hs61.mono hG59
  have l59:L59.length≤L56.length+(m.max.size+10):=by rw [eL59,List.length_append]; have:=yN (xs:=yb m.max) (by omega); omega
  refine eY rfl aX cG (.u rfl) (.u rfl) .here hs61.sc (by (try simp only [cC,cY]); omega) ?_
  intro v62 L62 ov62 eL62
  have lL62:L62.length=L59.length+L61.length:=by rw [eL62,List.length_append]
  refine aS rfl rfl (.nil (.blk (.code ?_)))
  refine tF .here (by first|(intro b hb; cases hb; done) | simp [keys,Res.keys]) ?_; intro GfR59 hR59 hleR59 evR59 hsR59; subst evR59
  have hed:=hed.mono hleR59
  have hbb1:=hbb1.mono hleR59
  have hsl:=hsl.mono hleR59
  refine .g (aW (((k+1):Nat):Int) rfl rfl rfl rfl ?_)
  refine .g (aT (k+1,hR59,L62) ?_ ?_ ?_ ?_ ?_)
  ·exact (aA rfl (aO rfl (aA rfl (aA rfl (aA rfl eZ)))))
  ·exact mN
  ·first|omega|(dsimp only; omega)
  ·exact ((((((hGl0).trans hleb5).trans hG51).trans hG52).trans hG56).trans hG59).trans hleR59
  refine ⟨?_,?_,?_⟩
  ·(try dsimp only)<;>(first|omega|rfl|assumption|(simp; done))
  ·(try dsimp only)<;>(rw [eL62,eL59,eL56,eL52,eL61,aH4,eL,aAK em,List.append_assoc])
  (try dsimp only)<;>(exact hsR59)
 have c1k:=c1
 try simp only [aD,aE] at c1
 refine .g (fA rfl zE rfl (lN rfl yU rfl ((hbb1.rd (by rfl)).rd) ?_))
 refine lE rfl zL rfl (cw rfl .no jC (.u rfl) (fun _=>oR (by omega) (by omega)) ?_)
 refine bQ [(e.drop.length:Int)] rfl qC rT (Evp.cons (.u rfl) Evp.nil) rfl rfl (by decide) ?_; intro G69 h69 hG69 hs69
 have hed:=hed.mono hG69
 have hbb1:=hbb1.mono hG69
 have hsl:=hsl.mono hG69
 refine kc rfl oX (aB rfl (aB rfl aF)) (oM L3 h3 [(e.drop.length:Int)] h69 _ hsl hs69 (q1 (tD (by omega))) (by simp only [List.length_cons,List.length_nil]; omega)) ?_
 rintro _ G70 μ70 hG70 ⟨h70,L70,eL70,rfl,rfl,hs70⟩
 have lL70:L70.length≤L3.length+10*([(e.drop.length:Int)]:List Int).length:=by rw [eL70,List.length_append]; have:=lU (ns:=[(e.drop.length:Int)]) (q1 (tD (by omega))); omega
 try simp only [List.length_cons,List.length_nil] at lL70
 have hed:=hed.mono hG70
 have hbb1:=hbb1.mono hG70
 refine .g (fA rfl zE rfl (lN rfl yU rfl ((hbb1.rd (by rfl)).rd) ?_))
 refine lE rfl zL rfl (mV rfl rfl (.nc (.block ?_)))
 refine aV (α:=Nat×Sh×List Y) (fun gh=>[(3,true,gh.2.1.val gh.2.2.length),(74,true,.int .i64 (gh.1:Int))]) (fun _=>[])
  (fun gh Gl=>(gh.1≤e.drop.length)∧(gh.2.2=L70++(e.drop.take gh.1).flatMap kG)∧(SlR Gl 1 aU gh.2.1 gh.2.2)) (fun gh=>e.drop.length-gh.1) (0,h70,L70) [(72,true,_),(73,true,_)] []
  (aA rfl (aO rfl (aA rfl (aA rfl eZ))))
  mN ?_ ?_
 ·refine ⟨?_,?_,?_⟩
  ·(try dsimp only)<;>(first|omega|rfl|assumption|(simp; done))
  ·(try dsimp only)<;>(simp)
  (try dsimp only)<;>(exact hs70)
 intro gh N1 Gl1 hN1 hGl1 hF1
 obtain ⟨j,h9,L9⟩:=gh; dsimp only at hF1 hN1 ⊢
 obtain ⟨hj,eL9,hsl2⟩:=hF1
 have hed:=hed.mono hGl1
 have lk2:=aB3 (f:=kG) (xs:=e.drop) j
 have ld2:=aEa hw.drop
 have lL9:L9.length=L70.length+((e.drop.take j).flatMap kG).length:=by rw [eL9,List.length_append]
 refine .g (cP rfl rfl rfl rfl (.g (cD rfl (fun c2=>?_) (fun c2=>?_))))
 ·have c2k:=c2
  try simp only [aD,aE] at c2
  refine .skip (.code (.seq (.block (.seq (dI rfl rfl (ih rfl .no aMs (.u rfl) (.u rfl) (by omega) (by omega) (fun _=>hed.nn (k:=j) (by first|omega|(simp only [Bool.and_eq_true,decide_eq_true_eq] at hc; omega)|(simp only [List.length_cons,List.length_nil]; omega))) ?_))))))
  obtain ⟨g,eg⟩:=dT (k:=j) (xs:=e.drop) (by omega)
  refine lA rfl .no aLn (.u rfl) (fun _=>(hed.at (by omega) eg).rd) (fun _=>rfl) ?_
  refine al rfl aM9 ?_; intro b7
  refine sw rfl (.u rfl) (.u rfl) rfl aM0 .here rfl (aIa) ?_
  refine .nil (.code ?_)
  refine fE .here (by intro b hb; cases hb) ?_; intro Gfb7 hleb7 hbb7
  have hsl2:=hsl2.mono hleb7
  have hwg:=hw.drop g (List.mem_of_getElem? eg); have w1:=hwg.level; have w2:=hwg.number; have lt:=aB2 (f:=kG) eg
  refine .g (fA rfl aMG rfl (lN rfl cZ rfl ((hbb7.rd (by rfl)).rd) ?_))
  refine cw rfl .no aDc (.u rfl) (fun _=>oR (by omega) (by omega)) ?_
  refine fA rfl aMH rfl (lN rfl bI rfl ((hbb7.rd (by rfl)).rd) ?_)
  refine bQ [g.level,g.number] rfl qC rT (Evp.cons (.u rfl) (Evp.cons (.u rfl) Evp.nil)) rfl rfl (by decide) ?_; intro G84 h84 hG84 hs84
  have hsl2:=hsl2.mono hG84
  refine kc rfl oX (aB rfl (aB rfl aF)) (oM L9 h9 [g.level,g.number] h84 _ hsl2 hs84 (q2 ⟨by omega,by omega⟩ ⟨by omega,by omega⟩) (by simp only [List.length_cons,List.length_nil]; omega)) ?_
  rintro _ G85 μ85 hG85 ⟨h85,L85,eL85,rfl,rfl,hs85⟩
  have lL85:L85.length≤L9.length+10*([g.level,g.number]:List Int).length:=by rw [eL85,List.length_append]; have:=lU (ns:=[g.level,g.number]) (q2 ⟨by omega,by omega⟩ ⟨by omega,by omega⟩); omega
  try simp only [List.length_cons,List.length_nil] at lL85
  have hsl2:=hsl2.mono hG85
  refine .g (aW (((j+1):Nat):Int) rfl rfl rfl rfl ?_)
  refine .g (aT (j+1,h85,L85) ?_ ?_ ?_ ?_ ?_)
  ·exact (aA rfl (aO rfl (aA rfl (aA rfl eZ))))
  ·exact mN
  ·first|omega|(dsimp only; omega)
  ·exact (((hGl1).trans hleb7).trans hG84).trans hG85
  refine ⟨?_,?_,?_⟩
  ·(try dsimp only)<;>(first|omega|rfl|assumption|(simp; done))
  ·(try dsimp only)<;>(rw [eL85,aH3,eL9,aAK eg,List.append_assoc])
  (try dsimp only)<;>(exact hs85)
 have c2k:=c2
 try simp only [aD,aE] at c2
 refine .exit (.xcode (.xlp (.xblk (.code (.seq (bF rfl rfl (mV rfl rfl (aS rfl rfl (.nc (.ret (aN Tryz.results208 (.tmp rfl .nil) ?_)))))))))))
 obtain rfl:k=e.add.length:=by omega
 obtain rfl:j=e.drop.length:=by omega
 rw [List.take_length] at eL eL9
 exact ⟨h9,L9,by rw [eL9,eL70,eL,eL27,eL21,eL17,List.nil_append,aH1],rfl,rfl,hsl2⟩
theorem aC1:bY Tryz.prog 157=some (some 5):=by kernel_rfl
theorem aN3 (s:State) (hd:Nat→Sh) (G:PM) (e:Edit) (ha he:Sh):Ct Tryz.prog 283 ([s.val hd,e.val ha he]:List Value).toArray G [] (fun _ μ' u=>μ'=[]∧u=.bool (xB s e)):=by
 refine Ct.of Tryz.func283 rfl Tryz.ntmps283 rfl fun w0 hs0=>?_
 refine .seq (dQ rfl rfl ?_)
 refine bX rfl rfl rfl ?_; intro b2
 refine bX rfl rfl rfl ?_; intro b3
 refine .g (fZ rfl aGH rfl (lA rfl .no aC1 (.u rfl) (fun _=>RdN.part (n:=5) (cs':=(List.range 5).map (fun i=>.int .u64 (e.gens i))) .here (rfl)) (fun _=>rfl) (mV rfl rfl (.nc (.block ?_)))))
 refine aV (α:=Nat) (fun k=>[(9,true,.int .i64 (k:Int))]) (fun _=>[])
  (fun k Gl=>(k≤5)∧(∀ i,i<k→¬ e.gens i<s.gens i)) (fun k=>5-k) 0 [(2,true,_),(3,true,_),(8,true,_)] [_,_]
  (aO rfl (aA rfl (aA rfl (aA rfl eZ))))
  (mS .here rfl (mS .here rfl mN)) ?_ ?_
 ·refine ⟨?_,?_⟩
  ·(try dsimp only)<;>(first|omega|rfl|assumption|(simp; done))
  (try dsimp only)<;>(exact fun i hi=>by omega)
 intro k N0 Gl0 hN0 hGl0 hF0
 try dsimp only at hF0 hN0 ⊢
 obtain ⟨hk,hn⟩:=hF0
 refine .g (cP rfl rfl rfl rfl (.g (cD rfl (fun c1=>?_) (fun c1=>?_))))
 ·have c1k:=c1
  try simp only [aD,aE] at c1
  refine .g (ix rfl .no aC4 bI (.u rfl) (.u rfl) (by omega) (by omega) (fun _=>(aPm (k:=k) (by omega) (by omega))) ?_)
  refine .g (fZ rfl aDB rfl (iW rfl aC4 rfl rfl ?_))
  refine lO rfl bI rfl aC (by exact s.cell_gen hd (k:=k) (by omega)) ?_
  refine cP rfl rfl rfl rfl (.g (cD rfl (fun c2=>?_) (fun c2=>?_)))
  ·have c2k:=c2
   try simp only [aD,aE] at c2
   refine .seq (aP rfl rfl (aS rfl rfl (.nc (.ret (aN Tryz.results283 (.tmp rfl .nil) ?_)))))
   exact ⟨rfl,congrArg Value.bool (aN2 (i:=k) (by omega) (by omega)).symm⟩
  have c2k:=c2
  try simp only [aD,aE] at c2
  refine .g (aW (((k+1):Nat):Int) rfl rfl rfl rfl ?_)
  refine .g (aT (k+1) ?_ ?_ ?_ ?_ ?_)
  ·exact (aO rfl (aA rfl (aA rfl (aA rfl eZ))))
  ·exact (mS .here rfl (mS .here rfl mN))
  ·first|omega|(dsimp only; omega)
  ·exact hGl0
  refine ⟨?_,?_⟩
  ·(try dsimp only)<;>(first|omega|rfl|assumption|(simp; done))
  (try dsimp only)<;>(exact fun i hi=>by (by_cases h:i=k; (subst h; omega); exact hn i (by omega)))
 have c1k:=c1
 try simp only [aD,aE] at c1
 refine .g (fZ rfl aGE rfl (lO rfl bI rfl .here (by first|exact aK rfl|rfl) ?_))
 refine fZ rfl aF5 rfl (lO rfl bI rfl aC (by first|exact aK rfl|rfl) ?_)
 refine cP rfl rfl rfl rfl (.p (fz rfl (.f rfl rfl) aDE (.u rfl) (ld rfl (.f rfl rfl) bI (.s rfl) (fun hc=>Rd.own .here (by first|exact aK rfl|rfl)) ?_)))
 refine fz rfl (.f rfl rfl) aDA (.u rfl) (ld rfl (.f rfl rfl) bI (.s rfl) (fun hc=>Rd.own aC (by first|exact aK rfl|rfl)) ?_)
 refine cp rfl (.f rfl rfl) (.s rfl) (.s rfl) rfl (cF rfl .no (.u rfl) (.s rfl) (.p (fz rfl (.f rfl rfl) aGF (.u rfl) (ld rfl (.f rfl rfl) bI (.s rfl) (fun hc=>Rd.own .here (by first|exact aK rfl|rfl)) ?_))))
 refine fz rfl (.f rfl rfl) aF6 (.u rfl) (ld rfl (.f rfl rfl) bI (.s rfl) (fun hc=>Rd.own aC (by first|exact aK rfl|rfl)) ?_)
 refine cp rfl (.f rfl rfl) (.s rfl) (.s rfl) rfl (cF rfl .no (.u rfl) (.s rfl) (.p (fz rfl (.f rfl rfl) aGG (.u rfl) (ld rfl (.f rfl rfl) bI (.s rfl) (fun hc=>Rd.own .here (by first|exact aK rfl|rfl)) ?_))))
 refine fz rfl (.f rfl rfl) aF7 (.u rfl) (ld rfl (.f rfl rfl) bI (.s rfl) (fun hc=>Rd.own aC (by first|exact aK rfl|rfl)) ?_)
 refine cp rfl (.f rfl rfl) (.s rfl) (.s rfl) rfl (cF rfl .no (.u rfl) (.s rfl) (aS rfl rfl (.nc (.ret (aN Tryz.results283 (.tmp rfl .nil) ?_)))))
 exact ⟨rfl,congrArg Value.bool (aHW (fun i hi=>hn i (by omega))).symm⟩
theorem aOF (G:PM):Ct Tryz.prog 284 ([.slice none 0 0]:List Value).toArray G [] (fun _ μ' u=>μ'=[]∧u=.slice none 0 0):=by
 refine Ct.of Tryz.func284 rfl Tryz.ntmps284 rfl fun w0 hs0=>?_
 refine .g (sn0 (s:=⟨none,0⟩) (m:=0) rfl .no mF (.u rfl) (.u rfl) ?_)
 refine .g (cD rfl (fun c1=>?_) (fun c1=>?_))
 ·have c1k:=c1
  try simp only [aD,aE] at c1
  refine .seq (aP rfl rfl (aS rfl rfl (.nc (.ret (aN Tryz.results284 (.tmp rfl .nil) ?_)))))
  exact ⟨rfl,rfl⟩
 have c1k:=c1
 cases c1
theorem aQf {G:PM} {b7 b9 T7 T9:Nat} {kind:Y} {h:Sh} {p:List Y} (hle:PM.le G ((G.add b7 (cl [V kind] T7)).add b9 (cl [.slice (some ⟨b7,0,none⟩) 1 1,h.val p.length] T9))) (hq:PM.le (G.add b7 (cl [V kind] T7)) ((G.add b7 (cl [V kind] T7)).add b9 (cl [.slice (some ⟨b7,0,none⟩) 1 1,h.val p.length] T9))) (hs:SlR G 1 aU h p) (hK:RdNP G 6 0 (wa 64 kW)) (hl:p.length≤100000000000000) :
  Ct Tryz.prog 311 ([.slice (some ⟨b9,0,none⟩) 2 2]:List Value).toArray ((G.add b7 (cl [V kind] T7)).add b9 (cl [.slice (some ⟨b7,0,none⟩) 1 1,h.val p.length] T9)) [] (fun _ μ' u=>μ'=[]∧u=.agg (ba 32 (lX (kind :: p))).toArray):=by
 have h1:SlR (G.add b7 (cl [V kind] T7)) 1 aU ⟨some ⟨b7,0,none⟩,1⟩ [kind]:=gX (T:=T7) (cH _ _ _) (fun _ _=>rfl) (by simp)
 have hP:SlP ((G.add b7 (cl [V kind] T7)).add b9 (cl [.slice (some ⟨b7,0,none⟩) 1 1,h.val p.length] T9)) ⟨some ⟨b9,0,none⟩,2⟩ [(⟨some ⟨b7,0,none⟩,1⟩,[kind]),(h,p)] :=
  ⟨gX (T:=T9) (cH _ _ _) (fun _ _=>rfl) (by simp),fun q hq'=>by
   rcases List.mem_cons.1 hq' with rfl | hq'
   ·exact h1.mono hq
   ·rw [List.mem_singleton.1 hq']; exact hs.mono hle⟩
 have hh:=aAk _ ⟨some ⟨b9,0,none⟩,2⟩ _ hP (hK.mono hle) (by simp [cO]; omega) (by simp)
 rw [show cO [((⟨some ⟨b7,0,none⟩,1⟩ : Sh),[kind]),(h,p)]=kind :: p by simp [cO]] at hh
 exact hh
theorem aPJ {G:PM} {b7 b9 T7 T9:Nat} {kind:Y} (hle:PM.le G ((G.add b7 (cl [V kind] T7)).add b9 (cl [.slice (some ⟨b7,0,none⟩) 1 1] T9))) (hq:PM.le (G.add b7 (cl [V kind] T7)) ((G.add b7 (cl [V kind] T7)).add b9 (cl [.slice (some ⟨b7,0,none⟩) 1 1] T9))) (hK:RdNP G 6 0 (wa 64 kW)) :
  Ct Tryz.prog 311 ([.slice (some ⟨b9,0,none⟩) 1 1]:List Value).toArray ((G.add b7 (cl [V kind] T7)).add b9 (cl [.slice (some ⟨b7,0,none⟩) 1 1] T9)) [] (fun _ μ' u=>μ'=[]∧u=.agg (ba 32 (lX [kind])).toArray):=by
 have h1:SlR (G.add b7 (cl [V kind] T7)) 1 aU ⟨some ⟨b7,0,none⟩,1⟩ [kind]:=gX (T:=T7) (cH _ _ _) (fun _ _=>rfl) (by simp)
 have hP:SlP ((G.add b7 (cl [V kind] T7)).add b9 (cl [.slice (some ⟨b7,0,none⟩) 1 1] T9)) ⟨some ⟨b9,0,none⟩,1⟩ [(⟨some ⟨b7,0,none⟩,1⟩,[kind])] :=
  ⟨gX (T:=T9) (cH _ _ _) (fun _ _=>rfl) (by simp),fun q hq'=>by rw [List.mem_singleton.1 hq']; exact h1.mono hq⟩
 have hh:=aAk _ ⟨some ⟨b9,0,none⟩,1⟩ _ hP (hK.mono hle) (by simp [cO]) (by simp)
 rw [show cO [((⟨some ⟨b7,0,none⟩,1⟩ : Sh),[kind])]=[kind] by simp [cO]] at hh
 exact hh
theorem aQI {G G2 G3 G5:PM} {b2 b3 b5 b8 T2 T3 T5 T8:Nat} {a b:Nat→Y} (e2:G2=G.add b2 (cl (ba 32 a) T2)) (e3:G3=G2.add b3 (cl (ba 32 b) T3)) (e5:G5=G3.add b5 (cl [V 1#8] T5))
  (hle:PM.le G (G5.add b8 (cl [.slice (some ⟨b5,0,none⟩) 1 1,.slice (some ⟨b2,0,none⟩) 32 32,.slice (some ⟨b3,0,none⟩) 32 32] T8))) (hq:PM.le G5 (G5.add b8 (cl [.slice (some ⟨b5,0,none⟩) 1 1,.slice (some ⟨b2,0,none⟩) 32 32,.slice (some ⟨b3,0,none⟩) 32 32] T8))∧PM.le G3 G5∧PM.le G2 G3∧PM.le G G2∧True) (hK:RdNP G 6 0 (wa 64 kW)) :
  Ct Tryz.prog 311 ([.slice (some ⟨b8,0,none⟩) 3 3]:List Value).toArray (G5.add b8 (cl [.slice (some ⟨b5,0,none⟩) 1 1,.slice (some ⟨b2,0,none⟩) 32 32,.slice (some ⟨b3,0,none⟩) 32 32] T8)) [] (fun _ μ' u=>μ'=[]∧u=.agg (ba 32 (nH a b)).toArray):=by
 have h1:SlR G5 1 aU ⟨some ⟨b5,0,none⟩,1⟩ [1#8]:=by rw [e5]; exact gX (T:=T5) (cH _ _ _) (fun _ _=>rfl) (by simp)
 have h2:SlR G2 1 aU ⟨some ⟨b2,0,none⟩,32⟩ (yl 32 a):=by rw [e2]; exact aHS
 have h3:SlR G3 1 aU ⟨some ⟨b3,0,none⟩,32⟩ (yl 32 b):=by rw [e3]; exact aHS
 have l1:=cY 32 a
 have l2:=cY 32 b
 have hP:SlP (G5.add b8 (cl [.slice (some ⟨b5,0,none⟩) 1 1,.slice (some ⟨b2,0,none⟩) 32 32,.slice (some ⟨b3,0,none⟩) 32 32] T8)) ⟨some ⟨b8,0,none⟩,3⟩ [(⟨some ⟨b5,0,none⟩,1⟩,[1#8]),(⟨some ⟨b2,0,none⟩,32⟩,yl 32 a),(⟨some ⟨b3,0,none⟩,32⟩,yl 32 b)] :=
  ⟨gX (T:=T8) (by simp [aBw,l1,l2,Sh.val]; exact cH _ _ _) (fun _ _=>rfl) (by simp),fun q hq'=>by
   simp only [List.mem_cons,List.not_mem_nil,or_false] at hq'
   rcases hq' with rfl|rfl|rfl
   ·exact h1.mono hq.1
   ·exact h2.mono (hq.2.2.1.trans (hq.2.1.trans hq.1))
   ·exact h3.mono (hq.2.1.trans hq.1)⟩
 have hh:=aAk _ ⟨some ⟨b8,0,none⟩,3⟩ _ hP (hK.mono hle) (by simp [cO,l1,l2]) (by simp)
 rw [show cO [((⟨some ⟨b5,0,none⟩,1⟩ : Sh),[1#8]),(⟨some ⟨b2,0,none⟩,32⟩,yl 32 a),(⟨some ⟨b3,0,none⟩,32⟩,yl 32 b)]=1#8 :: (yl 32 a++yl 32 b) by simp [cO]] at hh
 exact hh
theorem aQg (p:List Y) (h:Sh) (G:PM) (hs:SlR G 1 aU h p) (hK:RdNP G 6 0 (wa 64 kW)) (hl:p.length≤100000000000000):Ct Tryz.prog 226 ([h.val p.length]:List Value).toArray G [] (fun _ μ' u=>μ'=[]∧u=.agg (ba 32 (aEl p)).toArray):=by
 refine Ct.of Tryz.func226 rfl Tryz.ntmps226 rfl fun w0 hs0=>?_
 refine .seq (aP rfl rfl ?_)
 refine al rfl jN ?_; intro b2
 refine .nil (.code (.seq (mR rfl rfl ?_)))
 refine Go.Tan.b1 rfl aX cG (.u rfl) rfl rfl (by decide) ?_; intro b3
 refine mV rfl rfl ?_
 refine Go.Tan.bN rfl jZ oE (Evp.cons (.u rfl) (Evp.cons (.u rfl) Evp.nil)) rfl (by decide) (by simp [Value.oneCell',Sh.val]) ?_; intro b5
 refine kp rfl .no aBE (aB rfl aF) (Gp.add .here (Gp.add .here Gp.nil)) (fun _ hle hq=>aQf (kind:=0#8) hle hq.1 hs hK hl) ?_
 refine sW rfl rfl rfl rfl iO aM ?_
 refine .nil (.code (.ret (aN Tryz.results226 (.cell rfl (fun w hw=>bE fF (RdN.own .here) ((by first|exact qE|exact qL|rfl)) hw) .nil) ?_)))
 exact ⟨rfl,rfl⟩
theorem aIp (a b:Dg) (G:PM) (hK:RdNP G 6 0 (wa 64 kW)):Ct Tryz.prog 312 ([.agg (ba 32 a).toArray,.agg (ba 32 b).toArray]:List Value).toArray G [] (fun _ μ' u=>μ'=[]∧u=.agg (ba 32 (nH a b)).toArray):=by
 refine Ct.of Tryz.func312 rfl Tryz.ntmps312 rfl fun w0 hs0=>?_
 refine .seq (dQ rfl rfl ?_)
 refine bX rfl rfl rfl ?_; intro b2
 refine bX rfl rfl rfl ?_; intro b3
 refine al rfl jN ?_; intro b4
 refine .g (bZ (mc:=⟨false,false⟩) [1,2,0,3,4,5] aY (by kernel_rfl) ?_)
 refine rC rfl .no nX (.u rfl) (rC rfl .no nX (.u rfl) ?_)
 refine Go.Tan.b1 rfl aX cG (.u rfl) rfl rfl (by decide) ?_; intro b5
 refine Go.Tan.bN rfl jZ oE (Evp.cons (.u rfl) (Evp.cons (.u rfl) (Evp.cons (.u rfl) Evp.nil))) rfl (by decide) (by simp [Value.oneCell',Sh.val]) ?_; intro b8
 refine kp rfl .no aBE (aB rfl aF) (Gp.add .here (Gp.add .here (Gp.add aC (Gp.add aC Gp.nil)))) (fun _ hle hq=>aQI rfl rfl rfl hle hq hK) ?_
 refine sW rfl rfl rfl rfl iO aM ?_
 refine .nil (.code (.ret (aN Tryz.results312 (.cell rfl (fun w hw=>bE fF (RdN.own .here) ((by first|exact qE|exact qL|rfl)) hw) .nil) ?_)))
 exact ⟨rfl,rfl⟩
theorem rP:bL Tryz.prog 341=some (34,32,32):=by kernel_rfl
theorem zM:(bL Tryz.prog 341).isSome=true:=by kernel_rfl
theorem aMd:aJ Tryz.prog 312=true:=by kernel_rfl
theorem aDZ:(Tryz.prog.info? 34).bind (·.zero)=some (.agg (ba 32 (fun _=>0#8)).toArray):=by kernel_rfl
theorem aTi (ds:List Dg) (h:Sh) (G:PM) (hs:SlR G 32 (ba 32) h ds) (hK:RdNP G 6 0 (wa 64 kW)) (hl:ds.length≤1000000):Ct Tryz.prog 225 ([h.val ds.length]:List Value).toArray G [] (fun _ μ' u=>μ'=[]∧u=.agg (ba 32 (gL ds)).toArray):=by
 refine Ct.of Tryz.func225 rfl Tryz.ntmps225 rfl fun w0 hs0=>?_
 refine .seq (aP rfl rfl ?_)
 refine al rfl jN ?_; intro b2
 refine .g (lE rfl zM rfl (cP rfl rfl rfl rfl (.g (cD rfl (fun c1=>?_) (fun c1=>?_)))))
 ·have c1k:=c1
  try simp only [aD,aL,aE] at c1
  refine .seq (dI rfl rfl ?_)
  refine Go.Tan.b1 rfl aX cG (.u rfl) rfl rfl (by decide) ?_; intro b12
  refine Go.Tan.b1 rfl jZ oE (.u rfl) rfl rfl (by decide) ?_; intro b13
  refine kp rfl .no aBE (aB rfl aF) (Gp.add .here (Gp.add .here Gp.nil)) (fun _ hle hq=>aPJ (kind:=2#8) hle hq.1 hK) ?_
  refine sW rfl rfl rfl rfl iO aM ?_
  refine .nil (.code (.ret (aN Tryz.results225 (.cell rfl (fun w hw=>bE fF (RdN.own .here) ((by first|exact qE|exact qL|rfl)) hw) .nil) ?_)))
  obtain rfl:ds=[]:=List.eq_nil_of_length_eq_zero (by omega)
  exact ⟨rfl,by rw [aTh]; rfl⟩
 have c1k:=c1
 try simp only [aD,aL,aE] at c1
 refine .skip (.code (.seq (aP rfl rfl (aS rfl rfl (.nc (.seq (.seq (mU 32 (ba 32) 34 ?_))))))))
 refine .g (lE rfl zM rfl (mV rfl rfl (.nc (.block ?_))))
 refine aV (α:=Nat×List (Nat×Dg)×Value) (fun gh=>[(3,true,gh.2.2),(17,true,.int .i64 (gh.1:Int))]) (fun gh=>[rS 32 (ba 32) gh.2.2 34 (dS gh.2.1)])
  (fun gh Gl=>(gh.1≤ds.length)∧(Stk gh.2.1 (ds.take gh.1))) (fun gh=>ds.length-gh.1) (0,[],.slice none 0 0) [(2,true,_),(15,true,_),(16,true,_)] [_]
  (aA rfl (aO rfl (aA rfl (aA rfl (aA rfl eZ)))))
  (mS .here rfl (mS .here rfl mN)) ?_ ?_
 ·refine ⟨?_,?_⟩
  ·(try dsimp only)<;>(first|omega|rfl|assumption|(simp; done))
  (try dsimp only)<;>(exact Stk.nil)
 intro gh N0 Gl0 hN0 hGl0 hF0
 obtain ⟨k,S,v⟩:=gh; dsimp only at hF0 hN0 ⊢
 obtain ⟨hk,hS⟩:=hF0
 have hs:=hs.mono hGl0
 have hK:=hK.mono hGl0
 refine .g (cP rfl rfl rfl rfl (.g (cD rfl (fun c2=>?_) (fun c2=>?_))))
 ·have c2k:=c2
  try simp only [aD,aL,aE] at c2
  refine .skip (.code (.seq (.block (.seq (gM rfl rfl (mV rfl rfl ?_))))))
  obtain ⟨x,ex⟩:=dT (k:=k) (xs:=ds) (by omega)
  refine ih rfl .no rP (.u rfl) (.u rfl) (by omega) (by omega) (fun _=>hs.nn (k:=k) (by first|omega|(simp only [Bool.and_eq_true,decide_eq_true_eq] at hc; omega)|(simp only [List.length_cons,List.length_nil]; omega))) ?_
  refine lA rfl .no fF (.u rfl) (fun _=>(hs.at (by omega) ex).rd) (fun _=>bR _ _) ?_
  refine al rfl jN ?_; intro b5
  refine .p (sw rfl (.u rfl) (.u rfl) rfl iO .here rfl (kF _ _) ?_)
  refine .g (aW (((k+1):Nat):Int) rfl rfl rfl rfl ?_)
  refine aS rfl rfl (.nc (.block ?_))
  refine aV (α:=Nat×Nat×List (Nat×Dg)×Dg×Value) (fun gh=>[(3,true,gh.2.2.2.2),(6,true,.int .i64 (gh.1:Int))]) (fun gh=>[.blk b5 (cl (ba 32 gh.2.2.2.1) 34),rS 32 (ba 32) gh.2.2.2.2 34 (dS gh.2.2.1)])
   (fun gh Gl=>(Pend gh.2.2.1 gh.2.2.2.1 gh.2.1 (ds.take (k+1)))∧(gh.1=(ds.take (k+1)).length / 2^gh.2.1)∧(gh.1≤k+1)) (fun gh=>gh.1) (k+1,0,S,x,v) [(2,true,_),(5,true,_),(15,true,_),(16,true,_),(17,true,_)] [_]
   (aA rfl (aO rfl (aA rfl (aA rfl (aA rfl (aA rfl (aA rfl eZ)))))))
   (mS .here rfl (mS .here rfl (mS .here rfl mN))) ?_ ?_
  ·refine ⟨?_,?_,?_⟩
   ·(try dsimp only)<;>(rw [List.take_add_one,ex]; exact aNM hS x)
   ·(try dsimp only)<;>(rw [Nat.pow_zero,Nat.div_one,List.length_take]; omega)
   (try dsimp only)<;>(first|omega|rfl|assumption|(simp; done))
  intro gh N1 Gl1 hN1 hGl1 hF1
  obtain ⟨q,a,S2,dd,v2⟩:=gh; dsimp only at hF1 hN1 ⊢
  obtain ⟨hP,eq,hqk⟩:=hF1
  have hK:=hK.mono hGl1
  have hq0:=aS2 hP eq
  have hl2:=aS0 hP
  rw [← tC,List.length_take] at hl2
  refine .g (an1 q rfl .no (.u rfl) (.u rfl) rfl rfl ?_)
  refine cP rfl rfl rfl rfl (.g (cD rfl (fun c3=>?_) (fun c3=>?_)))
  ·have c3k:=c3
   try simp only [aD,aL,aE] at c3
   refine .skip (.code (.seq (.block (.seq ?_))))
   obtain ⟨s,S3,hS3,hP3,hq3⟩:=aSz hP eq (by omega)
   have hl3:(dS S2).length=(dS S3).length+1:=by rw [hS3,yM,List.length_append]; rfl
   refine aAv aC (by omega) ?_; intro bbRS capRS evRS lcRS; subst evRS
   refine bZ (mc:=⟨false,false⟩) [0,1,2,3,4,5,6,7,8] aY (by kernel_rfl) ?_
   refine .p (lr rfl .no zM (.u rfl) aC ?_)
   refine hJ ((((dS S2).length-1):Nat):Int) rfl .no (.u rfl) (.u rfl) rfl (by omega) (fun _=>eJ (by omega) (by omega)) ?_
   refine ia rfl .no rP (.u rfl) (.u rfl) (by omega) (by omega) ?_
   refine lA rfl .no fF (.u rfl) (fun _=>aDf aC (fun _ _=>bR _ _) (aEY (z:=zD) (k:=((dS S2).length-1)) (by omega)) (by omega)) (fun _=>bR _ _) ?_
   refine lB rfl fF rfl .here ?_
   refine kV rfl aMd (aB rfl (aB rfl aF)) (aIp _ _ _ hK) ?_
   refine sw rfl (.u rfl) (.u rfl) rfl iO .here (by first|exact qE|exact qL|rfl) (kF _ _) ?_
   refine .g (lr rfl .no zM (.u rfl) aC ?_)
   refine aR rfl rfl rfl rfl ?_
   refine srh (dS S3).length rfl rP (.u rfl) (.u rfl) (by omega) (by omega) ?_
   refine aS rfl rfl (.nil (.blk (.code (aVl (dS S3) [s] (fun _ _=>bR _ _) aC (by rw [hS3,yM]) ?_))))
   refine .g (sr1 (q) rfl .no (.u rfl) (.u rfl) (by first|rfl|omega) rfl (by decide) ?_)
   refine .g (aT (q / 2,a+1,S3,nH ((dS S2).getD ((dS S2).length-1) zD) dd,.slice (some ⟨bbRS,0,none⟩) (dS S3).length capRS) ?_ ?_ ?_ ?_ ?_)
   ·exact (aA rfl (aO rfl (aA rfl (aA rfl (aA rfl (aA rfl (aA rfl eZ)))))))
   ·exact (mS aC rfl (mS .here rfl (mS .here rfl mN)))
   ·first|omega|(dsimp only; omega)
   ·exact hGl1
   refine ⟨?_,?_,?_⟩
   ·(try dsimp only)<;>(rw [aUb hS3]; exact hP3)
   ·(try dsimp only)<;>(exact hq3)
   (try dsimp only)<;>(first|omega|rfl|assumption|(simp; done))
  have c3k:=c3
  try simp only [aD,aL,aE] at c3
  refine .g (lB rfl fF rfl .here ?_)
  refine Go.Tan.b1 rfl rP aDZ (.u rfl) rfl rfl (by decide) ?_; intro b44
  refine gZ (xs:=(dS S2)) (dd) rfl rP aDZ rfl (.u rfl) (.u rfl) aM .here (bR _ _) (kF _ _) (by omega) (by unfold maxLen; omega) ?_; intro v45 ov45
  refine .g (aW (((k+1):Nat):Int) rfl rfl rfl rfl ?_)
  refine .g (aT (k+1,(a,dd) :: S2,v45) ?_ ?_ ?_ ?_ ?_)
  ·exact (aA rfl (aO rfl (aA rfl (aA rfl (aA rfl eZ)))))
  ·exact (mS .here (by rw [yM]) (mS aM rfl mN))
  ·first|omega|(dsimp only; omega)
  ·exact (hGl0).trans hGl1
  refine ⟨?_,?_⟩
  ·(try dsimp only)<;>(first|omega|rfl|assumption|(simp; done))
  (try dsimp only)<;>(exact aS1 hP eq (by omega))
 have c2k:=c2
 try simp only [aD,aL,aE] at c2
 refine .exit (.xcode (.xlp (.xblk (.code (.seq ?_)))))
 obtain rfl:k=ds.length:=by omega
 rw [List.take_length] at hS
 obtain ⟨hs0,hroot⟩:=aUa hS (by omega)
 have hsl:=hS.short
 rw [← tC] at hsl
 refine aAv .here (by omega) ?_; intro bbRS capRS evRS lcRS; subst evRS
 refine .g (lr rfl .no zM (.u rfl) .here ?_)
 refine hJ ((((dS S).length-1):Nat):Int) rfl .no (.u rfl) (.u rfl) rfl (by omega) (fun _=>eJ (by omega) (by omega)) ?_
 refine ia rfl .no rP (.u rfl) (.u rfl) (by omega) (by omega) ?_
 refine lA rfl .no fF (.u rfl) (fun _=>aDf .here (fun _ _=>bR _ _) (aEY (z:=zD) (k:=((dS S).length-1)) (by omega)) (by omega)) (fun _=>bR _ _) ?_
 refine al rfl jN ?_; intro b7
 refine sw rfl (.u rfl) (.u rfl) rfl iO .here rfl (kF _ _) ?_
 refine .g (lr rfl .no zM (.u rfl) aC ?_)
 refine aR rfl rfl rfl rfl ?_
 refine aS rfl rfl (.nc (.block ?_))
 refine aV (α:=Nat×Dg) (fun gh=>[(8,true,.int .i64 ((gh.1:Int)-1))]) (fun gh=>[.blk b7 (cl (ba 32 gh.2) 34)])
  (fun gh Gl=>(gh.1≤(dS S).length-1)∧(gL ds=pI gh.2 (dS S) gh.1)) (fun gh=>gh.1) ((dS S).length-1,(dS S).getD ((dS S).length-1) zD) [(2,true,_),(3,true,_),(7,true,_)] [_,_]
  (dY rfl (evi (by omega)) (aA rfl (aA rfl (aA rfl eZ))))
  (mS .here rfl (mS .here rfl (mS .here rfl mN))) ?_ ?_
 ·refine ⟨?_,?_⟩
  ·(try dsimp only)<;>(first|omega|rfl|assumption|(simp; done))
  (try dsimp only)<;>(exact hroot)
 intro gh N2 Gl2 hN2 hGl2 hF2
 obtain ⟨j,d⟩:=gh; dsimp only at hF2 hN2 ⊢
 obtain ⟨hj,hd⟩:=hF2
 have hK:=hK.mono hGl2
 refine .g (cP rfl rfl rfl rfl (.g (cD rfl (fun c4=>?_) (fun c4=>?_))))
 ·have c4k:=c4
  try simp only [aD,aL,aE] at c4
  refine .g (bZ (mc:=⟨false,false⟩) [0,1,2,3,4,5,6] aY (by kernel_rfl) ?_)
  refine .p (ia rfl .no rP (.u rfl) (.u rfl) (by omega) (by omega) ?_)
  refine lA rfl .no fF (.u rfl) (fun _=>aDf aC (fun _ _=>bR _ _) (aEY (z:=zD) (k:=(j-1)) (by omega)) (by omega)) (fun _=>bR _ _) ?_
  refine lB rfl fF rfl .here ?_
  refine kV rfl aMd (aB rfl (aB rfl aF)) (aIp _ _ _ hK) ?_
  refine sw rfl (.u rfl) (.u rfl) rfl iO .here (by first|exact qE|exact qL|rfl) (kF _ _) ?_
  refine .g (aR rfl rfl rfl rfl ?_)
  refine .g (aT (j-1,nH ((dS S).getD (j-1) zD) d) ?_ ?_ ?_ ?_ ?_)
  ·exact (dY rfl (evi (by omega)) (aA rfl (aA rfl (aA rfl eZ))))
  ·exact (mS .here rfl (mS .here rfl (mS .here rfl mN)))
  ·first|omega|(dsimp only; omega)
  ·exact hGl2
  refine ⟨?_,?_⟩
  ·(try dsimp only)<;>(first|omega|rfl|assumption|(simp; done))
  (try dsimp only)<;>(rw [hd,aPU (by omega)])
 have c4k:=c4
 try simp only [aD,aL,aE] at c4
 refine .g (lB rfl fF rfl .here ?_)
 refine sw rfl (.u rfl) (.u rfl) rfl iO aM rfl (kF _ _) ?_
 refine .nil (.code (.ret (aN Tryz.results225 (.cell rfl (fun w hw=>bE fF (RdN.own .here) ((by first|exact qE|exact qL|rfl)) hw) .nil) ?_)))
 obtain rfl:j=0:=by omega
 exact ⟨rfl,by rw [hd]; rfl⟩
theorem aLo:bY Tryz.prog 341=some none:=by kernel_rfl
theorem aMZ:aJ Tryz.prog 208=true:=by kernel_rfl
theorem aXx:aJ Tryz.prog 226=true:=by kernel_rfl
theorem aY7:cI Tryz.prog 341=some 1:=by kernel_rfl
theorem aZI:dV Tryz.prog 341=some ([.slice none 0 0]):=by kernel_rfl
theorem aWT:cX Tryz.prog 202 [0,1,2,3,4]=some (sT (fun _=>0)++[.slice none 0 0,.slice none 0 0],[(0,1),(1,1),(2,1),(3,1),(4,5)]):=by kernel_rfl
theorem aMc:aJ Tryz.prog 291=true:=by kernel_rfl
theorem aWV:cX Tryz.prog 202 [5]=some (sT (fun _=>0)++[.slice none 0 0,.slice none 0 0],[(9,1)]):=by kernel_rfl
theorem aXw:aJ Tryz.prog 225=true:=by kernel_rfl
theorem aHI (e:Edit) (ha hd:Sh) (L:List Dg) (v:Value) (bl:Nat) (G:PM) (he:EdR G e ha hd) (hla:e.add.length≤1000000) (hld:e.drop.length≤1000000) (hlm:(e.add.flatMap fX).length≤9000000000000) (hK:RdNP G 6 0 (wa 64 kW)) (hL:L.length≤1000000):Ct Tryz.prog 291 ([e.val ha hd,.pointer (some ⟨bl,0,none⟩)]:List Value).toArray G [.blk bl (cl [v] 341),rS 32 (ba 32) v 34 L] (fun _ μ' u=>∃ v',μ'=[.blk bl (cl [v'] 341),rS 32 (ba 32) v' 34 (L++[sL e])]∧u=.tuple #[]):=by
 refine Ct.of Tryz.func291 rfl Tryz.ntmps291 rfl fun w0 hs0=>?_
 have hle:=aH2 he.wf hla hld
 refine .seq (aP rfl rfl ?_)
 refine bX rfl rfl rfl ?_; intro b2
 refine .g (bZ (mc:=⟨false,false⟩) [0,1,2,3,4,5,6] aY (by kernel_rfl) ?_)
 refine lO rfl aLo rfl aC (by first|exact aK rfl|rfl) ?_
 refine lA rfl .no aA1 (.u rfl) (fun _=>RdN.own .here) (fun _=>Edit.len) ?_
 refine kc rfl aMZ (aB rfl aF) (aH8 e ha hd _ he hla hld (by omega)) ?_
 rintro _ G5 μ5 hG5 ⟨h5,L5,eL5,rfl,rfl,hs5⟩
 have hK:=hK.mono hG5
 refine kV rfl aXx (aB rfl aF) (aQg _ _ _ hs5 hK (by rw [eL5]; omega)) ?_
 refine Go.Tan.b1 rfl rP aDZ (.u rfl) rfl rfl (by decide) ?_; intro b7
 refine gZ (xs:=L) ((aEl L5)) rfl rP aDZ rfl (.u rfl) (.u rfl) bG .here (bR _ _) (kF _ _) (by omega) (by unfold maxLen; omega) ?_; intro v8 ov8
 refine iM rfl (.u rfl) (.u rfl) .here aY7 bG (by first|decide|(simp only [bW,bR,cC]; omega)) (rfl) ?_
 refine .g (We.fin Tryz.results291 .nil (mS .here rfl (mS .here rfl mN)) ?_)
 exact ⟨_,by rw [eL5]; rfl,rfl⟩
theorem aNe (m:Meta) (b:Nat) (T:TypeId) (L:List Dg) (v:Value) (bl:Nat) (G:PM) (hw:m.wf) (hm:m.min.size+m.max.size≤900000000000) (hK:RdNP G 6 0 (wa 64 kW)) (hL:L.length≤1000000):Ct Tryz.prog 291 ([(qW m).val ⟨some ⟨b,0,none⟩,1⟩ ⟨none,0⟩]++[.pointer (some ⟨bl,0,none⟩)]:List Value).toArray G [.blk b (cl m.cells T),.blk bl (cl [v] 341),rS 32 (ba 32) v 34 L] (fun _ μ' u=>∃ v',μ'=[.blk bl (cl [v'] 341),rS 32 (ba 32) v' 34 (L++[sL (qW m)])]∧u=.tuple #[]):=by
 refine tI fun hle=>?_
 have h1:=aSR hw
 exact aHI (qW m) ⟨some ⟨b,0,none⟩,1⟩ ⟨none,0⟩ L v bl _ ⟨SlR.one1 (enc:=Meta.cells) (x:=m),SlR.nul,aSS hw⟩ (by show 1≤_; decide) (by show 0≤_; decide) (by omega) (hK.mono hle) hL
theorem aQ8 (s:State) (hd:Nat→Sh) (G:PM) (hs:StR G s hd) (hn:StN s) (hl:StL s) (hK:RdNP G 6 0 (wa 64 kW)):Ct Tryz.prog 205 ([s.val hd]:List Value).toArray G [] (fun _ μ' u=>μ'=[]∧u=.agg (ba 32 (aTg s)).toArray):=by
 refine Ct.of Tryz.func205 rfl Tryz.ntmps205 rfl fun w0 hs0=>?_
 have hf:=hl.few
 refine .seq (bF rfl rfl ?_)
 refine bX rfl rfl rfl ?_; intro b1
 refine al rfl jN ?_; intro b2
 refine .nil (.code (.seq (aP rfl rfl ?_)))
 refine al rfl aZI ?_; intro b3
 refine .g (mf (vf:=#[]) (vc:=[Value.pointer (some ⟨b3,0,none⟩)].toArray) rfl .no (fun a ha _=>by simp) (fun a ha _=>by simp [(Ev.u (c:=true) rfl:Ev _ true (.tmp 3) _).eval ha rfl]) ?_)
 refine aS rfl rfl (.nc (.seq (mU 32 (ba 32) 34 ?_)))
 refine .g (fZ rfl aF5 rfl (lO rfl bI rfl bG (by first|exact aK rfl|rfl) ?_))
 refine fZ rfl aDA rfl (lO rfl bI rfl bG (by first|exact aK rfl|rfl) ?_)
 refine fZ rfl aF6 rfl (lO rfl bI rfl bG (by first|exact aK rfl|rfl) ?_)
 refine fZ rfl aF7 rfl (lO rfl bI rfl bG (by first|exact aK rfl|rfl) ?_)
 refine fZ rfl aDB rfl (lA rfl .no aC1 (.u rfl) (fun _=>RdN.part (n:=5) (cs':=(List.range 5).map (fun i=>.int .u64 (s.gens i))) bG (rfl)) (fun _=>rfl) (dK ((uI s).cells ⟨none,0⟩ ⟨none,0⟩) rfl .no aWT (.cons (.u rfl) rfl (.cons (.u rfl) rfl (.cons (.u rfl) rfl (.cons (.u rfl) rfl (.cons (.u rfl) rfl .nil))))) rfl (rfl) (kaf (vs:=[_]) (vc:=[.pointer (some ⟨b3,0,none⟩)]) rfl (.inr rfl) (.u rfl) aMc (aB rfl aF) (eI aC .here) (aHI (uI s) ⟨none,0⟩ ⟨none,0⟩ [] _ b3 _ ⟨SlR.nul,SlR.nul,aPv hn⟩ (by show 0≤_; decide) (by show 0≤_; decide) (by have:=aPu (s:=s); omega) hK (by simp)) ?_)))
 rintro _ G22 μ22 hG22 ⟨v22,rfl,rfl⟩
 have hs:=hs.mono hG22
 have hK:=hK.mono hG22
 refine .g (fZ rfl tM rfl (lA rfl .no aA0 (.u rfl) (fun _=>RdN.part (n:=5) (cs':=(List.range 5).map (fun i=>(hd i).val (s.lv i).length)) bG (rfl)) (fun _=>rfl) ?_))
 refine mV rfl rfl (.nc (.block ?_))
 refine aV (α:=Nat×Value) (fun gh=>[(25,true,.int .i64 (gh.1:Int))]) (fun gh=>[.blk b3 (cl [gh.2] 341),rS 32 (ba 32) gh.2 34 (kH s gh.1 0)])
  (fun gh Gl=>(gh.1≤5)) (fun gh=>5-gh.1) (0,v22) [(2,true,_),(3,true,_),(4,true,_),(24,true,_)] [_,_]
  (aO rfl (aA rfl (aA rfl (aA rfl (aA rfl eZ)))))
  (mS .here rfl (mS .here (by rw [aQi]) (mS .here rfl (mS .here rfl mN)))) ?_ ?_
 ·(try dsimp only)<;>(first|omega|rfl|assumption|(simp; done))
 intro gh N0 Gl0 hN0 hGl0 hF0
 obtain ⟨k,v⟩:=gh; dsimp only at hF0 hN0 ⊢
 have hk:=hF0
 have hs:=hs.mono hGl0
 have hK:=hK.mono hGl0
 refine .g (cP rfl rfl rfl rfl (.g (cD rfl (fun c1=>?_) (fun c1=>?_))))
 ·have c1k:=c1
  try simp only [aD,aL,aE] at c1
  refine .skip (.code (.seq (.block (.seq ?_))))
  have hlv:=hs.lv k (by omega)
  have htl:=aU1 (s:=s) (k:=k) (by omega)
  have htn:=aFc s k
  refine .g (ix rfl .no wC lZ (.u rfl) (.u rfl) (by omega) (by omega) (fun _=>(aQ5 s hd (k:=k) (by omega) (by omega))) ?_)
  refine .g (lE rfl mF rfl (mV rfl rfl (.nc (.block ?_))))
  refine aV (α:=Nat×Value) (fun gh=>[(30,true,.int .i64 (gh.1:Int))]) (fun gh=>[.blk b3 (cl [gh.2] 341),rS 32 (ba 32) gh.2 34 (kH s k gh.1)])
   (fun gh Gl=>(gh.1≤(s.lv k).length)) (fun gh=>(s.lv k).length-gh.1) (0,v) [(2,true,_),(3,true,_),(4,true,_),(24,true,_),(25,true,_),(28,true,_),(29,true,_)] [_,_]
   (aO rfl (aA rfl (aA rfl (aA rfl (aA rfl (aA rfl (aA rfl (aA rfl eZ))))))))
   (mS .here rfl (mS .here rfl (mS .here rfl (mS .here rfl mN)))) ?_ ?_
  ·(try dsimp only)<;>(first|omega|rfl|assumption|(simp; done))
  intro gh N1 Gl1 hN1 hGl1 hF1
  obtain ⟨j,w⟩:=gh; dsimp only at hF1 hN1 ⊢
  have hj:=hF1
  have hs:=hs.mono hGl1
  have hK:=hK.mono hGl1
  have hlv:=hlv.mono hGl1
  refine .g (cP rfl rfl rfl rfl (.g (cD rfl (fun c2=>?_) (fun c2=>?_))))
  ·have c2k:=c2
   try simp only [aD,aL,aE] at c2
   refine .skip (.code (.seq (.block (.seq (dI rfl rfl (ih rfl .no oB (.u rfl) (.u rfl) (by omega) (by omega) (fun _=>hlv.nn (k:=j) (by first|omega|(simp only [Bool.and_eq_true,decide_eq_true_eq] at hc; omega)|(simp only [List.length_cons,List.length_nil]; omega))) ?_))))))
   obtain ⟨m,em⟩:=dT (k:=j) (xs:=s.lv k) (by omega)
   refine lA rfl .no pV (.u rfl) (fun _=>(hlv.at (by omega) em).rd) (fun _=>Meta.len _) ?_
   refine al rfl aBQ ?_; intro b8
   refine sw rfl (.u rfl) (.u rfl) rfl aBN .here rfl (Meta.one _) ?_
   refine .g (lA rfl .no pV (.u rfl) (fun _=>RdN.own .here) (fun _=>Meta.len _) ?_)
   refine Go.Tan.b1 rfl oB aDY (.u rfl) rfl rfl (by decide) ?_; intro b36
   refine dK ((qW m).cells ⟨some ⟨b36,0,none⟩,1⟩ ⟨none,0⟩) rfl .no aWV (.cons (.u rfl) rfl .nil) rfl (rfl) (kaf (vs:=[_]) (vc:=[.pointer (some ⟨b3,0,none⟩)]) rfl (.inr rfl) (.u rfl) aMc (aB rfl aF) (jI .here aC aC) (aNe m b36 _ (kH s k j) _ b3 _ (hs.wf k (by omega) m (List.mem_of_getElem? em)) (hl.short k (by omega) m (List.mem_of_getElem? em)) hK (by have:=aQk s k j; omega)) ?_)
   rintro _ G38 μ38 hG38 ⟨v38,rfl,rfl⟩
   have hK:=hK.mono hG38
   refine .g (aW (((j+1):Nat):Int) rfl rfl rfl rfl ?_)
   refine .g (aT (j+1,v38) ?_ ?_ ?_ ?_ ?_)
   ·exact (aO rfl (aA rfl (aA rfl (aA rfl (aA rfl (aA rfl (aA rfl (aA rfl eZ))))))))
   ·exact (mS .here rfl (mS .here (by rw [aQm em]) (mS aC rfl (mS aC rfl mN))))
   ·first|omega|(dsimp only; omega)
   ·exact (hGl1).trans hG38
   (try dsimp only)<;>(first|omega|rfl|assumption|(simp; done))
  have c2k:=c2
  try simp only [aD,aL,aE] at c2
  refine .g (aW (((k+1):Nat):Int) rfl rfl rfl rfl ?_)
  refine .g (aT (k+1,w) ?_ ?_ ?_ ?_ ?_)
  ·exact (aO rfl (aA rfl (aA rfl (aA rfl (aA rfl eZ)))))
  ·exact (mS .here rfl (mS .here (by rw [aQl (by omega)]) (mS .here rfl (mS .here rfl mN))))
  ·first|omega|(dsimp only; omega)
  ·exact (hGl0).trans hGl1
  (try dsimp only)<;>(first|omega|rfl|assumption|(simp; done))
 have c1k:=c1
 try simp only [aD,aL,aE] at c1
 refine .exit (.xcode (.xlp (.xblk (.code (.seq ?_)))))
 obtain rfl:k=5:=by omega
 rw [aQj]
 have hll:=aQh s
 refine aAu aC (fun _ _=>rfl) (by intro b hb; cases hb) ?_; intro GfRL hRL hleRL evRL hsRL; subst evRL
 have hK:=hK.mono hleRL
 refine .g (lO rfl aLo rfl .here (by first|exact aK rfl|rfl) ?_)
 refine kV rfl aXw (aB rfl aF) (aTi (xQ s) hRL _ hsRL hK (by omega)) ?_
 refine sW rfl rfl rfl rfl iO aC ?_
 refine .nil (.code (.ret (aN Tryz.results205 (.cell rfl (fun w hw=>bE fF (RdN.own .here) ((bR _ _)) hw) .nil) ?_)))
 exact ⟨rfl,rfl⟩
end Go.Proofs.YtoifkgkandfeiaaGreatDoor
namespace Go.Proofs.YtoifkgkandfeiaaGreatDoor
open Go.Tan Go.RowKit Go.Maps Go.Sort Go.Shelf
theorem aYa:aJ Tryz.prog 378=true:=by kernel_rfl
theorem aYT:aJ Tryz.prog 338=true:=by kernel_rfl
theorem aBP:dV Tryz.prog 159=some ((State.zero.cells fO)):=by kernel_rfl
theorem aMb:aJ Tryz.prog 238=true:=by kernel_rfl
theorem aYF:aJ Tryz.prog 283=true:=by kernel_rfl
theorem aWR:cX Tryz.prog 159 [1,2,3,4,5,0]=some ((State.zero.cells fO),[(5,1),(6,1),(7,1),(8,1),(9,5),(0,5)]):=by kernel_rfl
theorem zO:cI Tryz.prog 159=some 14:=by kernel_rfl
theorem aYG:aJ Tryz.prog 284=true:=by kernel_rfl
theorem aYH:aJ Tryz.prog 288=true:=by kernel_rfl
theorem aXr:aJ Tryz.prog 204=true:=by kernel_rfl
theorem aXs:aJ Tryz.prog 205=true:=by kernel_rfl
theorem aMY:aJ Tryz.prog 206=true:=by kernel_rfl
theorem aGw:dV Tryz.prog 231=some ([.slice none 0 0,.pointer none,.int .u64 0]):=by kernel_rfl
theorem aGj:aJ Tryz.prog 87=true:=by kernel_rfl
theorem aWX:cX Tryz.prog 231 [1]=some ([.slice none 0 0,.pointer none,.int .u64 0],[(1,1)]):=by kernel_rfl
theorem aGt:cI Tryz.prog 231=some 3:=by kernel_rfl
theorem aXd:aJ Tryz.prog 159=true:=by kernel_rfl
theorem aLl:bY Tryz.prog 231=some (some 3):=by kernel_rfl
theorem aVV (root:Nat→Y) (h:Hd) (n:BitVec 64) (p:List Y) (v:Value) (G:PM) (hK:RdNP G 6 0 (wa 64 kW)):Ct Tryz.prog 206 ([.agg (ba 32 root).toArray,.agg ([V h.kind,V h.level,uv .u64 h.gen,uv .u64 h.epoch,uv .u64 h.num]:List Value).toArray,uv .u64 n,v]:List Value).toArray G [rB v 5 p] (fun _ μ' u=>∃ ν,μ'=rB v 5 p :: ν∧∃ v' L e,(L,e)=sJ root h n p∧ν=[rB v' 5 L]∧u=.tuple #[v',.int .i64 e]) :=
 aAy (fun hp G2 hle hv hs=>by subst hv; exact aLB root h n p hp G2 hs (hK.mono hle))
theorem aQC (f:Value) (G:PM):Ct Tryz.prog 378 ([.slice none 0 0,.int .i64 0,.int .i64 0,f]:List Value).toArray G [] (fun _ μ' u=>μ'=[]∧u=.tuple #[]):=by
 refine Ct.of Tryz.func378 rfl Tryz.ntmps378 rfl fun w0 hs0=>?_
 refine .g (aW (((0+1):Nat):Int) rfl rfl rfl rfl ?_)
 refine aS rfl rfl (.nc (.block ?_))
 refine aV (α:=Nat) (fun k=>[(8,true,.int .i64 ((k:Nat):Int))]) (fun _=>[])
  (fun k Gl=>(k=1)) (fun k=>0) 1 [(0,true,_),(1,true,_),(2,true,_),(3,true,_)] []
  (aO rfl (aA rfl (aA rfl (aA rfl (aA rfl eZ)))))
  mN ?_ ?_
 ·(try dsimp only)<;>(first|omega|rfl|assumption|(simp; done))
 intro k N0 Gl0 hN0 hGl0 hF0
 try dsimp only at hF0 hN0 ⊢
 have hk:=hF0
 refine .g (cP rfl rfl rfl rfl (.g (cD rfl (fun c1=>?_) (fun c1=>?_))))
 ·have c1k:=c1
  subst hk; exact absurd c1 (by decide)
 have c1k:=c1
 try simp only [aD,aE] at c1
 refine .g (aN Tryz.results378 .nil ?_)
 exact ⟨rfl,rfl⟩
theorem aUY (f:Value) (G:PM):Ct Tryz.prog 338 ([.slice none 0 0,.int .i64 0,f]:List Value).toArray G [] (fun _ μ' u=>μ'=[]∧u=.tuple #[]):=by
 refine Ct.of Tryz.func338 rfl Tryz.ntmps338 rfl fun w0 hs0=>?_
 refine .seq (aP rfl rfl (aS rfl rfl (.nc (.seq (dQ rfl rfl (mV rfl rfl (aS rfl rfl (aS rfl rfl (.nc (.seq (.block ?_)))))))))))
 refine aV (α:=Nat) (fun k=>[(7,true,.int .i64 0),(8,true,.int .i64 20)]) (fun _=>[])
  (fun k Gl=>True) (fun k=>0) 0 [(0,true,_),(1,true,_),(2,true,_),(6,true,_)] []
  (aO rfl (aO rfl (aA rfl (aA rfl (aA rfl (aA rfl eZ))))))
  mN ?_ ?_
 ·trivial
 intro k N0 Gl0 hN0 hGl0 hF0
 try dsimp only at hF0 hN0 ⊢
 refine .g (cP rfl rfl rfl rfl (.g (cD rfl (fun c1=>?_) (fun c1=>?_))))
 ·have c1k:=c1
  exact absurd c1 (by decide)
 have c1k:=c1
 try simp only [aD,aE] at c1
 refine .g (kV rfl aYa (aB rfl (aB rfl (aB rfl (aB rfl aF)))) (aQC _ _) ?_)
 refine .nil (.code (.block ?_))
 refine aV (α:=Nat) (fun k=>[(6,true,.int .i64 20)]) (fun _=>[])
  (fun k Gl=>True) (fun k=>0) 0 [(0,true,_),(1,true,_),(2,true,_)] []
  (aO rfl (aA rfl (aA rfl (aA rfl eZ))))
  mN ?_ ?_
 ·trivial
 intro k N1 Gl1 hN1 hGl1 hF1
 try dsimp only at hF1 hN1 ⊢
 refine .g (cP rfl rfl rfl rfl (.g (cD rfl (fun c2=>?_) (fun c2=>?_))))
 ·have c2k:=c2
  exact absurd c2 (by decide)
 have c2k:=c2
 try simp only [aD,aE] at c2
 refine .g (aN Tryz.results338 .nil ?_)
 exact ⟨rfl,rfl⟩
theorem aUQ (f:Value) (G:PM):Ct Tryz.prog 288 ([.slice none 0 0,f]:List Value).toArray G [] (fun _ μ' u=>μ'=[]∧u=.tuple #[]):=by
 refine Ct.of Tryz.func288 rfl Tryz.ntmps288 rfl fun w0 hs0=>?_
 refine .g (lE rfl mF rfl (.p (kV rfl aYT (aB rfl (aB rfl (aB rfl aF))) (aUY _ _) ?_)))
 refine .g (aN Tryz.results288 .nil ?_)
 exact ⟨rfl,rfl⟩
set_option maxHeartbeats 1000000 in
theorem aNq (a b:Int) (G:PM) (ha:u64 a) (hb:u64 b) (hab:a≤b):Ct Tryz.prog 204 ([State.zero.val fO,(iJ a b).val ⟨none,0⟩ ⟨none,0⟩]:List Value).toArray G [] (fun _ μ' u=>μ'=[]∧u=.tuple #[(fU a b).val fO,.int .i64 0]):=by
 refine Ct.of Tryz.func204 rfl Tryz.ntmps204 rfl fun w0 hs0=>?_
 refine .seq (dI rfl rfl ?_)
 refine bX rfl rfl rfl ?_; intro b2
 refine bX rfl rfl rfl ?_; intro b3
 refine al rfl aBP ?_; intro b4
 refine .g (lB rfl nV rfl aM ?_)
 refine kV rfl aMb (aB rfl aF) (aK4 State.zero fO _ aUX) ?_
 refine nt rfl .no (.u rfl) (.g (cD rfl (fun c1=>?_) (fun c1=>?_)))
 ·have c1k:=c1
  rw [aTd] at c1; cases c1
 have c1k:=c1
 try simp only [aD,aL,aE] at c1
 refine .g (fZ rfl pX rfl (lO rfl lZ rfl aC rfl ?_))
 refine lE rfl mF rfl (cP rfl rfl rfl rfl (.p (fz rfl (.f rfl rfl) zE (.u rfl) (ld rfl (.f rfl rfl) yU (.s rfl) (fun hc=>Rd.own aC rfl) ?_))))
 refine ln rfl (.f rfl rfl) zL (.s rfl) (cp rfl (.f rfl rfl) (.s rfl) (.u rfl) rfl (cF rfl .no (.u rfl) (.s rfl) (.p (lA rfl (.f rfl rfl) nV (.u rfl) (fun _=>RdN.own aM) (fun _=>(by first|exact qE|exact qL|rfl)) ?_))))
 refine lA rfl (.f rfl rfl) aA1 (.u rfl) (fun _=>RdN.own aC) (fun _=>(by first|exact qE|exact qL|rfl)) ?_
 refine kv rfl (.f rfl rfl) aYF (Eva.cons (.s rfl) (Eva.cons (.s rfl) aF)) (fun hc=>aN3 State.zero fO _ (iJ a b) ⟨none,0⟩ ⟨none,0⟩) ?_
 refine cF rfl .no (.u rfl) (.s rfl) (.g (cD rfl (fun c2=>?_) (fun c2=>?_)))
 ·have c2k:=c2
  rw [aN1 ha.1 hb.1] at c2; cases c2
 have c2k:=c2
 try simp only [aD,aL,aE] at c2
 refine .g (fZ rfl aGE rfl (lO rfl bI rfl aC (by first|exact aK rfl|rfl) ?_))
 refine fZ rfl aDE rfl (lO rfl bI rfl aC (by first|exact aK rfl|rfl) ?_)
 refine fZ rfl aGF rfl (lO rfl bI rfl aC (by first|exact aK rfl|rfl) ?_)
 refine fZ rfl aGG rfl (lO rfl bI rfl aC (by first|exact aK rfl|rfl) ?_)
 refine fZ rfl aGH rfl (lA rfl .no aC1 (.u rfl) (fun _=>RdN.part (n:=5) (cs':=(List.range 5).map (fun _=>.int .u64 0)) aC (rfl)) (fun _=>rfl) (fZ rfl tM rfl (lA rfl .no aA0 (.u rfl) (fun _=>RdN.part (n:=5) (cs':=(List.range 5).map (fun _=>.slice none 0 0)) aM (rfl)) (fun _=>rfl) ?_)))
 refine dK ((fU a b).cells fO) rfl .no aWR (.cons (.u rfl) rfl (.cons (.u rfl) rfl (.cons (.u rfl) rfl (.cons (.u rfl) rfl (.cons (.u rfl) rfl (.cons (.u rfl) rfl .nil)))))) rfl (rfl) ?_
 refine al rfl aBP ?_; intro b6
 refine sw rfl (.u rfl) (.u rfl) rfl zO .here (by first|exact qE|exact qL|rfl) (wW) ?_
 refine .nil (.code (.seq (.seq (aP rfl rfl (mV rfl rfl (.nc (.block ?_)))))))
 refine aV (α:=Nat) (fun k=>[(49,true,.int .i64 (k:Int))]) (fun k=>[.blk b6 (cl ((fU a b).cells fO) 159)])
  (fun k Gl=>(k≤5)) (fun k=>5-k) 0 [(3,true,_),(4,true,_),(6,true,_)] [_,_,_]
  (aO rfl (aA rfl (aA rfl (aA rfl eZ))))
  (mS .here rfl (mS .here rfl (mS .here rfl (mS .here rfl mN)))) ?_ ?_
 ·(try dsimp only)<;>(first|omega|rfl|assumption|(simp; done))
 intro k N0 Gl0 hN0 hGl0 hF0
 try dsimp only at hF0 hN0 ⊢
 have hk:=hF0
 refine .g (cP rfl rfl rfl rfl (.g (cD rfl (fun c3=>?_) (fun c3=>?_))))
 ·have c3k:=c3
  try simp only [aD,aL,aE] at c3
  refine .g (fZ rfl tM rfl (iW rfl wC rfl rfl ?_))
  refine ld (v:=.slice none 0 0) rfl .no lZ (.u rfl) (fun _=>Rd.own .here (aUT (by omega))) ?_
  refine kV rfl aYG (aB rfl aF) (aOF _) ?_
  refine fZ rfl tM rfl (iW rfl wC rfl rfl ?_)
  refine s1 rfl (.u rfl) (.u rfl) rfl aGs .here (by show _<14; omega) (aUU (by omega)) ?_
  refine .g (aW (((k+1):Nat):Int) rfl rfl rfl rfl ?_)
  refine .g (aT (k+1) ?_ ?_ ?_ ?_ ?_)
  ·exact (aO rfl (aA rfl (aA rfl (aA rfl eZ))))
  ·exact (mS .here rfl (mS .here rfl (mS .here rfl (mS .here rfl mN))))
  ·first|omega|(dsimp only; omega)
  ·exact hGl0
  (try dsimp only)<;>(first|omega|rfl|assumption|(simp; done))
 have c3k:=c3
 try simp only [aD,aL,aE] at c3
 refine .g (fZ rfl zE rfl (lO rfl yU rfl aM (by first|exact aK rfl|rfl) ?_))
 refine lE rfl zL rfl (mV rfl rfl (.nc (.block ?_)))
 refine aV (α:=Nat) (fun j=>[(64,true,.int .i64 (j:Int))]) (fun _=>[])
  (fun j Gl=>(j=0)) (fun j=>0) 0 [(3,true,_),(4,true,_),(6,true,_),(62,true,_),(63,true,_)] [_,_,_,_]
  (aO rfl (aA rfl (aA rfl (aA rfl (aA rfl (aA rfl eZ))))))
  (mS .here rfl (mS .here rfl (mS .here rfl (mS .here rfl mN)))) ?_ ?_
 ·(try dsimp only)<;>(first|omega|rfl|assumption|(simp; done))
 intro j N1 Gl1 hN1 hGl1 hF1
 try dsimp only at hF1 hN1 ⊢
 have hj:=hF1
 refine .g (cP rfl rfl rfl rfl (.g (cD rfl (fun c4=>?_) (fun c4=>?_))))
 ·have c4k:=c4
  subst hj; cases c4
 have c4k:=c4
 try simp only [aD,aL,aE] at c4
 refine .g (fZ rfl pX rfl (lO rfl lZ rfl aM (by first|exact aK rfl|rfl) ?_))
 refine lE rfl mF rfl (mV rfl rfl (.nc (.block ?_)))
 refine aV (α:=Nat) (fun j=>[(97,true,.int .i64 (j:Int))]) (fun _=>[])
  (fun j Gl=>(j=0)) (fun j=>0) 0 [(4,true,_),(6,true,_),(95,true,_),(96,true,_)] [_,_,_,_]
  (aO rfl (aA rfl (aA rfl (aA rfl (aA rfl eZ)))))
  (mS .here rfl (mS .here rfl (mS .here rfl (mS .here rfl mN)))) ?_ ?_
 ·(try dsimp only)<;>(first|omega|rfl|assumption|(simp; done))
 intro j N2 Gl2 hN2 hGl2 hF2
 try dsimp only at hF2 hN2 ⊢
 have hj:=hF2
 refine .g (cP rfl rfl rfl rfl (.g (cD rfl (fun c5=>?_) (fun c5=>?_))))
 ·have c5k:=c5
  subst hj; cases c5
 have c5k:=c5
 try simp only [aD,aL,aE] at c5
 refine .g (fZ rfl tM rfl (lA rfl .no aA0 (.u rfl) (fun _=>RdN.part (n:=5) (cs':=(List.range 5).map (fun _=>.slice none 0 0)) .here (rfl)) (fun _=>rfl) ?_))
 refine mV rfl rfl (.nc (.block ?_))
 refine aV (α:=Nat) (fun k=>[(120,true,.int .i64 (k:Int))]) (fun _=>[])
  (fun k Gl=>(k≤5)) (fun k=>5-k) 0 [(4,true,_),(6,true,_),(119,true,_)] [_,_,_,_]
  (aO rfl (aA rfl (aA rfl (aA rfl eZ))))
  (mS .here rfl (mS .here rfl (mS .here rfl (mS .here rfl mN)))) ?_ ?_
 ·(try dsimp only)<;>(first|omega|rfl|assumption|(simp; done))
 intro k N3 Gl3 hN3 hGl3 hF3
 try dsimp only at hF3 hN3 ⊢
 have hk:=hF3
 refine .g (cP rfl rfl rfl rfl (.g (cD rfl (fun c6=>?_) (fun c6=>?_))))
 ·have c6k:=c6
  try simp only [aD,aL,aE] at c6
  refine .g (ix rfl .no wC lZ (.u rfl) (.u rfl) (by omega) (by omega) (fun _=>aJQ (by omega)) ?_)
  refine al rfl aDV ?_; intro b14
  refine s1 rfl (.u rfl) (.u rfl) rfl fL .here (by decide) (rfl) ?_
  refine .g (mf (vf:=#[]) (vc:=[Value.pointer (some ⟨b14,0,none⟩)].toArray) rfl .no (fun a ha _=>by simp) (fun a ha _=>by simp [(Ev.u (c:=true) rfl:Ev _ true (.tmp 14) _).eval ha rfl]) ?_)
  refine kV rfl aYH (aB rfl (aB rfl aF)) (aUQ _ _) ?_
  refine .g (aW (((k+1):Nat):Int) rfl rfl rfl rfl ?_)
  refine .g (aT (k+1) ?_ ?_ ?_ ?_ ?_)
  ·exact (aO rfl (aA rfl (aA rfl (aA rfl eZ))))
  ·exact (mS aC rfl (mS aC rfl (mS aC rfl (mS aC rfl mN))))
  ·first|omega|(dsimp only; omega)
  ·exact hGl3
  (try dsimp only)<;>(first|omega|rfl|assumption|(simp; done))
 have c6k:=c6
 try simp only [aD,aL,aE] at c6
 refine .g (lB rfl nV rfl .here ?_)
 refine kV rfl aMb (aB rfl aF) (aK4 (fU a b) fO _ aFW) ?_
 refine nt rfl .no (.u rfl) (.g (cD rfl (fun c7=>?_) (fun c7=>?_)))
 ·have c7k:=c7
  rw [aTc ha.1 hab] at c7; cases c7
 have c7k:=c7
 try simp only [aD,aL,aE] at c7
 refine .g (lB rfl nV rfl .here ?_)
 refine sw rfl (.u rfl) (.u rfl) rfl zO aC (by first|exact qE|exact qL|rfl) (wW) ?_
 refine aS rfl rfl (.nc (.ret (aN Tryz.results204 (.cell rfl (fun w hw=>bE nV (RdN.own .here) ((by first|exact qE|exact qL|rfl)) hw) (.tmp rfl .nil)) ?_)))
 exact ⟨rfl,rfl⟩
set_option maxHeartbeats 2000000 in
theorem aQ7 (root:Nat→Y) (h:Hd) (n mark:BitVec 64) (a b:Int) (G:PM) (ha:u64 a) (hb:u64 b) (hab:a≤b) (hK:RdNP G 6 0 (wa 64 kW)):Ct Tryz.prog 133 ([.agg (ba 32 root).toArray,.agg ([V h.kind,V h.level,uv .u64 h.gen,uv .u64 h.epoch,uv .u64 h.num]:List Value).toArray,uv .u64 n,uv .u64 mark,State.zero.val fO,(iJ a b).val ⟨none,0⟩ ⟨none,0⟩]:List Value).toArray G [] (fun _ μ' u=>∃ v L,L.length≤600∧μ'=[rB v 5 L]∧u=.tuple #[v,(fU a b).val fO,.int .i64 0]):=by
 refine Ct.of Tryz.func133 rfl Tryz.ntmps133 rfl fun w0 hs0=>?_
 have hE:EdR G (iJ a b) ⟨none,0⟩ ⟨none,0⟩:=⟨SlR.nul,SlR.nul,aD9 ha hb⟩
 have hen:=aH2 (aD9 ha hb) (by show 0≤_; decide) (by show 0≤_; decide)
 have he0:(List.flatMap fX (iJ a b).add).length=0:=rfl
 have hd0_:(iJ a b).drop.length=0:=rfl
 refine .seq (uV rfl rfl ?_)
 refine bX rfl rfl rfl ?_; intro b6
 refine bX rfl rfl rfl ?_; intro b7
 refine bX rfl rfl rfl ?_; intro b10
 refine bX rfl rfl rfl ?_; intro b11
 refine aS rfl rfl ?_
 refine al rfl aBP ?_; intro b13
 refine aS rfl rfl (.nc (.seq ?_))
 refine fE eN (by intro b hb; cases hb) ?_; intro Gfb6 hleb6 hbb6
 have hK:=hK.mono hleb6
 refine fE bG (by intro b hb; cases hb) ?_; intro Gfb7 hleb7 hbb7
 have hK:=hK.mono hleb7
 have hbb6:=hbb6.mono hleb7
 refine fE aC (by intro b hb; cases hb) ?_; intro Gfb11 hleb11 hbb11
 have hK:=hK.mono hleb11
 have hbb6:=hbb6.mono hleb11
 have hbb7:=hbb7.mono hleb11
 refine .g (lB rfl nV rfl aC ?_)
 refine lA rfl .no aA1 (.u rfl) (fun _=>(hbb11.rdn (m:=11) (cs':=(iJ a b).cells ⟨none,0⟩ ⟨none,0⟩) (rfl)).rd) (fun _=>(by first|exact qE|exact qL|rfl)) ?_
 refine kV rfl aXr (aB rfl (aB rfl aF)) (aNq a b _ ha hb hab) ?_
 refine .p (eX rfl rfl rfl (eX rfl rfl rfl ?_))
 refine al rfl aBP ?_; intro b15
 refine sw rfl (.u rfl) (.u rfl) rfl zO .here (by first|exact qE|exact qL|rfl) (wW) ?_
 refine .g (cP rfl rfl rfl rfl (.g (cD rfl (fun c1=>?_) (fun c1=>?_))))
 ·have c1k:=c1
  exact absurd c1 (by decide)
 have c1k:=c1
 try simp only [aD,aL,aE] at c1
 refine .g (lB rfl nV rfl .here ?_)
 refine kV rfl aXs (aB rfl aF) (aQ8 (fU a b) fO _ aFW (aUS ha hb) aUR hK) ?_
 refine al rfl jN ?_; intro b17
 refine sw rfl (.u rfl) (.u rfl) rfl iO .here rfl (kF _ _) ?_
 refine .nil (.code (.seq (eT ⟨true,false⟩ aY (by kernel_rfl) ?_)))
 refine Wp.one 2 (by kernel_rfl) ?_
 refine mV rfl rfl (.nil (Wp.one 3 (by kernel_rfl) ?_))
 refine mV rfl rfl (.nil (Wp.one 5 (by kernel_rfl) ?_))
 refine rC rfl .no nX (.u rfl) (.nil (mH 0 (by kernel_rfl) ?_))
 refine lA rfl .no fF (.u rfl) (fun _=>(hbb6.rdn (m:=32) (cs':=_) (by first|exact qJ|exact pE|exact qH)).rd) (fun _=>(bR _ _)) ?_
 refine .nil ⟨⟨rfl,rfl⟩,?_⟩
 refine mH 1 (by kernel_rfl) ?_
 refine lA rfl .no rL (.u rfl) (fun _=>(hbb7.rdn (m:=5) (cs':=[V h.kind,V h.level,uv .u64 h.gen,uv .u64 h.epoch,uv .u64 h.num]) (rfl)).rd) (fun _=>rfl) ?_
 refine .nil ⟨⟨rfl,rfl⟩,?_⟩
 refine mH 7 (by kernel_rfl) ?_
 refine lA rfl .no aA1 (.u rfl) (fun _=>(hbb11.rdn (m:=11) (cs':=(iJ a b).cells ⟨none,0⟩ ⟨none,0⟩) (rfl)).rd) (fun _=>(by first|exact qE|exact qL|rfl)) ?_
 refine .nil ⟨⟨rfl,rfl⟩,?_⟩
 refine Wp.b1 4 (by kernel_rfl) ?_
 refine kc rfl wM (aB rfl (aB rfl (aB rfl aF))) (mX (tJ [] ⟨none,0⟩ mark 8 _ SlR.nul (by simp) (by decide))) ?_
 rintro v36 G36 μ36 hG36 ⟨L36,ov36,eL36,rfl⟩
 have hK:=hK.mono hG36
 refine .nil (Wp.b1 6 (by kernel_rfl) ?_)
 have lL36:L36.length=8:=by rw [eL36,List.nil_append,oG]
 refine eY rfl aX cG (.u rfl) (.u rfl) .here (Sc.arr aC) (by (try simp only [cC,cY]); omega) ?_
 intro v38 L38 ov38 eL38
 have lL38:L38.length=L36.length+32:=by rw [eL38,List.length_append]; first|rfl | simp [cY]
 refine .nil (Wp.b1 8 (by kernel_rfl) ?_)
 refine kc rfl aMZ (aB rfl aF) (aH8 (iJ a b) ⟨none,0⟩ ⟨none,0⟩ _ ⟨SlR.nul,SlR.nul,aD9 ha hb⟩ (by show 0≤_; decide) (by show 0≤_; decide) (by omega)) ?_
 rintro _ G40 μ40 hG40 ⟨h40,L40,eL40,rfl,rfl,hs40⟩
 have hK:=hK.mono hG40
 refine .nil (Wp.b1 9 (by kernel_rfl) ?_)
 have lL40:L40.length=(uF (iJ a b)).length:=by rw [eL40]
 refine eY rfl aX cG (.u rfl) (.u rfl) .here hs40.sc (by (try simp only [cC,cY]); omega) ?_
 intro v41 L41 ov41 eL41
 have lL41:L41.length=L38.length+L40.length:=by rw [eL41,List.length_append]
 refine .nil (Wp.b1 10 (by kernel_rfl) ?_)
 refine ka rfl (.inl rfl) aMY (aB rfl (aB rfl (aB rfl (aB rfl aF)))) (bK .here) (aVV root h n L41 _ _ hK) ?_
 rintro _ G42 μ42 hG42 ⟨_,rfl,v42,L42,e42,hL42,rfl,rfl⟩
 obtain ⟨rfl,hL9⟩:=aIu (by omega) hL42
 refine .nil (Wp.one 11 (by kernel_rfl) ?_)
 refine mV rfl rfl (.nil (Wp.one 12 (by kernel_rfl) ?_))
 refine eX rfl rfl rfl (.nil (Wp.one 13 (by kernel_rfl) ?_))
 refine eX rfl rfl rfl (.nil (Wp.one 14 (by kernel_rfl) ?_))
 refine aS rfl rfl (.nil (Wp.one 15 (by kernel_rfl) ?_))
 refine aS rfl rfl (.nil (Wp.last (by kernel_rfl) ?_))
 refine .g (cP rfl rfl rfl rfl (.g (cD rfl (fun c2=>?_) (fun c2=>?_))))
 ·have c2k:=c2
  exact absurd c2 (by decide)
 have c2k:=c2
 try simp only [aD,aL,aE] at c2
 refine .g (bZ (mc:=⟨false,false⟩) [0,1,2,3,4] aY (by kernel_rfl) ?_)
 refine .p (lB rfl nV rfl bG ?_)
 refine .p (sw rfl (.u rfl) (.u rfl) rfl zO eN (by first|exact qE|exact qL|rfl) (wW) ?_)
 refine aS rfl rfl (.nc (.ret (We.fin Tryz.results133 (.tmp rfl (.cell rfl (fun w hw=>bE nV (RdN.own .here) ((by first|exact qE|exact qL|rfl)) hw) (.tmp rfl .nil))) (mS aM rfl mN) ?_)))
 exact ⟨v42,L42,hL9,rfl,rfl⟩
theorem aT7 (bx:Nat) (d:Db) (bm room done clk:Nat) (F:List Fi) (G:PM) (hbx:PB G bx (cl d.cells 165)) (hbd:PB G d.dk (cl (cS bm room done) 118)) (hbm:PB G bm (mO (F.map Fi.fe) clk)) (hD:DkR F clk) (o:BitVec 64) (hbt:PB G d.tr (cl [uv .u64 0#64,uv .u64 o] 87)) (hab:cV (bP 4 0) F=none):Ct Tryz.prog 127 ([pt bx]:List Value).toArray G [] (fun _ μ' u=>∃ bl v,v.oneCell'=true∧μ'=[.blk bl (cl [v,.int .i64 ((0:Nat):Int)] 225),rS 16 Nd.cells v 249 [Nd.z]]∧u=.agg #[.slice none 0 0,.pointer (some ⟨bl,0,none⟩),.int .u64 0]):=by
 refine Ct.of Tryz.func127 rfl Tryz.ntmps127 rfl fun w0 hs0=>?_
 refine .seq (aP rfl rfl ?_)
 refine al rfl aGw ?_; intro b2
 refine .g (kc rfl aGj aF (aEi _) ?_)
 rintro _ G20 μ20 hG20 ⟨bl,vl,ol,rfl,rfl⟩
 have hbx:=hbx.mono hG20
 have hbd:=hbd.mono hG20
 have hbm:=hbm.mono hG20
 have hbt:=hbt.mono hG20
 refine dK ([.slice none 0 0,.pointer (some ⟨bl,0,none⟩),.int .u64 0]) rfl .no aWX (.cons (.u rfl) rfl .nil) rfl (rfl) ?_
 refine al rfl aGw ?_; intro b3
 refine sw rfl (.u rfl) (.u rfl) rfl aGt .here rfl (by simp [Value.oneCell']) ?_
 refine .g (kV rfl aDI (aB rfl (aB rfl aF)) (aCN 4#8 0#64 _ (by decide)) ?_)
 refine .g (nC rfl rfl (fA rfl yZ rfl (lN rfl tK rfl ((hbx.rd (rfl)).rd) ?_)))
 refine .p (kV rfl aXd (aB rfl (aB rfl aF)) (aOi d.dk bm room done clk F _ hbd hbm (bP 4 0) aJV hab) ?_)
 refine .p (eX rfl rfl rfl (eX rfl rfl rfl (.g (cP rfl rfl rfl rfl (.g (cD rfl (fun c1=>?_) (fun c1=>?_)))))))
 ·have c1k:=c1
  try simp only [aD,aE] at c1
  refine .g (nC rfl rfl (fA rfl aA3 rfl (lN rfl yW rfl ((hbx.rd (rfl)).rd) ?_)))
  refine kV rfl aDK (aB rfl aF) (aCK d.tr 0#64 o _ hbt) ?_
  refine cP rfl rfl rfl rfl (.g (cD rfl (fun c2=>?_) (fun c2=>?_)))
  ·have c2k:=c2
   cases c2
  have c2k:=c2
  try simp only [aD,aE] at c2
  refine .g (lB rfl aLl rfl .here ?_)
  refine sw rfl (.u rfl) (.u rfl) rfl aGt bG rfl (by simp [Value.oneCell']) ?_
  refine .nil (.code (.ret (We.fin Tryz.results127 (.cell rfl (fun w hw=>bE aLl (RdN.own .here) ((by first|exact qE|exact qL|rfl)) hw) .nil) (mS aM rfl (mS aM rfl mN)) ?_)))
  exact ⟨bl,vl,ol,rfl,rfl⟩
 have c1k:=c1
 cases c1
end Go.Proofs.YtoifkgkandfeiaaGreatDoor
namespace Go.Proofs.YtoifkgkandfeiaaGreatDoor
open Go.Tan Go.RowKit Go.Maps Go.Sort Go.Shelf
theorem aGz:sbT Tryz.prog 9 25=true:=by kernel_rfl
theorem aXf:aJ Tryz.prog 162=true:=by kernel_rfl
theorem aXe:aJ Tryz.prog 161=true:=by kernel_rfl
theorem aXU:aJ Tryz.prog 127=true:=by kernel_rfl
theorem aW8:aQ Tryz.prog 231 0=some 0:=by kernel_rfl
theorem tL:bY Tryz.prog 97=some none:=by kernel_rfl
theorem aMQ:aJ Tryz.prog 128=true:=by kernel_rfl
theorem aMD:aQ Tryz.prog 165 4=some 41:=by kernel_rfl
theorem aDJ:aJ Tryz.prog 129=true:=by kernel_rfl
theorem aC6:cX Tryz.prog 161 [0,3,4]=some ([V 0#8,V 0#8,uv .u64 0#64,uv .u64 0#64,uv .u64 0#64],[(0,1),(3,1),(4,1)]):=by kernel_rfl
theorem aC7:cX Tryz.prog 163 [0]=some ([.int .u8 0,.int .u8 0,.int .u64 0,.int .u64 0,.int .u64 0,.int .u64 0,.bool false],[(0,5)]):=by kernel_rfl
theorem tN:aQ Tryz.prog 165 12=some 74:=by kernel_rfl
theorem aDT:cI Tryz.prog 163=some 7:=by kernel_rfl
theorem nA:aQ Tryz.prog 165 10=some 60:=by kernel_rfl
theorem tO:aQ Tryz.prog 165 7=some 57:=by kernel_rfl
theorem aDC:aQ Tryz.prog 165 5=some 42:=by kernel_rfl
theorem aWU:cX Tryz.prog 202 [0,2,3,4]=some (sT (fun _=>0)++[.slice none 0 0,.slice none 0 0],[(0,1),(2,1),(3,1),(4,5)]):=by kernel_rfl
theorem aW9:aQ Tryz.prog 231 1=some 1:=by kernel_rfl
theorem vZ:bY Tryz.prog 153=some none:=by kernel_rfl
theorem aXQ:aJ Tryz.prog 104=true:=by kernel_rfl
theorem aXX:aJ Tryz.prog 132=true:=by kernel_rfl
theorem aXW:aJ Tryz.prog 131=true:=by kernel_rfl
theorem aXV:aJ Tryz.prog 130=true:=by kernel_rfl
theorem aMC:aQ Tryz.prog 165 2=some 2:=by kernel_rfl
theorem aWQ:cX Tryz.prog 159 []=some ((State.zero.cells fO),[]):=by kernel_rfl
theorem aXY:aJ Tryz.prog 133=true:=by kernel_rfl
theorem wJ:aJ Tryz.prog 137=true:=by kernel_rfl
theorem aGT:aJ Tryz.prog 136=true:=by kernel_rfl
theorem aXZ:aJ Tryz.prog 139=true:=by kernel_rfl
theorem aMR:aJ Tryz.prog 140=true:=by kernel_rfl
theorem aA2:aQ Tryz.prog 163 1=some 5:=by kernel_rfl
theorem aQX (bl:Nat) (h:Sh) (xs:List Nd) (sz:Value) (w:Nat→Nat) (G:PM) (hbl:PB G bl (cl [h.val xs.length,sz] 225)) (hs:SlR G 16 Nd.cells h xs) (hW:WayN xs ⟨#[]⟩ 18446744073709551615#64 w) (hn:cU xs (w 0) 0=0) (hl:xs.length≤1000000):Ct Tryz.prog 104 ([.pointer (some ⟨bl,0,none⟩)]:List Value).toArray G [] (fun _ μ' u=>μ'=[]∧u=.slice none 0 0):=by
 refine Ct.of Tryz.func104 rfl Tryz.ntmps104 rfl fun w0 hs0=>?_
 refine .g (kV rfl aXf (aB rfl aF) (aQa bl h xs sz _ hbl hl) ?_)
 refine kV rfl aXe (aB rfl (aB rfl (aB rfl (aB rfl aF)))) (aQY bl h xs sz _ hbl hs w ⟨#[]⟩ 18446744073709551615#64 hW _ hn) ?_
 refine aS rfl rfl (.nc (.ret (aN Tryz.results104 (.tmp rfl .nil) ?_)))
 exact ⟨rfl,rfl⟩
theorem aOj (bd bm room done clk:Nat) (F:List Fi) (G:PM) (hD:DkR F clk) (hd9:done≤1000000000) (hr9:room≤1000000000) (nm to:ByteArray) (f:Fi) (hn:jG nm) (hn2:jG to) (hf:cV nm F=some f) (hab:cV to (gI nm F)=none) (hc:F.length<100):Ct Tryz.prog 139 ([.pointer (some ⟨bd,0,none⟩),.string nm,.string to]:List Value).toArray G [.blk bd (cl (cS bm room (done)) 118),.blk bm (mO ((F).map Fi.fe) (clk))] (fun _ μ' u=>∃ F':List Fi,DkR F' (clk+1)∧F'.map Fi.nm=qZ nm (F.map Fi.nm)++[to]∧cR F'=cR F∧μ'=[.blk bd (cl (cS bm room (done+1)) 118),.blk bm (mO ((F').map Fi.fe) (clk+1))]∧u=.int .i64 0) :=
 (aOk bd bm room done clk F G hD hd9 hr9 nm to f hn hn2 hf hab).mono fun G' μ' u ⟨h1,h2⟩=>by
  obtain ⟨a,b,c⟩:=aTf hD hf hab hn2.2 hc
  exact ⟨_,a,b,c,h1,h2⟩
theorem aHq (bx bm room done clk:Nat) (d:Db) (F:List Fi) (G:PM) (hD:DkR F clk) (hd9:done≤100000000) (hr9:room≤1000000000) (nm:ByteArray) (v:Value) (xs:List Y) (hn:jG nm) (hab:cV nm F=none) (hx:xs.length≤1000000) (hfit:xs.length+cR F≤room) (hcf:F.length<100) :
  Ct Tryz.prog 136 ([pt bx,.string nm,v]:List Value).toArray G (.blk bx (cl (Db.cells d) 165) :: rB v 5 xs :: [.blk d.dk (cl (cS bm room (done)) 118),.blk bm (mO ((F).map Fi.fe) (clk))]) (fun _ μ' u=>∃ ν,μ'=.blk bx (cl (Db.cells d) 165) :: ν∧∃ F':List Fi,DkR F' (clk+1)∧F'.map Fi.nm=F.map Fi.nm++[nm]∧cR F'=cR F+xs.length∧ν=[.blk d.dk (cl (cS bm room (done+1+1)) 118),.blk bm (mO ((F').map Fi.fe) (clk+1))]∧u=.tuple #[]) :=
 qP fun G1 hle1 h1=>aCy fun s G2 hle hv hs=>by
  subst hv
  exact aHr bx bm room done clk d F G2 ⟨hle _ _ h1.h⟩ hD hd9 hr9 nm s xs hs hn hab hx hfit hcf
set_option maxHeartbeats 4000000 in
theorem aOn (bx bm room dk tr held now:Nat) (root:Nat→Y) (o:Opts) (ep o1:BitVec 64) (G:PM) (hr:5000≤room) (hr9:room≤1000000000) (hK:RdNP G 6 0 (wa 64 kW)):Ct Tryz.prog 90 ([pt bx]:List Value).toArray G [.blk bx (cl (Db.cells (nU dk tr root o ep held now)) 165),.blk dk (cl (cS bm room 0) 118),.blk bm (mO [] 0),.blk tr (cl [uv .u64 0#64,uv .u64 o1] 87)] (fun _ μ' u=>∃ F:List Fi,DkR F 3∧F.map Fi.nm=[bP 3 0,bP 4 0]∧cR F≤2000∧μ'=[.blk bx (cl (Db.cells (eH dk tr root o ep held now)) 165),.blk dk (cl (cS bm room 5) 118),.blk bm (mO (F.map Fi.fe) 3),.blk tr (cl [uv .u64 1#64,uv .u64 o1] 87)]∧u=.tuple #[]):=by
 refine Ct.of Tryz.func90 rfl Tryz.ntmps90 rfl fun w0 hs0=>?_
 refine .g (ka rfl (.inr rfl) aXU (aB rfl aF) (uO bG .here .here .here) (qP fun G1 hle1 h1=>aEn fun G2 hle h2 h3 h4=>aT7 bx (nU dk tr root o ep held now) bm room 0 0 [] G2 h2 h3 h4 aAz o1 ⟨hle _ _ h1.h⟩ rfl) ?_)
 rintro _ G15 μ15 hG15 ⟨ν1,rfl,ν2,rfl,bl,vl,ol,rfl,rfl⟩
 have hK:=hK.mono hG15
 refine al rfl aGw ?_; intro b2
 refine sw rfl (.u rfl) (.u rfl) rfl aGt .here rfl (by simp [Value.oneCell']) ?_
 refine .nil (.code (.seq ?_))
 refine aAu vA (fun _ _=>rfl) (cM aM rfl (cM aM rfl (cM aM rfl (cM aC rfl (jH))))) ?_; intro GfRL hRL hleRL evRL hsRL; subst evRL
 have hK:=hK.mono hleRL
 refine fE tk5 (cM aM rfl (cM aM rfl (cM aM rfl (cM aC rfl (jH))))) ?_; intro Gfbl hlebl hbbl
 have hK:=hK.mono hlebl
 have hsRL:=hsRL.mono hlebl
 refine .g (fZ rfl aW8 rfl (lO rfl tL rfl .here rfl ?_))
 refine ka rfl (.inr rfl) aMQ (aB rfl (aB rfl aF)) (jI aM aM aM) (aEn fun G2 hle h1 h2 h3=>aKi bx (nU dk tr root o ep held now) bm room 0 0 [] G2 h1 h2 h3 aAz ⟨none,0⟩ [] SlR.nul (by decide) (fun f hf=>absurd hf List.not_mem_nil)) ?_
 rintro _ G19 μ19 hG19 ⟨ν3,rfl,rfl,rfl⟩
 have hK:=hK.mono hG19
 have hsRL:=hsRL.mono hG19
 have hbbl:=hbbl.mono hG19
 refine .nil (.code (.seq ?_))
 refine Wk.jn (α:=Unit) (fun _u=>[]) (fun _u=>[.blk bx (cl (Db.cells (Db.d1 dk tr root o ep held now)) 165)]) (fun _u Gl=>True) [(0,true,_),(2,true,_)] [_,_,_,_]
  (aA rfl (aA rfl eZ)) (mS aC rfl (mS aC rfl (mS aC rfl (mS aC rfl mN)))) ?_ ?_
 ·refine eT ⟨true,false⟩ aY (by kernel_rfl) ?_
  refine Wp.one 0 (by kernel_rfl) ?_
  refine mV rfl rfl (.nil (Wp.one 1 (by kernel_rfl) ?_))
  refine mV rfl rfl (.nil (Wp.one 2 (by kernel_rfl) ?_))
  refine nC rfl rfl (.nil (Wp.one 3 (by kernel_rfl) ?_))
  refine fZ rfl aMD rfl (.nil (Wp.one 5 (by kernel_rfl) ?_))
  refine mV rfl rfl (.nil (Wp.b2 4 6 (by kernel_rfl) ?_ ?_))
  ·refine lO rfl bI rfl .here rfl ?_
   refine .nil (Wp.b1 6 (by kernel_rfl) ?_)
   refine ka rfl (.inl rfl) aDJ (aB rfl aF) (bK .here) (aBp bx (nU dk tr root o ep held now) _ (by show (0#64:BitVec 64).toNat<1000; decide)) ?_
   rintro _ G26 μ26 hG26 ⟨rfl,rfl⟩
   have hK:=hK.mono hG26
   have hsRL:=hsRL.mono hG26
   have hbbl:=hbbl.mono hG26
   refine .nil (Wp.one 7 (by kernel_rfl) ?_)
   refine dK ([V 3#8,V 0#8,uv .u64 0#64,uv .u64 ep,uv .u64 0#64]) rfl .no aC6 (.cons (.u rfl) rfl (.cons (.u rfl) rfl (.cons (.u rfl) rfl .nil))) rfl (rfl) ?_
   refine .nil (Wp.one 8 (by kernel_rfl) ?_)
   refine dK ((oH ep 0#64).cells) rfl .no aC7 (.cons (.u rfl) rfl .nil) rfl (rfl) ?_
   refine .nil (Wp.one 9 (by kernel_rfl) ?_)
   refine nC rfl rfl (.nil (Wp.one 10 (by kernel_rfl) ?_))
   refine fZ rfl tN rfl (.nil (Wp.b1 11 (by kernel_rfl) ?_))
   refine stp rfl (.u rfl) (.u rfl) rfl aDT .here (by show 74+7≤85; decide) (Fl.one _) (aFu _ (oH ep 0#64)) ?_
   refine .nil (Wp.last (by kernel_rfl) ?_)
   refine aT () ?_ ?_ ?_ ?_ ?_
   ·exact (aA rfl (aA rfl eZ))
   ·exact (mS .here rfl (mS .here rfl (mS .here rfl (mS .here rfl (mS .here rfl mN)))))
   ·exact jB _
   ·exact hG26
   trivial
  refine ka rfl (.inl rfl) aDJ (aB rfl aF) (bK .here) (aBp bx (nU dk tr root o ep held now) _ (by show (0#64:BitVec 64).toNat<1000; decide)) ?_
  rintro _ G26 μ26 hG26 ⟨rfl,rfl⟩
  have hK:=hK.mono hG26
  have hsRL:=hsRL.mono hG26
  have hbbl:=hbbl.mono hG26
  refine .nil (Wp.one 4 (by kernel_rfl) ?_)
  refine lO rfl bI rfl .here rfl ?_
  refine .nil (Wp.one 7 (by kernel_rfl) ?_)
  refine dK ([V 3#8,V 0#8,uv .u64 0#64,uv .u64 ep,uv .u64 0#64]) rfl .no aC6 (.cons (.u rfl) rfl (.cons (.u rfl) rfl (.cons (.u rfl) rfl .nil))) rfl (rfl) ?_
  refine .nil (Wp.one 8 (by kernel_rfl) ?_)
  refine dK ((oH ep 0#64).cells) rfl .no aC7 (.cons (.u rfl) rfl .nil) rfl (rfl) ?_
  refine .nil (Wp.one 9 (by kernel_rfl) ?_)
  refine nC rfl rfl (.nil (Wp.one 10 (by kernel_rfl) ?_))
  refine fZ rfl tN rfl (.nil (Wp.b1 11 (by kernel_rfl) ?_))
  refine stp rfl (.u rfl) (.u rfl) rfl aDT .here (by show 74+7≤85; decide) (Fl.one _) (aFu _ (oH ep 0#64)) ?_
  refine .nil (Wp.last (by kernel_rfl) ?_)
  refine aT () ?_ ?_ ?_ ?_ ?_
  ·exact (aA rfl (aA rfl eZ))
  ·exact (mS .here rfl (mS .here rfl (mS .here rfl (mS .here rfl (mS .here rfl mN)))))
  ·exact jB _
  ·exact hG26
  trivial
 intro _u Glj2 hGlj2 hFj2
 have hK:=hK.mono hGlj2
 have hsRL:=hsRL.mono hGlj2
 have hbbl:=hbbl.mono hGlj2
 refine .code (.seq ?_)
 refine Wk.jn (α:=Unit) (fun _u=>[]) (fun _u=>[.blk bx (cl (Db.cells (Db.d2 dk tr root o ep held now)) 165)]) (fun _u Gl=>True) [(0,true,_),(2,true,_)] [_,_,_,_]
  (aA rfl (aA rfl eZ)) (mS aC rfl (mS aC rfl (mS aC rfl (mS aC rfl mN)))) ?_ ?_
 ·refine eT ⟨true,false⟩ aY (by kernel_rfl) ?_
  refine Wp.one 0 (by kernel_rfl) ?_
  refine mV rfl rfl (.nil (Wp.one 1 (by kernel_rfl) ?_))
  refine mV rfl rfl (.nil (Wp.one 2 (by kernel_rfl) ?_))
  refine nC rfl rfl (.nil (Wp.one 3 (by kernel_rfl) ?_))
  refine fZ rfl aMD rfl (.nil (Wp.one 5 (by kernel_rfl) ?_))
  refine mV rfl rfl (.nil (Wp.b2 4 6 (by kernel_rfl) ?_ ?_))
  ·refine lO rfl bI rfl .here rfl ?_
   refine .nil (Wp.b1 6 (by kernel_rfl) ?_)
   refine ka rfl (.inl rfl) aDJ (aB rfl aF) (bK .here) (aBp bx (Db.d1 dk tr root o ep held now) _ (by show (1#64:BitVec 64).toNat<1000; decide)) ?_
   rintro _ G37 μ37 hG37 ⟨rfl,rfl⟩
   have hK:=hK.mono hG37
   have hsRL:=hsRL.mono hG37
   have hbbl:=hbbl.mono hG37
   refine .nil (Wp.one 7 (by kernel_rfl) ?_)
   refine dK ([V 1#8,V 0#8,uv .u64 0#64,uv .u64 ep,uv .u64 1#64]) rfl .no aC6 (.cons (.u rfl) rfl (.cons (.u rfl) rfl (.cons (.u rfl) rfl .nil))) rfl (rfl) ?_
   refine .nil (Wp.one 8 (by kernel_rfl) ?_)
   refine dK ((sA ep 0#64).cells) rfl .no aC7 (.cons (.u rfl) rfl .nil) rfl (rfl) ?_
   refine .nil (Wp.one 9 (by kernel_rfl) ?_)
   refine nC rfl rfl (.nil (Wp.one 10 (by kernel_rfl) ?_))
   refine fZ rfl nA rfl (.nil (Wp.b1 11 (by kernel_rfl) ?_))
   refine stp rfl (.u rfl) (.u rfl) rfl aDT .here (by show 60+7≤85; decide) (Fl.one _) (aFs _ (sA ep 0#64)) ?_
   refine .nil (Wp.last (by kernel_rfl) ?_)
   refine aT () ?_ ?_ ?_ ?_ ?_
   ·exact (aA rfl (aA rfl eZ))
   ·exact (mS .here rfl (mS .here rfl (mS .here rfl (mS .here rfl (mS .here rfl mN)))))
   ·exact jB _
   ·exact hG37
   trivial
  refine ka rfl (.inl rfl) aDJ (aB rfl aF) (bK .here) (aBp bx (Db.d1 dk tr root o ep held now) _ (by show (1#64:BitVec 64).toNat<1000; decide)) ?_
  rintro _ G37 μ37 hG37 ⟨rfl,rfl⟩
  have hK:=hK.mono hG37
  have hsRL:=hsRL.mono hG37
  have hbbl:=hbbl.mono hG37
  refine .nil (Wp.one 4 (by kernel_rfl) ?_)
  refine lO rfl bI rfl .here rfl ?_
  refine .nil (Wp.one 7 (by kernel_rfl) ?_)
  refine dK ([V 1#8,V 0#8,uv .u64 0#64,uv .u64 ep,uv .u64 1#64]) rfl .no aC6 (.cons (.u rfl) rfl (.cons (.u rfl) rfl (.cons (.u rfl) rfl .nil))) rfl (rfl) ?_
  refine .nil (Wp.one 8 (by kernel_rfl) ?_)
  refine dK ((sA ep 0#64).cells) rfl .no aC7 (.cons (.u rfl) rfl .nil) rfl (rfl) ?_
  refine .nil (Wp.one 9 (by kernel_rfl) ?_)
  refine nC rfl rfl (.nil (Wp.one 10 (by kernel_rfl) ?_))
  refine fZ rfl nA rfl (.nil (Wp.b1 11 (by kernel_rfl) ?_))
  refine stp rfl (.u rfl) (.u rfl) rfl aDT .here (by show 60+7≤85; decide) (Fl.one _) (aFs _ (sA ep 0#64)) ?_
  refine .nil (Wp.last (by kernel_rfl) ?_)
  refine aT () ?_ ?_ ?_ ?_ ?_
  ·exact (aA rfl (aA rfl eZ))
  ·exact (mS .here rfl (mS .here rfl (mS .here rfl (mS .here rfl (mS .here rfl mN)))))
  ·exact jB _
  ·exact hG37
  trivial
 intro _u Glj3 hGlj3 hFj3
 have hK:=hK.mono hGlj3
 have hsRL:=hsRL.mono hGlj3
 have hbbl:=hbbl.mono hGlj3
 refine .g (bZ (mc:=⟨false,false⟩) [0,1,2,3,4,5,6,7,8,9,10,11,12,13,14,15,16,17,18,19,20,21] aY (by kernel_rfl) ?_)
 refine .p (nC rfl rfl (fZ rfl nA rfl (fA rfl wF rfl (fA rfl aF8 rfl (lO rfl bI rfl .here rfl ?_)))))
 refine .p (nC rfl rfl (fZ rfl tO rfl (lO rfl bI rfl .here rfl ?_)))
 refine .p (nC rfl rfl (fZ rfl tO rfl (lO rfl bI rfl .here rfl ?_)))
 refine .p (nC rfl rfl (fZ rfl aDC rfl (fA rfl aDB rfl (lA rfl .no aC1 (.u rfl) (fun _=>RdN.part (n:=5) (cs':=(List.range 5).map (fun _=>.int .u64 0)) .here (rfl)) (fun _=>rfl) (dK ((iJ 1 0).cells ⟨none,0⟩ ⟨none,0⟩) rfl .no aWU (.cons (.u rfl) rfl (.cons (.u rfl) rfl (.cons (.u rfl) rfl (.cons (.u rfl) rfl .nil)))) rfl (rfl) ?_)))))
 refine al rfl aZE ?_; intro b3
 refine sw rfl (.u rfl) (.u rfl) rfl aY5 .here (by first|exact qE|exact qL|rfl) (aLi) ?_
 refine .g (nC rfl rfl (fZ rfl aDC rfl (fA rfl tM rfl (lA rfl .no aA0 (.u rfl) (fun _=>RdN.part (n:=5) (cs':=(List.range 5).map (fun _=>.slice none 0 0)) aC (rfl)) (fun _=>rfl) ?_))))
 refine mV rfl rfl (.nc (.block ?_))
 refine aV (α:=Nat) (fun k=>[(67,true,.int .i64 (k:Int))]) (fun k=>[.blk b3 (cl ((iJ 1 0).cells ⟨none,0⟩ ⟨none,0⟩) 202)])
  (fun k Gl=>(k≤5)) (fun k=>5-k) 0 [(0,true,_),(2,true,_),(3,true,_),(66,true,_)] [_,_,_,_,_]
  (aO rfl (aA rfl (aA rfl (aA rfl (aA rfl eZ)))))
  (mS .here rfl (mS .here rfl (mS .here rfl (mS .here rfl (mS .here rfl (mS .here rfl mN)))))) ?_ ?_
 ·(try dsimp only)<;>(first|omega|rfl|assumption|(simp; done))
 intro k N0 Gl0 hN0 hGl0 hF0
 try dsimp only at hF0 hN0 ⊢
 have hk:=hF0
 have hK:=hK.mono hGl0
 have hsRL:=hsRL.mono hGl0
 have hbbl:=hbbl.mono hGl0
 refine .g (cP rfl rfl rfl rfl (.g (cD rfl (fun c1=>?_) (fun c1=>?_))))
 ·have c1k:=c1
  try simp only [aD,aL,aE] at c1
  refine .g (ix rfl .no wC lZ (.u rfl) (.u rfl) (by omega) (by omega) (fun _=>aJQ (by omega)) ?_)
  refine .g (fZ rfl pX rfl (lO rfl lZ rfl .here rfl ?_))
  refine .p (apZ rfl oB (.u rfl) (.u rfl) ?_)
  refine fZ rfl pX rfl (s1 rfl (.u rfl) (.u rfl) rfl aGs .here (by first|decide | (show _<85; decide)) (aHz) ?_)
  refine .g (aW (((k+1):Nat):Int) rfl rfl rfl rfl ?_)
  refine .g (aT (k+1) ?_ ?_ ?_ ?_ ?_)
  ·exact (aO rfl (aA rfl (aA rfl (aA rfl (aA rfl eZ)))))
  ·exact (mS .here rfl (mS .here rfl (mS .here rfl (mS .here rfl (mS .here rfl (mS .here rfl mN))))))
  ·first|omega|(dsimp only; omega)
  ·exact hGl0
  (try dsimp only)<;>(first|omega|rfl|assumption|(simp; done))
 have c1k:=c1
 try simp only [aD,aL,aE] at c1
 refine .g (bZ (mc:=⟨false,false⟩) [0,1,2,3,4,5,6,7,8,9,10,11] aY (by kernel_rfl) ?_)
 refine fZ rfl pX rfl (lO rfl lZ rfl .here rfl ?_)
 refine .p (fZ rfl aW9 rfl (lO rfl vZ rfl eN rfl ?_))
 refine kV rfl aXQ (aB rfl aF) (aQX bl hRL [Nd.z] _ (fun _=>0) _ hbbl hsRL aLE rfl (by decide)) ?_
 refine kV rfl aXX (aB rfl (aB rfl (aB rfl aF))) (aQN _) ?_
 refine kV rfl aXW (aB rfl (aB rfl aF)) (aUN _ _) ?_
 refine kV rfl aXV (aB rfl (aB rfl (aB rfl aF))) (aUk _ 0 _) ?_
 refine apZ rfl oB (.u rfl) (.u rfl) ?_
 refine fZ rfl pX rfl (s1 rfl (.u rfl) (.u rfl) rfl aGs .here (by first|decide | (show _<85; decide)) (aHz) ?_)
 refine .g (nC rfl rfl (fZ rfl aA4 rfl (lO rfl bI rfl aC rfl ?_)))
 refine fZ rfl aDE rfl (s1 rfl (.u rfl) (.u rfl) rfl pA .here (by first|decide | (show _<85; decide)) (aPI) ?_)
 refine .g (bZ (mc:=⟨false,false⟩) [0,1,2,3,4,5,6,7,8,9,10,11,12,15,16,13,14,17,18,19,20,21,22,23,24,25] aY (by kernel_rfl) ?_)
 refine .p (nC rfl rfl (fZ rfl aMC rfl (lA rfl .no fF (.u rfl) (fun _=>RdN.part (n:=32) (cs':=ba 32 root) aC (rfl)) (fun _=>(bR _ _)) ?_)))
 refine .p (nC rfl rfl (fZ rfl tN rfl (fA rfl wF rfl (lA rfl .no rL (.u rfl) (fun _=>RdN.part (n:=5) (cs':=[V 3#8,V 0#8,uv .u64 0#64,uv .u64 ep,uv .u64 0#64]) aC (rfl)) (fun _=>rfl) ?_))))
 refine .p (nC rfl rfl (fZ rfl aA3 rfl (lO rfl yW rfl aC rfl ?_)))
 refine dK (State.zero.cells fO) rfl .no aWQ .nil rfl (rfl) (lA rfl .no aA1 (.u rfl) (fun _=>RdN.part (n:=11) (cs':=(iJ 1 2).cells ⟨none,0⟩ ⟨none,0⟩) .here (rfl)) (fun _=>(by first|exact qE|exact qL|rfl)) ?_)
 refine kp rfl .no aDK (aB rfl aF) (Gp.add tk5 Gp.nil) (fun _ hle hq=>aCK tr 0#64 o1 _ ⟨cH _ _ _⟩) ?_
 refine bw (k:=.u64) (b:=1#64) rfl .no rfl (.u rfl) (.u rfl) rfl (kc rfl aXY (aB rfl (aB rfl (aB rfl (aB rfl (aB rfl (aB rfl aF)))))) (aQ7 root ⟨3#8,0#8,0#64,ep,0#64⟩ 0#64 (0#64+1#64) 1 2 _ aVB aVC (by decide) hK) ?_)
 rintro _ G110 μ110 hG110 ⟨vL,LL,lLL,rfl,rfl⟩
 refine .p (eX rfl rfl rfl (eX rfl rfl rfl (eX rfl rfl rfl ?_)))
 refine al rfl aBP ?_; intro b7
 refine .p (sw rfl (.u rfl) (.u rfl) rfl zO .here (by first|exact qE|exact qL|rfl) (wW) ?_)
 refine .g (cP rfl rfl rfl rfl (.g (cD rfl (fun c2=>?_) (fun c2=>?_))))
 ·have c2k:=c2
  exact absurd c2 (by decide)
 have c2k:=c2
 try simp only [aD,aL,aE] at c2
 refine .g (kV rfl tS (aB rfl aF) (sR _) ?_)
 refine .nil (.code (.seq ?_))
 refine Wk.jn (α:=List Fi) (fun F1=>[]) (fun F1=>[.blk dk (cl (cS bm room (2)) 118),.blk bm (mO ((F1).map Fi.fe) (1))]) (fun F1 Gl=>(DkR F1 1)∧(F1.map Fi.nm=[bP 3 0])∧(cR F1≤800)) [(0,true,_),(3,true,_),(7,true,_)] [_,_,_,_,_]
  (aA rfl (aA rfl (aA rfl eZ))) (mS .here rfl (mS aC rfl (mS aC rfl (mS bG rfl (mS bG rfl mN))))) ?_ ?_
 ·refine vV aC ?_; intro sRM bbRM evRM lcRM oaRM; subst evRM
  refine eT ⟨true,false⟩ aY (by kernel_rfl) ?_
  refine Wp.one 0 (by kernel_rfl) ?_
  refine mV rfl rfl (.nil (Wp.one 1 (by kernel_rfl) ?_))
  refine mV rfl rfl (.nil (Wp.one 2 (by kernel_rfl) ?_))
  refine nC rfl rfl (.nil (Wp.one 3 (by kernel_rfl) ?_))
  refine fZ rfl tN rfl (.nil (Wp.one 5 (by kernel_rfl) ?_))
  refine mV rfl rfl (.nil (Wp.one 6 (by kernel_rfl) ?_))
  refine nC rfl rfl (.nil (Wp.one 7 (by kernel_rfl) ?_))
  refine fZ rfl tN rfl (.nil (Wp.one 8 (by kernel_rfl) ?_))
  refine fA rfl wF rfl (.nil (Wp.one 11 (by kernel_rfl) ?_))
  refine mV rfl rfl (.nil (Wp.b2 4 9 (by kernel_rfl) ?_ ?_))
  ·refine kp rfl .no wJ (aB rfl aF) (Gp.add bG Gp.nil) (fun _ hle hq=>uE bx 74 (oH ep 0#64) _ (PB.rdn (m:=7) ⟨cH _ _ _⟩ rfl) (by show (0#64:BitVec 64).toNat<10; decide)) ?_
   refine .nil (Wp.one 9 (by kernel_rfl) ?_)
   refine lA rfl .no rL (.u rfl) (fun _=>RdN.part (n:=5) (cs':=[V 3#8,V 0#8,uv .u64 0#64,uv .u64 ep,uv .u64 0#64]) bG (rfl)) (fun _=>rfl) ?_
   refine .nil (Wp.b1 10 (by kernel_rfl) ?_)
   refine kc rfl aBB (aB rfl aF) (mX (aAX ⟨3#8,0#8,0#64,ep,0#64⟩ _)) ?_
   rintro v128 G128 μ128 hG128 ⟨L128,ov128,eL128,rfl⟩
   refine .nil (Wp.b1 12 (by kernel_rfl) ?_)
   refine eY rfl aX cG (.u rfl) (.u rfl) .here (wV aM oaRM) (by rw [eL128,oI]; omega) ?_
   intro v130 L130 ov130 eL130
   have lL130:L130.length=L128.length+LL.length:=by rw [eL130,List.length_append]
   refine .nil (Wp.b1 13 (by kernel_rfl) ?_)
   refine ka rfl (.inl rfl) aGT (aB rfl (aB rfl (aB rfl aF))) (uO eN .here bG bG) (aHq bx bm room 0 0 (Db.d2 dk tr root o ep held now) [] _ aAz (by decide) hr9 (bP 3 0) v130 L130 aJU rfl (by have q9:L128.length=30:=(by rw [eL128,oI]); omega) (by have q9:L128.length=30:=(by rw [eL128,oI]); show _+0≤_; omega) (by decide)) ?_
   rintro _ G131 μ131 hG131 ⟨ν5,rfl,F1,hD1,hn1,hz1,rfl,rfl⟩
   refine .nil (Wp.last (by kernel_rfl) ?_)
   refine aT F1 ?_ ?_ ?_ ?_ ?_
   ·exact (aA rfl (aA rfl (aA rfl eZ)))
   ·exact (mS aC rfl (mS aC rfl (mS aC rfl (mS aM rfl (mS .here rfl (mS aC rfl (mS aC rfl mN)))))))
   ·exact jB _
   ·exact (hG128).trans hG131
   refine ⟨?_,?_,?_⟩
   ·(try dsimp only)<;>(exact hD1)
   ·(try dsimp only)<;>(exact hn1)
   (try dsimp only)<;>(have q8:cR []=0:=rfl; have q9:L128.length=30:=(by rw [eL128,oI]); omega)
  refine lA rfl .no rL (.u rfl) (fun _=>RdN.part (n:=5) (cs':=[V 3#8,V 0#8,uv .u64 0#64,uv .u64 ep,uv .u64 0#64]) bG (rfl)) (fun _=>rfl) ?_
  refine .nil (Wp.b1 4 (by kernel_rfl) ?_)
  refine kp rfl .no wJ (aB rfl aF) (Gp.add bG Gp.nil) (fun _ hle hq=>uE bx 74 (oH ep 0#64) _ (PB.rdn (m:=7) ⟨cH _ _ _⟩ rfl) (by show (0#64:BitVec 64).toNat<10; decide)) ?_
  refine .nil (Wp.b1 10 (by kernel_rfl) ?_)
  refine kc rfl aBB (aB rfl aF) (mX (aAX ⟨3#8,0#8,0#64,ep,0#64⟩ _)) ?_
  rintro v128 G128 μ128 hG128 ⟨L128,ov128,eL128,rfl⟩
  refine .nil (Wp.b1 12 (by kernel_rfl) ?_)
  refine eY rfl aX cG (.u rfl) (.u rfl) .here (wV aM oaRM) (by rw [eL128,oI]; omega) ?_
  intro v130 L130 ov130 eL130
  have lL130:L130.length=L128.length+LL.length:=by rw [eL130,List.length_append]
  refine .nil (Wp.b1 13 (by kernel_rfl) ?_)
  refine ka rfl (.inl rfl) aGT (aB rfl (aB rfl (aB rfl aF))) (uO eN .here bG bG) (aHq bx bm room 0 0 (Db.d2 dk tr root o ep held now) [] _ aAz (by decide) hr9 (bP 3 0) v130 L130 aJU rfl (by have q9:L128.length=30:=(by rw [eL128,oI]); omega) (by have q9:L128.length=30:=(by rw [eL128,oI]); show _+0≤_; omega) (by decide)) ?_
  rintro _ G131 μ131 hG131 ⟨ν5,rfl,F1,hD1,hn1,hz1,rfl,rfl⟩
  refine .nil (Wp.last (by kernel_rfl) ?_)
  refine aT F1 ?_ ?_ ?_ ?_ ?_
  ·exact (aA rfl (aA rfl (aA rfl eZ)))
  ·exact (mS aC rfl (mS aC rfl (mS aC rfl (mS aM rfl (mS .here rfl (mS aC rfl (mS aC rfl mN)))))))
  ·exact jB _
  ·exact (hG128).trans hG131
  refine ⟨?_,?_,?_⟩
  ·(try dsimp only)<;>(exact hD1)
  ·(try dsimp only)<;>(exact hn1)
  (try dsimp only)<;>(have q8:cR []=0:=rfl; have q9:L128.length=30:=(by rw [eL128,oI]); omega)
 intro F1 Glj16 hGlj16 hFj16
 obtain ⟨hD1,hn1,hz1⟩:=hFj16
 refine .g (kV rfl aDI (aB rfl (aB rfl aF)) (aCN 5#8 0#64 _ (by decide)) ?_)
 refine kV rfl aDI (aB rfl (aB rfl aF)) (aCN 4#8 0#64 _ (by decide)) ?_
 refine .g (nC rfl rfl (fZ rfl tN rfl (kp rfl .no wJ (aB rfl aF) (Gp.add eN Gp.nil) (fun _ hle hq=>uE bx 74 (oH ep 0#64) _ (PB.rdn (m:=7) ⟨cH _ _ _⟩ rfl) (by show (0#64:BitVec 64).toNat<10; decide)) ?_)))
 refine cvS rfl rfl aGz (.u rfl) ?_; intro G140 h140 hG140 hs140
 refine ka rfl (.inr rfl) aGT (aB rfl (aB rfl (aB rfl aF))) (jI eN .here .here) (qP fun G1 hle1 h1=>aHr bx bm room 2 1 (Db.d2 dk tr root o ep held now) F1 G1 h1 hD1 (by decide) hr9 (bP 5 0) h140 (yb (bP 3 0)) (hs140.mono hle1) aJW (qO (by rw [hn1]; exact aRt)) (by rw [eQ,sz3]; decide) (by rw [eQ,sz3]; omega) (by have:=congrArg List.length hn1; simp at this; omega)) ?_
 rintro _ G141 μ141 hG141 ⟨ν6,rfl,F2,hD2,hn2,hz2,rfl,rfl⟩
 rw [eQ,sz3] at hz2; rw [hn1] at hn2
 refine .nil (.code (.seq ?_))
 obtain ⟨f2,hf2⟩:=aIK (F:=F2) (nm:=bP 5 0) (by rw [hn2]; exact List.mem_cons_of_mem _ (List.mem_cons_self ..))
 have hc2:F2.length=2:=by have:=congrArg List.length hn2; simpa using this
 have hab2:cV (bP 4 0) (gI (bP 5 0) F2)=none:=qO (by rw [aEP,hn2]; show bP 4 0∉qZ (bP 5 0) [bP 3 0,bP 5 0]; rw [aKJ]; exact aRs)
 refine .g (nC rfl rfl (fZ rfl yZ rfl (lO rfl tK rfl .here rfl ?_)))
 refine .p (ka rfl (.inr rfl) aXZ (aB rfl (aB rfl (aB rfl aF))) (eI aC aC) (aOj dk bm room 4 2 F2 _ hD2 (by decide) hr9 (bP 5 0) (bP 4 0) f2 aJW aJV hf2 hab2 (by omega)) ?_)
 rintro _ G148 μ148 hG148 ⟨F3,hD3,hn3,hz3,rfl,rfl⟩
 rw [hn2] at hn3; have hn3:=hn3.trans (congrArg (·++[bP 4 0]) aKJ)
 refine kV rfl tS (aB rfl aF) (sR _) ?_
 refine .g (ka rfl (.inr rfl) aMR (aB rfl aF) (eI aM tk5) (qP fun G1 hle1 h1=>aHv bx tr (Db.d2 dk tr root o ep held now) 0#64 o1 G1 h1 rfl (by decide)) ?_)
 rintro _ G151 μ151 hG151 ⟨ν7,rfl,rfl,rfl⟩
 refine .nil (.code (.seq ?_))
 refine fE eN (cM .here rfl (cM aC rfl (cM aC rfl (cM .here rfl (jH))))) ?_; intro Gfb7 hleb7 hbb7
 refine eT ⟨false,false⟩ aY (by kernel_rfl) ?_
 refine Wp.one 0 (by kernel_rfl) ?_
 refine mV rfl rfl (.nil (Wp.one 1 (by kernel_rfl) ?_))
 refine mV rfl rfl (.nil (Wp.one 3 (by kernel_rfl) ?_))
 refine nC rfl rfl (.nil (Wp.one 4 (by kernel_rfl) ?_))
 refine fZ rfl tN rfl (.nil (Wp.one 5 (by kernel_rfl) ?_))
 refine fA rfl aA2 rfl (.nil (mH 2 (by kernel_rfl) ?_))
 refine lA rfl .no nV (.u rfl) (fun _=>(hbb7.rdn (m:=14) (cs':=(fU 1 2).cells fO) (rfl)).rd) (fun _=>(by first|exact qE|exact qL|rfl)) ?_
 refine .nil ⟨⟨rfl,rfl⟩,?_⟩
 refine Wp.b1 6 (by kernel_rfl) ?_
 refine s1 rfl (.u rfl) (.u rfl) rfl pA .here (by first|decide | (show _<85; decide)) (aLd _ 1#64) ?_
 refine .nil (Wp.one 7 (by kernel_rfl) ?_)
 refine nC rfl rfl (.nil (Wp.one 8 (by kernel_rfl) ?_))
 refine fZ rfl aDC rfl (.nil (Wp.b1 9 (by kernel_rfl) ?_))
 refine stp rfl (.u rfl) (.u rfl) rfl zO .here (by show 42+14≤85; decide) (wW) (aLf _ (fU 1 2) fO) ?_
 refine .nil (Wp.last (by kernel_rfl) ?_)
 refine .g (nC rfl rfl (fZ rfl tN rfl (kp rfl .no wJ (aB rfl aF) (Gp.add .here Gp.nil) (fun _ hle hq=>uE bx 74 (oH ep 1#64) _ (PB.rdn (m:=7) ⟨cH _ _ _⟩ rfl) (by show (0#64:BitVec 64).toNat<10; decide)) ?_)))
 refine Go.Tan.bN rfl mG tY (Evp.cons (.u rfl) (Evp.cons (.u rfl) Evp.nil)) rfl (by decide) (by simp [Value.oneCell']) ?_; intro b165
 refine .g (fZ rfl pX rfl (lO rfl lZ rfl tk5 rfl ?_))
 refine lE rfl mF rfl (mV rfl rfl (.nc (.block ?_)))
 refine aV (α:=Nat) (fun k=>[(11,true,.slice (some ⟨b165,0,none⟩) 2 2),(169,true,.int .i64 (k:Int))]) (fun _=>[])
  (fun k Gl=>(k=0)) (fun k=>0) 0 [(0,true,_),(167,true,_),(168,true,_)] [_,_,_,_,_,_,_]
  (aA rfl (aO rfl (aA rfl (aA rfl (aA rfl eZ)))))
  (mS .here rfl (mS .here rfl (mS .here rfl (mS .here rfl (mS .here rfl (mS .here rfl (mS .here rfl mN))))))) ?_ ?_
 ·(try dsimp only)<;>(first|omega|rfl|assumption|(simp; done))
 intro k N1 Gl1 hN1 hGl1 hF1
 try dsimp only at hF1 hN1 ⊢
 have hk:=hF1
 refine .g (cP rfl rfl rfl rfl (.g (cD rfl (fun c3=>?_) (fun c3=>?_))))
 ·have c3k:=c3
  subst hk; cases c3
 have c3k:=c3
 try simp only [aD,aL,aE] at c3
 refine .g (ka rfl (.inr rfl) aMQ (aB rfl (aB rfl aF)) (uO .here .here aC aC) (tI fun hle0=>aEn fun G2 hle h1 h2 h3=>aKi bx (eH dk tr root o ep held now) bm room 5 3 F3 G2 h1 h2 h3 hD3 ⟨some ⟨b165,0,none⟩,2⟩ [bP 4 0,bP 3 0] (gX (hle _ _ (cH _ _ _)) (fun _ _=>rfl) (by decide)) (by decide) (fun f hf=>by have h9:f.nm∈F3.map Fi.nm:=List.mem_map.2 ⟨f,hf,rfl⟩; rw [hn3] at h9; simp at h9 ⊢; exact h9.symm)) ?_)
 rintro _ G182 μ182 hG182 ⟨ν8,rfl,rfl,rfl⟩
 refine .g (We.fin Tryz.results90 .nil (mS .here rfl (mS .here rfl (mS .here rfl (mS .here rfl mN)))) ?_)
 exact ⟨F3,hD3,hn3,by omega,rfl,rfl⟩
end Go.Proofs.YtoifkgkandfeiaaGreatDoor
namespace Go.Proofs.YtoifkgkandfeiaaGreatDoor
open Go.Tan Go.RowKit Go.Maps Go.Sort Go.Shelf
theorem aG0:ifT Tryz.prog 20=true:=by kernel_rfl
theorem aZR:aQ Tryz.prog 36 0=some 0:=by kernel_rfl
theorem aZS:aQ Tryz.prog 36 1=some 1:=by kernel_rfl
theorem aZT:aQ Tryz.prog 36 2=some 2:=by kernel_rfl
theorem aBS:dV Tryz.prog 30=some ([.int .i64 0]):=by kernel_rfl
theorem aMI:aQ Tryz.prog 38 0=some 0:=by kernel_rfl
theorem wI:aJ Tryz.prog 125=true:=by kernel_rfl
theorem aXC:aQ Tryz.prog 38 1=some 1:=by kernel_rfl
theorem aGK:aQ Tryz.prog 38 4=some 4:=by kernel_rfl
theorem aXD:aQ Tryz.prog 38 2=some 2:=by kernel_rfl
theorem aXE:aQ Tryz.prog 38 3=some 3:=by kernel_rfl
theorem aGk:aJ Tryz.prog 89=true:=by kernel_rfl
theorem aYw:aJ Tryz.prog 88=true:=by kernel_rfl
theorem aZK:dV Tryz.prog 45=some ([.pointer none]):=by kernel_rfl
theorem yV:bY Tryz.prog 38=some (some 7):=by kernel_rfl
theorem aYt:aJ Tryz.prog 84=true:=by kernel_rfl
theorem aYu:aJ Tryz.prog 85=true:=by kernel_rfl
theorem aYv:aJ Tryz.prog 86=true:=by kernel_rfl
theorem aLv:cX Tryz.prog 165 [0,1,2,3,4,9,13]=some ([.pointer none,.pointer none,.int .u8 0,.int .u8 0,.int .u8 0,.int .u8 0,.int .u8 0,.int .u8 0,.int .u8 0,.int .u8 0,.int .u8 0,.int .u8 0,.int .u8 0,.int .u8 0,.int .u8 0,.int .u8 0,.int .u8 0,.int .u8 0,.int .u8 0,.int .u8 0,.int .u8 0,.int .u8 0,.int .u8 0,.int .u8 0,.int .u8 0,.int .u8 0,.int .u8 0,.int .u8 0,.int .u8 0,.int .u8 0,.int .u8 0,.int .u8 0,.int .u8 0,.int .u8 0,.int .i64 0,.int .i64 0,.int .i64 0,.int .i64 0,.int .i64 0,.int .i64 0,.int .i64 0,.int .u64 0,.slice none 0 0,.slice none 0 0,.slice none 0 0,.slice none 0 0,.slice none 0 0,.int .u64 0,.int .u64 0,.int .u64 0,.int .u64 0,.int .u64 0,.int .u64 0,.int .u64 0,.int .u64 0,.int .u64 0,.int .u64 0,.int .u64 0,.int .u64 0,.map none,.int .u8 0,.int .u8 0,.int .u64 0,.int .u64 0,.int .u64 0,.int .u64 0,.bool false,.int .u8 0,.int .u8 0,.int .u64 0,.int .u64 0,.int .u64 0,.int .u64 0,.bool false,.int .u8 0,.int .u8 0,.int .u64 0,.int .u64 0,.int .u64 0,.int .u64 0,.bool false,.pointer none,.pointer none,.int .i64 0,.bool false],[(0,1),(1,1),(2,32),(34,7),(41,1),(59,1),(81,1)]):=by kernel_rfl
theorem aYx:aJ Tryz.prog 90=true:=by kernel_rfl
theorem aM1:cI Tryz.prog 45=some 1:=by kernel_rfl
theorem wB:bY Tryz.prog 45=some none:=by kernel_rfl
theorem aEc (w:World) (x y:Value):CallsD Tryz.prog 89 #[x,y] .returning w (fun e u' w'=>(∃ v,e=.returned v)∧u'=.returning∧w'=w):=by
 refine callsD_of_wpS Tryz.func89 rfl fun c₀ cs hu=>(wpS_seq (wpS_region ?_))
 have hr:recoverD (c₀ :: cs)=none:=by simp [recoverD,hu]
 rw [show Tryz.f89.ntmps=25 from rfl]
 simp only [wpOpsS,List.range,List.range.loop,Array.size,List.length,List.getElem?_toArray,List.getElem?_cons_zero,List.getElem?_cons_succ,Region.wanted,if_true]
 have e1:∀ (ρ:Operand→Value) (d:Option Nat) (t:TypeId) (p:String) (af:Array Edge),(execOp ρ ⟨d,.call { callee:=.builtin .recover,args:=#[],argTypes:=#[] },t,p,af,none⟩).run Tryz.prog w=.ok .recover w:=fun ρ d t p af=>by
  simp [execOp,resolve,invoke,builtin]
 simp only [e1,hr]
 simp [execOp,Oper.upon,Exit.thenS,Act.put,Act.eval]
 refine wpS_of_wp ?_
 refine wp_seq (wp_seq (wp_region ?_))
 have e2:(binOp .eql 20 .nilIface .nilIface).run Tryz.prog w=.ok (.bool true) w:=by
  have hu20:=aEf aG0
  obtain ⟨q,hq⟩:=hu20
  have e4:∀ d,(Op.equalIn (d+1) 20 .nilIface .nilIface).run Tryz.prog w=.ok true w:=fun d=>by
   unfold Op.equalIn
   simp only [Sem.run_bind,run_underlying hq,Result.andThen_ok,Sem.run_pure]
  obtain ⟨d,hd⟩ : ∃ d,Op.maxDepth=d+1:=Nat.exists_eq_succ_of_ne_zero (by decide)
  simp [binOp,Op.equal,hd,e4]
 have e3:∀ z,(eqGuard .eql 20 z (.const .nilIface) .nilIface .nilIface).run Tryz.prog w=.ok () w:=fun z=>by unfold eqGuard; simp
 simp [wpOps,Region.wanted,execOp,Oper.wp,Oper.upon,Exit.then,Act.put,Act.eval,List.range,List.range.loop,e2,e3]
 refine .inl (.inl (wp_cond_true (by simp [Act.eval]) (wp_ret ?_)))
 refine ⟨rfl,.returning,by rw [← hu],.tuple #[],?_,⟨_,rfl⟩,rfl,rfl⟩
 simp [results,Tryz.f89]
theorem aSd (w:World) (b c:Nat) (h:w.cell? ⟨b,0,none⟩=some (.int .i64 0)):CallsD Tryz.prog 88 #[.pointer (some ⟨b,0,none⟩),.pointer (some ⟨c,0,none⟩)] .returning w (fun e u' w'=>(∃ v,e=.returned v)∧u'=.returning∧w'=w):=by
 refine callsD_of_wpS Tryz.func88 rfl fun c₀ cs hu=>(wpS_of_wp ?_)
 rw [show Tryz.f88.ntmps=4 from rfl]
 refine wp_seq (wp_region ?_)
 have h1:(Instr.loadAt 30 (.pointer (some ⟨b,0,none⟩))).run Tryz.prog w=.ok (.int .i64 0) w:=by simp [Instr.loadAt,Instr.sureAddr,iZ lG h]
 have h2:=aKP (P:=Tryz.prog) (op:=.neq) (k:=.i64) (a:=0) (b:=0) (r:=false) 30 rfl w
 simp [wpOps,Region.wanted,execOp,Oper.wp,Oper.upon,Exit.then,Act.put,Act.eval,List.range,List.range.loop,h1,h2,jQ]
 refine .inl (.inl (wp_cond_false (by simp [Act.eval]) (wp_skip ?_)))
 refine ⟨rfl,.returning,by rw [← hu],.tuple #[],?_,⟨_,rfl⟩,rfl,rfl⟩
 simp [results,Tryz.f88]
theorem vU (n m:Int) (G:PM):Ct Tryz.prog 125 ([.int .i64 n,.int .i64 m]:List Value).toArray G [] (fun _ μ' u=>μ'=[]∧u=.bool (tE n m)):=by
 refine Ct.of Tryz.func125 rfl Tryz.ntmps125 rfl fun w0 hs0=>?_
 refine .g (cP rfl rfl rfl rfl (mV rfl rfl (mv rfl (.t rfl rfl) (.u rfl) (mv rfl (.t rfl rfl) (.u rfl) (cp rfl (.t rfl rfl) (.s rfl) (.s rfl) rfl (cW rfl .no (.u rfl) (.s rfl) (aS rfl rfl (.nc (.ret (aN Tryz.results125 (.tmp rfl .nil) ?_))))))))))
 exact ⟨rfl,rfl⟩
theorem aSn (o:Opts) (G:PM):Ct Tryz.prog 84 ([o.val]:List Value).toArray G [] (fun _ μ' u=>μ'=[]∧u=.bool (aAf o)):=by
 refine Ct.of Tryz.func84 rfl Tryz.ntmps84 rfl fun w0 hs0=>?_
 refine .seq (bF rfl rfl ?_)
 refine bX rfl rfl rfl ?_; intro b1
 refine .g (fZ rfl aMI rfl (lO rfl bA rfl .here rfl ?_))
 refine kV rfl wI (aB rfl (aB rfl aF)) (vU _ _ _) ?_
 refine .p (fz rfl (.t rfl rfl) aXC (.u rfl) (ld rfl (.t rfl rfl) bA (.s rfl) (fun _=>Rd.own .here rfl) ?_))
 refine kv rfl (.t rfl rfl) wI (Eva.cons (.s rfl) (aB rfl aF)) (fun hc=>vU _ _ _) ?_
 refine cW rfl .no (.u rfl) (.s rfl) (.p (fz rfl (.t rfl rfl) aGK (.u rfl) (fa rfl (.t rfl rfl) aZR (.s rfl) (ld rfl (.t rfl rfl) bA (.s rfl) (fun _=>Rd.own .here rfl) ?_))))
 refine kv rfl (.t rfl rfl) wI (Eva.cons (.s rfl) (aB rfl aF)) (fun hc=>vU _ _ _) ?_
 refine cW rfl .no (.u rfl) (.s rfl) (.g (fz rfl (.t rfl rfl) aXD (.u rfl) (ld rfl (.t rfl rfl) bA (.s rfl) (fun _=>Rd.own .here rfl) ?_)))
 refine kv rfl (.t rfl rfl) wI (Eva.cons (.s rfl) (aB rfl aF)) (fun hc=>vU _ _ _) ?_
 refine cW rfl .no (.u rfl) (.s rfl) (.p (fz rfl (.t rfl rfl) aXE (.u rfl) (ld rfl (.t rfl rfl) bA (.s rfl) (fun _=>Rd.own .here rfl) ?_)))
 refine kv rfl (.t rfl rfl) wI (Eva.cons (.s rfl) (aB rfl aF)) (fun hc=>vU _ _ _) ?_
 refine cW rfl .no (.u rfl) (.s rfl) (.p (fz rfl (.t rfl rfl) aGK (.u rfl) (fa rfl (.t rfl rfl) aZS (.s rfl) (ld rfl (.t rfl rfl) bA (.s rfl) (fun _=>Rd.own .here rfl) ?_))))
 refine kv rfl (.t rfl rfl) wI (Eva.cons (.s rfl) (aB rfl aF)) (fun hc=>vU _ _ _) ?_
 refine cW rfl .no (.u rfl) (.s rfl) (.p (fz rfl (.t rfl rfl) aGK (.u rfl) (fa rfl (.t rfl rfl) aZT (.s rfl) (ld rfl (.t rfl rfl) bA (.s rfl) (fun _=>Rd.own .here rfl) ?_))))
 refine kv rfl (.t rfl rfl) wI (Eva.cons (.s rfl) (aB rfl aF)) (fun hc=>vU _ _ _) ?_
 refine cW rfl .no (.u rfl) (.s rfl) (aS rfl rfl (.nc (.ret (aN Tryz.results84 (.tmp rfl .nil) ?_))))
 exact ⟨rfl,rfl⟩
set_option maxHeartbeats 1000000 in
theorem aOh (bd bm room bt:Nat) (root:Nat→Y) (o:Opts) (G:PM) (hO:aAf o=true) (hr:5000≤room) (hr9:room≤1000000000) (hK:RdNP G 6 0 (wa 64 kW)):Ct Tryz.prog 50 ([.pointer (some ⟨bd,0,none⟩),.pointer (some ⟨bt,0,none⟩),.agg (ba 32 root).toArray,o.val]:List Value).toArray G [.blk bd (cl (cS bm room 0) 118),.blk bm (mO [] 0),.blk bt (cl [uv .u64 0#64,uv .u64 0#64] 87)] (fun _ μ' u=>∃ bx held now v F,v.oneCell'=true∧DkR F 3∧F.map Fi.nm=[bP 3 0,bP 4 0]∧cR F≤2000∧μ'=[.blk bx (cl (Db.cells (eH bd bt root o 1#64 held now)) 165),.blk bd (cl (cS bm room 5) 118),.blk bm (mO (F.map Fi.fe) 3),.blk bt (cl [uv .u64 1#64,uv .u64 1#64] 87),.blk now (cl [v,.int .i64 ((0:Nat):Int)] 225),rS 16 Nd.cells v 249 [Nd.z],.mp held .u64 (fun _=>none)]∧u=.tuple #[pt bx,.int .i64 0]):=by
 refine Ct.of Tryz.func50 rfl Tryz.ntmps50 rfl fun w0 hs0=>?_
 refine .seq (dI rfl rfl ?_)
 refine bX rfl rfl rfl ?_; intro b6
 refine bX rfl rfl rfl ?_; intro b7
 refine al rfl aZK ?_; intro b8
 refine al rfl aBS ?_; intro b9
 refine .g (pe rfl .no zK (.u rfl) (.u rfl) ?_)
 refine mV rfl rfl (mv rfl (.f rfl rfl) (.u rfl) (pe rfl (.f rfl rfl) aDS (.s rfl) (.u rfl) ?_))
 refine cF rfl .no (.u rfl) (.s rfl) (.g (cD rfl (fun c1=>?_) (fun c1=>?_)))
 ·have c1k:=c1
  cases c1
 have c1k:=c1
 try simp only [aD,aL,aE] at c1
 refine .g (lA rfl .no yV (.u rfl) (fun _=>RdN.part (n:=7) (cs':=o.cells) aM (rfl)) (fun _=>rfl) ?_)
 refine kV rfl aYt (aB rfl aF) (aSn o _) ?_
 refine nt rfl .no (.u rfl) (.g (cD rfl (fun c2=>?_) (fun c2=>?_)))
 ·have c2k:=c2
  rw [hO] at c2; cases c2
 have c2k:=c2
 try simp only [aD,aL,aE] at c2
 refine .g (kp rfl .no aYu (aB rfl aF) (Gp.add eN Gp.nil) (fun _ hle hq=>aOo bd bm room 0 0 [] _ ⟨cH _ _ _⟩) ?_)
 refine .g (cD rfl (fun c3=>?_) (fun c3=>?_))
 ·have c3k:=c3
  cases c3
 have c3k:=c3
 try simp only [aD,aL,aE] at c3
 refine .g (ka rfl (.inr rfl) aYv (aB rfl aF) (bK vA) (aU0 bt 0#64 0#64 _ (by decide)) ?_)
 rintro _ G29 μ29 hG29 ⟨rfl,rfl⟩
 have hK:=hK.mono hG29
 refine .p (eX rfl rfl rfl (eX rfl rfl rfl (.g (cP rfl rfl rfl rfl (.g (cD rfl (fun c4=>?_) (fun c4=>?_)))))))
 ·have c4k:=c4
  exact absurd c4 (by decide)
 have c4k:=c4
 try simp only [aD,aL,aE] at c4
 refine .skip (.code (.seq ?_))
 refine Wk.jn (α:=Nat×Nat×Nat×Value) (fun gh=>[(12,true,.pointer (some ⟨gh.1,0,none⟩))]) (fun gh=>[.blk gh.1 (cl (Db.cells (nU bd bt root o 1#64 gh.2.1 gh.2.2.1)) 165),.mp gh.2.1 .u64 (fun _=>none),.blk gh.2.2.1 (cl [gh.2.2.2,.int .i64 ((0:Nat):Int)] 225),rS 16 Nd.cells gh.2.2.2 249 [Nd.z]]) (fun gh Gl=>(gh.2.2.2.oneCell'=true)) [(8,true,_),(9,true,_)] [_,_,_,_,_]
  (aA rfl (aA rfl eZ)) (mS .here rfl (mS .here rfl (mS .here rfl (mS aM rfl (mS aM rfl mN))))) ?_ ?_
 ·refine fE eN (cM eN rfl (cM eN rfl (cM .here rfl (jH)))) ?_; intro Gfb6 hleb6 hbb6
  have hK:=hK.mono hleb6
  refine fE bG (cM bG rfl (cM bG rfl (cM .here rfl (jH)))) ?_; intro Gfb7 hleb7 hbb7
  have hK:=hK.mono hleb7
  have hbb6:=hbb6.mono hleb7
  refine eT ⟨true,false⟩ aY (by kernel_rfl) ?_
  refine Wp.one 0 (by kernel_rfl) ?_
  refine mV rfl rfl (.nil (Wp.one 1 (by kernel_rfl) ?_))
  refine mV rfl rfl (.nil (Wp.one 4 (by kernel_rfl) ?_))
  refine mV rfl rfl (.nil (mH 2 (by kernel_rfl) ?_))
  refine lA rfl .no fF (.u rfl) (fun _=>(hbb6.rdn (m:=32) (cs':=ba 32 root) (rfl)).rd) (fun _=>(bR _ _)) ?_
  refine .nil ⟨⟨rfl,rfl⟩,?_⟩
  refine mH 3 (by kernel_rfl) ?_
  refine lA rfl .no yV (.u rfl) (fun _=>(hbb7.rdn (m:=7) (cs':=o.cells) (rfl)).rd) (fun _=>rfl) ?_
  refine .nil ⟨⟨rfl,rfl⟩,?_⟩
  refine Wp.b2 5 6 (by kernel_rfl) ?_ ?_
  ·refine mk rfl .u64 ?_; intro b40
   refine .nil (Wp.b1 6 (by kernel_rfl) ?_)
   refine kc rfl aGj aF (aEi _) ?_
   rintro _ G41 μ41 hG41 ⟨bl,vl,ol,rfl,rfl⟩
   have hK:=hK.mono hG41
   refine .nil (Wp.one 7 (by kernel_rfl) ?_)
   refine dK ((nU bd bt root o (0#64+1#64) b40 bl).cells) rfl .no aLv (.cons (.u rfl) rfl (.cons (.u rfl) rfl (.cons (.u rfl) rfl (.cons (.u rfl) rfl (.cons (.u rfl) rfl (.cons (.u rfl) rfl (.cons (.u rfl) rfl .nil))))))) rfl (rfl) (.nil (Wp.b1 8 (by kernel_rfl) ?_))
   refine bX rfl rfl rfl ?_; intro b43
   refine .nil (Wp.one 9 (by kernel_rfl) ?_)
   refine aS rfl rfl (.nil (Wp.last (by kernel_rfl) ?_))
   refine aT (b43,b40,bl,vl) ?_ ?_ ?_ ?_ ?_
   ·exact (aA rfl (aA rfl (aA rfl eZ)))
   ·exact (mS .here rfl (mS aM rfl (mS .here rfl (mS .here rfl (mS .here rfl (mS .here rfl (mS .here rfl (mS .here rfl (mS .here rfl mN)))))))))
   ·exact jB _
   ·exact ((hleb6).trans hleb7).trans hG41
   (try dsimp only)<;>(first|omega|rfl|assumption|(simp; done))
  refine kc rfl aGj aF (aEi _) ?_
  rintro _ G41 μ41 hG41 ⟨bl,vl,ol,rfl,rfl⟩
  have hK:=hK.mono hG41
  refine .nil (Wp.b1 5 (by kernel_rfl) ?_)
  refine mk rfl .u64 ?_; intro b40
  refine .nil (Wp.one 7 (by kernel_rfl) ?_)
  refine dK ((nU bd bt root o (0#64+1#64) b40 bl).cells) rfl .no aLv (.cons (.u rfl) rfl (.cons (.u rfl) rfl (.cons (.u rfl) rfl (.cons (.u rfl) rfl (.cons (.u rfl) rfl (.cons (.u rfl) rfl (.cons (.u rfl) rfl .nil))))))) rfl (rfl) (.nil (Wp.b1 8 (by kernel_rfl) ?_))
  refine bX rfl rfl rfl ?_; intro b43
  refine .nil (Wp.one 9 (by kernel_rfl) ?_)
  refine aS rfl rfl (.nil (Wp.last (by kernel_rfl) ?_))
  refine aT (b43,b40,bl,vl) ?_ ?_ ?_ ?_ ?_
  ·exact (aA rfl (aA rfl (aA rfl eZ)))
  ·exact (mS .here rfl (mS .here rfl (mS .here rfl (mS .here rfl (mS .here rfl (mS .here rfl (mS .here rfl (mS .here rfl (mS .here rfl mN)))))))))
  ·exact jB _
  ·exact ((hleb6).trans hleb7).trans hG41
  (try dsimp only)<;>(first|omega|rfl|assumption|(simp; done))
 intro gh Glj10 hGlj10 hFj10
 obtain ⟨b43,b40,bl,vl⟩:=gh; dsimp only at hFj10 ⊢
 have ol:=hFj10
 have hK:=hK.mono hGlj10
 refine .code (.seq (Wk.defers [0] 1 (DQ.d ⟨88,[],[.pointer (some ⟨b9,0,none⟩),.pointer (some ⟨b8,0,none⟩)]⟩) (fun _ _ _ _=>False) (fun _ _ _ _ _ _ hq=>hq.elim) rfl rfl ?_))
 refine mf (vf:=#[]) (vc:=[Value.pointer (some ⟨b9,0,none⟩),Value.pointer (some ⟨b8,0,none⟩)].toArray) rfl .no (fun a ha _=>by simp) (fun a ha _=>by simp [(Ev.u (c:=true) rfl:Ev _ true (.tmp 9) _).eval ha rfl,(Ev.u (c:=true) rfl:Ev _ true (.tmp 8) _).eval ha rfl]) ?_
 refine .nil ⟨aC0 rfl rfl,?_⟩
 refine .code (.seq (Wk.defers [0] 1 (DQ.d ⟨89,[.pointer (some ⟨b43,0,none⟩),.pointer (some ⟨b9,0,none⟩)],[]⟩) (fun _ _ _ _=>False) (fun _ _ _ _ _ _ hq=>hq.elim) rfl rfl ?_))
 refine mV rfl rfl (.nil ⟨DefOp.fn rfl (aB rfl (aB rfl aF)),?_⟩)
 refine .g (ka rfl (.inr rfl) aYx (aB rfl aF) (uO .here vA vA bG) (aOn b43 bm room bd bt b40 bl root o 1#64 (0#64+1#64) _ hr hr9 hK) ?_)
 rintro _ G47 μ47 hG47 ⟨F,hD,hn,hz,rfl,rfl⟩
 refine .g (s1 rfl (.u rfl) (.u rfl) rfl aM1 rG (by first|decide | (show _<85; decide)) (rfl) ?_)
 refine s1 rfl (.u rfl) (.u rfl) rfl oC rG (by first|decide | (show _<85; decide)) (rfl) ?_
 refine .nil (.code (.ret (zV [⟨89,[.pointer (some ⟨b43,0,none⟩),.pointer (some ⟨b9,0,none⟩)],[]⟩,⟨88,[],[.pointer (some ⟨b9,0,none⟩),.pointer (some ⟨b8,0,none⟩)]⟩] rfl (by intro q hq; rcases List.mem_cons.1 hq with rfl | hq; exact ⟨aGk,fun w hw=>aEc w _ _⟩; rw [List.mem_singleton.1 hq]; exact ⟨aYw,fun w hw=>aSd w b9 b8 (Rd.own .here rfl w hw)⟩) Tryz.results50 (.cell rfl (fun w hw=>iZ wB (Rd.own aC rfl w hw)) (.cell rfl (fun w hw=>iZ lG (Rd.own .here rfl w hw)) .nil)) (mS aM rfl (mS aM rfl (mS aM rfl (mS aM rfl (mS bG rfl (mS bG rfl (mS aM rfl mN))))))) ?_)))
 exact ⟨b43,b40,bl,vl,F,ol,hD,hn,hz,rfl,rfl⟩
end Go.Proofs.YtoifkgkandfeiaaGreatDoor
namespace Go.Proofs.YtoifkgkandfeiaaGreatDoor
open Go.Tan Go.RowKit Go.Maps Go.Sort Go.Shelf
theorem aDa:dV Tryz.prog 179=some (Ent.zero.cells):=by kernel_rfl
theorem aND:(Tryz.prog.info? 179).bind (·.zero)=some (.agg (Ent.zero.cells).toArray):=by kernel_rfl
theorem aGO:aQ Tryz.prog 71 1=some 1:=by kernel_rfl
theorem aGN:aQ Tryz.prog 71 0=some 0:=by kernel_rfl
theorem aGP:aQ Tryz.prog 71 2=some 2:=by kernel_rfl
theorem aWS:cX Tryz.prog 179 [0,1,2,3]=some (Ent.zero.cells,[(0,1),(1,1),(2,1),(3,1)]):=by kernel_rfl
theorem gW:bL Tryz.prog 22=some (71,3,40):=by kernel_rfl
theorem lD:(bL Tryz.prog 22).isSome=true:=by kernel_rfl
theorem jX:bY Tryz.prog 71=some (some 3):=by kernel_rfl
theorem wU:dV Tryz.prog 71=some ([.int .u8 0,.string ByteArray.empty,.string ByteArray.empty]):=by kernel_rfl
theorem oZ:cI Tryz.prog 71=some 3:=by kernel_rfl
theorem aMT:aJ Tryz.prog 145=true:=by kernel_rfl
theorem aMm:aJ Tryz.prog 93=true:=by kernel_rfl
theorem aH9 (q:BitVec 64) (o:Opn) (G:PM):Ct Tryz.prog 145 ([uv .u64 q,o.val]:List Value).toArray G [] (fun _ μ' u=>μ'=[]∧u=(dX q o).val):=by
 refine Ct.of Tryz.func145 rfl Tryz.ntmps145 rfl fun w0 hs0=>?_
 refine .seq (bF rfl rfl ?_)
 refine bX rfl rfl rfl ?_; intro b3
 refine al rfl aDa ?_; intro b4
 refine .g (fZ rfl aGO rfl (lO rfl cQ rfl aC (by first|exact aK rfl|rfl) ?_))
 refine .p (fZ rfl aGN rfl (lO rfl cZ rfl aC (by first|exact aK rfl|rfl) ?_))
 refine fZ rfl aGP rfl (lO rfl cQ rfl aC (by first|exact aK rfl|rfl) ?_)
 refine dK ((dX q o).cells) rfl .no aWS (.cons (.u rfl) rfl (.cons (.u rfl) rfl (.cons (.u rfl) rfl (.cons (.u rfl) rfl .nil)))) rfl (rfl) ?_
 refine sw rfl (.u rfl) (.u rfl) rfl tV .here rfl (Ent.one _) ?_
 refine .nil (.code (.ret (aN Tryz.results145 (.cell rfl (fun w hw=>bE mY (RdN.own .here) (Ent.len _) hw) .nil) ?_)))
 exact ⟨rfl,rfl⟩
theorem aHQ (h:Sh) (l:List Opn) (G:PM) (hs:SlR G 3 Opn.cells h l) (hl:l.length=1∨l.length=2) (hok:∀ o∈l,o.ok):Ct Tryz.prog 93 ([uv .u64 1#64,h.val l.length]:List Value).toArray G [] (fun _ μ' u=>μ'=[]∧u=.bool true):=by
 refine Ct.of Tryz.func93 rfl Tryz.ntmps93 rfl fun w0 hs0=>?_
 refine .g (lE rfl lD rfl (ci rfl .no rfl jC (.u rfl) ?_))
 refine .g (cP rfl rfl rfl rfl (mV rfl rfl (mv rfl (.f rfl rfl) (.u rfl) (cp rfl (.f rfl rfl) (.s rfl) (.u rfl) rfl (cF rfl .no (.u rfl) (.s rfl) (mV rfl rfl (mv rfl (.f rfl rfl) (.u rfl) (cp rfl (.f rfl rfl) (.s rfl) (.u rfl) rfl (cF rfl .no (.u rfl) (.s rfl) (mV rfl rfl (mv rfl (.f rfl rfl) (.u rfl) (mv rfl (.f rfl rfl) (.u rfl) (bw (k:=.u64) (a:=72057594037927935#64) rfl (.f rfl rfl) rfl (.u rfl) (.s rfl) rfl (bw (k:=.u64) (b:=1#64) rfl (.f rfl rfl) rfl (.s rfl) (.u rfl) rfl (cp rfl (.f rfl rfl) (.s rfl) (.s rfl) rfl (cF rfl .no (.u rfl) (.s rfl) (.g (cD rfl (fun c1=>?_) (fun c1=>?_)))))))))))))))))))
 ·have c1k:=c1
  rcases hl with e | e<;>rw [e] at c1<;>exact absurd c1 (by decide)
 have c1k:=c1
 try simp only [aD,aL,aE] at c1
 refine .g (lE rfl lD rfl (mV rfl rfl (.nc (.block ?_))))
 refine aV (α:=Nat) (fun k=>[(30,true,.int .i64 (k:Int))]) (fun _=>[])
  (fun k Gl=>(k≤l.length)) (fun k=>l.length-k) 0 [(0,true,_),(28,true,_),(29,true,_)] []
  (aO rfl (aA rfl (aA rfl (aA rfl eZ))))
  mN ?_ ?_
 ·(try dsimp only)<;>(first|omega|rfl|assumption|(simp; done))
 intro k N0 Gl0 hN0 hGl0 hF0
 try dsimp only at hF0 hN0 ⊢
 have hk:=hF0
 have hs:=hs.mono hGl0
 refine .g (cP rfl rfl rfl rfl (.g (cD rfl (fun c2=>?_) (fun c2=>?_))))
 ·have c2k:=c2
  try simp only [aD,aL,aE] at c2
  refine .skip (.code (.seq (.block (.seq (dI rfl rfl (ih rfl .no gW (.u rfl) (.u rfl) (by omega) (by omega) (fun _=>hs.nn (k:=k) (by first|omega|(simp only [Bool.and_eq_true,decide_eq_true_eq] at hc; omega)|(simp only [List.length_cons,List.length_nil]; omega))) ?_))))))
  obtain ⟨o,eo⟩:=dT (k:=k) (xs:=l) (by omega)
  have ho:=hok o (List.mem_of_getElem? eo)
  refine lA rfl .no jX (.u rfl) (fun _=>(hs.at (by omega) eo).rd) (fun _=>Opn.len _) ?_
  refine al rfl wU ?_; intro b7
  refine sw rfl (.u rfl) (.u rfl) rfl oZ .here rfl (Opn.one _) ?_
  refine .g (lA rfl .no jX (.u rfl) (fun _=>RdN.own .here) (fun _=>(by first|exact Opn.len _|exact Ent.len _|rfl)) ?_)
  refine kV rfl aMT (aB rfl (aB rfl aF)) (aH9 1#64 o _) ?_
  refine kV rfl aMS (aB rfl aF) (aHy (dX 1#64 o) _) ?_
  refine nt rfl .no (.u rfl) (.g (cD rfl (fun c3=>?_) (fun c3=>?_)))
  ·have c3k:=c3
   rw [yE ho (by decide)] at c3; cases c3
  have c3k:=c3
  try simp only [aD,aL,aE] at c3
  refine .g (aW (((k+1):Nat):Int) rfl rfl rfl rfl ?_)
  refine .g (aT (k+1) ?_ ?_ ?_ ?_ ?_)
  ·exact (aO rfl (aA rfl (aA rfl (aA rfl eZ))))
  ·exact mN
  ·first|omega|(dsimp only; omega)
  ·exact hGl0
  (try dsimp only)<;>(first|omega|rfl|assumption|(simp; done))
 have c2k:=c2
 try simp only [aD,aL,aE] at c2
 refine .exit (.xcode (.xlp (.xblk (.code (.seq (aP rfl rfl (aS rfl rfl (.nc (.ret (aN Tryz.results93 (.tmp rfl .nil) ?_))))))))))
 exact ⟨rfl,rfl⟩
theorem aNw (h:Sh) (l:List Opn) (G:PM) (hs:SlR G 3 Opn.cells h l) (hl:l.length=1∨l.length=2) (hok:∀ o∈l,o.ok):Ct Tryz.prog 232 ([uv .u64 1#64,h.val l.length]:List Value).toArray G [] (fun G' μ' u=>∃ (s:Sh) (L:List Y),L.length≤20+60*l.length∧μ'=[]∧u=.tuple #[s.val L.length,.int .i64 0]∧SlR G' 1 aU s L):=by
 refine Ct.of Tryz.func232 rfl Tryz.ntmps232 rfl fun w0 hs0=>?_
 refine .g (kV rfl aMm (aB rfl (aB rfl aF)) (aHQ h l _ hs hl hok) ?_)
 refine nt rfl .no (.u rfl) (.g (cD rfl (fun c1=>?_) (fun c1=>?_)))
 ·have c1k:=c1
  cases c1
 have c1k:=c1
 try simp only [aD,aL,aE] at c1
 refine .g (kc rfl wM (aB rfl (aB rfl (aB rfl aF))) (Ct.frzB (tJ [] ⟨none,0⟩ 1#64 8 _ SlR.nul (by simp) (by decide))) ?_)
 rintro _ G15 μ15 hG15 ⟨h15,L15,eL15,rfl,rfl,hs15⟩
 have hs:=hs.mono hG15
 refine .p (lE rfl lD rfl (ci rfl .no rfl jC (.u rfl) ?_))
 refine kc rfl aGX (aB rfl (aB rfl aF)) (mX (aG6 L15 h15 _ hs15 _ (by rw [eL15,List.nil_append,oG]; decide))) ?_
 rintro v19 G19 μ19 hG19 ⟨L19,ov19,eL19,rfl⟩
 have hs:=hs.mono hG19
 refine .g (lE rfl lD rfl (mV rfl rfl (.nc (.block ?_))))
 refine aV (α:=Nat×Value×List Y) (fun gh=>[(6,true,gh.2.1),(22,true,.int .i64 (gh.1:Int))]) (fun gh=>[rB gh.2.1 5 gh.2.2])
  (fun gh Gl=>(gh.1≤l.length)∧(gh.2.2.length≤20+60*gh.1)) (fun gh=>l.length-gh.1) (0,v19,L19) [(20,true,_),(21,true,_)] []
  (aA rfl (aO rfl (aA rfl (aA rfl eZ))))
  (mS .here rfl mN) ?_ ?_
 ·refine ⟨?_,?_⟩
  ·(try dsimp only)<;>(first|omega|rfl|assumption|(simp; done))
  (try dsimp only)<;>(rw [eL19,eL15,List.nil_append,List.length_append,oG]; exact Nat.le_trans (Nat.add_le_add_left (iD (BitVec.isLt _)) 8) (by omega))
 intro gh N0 Gl0 hN0 hGl0 hF0
 obtain ⟨k,v,L⟩:=gh; dsimp only at hF0 hN0 ⊢
 obtain ⟨hk,hL⟩:=hF0
 have hs:=hs.mono hGl0
 refine .g (cP rfl rfl rfl rfl (.g (cD rfl (fun c2=>?_) (fun c2=>?_))))
 ·have c2k:=c2
  try simp only [aD,aL,aE] at c2
  refine .skip (.code (.seq (.block (.seq (dI rfl rfl (ih rfl .no gW (.u rfl) (.u rfl) (by omega) (by omega) (fun _=>hs.nn (k:=k) (by first|omega|(simp only [Bool.and_eq_true,decide_eq_true_eq] at hc; omega)|(simp only [List.length_cons,List.length_nil]; omega))) ?_))))))
  obtain ⟨o,eo⟩:=dT (k:=k) (xs:=l) (by omega)
  have ho:=hok o (List.mem_of_getElem? eo)
  refine lA rfl .no jX (.u rfl) (fun _=>(hs.at (by omega) eo).rd) (fun _=>Opn.len _) ?_
  refine al rfl wU ?_; intro b8
  refine sw rfl (.u rfl) (.u rfl) rfl oZ .here rfl (Opn.one _) ?_
  refine .g (fZ rfl aGN rfl (lO rfl cZ rfl .here (by first|exact aK rfl|rfl) ?_))
  refine Go.Tan.b1 rfl aX cG (.u rfl) rfl rfl (by decide) ?_; intro b28
  refine fZ rfl aGO rfl (lO rfl cQ rfl aC (by first|exact aK rfl|rfl) ?_)
  refine ka rfl (.inr rfl) zI (aB rfl (aB rfl aF)) (bK .here) (tI fun hle=>Ct.frzB (wX [o.kind] ⟨some ⟨b28,0,none⟩,1⟩ _ (gX (xs:=[o.kind]) (cH _ _ _) (fun _ _=>rfl) (Nat.le_refl 1)) o.user (by have:=ho.user; show 1+_≤_; omega))) ?_
  rintro _ G31 μ31 hG31 ⟨h31,L31,eL31,rfl,rfl,hs31⟩
  have lL31:L31.length≤21:=by have:=aKg o.user (by have:=ho.user; omega); have:=ho.user; rw [eL31,List.length_append]; show 1+_≤_; omega
  refine .g (fZ rfl aGN rfl (lO rfl cZ rfl .here (by first|exact aK rfl|rfl) ?_))
  refine cP rfl rfl rfl rfl (.g (cD rfl (fun c3=>?_) (fun c3=>?_)))
  ·have c3k:=c3
   try simp only [aD,aL,aE] at c3
   refine .g (fZ rfl aGP rfl (lO rfl cQ rfl .here (by first|exact aK rfl|rfl) ?_))
   refine kc rfl zI (aB rfl (aB rfl aF)) (Ct.frzB (wX L31 h31 _ hs31 o.value (by have:=ho.value; omega))) ?_
   rintro _ G38 μ38 hG38 ⟨h38,L38,eL38,rfl,rfl,hs38⟩
   have lL38:L38.length≤41:=by have:=aKg o.value (by have:=ho.value; omega); have:=ho.value; rw [eL38,List.length_append]; omega
   have hs31:=hs31.mono hG38
   refine .g (eY rfl aX cG (.u rfl) (.u rfl) aC hs38.sc (by (try simp only [cC,cY]); omega) ?_)
   intro v41 L41 ov41 eL41
   have lL41:L41.length=L.length+L38.length:=by rw [eL41,List.length_append]
   refine .g (aW (((k+1):Nat):Int) rfl rfl rfl rfl ?_)
   refine .g (aT (k+1,v41,L41) ?_ ?_ ?_ ?_ ?_)
   ·exact (aA rfl (aO rfl (aA rfl (aA rfl eZ))))
   ·exact (mS .here rfl mN)
   ·first|omega|(dsimp only; omega)
   ·exact ((hGl0).trans hG31).trans hG38
   refine ⟨?_,?_⟩
   ·(try dsimp only)<;>(first|omega|rfl|assumption|(simp; done))
   (try dsimp only)<;>(rw [lL41]; omega)
  have c3k:=c3
  try simp only [aD,aL,aE] at c3
  refine .g (eY rfl aX cG (.u rfl) (.u rfl) aC hs31.sc (by (try simp only [cC,cY]); omega) ?_)
  intro v41 L41 ov41 eL41
  have lL41:L41.length=L.length+L31.length:=by rw [eL41,List.length_append]
  refine .g (aW (((k+1):Nat):Int) rfl rfl rfl rfl ?_)
  refine .g (aT (k+1,v41,L41) ?_ ?_ ?_ ?_ ?_)
  ·exact (aA rfl (aO rfl (aA rfl (aA rfl eZ))))
  ·exact (mS .here rfl mN)
  ·first|omega|(dsimp only; omega)
  ·exact (hGl0).trans hG31
  refine ⟨?_,?_⟩
  ·(try dsimp only)<;>(first|omega|rfl|assumption|(simp; done))
  (try dsimp only)<;>(rw [lL41]; omega)
 have c2k:=c2
 try simp only [aD,aL,aE] at c2
 refine .exit (.xcode (.xlp (.xblk (.code (.seq (dQ rfl rfl (mV rfl rfl (aS rfl rfl (aS rfl rfl (.nc (.ret ?_)))))))))))
 refine aVg .here (by first|(intro b hb; cases hb; done) | simp [keys,Res.keys]) ?_; intro GfR19 hR19 hleR19 evR19 hsR19; subst evR19
 refine aN Tryz.results232 (.tmp rfl (.tmp rfl .nil)) ?_
 obtain rfl:k=l.length:=by omega
 exact ⟨hR19,L,hL,rfl,rfl,hsR19⟩
theorem aNx (h:Sh) (l:List Opn) (G:PM) (hs:SlR G 3 Opn.cells h l) (hl:l.length=1∨l.length=2) (hok:∀ o∈l,o.ok):Ct Tryz.prog 234 ([uv .u64 1#64,h.val l.length]:List Value).toArray G [] (fun G' μ' u=>∃ (s:Sh),μ'=[]∧u=s.val (bT 0 l).length∧SlR G' 4 Ent.cells s (bT 0 l)):=by
 refine Ct.of Tryz.func234 rfl Tryz.ntmps234 rfl fun w0 hs0=>?_
 refine .seq (aP rfl rfl (aS rfl rfl (.nc (.seq (aP rfl rfl (aS rfl rfl (.nc (.seq (.seq (mU 4 Ent.cells 179 (.g (lE rfl lD rfl (mV rfl rfl (.nc (.block ?_)))))))))))))))
 refine aV (α:=Nat×Value) (fun gh=>[(0,true,uv .u64 (BitVec.ofNat 64 (gh.1+1))),(5,true,gh.2),(10,true,.int .i64 (gh.1:Int))]) (fun gh=>[rS 4 Ent.cells gh.2 179 (bT 0 (l.take gh.1))])
  (fun gh Gl=>(gh.1≤l.length)) (fun gh=>l.length-gh.1) (0,.slice none 0 0) [(8,true,_),(9,true,_)] []
  (aA rfl (aA rfl (aO rfl (aA rfl (aA rfl eZ)))))
  (mS .here rfl mN) ?_ ?_
 ·(try dsimp only)<;>(first|omega|rfl|assumption|(simp; done))
 intro gh N0 Gl0 hN0 hGl0 hF0
 obtain ⟨k,v⟩:=gh; dsimp only at hF0 hN0 ⊢
 have hk:=hF0
 have hs:=hs.mono hGl0
 refine .g (cP rfl rfl rfl rfl (.g (cD rfl (fun c1=>?_) (fun c1=>?_))))
 ·have c1k:=c1
  try simp only [aD,aL,aE] at c1
  refine .skip (.code (.seq (.block (.seq (dI rfl rfl (ih rfl .no gW (.u rfl) (.u rfl) (by omega) (by omega) (fun _=>hs.nn (k:=k) (by first|omega|(simp only [Bool.and_eq_true,decide_eq_true_eq] at hc; omega)|(simp only [List.length_cons,List.length_nil]; omega))) ?_))))))
  obtain ⟨o,eo⟩:=dT (k:=k) (xs:=l) (by omega)
  have ho:=hok o (List.mem_of_getElem? eo)
  refine lA rfl .no jX (.u rfl) (fun _=>(hs.at (by omega) eo).rd) (fun _=>Opn.len _) ?_
  refine al rfl wU ?_; intro b7
  refine sw rfl (.u rfl) (.u rfl) rfl oZ .here rfl (Opn.one _) ?_
  refine .g (lA rfl .no jX (.u rfl) (fun _=>RdN.own .here) (fun _=>(by first|exact Opn.len _|exact Ent.len _|rfl)) ?_)
  refine kV rfl aMT (aB rfl (aB rfl aF)) (aH9 (BitVec.ofNat 64 (k+1)) o _) ?_
  refine Go.Tan.b1 rfl aBJ aND (.u rfl) rfl rfl (by decide) ?_; intro b18
  refine gZ (xs:=(bT 0 (l.take k))) ((dX (BitVec.ofNat 64 (k+1)) o)) rfl aBJ aND rfl (.u rfl) (.u rfl) aM .here (Ent.len _) (Ent.one _) (by rw [aAF,List.length_take]; omega) (by rw [aAF,List.length_take]; unfold maxLen; omega) ?_; intro v19 ov19
  refine .g (bw (k:=.u64) (b:=1#64) rfl .no rfl (.u rfl) (.u rfl) rfl (.g (aW (((k+1):Nat):Int) rfl rfl rfl rfl ?_)))
  refine .g (aT (k+1,v19) ?_ ?_ ?_ ?_ ?_)
  ·exact (dY rfl (congrArg (uv .u64) aN9) (aA rfl (aO rfl (aA rfl (aA rfl eZ)))))
  ·exact (mS .here (by rw [← aIB eo,Nat.zero_add]) mN)
  ·first|omega|(dsimp only; omega)
  ·exact hGl0
  (try dsimp only)<;>(first|omega|rfl|assumption|(simp; done))
 have c1k:=c1
 try simp only [aD,aL,aE] at c1
 refine .exit (.xcode (.xlp (.xblk (.code (.seq (bF rfl rfl (mV rfl rfl (aS rfl rfl (.nc (.ret ?_))))))))))
 refine oQ .here (fun _ _=>rfl) (by intro b hb; cases hb) ?_; intro GfRE hRE hleRE evRE hsRE; subst evRE
 refine aN Tryz.results234 (.tmp rfl .nil) ?_
 obtain rfl:k=l.length:=by omega
 rw [List.take_length] at hsRE ⊢
 exact ⟨hRE,rfl,rfl,hsRE⟩
theorem aAO (k:Nat) (G:PM) (hk:k<2):Ct Tryz.prog 236 ([uv .u64 (BitVec.ofNat 64 (k+1))]:List Value).toArray G [] (fun _ μ' u=>μ'=[]∧u=.int .i64 ((k+1:Nat):Int)):=by
 refine Ct.of Tryz.func236 rfl Tryz.ntmps236 rfl fun w0 hs0=>?_
 refine .seq (aP rfl rfl (aS rfl rfl (.nc (.seq (aP rfl rfl (aS rfl rfl (.nc (.seq (.block ?_)))))))))
 refine aV (α:=Nat) (fun j=>[(0,true,uv .u64 (BitVec.ofNat 64 (k+1) >>> j)),(3,true,.int .i64 ((j+1:Nat):Int))]) (fun _=>[])
  (fun j Gl=>(j≤k)) (fun j=>k-j) 0 [] []
  (aA rfl (aO rfl eZ))
  mN ?_ ?_
 ·(try dsimp only)<;>(first|omega|rfl|assumption|(simp; done))
 intro j N0 Gl0 hN0 hGl0 hF0
 try dsimp only at hF0 hN0 ⊢
 have hj:=hF0
 refine .g (cP rfl rfl rfl rfl (mV rfl rfl (mv rfl (.t rfl rfl) (.u rfl) (bw (k:=.u64) (b:=1#64) rfl (.t rfl rfl) rfl (.s rfl) (.u rfl) rfl (cp rfl (.t rfl rfl) (.s rfl) (.u rfl) rfl (cW rfl .no (.u rfl) (.s rfl) (.g (cD rfl (fun c1=>?_) (fun c1=>?_)))))))))
 ·have c1k:=c1
  skip
  refine .g (hJ ((((j+1)+1):Nat):Int) rfl .no (.u rfl) (.u rfl) rfl (by omega) (fun _=>eJ (by omega) (by omega)) ?_)
  refine .g (oN (k:=.u64) rfl .no (.u rfl) (.u rfl) (fun _=>by decide) ?_)
  refine .g (aT (j+1) ?_ ?_ ?_ ?_ ?_)
  ·exact (dY rfl (congrArg (uv .u64) (BitVec.shiftRight_add _ j 1).symm) (aO rfl eZ))
  ·exact mN
  ·have hjk:j<k:=aIe hk hj c1k; omega
  ·exact hGl0
  (try dsimp only)<;>(exact aIe hk hj c1k)
 have c1k:=c1
 skip
 refine .exit (.xcode (.xlp (.xblk (.code (.seq (bF rfl rfl (mV rfl rfl (aS rfl rfl (.nc (.ret (aN Tryz.results236 (.tmp rfl .nil) ?_)))))))))))
 obtain rfl:j=k:=aPx hk hj c1k
 exact ⟨rfl,rfl⟩
end Go.Proofs.YtoifkgkandfeiaaGreatDoor
namespace Go.Proofs.YtoifkgkandfeiaaGreatDoor
open Go.Tan Go.RowKit Go.Maps Go.Sort Go.Shelf
theorem aF9:aQ Tryz.prog 165 13=some 81:=by kernel_rfl
theorem aW7:aQ Tryz.prog 165 3=some 34:=by kernel_rfl
theorem aYO:aJ Tryz.prog 317=true:=by kernel_rfl
theorem aMo:aJ Tryz.prog 96=true:=by kernel_rfl
theorem aX2:aJ Tryz.prog 232=true:=by kernel_rfl
theorem aX3:aJ Tryz.prog 233=true:=by kernel_rfl
theorem aMB:aQ Tryz.prog 163 2=some 6:=by kernel_rfl
theorem aX4:aJ Tryz.prog 234=true:=by kernel_rfl
theorem aBD:aJ Tryz.prog 236=true:=by kernel_rfl
theorem aBC:aJ Tryz.prog 235=true:=by kernel_rfl
theorem aU3 (bx:Nat) (d:Db) (v:Value) (sz:Nat) (G:PM) (hbx:PB G bx (cl d.cells 165)) (hbn:PB G d.now (cl [v,.int .i64 ((sz:Nat):Int)] 225)) (hm:(sz:Int)<d.o.mem):Ct Tryz.prog 233 ([pt bx]:List Value).toArray G [] (fun _ μ' u=>μ'=[]∧u=.tuple #[]):=by
 refine Ct.of Tryz.func233 rfl Tryz.ntmps233 rfl fun w0 hs0=>?_
 refine .g (bZ (mc:=⟨false,false⟩) [0,1,2,3,5,6,7,8,9,4,10] aY (by kernel_rfl) ?_)
 refine .p (nC rfl rfl (fA rfl aF9 rfl (lN rfl vZ rfl ((hbx.rd (rfl)).rd) ?_)))
 refine .p (nC rfl rfl (fA rfl aW7 rfl (fA rfl aMI rfl (lN rfl bA rfl ((hbx.rd (rfl)).rd) ?_))))
 refine kV rfl aYO (aB rfl aF) (aQb d.now v sz _ hbn) ?_
 refine cP rfl rfl rfl rfl (.g (cD rfl (fun c1=>?_) (fun c1=>?_)))
 ·have c1k:=c1
  try simp only [aD,aE] at c1
  refine .ret (aN Tryz.results233 .nil ?_)
  exact ⟨rfl,rfl⟩
 have c1k:=c1
 exact absurd hm (of_decide_eq_false c1)
end Go.Proofs.YtoifkgkandfeiaaGreatDoor
namespace Go.Proofs.YtoifkgkandfeiaaGreatDoor
open Go.Tan Go.RowKit Go.Maps Go.Sort Go.Shelf
theorem aXl:aJ Tryz.prog 188=true:=by kernel_rfl
theorem aXj:aJ Tryz.prog 178=true:=by kernel_rfl
theorem aP5 (l:List UInt8) (c:UInt8) (G:PM):Ct Tryz.prog 188 ([.string (aG l),.string (aG [c])]:List Value).toArray G [] (fun _ μ' u=>μ'=[]∧u=.int .i64 (Lib.indexByte l c)):=aBo fun w=>Tryz.stringslite_Index_one (aG l) c w
theorem aOT (l p:List UInt8) (G:PM):Ct Tryz.prog 115 ([.string (aG l),.string (aG p)]:List Value).toArray G [] (fun _ μ' u=>μ'=[]∧u=.tuple #[.string (aG (Lib.trimPrefix l p)),.bool (Lib.hasPrefix l p)]):=aBo fun w=>Tryz.strings_CutPrefix (aG l) (aG p) w
theorem aP3 (l p:List UInt8) (G:PM):Ct Tryz.prog 116 ([.string (aG l),.string (aG p)]:List Value).toArray G [] (fun _ μ' u=>μ'=[]∧u=.bool (Lib.hasPrefix l p)):=aBo fun w=>Tryz.strings_HasPrefix (aG l) (aG p) w
theorem aUJ (l:List UInt8) (c:UInt8) (G:PM) (hl:l.length≤1000000000):Ct Tryz.prog 178 ([.string (aG l),.string (aG [c])]:List Value).toArray G [] (fun _ μ' u=>μ'=[]∧u=.tuple #[.string (aG (bB c l).1),.string (aG (bB c l).2.1),.bool (bB c l).2.2]):=by
 refine Ct.of Tryz.func178 rfl Tryz.ntmps178 rfl fun w0 hs0=>?_
 have h1c:(aG [c]).size=1:=rfl
 have hix:=aCA c l
 refine .g (kV rfl aXl (aB rfl (aB rfl aF)) (aP5 l c _) ?_)
 refine .g (cP rfl rfl rfl rfl (.g (cD rfl (fun c1=>?_) (fun c1=>?_))))
 ·have c1k:=c1
  try simp only [aD,aE] at c1
  refine .seq (bZ (mc:=⟨false,false⟩) [0,1,2,3,4,5,6,7,8,9,10,11] aY (by kernel_rfl) ?_)
  refine .p (sE ((Lib.indexByte l c).toNat) rfl .no cE (.u rfl) (.u rfl) (by omega) (fun _=>by have:=aCA c l; rw [dJ]; omega) ?_)
  refine .p (ls rfl .no cE (.u rfl) (aR rfl rfl rfl rfl ?_))
  refine sD (((Lib.indexByte l c).toNat+1)) rfl .no cE (.u rfl) (.u rfl) (by omega) (fun _=>by have:=aCA c l; rw [dJ]; omega) ?_
  refine aS rfl rfl (aS rfl rfl (aS rfl rfl (.nc (.ret (aN Tryz.results178 (.tmp rfl (.tmp rfl (.tmp rfl .nil))) ?_)))))
  refine ⟨rfl,?_⟩; rw [aVA,vE,aHk,if_pos (by omega)]; rfl
 have c1k:=c1
 try simp only [aD,aE] at c1
 refine .skip (.code (.seq (dI rfl rfl (mV rfl rfl (aS rfl rfl (aS rfl rfl (aS rfl rfl (.nc (.ret (aN Tryz.results178 (.tmp rfl (.tmp rfl (.tmp rfl .nil))) ?_))))))))))
 refine ⟨rfl,?_⟩; rw [aHk,if_neg (by omega)]; rfl
theorem aKV (l:List UInt8) (c:UInt8) (G:PM) (hl:l.length≤1000000000):Ct Tryz.prog 113 ([.string (aG l),.string (aG [c])]:List Value).toArray G [] (fun _ μ' u=>μ'=[]∧u=.tuple #[.string (aG (bB c l).1),.string (aG (bB c l).2.1),.bool (bB c l).2.2]):=by
 refine Ct.of Tryz.func113 rfl Tryz.ntmps113 rfl fun w0 hs0=>?_
 refine .g (kV rfl aXj (aB rfl (aB rfl aF)) (aUJ l c _ hl) ?_)
 refine eX rfl rfl rfl (eX rfl rfl rfl (eX rfl rfl rfl (aS rfl rfl (aS rfl rfl (aS rfl rfl (.nc (.ret (aN Tryz.results113 (.tmp rfl (.tmp rfl (.tmp rfl .nil))) ?_))))))))
 exact ⟨rfl,rfl⟩
end Go.Proofs.YtoifkgkandfeiaaGreatDoor
namespace Go.Proofs.YtoifkgkandfeiaaGreatDoor
open Go.Tan Go.RowKit Go.Maps Go.Sort Go.Shelf
theorem aML:aQ Tryz.prog 94 3=some 3:=by kernel_rfl
theorem lC:cX Tryz.prog 91 [0]=some ([.int .i64 0],[(0,1)]):=by kernel_rfl
theorem jM:srT Tryz.prog 91=true:=by kernel_rfl
theorem uL (bl:Nat) (l:Ln) (b:Bool) (G:PM):Cp Tryz.prog 68 ([.pointer (some ⟨bl,0,none⟩),.bool b]:List Value).toArray G [.blk bl (cl (Ln.cells l) 94)] (fun _ μ' u=>b=true∧μ'=[.blk bl (cl (Ln.cells l) 94)]∧u=gO []) (fun ch=>∃ e,ch=[mW 91 e]∧b=false∧e=l.last):=by
 refine Cp.of Tryz.func68 rfl Tryz.ntmps68 rfl fun w0 hs0=>?_
 refine .g (nt rfl .no (.u rfl) (.g (cD rfl (fun c1=>?_) (fun c1=>?_))))
 ·have c1k:=c1
  try simp only [aD,aE] at c1
  refine .g (nC rfl rfl (fZ rfl aML rfl (lO rfl bA rfl .here (by first|exact aK rfl|rfl) ?_)))
  refine bC rfl .no lC (.cons (.u rfl) rfl .nil) rfl ?_
  refine kN rfl jM (.u rfl) ?_
  refine kU rfl rfl (fun _ _ _ _=>⟨l.last,rfl,by simpa using c1,rfl⟩)
 have c1k:=c1
 try simp only [aD,aE] at c1
 refine .g (We.fin Tryz.results68 .nil (mS .here rfl mN) ?_)
 exact ⟨by simpa using c1,rfl,rfl⟩
end Go.Proofs.YtoifkgkandfeiaaGreatDoor
namespace Go.Tan
open Go.RowKit
def aCU (p:Nat) (c:UInt8):List (Nat×List UInt8)→List (Nat×List UInt8)
 | (_,w) :: t=>(p,c :: w) :: t
 | []=>[]
def lY:Nat→List UInt8→List (Nat×List UInt8)
 | p,[]=>[(p,[])]
 | p,c :: r=>if c=32 then (p,[]) :: lY (p+1) r else aCU p c (lY (p+1) r)
theorem aFl (p:Nat) (c:UInt8) (r:List UInt8):lY p (c :: r)=if c=32 then (p,[]) :: lY (p+1) r else aCU p c (lY (p+1) r):=rfl
theorem tH:∀ (s:List UInt8) (p:Nat),lY p s=(p,(bB 32 s).1) :: (if (bB 32 s).2.2=true then lY (p+(bB 32 s).1.length+1) (bB 32 s).2.1 else [])
 | [],p=>rfl
 | c :: r,p=>by
  rw [aFl]
  unfold bB
  by_cases h:c=32
  ·rw [if_pos h,if_pos h]; simp
  ·rw [if_neg h,if_neg h,tH r (p+1)]
   dsimp only
   rw [show p+1+(bB 32 r).1.length+1=p+(c :: (bB 32 r).1).length+1 from by simp only [List.length_cons]; omega]
   rfl
def oT (l:Ln):List (Nat×List UInt8):=if l.more=true then lY l.pos l.rest else []
def gE (s:List UInt8):List (Nat×List UInt8):=if s=[] then [] else lY 0 s
theorem aD1 {c:UInt8}:∀ {a:List UInt8},(∀ x∈a,x≠c)→bB c a=(a,[],false)
 | [],_=>rfl
 | x :: r,h=>by
  unfold bB
  rw [if_neg (h x (List.mem_cons_self ..)),aD1 fun y hy=>h y (List.mem_cons_of_mem _ hy)]
theorem aD0 {c:UInt8} {b:List UInt8}:∀ {a:List UInt8},(∀ x∈a,x≠c)→bB c (a++c :: b)=(a,b,true)
 | [],_=>by show bB c (c :: b)=_; unfold bB; rw [if_pos rfl]
 | x :: r,h=>by
  show bB c (x :: (r++c :: b))=_
  unfold bB
  rw [if_neg (h x (List.mem_cons_self ..)),aD0 fun y hy=>h y (List.mem_cons_of_mem _ hy)]
def oS (s:List UInt8) (f:Nat):List (Nat×List UInt8):=if f≤s.length then lY f (s.drop f) else []
def gK (s:List UInt8) (f i:Nat):List UInt8:=(s.drop f).take (i-f)
theorem aS5 {s:List UInt8} {f i:Nat} (hf:f≤i) (hi:i≤s.length):(gK s f i).length=i-f:=by unfold gK; rw [List.length_take,List.length_drop]; omega
theorem aVt {s:List UInt8} {f:Nat} (hf:f≤s.length) (hn:∀ x∈gK s f s.length,x≠32):oS s f=(f,gK s f s.length) :: oS s (s.length+1):=by
 have e:gK s f s.length=s.drop f:=by unfold gK; exact List.take_of_length_le (by rw [List.length_drop]; exact Nat.le_refl _)
 rw [e] at hn ⊢
 unfold oS
 rw [if_pos hf,if_neg (by omega),tH,aD1 hn,if_neg (fun h=>Bool.noConfusion h)]
theorem aVu {s:List UInt8} {f i:Nat} (hi:i<s.length) (hf:f≤i) (h:s[i]? = some 32) (hn:∀ x∈gK s f i,x≠32):oS s f=(f,gK s f i) :: oS s (i+1):=by
 have e:s.drop f=gK s f i++32 :: s.drop (i+1):=by
  have h1:s.drop i=32 :: s.drop (i+1):=by
   have h2:s[i]=32:=by rw [List.getElem?_eq_getElem hi] at h; exact Option.some.inj h
   rw [List.drop_eq_getElem_cons hi,h2]
  have h3:(s.drop f).drop (i-f)=s.drop i:=by rw [List.drop_drop]; congr 1; omega
  rw [← h1,←h3]
  exact (List.take_append_drop _ _).symm
 unfold oS
 rw [if_pos (by omega),if_pos (by omega),e,tH,aD0 hn,if_pos rfl,aS5 hf (Nat.le_of_lt hi)]
 rw [show f+(i-f)+1=i+1 from by omega]
theorem aS8 {s:List UInt8} {f i:Nat} {c:UInt8} (hf:f≤i) (h:s[i]? = some c) (hc:c≠32) (hn:∀ x∈gK s f i,x≠32):∀ x∈gK s f (i+1),x≠32:=by
 unfold gK at hn ⊢
 rw [show i+1-f=(i-f)+1 from by omega,List.take_add_one]
 intro x hx
 rcases List.mem_append.1 hx with h1 | h1
 ·exact hn x h1
 ·rw [List.getElem?_drop,show f+(i-f)=i from by omega,h] at h1
  simp at h1; subst h1; exact hc
theorem aJ3 (s:List UInt8) (f:Nat):gK s f f=[]:=by unfold gK; rw [Nat.sub_self]; rfl
def fB {β:Type}:Except Nat Ln→(Ln→Except Nat β)→Except Nat β
 | .error e,_=>.error e
 | .ok l,f=>f l
def RelS (W:List (Nat×List UInt8)) (n I:Nat) (B:Option Nat):Except Nat Ln→Prop
 | .ok l=>B=none∧I≤W.length∧oT l=W.drop I∧l.pos+l.rest.length=n∧(l.more=false→l.rest=[])∧(∀ q,0<I→W[I-1]? = some q→q.1=l.last)
 | .error e=>B=some e∧I≤W.length
def aBW {α:Type} (f:Ln→Except Nat (α×Ln)) (r r':Except Nat Ln) (v:α):Prop:=∀ (β:Type) (K:α→Ln→Except Nat β),fB r (fun l=>aZ (f l) K)=fB r' (K v)
def jR (W:List (Nat×List UInt8)) (I:Nat):Option Nat→Nat
 | some b=>b
 | none=>match W[I-1]? with
  | some q=>q.1
  | none=>0
theorem RelS.le {W:List (Nat×List UInt8)} {n I:Nat} {B:Option Nat} {r:Except Nat Ln} (h:RelS W n I B r):I≤W.length:=by
 cases r with
 | error e=>exact h.2
 | ok l=>exact h.2.1
theorem RelS.fail {W:List (Nat×List UInt8)} {n I:Nat} {B:Option Nat} {r:Except Nat Ln} (h:RelS W n I B r) (h0:B=none→0<I):RelS W n I (some (jR W I B)) (.error (jR W I B))∧∀ β:Type,fB r (fun l=>(.error l.last:Except Nat β))=.error (jR W I B):=by
 refine ⟨⟨rfl,h.le⟩,fun β=>?_⟩
 cases r with
 | error e =>
  obtain ⟨rfl,_⟩:=h
  rfl
 | ok l =>
  obtain ⟨rfl,h1,_,_,_,h6⟩:=h
  have hI:=h0 rfl
  have hq:I-1<W.length:=by omega
  have h7:=h6 W[I-1] hI (List.getElem?_eq_getElem hq)
  unfold jR
  rw [List.getElem?_eq_getElem hq]
  show Except.error l.last=_
  rw [← h7]
theorem RelS.end' {W:List (Nat×List UInt8)} {n I:Nat} {B:Option Nat} {r:Except Nat Ln} (h:RelS W n I B r) (hI:¬ I<W.length) (v:List UInt8):∃ r',RelS W n I (some (B.getD n)) r'∧aBW bV r r' v:=by
 refine ⟨.error (B.getD n),⟨rfl,h.le⟩,fun β K=>?_⟩
 cases r with
 | error e=>obtain ⟨rfl,_⟩:=h; rfl
 | ok l =>
  obtain ⟨rfl,h1,h2,h3,h4,h6⟩:=h
  have hd:W.drop I=[]:=List.drop_eq_nil_of_le (by omega)
  rw [hd] at h2
  have hm:l.more=false:=by
   cases hm:l.more with
   | false=>rfl
   | true=>unfold oT at h2; rw [if_pos hm,tH] at h2; cases h2
  have hp:l.pos=n:=by rw [h4 hm] at h3; simpa using h3
  show aZ (bV l) K=.error n
  rw [← hp]
  exact iF (by unfold bV; rw [if_neg (by rw [hm]; decide)])
theorem aPo (W:List (Nat×List UInt8)) {I:Nat} {q:Nat×List UInt8} (h:W[I]? = some q) (B:Option Nat):jR W (I+1) B=B.getD q.1:=by
 cases B with
 | some b=>rfl
 | none=>unfold jR; rw [Nat.add_sub_cancel,h]; rfl
theorem RelS.step {W:List (Nat×List UInt8)} {n I:Nat} {B:Option Nat} {r:Except Nat Ln} {q:Nat×List UInt8} (h:RelS W n I B r) (hq:W[I]? = some q) (he:q.2≠[]):∃ r',RelS W n (I+1) B r'∧aBW bV r r' q.2:=by
 have hI:I<W.length:=(List.getElem?_eq_some_iff.1 hq).1
 cases r with
 | error e=>exact ⟨.error e,⟨h.1,hI⟩,fun β K=>rfl⟩
 | ok l =>
  obtain ⟨rfl,h1,h2,h3,h4,h6⟩:=h
  have hd:W.drop I=q :: W.drop (I+1):=by
   rw [List.drop_eq_getElem_cons hI]
   rw [List.getElem?_eq_getElem hI] at hq
   rw [Option.some.inj hq]
  rw [hd] at h2
  have hm:l.more=true:=by
   cases hm:l.more with
   | true=>rfl
   | false=>unfold oT at h2; rw [if_neg (by rw [hm]; decide)] at h2; cases h2
  unfold oT at h2
  rw [if_pos hm,tH] at h2
  obtain ⟨e1,e2⟩:=List.cons.inj h2
  subst e1
  have hw:bV l=.ok ((bB 32 l.rest).1,⟨(bB 32 l.rest).2.1,l.pos+(bB 32 l.rest).1.length+(if (bB 32 l.rest).2.2=true then 1 else 0),(bB 32 l.rest).2.2,l.pos⟩):=by
   unfold bV; rw [if_pos hm,if_neg he]
  refine ⟨.ok _,⟨rfl,hI,?_,?_,?_,?_⟩,fun β K=>dB hw⟩
  ·unfold oT
   dsimp only
   rw [← e2]
   split
   ·rename_i hb; rfl
   rfl
  ·have:=xE 32 l.rest
   dsimp only
   generalize (if (bB 32 l.rest).2.2=true then 1 else 0)=z at this ⊢
   omega
  ·intro hb; exact (aHl 32 l.rest hb).2
  intro q' _ hq'
  rw [Nat.add_sub_cancel] at hq'
  rw [hq] at hq'
  cases hq'; rfl
theorem RelS.bad {W:List (Nat×List UInt8)} {n I:Nat} {B:Option Nat} {r:Except Nat Ln} {q:Nat×List UInt8} (h:RelS W n I B r) (hq:W[I]? = some q) (he:q.2=[]):∃ r',RelS W n (I+1) (some (jR W (I+1) B)) r'∧aBW bV r r' q.2:=by
 have hI:I<W.length:=(List.getElem?_eq_some_iff.1 hq).1
 refine ⟨.error (jR W (I+1) B),⟨rfl,hI⟩,fun β K=>?_⟩
 rw [aPo W hq]
 cases r with
 | error e=>obtain ⟨rfl,_⟩:=h; rfl
 | ok l =>
  obtain ⟨rfl,h1,h2,h3,h4,h6⟩:=h
  have hd:W.drop I=q :: W.drop (I+1):=by
   rw [List.drop_eq_getElem_cons hI]
   rw [List.getElem?_eq_getElem hI] at hq
   rw [Option.some.inj hq]
  rw [hd] at h2
  have hm:l.more=true:=by
   cases hm:l.more with
   | true=>rfl
   | false=>unfold oT at h2; rw [if_neg (by rw [hm]; decide)] at h2; cases h2
  unfold oT at h2
  rw [if_pos hm,tH] at h2
  obtain ⟨e1,e2⟩:=List.cons.inj h2
  subst e1
  exact iF (by unfold bV; rw [if_pos hm,if_pos he]; rfl)
def StepP {α:Type} (W:List (Nat×List UInt8)) (n:Nat) (f:Ln→Except Nat (α×Ln)) (r:Except Nat Ln) (I:Nat) (v:α) (I':Nat) (B':Option Nat) (r':Except Nat Ln):Prop:=RelS W n I' B' r'∧aBW f r r' v∧(B'=none→0<I')∧(I<W.length→I'=I+1)
theorem StepP.end' {W:List (Nat×List UInt8)} {n I:Nat} {B:Option Nat} {r:Except Nat Ln} (h:RelS W n I B r) (hI:¬ I<W.length) (v:List UInt8) {x:Nat} (hx:x=B.getD n):∃ r',StepP W n bV r I v I (some x) r':=by
 obtain ⟨r',h1,h2⟩:=h.end' hI v
 exact ⟨r',hx▸h1,h2,(fun h=>by cases h),fun h=>absurd h hI⟩
theorem StepP.step {W:List (Nat×List UInt8)} {n I:Nat} {B:Option Nat} {r:Except Nat Ln} {q:Nat×List UInt8} (h:RelS W n I B r) (hq:W[I]? = some q) (he:q.2≠[]):∃ r',StepP W n bV r I q.2 (I+1) B r':=by
 obtain ⟨r',h1,h2⟩:=h.step hq he
 exact ⟨r',h1,h2,fun _=>Nat.succ_pos _,fun _=>rfl⟩
theorem StepP.bad {W:List (Nat×List UInt8)} {n I:Nat} {B:Option Nat} {r:Except Nat Ln} {q:Nat×List UInt8} (h:RelS W n I B r) (hq:W[I]? = some q) (he:q.2=[]):∃ r',StepP W n bV r I q.2 (I+1) (some (jR W (I+1) B)) r':=by
 obtain ⟨r',h1,h2⟩:=h.bad hq he
 exact ⟨r',h1,h2,fun _=>Nat.succ_pos _,fun _=>rfl⟩
theorem StepP.ok {α:Type} {W:List (Nat×List UInt8)} {n I I':Nat} {B':Option Nat} {r r':Except Nat Ln} {w:List UInt8} {f:Ln→Except Nat (α×Ln)} {g:List UInt8→Ln→Except Nat (α×Ln)} (h:StepP W n bV r I w I' B' r') (hf:∀ l,f l=aZ (bV l) g) {v:α} (hg:∀ l,g w l=.ok (v,l)):StepP W n f r I v I' B' r':=by
 refine ⟨h.1,fun β K=>?_,h.2.2⟩
 have h2:=h.2.1 β (fun s l=>aZ (g s l) K)
 have e1:(fun l=>aZ (f l) K)=(fun l=>aZ (bV l) fun s l=>aZ (g s l) K):=by
  funext l
  rw [hf l]
  cases bV l with
  | error e=>rfl
  | ok p=>rfl
 rw [e1,h2]
 congr 1
 funext l
 rw [hg l]; rfl
theorem StepP.no {α:Type} {W:List (Nat×List UInt8)} {n I I':Nat} {B':Option Nat} {r r':Except Nat Ln} {w:List UInt8} {f:Ln→Except Nat (α×Ln)} {g:List UInt8→Ln→Except Nat (α×Ln)} (h:StepP W n bV r I w I' B' r') (hf:∀ l,f l=aZ (bV l) g) (hg:∀ l,g w l=.error l.last) (v:α):StepP W n f r I v I' (some (jR W I' B')) (.error (jR W I' B')):=by
 obtain ⟨h3,h4⟩:=h.1.fail h.2.2.1
 refine ⟨h3,fun β K=>?_,(fun h=>by cases h),h.2.2.2⟩
 have h2:=h.2.1 β (fun s l=>aZ (g s l) K)
 have e1:(fun l=>aZ (f l) K)=(fun l=>aZ (bV l) fun s l=>aZ (g s l) K):=by
  funext l
  rw [hf l]
  cases bV l with
  | error e=>rfl
  | ok p=>rfl
 rw [e1,h2]
 have e2:(fun l=>aZ (g w l) K)=fun l=>.error l.last:=by
  funext l
  rw [hg l]; rfl
 rw [e2,h4]; rfl
def gG:Option Nat→Int
 | none => -1
 | some b=>(b:Int)
theorem zY {B:Option Nat} (h:gG B<0):B=none:=by
 cases B with
 | none=>rfl
 | some b=>exact absurd h (by show ¬ ((b:Int)<0); omega)
theorem aBd {B:Option Nat} (h:¬ gG B<0):∃ b,B=some b:=by
 cases B with
 | none=>exact absurd (show gG none<0 by decide) h
 | some b=>exact ⟨b,rfl⟩
def aAs (s:List UInt8) (l:Ln):Except Nat (List UInt8×Ln):=.ok (if s=[46] then [] else s,l)
theorem aKr (l:Ln):gB l=aZ (bV l) aAs:=by
 unfold gB
 cases bV l with
 | error e=>rfl
 | ok p=>rfl
def xY (s:List UInt8) (l:Ln):Except Nat (Int×Ln):=match jJ s with
 | some n=>.ok (n,l)
 | none=>.error l.last
theorem aEy (l:Ln):dN l=aZ (bV l) xY:=by
 unfold dN
 cases bV l with
 | error e=>rfl
 | ok p=>rfl
theorem aRy {s:List UInt8} (h:(dF s).2=true) (l:Ln):xY s l=.ok ((dF s).1,l):=by
 unfold xY; unfold dF at h ⊢
 cases e:jJ s with
 | none=>rw [e] at h; cases h
 | some n=>rfl
theorem aRx {s:List UInt8} (h:(dF s).2=false) (l:Ln):xY s l=.error l.last:=by
 unfold xY; unfold dF at h
 cases e:jJ s with
 | none=>rfl
 | some n=>rw [e] at h; cases h
def uN (s:List UInt8) (l:Ln):Except Nat (BitVec 64×Ln) :=
  if s=[110,111,119] then .ok (18446744073709551615#64,l)
  else match jJ s with
   | some n=>if 0≤n then .ok (BitVec.ofInt 64 n,l) else .error l.last
   | none=>.error l.last
theorem aEw (l:Ln):gJ l=aZ (bV l) uN:=by
 unfold gJ
 cases bV l with
 | error e=>rfl
 | ok p=>rfl
theorem aRT {s:List UInt8} (hn:¬ s=[110,111,119]) (h:(dF s).2=true) (h0:0≤(dF s).1) (l:Ln):uN s l=.ok (BitVec.ofInt 64 (dF s).1,l):=by
 unfold uN; rw [if_neg hn]; unfold dF at h h0 ⊢
 cases e:jJ s with
 | none=>rw [e] at h; cases h
 | some n =>
  rw [e] at h0
  dsimp only at h0 ⊢
  rw [if_pos h0]
theorem aRR {s:List UInt8} (hn:¬ s=[110,111,119]) (h:(dF s).2=false∨(dF s).1<0) (l:Ln):uN s l=.error l.last:=by
 unfold uN; rw [if_neg hn]; unfold dF at h
 cases e:jJ s with
 | none=>rfl
 | some n =>
  rw [e] at h
  dsimp only at h ⊢
  rw [if_neg (by rcases h with h | h; cases h; omega)]
def pR (s:List UInt8) (l:Ln):Except Nat (Opn×Ln) :=
  if eF s=true then .ok (⟨0#8,aG s.tail,⟨#[]⟩⟩,l)
  else if (bB 61 s).2.2=true∧(bB 61 s).1.head? = some 43 then .ok (⟨1#8,aG (bB 61 s).1.tail,aG (bB 61 s).2.1⟩,l)
  else .error l.last
theorem aAb (l:Ln):eG l=aZ (bV l) pR:=by
 unfold eG
 cases bV l with
 | error e=>rfl
 | ok p=>rfl
theorem RelS.more {W:List (Nat×List UInt8)} {n I:Nat} {B:Option Nat} {l:Ln} (h:RelS W n I B (.ok l)):l.more=decide (I<W.length):=by
 obtain ⟨_,h1,h2,_⟩:=h
 by_cases hI:I<W.length
 ·rw [decide_eq_true hI]
  cases hm:l.more with
  | true=>rfl
  | false =>
   unfold oT at h2; rw [if_neg (by rw [hm]; decide),List.drop_eq_getElem_cons hI] at h2; cases h2
 ·rw [decide_eq_false hI]
  cases hm:l.more with
  | false=>rfl
  | true=>unfold oT at h2; rw [if_pos hm,tH,List.drop_eq_nil_of_le (by omega)] at h2; cases h2
theorem RelS.opsS {β:Type} {W:List (Nat×List UInt8)} {n I:Nat} {B:Option Nat} {r:Except Nat Ln} (h:RelS W n I B r) (hI:I<W.length) (os:List Opn) (K:List Opn→Ln→Except Nat β):fB r (fun l=>aZ (dL os (fI l)) K)=fB r (fun l=>aZ (eG l) fun o l'=>aZ (dL (os++[o]) (fI l')) K):=by
 cases r with
 | error e=>rfl
 | ok l =>
  have hm:l.more=true:=by rw [h.more]; exact decide_eq_true hI
  show aZ (dL os (fI l)) K=aZ (eG l) _
  cases ho:eG l with
  | error e=>rw [aJq hm ho]; rfl
  | ok p=>rw [aJr hm ho]; rfl
theorem RelS.opsE {β:Type} {W:List (Nat×List UInt8)} {n I:Nat} {B:Option Nat} {r:Except Nat Ln} (h:RelS W n I B r) (hI:¬ I<W.length) (os:List Opn) (K:List Opn→Ln→Except Nat β):fB r (fun l=>aZ (dL os (fI l)) K)=fB r (K os):=by
 cases r with
 | error e=>rfl
 | ok l =>
  have hm:l.more=false:=by rw [h.more]; exact decide_eq_false hI
  show aZ (dL os (fI l)) K=_
  rw [kP hm]; rfl
theorem RelS.numsS {β:Type} {W:List (Nat×List UInt8)} {n I:Nat} {B:Option Nat} {r:Except Nat Ln} (h:RelS W n I B r) (hI:I<W.length) (os:List Int) (K:List Int→Ln→Except Nat β):fB r (fun l=>aZ (dL os (gA l)) K)=fB r (fun l=>aZ (dN l) fun o l'=>aZ (dL (os++[o]) (gA l')) K):=by
 cases r with
 | error e=>rfl
 | ok l =>
  have hm:l.more=true:=by rw [h.more]; exact decide_eq_true hI
  show aZ (dL os (gA l)) K=aZ (dN l) _
  cases ho:dN l with
  | error e=>rw [aJc hm ho]; rfl
  | ok p=>rw [aJd hm ho]; rfl
theorem RelS.numsE {β:Type} {W:List (Nat×List UInt8)} {n I:Nat} {B:Option Nat} {r:Except Nat Ln} (h:RelS W n I B r) (hI:¬ I<W.length) (os:List Int) (K:List Int→Ln→Except Nat β):fB r (fun l=>aZ (dL os (gA l)) K)=fB r (K os):=by
 cases r with
 | error e=>rfl
 | ok l =>
  have hm:l.more=false:=by rw [h.more]; exact decide_eq_false hI
  show aZ (dL os (gA l)) K=_
  rw [kO hm]; rfl
theorem aSj {β:Type} (o:Opn) (r:Except Nat Ln) (K:List Opn→Ln→Except Nat β):fB r (fun l=>aZ (fI l) fun os=>K (o :: os))=fB r (fun l=>aZ (dL [o] (fI l)) K):=by
 congr 1
 funext l
 cases fI l with
 | error e=>rfl
 | ok p=>rfl
theorem aSB {β:Type} (r:Except Nat Ln) (K:List Int→Ln→Except Nat β):fB r (fun l=>aZ (gA l) K)=fB r (fun l=>aZ (dL [] (gA l)) K):=by
 congr 1
 funext l
 rw [aHH]
theorem lJ {β:Type} {r:Except Nat Ln} {f g:Ln→Except Nat β} (h:∀ l,f l=g l):fB r f=fB r g:=by
 rw [funext h]
theorem RelS.dead {W:List (Nat×List UInt8)} {n I b:Nat} {r:Except Nat Ln} (h:RelS W n I (some b) r):r=.error b:=by
 cases r with
 | error e=>cases h.1; rfl
 | ok l=>cases h.1
theorem aNN (s:List UInt8):RelS (gE s) s.length 0 none (.ok ⟨s,0, !decide (s=[]),0⟩):=by
 refine ⟨rfl,Nat.zero_le _,?_,?_,?_,fun _ h=>absurd h (Nat.lt_irrefl 0)⟩
 ·unfold oT gE
  by_cases h:s=[]
  ·rw [if_pos h,decide_eq_true h]; rfl
  rw [if_neg h,decide_eq_false h]; rfl
 ·dsimp only; omega
 intro h
 have:decide (s=[])=true:=by simpa using h
 exact of_decide_eq_true this
theorem RelS.fin {W:List (Nat×List UInt8)} {n I:Nat} {B:Option Nat} {r:Except Nat Ln} {s:List UInt8} {e:EvD} (h:RelS W n I B r) (hc:kT s=fB r (fun l=>cJ l e)):(∀ b,B=some b→kT s=.error b)∧(B=none→I<W.length→∀ q,W[I]? = some q→kT s=.error q.1)∧(B=none→¬ I<W.length→kT s=.ok e):=by
 refine ⟨fun b hb=>?_,fun hb hI q hq=>?_,fun hb hI=>?_⟩
 ·subst hb
  cases r with
  | error x=>cases h.1; exact hc
  | ok l=>cases h.1
 ·subst hb
  cases r with
  | error x=>cases h.1
  | ok l =>
   have hm:l.more=true:=by rw [h.more]; exact decide_eq_true hI
   have h2:=h.2.2.1
   unfold oT at h2
   rw [if_pos hm,tH,List.drop_eq_getElem_cons hI] at h2
   rw [List.getElem?_eq_getElem hI] at hq
   have h3:=(List.cons.inj h2).1
   rw [Option.some.inj hq] at h3
   rw [hc]
   show cJ l e=_
   unfold cJ
   rw [if_pos hm,←h3]
 subst hb
 cases r with
 | error x=>cases h.1
 | ok l =>
  have hm:l.more=false:=by rw [h.more]; exact decide_eq_false hI
  rw [hc]
  show cJ l e=_
  unfold cJ
  rw [if_neg (by rw [hm]; decide)]
def gP (q:Nat×List UInt8):ByteArray:=aG q.2
def wat (q:Nat×List UInt8):Int:=(q.1:Int)
end Go.Tan
