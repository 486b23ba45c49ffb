/- Lemmas and contracts of functions, joined. -/
import Derived.Test.YtoifkgkandfeiaaGreatDoorWk3
import Derived.Shelf.SlIter.Nil
import Derived.Shelf.SlIter.Sorted
import Derived.Shelf.SortM.Plain
import Derived.Shelf.SortM.SortNone
set_option linter.unusedSimpArgs false
set_option linter.unusedVariables false
set_option linter.unusedSectionVars false
namespace Go.Proofs.YtoifkgkandfeiaaGreatDoor
open Go.Tan Go.RowKit
theorem yU:aT Tryz.prog 184 0=some 0:=by kernel_rfl
theorem vY:aT Tryz.prog 184 3=some 3:=by kernel_rfl
theorem yW:aT Tryz.prog 184 7=some 7:=by kernel_rfl
theorem yV:aT Tryz.prog 184 6=some 6:=by kernel_rfl
theorem aFl:aT Tryz.prog 184 5=some 5:=by kernel_rfl
theorem aFk:aT Tryz.prog 184 4=some 4:=by kernel_rfl
theorem aA7:aT Tryz.prog 159 2=some 6:=by kernel_rfl
theorem aFj:aT Tryz.prog 184 1=some 1:=by kernel_rfl
theorem aA8:aT Tryz.prog 159 5=some 9:=by kernel_rfl
theorem yQ:fH Tryz.prog 157=some (5,23,1):=by kernel_rfl
theorem aUO (a b:Meta) (G:PM) (h0:0≤a.level):Ct Tryz.prog 320 ([a.val,b.val]:List Value).toArray G [] (fun _ μ' u=>μ'=[]∧u=.bool (tK a.level a b)):=by
 refine Ct.of Tryz.func320 rfl Tryz.ntmps320 rfl fun w0 hs0=>?_
 refine .seq (dP rfl rfl ?_)
 refine bX rfl rfl rfl ?_; intro b2
 refine bX rfl rfl rfl ?_; intro b3
 refine .g (fZ rfl yU rfl (lO rfl bM rfl aC rfl ?_))
 refine cP rfl rfl rfl rfl (.g (cD rfl (fun c1=>?_) (fun c1=>?_)))
 ·have c1k:=c1
  try simp only [aD] at c1
  refine .g (fZ rfl vY rfl (lO rfl aZ rfl aC rfl ?_))
  refine fZ rfl vY rfl (lO rfl aZ rfl .here rfl ?_)
  refine cP rfl rfl rfl rfl (aS rfl rfl (.nc (.ret (aK Tryz.results320 (.tmp rfl .nil) ?_))))
  exact ⟨rfl,congrArg Value.bool (by rw [← aKA a b h0,if_pos c1k])⟩
 have c1k:=c1
 try simp only [aD] at c1
 refine .g (fZ rfl yW rfl (lO rfl cW rfl aC rfl ?_))
 refine fZ rfl yV rfl (lO rfl cW rfl .here rfl ?_)
 refine cs rfl .no (.u rfl) (.u rfl) rfl (aS rfl rfl (.nc (.ret (aK Tryz.results320 (.tmp rfl .nil) ?_))))
 exact ⟨rfl,congrArg Value.bool (by rw [← aKA a b h0,if_neg (by rw [c1k]; simp)]; rfl)⟩
theorem aPc (s:State) (hd:Nat→Sh) (m:Meta) (b:Nat) (G:PM) (hp:RdNP G b 0 (s.cells hd)) (h0:0≤m.level):Ct Tryz.prog 319 ([.pointer (some ⟨b,0,none⟩),m.val]:List Value).toArray G [] (fun _ μ' u=>μ'=[]∧u=.bool (good s m)):=by
 refine Ct.of Tryz.func319 rfl Tryz.ntmps319 rfl fun w0 hs0=>?_
 refine .seq (bB rfl rfl ?_)
 refine bX rfl rfl rfl ?_; intro b3
 refine .g (fZ rfl yU rfl (lO rfl bM rfl .here rfl ?_))
 refine cP rfl rfl rfl rfl (.g (cD rfl (fun c1=>?_) (fun c1=>?_)))
 ·have c1k:=c1
  try simp only [aD] at c1
  refine .g (gK rfl c1k ?_)
  refine .seq (aQ rfl rfl (aS rfl rfl (.nc (.ret (aK Tryz.results319 (.tmp rfl .nil) ?_)))))
  exact ⟨rfl,by simp [iB,good]; omega⟩
 have c1k:=c1
 try simp only [aD] at c1
 refine .g (fZ rfl yV rfl (lO rfl cW rfl .here rfl ?_))
 refine fZ rfl yW rfl (lO rfl cW rfl .here rfl ?_)
 refine cs rfl .no (.u rfl) (.u rfl) rfl (.g (cD rfl (fun c2=>?_) (fun c2=>?_)))
 ·have c2k:=c2
  try simp only [aD] at c2
  refine .g (gK rfl c2k ?_)
  refine .seq (aQ rfl rfl (aS rfl rfl (.nc (.ret (aK Tryz.results319 (.tmp rfl .nil) ?_)))))
  exact ⟨rfl,by have h:le m.min m.max=false:=(by simpa [le] using c2k); simp [iB,good,h]⟩
 have c2k:=c2
 try simp only [aD] at c2
 refine .g (fZ rfl yV rfl (lO rfl cW rfl .here rfl ?_))
 refine ls rfl .no lU (.u rfl) (fZ rfl yW rfl (lO rfl cW rfl .here rfl ?_))
 refine ls rfl .no lU (.u rfl) (mA rfl .no (.u rfl) (.u rfl) ?_)
 refine cP rfl rfl rfl rfl (.g (cD rfl (fun c3=>?_) (fun c3=>?_)))
 ·have c3k:=c3
  try simp only [aD] at c3
  refine .g (gK rfl c3k ?_)
  refine .seq (aQ rfl rfl (aS rfl rfl (.nc (.ret (aK Tryz.results319 (.tmp rfl .nil) ?_)))))
  exact ⟨rfl,by simp [iB,good]; omega⟩
 have c3k:=c3
 try simp only [aD] at c3
 refine .g (fZ rfl aFl rfl (lO rfl cJ rfl .here rfl ?_))
 refine cP rfl rfl rfl rfl (.g (cD rfl (fun c4=>?_) (fun c4=>?_)))
 ·have c4k:=c4
  try simp only [aD] at c4
  refine .g (gK rfl c4k ?_)
  refine .seq (aQ rfl rfl (aS rfl rfl (.nc (.ret (aK Tryz.results319 (.tmp rfl .nil) ?_)))))
  exact ⟨rfl,by simp [iB,good]; omega⟩
 have c4k:=c4
 try simp only [aD] at c4
 refine .g (fZ rfl aFk rfl (lO rfl cJ rfl .here rfl ?_))
 refine cP rfl rfl rfl rfl (.g (cD rfl (fun c5=>?_) (fun c5=>?_)))
 ·have c5k:=c5
  try simp only [aD] at c5
  refine .seq (aQ rfl rfl (aS rfl rfl (.nc (.ret (aK Tryz.results319 (.tmp rfl .nil) ?_)))))
  exact ⟨rfl,by simp [iB,good]; omega⟩
 have c5k:=c5
 try simp only [aD] at c5
 refine .g (bO (mc:=⟨false,false⟩) [0,1,2,3,4,5,6,7,8,9,10,11,12,13,14,15,16,17,18,19] aY (by kernel_rfl) ?_)
 refine fZ rfl vY rfl (lO rfl aZ rfl .here rfl ?_)
 refine .p (nC rfl rfl (fZ rfl aA7 rfl (lN rfl aZ rfl ((hp.z rfl).rd) ?_)))
 refine cP rfl rfl rfl rfl (.p (fz rfl (.t rfl rfl) aFj (.u rfl) (ld rfl (.t rfl rfl) aZ (.s rfl) (fun _=>Rd.own .here rfl) ?_)))
 refine mv rfl (.t rfl rfl) (.u rfl) (fz rfl (.t rfl rfl) yU (.u rfl) (ld rfl (.t rfl rfl) bM (.s rfl) (fun _=>Rd.own .here rfl) ?_))
 refine nc rfl (.t rfl rfl) (.s rfl) (fz rfl (.t rfl rfl) aA8 (.s rfl) (iA rfl (.t rfl rfl) yQ (.s rfl) (.s rfl) (fun hc=>by omega) (fun hc=>by omega) ?_))
 refine ld rfl (.t rfl rfl) aZ (.s rfl) (fun hc=>(hp.z (s.cell_gen hd (by omega))).rd) ?_
 refine cp rfl (.t rfl rfl) (.s rfl) (.s rfl) rfl (bL rfl .no (.u rfl) (.s rfl) (aS rfl rfl (.nc (.ret (aK Tryz.results319 (.tmp rfl .nil) ?_)))))
 exact ⟨rfl,aPb c1 c2k c3 c4 c5⟩
theorem lK:aT Tryz.prog 179 0=some 0:=by kernel_rfl
theorem aDA:aT Tryz.prog 179 3=some 3:=by kernel_rfl
theorem tV:aT Tryz.prog 179 1=some 1:=by kernel_rfl
theorem aFi:aT Tryz.prog 179 2=some 2:=by kernel_rfl
theorem aBR:bJ Tryz.prog 189=some (179,4,48):=by kernel_rfl
theorem aBS:(bJ Tryz.prog 189).isSome=true:=by kernel_rfl
theorem mM:bT Tryz.prog 179=some (some 4):=by kernel_rfl
theorem aLz:aL Tryz.prog 144=true:=by kernel_rfl
theorem aDP:dV Tryz.prog 179=some ([.string ByteArray.empty,.int .u64 0,.int .u8 0,.string ByteArray.empty]):=by kernel_rfl
theorem uE:cE Tryz.prog 179=some 4:=by kernel_rfl
theorem aHV (e:Ent) (G:PM):Ct Tryz.prog 144 ([e.val]:List Value).toArray G [] (fun _ μ' u=>μ'=[]∧u=.bool (jS e)):=by
 refine Ct.of Tryz.func144 rfl Tryz.ntmps144 rfl fun w0 hs0=>?_
 refine .seq (bB rfl rfl ?_)
 refine bX rfl rfl rfl ?_; intro b1
 refine .g (fZ rfl lK rfl (lO rfl cW rfl .here (by first|exact aV rfl|rfl) ?_))
 refine ls rfl .no lU (.u rfl) (cP rfl rfl rfl rfl (.g (cD rfl (fun c1=>?_) (fun c1=>?_))))
 ·have c1k:=c1
  try simp only [aD,aH,aE] at c1
  refine .g (gK rfl c1k ?_)
  refine .seq (aQ rfl rfl (aS rfl rfl (.nc (.ret (aK Tryz.results144 (.tmp rfl .nil) ?_)))))
  exact ⟨rfl,congrArg Value.bool (eR1 c1).symm⟩
 have c1k:=c1
 try simp only [aD,aH,aE] at c1
 refine .g (fZ rfl aDA rfl (lO rfl cW rfl .here (by first|exact aV rfl|rfl) ?_))
 refine ls rfl .no lU (.u rfl) (cP rfl rfl rfl rfl (.g (cD rfl (fun c2=>?_) (fun c2=>?_))))
 ·have c2k:=c2
  try simp only [aD,aH,aE] at c2
  refine .g (gK rfl c2k ?_)
  refine .seq (aQ rfl rfl (aS rfl rfl (.nc (.ret (aK Tryz.results144 (.tmp rfl .nil) ?_)))))
  exact ⟨rfl,congrArg Value.bool (eR2 c2).symm⟩
 have c2k:=c2
 try simp only [aD,aH,aE] at c2
 refine .g (fZ rfl tV rfl (lO rfl aZ rfl .here (by first|exact aV rfl|rfl) ?_))
 refine cP rfl rfl rfl rfl (.g (cD rfl (fun c3=>?_) (fun c3=>?_)))
 ·have c3k:=c3
  try simp only [aD,aH,aE] at c3
  refine .seq (aQ rfl rfl (aS rfl rfl (.nc (.ret (aK Tryz.results144 (.tmp rfl .nil) ?_)))))
  exact ⟨rfl,congrArg Value.bool (zZ c3).symm⟩
 have c3k:=c3
 try simp only [aD,aH,aE] at c3
 refine .g (fZ rfl aFi rfl (lO rfl bM rfl .here (by first|exact aV rfl|rfl) ?_))
 refine cP rfl rfl rfl rfl (.g (cD rfl (fun c4=>?_) (fun c4=>?_)))
 ·have c4k:=c4
  try simp only [aD,aH,aE] at c4
  refine .g (fZ rfl aDA rfl (lO rfl cW rfl .here (by first|exact aV rfl|rfl) ?_))
  refine cs rfl .no (.u rfl) (.u rfl) rfl (aS rfl rfl (.nc (.ret (aK Tryz.results144 (.tmp rfl .nil) ?_))))
  exact ⟨rfl,congrArg Value.bool (eR4 c1 c2 c3 c4).symm⟩
 have c4k:=c4
 try simp only [aD,aH,aE] at c4
 refine .g (fZ rfl aFi rfl (lO rfl bM rfl .here (by first|exact aV rfl|rfl) ?_))
 refine cP rfl rfl rfl rfl (aS rfl rfl (.nc (.ret (aK Tryz.results144 (.tmp rfl .nil) ?_))))
 exact ⟨rfl,congrArg Value.bool (eR5 c1 c2 c3 c4).symm⟩
theorem aJm (h:Sh) (l:List Ent) (G:PM) (hs:SlR G 4 Ent.cells h l) (hl:l.length≤10000000000000):Ct Tryz.prog 196 ([h.val l.length]:List Value).toArray G [] (fun _ μ' u=>μ'=[]∧u=.bool (aAh l)):=by
 refine Ct.of Tryz.func196 rfl Tryz.ntmps196 rfl fun w0 hs0=>?_
 refine .seq (aQ rfl rfl (aS rfl rfl (.nc (.seq (.seq (aQ rfl rfl (aS rfl rfl (.nc (.block ?_)))))))))
 refine aX (α:=Nat) (fun k=>[(3,true,.int .i64 (k:Int))]) (fun _=>[])
  (fun k Gl=>(1≤k∧(k≤l.length∨l.length=0))∧(∀ j,j+1<k→oZ (l.getD j Ent.zero) (l.getD (j+1) Ent.zero)=true)) (fun k=>l.length-k) 1 [(0,true,_)] []
  (aM rfl (aA rfl eZ))
  mN ?_ ?_
 ·refine ⟨?_,?_⟩
  ·(try dsimp only)<;>(first|omega|rfl|assumption|(simp; done))
  (try dsimp only)<;>(exact fun j h=>absurd h (by omega))
 intro k N0 Gl0 hN0 hGl0 hF0
 try dsimp only at hF0 hN0 ⊢
 obtain ⟨hk,hj⟩:=hF0
 have hs:=hs.mono hGl0
 refine .g (lE rfl aBS rfl (cP rfl rfl rfl rfl (.g (cD rfl (fun c1=>?_) (fun c1=>?_)))))
 ·have c1k:=c1
  try simp only [aD,aE] at c1
  refine .skip (.code (.seq (.block (.seq (dX ⟨false,false⟩ aY (by kernel_rfl) ?_)))))
  refine Wp.one 0 (by kernel_rfl) ?_
  refine mV rfl rfl (.nil (Wp.one 1 (by kernel_rfl) ?_))
  refine mV rfl rfl (.nil (Wp.one 2 (by kernel_rfl) ?_))
  refine aR rfl rfl rfl rfl ?_
  refine .nil (Wp.one 3 (by kernel_rfl) ?_)
  refine ih rfl .no aBR (.u rfl) (.u rfl) (by omega) (by omega) (fun _=>hs.nn (k:=((((k:Nat):Int)-(1:Int))).toNat) (by first|omega|(simp only [Bool.and_eq_true,decide_eq_true_eq] at hc; omega)|(simp only [List.length_cons,List.length_nil]; omega))) ?_
  refine .nil (Wp.one 4 (by kernel_rfl) ?_)
  obtain ⟨x,ex⟩:=dY (k:=k-1) (xs:=l) (by omega)
  refine lA rfl .no mM (.u rfl) (fun _=>(hs.at (by omega) ex).rd) (fun _=>Ent.len _) ?_
  refine .nil (Wp.one 5 (by kernel_rfl) ?_)
  refine mV rfl rfl (.nil (Wp.one 6 (by kernel_rfl) ?_))
  refine mV rfl rfl (.nil (Wp.one 7 (by kernel_rfl) ?_))
  refine ih rfl .no aBR (.u rfl) (.u rfl) (by omega) (by omega) (fun _=>hs.nn (k:=k) (by first|omega|(simp only [Bool.and_eq_true,decide_eq_true_eq] at hc; omega)|(simp only [List.length_cons,List.length_nil]; omega))) ?_
  refine .nil (iE 8 (by kernel_rfl) ?_)
  obtain ⟨y,ey⟩:=dY (k:=k) (xs:=l) (by omega)
  refine lA rfl .no mM (.u rfl) (fun _=>(hs.at (by omega) ey).rd) (fun _=>Ent.len _) ?_
  refine .nil ⟨⟨rfl,rfl⟩,?_⟩
  refine Wp.b2 9 10 (by kernel_rfl) ?_ ?_
  ·refine al rfl aDP ?_; intro b4
   refine .nil (Wp.b1 10 (by kernel_rfl) ?_)
   refine al rfl aDP ?_; intro b5
   refine .nil (Wp.b1 11 (by kernel_rfl) ?_)
   refine sw rfl (.u rfl) (.u rfl) rfl uE aC (by first|rfl|exact Ent.len _) (Ent.one _) ?_
   refine .nil (Wp.b1 12 (by kernel_rfl) ?_)
   refine sw rfl (.u rfl) (.u rfl) rfl uE aC (by first|rfl|exact Ent.len _) (Ent.one _) ?_
   refine .nil (Wp.last (by kernel_rfl) ?_)
   refine .g (fZ rfl lK rfl (lO rfl cW rfl aC (by first|exact aV rfl|rfl) ?_))
   refine fZ rfl lK rfl (lO rfl cW rfl .here (by first|exact aV rfl|rfl) ?_)
   refine cs rfl .no (.u rfl) (.u rfl) rfl (.p (fz rfl (.f rfl rfl) lK (.u rfl) (ld rfl (.f rfl rfl) cW (.s rfl) (fun hc=>Rd.own aC (by first|exact aV rfl|rfl)) ?_)))
   refine fz rfl (.f rfl rfl) lK (.u rfl) (ld rfl (.f rfl rfl) cW (.s rfl) (fun hc=>Rd.own .here (by first|exact aV rfl|rfl)) ?_)
   refine cs rfl (.f rfl rfl) (.s rfl) (.s rfl) rfl (mv rfl (.f rfl rfl) (.s rfl) (fz rfl (.tc rfl rfl) tV (.u rfl) (ld rfl (.tc rfl rfl) aZ (.s rfl) (fun hc=>Rd.own aC (by first|exact aV rfl|rfl)) ?_)))
   refine fz rfl (.tc rfl rfl) tV (.u rfl) (ld rfl (.tc rfl rfl) aZ (.s rfl) (fun hc=>Rd.own .here (by first|exact aV rfl|rfl)) ?_)
   refine cp rfl (.tc rfl rfl) (.s rfl) (.s rfl) rfl (bL rfl (.f rfl rfl) (.s rfl) (.s rfl) (bZ rfl .no (.u rfl) (.s rfl) (.g (cD rfl (fun c2=>?_) (fun c2=>?_)))))
   ·have c2k:=c2
    try simp only [aD,aE] at c2
    refine .seq (aQ rfl rfl (aS rfl rfl (.nc (.ret (aK Tryz.results196 (.tmp rfl .nil) ?_)))))
    exact ⟨rfl,congrArg Value.bool (aJj hk.1 ex ey c2k).symm⟩
   have c2k:=c2
   try simp only [aD,aE] at c2
   refine .g (aW (((k+1):Nat):Int) rfl rfl rfl rfl ?_)
   refine .g (aU (k+1) ?_ ?_ ?_ ?_ ?_)
   ·exact (aM rfl (aA rfl eZ))
   ·exact mN
   ·first|omega|(dsimp only; omega)
   ·exact hGl0
   refine ⟨?_,?_⟩
   ·(try dsimp only)<;>(first|omega|rfl|assumption|(simp; done))
   (try dsimp only)<;>(exact aJk hk.1 hj ex ey c2k)
  refine al rfl aDP ?_; intro b5
  refine .nil (Wp.b1 9 (by kernel_rfl) ?_)
  refine al rfl aDP ?_; intro b4
  refine .nil (Wp.b1 11 (by kernel_rfl) ?_)
  refine sw rfl (.u rfl) (.u rfl) rfl uE .here (by first|rfl|exact Ent.len _) (Ent.one _) ?_
  refine .nil (Wp.b1 12 (by kernel_rfl) ?_)
  refine sw rfl (.u rfl) (.u rfl) rfl uE aC (by first|rfl|exact Ent.len _) (Ent.one _) ?_
  refine .nil (Wp.last (by kernel_rfl) ?_)
  refine .g (fZ rfl lK rfl (lO rfl cW rfl aC (by first|exact aV rfl|rfl) ?_))
  refine fZ rfl lK rfl (lO rfl cW rfl .here (by first|exact aV rfl|rfl) ?_)
  refine cs rfl .no (.u rfl) (.u rfl) rfl (.p (fz rfl (.f rfl rfl) lK (.u rfl) (ld rfl (.f rfl rfl) cW (.s rfl) (fun hc=>Rd.own aC (by first|exact aV rfl|rfl)) ?_)))
  refine fz rfl (.f rfl rfl) lK (.u rfl) (ld rfl (.f rfl rfl) cW (.s rfl) (fun hc=>Rd.own .here (by first|exact aV rfl|rfl)) ?_)
  refine cs rfl (.f rfl rfl) (.s rfl) (.s rfl) rfl (mv rfl (.f rfl rfl) (.s rfl) (fz rfl (.tc rfl rfl) tV (.u rfl) (ld rfl (.tc rfl rfl) aZ (.s rfl) (fun hc=>Rd.own aC (by first|exact aV rfl|rfl)) ?_)))
  refine fz rfl (.tc rfl rfl) tV (.u rfl) (ld rfl (.tc rfl rfl) aZ (.s rfl) (fun hc=>Rd.own .here (by first|exact aV rfl|rfl)) ?_)
  refine cp rfl (.tc rfl rfl) (.s rfl) (.s rfl) rfl (bL rfl (.f rfl rfl) (.s rfl) (.s rfl) (bZ rfl .no (.u rfl) (.s rfl) (.g (cD rfl (fun c2=>?_) (fun c2=>?_)))))
  ·have c2k:=c2
   try simp only [aD,aE] at c2
   refine .seq (aQ rfl rfl (aS rfl rfl (.nc (.ret (aK Tryz.results196 (.tmp rfl .nil) ?_)))))
   exact ⟨rfl,congrArg Value.bool (aJj hk.1 ex ey c2k).symm⟩
  have c2k:=c2
  try simp only [aD,aE] at c2
  refine .g (aW (((k+1):Nat):Int) rfl rfl rfl rfl ?_)
  refine .g (aU (k+1) ?_ ?_ ?_ ?_ ?_)
  ·exact (aM rfl (aA rfl eZ))
  ·exact mN
  ·first|omega|(dsimp only; omega)
  ·exact hGl0
  refine ⟨?_,?_⟩
  ·(try dsimp only)<;>(first|omega|rfl|assumption|(simp; done))
  (try dsimp only)<;>(exact aJk hk.1 hj ex ey c2k)
 have c1k:=c1
 try simp only [aD,aE] at c1
 refine .exit (.xcode (.xlp (.xblk (.code (.seq (aQ rfl rfl (aS rfl rfl (.nc (.ret (aK Tryz.results196 (.tmp rfl .nil) ?_))))))))))
 exact ⟨rfl,congrArg Value.bool (aTN (by omega) hj).symm⟩
theorem mY:bJ Tryz.prog 223=some (249,16,144):=by kernel_rfl
theorem aGL:dV Tryz.prog 247=some (wA (fun _=>0)):=by kernel_rfl
theorem lP:aT Tryz.prog 225 0=some 0:=by kernel_rfl
theorem mP:bT Tryz.prog 223=some none:=by kernel_rfl
theorem wB:aT Tryz.prog 249 1=some 4:=by kernel_rfl
theorem nU:fH Tryz.prog 247=some (12,3,1):=by kernel_rfl
theorem aFp:aT Tryz.prog 249 0=some 0:=by kernel_rfl
theorem aXM:aL Tryz.prog 306=true:=by kernel_rfl
theorem aLK:bT Tryz.prog 247=some (some 12):=by kernel_rfl
theorem aMi:cE Tryz.prog 247=some 12:=by kernel_rfl
theorem aDM:jR Tryz.prog 153=true:=by kernel_rfl
theorem aMC:aL Tryz.prog 213=true:=by kernel_rfl
theorem aMg:(bJ Tryz.prog 223).isSome=true:=by kernel_rfl
theorem aFm:aT Tryz.prog 225 1=some 1:=by kernel_rfl
theorem aL1:aL Tryz.prog 148=true:=by kernel_rfl
theorem aGO:(Tryz.prog.info? 249).bind (·.zero)=some (.agg #[.string ByteArray.empty,.int .u64 0,.int .u8 0,.string ByteArray.empty,.int .i64 0,.int .i64 0,.int .i64 0,.int .i64 0,.int .i64 0,.int .i64 0,.int .i64 0,.int .i64 0,.int .i64 0,.int .i64 0,.int .i64 0,.int .i64 0]):=by kernel_rfl
theorem aVv:cT Tryz.prog 225 [0]=some ([.slice none 0 0,.int .i64 0],[(0,1)]):=by kernel_rfl
theorem aVx:cT Tryz.prog 249 [0]=some ([.string ByteArray.empty,.int .u64 0,.int .u8 0,.string ByteArray.empty,.int .i64 0,.int .i64 0,.int .i64 0,.int .i64 0,.int .i64 0,.int .i64 0,.int .i64 0,.int .i64 0,.int .i64 0,.int .i64 0,.int .i64 0,.int .i64 0],[(0,4)]):=by kernel_rfl
theorem aXu:cE Tryz.prog 223=some 1:=by kernel_rfl
theorem aTo (e:Ent) (us:ByteArray) (q:BitVec 64) (G:PM):Ct Tryz.prog 306 ([e.val,.string us,uv .u64 q]:List Value).toArray G [] (fun _ μ' u=>μ'=[]∧u=.bool (pA e us q)):=by
 refine Ct.of Tryz.func306 rfl Tryz.ntmps306 rfl fun w0 hs0=>?_
 refine .seq (bB rfl rfl ?_)
 refine bX rfl rfl rfl ?_; intro b3
 refine .g (fZ rfl lK rfl (lO rfl cW rfl .here (by first|exact aV rfl|rfl) ?_))
 refine .p (cs rfl .no (.u rfl) (.u rfl) rfl (.p (fz rfl (.f rfl rfl) lK (.u rfl) (ld rfl (.f rfl rfl) cW (.s rfl) (fun hc=>Rd.own .here (by first|exact aV rfl|rfl)) ?_))))
 refine mv rfl (.f rfl rfl) (.u rfl) (cs rfl (.f rfl rfl) (.s rfl) (.s rfl) rfl (mv rfl (.f rfl rfl) (.s rfl) (fz rfl (.tc rfl rfl) tV (.u rfl) (ld rfl (.tc rfl rfl) aZ (.s rfl) (fun hc=>Rd.own .here (by first|exact aV rfl|rfl)) ?_))))
 refine mv rfl (.tc rfl rfl) (.u rfl) (cp rfl (.tc rfl rfl) (.s rfl) (.s rfl) rfl (bL rfl (.f rfl rfl) (.s rfl) (.s rfl) (bZ rfl .no (.u rfl) (.s rfl) (aS rfl rfl (.nc (.ret (aK Tryz.results306 (.tmp rfl .nil) ?_)))))))
 exact ⟨rfl,congrArg Value.bool (by unfold pA lt; simp [gt_iff_lt]; rfl)⟩
theorem aJ2 (bl:Nat) (h:Sh) (xs:List Nd) (sz:Value) (G:PM) (hbl:PB G bl (cl [h.val xs.length,sz] 225)) (hs:SlR G 16 Nd.cells h xs) (w:Nat→Nat) (us:ByteArray) (q:BitVec 64) (hW:WayN xs us q w):Ct Tryz.prog 213 ([.pointer (some ⟨bl,0,none⟩),.string us,uv .u64 q]:List Value).toArray G [] (fun _ μ' u=>μ'=[]∧u=.agg (wA w).toArray):=by
 refine Ct.of Tryz.func213 rfl Tryz.ntmps213 rfl fun w0 hs0=>?_
 refine .seq (aQ rfl rfl ?_)
 refine al rfl aGL ?_; intro b6
 refine .nil (.code (.seq (aQ rfl rfl ?_)))
 refine al rfl aGL ?_; intro b7
 refine .nil (.code (.seq (aQ rfl rfl (aS rfl rfl (.nc (.seq (.seq (aQ rfl rfl (aS rfl rfl (.nc (.block ?_)))))))))))
 refine aX (α:=Nat) (fun k=>[(8,true,.int .i64 ((w k:Nat):Int)),(9,true,.int .i64 ((k:Int)-1))]) (fun k=>[.blk b7 (cl (wA (wK w k)) 247)])
  (fun k Gl=>(k≤12)) (fun k=>k) 12 [(0,true,_),(1,true,_),(2,true,_),(6,true,_),(7,true,_)] [_]
  (eJ rfl (by rw [hW.top]; rfl) (aA rfl (aA rfl (aA rfl (aA rfl (aA rfl (aA rfl eZ)))))))
  (mS .here rfl (mS .here rfl mN)) ?_ ?_
 ·(try dsimp only)<;>(first|omega|rfl|assumption|(simp; done))
 intro k N0 Gl0 hN0 hGl0 hF0
 try dsimp only at hF0 hN0 ⊢
 have hk:=hF0
 have hbl:=hbl.mono hGl0
 have hs:=hs.mono hGl0
 refine .g (cP rfl rfl rfl rfl (.g (cD rfl (fun c1=>?_) (fun c1=>?_))))
 ·have c1k:=c1
  try simp only [aD,aH,aE] at c1
  refine .g (nC rfl rfl (fA rfl lP rfl (lN rfl mP rfl ((hbl.rd (rfl)).rd) ?_)))
  refine mV rfl rfl (mV rfl rfl (ih rfl .no mY (.u rfl) (.u rfl) (by omega) (fun _=>by have:=hW.lt k (by omega); omega) (fun _=>hs.nn (k:=w k) (hW.lt k (by omega))) ?_))
  refine fA rfl wB rfl (iW rfl nU rfl rfl ?_)
  refine lN rfl cJ rfl ((aDf hs (a:=w k) (k:=k-1) (hW.lt k (by omega)) (by omega) (by first|omega|(simp; omega))).rd) ?_
  refine aS rfl rfl (.nc (.block ?_))
  refine aX (α:=Nat) (fun p=>[(8,true,.int .i64 ((wq w (k-1) p:Nat):Int)),(10,true,.int .i64 ((cY xs (wq w (k-1) p) (k-1):Nat):Int))]) (fun _=>[])
   (fun p Gl=>(p=0∨p=1∧vJ xs us q (w (k-1)) (k-1))) (fun p=>1-p) 0 [(0,true,_),(1,true,_),(2,true,_),(6,true,_),(7,true,_),(9,true,_)] [_,_]
   (eJ rfl (by rw [wq,if_pos rfl,show k-1+1=k by omega]) (eJ rfl (by rw [wq,if_pos rfl,show k-1+1=k by omega]) (aA rfl (aA rfl (aA rfl (aA rfl (aA rfl (aA rfl eZ))))))))
   (mS .here rfl (mS .here rfl mN)) ?_ ?_
  ·(try dsimp only)<;>(first|omega|rfl|assumption|(simp; done))
  intro p N1 Gl1 hN1 hGl1 hF1
  try dsimp only at hF1 hN1 ⊢
  have hp:=hF1
  have hbl:=hbl.mono hGl1
  have hs:=hs.mono hGl1
  have hwl:wq w (k-1) p<xs.length:=by unfold wq; split; exact hW.lt _ (by omega); exact hW.lt _ (by omega)
  have hwq1:wq w (k-1) 1<xs.length:=hW.lt _ (by omega)
  have hnx:=hW.inb _ hwl (k-1) (by omega)
  refine .g (cP rfl rfl rfl rfl (mV rfl rfl (mv rfl (.t rfl rfl) (.u rfl) (nc rfl (.t rfl rfl) (.s rfl) (fa rfl (.t rfl rfl) lP (.s rfl) (ld rfl (.t rfl rfl) mP (.s rfl) (fun hc=>(hbl.rd (rfl)).rd) ?_))))))
  refine mv rfl (.t rfl rfl) (.u rfl) (ih rfl (.t rfl rfl) mY (.s rfl) (.s rfl) (by omega) (by omega) (fun _=>hs.nn (k:=cY xs (wq w (k-1) p) (k-1)) hnx) ?_)
  refine fa rfl (.t rfl rfl) aFp (.s rfl) (lA rfl (.t rfl rfl) mM (.s rfl) (fun hc=>(aDe hs (a:=cY xs (wq w (k-1) p) (k-1)) hnx (by simp)).rd) (fun _=>Ent.len _) ?_)
  refine mv rfl (.t rfl rfl) (.u rfl) (mv rfl (.t rfl rfl) (.u rfl) (kv rfl (.t rfl rfl) aXM (Eva.cons (.s rfl) (Eva.cons (.s rfl) (Eva.cons (.s rfl) aF))) (fun hc=>aTo _ _ _ _) ?_))
  refine bL rfl .no (.u rfl) (.s rfl) (.g (cD rfl (fun c2=>?_) (fun c2=>?_)))
  ·have c2k:=c2
   obtain ⟨hp0,hstp,hwk⟩:=aVJ hW (by omega) hp c2
   subst hp0
   have hwe:cY xs (wq w (k-1) 0) (k-1)=wq w (k-1) 1:=hwk.symm
   refine .g (nC rfl rfl (fA rfl lP rfl (lN rfl mP rfl ((hbl.rd (rfl)).rd) ?_)))
   refine mV rfl rfl (mV rfl rfl (ih rfl .no mY (.u rfl) (.u rfl) (by omega) (fun _=>by have:=hnx; omega) (fun _=>hs.nn (k:=cY xs (wq w (k-1) 0) (k-1)) (hnx)) ?_))
   refine fA rfl wB rfl (iW rfl nU rfl rfl ?_)
   refine ld rfl .no cJ (.u rfl) (fun _=>(aDf hs (a:=cY xs (wq w (k-1) 0) (k-1)) (k:=k-1) (hnx) (by omega) (by first|omega|(simp; omega))).rd) ?_
   refine .g (aU 1 ?_ ?_ ?_ ?_ ?_)
   ·exact (eJ rfl (by rw [hwe]) (eJ rfl (by rw [hwe]) (aA rfl (aA rfl (aA rfl (aA rfl (aA rfl (aA rfl eZ))))))))
   ·exact (mS .here rfl (mS .here rfl mN))
   ·first|omega|(dsimp only; omega)
   ·exact hGl1
   (try dsimp only)<;>(exact .inr ⟨rfl,hstp⟩)
  have c2k:=c2
  have hex9:wq w (k-1) p=w (k-1):=aVI hW (by omega) hp c2
  refine .g (iW rfl nU rfl rfl ?_)
  refine s1 rfl (.u rfl) (.u rfl) rfl lR .here (by simp [oT]; omega) (aU5 (k:=k-1) (w':=wK w (k-1)) (by omega) (by first|omega|(simp; omega)) (by rw [hex9]; simp [wK]) (fun j hj=>by unfold wK; by_cases h:j<k-1; rw [if_pos h,if_pos (by omega)]; rw [if_neg h,if_neg (by omega)])) ?_
  refine .g (aR rfl rfl rfl rfl ?_)
  refine .g (aU (k-1) ?_ ?_ ?_ ?_ ?_)
  ·exact (eJ rfl (by rw [← hex9]) (eJ rfl (evi (by omega)) (aA rfl (aA rfl (aA rfl (aA rfl (aA rfl eZ)))))))
  ·exact (mS .here rfl (mS .here rfl mN))
  ·first|omega|(dsimp only; omega)
  ·exact (hGl0).trans hGl1
  (try dsimp only)<;>(first|omega|rfl|assumption|(simp; done))
 have c1k:=c1
 try simp only [aD,aH,aE] at c1
 refine .g (lA rfl .no aLK (.u rfl) (fun _=>RdN.own .here) (fun _=>oT) ?_)
 refine sw rfl (.u rfl) (.u rfl) rfl aMi aC (oT.trans oT.symm) (aKl _) ?_
 refine .nil (.code (.ret (aK Tryz.results213 (.cell rfl (fun w hw=>bW aLK (RdN.own .here) (oT) hw) .nil) ?_)))
 obtain rfl:k=0:=by omega
 exact ⟨rfl,by rw [aU6]; rfl⟩
theorem aHt (bl:Nat) (h:Sh) (xs:List Nd) (sz:Value) (G:PM) (hbl:PB G bl (cl [h.val xs.length,sz] 225)) (hs:SlR G 16 Nd.cells h xs) (w:Nat→Nat) (us:ByteArray) (q:BitVec 64) (hW:WayN xs us q w):Ct Tryz.prog 148 ([.pointer (some ⟨bl,0,none⟩),.string us,uv .u64 q]:List Value).toArray G [] (fun _ μ' u=>μ'=[]∧u=.int .i64 ((cY xs (w 0) 0:Nat):Int)):=by
 refine Ct.of Tryz.func148 rfl Tryz.ntmps148 rfl fun w0 hs0=>?_
 refine .g (pe rfl .no aDM (.u rfl) (.u rfl) ?_)
 refine .g (dM rfl rfl ?_)
 refine .g (bO (mc:=⟨false,false⟩) [0,1,2,3,4,5,6,7,8,9,10,11,12,13] aY (by kernel_rfl) ?_)
 refine .p (nC rfl rfl (fA rfl lP rfl (lN rfl mP rfl ((hbl.rd (rfl)).rd) ?_)))
 refine .p (kV rfl aMC (aB rfl (aB rfl (aB rfl aF))) (aJ2 bl h xs sz _ hbl hs w us q hW) ?_)
 refine ix rfl .no nU cJ (.u rfl) (.u rfl) (by omega) (by omega) (fun _=>aCn (k:=0) (by omega) rfl) ?_
 refine ih rfl .no mY (.u rfl) (.u rfl) (by omega) (fun _=>by have:=hW.lt 0 (by omega); omega) (fun _=>hs.nn (k:=w 0) (hW.lt 0 (by omega))) ?_
 refine fA rfl wB rfl (iW rfl nU rfl rfl ?_)
 refine lN rfl cJ rfl ((aDf hs (a:=w 0) (k:=0) (hW.lt 0 (by omega)) (by omega) (by first|omega|(simp; omega))).rd) ?_
 refine aS rfl rfl (.nc (.ret (aK Tryz.results148 (.tmp rfl .nil) ?_)))
 exact ⟨rfl,rfl⟩
theorem aQY (bl:Nat) (h:Sh) (xs:List Nd) (sz:Value) (G:PM) (hbl:PB G bl (cl [h.val xs.length,sz] 225)) (hl:xs.length≤1000000):Ct Tryz.prog 162 ([.pointer (some ⟨bl,0,none⟩)]:List Value).toArray G [] (fun _ μ' u=>μ'=[]∧u=.int .i64 ((xs.length:Int)-1)):=by
 refine Ct.of Tryz.func162 rfl Tryz.ntmps162 rfl fun w0 hs0=>?_
 refine .g (pe rfl .no aDM (.u rfl) (.u rfl) ?_)
 refine .g (dM rfl rfl ?_)
 refine .g (nC rfl rfl (fA rfl lP rfl (lN rfl mP rfl ((hbl.rd (rfl)).rd) ?_)))
 refine lE rfl aMg rfl (aR rfl rfl rfl rfl ?_)
 refine aS rfl rfl (.nc (.ret (aK Tryz.results162 (.tmp rfl .nil) ?_)))
 exact ⟨rfl,rfl⟩
theorem aQZ (bl:Nat) (v:Value) (sz:Nat) (G:PM) (hbl:PB G bl (cl [v,.int .i64 ((sz:Nat):Int)] 225)):Ct Tryz.prog 317 ([.pointer (some ⟨bl,0,none⟩)]:List Value).toArray G [] (fun _ μ' u=>μ'=[]∧u=.int .i64 ((sz:Nat):Int)):=by
 refine Ct.of Tryz.func317 rfl Tryz.ntmps317 rfl fun w0 hs0=>?_
 refine .g (pe rfl .no aDM (.u rfl) (.u rfl) ?_)
 refine .g (dM rfl rfl ?_)
 refine .g (nC rfl rfl (fA rfl aFm rfl (lN rfl cJ rfl ((hbl.rd (rfl)).rd) ?_)))
 refine aS rfl rfl (.nc (.ret (aK Tryz.results317 (.tmp rfl .nil) ?_)))
 exact ⟨rfl,rfl⟩
theorem aQW (bl:Nat) (h:Sh) (xs:List Nd) (sz:Value) (G:PM) (hbl:PB G bl (cl [h.val xs.length,sz] 225)) (hs:SlR G 16 Nd.cells h xs) (w:Nat→Nat) (us:ByteArray) (q:BitVec 64) (hW:WayN xs us q w) (n:Int) (hn:cY xs (w 0) 0=0):Ct Tryz.prog 161 ([.pointer (some ⟨bl,0,none⟩),.string us,uv .u64 q,.int .i64 n]:List Value).toArray G [] (fun _ μ' u=>μ'=[]∧u=.slice none 0 0):=by
 refine Ct.of Tryz.func161 rfl Tryz.ntmps161 rfl fun w0 hs0=>?_
 refine .g (kV rfl aL1 (aB rfl (aB rfl (aB rfl aF))) (aHt bl h xs sz _ hbl hs w us q hW) ?_)
 refine aS rfl rfl (.nc (.block ?_))
 refine aX (α:=Nat) (fun k=>[(9,true,.slice none 0 0),(10,true,.int .i64 0)]) (fun _=>[])
  (fun k Gl=>True) (fun k=>0) 0 [(0,true,_),(3,true,_)] []
  (aA rfl (eJ rfl (by rw [hn]; rfl) (aA rfl (aA rfl eZ))))
  mN ?_ ?_
 ·trivial
 intro k N0 Gl0 hN0 hGl0 hF0
 try dsimp only at hF0 hN0 ⊢
 refine .g (cP rfl rfl rfl rfl (mV rfl rfl (mv rfl (.t rfl rfl) (.u rfl) (ln rfl (.t rfl rfl) aBS (.s rfl) (mv rfl (.t rfl rfl) (.u rfl) (cp rfl (.t rfl rfl) (.s rfl) (.s rfl) rfl (bL rfl .no (.u rfl) (.s rfl) (.g (cD rfl (fun c1=>?_) (fun c1=>?_))))))))))
 ·have c1k:=c1
  cases c1
 have c1k:=c1
 try simp only [aD,aE] at c1
 refine .exit (.xcode (.xlp (.xblk (.code (.seq (bB rfl rfl (mV rfl rfl (aS rfl rfl (.nc (.ret (aK Tryz.results161 (.tmp rfl .nil) ?_)))))))))))
 exact ⟨rfl,rfl⟩
theorem xH (G:PM):Ct Tryz.prog 87 ([]:List Value).toArray G [] (fun _ μ' u=>∃ bl v,v.oneCell'=true∧μ'=[.blk bl (cl [v,.int .i64 ((0:Nat):Int)] 225),rS 16 Nd.cells v 249 [Nd.z]]∧u=.pointer (some ⟨bl,0,none⟩)):=by
 refine Ct.of Tryz.func87 rfl Tryz.ntmps87 rfl fun w0 hs0=>?_
 refine .seq (aQ rfl rfl (aS rfl rfl (.nc (.seq (dT rfl rfl ?_)))))
 refine aRJ (enc:=Nd.cells) Nd.z rfl mY aGO (.u rfl) (.u rfl) rfl rfl (by decide) ?_; intro b1
 refine bC rfl .no aVv (.cons (.u rfl) rfl .nil) rfl ?_
 refine bX rfl rfl rfl ?_; intro b3
 refine aS rfl rfl (.nc (.ret (bD Tryz.results87 (.tmp rfl .nil) (mS .here rfl (mS .here rfl mN)) ?_)))
 exact ⟨b3,_,rfl,rfl,rfl⟩
theorem aAN (bl bb m cap sz ht:Nat) (xs:List Nd) (e:Ent) (w:Nat→Nat) (G:PM) (hm:m=xs.length) (hW:WayN xs e.user e.seq w) (hn:cY xs (w 0) 0=0) (hR:jS e=true) (h1:1≤ht) (h12:ht≤12) (hl:xs.length≤1000) (hsz:sz≤1000000000):Ct Tryz.prog 235 ([.pointer (some ⟨bl,0,none⟩),e.val,.int .i64 ((ht:Nat):Int)]:List Value).toArray G [.blk bl (cl [(.slice (some ⟨bb,0,none⟩) m cap),.int .i64 ((sz:Nat):Int)] 225),rS 16 Nd.cells (.slice (some ⟨bb,0,none⟩) m cap) 249 (xs)] (fun _ μ' u=>∃ bb2 cap2,μ'=[.blk bl (cl [.slice (some ⟨bb2,0,none⟩) (xs++[(e,fun _=>0)]).length cap2,.int .i64 ((sz+(e.user.size+e.value.size+8):Nat):Int)] 225),rS 16 Nd.cells (.slice (some ⟨bb2,0,none⟩) (xs++[(e,fun _=>0)]).length cap2) 249 (nJ w xs.length (xs++[(e,fun _=>0)]) ht)]∧u=.int .i64 0):=by
 subst hm
 refine Ct.of Tryz.func235 rfl Tryz.ntmps235 rfl fun w0 hs0=>?_
 have hRs:=aTO hR; have hxl:0<xs.length:=by have:=hW.lt 0 (by omega); omega
 have hlen:(xs++[(e,fun _=>0)]:List Nd).length=xs.length+1:=by simp
 refine .seq (bB rfl rfl ?_)
 refine bX rfl rfl rfl ?_; intro b4
 refine .g (pe rfl .no aDM (.u rfl) (.u rfl) ?_)
 refine .g (cD rfl (fun c1=>?_) (fun c1=>?_))
 ·have c1k:=c1
  cases c1
 have c1k:=c1
 try simp only [aD,aH,aE] at c1
 refine .g (lA rfl .no mM (.u rfl) (fun _=>RdN.own .here) (fun _=>(by first|exact Ent.len _|exact oT|rfl)) ?_)
 refine kV rfl aLz (aB rfl aF) (aHV e _) ?_
 refine nt rfl .no (.u rfl) (.g (cD rfl (fun c2=>?_) (fun c2=>?_)))
 ·have c2k:=c2
  rw [hR] at c2; cases c2
 have c2k:=c2
 try simp only [aD,aH,aE] at c2
 refine .g (fZ rfl lK rfl (lO rfl cW rfl .here (by first|exact aV rfl|rfl) ?_))
 refine fZ rfl tV rfl (lO rfl aZ rfl .here (by first|exact aV rfl|rfl) ?_)
 refine ka rfl (.inr rfl) aMC (aB rfl (aB rfl (aB rfl aF))) (dI aC aC) (aQq fun s G2 hv hs2 hb2=>by rw [hv] at hb2; exact aJ2 bl s xs _ G2 hb2 hs2 w e.user e.seq hW) ?_
 rintro _ G23 μ23 hG23 ⟨rfl,rfl⟩
 refine al rfl aGL ?_; intro b7
 refine sw rfl (.u rfl) (.u rfl) rfl aMi .here (oT.trans oT.symm) (aKl _) ?_
 refine .g (bO (mc:=⟨false,false⟩) [0,1,2,3,4,5,6,7,8,9,10] aY (by kernel_rfl) ?_)
 refine .p (nC rfl rfl (fZ rfl lP rfl (lO rfl mP rfl aC rfl ?_)))
 refine iW rfl nU rfl rfl ?_
 refine lO rfl cJ rfl .here (aCn (k:=0) (by omega) rfl) ?_
 refine ia rfl .no mY (.u rfl) (.u rfl) (by omega) (fun _=>by have:=hW.lt 0 (by omega); omega) ?_
 refine fA rfl wB rfl (iW rfl nU rfl rfl ?_)
 refine lN rfl cJ rfl (aGY aI (a:=w 0) (k:=0) (hW.lt 0 (by omega)) (by omega) (by simp)) ?_
 refine .g (bO (mc:=⟨false,false⟩) [0,1,2,3,4,5,6,7,8,9,10,11,12,13,14,15,16,17,18,19,20,21,22,23,24,25,26,27,28,29] aY (by kernel_rfl) ?_)
 refine .p (cP rfl rfl rfl rfl (vP false (by rw [hn]; rfl) ?_))
 refine mV rfl rfl (gH (.bool false) rfl rfl (Gd.t (b:=false) rfl rfl) ?_)
 refine gH (.bool false) rfl rfl (Gd.t (b:=false) rfl rfl) ?_
 refine gH (.bool false) rfl rfl (Gd.t (b:=false) rfl rfl) ?_
 refine vI (.bool false) rfl rfl (Gd.t (b:=false) rfl rfl) ?_
 refine gH (.bool false) rfl rfl (Gd.t (b:=false) rfl rfl) ?_
 refine gH (.bool false) rfl rfl (Gd.t (b:=false) rfl rfl) ?_
 refine gH (.bool false) rfl rfl (Gd.t (b:=false) rfl rfl) ?_
 refine gH (.bool false) rfl rfl (Gd.t (b:=false) rfl rfl) ?_
 refine vI (.bool false) rfl rfl (Gd.t (b:=false) rfl rfl) ?_
 refine gH (.bool false) rfl rfl (Gd.t (b:=false) rfl rfl) ?_
 refine vI (.bool false) rfl rfl (Gd.t (b:=false) rfl rfl) ?_
 refine gH (.bool false) rfl rfl (Gd.t (b:=false) rfl rfl) ?_
 refine bL rfl .no (.u rfl) (.s rfl) (mV rfl rfl (gH (.bool false) rfl rfl (Gd.t (b:=false) rfl rfl) ?_))
 refine gH (.bool false) rfl rfl (Gd.t (b:=false) rfl rfl) ?_
 refine gH (.bool false) rfl rfl (Gd.t (b:=false) rfl rfl) ?_
 refine vI (.bool false) rfl rfl (Gd.t (b:=false) rfl rfl) ?_
 refine gH (.bool false) rfl rfl (Gd.t (b:=false) rfl rfl) ?_
 refine gH (.bool false) rfl rfl (Gd.t (b:=false) rfl rfl) ?_
 refine gH (.bool false) rfl rfl (Gd.t (b:=false) rfl rfl) ?_
 refine gH (.bool false) rfl rfl (Gd.t (b:=false) rfl rfl) ?_
 refine vI (.bool false) rfl rfl (Gd.t (b:=false) rfl rfl) ?_
 refine gH (.bool false) rfl rfl (Gd.t (b:=false) rfl rfl) ?_
 refine vI (.bool false) rfl rfl (Gd.t (b:=false) rfl rfl) ?_
 refine gH (.bool false) rfl rfl (Gd.t (b:=false) rfl rfl) ?_
 refine bL rfl .no (.u rfl) (.s rfl) (.g (cD rfl (fun c3=>?_) (fun c3=>?_)))
 ·have c3k:=c3
  cases c3
 have c3k:=c3
 try simp only [aD,aH,aE] at c3
 refine .g (nC rfl rfl (fZ rfl lP rfl (lO rfl mP rfl aC rfl ?_)))
 refine lr rfl .no aMg (.u rfl) aI ?_
 refine .g (bO (mc:=⟨false,false⟩) [0,1,2,3,4,5,6,7,8,9,10,11] aY (by kernel_rfl) ?_)
 refine .p (nC rfl rfl (fZ rfl lP rfl (lO rfl mP rfl aC rfl ?_)))
 refine lA rfl .no mM (.u rfl) (fun _=>RdN.own bE) (fun _=>(by first|exact Ent.len _|exact oT|rfl)) ?_
 refine bR (Nd.cells (e,fun _=>0)) rfl .no aVx (.cons (.u rfl) rfl .nil) rfl (rfl) ?_
 refine Go.Tan.b1 rfl mY aGO (.u rfl) rfl rfl (by decide) ?_; intro b76
 refine oC (xs:=xs) ((e,fun _=>0)) rfl mY aGO rfl (.u rfl) (.u rfl) bE .here (Nd.len _) (Nd.one _) (by omega) (by unfold maxLen; omega) ?_; intro v77 ov77
 refine nC rfl rfl (fZ rfl lP rfl (oP rfl (.u rfl) (.u rfl) .here aXu bE (by first|decide|(simp [oT]; done)) (rfl) ?_))
 refine .nil (.code (.seq (.seq ?_)))
 refine aCp aC (by omega) ?_; intro bbRL capRL evRL lcRL; subst evRL
 refine .g (xK (ht) (12) rfl .no (.u rfl) (.u rfl) (by omega) (by omega) ?_)
 refine mAn (1) ((min ht 12)) rfl .no (.u rfl) (.u rfl) (by omega) (by omega) ?_
 refine mV rfl rfl (.nc (.block ?_))
 refine aX (α:=Nat) (fun k=>[(83,true,.int .i64 ((k:Nat):Int))]) (fun k=>[rS 16 Nd.cells (.slice (some ⟨bbRL,0,none⟩) (xs++[(e,fun _=>0)]).length capRL) 249 (nJ w xs.length (xs++[(e,fun _=>0)]) k)])
  (fun k Gl=>(k≤ht)) (fun k=>ht-k) 0 [(0,true,_),(4,true,_),(7,true,_),(9,true,_),(82,true,_)] [_,_,_,_]
  (aM rfl (aA rfl (aA rfl (aA rfl (aA rfl (aA rfl eZ))))))
  (mS aC rfl (mS .here rfl (mS .here rfl (mS .here rfl (mS .here rfl mN))))) ?_ ?_
 ·(try dsimp only)<;>(first|omega|rfl|assumption|(simp; done))
 intro k N0 Gl0 hN0 hGl0 hF0
 try dsimp only at hF0 hN0 ⊢
 have hk:=hF0
 refine .g (cP rfl rfl rfl rfl (.g (cD rfl (fun c4=>?_) (fun c4=>?_))))
 ·have c4k:=c4
  try simp only [aD,aH,aE] at c4
  refine .g (bO (mc:=⟨false,false⟩) [0,1,2,3,4,5,6,7,8,9,10,11,12,13,14,15,16,17,18,19,20,21] aY (by kernel_rfl) ?_)
  refine .p (nC rfl rfl (fZ rfl lP rfl (lO rfl mP rfl aC rfl ?_)))
  refine .p (nC rfl rfl (fZ rfl lP rfl (lO rfl mP rfl aC rfl ?_)))
  refine .p (iW rfl nU rfl rfl ?_)
  refine lO rfl cJ rfl bE (aCn (k:=k) (by omega) (by simp)) ?_
  refine .p (ia rfl .no mY (.u rfl) (.u rfl) (by omega) (fun _=>by have:=hW.lt k (by omega); omega) ?_)
  refine fA rfl wB rfl (iW rfl nU rfl rfl ?_)
  refine lN rfl cJ rfl (aGY .here (a:=w k) (k:=k) (by (try rw [lnkA_len]); (try simp only [List.length_set]); (try rw [pJ]); have:=hW.lt k (by omega); omega) (by omega) (by simp)) ?_
  refine ia rfl .no mY (.u rfl) (.u rfl) (by omega) (by omega) ?_
  refine fA rfl wB rfl (iW rfl nU rfl rfl ?_)
  refine stE (k:=xs.length) (q:=4+k) (e:=(nJ w xs.length (xs++[(e,fun _=>0)]) k).getD (xs.length) Nd.z) (u:=xQ ((nJ w xs.length (xs++[(e,fun _=>0)]) k).getD (xs.length) Nd.z) k (cY (nJ w xs.length (xs++[(e,fun _=>0)]) k) (w k) k)) rfl (.u rfl) (.u rfl) lR .here (fun y _=>Nd.len y) (aH6 (by (try rw [lnkA_len]); (try simp only [List.length_set]); (try rw [pJ]); have:=hW.lt k (by omega); omega)) (aI2 (by omega)) (by simp; omega) (by omega) rfl ?_
  refine .g (bO (mc:=⟨false,false⟩) [0,1,2,3,4,5,6,7,8,9,10,11,12] aY (by kernel_rfl) ?_)
  refine .p (nC rfl rfl (fZ rfl lP rfl (lO rfl mP rfl aC rfl ?_)))
  refine .p (iW rfl nU rfl rfl ?_)
  refine lO rfl cJ rfl bE (aCn (k:=k) (by omega) (by simp)) ?_
  refine .p (ia rfl .no mY (.u rfl) (.u rfl) (by omega) (fun _=>by have:=hW.lt k (by omega); omega) ?_)
  refine fA rfl wB rfl (iW rfl nU rfl rfl ?_)
  refine stE (k:=w k) (q:=4+k) (e:=(aCE w xs.length (nJ w xs.length (xs++[(e,fun _=>0)]) k) k).getD (w k) Nd.z) (u:=xQ ((aCE w xs.length (nJ w xs.length (xs++[(e,fun _=>0)]) k) k).getD (w k) Nd.z) k (xs.length)) rfl (.u rfl) (.u rfl) lR .here (fun y _=>Nd.len y) (aH6 (by (try rw [lnkA_len]); (try simp only [List.length_set]); (try rw [pJ]); have:=hW.lt k (by omega); omega)) (aI2 (by omega)) (by simp; omega) (by omega) rfl ?_
  refine .g (aW (((k+1):Nat):Int) rfl rfl rfl rfl ?_)
  refine .g (aU (k+1) ?_ ?_ ?_ ?_ ?_)
  ·exact (aM rfl (aA rfl (aA rfl (aA rfl (aA rfl (aA rfl eZ))))))
  ·exact (mS .here rfl (mS .here rfl (mS .here rfl (mS .here rfl (mS .here rfl mN)))))
  ·first|omega|(dsimp only; omega)
  ·exact hGl0
  (try dsimp only)<;>(first|omega|rfl|assumption|(simp; done))
 have c4k:=c4
 try simp only [aD,aH,aE] at c4
 refine .g (bO (mc:=⟨false,false⟩) [0,1,2,3,4,5,6,7,8,9,10,11,12,13,14,15] aY (by kernel_rfl) ?_)
 refine .p (nC rfl rfl (fZ rfl aFm rfl (lO rfl cJ rfl aC (by first|exact aV rfl|rfl) ?_)))
 refine fZ rfl lK rfl (lO rfl cW rfl dK (by first|exact aV rfl|rfl) ?_)
 refine ls rfl .no lU (.u rfl) (fZ rfl aDA rfl (lO rfl cW rfl dK (by first|exact aV rfl|rfl) ?_))
 refine ls rfl .no lU (.u rfl) (aW (((e.user.size+e.value.size):Nat):Int) rfl rfl rfl rfl ?_)
 refine aW (((e.user.size+e.value.size+8):Nat):Int) rfl rfl rfl rfl ?_
 refine iF (((sz+(e.user.size+e.value.size+8)):Nat):Int) rfl .no (.u rfl) (.u rfl) rfl (by omega) (fun _=>eV (by omega) (by omega)) ?_
 refine nC rfl rfl (fZ rfl aFm rfl (s1 rfl (.u rfl) (.u rfl) rfl lR aC (by first|decide|(simp [oT]; done)) (rfl) ?_))
 refine .nil (.code (.seq (aQ rfl rfl (aS rfl rfl (.nc (.ret (bD Tryz.results235 (.tmp rfl .nil) (mS .here rfl (mS .here rfl mN)) ?_)))))))
 obtain rfl:k=ht:=by omega
 exact ⟨bbRL,capRL,rfl,rfl⟩
end Go.Proofs.YtoifkgkandfeiaaGreatDoor
namespace Go.Proofs.YtoifkgkandfeiaaGreatDoor
open Go.Tan Go.RowKit Go.Maps Go.Sort Go.Shelf
def aGg:Go.Shelf.Ren:=⟨fun | 7=>92 | 10=>143 | n=>n,fun | 23=>116 | 26=>9 | 3=>124 | 28=>170 | 0=>0 | 27=>169 | 33=>57 | 4=>4 | n=>n,fun | n=>n⟩
theorem aGf:Go.Proofs.SlLaysZ.n7 Tryz.prog aGg:={
 mixed:=by kernel_rfl
 f7:=⟨"maps.Keys[map[string]tantalus/disk.file,string,tantalus/disk.file]",by decide,Tryz.func92.trans (congrArg some (by kernel_rfl))⟩
 f10:=⟨"maps.Keys[map[string]tantalus/disk.file,string,tantalus/disk.file]$1",by decide,Tryz.func143.trans (congrArg some (by kernel_rfl))⟩
 t0:=Tryz.underlying0
 a0:=Tryz.isAgg0
 z0:=Tryz.sizeOf0
 v0:=Tryz.zeroValue0
 t4:=Tryz.underlying4
 a4:=Tryz.isAgg4
 z4:=Tryz.sizeOf4
 v4:=Tryz.zeroValue4
 t23:=Tryz.underlying116
 a23:=Tryz.isAgg116
 z23:=Tryz.sizeOf116
 v23:=Tryz.zeroValue116
 t26:=Tryz.underlying9
 a26:=Tryz.isAgg9
 z26:=Tryz.sizeOf9
 v26:=Tryz.zeroValue9
 t27:=Tryz.underlying169
 a27:=Tryz.isAgg169
 z27:=Tryz.sizeOf169
 v27:=Tryz.zeroValue169
 t28:=Tryz.underlying170
 a28:=Tryz.isAgg170
 z28:=Tryz.sizeOf170
 v28:=Tryz.zeroValue170
 t33:=Tryz.underlying57
 a33:=Tryz.isAgg57
 z33:=Tryz.sizeOf57
 v33:=Tryz.zeroValue57 }
def aGi:Go.Shelf.Ren:=⟨fun | 6=>91 | 8=>141 | 9=>142 | 11=>210 | 13=>212 | 12=>211 | 23=>305 | 24=>250 | 14=>296 | 15=>297 | 16=>298 | 17=>299 | 18=>300 | 19=>301 | 20=>302 | 21=>303 | 22=>304 | 25=>343 | 26=>344 | 27=>345 | 28=>346 | 29=>347 | 30=>339 | 31=>382 | n=>n,fun | 26=>9 | 28=>170 | 24=>97 | 0=>0 | 3=>3 | 37=>206 | 48=>344 | 50=>23 | 4=>4 | 40=>411 | 39=>410 | 45=>212 | 5=>5 | 9=>9 | 51=>454 | 55=>457 | 57=>495 | 58=>496 | 33=>57 | n=>n,fun | n=>n⟩
theorem aNR:Go.Proofs.SlLaysZ.n6 Tryz.prog aGi:={
 mixed:=by kernel_rfl
 f6:=⟨"slices.Sorted[string]",by decide,Tryz.func91.trans (congrArg some (by kernel_rfl))⟩
 f8:=⟨"slices.Collect[string]",by decide,Tryz.func141.trans (congrArg some (by kernel_rfl))⟩
 f11:=⟨"slices.AppendSeq[[]string,string]",by decide,Tryz.func210.trans (congrArg some (by kernel_rfl))⟩
 t0:=Tryz.underlying0
 a0:=Tryz.isAgg0
 z0:=Tryz.sizeOf0
 v0:=Tryz.zeroValue0
 t24:=Tryz.underlying97
 a24:=Tryz.isAgg97
 z24:=Tryz.sizeOf97
 v24:=Tryz.zeroValue97
 t26:=Tryz.underlying9
 a26:=Tryz.isAgg9
 z26:=Tryz.sizeOf9
 v26:=Tryz.zeroValue9
 t28:=Tryz.underlying170
 a28:=Tryz.isAgg170
 z28:=Tryz.sizeOf170
 v28:=Tryz.zeroValue170
 i26:=by kernel_rfl }
def aNQ:Go.Shelf.Ren:=⟨fun | 6=>142 | 8=>212 | 9=>211 | 19=>305 | 20=>250 | 21=>296 | 22=>297 | 23=>298 | 24=>299 | 25=>300 | 26=>301 | 27=>302 | 28=>303 | 29=>304 | 36=>343 | 31=>344 | 32=>345 | 37=>346 | 38=>347 | 39=>339 | 41=>382 | n=>n,fun | 27=>97 | 29=>9 | 3=>3 | 32=>206 | 26=>97 | 0=>0 | 44=>344 | 46=>23 | 4=>4 | 36=>411 | 35=>410 | 41=>212 | 5=>5 | 9=>9 | 53=>454 | 57=>457 | 63=>495 | 64=>496 | n=>n,fun | n=>n⟩
theorem aGh:Go.Proofs.SlLaysM.n6 Tryz.prog aNQ:={
 mixed:=by kernel_rfl
 f6:=⟨"slices.Sort[[]string,string]",by decide,Tryz.func142.trans (congrArg some (by kernel_rfl))⟩
 f8:=Tryz.func212.trans (congrArg some (by kernel_rfl))
 f9:=⟨"slices.pdqsortOrdered[string]",by decide,Tryz.func211.trans (congrArg some (by kernel_rfl))⟩
 f19:=Tryz.func305.trans (congrArg some (by kernel_rfl))
 f20:=Tryz.func250.trans (congrArg some (by kernel_rfl))
 f21:=⟨"slices.insertionSortOrdered[string]",by decide,Tryz.func296.trans (congrArg some (by kernel_rfl))⟩
 f22:=⟨"slices.heapSortOrdered[string]",by decide,Tryz.func297.trans (congrArg some (by kernel_rfl))⟩
 f23:=⟨"slices.breakPatternsOrdered[string]",by decide,Tryz.func298.trans (congrArg some (by kernel_rfl))⟩
 f24:=⟨"slices.choosePivotOrdered[string]",by decide,Tryz.func299.trans (congrArg some (by kernel_rfl))⟩
 f25:=⟨"slices.reverseRangeOrdered[string]",by decide,Tryz.func300.trans (congrArg some (by kernel_rfl))⟩
 f26:=⟨"slices.partialInsertionSortOrdered[string]",by decide,Tryz.func301.trans (congrArg some (by kernel_rfl))⟩
 f27:=⟨"cmp.Less[string]",by decide,Tryz.func302.trans (congrArg some (by kernel_rfl))⟩
 f28:=⟨"slices.partitionEqualOrdered[string]",by decide,Tryz.func303.trans (congrArg some (by kernel_rfl))⟩
 f29:=⟨"slices.partitionOrdered[string]",by decide,Tryz.func304.trans (congrArg some (by kernel_rfl))⟩
 f31:=Tryz.func344.trans (congrArg some (by kernel_rfl))
 f32:=Tryz.func345.trans (congrArg some (by kernel_rfl))
 f36:=⟨"slices.siftDownOrdered[string]",by decide,Tryz.func343.trans (congrArg some (by kernel_rfl))⟩
 f37:=⟨"slices.medianAdjacentOrdered[string]",by decide,Tryz.func346.trans (congrArg some (by kernel_rfl))⟩
 f38:=⟨"slices.medianOrdered[string]",by decide,Tryz.func347.trans (congrArg some (by kernel_rfl))⟩
 f39:=⟨"cmp.isNaN[string]",by decide,Tryz.func339.trans (congrArg some (by kernel_rfl))⟩
 f41:=⟨"slices.order2Ordered[string]",by decide,Tryz.func382.trans (congrArg some (by kernel_rfl))⟩
 t0:=Tryz.underlying0
 a0:=Tryz.isAgg0
 z0:=Tryz.sizeOf0
 v0:=Tryz.zeroValue0
 t3:=Tryz.underlying3
 a3:=Tryz.isAgg3
 z3:=Tryz.sizeOf3
 v3:=Tryz.zeroValue3
 t4:=Tryz.underlying4
 a4:=Tryz.isAgg4
 z4:=Tryz.sizeOf4
 v4:=Tryz.zeroValue4
 t5:=Tryz.underlying5
 a5:=Tryz.isAgg5
 z5:=Tryz.sizeOf5
 v5:=Tryz.zeroValue5
 t9:=Tryz.underlying9
 a9:=Tryz.isAgg9
 z9:=Tryz.sizeOf9
 v9:=Tryz.zeroValue9
 t26:=Tryz.underlying97
 a26:=Tryz.isAgg97
 z26:=Tryz.sizeOf97
 v26:=Tryz.zeroValue97
 t27:=Tryz.underlying97
 a27:=Tryz.isAgg97
 z27:=Tryz.sizeOf97
 v27:=Tryz.zeroValue97
 t29:=Tryz.underlying9
 a29:=Tryz.isAgg9
 z29:=Tryz.sizeOf9
 v29:=Tryz.zeroValue9
 t32:=Tryz.underlying206
 a32:=Tryz.isAgg206
 z32:=Tryz.sizeOf206
 v32:=Tryz.zeroValue206
 t35:=Tryz.underlying410
 a35:=Tryz.isAgg410
 z35:=Tryz.sizeOf410
 v35:=Tryz.zeroValue410
 t36:=Tryz.underlying411
 a36:=Tryz.isAgg411
 z36:=Tryz.sizeOf411
 v36:=Tryz.zeroValue411
 t41:=Tryz.underlying212
 a41:=Tryz.isAgg212
 z41:=Tryz.sizeOf212
 v41:=Tryz.zeroValue212
 t44:=Tryz.underlying344
 a44:=Tryz.isAgg344
 z44:=Tryz.sizeOf344
 v44:=Tryz.zeroValue344
 t46:=Tryz.underlying23
 a46:=Tryz.isAgg23
 z46:=Tryz.sizeOf23
 v46:=Tryz.zeroValue23
 t53:=Tryz.underlying454
 a53:=Tryz.isAgg454
 z53:=Tryz.sizeOf454
 v53:=Tryz.zeroValue454
 t57:=Tryz.underlying457
 a57:=Tryz.isAgg457
 z57:=Tryz.sizeOf457
 v57:=Tryz.zeroValue457
 t63:=Tryz.underlying495
 a63:=Tryz.isAgg495
 z63:=Tryz.sizeOf495
 v63:=Tryz.zeroValue495
 t64:=Tryz.underlying496
 a64:=Tryz.isAgg496
 z64:=Tryz.sizeOf496
 v64:=Tryz.zeroValue496 }
theorem aNS (m:Nat):AnyZ.SortsIn Tryz.prog aGi Fence.wide m :=
 ⟨fun blk off cap ss W hH hblk hsz=>callsIn_wide.2 (AnyM.slices_Sort_string aGh blk off cap ss W hH hblk hsz),
  fun p cap W=>callsIn_wide.2 (AnyM.slices_Sort_string_none aGh p cap W)⟩
theorem aIP (mb:Nat) (G:PM):Ct Tryz.prog 92 #[.map (some mb)] G [] (fun _ μ' u=>∃ bk,μ'=[.blk bk (cl [.map (some mb)] 116)]∧u=.func (.func 143) #[] #[.pointer (some ⟨bk,0,none⟩)]):=fun w hs=>by
 refine (callsIn_wide.1 (AnyZ.keys_in aGf Fence.wide 5 trivial rfl (some mb) w)).mono ?_
 rintro e w' ⟨rfl,rfl⟩
 exact ⟨_,G,_,rfl,(eQ (μ:=[]) hs).alloc _,w.heap.size,rfl,rfl⟩
theorem aQO {l:List (Lit×DataW Unit)}:∀ {y},y∈l.foldr DataW.insert []→y∈l:=by
 induction l with
 | nil=>intro y h; exact h
 | cons x r ih =>
  intro y h
  rcases ChangeMaps.mem_insert_iff.1 h with rfl | h
  ·exact List.mem_cons_self ..
  ·exact List.mem_cons_of_mem _ (ih h)
theorem aQC {l:List (Lit×DataW Unit)}:(l.foldr DataW.insert []).length=l.length:=by
 have h1:∀ (x:Lit×DataW Unit) (r:List (Lit×DataW Unit)),(DataW.insert x r).length=r.length+1:=by
  intro x r
  induction r with
  | nil=>rfl
  | cons y r ih=>rw [DataW.insert]; split<;>simp [ih]
 induction l with
 | nil=>rfl
 | cons x r ih=>rw [List.foldr_cons,h1,ih]; rfl
theorem aJQ {f:Fi} (h:f.nm.size≤100):WideElems.rd (H:=Unit) Tryz.prog 9 (fun _=>some (.nil,[])) (mE f.fe)=some (.string f.nm.data.toList,.nil):=by
 unfold WideElems.rd
 rw [show (mE f.fe).key=.string f.nm from rfl,Go.WideMaps.keyOf_string_mk Tryz.underlying9 (by unfold maxLen; omega)]
 rfl
theorem aJ5 (bk bm clk:Nat) (F:List Fi) (G:PM) (hD:DkR F clk) (hbk:PB G bk (cl [.map (some bm)] 116)) (hbm:PB G bm (mO (F.map Fi.fe) clk)) :
  Ct Tryz.prog 91 #[.func (.func 143) #[] #[.pointer (some ⟨bk,0,none⟩)]] G [] (fun _ μ' u=>∃ L:List ByteArray,(∀ s∈L,s∈F.map Fi.nm)∧L.length≤1000∧μ'=[rS 1 kF u 9 L]):=fun w hs=>by
 have hk:w.heap[bk]? = some (cl [.map (some bm)] 116):=hs.sub _ _ hbk.h
 have hm:w.heap[bm]? = some (mO (F.map Fi.fe) clk):=hs.sub _ _ hbm.h
 have hc:=hD.cnt
 have hown:w.ownsMap (H:=Unit) Tryz.prog 9 (fun _=>some (.nil,[])) bm F.length (.map ((((F.map Fi.fe).map mE).map (WideElems.rg Tryz.prog 9 (fun _=>some (.nil,[])))).foldr DataW.insert [])):=by
  refine ⟨((F.map Fi.fe).map mE).toArray,clk,hm,⟨by simp [maxLen]; omega,⟨fun x hx=>?_,?_,?_⟩,fun x hx=>?_⟩,by simp,rfl⟩
  ·simp only [List.mem_map] at hx
   obtain ⟨_,⟨f,hf,rfl⟩,rfl⟩:=hx
   exact hD.old f hf
  ·have:((F.map Fi.fe).map mE).map (·.born)=F.map Fi.born:=by simp [Function.comp_def,mE,Fi.fe]
   rw [show ((F.map Fi.fe).map mE).toArray.toList=(F.map Fi.fe).map mE from rfl,this]; exact hD.nd
  ·have:((F.map Fi.fe).map mE).map (·.key)=(F.map Fi.nm).map Value.string:=by simp [Function.comp_def,mE,Fi.fe]
   rw [show ((F.map Fi.fe).map mE).toArray.toList=(F.map Fi.fe).map mE from rfl,this]
   exact List.Pairwise.map _ (fun a b h e=>h (Value.string.inj e)) hD.un
  simp only [List.mem_map] at hx
  obtain ⟨_,⟨f,hf,rfl⟩,rfl⟩:=hx
  exact ⟨_,aJQ (hD.gn f hf)⟩
 have hsz:Maps.size (DataW.map ((((F.map Fi.fe).map mE).map (WideElems.rg (H:=Unit) Tryz.prog 9 (fun _=>some (.nil,[])))).foldr DataW.insert []))=F.length:=by
  show List.length _=_
  rw [aQC]; simp
 have hcell:w.cell? ⟨bk,0,none⟩=some (.map (some bm)):=by simp [World.cell?,hk,cl]
 have hseq:=AnyZ.keys_gives (ρ:=aGg) { aGf with } Fence.wide 2 trivial rfl (by omega) bk bm F.length _ w (Array.getElem?_eq_some_iff.1 hk).1 hcell hown
 refine (callsIn_wide.1 (AnyZ.sorted_in aNR Fence.wide 5 trivial trivial trivial trivial rfl (by omega) (aNS _) (enters_of Tryz.func142 (by kernel_rfl) rfl) 143 #[.pointer (some ⟨bk,0,none⟩)] trivial (enters_of Tryz.func143 (by kernel_rfl) rfl) _ _ (by rw [hsz]; unfold maxLen; omega) (by rw [hsz]; omega) _ hseq)).mono ?_
 rintro e w' ⟨v,ss,rfl,hS,hrow,hnil,hb⟩
 obtain ⟨L,hL⟩ : ∃ L:List ByteArray,L=(ss.mergeSort (fun x y=>decide (x≤y))).map fun l=>⟨l.toArray⟩:=⟨_,rfl⟩
 have hLl:L.length=ss.length:=by rw [hL,List.length_map,List.length_mergeSort]
 have hLe:(ss.mergeSort (fun x y=>decide (x≤y))).map encStr=L.flatMap kF:=by
  rw [hL]
  generalize ss.mergeSort (fun x y=>decide (x≤y))=q
  induction q with
  | nil=>rfl
  | cons x r ih=>simp only [List.map_cons,List.flatMap_cons,ih,kF,List.singleton_append]
 rw [hLe,←hLl] at hrow
 have hmem:∀ s∈L,s∈F.map Fi.nm:=fun s hsm=>by
  rw [hL] at hsm
  obtain ⟨l,hl,rfl⟩:=List.mem_map.1 hsm
  have h1:l∈ss:=List.mem_mergeSort.1 hl
  have h2:=hS.mem_iff.1 h1
  obtain ⟨p,hp,rfl⟩:=List.mem_map.1 h2
  obtain ⟨x,hx,rfl⟩:=List.mem_map.1 (aQO hp)
  simp only [List.mem_map] at hx
  obtain ⟨_,⟨f,hf,rfl⟩,rfl⟩:=hx
  rw [WideElems.rg_of (aJQ (hD.gn f hf))]
  exact List.mem_map.2 ⟨f,hf,by simp [strOf]⟩
 have hlen:L.length≤1000:=by
  rw [hLl,hS.length_eq]
  have:(strKeys (DataW.map ((((F.map Fi.fe).map mE).map (WideElems.rg (H:=Unit) Tryz.prog 9 (fun _=>some (.nil,[])))).foldr DataW.insert []))).length=F.length:=by rw [← hsz]; exact List.length_map _
  omega
 have hsub:∀ b o,G b=some o→w'.heap[b]? = some o:=fun b o hbo=>by
  have h1:=hs.sub b o hbo
  rw [hb.block b (Array.getElem?_eq_some_iff.1 h1).1]; exact h1
 have hkeys:∀ b∈keys [rS 1 kF v 9 L],w.heap.size≤b:=fun b hbk'=>by
  simp only [keys,Res.keys,List.flatMap_cons,List.flatMap_nil,List.append_nil] at hbk'
  rcases hrow.2 with ⟨rfl,_⟩ | ⟨g,cap,cur,rfl,hg,_⟩
  ·simp [Value.ownBlock] at hbk'
  simp [Value.ownBlock] at hbk'; omega
 refine ⟨v,G,_,rfl,⟨⟨hsub,fun r hr=>?_,fun b hbk'=>?_,?_⟩,hb.os,hb.tape,hb.output,hb.size,fun b hbl _=>⟨hb.block b hbl,rfl⟩,fun b hbk'=>.inr (hkeys b hbk'),fun _ _ _ h=>h⟩,L,hmem,hlen,rfl⟩
 ·rw [List.mem_singleton.1 hr]
  refine ⟨hrow.1,hrow.2.imp id ?_⟩
  rintro ⟨g,cap,cur,h1,h2,h3⟩
  exact ⟨g,cap,cur,h1,Nat.zero_le _,h3⟩
 ·cases hG:G b with
  | none=>rfl
  | some o =>
   have h1:=(Array.getElem?_eq_some_iff.1 (hs.sub b o hG)).1
   have h2:=hkeys b hbk'
   omega
 simp only [keys,Res.keys,List.flatMap_cons,List.flatMap_nil,List.append_nil]
 cases v.ownBlock<;>simp
end Go.Proofs.YtoifkgkandfeiaaGreatDoor
namespace Go.Proofs.YtoifkgkandfeiaaGreatDoor
open Go.Tan Go.RowKit Go.Maps Go.Sort Go.Shelf
theorem aBb:(bJ Tryz.prog 279).isSome=true:=by kernel_rfl
theorem zK:jO Tryz.prog 5 3=some .i64:=by kernel_rfl
theorem aVf:bT Tryz.prog 279=some none:=by kernel_rfl
theorem aW8:aL Tryz.prog 250=true:=by kernel_rfl
theorem aXg:aL Tryz.prog 370=true:=by kernel_rfl
theorem aMB:aL Tryz.prog 212=true:=by kernel_rfl
theorem aXa:aL Tryz.prog 337=true:=by kernel_rfl
theorem aU3 (y:Value) (bk:Nat) (G:PM) (hbk:PB G bk (cl [.slice none 0 0] 279)):Ct Tryz.prog 280 ([y,.pointer (some ⟨bk,0,none⟩)]:List Value).toArray G [] (fun _ μ' u=>μ'=[]∧u=.tuple #[]):=by
 refine Ct.of Tryz.func280 rfl Tryz.ntmps280 rfl fun w0 hs0=>?_
 refine .g (lN rfl aVf rfl ((hbk.rd (rfl)).rd) ?_)
 refine lE rfl aBb rfl (mV rfl rfl (.nc (.block ?_)))
 refine aX (α:=Nat) (fun k=>[(7,true,.int .i64 ((k:Nat):Int))]) (fun _=>[])
  (fun k Gl=>(k=0)) (fun k=>0) 0 [(0,true,_),(5,true,_),(6,true,_)] []
  (aM rfl (aA rfl (aA rfl (aA rfl eZ))))
  mN ?_ ?_
 ·(try dsimp only)<;>(first|omega|rfl|assumption|(simp; done))
 intro k N0 Gl0 hN0 hGl0 hF0
 try dsimp only at hF0 hN0 ⊢
 have hk:=hF0
 refine .g (cP rfl rfl rfl rfl (.g (cD rfl (fun c1=>?_) (fun c1=>?_))))
 ·have c1k:=c1
  subst hk; exact absurd c1 (by decide)
 have c1k:=c1
 try simp only [aD,aE] at c1
 refine .g (aK Tryz.results280 .nil ?_)
 exact ⟨rfl,rfl⟩
theorem aU4 (G:PM):Ct Tryz.prog 201 ([.slice none 0 0]:List Value).toArray G [] (fun _ μ' u=>∃ bk,μ'=[.blk bk (cl [.slice none 0 0] 279)]∧u=.func (.func 280) #[] #[.pointer (some ⟨bk,0,none⟩)]):=by
 refine Ct.of Tryz.func201 rfl Tryz.ntmps201 rfl fun w0 hs0=>?_
 refine .seq (bB rfl rfl ?_)
 refine bX rfl rfl rfl ?_; intro b1
 refine .g (mf (vf:=#[]) (vc:=[Value.pointer (some ⟨b1,0,none⟩)].toArray) rfl .no (fun a ha _=>by simp) (fun a ha _=>by simp [(Ev.u (c:=true) rfl:Ev _ true (.tmp 1) _).eval ha rfl]) ?_)
 refine aS rfl rfl (.nc (.ret (bD Tryz.results201 (.tmp rfl .nil) (mS .here rfl mN) ?_)))
 exact ⟨b1,rfl,rfl⟩
theorem aQn (G:PM):Ct Tryz.prog 250 ([.int .u64 0]:List Value).toArray G [] (fun _ μ' u=>μ'=[]):=by
 refine Ct.of Tryz.func250 rfl Tryz.ntmps250 rfl fun w0 hs0=>?_
 refine .g (cP rfl rfl rfl rfl (.g (cD rfl (fun c1=>?_) (fun c1=>?_))))
 ·have c1k:=c1
  exact absurd c1 (by decide)
 have c1k:=c1
 try simp only [aD,aH,aE] at c1
 refine .g (cP rfl rfl rfl rfl (.g (cD rfl (fun c2=>?_) (fun c2=>?_))))
 ·have c2k:=c2
  exact absurd c2 (by decide)
 have c2k:=c2
 try simp only [aD,aH,aE] at c2
 refine .g (cP rfl rfl rfl rfl (.g (cD rfl (fun c3=>?_) (fun c3=>?_))))
 ·have c3k:=c3
  exact absurd c3 (by decide)
 have c3k:=c3
 try simp only [aD,aH,aE] at c3
 refine .g (cv rfl .no vU (.u rfl) (sI 0 rfl .no lU (.u rfl) (.u rfl) (fun _=>rfl) (fun _=>of_decide_eq_true (by kernel_rfl)) ?_))
 refine cv rfl .no zK (.u rfl) (aw rfl .no (.u rfl) (.u rfl) rfl (aS rfl rfl (.nc (.ret (aK Tryz.results250 (.tmp rfl .nil) ?_)))))
 exact rfl
theorem aG4 (G:PM):Ct Tryz.prog 212 ([.int .u64 0]:List Value).toArray G [] (fun _ μ' u=>μ'=[]):=by
 refine Ct.of Tryz.func212 rfl Tryz.ntmps212 rfl fun w0 hs0=>?_
 refine .g (cD rfl (fun c1=>?_) (fun c1=>?_))
 ·exact absurd c1 (by decide)
 try simp only [aD,aE] at c1
 refine .g (kc rfl aW8 (aB rfl aF) (aQn _) ?_)
 rintro v7 G7 μ7 hG7 rfl
 refine aS rfl rfl (.nc (.ret (aK Tryz.results212 (.tmp rfl .nil) ?_)))
 exact rfl
theorem aP9 (G:PM):Ct Tryz.prog 370 ([.slice none 0 0,.int .i64 0,.int .i64 0]:List Value).toArray G [] (fun _ μ' u=>μ'=[]∧u=.tuple #[]):=by
 refine Ct.of Tryz.func370 rfl Tryz.ntmps370 rfl fun w0 hs0=>?_
 refine .g (aW (((0+1):Nat):Int) rfl rfl rfl rfl ?_)
 refine aS rfl rfl (.nc (.block ?_))
 refine aX (α:=Nat) (fun k=>[(6,true,.int .i64 ((k:Nat):Int))]) (fun _=>[])
  (fun k Gl=>(k=1)) (fun k=>0) 1 [(0,true,_),(1,true,_),(2,true,_)] []
  (aM rfl (aA rfl (aA rfl (aA rfl eZ))))
  mN ?_ ?_
 ·(try dsimp only)<;>(first|omega|rfl|assumption|(simp; done))
 intro k N0 Gl0 hN0 hGl0 hF0
 try dsimp only at hF0 hN0 ⊢
 have hk:=hF0
 refine .g (cP rfl rfl rfl rfl (.g (cD rfl (fun c1=>?_) (fun c1=>?_))))
 ·have c1k:=c1
  subst hk; exact absurd c1 (by decide)
 have c1k:=c1
 try simp only [aD,aE] at c1
 refine .g (aK Tryz.results370 .nil ?_)
 exact ⟨rfl,rfl⟩
theorem aSg (v:Value) (G:PM):Ct Tryz.prog 337 ([.slice none 0 0,.int .i64 0,.int .i64 0,v]:List Value).toArray G [] (fun _ μ' u=>μ'=[]∧u=.tuple #[]):=by
 refine Ct.of Tryz.func337 rfl Tryz.ntmps337 rfl fun w0 hs0=>?_
 refine .seq (aQ rfl rfl (aS rfl rfl (.nc (.seq (aQ rfl rfl (aS rfl rfl (.nc (.block ?_))))))))
 refine aX (α:=Nat) (fun k=>[(1,true,.int .i64 0),(2,true,.int .i64 0),(3,true,v),(8,true,.bool true),(9,true,.bool true)]) (fun _=>[])
  (fun k Gl=>True) (fun k=>0) 0 [(0,true,_)] []
  (aM rfl (aM rfl (aA rfl (aA rfl (aA rfl (aA rfl eZ))))))
  mN ?_ ?_
 ·trivial
 intro k N0 Gl0 hN0 hGl0 hF0
 try dsimp only at hF0 hN0 ⊢
 refine .g (aR rfl rfl rfl rfl ?_)
 refine .g (cP rfl rfl rfl rfl (.g (cD rfl (fun c1=>?_) (fun c1=>?_))))
 ·have c1k:=c1
  try simp only [aD,aE] at c1
  refine .g (kV rfl aXg (aB rfl (aB rfl (aB rfl aF))) (aP9 _) ?_)
  refine .nil (.code (.ret (aK Tryz.results337 .nil ?_)))
  exact ⟨rfl,rfl⟩
 have c1k:=c1
 exact absurd c1 (by decide)
theorem aT6 (G:PM):Ct Tryz.prog 279 ([.slice none 0 0]:List Value).toArray G [] (fun _ μ' u=>μ'=[]∧u=.tuple #[]):=by
 refine Ct.of Tryz.func279 rfl Tryz.ntmps279 rfl fun w0 hs0=>?_
 refine .g (lE rfl aBb rfl (.g (cw rfl .no aFd (.u rfl) (fun _=>mL (by omega) (by omega)) ?_)))
 refine kc rfl aMB (aB rfl aF) (aG4 _) ?_
 rintro v9 G9 μ9 hG9 rfl
 refine kV rfl aXa (aB rfl (aB rfl (aB rfl (aB rfl aF)))) (aSg _ _) ?_
 refine .g (aK Tryz.results279 .nil ?_)
 exact ⟨rfl,rfl⟩
theorem aS2 {P:Program} {g:Operand} {ps:Array Tmp} {assign body:Code} {Q:Exit→Act→World→Prop} {a:Act} {w:World} {gf:Nat} {lb:Array Value} (hg:a.eval g=.func (.func gf) #[] lb)
  (eg:∀ args w,(callFunc gf args).run P w=.ok (.enter gf args) w)
  (hcall:∀ l W,Below w.heap.size w W→Calls P gf (#[.func (.yield l) #[] #[]]++lb) W fun e W'=>(∃ v,e=.returned v)∧Below W.heap.size W W')
  (hQ:∀ D W,Below w.heap.size w W→w.heap.size≤D→W.heap[D]? = some (.deferred (some []))→Q .normal { a with defers:={ target:=.collected D,args:=#[] } :: a.defers } W) :
  (Code.rangeFunc g ps assign body).wpIn Fence.wide 5 P Q a w:=by
 refine wpIn_rangeFunc fun fn hfn=>?_
 obtain ⟨lp,hlp⟩ : ∃ lp:Loop,lp = { state:=.ready,pending:=none,fn,tmps:=a.tmps,params:=ps,assign,body,defers:=w.heap.size }:=⟨_,rfl⟩
 obtain ⟨W1,hW1⟩ : ∃ W1,(w.alloc (.deferred (some []))).alloc (.loop lp)=W1:=⟨_,rfl⟩
 have hL1:W1.heap[w.heap.size+1]? = some (.loop lp):=by
  rw [← hW1]; have:=World.alloc_heap_new (w.alloc (.deferred (some []))) (.loop lp); rwa [World.size_alloc] at this
 have hK1:W1.heap[w.heap.size]? = some (.deferred (some [])):=by
  rw [← hW1]; exact (Below.heap_alloc _ _ _ (by simp)).trans (World.alloc_heap_new w _)
 have hb1:Below w.heap.size w W1:=by
  rw [← hW1]; exact ((Below.refl _ w).alloc (Nat.le_refl _) _).alloc (by simp) _
 refine ⟨w.heap.size+1,[{ target:=.collected w.heap.size,args:=#[] }],W1,{ target:=.fn (.func gf) lb,args:=#[.func (.yield (w.heap.size+1)) #[] #[]] },W1,gf, #[.func (.yield (w.heap.size+1)) #[] #[]]++lb,W1,?_,?_,?_,?_,fun _=>by omega,?_⟩
 ·rw [← hW1,hlp]; exact run_enterLoop_outer _ _ _ _ _
 ·simp only [resolve,hg]; simp [go_sem]
 ·intro f' _; trivial
 ·simp [invoke,go_sem,eg]
 refine callsIn_wide.2 ((hcall _ W1 hb1).mono ?_)
 rintro e W2 ⟨⟨v,rfl⟩,hb2⟩
 have hL2:W2.heap[w.heap.size+1]? = some (.loop lp):=(hb2.block _ (Array.getElem?_eq_some_iff.1 hL1).1).trans hL1
 have hK2:W2.heap[w.heap.size]? = some (.deferred (some [])):=(hb2.block _ (Array.getElem?_eq_some_iff.1 hK1).1).trans hK1
 have hend:=run_endLoop (P:=P) hL2 (by rw [hlp]; simp)
 have hpe:lp.pending=none:=by rw [hlp]
 rw [hpe] at hend
 have hb12:Below w.heap.size w W2:=hb1.trans (hb2.mono hb1.size)
 refine ⟨none,_,hend,hQ w.heap.size _ (hb12.grown (grownBy_putObj_a _ _ _) hb12.size (fun k e=>by cases e; omega)) (Nat.le_refl _) ((World.putObj_heap_other (by omega)).trans hK2)⟩
theorem aNm (bk:Nat) (G:PM) (hbk:PB G bk (cl [.slice none 0 0] 279)):Ct Tryz.prog 336 #[.slice none 0 0,.func (.func 280) #[] #[.pointer (some ⟨bk,0,none⟩)]] G [] (fun _ μ' u=>μ'=[]∧u=.slice none 0 0):=fun w hs=>by
 refine (callsIn_wide (n:=5)).1 ?_
 refine callsIn_of_wp_marks Tryz.func336 rfl trivial ?_ rfl
 simp only [Tryz.ntmps336,List.size_toArray,List.length_cons,List.length_nil,Nat.reduceAdd,Nat.reduceSub,Array.replicate_succ,Array.replicate_zero,List.push_toArray,List.append_toArray,List.nil_append,List.cons_append]
 gi_wp2
 have hbl:Below w.heap.size w (w.alloc (.cells #[.slice none 0 0] 279)):=(Below.refl _ w).alloc (Nat.le_refl _) _
 have hv0:(w.alloc (.cells #[.slice none 0 0] 279)).heap[w.heap.size]? = some (.cells #[.slice none 0 0] 279 (0,0)):=World.alloc_heap_new w _
 have hs0:(w.alloc (.cells #[.slice none 0 0] 279)).heap.size=w.heap.size+1:=by simp
 refine aS2 (gf:=280) (lb:=#[.pointer (some ⟨bk,0,none⟩)]) rfl (enters_of Tryz.func280 (by kernel_rfl) rfl) (fun l W hb=>?_) (fun D W hb hD hK=>?_)
 ·have hsub:∀ b o,G b=some o→W.heap[b]? = some o:=fun b o h=>by
   have h1:=hs.sub b o h
   have h2:=(Array.getElem?_eq_some_iff.1 h1).1
   rw [hb.block b (by omega),hbl.block b h2]; exact h1
  refine (aU3 (.func (.yield l) #[] #[]) bk G hbk W ⟨hsub,fun r hr=>(by cases hr),fun b hb=>(by cases hb),List.nodup_nil⟩).mono ?_
  rintro e W' ⟨v,G',μ',rfl,ht,_⟩
  exact ⟨⟨v,rfl⟩,ht.os,ht.tape,ht.output,ht.size,fun k hk=>(ht.old k hk (fun h=>by cases h)).1⟩
 have hv3:W.heap[w.heap.size]? = some (.cells #[.slice none 0 0] 279 (0,0)):=(hb.block _ (by omega)).trans hv0
 obtain ⟨hc3,hf3⟩:=cell_of_box_a hv3
 have hbw:Below w.heap.size w W:=hbl.trans (hb.mono (by omega))
 gi_wp2
 refine ⟨by simp,.inl ⟨_,_,rfl,run_takeDeferred hK,?_⟩⟩
 have hbz:=hbw.grown (grownBy_putObj_a W D (.deferred none)) hbw.size (fun k e=>by cases e; omega)
 refine ⟨_,results_tmp rfl _ _ _,_,G,[],rfl,⟨⟨fun b o h=>?_,fun r hr=>(by cases hr),fun b hb=>(by cases hb),List.nodup_nil⟩,hbz.os,hbz.tape,hbz.output,hbz.size,fun b hb _=>⟨hbz.block b hb,rfl⟩,fun b hb=>(by cases hb),fun _ _ _ h=>h⟩,rfl,rfl⟩
 have h1:=hs.sub b o h
 exact (hbz.block b (Array.getElem?_eq_some_iff.1 h1).1).trans h1
end Go.Proofs.YtoifkgkandfeiaaGreatDoor
namespace Go.Proofs.YtoifkgkandfeiaaGreatDoor
open Go.Tan Go.RowKit Go.Maps Go.Sort Go.Shelf
theorem aM2:aL Tryz.prog 196=true:=by kernel_rfl
theorem aMb:bJ Tryz.prog 191=some (189,1,24):=by kernel_rfl
theorem aMf:(bJ Tryz.prog 191).isSome=true:=by kernel_rfl
theorem aW3:aL Tryz.prog 231=true:=by kernel_rfl
theorem aFX:bT Tryz.prog 189=some none:=by kernel_rfl
theorem aXS:aL Tryz.prog 316=true:=by kernel_rfl
theorem aW2:aL Tryz.prog 230=true:=by kernel_rfl
theorem aXZ:aL Tryz.prog 336=true:=by kernel_rfl
theorem aXF:aL Tryz.prog 278=true:=by kernel_rfl
theorem aXG:aL Tryz.prog 279=true:=by kernel_rfl
theorem aX7:(Tryz.prog.info? 189).bind (·.zero)=some (.slice none 0 0):=by kernel_rfl
theorem aWn:aL Tryz.prog 164=true:=by kernel_rfl
theorem aWw:aL Tryz.prog 201=true:=by kernel_rfl
theorem aWv:aL Tryz.prog 200=true:=by kernel_rfl
theorem aX3:dV Tryz.prog 191=some ([.slice none 0 0]):=by kernel_rfl
theorem aMv:dV Tryz.prog 3=some ([.int .i64 0]):=by kernel_rfl
theorem aWu:aL Tryz.prog 197=true:=by kernel_rfl
theorem aVe:bT Tryz.prog 191=some none:=by kernel_rfl
theorem aJl:aAh []=true:=aCs fun j h=>absurd h (by simp)
theorem aRO (G:PM):Ct Tryz.prog 231 ([.slice none 0 0]:List Value).toArray G [] (fun _ μ' u=>μ'=[]∧u=.bool false):=by
 refine Ct.of Tryz.func231 rfl Tryz.ntmps231 rfl fun w0 hs0=>?_
 refine .g (kV rfl aM2 (aB rfl aF) (aJm ⟨none,0⟩ [] _ SlR.nul (by decide)) ?_)
 refine nt rfl .no (.u rfl) (aS rfl rfl (.nc (.ret (aK Tryz.results231 (.tmp rfl .nil) ?_))))
 exact ⟨rfl,congrArg Value.bool (by rw [aJl]; rfl)⟩
theorem aP4 (b:Nat) (G:PM) (hb:PB G b (cl [.slice none 0 0] 189)):Ct Tryz.prog 316 ([.slice (some ⟨b,0,none⟩) 1 1,.func (.func 231) #[] #[]]:List Value).toArray G [] (fun _ μ' u=>μ'=[]∧u=.int .i64 (-1)):=by
 refine Ct.of Tryz.func316 rfl Tryz.ntmps316 rfl fun w0 hs0=>?_
 refine .g (lE rfl aMf rfl (mV rfl rfl (.nc (.block ?_))))
 refine aX (α:=Nat) (fun k=>[(8,true,.int .i64 (k:Int))]) (fun _=>[])
  (fun k Gl=>(k≤1)) (fun k=>1-k) 0 [(0,true,_),(1,true,_),(7,true,_)] []
  (aM rfl (aA rfl (aA rfl (aA rfl eZ))))
  mN ?_ ?_
 ·(try dsimp only)<;>(first|omega|rfl|assumption|(simp; done))
 intro k N0 Gl0 hN0 hGl0 hF0
 try dsimp only at hF0 hN0 ⊢
 have hk:=hF0
 have hb:=hb.mono hGl0
 refine .g (cP rfl rfl rfl rfl (.g (cD rfl (fun c1=>?_) (fun c1=>?_))))
 ·have c1k:=c1
  try simp only [aD,aE] at c1
  refine .skip (.code (.seq (.block (.seq (bB rfl rfl (mV rfl rfl (aS rfl rfl (.nc (.seq (iV rfl rfl (mV rfl rfl (mV rfl rfl (mV rfl rfl ?_)))))))))))))
  have hk0:k=0:=by omega
  refine ia rfl .no aMb (.u rfl) (.u rfl) (by omega) (by omega) ?_
  refine lN rfl aFX rfl ((hb.rd (by rw [hk0]; rfl)).rd) ?_
  refine kf rfl .no (.u rfl) aW3 (aB rfl aF) (fun _=>aRO _) ?_
  refine .g (cD rfl (fun c2=>?_) (fun c2=>?_))
  ·have c2k:=c2
   cases c2
  have c2k:=c2
  try simp only [aD,aE] at c2
  refine .g (aW (((k+1):Nat):Int) rfl rfl rfl rfl ?_)
  refine .g (aU (k+1) ?_ ?_ ?_ ?_ ?_)
  ·exact (aM rfl (aA rfl (aA rfl (aA rfl eZ))))
  ·exact mN
  ·first|omega|(dsimp only; omega)
  ·exact hGl0
  (try dsimp only)<;>(first|omega|rfl|assumption|(simp; done))
 have c1k:=c1
 try simp only [aD,aE] at c1
 refine .exit (.xcode (.xlp (.xblk (.code (.seq (aQ rfl rfl (aS rfl rfl (.nc (.ret (aK Tryz.results316 (.tmp rfl .nil) ?_))))))))))
 exact ⟨rfl,rfl⟩
theorem aOO (b:Nat) (G:PM) (hb:PB G b (cl [.slice none 0 0] 189)):Ct Tryz.prog 230 ([.slice (some ⟨b,0,none⟩) 1 1,.func (.func 231) #[] #[]]:List Value).toArray G [] (fun _ μ' u=>μ'=[]∧u=.bool false):=by
 refine Ct.of Tryz.func230 rfl Tryz.ntmps230 rfl fun w0 hs0=>?_
 refine .g (kV rfl aXS (aB rfl (aB rfl aF)) (aP4 b _ hb) ?_)
 refine cP rfl rfl rfl rfl (aS rfl rfl (.nc (.ret (aK Tryz.results230 (.tmp rfl .nil) ?_))))
 exact ⟨rfl,rfl⟩
theorem aRP (b:Nat) (G:PM) (hb:PB G b (cl [.slice none 0 0] 189)):Ct Tryz.prog 164 ([.slice (some ⟨b,0,none⟩) 1 1]:List Value).toArray G [] (fun _ μ' u=>μ'=[]∧u=.bool true):=by
 refine Ct.of Tryz.func164 rfl Tryz.ntmps164 rfl fun w0 hs0=>?_
 refine .g (kV rfl aW2 (aB rfl (aB rfl aF)) (aOO b _ hb) ?_)
 refine nt rfl .no (.u rfl) (aS rfl rfl (.nc (.ret (aK Tryz.results164 (.tmp rfl .nil) ?_))))
 exact ⟨rfl,rfl⟩
theorem aON (bk:Nat) (G:PM) (hbk:PB G bk (cl [.slice none 0 0] 279)):Ct Tryz.prog 278 ([.func (.func 280) #[] #[.pointer (some ⟨bk,0,none⟩)]]:List Value).toArray G [] (fun _ μ' u=>μ'=[]∧u=.slice none 0 0):=by
 refine Ct.of Tryz.func278 rfl Tryz.ntmps278 rfl fun w0 hs0=>?_
 refine .g (kV rfl aXZ (aB rfl (aB rfl aF)) (aNm bk _ hbk) ?_)
 refine aS rfl rfl (.nc (.ret (aK Tryz.results278 (.tmp rfl .nil) ?_)))
 exact ⟨rfl,rfl⟩
theorem aT8 (bk:Nat) (G:PM) (hbk:PB G bk (cl [.slice none 0 0] 279)):Ct Tryz.prog 200 ([.func (.func 280) #[] #[.pointer (some ⟨bk,0,none⟩)]]:List Value).toArray G [] (fun _ μ' u=>μ'=[]∧u=.slice none 0 0):=by
 refine Ct.of Tryz.func200 rfl Tryz.ntmps200 rfl fun w0 hs0=>?_
 refine .g (kV rfl aXF (aB rfl aF) (aON bk _ hbk) ?_)
 refine .g (kV rfl aXG (aB rfl aF) (aT6 _) ?_)
 refine .nil (.code (.seq (bB rfl rfl (mV rfl rfl (aS rfl rfl (.nc (.ret (aK Tryz.results200 (.tmp rfl .nil) ?_))))))))
 exact ⟨rfl,rfl⟩
theorem aIO (G:PM):Ct Tryz.prog 132 ([.slice none 0 0,.slice none 0 0,.bool false]:List Value).toArray G [] (fun _ μ' u=>μ'=[]∧u=.slice none 0 0):=by
 refine Ct.of Tryz.func132 rfl Tryz.ntmps132 rfl fun w0 hs0=>?_
 refine .seq (bB rfl rfl ?_)
 refine bX rfl rfl rfl ?_; intro b3
 refine .g (lO rfl aFX rfl .here (by first|exact aV rfl|rfl) ?_)
 refine Go.Tan.b1 rfl aMb aX7 (.u rfl) rfl rfl (by decide) ?_; intro b15
 refine kp rfl .no aWn (aB rfl aF) (Gp.add .here Gp.nil) (fun _ hle hq=>aRP b15 _ ⟨bU _ _ _⟩) ?_
 refine nt rfl .no (.u rfl) (.g (cD rfl (fun c1=>?_) (fun c1=>?_)))
 ·have c1k:=c1
  cases c1
 have c1k:=c1
 try simp only [aD,aE] at c1
 refine .g (kc rfl aWw (aB rfl aF) (aU4 _) ?_)
 rintro _ G19 μ19 hG19 ⟨b19,rfl,rfl⟩
 refine kp rfl .no aWv (aB rfl aF) (Gp.add .here Gp.nil) (fun _ hle hq=>aT8 b19 _ ⟨bU _ _ _⟩) ?_
 refine aS rfl rfl (.nc (.seq (aQ rfl rfl (aS rfl rfl (.nc (.seq (.block ?_)))))))
 refine aX (α:=Nat) (fun k=>[(8,true,.slice none 0 0)]) (fun k=>[.blk b3 (cl [.slice none 0 0] 189)])
  (fun k Gl=>True) (fun k=>0) 0 [(2,true,_),(3,true,_),(7,true,_)] [_,_]
  (aA rfl (aA rfl (aA rfl (aA rfl eZ))))
  (mS aI rfl (mS .here rfl (mS .here rfl mN))) ?_ ?_
 ·trivial
 intro k N0 Gl0 hN0 hGl0 hF0
 try dsimp only at hF0 hN0 ⊢
 refine .g (lO rfl aFX rfl .here (by first|exact aV rfl|rfl) ?_)
 refine lE rfl aBS rfl (cP rfl rfl rfl rfl (.g (cD rfl (fun c2=>?_) (fun c2=>?_))))
 ·have c2k:=c2
  cases c2
 have c2k:=c2
 try simp only [aD,aE] at c2
 refine .exit (.xcode (.xlp (.xblk (.code (.seq (bB rfl rfl (mV rfl rfl (aS rfl rfl (.nc (.ret (aK Tryz.results132 (.tmp rfl .nil) ?_)))))))))))
 exact ⟨rfl,rfl⟩
theorem aT5 (f:Value) (G:PM):Ct Tryz.prog 197 ([.slice none 0 0,f]:List Value).toArray G [] (fun _ μ' u=>μ'=[]∧u=.tuple #[]):=by
 refine Ct.of Tryz.func197 rfl Tryz.ntmps197 rfl fun w0 hs0=>?_
 refine .block ?_
 refine aX (α:=Nat) (fun k=>[(0,true,.slice none 0 0)]) (fun _=>[])
  (fun k Gl=>True) (fun k=>0) 0 [(1,true,_)] []
  (aA rfl (aA rfl eZ))
  mN ?_ ?_
 ·trivial
 intro k N0 Gl0 hN0 hGl0 hF0
 try dsimp only at hF0 hN0 ⊢
 refine .g (lE rfl aBS rfl (cP rfl rfl rfl rfl (.g (cD rfl (fun c1=>?_) (fun c1=>?_)))))
 ·have c1k:=c1
  cases c1
 have c1k:=c1
 try simp only [aD,aE] at c1
 refine .g (aK Tryz.results197 .nil ?_)
 exact ⟨rfl,rfl⟩
theorem aJ6 (n:Int) (G:PM):Ct Tryz.prog 131 ([.slice none 0 0,.int .i64 n]:List Value).toArray G [] (fun _ μ' u=>μ'=[]∧u=.slice none 0 0):=by
 refine Ct.of Tryz.func131 rfl Tryz.ntmps131 rfl fun w0 hs0=>?_
 refine .seq (bB rfl rfl ?_)
 refine bX rfl rfl rfl ?_; intro b3
 refine .g (kV rfl aM2 (aB rfl aF) (aJm ⟨none,0⟩ [] _ SlR.nul (by decide)) ?_)
 refine nt rfl .no (.u rfl) (.g (cD rfl (fun c1=>?_) (fun c1=>?_)))
 ·have c1k:=c1
  rw [aJl] at c1; cases c1
 have c1k:=c1
 try simp only [aD,aE] at c1
 refine .skip (.code (.seq (aQ rfl rfl ?_)))
 refine al rfl aX3 ?_; intro b5
 refine .nil (.code (.seq (bB rfl rfl ?_)))
 refine al rfl aMv ?_; intro b6
 refine s1 rfl (.u rfl) (.u rfl) rfl lR .here (by first|decide|(simp only [cC,bP,cI]; omega)) (rfl) ?_
 refine .g (mf (vf:=#[]) (vc:=[Value.pointer (some ⟨b5,0,none⟩),Value.pointer (some ⟨b6,0,none⟩),Value.pointer (some ⟨b3,0,none⟩)].toArray) rfl .no (fun a ha _=>by simp) (fun a ha _=>by simp [(Ev.u (c:=true) rfl:Ev _ true (.tmp 5) _).eval ha rfl,(Ev.u (c:=true) rfl:Ev _ true (.tmp 6) _).eval ha rfl,(Ev.u (c:=true) rfl:Ev _ true (.tmp 3) _).eval ha rfl]) ?_)
 refine kV rfl aWu (aB rfl (aB rfl aF)) (aT5 _ _) ?_
 refine .g (lO rfl aVe rfl aC (by first|exact aV rfl|rfl) ?_)
 refine aS rfl rfl (.nc (.ret (aK Tryz.results131 (.tmp rfl .nil) ?_)))
 exact ⟨rfl,rfl⟩
theorem aKN (y:Value) (n:Int) (G:PM):Ct Tryz.prog 130 ([y,.int .i64 n,.slice none 0 0]:List Value).toArray G [] (fun _ μ' u=>μ'=[]∧u=.slice none 0 0):=by
 refine Ct.of Tryz.func130 rfl Tryz.ntmps130 rfl fun w0 hs0=>?_
 refine .g (lE rfl aMf rfl (mV rfl rfl (.nc (.block ?_))))
 refine aX (α:=Nat) (fun k=>[(7,true,.slice none 0 0),(16,true,.int .i64 (k:Int))]) (fun _=>[])
  (fun k Gl=>(k=0)) (fun k=>0) 0 [(0,true,_),(1,true,_),(14,true,_),(15,true,_)] []
  (aA rfl (aM rfl (aA rfl (aA rfl (aA rfl (aA rfl eZ))))))
  mN ?_ ?_
 ·(try dsimp only)<;>(first|omega|rfl|assumption|(simp; done))
 intro k N0 Gl0 hN0 hGl0 hF0
 try dsimp only at hF0 hN0 ⊢
 have hk:=hF0
 refine .g (cP rfl rfl rfl rfl (.g (cD rfl (fun c1=>?_) (fun c1=>?_))))
 ·have c1k:=c1
  subst hk; cases c1
 have c1k:=c1
 try simp only [aD,aE] at c1
 refine .exit (.xcode (.xlp (.xblk (.code (.seq (bB rfl rfl (mV rfl rfl (aS rfl rfl (.nc (.ret (aK Tryz.results130 (.tmp rfl .nil) ?_)))))))))))
 exact ⟨rfl,rfl⟩
end Go.Proofs.YtoifkgkandfeiaaGreatDoor
namespace Go.Proofs.YtoifkgkandfeiaaGreatDoor
open Go.Tan Go.RowKit Go.Maps Go.Sort Go.Shelf
theorem jA:bT Tryz.prog 30=some none:=by kernel_rfl
theorem aXD:aL Tryz.prog 266=true:=by kernel_rfl
theorem aMX:aL Tryz.prog 92=true:=by kernel_rfl
theorem aMW:aL Tryz.prog 91=true:=by kernel_rfl
theorem nX:aT Tryz.prog 165 0=some 0:=by kernel_rfl
theorem gU:bT Tryz.prog 48=some none:=by kernel_rfl
theorem aDJ:aL Tryz.prog 52=true:=by kernel_rfl
theorem aL6:aL Tryz.prog 194=true:=by kernel_rfl
theorem vX:aT Tryz.prog 165 6=some 56:=by kernel_rfl
theorem tX:aL Tryz.prog 103=true:=by kernel_rfl
theorem yT:aT Tryz.prog 165 1=some 1:=by kernel_rfl
theorem pY:bT Tryz.prog 50=some none:=by kernel_rfl
theorem aBJ:aL Tryz.prog 134=true:=by kernel_rfl
theorem aWx:aL Tryz.prog 209=true:=by kernel_rfl
theorem mW:aL Tryz.prog 135=true:=by kernel_rfl
theorem qA:aT Tryz.prog 163 0=some 0:=by kernel_rfl
theorem aBI:aL Tryz.prog 102=true:=by kernel_rfl
theorem mX:jR Tryz.prog 45=true:=by kernel_rfl
theorem aWY:aT Tryz.prog 165 15=some 83:=by kernel_rfl
theorem aLg:aT Tryz.prog 165 16=some 84:=by kernel_rfl
theorem aW7:aL Tryz.prog 246=true:=by kernel_rfl
theorem aDG:aL Tryz.prog 175=true:=by kernel_rfl
theorem aWq:aL Tryz.prog 174=true:=by kernel_rfl
theorem aP5 (h:Sh) (l:List ByteArray) (x:ByteArray) (G:PM) (hs:SlR G 1 kF h l) (hl:l.length≤100000000):Ct Tryz.prog 266 ([h.val l.length,.string x]:List Value).toArray G [] (fun _ μ' u=>μ'=[]∧u=.int .i64 (oH (fun y=>x.toList == y.toList) l)):=by
 refine Ct.of Tryz.func266 rfl Tryz.ntmps266 rfl fun w0 hs0=>?_
 refine .g (lE rfl wM rfl (mV rfl rfl (.nc (.block ?_))))
 refine aX (α:=Nat) (fun k=>[(8,true,.int .i64 (k:Int))]) (fun _=>[])
  (fun k Gl=>(k≤l.length)∧(∀ j y,j<k→l[j]? = some y→(x.toList == y.toList)=false)) (fun k=>l.length-k) 0 [(0,true,_),(1,true,_),(7,true,_)] []
  (aM rfl (aA rfl (aA rfl (aA rfl eZ))))
  mN ?_ ?_
 ·refine ⟨?_,?_⟩
  ·(try dsimp only)<;>(first|omega|rfl|assumption|(simp; done))
  (try dsimp only)<;>(exact fun j y h=>absurd h (Nat.not_lt_zero _))
 intro k N0 Gl0 hN0 hGl0 hF0
 try dsimp only at hF0 hN0 ⊢
 obtain ⟨hk,hno⟩:=hF0
 have hs:=hs.mono hGl0
 refine .g (cP rfl rfl rfl rfl (.g (cD rfl (fun c1=>?_) (fun c1=>?_))))
 ·have c1k:=c1
  try simp only [aD,aE] at c1
  refine .skip (.code (.seq (.block (.seq (bB rfl rfl (mV rfl rfl (aS rfl rfl (.nc (.seq (iV rfl rfl (mV rfl rfl (mV rfl rfl (mV rfl rfl (ih rfl .no jZ (.u rfl) (.u rfl) (by omega) (by omega) (fun _=>hs.nn (k:=k) (by first|omega|(simp only [Bool.and_eq_true,decide_eq_true_eq] at hc; omega)|(simp only [List.length_cons,List.length_nil]; omega))) ?_))))))))))))))
  obtain ⟨y,ey⟩:=dY (k:=k) (xs:=l) (by omega)
  refine lN rfl cW rfl ((hs.at (by omega) ey 0 _ rfl).rd) ?_
  refine cs rfl .no (.u rfl) (.u rfl) rfl (.g (cD rfl (fun c2=>?_) (fun c2=>?_)))
  ·have c2k:=c2
   try simp only [aD,aE] at c2
   refine .seq (bB rfl rfl (mV rfl rfl (aS rfl rfl (.nc (.ret (aK Tryz.results266 (.tmp rfl .nil) ?_))))))
   exact ⟨rfl,aIE hno ey (by simpa using c2k)⟩
  have c2k:=c2
  try simp only [aD,aE] at c2
  refine .g (aW (((k+1):Nat):Int) rfl rfl rfl rfl ?_)
  refine .g (aU (k+1) ?_ ?_ ?_ ?_ ?_)
  ·exact (aM rfl (aA rfl (aA rfl (aA rfl eZ))))
  ·exact mN
  ·first|omega|(dsimp only; omega)
  ·exact hGl0
  refine ⟨?_,?_⟩
  ·(try dsimp only)<;>(first|omega|rfl|assumption|(simp; done))
  (try dsimp only)<;>(exact aIG (p:=fun y=>x.toList == y.toList) hno ey (by simpa using c2k))
 have c1k:=c1
 try simp only [aD,aE] at c1
 refine .exit (.xcode (.xlp (.xblk (.code (.seq (aQ rfl rfl (aS rfl rfl (.nc (.ret (aK Tryz.results266 (.tmp rfl .nil) ?_))))))))))
 exact ⟨rfl,aIF hno (by omega)⟩
theorem aHE (h:Sh) (l:List ByteArray) (x:ByteArray) (G:PM) (hs:SlR G 1 kF h l) (hl:l.length≤100000000):Ct Tryz.prog 194 ([h.val l.length,.string x]:List Value).toArray G [] (fun _ μ' u=>μ'=[]∧u=.bool (l.any (fun y=>x.toList == y.toList))):=by
 refine Ct.of Tryz.func194 rfl Tryz.ntmps194 rfl fun w0 hs0=>?_
 refine .g (kV rfl aXD (aB rfl (aB rfl aF)) (aP5 h l x _ hs hl) ?_)
 refine cP rfl rfl rfl rfl (aS rfl rfl (.nc (.ret (aK Tryz.results194 (.tmp rfl .nil) ?_))))
 exact ⟨rfl,congrArg Value.bool aP8⟩
theorem aIu (bd bm room done clk:Nat) (F:List Fi) (G:PM) (hbd:PB G bd (cl (bH bm room done) 118)) (hbm:PB G bm (mO (F.map Fi.fe) clk)) (hD:DkR F clk):Ct Tryz.prog 52 ([.pointer (some ⟨bd,0,none⟩)]:List Value).toArray G [] (fun G' μ' u=>∃ (h:Sh) (L:List ByteArray),(∀ s∈L,s∈F.map Fi.nm)∧L.length≤1000∧SlR G' 1 kF h L∧μ'=[]∧u=h.val L.length):=by
 refine Ct.of Tryz.func52 rfl Tryz.ntmps52 rfl fun w0 hs0=>?_
 refine .g (pe rfl .no iY (.u rfl) (.u rfl) ?_)
 refine .g (dM rfl rfl ?_)
 refine .g (nC rfl rfl (fA rfl fX rfl (lN rfl fW rfl ((hbd.rd (rfl)).rd) ?_)))
 refine kc rfl aMX (aB rfl aF) (aIP bm _) ?_
 rintro _ G9 μ9 hG9 ⟨b9,rfl,rfl⟩
 have hbm:=hbm.mono hG9
 refine ka rfl (.inr rfl) aMW (aB rfl aF) (cO .here) (pV fun hle=>aJ5 b9 bm clk F _ hD ⟨bU _ _ _⟩ (hbm.mono hle)) ?_
 rintro v10 G10 μ10 hG10 ⟨L10,hm10,hl10,rfl⟩
 refine aS rfl rfl (.nc (.ret ?_))
 refine aAu .here (fun _ _=>rfl) (by intro b hb; cases hb) ?_; intro GfRN hRN hleRN evRN hsRN; subst evRN
 refine aK Tryz.results52 (.tmp rfl .nil) ?_
 exact ⟨_,L10,hm10,hl10,hsRN,rfl,rfl⟩
theorem aUV (bx:Nat) (d:Db) (bm room done clk:Nat) (F:List Fi) (G:PM) (hbx:PB G bx (cl d.cells 165)) (hbd:PB G d.dk (cl (bH bm room done) 118)) (hbm:PB G bm (mO (F.map Fi.fe) clk)) (hD:DkR F clk) (h:Sh) (l:List ByteArray) (hs:SlR G 1 kF h l) (hl:l.length≤100000) (hall:∀ f∈F,f.nm∈l):Ct Tryz.prog 128 ([pt bx,h.val l.length]:List Value).toArray G [] (fun _ μ' u=>μ'=[]∧u=.tuple #[]):=by
 refine Ct.of Tryz.func128 rfl Tryz.ntmps128 rfl fun w0 hs0=>?_
 refine .g (nC rfl rfl (fA rfl nX rfl (lN rfl gU rfl ((hbx.rd (rfl)).rd) ?_)))
 refine kc rfl aDJ (aB rfl aF) (aIu d.dk bm room done clk F _ hbd hbm hD) ?_
 rintro _ G10 μ10 hG10 ⟨h10,L10,hm10,hl10,hs10,rfl,rfl⟩
 have hs:=hs.mono hG10
 refine lE rfl wM rfl (mV rfl rfl (.nc (.block ?_)))
 refine aX (α:=Nat) (fun k=>[(12,true,.int .i64 (k:Int))]) (fun _=>[])
  (fun k Gl=>(k≤L10.length)) (fun k=>L10.length-k) 0 [(0,true,_),(1,true,_),(10,true,_),(11,true,_)] []
  (aM rfl (aA rfl (aA rfl (aA rfl (aA rfl eZ)))))
  mN ?_ ?_
 ·(try dsimp only)<;>(first|omega|rfl|assumption|(simp; done))
 intro k N0 Gl0 hN0 hGl0 hF0
 try dsimp only at hF0 hN0 ⊢
 have hk:=hF0
 have hs:=hs.mono hGl0
 have hs10:=hs10.mono hGl0
 refine .g (cP rfl rfl rfl rfl (.g (cD rfl (fun c1=>?_) (fun c1=>?_))))
 ·have c1k:=c1
  try simp only [aD,aE] at c1
  refine .skip (.code (.seq (.block (.seq (dP rfl rfl (ih rfl .no jZ (.u rfl) (.u rfl) (by omega) (by omega) (fun _=>hs10.nn (k:=k) (by first|omega|(simp only [Bool.and_eq_true,decide_eq_true_eq] at hc; omega)|(simp only [List.length_cons,List.length_nil]; omega))) ?_))))))
  obtain ⟨y,ey⟩:=dY (k:=k) (xs:=L10) (by omega)
  refine lN rfl cW rfl ((hs10.at (by omega) ey 0 _ rfl).rd) ?_
  refine .g (kV rfl aL6 (aB rfl (aB rfl aF)) (aHE h l y _ hs (by omega)) ?_)
  refine nt rfl .no (.u rfl) (.g (cD rfl (fun c2=>?_) (fun c2=>?_)))
  ·have c2k:=c2
   have hq9:(l.any fun z=>y.toList == z.toList)=true:=by
    obtain ⟨f,hf,e⟩:=List.mem_map.1 (hm10 y (List.mem_of_getElem? ey))
    exact List.any_eq_true.2 ⟨y,by rw [← e]; exact hall f hf,by simp⟩
   rw [hq9] at c2; cases c2
  have c2k:=c2
  try simp only [aD,aE] at c2
  refine .g (aW (((k+1):Nat):Int) rfl rfl rfl rfl ?_)
  refine .g (aU (k+1) ?_ ?_ ?_ ?_ ?_)
  ·exact (aM rfl (aA rfl (aA rfl (aA rfl (aA rfl eZ)))))
  ·exact mN
  ·first|omega|(dsimp only; omega)
  ·exact hGl0
  (try dsimp only)<;>(first|omega|rfl|assumption|(simp; done))
 have c1k:=c1
 try simp only [aD,aE] at c1
 refine .g (aK Tryz.results128 .nil ?_)
 exact ⟨rfl,rfl⟩
theorem sR (bx:Nat) (d:Db) (G:PM) (hn:d.next.toNat<1000):Ct Tryz.prog 129 ([pt bx]:List Value).toArray G [.blk bx (cl (Db.cells d) 165)] (fun _ μ' u=>μ'=[.blk bx (cl (Db.cells { d with next:=d.next+1#64 }) 165)]∧u=uv .u64 d.next):=by
 refine Ct.of Tryz.func129 rfl Tryz.ntmps129 rfl fun w0 hs0=>?_
 have hn2:@BitVec.toNat IntKind.u64.bits d.next = @BitVec.toNat 64 d.next:=rfl
 refine .g (nC rfl rfl (fZ rfl vX rfl (lO rfl aZ rfl .here rfl ?_)))
 refine cP rfl rfl rfl rfl (kV rfl tX (aB rfl aF) (sT _ (by simp; omega) _) ?_)
 refine .g (nC rfl rfl (fZ rfl vX rfl (lO rfl aZ rfl .here rfl ?_)))
 refine bw (k:=.u64) (b:=1#64) rfl .no rfl (.u rfl) (.u rfl) rfl (nC rfl rfl (fZ rfl vX rfl (s1 rfl (.u rfl) (.u rfl) rfl kB .here (by show _<85; decide) (aFT d _) ?_)))
 refine .g (nC rfl rfl (fZ rfl vX rfl (lO rfl aZ rfl .here rfl ?_)))
 refine bw (k:=.u64) (b:=1#64) rfl .no rfl (.u rfl) (.u rfl) rfl (aS rfl rfl (.nc (.ret (bD Tryz.results129 (.tmp rfl .nil) (mS .here rfl mN) ?_))))
 exact ⟨rfl,congrArg (uv .u64) (BitVec.add_sub_cancel d.next 1#64)⟩
theorem aO7 (bx bt:Nat) (d:Db) (m o:BitVec 64) (G:PM) (hbx:PB G bx (cl d.cells 165)) (ht:d.tr=bt) (hm:m.toNat≤1000):Ct Tryz.prog 140 ([pt bx]:List Value).toArray G [.blk bt (cl [uv .u64 (m),uv .u64 (o)] 87)] (fun _ μ' u=>μ'=[.blk bt (cl [uv .u64 (m+1#64),uv .u64 (o)] 87)]∧u=.tuple #[]):=by
 subst ht
 refine Ct.of Tryz.func140 rfl Tryz.ntmps140 rfl fun w0 hs0=>?_
 refine dX ⟨true,false⟩ aY (by kernel_rfl) ?_
 refine Wp.one 0 (by kernel_rfl) ?_
 refine mV rfl rfl (.nil (Wp.one 1 (by kernel_rfl) ?_))
 refine nC rfl rfl (.nil (Wp.one 2 (by kernel_rfl) ?_))
 refine fA rfl yT rfl (.nil (Wp.one 4 (by kernel_rfl) ?_))
 refine mV rfl rfl (.nil (Wp.one 5 (by kernel_rfl) ?_))
 refine nC rfl rfl (.nil (Wp.one 6 (by kernel_rfl) ?_))
 refine fA rfl yT rfl (.nil (Wp.one 7 (by kernel_rfl) ?_))
 refine lN rfl pY rfl ((hbx.rd (rfl)).rd) ?_
 refine .nil (iE 3 (by kernel_rfl) ?_)
 refine lN rfl pY rfl ((hbx.rd (rfl)).rd) ?_
 refine .nil ⟨⟨rfl,rfl⟩,?_⟩
 refine Wp.b1 8 (by kernel_rfl) ?_
 refine kp rfl .no aBJ (aB rfl aF) (Gp.add .here Gp.nil) (fun _ hle hq=>aAS d.tr m o _ ⟨bU _ _ _⟩) ?_
 refine .nil (Wp.one 9 (by kernel_rfl) ?_)
 refine bw (k:=.u64) (b:=1#64) rfl .no rfl (.u rfl) (.u rfl) rfl (.nil (Wp.b1 10 (by kernel_rfl) ?_))
 refine ka rfl (.inl rfl) aWx (aB rfl (aB rfl aF)) (cO .here) (aRG d.tr m o _ (by omega)) ?_
 rintro _ G12 μ12 hG12 ⟨rfl,rfl⟩
 refine .nil (Wp.b1 11 (by kernel_rfl) ?_)
 refine kV rfl mW (aB rfl aF) (nL _) ?_
 refine .nil (Wp.last (by kernel_rfl) ?_)
 refine .nil (bD Tryz.results140 .nil (mS .here rfl mN) ?_)
 exact ⟨rfl,rfl⟩
theorem sM (b o:Nat) (f:Fl) (G:PM) (hf:RdNP G b o f.cells) (hn:f.h.num.toNat<10):Ct Tryz.prog 137 ([.pointer (some ⟨b,o,none⟩)]:List Value).toArray G [] (fun _ μ' u=>μ'=[]∧u=.string (aO f.h.kind.toNat f.h.num.toNat)):=by
 refine Ct.of Tryz.func137 rfl Tryz.ntmps137 rfl fun w0 hs0=>?_
 refine .g (bO (mc:=⟨false,false⟩) [0,1,2,3,4,5,6,7,8,9,10,11] aY (by kernel_rfl) ?_)
 refine .p (nC rfl rfl (fA rfl qA rfl (fA rfl aC5 rfl (lN rfl bM rfl ((hf 0 _ rfl).rd) ?_))))
 refine .p (nC rfl rfl (fA rfl qA rfl (fA rfl yS rfl (lN rfl aZ rfl ((hf 4 _ rfl).rd) ?_))))
 refine kV rfl aBI (aB rfl (aB rfl aF)) (aAZ f.h.kind f.h.num _ hn) ?_
 refine aS rfl rfl (.nc (.ret (aK Tryz.results137 (.tmp rfl .nil) ?_)))
 exact ⟨rfl,rfl⟩
theorem aFI (bx:Nat) (d:Db) (G:PM) (hbx:PB G bx (cl d.cells 165)):Ct Tryz.prog 96 ([pt bx]:List Value).toArray G [] (fun _ μ' u=>μ'=[]∧u=.int .i64 0):=by
 refine Ct.of Tryz.func96 rfl Tryz.ntmps96 rfl fun w0 hs0=>?_
 refine .g (pe rfl .no mX (.u rfl) (.u rfl) ?_)
 refine .g (cD rfl (fun c1=>?_) (fun c1=>?_))
 ·have c1k:=c1
  cases c1
 have c1k:=c1
 try simp only [aD,aE] at c1
 refine .g (nC rfl rfl (fA rfl aWY rfl (lN rfl jA rfl ((hbx.rd (rfl)).rd) ?_)))
 refine cP rfl rfl rfl rfl (.g (cD rfl (fun c2=>?_) (fun c2=>?_)))
 ·have c2k:=c2
  exact absurd c2 (by decide)
 have c2k:=c2
 try simp only [aD,aE] at c2
 refine .g (nC rfl rfl (fA rfl aLg rfl (lN rfl kX rfl ((hbx.rd (rfl)).rd) ?_)))
 refine .g (cD rfl (fun c3=>?_) (fun c3=>?_))
 ·have c3k:=c3
  cases c3
 have c3k:=c3
 try simp only [aD,aE] at c3
 refine .skip (.blk (.code (.seq (aQ rfl rfl (aS rfl rfl (.nc (.ret (aK Tryz.results96 (.tmp rfl .nil) ?_))))))))
 exact ⟨rfl,rfl⟩
theorem aOw (bx bm room done clk:Nat) (d:Db) (F:List Fi) (G:PM) (hbx:PB G bx (cl d.cells 165)) (hD:DkR F clk) (hd9:done≤200000000) (hr9:room≤1000000000) (nm:ByteArray) (f:Fi) (hn:eH nm) (hf:bK nm F=some f):Ct Tryz.prog 174 ([pt bx,.string nm]:List Value).toArray G [.blk d.dk (cl (bH bm room (done)) 118),.blk bm (mO ((F).map Fi.fe) (clk))] (fun _ μ' u=>μ'=[.blk d.dk (cl (bH bm room (done+1)) 118),.blk bm (mO ((tC nm F).map Fi.fe) (clk))]∧u=.tuple #[]):=by
 refine Ct.of Tryz.func174 rfl Tryz.ntmps174 rfl fun w0 hs0=>?_
 refine .g (nC rfl rfl (fA rfl nX rfl (lN rfl gU rfl ((hbx.rd (rfl)).rd) ?_)))
 refine .p (ka rfl (.inr rfl) aW7 (aB rfl (aB rfl aF)) (dI .here .here) (aOt d.dk bm room done clk F _ hD (by omega) hr9 nm f hn hf) ?_)
 rintro _ G10 μ10 hG10 ⟨rfl,rfl⟩
 refine .g (cP rfl rfl rfl rfl (.g (cD rfl (fun c1=>?_) (fun c1=>?_))))
 ·have c1k:=c1
  exact absurd c1 (by decide)
 have c1k:=c1
 try simp only [aD,aE] at c1
 refine .g (kV rfl mW (aB rfl aF) (nL _) ?_)
 refine .g (bD Tryz.results174 .nil (mS .here rfl (mS .here rfl mN)) ?_)
 exact ⟨rfl,rfl⟩
theorem aC3:aT Tryz.prog 159 3=some 7:=by kernel_rfl
theorem aC4:aT Tryz.prog 159 4=some 8:=by kernel_rfl
theorem aC2:aT Tryz.prog 159 1=some 5:=by kernel_rfl
theorem pZ:aT Tryz.prog 159 0=some 0:=by kernel_rfl
theorem vT:bT Tryz.prog 156=some (some 5):=by kernel_rfl
theorem rY:fH Tryz.prog 156=some (5,155,1):=by kernel_rfl
theorem gS:bT Tryz.prog 155=some none:=by kernel_rfl
theorem lQ:bJ Tryz.prog 155=some (184,40,112):=by kernel_rfl
theorem iZ:(bJ Tryz.prog 155).isSome=true:=by kernel_rfl
theorem pW:bT Tryz.prog 184=some (some 40):=by kernel_rfl
theorem aBX:dV Tryz.prog 184=some (Meta.zero.cells):=by kernel_rfl
theorem aBV:cE Tryz.prog 184=some 40:=by kernel_rfl
theorem aGE:mpE Tryz.prog 152=some (.u64,3):=by kernel_rfl
theorem aDT:(Tryz.prog.info? 3).bind (·.zero)=some (.int .i64 0):=by kernel_rfl
theorem aXU:aL Tryz.prog 319=true:=by kernel_rfl
theorem aXW:aL Tryz.prog 320=true:=by kernel_rfl
theorem aDU:(Tryz.prog.info? 184).bind (·.zero)=some (.agg (Meta.zero.cells).toArray):=by kernel_rfl
set_option maxHeartbeats 1000000 in
theorem aKi (s:State) (hd:Nat→Sh) (G:PM) (hs:StR G s hd):Ct Tryz.prog 238 ([s.val hd]:List Value).toArray G [] (fun _ μ' u=>μ'=[]∧u=.bool (vF s)):=by
 refine Ct.of Tryz.func238 rfl Tryz.ntmps238 rfl fun w0 hs0=>?_
 refine .seq (bB rfl rfl ?_)
 refine bX rfl rfl rfl ?_; intro b1
 refine .g (fZ rfl aC3 rfl (lO rfl aZ rfl .here rfl ?_))
 refine fZ rfl aC4 rfl (lO rfl aZ rfl .here rfl ?_)
 refine mA rfl .no (.u rfl) (.u rfl) ?_
 refine cP rfl rfl rfl rfl (.p (fz rfl (.f rfl rfl) aC2 (.u rfl) (ld rfl (.f rfl rfl) aZ (.s rfl) (fun _=>Rd.own .here rfl) ?_)))
 refine fz rfl (.f rfl rfl) aA7 (.u rfl) (ld rfl (.f rfl rfl) aZ (.s rfl) (fun _=>Rd.own .here rfl) ?_)
 refine cp rfl (.f rfl rfl) (.s rfl) (.s rfl) rfl (bZ rfl .no (.u rfl) (.s rfl) (.g (cD rfl (fun c1=>?_) (fun c1=>?_))))
 ·have c1k:=c1
  try simp only [aD] at c1
  refine .seq (aQ rfl rfl (aS rfl rfl (.nc (.ret (aK Tryz.results238 (.tmp rfl .nil) ?_)))))
  exact ⟨rfl,aEE (aTc c1)⟩
 have c1k:=c1
 try simp only [aD] at c1
 refine .skip (.code (.seq (bB rfl rfl ?_)))
 refine mk rfl .u64 ?_; intro b22
 refine .g (fZ rfl pZ rfl (lA rfl .no vT (.u rfl) (fun _=>RdN.part (n:=5) aC rfl) (fun _=>rfl) ?_))
 refine mV rfl rfl (.nc (.block ?_))
 refine aX (α:=Nat) (fun i=>[(4,true,.int .i64 (1024-tot s i)),(25,true,.int .i64 (i:Int))]) (fun i=>[.mp b22 .u64 (lY (iJ (dD s i)))])
  (fun i Gl=>i≤5∧tot s i≤1024∧(∀ j,j<i→aBd s j (s.lv j))∧rU (dD s i)) (fun i=>5-i) 0 [(1,true,_),(3,true,_),(24,true,_)] [.blk b1 _]
  (aA rfl (aA rfl (aA rfl (aA rfl (aA rfl eZ)))))
  (mS .here rfl (mS .here rfl mN)) ?_ ?_
 ·exact ⟨by omega,by simp [tot],fun j hj=>by omega,aO5⟩
 intro i N0 Gl0 hN0 hGl0 hF0
 try dsimp only at hF0 hN0 ⊢
 obtain ⟨hi,ht,hall,hdi⟩:=hF0
 refine .g (cP rfl rfl rfl rfl (.g (cD rfl (fun c2=>?_) (fun c2=>?_))))
 ·have c2k:=c2
  try simp only [aD] at c2
  refine .skip (.code (.seq (.block (.seq (dT rfl rfl ?_)))))
  have hli:=hs.len i (by omega); have htn:=aFE s i
  refine .p (ix rfl .no rY gS (.u rfl) (.u rfl) (by omega) (by omega) (fun _=>(s.arr_lv hd (k:=i) (by omega))) ?_)
  refine .g (lE rfl iZ rfl (.p (cP rfl rfl rfl rfl (.g (cD rfl (fun c3=>?_) (fun c3=>?_))))))
  ·have c3k:=c3
   try simp only [aD] at c3
   refine .seq (aQ rfl rfl (aS rfl rfl (.nc (.ret (aK Tryz.results238 (.tmp rfl .nil) ?_)))))
   exact ⟨rfl,aEE (aTb (by omega) c3)⟩
  have c3k:=c3
  try simp only [aD] at c3
  refine .g (lE rfl iZ rfl (aR rfl rfl rfl rfl ?_))
  refine .g (lE rfl iZ rfl (mV rfl rfl (.nc (.block ?_))))
  refine aX (α:=Nat) (fun k=>[(39,true,.int .i64 (k:Int))]) (fun k=>[.mp b22 .u64 (lY (iJ (dD s i++(s.lv i).take k)))])
   (fun k Gl=>Part s i k) (fun k=>(s.lv i).length-k) 0 [(1,true,_),(3,true,_),(4,true,_),(5,true,_),(6,true,_),(24,true,_),(25,true,_),(37,true,_),(38,true,_)] [.blk b1 _]
   (aA rfl (aA rfl (aA rfl (aA rfl (aA rfl (aA rfl (aA rfl (aA rfl (aA rfl (aA rfl eZ))))))))))
   (mS .here (aOM s i _) (mS .here rfl mN)) ?_ ?_
  ·exact Part.zero hdi
  intro k N1 Gl1 hN1 hGl1 hF1
  try dsimp only at hF1 hN1 ⊢
  have hP:Part s i k:=hF1; have hkl:=hP.le
  refine .g (cP rfl rfl rfl rfl (.g (cD rfl (fun c4=>?_) (fun c4=>?_))))
  ·have c4k:=c4
   try simp only [aD] at c4
   refine .skip (.code (.seq (.block (.seq (iV rfl rfl ?_)))))
   have hwf:=(hs.wf i (by omega) _ (aB6 (k:=k) (by omega))).level; have hcb:=aOE (iJ (dD s i++(s.lv i).take k)) ((s.lv i).getD k Meta.zero).number
   refine mV rfl rfl (ih rfl .no lQ (.u rfl) (.u rfl) (by omega) (by omega) (fun _=>(hs.lv i (by omega)).nn (k:=k) (by omega)) ?_)
   refine lA rfl .no pW (.u rfl) (fun _=>((((hs.mono hGl0).mono hGl1).lv i (by omega)).gat k (by omega) (by omega)).rd) (fun _=>rfl) ?_
   refine al rfl aBX ?_; intro b8
   refine .p (sw rfl (.u rfl) (.u rfl) rfl aBV .here rfl (Meta.one _) ?_)
   refine .g (fZ rfl vY rfl (lO rfl aZ rfl .here rfl ?_))
   refine lk rfl .no aGE aDT (.u rfl) (.u rfl) aC (aOF _ _) ?_
   refine aR rfl rfl rfl rfl ?_
   refine mu rfl aGE (.u rfl) (.u rfl) (.u rfl) aC ?_
   refine .g (bO (mc:=⟨false,false⟩) [0,1,2,3,4,5,6,7,8,9,10,11,12,13,14,15,16,17,18,19,20,21,22,23,24,25,26,27,28,29,30] aY (by kernel_rfl) ?_)
   refine fZ rfl yU rfl (lO rfl bM rfl aC rfl ?_)
   refine cw rfl .no zK (.u rfl) (fun _=>eV (by omega) (by omega)) ?_
   refine .p (cP rfl rfl rfl rfl (.p (lA rfl (.f rfl rfl) pW (.u rfl) (fun _=>RdN.own aC) (fun _=>rfl) ?_)))
   refine kp rfl (.f rfl rfl) aXU (aB rfl (Eva.cons (.s rfl) aF)) (Gp.add aI Gp.nil) (fun hc hle hq=>aPc s hd _ b1 _ RdNP.add hwf.1) ?_
   refine nt rfl (.f rfl rfl) (.s rfl) (bZ rfl .no (.u rfl) (.s rfl) (mV rfl rfl (mv rfl (.f rfl rfl) (.u rfl) (fz rfl (.f rfl rfl) vY (.u rfl) (ld rfl (.f rfl rfl) aZ (.s rfl) (fun _=>Rd.own aC rfl) ?_)))))
   refine lk rfl (.f rfl rfl) aGE aDT (.s rfl) (.s rfl) .here (aOL _ _ _ _) ?_
   refine cp rfl (.f rfl rfl) (.s rfl) (.u rfl) rfl (bZ rfl .no (.u rfl) (.s rfl) (mV rfl rfl (mv rfl (.f rfl rfl) (.u rfl) (cp rfl (.f rfl rfl) (.s rfl) (.u rfl) rfl (mv rfl (.f rfl rfl) (.s rfl) (mv rfl (.tc rfl rfl) (.u rfl) (mv rfl (.tc rfl rfl) (.u rfl) (ar rfl (.tc rfl rfl) (.s rfl) (.u rfl) rfl (fun hc=>eV (by omega) (by omega)) ?_))))))))
   refine ih rfl (.tc rfl rfl) lQ (.s rfl) (.s rfl) (fun hc=>by simp only [Bool.and_eq_true,decide_eq_true_eq] at hc; omega) (fun hc=>by simp only [Bool.and_eq_true,decide_eq_true_eq] at hc; omega) (fun hc=>(hs.lv i (by omega)).nn (k:=k) (by omega)) ?_
   refine lA rfl (.tc rfl rfl) pW (.s rfl) (fun hc=>((((hs.mono hGl0).mono hGl1).lv i (by omega)).gat (k-1) (by simp only [Bool.and_eq_true,decide_eq_true_eq] at hc; omega) (by omega)).rd) (fun _=>rfl) ?_
   refine lA rfl (.tc rfl rfl) pW (.u rfl) (fun _=>RdN.own aC) (fun _=>rfl) ?_
   refine kv rfl (.tc rfl rfl) aXW (Eva.cons (.s rfl) (Eva.cons (.s rfl) aF)) (fun hc=>aUO _ _ _ (hs.wf i (by omega) _ (aB6 (by simp only [Bool.and_eq_true,decide_eq_true_eq] at hc; omega))).level.1) ?_
   refine nt rfl (.tc rfl rfl) (.s rfl) (bL rfl (.f rfl rfl) (.s rfl) (.s rfl) (bZ rfl .no (.u rfl) (.s rfl) (.g (cD rfl (fun c5=>?_) (fun c5=>?_)))))
   ·have c5k:=c5
    try simp only [aD] at c5
    refine .seq (aQ rfl rfl (aS rfl rfl (.nc (.ret (aK Tryz.results238 (.tmp rfl .nil) ?_)))))
    exact ⟨rfl,aEE (aTd (by omega) (by omega) hP c5k)⟩
   have c5k:=c5
   try simp only [aD] at c5
   refine .g (aR rfl rfl rfl rfl ?_)
   refine mV rfl rfl (.nil ?_)
   have hst:=aTe (by omega) hP c5k
   refine aU (k+1) ?_ ?_ ?_ ?_ ?_
   ·exact (aA rfl (aA rfl (aA rfl (aA rfl (aA rfl (aA rfl (aA rfl (aA rfl (aA rfl (aA rfl eZ))))))))))
   ·exact (mS .here (aOK (by omega) hst.2) (mS aC rfl mN))
   ·first|omega|(dsimp only; omega)
   ·exact hGl1
   exact hst.1
  have c4k:=c4
  try simp only [aD] at c4
  refine .g (aR rfl rfl rfl rfl ?_)
  refine .g (aU (i+1) ?_ ?_ ?_ ?_ ?_)
  ·exact (eJ rfl (congrArg _ (by rw [show tot s (i+1)=tot s i+(s.lv i).length from rfl]; omega)) (aA rfl (aA rfl (aA rfl (aA rfl eZ)))))
  ·exact (mS .here (aOH (by omega)) (mS .here rfl mN))
  ·first|omega|(dsimp only; omega)
  ·exact hGl0.trans hGl1
  exact ⟨by omega,by rw [show tot s (i+1)=tot s i+(s.lv i).length from rfl]; omega,fun j hj=>(by by_cases e:j=i; (subst e; exact hP.lvOk (by omega)); exact hall j (by omega)),hP.next (by omega)⟩
 have c2k:=c2
 try simp only [aD] at c2
 refine .exit (.xcode (.xlp (.xblk (.code (.seq (aQ rfl rfl (aS rfl rfl (.nc (.ret (aK Tryz.results238 (.tmp rfl .nil) ?_))))))))))
 exact ⟨rfl,aPY (aTZ c1 (by omega) ht hall hdi)⟩
theorem aSb (s:State) (hd:Nat→Sh) (G:PM) (hs:StR G s hd) (level:Int) (lo hi:ByteArray):Ct Tryz.prog 149 ([s.val hd,.int .i64 level,.string lo,.string hi]:List Value).toArray G [] (fun G' μ' u=>μ'=[]∧∃ h:Sh,u=h.val (nO s level lo hi).length∧SlR G' 40 Meta.cells h (nO s level lo hi)):=by
 refine Ct.of Tryz.func149 rfl Tryz.ntmps149 rfl fun w0 hs0=>?_
 refine .seq (bB rfl rfl ?_)
 refine bX rfl rfl rfl ?_; intro b4
 refine .g (cP rfl rfl rfl rfl (mV rfl rfl (mv rfl (.f rfl rfl) (.u rfl) (cp rfl (.f rfl rfl) (.s rfl) (.u rfl) rfl (bZ rfl .no (.u rfl) (.s rfl) (.g (cD rfl (fun c1=>?_) (fun c1=>?_))))))))
 ·have c1k:=c1
  try simp only [aD] at c1
  refine .seq (aQ rfl rfl (aS rfl rfl (.nc (.ret (aK Tryz.results149 (.tmp rfl .nil) ?_)))))
  exact ⟨rfl,⟨none,0⟩,by rw [aJE c1]; rfl,by rw [aJE c1]; exact SlR.nul⟩
 have c1k:=c1
 try simp only [aD] at c1
 refine .skip (.code (.seq (.seq (iV rfl rfl ?_))))
 have hli:=hs.len level.toNat (by omega)
 refine .p (fZ rfl pZ rfl (iW rfl rY rfl rfl ?_))
 refine lO rfl gS rfl .here (s.cell_lv hd (k:=level.toNat) (by omega)) ?_
 refine lE rfl iZ rfl (mV rfl rfl (.nc (.block (aCo 184 40 ?_))))
 refine aX (α:=Nat×Value) (fun gh=>[(9,true,gh.2),(23,true,.int .i64 (gh.1:Int))]) (fun gh=>[.row gh.2 184 40 (((s.lv level.toNat).take gh.1).filter (kO lo hi)).length ((((s.lv level.toNat).take gh.1).filter (kO lo hi)).flatMap Meta.cells)])
  (fun gh Gl=>gh.1≤(s.lv level.toNat).length) (fun gh=>(s.lv level.toNat).length-gh.1) (0,.slice none 0 0) [(2,true,_),(3,true,_),(21,true,_),(22,true,_)] [.blk b4 _]
  (aA rfl (aA rfl (aA rfl (aA rfl (aA rfl (aA rfl eZ))))))
  (mS .here rfl (mS .here rfl mN)) ?_ ?_
 ·show 0≤(s.lv level.toNat).length; omega
 intro gh N0 Gl0 hN0 hGl0 hF0
 obtain ⟨k,v⟩:=gh; dsimp only at hF0 hN0 ⊢
 have hk:k≤(s.lv level.toNat).length:=hF0; have hfl:=aPW (s.lv level.toNat) (kO lo hi) k
 refine .g (cP rfl rfl rfl rfl (.g (cD rfl (fun c2=>?_) (fun c2=>?_))))
 ·have c2k:=c2
  try simp only [aD] at c2
  refine .skip (.code (.seq (.block (.seq (dT rfl rfl (ih rfl .no lQ (.u rfl) (.u rfl) (by omega) (by omega) (fun _=>(hs.lv level.toNat (by omega)).nn (k:=k) (by omega)) ?_))))))
  refine lA rfl .no pW (.u rfl) (fun _=>(((hs.mono hGl0).lv level.toNat (by omega)).gat k (by omega) (by omega)).rd) (fun _=>rfl) ?_
  refine al rfl aBX ?_; intro b11
  refine sw rfl (.u rfl) (.u rfl) rfl aBV .here rfl (Meta.one _) ?_
  refine .g (fZ rfl yW rfl (lO rfl cW rfl .here rfl ?_))
  refine .p (cs rfl .no (.u rfl) (.u rfl) rfl (.p (fz rfl (.t rfl rfl) yV (.u rfl) (ld rfl (.t rfl rfl) cW (.s rfl) (fun _=>Rd.own .here rfl) ?_))))
  refine mv rfl (.t rfl rfl) (.u rfl) (cs rfl (.t rfl rfl) (.s rfl) (.s rfl) rfl (bL rfl .no (.u rfl) (.s rfl) (.g (cD rfl (fun c3=>?_) (fun c3=>?_)))))
  ·have c3k:=c3
   try simp only [aD] at c3
   refine .g (lB rfl pW rfl .here ?_)
   refine Go.Tan.b1 rfl lQ aDU (.u rfl) rfl rfl (by decide) ?_; intro b39
   refine ap rfl lQ aDU rfl (.u rfl) (.u rfl) aI (rfl) (fun _=>⟨_,_,rfl,RdN.own .here⟩) (Meta.one _) (by omega) (by unfold maxLen; omega) ?_; intro v40
   refine .g (aR rfl rfl rfl rfl ?_)
   refine .g (aU (k+1,v40) ?_ ?_ ?_ ?_ ?_)
   ·exact (aA rfl (aA rfl (aA rfl (aA rfl (aA rfl (aA rfl eZ))))))
   ·exact (mS .here (aSa (by omega) c3k) (mS aI rfl mN))
   ·first|omega|(dsimp only; omega)
   ·exact hGl0
   show k+1≤(s.lv level.toNat).length; omega
  have c3k:=c3
  try simp only [aD] at c3
  refine .g (aR rfl rfl rfl rfl ?_)
  refine .g (aU (k+1,v) ?_ ?_ ?_ ?_ ?_)
  ·exact (aA rfl (aA rfl (aA rfl (aA rfl (aA rfl (aA rfl eZ))))))
  ·exact (mS aC (aSZ (by omega) c3k) (mS aC rfl mN))
  ·first|omega|(dsimp only; omega)
  ·exact hGl0
  show k+1≤(s.lv level.toNat).length; omega
 have c2k:=c2
 try simp only [aD] at c2
 refine .exit (.xcode (.xlp (.xblk (.code (.seq (bB rfl rfl (mV rfl rfl (aS rfl rfl (.nc (.ret (aKy .here (fun b hb=>by cases hb) ?_)))))))))))
 intro Gf hh hlef hv hcap hnn hrd; subst hv
 refine aK Tryz.results149 (.tmp rfl .nil) ?_
 have hko:k=(s.lv level.toNat).length:=by omega
 subst hko
 rw [List.take_length] at hcap hnn hrd
 exact ⟨rfl,hh,by rw [aJD c1,List.take_length]; rfl,by rw [aJD c1]; exact SlR.ofRow (aCI _) hcap hnn hrd⟩
theorem zL:jO Tryz.prog 5 23=some .u64:=by kernel_rfl
theorem aF3:aL Tryz.prog 277=true:=by kernel_rfl
theorem aGa (xs:List Y) (h:Sh) (G:PM) (hs:SlR G 1 aN h xs) (n:BitVec 64) (hl:xs.length≤100000000000000):Ct Tryz.prog 277 ([h.val xs.length,uv .u64 n]:List Value).toArray G [] (PR 5 (fun L=>L=xs++cL n.toNat)):=by
 refine Ct.of Tryz.func277 rfl Tryz.ntmps277 rfl fun w0 hs0=>?_
 have ln:=hJ n.isLt
 refine .seq (aQ rfl rfl (aS rfl rfl (.nc (.seq (dT rfl rfl ?_)))))
 refine oF rfl aP ?_; intro b6
 refine .p (qM rfl aP bY (.u rfl) (.u rfl) .here hs.sc (by (try simp only [cI,cR]); omega) ?_)
 intro v8 L8 _ ov8 eL8
 have lL8:L8.length=xs.length:=by rw [eL8]
 refine aS rfl rfl (.nc (.seq (.block ?_)))
 refine aX (α:=BitVec 64×Value×List Y) (fun gh=>[(1,true,uv .u64 gh.1),(5,true,gh.2.1)]) (fun gh=>[rB gh.2.1 5 gh.2.2])
  (fun gh Gl=>(gh.2.2++cL gh.1.toNat=xs++cL n.toNat)) (fun gh=>gh.1.toNat) (n,v8,L8) [] []
  (aA rfl (aA rfl eZ))
  (mS .here rfl mN) ?_ ?_
 ·(try dsimp only)<;>(rw [eL8])
 intro gh N0 Gl0 hN0 hGl0 hF0
 obtain ⟨m,v,L⟩:=gh; dsimp only at hF0 hN0 ⊢
 have eq:=hF0
 have tq:@BitVec.toNat IntKind.u64.bits m=m.toNat:=rfl
 have lq:=congrArg List.length eq
 simp only [List.length_append] at lq
 have lp:=aR7 m.toNat
 refine .g (cP rfl rfl rfl rfl (.g (cD rfl (fun c1=>?_) (fun c1=>?_))))
 ·have c1k:=c1
  try simp only [aD,aH,aE] at c1
  refine .g (cu (k:=.u64) rfl .no rfl vU (.u rfl) ?_)
  refine bw (k:=.u8) (b:=128#8) rfl .no rfl (.u rfl) (.u rfl) rfl ?_
  refine Go.Tan.b1 rfl aP bY (.u rfl) rfl rfl (by decide) ?_; intro b17
  refine eN rfl aP bY (.u rfl) (.u rfl) aC (Sc.one .here) (by show _+1≤_; omega) ?_
  intro v18 L18 ov18 eL18
  have lL18:L18.length=L.length+1:=by rw [eL18,List.length_append]; first|rfl | simp [cR]
  refine .g (oO (k:=.u64) rfl .no (.u rfl) (.u rfl) (fun _=>by decide) ?_)
  refine .g (aU (m >>> 7,v18,L18) ?_ ?_ ?_ ?_ ?_)
  ·exact (aA rfl (aA rfl eZ))
  ·exact (mS .here rfl mN)
  ·(dsimp only; rw [aT0]; omega)
  ·exact hGl0
  (try dsimp only)<;>(rw [eL18,←eq,aR6 (m:=m) (by omega),List.append_assoc]; rfl)
 have c1k:=c1
 try simp only [aD,aH,aE] at c1
 refine .g (cu (k:=.u64) rfl .no rfl vU (.u rfl) ?_)
 refine Go.Tan.b1 rfl aP bY (.u rfl) rfl rfl (by decide) ?_; intro b22
 refine eN rfl aP bY (.u rfl) (.u rfl) aC (Sc.one .here) (by show _+1≤_; omega) ?_
 intro v23 L23 ov23 eL23
 have lL23:L23.length=L.length+1:=by rw [eL23,List.length_append]; first|rfl | simp [cR]
 refine aS rfl rfl (.nc (.ret (bD Tryz.results277 (.tmp rfl .nil) (mS .here rfl mN) ?_)))
 exact ⟨L23,by rw [eL23,←eq,aR5 (m:=m) (by omega)]; rfl,rfl⟩
theorem aGZ (xs:List Y) (h:Sh) (G:PM) (hs:SlR G 1 aN h xs) (x:Int) (hx:u64 x) (hl:xs.length≤100000000000000):Ct Tryz.prog 277 ([h.val xs.length,.int .u64 x]:List Value).toArray G [] (PR 5 (fun L=>L=xs++cL x.toNat)):=by
 rw [uvI hx,←ofI hx]; exact aGa xs h G hs _ hl
theorem wP (xs:List Y) (h:Sh) (G:PM) (hs:SlR G 1 aN h xs) (s:ByteArray) (hl:xs.length+s.size≤100000000000000):Ct Tryz.prog 273 ([h.val xs.length,.string s]:List Value).toArray G [] (PR 5 (fun L=>L=xs++nR (yb s))):=by
 refine Ct.of Tryz.func273 rfl Tryz.ntmps273 rfl fun w0 hs0=>?_
 have ly:=iC s
 have ln:=hJ (n:=s.size) (by omega)
 refine .g (ls rfl .no lU (.u rfl) (cw rfl .no gV (.u rfl) (fun _=>mL (by omega) (by omega)) ?_))
 refine kc rfl aF3 (aB rfl (aB rfl aF)) (iM (aGZ xs h _ hs (s.size:Int) ⟨by omega,by omega⟩ (by omega))) ?_
 rintro v9 G9 μ9 hG9 ⟨L9,ov9,eL9,rfl⟩
 refine mV rfl rfl ?_
 have l9:L9.length=xs.length+(cL s.size).length:=by rw [eL9,List.length_append,Int.toNat_natCast]
 refine apT rfl aP lU bY (.u rfl) (.u rfl) .here (by (try simp only [List.length_append]); omega) ?_; intro v11 L11 ov11 eL11
 refine aS rfl rfl (.nc (.ret (bD Tryz.results273 (.tmp rfl .nil) (mS .here rfl mN) ?_)))
 exact ⟨L11,by rw [eL11,eL9,nR,ly,Int.toNat_natCast,List.append_assoc],rfl⟩
theorem aR8 (xs:List Y) (h:Sh) (G:PM) (hs:SlR G 1 aN h xs) (hl:xs.length≤100000000000000):Ct Tryz.prog 309 ([h.val xs.length]:List Value).toArray G [] (fun _ μ' u=>∃ n k e,NumR xs n k e∧μ'=[]∧u=.tuple #[.int .u64 (n:Int),.int .i64 (k:Int),.int .i64 e]):=by
 refine Ct.of Tryz.func309 rfl Tryz.ntmps309 rfl fun w0 hs0=>?_
 refine .g (lE rfl bV rfl (mV rfl rfl (.nc (.block ?_))))
 refine aX (α:=Nat×BitVec 64) (fun gh=>[(5,true,uv .u64 gh.2),(10,true,.int .i64 (gh.1:Int))]) (fun _=>[])
  (fun gh Gl=>(gh.1≤xs.length)∧(gh.1≤9)∧(gh.2.toNat<128^gh.1)∧(gB xs=fQ gh.1 gh.2.toNat (xs.drop gh.1))) (fun gh=>xs.length-gh.1) (0,0#64) [(8,true,_),(9,true,_)] []
  (aA rfl (aM rfl (aA rfl (aA rfl eZ))))
  mN ?_ ?_
 ·refine ⟨?_,?_,?_,?_⟩
  ·(try dsimp only)<;>(first|omega|rfl|assumption|(simp; done))
  ·(try dsimp only)<;>(first|omega|rfl|assumption|(simp; done))
  ·(try dsimp only)<;>(decide)
  (try dsimp only)<;>(rfl)
 intro gh N0 Gl0 hN0 hGl0 hF0
 obtain ⟨k,w⟩:=gh; dsimp only at hF0 hN0 ⊢
 obtain ⟨hk,h9,hw,e⟩:=hF0
 have hs:=hs.mono hGl0
 have tq:@BitVec.toNat IntKind.u8.bits (xs.getD k 0)=(xs.getD k 0).toNat:=rfl
 refine .g (cP rfl rfl rfl rfl (.g (cD rfl (fun c1=>?_) (fun c1=>?_))))
 ·have c1k:=c1
  try simp only [aD,aH,aE] at c1
  refine .skip (.code (.seq (.block (.seq (lF rfl rfl (mV rfl rfl (ih rfl .no aP (.u rfl) (.u rfl) (by omega) (by omega) (fun _=>hs.nn (k:=k) (by omega)) ?_)))))))
  refine lN rfl bM rfl ((hs.yat (k) (by omega) (by omega)).rd) ?_
  refine .g (cP rfl rfl rfl rfl (mV rfl rfl (mv rfl (.t rfl rfl) (.u rfl) (cp rfl (.t rfl rfl) (.s rfl) (.u rfl) rfl (bL rfl .no (.u rfl) (.s rfl) (.g (cD rfl (fun c2=>?_) (fun c2=>?_))))))))
  ·have c2k:=c2
   try simp only [aD,aH,aE] at c2
   refine .seq (dP rfl rfl (aS rfl rfl (aS rfl rfl (aS rfl rfl (.nc (.ret (aK Tryz.results309 (.tmp rfl (.tmp rfl (.tmp rfl .nil))) ?_)))))))
   exact ⟨0,0,11,.of (aRy e (by omega) (by omega) (by omega)),rfl,rfl⟩
  have c2k:=c2
  try simp only [aD,aH,aE] at c2
  refine .g (bw (k:=.u8) (b:=127#8) rfl .no rfl (.u rfl) (.u rfl) rfl (cu (k:=.u8) rfl .no rfl zL (.u rfl) ?_))
  refine .p (aW (((7*k):Nat):Int) rfl rfl rfl rfl ?_)
  refine lw (k:=.u64) rfl .no rfl (.u rfl) (.u rfl) (by omega) ?_
  refine bw (k:=.u64) rfl .no rfl (.u rfl) (.u rfl) rfl (.g (cP rfl rfl rfl rfl (.g (cD rfl (fun c3=>?_) (fun c3=>?_)))))
  ·have c3k:=c3
   try simp only [aD,aH,aE] at c3
   refine .g (cP rfl rfl rfl rfl (mV rfl rfl (mv rfl (.t rfl rfl) (.u rfl) (cp rfl (.t rfl rfl) (.s rfl) (.u rfl) rfl (bL rfl .no (.u rfl) (.s rfl) (.g (cD rfl (fun c4=>?_) (fun c4=>?_))))))))
   ·have c4k:=c4
    try simp only [aD,aH,aE] at c4
    refine .seq (dP rfl rfl (aS rfl rfl (aS rfl rfl (aS rfl rfl (.nc (.ret (aK Tryz.results309 (.tmp rfl (.tmp rfl (.tmp rfl .nil))) ?_)))))))
    exact ⟨0,0,11,.of (aR0 e (by omega) (by omega) (by omega)),rfl,rfl⟩
   have c4k:=c4
   try simp only [aD,aH,aE] at c4
   refine .g (aW (((k+1):Nat):Int) rfl rfl rfl rfl ?_)
   refine aS rfl rfl (aS rfl rfl (aS rfl rfl (.nc (.ret (aK Tryz.results309 (.tmp rfl (.tmp rfl (.tmp rfl .nil))) ?_)))))
   exact ⟨_,_,0,.of (aRx e hw h9 (by omega) (by omega) (by omega) (by omega)),rfl,rfl⟩
  have c3k:=c3
  try simp only [aD,aH,aE] at c3
  refine .g (aW (((k+1):Nat):Int) rfl rfl rfl rfl ?_)
  refine .g (aU (k+1,w ||| (xs.getD k 0 &&& 127#8).setWidth 64 <<< (7*k)) ?_ ?_ ?_ ?_ ?_)
  ·exact (aA rfl (aM rfl (aA rfl (aA rfl eZ))))
  ·exact mN
  ·first|omega|(dsimp only; omega)
  ·exact hGl0
  refine ⟨?_,?_,?_,?_⟩
  ·(try dsimp only)<;>(first|omega|rfl|assumption|(simp; done))
  ·(try dsimp only)<;>(exact (aEf e hw h9 (by omega) (by omega) (by omega)).2.2)
  ·(try dsimp only)<;>(exact (aEf e hw h9 (by omega) (by omega) (by omega)).2.1)
  (try dsimp only)<;>(exact (aEf e hw h9 (by omega) (by omega) (by omega)).1)
 have c1k:=c1
 try simp only [aD,aH,aE] at c1
 refine .exit (.xcode (.xlp (.xblk (.code (.seq (dP rfl rfl (aS rfl rfl (aS rfl rfl (aS rfl rfl (.nc (.ret (aK Tryz.results309 (.tmp rfl (.tmp rfl (.tmp rfl .nil))) ?_))))))))))))
 exact ⟨0,0,10,.of (aRz e (by omega)),rfl,rfl⟩
theorem aM3:cT Tryz.prog 419 [0]=some ([.slice none 0 0,.int .i64 0],[(0,1)]):=by kernel_rfl
theorem aDY:jR Tryz.prog 336=true:=by kernel_rfl
theorem aDX:aT Tryz.prog 419 1=some 1:=by kernel_rfl
theorem uI:aT Tryz.prog 419 0=some 0:=by kernel_rfl
theorem aXO:aL Tryz.prog 309=true:=by kernel_rfl
theorem jX:cE Tryz.prog 30=some 1:=by kernel_rfl
theorem aF2:aL Tryz.prog 222=true:=by kernel_rfl
theorem aXQ:aL Tryz.prog 310=true:=by kernel_rfl
theorem aOA (xs:List Y) (h:Sh) (G:PM) (hs:SlR G 1 aN h xs) (hl:xs.length≤100000000000000):Ct Tryz.prog 217 ([h.val xs.length]:List Value).toArray G [] (fun G' μ' u=>∃ b s,μ'=[.blk b (cl [Sh.val s xs.length,.int .i64 0] 419)]∧u=.pointer (some ⟨b,0,none⟩)∧SlR G' 1 aN s xs):=by
 refine Ct.of Tryz.func217 rfl Tryz.ntmps217 rfl fun w0 hs0=>?_
 refine .seq (aQ rfl rfl (aS rfl rfl (.nc (.seq (iV rfl rfl ?_)))))
 refine oF rfl aP ?_; intro b3
 refine .p (qM rfl aP bY (.u rfl) (.u rfl) .here hs.sc (by (try simp only [cI,cR]); omega) ?_)
 intro v5 L5 _ ov5 eL5
 have lL5:L5.length=xs.length:=by rw [eL5]
 refine bR ([v5,.int .i64 0]) rfl .no aM3 (.cons (.u rfl) (sN ov5) .nil) rfl (rfl) ?_
 refine bX rfl rfl rfl ?_; intro b7
 refine aS rfl rfl (.nc (.ret ?_))
 refine aFK aC (by first|(intro b hb; cases hb; done) | simp [keys,Res.keys]) ?_; intro GfR5 hR5 hleR5 evR5 hsR5; subst evR5
 refine bD Tryz.results217 (.tmp rfl .nil) (mS .here rfl mN) ?_
 subst eL5
 exact ⟨b7,hR5,rfl,rfl,hsR5⟩
theorem aEq (xs:List Y) (e:Int) (s:Sh) (b:Nat) (G:PM) (hs:SlR G 1 aN s xs) (hl:xs.length≤100000000000000):Ct Tryz.prog 221 ([.pointer (some ⟨b,0,none⟩)]:List Value).toArray G [.blk b (cl [s.val xs.length,.int .i64 e] 419)] (fun G' μ' u=>∃ n L e' s',rC ⟨xs,e⟩=(n,⟨L,e'⟩)∧μ'=[.blk b (cl [Sh.val s' L.length,.int .i64 e'] 419)]∧u=.int .u64 (n:Int)∧SlR G' 1 aN s' L):=by
 refine Ct.of Tryz.func221 rfl Tryz.ntmps221 rfl fun w0 hs0=>?_
 refine .g (pe rfl .no aDY (.u rfl) (.u rfl) ?_)
 refine mV rfl rfl (mv rfl (Gd.f (b:=false) rfl rfl) (.u rfl) (nc rfl (Gd.f (b:=false) rfl rfl) (.u rfl) (fz rfl (Gd.f (b:=false) rfl rfl) aDX (.u rfl) (ld rfl (Gd.f (b:=false) rfl rfl) jA (.u rfl) (fun _=>Rd.own .here (by first|exact aV rfl|rfl)) ?_))))
 refine cp rfl (Gd.f (b:=false) rfl rfl) (.u rfl) (.u rfl) rfl (bZ rfl .no (.u rfl) (.u rfl) (.g (cD rfl (fun c1=>?_) (fun c1=>?_))))
 ·have c1k:=c1
  try simp only [aD,aH,aE] at c1
  refine .seq (aQ rfl rfl (aS rfl rfl (.nc (.ret (bD Tryz.results221 (.tmp rfl .nil) (mS .here rfl mN) ?_)))))
  exact ⟨0,xs,e,s,aS6 (by simpa using c1k),rfl,rfl,hs⟩
 have c1k:=c1
 try simp only [aD,aH,aE] at c1
 refine .g (nC rfl rfl (fZ rfl uI rfl (lO rfl dB rfl .here (by first|exact aV rfl|rfl) ?_)))
 refine kc rfl aXO (aB rfl aF) (aR8 xs s _ hs hl) ?_
 rintro _ G20 μ20 hG20 ⟨n20,k20,e20,hN,rfl,rfl⟩
 have hNl:=hN.le; have hNt:=hN.lt
 have hs:=hs.mono hG20
 refine .p (eX rfl rfl rfl (eX rfl rfl rfl (eX rfl rfl rfl (.g (nC rfl rfl (fZ rfl aDX rfl (s1 rfl (.u rfl) (.u rfl) rfl jX .here (by first|decide|(simp only [cC,bP,cI]; omega)) (rfl) ?_)))))))
 refine .g (nC rfl rfl (fZ rfl uI rfl (lO rfl dB rfl .here (by first|exact aV rfl|rfl) ?_)))
 refine .p (kD (k20) rfl .no aP hs (.u rfl) (.u rfl) (by omega) (by omega) ?_)
 intro h34 L34 eL34 lL34 hs34
 have lL34:=lL34 rfl
 refine nC rfl rfl (fZ rfl uI rfl (s1 rfl (.u rfl) (.u rfl) rfl kU .here (show 0<2 by decide) (rfl) ?_))
 refine .nil (.code (.seq (bB rfl rfl (mV rfl rfl (aS rfl rfl (.nc (.ret (bD Tryz.results221 (.tmp rfl .nil) (mS .here rfl mN) ?_))))))))
 exact ⟨n20,L34,e20,h34,aS7 (by simpa using c1k) hN eL34,rfl,rfl,hs34⟩
theorem aEp (xs:List Y) (e:Int) (s:Sh) (b:Nat) (G:PM) (hp:RdNP G b 0 [s.val xs.length,.int .i64 e]):Ct Tryz.prog 222 ([.pointer (some ⟨b,0,none⟩)]:List Value).toArray G [] (fun _ μ' u=>μ'=[]∧u=.int .i64 e):=by
 refine Ct.of Tryz.func222 rfl Tryz.ntmps222 rfl fun w0 hs0=>?_
 refine .g (pe rfl .no aDY (.u rfl) (.u rfl) ?_)
 refine .g (dM rfl rfl ?_)
 refine .g (nC rfl rfl (fZ rfl aDX rfl (lN rfl jA rfl ((hp.z rfl).rd) ?_)))
 refine aS rfl rfl (.nc (.ret (aK Tryz.results222 (.tmp rfl .nil) ?_)))
 exact ⟨rfl,rfl⟩
theorem aS1 (xs:List Y) (e:Int) (s:Sh) (b:Nat) (G:PM) (hp:RdNP G b 0 [s.val xs.length,.int .i64 e]):Ct Tryz.prog 310 ([.pointer (some ⟨b,0,none⟩)]:List Value).toArray G [] (fun _ μ' u=>μ'=[]∧u=.int .i64 (xs.length:Int)):=by
 refine Ct.of Tryz.func310 rfl Tryz.ntmps310 rfl fun w0 hs0=>?_
 refine .g (pe rfl .no aDY (.u rfl) (.u rfl) ?_)
 refine .g (dM rfl rfl ?_)
 refine .g (nC rfl rfl (fZ rfl uI rfl (lN rfl dB rfl ((hp.z rfl).rd) ?_)))
 refine lE rfl bV rfl (aS rfl rfl (.nc (.ret (aK Tryz.results310 (.tmp rfl .nil) ?_))))
 exact ⟨rfl,rfl⟩
theorem aS0 (xs:List Y) (e:Int) (s:Sh) (b:Nat) (G:PM) (hp:RdNP G b 0 [s.val xs.length,.int .i64 e]):Ct Tryz.prog 224 ([.pointer (some ⟨b,0,none⟩)]:List Value).toArray G [] (fun _ μ' u=>μ'=[]∧u=.int .i64 (aD8 xs e)):=by
 refine Ct.of Tryz.func224 rfl Tryz.ntmps224 rfl fun w0 hs0=>?_
 refine .g (kV rfl aF2 (aB rfl aF) (aEp xs e s b _ hp) ?_)
 refine cP rfl rfl rfl rfl (mV rfl rfl (mv rfl (.t rfl rfl) (.u rfl) (kv rfl (.t rfl rfl) aXQ (Eva.cons (.s rfl) aF) (fun hc=>aS1 xs e s b _ hp) ?_)))
 refine cp rfl (.t rfl rfl) (.s rfl) (.u rfl) rfl (bL rfl .no (.u rfl) (.s rfl) (.g (cD rfl (fun c1=>?_) (fun c1=>?_))))
 ·have c1k:=c1
  try simp only [aD,aE] at c1
  refine .seq (aQ rfl rfl (aS rfl rfl (.nc (.ret (aK Tryz.results224 (.tmp rfl .nil) ?_)))))
  exact ⟨rfl,congrArg (Value.int .i64) (by unfold aD8; rw [if_pos (by simpa using c1k)])⟩
 have c1k:=c1
 try simp only [aD,aE] at c1
 refine .g (kV rfl aF2 (aB rfl aF) (aEp xs e s b _ hp) ?_)
 refine aS rfl rfl (.nc (.ret (aK Tryz.results224 (.tmp rfl .nil) ?_)))
 exact ⟨rfl,congrArg (Value.int .i64) (by unfold aD8; rw [if_neg (by simpa using c1k)])⟩
theorem kT:bJ Tryz.prog 279=some (23,1,8):=by kernel_rfl
theorem iU (xs:List Y) (h:Sh) (ns:List Int) (hn:Sh) (G:PM) (hs:SlR G 1 aN h xs) (hsn:SlR G 1 nA hn ns) (hu:∀ x∈ns,u64 x) (hl:xs.length+10*ns.length≤100000000000000):Ct Tryz.prog 295 ([h.val xs.length,hn.val ns.length]:List Value).toArray G [] (fun G' μ' u=>∃ (s:Sh) (L:List Y),L=xs++dC ns∧μ'=[]∧u=s.val L.length∧SlR G' 1 aN s L):=by
 refine Ct.of Tryz.func295 rfl Tryz.ntmps295 rfl fun w0 hs0=>?_
 refine .g (lE rfl aBb rfl (mV rfl rfl (.nc (.block ?_))))
 refine aX (α:=Nat×Sh×List Y) (fun gh=>[(0,true,gh.2.1.val gh.2.2.length),(9,true,.int .i64 (gh.1:Int))]) (fun _=>[])
  (fun gh Gl=>(gh.1≤ns.length)∧(gh.2.2=xs++dC (ns.take gh.1))∧(SlR Gl 1 aN gh.2.1 gh.2.2)) (fun gh=>ns.length-gh.1) (0,h,xs) [(7,true,_),(8,true,_)] []
  (aA rfl (aM rfl (aA rfl (aA rfl eZ))))
  mN ?_ ?_
 ·refine ⟨?_,?_,?_⟩
  ·(try dsimp only)<;>(first|omega|rfl|assumption|(simp; done))
  ·(try dsimp only)<;>(simp [dC])
  (try dsimp only)<;>(exact hs)
 intro gh N0 Gl0 hN0 hGl0 hF0
 obtain ⟨k,h0,L⟩:=gh; dsimp only at hF0 hN0 ⊢
 obtain ⟨hk,eL,hsl⟩:=hF0
 have hsn:=hsn.mono hGl0
 have lt:=aSA hu k
 have lL:L.length=xs.length+(dC (ns.take k)).length:=by rw [eL,List.length_append]
 refine .g (cP rfl rfl rfl rfl (.g (cD rfl (fun c1=>?_) (fun c1=>?_))))
 ·have c1k:=c1
  try simp only [aD,aE] at c1
  refine .skip (.code (.seq (.block (.seq (dP rfl rfl (ih rfl .no kT (.u rfl) (.u rfl) (by omega) (by omega) (fun _=>hsn.nn (k:=k) (by first|omega|(simp only [Bool.and_eq_true,decide_eq_true_eq] at hc; omega)|(simp only [List.length_cons,List.length_nil]; omega))) ?_))))))
  obtain ⟨x12,ex12⟩:=dY (k:=k) (xs:=ns) (by omega)
  refine lN rfl aZ rfl ((hsn.u1 k (by omega) ex12).rd) ?_
  refine .g (kc rfl aF3 (aB rfl (aB rfl aF)) (Ct.frzB (aGZ L h0 _ hsl x12 (hu x12 (List.mem_of_getElem? ex12)) (by omega))) ?_)
  rintro _ G15 μ15 hG15 ⟨h15,L15,eL15,rfl,rfl,hs15⟩
  have hsl:=hsl.mono hG15
  refine .g (aW (((k+1):Nat):Int) rfl rfl rfl rfl ?_)
  refine .g (aU (k+1,h15,L15) ?_ ?_ ?_ ?_ ?_)
  ·exact (aA rfl (aM rfl (aA rfl (aA rfl eZ))))
  ·exact mN
  ·first|omega|(dsimp only; omega)
  ·exact (hGl0).trans hG15
  refine ⟨?_,?_,?_⟩
  ·(try dsimp only)<;>(first|omega|rfl|assumption|(simp; done))
  ·(try dsimp only)<;>(rw [eL15,eL,aR9 ex12,List.append_assoc])
  (try dsimp only)<;>(exact hs15)
 have c1k:=c1
 try simp only [aD,aE] at c1
 refine .exit (.xcode (.xlp (.xblk (.code (.seq (bB rfl rfl (mV rfl rfl (aS rfl rfl (.nc (.ret (aK Tryz.results295 (.tmp rfl .nil) ?_)))))))))))
 obtain rfl:k=ns.length:=by omega
 rw [List.take_length] at eL
 exact ⟨h0,L,eL,rfl,rfl,hsl⟩
theorem wN:cE Tryz.prog 4=some 1:=by kernel_rfl
theorem aBF:aT Tryz.prog 474 0=some 0:=by kernel_rfl
theorem aA3:bT Tryz.prog 336=some none:=by kernel_rfl
theorem aF1:aL Tryz.prog 221=true:=by kernel_rfl
theorem aBG:aT Tryz.prog 474 1=some 1:=by kernel_rfl
theorem aKf (xs:List Y) (e:Int) (bad:Bool) (s:Sh) (br b:Nat) (G:PM) (hs:SlR G 1 aN s xs) (hl:xs.length≤100000000000000) (most:Nat):Ct Tryz.prog 358 ([.pointer (some ⟨br,0,none⟩),.int .u64 (most:Int)]:List Value).toArray G [.blk br (cl [.pointer (some ⟨b,0,none⟩),.bool bad] 474),.blk b (cl [Sh.val s xs.length,.int .i64 e] 419)] (fun G' μ' u=>∃ n L e' s' bad',rC ⟨xs,e⟩=(n,⟨L,e'⟩)∧bad'=(bad||(decide (most<n) || !decide (e'=0)))∧μ'=[.blk br (cl [.pointer (some ⟨b,0,none⟩),.bool bad'] 474),.blk b (cl [Sh.val s' L.length,.int .i64 e'] 419)]∧u=.int .u64 (n:Int)∧SlR G' 1 aN s' L):=by
 refine Ct.of Tryz.func358 rfl Tryz.ntmps358 rfl fun w0 hs0=>?_
 refine .g (nC rfl rfl (fZ rfl aBF rfl (lO rfl aA3 rfl .here (by first|exact aV rfl|rfl) ?_)))
 refine ka rfl (.inr rfl) aF1 (aB rfl aF) (cO aC) (aEq xs e s b _ hs hl) ?_
 rintro _ G10 μ10 hG10 ⟨n10,L10,e10,s10,hN,rfl,rfl,hs10⟩
 refine .g (nC rfl rfl (fZ rfl aBG rfl (lO rfl kX rfl aC (by first|exact aV rfl|rfl) ?_)))
 refine mV rfl rfl (mv rfl (.f rfl rfl) (.u rfl) (mv rfl (.f rfl rfl) (.u rfl) (cp rfl (.f rfl rfl) (.s rfl) (.s rfl) rfl (bZ rfl .no (.u rfl) (.s rfl) (mV rfl rfl (mv rfl (.f rfl rfl) (.u rfl) (nc rfl (.f rfl rfl) (.s rfl) (fz rfl (.f rfl rfl) aBF (.s rfl) (ld rfl (.f rfl rfl) aA3 (.s rfl) (fun hc=>Rd.own aC (by first|exact aV rfl|rfl)) ?_)))))))))
 refine kp rfl (.f rfl rfl) aF2 (Eva.cons (.s rfl) aF) (Gp.add .here Gp.nil) (fun hc hle hq=>aEp L10 e10 s10 b _ RdNP.add) ?_
 refine cp rfl (.f rfl rfl) (.s rfl) (.u rfl) rfl (bZ rfl .no (.u rfl) (.s rfl) (nC rfl rfl (fZ rfl aBG rfl (s1 rfl (.u rfl) (.u rfl) rfl wN aC (show 1<2 by decide) (rfl) ?_))))
 refine .nil (.code (.seq (bB rfl rfl (mV rfl rfl (aS rfl rfl (.nc (.ret (bD Tryz.results358 (.tmp rfl .nil) (mS .here rfl (mS .here rfl mN)) ?_))))))))
 exact ⟨n10,L10,e10,s10,_,hN,aUx,rfl,rfl,hs10⟩
theorem aMP:aL Tryz.prog 358=true:=by kernel_rfl
theorem aLh:aT Tryz.prog 184 2=some 2:=by kernel_rfl
theorem aXz:cE Tryz.prog 9=some 1:=by kernel_rfl
theorem aLi:aT Tryz.prog 184 8=some 8:=by kernel_rfl
theorem aBY:dV Tryz.prog 202=some (iS (fun _=>0)++[.slice none 0 0,.slice none 0 0]):=by kernel_rfl
theorem aBA:aT Tryz.prog 202 0=some 0:=by kernel_rfl
theorem vZ:aT Tryz.prog 202 1=some 1:=by kernel_rfl
theorem aBB:aT Tryz.prog 202 2=some 2:=by kernel_rfl
theorem aBC:aT Tryz.prog 202 3=some 3:=by kernel_rfl
theorem aBD:aT Tryz.prog 202 4=some 4:=by kernel_rfl
theorem jJ:aT Tryz.prog 202 5=some 9:=by kernel_rfl
theorem aBT:cE Tryz.prog 155=some 1:=by kernel_rfl
theorem aMu:dV Tryz.prog 289=some ([.int .u8 0,.int .u64 0]):=by kernel_rfl
theorem aMk:cE Tryz.prog 289=some 2:=by kernel_rfl
theorem aLn:aT Tryz.prog 289 1=some 1:=by kernel_rfl
theorem qB:aT Tryz.prog 202 6=some 10:=by kernel_rfl
theorem pX:bT Tryz.prog 200=some none:=by kernel_rfl
theorem aLL:bT Tryz.prog 289=some (some 2):=by kernel_rfl
theorem aMc:bJ Tryz.prog 200=some (289,2,16):=by kernel_rfl
theorem aDN:cE Tryz.prog 202=some 11:=by kernel_rfl
theorem rW:bT Tryz.prog 202=some (some 11):=by kernel_rfl
theorem jV:bT Tryz.prog 159=some (some 14):=by kernel_rfl
theorem aWk:aL Tryz.prog 149=true:=by kernel_rfl
theorem aQ0 (s:State) (hd:Nat→Sh) (G:PM) (hs:StR G s hd) (hf:tot s 5≤1024) (us:ByteArray):Ct Tryz.prog 99 ([s.val hd,.string us]:List Value).toArray G [] (fun G' μ' u=>μ'=[]∧∃ h:Sh,u=h.val (kI s us 5).length∧SlR G' 40 Meta.cells h (kI s us 5)):=by
 refine Ct.of Tryz.func99 rfl Tryz.ntmps99 rfl fun w0 hs0=>?_
 refine .seq (bB rfl rfl ?_)
 refine bX rfl rfl rfl ?_; intro b2
 refine aS rfl rfl (.nc (.seq (aQ rfl rfl (aS rfl rfl (.nc (.seq (.seq (aQ rfl rfl (mV rfl rfl (.nc (.block (aCo 184 40 ?_))))))))))))
 refine aX (α:=Nat×Value) (fun gh=>[(5,true,gh.2),(7,true,.int .i64 (gh.1:Int))]) (fun gh=>[.row gh.2 184 40 (kI s us gh.1).length ((kI s us gh.1).flatMap Meta.cells)])
  (fun gh Gl=>gh.1≤5) (fun gh=>5-gh.1) (0,.slice none 0 0) [(1,true,_),(2,true,_)] [.blk b2 _]
  (aA rfl (aA rfl (aA rfl (aA rfl eZ))))
  (mS .here rfl (mS .here rfl mN)) ?_ ?_
 ·show 0≤5; omega
 intro gh N0 Gl0 hN0 hGl0 hF0
 obtain ⟨k,v⟩:=gh; dsimp only at hF0 hN0 ⊢
 have hk:k≤5:=hF0; have hn:=aCj s (show k≤5 by omega); have hal:=aIZ s us k
 refine .g (cP rfl rfl rfl rfl (.g (cD rfl (fun c1=>?_) (fun c1=>?_))))
 ·have c1k:=c1
  try simp only [aD] at c1
  refine .skip (.code (.seq (.block (.seq (bB rfl rfl (mV rfl rfl (aS rfl rfl (.nc (rq8 rfl rfl ?_)))))))))
  have hn1:=aCj s (show k+1≤5 by omega); rw [show tot s (k+1)=tot s k+(s.lv k).length from rfl] at hn1; have hov:=aJF s k us
  refine .p (lB rfl jV rfl aC ?_)
  refine .p (kc rfl aWk (aB rfl (aB rfl (aB rfl (aB rfl aF)))) (aSb s hd _ (hs.mono hGl0) (k:Int) us us) ?_)
  rintro v Ga μa hGa ⟨rfl,ha,rfl,hsa⟩
  refine ap rfl lQ aDU rfl (.u rfl) (.u rfl) .here (xD (aCI _)) (fun h=>⟨_,_,hsa.nn h,(hsa.flat (aCI _)).rd⟩) (aRH _) (by omega) (by unfold maxLen; omega) ?_; intro v16
  refine .g (aR rfl rfl rfl rfl ?_)
  refine .g (aU (k+1,v16) ?_ ?_ ?_ ?_ ?_)
  ·exact (aA rfl (aA rfl (aA rfl (aA rfl eZ))))
  ·exact (mS .here (aQz s us k _ _) (mS .here rfl mN))
  ·first|omega|(dsimp only; omega)
  ·exact hGl0.trans hGa
  show k+1≤5; omega
 have c1k:=c1
 try simp only [aD] at c1
 refine .exit (.xcode (.xlp (.xblk (.code (.seq (bB rfl rfl (mV rfl rfl (aS rfl rfl (.nc (.ret (aKy .here (fun b hb=>by cases hb) ?_)))))))))))
 intro Gf hh hlef hv hcap hnn hrd; subst hv
 refine aK Tryz.results99 (.tmp rfl .nil) ?_
 obtain rfl:k=5:=by omega
 exact ⟨rfl,hh,rfl,SlR.ofRow (aCI _) hcap hnn hrd⟩
theorem lS:(Tryz.prog.info? 23).bind (·.zero)=some (.int .u64 0):=by kernel_rfl
theorem iX:aL Tryz.prog 295=true:=by kernel_rfl
theorem zB:aL Tryz.prog 273=true:=by kernel_rfl
theorem qH:(bJ Tryz.prog 200).isSome=true:=by kernel_rfl
theorem aLm:aT Tryz.prog 289 0=some 0:=by kernel_rfl
set_option maxHeartbeats 2000000 in
theorem aPP (e:Edit) (ha hd:Sh) (G:PM) (he:EdR G e ha hd) (hla:e.add.length≤1000000) (hld:e.drop.length≤1000000) (hlm:(e.add.flatMap eF).length≤10000000000000):Ct Tryz.prog 208 ([e.val ha hd]:List Value).toArray G [] (fun G' μ' u=>∃ (s:Sh) (L:List Y),L=kC e∧μ'=[]∧u=s.val L.length∧SlR G' 1 aN s L):=by
 refine Ct.of Tryz.func208 rfl Tryz.ntmps208 rfl fun w0 hs0=>?_
 have hea:=he.add; have hed:=he.drop; have hw:=he.wf; have hw1:=hw.log; have hw2:=hw.next; have hw3:=hw.seq; have hw4:=hw.least; have lgn:(gM e).length=5:=rfl
 refine .seq (bB rfl rfl ?_)
 refine bX rfl rfl rfl ?_; intro b1
 refine aS rfl rfl (.nc (.seq ?_))
 refine dL .here (by intro b hb; cases hb) ?_; intro Gfb1 hleb1 hbb1
 have hea:=hea.mono hleb1
 have hed:=hed.mono hleb1
 have hgn:=aH4 hbb1
 refine .g (fA rfl aBA rfl (lN rfl aZ rfl ((hbb1.rd (by rfl)).rd) ?_))
 refine fA rfl vZ rfl (lN rfl aZ rfl ((hbb1.rd (by rfl)).rd) ?_)
 refine fA rfl aBB rfl (lN rfl aZ rfl ((hbb1.rd (by rfl)).rd) ?_)
 refine fA rfl aBC rfl (lN rfl aZ rfl ((hbb1.rd (by rfl)).rd) ?_)
 refine bQ [e.log,e.next,e.seq,e.least] rfl kT lS (Evp.cons (.u rfl) (Evp.cons (.u rfl) (Evp.cons (.u rfl) (Evp.cons (.u rfl) Evp.nil)))) rfl rfl (by decide) ?_; intro G16 h16 hG16 hs16
 have hea:=hea.mono hG16
 have hed:=hed.mono hG16
 have hbb1:=hbb1.mono hG16
 have hgn:=hgn.mono hG16
 refine kc rfl iX (aB rfl (aB rfl aF)) (iU ([]:List Y) ⟨none,0⟩ [e.log,e.next,e.seq,e.least] h16 _ SlR.nul hs16 (q4 hw1 hw2 hw3 hw4) (by simp only [List.length_cons,List.length_nil]; omega)) ?_
 rintro _ G17 μ17 hG17 ⟨h17,L17,eL17,rfl,rfl,hs17⟩
 have lL17:L17.length≤([]:List Y).length+10*([e.log,e.next,e.seq,e.least]:List Int).length:=by rw [eL17,List.length_append]; have:=gD (ns:=[e.log,e.next,e.seq,e.least]) (q4 hw1 hw2 hw3 hw4); omega
 try simp only [List.length_cons,List.length_nil] at lL17
 have hea:=hea.mono hG17
 have hed:=hed.mono hG17
 have hbb1:=hbb1.mono hG17
 have hgn:=hgn.mono hG17
 refine aS rfl rfl (.nc (.seq (Wk.mix ⟨false,false⟩ aY (by kernel_rfl) ?_)))
 refine Wt.one 0 (by kernel_rfl) ?_
 refine mV rfl rfl (.nil (Wt.one 1 (by kernel_rfl) ?_))
 refine fA rfl aBD rfl (.nil (Wt.one 2 (by kernel_rfl) ?_))
 refine pQ rfl .no yQ (.u rfl) (.nil (Wt.one 4 (by kernel_rfl) ?_))
 refine fA rfl jJ rfl (.nil (Wt.one 5 (by kernel_rfl) ?_))
 refine lN rfl gS rfl ((hbb1.rd (by rfl)).rd) ?_
 refine .nil (Wt.one 6 (by kernel_rfl) ?_)
 refine lE rfl iZ rfl (.nil (Wt.one 7 (by kernel_rfl) ?_))
 refine cw rfl .no gV (.u rfl) (fun _=>mL (by omega) (by omega)) ?_
 refine .nil (Wt.b2 3 8 (by kernel_rfl) ?_ ?_)
 ·refine kc rfl iX (aB rfl (aB rfl aF)) (iU L17 h17 (gM e) ⟨some ⟨b1,4,none⟩,5⟩ _ hs17 hgn (qT hw) (by show _+10*5≤_; omega)) ?_
  rintro _ G21 μ21 hG21 ⟨h21,L21,eL21,rfl,rfl,hs21⟩
  have lL21:L21.length≤L17.length+10*((gM e):List Int).length:=by rw [eL21,List.length_append]; have:=gD (ns:=(gM e)) (qT hw); omega
  try simp only [List.length_cons,List.length_nil] at lL21
  have hea:=hea.mono hG21
  have hed:=hed.mono hG21
  have hbb1:=hbb1.mono hG21
  have hgn:=hgn.mono hG21
  have hs17:=hs17.mono hG21
  refine .nil (Wt.b1 8 (by kernel_rfl) ?_)
  refine bQ [(e.add.length:Int)] rfl kT lS (Evp.cons (.u rfl) Evp.nil) rfl rfl (by decide) ?_; intro G26 h26 hG26 hs26
  have hea:=hea.mono hG26
  have hed:=hed.mono hG26
  have hbb1:=hbb1.mono hG26
  have hgn:=hgn.mono hG26
  have hs17:=hs17.mono hG26
  have hs21:=hs21.mono hG26
  refine .nil (Wt.b1 9 (by kernel_rfl) ?_)
  refine kc rfl iX (aB rfl (aB rfl aF)) (iU L21 h21 [(e.add.length:Int)] h26 _ hs21 hs26 (q1 (jU (by omega))) (by simp only [List.length_cons,List.length_nil]; omega)) ?_
  rintro _ G27 μ27 hG27 ⟨h27,L27,eL27,rfl,rfl,hs27⟩
  have lL27:L27.length≤L21.length+10*([(e.add.length:Int)]:List Int).length:=by rw [eL27,List.length_append]; have:=gD (ns:=[(e.add.length:Int)]) (q1 (jU (by omega))); omega
  try simp only [List.length_cons,List.length_nil] at lL27
  have hea:=hea.mono hG27
  have hed:=hed.mono hG27
  have hbb1:=hbb1.mono hG27
  have hgn:=hgn.mono hG27
  have hs17:=hs17.mono hG27
  have hs21:=hs21.mono hG27
  have hs26:=hs26.mono hG27
  refine .nil (Wt.one 10 (by kernel_rfl) ?_)
  refine aS rfl rfl (.nil (Wt.last (by kernel_rfl) ?_))
  refine .g (fA rfl jJ rfl (lN rfl gS rfl ((hbb1.rd (by rfl)).rd) ?_))
  refine lE rfl iZ rfl (mV rfl rfl (.nc (.block ?_)))
  refine aX (α:=Nat×Sh×List Y) (fun gh=>[(3,true,gh.2.1.val gh.2.2.length),(31,true,.int .i64 (gh.1:Int))]) (fun _=>[])
   (fun gh Gl=>(gh.1≤e.add.length)∧(gh.2.2=L27++(e.add.take gh.1).flatMap eF)∧(SlR Gl 1 aN gh.2.1 gh.2.2)) (fun gh=>e.add.length-gh.1) (0,h27,L27) [(1,true,_),(29,true,_),(30,true,_)] []
   (aA rfl (aM rfl (aA rfl (aA rfl (aA rfl eZ)))))
   mN ?_ ?_
  ·refine ⟨?_,?_,?_⟩
   ·(try dsimp only)<;>(first|omega|rfl|assumption|(simp; done))
   ·(try dsimp only)<;>(simp)
   (try dsimp only)<;>(exact hs27)
  intro gh N0 Gl0 hN0 hGl0 hF0
  obtain ⟨k,h3,L3⟩:=gh; dsimp only at hF0 hN0 ⊢
  obtain ⟨hk,eL,hsl⟩:=hF0
  have hea:=hea.mono hGl0
  have hed:=hed.mono hGl0
  have hbb1:=hbb1.mono hGl0
  have hgn:=hgn.mono hGl0
  have hs17:=hs17.mono hGl0
  have hs21:=hs21.mono hGl0
  have hs26:=hs26.mono hGl0
  have hs27:=hs27.mono hGl0
  have lk:=sZ (f:=eF) (xs:=e.add) k
  have lL:L3.length=L27.length+((e.add.take k).flatMap eF).length:=by rw [eL,List.length_append]
  refine .g (cP rfl rfl rfl rfl (.g (cD rfl (fun c1=>?_) (fun c1=>?_))))
  ·have c1k:=c1
   try simp only [aD,aE] at c1
   refine .skip (.code (.seq (.block (.seq (dT rfl rfl (ih rfl .no lQ (.u rfl) (.u rfl) (by omega) (by omega) (fun _=>hea.nn (k:=k) (by first|omega|(simp only [Bool.and_eq_true,decide_eq_true_eq] at hc; omega)|(simp only [List.length_cons,List.length_nil]; omega))) ?_))))))
   obtain ⟨m,em⟩:=dY (k:=k) (xs:=e.add) (by omega)
   refine lA rfl .no pW (.u rfl) (fun _=>(hea.at (by omega) em).rd) (fun _=>Meta.len _) ?_
   refine al rfl aBX ?_; intro b5
   refine sw rfl (.u rfl) (.u rfl) rfl aBV .here rfl (Meta.one _) ?_
   refine .nil (.code (.seq ?_))
   refine dL .here (by intro b hb; cases hb) ?_; intro Gfb5 hleb5 hbb5
   have hea:=hea.mono hleb5
   have hed:=hed.mono hleb5
   have hbb1:=hbb1.mono hleb5
   have hgn:=hgn.mono hleb5
   have hs17:=hs17.mono hleb5
   have hs21:=hs21.mono hleb5
   have hs26:=hs26.mono hleb5
   have hs27:=hs27.mono hleb5
   have hsl:=hsl.mono hleb5
   have hwm:=hw.add m (List.mem_of_getElem? em); have w1:=hwm.level; have w2:=hwm.gen; have w3:=hwm.epoch; have w4:=hwm.number; have l6:=aKb hwm; have lt:=aB4 (f:=eF) em; have lg:=aHc m
   refine .g (fA rfl yU rfl (lN rfl bM rfl ((hbb5.rd (by rfl)).rd) ?_))
   refine cw rfl .no zL (.u rfl) (fun _=>mL (by omega) (by omega)) ?_
   refine fA rfl aFj rfl (lN rfl aZ rfl ((hbb5.rd (by rfl)).rd) ?_)
   refine fA rfl aLh rfl (lN rfl aZ rfl ((hbb5.rd (by rfl)).rd) ?_)
   refine fA rfl vY rfl (lN rfl aZ rfl ((hbb5.rd (by rfl)).rd) ?_)
   refine fA rfl aFk rfl (lN rfl cJ rfl ((hbb5.rd (by rfl)).rd) ?_)
   refine cv rfl .no gV (.u rfl) (fA rfl aFl rfl (lN rfl cJ rfl ((hbb5.rd (by rfl)).rd) ?_))
   refine cv rfl .no gV (.u rfl) ?_
   refine bQ [m.level,m.gen,m.epoch,m.number,IntKind.u64.wrap m.size,IntKind.u64.wrap m.count] rfl kT lS (Evp.cons (.u rfl) (Evp.cons (.u rfl) (Evp.cons (.u rfl) (Evp.cons (.u rfl) (Evp.cons (.u rfl) (Evp.cons (.u rfl) Evp.nil)))))) rfl rfl (by decide) ?_; intro G51 h51 hG51 hs51
   have hea:=hea.mono hG51
   have hed:=hed.mono hG51
   have hbb1:=hbb1.mono hG51
   have hgn:=hgn.mono hG51
   have hs17:=hs17.mono hG51
   have hs21:=hs21.mono hG51
   have hs26:=hs26.mono hG51
   have hs27:=hs27.mono hG51
   have hsl:=hsl.mono hG51
   have hbb5:=hbb5.mono hG51
   refine kc rfl iX (aB rfl (aB rfl aF)) (iU L3 h3 [m.level,m.gen,m.epoch,m.number,IntKind.u64.wrap m.size,IntKind.u64.wrap m.count] h51 _ hsl hs51 l6 (by simp only [List.length_cons,List.length_nil]; omega)) ?_
   rintro _ G52 μ52 hG52 ⟨h52,L52,eL52,rfl,rfl,hs52⟩
   have lL52:L52.length≤L3.length+10*([m.level,m.gen,m.epoch,m.number,IntKind.u64.wrap m.size,IntKind.u64.wrap m.count]:List Int).length:=by rw [eL52,List.length_append]; have:=gD (ns:=[m.level,m.gen,m.epoch,m.number,IntKind.u64.wrap m.size,IntKind.u64.wrap m.count]) l6; omega
   try simp only [List.length_cons,List.length_nil] at lL52
   have hea:=hea.mono hG52
   have hed:=hed.mono hG52
   have hbb1:=hbb1.mono hG52
   have hgn:=hgn.mono hG52
   have hs17:=hs17.mono hG52
   have hs21:=hs21.mono hG52
   have hs26:=hs26.mono hG52
   have hs27:=hs27.mono hG52
   have hsl:=hsl.mono hG52
   have hbb5:=hbb5.mono hG52
   have hs51:=hs51.mono hG52
   refine .g (bO (mc:=⟨false,false⟩) [0,1,2,4,5,7,8,3,6,9,10] aY (by kernel_rfl) ?_)
   refine .p (fA rfl yV rfl (lN rfl cW rfl ((hbb5.rd (by rfl)).rd) ?_))
   refine fA rfl yW rfl (lN rfl cW rfl ((hbb5.rd (by rfl)).rd) ?_)
   refine fA rfl aLi rfl ?_
   refine kA rfl .no mR (.u rfl) hbb5 (aIl hwm) ?_; intro h61 L61 eL61 lL61 hs61
   have ly:=iC m.min; have ly2:=iC m.max
   refine kc rfl zB (aB rfl (aB rfl aF)) (Ct.frzB (wP L52 h52 _ hs52 m.min (by omega))) ?_
   rintro _ G56 μ56 hG56 ⟨h56,L56,eL56,rfl,rfl,hs56⟩
   have hea:=hea.mono hG56
   have hed:=hed.mono hG56
   have hbb1:=hbb1.mono hG56
   have hgn:=hgn.mono hG56
   have hs17:=hs17.mono hG56
   have hs21:=hs21.mono hG56
   have hs26:=hs26.mono hG56
   have hs27:=hs27.mono hG56
   have hsl:=hsl.mono hG56
   have hbb5:=hbb5.mono hG56
   have hs51:=hs51.mono hG56
   have hs52:=hs52.mono hG56
   have hs61:=hs61.mono hG56
   have l56:L56.length≤L52.length+(m.min.size+10):=by rw [eL56,List.length_append]; have:=yC (xs:=yb m.min) (by omega); omega
   refine kc rfl zB (aB rfl (aB rfl aF)) (iM (wP L56 h56 _ hs56 m.max (by omega))) ?_
   rintro v59 G59 μ59 hG59 ⟨L59,ov59,eL59,rfl⟩
   have hea:=hea.mono hG59
   have hed:=hed.mono hG59
   have hbb1:=hbb1.mono hG59
   have hgn:=hgn.mono hG59
   have hs17:=hs17.mono hG59
   have hs21:=hs21.mono hG59
   have hs26:=hs26.mono hG59
   have hs27:=hs27.mono hG59
   have hsl:=hsl.mono hG59
   have hbb5:=hbb5.mono hG59
   have hs51:=hs51.mono hG59
   have hs52:=hs52.mono hG59
   have hs61:=hs61.mono hG59
   have hs56:=hs56.mono hG59
   have l59:L59.length≤L56.length+(m.max.size+10):=by rw [eL59,List.length_append]; have:=yC (xs:=yb m.max) (by omega); omega
   refine eN rfl aP bY (.u rfl) (.u rfl) .here hs61.sc (by (try simp only [cI,cR]); omega) ?_
   intro v62 L62 ov62 eL62
   have lL62:L62.length=L59.length+L61.length:=by rw [eL62,List.length_append]
   refine aS rfl rfl (.nil (.blk (.code ?_)))
   refine kR .here (by first|(intro b hb; cases hb; done) | simp [keys,Res.keys]) ?_; intro GfR59 hR59 hleR59 evR59 hsR59; subst evR59
   have hea:=hea.mono hleR59
   have hed:=hed.mono hleR59
   have hbb1:=hbb1.mono hleR59
   have hgn:=hgn.mono hleR59
   have hs17:=hs17.mono hleR59
   have hs21:=hs21.mono hleR59
   have hs26:=hs26.mono hleR59
   have hs27:=hs27.mono hleR59
   have hsl:=hsl.mono hleR59
   have hbb5:=hbb5.mono hleR59
   have hs51:=hs51.mono hleR59
   have hs52:=hs52.mono hleR59
   have hs61:=hs61.mono hleR59
   have hs56:=hs56.mono hleR59
   refine .g (aW (((k+1):Nat):Int) rfl rfl rfl rfl ?_)
   refine .g (aU (k+1,hR59,L62) ?_ ?_ ?_ ?_ ?_)
   ·exact (aA rfl (aM rfl (aA rfl (aA rfl (aA rfl eZ)))))
   ·exact mN
   ·first|omega|(dsimp only; omega)
   ·exact ((((((hGl0).trans hleb5).trans hG51).trans hG52).trans hG56).trans hG59).trans hleR59
   refine ⟨?_,?_,?_⟩
   ·(try dsimp only)<;>(first|omega|rfl|assumption|(simp; done))
   ·(try dsimp only)<;>(rw [eL62,eL59,eL56,eL52,eL61,aHb,eL,aAJ em,List.append_assoc])
   (try dsimp only)<;>(exact hsR59)
  have c1k:=c1
  try simp only [aD,aE] at c1
  refine .g (fA rfl qB rfl (lN rfl pX rfl ((hbb1.rd (by rfl)).rd) ?_))
  refine lE rfl qH rfl (cw rfl .no gV (.u rfl) (fun _=>mL (by omega) (by omega)) ?_)
  refine bQ [(e.drop.length:Int)] rfl kT lS (Evp.cons (.u rfl) Evp.nil) rfl rfl (by decide) ?_; intro G69 h69 hG69 hs69
  have hea:=hea.mono hG69
  have hed:=hed.mono hG69
  have hbb1:=hbb1.mono hG69
  have hgn:=hgn.mono hG69
  have hs17:=hs17.mono hG69
  have hs21:=hs21.mono hG69
  have hs26:=hs26.mono hG69
  have hs27:=hs27.mono hG69
  have hsl:=hsl.mono hG69
  refine kc rfl iX (aB rfl (aB rfl aF)) (iU L3 h3 [(e.drop.length:Int)] h69 _ hsl hs69 (q1 (jU (by omega))) (by simp only [List.length_cons,List.length_nil]; omega)) ?_
  rintro _ G70 μ70 hG70 ⟨h70,L70,eL70,rfl,rfl,hs70⟩
  have lL70:L70.length≤L3.length+10*([(e.drop.length:Int)]:List Int).length:=by rw [eL70,List.length_append]; have:=gD (ns:=[(e.drop.length:Int)]) (q1 (jU (by omega))); omega
  try simp only [List.length_cons,List.length_nil] at lL70
  have hea:=hea.mono hG70
  have hed:=hed.mono hG70
  have hbb1:=hbb1.mono hG70
  have hgn:=hgn.mono hG70
  have hs17:=hs17.mono hG70
  have hs21:=hs21.mono hG70
  have hs26:=hs26.mono hG70
  have hs27:=hs27.mono hG70
  have hsl:=hsl.mono hG70
  have hs69:=hs69.mono hG70
  refine .g (fA rfl qB rfl (lN rfl pX rfl ((hbb1.rd (by rfl)).rd) ?_))
  refine lE rfl qH rfl (mV rfl rfl (.nc (.block ?_)))
  refine aX (α:=Nat×Sh×List Y) (fun gh=>[(3,true,gh.2.1.val gh.2.2.length),(74,true,.int .i64 (gh.1:Int))]) (fun _=>[])
   (fun gh Gl=>(gh.1≤e.drop.length)∧(gh.2.2=L70++(e.drop.take gh.1).flatMap gL)∧(SlR Gl 1 aN gh.2.1 gh.2.2)) (fun gh=>e.drop.length-gh.1) (0,h70,L70) [(72,true,_),(73,true,_)] []
   (aA rfl (aM rfl (aA rfl (aA rfl eZ))))
   mN ?_ ?_
  ·refine ⟨?_,?_,?_⟩
   ·(try dsimp only)<;>(first|omega|rfl|assumption|(simp; done))
   ·(try dsimp only)<;>(simp)
   (try dsimp only)<;>(exact hs70)
  intro gh N1 Gl1 hN1 hGl1 hF1
  obtain ⟨j,h9,L9⟩:=gh; dsimp only at hF1 hN1 ⊢
  obtain ⟨hj,eL9,hsl2⟩:=hF1
  have hea:=hea.mono hGl1
  have hed:=hed.mono hGl1
  have hbb1:=hbb1.mono hGl1
  have hgn:=hgn.mono hGl1
  have hs17:=hs17.mono hGl1
  have hs21:=hs21.mono hGl1
  have hs26:=hs26.mono hGl1
  have hs27:=hs27.mono hGl1
  have hsl:=hsl.mono hGl1
  have hs69:=hs69.mono hGl1
  have hs70:=hs70.mono hGl1
  have lk2:=sZ (f:=gL) (xs:=e.drop) j
  have ld2:=aAL hw.drop
  have lL9:L9.length=L70.length+((e.drop.take j).flatMap gL).length:=by rw [eL9,List.length_append]
  refine .g (cP rfl rfl rfl rfl (.g (cD rfl (fun c2=>?_) (fun c2=>?_))))
  ·have c2k:=c2
   try simp only [aD,aE] at c2
   refine .skip (.code (.seq (.block (.seq (dT rfl rfl (ih rfl .no aMc (.u rfl) (.u rfl) (by omega) (by omega) (fun _=>hed.nn (k:=j) (by first|omega|(simp only [Bool.and_eq_true,decide_eq_true_eq] at hc; omega)|(simp only [List.length_cons,List.length_nil]; omega))) ?_))))))
   obtain ⟨g,eg⟩:=dY (k:=j) (xs:=e.drop) (by omega)
   refine lA rfl .no aLL (.u rfl) (fun _=>(hed.at (by omega) eg).rd) (fun _=>rfl) ?_
   refine al rfl aMu ?_; intro b7
   refine sw rfl (.u rfl) (.u rfl) rfl aMk .here rfl (aH9) ?_
   refine .nil (.code ?_)
   refine dL .here (by intro b hb; cases hb) ?_; intro Gfb7 hleb7 hbb7
   have hea:=hea.mono hleb7
   have hed:=hed.mono hleb7
   have hbb1:=hbb1.mono hleb7
   have hgn:=hgn.mono hleb7
   have hs17:=hs17.mono hleb7
   have hs21:=hs21.mono hleb7
   have hs26:=hs26.mono hleb7
   have hs27:=hs27.mono hleb7
   have hsl:=hsl.mono hleb7
   have hs69:=hs69.mono hleb7
   have hs70:=hs70.mono hleb7
   have hsl2:=hsl2.mono hleb7
   have hwg:=hw.drop g (List.mem_of_getElem? eg); have w1:=hwg.level; have w2:=hwg.number; have lt:=aB4 (f:=gL) eg
   refine .g (fA rfl aLm rfl (lN rfl bM rfl ((hbb7.rd (by rfl)).rd) ?_))
   refine cw rfl .no zL (.u rfl) (fun _=>mL (by omega) (by omega)) ?_
   refine fA rfl aLn rfl (lN rfl aZ rfl ((hbb7.rd (by rfl)).rd) ?_)
   refine bQ [g.level,g.number] rfl kT lS (Evp.cons (.u rfl) (Evp.cons (.u rfl) Evp.nil)) rfl rfl (by decide) ?_; intro G84 h84 hG84 hs84
   have hea:=hea.mono hG84
   have hed:=hed.mono hG84
   have hbb1:=hbb1.mono hG84
   have hgn:=hgn.mono hG84
   have hs17:=hs17.mono hG84
   have hs21:=hs21.mono hG84
   have hs26:=hs26.mono hG84
   have hs27:=hs27.mono hG84
   have hsl:=hsl.mono hG84
   have hs69:=hs69.mono hG84
   have hs70:=hs70.mono hG84
   have hsl2:=hsl2.mono hG84
   have hbb7:=hbb7.mono hG84
   refine kc rfl iX (aB rfl (aB rfl aF)) (iU L9 h9 [g.level,g.number] h84 _ hsl2 hs84 (q2 ⟨by omega,by omega⟩ ⟨by omega,by omega⟩) (by simp only [List.length_cons,List.length_nil]; omega)) ?_
   rintro _ G85 μ85 hG85 ⟨h85,L85,eL85,rfl,rfl,hs85⟩
   have lL85:L85.length≤L9.length+10*([g.level,g.number]:List Int).length:=by rw [eL85,List.length_append]; have:=gD (ns:=[g.level,g.number]) (q2 ⟨by omega,by omega⟩ ⟨by omega,by omega⟩); omega
   try simp only [List.length_cons,List.length_nil] at lL85
   have hea:=hea.mono hG85
   have hed:=hed.mono hG85
   have hbb1:=hbb1.mono hG85
   have hgn:=hgn.mono hG85
   have hs17:=hs17.mono hG85
   have hs21:=hs21.mono hG85
   have hs26:=hs26.mono hG85
   have hs27:=hs27.mono hG85
   have hsl:=hsl.mono hG85
   have hs69:=hs69.mono hG85
   have hs70:=hs70.mono hG85
   have hsl2:=hsl2.mono hG85
   have hbb7:=hbb7.mono hG85
   have hs84:=hs84.mono hG85
   refine .g (aW (((j+1):Nat):Int) rfl rfl rfl rfl ?_)
   refine .g (aU (j+1,h85,L85) ?_ ?_ ?_ ?_ ?_)
   ·exact (aA rfl (aM rfl (aA rfl (aA rfl eZ))))
   ·exact mN
   ·first|omega|(dsimp only; omega)
   ·exact (((hGl1).trans hleb7).trans hG84).trans hG85
   refine ⟨?_,?_,?_⟩
   ·(try dsimp only)<;>(first|omega|rfl|assumption|(simp; done))
   ·(try dsimp only)<;>(rw [eL85,aHa,eL9,aAJ eg,List.append_assoc])
   (try dsimp only)<;>(exact hs85)
  have c2k:=c2
  try simp only [aD,aE] at c2
  refine .exit (.xcode (.xlp (.xblk (.code (.seq (bB rfl rfl (mV rfl rfl (aS rfl rfl (.nc (.ret (aK Tryz.results208 (.tmp rfl .nil) ?_)))))))))))
  obtain rfl:k=e.add.length:=by omega
  obtain rfl:j=e.drop.length:=by omega
  rw [List.take_length] at eL eL9
  exact ⟨h9,L9,by rw [eL9,eL70,eL,eL27,eL21,eL17,List.nil_append,aBx],rfl,rfl,hsl2⟩
 refine bQ [(e.add.length:Int)] rfl kT lS (Evp.cons (.u rfl) Evp.nil) rfl rfl (by decide) ?_; intro G26 h26 hG26 hs26
 have hea:=hea.mono hG26
 have hed:=hed.mono hG26
 have hbb1:=hbb1.mono hG26
 have hgn:=hgn.mono hG26
 have hs17:=hs17.mono hG26
 refine .nil (Wt.b1 3 (by kernel_rfl) ?_)
 refine kc rfl iX (aB rfl (aB rfl aF)) (iU L17 h17 (gM e) ⟨some ⟨b1,4,none⟩,5⟩ _ hs17 hgn (qT hw) (by show _+10*5≤_; omega)) ?_
 rintro _ G21 μ21 hG21 ⟨h21,L21,eL21,rfl,rfl,hs21⟩
 have lL21:L21.length≤L17.length+10*((gM e):List Int).length:=by rw [eL21,List.length_append]; have:=gD (ns:=(gM e)) (qT hw); omega
 try simp only [List.length_cons,List.length_nil] at lL21
 have hea:=hea.mono hG21
 have hed:=hed.mono hG21
 have hbb1:=hbb1.mono hG21
 have hs26:=hs26.mono hG21
 refine .nil (Wt.b1 9 (by kernel_rfl) ?_)
 refine kc rfl iX (aB rfl (aB rfl aF)) (iU L21 h21 [(e.add.length:Int)] h26 _ hs21 hs26 (q1 (jU (by omega))) (by simp only [List.length_cons,List.length_nil]; omega)) ?_
 rintro _ G27 μ27 hG27 ⟨h27,L27,eL27,rfl,rfl,hs27⟩
 have lL27:L27.length≤L21.length+10*([(e.add.length:Int)]:List Int).length:=by rw [eL27,List.length_append]; have:=gD (ns:=[(e.add.length:Int)]) (q1 (jU (by omega))); omega
 try simp only [List.length_cons,List.length_nil] at lL27
 have hea:=hea.mono hG27
 have hed:=hed.mono hG27
 have hbb1:=hbb1.mono hG27
 refine .nil (Wt.one 10 (by kernel_rfl) ?_)
 refine aS rfl rfl (.nil (Wt.last (by kernel_rfl) ?_))
 refine .g (fA rfl jJ rfl (lN rfl gS rfl ((hbb1.rd (by rfl)).rd) ?_))
 refine lE rfl iZ rfl (mV rfl rfl (.nc (.block ?_)))
 refine aX (α:=Nat×Sh×List Y) (fun gh=>[(3,true,gh.2.1.val gh.2.2.length),(31,true,.int .i64 (gh.1:Int))]) (fun _=>[])
  (fun gh Gl=>(gh.1≤e.add.length)∧(gh.2.2=L27++(e.add.take gh.1).flatMap eF)∧(SlR Gl 1 aN gh.2.1 gh.2.2)) (fun gh=>e.add.length-gh.1) (0,h27,L27) [(1,true,_),(29,true,_),(30,true,_)] []
  (aA rfl (aM rfl (aA rfl (aA rfl (aA rfl eZ)))))
  mN ?_ ?_
 ·refine ⟨?_,?_,?_⟩
  ·(try dsimp only)<;>(first|omega|rfl|assumption|(simp; done))
  ·(try dsimp only)<;>(simp)
  (try dsimp only)<;>(exact hs27)
 intro gh N0 Gl0 hN0 hGl0 hF0
 obtain ⟨k,h3,L3⟩:=gh; dsimp only at hF0 hN0 ⊢
 obtain ⟨hk,eL,hsl⟩:=hF0
 have hea:=hea.mono hGl0
 have hed:=hed.mono hGl0
 have hbb1:=hbb1.mono hGl0
 have lk:=sZ (f:=eF) (xs:=e.add) k
 have lL:L3.length=L27.length+((e.add.take k).flatMap eF).length:=by rw [eL,List.length_append]
 refine .g (cP rfl rfl rfl rfl (.g (cD rfl (fun c1=>?_) (fun c1=>?_))))
 ·have c1k:=c1
  try simp only [aD,aE] at c1
  refine .skip (.code (.seq (.block (.seq (dT rfl rfl (ih rfl .no lQ (.u rfl) (.u rfl) (by omega) (by omega) (fun _=>hea.nn (k:=k) (by first|omega|(simp only [Bool.and_eq_true,decide_eq_true_eq] at hc; omega)|(simp only [List.length_cons,List.length_nil]; omega))) ?_))))))
  obtain ⟨m,em⟩:=dY (k:=k) (xs:=e.add) (by omega)
  refine lA rfl .no pW (.u rfl) (fun _=>(hea.at (by omega) em).rd) (fun _=>Meta.len _) ?_
  refine al rfl aBX ?_; intro b5
  refine sw rfl (.u rfl) (.u rfl) rfl aBV .here rfl (Meta.one _) ?_
  refine .nil (.code (.seq ?_))
  refine dL .here (by intro b hb; cases hb) ?_; intro Gfb5 hleb5 hbb5
  have hed:=hed.mono hleb5
  have hbb1:=hbb1.mono hleb5
  have hsl:=hsl.mono hleb5
  have hwm:=hw.add m (List.mem_of_getElem? em); have w1:=hwm.level; have w2:=hwm.gen; have w3:=hwm.epoch; have w4:=hwm.number; have l6:=aKb hwm; have lt:=aB4 (f:=eF) em; have lg:=aHc m
  refine .g (fA rfl yU rfl (lN rfl bM rfl ((hbb5.rd (by rfl)).rd) ?_))
  refine cw rfl .no zL (.u rfl) (fun _=>mL (by omega) (by omega)) ?_
  refine fA rfl aFj rfl (lN rfl aZ rfl ((hbb5.rd (by rfl)).rd) ?_)
  refine fA rfl aLh rfl (lN rfl aZ rfl ((hbb5.rd (by rfl)).rd) ?_)
  refine fA rfl vY rfl (lN rfl aZ rfl ((hbb5.rd (by rfl)).rd) ?_)
  refine fA rfl aFk rfl (lN rfl cJ rfl ((hbb5.rd (by rfl)).rd) ?_)
  refine cv rfl .no gV (.u rfl) (fA rfl aFl rfl (lN rfl cJ rfl ((hbb5.rd (by rfl)).rd) ?_))
  refine cv rfl .no gV (.u rfl) ?_
  refine bQ [m.level,m.gen,m.epoch,m.number,IntKind.u64.wrap m.size,IntKind.u64.wrap m.count] rfl kT lS (Evp.cons (.u rfl) (Evp.cons (.u rfl) (Evp.cons (.u rfl) (Evp.cons (.u rfl) (Evp.cons (.u rfl) (Evp.cons (.u rfl) Evp.nil)))))) rfl rfl (by decide) ?_; intro G51 h51 hG51 hs51
  have hed:=hed.mono hG51
  have hbb1:=hbb1.mono hG51
  have hsl:=hsl.mono hG51
  have hbb5:=hbb5.mono hG51
  refine kc rfl iX (aB rfl (aB rfl aF)) (iU L3 h3 [m.level,m.gen,m.epoch,m.number,IntKind.u64.wrap m.size,IntKind.u64.wrap m.count] h51 _ hsl hs51 l6 (by simp only [List.length_cons,List.length_nil]; omega)) ?_
  rintro _ G52 μ52 hG52 ⟨h52,L52,eL52,rfl,rfl,hs52⟩
  have lL52:L52.length≤L3.length+10*([m.level,m.gen,m.epoch,m.number,IntKind.u64.wrap m.size,IntKind.u64.wrap m.count]:List Int).length:=by rw [eL52,List.length_append]; have:=gD (ns:=[m.level,m.gen,m.epoch,m.number,IntKind.u64.wrap m.size,IntKind.u64.wrap m.count]) l6; omega
  try simp only [List.length_cons,List.length_nil] at lL52
  have hed:=hed.mono hG52
  have hbb1:=hbb1.mono hG52
  have hsl:=hsl.mono hG52
  have hbb5:=hbb5.mono hG52
  refine .g (bO (mc:=⟨false,false⟩) [0,1,2,4,5,7,8,3,6,9,10] aY (by kernel_rfl) ?_)
  refine .p (fA rfl yV rfl (lN rfl cW rfl ((hbb5.rd (by rfl)).rd) ?_))
  refine fA rfl yW rfl (lN rfl cW rfl ((hbb5.rd (by rfl)).rd) ?_)
  refine fA rfl aLi rfl ?_
  refine kA rfl .no mR (.u rfl) hbb5 (aIl hwm) ?_; intro h61 L61 eL61 lL61 hs61
  have ly:=iC m.min; have ly2:=iC m.max
  refine kc rfl zB (aB rfl (aB rfl aF)) (Ct.frzB (wP L52 h52 _ hs52 m.min (by omega))) ?_
  rintro _ G56 μ56 hG56 ⟨h56,L56,eL56,rfl,rfl,hs56⟩
  have hed:=hed.mono hG56
  have hbb1:=hbb1.mono hG56
  have hsl:=hsl.mono hG56
  have hs61:=hs61.mono hG56
  have l56:L56.length≤L52.length+(m.min.size+10):=by rw [eL56,List.length_append]; have:=yC (xs:=yb m.min) (by omega); omega
  refine kc rfl zB (aB rfl (aB rfl aF)) (iM (wP L56 h56 _ hs56 m.max (by omega))) ?_
  rintro v59 G59 μ59 hG59 ⟨L59,ov59,eL59,rfl⟩
  have hed:=hed.mono hG59
  have hbb1:=hbb1.mono hG59
  have hsl:=hsl.mono hG59
  have hs61:=hs61.mono hG59
  have l59:L59.length≤L56.length+(m.max.size+10):=by rw [eL59,List.length_append]; have:=yC (xs:=yb m.max) (by omega); omega
  refine eN rfl aP bY (.u rfl) (.u rfl) .here hs61.sc (by (try simp only [cI,cR]); omega) ?_
  intro v62 L62 ov62 eL62
  have lL62:L62.length=L59.length+L61.length:=by rw [eL62,List.length_append]
  refine aS rfl rfl (.nil (.blk (.code ?_)))
  refine kR .here (by first|(intro b hb; cases hb; done) | simp [keys,Res.keys]) ?_; intro GfR59 hR59 hleR59 evR59 hsR59; subst evR59
  have hed:=hed.mono hleR59
  have hbb1:=hbb1.mono hleR59
  have hsl:=hsl.mono hleR59
  refine .g (aW (((k+1):Nat):Int) rfl rfl rfl rfl ?_)
  refine .g (aU (k+1,hR59,L62) ?_ ?_ ?_ ?_ ?_)
  ·exact (aA rfl (aM rfl (aA rfl (aA rfl (aA rfl eZ)))))
  ·exact mN
  ·first|omega|(dsimp only; omega)
  ·exact ((((((hGl0).trans hleb5).trans hG51).trans hG52).trans hG56).trans hG59).trans hleR59
  refine ⟨?_,?_,?_⟩
  ·(try dsimp only)<;>(first|omega|rfl|assumption|(simp; done))
  ·(try dsimp only)<;>(rw [eL62,eL59,eL56,eL52,eL61,aHb,eL,aAJ em,List.append_assoc])
  (try dsimp only)<;>(exact hsR59)
 have c1k:=c1
 try simp only [aD,aE] at c1
 refine .g (fA rfl qB rfl (lN rfl pX rfl ((hbb1.rd (by rfl)).rd) ?_))
 refine lE rfl qH rfl (cw rfl .no gV (.u rfl) (fun _=>mL (by omega) (by omega)) ?_)
 refine bQ [(e.drop.length:Int)] rfl kT lS (Evp.cons (.u rfl) Evp.nil) rfl rfl (by decide) ?_; intro G69 h69 hG69 hs69
 have hed:=hed.mono hG69
 have hbb1:=hbb1.mono hG69
 have hsl:=hsl.mono hG69
 refine kc rfl iX (aB rfl (aB rfl aF)) (iU L3 h3 [(e.drop.length:Int)] h69 _ hsl hs69 (q1 (jU (by omega))) (by simp only [List.length_cons,List.length_nil]; omega)) ?_
 rintro _ G70 μ70 hG70 ⟨h70,L70,eL70,rfl,rfl,hs70⟩
 have lL70:L70.length≤L3.length+10*([(e.drop.length:Int)]:List Int).length:=by rw [eL70,List.length_append]; have:=gD (ns:=[(e.drop.length:Int)]) (q1 (jU (by omega))); omega
 try simp only [List.length_cons,List.length_nil] at lL70
 have hed:=hed.mono hG70
 have hbb1:=hbb1.mono hG70
 refine .g (fA rfl qB rfl (lN rfl pX rfl ((hbb1.rd (by rfl)).rd) ?_))
 refine lE rfl qH rfl (mV rfl rfl (.nc (.block ?_)))
 refine aX (α:=Nat×Sh×List Y) (fun gh=>[(3,true,gh.2.1.val gh.2.2.length),(74,true,.int .i64 (gh.1:Int))]) (fun _=>[])
  (fun gh Gl=>(gh.1≤e.drop.length)∧(gh.2.2=L70++(e.drop.take gh.1).flatMap gL)∧(SlR Gl 1 aN gh.2.1 gh.2.2)) (fun gh=>e.drop.length-gh.1) (0,h70,L70) [(72,true,_),(73,true,_)] []
  (aA rfl (aM rfl (aA rfl (aA rfl eZ))))
  mN ?_ ?_
 ·refine ⟨?_,?_,?_⟩
  ·(try dsimp only)<;>(first|omega|rfl|assumption|(simp; done))
  ·(try dsimp only)<;>(simp)
  (try dsimp only)<;>(exact hs70)
 intro gh N1 Gl1 hN1 hGl1 hF1
 obtain ⟨j,h9,L9⟩:=gh; dsimp only at hF1 hN1 ⊢
 obtain ⟨hj,eL9,hsl2⟩:=hF1
 have hed:=hed.mono hGl1
 have lk2:=sZ (f:=gL) (xs:=e.drop) j
 have ld2:=aAL hw.drop
 have lL9:L9.length=L70.length+((e.drop.take j).flatMap gL).length:=by rw [eL9,List.length_append]
 refine .g (cP rfl rfl rfl rfl (.g (cD rfl (fun c2=>?_) (fun c2=>?_))))
 ·have c2k:=c2
  try simp only [aD,aE] at c2
  refine .skip (.code (.seq (.block (.seq (dT rfl rfl (ih rfl .no aMc (.u rfl) (.u rfl) (by omega) (by omega) (fun _=>hed.nn (k:=j) (by first|omega|(simp only [Bool.and_eq_true,decide_eq_true_eq] at hc; omega)|(simp only [List.length_cons,List.length_nil]; omega))) ?_))))))
  obtain ⟨g,eg⟩:=dY (k:=j) (xs:=e.drop) (by omega)
  refine lA rfl .no aLL (.u rfl) (fun _=>(hed.at (by omega) eg).rd) (fun _=>rfl) ?_
  refine al rfl aMu ?_; intro b7
  refine sw rfl (.u rfl) (.u rfl) rfl aMk .here rfl (aH9) ?_
  refine .nil (.code ?_)
  refine dL .here (by intro b hb; cases hb) ?_; intro Gfb7 hleb7 hbb7
  have hsl2:=hsl2.mono hleb7
  have hwg:=hw.drop g (List.mem_of_getElem? eg); have w1:=hwg.level; have w2:=hwg.number; have lt:=aB4 (f:=gL) eg
  refine .g (fA rfl aLm rfl (lN rfl bM rfl ((hbb7.rd (by rfl)).rd) ?_))
  refine cw rfl .no zL (.u rfl) (fun _=>mL (by omega) (by omega)) ?_
  refine fA rfl aLn rfl (lN rfl aZ rfl ((hbb7.rd (by rfl)).rd) ?_)
  refine bQ [g.level,g.number] rfl kT lS (Evp.cons (.u rfl) (Evp.cons (.u rfl) Evp.nil)) rfl rfl (by decide) ?_; intro G84 h84 hG84 hs84
  have hsl2:=hsl2.mono hG84
  refine kc rfl iX (aB rfl (aB rfl aF)) (iU L9 h9 [g.level,g.number] h84 _ hsl2 hs84 (q2 ⟨by omega,by omega⟩ ⟨by omega,by omega⟩) (by simp only [List.length_cons,List.length_nil]; omega)) ?_
  rintro _ G85 μ85 hG85 ⟨h85,L85,eL85,rfl,rfl,hs85⟩
  have lL85:L85.length≤L9.length+10*([g.level,g.number]:List Int).length:=by rw [eL85,List.length_append]; have:=gD (ns:=[g.level,g.number]) (q2 ⟨by omega,by omega⟩ ⟨by omega,by omega⟩); omega
  try simp only [List.length_cons,List.length_nil] at lL85
  have hsl2:=hsl2.mono hG85
  refine .g (aW (((j+1):Nat):Int) rfl rfl rfl rfl ?_)
  refine .g (aU (j+1,h85,L85) ?_ ?_ ?_ ?_ ?_)
  ·exact (aA rfl (aM rfl (aA rfl (aA rfl eZ))))
  ·exact mN
  ·first|omega|(dsimp only; omega)
  ·exact (((hGl1).trans hleb7).trans hG84).trans hG85
  refine ⟨?_,?_,?_⟩
  ·(try dsimp only)<;>(first|omega|rfl|assumption|(simp; done))
  ·(try dsimp only)<;>(rw [eL85,aHa,eL9,aAJ eg,List.append_assoc])
  (try dsimp only)<;>(exact hs85)
 have c2k:=c2
 try simp only [aD,aE] at c2
 refine .exit (.xcode (.xlp (.xblk (.code (.seq (bB rfl rfl (mV rfl rfl (aS rfl rfl (.nc (.ret (aK Tryz.results208 (.tmp rfl .nil) ?_)))))))))))
 obtain rfl:k=e.add.length:=by omega
 obtain rfl:j=e.drop.length:=by omega
 rw [List.take_length] at eL eL9
 exact ⟨h9,L9,by rw [eL9,eL70,eL,eL27,eL21,eL17,List.nil_append,aBx],rfl,rfl,hsl2⟩
set_option maxHeartbeats 2000000 in
theorem aPO (e:Edit) (ha hd:Sh) (G:PM) (he:EdR G e ha hd) (hla:e.add.length≤1000000) (hld:e.drop.length≤1000000) (hlm:(e.add.flatMap eF).length≤10000000000000) (h0a:e.add.length=0) (h0d:e.drop.length=0):Ct Tryz.prog 208 ([e.val ha hd]:List Value).toArray G [] (fun G' μ' u=>∃ (s:Sh) (L:List Y),L=kC e∧μ'=[]∧u=s.val L.length∧SlR G' 1 aN s L):=by
 refine Ct.of Tryz.func208 rfl Tryz.ntmps208 rfl fun w0 hs0=>?_
 have hea:=he.add; have hed:=he.drop; have hw:=he.wf; have hw1:=hw.log; have hw2:=hw.next; have hw3:=hw.seq; have hw4:=hw.least; have lgn:(gM e).length=5:=rfl
 refine .seq (bB rfl rfl ?_)
 refine bX rfl rfl rfl ?_; intro b1
 refine aS rfl rfl (.nc (.seq ?_))
 refine dL .here (by intro b hb; cases hb) ?_; intro Gfb1 hleb1 hbb1
 have hgn:=aH4 hbb1
 refine .g (fA rfl aBA rfl (lN rfl aZ rfl ((hbb1.rd (by rfl)).rd) ?_))
 refine fA rfl vZ rfl (lN rfl aZ rfl ((hbb1.rd (by rfl)).rd) ?_)
 refine fA rfl aBB rfl (lN rfl aZ rfl ((hbb1.rd (by rfl)).rd) ?_)
 refine fA rfl aBC rfl (lN rfl aZ rfl ((hbb1.rd (by rfl)).rd) ?_)
 refine bQ [e.log,e.next,e.seq,e.least] rfl kT lS (Evp.cons (.u rfl) (Evp.cons (.u rfl) (Evp.cons (.u rfl) (Evp.cons (.u rfl) Evp.nil)))) rfl rfl (by decide) ?_; intro G16 h16 hG16 hs16
 have hbb1:=hbb1.mono hG16
 have hgn:=hgn.mono hG16
 refine kc rfl iX (aB rfl (aB rfl aF)) (iU ([]:List Y) ⟨none,0⟩ [e.log,e.next,e.seq,e.least] h16 _ SlR.nul hs16 (q4 hw1 hw2 hw3 hw4) (by simp only [List.length_cons,List.length_nil]; omega)) ?_
 rintro _ G17 μ17 hG17 ⟨h17,L17,eL17,rfl,rfl,hs17⟩
 have lL17:L17.length≤([]:List Y).length+10*([e.log,e.next,e.seq,e.least]:List Int).length:=by rw [eL17,List.length_append]; have:=gD (ns:=[e.log,e.next,e.seq,e.least]) (q4 hw1 hw2 hw3 hw4); omega
 try simp only [List.length_cons,List.length_nil] at lL17
 have hbb1:=hbb1.mono hG17
 have hgn:=hgn.mono hG17
 refine aS rfl rfl (.nc (.seq (Wk.mix ⟨false,false⟩ aY (by kernel_rfl) ?_)))
 refine Wt.one 0 (by kernel_rfl) ?_
 refine mV rfl rfl (.nil (Wt.one 1 (by kernel_rfl) ?_))
 refine fA rfl aBD rfl (.nil (Wt.one 2 (by kernel_rfl) ?_))
 refine pQ rfl .no yQ (.u rfl) (.nil (Wt.one 4 (by kernel_rfl) ?_))
 refine fA rfl jJ rfl (.nil (Wt.one 5 (by kernel_rfl) ?_))
 refine lN rfl gS rfl ((hbb1.rd (by rfl)).rd) ?_
 refine .nil (Wt.one 6 (by kernel_rfl) ?_)
 refine lE rfl iZ rfl (.nil (Wt.one 7 (by kernel_rfl) ?_))
 refine cw rfl .no gV (.u rfl) (fun _=>mL (by omega) (by omega)) ?_
 refine .nil (Wt.b2 3 8 (by kernel_rfl) ?_ ?_)
 ·refine kc rfl iX (aB rfl (aB rfl aF)) (iU L17 h17 (gM e) ⟨some ⟨b1,4,none⟩,5⟩ _ hs17 hgn (qT hw) (by show _+10*5≤_; omega)) ?_
  rintro _ G21 μ21 hG21 ⟨h21,L21,eL21,rfl,rfl,hs21⟩
  have lL21:L21.length≤L17.length+10*((gM e):List Int).length:=by rw [eL21,List.length_append]; have:=gD (ns:=(gM e)) (qT hw); omega
  try simp only [List.length_cons,List.length_nil] at lL21
  have hbb1:=hbb1.mono hG21
  have hgn:=hgn.mono hG21
  have hs17:=hs17.mono hG21
  refine .nil (Wt.b1 8 (by kernel_rfl) ?_)
  refine bQ [(e.add.length:Int)] rfl kT lS (Evp.cons (.u rfl) Evp.nil) rfl rfl (by decide) ?_; intro G26 h26 hG26 hs26
  have hbb1:=hbb1.mono hG26
  have hgn:=hgn.mono hG26
  have hs17:=hs17.mono hG26
  have hs21:=hs21.mono hG26
  refine .nil (Wt.b1 9 (by kernel_rfl) ?_)
  refine kc rfl iX (aB rfl (aB rfl aF)) (iU L21 h21 [(e.add.length:Int)] h26 _ hs21 hs26 (q1 (jU (by omega))) (by simp only [List.length_cons,List.length_nil]; omega)) ?_
  rintro _ G27 μ27 hG27 ⟨h27,L27,eL27,rfl,rfl,hs27⟩
  have lL27:L27.length≤L21.length+10*([(e.add.length:Int)]:List Int).length:=by rw [eL27,List.length_append]; have:=gD (ns:=[(e.add.length:Int)]) (q1 (jU (by omega))); omega
  try simp only [List.length_cons,List.length_nil] at lL27
  have hbb1:=hbb1.mono hG27
  have hgn:=hgn.mono hG27
  have hs17:=hs17.mono hG27
  have hs21:=hs21.mono hG27
  have hs26:=hs26.mono hG27
  refine .nil (Wt.one 10 (by kernel_rfl) ?_)
  refine aS rfl rfl (.nil (Wt.last (by kernel_rfl) ?_))
  refine .g (fA rfl jJ rfl (lN rfl gS rfl ((hbb1.rd (by rfl)).rd) ?_))
  refine lE rfl iZ rfl (mV rfl rfl (.nc (.block ?_)))
  refine aX (α:=Nat×Sh×List Y) (fun gh=>[(3,true,gh.2.1.val gh.2.2.length),(31,true,.int .i64 (gh.1:Int))]) (fun _=>[])
   (fun gh Gl=>(gh.1≤e.add.length)∧(gh.2.2=L27++(e.add.take gh.1).flatMap eF)∧(SlR Gl 1 aN gh.2.1 gh.2.2)) (fun gh=>e.add.length-gh.1) (0,h27,L27) [(1,true,_),(29,true,_),(30,true,_)] []
   (aA rfl (aM rfl (aA rfl (aA rfl (aA rfl eZ)))))
   mN ?_ ?_
  ·refine ⟨?_,?_,?_⟩
   ·(try dsimp only)<;>(first|omega|rfl|assumption|(simp; done))
   ·(try dsimp only)<;>(simp)
   (try dsimp only)<;>(exact hs27)
  intro gh N0 Gl0 hN0 hGl0 hF0
  obtain ⟨k,h3,L3⟩:=gh; dsimp only at hF0 hN0 ⊢
  obtain ⟨hk,eL,hsl⟩:=hF0
  have hbb1:=hbb1.mono hGl0
  have hgn:=hgn.mono hGl0
  have hs17:=hs17.mono hGl0
  have hs21:=hs21.mono hGl0
  have hs26:=hs26.mono hGl0
  have hs27:=hs27.mono hGl0
  have lk:=sZ (f:=eF) (xs:=e.add) k
  have lL:L3.length=L27.length+((e.add.take k).flatMap eF).length:=by rw [eL,List.length_append]
  refine .g (cP rfl rfl rfl rfl (.g (cD rfl (fun c1=>?_) (fun c1=>?_))))
  ·have c1k:=c1
   have c1:=of_decide_eq_true c1; omega
  have c1k:=c1
  try simp only [aD,aE] at c1
  refine .g (fA rfl qB rfl (lN rfl pX rfl ((hbb1.rd (by rfl)).rd) ?_))
  refine lE rfl qH rfl (cw rfl .no gV (.u rfl) (fun _=>mL (by omega) (by omega)) ?_)
  refine bQ [(e.drop.length:Int)] rfl kT lS (Evp.cons (.u rfl) Evp.nil) rfl rfl (by decide) ?_; intro G69 h69 hG69 hs69
  have hbb1:=hbb1.mono hG69
  have hgn:=hgn.mono hG69
  have hs17:=hs17.mono hG69
  have hs21:=hs21.mono hG69
  have hs26:=hs26.mono hG69
  have hs27:=hs27.mono hG69
  have hsl:=hsl.mono hG69
  refine kc rfl iX (aB rfl (aB rfl aF)) (iU L3 h3 [(e.drop.length:Int)] h69 _ hsl hs69 (q1 (jU (by omega))) (by simp only [List.length_cons,List.length_nil]; omega)) ?_
  rintro _ G70 μ70 hG70 ⟨h70,L70,eL70,rfl,rfl,hs70⟩
  have lL70:L70.length≤L3.length+10*([(e.drop.length:Int)]:List Int).length:=by rw [eL70,List.length_append]; have:=gD (ns:=[(e.drop.length:Int)]) (q1 (jU (by omega))); omega
  try simp only [List.length_cons,List.length_nil] at lL70
  have hbb1:=hbb1.mono hG70
  have hgn:=hgn.mono hG70
  have hs17:=hs17.mono hG70
  have hs21:=hs21.mono hG70
  have hs26:=hs26.mono hG70
  have hs27:=hs27.mono hG70
  have hsl:=hsl.mono hG70
  have hs69:=hs69.mono hG70
  refine .g (fA rfl qB rfl (lN rfl pX rfl ((hbb1.rd (by rfl)).rd) ?_))
  refine lE rfl qH rfl (mV rfl rfl (.nc (.block ?_)))
  refine aX (α:=Nat×Sh×List Y) (fun gh=>[(3,true,gh.2.1.val gh.2.2.length),(74,true,.int .i64 (gh.1:Int))]) (fun _=>[])
   (fun gh Gl=>(gh.1≤e.drop.length)∧(gh.2.2=L70++(e.drop.take gh.1).flatMap gL)∧(SlR Gl 1 aN gh.2.1 gh.2.2)) (fun gh=>e.drop.length-gh.1) (0,h70,L70) [(72,true,_),(73,true,_)] []
   (aA rfl (aM rfl (aA rfl (aA rfl eZ))))
   mN ?_ ?_
  ·refine ⟨?_,?_,?_⟩
   ·(try dsimp only)<;>(first|omega|rfl|assumption|(simp; done))
   ·(try dsimp only)<;>(simp)
   (try dsimp only)<;>(exact hs70)
  intro gh N1 Gl1 hN1 hGl1 hF1
  obtain ⟨j,h9,L9⟩:=gh; dsimp only at hF1 hN1 ⊢
  obtain ⟨hj,eL9,hsl2⟩:=hF1
  have hbb1:=hbb1.mono hGl1
  have hgn:=hgn.mono hGl1
  have hs17:=hs17.mono hGl1
  have hs21:=hs21.mono hGl1
  have hs26:=hs26.mono hGl1
  have hs27:=hs27.mono hGl1
  have hsl:=hsl.mono hGl1
  have hs69:=hs69.mono hGl1
  have hs70:=hs70.mono hGl1
  have lk2:=sZ (f:=gL) (xs:=e.drop) j
  have ld2:=aAL hw.drop
  have lL9:L9.length=L70.length+((e.drop.take j).flatMap gL).length:=by rw [eL9,List.length_append]
  refine .g (cP rfl rfl rfl rfl (.g (cD rfl (fun c2=>?_) (fun c2=>?_))))
  ·have c2k:=c2
   have c2:=of_decide_eq_true c2; omega
  have c2k:=c2
  try simp only [aD,aE] at c2
  refine .exit (.xcode (.xlp (.xblk (.code (.seq (bB rfl rfl (mV rfl rfl (aS rfl rfl (.nc (.ret (aK Tryz.results208 (.tmp rfl .nil) ?_)))))))))))
  obtain rfl:k=e.add.length:=by omega
  obtain rfl:j=e.drop.length:=by omega
  rw [List.take_length] at eL eL9
  exact ⟨h9,L9,by rw [eL9,eL70,eL,eL27,eL21,eL17,List.nil_append,aBx],rfl,rfl,hsl2⟩
 refine bQ [(e.add.length:Int)] rfl kT lS (Evp.cons (.u rfl) Evp.nil) rfl rfl (by decide) ?_; intro G26 h26 hG26 hs26
 have hbb1:=hbb1.mono hG26
 have hgn:=hgn.mono hG26
 have hs17:=hs17.mono hG26
 refine .nil (Wt.b1 3 (by kernel_rfl) ?_)
 refine kc rfl iX (aB rfl (aB rfl aF)) (iU L17 h17 (gM e) ⟨some ⟨b1,4,none⟩,5⟩ _ hs17 hgn (qT hw) (by show _+10*5≤_; omega)) ?_
 rintro _ G21 μ21 hG21 ⟨h21,L21,eL21,rfl,rfl,hs21⟩
 have lL21:L21.length≤L17.length+10*((gM e):List Int).length:=by rw [eL21,List.length_append]; have:=gD (ns:=(gM e)) (qT hw); omega
 try simp only [List.length_cons,List.length_nil] at lL21
 have hbb1:=hbb1.mono hG21
 have hs26:=hs26.mono hG21
 refine .nil (Wt.b1 9 (by kernel_rfl) ?_)
 refine kc rfl iX (aB rfl (aB rfl aF)) (iU L21 h21 [(e.add.length:Int)] h26 _ hs21 hs26 (q1 (jU (by omega))) (by simp only [List.length_cons,List.length_nil]; omega)) ?_
 rintro _ G27 μ27 hG27 ⟨h27,L27,eL27,rfl,rfl,hs27⟩
 have lL27:L27.length≤L21.length+10*([(e.add.length:Int)]:List Int).length:=by rw [eL27,List.length_append]; have:=gD (ns:=[(e.add.length:Int)]) (q1 (jU (by omega))); omega
 try simp only [List.length_cons,List.length_nil] at lL27
 have hbb1:=hbb1.mono hG27
 refine .nil (Wt.one 10 (by kernel_rfl) ?_)
 refine aS rfl rfl (.nil (Wt.last (by kernel_rfl) ?_))
 refine .g (fA rfl jJ rfl (lN rfl gS rfl ((hbb1.rd (by rfl)).rd) ?_))
 refine lE rfl iZ rfl (mV rfl rfl (.nc (.block ?_)))
 refine aX (α:=Nat×Sh×List Y) (fun gh=>[(3,true,gh.2.1.val gh.2.2.length),(31,true,.int .i64 (gh.1:Int))]) (fun _=>[])
  (fun gh Gl=>(gh.1≤e.add.length)∧(gh.2.2=L27++(e.add.take gh.1).flatMap eF)∧(SlR Gl 1 aN gh.2.1 gh.2.2)) (fun gh=>e.add.length-gh.1) (0,h27,L27) [(1,true,_),(29,true,_),(30,true,_)] []
  (aA rfl (aM rfl (aA rfl (aA rfl (aA rfl eZ)))))
  mN ?_ ?_
 ·refine ⟨?_,?_,?_⟩
  ·(try dsimp only)<;>(first|omega|rfl|assumption|(simp; done))
  ·(try dsimp only)<;>(simp)
  (try dsimp only)<;>(exact hs27)
 intro gh N0 Gl0 hN0 hGl0 hF0
 obtain ⟨k,h3,L3⟩:=gh; dsimp only at hF0 hN0 ⊢
 obtain ⟨hk,eL,hsl⟩:=hF0
 have hbb1:=hbb1.mono hGl0
 have lk:=sZ (f:=eF) (xs:=e.add) k
 have lL:L3.length=L27.length+((e.add.take k).flatMap eF).length:=by rw [eL,List.length_append]
 refine .g (cP rfl rfl rfl rfl (.g (cD rfl (fun c1=>?_) (fun c1=>?_))))
 ·have c1k:=c1
  have c1:=of_decide_eq_true c1; omega
 have c1k:=c1
 try simp only [aD,aE] at c1
 refine .g (fA rfl qB rfl (lN rfl pX rfl ((hbb1.rd (by rfl)).rd) ?_))
 refine lE rfl qH rfl (cw rfl .no gV (.u rfl) (fun _=>mL (by omega) (by omega)) ?_)
 refine bQ [(e.drop.length:Int)] rfl kT lS (Evp.cons (.u rfl) Evp.nil) rfl rfl (by decide) ?_; intro G69 h69 hG69 hs69
 have hbb1:=hbb1.mono hG69
 have hsl:=hsl.mono hG69
 refine kc rfl iX (aB rfl (aB rfl aF)) (iU L3 h3 [(e.drop.length:Int)] h69 _ hsl hs69 (q1 (jU (by omega))) (by simp only [List.length_cons,List.length_nil]; omega)) ?_
 rintro _ G70 μ70 hG70 ⟨h70,L70,eL70,rfl,rfl,hs70⟩
 have lL70:L70.length≤L3.length+10*([(e.drop.length:Int)]:List Int).length:=by rw [eL70,List.length_append]; have:=gD (ns:=[(e.drop.length:Int)]) (q1 (jU (by omega))); omega
 try simp only [List.length_cons,List.length_nil] at lL70
 have hbb1:=hbb1.mono hG70
 refine .g (fA rfl qB rfl (lN rfl pX rfl ((hbb1.rd (by rfl)).rd) ?_))
 refine lE rfl qH rfl (mV rfl rfl (.nc (.block ?_)))
 refine aX (α:=Nat×Sh×List Y) (fun gh=>[(3,true,gh.2.1.val gh.2.2.length),(74,true,.int .i64 (gh.1:Int))]) (fun _=>[])
  (fun gh Gl=>(gh.1≤e.drop.length)∧(gh.2.2=L70++(e.drop.take gh.1).flatMap gL)∧(SlR Gl 1 aN gh.2.1 gh.2.2)) (fun gh=>e.drop.length-gh.1) (0,h70,L70) [(72,true,_),(73,true,_)] []
  (aA rfl (aM rfl (aA rfl (aA rfl eZ))))
  mN ?_ ?_
 ·refine ⟨?_,?_,?_⟩
  ·(try dsimp only)<;>(first|omega|rfl|assumption|(simp; done))
  ·(try dsimp only)<;>(simp)
  (try dsimp only)<;>(exact hs70)
 intro gh N1 Gl1 hN1 hGl1 hF1
 obtain ⟨j,h9,L9⟩:=gh; dsimp only at hF1 hN1 ⊢
 obtain ⟨hj,eL9,hsl2⟩:=hF1
 have lk2:=sZ (f:=gL) (xs:=e.drop) j
 have ld2:=aAL hw.drop
 have lL9:L9.length=L70.length+((e.drop.take j).flatMap gL).length:=by rw [eL9,List.length_append]
 refine .g (cP rfl rfl rfl rfl (.g (cD rfl (fun c2=>?_) (fun c2=>?_))))
 ·have c2k:=c2
  have c2:=of_decide_eq_true c2; omega
 have c2k:=c2
 try simp only [aD,aE] at c2
 refine .exit (.xcode (.xlp (.xblk (.code (.seq (bB rfl rfl (mV rfl rfl (aS rfl rfl (.nc (.ret (aK Tryz.results208 (.tmp rfl .nil) ?_)))))))))))
 obtain rfl:k=e.add.length:=by omega
 obtain rfl:j=e.drop.length:=by omega
 rw [List.take_length] at eL eL9
 exact ⟨h9,L9,by rw [eL9,eL70,eL,eL27,eL21,eL17,List.nil_append,aBx],rfl,rfl,hsl2⟩
theorem aA1:bT Tryz.prog 157=some (some 5):=by kernel_rfl
theorem aN0 (s:State) (hd:Nat→Sh) (G:PM) (e:Edit) (ha he:Sh):Ct Tryz.prog 283 ([s.val hd,e.val ha he]:List Value).toArray G [] (fun _ μ' u=>μ'=[]∧u=.bool (wT s e)):=by
 refine Ct.of Tryz.func283 rfl Tryz.ntmps283 rfl fun w0 hs0=>?_
 refine .seq (dP rfl rfl ?_)
 refine bX rfl rfl rfl ?_; intro b2
 refine bX rfl rfl rfl ?_; intro b3
 refine .g (fZ rfl aBD rfl (lA rfl .no aA1 (.u rfl) (fun _=>RdN.part (n:=5) (cs':=(List.range 5).map (fun i=>.int .u64 (e.gens i))) .here (rfl)) (fun _=>rfl) (mV rfl rfl (.nc (.block ?_)))))
 refine aX (α:=Nat) (fun k=>[(9,true,.int .i64 (k:Int))]) (fun _=>[])
  (fun k Gl=>(k≤5)∧(∀ i,i<k→¬ e.gens i<s.gens i)) (fun k=>5-k) 0 [(2,true,_),(3,true,_),(8,true,_)] [_,_]
  (aM rfl (aA rfl (aA rfl (aA rfl eZ))))
  (mS .here rfl (mS .here rfl mN)) ?_ ?_
 ·refine ⟨?_,?_⟩
  ·(try dsimp only)<;>(first|omega|rfl|assumption|(simp; done))
  (try dsimp only)<;>(exact fun i hi=>by omega)
 intro k N0 Gl0 hN0 hGl0 hF0
 try dsimp only at hF0 hN0 ⊢
 obtain ⟨hk,hn⟩:=hF0
 refine .g (cP rfl rfl rfl rfl (.g (cD rfl (fun c1=>?_) (fun c1=>?_))))
 ·have c1k:=c1
  try simp only [aD,aE] at c1
  refine .g (ix rfl .no yQ aZ (.u rfl) (.u rfl) (by omega) (by omega) (fun _=>(aPq (k:=k) (by omega) (by omega))) ?_)
  refine .g (fZ rfl aA8 rfl (iW rfl yQ rfl rfl ?_))
  refine lO rfl aZ rfl aC (by exact s.cell_gen hd (k:=k) (by omega)) ?_
  refine cP rfl rfl rfl rfl (.g (cD rfl (fun c2=>?_) (fun c2=>?_)))
  ·have c2k:=c2
   try simp only [aD,aE] at c2
   refine .seq (aQ rfl rfl (aS rfl rfl (.nc (.ret (aK Tryz.results283 (.tmp rfl .nil) ?_)))))
   exact ⟨rfl,congrArg Value.bool (aNz (i:=k) (by omega) (by omega)).symm⟩
  have c2k:=c2
  try simp only [aD,aE] at c2
  refine .g (aW (((k+1):Nat):Int) rfl rfl rfl rfl ?_)
  refine .g (aU (k+1) ?_ ?_ ?_ ?_ ?_)
  ·exact (aM rfl (aA rfl (aA rfl (aA rfl eZ))))
  ·exact (mS .here rfl (mS .here rfl mN))
  ·first|omega|(dsimp only; omega)
  ·exact hGl0
  refine ⟨?_,?_⟩
  ·(try dsimp only)<;>(first|omega|rfl|assumption|(simp; done))
  (try dsimp only)<;>(exact fun i hi=>by (by_cases h:i=k; (subst h; omega); exact hn i (by omega)))
 have c1k:=c1
 try simp only [aD,aE] at c1
 refine .g (fZ rfl aBA rfl (lO rfl aZ rfl .here (by first|exact aV rfl|rfl) ?_))
 refine fZ rfl aC2 rfl (lO rfl aZ rfl aC (by first|exact aV rfl|rfl) ?_)
 refine cP rfl rfl rfl rfl (.p (fz rfl (.f rfl rfl) vZ (.u rfl) (ld rfl (.f rfl rfl) aZ (.s rfl) (fun hc=>Rd.own .here (by first|exact aV rfl|rfl)) ?_)))
 refine fz rfl (.f rfl rfl) aA7 (.u rfl) (ld rfl (.f rfl rfl) aZ (.s rfl) (fun hc=>Rd.own aC (by first|exact aV rfl|rfl)) ?_)
 refine cp rfl (.f rfl rfl) (.s rfl) (.s rfl) rfl (bZ rfl .no (.u rfl) (.s rfl) (.p (fz rfl (.f rfl rfl) aBB (.u rfl) (ld rfl (.f rfl rfl) aZ (.s rfl) (fun hc=>Rd.own .here (by first|exact aV rfl|rfl)) ?_))))
 refine fz rfl (.f rfl rfl) aC3 (.u rfl) (ld rfl (.f rfl rfl) aZ (.s rfl) (fun hc=>Rd.own aC (by first|exact aV rfl|rfl)) ?_)
 refine cp rfl (.f rfl rfl) (.s rfl) (.s rfl) rfl (bZ rfl .no (.u rfl) (.s rfl) (.p (fz rfl (.f rfl rfl) aBC (.u rfl) (ld rfl (.f rfl rfl) aZ (.s rfl) (fun hc=>Rd.own .here (by first|exact aV rfl|rfl)) ?_))))
 refine fz rfl (.f rfl rfl) aC4 (.u rfl) (ld rfl (.f rfl rfl) aZ (.s rfl) (fun hc=>Rd.own aC (by first|exact aV rfl|rfl)) ?_)
 refine cp rfl (.f rfl rfl) (.s rfl) (.s rfl) rfl (bZ rfl .no (.u rfl) (.s rfl) (aS rfl rfl (.nc (.ret (aK Tryz.results283 (.tmp rfl .nil) ?_)))))
 exact ⟨rfl,congrArg Value.bool (aG0 (fun i hi=>hn i (by omega))).symm⟩
theorem aOC (G:PM):Ct Tryz.prog 284 ([.slice none 0 0]:List Value).toArray G [] (fun _ μ' u=>μ'=[]∧u=.slice none 0 0):=by
 refine Ct.of Tryz.func284 rfl Tryz.ntmps284 rfl fun w0 hs0=>?_
 refine .g (rI (s:=⟨none,0⟩) (m:=0) rfl .no iZ (.u rfl) (.u rfl) ?_)
 refine .g (cD rfl (fun c1=>?_) (fun c1=>?_))
 ·have c1k:=c1
  try simp only [aD,aE] at c1
  refine .seq (aQ rfl rfl (aS rfl rfl (.nc (.ret (aK Tryz.results284 (.tmp rfl .nil) ?_)))))
  exact ⟨rfl,rfl⟩
 have c1k:=c1
 cases c1
theorem aKx (xs:List Y) (h:Sh) (G:PM) (hs:SlR G 1 aN h xs) (hl:xs.length≤100000000000000):Ct Tryz.prog 217 ([h.val xs.length]:List Value).toArray G [] (fun G' μ' u=>∃ b s,μ'=[.blk b (cl [Sh.val s xs.length,.int .i64 0] 419)]∧u=.pointer (some ⟨b,0,none⟩)∧SlR G' 1 aN s xs):=by
 refine Ct.of Tryz.func217 rfl Tryz.ntmps217 rfl fun w0 hs0=>?_
 refine .seq (aQ rfl rfl (aS rfl rfl (.nc (.seq (iV rfl rfl ?_)))))
 refine oF rfl aP ?_; intro b3
 refine .p (qM rfl aP bY (.u rfl) (.u rfl) .here hs.sc (by (try simp only [cI,cR]); omega) ?_)
 intro v5 L5 _ ov5 eL5
 have lL5:L5.length=xs.length:=by rw [eL5]
 refine bR ([v5,.int .i64 0]) rfl .no aM3 (.cons (.u rfl) (sN ov5) .nil) rfl (rfl) ?_
 refine bX rfl rfl rfl ?_; intro b7
 refine aS rfl rfl (.nc (.ret ?_))
 refine aFK aC (by first|(intro b hb; cases hb; done) | simp [keys,Res.keys]) ?_; intro GfR5 hR5 hleR5 evR5 hsR5; subst evR5
 refine bD Tryz.results217 (.tmp rfl .nil) (mS .here rfl mN) ?_
 subst eL5
 exact ⟨b7,hR5,rfl,rfl,hsR5⟩
theorem aCT (xs:List Y) (s:Sh) (b:Nat) (G:PM) (hs:SlR G 1 aN s xs) (h8:8≤xs.length) (hl:xs.length≤100000000000000):Ct Tryz.prog 218 ([.pointer (some ⟨b,0,none⟩),.int .i64 ((8:Nat):Int)]:List Value).toArray G [.blk b (cl [s.val xs.length,.int .i64 0] 419)] (fun G' μ' u=>∃ s',μ'=[.blk b (cl [Sh.val s' (xs.drop 8).length,.int .i64 0] 419)]∧u=uv .u64 (fC xs 8)∧SlR G' 1 aN s' (xs.drop 8)):=by
 refine Ct.of Tryz.func218 rfl Tryz.ntmps218 rfl fun w0 hs0=>?_
 refine .g (pe rfl .no aDY (.u rfl) (.u rfl) ?_)
 refine mV rfl rfl (mv rfl (Gd.f (b:=false) rfl rfl) (.u rfl) (nc rfl (Gd.f (b:=false) rfl rfl) (.u rfl) (fz rfl (Gd.f (b:=false) rfl rfl) aDX (.u rfl) (ld rfl (Gd.f (b:=false) rfl rfl) jA (.u rfl) (fun _=>Rd.own .here (by first|exact aV rfl|rfl)) ?_))))
 refine cp rfl (Gd.f (b:=false) rfl rfl) (.u rfl) (.u rfl) rfl (bZ rfl .no (.u rfl) (.u rfl) (.g (cD rfl (fun c1=>?_) (fun c1=>?_))))
 ·have c1k:=c1
  exact absurd c1 (by decide)
 have c1k:=c1
 try simp only [aD,aE] at c1
 refine .g (cP rfl rfl rfl rfl (mV rfl rfl (mv rfl (.f rfl rfl) (.u rfl) (cp rfl (.f rfl rfl) (.s rfl) (.u rfl) rfl (bZ rfl .no (.u rfl) (.s rfl) (.g (cD rfl (fun c2=>?_) (fun c2=>?_))))))))
 ·have c2k:=c2
  exact absurd c2 (by decide)
 have c2k:=c2
 try simp only [aD,aE] at c2
 refine .g (nC rfl rfl (fZ rfl uI rfl (lO rfl dB rfl .here (by first|exact aV rfl|rfl) ?_)))
 refine lE rfl bV rfl (cP rfl rfl rfl rfl (.g (cD rfl (fun c3=>?_) (fun c3=>?_))))
 ·have c3k:=c3
  try simp only [aD,aE] at c3
  exfalso; omega
 have c3k:=c3
 try simp only [aD,aE] at c3
 refine .skip (.code (.seq (aQ rfl rfl (aS rfl rfl (.nc (.seq (.seq (bB rfl rfl (mV rfl rfl (mV rfl rfl (.nc (.block ?_))))))))))))
 refine aX (α:=Nat×BitVec 64) (fun gh=>[(5,true,uv .u64 gh.2),(36,true,.int .i64 (gh.1:Int))]) (fun _=>[])
  (fun gh Gl=>(gh.1≤8)∧(gh.2=fC xs gh.1)) (fun gh=>8-gh.1) (0,0#64) [(0,true,_),(1,true,_),(35,true,_)] [_]
  (aA rfl (aM rfl (aA rfl (aA rfl (aA rfl eZ)))))
  (mS .here rfl mN) ?_ ?_
 ·refine ⟨?_,?_⟩
  ·(try dsimp only)<;>(first|omega|rfl|assumption|(simp; done))
  (try dsimp only)<;>(rfl)
 intro gh N0 Gl0 hN0 hGl0 hF0
 obtain ⟨k,m⟩:=gh; dsimp only at hF0 hN0 ⊢
 obtain ⟨hk,em⟩:=hF0
 have hs:=hs.mono hGl0
 refine .g (cP rfl rfl rfl rfl (.g (cD rfl (fun c4=>?_) (fun c4=>?_))))
 ·have c4k:=c4
  try simp only [aD,aE] at c4
  refine .g (nC rfl rfl (fZ rfl uI rfl (lO rfl dB rfl .here (by first|exact aV rfl|rfl) ?_)))
  refine mV rfl rfl (ih rfl .no aP (.u rfl) (.u rfl) (by omega) (by omega) (fun _=>hs.nn (k:=k) (by omega)) ?_)
  refine lN rfl bM rfl ((hs.yat (k) (by omega) (by omega)).rd) ?_
  refine cu (k:=.u8) rfl .no rfl zL (.u rfl) ?_
  refine .p (aW (((8*k):Nat):Int) rfl rfl rfl rfl ?_)
  refine lw (k:=.u64) rfl .no rfl (.u rfl) (.u rfl) (by omega) ?_
  refine bw (k:=.u64) rfl .no rfl (.u rfl) (.u rfl) rfl (.g (aW (((k+1):Nat):Int) rfl rfl rfl rfl ?_))
  refine .g (aU (k+1,m ||| (xs.getD k 0).setWidth 64 <<< (8*k)) ?_ ?_ ?_ ?_ ?_)
  ·exact (aA rfl (aM rfl (aA rfl (aA rfl (aA rfl eZ)))))
  ·exact (mS .here rfl mN)
  ·first|omega|(dsimp only; omega)
  ·exact hGl0
  refine ⟨?_,?_⟩
  ·(try dsimp only)<;>(first|omega|rfl|assumption|(simp; done))
  (try dsimp only)<;>(rw [em]; rfl)
 have c4k:=c4
 try simp only [aD,aE] at c4
 refine .g (nC rfl rfl (fZ rfl uI rfl (lO rfl dB rfl .here (by first|exact aV rfl|rfl) ?_)))
 refine .p (kD (8) rfl .no aP hs (.u rfl) (.u rfl) (by omega) (by omega) ?_)
 intro h59 L59 eL59 lL59 hs59
 have lL59:=lL59 rfl
 refine nC rfl rfl (fZ rfl uI rfl (s1 rfl (.u rfl) (.u rfl) rfl kU .here (by first|decide|(simp only [cC,bP,cI]; omega)) (rfl) ?_))
 refine .nil (.code (.seq (bB rfl rfl (mV rfl rfl (aS rfl rfl (.nc (.ret (bD Tryz.results218 (.tmp rfl .nil) (mS .here rfl mN) ?_))))))))
 obtain rfl:k=8:=by omega
 exact ⟨h59,by rw [eL59]; rfl,by rw [em]; rfl,by rw [← eL59]; exact hs59⟩
theorem aGK:dV Tryz.prog 161=some ([V 0#8,V 0#8,uv .u64 0#64,uv .u64 0#64,uv .u64 0#64]):=by kernel_rfl
theorem aLU:cT Tryz.prog 161 []=some ([V 0#8,V 0#8,uv .u64 0#64,uv .u64 0#64,uv .u64 0#64],[]):=by kernel_rfl
theorem aBU:cE Tryz.prog 161=some 5:=by kernel_rfl
theorem aF0:aL Tryz.prog 217=true:=by kernel_rfl
theorem aVr:cT Tryz.prog 161 [0,1]=some ([V 0#8,V 0#8,uv .u64 0#64,uv .u64 0#64,uv .u64 0#64],[(0,1),(1,1)]):=by kernel_rfl
theorem aDH:aL Tryz.prog 218=true:=by kernel_rfl
theorem aXE:aL Tryz.prog 268=true:=by kernel_rfl
theorem aNP (xs:List Y) (h:Sh) (G:PM) (hs:SlR G 1 aN h xs) (hl:xs.length≤100000000000000):Ct Tryz.prog 214 ([h.val xs.length]:List Value).toArray G [] (fun _ μ' u=>μ'=[]∧u=.tuple #[.agg (cQ xs).1.cells.toArray,.int .i64 (cQ xs).2]):=by
 refine Ct.of Tryz.func214 rfl Tryz.ntmps214 rfl fun w0 hs0=>?_
 refine .seq (bB rfl rfl ?_)
 refine al rfl aGK ?_; intro b2
 refine .g (lE rfl bV rfl (cP rfl rfl rfl rfl (.g (cD rfl (fun c1=>?_) (fun c1=>?_)))))
 ·have c1k:=c1
  try simp only [aD,aH,aE] at c1
  refine .g (bC rfl .no aLU .nil rfl ?_)
  refine sw rfl (.u rfl) (.u rfl) rfl aBU .here (by first|exact qE|exact qL|rfl) (aAc rfl rfl rfl rfl rfl) ?_
  refine aS rfl rfl (.nc (.ret (aK Tryz.results214 (.cell rfl (fun w hw=>bW gT (RdN.own .here) ((by first|exact qE|exact qL|rfl)) hw) (.tmp rfl .nil)) ?_)))
  exact ⟨rfl,by rw [aUl (by omega)]; rfl⟩
 have c1k:=c1
 try simp only [aD,aH,aE] at c1
 refine .g (kS (6) (30) rfl .no aP hs (.u rfl) (.u rfl) (.u rfl) (by omega) (by omega) (by omega) (by omega) ?_)
 intro h11 L11 eL11 lL11 hs11
 have lL11:=lL11 rfl
 refine kc rfl aF0 (aB rfl aF) (aKx L11 h11 _ hs11 (by omega)) ?_
 rintro _ G12 μ12 hG12 ⟨b12,rI,rfl,rfl,hsn0⟩
 have hs:=hs.mono hG12
 refine .g (bO (mc:=⟨false,false⟩) [0,1,2,3,4,5,6,7,8] aY (by kernel_rfl) ?_)
 refine mV rfl rfl (ih rfl .no aP (.u rfl) (.u rfl) (by omega) (by omega) (fun _=>hs.nn (k:=4) (by omega)) ?_)
 refine lN rfl bM rfl ((hs.yat (4) (by omega) (by omega)).rd) ?_
 refine mV rfl rfl (ih rfl .no aP (.u rfl) (.u rfl) (by omega) (by omega) (fun _=>hs.nn (k:=5) (by omega)) ?_)
 refine lN rfl bM rfl ((hs.yat (5) (by omega) (by omega)).rd) ?_
 refine bR ([V (xs.getD 4 0),V (xs.getD 5 0),uv .u64 0#64,uv .u64 0#64,uv .u64 0#64]) rfl .no aVr (.cons (.u rfl) rfl (.cons (.u rfl) rfl .nil)) rfl (rfl) ?_
 refine al rfl aGK ?_; intro b5
 refine sw rfl (.u rfl) (.u rfl) rfl aBU .here (by first|exact qE|exact qL|rfl) (aAc rfl rfl rfl rfl rfl) ?_
 refine .g (ka rfl (.inr rfl) aDH (aB rfl (aB rfl aF)) (cO aC) (aCT L11 rI _ _ hsn0 (by (try simp only [List.length_drop]); omega) (by (try simp only [List.length_drop]); omega)) ?_)
 rintro _ G21 μ21 hG21 ⟨sn1,rfl,rfl,hsn1⟩
 have hs:=hs.mono hG21
 refine fZ rfl aC7 rfl (s1 rfl (.u rfl) (.u rfl) rfl kB aC (show 2<5 by decide) (rfl) ?_)
 refine .g (ka rfl (.inr rfl) aDH (aB rfl (aB rfl aF)) (cO aC) (aCT (L11.drop 8) sn1 _ _ hsn1 (by (try simp only [List.length_drop]); omega) (by (try simp only [List.length_drop]); omega)) ?_)
 rintro _ G24 μ24 hG24 ⟨sn2,rfl,rfl,hsn2⟩
 have hs:=hs.mono hG24
 refine fZ rfl aLf rfl (s1 rfl (.u rfl) (.u rfl) rfl kB aC (show 3<5 by decide) (rfl) ?_)
 refine .g (ka rfl (.inr rfl) aDH (aB rfl (aB rfl aF)) (cO aC) (aCT ((L11.drop 8).drop 8) sn2 _ _ hsn2 (by (try simp only [List.length_drop]); omega) (by (try simp only [List.length_drop]); omega)) ?_)
 rintro _ G27 μ27 hG27 ⟨sn3,rfl,rfl,hsn3⟩
 have hs:=hs.mono hG27
 refine fZ rfl yS rfl (s1 rfl (.u rfl) (.u rfl) rfl kB aC (show 4<5 by decide) (rfl) ?_)
 refine .g (kE (4) rfl .no aP hs (.u rfl) (.u rfl) (by omega) (by omega) ?_)
 intro h30 L30 eL30 lL30 hs30
 have lL30:=lL30 rfl
 refine sB rfl .no aBa (.u rfl) (fun _=>hs30.sc) ?_
 refine cs rfl .no (.u rfl) (.u rfl) rfl (.p (lA rfl (.f rfl rfl) gT (.u rfl) (fun _=>RdN.own .here) (fun _=>(by first|exact qE|exact qL|rfl)) ?_))
 refine kv rfl (.f rfl rfl) aXE (Eva.cons (.s rfl) aF) (fun hc=>aRX ⟨xs.getD 4 0,xs.getD 5 0,fC L11 8,fC (L11.drop 8) 8,fC ((L11.drop 8).drop 8) 8⟩ _) ?_
 refine nt rfl (.f rfl rfl) (.s rfl) (bZ rfl .no (.u rfl) (.s rfl) (.g (cD rfl (fun c2=>?_) (fun c2=>?_))))
 ·have c2k:=c2
  try simp only [aD,aH,aE] at c2
  refine .g (bC rfl .no aLU .nil rfl ?_)
  refine sw rfl (.u rfl) (.u rfl) rfl aBU aI (by first|exact qE|exact qL|rfl) (aAc rfl rfl rfl rfl rfl) ?_
  refine aS rfl rfl (.nc (.ret (aK Tryz.results214 (.cell rfl (fun w hw=>bW gT (RdN.own .here) ((by first|exact qE|exact qL|rfl)) hw) (.tmp rfl .nil)) ?_)))
  rw [aEO eL11] at c2k
  exact ⟨rfl,by rw [aUb (by omega) (fun hq=>aUc eL30 c2k hq)]; rfl⟩
 have c2k:=c2
 try simp only [aD,aH,aE] at c2
 refine .g (lB rfl gT rfl .here ?_)
 refine sw rfl (.u rfl) (.u rfl) rfl aBU aI (by first|exact qE|exact qL|rfl) (aAc rfl rfl rfl rfl rfl) ?_
 refine aS rfl rfl (.nc (.ret (aK Tryz.results214 (.cell rfl (fun w hw=>bW gT (RdN.own .here) ((by first|exact qE|exact qL|rfl)) hw) (.tmp rfl .nil)) ?_)))
 rw [aEO eL11] at c2k
 exact ⟨rfl,by rw [aUg (by omega) (aUd eL30 c2k),←aEO eL11]; rfl⟩
theorem aMr:dV Tryz.prog 370=some ([V 0#8,V 0#8,uv .u64 0#64,uv .u64 0#64,uv .u64 0#64,.slice none 0 0,.int .i64 0,.bool false]):=by kernel_rfl
theorem aV5:cT Tryz.prog 370 [3]=some ([V 0#8,V 0#8,uv .u64 0#64,uv .u64 0#64,uv .u64 0#64,.slice none 0 0,.int .i64 0,.bool false],[(7,1)]):=by kernel_rfl
theorem uF:cE Tryz.prog 370=some 8:=by kernel_rfl
theorem rX:bT Tryz.prog 370=some (some 8):=by kernel_rfl
theorem aWy:aL Tryz.prog 214=true:=by kernel_rfl
theorem aC0:cT Tryz.prog 370 []=some ([V 0#8,V 0#8,uv .u64 0#64,uv .u64 0#64,uv .u64 0#64,.slice none 0 0,.int .i64 0,.bool false],[]):=by kernel_rfl
theorem aQe {G:PM} {b7 b9 T7 T9:Nat} {kind:Y} {h:Sh} {p:List Y} (hle:PM.le G ((G.add b7 (cl [V kind] T7)).add b9 (cl [.slice (some ⟨b7,0,none⟩) 1 1,h.val p.length] T9))) (hq:PM.le (G.add b7 (cl [V kind] T7)) ((G.add b7 (cl [V kind] T7)).add b9 (cl [.slice (some ⟨b7,0,none⟩) 1 1,h.val p.length] T9))) (hs:SlR G 1 aN h p) (hK:RdNP G 6 0 (wa 64 kW)) (hl:p.length≤100000000000000) :
  Ct Tryz.prog 311 ([.slice (some ⟨b9,0,none⟩) 2 2]:List Value).toArray ((G.add b7 (cl [V kind] T7)).add b9 (cl [.slice (some ⟨b7,0,none⟩) 1 1,h.val p.length] T9)) [] (fun _ μ' u=>μ'=[]∧u=.agg (ba 32 (lH (kind :: p))).toArray):=by
 have h1:SlR (G.add b7 (cl [V kind] T7)) 1 aN ⟨some ⟨b7,0,none⟩,1⟩ [kind]:=fD (T:=T7) (bU _ _ _) (fun _ _=>rfl) (by simp)
 have hP:SlP ((G.add b7 (cl [V kind] T7)).add b9 (cl [.slice (some ⟨b7,0,none⟩) 1 1,h.val p.length] T9)) ⟨some ⟨b9,0,none⟩,2⟩ [(⟨some ⟨b7,0,none⟩,1⟩,[kind]),(h,p)] :=
  ⟨fD (T:=T9) (bU _ _ _) (fun _ _=>rfl) (by simp),fun q hq'=>by
   rcases List.mem_cons.1 hq' with rfl | hq'
   ·exact h1.mono hq
   ·rw [List.mem_singleton.1 hq']; exact hs.mono hle⟩
 have hh:=aAk _ ⟨some ⟨b9,0,none⟩,2⟩ _ hP (hK.mono hle) (by simp [cN]; omega) (by simp)
 rw [show cN [((⟨some ⟨b7,0,none⟩,1⟩ : Sh),[kind]),(h,p)]=kind :: p by simp [cN]] at hh
 exact hh
theorem aPK {G:PM} {b7 b9 T7 T9:Nat} {kind:Y} (hle:PM.le G ((G.add b7 (cl [V kind] T7)).add b9 (cl [.slice (some ⟨b7,0,none⟩) 1 1] T9))) (hq:PM.le (G.add b7 (cl [V kind] T7)) ((G.add b7 (cl [V kind] T7)).add b9 (cl [.slice (some ⟨b7,0,none⟩) 1 1] T9))) (hK:RdNP G 6 0 (wa 64 kW)) :
  Ct Tryz.prog 311 ([.slice (some ⟨b9,0,none⟩) 1 1]:List Value).toArray ((G.add b7 (cl [V kind] T7)).add b9 (cl [.slice (some ⟨b7,0,none⟩) 1 1] T9)) [] (fun _ μ' u=>μ'=[]∧u=.agg (ba 32 (lH [kind])).toArray):=by
 have h1:SlR (G.add b7 (cl [V kind] T7)) 1 aN ⟨some ⟨b7,0,none⟩,1⟩ [kind]:=fD (T:=T7) (bU _ _ _) (fun _ _=>rfl) (by simp)
 have hP:SlP ((G.add b7 (cl [V kind] T7)).add b9 (cl [.slice (some ⟨b7,0,none⟩) 1 1] T9)) ⟨some ⟨b9,0,none⟩,1⟩ [(⟨some ⟨b7,0,none⟩,1⟩,[kind])] :=
  ⟨fD (T:=T9) (bU _ _ _) (fun _ _=>rfl) (by simp),fun q hq'=>by rw [List.mem_singleton.1 hq']; exact h1.mono hq⟩
 have hh:=aAk _ ⟨some ⟨b9,0,none⟩,1⟩ _ hP (hK.mono hle) (by simp [cN]) (by simp)
 rw [show cN [((⟨some ⟨b7,0,none⟩,1⟩ : Sh),[kind])]=[kind] by simp [cN]] at hh
 exact hh
theorem aQJ {G G2 G3 G5:PM} {b2 b3 b5 b8 T2 T3 T5 T8:Nat} {a b:Nat→Y} (e2:G2=G.add b2 (cl (ba 32 a) T2)) (e3:G3=G2.add b3 (cl (ba 32 b) T3)) (e5:G5=G3.add b5 (cl [V 1#8] T5))
  (hle:PM.le G (G5.add b8 (cl [.slice (some ⟨b5,0,none⟩) 1 1,.slice (some ⟨b2,0,none⟩) 32 32,.slice (some ⟨b3,0,none⟩) 32 32] T8))) (hq:PM.le G5 (G5.add b8 (cl [.slice (some ⟨b5,0,none⟩) 1 1,.slice (some ⟨b2,0,none⟩) 32 32,.slice (some ⟨b3,0,none⟩) 32 32] T8))∧PM.le G3 G5∧PM.le G2 G3∧PM.le G G2∧True) (hK:RdNP G 6 0 (wa 64 kW)) :
  Ct Tryz.prog 311 ([.slice (some ⟨b8,0,none⟩) 3 3]:List Value).toArray (G5.add b8 (cl [.slice (some ⟨b5,0,none⟩) 1 1,.slice (some ⟨b2,0,none⟩) 32 32,.slice (some ⟨b3,0,none⟩) 32 32] T8)) [] (fun _ μ' u=>μ'=[]∧u=.agg (ba 32 (nE a b)).toArray):=by
 have h1:SlR G5 1 aN ⟨some ⟨b5,0,none⟩,1⟩ [1#8]:=by rw [e5]; exact fD (T:=T5) (bU _ _ _) (fun _ _=>rfl) (by simp)
 have h2:SlR G2 1 aN ⟨some ⟨b2,0,none⟩,32⟩ (yl 32 a):=by rw [e2]; exact aGy
 have h3:SlR G3 1 aN ⟨some ⟨b3,0,none⟩,32⟩ (yl 32 b):=by rw [e3]; exact aGy
 have l1:=cR 32 a
 have l2:=cR 32 b
 have hP:SlP (G5.add b8 (cl [.slice (some ⟨b5,0,none⟩) 1 1,.slice (some ⟨b2,0,none⟩) 32 32,.slice (some ⟨b3,0,none⟩) 32 32] T8)) ⟨some ⟨b8,0,none⟩,3⟩ [(⟨some ⟨b5,0,none⟩,1⟩,[1#8]),(⟨some ⟨b2,0,none⟩,32⟩,yl 32 a),(⟨some ⟨b3,0,none⟩,32⟩,yl 32 b)] :=
  ⟨fD (T:=T8) (by simp [pE,l1,l2,Sh.val]; exact bU _ _ _) (fun _ _=>rfl) (by simp),fun q hq'=>by
   simp only [List.mem_cons,List.not_mem_nil,or_false] at hq'
   rcases hq' with rfl|rfl|rfl
   ·exact h1.mono hq.1
   ·exact h2.mono (hq.2.2.1.trans (hq.2.1.trans hq.1))
   ·exact h3.mono (hq.2.1.trans hq.1)⟩
 have hh:=aAk _ ⟨some ⟨b8,0,none⟩,3⟩ _ hP (hK.mono hle) (by simp [cN,l1,l2]) (by simp)
 rw [show cN [((⟨some ⟨b5,0,none⟩,1⟩ : Sh),[1#8]),(⟨some ⟨b2,0,none⟩,32⟩,yl 32 a),(⟨some ⟨b3,0,none⟩,32⟩,yl 32 b)]=1#8 :: (yl 32 a++yl 32 b) by simp [cN]] at hh
 exact hh
theorem aQf (p:List Y) (h:Sh) (G:PM) (hs:SlR G 1 aN h p) (hK:RdNP G 6 0 (wa 64 kW)) (hl:p.length≤100000000000000):Ct Tryz.prog 226 ([h.val p.length]:List Value).toArray G [] (fun _ μ' u=>μ'=[]∧u=.agg (ba 32 (aEV p)).toArray):=by
 refine Ct.of Tryz.func226 rfl Tryz.ntmps226 rfl fun w0 hs0=>?_
 refine .seq (aQ rfl rfl ?_)
 refine al rfl jK ?_; intro b2
 refine .nil (.code (.seq (lF rfl rfl ?_)))
 refine Go.Tan.b1 rfl aP bY (.u rfl) rfl rfl (by decide) ?_; intro b3
 refine mV rfl rfl ?_
 refine Go.Tan.bN rfl iN lT (Evp.cons (.u rfl) (Evp.cons (.u rfl) Evp.nil)) rfl (by decide) (by simp [Value.oneCell',Sh.val]) ?_; intro b5
 refine kp rfl .no aBN (aB rfl aF) (Gp.add .here (Gp.add .here Gp.nil)) (fun _ hle hq=>aQe (kind:=0#8) hle hq.1 hs hK hl) ?_
 refine sW rfl rfl rfl rfl iO aI ?_
 refine .nil (.code (.ret (aK Tryz.results226 (.cell rfl (fun w hw=>bW dJ (RdN.own .here) ((by first|exact qE|exact qL|rfl)) hw) .nil) ?_)))
 exact ⟨rfl,rfl⟩
theorem aIK (a b:Dg) (G:PM) (hK:RdNP G 6 0 (wa 64 kW)):Ct Tryz.prog 312 ([.agg (ba 32 a).toArray,.agg (ba 32 b).toArray]:List Value).toArray G [] (fun _ μ' u=>μ'=[]∧u=.agg (ba 32 (nE a b)).toArray):=by
 refine Ct.of Tryz.func312 rfl Tryz.ntmps312 rfl fun w0 hs0=>?_
 refine .seq (dP rfl rfl ?_)
 refine bX rfl rfl rfl ?_; intro b2
 refine bX rfl rfl rfl ?_; intro b3
 refine al rfl jK ?_; intro b4
 refine .g (bO (mc:=⟨false,false⟩) [1,2,0,3,4,5] aY (by kernel_rfl) ?_)
 refine pQ rfl .no mR (.u rfl) (pQ rfl .no mR (.u rfl) ?_)
 refine Go.Tan.b1 rfl aP bY (.u rfl) rfl rfl (by decide) ?_; intro b5
 refine Go.Tan.bN rfl iN lT (Evp.cons (.u rfl) (Evp.cons (.u rfl) (Evp.cons (.u rfl) Evp.nil))) rfl (by decide) (by simp [Value.oneCell',Sh.val]) ?_; intro b8
 refine kp rfl .no aBN (aB rfl aF) (Gp.add .here (Gp.add .here (Gp.add aC (Gp.add aC Gp.nil)))) (fun _ hle hq=>aQJ rfl rfl rfl hle hq hK) ?_
 refine sW rfl rfl rfl rfl iO aI ?_
 refine .nil (.code (.ret (aK Tryz.results312 (.cell rfl (fun w hw=>bW dJ (RdN.own .here) ((by first|exact qE|exact qL|rfl)) hw) .nil) ?_)))
 exact ⟨rfl,rfl⟩
theorem sD:bJ Tryz.prog 341=some (34,32,32):=by kernel_rfl
theorem zH:(bJ Tryz.prog 341).isSome=true:=by kernel_rfl
theorem aMI:aL Tryz.prog 312=true:=by kernel_rfl
theorem aDV:(Tryz.prog.info? 34).bind (·.zero)=some (.agg (ba 32 (fun _=>0#8)).toArray):=by kernel_rfl
theorem aTV (ds:List Dg) (h:Sh) (G:PM) (hs:SlR G 32 (ba 32) h ds) (hK:RdNP G 6 0 (wa 64 kW)) (hl:ds.length≤1000000):Ct Tryz.prog 225 ([h.val ds.length]:List Value).toArray G [] (fun _ μ' u=>μ'=[]∧u=.agg (ba 32 (gG ds)).toArray):=by
 refine Ct.of Tryz.func225 rfl Tryz.ntmps225 rfl fun w0 hs0=>?_
 refine .seq (aQ rfl rfl ?_)
 refine al rfl jK ?_; intro b2
 refine .g (lE rfl zH rfl (cP rfl rfl rfl rfl (.g (cD rfl (fun c1=>?_) (fun c1=>?_)))))
 ·have c1k:=c1
  try simp only [aD,aH,aE] at c1
  refine .seq (dT rfl rfl ?_)
  refine Go.Tan.b1 rfl aP bY (.u rfl) rfl rfl (by decide) ?_; intro b12
  refine Go.Tan.b1 rfl iN lT (.u rfl) rfl rfl (by decide) ?_; intro b13
  refine kp rfl .no aBN (aB rfl aF) (Gp.add .here (Gp.add .here Gp.nil)) (fun _ hle hq=>aPK (kind:=2#8) hle hq.1 hK) ?_
  refine sW rfl rfl rfl rfl iO aI ?_
  refine .nil (.code (.ret (aK Tryz.results225 (.cell rfl (fun w hw=>bW dJ (RdN.own .here) ((by first|exact qE|exact qL|rfl)) hw) .nil) ?_)))
  obtain rfl:ds=[]:=List.eq_nil_of_length_eq_zero (by omega)
  exact ⟨rfl,by rw [aTU]; rfl⟩
 have c1k:=c1
 try simp only [aD,aH,aE] at c1
 refine .skip (.code (.seq (aQ rfl rfl (aS rfl rfl (.nc (.seq (.seq (rO 32 (ba 32) 34 ?_))))))))
 refine .g (lE rfl zH rfl (mV rfl rfl (.nc (.block ?_))))
 refine aX (α:=Nat×List (Nat×Dg)×Value) (fun gh=>[(3,true,gh.2.2),(17,true,.int .i64 (gh.1:Int))]) (fun gh=>[rS 32 (ba 32) gh.2.2 34 (dU gh.2.1)])
  (fun gh Gl=>(gh.1≤ds.length)∧(Stk gh.2.1 (ds.take gh.1))) (fun gh=>ds.length-gh.1) (0,[],.slice none 0 0) [(2,true,_),(15,true,_),(16,true,_)] [_]
  (aA rfl (aM rfl (aA rfl (aA rfl (aA rfl eZ)))))
  (mS .here rfl (mS .here rfl mN)) ?_ ?_
 ·refine ⟨?_,?_⟩
  ·(try dsimp only)<;>(first|omega|rfl|assumption|(simp; done))
  (try dsimp only)<;>(exact Stk.nil)
 intro gh N0 Gl0 hN0 hGl0 hF0
 obtain ⟨k,S,v⟩:=gh; dsimp only at hF0 hN0 ⊢
 obtain ⟨hk,hS⟩:=hF0
 have hs:=hs.mono hGl0
 have hK:=hK.mono hGl0
 refine .g (cP rfl rfl rfl rfl (.g (cD rfl (fun c2=>?_) (fun c2=>?_))))
 ·have c2k:=c2
  try simp only [aD,aH,aE] at c2
  refine .skip (.code (.seq (.block (.seq (iV rfl rfl (mV rfl rfl ?_))))))
  obtain ⟨x,ex⟩:=dY (k:=k) (xs:=ds) (by omega)
  refine ih rfl .no sD (.u rfl) (.u rfl) (by omega) (by omega) (fun _=>hs.nn (k:=k) (by first|omega|(simp only [Bool.and_eq_true,decide_eq_true_eq] at hc; omega)|(simp only [List.length_cons,List.length_nil]; omega))) ?_
  refine lA rfl .no dJ (.u rfl) (fun _=>(hs.at (by omega) ex).rd) (fun _=>bP _ _) ?_
  refine al rfl jK ?_; intro b5
  refine .p (sw rfl (.u rfl) (.u rfl) rfl iO .here rfl (lX _ _) ?_)
  refine .g (aW (((k+1):Nat):Int) rfl rfl rfl rfl ?_)
  refine aS rfl rfl (.nc (.block ?_))
  refine aX (α:=Nat×Nat×List (Nat×Dg)×Dg×Value) (fun gh=>[(3,true,gh.2.2.2.2),(6,true,.int .i64 (gh.1:Int))]) (fun gh=>[.blk b5 (cl (ba 32 gh.2.2.2.1) 34),rS 32 (ba 32) gh.2.2.2.2 34 (dU gh.2.2.1)])
   (fun gh Gl=>(Pend gh.2.2.1 gh.2.2.2.1 gh.2.1 (ds.take (k+1)))∧(gh.1=(ds.take (k+1)).length / 2^gh.2.1)∧(gh.1≤k+1)) (fun gh=>gh.1) (k+1,0,S,x,v) [(2,true,_),(5,true,_),(15,true,_),(16,true,_),(17,true,_)] [_]
   (aA rfl (aM rfl (aA rfl (aA rfl (aA rfl (aA rfl (aA rfl eZ)))))))
   (mS .here rfl (mS .here rfl (mS .here rfl mN))) ?_ ?_
  ·refine ⟨?_,?_,?_⟩
   ·(try dsimp only)<;>(rw [List.take_add_one,ex]; exact aNK hS x)
   ·(try dsimp only)<;>(rw [Nat.pow_zero,Nat.div_one,List.length_take]; omega)
   (try dsimp only)<;>(first|omega|rfl|assumption|(simp; done))
  intro gh N1 Gl1 hN1 hGl1 hF1
  obtain ⟨q,a,S2,dd,v2⟩:=gh; dsimp only at hF1 hN1 ⊢
  obtain ⟨hP,eq,hqk⟩:=hF1
  have hK:=hK.mono hGl1
  have hq0:=aSl hP eq
  have hl2:=aSj hP
  rw [← tN,List.length_take] at hl2
  refine .g (an1 q rfl .no (.u rfl) (.u rfl) rfl rfl ?_)
  refine cP rfl rfl rfl rfl (.g (cD rfl (fun c3=>?_) (fun c3=>?_)))
  ·have c3k:=c3
   try simp only [aD,aH,aE] at c3
   refine .skip (.code (.seq (.block (.seq ?_))))
   obtain ⟨s,S3,hS3,hP3,hq3⟩:=aSi hP eq (by omega)
   have hl3:(dU S2).length=(dU S3).length+1:=by rw [hS3,yB,List.length_append]; rfl
   refine aCp aC (by omega) ?_; intro bbRS capRS evRS lcRS; subst evRS
   refine bO (mc:=⟨false,false⟩) [0,1,2,3,4,5,6,7,8] aY (by kernel_rfl) ?_
   refine .p (lr rfl .no zH (.u rfl) aC ?_)
   refine iF ((((dU S2).length-1):Nat):Int) rfl .no (.u rfl) (.u rfl) rfl (by omega) (fun _=>eV (by omega) (by omega)) ?_
   refine ia rfl .no sD (.u rfl) (.u rfl) (by omega) (by omega) ?_
   refine lA rfl .no dJ (.u rfl) (fun _=>aDh aC (fun _ _=>bP _ _) (aEK (z:=zD) (k:=((dU S2).length-1)) (by omega)) (by omega)) (fun _=>bP _ _) ?_
   refine lB rfl dJ rfl .here ?_
   refine kV rfl aMI (aB rfl (aB rfl aF)) (aIK _ _ _ hK) ?_
   refine sw rfl (.u rfl) (.u rfl) rfl iO .here (by first|exact qE|exact qL|rfl) (lX _ _) ?_
   refine .g (lr rfl .no zH (.u rfl) aC ?_)
   refine aR rfl rfl rfl rfl ?_
   refine srh (dU S3).length rfl sD (.u rfl) (.u rfl) (by omega) (by omega) ?_
   refine aS rfl rfl (.nil (.blk (.code (aVP (dU S3) [s] (fun _ _=>bP _ _) aC (by rw [hS3,yB]) ?_))))
   refine .g (sr1 (q) rfl .no (.u rfl) (.u rfl) (by first|rfl|omega) rfl (by decide) ?_)
   refine .g (aU (q / 2,a+1,S3,nE ((dU S2).getD ((dU S2).length-1) zD) dd,.slice (some ⟨bbRS,0,none⟩) (dU S3).length capRS) ?_ ?_ ?_ ?_ ?_)
   ·exact (aA rfl (aM rfl (aA rfl (aA rfl (aA rfl (aA rfl (aA rfl eZ)))))))
   ·exact (mS aC rfl (mS .here rfl (mS .here rfl mN)))
   ·first|omega|(dsimp only; omega)
   ·exact hGl1
   refine ⟨?_,?_,?_⟩
   ·(try dsimp only)<;>(rw [aUR hS3]; exact hP3)
   ·(try dsimp only)<;>(exact hq3)
   (try dsimp only)<;>(first|omega|rfl|assumption|(simp; done))
  have c3k:=c3
  try simp only [aD,aH,aE] at c3
  refine .g (lB rfl dJ rfl .here ?_)
  refine Go.Tan.b1 rfl sD aDV (.u rfl) rfl rfl (by decide) ?_; intro b44
  refine oC (xs:=(dU S2)) (dd) rfl sD aDV rfl (.u rfl) (.u rfl) aI .here (bP _ _) (lX _ _) (by omega) (by unfold maxLen; omega) ?_; intro v45 ov45
  refine .g (aW (((k+1):Nat):Int) rfl rfl rfl rfl ?_)
  refine .g (aU (k+1,(a,dd) :: S2,v45) ?_ ?_ ?_ ?_ ?_)
  ·exact (aA rfl (aM rfl (aA rfl (aA rfl (aA rfl eZ)))))
  ·exact (mS .here (by rw [yB]) (mS aI rfl mN))
  ·first|omega|(dsimp only; omega)
  ·exact (hGl0).trans hGl1
  refine ⟨?_,?_⟩
  ·(try dsimp only)<;>(first|omega|rfl|assumption|(simp; done))
  (try dsimp only)<;>(exact aSk hP eq (by omega))
 have c2k:=c2
 try simp only [aD,aH,aE] at c2
 refine .exit (.xcode (.xlp (.xblk (.code (.seq ?_)))))
 obtain rfl:k=ds.length:=by omega
 rw [List.take_length] at hS
 obtain ⟨hs0,hroot⟩:=aUQ hS (by omega)
 have hsl:=hS.short
 rw [← tN] at hsl
 refine aCp .here (by omega) ?_; intro bbRS capRS evRS lcRS; subst evRS
 refine .g (lr rfl .no zH (.u rfl) .here ?_)
 refine iF ((((dU S).length-1):Nat):Int) rfl .no (.u rfl) (.u rfl) rfl (by omega) (fun _=>eV (by omega) (by omega)) ?_
 refine ia rfl .no sD (.u rfl) (.u rfl) (by omega) (by omega) ?_
 refine lA rfl .no dJ (.u rfl) (fun _=>aDh .here (fun _ _=>bP _ _) (aEK (z:=zD) (k:=((dU S).length-1)) (by omega)) (by omega)) (fun _=>bP _ _) ?_
 refine al rfl jK ?_; intro b7
 refine sw rfl (.u rfl) (.u rfl) rfl iO .here rfl (lX _ _) ?_
 refine .g (lr rfl .no zH (.u rfl) aC ?_)
 refine aR rfl rfl rfl rfl ?_
 refine aS rfl rfl (.nc (.block ?_))
 refine aX (α:=Nat×Dg) (fun gh=>[(8,true,.int .i64 ((gh.1:Int)-1))]) (fun gh=>[.blk b7 (cl (ba 32 gh.2) 34)])
  (fun gh Gl=>(gh.1≤(dU S).length-1)∧(gG ds=pF gh.2 (dU S) gh.1)) (fun gh=>gh.1) ((dU S).length-1,(dU S).getD ((dU S).length-1) zD) [(2,true,_),(3,true,_),(7,true,_)] [_,_]
  (eJ rfl (evi (by omega)) (aA rfl (aA rfl (aA rfl eZ))))
  (mS .here rfl (mS .here rfl (mS .here rfl mN))) ?_ ?_
 ·refine ⟨?_,?_⟩
  ·(try dsimp only)<;>(first|omega|rfl|assumption|(simp; done))
  (try dsimp only)<;>(exact hroot)
 intro gh N2 Gl2 hN2 hGl2 hF2
 obtain ⟨j,d⟩:=gh; dsimp only at hF2 hN2 ⊢
 obtain ⟨hj,hd⟩:=hF2
 have hK:=hK.mono hGl2
 refine .g (cP rfl rfl rfl rfl (.g (cD rfl (fun c4=>?_) (fun c4=>?_))))
 ·have c4k:=c4
  try simp only [aD,aH,aE] at c4
  refine .g (bO (mc:=⟨false,false⟩) [0,1,2,3,4,5,6] aY (by kernel_rfl) ?_)
  refine .p (ia rfl .no sD (.u rfl) (.u rfl) (by omega) (by omega) ?_)
  refine lA rfl .no dJ (.u rfl) (fun _=>aDh aC (fun _ _=>bP _ _) (aEK (z:=zD) (k:=(j-1)) (by omega)) (by omega)) (fun _=>bP _ _) ?_
  refine lB rfl dJ rfl .here ?_
  refine kV rfl aMI (aB rfl (aB rfl aF)) (aIK _ _ _ hK) ?_
  refine sw rfl (.u rfl) (.u rfl) rfl iO .here (by first|exact qE|exact qL|rfl) (lX _ _) ?_
  refine .g (aR rfl rfl rfl rfl ?_)
  refine .g (aU (j-1,nE ((dU S).getD (j-1) zD) d) ?_ ?_ ?_ ?_ ?_)
  ·exact (eJ rfl (evi (by omega)) (aA rfl (aA rfl (aA rfl eZ))))
  ·exact (mS .here rfl (mS .here rfl (mS .here rfl mN)))
  ·first|omega|(dsimp only; omega)
  ·exact hGl2
  refine ⟨?_,?_⟩
  ·(try dsimp only)<;>(first|omega|rfl|assumption|(simp; done))
  (try dsimp only)<;>(rw [hd,aPX (by omega)])
 have c4k:=c4
 try simp only [aD,aH,aE] at c4
 refine .g (lB rfl dJ rfl .here ?_)
 refine sw rfl (.u rfl) (.u rfl) rfl iO aI rfl (lX _ _) ?_
 refine .nil (.code (.ret (aK Tryz.results225 (.cell rfl (fun w hw=>bW dJ (RdN.own .here) ((by first|exact qE|exact qL|rfl)) hw) .nil) ?_)))
 obtain rfl:j=0:=by omega
 exact ⟨rfl,by rw [hd]; rfl⟩
theorem aLN:bT Tryz.prog 341=some none:=by kernel_rfl
theorem aMA:aL Tryz.prog 208=true:=by kernel_rfl
theorem aW0:aL Tryz.prog 226=true:=by kernel_rfl
theorem aXw:cE Tryz.prog 341=some 1:=by kernel_rfl
theorem aX5:dV Tryz.prog 341=some ([.slice none 0 0]):=by kernel_rfl
theorem aVt:cT Tryz.prog 202 [0,1,2,3,4]=some (iS (fun _=>0)++[.slice none 0 0,.slice none 0 0],[(0,1),(1,1),(2,1),(3,1),(4,5)]):=by kernel_rfl
theorem aMG:aL Tryz.prog 291=true:=by kernel_rfl
theorem aVu:cT Tryz.prog 202 [5]=some (iS (fun _=>0)++[.slice none 0 0,.slice none 0 0],[(9,1)]):=by kernel_rfl
theorem aWz:aL Tryz.prog 225=true:=by kernel_rfl
theorem aGn (e:Edit) (ha hd:Sh) (L:List Dg) (v:Value) (bl:Nat) (G:PM) (he:EdR G e ha hd) (hla:e.add.length≤1000000) (hld:e.drop.length≤1000000) (hlm:(e.add.flatMap eF).length≤9000000000000) (hK:RdNP G 6 0 (wa 64 kW)) (hL:L.length≤1000000):Ct Tryz.prog 291 ([e.val ha hd,.pointer (some ⟨bl,0,none⟩)]:List Value).toArray G [.blk bl (cl [v] 341),rS 32 (ba 32) v 34 L] (fun _ μ' u=>∃ v',μ'=[.blk bl (cl [v'] 341),rS 32 (ba 32) v' 34 (L++[tE e])]∧u=.tuple #[]):=by
 refine Ct.of Tryz.func291 rfl Tryz.ntmps291 rfl fun w0 hs0=>?_
 have hle:=aD6 he.wf hla hld
 refine .seq (aQ rfl rfl ?_)
 refine bX rfl rfl rfl ?_; intro b2
 refine .g (bO (mc:=⟨false,false⟩) [0,1,2,3,4,5,6] aY (by kernel_rfl) ?_)
 refine lO rfl aLN rfl aC (by first|exact aV rfl|rfl) ?_
 refine lA rfl .no rW (.u rfl) (fun _=>RdN.own .here) (fun _=>Edit.len) ?_
 refine kc rfl aMA (aB rfl aF) (aPP e ha hd _ he hla hld (by omega)) ?_
 rintro _ G5 μ5 hG5 ⟨h5,L5,eL5,rfl,rfl,hs5⟩
 have hK:=hK.mono hG5
 refine kV rfl aW0 (aB rfl aF) (aQf _ _ _ hs5 hK (by rw [eL5]; omega)) ?_
 refine Go.Tan.b1 rfl sD aDV (.u rfl) rfl rfl (by decide) ?_; intro b7
 refine oC (xs:=L) ((aEV L5)) rfl sD aDV rfl (.u rfl) (.u rfl) bE .here (bP _ _) (lX _ _) (by omega) (by unfold maxLen; omega) ?_; intro v8 ov8
 refine oP rfl (.u rfl) (.u rfl) .here aXw bE (by first|decide|(simp only [cC,bP,cI]; omega)) (rfl) ?_
 refine .g (bD Tryz.results291 .nil (mS .here rfl (mS .here rfl mN)) ?_)
 exact ⟨_,by rw [eL5]; rfl,rfl⟩
theorem aNV (m:Meta) (b:Nat) (T:TypeId) (L:List Dg) (v:Value) (bl:Nat) (G:PM) (hw:m.wf) (hm:m.min.size+m.max.size≤900000000000) (hK:RdNP G 6 0 (wa 64 kW)) (hL:L.length≤1000000):Ct Tryz.prog 291 ([(qZ m).val ⟨some ⟨b,0,none⟩,1⟩ ⟨none,0⟩]++[.pointer (some ⟨bl,0,none⟩)]:List Value).toArray G [.blk b (cl m.cells T),.blk bl (cl [v] 341),rS 32 (ba 32) v 34 L] (fun _ μ' u=>∃ v',μ'=[.blk bl (cl [v'] 341),rS 32 (ba 32) v' 34 (L++[tE (qZ m)])]∧u=.tuple #[]):=by
 refine pV fun hle=>?_
 have h1:=aSI hw
 exact aGn (qZ m) ⟨some ⟨b,0,none⟩,1⟩ ⟨none,0⟩ L v bl _ ⟨SlR.one1 (enc:=Meta.cells) (x:=m),SlR.nul,aSJ hw⟩ (by show 1≤_; decide) (by show 0≤_; decide) (by omega) (hK.mono hle) hL
theorem aIe (s:State) (hd:Nat→Sh) (G:PM) (hs:StR G s hd) (hn:StN s) (hl:StL s) (hK:RdNP G 6 0 (wa 64 kW)):Ct Tryz.prog 205 ([s.val hd]:List Value).toArray G [] (fun _ μ' u=>μ'=[]∧u=.agg (ba 32 (aCa s)).toArray):=by
 refine Ct.of Tryz.func205 rfl Tryz.ntmps205 rfl fun w0 hs0=>?_
 have hf:=hl.few
 refine .seq (bB rfl rfl ?_)
 refine bX rfl rfl rfl ?_; intro b1
 refine al rfl jK ?_; intro b2
 refine .nil (.code (.seq (aQ rfl rfl ?_)))
 refine al rfl aX5 ?_; intro b3
 refine .g (mf (vf:=#[]) (vc:=[Value.pointer (some ⟨b3,0,none⟩)].toArray) rfl .no (fun a ha _=>by simp) (fun a ha _=>by simp [(Ev.u (c:=true) rfl:Ev _ true (.tmp 3) _).eval ha rfl]) ?_)
 refine aS rfl rfl (.nc (.seq (rO 32 (ba 32) 34 ?_)))
 refine .g (fZ rfl aC2 rfl (lO rfl aZ rfl bE (by first|exact aV rfl|rfl) ?_))
 refine fZ rfl aA7 rfl (lO rfl aZ rfl bE (by first|exact aV rfl|rfl) ?_)
 refine fZ rfl aC3 rfl (lO rfl aZ rfl bE (by first|exact aV rfl|rfl) ?_)
 refine fZ rfl aC4 rfl (lO rfl aZ rfl bE (by first|exact aV rfl|rfl) ?_)
 refine fZ rfl aA8 rfl (lA rfl .no aA1 (.u rfl) (fun _=>RdN.part (n:=5) (cs':=(List.range 5).map (fun i=>.int .u64 (s.gens i))) bE (rfl)) (fun _=>rfl) (bR ((uQ s).cells ⟨none,0⟩ ⟨none,0⟩) rfl .no aVt (.cons (.u rfl) rfl (.cons (.u rfl) rfl (.cons (.u rfl) rfl (.cons (.u rfl) rfl (.cons (.u rfl) rfl .nil))))) rfl (rfl) (kaf (vs:=[_]) (vc:=[.pointer (some ⟨b3,0,none⟩)]) rfl (.inr rfl) (.u rfl) aMG (aB rfl aF) (dI aC .here) (aGn (uQ s) ⟨none,0⟩ ⟨none,0⟩ [] _ b3 _ ⟨SlR.nul,SlR.nul,aP1 hn⟩ (by show 0≤_; decide) (by show 0≤_; decide) (by have:=aP0 (s:=s); omega) hK (by simp)) ?_)))
 rintro _ G22 μ22 hG22 ⟨v22,rfl,rfl⟩
 have hs:=hs.mono hG22
 have hK:=hK.mono hG22
 refine .g (fZ rfl pZ rfl (lA rfl .no vT (.u rfl) (fun _=>RdN.part (n:=5) (cs':=(List.range 5).map (fun i=>(hd i).val (s.lv i).length)) bE (rfl)) (fun _=>rfl) ?_))
 refine mV rfl rfl (.nc (.block ?_))
 refine aX (α:=Nat×Value) (fun gh=>[(25,true,.int .i64 (gh.1:Int))]) (fun gh=>[.blk b3 (cl [gh.2] 341),rS 32 (ba 32) gh.2 34 (kG s gh.1 0)])
  (fun gh Gl=>(gh.1≤5)) (fun gh=>5-gh.1) (0,v22) [(2,true,_),(3,true,_),(4,true,_),(24,true,_)] [_,_]
  (aM rfl (aA rfl (aA rfl (aA rfl (aA rfl eZ)))))
  (mS .here rfl (mS .here (by rw [aQh]) (mS .here rfl (mS .here rfl mN)))) ?_ ?_
 ·(try dsimp only)<;>(first|omega|rfl|assumption|(simp; done))
 intro gh N0 Gl0 hN0 hGl0 hF0
 obtain ⟨k,v⟩:=gh; dsimp only at hF0 hN0 ⊢
 have hk:=hF0
 have hs:=hs.mono hGl0
 have hK:=hK.mono hGl0
 refine .g (cP rfl rfl rfl rfl (.g (cD rfl (fun c1=>?_) (fun c1=>?_))))
 ·have c1k:=c1
  try simp only [aD,aH,aE] at c1
  refine .skip (.code (.seq (.block (.seq ?_))))
  have hlv:=hs.lv k (by omega)
  have htl:=aUt (s:=s) (k:=k) (by omega)
  have htn:=aFE s k
  refine .g (ix rfl .no rY gS (.u rfl) (.u rfl) (by omega) (by omega) (fun _=>(aQ2 s hd (k:=k) (by omega) (by omega))) ?_)
  refine .g (lE rfl iZ rfl (mV rfl rfl (.nc (.block ?_))))
  refine aX (α:=Nat×Value) (fun gh=>[(30,true,.int .i64 (gh.1:Int))]) (fun gh=>[.blk b3 (cl [gh.2] 341),rS 32 (ba 32) gh.2 34 (kG s k gh.1)])
   (fun gh Gl=>(gh.1≤(s.lv k).length)) (fun gh=>(s.lv k).length-gh.1) (0,v) [(2,true,_),(3,true,_),(4,true,_),(24,true,_),(25,true,_),(28,true,_),(29,true,_)] [_,_]
   (aM rfl (aA rfl (aA rfl (aA rfl (aA rfl (aA rfl (aA rfl (aA rfl eZ))))))))
   (mS .here rfl (mS .here rfl (mS .here rfl (mS .here rfl mN)))) ?_ ?_
  ·(try dsimp only)<;>(first|omega|rfl|assumption|(simp; done))
  intro gh N1 Gl1 hN1 hGl1 hF1
  obtain ⟨j,w⟩:=gh; dsimp only at hF1 hN1 ⊢
  have hj:=hF1
  have hs:=hs.mono hGl1
  have hK:=hK.mono hGl1
  have hlv:=hlv.mono hGl1
  refine .g (cP rfl rfl rfl rfl (.g (cD rfl (fun c2=>?_) (fun c2=>?_))))
  ·have c2k:=c2
   try simp only [aD,aH,aE] at c2
   refine .skip (.code (.seq (.block (.seq (dT rfl rfl (ih rfl .no lQ (.u rfl) (.u rfl) (by omega) (by omega) (fun _=>hlv.nn (k:=j) (by first|omega|(simp only [Bool.and_eq_true,decide_eq_true_eq] at hc; omega)|(simp only [List.length_cons,List.length_nil]; omega))) ?_))))))
   obtain ⟨m,em⟩:=dY (k:=j) (xs:=s.lv k) (by omega)
   refine lA rfl .no pW (.u rfl) (fun _=>(hlv.at (by omega) em).rd) (fun _=>Meta.len _) ?_
   refine al rfl aBX ?_; intro b8
   refine sw rfl (.u rfl) (.u rfl) rfl aBV .here rfl (Meta.one _) ?_
   refine .g (lA rfl .no pW (.u rfl) (fun _=>RdN.own .here) (fun _=>Meta.len _) ?_)
   refine Go.Tan.b1 rfl lQ aDU (.u rfl) rfl rfl (by decide) ?_; intro b36
   refine bR ((qZ m).cells ⟨some ⟨b36,0,none⟩,1⟩ ⟨none,0⟩) rfl .no aVu (.cons (.u rfl) rfl .nil) rfl (rfl) (kaf (vs:=[_]) (vc:=[.pointer (some ⟨b3,0,none⟩)]) rfl (.inr rfl) (.u rfl) aMG (aB rfl aF) (fF .here aC aC) (aNV m b36 _ (kG s k j) _ b3 _ (hs.wf k (by omega) m (List.mem_of_getElem? em)) (hl.short k (by omega) m (List.mem_of_getElem? em)) hK (by have:=aQj s k j; omega)) ?_)
   rintro _ G38 μ38 hG38 ⟨v38,rfl,rfl⟩
   have hK:=hK.mono hG38
   refine .g (aW (((j+1):Nat):Int) rfl rfl rfl rfl ?_)
   refine .g (aU (j+1,v38) ?_ ?_ ?_ ?_ ?_)
   ·exact (aM rfl (aA rfl (aA rfl (aA rfl (aA rfl (aA rfl (aA rfl (aA rfl eZ))))))))
   ·exact (mS .here rfl (mS .here (by rw [aQl em]) (mS aC rfl (mS aC rfl mN))))
   ·first|omega|(dsimp only; omega)
   ·exact (hGl1).trans hG38
   (try dsimp only)<;>(first|omega|rfl|assumption|(simp; done))
  have c2k:=c2
  try simp only [aD,aH,aE] at c2
  refine .g (aW (((k+1):Nat):Int) rfl rfl rfl rfl ?_)
  refine .g (aU (k+1,w) ?_ ?_ ?_ ?_ ?_)
  ·exact (aM rfl (aA rfl (aA rfl (aA rfl (aA rfl eZ)))))
  ·exact (mS .here rfl (mS .here (by rw [aQk (by omega)]) (mS .here rfl (mS .here rfl mN))))
  ·first|omega|(dsimp only; omega)
  ·exact (hGl0).trans hGl1
  (try dsimp only)<;>(first|omega|rfl|assumption|(simp; done))
 have c1k:=c1
 try simp only [aD,aH,aE] at c1
 refine .exit (.xcode (.xlp (.xblk (.code (.seq ?_)))))
 obtain rfl:k=5:=by omega
 rw [aQi]
 have hll:=aQg s
 refine rN aC (fun _ _=>rfl) (by intro b hb; cases hb) ?_; intro GfRL hRL hleRL evRL hsRL; subst evRL
 have hK:=hK.mono hleRL
 refine .g (lO rfl aLN rfl .here (by first|exact aV rfl|rfl) ?_)
 refine kV rfl aWz (aB rfl aF) (aTV (xI s) hRL _ hsRL hK (by omega)) ?_
 refine sW rfl rfl rfl rfl iO aC ?_
 refine .nil (.code (.ret (aK Tryz.results205 (.cell rfl (fun w hw=>bW dJ (RdN.own .here) ((bP _ _)) hw) .nil) ?_)))
 exact ⟨rfl,rfl⟩
end Go.Proofs.YtoifkgkandfeiaaGreatDoor
namespace Go.Proofs.YtoifkgkandfeiaaGreatDoor
open Go.Tan Go.RowKit Go.Maps Go.Sort Go.Shelf
theorem aXh:aL Tryz.prog 378=true:=by kernel_rfl
theorem aXb:aL Tryz.prog 338=true:=by kernel_rfl
theorem wJ:dV Tryz.prog 159=some ((State.zero.cells dE)):=by kernel_rfl
theorem aME:aL Tryz.prog 238=true:=by kernel_rfl
theorem aXH:aL Tryz.prog 283=true:=by kernel_rfl
theorem aVq:cT Tryz.prog 159 [1,2,3,4,5,0]=some ((State.zero.cells dE),[(5,1),(6,1),(7,1),(8,1),(9,5),(0,5)]):=by kernel_rfl
theorem qJ:cE Tryz.prog 159=some 14:=by kernel_rfl
theorem aXI:aL Tryz.prog 284=true:=by kernel_rfl
theorem aXJ:aL Tryz.prog 288=true:=by kernel_rfl
theorem aL7:aL Tryz.prog 204=true:=by kernel_rfl
theorem aL8:aL Tryz.prog 205=true:=by kernel_rfl
theorem aL9:aL Tryz.prog 206=true:=by kernel_rfl
theorem zJ:dV Tryz.prog 231=some ([.slice none 0 0,.pointer none,.int .u64 0]):=by kernel_rfl
theorem zG:aL Tryz.prog 87=true:=by kernel_rfl
theorem aLW:cT Tryz.prog 231 [1]=some ([.slice none 0 0,.pointer none,.int .u64 0],[(1,1)]):=by kernel_rfl
theorem zI:cE Tryz.prog 231=some 3:=by kernel_rfl
theorem aFy:aL Tryz.prog 159=true:=by kernel_rfl
theorem aCw:bT Tryz.prog 231=some (some 3):=by kernel_rfl
theorem aU7 (root:Nat→Y) (h:Hd) (n:BitVec 64) (p:List Y) (v:Value) (G:PM) (hK:RdNP G 6 0 (wa 64 kW)):Ct Tryz.prog 206 ([.agg (ba 32 root).toArray,.agg ([V h.kind,V h.level,uv .u64 h.gen,uv .u64 h.epoch,uv .u64 h.num]:List Value).toArray,uv .u64 n,v]:List Value).toArray G [rB v 5 p] (fun _ μ' u=>∃ ν,μ'=rB v 5 p :: ν∧∃ v' L e,(L,e)=mC root h n p∧ν=[rB v' 5 L]∧u=.tuple #[v',.int .i64 e]) :=
 yJ (fun hp G2 hle hv hs=>by subst hv; exact aKo root h n p hp G2 hs (hK.mono hle))
theorem aQB (f:Value) (G:PM):Ct Tryz.prog 378 ([.slice none 0 0,.int .i64 0,.int .i64 0,f]:List Value).toArray G [] (fun _ μ' u=>μ'=[]∧u=.tuple #[]):=by
 refine Ct.of Tryz.func378 rfl Tryz.ntmps378 rfl fun w0 hs0=>?_
 refine .g (aW (((0+1):Nat):Int) rfl rfl rfl rfl ?_)
 refine aS rfl rfl (.nc (.block ?_))
 refine aX (α:=Nat) (fun k=>[(8,true,.int .i64 ((k:Nat):Int))]) (fun _=>[])
  (fun k Gl=>(k=1)) (fun k=>0) 1 [(0,true,_),(1,true,_),(2,true,_),(3,true,_)] []
  (aM rfl (aA rfl (aA rfl (aA rfl (aA rfl eZ)))))
  mN ?_ ?_
 ·(try dsimp only)<;>(first|omega|rfl|assumption|(simp; done))
 intro k N0 Gl0 hN0 hGl0 hF0
 try dsimp only at hF0 hN0 ⊢
 have hk:=hF0
 refine .g (cP rfl rfl rfl rfl (.g (cD rfl (fun c1=>?_) (fun c1=>?_))))
 ·have c1k:=c1
  subst hk; exact absurd c1 (by decide)
 have c1k:=c1
 try simp only [aD,aE] at c1
 refine .g (aK Tryz.results378 .nil ?_)
 exact ⟨rfl,rfl⟩
theorem aUN (f:Value) (G:PM):Ct Tryz.prog 338 ([.slice none 0 0,.int .i64 0,f]:List Value).toArray G [] (fun _ μ' u=>μ'=[]∧u=.tuple #[]):=by
 refine Ct.of Tryz.func338 rfl Tryz.ntmps338 rfl fun w0 hs0=>?_
 refine .seq (aQ rfl rfl (aS rfl rfl (.nc (.seq (dP rfl rfl (mV rfl rfl (aS rfl rfl (aS rfl rfl (.nc (.seq (.block ?_)))))))))))
 refine aX (α:=Nat) (fun k=>[(7,true,.int .i64 0),(8,true,.int .i64 20)]) (fun _=>[])
  (fun k Gl=>True) (fun k=>0) 0 [(0,true,_),(1,true,_),(2,true,_),(6,true,_)] []
  (aM rfl (aM rfl (aA rfl (aA rfl (aA rfl (aA rfl eZ))))))
  mN ?_ ?_
 ·trivial
 intro k N0 Gl0 hN0 hGl0 hF0
 try dsimp only at hF0 hN0 ⊢
 refine .g (cP rfl rfl rfl rfl (.g (cD rfl (fun c1=>?_) (fun c1=>?_))))
 ·have c1k:=c1
  exact absurd c1 (by decide)
 have c1k:=c1
 try simp only [aD,aE] at c1
 refine .g (kV rfl aXh (aB rfl (aB rfl (aB rfl (aB rfl aF)))) (aQB _ _) ?_)
 refine .nil (.code (.block ?_))
 refine aX (α:=Nat) (fun k=>[(6,true,.int .i64 20)]) (fun _=>[])
  (fun k Gl=>True) (fun k=>0) 0 [(0,true,_),(1,true,_),(2,true,_)] []
  (aM rfl (aA rfl (aA rfl (aA rfl eZ))))
  mN ?_ ?_
 ·trivial
 intro k N1 Gl1 hN1 hGl1 hF1
 try dsimp only at hF1 hN1 ⊢
 refine .g (cP rfl rfl rfl rfl (.g (cD rfl (fun c2=>?_) (fun c2=>?_))))
 ·have c2k:=c2
  exact absurd c2 (by decide)
 have c2k:=c2
 try simp only [aD,aE] at c2
 refine .g (aK Tryz.results338 .nil ?_)
 exact ⟨rfl,rfl⟩
theorem aUH (f:Value) (G:PM):Ct Tryz.prog 288 ([.slice none 0 0,f]:List Value).toArray G [] (fun _ μ' u=>μ'=[]∧u=.tuple #[]):=by
 refine Ct.of Tryz.func288 rfl Tryz.ntmps288 rfl fun w0 hs0=>?_
 refine .g (lE rfl iZ rfl (.p (kV rfl aXb (aB rfl (aB rfl (aB rfl aF))) (aUN _ _) ?_)))
 refine .g (aK Tryz.results288 .nil ?_)
 exact ⟨rfl,rfl⟩
set_option maxHeartbeats 1000000 in
theorem aNn (a b:Int) (ha9 he9:Sh) (G:PM) (ha:u64 a) (hb:u64 b) (hab:a≤b):Ct Tryz.prog 204 ([State.zero.val dE,(cU a b).val ha9 he9]:List Value).toArray G [] (fun _ μ' u=>μ'=[]∧u=.tuple #[(cM a b).val dE,.int .i64 0]):=by
 refine Ct.of Tryz.func204 rfl Tryz.ntmps204 rfl fun w0 hs0=>?_
 refine .seq (dT rfl rfl ?_)
 refine bX rfl rfl rfl ?_; intro b2
 refine bX rfl rfl rfl ?_; intro b3
 refine al rfl wJ ?_; intro b4
 refine .g (lB rfl jV rfl aI ?_)
 refine kV rfl aME (aB rfl aF) (aKi State.zero dE _ aUM) ?_
 refine nt rfl .no (.u rfl) (.g (cD rfl (fun c1=>?_) (fun c1=>?_)))
 ·have c1k:=c1
  rw [aTR] at c1; cases c1
 have c1k:=c1
 try simp only [aD,aH,aE] at c1
 refine .g (fZ rfl jJ rfl (lO rfl gS rfl aC rfl ?_))
 refine lE rfl iZ rfl (cP rfl rfl rfl rfl (.p (fz rfl (.f rfl rfl) qB (.u rfl) (ld rfl (.f rfl rfl) pX (.s rfl) (fun hc=>Rd.own aC rfl) ?_))))
 refine ln rfl (.f rfl rfl) qH (.s rfl) (cp rfl (.f rfl rfl) (.s rfl) (.u rfl) rfl (bZ rfl .no (.u rfl) (.s rfl) (.p (lA rfl (.f rfl rfl) jV (.u rfl) (fun _=>RdN.own aI) (fun _=>(by first|exact qE|exact qL|rfl)) ?_))))
 refine lA rfl (.f rfl rfl) rW (.u rfl) (fun _=>RdN.own aC) (fun _=>(by first|exact qE|exact qL|rfl)) ?_
 refine kv rfl (.f rfl rfl) aXH (Eva.cons (.s rfl) (Eva.cons (.s rfl) aF)) (fun hc=>aN0 State.zero dE _ (cU a b) ha9 he9) ?_
 refine bZ rfl .no (.u rfl) (.s rfl) (.g (cD rfl (fun c2=>?_) (fun c2=>?_)))
 ·have c2k:=c2
  rw [aNy ha.1 hb.1] at c2; cases c2
 have c2k:=c2
 try simp only [aD,aH,aE] at c2
 refine .g (fZ rfl aBA rfl (lO rfl aZ rfl aC (by first|exact aV rfl|rfl) ?_))
 refine fZ rfl vZ rfl (lO rfl aZ rfl aC (by first|exact aV rfl|rfl) ?_)
 refine fZ rfl aBB rfl (lO rfl aZ rfl aC (by first|exact aV rfl|rfl) ?_)
 refine fZ rfl aBC rfl (lO rfl aZ rfl aC (by first|exact aV rfl|rfl) ?_)
 refine fZ rfl aBD rfl (lA rfl .no aA1 (.u rfl) (fun _=>RdN.part (n:=5) (cs':=(List.range 5).map (fun _=>.int .u64 0)) aC (rfl)) (fun _=>rfl) (fZ rfl pZ rfl (lA rfl .no vT (.u rfl) (fun _=>RdN.part (n:=5) (cs':=(List.range 5).map (fun _=>.slice none 0 0)) aI (rfl)) (fun _=>rfl) ?_)))
 refine bR ((cM a b).cells dE) rfl .no aVq (.cons (.u rfl) rfl (.cons (.u rfl) rfl (.cons (.u rfl) rfl (.cons (.u rfl) rfl (.cons (.u rfl) rfl (.cons (.u rfl) rfl .nil)))))) rfl (rfl) ?_
 refine al rfl wJ ?_; intro b6
 refine sw rfl (.u rfl) (.u rfl) rfl qJ .here (by first|exact qE|exact qL|rfl) (oB) ?_
 refine .nil (.code (.seq (.seq (aQ rfl rfl (mV rfl rfl (.nc (.block ?_)))))))
 refine aX (α:=Nat) (fun k=>[(49,true,.int .i64 (k:Int))]) (fun k=>[.blk b6 (cl ((cM a b).cells dE) 159)])
  (fun k Gl=>(k≤5)) (fun k=>5-k) 0 [(3,true,_),(4,true,_),(6,true,_)] [_,_,_]
  (aM rfl (aA rfl (aA rfl (aA rfl eZ))))
  (mS .here rfl (mS .here rfl (mS .here rfl (mS .here rfl mN)))) ?_ ?_
 ·(try dsimp only)<;>(first|omega|rfl|assumption|(simp; done))
 intro k N0 Gl0 hN0 hGl0 hF0
 try dsimp only at hF0 hN0 ⊢
 have hk:=hF0
 refine .g (cP rfl rfl rfl rfl (.g (cD rfl (fun c3=>?_) (fun c3=>?_))))
 ·have c3k:=c3
  try simp only [aD,aH,aE] at c3
  refine .g (fZ rfl pZ rfl (iW rfl rY rfl rfl ?_))
  refine ld (v:=.slice none 0 0) rfl .no gS (.u rfl) (fun _=>Rd.own .here (aUI (by omega))) ?_
  refine kV rfl aXI (aB rfl aF) (aOC _) ?_
  refine fZ rfl pZ rfl (iW rfl rY rfl rfl ?_)
  refine s1 rfl (.u rfl) (.u rfl) rfl aBT .here (by show _<14; omega) (aUJ (by omega)) ?_
  refine .g (aW (((k+1):Nat):Int) rfl rfl rfl rfl ?_)
  refine .g (aU (k+1) ?_ ?_ ?_ ?_ ?_)
  ·exact (aM rfl (aA rfl (aA rfl (aA rfl eZ))))
  ·exact (mS .here rfl (mS .here rfl (mS .here rfl (mS .here rfl mN))))
  ·first|omega|(dsimp only; omega)
  ·exact hGl0
  (try dsimp only)<;>(first|omega|rfl|assumption|(simp; done))
 have c3k:=c3
 try simp only [aD,aH,aE] at c3
 refine .g (fZ rfl qB rfl (lO rfl pX rfl aI (by first|exact aV rfl|rfl) ?_))
 refine lE rfl qH rfl (mV rfl rfl (.nc (.block ?_)))
 refine aX (α:=Nat) (fun j=>[(64,true,.int .i64 (j:Int))]) (fun _=>[])
  (fun j Gl=>(j=0)) (fun j=>0) 0 [(3,true,_),(4,true,_),(6,true,_),(62,true,_),(63,true,_)] [_,_,_,_]
  (aM rfl (aA rfl (aA rfl (aA rfl (aA rfl (aA rfl eZ))))))
  (mS .here rfl (mS .here rfl (mS .here rfl (mS .here rfl mN)))) ?_ ?_
 ·(try dsimp only)<;>(first|omega|rfl|assumption|(simp; done))
 intro j N1 Gl1 hN1 hGl1 hF1
 try dsimp only at hF1 hN1 ⊢
 have hj:=hF1
 refine .g (cP rfl rfl rfl rfl (.g (cD rfl (fun c4=>?_) (fun c4=>?_))))
 ·have c4k:=c4
  subst hj; cases c4
 have c4k:=c4
 try simp only [aD,aH,aE] at c4
 refine .g (fZ rfl jJ rfl (lO rfl gS rfl aI (by first|exact aV rfl|rfl) ?_))
 refine lE rfl iZ rfl (mV rfl rfl (.nc (.block ?_)))
 refine aX (α:=Nat) (fun j=>[(97,true,.int .i64 (j:Int))]) (fun _=>[])
  (fun j Gl=>(j=0)) (fun j=>0) 0 [(4,true,_),(6,true,_),(95,true,_),(96,true,_)] [_,_,_,_]
  (aM rfl (aA rfl (aA rfl (aA rfl (aA rfl eZ)))))
  (mS .here rfl (mS .here rfl (mS .here rfl (mS .here rfl mN)))) ?_ ?_
 ·(try dsimp only)<;>(first|omega|rfl|assumption|(simp; done))
 intro j N2 Gl2 hN2 hGl2 hF2
 try dsimp only at hF2 hN2 ⊢
 have hj:=hF2
 refine .g (cP rfl rfl rfl rfl (.g (cD rfl (fun c5=>?_) (fun c5=>?_))))
 ·have c5k:=c5
  subst hj; cases c5
 have c5k:=c5
 try simp only [aD,aH,aE] at c5
 refine .g (fZ rfl pZ rfl (lA rfl .no vT (.u rfl) (fun _=>RdN.part (n:=5) (cs':=(List.range 5).map (fun _=>.slice none 0 0)) .here (rfl)) (fun _=>rfl) ?_))
 refine mV rfl rfl (.nc (.block ?_))
 refine aX (α:=Nat) (fun k=>[(120,true,.int .i64 (k:Int))]) (fun _=>[])
  (fun k Gl=>(k≤5)) (fun k=>5-k) 0 [(4,true,_),(6,true,_),(119,true,_)] [_,_,_,_]
  (aM rfl (aA rfl (aA rfl (aA rfl eZ))))
  (mS .here rfl (mS .here rfl (mS .here rfl (mS .here rfl mN)))) ?_ ?_
 ·(try dsimp only)<;>(first|omega|rfl|assumption|(simp; done))
 intro k N3 Gl3 hN3 hGl3 hF3
 try dsimp only at hF3 hN3 ⊢
 have hk:=hF3
 refine .g (cP rfl rfl rfl rfl (.g (cD rfl (fun c6=>?_) (fun c6=>?_))))
 ·have c6k:=c6
  try simp only [aD,aH,aE] at c6
  refine .g (ix rfl .no rY gS (.u rfl) (.u rfl) (by omega) (by omega) (fun _=>aCL (by omega)) ?_)
  refine al rfl aMv ?_; intro b14
  refine s1 rfl (.u rfl) (.u rfl) rfl lR .here (by decide) (rfl) ?_
  refine .g (mf (vf:=#[]) (vc:=[Value.pointer (some ⟨b14,0,none⟩)].toArray) rfl .no (fun a ha _=>by simp) (fun a ha _=>by simp [(Ev.u (c:=true) rfl:Ev _ true (.tmp 14) _).eval ha rfl]) ?_)
  refine kV rfl aXJ (aB rfl (aB rfl aF)) (aUH _ _) ?_
  refine .g (aW (((k+1):Nat):Int) rfl rfl rfl rfl ?_)
  refine .g (aU (k+1) ?_ ?_ ?_ ?_ ?_)
  ·exact (aM rfl (aA rfl (aA rfl (aA rfl eZ))))
  ·exact (mS aC rfl (mS aC rfl (mS aC rfl (mS aC rfl mN))))
  ·first|omega|(dsimp only; omega)
  ·exact hGl3
  (try dsimp only)<;>(first|omega|rfl|assumption|(simp; done))
 have c6k:=c6
 try simp only [aD,aH,aE] at c6
 refine .g (lB rfl jV rfl .here ?_)
 refine kV rfl aME (aB rfl aF) (aKi (cM a b) dE _ aCf) ?_
 refine nt rfl .no (.u rfl) (.g (cD rfl (fun c7=>?_) (fun c7=>?_)))
 ·have c7k:=c7
  rw [aTQ ha.1 hab] at c7; cases c7
 have c7k:=c7
 try simp only [aD,aH,aE] at c7
 refine .g (lB rfl jV rfl .here ?_)
 refine sw rfl (.u rfl) (.u rfl) rfl qJ aC (by first|exact qE|exact qL|rfl) (oB) ?_
 refine aS rfl rfl (.nc (.ret (aK Tryz.results204 (.cell rfl (fun w hw=>bW jV (RdN.own .here) ((by first|exact qE|exact qL|rfl)) hw) (.tmp rfl .nil)) ?_)))
 exact ⟨rfl,rfl⟩
theorem aGs (a b:Int) (G:PM) (ha:u64 a) (hb:u64 b) (hab:a≤b):Ct Tryz.prog 204 ([State.zero.val dE,(cU a b).val ⟨none,0⟩ ⟨none,0⟩]:List Value).toArray G [] (fun _ μ' u=>μ'=[]∧u=.tuple #[(cM a b).val dE,.int .i64 0]):=aNn a b ⟨none,0⟩ ⟨none,0⟩ G ha hb hab
set_option maxHeartbeats 2000000 in
theorem aId (root:Nat→Y) (h:Hd) (n mark:BitVec 64) (a b:Int) (G:PM) (ha:u64 a) (hb:u64 b) (hab:a≤b) (hK:RdNP G 6 0 (wa 64 kW)):Ct Tryz.prog 133 ([.agg (ba 32 root).toArray,.agg ([V h.kind,V h.level,uv .u64 h.gen,uv .u64 h.epoch,uv .u64 h.num]:List Value).toArray,uv .u64 n,uv .u64 mark,State.zero.val dE,(cU a b).val ⟨none,0⟩ ⟨none,0⟩]:List Value).toArray G [] (fun _ μ' u=>∃ v L,(L,(0:Int))=mC root h n (gE mark (cM a b) (cU a b))∧L.length≤600∧μ'=[rB v 5 L]∧u=.tuple #[v,(cM a b).val dE,.int .i64 0]):=by
 refine Ct.of Tryz.func133 rfl Tryz.ntmps133 rfl fun w0 hs0=>?_
 have hE:EdR G (cU a b) ⟨none,0⟩ ⟨none,0⟩:=⟨SlR.nul,SlR.nul,aBv ha hb⟩
 have hen:=aD6 (aBv ha hb) (by show 0≤_; decide) (by show 0≤_; decide)
 have he0:(List.flatMap eF (cU a b).add).length=0:=rfl
 have hd0_:(cU a b).drop.length=0:=rfl
 refine .seq (rq7 rfl rfl ?_)
 refine bX rfl rfl rfl ?_; intro b6
 refine bX rfl rfl rfl ?_; intro b7
 refine bX rfl rfl rfl ?_; intro b10
 refine bX rfl rfl rfl ?_; intro b11
 refine aS rfl rfl ?_
 refine al rfl wJ ?_; intro b13
 refine aS rfl rfl (.nc (.seq ?_))
 refine dL dK (by intro b hb; cases hb) ?_; intro Gfb6 hleb6 hbb6
 have hK:=hK.mono hleb6
 refine dL bE (by intro b hb; cases hb) ?_; intro Gfb7 hleb7 hbb7
 have hK:=hK.mono hleb7
 have hbb6:=hbb6.mono hleb7
 refine dL aC (by intro b hb; cases hb) ?_; intro Gfb11 hleb11 hbb11
 have hK:=hK.mono hleb11
 have hbb6:=hbb6.mono hleb11
 have hbb7:=hbb7.mono hleb11
 refine .g (lB rfl jV rfl aC ?_)
 refine lA rfl .no rW (.u rfl) (fun _=>(hbb11.rdn (m:=11) (cs':=(cU a b).cells ⟨none,0⟩ ⟨none,0⟩) (rfl)).rd) (fun _=>(by first|exact qE|exact qL|rfl)) ?_
 refine kV rfl aL7 (aB rfl (aB rfl aF)) (aGs a b _ ha hb hab) ?_
 refine .p (eX rfl rfl rfl (eX rfl rfl rfl ?_))
 refine al rfl wJ ?_; intro b15
 refine sw rfl (.u rfl) (.u rfl) rfl qJ .here (by first|exact qE|exact qL|rfl) (oB) ?_
 refine .g (cP rfl rfl rfl rfl (.g (cD rfl (fun c1=>?_) (fun c1=>?_))))
 ·have c1k:=c1
  exact absurd c1 (by decide)
 have c1k:=c1
 try simp only [aD,aH,aE] at c1
 refine .g (lB rfl jV rfl .here ?_)
 refine kV rfl aL8 (aB rfl aF) (aIe (cM a b) dE _ aCf (aJ9 ha hb) aJ8 hK) ?_
 refine al rfl jK ?_; intro b17
 refine sw rfl (.u rfl) (.u rfl) rfl iO .here rfl (lX _ _) ?_
 refine .nil (.code (.seq (dX ⟨true,false⟩ aY (by kernel_rfl) ?_)))
 refine Wp.one 2 (by kernel_rfl) ?_
 refine mV rfl rfl (.nil (Wp.one 3 (by kernel_rfl) ?_))
 refine mV rfl rfl (.nil (Wp.one 5 (by kernel_rfl) ?_))
 refine pQ rfl .no mR (.u rfl) (.nil (iE 0 (by kernel_rfl) ?_))
 refine lA rfl .no dJ (.u rfl) (fun _=>(hbb6.rdn (m:=32) (cs':=_) (by first|exact qO|exact oE|exact app_r)).rd) (fun _=>(bP _ _)) ?_
 refine .nil ⟨⟨rfl,rfl⟩,?_⟩
 refine iE 1 (by kernel_rfl) ?_
 refine lA rfl .no gT (.u rfl) (fun _=>(hbb7.rdn (m:=5) (cs':=[V h.kind,V h.level,uv .u64 h.gen,uv .u64 h.epoch,uv .u64 h.num]) (rfl)).rd) (fun _=>rfl) ?_
 refine .nil ⟨⟨rfl,rfl⟩,?_⟩
 refine iE 7 (by kernel_rfl) ?_
 refine lA rfl .no rW (.u rfl) (fun _=>(hbb11.rdn (m:=11) (cs':=(cU a b).cells ⟨none,0⟩ ⟨none,0⟩) (rfl)).rd) (fun _=>(by first|exact qE|exact qL|rfl)) ?_
 refine .nil ⟨⟨rfl,rfl⟩,?_⟩
 refine Wp.b1 4 (by kernel_rfl) ?_
 refine kc rfl yZ (aB rfl (aB rfl (aB rfl aF))) (iM (vR [] ⟨none,0⟩ mark 8 _ SlR.nul (by simp) (by decide))) ?_
 rintro v36 G36 μ36 hG36 ⟨L36,ov36,eL36,rfl⟩
 have hK:=hK.mono hG36
 refine .nil (Wp.b1 6 (by kernel_rfl) ?_)
 have lL36:L36.length=8:=by rw [eL36,List.nil_append,fP]
 refine eN rfl aP bY (.u rfl) (.u rfl) .here (Sc.arr aC) (by (try simp only [cI,cR]); omega) ?_
 intro v38 L38 ov38 eL38
 have lL38:L38.length=L36.length+32:=by rw [eL38,List.length_append]; first|rfl | simp [cR]
 refine .nil (Wp.b1 8 (by kernel_rfl) ?_)
 refine kc rfl aMA (aB rfl aF) (aPO (cU a b) ⟨none,0⟩ ⟨none,0⟩ _ ⟨SlR.nul,SlR.nul,aBv ha hb⟩ (by show 0≤_; decide) (by show 0≤_; decide) (by omega) rfl rfl) ?_
 rintro _ G40 μ40 hG40 ⟨h40,L40,eL40,rfl,rfl,hs40⟩
 have hK:=hK.mono hG40
 refine .nil (Wp.b1 9 (by kernel_rfl) ?_)
 have lL40:L40.length=(kC (cU a b)).length:=by rw [eL40]
 refine eN rfl aP bY (.u rfl) (.u rfl) .here hs40.sc (by (try simp only [cI,cR]); omega) ?_
 intro v41 L41 ov41 eL41
 have lL41:L41.length=L38.length+L40.length:=by rw [eL41,List.length_append]
 refine .nil (Wp.b1 10 (by kernel_rfl) ?_)
 refine ka rfl (.inl rfl) aL9 (aB rfl (aB rfl (aB rfl (aB rfl aF)))) (cO .here) (aU7 root h n L41 _ _ hK) ?_
 rintro _ G42 μ42 hG42 ⟨_,rfl,v42,L42,e42,hL42,rfl,rfl⟩
 obtain ⟨rfl,hL9⟩:=aIS (by omega) hL42
 refine .nil (Wp.one 11 (by kernel_rfl) ?_)
 refine mV rfl rfl (.nil (Wp.one 12 (by kernel_rfl) ?_))
 refine eX rfl rfl rfl (.nil (Wp.one 13 (by kernel_rfl) ?_))
 refine eX rfl rfl rfl (.nil (Wp.one 14 (by kernel_rfl) ?_))
 refine aS rfl rfl (.nil (Wp.one 15 (by kernel_rfl) ?_))
 refine aS rfl rfl (.nil (Wp.last (by kernel_rfl) ?_))
 refine .g (cP rfl rfl rfl rfl (.g (cD rfl (fun c2=>?_) (fun c2=>?_))))
 ·have c2k:=c2
  exact absurd c2 (by decide)
 have c2k:=c2
 try simp only [aD,aH,aE] at c2
 refine .g (bO (mc:=⟨false,false⟩) [0,1,2,3,4] aY (by kernel_rfl) ?_)
 refine .p (lB rfl jV rfl bE ?_)
 refine .p (sw rfl (.u rfl) (.u rfl) rfl qJ dK (by first|exact qE|exact qL|rfl) (oB) ?_)
 refine aS rfl rfl (.nc (.ret (bD Tryz.results133 (.tmp rfl (.cell rfl (fun w hw=>bW jV (RdN.own .here) ((by first|exact qE|exact qL|rfl)) hw) (.tmp rfl .nil))) (mS aI rfl mN) ?_)))
 rw [eL41,eL38,eL36,eL40] at hL42
 exact ⟨v42,L42,hL42,hL9,rfl,rfl⟩
theorem aQ4 (root:Nat→Y) (h:Hd) (n mark:BitVec 64) (a b:Int) (G:PM) (ha:u64 a) (hb:u64 b) (hab:a≤b) (hK:RdNP G 6 0 (wa 64 kW)):Ct Tryz.prog 133 ([.agg (ba 32 root).toArray,.agg ([V h.kind,V h.level,uv .u64 h.gen,uv .u64 h.epoch,uv .u64 h.num]:List Value).toArray,uv .u64 n,uv .u64 mark,State.zero.val dE,(cU a b).val ⟨none,0⟩ ⟨none,0⟩]:List Value).toArray G [] (fun _ μ' u=>∃ v L,L.length≤600∧μ'=[rB v 5 L]∧u=.tuple #[v,(cM a b).val dE,.int .i64 0]) :=
 (aId root h n mark a b G ha hb hab hK).mono fun _ _ _ ⟨v,L,_,a1⟩=>⟨v,L,a1⟩
theorem aJ1 (bx:Nat) (d:Db) (bm room done clk:Nat) (F:List Fi) (G:PM) (hbx:PB G bx (cl d.cells 165)) (hbd:PB G d.dk (cl (bH bm room done) 118)) (hbm:PB G bm (mO (F.map Fi.fe) clk)) (hD:DkR F clk) (o:BitVec 64) (hbt:PB G d.tr (cl [uv .u64 0#64,uv .u64 o] 87)) (hab:bK (aO 4 0) F=none):Ct Tryz.prog 127 ([pt bx]:List Value).toArray G [] (fun _ μ' u=>∃ bl v,v.oneCell'=true∧μ'=[.blk bl (cl [v,.int .i64 ((0:Nat):Int)] 225),rS 16 Nd.cells v 249 [Nd.z]]∧u=.agg #[.slice none 0 0,.pointer (some ⟨bl,0,none⟩),.int .u64 0]):=by
 refine Ct.of Tryz.func127 rfl Tryz.ntmps127 rfl fun w0 hs0=>?_
 refine .seq (aQ rfl rfl ?_)
 refine al rfl zJ ?_; intro b2
 refine .g (kc rfl zG aF (xH _) ?_)
 rintro _ G20 μ20 hG20 ⟨bl,vl,ol,rfl,rfl⟩
 have hbx:=hbx.mono hG20
 have hbd:=hbd.mono hG20
 have hbm:=hbm.mono hG20
 have hbt:=hbt.mono hG20
 refine bR ([.slice none 0 0,.pointer (some ⟨bl,0,none⟩),.int .u64 0]) rfl .no aLW (.cons (.u rfl) rfl .nil) rfl (rfl) ?_
 refine al rfl zJ ?_; intro b3
 refine sw rfl (.u rfl) (.u rfl) rfl zI .here rfl (by simp [Value.oneCell']) ?_
 refine .g (kV rfl aBI (aB rfl (aB rfl aF)) (aAZ 4#8 0#64 _ (by decide)) ?_)
 refine .g (nC rfl rfl (fA rfl nX rfl (lN rfl gU rfl ((hbx.rd (rfl)).rd) ?_)))
 refine .p (kV rfl aFy (aB rfl (aB rfl aF)) (aOp d.dk bm room done clk F _ hbd hbm (aO 4 0) aEe hab) ?_)
 refine .p (eX rfl rfl rfl (eX rfl rfl rfl (.g (cP rfl rfl rfl rfl (.g (cD rfl (fun c1=>?_) (fun c1=>?_)))))))
 ·have c1k:=c1
  try simp only [aD,aE] at c1
  refine .g (nC rfl rfl (fA rfl yT rfl (lN rfl pY rfl ((hbx.rd (rfl)).rd) ?_)))
  refine kV rfl aBJ (aB rfl aF) (aAS d.tr 0#64 o _ hbt) ?_
  refine cP rfl rfl rfl rfl (.g (cD rfl (fun c2=>?_) (fun c2=>?_)))
  ·have c2k:=c2
   cases c2
  have c2k:=c2
  try simp only [aD,aE] at c2
  refine .g (lB rfl aCw rfl .here ?_)
  refine sw rfl (.u rfl) (.u rfl) rfl zI bE rfl (by simp [Value.oneCell']) ?_
  refine .nil (.code (.ret (bD Tryz.results127 (.cell rfl (fun w hw=>bW aCw (RdN.own .here) ((by first|exact qE|exact qL|rfl)) hw) .nil) (mS aI rfl (mS aI rfl mN)) ?_)))
  exact ⟨bl,vl,ol,rfl,rfl⟩
 have c1k:=c1
 cases c1
theorem gW:aT Tryz.prog 438 3=some 73:=by kernel_rfl
theorem aLq:aT Tryz.prog 438 0=some 0:=by kernel_rfl
theorem mU:aT Tryz.prog 438 2=some 65:=by kernel_rfl
theorem wC:aT Tryz.prog 370 1=some 5:=by kernel_rfl
theorem aA4:bT Tryz.prog 351=some none:=by kernel_rfl
theorem aLr:aT Tryz.prog 438 1=some 64:=by kernel_rfl
theorem aMH:aL Tryz.prog 308=true:=by kernel_rfl
theorem aMl:cE Tryz.prog 351=some 1:=by kernel_rfl
theorem aUe {A B:List Y} {k:Nat} (he:A.take k=B.take k) (h1:k<A.length) (h2:k<B.length) (h:A.getD k 0=B.getD k 0):A.take (k+1)=B.take (k+1):=by
 rw [List.take_succ_eq_append_getElem h1,List.take_succ_eq_append_getElem h2,he]
 have e1:A.getD k 0=A[k]:=by simp [h1]
 have e2:B.getD k 0=B[k]:=by simp [h2]
 rw [← e1,←e2,h]
theorem aN8 {a b:Y} {A B:List Y} {k:Nat} (ha:A.getD k 0=a) (hb:B.getD k 0=b) (h:¬ (a.toNat:Int)=b.toNat):¬ A=B:=fun e=>h (by rw [← ha,←hb,e])
theorem aN9 {a b:Y} (h:(a.toNat:Int)=b.toNat):a=b:=BitVec.eq_of_toNat_eq (by omega)
theorem aE1 (A B:List Y) (ha hb:Sh) (G:PM) (hsa:SlR G 1 aN ha A) (hsb:SlR G 1 aN hb B) (hl:A.length≤100000000000000):Ct Tryz.prog 315 ([ha.val A.length,hb.val B.length]:List Value).toArray G [] (fun _ μ' u=>μ'=[]∧u=.bool (decide (A=B))):=by
 refine Ct.of Tryz.func315 rfl Tryz.ntmps315 rfl fun w0 hs0=>?_
 refine .g (lE rfl bV rfl (.p (lE rfl bV rfl (cP rfl rfl rfl rfl (.g (cD rfl (fun c1=>?_) (fun c1=>?_)))))))
 ·have c1k:=c1
  try simp only [aD,aE] at c1
  refine .seq (aQ rfl rfl (aS rfl rfl (.nc (.ret (aK Tryz.results315 (.tmp rfl .nil) ?_)))))
  exact ⟨rfl,congrArg Value.bool (decide_eq_false (fun e=>c1 (by rw [e]))).symm⟩
 have c1k:=c1
 try simp only [aD,aE] at c1
 refine .g (lE rfl bV rfl (mV rfl rfl (.nc (.block ?_))))
 refine aX (α:=Nat) (fun k=>[(13,true,.int .i64 (k:Int))]) (fun _=>[])
  (fun k Gl=>(k≤A.length)∧(A.take k=B.take k)) (fun k=>A.length-k) 0 [(0,true,_),(1,true,_),(12,true,_)] []
  (aM rfl (aA rfl (aA rfl (aA rfl eZ))))
  mN ?_ ?_
 ·refine ⟨?_,?_⟩
  ·(try dsimp only)<;>(first|omega|rfl|assumption|(simp; done))
  (try dsimp only)<;>(rfl)
 intro k N0 Gl0 hN0 hGl0 hF0
 try dsimp only at hF0 hN0 ⊢
 obtain ⟨hk,he⟩:=hF0
 have hsa:=hsa.mono hGl0
 have hsb:=hsb.mono hGl0
 refine .g (cP rfl rfl rfl rfl (.g (cD rfl (fun c2=>?_) (fun c2=>?_))))
 ·have c2k:=c2
  try simp only [aD,aE] at c2
  refine .g (bO (mc:=⟨false,false⟩) [0,1,2,3,4,5,6,7,8] aY (by kernel_rfl) ?_)
  refine mV rfl rfl (mV rfl rfl (ih rfl .no aP (.u rfl) (.u rfl) (by omega) (by omega) (fun _=>hsa.nn (k:=k) (by omega)) ?_))
  refine lN rfl bM rfl ((hsa.yat (k) (by omega) (by omega)).rd) ?_
  refine mV rfl rfl (mV rfl rfl (ih rfl .no aP (.u rfl) (.u rfl) (by omega) (by omega) (fun _=>hsb.nn (k:=k) (by omega)) ?_))
  refine lN rfl bM rfl ((hsb.yat (k) (by omega) (by omega)).rd) ?_
  refine cP rfl rfl rfl rfl (.g (cD rfl (fun c3=>?_) (fun c3=>?_)))
  ·have c3k:=c3
   try simp only [aD,aE] at c3
   refine .seq (aQ rfl rfl (aS rfl rfl (.nc (.ret (aK Tryz.results315 (.tmp rfl .nil) ?_)))))
   exact ⟨rfl,congrArg Value.bool (decide_eq_false (aN8 rfl rfl c3)).symm⟩
  have c3k:=c3
  try simp only [aD,aE] at c3
  refine .g (aW (((k+1):Nat):Int) rfl rfl rfl rfl ?_)
  refine .g (aU (k+1) ?_ ?_ ?_ ?_ ?_)
  ·exact (aM rfl (aA rfl (aA rfl (aA rfl eZ))))
  ·exact mN
  ·first|omega|(dsimp only; omega)
  ·exact hGl0
  refine ⟨?_,?_⟩
  ·(try dsimp only)<;>(first|omega|rfl|assumption|(simp; done))
  (try dsimp only)<;>(exact aUe he (by omega) (by omega) (aN9 c3))
 have c2k:=c2
 try simp only [aD,aE] at c2
 refine .exit (.xcode (.xlp (.xblk (.code (.seq (aQ rfl rfl (aS rfl rfl (.nc (.ret (aK Tryz.results315 (.tmp rfl .nil) ?_))))))))))
 exact ⟨rfl,congrArg Value.bool (decide_eq_true (by have h1:=he; rw [show k=A.length by omega,List.take_length,List.take_of_length_le (by omega)] at h1; exact h1)).symm⟩
theorem aBq {X A B L M:List Y} (h1:L=X.take 0++A++X.drop (0+A.length)) (h2:M=L.take (A.length*1)++B++L.drop (A.length*1+B.length)) (hX:X.length=A.length+B.length):M=A++B:=by
 rw [List.take_zero,List.nil_append,Nat.zero_add] at h1
 subst h1
 rw [h2,Nat.mul_one,List.take_left,List.drop_of_length_le (by rw [List.length_append,List.length_drop]; omega),List.append_nil]
theorem aIw {A B:List Y} (h:0<B.length) {P:Prop}:A++B=[]→P:=fun e=>by have:=congrArg List.length e; rw [List.length_append,List.length_nil] at this; omega
theorem aKT (root:Nat→Y) (h:Hd) (kind:Y) (p:List Y) (hp:Sh) (parts:List Y) (sp:Sh) (ps:List (Sh×List Y)) (vr:Value) (ha:Sh) (b:Nat) (used:Int) (G:PM) (hs:SlR G 1 aN hp p) (hsq:SlR G 1 aN sp parts) (h0:parts=[]→sp=⟨none,0⟩) (hA:AllS G ps) (hsa:SlR G 1 aN ha (bA h)) (hK:RdNP G 6 0 (wa 64 kW)) (hp0:0<p.length) (hl:parts.length+p.length≤10000000000000) (hn:ps.length≤100000000):Ct Tryz.prog 329 ([.pointer (some ⟨b,0,none⟩),V kind,hp.val p.length]:List Value).toArray G [.blk b (cl (dS (fT root (bA h)) (fU root (bA h)) (ha.val (bA h).length) h vr used false (sp.val parts.length)) 438),rS 1 pE vr 25 ps] (fun G' μ' u=>(gI (mF root h) parts (ps.map (·.2)) kind p=none∧u=.bool false∧μ'=[])∨∃ Q ps' sQ vr',gI (mF root h) parts (ps.map (·.2)) kind p=some (Q,ps'.map (·.2))∧u=.bool true∧μ'=[.blk b (cl (dS (fT root (bA h)) (fU root (bA h)) (ha.val (bA h).length) h vr' used false (sQ.val Q.length)) 438),rS 1 pE vr' 25 ps']∧SlR G' 1 aN sQ Q∧(Q=[]→sQ=⟨none,0⟩)∧AllS G' ps'∧ps'.length≤ps.length+1∧Q.length≤parts.length+p.length):=by
 refine Ct.of Tryz.func329 rfl Tryz.ntmps329 rfl fun w0 hs0=>?_
 have eo:=aHY hsq h0
 have lh:=fE h
 refine .g (cP rfl rfl rfl rfl (.g (cD rfl (fun c1=>?_) (fun c1=>?_))))
 ·have c1k:=c1
  try simp only [aD,aH,aE] at c1
  refine .g (nC rfl rfl (fZ rfl gW rfl (lN rfl dB rfl (Rd.own .here kP) ?_)))
  refine sn1 rfl .no bV (.u rfl) (.u rfl) ?_
  refine .g (cD rfl (fun c2=>?_) (fun c2=>?_))
  ·have c2k:=c2
   try simp only [aD,aH,aE] at c2
   refine .seq (aQ rfl rfl (aS rfl rfl (.nc (.ret (aK Tryz.results329 (.tmp rfl .nil) ?_)))))
   exact .inl ⟨aUf ((jM (n:=1) (by decide)).1 c1) (eo.symm.trans c2),rfl,rfl⟩
  have c2k:=c2
  try simp only [aD,aH,aE] at c2
  refine .g (nt rfl .no (.u rfl) (mV rfl rfl (mv rfl (.t rfl rfl) (.u rfl) (ln rfl (.t rfl rfl) bV (.s rfl) (cp rfl (.t rfl rfl) (.s rfl) (.u rfl) rfl (bL rfl .no (.u rfl) (.s rfl) (.g (dM rfl rfl ?_))))))))
  refine .g (nC rfl rfl (fZ rfl gW rfl (lN rfl dB rfl (Rd.own .here kP) ?_)))
  refine lE rfl bV rfl (.p (lE rfl bV rfl (aW (((parts.length+p.length):Nat):Int) rfl rfl rfl rfl ?_)))
  refine xO ((parts.length+p.length)) ((parts.length+p.length)) rfl aP bY (.u rfl) (.u rfl) (by first|rfl|omega) (by first|rfl|omega) (by omega) (by omega) ?_; intro b45
  have lR45:(List.replicate ((parts.length+p.length)) (0#8:Y)).length=(parts.length+p.length):=List.length_replicate
  refine .g (nC rfl rfl (fZ rfl gW rfl (lN rfl dB rfl (Rd.own aC kP) ?_)))
  refine sO rfl aP (.u rfl) (.u rfl) .here hsq.sc (by omega) (by omega) ?_; intro L52 eL52 lL52
  refine slr (parts.length) rfl aP (.u rfl) (.u rfl) (by omega) (by omega) (by omega) (by omega) ?_
  refine mV rfl rfl ?_
  refine sO rfl aP (.u rfl) (.u rfl) .here hs.sc (by omega) (by omega) ?_; intro L55 eL55 lL55
  refine .nil ?_
  have eL55':L55=parts++p:=aBq eL52 eL55 (by omega)
  refine .code (.seq ?_)
  refine kR .here (bF .here rfl (bF .here rfl (eT))) ?_; intro GfR45 hR45 hleR45 evR45 hsR45; try rw [ evR45]
  have hs:=hs.mono hleR45
  have hsq:=hsq.mono hleR45
  have hA:=hA.mono hleR45
  have hsa:=hsa.mono hleR45
  have hK:=hK.mono hleR45
  refine .g (nC rfl rfl (fZ rfl gW rfl (s1 rfl (.u rfl) (.u rfl) rfl kU .here (by (try rw [mG]); decide) (xS) ?_)))
  refine .g (nt rfl .no (.u rfl) (.g (dM rfl rfl ?_)))
  refine .g (bO (mc:=⟨false,false⟩) [0,1,2,3,4,5,6,7,8,9,10,12,13,14,15,16,17,18,19,11,20,21,22,23,24,25] aY (by kernel_rfl) ?_)
  refine .p (nC rfl rfl (fZ rfl aLq rfl (lA rfl .no yN (.u rfl) (fun _=>RdN.part (n:=64) (cs':=ba 32 (fT root (bA h))++ba 32 (fU root (bA h))) .here (aJW)) (fun _=>(by first|exact qE|exact qL|rfl)) ?_)))
  refine .p (nC rfl rfl (fZ rfl mU rfl (fA rfl wC rfl (lN rfl aA4 rfl (Rd.own .here aCV) ?_))))
  refine lr rfl .no uC (.u rfl) aC ?_
  refine ci rfl .no rfl gV (.u rfl) ?_
  refine .p (nC rfl rfl (fZ rfl aLr rfl (lN rfl dB rfl (Rd.own .here aJV) ?_)))
  refine .p (nC rfl rfl (fZ rfl gW rfl (lN rfl dB rfl (Rd.own .here kP) ?_)))
  refine kV rfl aF4 (aB rfl aF) (aDg _ _) ?_
  refine kc rfl aMH (aB rfl (aB rfl (aB rfl (aB rfl aF)))) (aGb (fT root (bA h)) (fU root (bA h)) _ (bA h) ha L55 hR45 _ hsa hsR45 hK (by omega) (by omega)) ?_
  rintro _ G83 μ83 hG83 ⟨v83,L83,e83,hO83,rfl,rfl⟩
  have hs:=hs.mono hG83
  have hsq:=hsq.mono hG83
  have hA:=hA.mono hG83
  have hsa:=hsa.mono hG83
  have hK:=hK.mono hG83
  have hsR45:=hsR45.mono hG83
  refine .p (eX rfl rfl rfl (eX rfl rfl rfl (aS rfl rfl (aS rfl rfl (.nc (.seq ?_))))))
  refine kR .here (bF .here rfl (bF .here rfl (eT))) ?_; intro GfR83 hR83 hleR83 evR83 hsR83; subst evR83
  have hs:=hs.mono hleR83
  have hsq:=hsq.mono hleR83
  have hA:=hA.mono hleR83
  have hsa:=hsa.mono hleR83
  have hK:=hK.mono hleR83
  have hsR45:=hsR45.mono hleR83
  refine .g (nC rfl rfl (fZ rfl gW rfl (s1 rfl (.u rfl) (.u rfl) rfl kU .here (by (try rw [mG]); decide) (xS) ?_)))
  refine .g (nC rfl rfl (fZ rfl mU rfl (fA rfl wC rfl (lN rfl aA4 rfl (Rd.own .here aCV) ?_))))
  refine mV rfl rfl ?_
  refine Go.Tan.b1 rfl iN lT (.u rfl) rfl rfl (by decide) ?_; intro b96
  refine oC (xs:=ps) ((hR83,L83)) rfl iN lT rfl (.u rfl) (.u rfl) aI .here (rfl) (one1 rfl) (by omega) (by unfold maxLen; omega) ?_; intro v97 ov97
  refine nC rfl rfl (fZ rfl mU rfl (fA rfl wC rfl (oP rfl (.u rfl) (.u rfl) .here aMl aI (by (try rw [mG]); decide) (aJZ) ?_)))
  refine .g (cP rfl rfl rfl rfl (aS rfl rfl (.nc (.ret ?_))))
  rcases hO83 with ⟨ho,rfl⟩ | ⟨ho,rfl,rfl⟩
  ·refine bD Tryz.results329 (.tmp rfl .nil) (mS .here rfl (mS .here rfl mN)) ?_
   refine .inr ⟨[],ps++[(hR83,L83)],⟨none,0⟩,v97,?_,rfl,rfl,SlR.nul,fun _=>rfl,aFO hA hsR83,by simp,by simp⟩
   rw [eL55'] at ho
   have ho':mF root h (ps.map (·.2)).length (parts++p)=some L83:=by rw [List.length_map]; exact ho
   rw [aCh (.inl ⟨(jM (n:=1) (by decide)).1 c1,eo.symm.trans c2⟩),ho',List.map_append]; rfl
  refine aK Tryz.results329 (.tmp rfl .nil) ?_
  refine .inl ⟨?_,rfl,rfl⟩
  rw [eL55'] at ho
  have ho':mF root h (ps.map (·.2)).length (parts++p)=none:=by rw [List.length_map]; exact ho
  rw [aCh (.inl ⟨(jM (n:=1) (by decide)).1 c1,eo.symm.trans c2⟩),ho']; rfl
 have c1k:=c1
 try simp only [aD,aH,aE] at c1
 refine .g (cP rfl rfl rfl rfl (.g (cD rfl (fun c3=>?_) (fun c3=>?_))))
 ·have c3k:=c3
  try simp only [aD,aH,aE] at c3
  refine .g (nC rfl rfl (fZ rfl gW rfl (lN rfl dB rfl (Rd.own .here kP) ?_)))
  refine sn1 rfl .no bV (.u rfl) (.u rfl) ?_
  refine .g (cD rfl (fun c4=>?_) (fun c4=>?_))
  ·have c4k:=c4
   try simp only [aD,aH,aE] at c4
   refine .seq (aQ rfl rfl (aS rfl rfl (.nc (.ret (aK Tryz.results329 (.tmp rfl .nil) ?_)))))
   exact .inl ⟨aKQ ((jM (n:=2) (by decide)).1 c3) (.inl (eo.symm.trans c4)),rfl,rfl⟩
  have c4k:=c4
  try simp only [aD,aH,aE] at c4
  refine .g (nt rfl .no (.u rfl) (mV rfl rfl (mv rfl (.t rfl rfl) (.u rfl) (ln rfl (.t rfl rfl) bV (.s rfl) (cp rfl (.t rfl rfl) (.s rfl) (.u rfl) rfl (bL rfl .no (.u rfl) (.s rfl) (.g (cD rfl (fun c5=>?_) (fun c5=>?_)))))))))
  ·have c5k:=c5
   try simp only [aD,aH,aE] at c5
   refine .seq (aQ rfl rfl (aS rfl rfl (.nc (.ret (aK Tryz.results329 (.tmp rfl .nil) ?_)))))
   exact .inl ⟨aKQ ((jM (n:=2) (by decide)).1 c3) (.inr (by omega)),rfl,rfl⟩
  have c5k:=c5
  try simp only [aD,aH,aE] at c5
  refine .g (nC rfl rfl (fZ rfl gW rfl (lN rfl dB rfl (Rd.own .here kP) ?_)))
  refine lE rfl bV rfl (.p (lE rfl bV rfl (aW (((parts.length+p.length):Nat):Int) rfl rfl rfl rfl ?_)))
  refine xO ((parts.length+p.length)) ((parts.length+p.length)) rfl aP bY (.u rfl) (.u rfl) (by first|rfl|omega) (by first|rfl|omega) (by omega) (by omega) ?_; intro b45
  have lR45:(List.replicate ((parts.length+p.length)) (0#8:Y)).length=(parts.length+p.length):=List.length_replicate
  refine .g (nC rfl rfl (fZ rfl gW rfl (lN rfl dB rfl (Rd.own aC kP) ?_)))
  refine sO rfl aP (.u rfl) (.u rfl) .here hsq.sc (by omega) (by omega) ?_; intro L52 eL52 lL52
  refine slr (parts.length) rfl aP (.u rfl) (.u rfl) (by omega) (by omega) (by omega) (by omega) ?_
  refine mV rfl rfl ?_
  refine sO rfl aP (.u rfl) (.u rfl) .here hs.sc (by omega) (by omega) ?_; intro L55 eL55 lL55
  refine .nil ?_
  have eL55':L55=parts++p:=aBq eL52 eL55 (by omega)
  refine .code (.seq ?_)
  refine kR .here (bF .here rfl (bF .here rfl (eT))) ?_; intro GfR45 hR45 hleR45 evR45 hsR45; try rw [ evR45]
  have hs:=hs.mono hleR45
  have hsq:=hsq.mono hleR45
  have hA:=hA.mono hleR45
  have hsa:=hsa.mono hleR45
  have hK:=hK.mono hleR45
  refine .g (nC rfl rfl (fZ rfl gW rfl (s1 rfl (.u rfl) (.u rfl) rfl kU .here (by (try rw [mG]); decide) (xS) ?_)))
  refine .g (nt rfl .no (.u rfl) (.g (gK rfl rfl ?_)))
  refine .seq (aQ rfl rfl (aS rfl rfl (.nc (.ret (bD Tryz.results329 (.tmp rfl .nil) (mS .here rfl (mS .here rfl mN)) ?_)))))
  have q5:¬ ((p.length:Int)<128):=by simpa using c5k
  exact .inr ⟨L55,ps,hR45,vr,by rw [aKR (.inl ⟨(jM (n:=2) (by decide)).1 c3,eo.symm.trans c4⟩) (by omega),eL55'],rfl,rfl,hsR45,fun e=>aIw hp0 (eL55'.symm.trans e),hA,by omega,by omega⟩
 have c3k:=c3
 try simp only [aD,aH,aE] at c3
 refine .g (cP rfl rfl rfl rfl (.g (cD rfl (fun c6=>?_) (fun c6=>?_))))
 ·have c6k:=c6
  try simp only [aD,aH,aE] at c6
  refine .g (nC rfl rfl (fZ rfl gW rfl (lN rfl dB rfl (Rd.own .here kP) ?_)))
  refine rI rfl .no bV (.u rfl) (.u rfl) ?_
  refine .g (cD rfl (fun c7=>?_) (fun c7=>?_))
  ·have c7k:=c7
   try simp only [aD,aH,aE] at c7
   refine .seq (aQ rfl rfl (aS rfl rfl (.nc (.ret (aK Tryz.results329 (.tmp rfl .nil) ?_)))))
   exact .inl ⟨aVW ((jM (n:=4) (by decide)).1 c6) (eo.symm.trans c7),rfl,rfl⟩
  have c7k:=c7
  try simp only [aD,aH,aE] at c7
  refine .g (nt rfl .no (.u rfl) (mV rfl rfl (mv rfl (.t rfl rfl) (.u rfl) (ln rfl (.t rfl rfl) bV (.s rfl) (cp rfl (.t rfl rfl) (.s rfl) (.u rfl) rfl (bL rfl .no (.u rfl) (.s rfl) (.g (dM rfl rfl ?_))))))))
  refine .g (nC rfl rfl (fZ rfl gW rfl (lN rfl dB rfl (Rd.own .here kP) ?_)))
  refine lE rfl bV rfl (.p (lE rfl bV rfl (aW (((parts.length+p.length):Nat):Int) rfl rfl rfl rfl ?_)))
  refine xO ((parts.length+p.length)) ((parts.length+p.length)) rfl aP bY (.u rfl) (.u rfl) (by first|rfl|omega) (by first|rfl|omega) (by omega) (by omega) ?_; intro b45
  have lR45:(List.replicate ((parts.length+p.length)) (0#8:Y)).length=(parts.length+p.length):=List.length_replicate
  refine .g (nC rfl rfl (fZ rfl gW rfl (lN rfl dB rfl (Rd.own aC kP) ?_)))
  refine sO rfl aP (.u rfl) (.u rfl) .here hsq.sc (by omega) (by omega) ?_; intro L52 eL52 lL52
  refine slr (parts.length) rfl aP (.u rfl) (.u rfl) (by omega) (by omega) (by omega) (by omega) ?_
  refine mV rfl rfl ?_
  refine sO rfl aP (.u rfl) (.u rfl) .here hs.sc (by omega) (by omega) ?_; intro L55 eL55 lL55
  refine .nil ?_
  have eL55':L55=parts++p:=aBq eL52 eL55 (by omega)
  refine .code (.seq ?_)
  refine kR .here (bF .here rfl (bF .here rfl (eT))) ?_; intro GfR45 hR45 hleR45 evR45 hsR45; try rw [ evR45]
  have hs:=hs.mono hleR45
  have hsq:=hsq.mono hleR45
  have hA:=hA.mono hleR45
  have hsa:=hsa.mono hleR45
  have hK:=hK.mono hleR45
  refine .g (nC rfl rfl (fZ rfl gW rfl (s1 rfl (.u rfl) (.u rfl) rfl kU .here (by (try rw [mG]); decide) (xS) ?_)))
  refine .g (nt rfl .no (.u rfl) (.g (dM rfl rfl ?_)))
  refine .g (bO (mc:=⟨false,false⟩) [0,1,2,3,4,5,6,7,8,9,10,12,13,14,15,16,17,18,19,11,20,21,22,23,24,25] aY (by kernel_rfl) ?_)
  refine .p (nC rfl rfl (fZ rfl aLq rfl (lA rfl .no yN (.u rfl) (fun _=>RdN.part (n:=64) (cs':=ba 32 (fT root (bA h))++ba 32 (fU root (bA h))) .here (aJW)) (fun _=>(by first|exact qE|exact qL|rfl)) ?_)))
  refine .p (nC rfl rfl (fZ rfl mU rfl (fA rfl wC rfl (lN rfl aA4 rfl (Rd.own .here aCV) ?_))))
  refine lr rfl .no uC (.u rfl) aC ?_
  refine ci rfl .no rfl gV (.u rfl) ?_
  refine .p (nC rfl rfl (fZ rfl aLr rfl (lN rfl dB rfl (Rd.own .here aJV) ?_)))
  refine .p (nC rfl rfl (fZ rfl gW rfl (lN rfl dB rfl (Rd.own .here kP) ?_)))
  refine kV rfl aF4 (aB rfl aF) (aDg _ _) ?_
  refine kc rfl aMH (aB rfl (aB rfl (aB rfl (aB rfl aF)))) (aGb (fT root (bA h)) (fU root (bA h)) _ (bA h) ha L55 hR45 _ hsa hsR45 hK (by omega) (by omega)) ?_
  rintro _ G83 μ83 hG83 ⟨v83,L83,e83,hO83,rfl,rfl⟩
  have hs:=hs.mono hG83
  have hsq:=hsq.mono hG83
  have hA:=hA.mono hG83
  have hsR45:=hsR45.mono hG83
  refine .p (eX rfl rfl rfl (eX rfl rfl rfl (aS rfl rfl (aS rfl rfl (.nc (.seq ?_))))))
  refine kR .here (bF .here rfl (bF .here rfl (eT))) ?_; intro GfR83 hR83 hleR83 evR83 hsR83; subst evR83
  have hs:=hs.mono hleR83
  have hsq:=hsq.mono hleR83
  have hA:=hA.mono hleR83
  have hsR45:=hsR45.mono hleR83
  refine .g (nC rfl rfl (fZ rfl gW rfl (s1 rfl (.u rfl) (.u rfl) rfl kU .here (by (try rw [mG]); decide) (xS) ?_)))
  refine .g (nC rfl rfl (fZ rfl mU rfl (fA rfl wC rfl (lN rfl aA4 rfl (Rd.own .here aCV) ?_))))
  refine mV rfl rfl ?_
  refine Go.Tan.b1 rfl iN lT (.u rfl) rfl rfl (by decide) ?_; intro b96
  refine oC (xs:=ps) ((hR83,L83)) rfl iN lT rfl (.u rfl) (.u rfl) aI .here (rfl) (one1 rfl) (by omega) (by unfold maxLen; omega) ?_; intro v97 ov97
  refine nC rfl rfl (fZ rfl mU rfl (fA rfl wC rfl (oP rfl (.u rfl) (.u rfl) .here aMl aI (by (try rw [mG]); decide) (aJZ) ?_)))
  refine .g (cP rfl rfl rfl rfl (aS rfl rfl (.nc (.ret ?_))))
  rcases hO83 with ⟨ho,rfl⟩ | ⟨ho,rfl,rfl⟩
  ·refine bD Tryz.results329 (.tmp rfl .nil) (mS .here rfl (mS .here rfl mN)) ?_
   refine .inr ⟨[],ps++[(hR83,L83)],⟨none,0⟩,v97,?_,rfl,rfl,SlR.nul,fun _=>rfl,aFO hA hsR83,by simp,by simp⟩
   rw [eL55'] at ho
   have ho':mF root h (ps.map (·.2)).length (parts++p)=some L83:=by rw [List.length_map]; exact ho
   rw [aCh (.inr ⟨(jM (n:=4) (by decide)).1 c6,eo.symm.trans c7⟩),ho',List.map_append]; rfl
  refine aK Tryz.results329 (.tmp rfl .nil) ?_
  refine .inl ⟨?_,rfl,rfl⟩
  rw [eL55'] at ho
  have ho':mF root h (ps.map (·.2)).length (parts++p)=none:=by rw [List.length_map]; exact ho
  rw [aCh (.inr ⟨(jM (n:=4) (by decide)).1 c6,eo.symm.trans c7⟩),ho']; rfl
 have c6k:=c6
 try simp only [aD,aH,aE] at c6
 refine .g (cP rfl rfl rfl rfl (.g (cD rfl (fun c8=>?_) (fun c8=>?_))))
 ·have c8k:=c8
  try simp only [aD,aH,aE] at c8
  refine .g (nC rfl rfl (fZ rfl gW rfl (lN rfl dB rfl (Rd.own .here kP) ?_)))
  refine rI rfl .no bV (.u rfl) (.u rfl) ?_
  refine .g (cD rfl (fun c9=>?_) (fun c9=>?_))
  ·have c9k:=c9
   try simp only [aD,aH,aE] at c9
   refine .seq (aQ rfl rfl (aS rfl rfl (.nc (.ret (aK Tryz.results329 (.tmp rfl .nil) ?_)))))
   exact .inl ⟨aKS ((jM (n:=3) (by decide)).1 c8) (.inl (eo.symm.trans c9)),rfl,rfl⟩
  have c9k:=c9
  try simp only [aD,aH,aE] at c9
  refine .g (nt rfl .no (.u rfl) (mV rfl rfl (mv rfl (.t rfl rfl) (.u rfl) (ln rfl (.t rfl rfl) bV (.s rfl) (cp rfl (.t rfl rfl) (.s rfl) (.u rfl) rfl (bL rfl .no (.u rfl) (.s rfl) (.g (cD rfl (fun c10=>?_) (fun c10=>?_)))))))))
  ·have c10k:=c10
   try simp only [aD,aH,aE] at c10
   refine .seq (aQ rfl rfl (aS rfl rfl (.nc (.ret (aK Tryz.results329 (.tmp rfl .nil) ?_)))))
   exact .inl ⟨aKS ((jM (n:=3) (by decide)).1 c8) (.inr (by omega)),rfl,rfl⟩
  have c10k:=c10
  try simp only [aD,aH,aE] at c10
  refine .g (nC rfl rfl (fZ rfl gW rfl (lN rfl dB rfl (Rd.own .here kP) ?_)))
  refine lE rfl bV rfl (.p (lE rfl bV rfl (aW (((parts.length+p.length):Nat):Int) rfl rfl rfl rfl ?_)))
  refine xO ((parts.length+p.length)) ((parts.length+p.length)) rfl aP bY (.u rfl) (.u rfl) (by first|rfl|omega) (by first|rfl|omega) (by omega) (by omega) ?_; intro b45
  have lR45:(List.replicate ((parts.length+p.length)) (0#8:Y)).length=(parts.length+p.length):=List.length_replicate
  refine .g (nC rfl rfl (fZ rfl gW rfl (lN rfl dB rfl (Rd.own aC kP) ?_)))
  refine sO rfl aP (.u rfl) (.u rfl) .here hsq.sc (by omega) (by omega) ?_; intro L52 eL52 lL52
  refine slr (parts.length) rfl aP (.u rfl) (.u rfl) (by omega) (by omega) (by omega) (by omega) ?_
  refine mV rfl rfl ?_
  refine sO rfl aP (.u rfl) (.u rfl) .here hs.sc (by omega) (by omega) ?_; intro L55 eL55 lL55
  refine .nil ?_
  have eL55':L55=parts++p:=aBq eL52 eL55 (by omega)
  refine .code (.seq ?_)
  refine kR .here (bF .here rfl (bF .here rfl (eT))) ?_; intro GfR45 hR45 hleR45 evR45 hsR45; try rw [ evR45]
  have hA:=hA.mono hleR45
  refine .g (nC rfl rfl (fZ rfl gW rfl (s1 rfl (.u rfl) (.u rfl) rfl kU .here (by (try rw [mG]); decide) (xS) ?_)))
  refine .g (nt rfl .no (.u rfl) (.g (gK rfl rfl ?_)))
  refine .seq (aQ rfl rfl (aS rfl rfl (.nc (.ret (bD Tryz.results329 (.tmp rfl .nil) (mS .here rfl (mS .here rfl mN)) ?_)))))
  have q5:¬ ((p.length:Int)<128):=by simpa using c10k
  exact .inr ⟨L55,ps,hR45,vr,by rw [aKR (.inr ⟨(jM (n:=3) (by decide)).1 c8,eo.symm.trans c9⟩) (by omega),eL55'],rfl,rfl,hsR45,fun e=>aIw hp0 (eL55'.symm.trans e),hA,by omega,by omega⟩
 have c8k:=c8
 try simp only [aD,aH,aE] at c8
 refine .skip (.code (.exit (.xnot rfl (.xcode (.xnot rfl (.xcode (.xnot rfl (.xcode (.xnot rfl (.xcode (.xblk (.code (.seq (.seq (aQ rfl rfl (aS rfl rfl (.nc (.ret (aK Tryz.results329 (.tmp rfl .nil) ?_)))))))))))))))))))
 exact .inl ⟨aUk (fun e=>c1 ((jM (n:=1) (by decide)).2 e)) (fun e=>c3 ((jM (n:=2) (by decide)).2 e)) (fun e=>c8 ((jM (n:=3) (by decide)).2 e)) (fun e=>c6 ((jM (n:=4) (by decide)).2 e)),rfl,rfl⟩
theorem aUj (root:Nat→Y) (h:Hd) (kind:Y) (p:List Y) (hp:Sh) (parts:List Y) (sp:Sh) (ps:List (Sh×List Y)) (vr:Value) (ha:Sh) (b:Nat) (used:Int) (G:PM) (hs:SlR G 1 aN hp p) (hsq:SlR G 1 aN sp parts) (h0:parts=[]→sp=⟨none,0⟩) (hA:AllS G ps) (hsa:SlR G 1 aN ha (bA h)) (hK:RdNP G 6 0 (wa 64 kW)) (hp0:0<p.length) (hl:parts.length+p.length≤10000000000000) (hn:ps.length≤100000000) (hq:gI (mF root h) parts (ps.map (·.2)) kind p=none):Ct Tryz.prog 329 ([.pointer (some ⟨b,0,none⟩),V kind,hp.val p.length]:List Value).toArray G [.blk b (cl (dS (fT root (bA h)) (fU root (bA h)) (ha.val (bA h).length) h vr used false (sp.val parts.length)) 438),rS 1 pE vr 25 ps] (fun _ μ' u=>u=.bool false∧μ'=[]) :=
 (aKT root h kind p hp parts sp ps vr ha b used G hs hsq h0 hA hsa hK hp0 hl hn).mono fun G' μ' u hh=>by
  rcases hh with ⟨_,h1,h2⟩ | ⟨Q,ps',sQ,vr',h1,_⟩
  ·exact ⟨h1,h2⟩
  ·rw [hq] at h1; cases h1
theorem aUm (root:Nat→Y) (h:Hd) (kind:Y) (p:List Y) (hp:Sh) (parts:List Y) (sp:Sh) (ps:List (Sh×List Y)) (vr:Value) (ha:Sh) (b:Nat) (used:Int) (G:PM) (hs:SlR G 1 aN hp p) (hsq:SlR G 1 aN sp parts) (h0:parts=[]→sp=⟨none,0⟩) (hA:AllS G ps) (hsa:SlR G 1 aN ha (bA h)) (hK:RdNP G 6 0 (wa 64 kW)) (hp0:0<p.length) (hl:parts.length+p.length≤10000000000000) (hn:ps.length≤100000000) {Q:List Y} {R:List (List Y)} (hq:gI (mF root h) parts (ps.map (·.2)) kind p=some (Q,R)):Ct Tryz.prog 329 ([.pointer (some ⟨b,0,none⟩),V kind,hp.val p.length]:List Value).toArray G [.blk b (cl (dS (fT root (bA h)) (fU root (bA h)) (ha.val (bA h).length) h vr used false (sp.val parts.length)) 438),rS 1 pE vr 25 ps]
  (fun G' μ' u=>∃ ps' sQ vr',R=ps'.map (·.2)∧u=.bool true∧μ'=[.blk b (cl (dS (fT root (bA h)) (fU root (bA h)) (ha.val (bA h).length) h vr' used false (sQ.val Q.length)) 438),rS 1 pE vr' 25 ps']∧SlR G' 1 aN sQ Q∧(Q=[]→sQ=⟨none,0⟩)∧AllS G' ps'∧ps'.length≤ps.length+1∧Q.length≤parts.length+p.length) :=
 (aKT root h kind p hp parts sp ps vr ha b used G hs hsq h0 hA hsa hK hp0 hl hn).mono fun G' μ' u hh=>by
  rcases hh with ⟨h1,_⟩ | ⟨Q',ps',sQ,vr',h1,h2,h3,h4,h5,h6,h7,h8⟩
  ·rw [hq] at h1; cases h1
  ·rw [hq] at h1
   simp only [Option.some.injEq,Prod.mk.injEq] at h1
   obtain ⟨rfl,rfl⟩:=h1
   exact ⟨ps',sQ,vr',rfl,h2,h3,h4,h5,h6,h7,h8⟩
end Go.Proofs.YtoifkgkandfeiaaGreatDoor
