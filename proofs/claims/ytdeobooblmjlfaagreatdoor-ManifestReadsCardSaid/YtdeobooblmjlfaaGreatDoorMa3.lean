/- Lemmas and contracts of functions, joined. -/
import Derived.Test.YtdeobooblmjlfaaGreatDoorMa2
import Derived.Laws.CopyRow
import Derived.Lib.AppendStr
import Derived.Laws.IdiomStrings
set_option linter.unusedSimpArgs false
set_option linter.unusedVariables false
set_option linter.unusedSectionVars false
namespace Go.Proofs.YtdeobooblmjlfaaGreatDoor
open Go.Tan Go.RowKit
theorem aKb:aU Tryz.prog 132=true:=by kernel_rfl
theorem aSu:aU Tryz.prog 110=true:=by kernel_rfl
theorem aSx:aU Tryz.prog 117=true:=by kernel_rfl
theorem aTc:aU Tryz.prog 75=true:=by kernel_rfl
theorem aTb:aU Tryz.prog 74=true:=by kernel_rfl
theorem aKM:jF Tryz.prog 130 26=some .u64:=by kernel_rfl
theorem aHQ (x:W) (G:PM):Ct Tryz.prog 132 ([U x]:List Value).toArray G [] (fun _ μ' u=>μ'=[]∧u=U (pI 4 x)):=by
 refine Ct.of Tryz.func132 rfl Tryz.ntmps132 rfl fun w0 hs0=>?_
 refine .seq (aL rfl rfl (aS rfl rfl (.nc (.seq (.seq (aL rfl rfl (mV rfl rfl (.nc (.block ?_)))))))))
 refine aV (α:=Nat×W) (fun gh=>[(0,true,U gh.2),(3,true,.int .i64 (gh.1:Int))]) (fun _=>[])
  (fun gh Gl=>(gh.1≤4)∧(gh.2=pI gh.1 x)) (fun gh=>4-gh.1) (0,x) [] []
  (aA rfl (aK rfl eZ))
  mN ?_ ?_
 ·refine ⟨?_,?_⟩
  ·(try dsimp only)<;>(first|omega|rfl|assumption|(simp; done))
  (try dsimp only)<;>(first|omega|rfl|assumption|(simp; done))
 intro gh N0 Gl0 hN0 hGl0 hF0
 obtain ⟨k,y⟩:=gh; dsimp only at hF0 hN0 ⊢
 obtain ⟨hk,ey⟩:=hF0
 refine .g (cP rfl rfl rfl rfl (.g (cD rfl (fun c1=>?_) (fun c1=>?_))))
 ·have c1k:=c1
  try simp only [aC,aD] at c1
  refine .g (jH (k:=.u32) rfl .no (.u rfl) (.u rfl) (fun _=>by decide) ?_)
  refine .p (bw (k:=.u32) (b:=1#32) rfl .no rfl (.u rfl) (.u rfl) rfl (nw (k:=.u32) rfl .no rfl (.u rfl) ?_))
  refine bw (k:=.u32) (a:=2197175160#32) rfl .no rfl (.u rfl) (.u rfl) rfl (bw (k:=.u32) rfl .no rfl (.u rfl) (.u rfl) rfl (.g (aW (((k+1):Nat):Int) rfl rfl rfl rfl ?_)))
  refine .g (aP (k+1,sV y) ?_ ?_ ?_ ?_ ?_)
  ·exact (aA rfl (aK rfl eZ))
  ·exact mN
  ·first|omega|(dsimp only; omega)
  ·exact hGl0
  refine ⟨?_,?_⟩
  ·(try dsimp only)<;>(first|omega|rfl|assumption|(simp; done))
  (try dsimp only)<;>(rw [ey]; rfl)
 have c1k:=c1
 try simp only [aC,aD] at c1
 refine .exit (.xcode (.xlp (.xblk (.code (.seq (bJ rfl rfl (mV rfl rfl (aS rfl rfl (.nc (.ret (aM Tryz.results132 (.tmp rfl .nil) ?_)))))))))))
 obtain rfl:k=4:=by omega
 exact ⟨rfl,by rw [ey]; rfl⟩
theorem aMI (sum:W) (xs:List Y) (h:Sh) (G:PM) (hs:SlR G 1 aQ h xs) (hl:xs.length≤9000000000000000000):Ct Tryz.prog 110 ([U sum,h.val xs.length]:List Value).toArray G [] (fun _ μ' u=>μ'=[]∧u=U (lV sum xs)):=by
 refine Ct.of Tryz.func110 rfl Tryz.ntmps110 rfl fun w0 hs0=>?_
 refine .g (xw (k:=.u32) rfl .no rfl (.u rfl) ?_)
 refine .g (lE rfl bU rfl (mV rfl rfl (.nc (.block ?_))))
 refine aV (α:=Nat×W) (fun gh=>[(5,true,U gh.2),(12,true,.int .i64 (gh.1:Int))]) (fun _=>[])
  (fun gh Gl=>(gh.1≤xs.length)∧(gh.2=(xs.take gh.1).foldl wI (~~~sum))) (fun gh=>xs.length-gh.1) (0, ~~~sum) [(10,true,_),(11,true,_)] []
  (aA rfl (aK rfl (aA rfl (aA rfl eZ))))
  mN ?_ ?_
 ·refine ⟨?_,?_⟩
  ·(try dsimp only)<;>(first|omega|rfl|assumption|(simp; done))
  (try dsimp only)<;>(first|omega|rfl|assumption|(simp; done))
 intro gh N0 Gl0 hN0 hGl0 hF0
 obtain ⟨k,x⟩:=gh; dsimp only at hF0 hN0 ⊢
 obtain ⟨hk,ex⟩:=hF0
 have hs:=hs.mono hGl0
 refine .g (cP rfl rfl rfl rfl (.g (cD rfl (fun c1=>?_) (fun c1=>?_))))
 ·have c1k:=c1
  try simp only [aC,aD] at c1
  refine .skip (.code (.seq (.block (.seq (dU rfl rfl (ih rfl .no aI (.u rfl) (.u rfl) (by omega) (by omega) (fun _=>hs.nn (k:=k) (by omega)) ?_))))))
  refine lN rfl aZ rfl ((hs.yat (k) (by omega) (by omega)).rd) ?_
  refine .g (cu (k:=.u8) rfl .no rfl oX (.u rfl) ?_)
  refine bw (k:=.u32) rfl .no rfl (.u rfl) (.u rfl) rfl (kV rfl aKb (aB rfl aF) (aHQ _ _) ?_)
  refine kV rfl aKb (aB rfl aF) (aHQ _ _) ?_
  refine .g (aW (((k+1):Nat):Int) rfl rfl rfl rfl ?_)
  refine .g (aP (k+1,pI 4 (pI 4 (x ^^^ (xs.getD k 0).setWidth 32))) ?_ ?_ ?_ ?_ ?_)
  ·exact (aA rfl (aK rfl (aA rfl (aA rfl eZ))))
  ·exact mN
  ·first|omega|(dsimp only; omega)
  ·exact hGl0
  refine ⟨?_,?_⟩
  ·(try dsimp only)<;>(first|omega|rfl|assumption|(simp; done))
  (try dsimp only)<;>(rw [aGO (by omega),←ex,aM9]; rfl)
 have c1k:=c1
 try simp only [aC,aD] at c1
 refine .g (xw (k:=.u32) rfl .no rfl (.u rfl) ?_)
 refine aS rfl rfl (.nc (.ret (aM Tryz.results110 (.tmp rfl .nil) ?_)))
 obtain rfl:k=xs.length:=by omega
 exact ⟨rfl,by rw [ex,List.take_length]; rfl⟩
theorem aMJ (ps:List (Sh×List Y)) (h:Sh) (G:PM) (hs:SlP G h ps) (hl:(cV ps).length≤9000000000000000000) (hn:ps.length≤1000):Ct Tryz.prog 75 ([h.val ps.length]:List Value).toArray G [] (fun _ μ' u=>μ'=[]∧u=U (lV 0#32 (cV ps))):=by
 refine Ct.of Tryz.func75 rfl Tryz.ntmps75 rfl fun w0 hs0=>?_
 refine .g (lE rfl sH rfl (mV rfl rfl (.nc (.block ?_))))
 refine aV (α:=Nat×W) (fun gh=>[(3,true,U gh.2),(8,true,.int .i64 (gh.1:Int))]) (fun _=>[])
  (fun gh Gl=>(gh.1≤ps.length)∧(gh.2=lV 0#32 (cV (ps.take gh.1)))) (fun gh=>ps.length-gh.1) (0,0#32) [(6,true,_),(7,true,_)] []
  (aA rfl (aK rfl (aA rfl (aA rfl eZ))))
  mN ?_ ?_
 ·refine ⟨?_,?_⟩
  ·(try dsimp only)<;>(first|omega|rfl|assumption|(simp; done))
  (try dsimp only)<;>(simp [cV,aML])
 intro gh N0 Gl0 hN0 hGl0 hF0
 obtain ⟨k,x⟩:=gh; dsimp only at hF0 hN0 ⊢
 obtain ⟨hk,ex⟩:=hF0
 have hs:=hs.mono hGl0
 refine .g (cP rfl rfl rfl rfl (.g (cD rfl (fun c1=>?_) (fun c1=>?_))))
 ·have c1k:=c1
  try simp only [aC,aD] at c1
  refine .skip (.code (.seq (.block (.seq (dU rfl rfl (ih rfl .no jB (.u rfl) (.u rfl) (by omega) (by omega) (fun _=>hs.sl.nn (k:=k) (by omega)) ?_))))))
  obtain ⟨p11,ep11⟩:=iJ (k:=k) (xs:=ps) (by omega)
  have hq11:=hs.get ep11
  refine lN rfl cX rfl ((hs.at (k) (by omega) ep11).rd) ?_
  refine .g (kV rfl aSu (aB rfl (aB rfl aF)) (aMI _ p11.2 _ _ hq11 (by have:=aCp ep11; omega)) ?_)
  refine .g (aW (((k+1):Nat):Int) rfl rfl rfl rfl ?_)
  refine .g (aP (k+1,lV x p11.2) ?_ ?_ ?_ ?_ ?_)
  ·exact (aA rfl (aK rfl (aA rfl (aA rfl eZ))))
  ·exact mN
  ·first|omega|(dsimp only; omega)
  ·exact hGl0
  refine ⟨?_,?_⟩
  ·(try dsimp only)<;>(first|omega|rfl|assumption|(simp; done))
  (try dsimp only)<;>(rw [ex,aMK,wF ep11])
 have c1k:=c1
 try simp only [aC,aD] at c1
 refine .exit (.xcode (.xlp (.xblk (.code (.seq (bJ rfl rfl (mV rfl rfl (aS rfl rfl (.nc (.ret (aM Tryz.results75 (.tmp rfl .nil) ?_)))))))))))
 obtain rfl:k=ps.length:=by omega
 exact ⟨rfl,by rw [ex,List.take_length]; rfl⟩
theorem aK5 (x:W) (G:PM):Ct Tryz.prog 74 ([U x]:List Value).toArray G [] (fun _ μ' u=>μ'=[]∧u=U (uV x)):=by
 refine Ct.of Tryz.func74 rfl Tryz.ntmps74 rfl fun w0 hs0=>?_
 refine .g (kV rfl yN (aB rfl (aB rfl aF)) (xK _ 17 _) ?_)
 refine bw (k:=.u32) (b:=2726488792#32) rfl .no rfl (.u rfl) (.u rfl) rfl (aS rfl rfl (.nc (.ret (aM Tryz.results74 (.tmp rfl .nil) ?_))))
 exact ⟨rfl,rfl⟩
theorem aPS (x:W) (G:PM):Ct Tryz.prog 83 ([U x]:List Value).toArray G [] (fun _ μ' u=>μ'=[]∧u=U (uV x)):=by
 refine Ct.of Tryz.func83 rfl Tryz.ntmps83 rfl fun w0 hs0=>?_
 refine .g (mw (k:=.u32) (b:=32768#32) rfl .no (.u rfl) (.u rfl) (fun _=>show (32768#32:BitVec 32)≠0#32 by decide) ?_)
 refine bw (k:=.u32) (b:=131072#32) rfl .no rfl (.u rfl) (.u rfl) rfl (.p (dw (k:=.u32) (b:=32768#32) rfl .no rfl (.u rfl) (.u rfl) (fun _=>show (32768#32:BitVec 32)≠0#32 by decide) ?_))
 refine bw (k:=.u32) rfl .no rfl (.u rfl) (.u rfl) rfl (bw (k:=.u32) (b:=2726488792#32) rfl .no rfl (.u rfl) (.u rfl) rfl (aS rfl rfl (.nc (.ret (aM Tryz.results83 (.tmp rfl .nil) ?_)))))
 exact ⟨rfl,congrArg (fun z=>fO [uv .u32 z]) (aNw x)⟩
theorem aP0 (x:W) (G:PM):Ct Tryz.prog 117 ([U x]:List Value).toArray G [] (fun _ μ' u=>μ'=[]∧u=U (sV x)):=by
 refine Ct.of Tryz.func117 rfl Tryz.ntmps117 rfl fun w0 hs0=>?_
 refine .g (mw (k:=.u32) (b:=2#32) rfl .no (.u rfl) (.u rfl) (fun _=>show (2#32:BitVec 32)≠0#32 by decide) ?_)
 refine cP rfl rfl rfl rfl (.g (cD rfl (fun c1=>?_) (fun c1=>?_)))
 ·have c1k:=c1
  try simp only [aC,aD] at c1
  refine .g (dw (k:=.u32) (b:=2#32) rfl .no rfl (.u rfl) (.u rfl) (fun _=>show (2#32:BitVec 32)≠0#32 by decide) ?_)
  refine bw (k:=.u32) (b:=2197175160#32) rfl .no rfl (.u rfl) (.u rfl) rfl (aS rfl rfl (.nc (.ret (aM Tryz.results117 (.tmp rfl .nil) ?_))))
  exact ⟨rfl,congrArg (fun z=>fO [uv .u32 z]) (aNB (aOI c1))⟩
 have c1k:=c1
 try simp only [aC,aD] at c1
 refine .g (dw (k:=.u32) (b:=2#32) rfl .no rfl (.u rfl) (.u rfl) (fun _=>show (2#32:BitVec 32)≠0#32 by decide) ?_)
 refine aS rfl rfl (.nc (.ret (aM Tryz.results117 (.tmp rfl .nil) ?_)))
 exact ⟨rfl,congrArg (fun z=>fO [uv .u32 z]) (aNA (fun e=>c1 (aOJ e)))⟩
theorem aPc (sum:W) (xs:List Y) (h:Sh) (G:PM) (hs:SlR G 1 aQ h xs) (hl:xs.length≤9000000000000000000):Ct Tryz.prog 84 ([U sum,h.val xs.length]:List Value).toArray G [] (fun _ μ' u=>μ'=[]∧u=U (lV sum xs)):=by
 refine Ct.of Tryz.func84 rfl Tryz.ntmps84 rfl fun w0 hs0=>?_
 refine .g (bw (k:=.u32) (a:=4294967295#32) rfl .no rfl (.u rfl) (.u rfl) rfl (aS rfl rfl (.nc (.seq (.seq (aL rfl rfl (aS rfl rfl (.nc (.block ?_)))))))))
 refine aV (α:=Nat×W) (fun gh=>[(5,true,U gh.2),(6,true,.int .i64 (gh.1:Int))]) (fun _=>[])
  (fun gh Gl=>(gh.1≤xs.length)∧(gh.2=(xs.take gh.1).foldl wI (~~~sum))) (fun gh=>xs.length-gh.1) (0,4294967295#32-sum) [(1,true,_)] []
  (aA rfl (aK rfl (aA rfl eZ)))
  mN ?_ ?_
 ·refine ⟨?_,?_⟩
  ·(try dsimp only)<;>(first|omega|rfl|assumption|(simp; done))
  (try dsimp only)<;>(exact aHT sum)
 intro gh N0 Gl0 hN0 hGl0 hF0
 obtain ⟨k,x⟩:=gh; dsimp only at hF0 hN0 ⊢
 obtain ⟨hk,ex⟩:=hF0
 have hs:=hs.mono hGl0
 refine .g (lE rfl bU rfl (cP rfl rfl rfl rfl (.g (cD rfl (fun c1=>?_) (fun c1=>?_)))))
 ·have c1k:=c1
  try simp only [aC,aD] at c1
  refine .skip (.code (.seq (.block (.seq (xL rfl rfl (mV rfl rfl (mV rfl rfl (mV rfl rfl (ih rfl .no aI (.u rfl) (.u rfl) (by omega) (by omega) (fun _=>hs.nn (k:=k) (by omega)) ?_)))))))))
  refine lN rfl aZ rfl ((hs.yat (k) (by omega) (by omega)).rd) ?_
  refine cu (k:=.u8) rfl .no rfl oX (.u rfl) ?_
  refine bw (k:=.u32) rfl .no rfl (.u rfl) (.u rfl) rfl (aS rfl rfl (.nc (.seq (aL rfl rfl (aS rfl rfl (.nc (.block ?_)))))))
  refine aV (α:=Nat×W) (fun gh=>[(5,true,U gh.2),(7,true,.int .i64 (gh.1:Int))]) (fun _=>[])
   (fun gh Gl=>(gh.1≤8)∧(gh.2=pI gh.1 (x ^^^ (xs.getD k 0).setWidth 32))) (fun gh=>8-gh.1) (0,x ^^^ (xs.getD k 0).setWidth 32) [(1,true,_),(6,true,_)] []
   (aA rfl (aK rfl (aA rfl (aA rfl eZ))))
   mN ?_ ?_
  ·refine ⟨?_,?_⟩
   ·(try dsimp only)<;>(first|omega|rfl|assumption|(simp; done))
   (try dsimp only)<;>(first|omega|rfl|assumption|(simp; done))
  intro gh N1 Gl1 hN1 hGl1 hF1
  obtain ⟨q,z⟩:=gh; dsimp only at hF1 hN1 ⊢
  obtain ⟨hq,ez⟩:=hF1
  refine .g (cP rfl rfl rfl rfl (.g (cD rfl (fun c2=>?_) (fun c2=>?_))))
  ·have c2k:=c2
   try simp only [aC,aD] at c2
   refine .g (kV rfl aSx (aB rfl aF) (aP0 _ _) ?_)
   refine .g (aW (((q+1):Nat):Int) rfl rfl rfl rfl ?_)
   refine .g (aP (q+1,sV z) ?_ ?_ ?_ ?_ ?_)
   ·exact (aA rfl (aK rfl (aA rfl (aA rfl eZ))))
   ·exact mN
   ·first|omega|(dsimp only; omega)
   ·exact hGl1
   refine ⟨?_,?_⟩
   ·(try dsimp only)<;>(first|omega|rfl|assumption|(simp; done))
   (try dsimp only)<;>(rw [ez]; rfl)
  have c2k:=c2
  try simp only [aC,aD] at c2
  refine .g (aW (((k+1):Nat):Int) rfl rfl rfl rfl ?_)
  refine .g (aP (k+1,z) ?_ ?_ ?_ ?_ ?_)
  ·exact (aA rfl (aK rfl (aA rfl eZ)))
  ·exact mN
  ·first|omega|(dsimp only; omega)
  ·exact (hGl0).trans hGl1
  refine ⟨?_,?_⟩
  ·(try dsimp only)<;>(first|omega|rfl|assumption|(simp; done))
  (try dsimp only)<;>(rw [aGO (by omega),←ex,ez,show q=8 by omega]; rfl)
 have c1k:=c1
 try simp only [aC,aD] at c1
 refine .g (bw (k:=.u32) (a:=4294967295#32) rfl .no rfl (.u rfl) (.u rfl) rfl (aS rfl rfl (.nc (.ret (aM Tryz.results84 (.tmp rfl .nil) ?_)))))
 obtain rfl:k=xs.length:=by omega
 exact ⟨rfl,by rw [ex,List.take_length]; exact congrArg (fun z=>fO [uv .u32 z]) (aHT _)⟩
theorem aMH {G:PM} {b7 b9 T7 T9:Nat} {kind:Y} {h:Sh} {p:List Y} (hle:PM.le G ((G.add b7 (cl [V kind] T7)).add b9 (cl [.slice (some ⟨b7,0,none⟩) 1 1,h.val p.length] T9))) (hq:PM.le (G.add b7 (cl [V kind] T7)) ((G.add b7 (cl [V kind] T7)).add b9 (cl [.slice (some ⟨b7,0,none⟩) 1 1,h.val p.length] T9))) (hs:SlR G 1 aQ h p) (hl:p.length≤1000000000000000) :
  Ct Tryz.prog 75 ([.slice (some ⟨b9,0,none⟩) 2 2]:List Value).toArray ((G.add b7 (cl [V kind] T7)).add b9 (cl [.slice (some ⟨b7,0,none⟩) 1 1,h.val p.length] T9)) [] (fun _ μ' u=>μ'=[]∧u=U (lV 0#32 ([kind]++p))):=by
 have h1:SlR (G.add b7 (cl [V kind] T7)) 1 aQ ⟨some ⟨b7,0,none⟩,1⟩ [kind]:=lR (T:=T7) (gI _ _ _) (fun _ _=>rfl) (by simp)
 have hP:SlP ((G.add b7 (cl [V kind] T7)).add b9 (cl [.slice (some ⟨b7,0,none⟩) 1 1,h.val p.length] T9)) ⟨some ⟨b9,0,none⟩,2⟩ [(⟨some ⟨b7,0,none⟩,1⟩,[kind]),(h,p)] :=
  ⟨lR (T:=T9) (gI _ _ _) (fun _ _=>rfl) (by simp),fun q hq'=>by
   rcases List.mem_cons.1 hq' with rfl | hq'
   ·exact h1.mono hq
   ·rw [List.mem_singleton.1 hq']; exact hs.mono hle⟩
 have hh:=aMJ _ ⟨some ⟨b9,0,none⟩,2⟩ _ hP (by simp [cV]; omega) (by simp)
 rw [show cV [((⟨some ⟨b7,0,none⟩,1⟩ : Sh),[kind]),(h,p)]=[kind]++p by simp [cV]] at hh
 exact hh
theorem aEQ (kind:Y) (p:List Y) (h:Sh) (G:PM) (hs:SlR G 1 aQ h p) (hl:p.length≤1000000000000000):Ct Tryz.prog 31 ([V kind,h.val p.length]:List Value).toArray G [] (PR 5 (fun L=>L=dO ((uV (lV 0#32 ([kind]++p))).setWidth 64) 4++dO (BitVec.ofInt 64 (p.length:Int)) 2++[kind])):=by
 refine Ct.of Tryz.func31 rfl Tryz.ntmps31 rfl fun w0 hs0=>?_
 refine .seq (aL rfl rfl (aS rfl rfl (.nc (.seq (rZ rfl rfl (mV rfl rfl ?_))))))
 refine Go.Tan.b1 rfl aI bF (.u rfl) rfl rfl (by decide) ?_; intro b7
 refine mV rfl rfl ?_
 refine Go.Tan.bN rfl jB mR (Evp.cons (.u rfl) (Evp.cons (.u rfl) Evp.nil)) rfl (by decide) (by simp [Value.oneCell',Sh.val]) ?_; intro b9
 refine kp rfl .no aTc (aB rfl aF) (Gp.add .here (Gp.add .here Gp.nil)) (fun _ hle hq=>aMH hle hq.1 hs hl) ?_
 refine kV rfl aTb (aB rfl aF) (aK5 _ _) ?_
 refine .g (cu (k:=.u32) rfl .no rfl aKM (.u rfl) ?_)
 refine kc rfl aCU (aB rfl (aB rfl (aB rfl aF))) (Ct.frzB (aAY [] ⟨none,0⟩ _ 4 _ SlR.nul (by simp) (by decide))) ?_
 rintro _ G14 μ14 hG14 ⟨h14,L14,eL14,rfl,rfl,hs14⟩
 refine .p (lE rfl bU rfl (ci rfl .no rfl gG (.u rfl) ?_))
 refine kc rfl aCU (aB rfl (aB rfl (aB rfl aF))) (jZ (aAY L14 h14 _ 2 _ hs14 (by have:=fx0 eL14; omega) (by decide))) ?_
 rintro v18 G18 μ18 hG18 ⟨L18,ov18,eL18,rfl⟩
 refine mV rfl rfl ?_
 refine Go.Tan.b1 rfl aI bF (.u rfl) rfl rfl (by decide) ?_; intro b20
 have lL18:L18.length=6:=by have:=fx0 eL14; have:=fx2 eL18; omega
 refine dC rfl aI bF (.u rfl) (.u rfl) aE (Sc.one .here) (by show _+1≤_; omega) ?_
 intro v21 L21 ov21 eL21
 have lL21:L21.length=L18.length+1:=by rw [eL21,List.length_append]; first|rfl | simp [bK]
 refine aS rfl rfl (.nc (.ret (We.fin Tryz.results31 (.tmp rfl .nil) (mS .here rfl mN) ?_)))
 exact ⟨L21,by rw [eL21,eL18,eL14]; rfl,rfl⟩
theorem tS:cO Tryz.prog 28 0=some 0:=by kernel_rfl
theorem vL:cO Tryz.prog 28 1=some 1:=by kernel_rfl
theorem vM:cO Tryz.prog 28 2=some 2:=by kernel_rfl
theorem bD:dJ Tryz.prog 26=some none:=by kernel_rfl
theorem aCY:iD Tryz.prog 93=some (ba 12 (fun _=>0#8)):=by kernel_rfl
theorem aKx:dL Tryz.prog 93=some 12:=by kernel_rfl
theorem aCO:cO Tryz.prog 28 3=some 3:=by kernel_rfl
theorem aCP:cO Tryz.prog 28 4=some 4:=by kernel_rfl
theorem aSf:eS Tryz.prog 76 [0,1,2]=some ([.int .u64 0,.int .u64 0,.int .u64 0],[(0,1),(1,1),(2,1)]):=by kernel_rfl
theorem aST:gP Tryz.prog 76=some (3,26,1):=by kernel_rfl
theorem aN3 (h:Hd) (G:PM):Ct Tryz.prog 72 ([.agg ([V h.kind,V h.level,uv .u64 h.gen,uv .u64 h.epoch,uv .u64 h.num]:List Value).toArray]:List Value).toArray G [] (fun _ μ' u=>μ'=[]∧u=.bool h.right):=by
 refine Ct.of Tryz.func72 rfl Tryz.ntmps72 rfl fun w0 hs0=>?_
 refine .seq (bJ rfl rfl ?_)
 refine bX rfl rfl rfl ?_; intro b1
 refine .g (fZ rfl tS rfl (lO rfl aZ rfl .here (by first|exact aJ rfl|rfl) ?_))
 refine .g (cP rfl rfl rfl rfl (.g (cD rfl (fun c1=>?_) (fun c1=>?_))))
 ·have c1k:=c1
  try simp only [aC,aD] at c1
  refine .g (fZ rfl vL rfl (lO rfl aZ rfl .here (by first|exact aJ rfl|rfl) ?_))
  refine cP rfl rfl rfl rfl (aS rfl rfl (.nc (.ret (aM Tryz.results72 (.tmp rfl .nil) ?_))))
  exact ⟨rfl,congrArg Value.bool (aE0 c1).symm⟩
 have c1k:=c1
 try simp only [aC,aD] at c1
 refine .g (cP rfl rfl rfl rfl (.g (cD rfl (fun c2=>?_) (fun c2=>?_))))
 ·have c2k:=c2
  try simp only [aC,aD] at c2
  refine .g (jQ rfl c2k ?_)
  refine .g (fZ rfl vL rfl (lO rfl aZ rfl .here (by first|exact aJ rfl|rfl) ?_))
  refine cP rfl rfl rfl rfl (.p (fz rfl (.t rfl rfl) vM (.u rfl) (ld rfl (.t rfl rfl) bD (.s rfl) (fun hc=>Rd.own .here (by first|exact aJ rfl|rfl)) ?_)))
  refine cp rfl (.t rfl rfl) (.s rfl) (.u rfl) rfl (bR rfl .no (.u rfl) (.s rfl) (aS rfl rfl (.nc (.ret (aM Tryz.results72 (.tmp rfl .nil) ?_)))))
  exact ⟨rfl,congrArg Value.bool (aEz c2).symm⟩
 have c2k:=c2
 try simp only [aC,aD] at c2
 refine .g (cP rfl rfl rfl rfl (.g (cD rfl (fun c3=>?_) (fun c3=>?_))))
 ·have c3k:=c3
  try simp only [aC,aD] at c3
  refine .g (fZ rfl vL rfl (lO rfl aZ rfl .here (by first|exact aJ rfl|rfl) ?_))
  refine cP rfl rfl rfl rfl (.p (fz rfl (.t rfl rfl) vM (.u rfl) (ld rfl (.t rfl rfl) bD (.s rfl) (fun hc=>Rd.own .here (by first|exact aJ rfl|rfl)) ?_)))
  refine cp rfl (.t rfl rfl) (.s rfl) (.u rfl) rfl (bR rfl .no (.u rfl) (.s rfl) (aS rfl rfl (.nc (.ret (aM Tryz.results72 (.tmp rfl .nil) ?_)))))
  exact ⟨rfl,congrArg Value.bool (aE1 c3).symm⟩
 have c3k:=c3
 try simp only [aC,aD] at c3
 refine .skip (.blk (.code (.seq (aL rfl rfl (aS rfl rfl (.nc (.ret (aM Tryz.results72 (.tmp rfl .nil) ?_))))))))
 exact ⟨rfl,congrArg Value.bool (aEy c2 c1 c3).symm⟩
theorem aE2 (n:BitVec 64) (G:PM):Ct Tryz.prog 68 ([uv .u64 n]:List Value).toArray G [] (fun _ μ' u=>μ'=[]∧u=.agg (ba 12 (mX n)).toArray):=by
 refine Ct.of Tryz.func68 rfl Tryz.ntmps68 rfl fun w0 hs0=>?_
 refine .seq (aL rfl rfl ?_)
 refine al rfl aCY ?_; intro b2
 refine .nil (.code (.seq (aL rfl rfl ?_)))
 refine al rfl aCY ?_; intro b3
 refine .nil (.code (.seq (.seq (aL rfl rfl (mV rfl rfl (.nc (.block ?_)))))))
 refine aV (α:=Nat×(Nat→Y)) (fun gh=>[(5,true,.int .i64 (gh.1:Int))]) (fun gh=>[.blk b3 (cl (ba 12 gh.2) 93)])
  (fun gh Gl=>(gh.1≤8)∧(gh.2=gB (mX n) gh.1)) (fun gh=>8-gh.1) (0,fun _=>0#8) [(0,true,_),(2,true,_),(3,true,_)] [_]
  (aK rfl (aA rfl (aA rfl (aA rfl eZ))))
  (mS .here rfl (mS .here rfl mN)) ?_ ?_
 ·refine ⟨?_,?_⟩
  ·(try dsimp only)<;>(first|omega|rfl|assumption|(simp; done))
  (try dsimp only)<;>(first|omega|rfl|assumption|(simp; done))
 intro gh N0 Gl0 hN0 hGl0 hF0
 obtain ⟨k,f⟩:=gh; dsimp only at hF0 hN0 ⊢
 obtain ⟨hk,ef⟩:=hF0
 refine .g (cP rfl rfl rfl rfl (.g (cD rfl (fun c1=>?_) (fun c1=>?_))))
 ·have c1k:=c1
  try simp only [aC,aD] at c1
  refine .g (aW (((8*k):Nat):Int) rfl rfl rfl rfl ?_)
  refine jH (k:=.u64) rfl .no (.u rfl) (.u rfl) (by omega) ?_
  refine cu (k:=.u64) rfl .no rfl nY (.u rfl) ?_
  refine iW rfl aCM rfl rfl ?_
  refine s1 rfl (.u rfl) (.u rfl) rfl gQ .here (by first|decide|(simp only [bV,bT,bM]; omega)) (by first|exact cY (k) (by omega)|exact iH (k) (by omega)|exact mJ (k) (by omega) (by omega)|rfl) ?_
  refine .g (aW (((k+1):Nat):Int) rfl rfl rfl rfl ?_)
  refine .g (aP (k+1,upd f k ((n >>> (8*k)).setWidth 8)) ?_ ?_ ?_ ?_ ?_)
  ·exact (aK rfl (aA rfl (aA rfl (aA rfl eZ))))
  ·exact (mS .here rfl (mS .here rfl mN))
  ·first|omega|(dsimp only; omega)
  ·exact hGl0
  refine ⟨?_,?_⟩
  ·(try dsimp only)<;>(first|omega|rfl|assumption|(simp; done))
  (try dsimp only)<;>(exact wZ ef (by unfold mX; rw [if_pos (by omega)]))
 have c1k:=c1
 try simp only [aC,aD] at c1
 refine .g (lB rfl tP rfl .here ?_)
 refine sW rfl rfl rfl rfl aKx aE ?_
 refine .nil (.code (.ret (aM Tryz.results68 (.cell rfl (fun w hw=>bI tP (RdN.own .here) ((by first|exact qE|exact qL|rfl)) hw) .nil) ?_)))
 obtain rfl:k=8:=by omega
 exact ⟨rfl,by rw [ef,iG (fun i hi=>aHR n hi)]; rfl⟩
theorem aBh (h:Hd) (G:PM):Ct Tryz.prog 13 ([.agg ([V h.kind,V h.level,uv .u64 h.gen,uv .u64 h.epoch,uv .u64 h.num]:List Value).toArray]:List Value).toArray G [] (PR 5 (fun L=>L=cC h)):=by
 refine Ct.of Tryz.func13 rfl Tryz.ntmps13 rfl fun w0 hs0=>?_
 refine .seq (bJ rfl rfl ?_)
 refine bX rfl rfl rfl ?_; intro b1
 refine aS rfl rfl (.nc (.seq (rq9 rfl rfl ?_)))
 refine Go.Tan.bN rfl aI bF (Evp.cons (.u rfl) (Evp.cons (.u rfl) (Evp.cons (.u rfl) (Evp.cons (.u rfl) Evp.nil)))) rfl (by decide) (by simp [Value.oneCell',Sh.val]) ?_; intro b6
 refine mkS [116#8,97#8,110#8,116#8] rfl rfl aEb (.u rfl) .here rfl rfl (by decide) ?_; intro G7 hG7 hs7
 refine fZ rfl tS rfl (lO rfl aZ rfl .here (by first|exact aJ rfl|rfl) ?_)
 refine fZ rfl vL rfl (lO rfl aZ rfl .here (by first|exact aJ rfl|rfl) ?_)
 refine Go.Tan.bN rfl aI bF (Evp.cons (.u rfl) (Evp.cons (.u rfl) Evp.nil)) rfl (by decide) (uY rfl rfl) ?_; intro b12
 refine apF (.inr rfl) rfl aI bF (.u rfl) (.u rfl) hs7 rfl (Sc.blk (ys:=[h.kind,h.level]) .here rfl rfl) (by (try simp only [List.length_cons,List.length_nil]); omega) (by (try simp only [List.length_cons,List.length_nil]); omega) (by (try simp only [List.length_cons,List.length_nil]); omega) ?_; intro v13 L13 ov13 eL13
 have lL13:L13.length=[116#8,97#8,110#8,116#8].length+2:=by rw [eL13,List.length_append]; first|rfl | simp [bK]
 refine .g (fZ rfl vM rfl (lO rfl bD rfl aN (by first|exact aJ rfl|rfl) ?_))
 refine fZ rfl aCO rfl (lO rfl bD rfl aN (by first|exact aJ rfl|rfl) ?_)
 refine fZ rfl aCP rfl (lO rfl bD rfl aN (by first|exact aJ rfl|rfl) ?_)
 refine bC rfl .no aSf (.cons (.u rfl) rfl (.cons (.u rfl) rfl (.cons (.u rfl) rfl .nil))) rfl ?_
 refine mV rfl rfl (.nc (.block ?_))
 refine aV (α:=Nat×Value×List Y) (fun gh=>[(3,true,gh.2.1),(21,true,.int .i64 (gh.1:Int))]) (fun gh=>[rB gh.2.1 5 gh.2.2])
  (fun gh Gl=>(gh.1≤3)∧(gh.2.2=h.some gh.1)) (fun gh=>3-gh.1) (0,_,_) [(20,true,_)] [_,_]
  (aA rfl (aK rfl (aA rfl eZ)))
  (mS .here rfl (mS .here rfl (mS .here rfl mN))) ?_ ?_
 ·refine ⟨?_,?_⟩
  ·(try dsimp only)<;>(first|omega|rfl|assumption|(simp; done))
  (try dsimp only)<;>(rw [eL13]; rfl)
 intro gh N0 Gl0 hN0 hGl0 hF0
 obtain ⟨k,v,L⟩:=gh; dsimp only at hF0 hN0 ⊢
 obtain ⟨hk,eL⟩:=hF0
 have lL:L.length=6+8*k:=by rw [eL,Hd.some_len]
 refine .g (cP rfl rfl rfl rfl (.g (cD rfl (fun c1=>?_) (fun c1=>?_))))
 ·have c1k:=c1
  try simp only [aC,aD] at c1
  refine .g (ix rfl .no aST bD (.u rfl) (.u rfl) (by omega) (by omega) (fun _=>aK2 (by omega)) ?_)
  refine aS rfl rfl (.nc ?_)
  refine iP .here (by first|(intro b hb; cases hb; done) | simp [keys,Res.keys]) ?_; intro GfR13 hR13 hleR13 evR13 hsR13; subst evR13
  refine .g (kc rfl aCU (aB rfl (aB rfl (aB rfl aF))) (jZ (aAY L _ _ 8 _ hsR13 (by omega) (by decide))) ?_)
  rintro v26 G26 μ26 hG26 ⟨L26,ov26,eL26,rfl⟩
  refine .g (aW (((k+1):Nat):Int) rfl rfl rfl rfl ?_)
  refine .g (aP (k+1,v26,L26) ?_ ?_ ?_ ?_ ?_)
  ·exact (aA rfl (aK rfl (aA rfl eZ)))
  ·exact (mS .here rfl (mS .here rfl (mS .here rfl mN)))
  ·first|omega|(dsimp only; omega)
  ·exact ((hGl0).trans hleR13).trans hG26
  refine ⟨?_,?_⟩
  ·(try dsimp only)<;>(first|omega|rfl|assumption|(simp; done))
  (try dsimp only)<;>(rw [eL26,eL,zA]; rfl)
 have c1k:=c1
 try simp only [aC,aD] at c1
 refine .exit (.xcode (.xlp (.xblk (.code (.seq (bJ rfl rfl (mV rfl rfl (aS rfl rfl (.nc (.ret (We.fin Tryz.results13 (.tmp rfl .nil) (mS .here rfl mN) ?_)))))))))))
 obtain rfl:k=3:=by omega
 exact ⟨L,by rw [eL,aK1],rfl⟩
theorem aIO (h:Hd) (G:PM):Ct Tryz.prog 81 ([.agg ([V h.kind,V h.level,uv .u64 h.gen,uv .u64 h.epoch,uv .u64 h.num]:List Value).toArray]:List Value).toArray G [] (fun _ μ' u=>μ'=[]∧u=.bool h.right):=by
 refine Ct.of Tryz.func81 rfl Tryz.ntmps81 rfl fun w0 hs0=>?_
 refine .seq (bJ rfl rfl ?_)
 refine bX rfl rfl rfl ?_; intro b1
 refine .g (fZ rfl tS rfl (lO rfl aZ rfl .here (by first|exact aJ rfl|rfl) ?_))
 refine cP rfl rfl rfl rfl (.g (cD rfl (fun c1=>?_) (fun c1=>?_)))
 ·have c1k:=c1
  try simp only [aC,aD] at c1
  refine .g (fZ rfl vL rfl (lO rfl aZ rfl .here (by first|exact aJ rfl|rfl) ?_))
  refine cP rfl rfl rfl rfl (aS rfl rfl (.nc (.ret (aM Tryz.results81 (.tmp rfl .nil) ?_))))
  exact ⟨rfl,congrArg Value.bool (aE0 c1).symm⟩
 have c1k:=c1
 try simp only [aC,aD] at c1
 refine .g (fZ rfl tS rfl (lO rfl aZ rfl .here (by first|exact aJ rfl|rfl) ?_))
 refine cP rfl rfl rfl rfl (.p (fz rfl (.f rfl rfl) tS (.u rfl) (ld rfl (.f rfl rfl) aZ (.s rfl) (fun hc=>Rd.own .here (by first|exact aJ rfl|rfl)) ?_)))
 refine cp rfl (.f rfl rfl) (.s rfl) (.u rfl) rfl (cK rfl .no (.u rfl) (.s rfl) (.p (fz rfl (.t rfl rfl) vL (.u rfl) (ld rfl (.t rfl rfl) aZ (.s rfl) (fun hc=>Rd.own .here (by first|exact aJ rfl|rfl)) ?_))))
 refine cp rfl (.t rfl rfl) (.s rfl) (.u rfl) rfl (bR rfl .no (.u rfl) (.s rfl) (.p (fz rfl (.t rfl rfl) vM (.u rfl) (ld rfl (.t rfl rfl) bD (.s rfl) (fun hc=>Rd.own .here (by first|exact aJ rfl|rfl)) ?_))))
 refine cp rfl (.t rfl rfl) (.s rfl) (.u rfl) rfl (bR rfl .no (.u rfl) (.s rfl) (aS rfl rfl (.nc (.ret (aM Tryz.results81 (.tmp rfl .nil) ?_)))))
 refine ⟨rfl,congrArg Value.bool ?_⟩
 exact aK0 c1
theorem aPU (n:BitVec 64) (G:PM):Ct Tryz.prog 41 ([uv .u64 n]:List Value).toArray G [] (fun _ μ' u=>μ'=[]∧u=.agg (ba 12 (mX n)).toArray):=by
 refine Ct.of Tryz.func41 rfl Tryz.ntmps41 rfl fun w0 hs0=>?_
 refine .seq (aL rfl rfl ?_)
 refine al rfl aCY ?_; intro b2
 refine .nil (.code (.seq (aL rfl rfl ?_)))
 refine al rfl aCY ?_; intro b3
 refine .g (kc rfl uC (aB rfl (aB rfl aF)) (jZ (sU _ 8 _ (by decide))) ?_)
 rintro v7 G7 μ7 hG7 ⟨L7,ov7,eL7,rfl⟩
 refine aS rfl rfl (.nil ?_)
 have lL7:L7.length=8:=by rw [eL7]; exact fI _ _
 refine .code (.seq (.seq ?_))
 refine iP .here (by first|(intro b hb; cases hb; done) | simp [keys,Res.keys]) ?_; intro GfR7 hR7 hleR7 evR7 hsR7; subst evR7
 refine aL rfl rfl (aS rfl rfl (.nc (.block ?_)))
 refine aV (α:=Nat×(Nat→Y)) (fun gh=>[(5,true,.int .i64 (gh.1:Int))]) (fun gh=>[.blk b3 (cl (ba 12 gh.2) 93)])
  (fun gh Gl=>(gh.1≤8)∧(gh.2=gB (mX n) gh.1)) (fun gh=>8-gh.1) (0,fun _=>0#8) [(2,true,_),(3,true,_),(4,true,_)] [_]
  (aK rfl (aA rfl (aA rfl (aA rfl eZ))))
  (mS .here rfl (mS .here rfl mN)) ?_ ?_
 ·refine ⟨?_,?_⟩
  ·(try dsimp only)<;>(first|omega|rfl|assumption|(simp; done))
  (try dsimp only)<;>(first|omega|rfl|assumption|(simp; done))
 intro gh N0 Gl0 hN0 hGl0 hF0
 obtain ⟨k,f⟩:=gh; dsimp only at hF0 hN0 ⊢
 obtain ⟨hk,ef⟩:=hF0
 have hsR7:=hsR7.mono hGl0
 refine .g (cP rfl rfl rfl rfl (.g (cD rfl (fun c1=>?_) (fun c1=>?_))))
 ·have c1k:=c1
  try simp only [aC,aD] at c1
  refine .skip (.code (.seq (.block (rZ rfl rfl (mV rfl rfl (mV rfl rfl (mV rfl rfl (ih rfl .no aI (.u rfl) (.u rfl) (by omega) (by omega) (fun _=>hsR7.nn (k:=k) (by omega)) ?_))))))))
  refine lN rfl aZ rfl ((hsR7.yat (k) (by omega) (by omega)).rd) ?_
  refine iW rfl aCM rfl rfl ?_
  refine s1 rfl (.u rfl) (.u rfl) rfl gQ .here (by first|decide|(simp only [bV,bT,bM]; omega)) (by first|exact cY (k) (by omega)|exact iH (k) (by omega)|exact mJ (k) (by omega) (by omega)|rfl) ?_
  refine .g (aW (((k+1):Nat):Int) rfl rfl rfl rfl ?_)
  refine .g (aP (k+1,upd f k (L7.getD k 0)) ?_ ?_ ?_ ?_ ?_)
  ·exact (aK rfl (aA rfl (aA rfl (aA rfl eZ))))
  ·exact (mS .here rfl (mS .here rfl mN))
  ·first|omega|(dsimp only; omega)
  ·exact hGl0
  refine ⟨?_,?_⟩
  ·(try dsimp only)<;>(first|omega|rfl|assumption|(simp; done))
  (try dsimp only)<;>(exact wZ ef (by rw [eL7]; exact aMr (by omega)))
 have c1k:=c1
 try simp only [aC,aD] at c1
 refine .g (lB rfl tP rfl .here ?_)
 refine sW rfl rfl rfl rfl aKx aE ?_
 refine .nil (.code (.ret (aM Tryz.results41 (.cell rfl (fun w hw=>bI tP (RdN.own .here) ((by first|exact qE|exact qL|rfl)) hw) .nil) ?_)))
 obtain rfl:k=8:=by omega
 exact ⟨rfl,by rw [ef,iG (fun i hi=>aHR n hi)]; rfl⟩
theorem aD1 (h:Hd) (G:PM):Ct Tryz.prog 42 ([.agg ([V h.kind,V h.level,uv .u64 h.gen,uv .u64 h.epoch,uv .u64 h.num]:List Value).toArray]:List Value).toArray G [] (PR 5 (fun L=>L=cC h)):=by
 refine Ct.of Tryz.func42 rfl Tryz.ntmps42 rfl fun w0 hs0=>?_
 refine .seq (bJ rfl rfl ?_)
 refine bX rfl rfl rfl ?_; intro b1
 refine .g (fZ rfl tS rfl (lO rfl aZ rfl .here (by first|exact aJ rfl|rfl) ?_))
 refine fZ rfl vL rfl (lO rfl aZ rfl .here (by first|exact aJ rfl|rfl) ?_)
 refine Go.Tan.bN rfl aI bF (Evp.cons (.u rfl) (Evp.cons (.u rfl) (Evp.cons (.u rfl) (Evp.cons (.u rfl) (Evp.cons (.u rfl) (Evp.cons (.u rfl) Evp.nil)))))) rfl (by decide) (aOP rfl rfl rfl rfl rfl rfl) ?_; intro b8
 refine aS rfl rfl (.nc (.seq (aCB [116#8,97#8,110#8,116#8,h.kind,h.level] 6 .here rfl rfl (by decide) ?_)))
 have lR8:([116#8,97#8,110#8,116#8,h.kind,h.level]:List Y).length=6:=rfl
 refine .g (fZ rfl vM rfl (lO rfl bD rfl aE (by first|exact aJ rfl|rfl) ?_))
 refine kc rfl uC (aB rfl (aB rfl aF)) (Ct.frzB (sU _ 8 _ (by decide))) ?_
 rintro _ G12 μ12 hG12 ⟨h12,L12,eL12,rfl,rfl,hs12⟩
 have lL12:L12.length=8:=by rw [eL12]; exact fI _ _
 refine dC rfl aI bF (.u rfl) (.u rfl) .here hs12.sc (by (try simp only [bM,bK]); omega) ?_
 intro v13 L13 ov13 eL13
 have lL13:L13.length=[116#8,97#8,110#8,116#8,h.kind,h.level].length+L12.length:=by rw [eL13,List.length_append]
 refine .g (fZ rfl aCO rfl (lO rfl bD rfl aE (by first|exact aJ rfl|rfl) ?_))
 refine kc rfl uC (aB rfl (aB rfl aF)) (Ct.frzB (sU _ 8 _ (by decide))) ?_
 rintro _ G17 μ17 hG17 ⟨h17,L17,eL17,rfl,rfl,hs17⟩
 have lL17:L17.length=8:=by rw [eL17]; exact fI _ _
 refine dC rfl aI bF (.u rfl) (.u rfl) .here hs17.sc (by (try simp only [bM,bK]); omega) ?_
 intro v18 L18 ov18 eL18
 have lL18:L18.length=L13.length+L17.length:=by rw [eL18,List.length_append]
 refine .g (fZ rfl aCP rfl (lO rfl bD rfl aE (by first|exact aJ rfl|rfl) ?_))
 refine kc rfl uC (aB rfl (aB rfl aF)) (Ct.frzB (sU _ 8 _ (by decide))) ?_
 rintro _ G22 μ22 hG22 ⟨h22,L22,eL22,rfl,rfl,hs22⟩
 have lL22:L22.length=8:=by rw [eL22]; exact fI _ _
 refine dC rfl aI bF (.u rfl) (.u rfl) .here hs22.sc (by (try simp only [bM,bK]); omega) ?_
 intro v23 L23 ov23 eL23
 have lL23:L23.length=L18.length+L22.length:=by rw [eL23,List.length_append]
 refine aS rfl rfl (.nc (.seq (bJ rfl rfl (mV rfl rfl (aS rfl rfl (.nc (.ret (We.fin Tryz.results42 (.tmp rfl .nil) (mS .here rfl mN) ?_))))))))
 exact ⟨L23,by rw [eL23,eL18,eL13,eL12,eL17,eL22]; rfl,rfl⟩
theorem aNq {G:PM} {b T:Nat} {hk h1:Sh} {key L1:List Y} (hle:PM.le G (G.add b (cl [h1.val L1.length] T))) (hsk:SlR G 1 aQ hk key) (hs:SlR G 1 aQ h1 L1) (hK:RdNP G 1 0 (wa 64 kW)) (hlk:key.length≤140737488351232) (hl:L1.length≤1000000000000000) :
  Ct Tryz.prog 131 ([hk.val key.length,.slice (some ⟨b,0,none⟩) 1 1]:List Value).toArray (G.add b (cl [h1.val L1.length] T)) [] (fun _ μ' u=>μ'=[]∧u=.agg (ba 32 (pK key L1)).toArray):=by
 have h:=aDU key hk [(h1,L1)] ⟨some ⟨b,0,none⟩,1⟩ _ (hsk.mono hle) (SlP.one hle hs) (hK.mono hle) hlk (by simpa [cV] using hl) (by simp)
 rw [show cV [(h1,L1)]=L1 by simp [cV]] at h
 exact h
theorem aJ5 (salt:List Y) (hk:Sh) (xs:List Y) (h:Sh) (G:PM) (hsk:SlR G 1 aQ hk salt) (hs:SlR G 1 aQ h xs) (hK:RdNP G 1 0 (wa 64 kW)) (hlk:salt.length≤140737488351232) (hl:xs.length≤1000000000000000):Ct Tryz.prog 107 ([hk.val salt.length,h.val xs.length]:List Value).toArray G [] (fun _ μ' u=>μ'=[]∧u=.agg (ba 32 (pK salt xs)).toArray):=by
 refine Ct.of Tryz.func107 rfl Tryz.ntmps107 rfl fun w0 hs0=>?_
 refine .seq (aL rfl rfl ?_)
 refine al rfl fQ ?_; intro b4
 refine .nil (.code (.seq (pW rfl rfl (mV rfl rfl (mV rfl rfl ?_)))))
 refine Go.Tan.b1 rfl jB mR (.u rfl) rfl rfl (by decide) ?_; intro b7
 refine kp rfl .no aEj (aB rfl (aB rfl aF)) (Gp.add .here Gp.nil) (fun _ hle hq=>aNq hle hsk hs hK hlk hl) ?_
 refine sW rfl rfl rfl rfl fB aE ?_
 refine .nil (.code (.ret (aM Tryz.results107 (.cell rfl (fun w hw=>bI dY (RdN.own .here) ((by first|exact qE|exact qL|rfl)) hw) .nil) ?_)))
 exact ⟨rfl,rfl⟩
theorem SlP.three {G:PM} {b T:Nat} {h1 h2 h3:Sh} {L1 L2 L3:List Y} (hle:PM.le G (G.add b (cl [h1.val L1.length,h2.val L2.length,h3.val L3.length] T))) (hs:SlR G 1 aQ h1 L1) (hs2:SlR G 1 aQ h2 L2) (hs3:SlR G 1 aQ h3 L3) :
  SlP (G.add b (cl [h1.val L1.length,h2.val L2.length,h3.val L3.length] T)) ⟨some ⟨b,0,none⟩,3⟩ [(h1,L1),(h2,L2),(h3,L3)] :=
 ⟨lR (T:=T) (gI _ _ _) (fun _ _=>rfl) (by simp),fun p hp=>by
  simp only [List.mem_cons,List.not_mem_nil,or_false] at hp
  rcases hp with rfl|rfl|rfl
  ·exact hs.mono hle
  ·exact hs2.mono hle
  ·exact hs3.mono hle⟩
theorem aNr {G:PM} {b c T T' E lo:Nat} {hk hu s:Sh} {key use L:List Y} {y:Y} (hsk:SlR G 1 aQ hk key) (hsu:SlR G 1 aQ hu use) (hK:RdNP G 1 0 (wa 64 kW)) (hlo:lo≤L.length) (hlk:key.length≤140737488351232) (hl:L.length+use.length≤100000000000000) :
  Ct Tryz.prog 131 ([hk.val key.length,.slice (some ⟨c,0,none⟩) 3 3]:List Value).toArray G [rB (s.val L.length) E L,.blk b (cl [V y] T),.blk c (cl [(s.cut lo 1).val (L.length-lo),hu.val use.length,.slice (some ⟨b,0,none⟩) 1 1] T')]
   (fun _ μ' u=>∃ ν,μ'=rB (s.val L.length) E L :: ν∧∃ ν2,ν=.blk b (cl [V y] T) :: ν2∧∃ ν3,ν2=.blk c (cl [(s.cut lo 1).val (L.length-lo),hu.val use.length,.slice (some ⟨b,0,none⟩) 1 1] T') :: ν3∧ν3=[]∧u=.agg (ba 32 (pK key (L.drop lo++use++[y]))).toArray) :=
 aCK (fun s' G2 hle hv hs=>aEX (fun h1=>aEX (fun h2=>by
  obtain rfl:=aLG hv
  have e1:SlR G2 1 aQ (s.cut lo 1) (L.drop lo):=by
   have:=hs.cutn (lo:=lo) (m:=L.length-lo) (by omega)
   rwa [List.take_of_length_le (by simp)] at this
  have e2:SlR (G2.add b (cl [V y] T)) 1 aQ ⟨some ⟨b,0,none⟩,1⟩ [y]:=lR (T:=T) (gI _ _ _) (fun _ _=>rfl) (by simp)
  have e3:L.length-lo=(L.drop lo).length:=by simp
  rw [e3] at h2 ⊢
  have hP:=SlP.three (h1:=s.cut lo 1) (h2:=hu) (h3:=⟨some ⟨b,0,none⟩,1⟩) h2 (e1.mono h1) ((hsu.mono hle).mono h1) e2
  have h:=aDU key hk _ ⟨some ⟨c,0,none⟩,3⟩ _ (((hsk.mono hle).mono h1).mono h2) hP (((hK.mono hle).mono h1).mono h2) hlk (by simp [cV]; omega) (by simp)
  rw [show cV [((s.cut lo 1),L.drop lo),(hu,use),((⟨some ⟨b,0,none⟩,1⟩ : Sh),[y])]=L.drop lo++use++[y] by simp [cV]] at h
  exact h)))
theorem aJ4 (key:List Y) (hk:Sh) (use:List Y) (hu:Sh) (G:PM) (hsk:SlR G 1 aQ hk key) (hsu:SlR G 1 aQ hu use) (hK:RdNP G 1 0 (wa 64 kW)) (hlk:key.length≤1000) (hl:use.length≤1000000):Ct Tryz.prog 108 ([hk.val key.length,hu.val use.length,.int .i64 ((64:Nat):Int)]:List Value).toArray G [] (fun G' μ' u=>∃ s L,L=oI key use 2∧μ'=[]∧u=.tuple #[s.val L.length,.int .i64 0]∧SlR G' 1 aQ s L):=by
 refine Ct.of Tryz.func108 rfl Tryz.ntmps108 rfl fun w0 hs0=>?_
 refine .g (cP rfl rfl rfl rfl (mV rfl rfl (mv rfl (.f rfl rfl) (.u rfl) (cp rfl (.f rfl rfl) (.s rfl) (.u rfl) rfl (cK rfl .no (.u rfl) (.s rfl) (.g (cD rfl (fun c1=>?_) (fun c1=>?_))))))))
 ·have c1k:=c1
  exact absurd c1 (by decide)
 have c1k:=c1
 try simp only [aC,aD] at c1
 refine .g (aW (((64+32):Nat):Int) rfl rfl rfl rfl ?_)
 refine wW (0) ((64+32)) rfl aI bF (.u rfl) (.u rfl) (by first|rfl|omega) (by first|rfl|omega) (by omega) (by omega) ?_; intro b19
 have lR19:(List.replicate (0) (0#8:Y)).length=0:=List.length_replicate
 refine aS rfl rfl (.nc (.seq (.seq (aL rfl rfl (aS rfl rfl (.nc (.block ?_)))))))
 refine aV (α:=Nat×Value×List Y) (fun gh=>[(8,true,gh.2.1),(9,true,V (BitVec.ofNat 8 (gh.1+1)))]) (fun gh=>[rB gh.2.1 5 gh.2.2])
  (fun gh Gl=>(gh.1≤2)∧(gh.2.2=oI key use gh.1)) (fun gh=>2-gh.1) (0,_,_) [(0,true,_),(1,true,_),(2,true,_)] []
  (aA rfl (aA rfl (aA rfl (aA rfl (aA rfl eZ)))))
  (mS .here rfl mN) ?_ ?_
 ·refine ⟨?_,?_⟩
  ·(try dsimp only)<;>(first|omega|rfl|assumption|(simp; done))
  (try dsimp only)<;>(rfl)
 intro gh N0 Gl0 hN0 hGl0 hF0
 obtain ⟨j,v,L⟩:=gh; dsimp only at hF0 hN0 ⊢
 obtain ⟨hj,eL⟩:=hF0
 have hsk:=hsk.mono hGl0
 have hsu:=hsu.mono hGl0
 have hK:=hK.mono hGl0
 have lL:L.length=32*j:=by rw [eL,uL]
 refine .g (lr rfl .no bU (.u rfl) .here ?_)
 refine .p (cP rfl rfl rfl rfl (.g (cD rfl (fun c2=>?_) (fun c2=>?_))))
 ·have c2k:=c2
  try simp only [aC,aD] at c2
  refine .skip (.code (.seq (.block (.seq ?_))))
  refine aAV .here ?_; intro sR19 bbR19 evR19 lcR19 oaR19; subst evR19
  refine .g (lr rfl .no bU (.u rfl) .here ?_)
  refine aR rfl rfl rfl rfl ?_
  refine mAq ((32*j-32:Nat):Int) rfl (.u rfl) (.u rfl) (by split<;>omega) ?_
  refine sd rfl .no aI (.u rfl) (.u rfl) (by omega) (by omega) ?_
  refine mV rfl rfl (mV rfl rfl ?_)
  refine Go.Tan.b1 rfl aI bF (.u rfl) rfl rfl (by decide) ?_; intro b35
  refine Go.Tan.bN rfl jB mR (Evp.cons (.u rfl) (Evp.cons (.u rfl) (Evp.cons (.u rfl) Evp.nil))) rfl (by decide) (by simp [Value.oneCell',Sh.val]) ?_; intro b36
  refine ka rfl (.inr rfl) aEj (aB rfl (aB rfl aF)) (aHM aN aE .here) (aNr (lo:=32*j-32) hsk hsu hK (by omega) (by omega) (by omega)) ?_
  rintro _ G37 μ37 hG37 ⟨_,rfl,_,rfl,_,rfl,rfl,rfl⟩
  refine al rfl fQ ?_; intro b10
  refine sW rfl rfl rfl rfl fB .here ?_
  refine .g (lG rfl .no fU (.u rfl) (dC rfl aI bF (.u rfl) (.u rfl) aE (Sc.arr .here) (by (try simp only [bM,bK]); omega) ?_))
  intro v40 L40 ov40 eL40
  have lL40:L40.length=L.length+32:=by rw [eL40,List.length_append]; first|rfl | simp [bK]
  refine .g (bw (k:=.u8) (b:=1#8) rfl .no rfl (.u rfl) (.u rfl) rfl (.g (aP (j+1,v40,L40) ?_ ?_ ?_ ?_ ?_)))
  ·exact (aA rfl (cI rfl (by show V (BitVec.ofNat 8 (j+1)+1#8)=_; rw [← BitVec.ofNat_add]) (aA rfl (aA rfl (aA rfl eZ)))))
  ·exact (mS .here rfl mN)
  ·first|omega|(dsimp only; omega)
  ·exact (hGl0).trans hG37
  refine ⟨?_,?_⟩
  ·(try dsimp only)<;>(first|omega|rfl|assumption|(simp; done))
  (try dsimp only)<;>(rw [eL40,eL,aMl]; rfl)
 have c2k:=c2
 try simp only [aC,aD] at c2
 refine .exit (.xcode (.xlp (.xblk (.code (.seq ?_)))))
 refine iP .here (by first|(intro b hb; cases hb; done) | simp [keys,Res.keys]) ?_; intro GfR19 hR19 hleR19 evR19 hsR19; subst evR19
 refine gL rfl rfl (mV rfl rfl (mV rfl rfl (mV rfl rfl ?_)))
 refine kM 64 rfl aI hsR19 (.u rfl) (.u rfl) (.u rfl) (by omega) ?_; intro h44 L44 eL44 lL44 hs44
 refine aS rfl rfl (aS rfl rfl (.nc (.ret (aM Tryz.results108 (.tmp rfl (.tmp rfl .nil)) ?_))))
 obtain rfl:j=2:=by omega
 exact ⟨h44,L44,by rw [eL44,eL]; exact List.take_of_length_le (by rw [uL]; omega),rfl,rfl,hs44⟩
theorem yY:iD Tryz.prog 80=some (ba 32 (fun _=>0#8)++ba 32 (fun _=>0#8)):=by kernel_rfl
theorem aSs:aU Tryz.prog 107=true:=by kernel_rfl
theorem aSt:aU Tryz.prog 108=true:=by kernel_rfl
theorem aSg:eS Tryz.prog 80 [0,1]=some (ba 32 (fun _=>0#8)++ba 32 (fun _=>0#8),[(0,32),(32,32)]):=by kernel_rfl
theorem aAt:dL Tryz.prog 80=some 64:=by kernel_rfl
theorem gO:dJ Tryz.prog 28=some (some 5):=by kernel_rfl
theorem aCS:aU Tryz.prog 13=true:=by kernel_rfl
theorem aTa:aU Tryz.prog 73=true:=by kernel_rfl
theorem aSm:jF Tryz.prog 3 5=some .u8:=by kernel_rfl
theorem aSw:aU Tryz.prog 116=true:=by kernel_rfl
theorem aEq:aU Tryz.prog 42=true:=by kernel_rfl
theorem aTf:aU Tryz.prog 82=true:=by kernel_rfl
theorem aJ2 (root:Nat→Y) (use:List Y) (hu:Sh) (G:PM) (hsu:SlR G 1 aQ hu use) (hK:RdNP G 1 0 (wa 64 kW)) (hl:use.length≤1000000):Ct Tryz.prog 73 ([.agg (ba 32 root).toArray,hu.val use.length]:List Value).toArray G [] (fun _ μ' u=>μ'=[]∧u=.agg (ba 32 (gX root use)++ba 32 (gY root use)).toArray):=by
 refine Ct.of Tryz.func73 rfl Tryz.ntmps73 rfl fun w0 hs0=>?_
 refine .seq (bJ rfl rfl ?_)
 refine bX rfl rfl rfl ?_; intro b2
 refine al rfl yY ?_; intro b4
 refine .nil (.code (.seq ?_))
 refine fP aE (by intro b hb; cases hb) ?_; intro Gfb2 hleb2 hbb2
 have hsu:=hsu.mono hleb2
 have hK:=hK.mono hleb2
 refine gL rfl rfl ?_
 refine Go.Tan.bN rfl aI bF (Evp.cons (.u rfl) (Evp.cons (.u rfl) (Evp.cons (.u rfl) (Evp.cons (.u rfl) (Evp.cons (.u rfl) (Evp.cons (.u rfl) (Evp.cons (.u rfl) (Evp.cons (.u rfl) Evp.nil)))))))) rfl (by decide) (by simp [Value.oneCell',Sh.val]) ?_; intro b8
 refine mkS aAJ rfl rfl aEb (.u rfl) .here rfl rfl (by decide) ?_; intro G9 hG9 hs9
 have hsu:=hsu.mono hG9
 have hK:=hK.mono hG9
 have hbb2:=hbb2.mono hG9
 refine kA rfl .no fU (.u rfl) hbb2 (by first|exact oG|exact mT|exact oE) ?_; intro h10 L10 eL10 lL10 hs10
 refine kV rfl aSs (aB rfl (aB rfl aF)) (aJ5 aAJ _ L10 h10 _ hs9 hs10 hK (by decide) (by omega)) ?_
 refine al rfl fQ ?_; intro b5
 refine sW rfl rfl rfl rfl fB .here ?_
 refine .nil (.code (.seq ?_))
 refine fP .here (by intro b hb; cases hb) ?_; intro Gfb5 hleb5 hbb5
 have hsu:=hsu.mono hleb5
 have hK:=hK.mono hleb5
 refine xL rfl rfl ?_
 refine kA rfl .no fU (.u rfl) hbb5 (by first|exact oG|exact mT|exact oE) ?_; intro h13 L13 eL13 lL13 hs13
 refine .p (kc rfl aSt (aB rfl (aB rfl (aB rfl aF))) (aJ4 L13 h13 use hu _ hs13 hsu hK (by omega) hl) ?_)
 rintro _ G15 μ15 hG15 ⟨h15,L15,eL15,rfl,rfl,hs15⟩
 refine .p (eX rfl rfl rfl (eX rfl rfl rfl (aS rfl rfl ?_)))
 have lL15:L15.length=64:=by rw [eL15,uL]
 refine .g (bA (mc:=⟨false,false⟩) [0,1,2,3,4,5,6,7,8,9] aX (by kernel_rfl) ?_)
 refine .p (kE (32) rfl .no aI hs15 (.u rfl) (.u rfl) (by omega) (by omega) ?_)
 intro h19 L19 eL19 lL19 hs19
 have lL19:=lL19 rfl
 refine spS rfl .no tQ hs19 (.u rfl) (by omega) (by decide) ?_
 refine lA rfl .no yG (.u rfl) (fun _=>(hs19.arr (m:=32) (by omega)).rd) (fun _=>bT _ _) ?_
 refine .p (kD (32) rfl .no aI hs15 (.u rfl) (.u rfl) (by omega) (by omega) ?_)
 intro h23 L23 eL23 lL23 hs23
 have lL23:=lL23 rfl
 refine spS rfl .no tQ hs23 (.u rfl) (by omega) (by decide) ?_
 refine lA rfl .no yG (.u rfl) (fun _=>(hs23.arr (m:=32) (by omega)).rd) (fun _=>bT _ _) ?_
 refine dK (ba 32 (fun i=>L19.getD i 0)++ba 32 (fun i=>L23.getD i 0)) rfl .no aSg (.cons (.u rfl) rfl (.cons (.u rfl) rfl .nil)) rfl (aNY (by decide) _ _) ?_
 refine sw rfl (.u rfl) (.u rfl) rfl aAt .here (by first|exact qE|exact qL|rfl) (wQ _ _) ?_
 refine .nil (.code (.ret (aM Tryz.results73 (.cell rfl (fun w hw=>bI qY (RdN.own .here) ((by first|exact qE|exact qL|rfl)) hw) .nil) ?_)))
 have e:L15=sR root use:=by rw [eL15,eL13,eL10]; rfl
 exact ⟨rfl,congrArg (fun z=>Value.agg (List.toArray z)) (aNX e eL19 eL23)⟩
theorem aK3 (root:Nat→Y) (h:Hd) (G:PM) (hK:RdNP G 1 0 (wa 64 kW)):Ct Tryz.prog 29 ([.agg (ba 32 root).toArray,.agg ([V h.kind,V h.level,uv .u64 h.gen,uv .u64 h.epoch,uv .u64 h.num]:List Value).toArray]:List Value).toArray G [] (fun _ μ' u=>μ'=[]∧u=.agg (ba 32 (gX root (cC h))++ba 32 (gY root (cC h))).toArray):=by
 refine Ct.of Tryz.func29 rfl Tryz.ntmps29 rfl fun w0 hs0=>?_
 refine .seq (dU rfl rfl ?_)
 refine bX rfl rfl rfl ?_; intro b2
 refine bX rfl rfl rfl ?_; intro b3
 refine al rfl yY ?_; intro b4
 refine .g (bA (mc:=⟨false,false⟩) [0,1,2,3,4] aX (by kernel_rfl) ?_)
 refine lB rfl dY rfl aN ?_
 refine lB rfl gO rfl aE ?_
 refine kc rfl aCS (aB rfl aF) (Ct.frzB (aBh h _)) ?_
 rintro _ G7 μ7 hG7 ⟨h7,L7,eL7,rfl,rfl,hs7⟩
 have hK:=hK.mono hG7
 refine kV rfl aTa (aB rfl (aB rfl aF)) (aJ2 root L7 h7 _ hs7 hK (by rw [eL7,lD]; decide)) ?_
 refine sw rfl (.u rfl) (.u rfl) rfl aAt .here (by first|exact qE|exact qL|rfl) (wQ _ _) ?_
 refine .nil (.code (.ret (aM Tryz.results29 (.cell rfl (fun w hw=>bI qY (RdN.own .here) ((by first|exact qE|exact qL|rfl)) hw) .nil) ?_)))
 subst eL7
 exact ⟨rfl,rfl⟩
theorem aPL (key:List Y) (hk:Sh) (use:List Y) (hu:Sh) (G:PM) (hsk:SlR G 1 aQ hk key) (hsu:SlR G 1 aQ hu use) (hR:RdNP G 0 0 (wa 64 kW)) (hlk:key.length≤1000) (hl:use.length≤1000000):Ct Tryz.prog 116 ([hk.val key.length,hu.val use.length,.int .i64 ((64:Nat):Int)]:List Value).toArray G [] (fun G' μ' u=>∃ s L,L=oI key use 2∧μ'=[]∧u=.tuple #[s.val L.length,.int .i64 0]∧SlR G' 1 aQ s L):=by
 refine Ct.of Tryz.func116 rfl Tryz.ntmps116 rfl fun w0 hs0=>?_
 refine .g (cP rfl rfl rfl rfl (mV rfl rfl (mv rfl (.f rfl rfl) (.u rfl) (cp rfl (.f rfl rfl) (.s rfl) (.u rfl) rfl (cK rfl .no (.u rfl) (.s rfl) (.g (cD rfl (fun c1=>?_) (fun c1=>?_))))))))
 ·have c1k:=c1
  exact absurd c1 (by decide)
 have c1k:=c1
 try simp only [aC,aD] at c1
 refine .skip (.code (.seq (aL rfl rfl (aS rfl rfl (.nc (.seq (sD 5 ?_)))))))
 refine aL rfl rfl (aS rfl rfl (.nc (.seq (.seq (sD 5 ?_)))))
 refine aL rfl rfl (aS rfl rfl (.nc (.block ?_)))
 refine aV (α:=Nat×Value×List Y×Value×List Y) (fun gh=>[(8,true,gh.2.1),(9,true,gh.2.2.2.1),(10,true,.int .i64 ((gh.1+1:Nat):Int))]) (fun gh=>[rB gh.2.2.2.1 5 gh.2.2.2.2,rB gh.2.1 5 gh.2.2.1])
  (fun gh Gl=>(gh.1≤2)∧(gh.2.2.1=oI key use gh.1)∧(gh.2.2.2.2=rP key use gh.1)) (fun gh=>2-gh.1) (0,.slice none 0 0,[],.slice none 0 0,[]) [(0,true,_),(1,true,_),(2,true,_)] []
  (aA rfl (aA rfl (aK rfl (aA rfl (aA rfl (aA rfl eZ))))))
  (mS .here rfl (mS .here rfl mN)) ?_ ?_
 ·refine ⟨?_,?_,?_⟩
  ·(try dsimp only)<;>(first|omega|rfl|assumption|(simp; done))
  ·(try dsimp only)<;>(rfl)
  (try dsimp only)<;>(rfl)
 intro gh N0 Gl0 hN0 hGl0 hF0
 obtain ⟨j,v,A,u,B⟩:=gh; dsimp only at hF0 hN0 ⊢
 obtain ⟨hj,eA,eB⟩:=hF0
 have hsk:=hsk.mono hGl0
 have hsu:=hsu.mono hGl0
 have hR:=hR.mono hGl0
 have lA:A.length=32*j:=by rw [eA,uL]
 have lB:B.length≤32:=by rw [eB]; exact aMm _ _ _
 refine .g (lr rfl .no bU (.u rfl) aE ?_)
 refine .p (cP rfl rfl rfl rfl (.g (cD rfl (fun c2=>?_) (fun c2=>?_))))
 ·have c2k:=c2
  try simp only [aC,aD] at c2
  refine .skip (.code (.seq (.block (.seq ?_))))
  refine aAV .here ?_; intro sRB bbRB evRB lcRB oaRB; subst evRB
  refine gK rfl rfl ?_
  refine oF rfl aI ?_; intro b25
  refine .p (oD rfl aI bF (.u rfl) (.u rfl) .here (aCb aE oaRB) (show B.length≤140737488355328 by omega) ?_)
  intro v27 L27 _ ov27 eL27
  have lL27:L27.length=B.length:=by rw [eL27]
  refine .g (dC rfl aI bF (.u rfl) (.u rfl) .here hsu.sc (by (try simp only [bM,bK]); omega) ?_)
  intro v30 L30 ov30 eL30
  have lL30:L30.length=L27.length+use.length:=by rw [eL30,List.length_append]
  refine .g (ci rfl .no rfl aSm (.u rfl) ?_)
  refine Go.Tan.b1 rfl aI bF (.u rfl) rfl rfl (by decide) ?_; intro b34
  refine dC rfl aI bF (.u rfl) (.u rfl) aE (Sc.one .here) (by show _+1≤_; omega) ?_
  intro v35 L35 ov35 eL35
  have lL35:L35.length=L30.length+1:=by rw [eL35,List.length_append]; first|rfl | simp [bK]
  refine aS rfl rfl (.nc (.seq ?_))
  refine iP .here (by first|(intro b hb; cases hb; done) | simp [keys,Res.keys]) ?_; intro GfR27 hR27 hleR27 evR27 hsR27; subst evR27
  have hsk:=hsk.mono hleR27
  have hR:=hR.mono hleR27
  refine .g (kV rfl aEg (aB rfl (aB rfl aF)) (aDz key hk L35 _ _ hsk hsR27 hR hlk (by omega)) ?_)
  refine al rfl fQ ?_; intro b12
  refine sW rfl rfl rfl rfl fB .here ?_
  refine .nil (.code (.seq (gK rfl rfl ?_)))
  refine oF rfl aI ?_; intro b39
  refine lG rfl .no fU (.u rfl) (oD rfl aI bF (.u rfl) (.u rfl) .here (Sc.arr aE) (Nat.le_trans (Nat.le_of_eq (bK 32 _)) (by decide)) ?_)
  intro v41 L41 _ ov41 eL41
  have lL41:L41.length=32:=by rw [eL41]; first|rfl | simp [bK]
  refine aS rfl rfl (.nc ?_)
  refine aAV .here ?_; intro sRB bbRB evRB lcRB oaRB; subst evRB
  refine .g (dC rfl aI bF (.u rfl) (.u rfl) cJ (aCb .here oaRB) (by (try simp only [bM,bK]); omega) ?_)
  intro v44 L44 ov44 eL44
  have lL44:L44.length=A.length+L41.length:=by rw [eL44,List.length_append]
  refine .g (cQ (((((j+1:Nat))+1):Nat):Int) rfl .no (.u rfl) (.u rfl) rfl (by omega) (fun _=>bO (by omega) (by omega)) ?_)
  refine .g (aP (j+1,v44,L44,sRB.val L41.length,L41) ?_ ?_ ?_ ?_ ?_)
  ·exact (aA rfl (aA rfl (aK rfl (aA rfl (aA rfl (aA rfl eZ))))))
  ·exact (mS aE rfl (mS .here rfl mN))
  ·first|omega|(dsimp only; omega)
  ·exact (hGl0).trans hleR27
  refine ⟨?_,?_,?_⟩
  ·(try dsimp only)<;>(first|omega|rfl|assumption|(simp; done))
  ·(try dsimp only)<;>(rw [eL44,eA,eL41,eL35,eL30,eL27,eB]; exact aMn _ _ _)
  (try dsimp only)<;>(rw [eL41,eL35,eL30,eL27,eB]; exact aF6 _ _ _)
 have c2k:=c2
 try simp only [aC,aD] at c2
 refine .exit (.xcode (.xlp (.xblk (.code (.seq ?_)))))
 refine iP aE (by first|(intro b hb; cases hb; done) | simp [keys,Res.keys]) ?_; intro GfRA hRA hleRA evRA hsRA; subst evRA
 refine .g (kE (64) rfl .no aI hsRA (.u rfl) (.u rfl) (by omega) (by omega) ?_)
 intro h47 L47 eL47 lL47 hs47
 have lL47:=lL47 rfl
 refine aS rfl rfl (aS rfl rfl (.nc (.ret (aM Tryz.results116 (.tmp rfl (.tmp rfl .nil)) ?_))))
 obtain rfl:j=2:=by omega
 exact ⟨h47,L47,by rw [eL47,eA]; exact List.take_of_length_le (by rw [uL]; omega),rfl,rfl,hs47⟩
theorem aPI (root:Nat→Y) (use:List Y) (hu:Sh) (G:PM) (hsu:SlR G 1 aQ hu use) (hR:RdNP G 0 0 (wa 64 kW)) (hl:use.length≤1000000):Ct Tryz.prog 82 ([.agg (ba 32 root).toArray,hu.val use.length]:List Value).toArray G [] (fun _ μ' u=>μ'=[]∧u=.agg (ba 32 (gX root use)++ba 32 (gY root use)).toArray):=by
 refine Ct.of Tryz.func82 rfl Tryz.ntmps82 rfl fun w0 hs0=>?_
 refine .seq (bJ rfl rfl ?_)
 refine bX rfl rfl rfl ?_; intro b2
 refine al rfl yY ?_; intro b4
 refine .nil (.code (.seq ?_))
 refine fP aE (by intro b hb; cases hb) ?_; intro Gfb2 hleb2 hbb2
 have hsu:=hsu.mono hleb2
 have hR:=hR.mono hleb2
 refine gL rfl rfl ?_
 refine Go.Tan.bN rfl aI bF (Evp.cons (.u rfl) (Evp.cons (.u rfl) (Evp.cons (.u rfl) (Evp.cons (.u rfl) (Evp.cons (.u rfl) (Evp.cons (.u rfl) (Evp.cons (.u rfl) (Evp.cons (.u rfl) Evp.nil)))))))) rfl (by decide) (by simp [Value.oneCell',Sh.val]) ?_; intro b10
 refine mkS aAJ rfl rfl aEb (.u rfl) .here rfl rfl (by decide) ?_; intro G11 hG11 hs11
 have hsu:=hsu.mono hG11
 have hR:=hR.mono hG11
 have hbb2:=hbb2.mono hG11
 refine kA rfl .no fU (.u rfl) hbb2 (by first|exact oG|exact mT|exact oE) ?_; intro h12 L12 eL12 lL12 hs12
 refine kV rfl aEg (aB rfl (aB rfl aF)) (aDz aAJ _ L12 h12 _ hs11 hs12 hR (by decide) (by omega)) ?_
 refine al rfl fQ ?_; intro b5
 refine sW rfl rfl rfl rfl fB .here ?_
 refine .nil (.code (.seq ?_))
 refine fP .here (by intro b hb; cases hb) ?_; intro Gfb5 hleb5 hbb5
 have hsu:=hsu.mono hleb5
 have hR:=hR.mono hleb5
 refine xL rfl rfl ?_
 refine kA rfl .no fU (.u rfl) hbb5 (by first|exact oG|exact mT|exact oE) ?_; intro h15 L15 eL15 lL15 hs15
 refine .p (kc rfl aSw (aB rfl (aB rfl (aB rfl aF))) (aPL L15 h15 use hu _ hs15 hsu hR (by omega) hl) ?_)
 rintro _ G17 μ17 hG17 ⟨h17,L17,eL17,rfl,rfl,hs17⟩
 refine .p (eX rfl rfl rfl (eX rfl rfl rfl (aS rfl rfl ?_)))
 have lL17:L17.length=64:=by rw [eL17,uL]
 refine aS rfl rfl (.nc (.seq (aL rfl rfl ?_)))
 refine al rfl yY ?_; intro b8
 refine .nil (.code (.seq (.seq (aL rfl rfl (aS rfl rfl (.nc (.block ?_)))))))
 refine aV (α:=Nat) (fun k=>[(9,true,.int .i64 (k:Int))]) (fun k=>[.blk b8 (cl (ba 32 (rQ (fun i=>L17.getD i 0) k)++ba 32 (rQ (fun i=>L17.getD (32+i) 0) k)) 80)])
  (fun k Gl=>(k≤32)) (fun k=>32-k) 0 [(4,true,_),(6,true,_),(8,true,_)] [_]
  (aK rfl (aA rfl (aA rfl (aA rfl eZ))))
  (mS .here rfl (mS .here rfl mN)) ?_ ?_
 ·(try dsimp only)<;>(first|omega|rfl|assumption|(simp; done))
 intro k N0 Gl0 hN0 hGl0 hF0
 try dsimp only at hF0 hN0 ⊢
 have hk:=hF0
 have hs17:=hs17.mono hGl0
 refine .g (cP rfl rfl rfl rfl (.g (cD rfl (fun c1=>?_) (fun c1=>?_))))
 ·have c1k:=c1
  try simp only [aC,aD] at c1
  refine .skip (.code (.seq (.block (.seq (xL rfl rfl (mV rfl rfl (mV rfl rfl (mV rfl rfl (ih rfl .no aI (.u rfl) (.u rfl) (by omega) (by omega) (fun _=>hs17.nn (k:=k) (by omega)) ?_)))))))))
  refine lN rfl aZ rfl ((hs17.yat (k) (by omega) (by omega)).rd) ?_
  refine fZ rfl aEd rfl (iW rfl tQ rfl rfl ?_)
  refine s1 rfl (.u rfl) (.u rfl) rfl gQ .here (by first|decide|(simp only [bV,bT,bM]; omega)) (aLk k (by omega) (by omega)) ?_
  refine .g (aW (((32+k):Nat):Int) rfl rfl rfl rfl ?_)
  refine ih rfl .no aI (.u rfl) (.u rfl) (by omega) (by omega) (fun _=>hs17.nn (k:=(32+k)) (by omega)) ?_
  refine lN rfl aZ rfl ((hs17.yat ((32+k)) (by omega) (by omega)).rd) ?_
  refine fZ rfl aEe rfl (iW rfl tQ rfl rfl ?_)
  refine s1 rfl (.u rfl) (.u rfl) rfl gQ .here (by first|decide|(simp only [bV,bT,bM]; omega)) (aLl k (by omega)) ?_
  refine .g (aW (((k+1):Nat):Int) rfl rfl rfl rfl ?_)
  refine .g (aP (k+1) ?_ ?_ ?_ ?_ ?_)
  ·exact (aK rfl (aA rfl (aA rfl (aA rfl eZ))))
  ·exact (mS .here (by rw [← aGr rfl,←aGr rfl]) (mS .here rfl mN))
  ·first|omega|(dsimp only; omega)
  ·exact hGl0
  (try dsimp only)<;>(first|omega|rfl|assumption|(simp; done))
 have c1k:=c1
 try simp only [aC,aD] at c1
 refine .g (lB rfl qY rfl .here ?_)
 refine sw rfl (.u rfl) (.u rfl) rfl aAt aE (by first|exact qE|exact qL|rfl) (wQ _ _) ?_
 refine .nil (.code (.ret (aM Tryz.results82 (.cell rfl (fun w hw=>bI qY (RdN.own .here) ((by first|exact qE|exact qL|rfl)) hw) .nil) ?_)))
 obtain rfl:k=32:=by omega
 have e:L17=sR root use:=by rw [eL17,eL15,eL12]; rfl
 exact ⟨rfl,congrArg (fun z=>Value.agg (List.toArray z)) (aNW e)⟩
theorem aPP (root:Nat→Y) (h:Hd) (G:PM) (hR:RdNP G 0 0 (wa 64 kW)):Ct Tryz.prog 37 ([.agg (ba 32 root).toArray,.agg ([V h.kind,V h.level,uv .u64 h.gen,uv .u64 h.epoch,uv .u64 h.num]:List Value).toArray]:List Value).toArray G [] (fun _ μ' u=>μ'=[]∧u=.agg (ba 32 (gX root (cC h))++ba 32 (gY root (cC h))).toArray):=by
 refine Ct.of Tryz.func37 rfl Tryz.ntmps37 rfl fun w0 hs0=>?_
 refine .seq (dU rfl rfl ?_)
 refine bX rfl rfl rfl ?_; intro b2
 refine bX rfl rfl rfl ?_; intro b3
 refine al rfl yY ?_; intro b4
 refine .g (bA (mc:=⟨false,false⟩) [0,1,2,3,4] aX (by kernel_rfl) ?_)
 refine lB rfl dY rfl aN ?_
 refine lB rfl gO rfl aE ?_
 refine kc rfl aEq (aB rfl aF) (Ct.frzB (aD1 h _)) ?_
 rintro _ G7 μ7 hG7 ⟨h7,L7,eL7,rfl,rfl,hs7⟩
 have hR:=hR.mono hG7
 refine kV rfl aTf (aB rfl (aB rfl aF)) (aPI root L7 h7 _ hs7 hR (by rw [eL7,lD]; decide)) ?_
 refine sw rfl (.u rfl) (.u rfl) rfl aAt .here (by first|exact qE|exact qL|rfl) (wQ _ _) ?_
 refine .nil (.code (.ret (aM Tryz.results37 (.cell rfl (fun w hw=>bI qY (RdN.own .here) ((by first|exact qE|exact qL|rfl)) hw) .nil) ?_)))
 subst eL7
 exact ⟨rfl,rfl⟩
end Go.Proofs.YtdeobooblmjlfaaGreatDoor
namespace Go.Tan
open Go.RowKit
def dG (kind:Y) (p:List Y):List Y:=dO ((uV (lV 0#32 ([kind]++p))).setWidth 64) 4++dO (BitVec.ofInt 64 (p.length:Int)) 2++[kind]
def qO (n j:Nat):Y:=if j=0 then (if n≤128 then 1#8 else 2#8) else if n-128*j≤128 then 4#8 else 3#8
def aAB (s:List Y):Nat→List Y
 | 0=>[]
 | j+1=>aAB s j++dG (qO s.length j) ((s.drop (128*j)).take 128)++(s.drop (128*j)).take 128
def mF (s:List Y):List Y:=aAB s ((s.length+127) / 128)
theorem kY (kind:Y) (p:List Y):(dG kind p).length=7:=by simp [dG,fI]
theorem aMu (kind:Y) (p:List Y):dO ((uV (lV 0#32 ([kind]++p))).setWidth 64) 4++dO (BitVec.ofInt 64 (p.length:Int)) 2++([kind]++p)=dG kind p++p:=by
 rw [dG,←List.append_assoc]
theorem jW {a b c d e f g k:Value} (h1:a.oneCell'=true) (h2:b.oneCell'=true) (h3:c.oneCell'=true) (h4:d.oneCell'=true) (h5:e.oneCell'=true) (h6:f.oneCell'=true) (h7:g.oneCell'=true) (h8:k.oneCell'=true):∀ u∈[a,b,c,d,e,f,g,k],u.oneCell'=true:=by
 intro u hu
 simp only [List.mem_cons,List.not_mem_nil,or_false] at hu
 rcases hu with rfl|rfl|rfl|rfl|rfl|rfl|rfl|rfl<;>assumption
end Go.Tan
namespace Go.Proofs.YtdeobooblmjlfaaGreatDoor
open Go.Tan Go.RowKit
theorem aTI:aU Tryz.prog 29=true:=by kernel_rfl
theorem aKp:aU Tryz.prog 68=true:=by kernel_rfl
theorem aEn:aU Tryz.prog 31=true:=by kernel_rfl
theorem aTh:aU Tryz.prog 84=true:=by kernel_rfl
theorem aTg:aU Tryz.prog 83=true:=by kernel_rfl
theorem aTL:aU Tryz.prog 37=true:=by kernel_rfl
theorem aTN:aU Tryz.prog 41=true:=by kernel_rfl
theorem aEp:aU Tryz.prog 38=true:=by kernel_rfl
theorem aDn (kind:Y) (p:List Y) (h:Sh) (G:PM) (hs:SlR G 1 aQ h p) (hl:p.length≤1000000):Ct Tryz.prog 38 ([V kind,h.val p.length]:List Value).toArray G [] (PR 5 (fun L=>L=dG kind p++p)):=by
 refine Ct.of Tryz.func38 rfl Tryz.ntmps38 rfl fun w0 hs0=>?_
 refine .seq (aL rfl rfl (aS rfl rfl (.nc (.seq (dU rfl rfl (mV rfl rfl ?_))))))
 refine Go.Tan.b1 rfl aI bF (.u rfl) rfl rfl (by decide) ?_; intro b8
 refine aS rfl rfl (.nc (.seq (aCB [kind] 1 .here rfl rfl (by decide) ?_)))
 have lR8:([kind]:List Y).length=1:=rfl
 refine .g (dC rfl aI bF (.u rfl) (.u rfl) .here hs.sc (by (try simp only [bM,bK]); omega) ?_)
 intro v11 L11 ov11 eL11
 have lL11:L11.length=[kind].length+p.length:=by rw [eL11,List.length_append]
 refine aS rfl rfl (.nc (.seq ?_))
 refine iP .here (by first|(intro b hb; cases hb; done) | simp [keys,Res.keys]) ?_; intro GfR8 hR8 hleR8 evR8 hsR8; try rw [ evR8]
 refine .g (kV rfl aTh (aB rfl (aB rfl aF)) (aPc 0#32 L11 _ _ hsR8 (by omega)) ?_)
 refine kV rfl aTg (aB rfl aF) (aPS _ _) ?_
 refine cu (k:=.u32) rfl .no rfl aKM (.u rfl) ?_
 refine kc rfl uC (aB rfl (aB rfl aF)) (jZ (sU _ 4 _ (by decide))) ?_
 rintro v16 G16 μ16 hG16 ⟨L16,ov16,eL16,rfl⟩
 have hsR8:=hsR8.mono hG16
 refine .g (lE rfl bU rfl (ci rfl .no rfl gG (.u rfl) ?_))
 refine kc rfl uC (aB rfl (aB rfl aF)) (Ct.frzB (sU _ 2 _ (by decide))) ?_
 rintro _ G21 μ21 hG21 ⟨h21,L21,eL21,rfl,rfl,hs21⟩
 have hsR8:=hsR8.mono hG21
 have lL16:L16.length=4:=by rw [eL16]; exact fI _ _
 have lL21:L21.length=2:=by rw [eL21]; exact fI _ _
 refine dC rfl aI bF (.u rfl) (.u rfl) .here hs21.sc (by (try simp only [bM,bK]); omega) ?_
 intro v22 L22 ov22 eL22
 have lL22:L22.length=L16.length+L21.length:=by rw [eL22,List.length_append]
 refine .g (dC rfl aI bF (.u rfl) (.u rfl) .here hsR8.sc (by (try simp only [bM,bK]); omega) ?_)
 intro v25 L25 ov25 eL25
 have lL25:L25.length=L22.length+L11.length:=by rw [eL25,List.length_append]
 refine aS rfl rfl (.nc (.seq (bJ rfl rfl (mV rfl rfl (aS rfl rfl (.nc (.ret (We.fin Tryz.results38 (.tmp rfl .nil) (mS .here rfl mN) ?_))))))))
 exact ⟨L25,by rw [eL25,eL22,eL21,eL16,eL11]; exact aMu _ _,rfl⟩
theorem aKB:eS Tryz.prog 135 [0]=some ([.slice none 0 0,.int .i64 0],[(0,1)]):=by kernel_rfl
theorem yT:xA Tryz.prog 88=true:=by kernel_rfl
theorem rC:cO Tryz.prog 135 1=some 1:=by kernel_rfl
theorem lK:dJ Tryz.prog 36=some none:=by kernel_rfl
theorem kR:cO Tryz.prog 135 0=some 0:=by kernel_rfl
theorem nZ:jF Tryz.prog 5 26=some .u64:=by kernel_rfl
theorem aJm (xs:List Y) (h:Sh) (G:PM) (hs:SlR G 1 aQ h xs) (hl:xs.length≤100000000000000):Ct Tryz.prog 33 ([h.val xs.length]:List Value).toArray G [] (fun G' μ' u=>∃ b s,μ'=[.blk b (cl [Sh.val s xs.length,.int .i64 0] 135)]∧u=.pointer (some ⟨b,0,none⟩)∧SlR G' 1 aQ s xs):=by
 refine Ct.of Tryz.func33 rfl Tryz.ntmps33 rfl fun w0 hs0=>?_
 refine .seq (aL rfl rfl (aS rfl rfl (.nc (.seq (gL rfl rfl ?_)))))
 refine oF rfl aI ?_; intro b3
 refine .p (oD rfl aI bF (.u rfl) (.u rfl) .here hs.sc (by (try simp only [bM,bK]); omega) ?_)
 intro v5 L5 _ ov5 eL5
 have lL5:L5.length=xs.length:=by rw [eL5]
 refine dK ([v5,.int .i64 0]) rfl .no aKB (.cons (.u rfl) (aBD ov5) .nil) rfl (rfl) ?_
 refine bX rfl rfl rfl ?_; intro b7
 refine aS rfl rfl (.nc (.ret ?_))
 refine aJn aE (by first|(intro b hb; cases hb; done) | simp [keys,Res.keys]) ?_; intro GfR5 hR5 hleR5 evR5 hsR5; subst evR5
 refine We.fin Tryz.results33 (.tmp rfl .nil) (mS .here rfl mN) ?_
 subst eL5
 exact ⟨b7,hR5,rfl,rfl,hsR5⟩
theorem aBo (xs:List Y) (s:Sh) (b:Nat) (G:PM) (hs:SlR G 1 aQ s xs) (h8:8≤xs.length) (hl:xs.length≤100000000000000):Ct Tryz.prog 34 ([.pointer (some ⟨b,0,none⟩),.int .i64 ((8:Nat):Int)]:List Value).toArray G [.blk b (cl [s.val xs.length,.int .i64 0] 135)] (fun G' μ' u=>∃ s',μ'=[.blk b (cl [Sh.val s' (xs.drop 8).length,.int .i64 0] 135)]∧u=uv .u64 (cE xs 8)∧SlR G' 1 aQ s' (xs.drop 8)):=by
 refine Ct.of Tryz.func34 rfl Tryz.ntmps34 rfl fun w0 hs0=>?_
 refine .g (pe rfl .no yT (.u rfl) (.u rfl) ?_)
 refine mV rfl rfl (mv rfl (Gd.f (b:=false) rfl rfl) (.u rfl) (nc rfl (Gd.f (b:=false) rfl rfl) (.u rfl) (fz rfl (Gd.f (b:=false) rfl rfl) rC (.u rfl) (ld rfl (Gd.f (b:=false) rfl rfl) lK (.u rfl) (fun _=>Rd.own .here (by first|exact aJ rfl|rfl)) ?_))))
 refine cp rfl (Gd.f (b:=false) rfl rfl) (.u rfl) (.u rfl) rfl (cK rfl .no (.u rfl) (.u rfl) (.g (cD rfl (fun c1=>?_) (fun c1=>?_))))
 ·have c1k:=c1
  exact absurd c1 (by decide)
 have c1k:=c1
 try simp only [aC,aD] at c1
 refine .g (cP rfl rfl rfl rfl (mV rfl rfl (mv rfl (.f rfl rfl) (.u rfl) (cp rfl (.f rfl rfl) (.s rfl) (.u rfl) rfl (cK rfl .no (.u rfl) (.s rfl) (.g (cD rfl (fun c2=>?_) (fun c2=>?_))))))))
 ·have c2k:=c2
  exact absurd c2 (by decide)
 have c2k:=c2
 try simp only [aC,aD] at c2
 refine .g (nC rfl rfl (fZ rfl kR rfl (lO rfl cX rfl .here (by first|exact aJ rfl|rfl) ?_)))
 refine lE rfl bU rfl (cP rfl rfl rfl rfl (.g (cD rfl (fun c3=>?_) (fun c3=>?_))))
 ·have c3k:=c3
  try simp only [aC,aD] at c3
  exfalso; omega
 have c3k:=c3
 try simp only [aC,aD] at c3
 refine .skip (.code (.seq (aL rfl rfl (aS rfl rfl (.nc (.seq (.seq (bJ rfl rfl (mV rfl rfl (mV rfl rfl (.nc (.block ?_))))))))))))
 refine aV (α:=Nat×BitVec 64) (fun gh=>[(5,true,uv .u64 gh.2),(36,true,.int .i64 (gh.1:Int))]) (fun _=>[])
  (fun gh Gl=>(gh.1≤8)∧(gh.2=cE xs gh.1)) (fun gh=>8-gh.1) (0,0#64) [(0,true,_),(1,true,_),(35,true,_)] [_]
  (aA rfl (aK rfl (aA rfl (aA rfl (aA rfl eZ)))))
  (mS .here rfl mN) ?_ ?_
 ·refine ⟨?_,?_⟩
  ·(try dsimp only)<;>(first|omega|rfl|assumption|(simp; done))
  (try dsimp only)<;>(rfl)
 intro gh N0 Gl0 hN0 hGl0 hF0
 obtain ⟨k,m⟩:=gh; dsimp only at hF0 hN0 ⊢
 obtain ⟨hk,em⟩:=hF0
 have hs:=hs.mono hGl0
 refine .g (cP rfl rfl rfl rfl (.g (cD rfl (fun c4=>?_) (fun c4=>?_))))
 ·have c4k:=c4
  try simp only [aC,aD] at c4
  refine .g (nC rfl rfl (fZ rfl kR rfl (lO rfl cX rfl .here (by first|exact aJ rfl|rfl) ?_)))
  refine mV rfl rfl (ih rfl .no aI (.u rfl) (.u rfl) (by omega) (by omega) (fun _=>hs.nn (k:=k) (by omega)) ?_)
  refine lN rfl aZ rfl ((hs.yat (k) (by omega) (by omega)).rd) ?_
  refine cu (k:=.u8) rfl .no rfl nZ (.u rfl) ?_
  refine .p (aW (((8*k):Nat):Int) rfl rfl rfl rfl ?_)
  refine lw (k:=.u64) rfl .no rfl (.u rfl) (.u rfl) (by omega) ?_
  refine bw (k:=.u64) rfl .no rfl (.u rfl) (.u rfl) rfl (.g (aW (((k+1):Nat):Int) rfl rfl rfl rfl ?_))
  refine .g (aP (k+1,m ||| (xs.getD k 0).setWidth 64 <<< (8*k)) ?_ ?_ ?_ ?_ ?_)
  ·exact (aA rfl (aK rfl (aA rfl (aA rfl (aA rfl eZ)))))
  ·exact (mS .here rfl mN)
  ·first|omega|(dsimp only; omega)
  ·exact hGl0
  refine ⟨?_,?_⟩
  ·(try dsimp only)<;>(first|omega|rfl|assumption|(simp; done))
  (try dsimp only)<;>(rw [em]; rfl)
 have c4k:=c4
 try simp only [aC,aD] at c4
 refine .g (nC rfl rfl (fZ rfl kR rfl (lO rfl cX rfl .here (by first|exact aJ rfl|rfl) ?_)))
 refine .p (kD (8) rfl .no aI hs (.u rfl) (.u rfl) (by omega) (by omega) ?_)
 intro h59 L59 eL59 lL59 hs59
 have lL59:=lL59 rfl
 refine nC rfl rfl (fZ rfl kR rfl (s1 rfl (.u rfl) (.u rfl) rfl nH .here (by first|decide|(simp only [bV,bT,bM]; omega)) (rfl) ?_))
 refine .nil (.code (.seq (bJ rfl rfl (mV rfl rfl (aS rfl rfl (.nc (.ret (We.fin Tryz.results34 (.tmp rfl .nil) (mS .here rfl mN) ?_))))))))
 obtain rfl:k=8:=by omega
 exact ⟨h59,by rw [eL59]; rfl,by rw [em]; rfl,by rw [← eL59]; exact hs59⟩
theorem yV:iD Tryz.prog 28=some ([V 0#8,V 0#8,uv .u64 0#64,uv .u64 0#64,uv .u64 0#64]):=by kernel_rfl
theorem aAb:eS Tryz.prog 28 []=some ([V 0#8,V 0#8,uv .u64 0#64,uv .u64 0#64,uv .u64 0#64],[]):=by kernel_rfl
theorem qC:dL Tryz.prog 28=some 5:=by kernel_rfl
theorem aEo:aU Tryz.prog 33=true:=by kernel_rfl
theorem aKE:eS Tryz.prog 28 [0,1]=some ([V 0#8,V 0#8,uv .u64 0#64,uv .u64 0#64,uv .u64 0#64],[(0,1),(1,1)]):=by kernel_rfl
theorem aAj:aU Tryz.prog 34=true:=by kernel_rfl
theorem iS:dL Tryz.prog 26=some 1:=by kernel_rfl
theorem aTZ:aU Tryz.prog 72=true:=by kernel_rfl
theorem aLJ (xs:List Y) (h:Sh) (G:PM) (hs:SlR G 1 aQ h xs) (hl:xs.length≤100000000000000):Ct Tryz.prog 28 ([h.val xs.length]:List Value).toArray G [] (fun _ μ' u=>μ'=[]∧u=.tuple #[.agg (bY xs).1.cells.toArray,.int .i64 (bY xs).2]):=by
 refine Ct.of Tryz.func28 rfl Tryz.ntmps28 rfl fun w0 hs0=>?_
 refine .seq (bJ rfl rfl ?_)
 refine al rfl yV ?_; intro b2
 refine .g (lE rfl bU rfl (cP rfl rfl rfl rfl (.g (cD rfl (fun c1=>?_) (fun c1=>?_)))))
 ·have c1k:=c1
  try simp only [aC,aG,aD] at c1
  refine .g (bC rfl .no aAb .nil rfl ?_)
  refine sw rfl (.u rfl) (.u rfl) rfl qC .here (by first|exact qE|exact qL|rfl) (pR rfl rfl rfl rfl rfl) ?_
  refine aS rfl rfl (.nc (.ret (aM Tryz.results28 (.cell rfl (fun w hw=>bI gO (RdN.own .here) ((by first|exact qE|exact qL|rfl)) hw) (.tmp rfl .nil)) ?_)))
  exact ⟨rfl,by rw [aJT (by omega)]; rfl⟩
 have c1k:=c1
 try simp only [aC,aG,aD] at c1
 refine .g (kS (6) (30) rfl .no aI hs (.u rfl) (.u rfl) (.u rfl) (by omega) (by omega) (by omega) (by omega) ?_)
 intro h11 L11 eL11 lL11 hs11
 have lL11:=lL11 rfl
 refine kc rfl aEo (aB rfl aF) (aJm L11 h11 _ hs11 (by omega)) ?_
 rintro _ G12 μ12 hG12 ⟨b12,xR,rfl,rfl,hsn0⟩
 have hs:=hs.mono hG12
 refine .g (bA (mc:=⟨false,false⟩) [0,1,2,3,4,5,6,7,8] aX (by kernel_rfl) ?_)
 refine mV rfl rfl (ih rfl .no aI (.u rfl) (.u rfl) (by omega) (by omega) (fun _=>hs.nn (k:=4) (by omega)) ?_)
 refine lN rfl aZ rfl ((hs.yat (4) (by omega) (by omega)).rd) ?_
 refine mV rfl rfl (ih rfl .no aI (.u rfl) (.u rfl) (by omega) (by omega) (fun _=>hs.nn (k:=5) (by omega)) ?_)
 refine lN rfl aZ rfl ((hs.yat (5) (by omega) (by omega)).rd) ?_
 refine dK ([V (xs.getD 4 0),V (xs.getD 5 0),uv .u64 0#64,uv .u64 0#64,uv .u64 0#64]) rfl .no aKE (.cons (.u rfl) rfl (.cons (.u rfl) rfl .nil)) rfl (rfl) ?_
 refine al rfl yV ?_; intro b5
 refine sw rfl (.u rfl) (.u rfl) rfl qC .here (by first|exact qE|exact qL|rfl) (pR rfl rfl rfl rfl rfl) ?_
 refine .g (ka rfl (.inr rfl) aAj (aB rfl (aB rfl aF)) (bL aE) (aBo L11 xR _ _ hsn0 (by (try simp only [List.length_drop]); omega) (by (try simp only [List.length_drop]); omega)) ?_)
 rintro _ G21 μ21 hG21 ⟨sn1,rfl,rfl,hsn1⟩
 have hs:=hs.mono hG21
 refine fZ rfl vM rfl (s1 rfl (.u rfl) (.u rfl) rfl iS aE (show 2<5 by decide) (rfl) ?_)
 refine .g (ka rfl (.inr rfl) aAj (aB rfl (aB rfl aF)) (bL aE) (aBo (L11.drop 8) sn1 _ _ hsn1 (by (try simp only [List.length_drop]); omega) (by (try simp only [List.length_drop]); omega)) ?_)
 rintro _ G24 μ24 hG24 ⟨sn2,rfl,rfl,hsn2⟩
 have hs:=hs.mono hG24
 refine fZ rfl aCO rfl (s1 rfl (.u rfl) (.u rfl) rfl iS aE (show 3<5 by decide) (rfl) ?_)
 refine .g (ka rfl (.inr rfl) aAj (aB rfl (aB rfl aF)) (bL aE) (aBo ((L11.drop 8).drop 8) sn2 _ _ hsn2 (by (try simp only [List.length_drop]); omega) (by (try simp only [List.length_drop]); omega)) ?_)
 rintro _ G27 μ27 hG27 ⟨sn3,rfl,rfl,hsn3⟩
 have hs:=hs.mono hG27
 refine fZ rfl aCP rfl (s1 rfl (.u rfl) (.u rfl) rfl iS aE (show 4<5 by decide) (rfl) ?_)
 refine .g (kE (4) rfl .no aI hs (.u rfl) (.u rfl) (by omega) (by omega) ?_)
 intro h30 L30 eL30 lL30 hs30
 have lL30:=lL30 rfl
 refine sB rfl .no mL (.u rfl) (fun _=>hs30.sc) ?_
 refine cs rfl .no (.u rfl) (.u rfl) rfl (.p (lA rfl (.f rfl rfl) gO (.u rfl) (fun _=>RdN.own .here) (fun _=>(by first|exact qE|exact qL|rfl)) ?_))
 refine kv rfl (.f rfl rfl) aTZ (Eva.cons (.s rfl) aF) (fun hc=>aN3 ⟨xs.getD 4 0,xs.getD 5 0,cE L11 8,cE (L11.drop 8) 8,cE ((L11.drop 8).drop 8) 8⟩ _) ?_
 refine nt rfl (.f rfl rfl) (.s rfl) (cK rfl .no (.u rfl) (.s rfl) (.g (cD rfl (fun c2=>?_) (fun c2=>?_))))
 ·have c2k:=c2
  try simp only [aC,aG,aD] at c2
  refine .g (bC rfl .no aAb .nil rfl ?_)
  refine sw rfl (.u rfl) (.u rfl) rfl qC aN (by first|exact qE|exact qL|rfl) (pR rfl rfl rfl rfl rfl) ?_
  refine aS rfl rfl (.nc (.ret (aM Tryz.results28 (.cell rfl (fun w hw=>bI gO (RdN.own .here) ((by first|exact qE|exact qL|rfl)) hw) (.tmp rfl .nil)) ?_)))
  rw [aBV eL11] at c2k
  exact ⟨rfl,by rw [aEF (by omega) (fun hq=>aRg eL30 c2k hq)]; rfl⟩
 have c2k:=c2
 try simp only [aC,aG,aD] at c2
 refine .g (lB rfl gO rfl .here ?_)
 refine sw rfl (.u rfl) (.u rfl) rfl qC aN (by first|exact qE|exact qL|rfl) (pR rfl rfl rfl rfl rfl) ?_
 refine aS rfl rfl (.nc (.ret (aM Tryz.results28 (.cell rfl (fun w hw=>bI gO (RdN.own .here) ((by first|exact qE|exact qL|rfl)) hw) (.tmp rfl .nil)) ?_)))
 rw [aBV eL11] at c2k
 exact ⟨rfl,by rw [aJO (by omega) (aRh eL30 c2k),←aBV eL11]; rfl⟩
theorem aAu:iD Tryz.prog 56=some ([V 0#8,V 0#8,uv .u64 0#64,uv .u64 0#64,uv .u64 0#64,.slice none 0 0,.int .i64 0,.bool false]):=by kernel_rfl
theorem aKJ:eS Tryz.prog 56 [3]=some ([V 0#8,V 0#8,uv .u64 0#64,uv .u64 0#64,uv .u64 0#64,.slice none 0 0,.int .i64 0,.bool false],[(7,1)]):=by kernel_rfl
theorem kF:dL Tryz.prog 56=some 8:=by kernel_rfl
theorem jM:dJ Tryz.prog 56=some (some 8):=by kernel_rfl
theorem aTH:aU Tryz.prog 28=true:=by kernel_rfl
theorem sF:eS Tryz.prog 56 []=some ([V 0#8,V 0#8,uv .u64 0#64,uv .u64 0#64,uv .u64 0#64,.slice none 0 0,.int .i64 0,.bool false],[]):=by kernel_rfl
end Go.Proofs.YtdeobooblmjlfaaGreatDoor
namespace Go.Tan
abbrev Dg:=Nat→Y
def wT (xs:List Y):Dg:=gM (0#8 :: xs)
def nP (a b:Dg):Dg:=gM (1#8 :: (yl 32 a++yl 32 b))
def aF1:Dg:=gM [2#8]
def nR (k n:Nat):Nat→Nat
 | 0=>k
 | f+1=>if k+k<n then nR (k*2) n f else k
def nA (n:Nat):Nat:=nR 1 n n
theorem aHj:∀ (f k n:Nat),0<k→n≤k*2^f→k<n→(∃ a,k=2^a)→(∃ b,nR k n f=2^b)∧nR k n f<n∧n≤nR k n f+nR k n f
 | 0,k,n,h0,hn,hk,ha=>by rw [Nat.pow_zero,Nat.mul_one] at hn; omega
 | f+1,k,n,h0,hn,hk,⟨a,ha⟩=>by
  unfold nR
  split
  ·rename_i h
   refine aHj f (k*2) n (by omega) ?_ (by omega) ⟨a+1,by rw [ha,Nat.pow_succ]⟩
   rw [Nat.pow_succ,Nat.mul_comm (2^f) 2,←Nat.mul_assoc] at hn; exact hn
  exact ⟨⟨a,ha⟩,hk,by omega⟩
theorem aBn {n:Nat} (h:2≤n):(∃ b,nA n=2^b)∧nA n<n∧n≤nA n+nA n :=
 aHj n 1 n (by decide) (by rw [Nat.one_mul]; exact Nat.le_of_lt (Nat.lt_two_pow_self)) (by omega) ⟨0,rfl⟩
theorem aHk {n:Nat} (h:2≤n):0<nA n:=by have:=(aBn h).2.2; omega
theorem aOv {a b n:Nat} (h1:2^a<n) (h2:n≤2^a+2^a) (h3:2^b<n) (h4:n≤2^b+2^b):a=b:=by
 rcases Nat.lt_trichotomy a b with h | h | h
 ·have:=Nat.pow_le_pow_right (n:=2) (by decide) (show a+1≤b by omega)
  rw [Nat.pow_succ] at this; omega
 ·exact h
 ·have:=Nat.pow_le_pow_right (n:=2) (by decide) (show b+1≤a by omega)
  rw [Nat.pow_succ] at this; omega
theorem aOk {a m:Nat} (h0:0<m) (hm:m≤2^a):nA (2^a+m)=2^a:=by
 have hp:0<2^a:=Nat.pow_pos (by decide)
 obtain ⟨⟨b,hb⟩,h1,h2⟩:=aBn (n:=2^a+m) (by omega)
 rw [hb] at h1 h2 ⊢
 rw [aOv h1 h2 (show 2^a<2^a+m by omega) (by omega)]
def fV (l:List Dg):Dg :=
 match l with
 | []=>aF1
 | [d]=>d
 | a :: b :: r=>nP (fV ((a :: b :: r).take (nA (r.length+2)))) (fV ((a :: b :: r).drop (nA (r.length+2))))
termination_by l.length
decreasing_by
 ·have:=aBn (n:=r.length+2) (by omega)
  simp only [List.length_take,List.length_cons]; omega
 ·have:=aHk (n:=r.length+2) (by omega)
  simp only [List.length_drop,List.length_cons]; omega
theorem aIR:fV []=aF1:=by rw [fV]
theorem aIS (d:Dg):fV [d]=d:=by rw [fV]
theorem aIT {l:List Dg} (h:2≤l.length):fV l=nP (fV (l.take (nA l.length))) (fV (l.drop (nA l.length))):=by
 match l,h with
 | a :: b :: r,_=>rw [fV]; rfl
theorem aIQ {s t:List Dg} {a:Nat} (hs:s.length=2^a) (h0:0<t.length) (ht:t.length≤2^a):fV (s++t)=nP (fV s) (fV t):=by
 have hp:0<2^a:=Nat.pow_pos (by decide)
 have hl:(s++t).length=2^a+t.length:=by rw [List.length_append,hs]
 rw [aIT (by omega),hl,aOk h0 ht,←hs,List.take_left,List.drop_left]
inductive Stk:List (Nat×Dg)→List Dg→Prop
 | nil:Stk [] []
 | cons {a:Nat} {r:Dg} {S:List (Nat×Dg)} {L seg:List Dg} (hS:Stk S L) (hl:seg.length=2^a) (hr:fV seg=r) (hlt:∀ b s S',S=(b,s) :: S'→a<b):Stk ((a,r) :: S) (L++seg)
def zP (d:Dg):List (Nat×Dg)→Dg
 | []=>d
 | p :: S=>zP (nP p.2 d) S
theorem Stk.root:∀ {S:List (Nat×Dg)} {L T:List Dg},Stk S L→0<T.length→(∀ b s S',S=(b,s) :: S'→T.length≤2^b)→fV (L++T)=zP (fV T) S
 | [],L,T,h,h0,_=>by cases h; rfl
 | (a,r) :: S,L,T,h,h0,hb=>by
  cases h with
  | @cons _ _ _ L seg hS hl hr hlt =>
   rw [List.append_assoc,Stk.root hS (by rw [List.length_append]; omega) (fun b s S' e=>by
    have h1:=hlt b s S' e
    have h2:=hb a r S rfl
    have h3:=Nat.pow_le_pow_right (n:=2) (by decide) (show a+1≤b by omega)
    rw [Nat.pow_succ] at h3
    rw [List.length_append,hl]; omega),aIQ hl h0 (hb a r S rfl),hr]
   rfl
theorem Stk.done {a:Nat} {r:Dg} {S:List (Nat×Dg)} {L:List Dg} (h:Stk ((a,r) :: S) L):fV L=zP r S:=by
 cases h with
 | @cons _ _ _ L seg hS hl hr hlt =>
  have hp:0<2^a:=Nat.pow_pos (by decide)
  rw [Stk.root hS (by omega) (fun b s S' e=>by rw [hl]; exact Nat.pow_le_pow_right (by decide) (Nat.le_of_lt (hlt b s S' e))),hr]
theorem aHr (a d t:Nat):2^(a+1+d)*t+2^a=2^a*(2*(2^d*t)+1):=by
 rw [Nat.pow_add,Nat.pow_succ,Nat.mul_add,Nat.mul_one]
 simp only [Nat.mul_assoc]
theorem Stk.len:∀ {S:List (Nat×Dg)} {L:List Dg} {a:Nat} {r:Dg},Stk ((a,r) :: S) L→∃ m,L.length=2^a*(2*m+1)
 | [],L,a,r,h=>by
  cases h with
  | @cons _ _ _ L seg hS hl hr hlt=>cases hS; exact ⟨0,by simpa using hl⟩
 | (b,s) :: S,L,a,r,h=>by
  cases h with
  | @cons _ _ _ L seg hS hl hr hlt =>
   obtain ⟨m,hm⟩:=Stk.len hS
   have hab:=hlt b s S rfl
   obtain ⟨d,rfl⟩ : ∃ d,b=a+1+d:=⟨b-a-1,by omega⟩
   refine ⟨2^d*(2*m+1),?_⟩
   rw [List.length_append,hm,hl,aHr]
structure Pend (S:List (Nat×Dg)) (d:Dg) (a:Nat) (l:List Dg):Prop where
 out:∃ L seg,Stk S L∧seg.length=2^a∧fV seg=d∧L++seg=l∧∀ b s S',S=(b,s) :: S'→a≤b
theorem aK9 {S:List (Nat×Dg)} {L:List Dg} (h:Stk S L) (d:Dg):Pend S d 0 (L++[d]):=⟨L,[d],h,rfl,aIS d,rfl,fun _ _ _ _=>Nat.zero_le _⟩
theorem Pend.even {S:List (Nat×Dg)} {d:Dg} {a:Nat} {l:List Dg} (h:Pend S d a l) (he:(l.length / 2^a)%2=0):∃ s S',S=(a,s) :: S'∧Pend S' (nP s d) (a+1) l∧l.length / 2^a / 2=l.length / 2^(a+1):=by
 obtain ⟨L,seg,hS,hl,hr,he',hb⟩:=h.out
 have hp:0<2^a:=Nat.pow_pos (by decide)
 have hdiv:l.length / 2^a / 2=l.length / 2^(a+1):=by rw [Nat.div_div_eq_div_mul,Nat.pow_succ]
 have hlen:l.length=L.length+2^a:=by rw [← he',List.length_append,hl]
 match S,hS,hb with
 | [],hS,hb =>
  cases hS
  rw [List.length_nil,Nat.zero_add] at hlen
  rw [hlen,Nat.div_self hp] at he; cases he
 | (b,s) :: S',hS,hb =>
  obtain ⟨m,hm⟩:=hS.len
  have hab:=hb b s S' rfl
  by_cases e:a=b
  ·subst e
   refine ⟨s,S',rfl,?_,hdiv⟩
   cases hS with
   | @cons _ _ _ L0 seg0 hS0 hl0 hr0 hlt =>
    refine ⟨L0,seg0++seg,hS0,by rw [List.length_append,hl0,hl,Nat.pow_succ]; omega,?_,by rw [← List.append_assoc]; exact he',fun b s S'' e=>hlt b s S'' e⟩
    rw [aIQ hl0 (by omega) (by omega),hr0,hr]
  exfalso
  obtain ⟨d',rfl⟩ : ∃ d',b=a+1+d':=⟨b-a-1,by omega⟩
  have h3:l.length=2^a*(2*(2^d'*(2*m+1))+1):=by
   rw [hlen,hm,aHr]
  rw [h3,Nat.mul_div_cancel_left _ hp] at he
  omega
theorem Pend.odd {S:List (Nat×Dg)} {d:Dg} {a:Nat} {l:List Dg} (h:Pend S d a l) (he:(l.length / 2^a)%2=1):Stk ((a,d) :: S) l:=by
 obtain ⟨L,seg,hS,hl,hr,he',hb⟩:=h.out
 have hp:0<2^a:=Nat.pow_pos (by decide)
 subst he'
 refine .cons hS hl hr fun b s S' e=>?_
 have hab:=hb b s S' e
 rcases Nat.lt_or_eq_of_le hab with h1 | h1
 ·exact h1
 exfalso
 subst e; subst h1
 obtain ⟨m,hm⟩:=hS.len
 rw [List.length_append,hl,hm,show 2^a*(2*m+1)+2^a=2^a*(2*m+2) by rw [Nat.mul_add,Nat.mul_one,Nat.mul_add]; omega,Nat.mul_div_cancel_left _ hp] at he
 omega
theorem Stk.short:∀ {S:List (Nat×Dg)} {L:List Dg},Stk S L→S.length≤L.length
 | [],_,_=>Nat.zero_le _
 | (a,r) :: S,L,h=>by
  cases h with
  | @cons _ _ _ L seg hS hl hr hlt =>
   have:=Stk.short hS
   have hp:0<2^a:=Nat.pow_pos (by decide)
   rw [List.length_append,List.length_cons]; omega
section
variable {dr:Bool} {mc:Md} {P:Program} {n:Nat} {l:List Oper} {K:aO→PM→aH→Prop} {i:Nat} {σ:List Nat} {ρ:aO} {G:PM} {μ:aH}
variable {d t:Nat} {p:String} {af:Array Edge} {g:Option (Nat×Bool)} {c:Bool}
theorem aIf {T m:Nat} {s:Sh} (hT:(cL P T).isSome=true) (w:World):(Op.equal T (s.val m) (.slice none 0 0)).run P w=.ok s.oa.isNone w:=by
 unfold cL at hT
 split at hT
 ·rename_i e hu
  unfold Op.equal
  rw [show Op.maxDepth=9999+1 from rfl,Op.equalIn]
  obtain ⟨oa,cap⟩:=s
  cases oa<;>simp [run_underlying hu,Sh.val]
 ·cases hT
theorem xR {T T' m:Nat} {x y:Operand} {s:Sh} (ho:nth l i=some ⟨some d,.binOp .eql T x y T',t,p,af,g⟩) (hg:Gd l ρ g c) (hT:(cL P T).isSome=true) (hx:Ev ρ c x (s.val m)) (hy:Ev ρ c y (.slice none 0 0)) (h:Wo dr mc P n l K σ ((d,c,.bool s.oa.isNone) :: ρ) G μ):Wo dr mc P n l K (i :: σ) ρ G μ :=
 .pure ho (.inl rfl) hg (fun hc q w ha=>by
  have hq:(eqGuard .eql T x y (s.val m) (.slice none 0 0)).run P w=.ok () w:=by unfold eqGuard; simp [Sh.val]
  have hb:(binOp .eql T (s.val m) (.slice none 0 0)).run P w=.ok (.bool s.oa.isNone) w:=by
   have:=aIf (P:=P) (s:=s) (m:=m) hT w
   simp only [Sh.val] at this ⊢
   simp [binOp,this]
  simp [execOp,hx.eval ha hc,hy.eval ha hc,hq,hb]) h
theorem sn1 {T T' m:Nat} {x y:Operand} {s:Sh} (ho:nth l i=some ⟨some d,.binOp .neq T x y T',t,p,af,g⟩) (hg:Gd l ρ g c) (hT:(cL P T).isSome=true) (hx:Ev ρ c x (s.val m)) (hy:Ev ρ c y (.slice none 0 0)) (h:Wo dr mc P n l K σ ((d,c,.bool (!s.oa.isNone)) :: ρ) G μ):Wo dr mc P n l K (i :: σ) ρ G μ :=
 .pure ho (.inl rfl) hg (fun hc q w ha=>by
  have hq:(eqGuard .neq T x y (s.val m) (.slice none 0 0)).run P w=.ok () w:=by unfold eqGuard; simp [Sh.val]
  have hb:(binOp .neq T (s.val m) (.slice none 0 0)).run P w=.ok (.bool (!s.oa.isNone)) w:=by
   have:=aIf (P:=P) (s:=s) (m:=m) hT w
   simp only [Sh.val] at this ⊢
   simp [binOp,this]
  simp [execOp,hx.eval ha hc,hy.eval ha hc,hq,hb]) h
theorem or8 {a b:Nat} (h1:a<256) (h2:b<256):BitVec.ofInt 64 (a:Int) ||| BitVec.ofInt 64 ((256*b:Nat):Int)=BitVec.ofNat 64 (a+256*b):=by
 have e1:BitVec.ofInt 64 (a:Int)=BitVec.ofNat 64 a:=by simp
 have e2:BitVec.ofInt 64 ((256*b:Nat):Int)=BitVec.ofNat 64 (256*b):=BitVec.ofInt_natCast ..
 rw [e1,e2]
 apply BitVec.eq_of_toNat_eq
 rw [BitVec.toNat_or,BitVec.toNat_ofNat,BitVec.toNat_ofNat,BitVec.toNat_ofNat,Nat.mod_eq_of_lt (by omega),Nat.mod_eq_of_lt (by omega),Nat.mod_eq_of_lt (by omega)]
 have:=Nat.two_pow_add_eq_or_of_lt (i:=8) (b:=a) (by omega) b
 rw [show (2:Nat)^8=256 from rfl] at this
 rw [show a ||| 256*b=256*b ||| a from Nat.or_comm _ _,←this,Nat.add_comm]
theorem aOX {T T':Nat} {x y:Operand} {a1 a2:Int} (a b:Nat) (ho:nth l i=some ⟨some d,.binOp .or T x y T',t,p,af,g⟩) (hg:Gd l ρ g c) (hx:Ev ρ c x (.int .i64 a1)) (hy:Ev ρ c y (.int .i64 a2)) (e1:c=true→a1=a) (e2:c=true→a2=(256*b:Nat)) (h1:a<256) (h2:b<256)
  (h:Wo dr mc P n l K σ ((d,c,.int .i64 ((a+256*b:Nat):Int)) :: ρ) G μ):Wo dr mc P n l K (i :: σ) ρ G μ :=
 .pure ho (.inl rfl) hg (fun hc q w ha=>by
  have e1':=e1 hc; have e2':=e2 hc
  subst e1'; subst e2'
  have hb:(binOp .or T (.int .i64 (a:Int)) (.int .i64 ((256*b:Nat):Int))).run P w=.ok (.int .i64 ((a+256*b:Nat):Int)) w:=by
   have h3:=or8 h1 h2
   have h4:IntKind.i64.wrap ((BitVec.ofNat 64 (a+256*b)).toNat:Int)=((a+256*b:Nat):Int):=by
    rw [BitVec.toNat_ofNat,Nat.mod_eq_of_lt (by omega)]
    exact bO (by omega) (by omega)
   have h5:(Op.intBits .or .i64 (a:Int) ((256*b:Nat):Int))=pure (.int .i64 (IntKind.i64.wrap ((BitVec.ofInt 64 (a:Int) ||| BitVec.ofInt 64 ((256*b:Nat):Int)).toNat:Int))):=rfl
   have h6:binOp .or T (.int .i64 (a:Int)) (.int .i64 ((256*b:Nat):Int))=Op.intBits .or .i64 (a:Int) ((256*b:Nat):Int):=rfl
   rw [h6,h5,h3,h4]; rfl
  simp only [execOp,hx.eval ha hc,hy.eval ha hc,Sem.run_bind,kX,Result.andThen_ok,hb]; rfl) h
theorem aIv {A C:List Value} {o m:Nat} (h1:o+C.length≤m) (h2:m≤A.length):(A.take o++C++A.drop (o+C.length)).take m=(A.take m).take o++C++(A.take m).drop (o+C.length):=by
 have hl:(A.take o++C).length=o+C.length:=by rw [List.length_append,List.length_take]; omega
 rw [List.take_append,List.take_of_length_le (by omega),hl,List.take_take,Nat.min_eq_left (by omega),List.drop_take]
theorem sO {T E b o m cap m2 cap2:Nat} {x y:Operand} {u:Value} {xs ys:List Y} {μ':aH} (ho:nth l i=some ⟨some d,.call { callee:=.builtin .copy,args:=#[x,y],argTypes:=#[T,T] },t,p,af,none⟩)
  (hT:cL P T=some (E,1,1)) (hx:Ev ρ true x (.slice (some ⟨b,o,none⟩) m2 cap2)) (hy:Ev ρ true y u) (hm:MTake μ (rB (.slice (some ⟨b,0,none⟩) m cap) E xs) μ') (hsc:Sc G μ u ys) (ho2:o+m2=xs.length) (hfit:ys.length≤m2)
  (h:∀ L,L=xs.take o++ys++xs.drop (o+ys.length)→L.length=xs.length→Wo dr mc P n l K σ ((d,true,.int .i64 (ys.length:Int)) :: ρ) G (rB (.slice (some ⟨b,0,none⟩) m cap) E L :: μ')):Wo dr mc P n l K (i :: σ) ρ G μ:=by
 obtain ⟨oa,cap3,rfl,hr⟩:=hsc.ex
 refine .act (μ₁:=[rB (.slice (some ⟨b,0,none⟩) m cap) E xs]) (μ₂:=μ') (post:=fun G' μ' v=>G'=G∧μ'=[rB (.slice (some ⟨b,0,none⟩) m cap) E (xs.take o++ys++xs.drop (o+ys.length))]∧v=.int .i64 (ys.length:Int)) ho (.inl rfl) .no hm.perm (fun a w ha hs=>.inl ?_) ?_
 ·have hs':=hs.left
  have hrow:w.ownsRow 0 E 1 (.slice (some ⟨b,0,none⟩) m cap) xs.length (xs.map V):=hs'.own _ (List.mem_singleton.2 rfl)
  obtain ⟨hu,inf,hi,hs1,hb1⟩:=gE hT
  rcases hrow.2 with ⟨e,_⟩ | ⟨g,cap',cur,e,_,hg,hnc,hcm,hcs,htake⟩
  ·cases e
  simp only [Value.slice.injEq,Option.some.injEq,Addr.mk.injEq,and_true,true_and] at e
  obtain ⟨rfl,rfl,rfl⟩:=e
  have hk:keys [rB (.slice (some ⟨b,0,none⟩) xs.length cap) E xs]=[b]:=by simp [keys,Res.keys,Value.ownBlock]
  have hsat:Sat G [.blk b (.cells cur E (0,0))] w:=⟨hs'.sub,fun r hr=>by rw [List.mem_singleton.1 hr]; exact hg,fun c hc=>hs'.apart c (by simpa [keys,Res.keys,Value.ownBlock] using hc),by simp [keys,Res.keys]⟩
  simp only [Nat.mul_one] at hcs htake
  by_cases h0:ys.length=0
  ·obtain rfl:ys=[]:=List.eq_nil_of_length_eq_zero h0
   have e1:xs.take o++[]++xs.drop (o+([]:List Y).length)=xs:=by simp
   rw [e1]
   refine ⟨_,w,G,_,.inl ?_,oC hs',rfl,rfl,rfl⟩
   have hz:(P.info? E).map (·.size)=some 1:=by rw [hi]; simp [hs1]
   cases oa with
   | none=>simp [execOp,resolve,invoke,builtin,hx.eval ha rfl,hy.eval ha rfl,Builtin.copy_,run_underlying hu,Builtin.lenOf,Builtin.firstCells,sizeOf,typeInfo,hi,storeCells,goInt]
   | some a0=>simp [execOp,resolve,invoke,builtin,hx.eval ha rfl,hy.eval ha rfl,Builtin.copy_,run_underlying hu,Builtin.lenOf,Builtin.firstCells,sizeOf,typeInfo,hi,storeCells,goInt,loadCells,loadCellsFrom]
  obtain ⟨b0,o0,rfl,hrd⟩:=hr (by omega)
  have hsat0:Sat G μ w:=hs.perm hm.perm.symm
  have hrun:=run_copy_row (P:=P) w T T t E b o m2 cap2 ⟨b0,o0,none⟩ ys.length cap3 cur E (ys.map V) hu (by rw [hi]; simp [hs1]) hg (by rw [List.length_map]; exact (Nat.min_eq_left hfit).symm)
   (fun j v hj=>by rw [jD]; exact hrd j v hj w hsat0) (by rw [List.length_map,hcs]; omega) (aBk ys)
  rw [List.length_map] at hrun
  have h2:=(uD (cs':=(cur.toList.take o++ys.map V++cur.toList.drop (o+ys.length)).toArray) hsat).asRow (m:=xs.length) (cap:=cap) (sz:=1) (xs:=(xs.take o++ys++xs.drop (o+ys.length)).map V) (by simp; omega) hnc hcm ?_ ?_
  ·have hl:(xs.take o++ys++xs.drop (o+ys.length)).length=xs.length:=by simp; omega
   refine ⟨_,w.setRow b (cur.toList.take o++ys.map V++cur.toList.drop (o+ys.length)).toArray,G,[rB (.slice (some ⟨b,0,none⟩) xs.length cap) E (xs.take o++ys++xs.drop (o+ys.length))],.inl ?_,?_,rfl,rfl,rfl⟩
   ·simp only [execOp,resolve,invoke,builtin,hx.eval ha rfl,hy.eval ha rfl]
    simp [hx.eval ha rfl,hy.eval ha rfl,hrun,goInt]
   rw [hk]; simp only [rB,hl]; exact h2
  ·simp; omega
  have hml:(ys.map V).length=ys.length:=List.length_map ..
  have:=aIv (A:=cur.toList) (C:=ys.map V) (o:=o) (m:=xs.length) (by omega) (by have:cur.toList.length=cur.size:=Array.length_toList ..; omega)
  rw [htake,hml] at this
  simp only [Nat.mul_one,List.map_append,List.map_take,List.map_drop]
  exact this
 rintro v G' μ'' _ ⟨rfl,rfl,rfl⟩
 exact h _ rfl (by simp; omega)
theorem oK {r r':Res} {μ1 ν:aH} (h:MTake μ r' μ1) (e:r'.keys=r.keys) (hs:∀ b∈keys ν,b∈keys μ1):∀ b∈keys (r :: ν),b∈keys μ:=by
 intro b hb
 have h1:b∈r.keys++keys ν:=by simpa [keys] using hb
 refine (wS h.perm).mem_iff.2 ?_
 show b∈keys (r' :: μ1)
 have h2:b∈r'.keys++keys μ1:=by
  rcases List.mem_append.1 h1 with h1 | h1
  ·exact List.mem_append_left _ (by rw [e]; exact h1)
  exact List.mem_append_right _ (hs b h1)
 simpa [keys] using h2
theorem wR:∀ b∈keys [],b∈keys μ:=fun b hb=>by cases hb
abbrev rS {α:Type} (sz:Nat) (enc:α→List Value) (v:Value) (E:Nat) (xs:List α):Res:=.row v E sz xs.length (xs.flatMap enc)
theorem eC {α:Type} {enc:α→List Value} {sz T E by' b cp:Nat} {x y:Operand} {v z:Value} {xs:List α} {μ' μ2:aH} (a:α) (ho:nth l i=some ⟨some d,.call { callee:=.builtin .append,args:=#[x,y],argTypes:=#[T,T] },t,p,af,none⟩)
  (hT:cL P T=some (E,sz,by')) (hz:(P.info? E).bind (·.zero)=some z) (hzs:z.cells.size=sz) (hx:Ev ρ true x v) (hy:Ev ρ true y (.slice (some ⟨b,0,none⟩) 1 cp)) (hm:MTake μ (rS sz enc v E xs) μ') (hb:MTake μ (.blk b (cl (enc a) E)) μ2) (ha:(enc a).length=sz) (h1:∀ u∈enc a,u.oneCell'=true) (hl:(xs.length+1)*by'≤140737488355328) (hl2:xs.length+1≤maxLen)
  (h:∀ v',v'.oneCell'=true→Wo dr mc P n l K σ ((d,true,v') :: ρ) G (rS sz enc v' E (xs++[a]) :: μ')) (hmc:mc.a=false∨dr=false:=by first|exact .inl rfl|exact .inr rfl):Wo dr mc P n l K (i :: σ) ρ G μ:=by
 refine .act (μ₁:=[rS sz enc v E xs]) (μ₂:=μ') (post:=fun G' μ' v'=>G'=G∧v'.oneCell'=true∧μ'=[rS sz enc v' E (xs++[a])]) ho (by rcases hmc with h | h<;>simp [cA,h]) .no hm.perm (fun q w hq hs=>.inl ?_) ?_
 ·obtain ⟨v',w',hrun,ht⟩:=aAI (ty:=t) (cp:=cp) (news:=enc a) (k:=1) (oa:=some ⟨b,0,none⟩) hT hz hzs hs.left (by rw [ha]; omega) (fun _=>⟨b,0,rfl,fun j u hj=>(RdN.own hb) j u hj w (hs.perm hm.perm.symm)⟩) h1 hl hl2
  refine ⟨v',w',G,[rS sz enc v' E (xs++[a])],.inl (by simp [execOp,resolve,invoke,builtin,hx.eval hq rfl,hy.eval hq rfl,hrun]),?_,rfl,ht.sat.rowOne,rfl⟩
  simp only [rS,List.length_append,List.flatMap_append,List.flatMap_cons,List.flatMap_nil,List.append_nil]; exact ht
 rintro v' G' μ'' _ ⟨rfl,h1,rfl⟩
 exact h v' h1
theorem Tr.frzS {α:Type} {enc:α→List Value} {sz:Nat} {G0:PM} {K0:List Nat} {w0 w:World} {E:Nat} {v:Value} {xs:List α} (hsz:∀ x∈xs,(enc x).length=sz) (h:Tr G0 K0 w0 G (rS sz enc v E xs :: μ) w) (hK:∀ b∈K0,b∈keys μ) :
  ∃ G' s,PM.le G G'∧v=Sh.val s xs.length∧SlR G' sz enc s xs∧Tr G0 K0 w0 G' μ w:=by
 obtain ⟨G',s,h1,h2,h3,h4,h5,h6⟩:=h.freezeRow hK
 exact ⟨G',s,h1,h2,SlR.ofRow hsz h3 h4 h5,h6⟩
theorem aEP {α:Type} {enc:α→List Value} {sz:Nat} {X:Cx} {e:Exit} {k:List KI} {E:Nat} {v:Value} {xs:List α} {μ':aH} (hm:MTake μ (rS sz enc v E xs) μ') (hsz:∀ x∈xs,(enc x).length=sz) (hK:∀ b∈X.K0,b∈keys μ') (h:∀ G' s,PM.le G G'→v=Sh.val s xs.length→SlR G' sz enc s xs→We X e k ρ G' μ'):We X e k ρ G μ :=
 ⟨fun a w ha ht=>by
  obtain ⟨G',s,h1,h2,h3,h4⟩:=(ht.perm hm.perm).frzS hsz hK
  exact (h G' s h1 h2 h3).out a w ha h4⟩
theorem mK {α:Type} {enc:α→List Value} {sz:Nat} {X:Cx} {cd:Code} {k:List KI} {E:Nat} {v:Value} {xs:List α} {μ':aH} (hm:MTake μ (rS sz enc v E xs) μ') (hsz:∀ x∈xs,(enc x).length=sz) (hK:∀ b∈X.K0,b∈keys μ') (h:∀ G' s,PM.le G G'→v=Sh.val s xs.length→SlR G' sz enc s xs→Wk X cd k ρ G' μ'):Wk X cd k ρ G μ :=
 ⟨fun a w ha ht=>by
  obtain ⟨G',s,h1,h2,h3,h4⟩:=(ht.perm hm.perm).frzS hsz hK
  exact (h G' s h1 h2 h3).out a w ha h4⟩
theorem nW {α:Type} (sz:Nat) (enc:α→List Value) {X:Cx} {cd:Code} {k:List KI} (E:Nat) (h:Wk X cd k ρ G (rS sz enc (.slice none 0 0) E [] :: μ)):Wk X cd k ρ G μ:=aAU E sz h
theorem aR8 {α:Type} (sz:Nat) (enc:α→List Value) {X:Cx} {e:Exit} {k:List KI} (E:Nat) (h:We X e k ρ G (rS sz enc (.slice none 0 0) E [] :: μ)):We X e k ρ G μ:=aJo E sz h
structure AllS (G:PM) (ps:List (Sh×List Y)):Prop where
 all:∀ p∈ps,SlR G 1 aQ p.1 p.2
theorem AllS.mono {G G':PM} {ps:List (Sh×List Y)} (h:AllS G ps) (hle:PM.le G G'):AllS G' ps:=⟨fun p hp=>(h.all p hp).mono hle⟩
theorem AllS.nil {G:PM}:AllS G []:=⟨fun p hp=>by cases hp⟩
theorem aCE {G:PM} {ps:List (Sh×List Y)} {s:Sh} {L:List Y} (h:AllS G ps) (hs:SlR G 1 aQ s L):AllS G (ps++[(s,L)]):=⟨fun p hp=>by
 rcases List.mem_append.1 hp with hp | hp
 ·exact h.all p hp
 ·rw [List.mem_singleton.1 hp]; exact hs⟩
theorem SlP.of {G:PM} {s:Sh} {ps:List (Sh×List Y)} (h:SlR G 1 oH s ps) (hA:AllS G ps):SlP G s ps:=⟨h,hA.all⟩
theorem pE {G:PM}:SlP G ⟨Option.none,0⟩ []:=⟨SlR.nul,fun p hp=>by cases hp⟩
theorem slr {T e sz by' b m cap:Nat} {x y:Operand} {k:IntKind} {lo:Int} (q:Nat) (ho:nth l i=some ⟨some d,.slice T x (some y) none none,t,p,af,none⟩) (hT:cL P T=some (e,sz,by')) (hx:Ev ρ true x (.slice (some ⟨b,0,none⟩) m cap)) (hy:Ev ρ true y (.int k lo))
  (hq:lo=q) (h1:q≤m) (h2:m≤cap) (h3:q<cap) (h:Wo dr mc P n l K σ ((d,true,.slice (some ⟨b,q*sz,none⟩) (m-q) (cap-q)) :: ρ) G μ):Wo dr mc P n l K (i :: σ) ρ G μ :=
 .pure ho (.inl rfl) .no (fun _ a w ha=>by
  obtain ⟨hu,inf,hi,rfl,rfl⟩:=gE hT
  subst hq
  have hx':=hx.eval ha rfl
  have hn:¬ cap=q:=by omega
  simp [execOp,hx',hy.eval ha rfl,Instr.sliceAt,run_underlying hu,Instr.slice,Instr.sliceBounds,Instr.sliceBound,asIntOf,sizeOf,typeInfo,hi,h1,h2,hn,jD]) h
theorem wB {α:Type} {enc:α→List Value} {sz T E by':Nat} {x y:Operand} {v z:Value} {s:Sh} {xs ys:List α} {μ':aH} (ho:nth l i=some ⟨some d,.call { callee:=.builtin .append,args:=#[x,y],argTypes:=#[T,T] },t,p,af,none⟩)
  (hT:cL P T=some (E,sz,by')) (hz:(P.info? E).bind (·.zero)=some z) (hzs:z.cells.size=sz) (hx:Ev ρ true x v) (hy:Ev ρ true y (s.val ys.length)) (hm:MTake μ (rS sz enc v E xs) μ') (hs:SlR G sz enc s ys) (hsz:∀ a∈ys,(enc a).length=sz) (h1:∀ u∈ys.flatMap enc,u.oneCell'=true) (hl:(xs.length+ys.length)*by'≤140737488355328) (hl2:xs.length+ys.length≤maxLen)
  (h:∀ v',v'.oneCell'=true→Wo dr mc P n l K σ ((d,true,v') :: ρ) G (rS sz enc v' E (xs++ys) :: μ')) (hmc:mc.a=false∨dr=false:=by first|exact .inl rfl|exact .inr rfl):Wo dr mc P n l K (i :: σ) ρ G μ:=by
 refine .act (μ₁:=[rS sz enc v E xs]) (μ₂:=μ') (post:=fun G' μ' v'=>G'=G∧v'.oneCell'=true∧μ'=[rS sz enc v' E (xs++ys)]) ho (by rcases hmc with h | h<;>simp [cA,h]) .no hm.perm (fun q w hq hs'=>.inl ?_) ?_
 ·obtain ⟨v',w',hrun,ht⟩:=aAI (ty:=t) (cp:=s.cap) (news:=ys.flatMap enc) (k:=ys.length) (oa:=s.oa) hT hz hzs hs'.left (uO hsz) (fun h0=>⟨s.b,s.o,hs.nn h0,fun j u hj=>((SlR.flat hsz hs).rd (μ:=μ)) j u hj w (hs'.perm hm.perm.symm)⟩) h1 hl hl2
  refine ⟨v',w',G,[rS sz enc v' E (xs++ys)],.inl ?_,?_,rfl,ht.sat.rowOne,rfl⟩
  ·have hy':=hy.eval hq rfl
   simp only [Sh.val] at hy'
   simp [execOp,resolve,invoke,builtin,hx.eval hq rfl,hy',hrun]
  simp only [rS,List.length_append,List.flatMap_append]; exact ht
 rintro v' G' μ'' _ ⟨rfl,h1,rfl⟩
 exact h v' h1
end
inductive CK where
 | int (k:IntKind)
 | str
 | bool
 deriving DecidableEq
def lW:Value→Lit
 | .int k n=>.int k n
 | .string s=>.string s.data.toList
 | .bool b=>.bool b
 | _=>.bool false
inductive CkOk:CK→Value→Prop where
 | int {k:IntKind} {n:Int} (h1:k.min≤n) (h2:n≤k.max):CkOk (.int k) (.int k n)
 | str {s:ByteArray} (h:s.size≤maxLen):CkOk .str (.string s)
 | bool {b:Bool}:CkOk .bool (.bool b)
inductive Conf:List CK→List Value→Prop where
 | nil:Conf [] []
 | cons {k v ks cs} (h:CkOk k v) (r:Conf ks cs):Conf (k :: ks) (v :: cs)
theorem CkOk.u {k:IntKind} (hk:k.signed=false) (x:BitVec k.bits):CkOk (.int k) (uv k x):=by
 have:=x.isLt
 refine .int ?_ ?_
 ·rw [aHI hk]; omega
 rw [aHE hk]
 have h2:((2^k.bits:Nat):Int)=(2:Int)^k.bits:=by simp
 omega
theorem Conf.len {ks:List CK} {cs:List Value} (h:Conf ks cs):cs.length=ks.length:=by
 induction h with
 | nil=>rfl
 | cons _ _ ih=>simp [ih]
theorem aJz {ks ks':List CK} {cs cs':List Value} (h:Conf ks cs) (h':Conf ks' cs'):Conf (ks++ks') (cs++cs'):=by
 induction h with
 | nil=>exact h'
 | cons h1 _ ih=>exact .cons h1 ih
theorem Conf.split {ks ks':List CK}:∀ {cs:List Value},Conf (ks++ks') cs→Conf ks (cs.take ks.length)∧Conf ks' (cs.drop ks.length):=by
 induction ks with
 | nil=>intro cs h; exact ⟨by simpa using Conf.nil,by simpa using h⟩
 | cons k ks ih =>
  intro cs h
  cases h with
  | cons h1 r =>
   obtain ⟨h2,h3⟩:=ih r
   exact ⟨.cons h1 h2,h3⟩
theorem Conf.inj {ks:List CK} {cs cs':List Value} (h:Conf ks cs) (h':Conf ks cs') (e:cs.map lW=cs'.map lW):cs=cs':=by
 induction h generalizing cs' with
 | nil=>cases h'; rfl
 | cons h1 _ ih =>
  cases h' with
  | cons h2 r2 =>
   simp only [List.map_cons,List.cons.injEq] at e
   rw [ih r2 e.2]
   congr 1
   cases h1 with
   | int _ _=>cases h2 with | int _ _=>have:=e.1; simp only [lW,Lit.int.injEq,true_and] at this; rw [this]
   | @str s1 _=>cases h2 with
    | @str s2 _ =>
     have:=e.1
     simp only [lW,Lit.string.injEq] at this
     have h3:s1.data=s2.data:=by
      have:=congrArg List.toArray this
      simpa using this
     obtain ⟨d1⟩:=s1
     obtain ⟨d2⟩:=s2
     simp only at h3
     rw [h3]
   | bool=>cases h2 with | bool=>have:=e.1; simp only [lW,Lit.bool.injEq] at this; rw [this]
def xO (P:Program) (f:TypeId→Option (List CK)):Nat→List Field→Option (List CK)
 | _,[]=>some []
 | o,fl :: r=>match f fl.type with
  | some ks=>if fl.offset=o∧P.cellsOf fl.type=ks.length then (xO P f (o+ks.length) r).map (ks++·) else none
  | none=>none
def sC (P:Program):Nat→TypeId→Option (List CK)
 | 0,_=>none
 | d+1,t=>match P.underlying t with
  | some (.int k)=>some [.int k]
  | some .string=>some [.str]
  | some .bool=>some [.bool]
  | some (.array n e)=>match sC P d e with
   | some ks=>if P.cellsOf e=ks.length∧P.cellsOf t=n*ks.length then some (List.replicate n ks).flatten else none
   | none=>none
  | some (.struct fs)=>match xO P (sC P d) 0 fs.toList with
   | some ks=>if P.cellsOf t=ks.length∧fs.all (·.name != "_")=true then some ks else none
   | none=>none
  | _=>none
theorem aFe {ks:List CK}:∀ {n:Nat} {cs:List Value},Conf (List.replicate n ks).flatten cs→∀ i,i<n→Conf ks ((cs.drop (i*ks.length)).take ks.length)
 | 0,_,_,i,hi=>by omega
 | n+1,cs,h,i,hi=>by
  rw [List.replicate_succ,List.flatten_cons] at h
  obtain ⟨h1,h2⟩:=h.split
  cases i with
  | zero=>simpa using h1
  | succ i =>
   have:=aFe h2 i (by omega)
   rw [List.drop_drop] at this
   rwa [Nat.succ_mul,Nat.add_comm]
theorem aFb {α:Type} {f:Value→α} {L:Nat}:∀ {n:Nat} {cs:List Value},cs.length=n*L→((List.range n).map fun i=>((cs.drop (i*L)).take L).map f).flatten=cs.map f
 | 0,cs,h=>by
  obtain rfl:cs=[]:=List.eq_nil_of_length_eq_zero (by simpa using h)
  rfl
 | n+1,cs,h=>by
  rw [List.range_succ_eq_map,List.map_cons,List.flatten_cons,List.map_map,Nat.zero_mul,List.drop_zero]
  have h2:=aFb (f:=f) (L:=L) (n:=n) (cs:=cs.drop L) (by rw [List.length_drop,h,Nat.succ_mul]; omega)
  have e:(List.map ((fun i=>List.map f (List.take L (List.drop (i*L) cs))) ∘ Nat.succ) (List.range n))=(List.range n).map fun i=>(((cs.drop L).drop (i*L)).take L).map f:=by
   apply List.map_congr_left
   intro i _
   simp only [Function.comp,List.drop_drop,Nat.succ_mul,Nat.add_comm]
  rw [e,h2,←List.map_append,List.take_append_drop]
theorem aHD {α β:Type} {f:α→Option β} {g:α→β}:∀ {l:List α},(∀ x∈l,f x=some (g x))→l.mapM f=some (l.map g)
 | [],_=>by simp
 | x :: l,h=>by simp [List.mapM_cons,h x (List.mem_cons_self ..),aHD (l:=l) fun z hz=>h z (List.mem_cons_of_mem _ hz)]
section
variable {P:Program}
theorem aFd {d:Nat} (ih:∀ t ks cs,sC P d t=some ks→Conf ks cs→P.keyLits d t cs=some (cs.map lW)):∀ (fs:List Field) (o:Nat) (ks:List CK) (cs:List Value),xO P (sC P d) o fs=some ks→Conf ks (cs.drop o) →
  ∃ r,fs.mapM (fun f=>P.keyLits d f.type ((cs.drop f.offset).take (P.cellsOf f.type)))=some r∧r.flatten=(cs.drop o).map lW
 | [],o,ks,cs,h,hc=>by
  simp only [xO,Option.some.injEq] at h
  subst h
  have:=hc.len
  exact ⟨[],by simp,by rw [List.eq_nil_of_length_eq_zero this]; rfl⟩
 | fl :: r,o,ks,cs,h,hc=>by
  simp only [xO] at h
  split at h
  ·rename_i ks1 h1
   split at h
   ·rename_i h2
    cases h3:xO P (sC P d) (o+ks1.length) r with
    | none=>rw [h3] at h; cases h
    | some ks2 =>
     rw [h3] at h
     simp only [Option.map_some,Option.some.injEq] at h
     subst h
     obtain ⟨c1,c2⟩:=hc.split
     rw [List.drop_drop] at c2
     obtain ⟨rr,hr1,hr2⟩:=aFd ih r (o+ks1.length) ks2 cs h3 c2
     have hk:=ih fl.type ks1 _ h1 c1
     refine ⟨((cs.drop o).take ks1.length).map lW :: rr,?_,?_⟩
     ·rw [List.mapM_cons,h2.1,h2.2,hk,hr1]; rfl
     rw [List.flatten_cons,hr2,←List.map_append,←List.drop_drop,List.take_append_drop]
   cases h
  cases h
theorem aBG:∀ (d:Nat) (t:TypeId) (ks:List CK) (cs:List Value),sC P d t=some ks→Conf ks cs→P.keyLits d t cs=some (cs.map lW)
 | 0,_,_,_,h,_=>by cases h
 | d+1,t,ks,cs,h,hc=>by
  simp only [sC] at h
  unfold Program.keyLits
  split at h
  ·rename_i k hu
   simp only [Option.some.injEq] at h
   subst h
   cases hc with
   | cons h1 r=>cases r; cases h1 with | int a b=>simp [hu,Lit.wf,a,b,lW]
  ·rename_i hu
   simp only [Option.some.injEq] at h
   subst h
   cases hc with
   | cons h1 r=>cases r; cases h1 with | str a=>simp [hu,a,lW]
  ·rename_i hu
   simp only [Option.some.injEq] at h
   subst h
   cases hc with
   | cons h1 r=>cases r; cases h1 with | bool=>simp [hu,lW]
  ·rename_i n e hu
   split at h
   ·rename_i ks1 h1
    split at h
    ·rename_i h2
     simp only [Option.some.injEq] at h
     subst h
     have hl:cs.length=n*ks1.length:=by
      rw [hc.len]; simp
     have hm:=aHD (l:=List.range n) (f:=fun i=>P.keyLits d e ((cs.drop (i*P.cellsOf e)).take (P.cellsOf e))) (g:=fun i=>((cs.drop (i*ks1.length)).take ks1.length).map lW)
      (fun i hi=>by rw [h2.1]; exact aBG d e ks1 _ h1 (aFe hc i (List.mem_range.1 hi)))
     rw [hu]
     simp only [hl,h2.2,if_true,hm,Option.map_some,aFb hl]
    ·cases h
   ·cases h
  ·rename_i fs hu
   split at h
   ·rename_i ks1 h1
    split at h
    ·rename_i h2
     simp only [Option.some.injEq] at h
     subst h
     obtain ⟨r,hr1,hr2⟩:=aFd (aBG d) fs.toList 0 ks1 cs h1 (by simpa using hc)
     rw [hu]
     simp only [hc.len,h2.1,h2.2,and_self,if_true,hr1,Option.map_some,hr2,List.drop_zero]
    ·cases h
   ·cases h
  ·cases h
def uK (P:Program) (m:Nat) (T:TypeId) (ks:List CK):Bool :=
 (match sC P m T with | some k=>k == ks | none=>false)&&P.keyTypeAt m T && !P.eqGuardType P.depth T&&Nat.ble m 10000&&(match P.underlying T with | some (.struct _) | some (.array _ _)=>Nat.beq (P.cellsOf T) ks.length | _=>false)
theorem aIe {T m:Nat} {ks:List CK} {cs cs':List Value} {r:Bool} (hT:uK P m T ks=true) (h1:Conf ks cs) (h2:Conf ks cs') (hr:r=true↔cs=cs') (w:World) :
  (Op.equal T (.agg cs.toArray) (.agg cs'.toArray)).run P w=.ok r w∧P.eqGuardType P.depth T=false:=by
 simp only [uK,Bool.and_eq_true,Bool.not_eq_true'] at hT
 obtain ⟨⟨⟨⟨hs,hk⟩,hg⟩,hm⟩,hf⟩:=hT
 have hs':sC P m T=some ks:=by
  split at hs
  ·rename_i k hk'; rw [hk',beq_iff_eq.1 hs]
  ·cases hs
 have hm:=Nat.le_of_ble_eq_true hm
 have hform:∀ cs:List Value,Conf ks cs→(Value.agg cs.toArray).formed P T=true:=by
  intro cs hc
  have hl:=hc.len
  simp only [Value.formed]
  split at hf<;>rename_i hu<;>first|(rw [hu]; have:=Nat.eq_of_beq_eq_true hf; simp [this,hl]) | cases hf
 obtain ⟨r',hr',hiff⟩:=run_equalIn_deep (10000-m) m T hk w m m (.agg cs.toArray) (.agg cs'.toArray) (cs.map lW) (cs'.map lW) (hform _ h1) (hform _ h2) (by simpa [Value.cells] using aBG m T ks cs hs' h1) (by simpa [Value.cells] using aBG m T ks cs' hs' h2)
 rw [show 10000-m+m=10000 by omega] at hr'
 have e:r'=r:=by
  have h3:r'=true↔r=true:=by
   rw [hiff,hr]
   exact ⟨fun e=>h1.inj h2 e,fun e=>by rw [e]⟩
  cases r<;>cases r'<;>simp_all
 subst e
 exact ⟨hr',hg⟩
variable {dr:Bool} {mc:Md} {n:Nat} {l:List Oper} {K:aO→PM→aH→Prop} {i:Nat} {σ:List Nat} {ρ:aO} {G:PM} {μ:aH}
variable {d t:Nat} {p:String} {af:Array Edge} {g:Option (Nat×Bool)} {c:Bool}
theorem eqC {T T' m:Nat} {x y:Operand} {ks:List CK} {cs cs':List Value} (r:Bool) (ho:nth l i=some ⟨some d,.binOp .eql T x y T',t,p,af,g⟩) (hg:Gd l ρ g c) (hT:uK P m T ks=true) (hx:Ev ρ c x (.agg cs.toArray)) (hy:Ev ρ c y (.agg cs'.toArray))
  (h1:c=true→Conf ks cs) (h2:c=true→Conf ks cs') (hr:c=true→(r=true↔cs=cs')) (h:Wo dr mc P n l K σ ((d,c,.bool r) :: ρ) G μ):Wo dr mc P n l K (i :: σ) ρ G μ :=
 .pure ho (.inl rfl) hg (fun hc a w ha=>by
  obtain ⟨h3,h4⟩:=aIe hT (h1 hc) (h2 hc) (hr hc) w
  simp [execOp,hx.eval ha hc,hy.eval ha hc,aC3 h4,binOp,h3]) h
theorem nqC {T T' m:Nat} {x y:Operand} {ks:List CK} {cs cs':List Value} (r:Bool) (ho:nth l i=some ⟨some d,.binOp .neq T x y T',t,p,af,g⟩) (hg:Gd l ρ g c) (hT:uK P m T ks=true) (hx:Ev ρ c x (.agg cs.toArray)) (hy:Ev ρ c y (.agg cs'.toArray))
  (h1:c=true→Conf ks cs) (h2:c=true→Conf ks cs') (hr:c=true→(r=true↔cs=cs')) (h:Wo dr mc P n l K σ ((d,c,.bool (!r)) :: ρ) G μ):Wo dr mc P n l K (i :: σ) ρ G μ :=
 .pure ho (.inl rfl) hg (fun hc a w ha=>by
  obtain ⟨h3,h4⟩:=aIe hT (h1 hc) (h2 hc) (hr hc) w
  simp [execOp,hx.eval ha hc,hy.eval ha hc,aC3 h4,binOp,h3]) h
end
theorem Conf.u8 {y:Y} {ks:List CK} {cs:List Value} (h:Conf ks cs):Conf (.int .u8 :: ks) (V y :: cs):=.cons (CkOk.u (k:=.u8) rfl y) h
theorem Conf.u64 {y:BitVec 64} {ks:List CK} {cs:List Value} (h:Conf ks cs):Conf (.int .u64 :: ks) (uv .u64 y :: cs):=.cons (CkOk.u (k:=.u64) rfl y) h
end Go.Tan
namespace Go.Tan
open Go.RowKit Go.Lib
def yb (s:ByteArray):List Y:=s.toList.map fun x=>BitVec.ofNat 8 x.toNat
theorem aLp (s:ByteArray):cZ (yb s)=s:=by
 have h:(cZ (yb s)).data.toList=s.data.toList:=by
  rw [zG,yb,ByteArray.toList_eq,List.map_map]
  conv=>rhs; rw [← List.map_id s.data.toList]
  refine List.map_congr_left fun x _=>?_
  simp only [Function.comp,id]
  have:=x.toNat_lt
  rw [BitVec.toNat_ofNat,Nat.mod_eq_of_lt (by omega)]
  simp
 have h2:(cZ (yb s)).data=s.data:=by
  have:=congrArg List.toArray h
  simpa using this
 obtain ⟨d⟩:=s
 cases hb:cZ (yb ⟨d⟩) with
 | mk d'=>rw [hb] at h2; simp only at h2; rw [h2]
theorem aJu (xs:List Y):yb (cZ xs)=xs:=aFU (aLp _)
theorem nE (s:ByteArray):(yb s).length=s.size:=by rw [yb,List.length_map,ByteArray.toList_eq]; simp
theorem aJv (s:ByteArray):(yb s).map V=strCells s:=by
 unfold yb strCells
 rw [List.map_map,ByteArray.toList_eq]
 refine List.map_congr_left fun x _=>?_
 have:=x.toNat_lt
 have e:(BitVec.ofNat 8 x.toNat).toNat=x.toNat:=by rw [BitVec.toNat_ofNat,Nat.mod_eq_of_lt (by omega)]
 show Value.int .u8 (((BitVec.ofNat 8 x.toNat).toNat:Nat):Int)=_
 rw [e]
section
variable {dr:Bool} {mc:Md} {P:Program} {n:Nat} {l:List Oper} {K:aO→PM→aH→Prop} {i:Nat} {σ:List Nat} {ρ:aO} {G:PM} {μ:aH}
variable {d t:Nat} {p:String} {af:Array Edge} {g:Option (Nat×Bool)} {c:Bool}
theorem aQQ {T U E ty:Nat} {v:Value} {xs:List Y} {s:ByteArray} {w:World} (hT:cL P T=some (E,1,1)) (hU:xV P U=true) (hz:(P.info? E).bind (·.zero)=some (.int .u8 0)) (hs:Sat G [rB v E xs] w) (hb:xs.length+s.size≤140737488355328) :
  ∃ v' w',(Builtin.append_ #[T,U] ty #[v,.string s]).run P w=.ok v' w'∧Tr G (keys [rB v E xs]) w G [rB v' E (xs++yb s)] w':=by
 obtain ⟨hu,inf,hi,hs1,hb1⟩:=gE hT
 have hu2:P.underlying U=some .string:=by
  unfold xV at hU
  split at hU
  ·assumption
  cases hU
 rw [hi] at hz
 simp only [Option.bind_some] at hz
 have hown:w.ownsRow 0 E 1 v xs.length (xs.map V):=hs.own _ (List.mem_singleton.2 rfl)
 have hbegin:=oC hs
 have hyl:=nE s
 have hyc:=aJv s
 have hml:(xs.map V).length=xs.length:=List.length_map ..
 have hsl:(strCells s).length=s.size:=strCells_length s
 have hmm:maxLen=9223372036854775807:=rfl
 have eR:rB v E (xs++yb s)=.row v E 1 (xs.length+s.size) (xs.map V++strCells s):=by simp only [rB,List.length_append,List.map_append,hyl,hyc]
 have hlen:(xs.map V++strCells s).length=(xs.length+s.size)*1:=by rw [List.length_append,hml,hsl]; omega
 by_cases hk:s.size=0
 ·have hn:strCells s=[]:=List.eq_nil_of_length_eq_zero (by rw [hsl]; exact hk)
  have hy0:yb s=[]:=List.eq_nil_of_length_eq_zero (by rw [hyl]; exact hk)
  refine ⟨v,w,?_,by rw [hy0,List.append_nil]; exact hbegin⟩
  have hf:=run_firstCells_string (P:=P) w 1 s
  rw [hk,hn] at hf
  rcases hown.2 with ⟨rfl,hm⟩ | ⟨g,cap,cur,rfl,_,hg,hnc,_,_,_⟩
  ·simp [Builtin.append_,run_underlying hu,run_underlying hu2,sizeOf,typeInfo,hi,hs1,Builtin.lenOf,hk,hf]
  simp [Builtin.append_,run_underlying hu,run_underlying hu2,sizeOf,typeInfo,hi,hs1,Builtin.lenOf,hk,hf,hnc,storeCells]
 have fresh:∀ (old:Nat),Tr G (keys [rB v E xs]) w G [.row (.slice (some ⟨w.heap.size,0,none⟩) (xs.length+s.size) (grownCap w (xs.length+s.size) old E)) E 1 (xs.length+s.size) (xs.map V++strCells s)]
   (w.drew.alloc (.cells ((xs.map V).toArray++(strCells s).toArray++Builtin.zeroCells (Value.int .u8 0).cells (grownCap w (xs.length+s.size) old E-(xs.length+s.size))) E)):=by
  intro old
  have h2:=(hbegin.drew).alloc (.cells ((xs.map V).toArray++(strCells s).toArray++Builtin.zeroCells (Value.int .u8 0).cells (grownCap w (xs.length+s.size) old E-(xs.length+s.size))) E)
  have h3:Tr G (keys [rB v E xs]) w G [.blk w.heap.size (.cells ((xs.map V).toArray++(strCells s).toArray++Builtin.zeroCells (Value.int .u8 0).cells (grownCap w (xs.length+s.size) old E-(xs.length+s.size))) E)] _:=Tr.left (ν:=[rB v E xs]) h2
  have hge:=grownCap_ge w (xs.length+s.size) old E
  refine h3.asRow hlen hge (grownCap_le_maxLen w (xs.length+s.size) old E (by rw [hmm]; omega)) ?_ ?_
  ·have hz1:(Value.int IntKind.u8 0).cells.size=1:=rfl
   simp only [Array.size_append,List.size_toArray,size_zeroCells,hz1,hml,hsl]
   omega
  simp only [Array.toList_append,List.append_assoc]
  rw [← List.append_assoc,←hlen]
  exact List.take_left
 rcases hown.2 with ⟨rfl,hm⟩ | ⟨g,cap,cur,rfl,_,hg,hnc,hcm,hcs,htake⟩
 ·have hx:xs=[]:=List.eq_nil_of_length_eq_zero hm
  subst hx
  have hrun:=run_append_nil_string (P:=P) w T U ty E inf (.int .u8 0) hu hu2 hi hz s (by omega) (by omega) (by rw [hb1]; simp only [List.length_nil] at hb; omega)
  have hf:=fresh 0
  have e1:(s.data.map fun b=>Value.int .u8 b.toNat)=(strCells s).toArray:=by
   apply Array.ext'
   simp [strCells]
  rw [e1] at hrun
  simp only [List.length_nil,Nat.zero_add,List.map_nil,List.nil_append,Array.empty_append] at hf
  refine ⟨_,_,hrun,?_⟩
  have eR2:∀ u,rB u E ([]++yb s)=.row u E 1 s.size (strCells s):=fun u=>by simp only [rB,List.nil_append,hyl,hyc]
  rw [eR2]; exact hf
 by_cases hroom:xs.length+s.size≤cap
 ·simp only [Nat.mul_one] at hcs htake
  have hrun:=run_append_room_string (P:=P) w T U ty E inf hu hu2 hi hs1 g xs.length cap cur hg s hroom (by omega)
  have hsat:Sat G [.blk g (.cells cur E (0,0))] w:=⟨hs.sub,fun r hr=>by rw [List.mem_singleton.1 hr]; exact hg,fun c hc=>hs.apart c (by simpa [keys,Res.keys,Value.ownBlock] using hc),by simp [keys,Res.keys]⟩
  refine ⟨_,_,hrun,?_⟩
  have h2:=uD (cs':=(cur.toList.take xs.length++strCells s++cur.toList.drop (xs.length+s.size)).toArray) hsat
  have h3:=h2.asRow (m:=xs.length+s.size) (cap:=cap) (sz:=1) (xs:=xs.map V++strCells s) hlen hroom hcm ?_ ?_
  ·have eR3:∀ u,rB u E (xs++yb s)=.row u E 1 (xs.length+s.size) (xs.map V++strCells s):=fun u=>by simp only [rB,List.length_append,List.map_append,hyl,hyc]
   rw [eR3]
   simpa [keys,Res.keys,Value.ownBlock] using h3
  ·simp only [List.size_toArray,aT,Array.length_toList,hsl]
   omega
  rw [htake,←hlen]
  exact List.take_left
 have holds:∀ j u,(xs.map V)[j]? = some u→w.cell? ((⟨g,0,none⟩ : Addr).add j)=some u:=hown.cells (g:=g) rfl
 have hrun:=run_append_grow_string (P:=P) w T U ty E inf (.int .u8 0) hu hu2 hi hz ⟨g,0,none⟩ xs.length cap (xs.map V) (by rw [hml,hs1]; omega) holds s (by omega) (by omega) (growslice_fits (by omega) (by rw [hb1]; omega))
 have eR3:∀ u,rB u E (xs++yb s)=.row u E 1 (xs.length+s.size) (xs.map V++strCells s):=fun u=>by simp only [rB,List.length_append,List.map_append,hyl,hyc]
 refine ⟨_,_,hrun,?_⟩
 rw [eR3]; exact fresh cap
theorem apT {T U E:Nat} {x y:Operand} {v:Value} {s:ByteArray} {xs:List Y} {μ':aH} (ho:nth l i=some ⟨some d,.call { callee:=.builtin .append,args:=#[x,y],argTypes:=#[T,U] },t,p,af,none⟩)
  (hT:cL P T=some (E,1,1)) (hU:xV P U=true) (hz:(P.info? E).bind (·.zero)=some (.int .u8 0)) (hx:Ev ρ true x v) (hy:Ev ρ true y (.string s)) (hm:MTake μ (rB v E xs) μ') (hb:xs.length+s.size≤140737488355328)
  (h:∀ v' L,v'.oneCell'=true→L=xs++yb s→Wo dr mc P n l K σ ((d,true,v') :: ρ) G (rB v' E L :: μ')) (hmc:mc.a=false∨dr=false:=by first|exact .inl rfl|exact .inr rfl):Wo dr mc P n l K (i :: σ) ρ G μ:=by
 refine .act (μ₁:=[rB v E xs]) (μ₂:=μ') (post:=fun G' μ' v'=>G'=G∧v'.oneCell'=true∧μ'=[rB v' E (xs++yb s)]) ho (by rcases hmc with h | h<;>simp [cA,h]) .no hm.perm (fun a w ha hs=>.inl ?_) ?_
 ·obtain ⟨v',w',hrun,ht⟩:=aQQ (ty:=t) (s:=s) hT hU hz hs.left hb
  exact ⟨v',w',G,[rB v' E (xs++yb s)],.inl (by simp [execOp,resolve,invoke,builtin,hx.eval ha rfl,hy.eval ha rfl,hrun]),ht,rfl,ht.sat.rowOne,rfl⟩
 rintro v' G' μ'' _ ⟨rfl,h1,rfl⟩
 exact h v' _ h1 rfl
def sbT (P:Program) (S D:TypeId):Bool:=match P.underlying S,P.underlying D with
 | some .string,some (.slice e)=>match P.underlying e with | some (.int .u8)=>true | _=>false
 | _,_=>false
theorem cvS {S D:TypeId} {x:Operand} {s:ByteArray} (hdf:dr=false) (ho:nth l i=some ⟨some d,.convert S D x,t,p,af,none⟩) (hS:sbT P S D=true) (hx:Ev ρ true x (.string s))
  (h:∀ G' s',PM.le G G'→SlR G' 1 aQ s' (yb s)→Wo dr mc P n l K σ ((d,true,s'.val (yb s).length) :: ρ) G' μ):Wo dr mc P n l K (i :: σ) ρ G μ:=by
 refine .act (μ₁:=[]) (μ₂:=μ) (post:=fun G' μ' v=>μ'=[]∧∃ s',v=s'.val (yb s).length∧SlR G' 1 aQ s' (yb s)) ho (.inr hdf) .no (.refl _) (fun a w ha hs=>.inl ?_) ?_
 ·unfold sbT at hS
  split at hS
  ·rename_i e h1 h2
   split at hS
   ·rename_i h3
    have hrun:=run_bytes_of_string (P:=P) w S D e s h1 h2 h3
    have hge:=grownCap_ge w s.size 0 e
    have h0:Tr G (keys []) w G [] w:=oC (Sat.left (μ:=[]) hs)
    have h4:=(h0.drew).alloc (.cells (bytesRow s (grownCap w s.size 0 e)) e ((bytesRow s (grownCap w s.size 0 e)).size,(bytesRow s (grownCap w s.size 0 e)).size+1))
    have h5:=h4.freeze (by simp [keys])
    refine ⟨.slice (some ⟨w.heap.size,0,none⟩) s.size (grownCap w s.size 0 e),_,_,[],.inl (by simp [execOp,hx.eval ha rfl,hrun]),h5,rfl,⟨some ⟨w.heap.size,0,none⟩,grownCap w s.size 0 e⟩,by rw [nE]; rfl,?_⟩
    refine SlR.ofRow (fun _ _=>rfl) (by rw [nE]; exact hge) (fun _=>rfl) (fun j v hj=>?_)
    rw [uN,aJv] at hj
    show RdP _ ⟨w.heap.size,0+j,none⟩ v
    rw [Nat.zero_add]
    refine RdP.blk (cs:=(bytesRow s (grownCap w s.size 0 e)).toList) (by rw [Array.toArray_toList]; exact gI _ _ _) ?_
    have hlt:j<(strCells s).length:=(List.getElem?_eq_some_iff.1 hj).1
    unfold bytesRow
    rw [Array.toList_append,List.getElem?_append_left (by simpa [strCells] using hlt)]
    simpa [strCells] using hj
   cases hS
  cases hS
 rintro v G' μ'' hle ⟨rfl,s',rfl,hs'⟩
 exact h G' s' hle hs'
theorem aGG {α:Type} {enc:α→List Value} {sz:Nat}:∀ {xs:List α} {k:Nat} {x:α},(∀ y∈xs,(enc y).length=sz)→xs[k]? = some x→((xs.flatMap enc).drop (k*sz)).take sz=enc x
 | y :: ys,0,x,hsz,hx=>by
  simp only [List.getElem?_cons_zero,Option.some.injEq] at hx
  subst hx
  rw [Nat.zero_mul,List.drop_zero,List.flatMap_cons,List.take_left' (hsz y (List.mem_cons_self ..))]
 | y :: ys,k+1,x,hsz,hx=>by
  rw [List.flatMap_cons,Nat.succ_mul,Nat.add_comm,←List.drop_drop,List.drop_left' (hsz y (List.mem_cons_self ..))]
  exact aGG (fun z hz=>hsz z (List.mem_cons_of_mem _ hz)) (by simpa using hx)
 | [],_,_,_,hx=>by simp at hx
theorem aGI {α:Type} {enc:α→List Value} {sz:Nat} {y:α}:∀ {xs:List α} {k:Nat},(∀ z∈xs,(enc z).length=sz)→(enc y).length=sz→k<xs.length→put (xs.flatMap enc) (k*sz) (enc y)=(xs.set k y).flatMap enc
 | z :: zs,0,hsz,hy,_=>by
  unfold put
  rw [Nat.zero_mul,List.take_zero,List.nil_append,Nat.zero_add,List.flatMap_cons,hy,List.drop_left' (hsz z (List.mem_cons_self ..))]
  simp
 | z :: zs,k+1,hsz,hy,hk=>by
  have ih:=aGI (xs:=zs) (k:=k) (fun u hu=>hsz u (List.mem_cons_of_mem _ hu)) hy (by simpa using hk)
  have hz:=hsz z (List.mem_cons_self ..)
  unfold put at ih ⊢
  rw [List.set_cons_succ,List.flatMap_cons,List.flatMap_cons,←ih,Nat.succ_mul]
  have e1:(enc z++zs.flatMap enc).take (k*sz+sz)=enc z++(zs.flatMap enc).take (k*sz):=by rw [List.take_append,List.take_of_length_le (by omega),hz,Nat.add_sub_cancel]
  have e2:(enc z++zs.flatMap enc).drop (k*sz+sz+(enc y).length)=(zs.flatMap enc).drop (k*sz+(enc y).length):=by
   rw [List.drop_append,List.drop_of_length_le (by omega),hz,show k*sz+sz+(enc y).length-sz=k*sz+(enc y).length by omega,List.nil_append]
  rw [e1,e2]
  simp only [List.append_assoc]
 | [],_,_,_,hk=>by simp at hk
theorem iF {α:Type} {enc:α→List Value} {sz b m cap E k:Nat} {xs:List α} {x:α} {μ':aH} (h:MTake μ (rS sz enc (.slice (some ⟨b,0,none⟩) m cap) E xs) μ') (hsz:∀ y∈xs,(enc y).length=sz) (hx:xs[k]? = some x) {q:Nat} (hq:q=k*sz):RdN G μ b q (enc x):=by
 subst hq
 intro j v hj
 refine Rd.row h ?_
 rw [← aGG hsz hx,List.getElem?_take] at hj
 split at hj
 ·rw [List.getElem?_drop] at hj; exact hj
 cases hj
theorem tH {α:Type} {enc:α→List Value} {T E sz m cap b o k:Nat} {x y:Operand} {v:Value} {xs:List α} {u:α} {μ':aH} (ho:nth l i=some ⟨none,.store T x y,t,p,af,none⟩) (hx:Ev ρ true x (.pointer (some ⟨b,o,none⟩))) (hy:Ev ρ true y v) (hv:v.cells=(enc u).toArray) (hz:dL P T=some sz)
  (hm:MTake μ (rS sz enc (.slice (some ⟨b,0,none⟩) m cap) E xs) μ') (hsz:∀ y∈xs,(enc y).length=sz) (hu:(enc u).length=sz) (h1:∀ c∈enc u,c.oneCell'=true) (hq:o=k*sz) (hk:k<xs.length)
  (h:Wo dr mc P n l K σ ρ G (rS sz enc (.slice (some ⟨b,0,none⟩) m cap) E (xs.set k u) :: μ')):Wo dr mc P n l K (i :: σ) ρ G μ:=by
 subst hq
 refine .act (μ₁:=[rS sz enc (.slice (some ⟨b,0,none⟩) m cap) E xs]) (μ₂:=μ') (post:=fun G' μ' v=>G'=G∧μ'=[rS sz enc (.slice (some ⟨b,0,none⟩) m cap) E (xs.set k u)]∧v=undef) ho (.inl rfl) .no hm.perm (fun a w ha hs=>.inl ?_) ?_
 ·have hs':=hs.left
  have hrow:w.ownsRow 0 E sz (.slice (some ⟨b,0,none⟩) m cap) xs.length (xs.flatMap enc):=hs'.own _ (List.mem_singleton.2 rfl)
  have hfl:=uO hsz
  rcases hrow.2 with ⟨e,_⟩ | ⟨g,cap',cur,e,_,hg,hnc,hcm,hcs,htake⟩
  ·cases e
  simp only [Value.slice.injEq,Option.some.injEq,Addr.mk.injEq,and_true,true_and] at e
  obtain ⟨rfl,rfl,rfl⟩:=e
  have hkey:keys [rS sz enc (.slice (some ⟨b,0,none⟩) xs.length cap) E xs]=[b]:=by simp [keys,Res.keys,Value.ownBlock]
  have hsat:Sat G [.blk b (.cells cur E (0,0))] w:=⟨hs'.sub,fun r hr=>by rw [List.mem_singleton.1 hr]; exact hg,fun c hc=>hs'.apart c (by simpa [keys,Res.keys,Value.ownBlock] using hc),by simp [keys,Res.keys]⟩
  have hin:k*sz+sz≤xs.length*sz:=by rw [← Nat.succ_mul]; exact Nat.mul_le_mul_right _ hk
  have hcap:xs.length*sz≤cap*sz:=Nat.mul_le_mul_right _ hnc
  have hst:=run_storeCells_at P b (k*sz) E (enc u) 0 cur w hg (by rw [Nat.add_zero,hu]; omega) h1
  simp only [Nat.add_zero,hu] at hst
  have h2:=(uD (cs':=(cur.toList.take (k*sz)++enc u++cur.toList.drop (k*sz+sz)).toArray) hsat).asRow (m:=xs.length) (cap:=cap) (sz:=sz) (xs:=(xs.set k u).flatMap enc) ?_ hnc hcm ?_ ?_
  ·refine ⟨undef,_,G,_,.inr ⟨?_,rfl⟩,by rw [hkey]; exact h2,rfl,by simp [rS],rfl⟩
   cases hi:P.info? T with
   | none=>simp [dL,hi] at hz
   | some inf =>
    simp only [dL,hi,Option.map_some,Option.some.injEq] at hz
    simp only [execOp,hx.eval ha rfl,hy.eval ha rfl]
    simp [Instr.storeAt,Instr.sureAddr,storeVar,hv,sizeOf,typeInfo,hi,hz,hst,hu]
  ·rw [uO (sz:=sz) (fun z hz'=>by
    rcases List.mem_or_eq_of_mem_set hz' with hz'|rfl
    ·exact hsz z hz'
    exact hu),List.length_set]
  ·simp only [List.size_toArray,aT,Array.length_toList,hu]
   omega
  have:=aIv (A:=cur.toList) (C:=enc u) (o:=k*sz) (m:=xs.length*sz) (by rw [hu]; exact hin) (by have:cur.toList.length=cur.size:=Array.length_toList ..; omega)
  rw [hu,htake] at this
  rw [this]
  have h5:=aGI (xs:=xs) hsz hu hk
  unfold put at h5
  rw [hu] at h5
  exact h5
 rintro v G' μ'' _ ⟨rfl,rfl,rfl⟩
 exact h
end
def bP (n:Nat):List Y:=if h:n<128 then [BitVec.ofNat 8 n] else BitVec.ofNat 8 (n%128+128) :: bP (n / 128)
termination_by n
decreasing_by omega
theorem rV {n:Nat} (h:n<128):bP n=[BitVec.ofNat 8 n]:=by rw [bP,dif_pos h]
theorem tC {n:Nat} (h:¬ n<128):bP n=BitVec.ofNat 8 (n%128+128) :: bP (n / 128):=by rw [bP,dif_neg h]
theorem aBj (n:Nat):0<(bP n).length:=by
 by_cases h:n<128
 ·rw [rV h]; simp
 ·rw [tC h]; simp
theorem aHY:∀ (k n:Nat),n<128^k→0<k→(bP n).length≤k
 | 0,_,_,h=>by omega
 | k+1,n,h,_=>by
  by_cases hn:n<128
  ·rw [rV hn]; simp
  ·rw [tC hn]
   by_cases hk:k=0
   ·subst hk; omega
   ·have:=aHY k (n / 128) (by rw [Nat.pow_succ] at h; omega) (by omega)
    simp; omega
theorem gZ {n:Nat} (h:n<18446744073709551616):(bP n).length≤10:=aHY 10 n (by omega) (by decide)
def gA:Nat→Nat→List Y→Nat×Nat×Int
 | _,_,[]=>(0,0,10)
 | k,acc,x :: r =>
  if k=9∧1<x.toNat then (0,0,11)
  else if x.toNat<128 then (if 0<k∧x.toNat=0 then (0,0,11) else (acc+x.toNat*128^k,k+1,0))
  else gA (k+1) (acc+(x.toNat-128)*128^k) r
def dR (b:List Y):Nat×Nat×Int:=gA 0 0 b
theorem aHq:(128:Nat)^9=9223372036854775808:=by decide
theorem aOu {j k:Nat} (h:j≤k):(128:Nat)^j≤128^k:=Nat.pow_le_pow_right (by decide) h
theorem aHW:∀ (b:List Y) (k acc v j:Nat),acc<128^k→k≤9→gA k acc b=(v,j,0)→∃ n,v=acc+n*128^k∧(0<k→0<n)∧j=k+(bP n).length∧b=bP n++b.drop (bP n).length∧v<18446744073709551616
 | [],k,acc,v,j,_,_,h=>by simp [gA] at h
 | x :: r,k,acc,v,j,ha,hk,h=>by
  simp only [gA] at h
  have hx:=x.isLt
  split at h
  ·simp at h
  rename_i h9
  split at h
  ·rename_i hx1
   split at h
   ·simp at h
   rename_i h0
   simp only [Prod.mk.injEq,and_true] at h
   obtain ⟨rfl,rfl⟩:=h
   have hb:BitVec.ofNat 8 x.toNat=x:=by simp
   refine ⟨x.toNat,rfl,fun hk0=>by omega,by rw [rV hx1]; rfl,by rw [rV hx1,hb]; rfl,?_⟩
   rcases Nat.lt_or_ge k 9 with hlt | hge
   ·have h1:acc+x.toNat*128^k<128^(k+1):=by
     rw [Nat.pow_succ]
     have:x.toNat*128^k≤127*128^k:=Nat.mul_le_mul_right _ (by omega)
     omega
    have h2:=aOu (show k+1≤9 by omega)
    rw [aHq] at h2
    omega
   obtain rfl:k=9:=by omega
   rw [aHq] at ha ⊢
   omega
  rename_i hx1
  have hk9:k<9:=by omega
  obtain ⟨n,e1,e2,e3,e4,e5⟩:=aHW r (k+1) (acc+(x.toNat-128)*128^k) v j (by
   rw [Nat.pow_succ]
   have:(x.toNat-128)*128^k≤127*128^k:=Nat.mul_le_mul_right _ (by omega)
   omega) (by omega) h
  have hn:=e2 (by omega)
  have hbig:¬ (n*128+(x.toNat-128))<128:=by omega
  have hnum:bP (n*128+(x.toNat-128))=x :: bP n:=by
   rw [tC hbig]
   have q1:(n*128+(x.toNat-128))%128+128=x.toNat:=by omega
   have q2:(n*128+(x.toNat-128)) / 128=n:=by omega
   rw [q1,q2]
   simp
  refine ⟨n*128+(x.toNat-128),?_,fun _=>by omega,?_,?_,e5⟩
  ·rw [e1,Nat.pow_succ,Nat.add_mul]
   generalize 128^k=q
   have hq:n*(q*128)=n*128*q:=by rw [Nat.mul_comm q 128,←Nat.mul_assoc]
   rw [hq]
   generalize n*128*q=u
   generalize (x.toNat-128)*q=t
   omega
  ·rw [hnum,e3,List.length_cons]; omega
  rw [hnum,List.length_cons,List.drop_succ_cons,List.cons_append,←e4]
theorem aHX {b:List Y} {v j:Nat} (h:dR b=(v,j,0)):b=bP v++b.drop j∧v<18446744073709551616∧j=(bP v).length∧j≤b.length:=by
 obtain ⟨n,e1,_,e3,e4,e5⟩:=aHW b 0 0 v j (by simp) (by omega) h
 have hv:v=n:=by rw [e1]; simp
 subst hv
 have hj:j=(bP v).length:=by omega
 refine ⟨by rw [hj]; exact e4,e5,hj,?_⟩
 rw [hj,e4]; simp
theorem aDe:∀ (b:List Y) (k acc v j:Nat) (e:Int),gA k acc b=(v,j,e)→e≠0→v=0∧j=0
 | [],k,acc,v,j,e,h,he=>by
  simp only [gA,Prod.mk.injEq] at h
  exact ⟨h.1.symm,h.2.1.symm⟩
 | x :: r,k,acc,v,j,e,h,he=>by
  simp only [gA] at h
  split at h
  ·simp only [Prod.mk.injEq] at h; exact ⟨h.1.symm,h.2.1.symm⟩
  ·split at h
   ·split at h
    ·simp only [Prod.mk.injEq] at h; exact ⟨h.1.symm,h.2.1.symm⟩
    ·simp only [Prod.mk.injEq] at h; exact absurd h.2.2.symm he
   ·exact aDe r _ _ _ _ _ h he
structure Rd' where
 rest:List Y
 bad:Int
def dD (s:Rd'):Nat×Rd':=if s.bad≠0 then (0,s) else ((dR s.rest).1,⟨s.rest.drop (dR s.rest).2.1,(dR s.rest).2.2⟩)
def gD (most:Nat) (s:Rd'):List Y×Rd' :=
 if s.bad≠0 then ([],s)
 else if (dR s.rest).2.2≠0 then ([],⟨s.rest,(dR s.rest).2.2⟩)
 else if most<(dR s.rest).1 then ([],⟨s.rest,4⟩)
 else if s.rest.length-(dR s.rest).2.1<(dR s.rest).1 then ([],⟨s.rest,10⟩)
 else ((s.rest.drop (dR s.rest).2.1).take (dR s.rest).1,⟨s.rest.drop ((dR s.rest).2.1+(dR s.rest).1),0⟩)
def mC (s:Rd'):Y×Rd':=if s.bad≠0 then (0,s) else if s.rest.length<1 then (0,⟨s.rest,10⟩) else (s.rest.getD 0 0,⟨s.rest.drop 1,0⟩)
def nD (xs:List Y):List Y:=bP xs.length++xs
noncomputable def B (p:Prop):Bool:=@decide p (Classical.propDecidable p)
theorem yD {p:Prop}:B p=true↔p:=by unfold B; exact @decide_eq_true_iff p (Classical.propDecidable p)
theorem aCG {p:Prop} (h:p):B p=true:=yD.2 h
theorem aCF {p:Prop} (h:¬ p):B p=false:=by
 cases hb:B p with
 | false=>rfl
 | true=>exact absurd (yD.1 hb) h
def aUA (n m:Int):Bool:=decide (0<n)&&decide (n≤m)
structure Meta where
 level:Int
 gen:Int
 epoch:Int
 number:Int
 size:Int
 count:Int
 min:ByteArray
 max:ByteArray
 root:Nat→Int
def Meta.cells (m:Meta):List Value :=
 [.int .u8 m.level,.int .u64 m.gen,.int .u64 m.epoch,.int .u64 m.number,.int .i64 m.size,.int .i64 m.count,.string m.min,.string m.max]++(List.range 32).map fun i=>.int .u8 (m.root i)
def Meta.val (m:Meta):Value:=.agg m.cells.toArray
def Meta.zero:Meta:=⟨0,0,0,0,0,0,ByteArray.empty,ByteArray.empty,fun _=>0⟩
theorem Meta.len (m:Meta):m.cells.length=40:=rfl
theorem Meta.one (m:Meta):∀ u∈m.cells,u.oneCell'=true:=by
 intro u hu
 simp only [Meta.cells,List.mem_append,List.mem_cons,List.not_mem_nil,or_false,List.mem_map] at hu
 rcases hu with (rfl|rfl|rfl|rfl|rfl|rfl|rfl|rfl) | ⟨i,_,rfl⟩<;>rfl
structure Meta.wf (m:Meta):Prop where
 level:0≤m.level∧m.level<256
 number:0≤m.number∧m.number<18446744073709551616
 size : -9223372036854775808≤m.size∧m.size≤9223372036854775807
 minL:m.min.size≤9223372036854775807
 maxL:m.max.size≤9223372036854775807
 gen:0≤m.gen∧m.gen≤18446744073709551615
 epoch:0≤m.epoch∧m.epoch≤18446744073709551615
 count : -9223372036854775808≤m.count∧m.count≤9223372036854775807
 root:∀ j,j<32→0≤m.root j∧m.root j≤255
structure State where
 lv:Nat→List Meta
 log:Int
 next:Int
 seq:Int
 least:Int
 gens:Nat→Int
def State.cells (s:State) (hd:Nat→Sh):List Value :=
 (List.range 5).map (fun i=>(hd i).val (s.lv i).length)++[.int .u64 s.log,.int .u64 s.next,.int .u64 s.seq,.int .u64 s.least]++(List.range 5).map fun i=>.int .u64 (s.gens i)
def State.val (s:State) (hd:Nat→Sh):Value:=.agg (s.cells hd).toArray
theorem State.cell_lv (s:State) (hd:Nat→Sh) {k:Nat} (h:k<5):(s.cells hd)[0+k*1]? = some ((hd k).val (s.lv k).length):=by
 match k,h with
 | 0,_=>rfl | 1,_=>rfl | 2,_=>rfl | 3,_=>rfl | 4,_=>rfl
theorem State.cell_gen (s:State) (hd:Nat→Sh) {k:Nat} (h:k<5):(s.cells hd)[9+k*1]? = some (.int .u64 (s.gens k)):=by
 match k,h with
 | 0,_=>rfl | 1,_=>rfl | 2,_=>rfl | 3,_=>rfl | 4,_=>rfl
structure StR (G:PM) (s:State) (hd:Nat→Sh):Prop where
 lv:∀ i,i<5→SlR G 40 Meta.cells (hd i) (s.lv i)
 len:∀ i,i<5→(s.lv i).length*112≤140737488351232
 wf:∀ i,i<5→∀ m∈s.lv i,m.wf
theorem StR.mono {G G':PM} {s:State} {hd:Nat→Sh} (h:StR G s hd) (hle:PM.le G G'):StR G' s hd:=⟨fun i hi=>(h.lv i hi).mono hle,h.len,h.wf⟩
theorem SlR.get {G:PM} {h:Sh} {xs:List Meta} (s:SlR G 40 Meta.cells h xs) {k:Nat} (hk:k<xs.length):RdNP G h.b (h.o+k*40) (xs.getD k Meta.zero).cells :=
 s.rd k _ (by simp [hk])
theorem SlR.gat {G:PM} {h:Sh} {xs:List Meta} (s:SlR G 40 Meta.cells h xs) {j:Int} (k:Nat) (hj:j.toNat=k) (hk:k<xs.length):RdNP G h.b (h.o+j.toNat*40) (xs.getD k Meta.zero).cells:=by
 rw [hj]; exact s.get hk
theorem qM {xs:List Meta} {k:Nat} (h:k<xs.length):xs.getD k Meta.zero∈xs:=by simp [h]
def lt (a b:ByteArray):Bool:=Op.bytesLess a.toList b.toList
def le (a b:ByteArray):Bool:=Op.bytesLess a.toList b.toList||a.toList == b.toList
def good (s:State) (m:Meta):Bool :=
 decide (m.level<5)&&le m.min m.max&&decide ((m.min.size:Int)≤1024)&&decide ((m.max.size:Int)≤1024)&&decide (m.count≥1)&&decide (m.size≥1)&&decide (m.number<s.next)&&decide (m.gen≤s.gens m.level.toNat)
def iM (level:Int) (a b:Meta):Bool:=if level=0 then decide (b.number<a.number) else lt a.max b.min
theorem aI0 (a b:Meta) (h0:0≤a.level):(if (a.level == 0)=true then decide (a.number > b.number) else lt a.max b.min)=iM a.level a b:=by
 unfold iM
 by_cases h:a.level=0
 ·simp [h]
 ·simp [h]
theorem aMp {s:State} {m:Meta} (h1:m.level<5) (h2:(!(Op.bytesLess m.min.toList m.max.toList||m.min.toList == m.max.toList))=false)
  (h3:(if ((m.max.size:Nat):Int) > ((m.min.size:Nat):Int) then ((m.max.size:Nat):Int) else ((m.min.size:Nat):Int))≤1024) (h4:1≤m.count) (h5:1≤m.size) :
  fO [.bool (decide (m.number<s.next)&&decide (m.gen≤s.gens m.level.toNat))]=.bool (good s m):=by
 have h2':le m.min m.max=true:=by unfold le; cases h:(Op.bytesLess m.min.toList m.max.toList||m.min.toList == m.max.toList)<;>simp_all
 have h6:((m.min.size:Nat):Int)≤1024∧((m.max.size:Nat):Int)≤1024:=by split at h3<;>omega
 simp only [fO,good,h2',decide_eq_true h1,decide_eq_true h6.1,decide_eq_true h6.2,decide_eq_true (show m.count≥1 from h4),decide_eq_true (show m.size≥1 from h5),Bool.true_and]
def tot (s:State):Nat→Int
 | 0=>0
 | n+1=>tot s n+(s.lv n).length
theorem xY (s:State):∀ n,0≤tot s n
 | 0=>Int.le_refl _
 | n+1=>by have:=xY s n; simp only [tot]; omega
theorem xX (s:State):∀ {n m:Nat},n≤m→tot s n≤tot s m:=by
 intro n m h
 induction h with
 | refl=>exact Int.le_refl _
 | step _ ih=>simp only [tot]; omega
def jG (l:List Meta):List Int:=l.map (·.number)
def bZ (s:State):Nat→List Meta
 | 0=>[]
 | n+1=>bZ s n++s.lv n
theorem zC (s:State):∀ n,((bZ s n).length:Int)=tot s n
 | 0=>rfl
 | n+1=>by simp only [bZ,tot,List.length_append,←zC s n]; omega
def sJ (s:State) (i:Nat) (l:List Meta):Prop :=
 (∀ m∈l,m.level=i∧good s m=true)∧∀ j,j+1<l.length→iM i (l.getD j Meta.zero) (l.getD (j+1) Meta.zero)=true
structure RightP (s:State):Prop where
 seq:s.seq≤72057594037927935
 least:s.least≤72057594037927935
 log:s.log≤s.next
 few:tot s 5≤1024
 lv:∀ i,i<5→sJ s i (s.lv i)
 apart:∀ a b,a<(bZ s 5).length→b<a→((bZ s 5).getD a Meta.zero).number≠((bZ s 5).getD b Meta.zero).number
noncomputable def fG (s:State):Bool:=B (RightP s)
theorem aBu {s:State} (h:RightP s):fG s=true:=aCG h
theorem aP1 {s:State} (h:¬ RightP s):fG s=false:=aCF h
theorem vD {s:State} (h:fG s=true):RightP s:=yD.1 h
noncomputable def tE (level:Int) (l:List Meta):Bool:=B (∀ j,j+1<l.length→iM level (l.getD j Meta.zero) (l.getD (j+1) Meta.zero)=true)
theorem aDm {level:Int} {l:List Meta}:tE level l=true↔∀ j,j+1<l.length→iM level (l.getD j Meta.zero) (l.getD (j+1) Meta.zero)=true:=yD
def aET (level:Int) (a b:Meta):Bool :=
 (level == 0)&&decide (a.number≤b.number)||(decide (level > 0) && !(lt a.max b.min))
theorem aSI {level:Int} (h0:0≤level) (a b:Meta):aET level a b = !iM level a b:=by
 unfold aET iM
 by_cases h:level=0
 ·subst h; by_cases hh:b.number<a.number<;>simp [hh]<;>omega
 ·have:level > 0:=by omega
  simp [h,this]
theorem aJs {level:Int} {a b:Meta} {r:Bool} (h0:0≤level) (h:((level == 0)&&decide (a.number≤b.number)||(decide (level > 0) && !(Op.bytesLess a.max.toList b.min.toList)))=r):iM level a b = !r:=by
 rw [← h]; show _ = !(aET level a b); rw [aSI h0]; simp
theorem aOb {level:Int} {l:List Meta} {k:Nat} (h:l.length≤k) (hall:∀ j,j+1<k→iM level (l.getD j Meta.zero) (l.getD (j+1) Meta.zero)=true):fO [.bool true]=.bool (tE level l):=by
 have:tE level l=true:=aDm.2 fun j hj=>hall j (by omega)
 rw [this]; rfl
theorem aOZ {level:Int} {l:List Meta} {k:Nat} (h1:1≤k) (h2:k<l.length) (hw:iM level (l.getD (k-1) Meta.zero) (l.getD k Meta.zero)=false):fO [.bool false]=.bool (tE level l):=by
 have:tE level l=false:=by
  refine aCF fun hh=>?_
  have:=hh (k-1) (by omega)
  rw [show k-1+1=k by omega] at this
  rw [this] at hw; cases hw
 rw [this]; rfl
theorem aOa {level:Int} {l:List Meta} {k:Nat} (hall:∀ j,j+1<k→iM level (l.getD j Meta.zero) (l.getD (j+1) Meta.zero)=true) (h1:1≤k) (hw:iM level (l.getD (k-1) Meta.zero) (l.getD k Meta.zero)=true) :
  ∀ j,j+1<k+1→iM level (l.getD j Meta.zero) (l.getD (j+1) Meta.zero)=true:=by
 intro j hj
 by_cases h:j+1=k
 ·subst h; simpa using hw
 ·exact hall j (by omega)
theorem aDX (l:List Meta):∀ x∈l,x.cells.length=40:=fun x _=>x.len
theorem tB (l:List Meta):∀ u∈l.flatMap Meta.cells,u.oneCell'=true:=fun u hu=>by
 obtain ⟨m,_,hm⟩:=List.mem_flatMap.1 hu
 exact m.one u hm
theorem aLS (s:State) (k:Nat) (v:Value) (E:Nat):Res.row v E 40 ((bZ s k).length+(s.lv k).length) ((bZ s k).flatMap Meta.cells++(s.lv k).flatMap Meta.cells)=Res.row v E 40 (bZ s (k+1)).length ((bZ s (k+1)).flatMap Meta.cells):=by
 simp only [bZ,List.length_append,List.flatMap_append]
theorem uM {s:State} (h:¬ RightP s):fO [.bool false]=.bool (fG s):=by rw [aP1 h]; rfl
theorem aF9 {s:State} (h:RightP s):fO [.bool true]=.bool (fG s):=by rw [aBu h]; rfl
theorem aQJ {s:State} (h:((72057594037927935<s.seq∨72057594037927935<s.least)∨s.next<s.log)∨1024<tot s 5):¬ RightP s:=by
 intro hr
 have h1:=hr.seq; have h2:=hr.least; have h3:=hr.log; have h4:=hr.few
 omega
theorem aQM {s:State} {i:Nat} (hi:i<5) (h:tE i (s.lv i)=false):¬ RightP s:=by
 intro hr
 have:=aDm.2 (hr.lv i hi).2
 rw [this] at h; cases h
theorem aD3 {s:State} {i k:Nat} (hi:i<5) (hk:k<(s.lv i).length) (h:(((s.lv i).getD k Meta.zero).level != (i:Int))=true∨good s ((s.lv i).getD k Meta.zero)=false):¬ RightP s:=by
 intro hr
 have:=(hr.lv i hi).1 _ (qM hk)
 rcases h with h | h
 ·rw [this.1] at h; simp at h
 ·rw [this.2] at h; cases h
theorem aM6 {s:State} {i k:Nat} (hg:∀ j,j<k→((s.lv i).getD j Meta.zero).level=i∧good s ((s.lv i).getD j Meta.zero)=true)
  (h:(((s.lv i).getD k Meta.zero).level != (i:Int))=false∧good s ((s.lv i).getD k Meta.zero)=true):∀ j,j<k+1→((s.lv i).getD j Meta.zero).level=i∧good s ((s.lv i).getD j Meta.zero)=true:=by
 intro j hj
 by_cases e:j=k
 ·subst e; exact ⟨by simpa using h.1,h.2⟩
 ·exact hg j (by omega)
theorem aNk {s:State} {i k:Nat} (hall:∀ j,j<i→sJ s j (s.lv j)) (ho:tE i (s.lv i)=true) (hk:(s.lv i).length≤k) (hg:∀ j,j<k→((s.lv i).getD j Meta.zero).level=i∧good s ((s.lv i).getD j Meta.zero)=true) :
  ∀ j,j<i+1→sJ s j (s.lv j):=by
 intro j hj
 by_cases e:j=i
 ·subst e
  refine ⟨fun m hm=>?_,aDm.1 ho⟩
  obtain ⟨q,hq,rfl⟩:=List.getElem_of_mem hm
  have:=hg q (by omega)
  simpa [hq] using this
 exact hall j (by omega)
theorem aOH {s:State} {p q:Nat} (h:∀ b,b<q→((bZ s 5).getD p Meta.zero).number≠((bZ s 5).getD b Meta.zero).number) (hc:(((bZ s 5).getD p Meta.zero).number == ((bZ s 5).getD q Meta.zero).number)=false) :
  ∀ b,b<q+1→((bZ s 5).getD p Meta.zero).number≠((bZ s 5).getD b Meta.zero).number:=by
 intro b hb
 by_cases e:b=q
 ·subst e; simpa using hc
 ·exact h b (by omega)
theorem aOG {s:State} {p q:Nat} (h:∀ a b,a<p→b<a→((bZ s 5).getD a Meta.zero).number≠((bZ s 5).getD b Meta.zero).number) (hq:p≤q) (h1:∀ b,b<q→((bZ s 5).getD p Meta.zero).number≠((bZ s 5).getD b Meta.zero).number) :
  ∀ a b,a<p+1→b<a→((bZ s 5).getD a Meta.zero).number≠((bZ s 5).getD b Meta.zero).number:=by
 intro a b ha hb
 by_cases e:a=p
 ·subst e; exact h1 b (by omega)
 ·exact h a b (by omega) hb
theorem aQL {s:State} {p q:Nat} (hp:p<(bZ s 5).length) (hq:q<p) (h:(((bZ s 5).getD p Meta.zero).number == ((bZ s 5).getD q Meta.zero).number)=true):¬ RightP s:=by
 intro hr
 exact hr.apart p q hp hq (by simpa using h)
theorem aQF {s:State} {i p:Nat} (h1:((s.seq≤72057594037927935∧s.least≤72057594037927935)∧s.log≤s.next)∧tot s 5≤1024) (hi:5≤i) (hall:∀ j,j<i→sJ s j (s.lv j)) (hp:(bZ s 5).length≤p)
  (hn:∀ a b,a<p→b<a→((bZ s 5).getD a Meta.zero).number≠((bZ s 5).getD b Meta.zero).number):RightP s:=by
 exact ⟨h1.1.1.1,h1.1.1.2,h1.1.2,h1.2,fun j hj=>hall j (by omega),fun a b ha hb=>hn a b (by omega) hb⟩
theorem State.arr_lv (s:State) (hd:Nat→Sh) {k:Nat} (h:k<5):(((s.cells hd).drop 0).take 5)[k]? = some ((hd k).val (s.lv k).length):=by
 match k,h with
 | 0,_=>rfl | 1,_=>rfl | 2,_=>rfl | 3,_=>rfl | 4,_=>rfl
theorem RdNP.add {G:PM} {b:Nat} {cs:List Value} {T:TypeId}:RdNP (G.add b (cl cs T)) b 0 cs:=fun j v hj=>by
 rw [Nat.zero_add]; exact RdP.blk (gI G b _) hj
def lU (L:List Int) (x:Int):Int:=if x∈L then 1 else 0
def nM (L:List Int) (x:Int):Option Value:=if x∈L then some (.int .i64 1) else none
theorem aL5 (L:List Int) (x:Int):(nM L x).getD (.int .i64 0)=.int .i64 (lU L x):=by unfold nM lU; split<;>rfl
theorem aL4 (L:List Int) (x:Int):0≤lU L x∧lU L x≤1:=by unfold lU; split<;>omega
theorem aMB (m:Int→Option Value) (x:Int) (u z:Value):((fun j=>if j=x then some u else m j) x).getD z=u:=by simp
theorem aL9 {L:List Int} {x:Int} (h:x∉L):(fun j=>if j=x then some (Value.int .i64 (lU L x+1)) else nM L j)=nM (L++[x]):=by
 funext j
 unfold nM lU
 by_cases hj:j=x
 ·subst hj; simp [h]
 ·simp [hj]
theorem aL8 {L:List Int} {x:Int} (h:lU L x+1≤1):x∉L:=by intro hm; simp [lU,hm] at h
theorem aL6 {L:List Int} {x:Int} (h:1<lU L x+1):x∈L:=by
 by_cases hm:x∈L
 ·exact hm
 ·simp [lU,hm] at h
def sE (l:List Meta):Prop:=∀ a b,a<l.length→b<a→(l.getD a Meta.zero).number≠(l.getD b Meta.zero).number
theorem aBS {l r:List Meta} {k:Nat} (h:k<l.length):(l++r).getD k Meta.zero=l.getD k Meta.zero:=by
 simp [List.getElem?_append_left h]
theorem aGT {l r:List Meta} {m:Meta}:(l++m :: r).getD l.length Meta.zero=m:=by simp
theorem aMX:sE []:=fun a b h=>by simp at h
theorem aMY {l:List Meta} {m:Meta} (h:sE l) (hm:m.number∉jG l):sE (l++[m]):=by
 intro a b ha hb
 simp only [List.length_append,List.length_singleton] at ha
 by_cases e:a=l.length
 ·subst e
  rw [aGT,aBS hb]
  intro e
  exact hm (List.mem_map.2 ⟨_,qM hb,e.symm⟩)
 ·rw [aBS (by omega),aBS (by omega)]
  exact h a b (by omega) hb
theorem aFG (s:State) {i:Nat}:∀ {n:Nat},i<n→∃ r,bZ s n=bZ s i++s.lv i++r
 | 0,h=>by omega
 | n+1,h=>by
  by_cases e:i=n
  ·subst e; exact ⟨[],by simp [bZ]⟩
  ·obtain ⟨r,hr⟩:=aFG s (i:=i) (n:=n) (by omega)
   exact ⟨r++s.lv n,by simp [bZ,hr]⟩
theorem aEH {l:List Meta} {k:Nat} (h:k<l.length):l.take (k+1)=l.take k++[l.getD k Meta.zero]:=by
 rw [List.take_succ_eq_append_getElem h]; simp [h]
theorem aQH {s:State} {i k:Nat} (hi:i<5) (hk:k<(s.lv i).length) (h:((s.lv i).getD k Meta.zero).number∈jG (bZ s i++(s.lv i).take k)):¬ RightP s:=by
 intro hr
 obtain ⟨r,hr5⟩:=aFG s hi
 have hsplit:bZ s 5=(bZ s i++(s.lv i).take k)++((s.lv i).getD k Meta.zero) :: ((s.lv i).drop (k+1)++r):=by
  rw [hr5]
  have:s.lv i=(s.lv i).take k++(s.lv i).getD k Meta.zero :: (s.lv i).drop (k+1):=by
   have h1:=List.take_append_drop (k+1) (s.lv i)
   rw [aEH hk] at h1
   simpa using h1.symm
  generalize hm:(s.lv i).getD k Meta.zero=m at this
  rw [show bZ s i++s.lv i++r=bZ s i++(s.lv i)++r from rfl]
  conv=>lhs; rw [this]
  simp
 obtain ⟨m,hm,hmn⟩:=List.mem_map.1 h
 obtain ⟨b,hb,rfl⟩:=List.getElem_of_mem hm
 have:=hr.apart (bZ s i++(s.lv i).take k).length b (by rw [hsplit]; simp) hb
 rw [hsplit,aGT,aBS hb] at this
 apply this
 rw [← hmn,List.getD_eq_getElem?_getD,List.getElem?_eq_getElem hb]
 rfl
theorem aMC (s:State) (i b:Nat):Res.mp b .u64 (nM (jG (bZ s i)))=Res.mp b .u64 (nM (jG (bZ s i++(s.lv i).take 0))):=by simp
theorem aL7 {s:State} {i k b:Nat} (h:(s.lv i).length≤k):Res.mp b .u64 (nM (jG (bZ s i++(s.lv i).take k)))=Res.mp b .u64 (nM (jG (bZ s (i+1)))):=by
 rw [List.take_of_length_le h]; rfl
theorem aMA {s:State} {i k b:Nat} (hk:k<(s.lv i).length) (h:((s.lv i).getD k Meta.zero).number∉jG (bZ s i++(s.lv i).take k)) :
  Res.mp b .u64 (fun j=>if j=((s.lv i).getD k Meta.zero).number then some (Value.int .i64 (lU (jG (bZ s i++(s.lv i).take k)) ((s.lv i).getD k Meta.zero).number+1)) else nM (jG (bZ s i++(s.lv i).take k)) j) =
   Res.mp b .u64 (nM (jG (bZ s i++(s.lv i).take (k+1)))):=by
 rw [aL9 h,aEH hk]
 simp [jG]
structure Part (s:State) (i k:Nat):Prop where
 le:k≤(s.lv i).length
 good:∀ j,j<k→((s.lv i).getD j Meta.zero).level=i∧good s ((s.lv i).getD j Meta.zero)=true
 pair:∀ j,j+1<k→iM i ((s.lv i).getD j Meta.zero) ((s.lv i).getD (j+1) Meta.zero)=true
 dist:sE (bZ s i++(s.lv i).take k)
theorem Part.zero {s:State} {i:Nat} (h:sE (bZ s i)):Part s i 0:=⟨Nat.zero_le _,fun j hj=>by omega,fun j hj=>by omega,by simpa using h⟩
theorem Part.step {s:State} {i k:Nat} (h:Part s i k) (hk:k<(s.lv i).length) (h1:((s.lv i).getD k Meta.zero).level=i∧Go.Tan.good s ((s.lv i).getD k Meta.zero)=true)
  (h2:((s.lv i).getD k Meta.zero).number∉jG (bZ s i++(s.lv i).take k)) (h3:0<k→iM i ((s.lv i).getD (k-1) Meta.zero) ((s.lv i).getD k Meta.zero)=true):Part s i (k+1):=by
 refine ⟨by omega,fun j hj=>?_,fun j hj=>?_,?_⟩
 ·by_cases e:j=k
  ·subst e; exact h1
  exact h.good j (by omega)
 ·by_cases e:j+1=k
  ·subst e; have:=h3 (by omega); simpa using this
  exact h.pair j (by omega)
 rw [aEH hk,←List.append_assoc]; exact aMY h.dist h2
theorem Part.lvOk {s:State} {i k:Nat} (h:Part s i k) (hk:(s.lv i).length≤k):sJ s i (s.lv i) :=
 ⟨fun m hm=>by
  obtain ⟨q,hq,rfl⟩:=List.getElem_of_mem hm
  have:=h.good q (by omega)
  simpa [hq] using this,fun j hj=>h.pair j (by omega)⟩
theorem Part.next {s:State} {i k:Nat} (h:Part s i k) (hk:(s.lv i).length≤k):sE (bZ s (i+1)):=by
 have:=h.dist; rw [List.take_of_length_le hk] at this; exact this
theorem aQI {s:State} {i:Nat} (hi:i<5) (h:1024-tot s i<(s.lv i).length):¬ RightP s:=by
 intro hr
 have h1:=xX s (show i+1≤5 by omega)
 rw [show tot s (i+1)=tot s i+(s.lv i).length from rfl] at h1
 have:=hr.few
 omega
theorem aQK {s:State} (h:72057594037927935<(if s.least > s.seq then s.least else s.seq)∨s.next<s.log):¬ RightP s:=by
 intro hr
 have h1:=hr.seq; have h2:=hr.least; have h3:=hr.log
 rcases h with h | h
 ·split at h<;>omega
 ·omega
theorem aQG {s:State} {i:Nat} (h1:(if s.least > s.seq then s.least else s.seq)≤72057594037927935∧s.log≤s.next) (hi:i=5) (ht:tot s i≤1024) (hall:∀ j,j<i→sJ s j (s.lv j)) (hd:sE (bZ s i)):RightP s:=by
 subst hi
 refine ⟨?_,?_,h1.2,ht,hall,hd⟩
 ·have:=h1.1; split at this<;>omega
 have:=h1.1; split at this<;>omega
theorem aQN {s:State} {i k:Nat} (hi:i<5) (hk:k<(s.lv i).length) (hp:Part s i k)
  (h:((((s.lv i).getD k Meta.zero).level != (i:Int)) || !good s ((s.lv i).getD k Meta.zero)||decide (lU (jG (bZ s i++(s.lv i).take k)) ((s.lv i).getD k Meta.zero).number+1 > 1) ||
   (decide ((k:Int) > 0) && !iM ((s.lv i).getD (k-1) Meta.zero).level ((s.lv i).getD (k-1) Meta.zero) ((s.lv i).getD k Meta.zero)))=true):¬ RightP s:=by
 simp only [Bool.or_eq_true,Bool.and_eq_true,decide_eq_true_eq,Bool.not_eq_true'] at h
 rcases h with ((h | h) | h) | ⟨h1,h2⟩
 ·exact aD3 hi hk (.inl h)
 ·exact aD3 hi hk (.inr h)
 ·exact aQH hi hk (aL6 (by omega))
 ·intro hr
  have h3:=(hr.lv i hi).2 (k-1) (by omega)
  rw [show k-1+1=k by omega] at h3
  rw [(hp.good (k-1) (by omega)).1,h3] at h2
  cases h2
theorem aQO {s:State} {i k:Nat} (hk:k<(s.lv i).length) (hp:Part s i k)
  (h:((((s.lv i).getD k Meta.zero).level != (i:Int)) || !good s ((s.lv i).getD k Meta.zero)||decide (lU (jG (bZ s i++(s.lv i).take k)) ((s.lv i).getD k Meta.zero).number+1 > 1) ||
   (decide ((k:Int) > 0) && !iM ((s.lv i).getD (k-1) Meta.zero).level ((s.lv i).getD (k-1) Meta.zero) ((s.lv i).getD k Meta.zero)))=false) :
  Part s i (k+1)∧((s.lv i).getD k Meta.zero).number∉jG (bZ s i++(s.lv i).take k):=by
 simp only [Bool.or_eq_false_iff,Bool.and_eq_false_iff,decide_eq_false_iff_not,Bool.not_eq_false',bne_eq_false_iff_eq] at h
 obtain ⟨⟨⟨h1,h2⟩,h3⟩,h4⟩:=h
 have hn:=aL8 (show lU (jG (bZ s i++(s.lv i).take k)) ((s.lv i).getD k Meta.zero).number+1≤1 by omega)
 refine ⟨hp.step hk ⟨h1,h2⟩ hn fun h0=>?_,hn⟩
 rcases h4 with h4 | h4
 ·omega
 rw [(hp.good (k-1) (by omega)).1] at h4; exact h4
def aOf:Int→List Meta→Bool
 | _,[]=>false
 | r,m :: ms=>if m.size > r then true else aOf (r-m.size) ms
def fD (p:Meta→Bool) (l:List Meta):Int:=match l.findIdx? p with | some i=>i | none => -1
theorem aGf {p:Meta→Bool} {l:List Meta} {k:Nat} (h:∀ j,j<k→p (l.getD j Meta.zero)=false) (hk:p (l.getD k Meta.zero)=false):∀ j,j<k+1→p (l.getD j Meta.zero)=false:=by
 intro j hj
 by_cases e:j=k
 ·subst e; exact hk
 ·exact h j (by omega)
theorem aGe {p:Meta→Bool} {l:List Meta} {k:Nat} (hk:l.length≤k) (h:∀ j,j<k→p (l.getD j Meta.zero)=false):fO [.int .i64 (-1)]=.int .i64 (fD p l):=by
 have:l.findIdx? p=none:=by
  rw [List.findIdx?_eq_none_iff]
  intro m hm
  obtain ⟨q,hq,rfl⟩:=List.getElem_of_mem hm
  have:=h q (by omega)
  simpa [hq] using this
 simp [fD,this,fO]
theorem aGd {p:Meta→Bool} {l:List Meta} {k:Nat} (hk:k<l.length) (h:∀ j,j<k→p (l.getD j Meta.zero)=false) (hp:p (l.getD k Meta.zero)=true):fO [.int .i64 (k:Int)]=.int .i64 (fD p l):=by
 have:l.findIdx? p=some k:=by
  rw [List.findIdx?_eq_some_iff_getElem]
  refine ⟨hk,by simpa [hk] using hp,fun j hj=>?_⟩
  have:=h j hj
  simpa [show j<l.length by omega] using this
 simp [fD,this,fO]
def State.zero:State:=⟨fun _=>[],0,0,0,0,fun _=>0⟩
def eJ:Nat→Sh:=fun _=>⟨none,0⟩
theorem lH {G:PM}:StR G State.zero eJ:=⟨fun _ _=>SlR.nul,fun _ _=>Nat.zero_le _,fun _ _ m hm=>nomatch hm⟩
theorem aP4:fG State.zero=true:=by
 refine aBu ⟨by decide,by decide,by decide,by decide,fun i _=>⟨fun m hm=>(nomatch hm),fun j hj=>absurd hj (Nat.not_lt_zero _)⟩,fun a b ha=>absurd ha (Nat.not_lt_zero _)⟩
section
variable {α β:Type}
def fS (k:Nat→List Y→Option α) (r:List Y):Option α:=if (dR r).2.2=0 then k (dR r).1 (r.drop (dR r).2.1) else none
def iL (most:Nat) (k:Nat→List Y→Option α):List Y→Option α:=fS fun n r=>if n≤most then k n r else none
def jY (most:Nat) (k:List Y→List Y→Option α):List Y→Option α:=iL most fun n r=>if n≤r.length then k (r.take n) (r.drop n) else none
def lZ (k:Y→List Y→Option α) (r:List Y):Option α:=if r.length<1 then none else k (r.getD 0 0) (r.drop 1)
def eG (f:(β→List Y→Option α)→List Y→Option α):Nat→(List β→List Y→Option α)→List Y→Option α
 | 0,k=>k []
 | n+1,k=>f fun x=>eG f n fun xs=>k (x :: xs)
theorem qR {k:Nat→List Y→Option α} {r:List Y} {a:α} (h:fS k r=some a):∃ n r',r=bP n++r'∧n<18446744073709551616∧k n r'=some a:=by
 unfold fS at h
 split at h
 ·rename_i he
  have:=aHX (b:=r) (v:=(dR r).1) (j:=(dR r).2.1) (by rw [← he])
  exact ⟨_,_,this.1,this.2.1,h⟩
 ·cases h
theorem vH {most:Nat} {k:Nat→List Y→Option α} {r:List Y} {a:α} (h:iL most k r=some a):∃ n r',r=bP n++r'∧n<18446744073709551616∧n≤most∧k n r'=some a:=by
 obtain ⟨n,r',h1,h2,h3⟩:=qR h
 split at h3
 ·rename_i hn; exact ⟨n,r',h1,h2,hn,h3⟩
 ·cases h3
theorem aI7 {most:Nat} {k:List Y→List Y→Option α} {r:List Y} {a:α} (h:jY most k r=some a):∃ xs r',r=nD xs++r'∧xs.length≤most∧k xs r'=some a:=by
 obtain ⟨n,r',h1,h2,h3,h4⟩:=vH h
 split at h4
 ·rename_i hn
  have hl:(r'.take n).length=n:=by rw [List.length_take]; omega
  refine ⟨r'.take n,r'.drop n,?_,by omega,h4⟩
  rw [h1,nD,hl,List.append_assoc,List.take_append_drop]
 cases h4
theorem aLr {k:Y→List Y→Option α} {r:List Y} {a:α} (h:lZ k r=some a):∃ x r',r=x :: r'∧k x r'=some a:=by
 unfold lZ at h
 split at h
 ·cases h
 ·cases r with
  | nil=>rename_i hn; simp at hn
  | cons x r=>exact ⟨x,r,rfl,by simpa using h⟩
end
def Tk {α:Type} (O:Option α) (s:Rd') (bad:Bool) (k:List Y→Option α):Prop:=(s.bad=0∧bad=false∧O=k s.rest)∨(O=none∧(bad=true∨s.bad≠0))
section
variable {α β:Type} {O:Option α} {s:Rd'} {bad:Bool}
theorem aLK {b:List Y} {k:List Y→Option α}:Tk (k b) ⟨b,0⟩ false k:=.inl ⟨rfl,rfl,rfl⟩
theorem Tk.num {k:Nat→List Y→Option α} (h:Tk O s bad (fS k)):Tk O (dD s).2 bad (k (dD s).1):=by
 unfold dD
 rcases h with ⟨h1,h2,h3⟩ | ⟨h1,h2⟩
 ·rw [if_neg (by simp [h1])]
  unfold fS at h3
  split at h3
  ·rename_i he; exact .inl ⟨he,h2,h3⟩
  ·rename_i he; exact .inr ⟨h3,.inr he⟩
 ·split
  ·exact .inr ⟨h1,h2⟩
  ·rename_i he
   rcases h2 with h2 | h2
   ·exact .inr ⟨h1,.inl h2⟩
   ·exact absurd h2 he
theorem Tk.bad_of {k:List Y→Option α} (h:Tk O s bad k) {c:Bool} (hc:s.bad=0→bad=false→c=true→O=none):Tk O s (bad||c) k:=by
 rcases h with ⟨h1,h2,h3⟩ | ⟨h1,h2⟩
 ·cases c with
  | false=>exact .inl ⟨h1,by simp [h2],h3⟩
  | true=>exact .inr ⟨hc h1 h2 rfl,.inl (by simp)⟩
 refine .inr ⟨h1,?_⟩
 rcases h2 with h2 | h2
 ·exact .inl (by simp [h2])
 exact .inr h2
theorem aLL {most:Nat} {k:Nat→List Y→Option α} (h:Tk O s bad (iL most k)) {c:Bool} (hc:c=(decide (most<(dD s).1) || !decide ((dD s).2.bad=0))):Tk O (dD s).2 (bad||c) (k (dD s).1):=by
 have h':=Tk.num (k:=fun n r=>if n≤most then k n r else none) h
 rcases h' with ⟨h1,h2,h3⟩ | ⟨h1,h2⟩
 ·simp only at h3
  by_cases hn:(dD s).1≤most
  ·rw [if_pos hn] at h3
   have:c=false:=by rw [hc,h1,decide_eq_false (by omega)]; rfl
   exact .inl ⟨h1,by rw [h2,this]; rfl,h3⟩
  rw [if_neg hn] at h3
  have:c=true:=by rw [hc,decide_eq_true (by omega)]; rfl
  exact .inr ⟨h3,.inl (by rw [this]; simp)⟩
 refine .inr ⟨h1,?_⟩
 rcases h2 with h2 | h2
 ·exact .inl (by rw [h2]; rfl)
 exact .inr h2
theorem Tk.str {most:Nat} {k:List Y→List Y→Option α} (h:Tk O s bad (jY most k)):Tk O (gD most s).2 bad (k (gD most s).1):=by
 unfold gD
 rcases h with ⟨h1,h2,h3⟩ | ⟨h1,h2⟩
 ·rw [if_neg (by simp [h1])]
  unfold jY iL fS at h3
  split at h3
  ·rename_i he
   rw [if_neg (by simp [he])]
   simp only at h3
   split at h3
   ·rename_i hm
    rw [if_neg (by omega)]
    split at h3
    ·rename_i hl
     rw [List.length_drop] at hl
     rw [if_neg (by omega)]
     refine .inl ⟨rfl,h2,?_⟩
     rw [h3,List.drop_drop]
    rename_i hl
    rw [List.length_drop] at hl
    rw [if_pos (by omega)]
    exact .inr ⟨h3,.inr (by simp)⟩
   rename_i hm
   rw [if_pos (by omega)]
   exact .inr ⟨h3,.inr (by simp)⟩
  rename_i he
  rw [if_pos he]
  exact .inr ⟨h3,.inr he⟩
 split
 ·exact .inr ⟨h1,h2⟩
 rename_i he
 rcases h2 with h2 | h2
 ·exact .inr ⟨h1,.inl h2⟩
 exact absurd h2 he
theorem Tk.byte {k:Y→List Y→Option α} (h:Tk O s bad (lZ k)):Tk O (mC s).2 bad (k (mC s).1):=by
 unfold mC
 rcases h with ⟨h1,h2,h3⟩ | ⟨h1,h2⟩
 ·rw [if_neg (by simp [h1])]
  unfold lZ at h3
  split at h3
  ·rename_i hl; rw [if_pos hl]; exact .inr ⟨h3,.inr (by simp)⟩
  ·rename_i hl; rw [if_neg hl]; exact .inl ⟨rfl,h2,h3⟩
 ·split
  ·exact .inr ⟨h1,h2⟩
  ·rename_i he
   rcases h2 with h2 | h2
   ·exact .inr ⟨h1,.inl h2⟩
   ·exact absurd h2 he
theorem Tk.lost {k k':List Y→Option α} {s':Rd'} {bad':Bool} (h:Tk O s bad k) (hl:bad=true∨s.bad≠0) (hl':bad'=true∨s'.bad≠0):Tk O s' bad' k':=by
 rcases h with ⟨h1,h2,_⟩ | ⟨h1,_⟩
 ·rcases hl with hl | hl
  ·rw [h2] at hl; cases hl
  ·exact absurd h1 hl
 ·exact .inr ⟨h1,hl'⟩
def mY (a:α) (r:List Y):Option α:=if r=[] then some a else none
theorem Tk.fin {a:α} (h:Tk O s bad (mY a)):O=if bad=false∧s.bad=0∧s.rest=[] then some a else none:=by
 rcases h with ⟨h1,h2,h3⟩ | ⟨h1,h2⟩
 ·rw [h3,mY]
  by_cases hr:s.rest=[]
  ·rw [if_pos hr,if_pos ⟨h2,h1,hr⟩]
  ·rw [if_neg hr,if_neg (fun hh=>hr hh.2.2)]
 ·rw [h1,if_neg]
  rintro ⟨h3,h4,_⟩
  rcases h2 with h2 | h2
  ·rw [h3] at h2; cases h2
  ·exact h2 h4
end
structure Gone where
 level:Int
 number:Int
def Gone.cells (g:Gone):List Value:=[.int .u8 g.level,.int .u64 g.number]
structure Gone.wf (g:Gone):Prop where
 level:0≤g.level∧g.level<256
 number:0≤g.number∧g.number<18446744073709551616
structure Edit where
 log:Int
 next:Int
 seq:Int
 least:Int
 gens:Nat→Int
 add:List Meta
 drop:List Gone
def Edit.cells (e:Edit) (ha hd:Sh):List Value :=
 [.int .u64 e.log,.int .u64 e.next,.int .u64 e.seq,.int .u64 e.least]++(List.range 5).map (fun i=>.int .u64 (e.gens i))++[ha.val e.add.length,hd.val e.drop.length]
def Edit.val (e:Edit) (ha hd:Sh):Value:=.agg (e.cells ha hd).toArray
def Edit.zero:Edit:=⟨0,0,0,0,fun _=>0,[],[]⟩
def u64 (x:Int):Prop:=0≤x∧x<18446744073709551616
structure Edit.wf (e:Edit):Prop where
 log:u64 e.log
 next:u64 e.next
 seq:u64 e.seq
 least:u64 e.least
 gens:∀ i,i<5→u64 (e.gens i)
 add:∀ m∈e.add,m.wf
 drop:∀ g∈e.drop,g.wf
structure EdR (G:PM) (e:Edit) (ha hd:Sh):Prop where
 add:SlR G 40 Meta.cells ha e.add
 drop:SlR G 2 Gone.cells hd e.drop
 wf:e.wf
theorem EdR.mono {G G':PM} {e:Edit} {ha hd:Sh} (h:EdR G e ha hd) (hle:PM.le G G'):EdR G' e ha hd:=⟨h.add.mono hle,h.drop.mono hle,h.wf⟩
def qU (x:Int):Nat:=(x%18446744073709551616).toNat
theorem aJb (x:Int):qU x<18446744073709551616:=by unfold qU; omega
def eF (m:Meta):List Y :=
 bP m.level.toNat++bP m.gen.toNat++bP m.epoch.toNat++bP m.number.toNat++bP (qU m.size)++bP (qU m.count)++nD (yb m.min)++nD (yb m.max)++(List.range 32).map fun i=>BitVec.ofInt 8 (m.root i)
def gV (g:Gone):List Y:=bP g.level.toNat++bP g.number.toNat
def fL (l:List Int):List Y:=l.flatMap fun x=>bP x.toNat
def kU (e:Edit):List Y :=
 bP e.log.toNat++bP e.next.toNat++bP e.seq.toNat++bP e.least.toNat++((List.range 5).flatMap fun i=>bP (e.gens i).toNat)++bP e.add.length++e.add.flatMap eF++bP e.drop.length++e.drop.flatMap gV
section
variable {α:Type}
def oO (k:Meta→List Y→Option α):List Y→Option α :=
 iL 255 fun l=>fS fun g=>fS fun ep=>fS fun nu=>iL 9223372036854775807 fun sz=>iL 9223372036854775807 fun ct=>jY 1024 fun mn=>jY 1024 fun mx=>eG lZ 32 fun rt =>
  k ⟨l,g,ep,nu,sz,ct,cZ mn,cZ mx,fun i=>((rt.getD i 0).toNat:Int)⟩
def mZ (k:Gone→List Y→Option α):List Y→Option α:=iL 255 fun l=>fS fun n=>k ⟨l,n⟩
end
def iU:List Y→Option Edit :=
 fS fun log=>fS fun next=>fS fun seq=>fS fun least=>eG fS 5 fun gs=>iL 1024 fun na=>eG oO na fun add=>iL 1024 fun nd=>eG mZ nd fun drop =>
  mY ⟨log,next,seq,least,fun i=>((gs.getD i 0:Nat):Int),add,drop⟩
section
variable {α β:Type}
theorem aAH {f:(β→List Y→Option α)→List Y→Option α} {en:β→List Y} {Q:β→Prop} (hf:∀ (k:β→List Y→Option α) (r:List Y) (a:α),f k r=some a→∃ x r',r=en x++r'∧Q x∧k x r'=some a) :
  ∀ (n:Nat) (k:List β→List Y→Option α) (r:List Y) (a:α),eG f n k r=some a→∃ xs r',xs.length=n∧r=xs.flatMap en++r'∧(∀ x∈xs,Q x)∧k xs r'=some a
 | 0,k,r,a,h=>⟨[],r,rfl,rfl,(fun x hx=>by cases hx),h⟩
 | n+1,k,r,a,h=>by
  obtain ⟨x,r1,h1,h2,h3⟩:=hf _ r a h
  obtain ⟨xs,r2,e1,e2,e3,e4⟩:=aAH hf n _ r1 a h3
  refine ⟨x :: xs,r2,by simp [e1],by rw [h1,e2]; simp,fun y hy=>?_,e4⟩
  rcases List.mem_cons.1 hy with rfl | hy
  ·exact h2
  exact e3 y hy
end
theorem aNy {α:Type} {k:Meta→List Y→Option α} {r:List Y} {a:α} (h:oO k r=some a):∃ m r',r=eF m++r'∧m.wf∧k m r'=some a:=by
 obtain ⟨l,r1,e1,b1,c1,h⟩:=vH h
 obtain ⟨g,r2,e2,b2,h⟩:=qR h
 obtain ⟨ep,r3,e3,b3,h⟩:=qR h
 obtain ⟨nu,r4,e4,b4,h⟩:=qR h
 obtain ⟨sz,r5,e5,b5,c5,h⟩:=vH h
 obtain ⟨ct,r6,e6,b6,c6,h⟩:=vH h
 obtain ⟨mn,r7,e7,c7,h⟩:=aI7 h
 obtain ⟨mx,r8,e8,c8,h⟩:=aI7 h
 obtain ⟨rt,r9,e9,e10,_,h⟩:=aAH (en:=fun y:Y=>[y]) (Q:=fun _=>True) (fun k r a h=>by
  obtain ⟨x,r',h1,h2⟩:=aLr h
  exact ⟨x,r',h1,trivial,h2⟩) 32 _ _ _ h
 have hfl:∀ l:List Y,(l.flatMap fun y=>[y])=l:=fun l=>by induction l with | nil=>rfl | cons a l ih=>simp only [List.flatMap_cons,ih]; rfl
 rw [hfl] at e10
 refine ⟨_,r9,?_,?_,h⟩
 ·unfold eF
  simp only [Int.toNat_natCast]
  have s5:qU (sz:Int)=sz:=by unfold qU; omega
  have s6:qU (ct:Int)=ct:=by unfold qU; omega
  have hroot:((List.range 32).map fun i=>BitVec.ofInt 8 (((rt.getD i 0).toNat:Nat):Int))=rt:=by
   refine List.ext_getElem? fun i=>?_
   by_cases hi:i<32
   ·rw [List.getElem?_map,List.getElem?_range hi]
    have hr:i<rt.length:=by omega
    simp [hr]
   rw [List.getElem?_eq_none (by simp; omega),List.getElem?_eq_none (by omega)]
  rw [s5,s6,aJu,aJu,hroot,e1,e2,e3,e4,e5,e6,e7,e8,e10]
  simp only [List.append_assoc]
 have hb:∀ i,((rt.getD i 0).toNat:Int)≤255:=fun i=>by have:=(rt.getD i 0).isLt; omega
 refine ⟨⟨by simp only; omega,by simp only; omega⟩,⟨by simp only; omega,by simp only; omega⟩,⟨by simp only; omega,by simp only; omega⟩,by simp only [aFV]; omega,by simp only [aFV]; omega,⟨by simp only; omega,by simp only; omega⟩,⟨by simp only; omega,by simp only; omega⟩,⟨by simp only; omega,by simp only; omega⟩,fun j _=>⟨by simp only; omega,hb j⟩⟩
theorem aM4 {α:Type} {k:Gone→List Y→Option α} {r:List Y} {a:α} (h:mZ k r=some a):∃ g r',r=gV g++r'∧g.wf∧k g r'=some a:=by
 obtain ⟨l,r1,e1,b1,c1,h⟩:=vH h
 obtain ⟨n,r2,e2,b2,h⟩:=qR h
 refine ⟨_,r2,?_,⟨⟨by simp only; omega,by simp only; omega⟩,⟨by simp only; omega,by simp only; omega⟩⟩,h⟩
 unfold gV
 simp only [Int.toNat_natCast]
 rw [e1,e2,List.append_assoc]
theorem wL {b:List Y} {e:Edit} (h:iU b=some e):kU e=b∧e.wf∧e.add.length≤1024∧e.drop.length≤1024:=by
 unfold iU at h
 obtain ⟨a1,r1,e1,b1,h⟩:=qR h
 obtain ⟨a2,r2,e2,b2,h⟩:=qR h
 obtain ⟨a3,r3,e3,b3,h⟩:=qR h
 obtain ⟨a4,r4,e4,b4,h⟩:=qR h
 obtain ⟨gs,r5,e5,e6,q6,h⟩:=aAH (en:=bP) (Q:=fun n=>n<18446744073709551616) (fun k r a h=>by
  obtain ⟨n,r',h1,h2,h3⟩:=qR h
  exact ⟨n,r',h1,h2,h3⟩) 5 _ _ _ h
 obtain ⟨na,r7,e7,b7,c7,h⟩:=vH h
 obtain ⟨add,r8,e8,e9,q9,h⟩:=aAH (en:=eF) (Q:=Meta.wf) (fun k r a h=>aNy h) na _ _ _ h
 obtain ⟨nd,r10,e10,b10,c10,h⟩:=vH h
 obtain ⟨drop,r11,e11,e12,q12,h⟩:=aAH (en:=gV) (Q:=Gone.wf) (fun k r a h=>aM4 h) nd _ _ _ h
 unfold mY at h
 split at h
 ·rename_i hr
  simp only [Option.some.injEq] at h
  subst h; subst hr
  have hgs:((List.range 5).flatMap fun i=>bP (((gs.getD i 0:Nat):Int)).toNat)=gs.flatMap bP:=by
   have:(List.range 5).map (fun i=>gs.getD i 0)=gs:=by
    refine List.ext_getElem? fun i=>?_
    by_cases hi:i<5
    ·rw [List.getElem?_map,List.getElem?_range hi]
     have hr:i<gs.length:=by omega
     simp [hr]
    rw [List.getElem?_eq_none (by simp; omega),List.getElem?_eq_none (by omega)]
   conv=>rhs; rw [← this]
   rw [List.flatMap_map]
   simp
  refine ⟨?_,⟨⟨by simp only; omega,by simp only; omega⟩,⟨by simp only; omega,by simp only; omega⟩,⟨by simp only; omega,by simp only; omega⟩,⟨by simp only; omega,by simp only; omega⟩,fun i hi=>?_,q9,q12⟩,by simp only; omega,by simp only; omega⟩
  ·unfold kU
   simp only
   rw [hgs,Int.toNat_natCast,Int.toNat_natCast,Int.toNat_natCast,Int.toNat_natCast,e8,e11,e1,e2,e3,e4,e6,e7,e9,e10,e12]
   simp only [List.append_assoc,List.append_nil]
  have hr:i<gs.length:=by omega
  have:=q6 (gs.getD i 0) (by simp [hr])
  refine ⟨by simp only; omega,by simp only; omega⟩
 cases h
section
variable {α:Type} {lt:α→α→Bool}
structure Wk0 (lt:α→α→Bool):Prop where
 irr:∀ a,lt a a=false
 tr:∀ {a b c},lt a b=true→lt b c=true→lt a c=true
 co:∀ {a b} c,lt a b=true→lt a c=true∨lt c b=true
theorem Wk0.as (h:Wk0 lt) {a b:α} (hab:lt a b=true):lt b a=false:=by
 cases hb:lt b a with
 | false=>rfl
 | true=>have:=h.tr hab hb; rw [h.irr] at this; cases this
def TL (lt:α→α→Bool) (x y:α×Nat):Prop:=lt x.1 y.1=true∨(lt y.1 x.1=false∧x.2<y.2)
theorem TL.irr (h:Wk0 lt) (x:α×Nat):¬ TL lt x x:=by
 rintro (h1 | ⟨_,h1⟩)
 ·rw [h.irr] at h1; cases h1
 ·omega
theorem TL.tr (h:Wk0 lt) {x y z:α×Nat} (h1:TL lt x y) (h2:TL lt y z):TL lt x z:=by
 rcases h1 with h1 | ⟨h1,t1⟩<;>rcases h2 with h2 | ⟨h2,t2⟩
 ·exact .inl (h.tr h1 h2)
 ·rcases h.co z.1 h1 with h3 | h3
  ·exact .inl h3
  rw [h2] at h3; cases h3
 ·rcases h.co x.1 h2 with h3 | h3
  ·rw [h1] at h3; cases h3
  exact .inl h3
 refine .inr ⟨?_,by omega⟩
 cases h3:lt z.1 x.1 with
 | false=>rfl
 | true =>
  rcases h.co y.1 h3 with h4 | h4
  ·rw [h2] at h4; cases h4
  rw [h1] at h4; cases h4
theorem TL.as (h:Wk0 lt) {x y:α×Nat} (h1:TL lt x y):¬ TL lt y x:=fun h2=>TL.irr h _ (h1.tr h h2)
theorem aLH {u v:α×Nat} (h:Wk0 lt) (ht:u.2<v.2):TL lt v u↔lt v.1 u.1=true:=by
 unfold TL
 constructor
 ·rintro (h1 | ⟨_,h1⟩)
  ·exact h1
  ·omega
 ·exact .inl
theorem aFA {u v:α×Nat} (h:Wk0 lt) (ht:u.2<v.2):TL lt u v↔lt v.1 u.1=false:=by
 unfold TL
 constructor
 ·rintro (h1 | ⟨h1,_⟩)
  ·exact h.as h1
  ·exact h1
 ·intro h1; exact .inr ⟨h1,ht⟩
def Srt (lt:α→α→Bool) (l:List (α×Nat)):Prop:=l.Pairwise (TL lt)
theorem aE8 (h:Wk0 lt):∀ {l l':List (α×Nat)},Srt lt l→Srt lt l'→l.Perm l'→l=l'
 | [],l',_,_,hp=>by simpa using hp.symm.eq_nil
 | x :: l,[],_,_,hp=>by simpa using hp.eq_nil
 | x :: l,y :: l',h1,h2,hp=>by
  have hx:=List.pairwise_cons.1 h1; have hy:=List.pairwise_cons.1 h2
  have e:x=y:=by
   have m1:x∈y :: l':=hp.mem_iff.1 (List.mem_cons_self ..)
   have m2:y∈x :: l:=hp.mem_iff.2 (List.mem_cons_self ..)
   rcases List.mem_cons.1 m1 with e | m1
   ·exact e
   ·rcases List.mem_cons.1 m2 with e | m2
    ·exact e.symm
    ·exact absurd (hy.1 x m1) (TL.as h (hx.1 y m2))
  subst e
  rw [aE8 h hx.2 hy.2 (List.Perm.cons_inv hp)]
def kK (lt:α→α→Bool) (l:List α) (m:α):List α:=l.takeWhile (fun x => !lt m x)++m :: l.dropWhile (fun x => !lt m x)
def uT (lt:α→α→Bool) (l:List (α×Nat)) (m:α×Nat):List (α×Nat):=l.takeWhile (fun x => !lt m.1 x.1)++m :: l.dropWhile (fun x => !lt m.1 x.1)
theorem aNJ (l:List (α×Nat)) (m:α×Nat):(uT lt l m).map (·.1)=kK lt (l.map (·.1)) m.1:=by
 unfold uT kK
 rw [List.map_append,List.map_cons,List.takeWhile_map,List.dropWhile_map]; rfl
theorem aGh (l:List (α×Nat)) (m:α×Nat):(uT lt l m).Perm (l++[m]):=by
 unfold uT
 have h1:(l.takeWhile (fun x => !lt m.1 x.1)++m :: l.dropWhile (fun x => !lt m.1 x.1)).Perm (m :: (l.takeWhile (fun x => !lt m.1 x.1)++l.dropWhile (fun x => !lt m.1 x.1))):=List.perm_middle
 rw [List.takeWhile_append_dropWhile] at h1
 exact h1.trans (List.perm_append_comm (l₁:=[m]) (l₂:=l))
theorem aNK (h:Wk0 lt) {l:List (α×Nat)} {m:α×Nat} (hs:Srt lt l) (ht:∀ x∈l,x.2<m.2):Srt lt (uT lt l m):=by
 unfold uT
 have hl:=List.takeWhile_append_dropWhile (p:=fun x:α×Nat => !lt m.1 x.1) (l:=l)
 have hs':=hs
 unfold Srt at hs' ⊢
 rw [← hl] at hs'
 obtain ⟨s1,s2,s3⟩:=List.pairwise_append.1 hs'
 have hd:∀ y∈l.dropWhile (fun x => !lt m.1 x.1),TL lt m y:=by
  intro y hy
  cases hdw:l.dropWhile (fun x => !lt m.1 x.1) with
  | nil=>rw [hdw] at hy; cases hy
  | cons z r =>
   have hz:lt m.1 z.1=true:=by
    have:=List.head?_dropWhile_not (fun x:α×Nat => !lt m.1 x.1) l
    rw [hdw] at this
    simpa using this
   rw [hdw] at hy s2
   rcases List.mem_cons.1 hy with rfl | hy
   ·exact .inl hz
   exact TL.tr h (.inl hz) ((List.pairwise_cons.1 s2).1 y hy)
 have ht':∀ x∈l.takeWhile (fun x => !lt m.1 x.1),TL lt x m:=by
  intro x hx
  have hp:(!lt m.1 x.1)=true:=by
   have:=List.all_takeWhile (p:=fun x:α×Nat => !lt m.1 x.1) (l:=l)
   exact List.all_eq_true.1 this x hx
  have hxl:x∈l:=by rw [← hl]; exact List.mem_append_left _ hx
  exact .inr ⟨by simpa using hp,ht x hxl⟩
 refine List.pairwise_append.2 ⟨s1,List.pairwise_cons.2 ⟨hd,s2⟩,fun x hx y hy=>?_⟩
 rcases List.mem_cons.1 hy with rfl | hy
 ·exact ht' x hx
 exact s3 x hx y hy
def jI (lt:α→α→Bool) (l:List α):List α:=l.foldl (kK lt) []
theorem aGN (h:Wk0 lt):∀ (l:List α) (k:Nat) (acc:List (α×Nat)),Srt lt acc→(∀ x∈acc,x.2<k)→∃ T,Srt lt T∧T.Perm (acc++l.zipIdx k)∧T.map (·.1)=l.foldl (kK lt) (acc.map (·.1))
 | [],k,acc,hs,_=>⟨acc,hs,by simp,rfl⟩
 | m :: l,k,acc,hs,hk=>by
  obtain ⟨T,h1,h2,h3⟩:=aGN h l (k+1) (uT lt acc (m,k)) (aNK h hs hk) (fun x hx=>by
   rcases List.mem_append.1 ((aGh acc (m,k)).mem_iff.1 hx) with hx | hx
   ·have:=hk x hx; omega
   rw [List.mem_singleton.1 hx]; show k<k+1; omega)
  refine ⟨T,h1,h2.trans ?_,?_⟩
  ·rw [List.zipIdx_cons,show acc++(m,k) :: l.zipIdx (k+1)=(acc++[(m,k)])++l.zipIdx (k+1) by simp]
   exact (aGh acc (m,k)).append_right _
  rw [h3,aNJ]; rfl
theorem aQ6 (h:Wk0 lt) (l:List α):∃ T,Srt lt T∧T.Perm (l.zipIdx 0)∧T.map (·.1)=jI lt l:=by
 obtain ⟨T,h1,h2,h3⟩:=aGN h l 0 [] .nil (fun _ h=>by cases h)
 exact ⟨T,h1,by simpa using h2,h3⟩
theorem aIt (h:Wk0 lt) {l:List α} {T:List (α×Nat)} (hs:Srt lt T) (hp:T.Perm (l.zipIdx 0)):T.map (·.1)=jI lt l:=by
 obtain ⟨T',h1,h2,h3⟩:=aQ6 h l
 rw [← h3,aE8 h hs h1 (hp.trans h2.symm)]
theorem aQ5 (h:Wk0 lt) {l:List α} (hs:l.Pairwise fun a b=>lt b a=false):jI lt l=l:=by
 have h1:(l.zipIdx 0).map (·.1)=l:=by simp
 rw [← aIt h (T:=l.zipIdx 0) ?_ (List.Perm.refl _),h1]
 unfold Srt
 refine List.pairwise_iff_getElem.2 fun i j hi hj hij=>?_
 simp only [List.getElem_zipIdx]
 simp only [List.length_zipIdx] at hi hj
 exact .inr ⟨List.pairwise_iff_getElem.1 hs i j hi hj hij,by show 0+i<0+j; omega⟩
theorem aQ3 (l m:List α):jI lt (l++m)=m.foldl (kK lt) (jI lt l):=by unfold jI; rw [List.foldl_append]
theorem aDH (l:List α) (m:α):(kK lt l m).Perm (l++[m]):=by
 unfold kK
 have h1:(l.takeWhile (fun x => !lt m x)++m :: l.dropWhile (fun x => !lt m x)).Perm (m :: (l.takeWhile (fun x => !lt m x)++l.dropWhile (fun x => !lt m x))):=List.perm_middle
 rw [List.takeWhile_append_dropWhile] at h1
 exact h1.trans (List.perm_append_comm (l₁:=[m]) (l₂:=l))
theorem aGM:∀ (m l:List α),(m.foldl (kK lt) l).Perm (l++m)
 | [],l=>by simp
 | x :: m,l=>by
  rw [List.foldl_cons]
  refine (aGM m _).trans ?_
  rw [show l++x :: m=(l++[x])++m by simp]
  exact (aDH l x).append_right _
theorem aIu (l:List α):(jI lt l).Perm l:=by have:=aGM (lt:=lt) l []; simpa [jI] using this
theorem aQ4 (l:List α):(jI lt l).length=l.length:=(aIu l).length_eq
end
section
variable {P:Program} {n:Nat} {l:List Oper} {K K':aO→PM→aH→Prop} {dr:Bool} {mc:Md}
theorem Wo.bind1 {i:Nat} {σ:List Nat} {ρ:aO} {G:PM} {μ:aH} (hm:∀ ρ G μ,K ρ G μ→Wo dr mc P n l K' σ ρ G μ) (H:Wo dr mc P n l K [i] ρ G μ):Wo dr mc P n l K' (i :: σ) ρ G μ:=by
 have h0:∀ {ρ G μ},Wo dr mc P n l K [] ρ G μ→Wo dr mc P n l K' σ ρ G μ:=fun h=>by cases h with | nil h=>exact hm _ _ _ h
 cases H with
 | pure ho hk hg hr h=>exact .pure ho hk hg hr (h0 h)
 | read ho hk hg hr h=>exact .read ho hk hg hr (h0 h)
 | make ho hk hg hr h=>exact .make ho hk hg hr fun b=>h0 (h b)
 | box ho hk hg hr h=>exact .box ho hk hg hr fun b=>h0 (h b)
 | callv ho hk hg hr hf h=>exact .callv ho hk hg hr hf (h0 h)
 | call ho hk hg hr hf h=>exact .call ho hk hg hr hf fun v G' μ' a b=>h0 (h v G' μ' a b)
 | callg hd ho hg hr hf h=>exact .callg hd ho hg hr hf fun v G' μ' a b=>h0 (h v G' μ' a b)
 | fresh ho hk hg hp hr hw h=>exact .fresh ho hk hg hp hr hw fun v G' μa μb a b=>h0 (h v G' μa μb a b)
 | act ho hk hg hp hr h=>exact .act ho hk hg hp hr fun v G' μ' a b=>h0 (h v G' μ' a b)
theorem Wo.cut1 {j:Nat} {σ:List Nat} {ρ:aO} {G:PM} {μ:aH} (H:Wo dr mc P n l K (j :: σ) ρ G μ):Wo dr mc P n l (fun ρ G μ=>Wo dr mc P n l K σ ρ G μ) [j] ρ G μ:=by
 cases H with
 | pure ho hk hg hr h=>exact .pure ho hk hg hr (.nil h)
 | read ho hk hg hr h=>exact .read ho hk hg hr (.nil h)
 | make ho hk hg hr h=>exact .make ho hk hg hr fun b=>.nil (h b)
 | box ho hk hg hr h=>exact .box ho hk hg hr fun b=>.nil (h b)
 | callv ho hk hg hr hf h=>exact .callv ho hk hg hr hf (.nil h)
 | call ho hk hg hr hf h=>exact .call ho hk hg hr hf fun v G' μ' a b=>.nil (h v G' μ' a b)
 | callg hd ho hg hr hf h=>exact .callg hd ho hg hr hf fun v G' μ' a b=>.nil (h v G' μ' a b)
 | fresh ho hk hg hp hr hw h=>exact .fresh ho hk hg hp hr hw fun v G' μa μb a b=>.nil (h v G' μa μb a b)
 | act ho hk hg hp hr h=>exact .act ho hk hg hp hr fun v G' μ' a b=>.nil (h v G' μ' a b)
def tD (mc:Md) (l:List Oper) (listed:Array Bool) (i:Nat):Bool :=
 (dX l listed).contains i&&match nth l i with
 | some oi=>(cA mc oi.op == .pure||cA mc oi.op == .read)&&(List.range l.length).all fun j=>listed.getD j true||j == i||match nth l j with
  | some oj=>sP l l.length j i||(oi.apart l.toArray oj&&(cA mc oi.op == .pure||cA mc oj.op != .act))
  | none=>false
 | none=>false
def Wt (mc:Md) (P:Program) (n:Nat) (l:List Oper) (K:aO→PM→aH→Prop):Nat→Array Bool→aO→PM→aH→Prop
 | 0,listed,ρ,G,μ=>dX l listed=[]∧K ρ G μ
 | m+1,listed,ρ,G,μ=>(∃ i,tD mc l listed i=true∧Wo true mc P n l (fun ρ' G' μ'=>Wt mc P n l K m (listed.setIfInBounds i true) ρ' G' μ') [i] ρ G μ) ∨
   (dX l listed≠[]∧∀ j∈dX l listed,Wo true mc P n l (fun ρ' G' μ'=>Wt mc P n l K m (listed.setIfInBounds j true) ρ' G' μ') [j] ρ G μ)
theorem zB (hK:pD K):∀ (m:Nat) (listed:Array Bool),pD (fun ρ G μ=>Wt mc P n l K m listed ρ G μ)
 | 0,listed=>⟨fun ρ ρ' G μ e h=>⟨h.1,hK.1 _ _ _ _ e h.2⟩,fun ρ G μ μ' p h=>⟨h.1,hK.2 _ _ _ _ p h.2⟩⟩
 | m+1,listed=>by
  refine ⟨fun ρ ρ' G μ e h=>?_,fun ρ G μ μ' p h=>?_⟩
  ·rcases h with ⟨i,h1,h2⟩ | ⟨h1,h2⟩
   ·exact .inl ⟨i,h1,h2.congr (zB hK m _) e⟩
   exact .inr ⟨h1,fun j hj=>(h2 j hj).congr (zB hK m _) e⟩
  rcases h with ⟨i,h1,h2⟩ | ⟨h1,h2⟩
  ·exact .inl ⟨i,h1,h2.perm (zB hK m _) p⟩
  exact .inr ⟨h1,fun j hj=>(h2 j hj).perm (zB hK m _) p⟩
def tM (listed:Array Bool):Nat:=listed.toList.count false
theorem aEM {listed:Array Bool} {i:Nat} (h:listed.getD i true=false):tM (listed.setIfInBounds i true)+1=tM listed:=by
 rcases Nat.lt_or_ge i listed.size with h' | h'
 ·have h2:listed.toList[i]'(by simpa using h')=false:=by simpa [h'] using h
  unfold tM
  rw [Array.toList_setIfInBounds,List.count_set (by simpa using h')]
  have hp:0<listed.toList.count false:=List.count_pos_iff.2 (by rw [← h2]; exact List.getElem_mem _)
  rw [if_pos (by rw [h2]; rfl),if_neg (by decide)]
  omega
 ·simp [h'] at h
theorem aRw {listed:Array Bool} {i:Nat} (h:listed.getD i true=false):0<tM listed:=by
 have:=aEM h; omega
theorem aOR {listed:Array Bool} {i j:Nat} (hne:i≠j) (h:tD mc l listed i=true):tD mc l (listed.setIfInBounds j true) i=true:=by
 unfold tD at h ⊢
 simp only [Bool.and_eq_true] at h ⊢
 obtain ⟨h1,h2⟩:=h
 refine ⟨by simpa using aAG (by simpa using h1) hne,?_⟩
 cases hi:nth l i with
 | none=>rw [hi] at h2; cases h2
 | some oi =>
  simp only [hi,Bool.and_eq_true] at h2 ⊢
  refine ⟨h2.1,List.all_eq_true.2 fun k hk=>?_⟩
  have h3:=List.all_eq_true.1 h2.2 k hk
  by_cases e:j=k
  ·subst e
   have:(listed.setIfInBounds j true).getD j true=true:=by
    rcases Nat.lt_or_ge j listed.size with h' | h'<;>simp [h']
   rw [this]; rfl
  rw [getD_set_ne true e]; exact h3
theorem Wt.front (hK:pD K) (hs:Region.noSelect l.toArray=true) (hmk:∀ j oj,nth l j=some oj→cA mc oj.op=.make→vZ P oj) (hds:∀ j oj,nth l j=some oj→kI n oj.dst) :
  ∀ (m:Nat) (listed:Array Bool) (j:Nat) (ρ:aO) (G:PM) (μ:aH),tM listed=m+1→Closed l listed→j∈dX l listed→Wt mc P n l K (m+1) listed ρ G μ→Wo true mc P n l (fun ρ' G' μ'=>Wt mc P n l K m (listed.setIfInBounds j true) ρ' G' μ') [j] ρ G μ
 | m,listed,j,ρ,G,μ,hu,hcl,hj,H=>by
  rcases H with ⟨i,h1,h2⟩ | ⟨_,h2⟩
  ·by_cases e:j=i
   ·subst e; exact h2
   have hi:i∈dX l listed:=by unfold tD at h1; simp only [Bool.and_eq_true] at h1; simpa using h1.1
   have hj':=aAG hj e
   have hiun:=(pU.1 hi).1
   have hjun:=(pU.1 hj).1
   have hu1:=aEM hiun
   have hjun':(listed.setIfInBounds i true).getD j true=false:=by rw [getD_set_ne true (Ne.symm e)]; exact hjun
   have hp:=aRw hjun'
   obtain ⟨m',rfl⟩ : ∃ m',m=m'+1:=⟨m-1,by omega⟩
   obtain ⟨_,oi,hoi,_⟩:=pU.1 hi
   obtain ⟨_,oj,hoj,_⟩:=pU.1 hj
   have h3:Wo true mc P n l (fun ρ' G' μ'=>Wt mc P n l K m' ((listed.setIfInBounds i true).setIfInBounds j true) ρ' G' μ') (i :: [j]) ρ G μ :=
    h2.bind1 fun ρ' G' μ' h=>Wt.front hK hs hmk hds m' (listed.setIfInBounds i true) j ρ' G' μ' (by omega) (hcl.set hi) hj' h
   have hnoe:=aHS hcl hiun hj l.length
   have hjl:j<l.length:=by
    have:=(oL l j).trans hoj
    exact (by simpa using (Array.getElem?_eq_some_iff.1 this).1)
   have h1':=h1
   unfold tD at h1'
   simp only [Bool.and_eq_true,hoi] at h1'
   obtain ⟨_,hki,hall⟩:=h1'
   have h4:=List.all_eq_true.1 hall j (List.mem_range.2 hjl)
   simp only [hjun,hoj,hnoe,Bool.false_or,Bool.or_eq_true,beq_iff_eq,e,false_or,Bool.and_eq_true,bne_iff_ne] at h4
   simp only [Bool.or_eq_true,beq_iff_eq] at hki
   have hkk:cA mc oi.op=.pure∨(cA mc oi.op=.read∧cA mc oj.op≠.act)∨cA mc oj.op=.make:=by
    rcases hki with h5 | h5
    ·exact .inl h5
    rcases h4.2 with h6 | h6
    ·exact .inl h6
    exact .inr (.inl ⟨h5,h6⟩)
   have h5:=Wo.swap (zB hK m' _) rfl hoi hoj (aA9 hs hoi hoj h4.1) hds (hmk j oj hoj) hkk h3
   refine h5.cut1.bind1 fun ρ' G' μ' h=>.nil (.inl ⟨i,aOR (Ne.symm e) h1,?_⟩)
   rw [Array.setIfInBounds_comm _ _ e]
   exact h
  exact h2 j hj
theorem Wt.any {Q:Exit→Act→World→Prop} {G0:PM} {K0:List Nat} {w0:World} (hK:pD K) (hs:Region.noSelect l.toArray=true) (hmk:∀ j oj,nth l j=some oj→cA mc oj.op=.make→vZ P oj) (hds:∀ j oj,nth l j=some oj→kI n oj.dst)
  (hQ:∀ ρ G μ,K ρ G μ→∀ a w,Ag n ρ a→Tr G0 K0 w0 G μ w→Q .normal a w) :
  ∀ (m:Nat) (listed:Array Bool) (ρ:aO) (G:PM) (μ:aH) (a:Act) (w:World),tM listed=m→Closed l listed→Wt mc P n l K m listed ρ G μ→Ag n ρ a→Tr G0 K0 w0 G μ w→wpAny P .any l.toArray Q m listed a w
 | 0,listed,ρ,G,μ,a,w,_,_,H,ha,ht=>⟨H.1,hQ _ _ _ H.2 a w ha ht⟩
 | m+1,listed,ρ,G,μ,a,w,hu,hcl,H,ha,ht=>by
  refine ⟨fun h0=>?_,fun j hj=>?_⟩
  ·rcases H with ⟨i,h1,_⟩ | ⟨h1,_⟩
   ·have hi:i∈dX l listed:=by unfold tD at h1; simp only [Bool.and_eq_true] at h1; simpa using h1.1
    unfold dX at hi
    rw [h0] at hi; cases hi
   exact absurd h0 h1
  have hj':j∈dX l listed:=hj
  have hu1:=aEM (pU.1 hj').1
  obtain ⟨o,ho,h⟩:=(Wt.front hK hs hmk hds m listed j ρ G μ hu hcl hj' H).head ha ht (next:=wpAny P .any l.toArray Q m (listed.setIfInBounds j true)) (Q:=Q) hds
   (fun ρ' G' μ' a' w' H' ha' ht'=>by cases H' with | nil h=>exact Wt.any hK hs hmk hds hQ m _ ρ' G' μ' a' w' (by omega) (hcl.set hj') h ha' ht')
  simp only [wpOp,oL,ho]
  split
  ·rename_i hw; rw [if_pos hw] at h; exact .inl h
  rename_i hw; rw [if_neg hw] at h; exact h
def aHJ (P:Program) (n:Nat) (l:List Oper):Bool:=Region.noSelect l.toArray&&(l.all fun o=>match o.dst with | some d=>decide (d<n) | none=>true)&&aFH P l
theorem Wk.mix {X:Cx} {k:List KI} {id:Nat} {ρ:aO} {G:PM} {μ:aH} (mc:Md) (hm:X.P.follows .mixedOrders=true) (hok:aHJ X.P X.n l=true)
  (h:Wt mc X.P X.n l (fun ρ G μ=>We X .normal k ρ G μ) l.length (Array.replicate l.length false) ρ G μ):Wk X (.region id l.toArray true) k ρ G μ:=by
 simp only [aHJ,Bool.and_eq_true] at hok
 obtain ⟨⟨h1,h2⟩,h3⟩:=hok
 refine ⟨fun a w ha ht=>wp_region_any hm ?_⟩
 have hu:tM (Array.replicate l.length false)=l.length:=by simp [tM]
 have:=Wt.any (Q:=nJ X k) (aFB .normal) h1 (fun j oj hj hk=>aG9 hk (List.all_eq_true.1 h3 oj (aBf hj)))
  (fun j oj hj=>by
   have:=List.all_eq_true.1 h2 oj (aBf hj)
   cases hd:oj.dst with
   | none=>trivial
   | some d=>rw [hd] at this; show d<X.n; exact of_decide_eq_true this) (fun _ _ _ h a w ha ht=>h.out a w ha ht) l.length _ ρ G μ a _ hu (Closed.none l.length) h ha ht.drew
 simpa using this
variable {ρ:aO} {G:PM} {μ:aH} {m:Nat} {listed:Array Bool}
theorem Wt.last (hr:dX l listed=[]) (h:K ρ G μ):Wt mc P n l K 0 listed ρ G μ:=⟨hr,h⟩
theorem Wt.one (i:Nat) (hc:tD mc l listed i=true) (h:Wo true mc P n l (fun ρ' G' μ'=>Wt mc P n l K m (listed.setIfInBounds i true) ρ' G' μ') [i] ρ G μ):Wt mc P n l K (m+1) listed ρ G μ:=.inl ⟨i,hc,h⟩
theorem Wt.b1 (j:Nat) (hr:dX l listed=[j]) (h:Wo true mc P n l (fun ρ' G' μ'=>Wt mc P n l K m (listed.setIfInBounds j true) ρ' G' μ') [j] ρ G μ):Wt mc P n l K (m+1) listed ρ G μ :=
 .inr ⟨by rw [hr]; simp,fun j' hj'=>by rw [hr] at hj'; obtain rfl:=List.mem_singleton.1 hj'; exact h⟩
theorem Wt.b2 (j j2:Nat) (hr:dX l listed=[j,j2]) (h:Wo true mc P n l (fun ρ' G' μ'=>Wt mc P n l K m (listed.setIfInBounds j true) ρ' G' μ') [j] ρ G μ)
  (h2:Wo true mc P n l (fun ρ' G' μ'=>Wt mc P n l K m (listed.setIfInBounds j2 true) ρ' G' μ') [j2] ρ G μ):Wt mc P n l K (m+1) listed ρ G μ :=
 .inr ⟨by rw [hr]; simp,fun j' hj'=>by
  rw [hr] at hj'
  rcases List.mem_cons.1 hj' with rfl | hj'
  ·exact h
  ·obtain rfl:=List.mem_singleton.1 hj'; exact h2⟩
end
theorem aC9 {α:Type} {enc:α→List Value} {sz:Nat}:∀ {xs:List α} {q:Nat},(∀ y∈xs,(enc y).length=sz)→(xs.take q).flatMap enc=(xs.flatMap enc).take (q*sz)
 | [],q,_=>by simp
 | x :: xs,0,_=>by simp
 | x :: xs,q+1,h=>by
  have hx:=h x (List.mem_cons_self ..)
  rw [List.take_succ_cons,List.flatMap_cons,List.flatMap_cons,show (q+1)*sz=(enc x).length+q*sz by rw [hx,Nat.succ_mul]; omega,List.take_length_add_append,aC9 (fun y hy=>h y (List.mem_cons_of_mem _ hy))]
theorem aGH {α:Type} {enc:α→List Value} {sz:Nat}:∀ {xs:List α} {q:Nat},(∀ y∈xs,(enc y).length=sz)→(xs.drop q).flatMap enc=(xs.flatMap enc).drop (q*sz)
 | [],q,_=>by simp
 | x :: xs,0,_=>by simp
 | x :: xs,q+1,h=>by
  have hx:=h x (List.mem_cons_self ..)
  rw [List.drop_succ_cons,List.flatMap_cons,show (q+1)*sz=(enc x).length+q*sz by rw [hx,Nat.succ_mul]; omega,List.drop_length_add_append,aGH (fun y hy=>h y (List.mem_cons_of_mem _ hy))]
section
variable {dr:Bool} {mc:Md} {P:Program} {n:Nat} {l:List Oper} {K:aO→PM→aH→Prop} {i:Nat} {σ:List Nat} {ρ:aO} {G:PM} {μ:aH}
variable {d t:Nat} {p:String} {af:Array Edge} {g:Option (Nat×Bool)} {c:Bool}
theorem xS {T T':TypeId} {x y:Operand} {k k':IntKind} {a1 a2:Int} (A:Nat) (ho:nth l i=some ⟨some d,.binOp .shr T x y T',t,p,af,g⟩) (hg:Gd l ρ g c) (hx:Ev ρ c x (.int k a1)) (hy:Ev ρ c y (.int k' a2)) (e1:a1=A) (e2:a2=1) (hk:1≤k.bits)
  (h:Wo dr mc P n l K σ ((d,c,.int k ((A / 2:Nat):Int)) :: ρ) G μ):Wo dr mc P n l K (i :: σ) ρ G μ:=by
 subst e1; subst e2
 refine sr ho hg hx hy (fun _=>by decide) ?_
 have e:(A:Int).fdiv (2^(min (1:Int).toNat k.bits))=((A / 2:Nat):Int):=by
  have:min (1:Int).toNat k.bits=1:=by show min 1 k.bits=1; omega
  rw [this,Int.pow_one,Int.fdiv_eq_ediv_of_nonneg _ (by decide)]
  rfl
 rw [e]; exact h
theorem s3 {T e sz by':Nat} {x y z u:Operand} {b m cap:Nat} {k1 k2 k3:IntKind} {lo hi mx:Int} (ho:nth l i=some ⟨some d,.slice T x (some y) (some z) (some u),t,p,af,none⟩) (hT:cL P T=some (e,sz,by')) (hx:Ev ρ true x (.slice (some ⟨b,0,none⟩) m cap)) (hy:Ev ρ true y (.int k1 lo)) (hz:Ev ρ true z (.int k2 hi)) (hu:Ev ρ true u (.int k3 mx))
  (h0:0≤lo) (h1:lo≤hi) (h2:hi≤mx) (h3:mx≤cap) (h:∀ v,Wo dr mc P n l K σ ((d,true,v) :: ρ) G μ):Wo dr mc P n l K (i :: σ) ρ G μ:=by
 obtain ⟨hu',inf,hi',hs1,hb1⟩:=gE hT
 refine .pure (v:=.slice (if mx.toNat=lo.toNat then (some ⟨b,0,none⟩ : Option Addr) else (some ⟨b,0,none⟩ : Option Addr).map (·.add (lo.toNat*inf.size))) (hi.toNat-lo.toNat) (mx.toNat-lo.toNat)) ho (.inl rfl) .no (fun hc a w ha=>?_) (h _)
 simp [execOp,hx.eval ha rfl,hy.eval ha rfl,hz.eval ha rfl,hu.eval ha rfl,Instr.sliceAt,run_underlying hu',Instr.slice,Instr.sliceBounds,Instr.sliceBound,asIntOf,show 0≤hi by omega,show 0≤mx by omega,h0,sizeOf,typeInfo,hi']
 repeat' split
 all_goals first|rfl|(exfalso; omega)|(simp; done)|skip
theorem srh {T e sz by':Nat} {x z:Operand} {b m cap:Nat} {k:IntKind} {hi:Int} (q:Nat) (ho:nth l i=some ⟨some d,.slice T x none (some z) none,t,p,af,none⟩) (hT:cL P T=some (e,sz,by')) (hx:Ev ρ true x (.slice (some ⟨b,0,none⟩) m cap)) (hz:Ev ρ true z (.int k hi))
  (hq:hi=q) (h1:q≤cap) (h:Wo dr mc P n l K σ ((d,true,.slice (some ⟨b,0,none⟩) q cap) :: ρ) G μ):Wo dr mc P n l K (i :: σ) ρ G μ:=by
 subst hq
 exact se (s:=⟨some ⟨b,0,none⟩,cap⟩) (m:=m) ho .no hT hx hz (by omega) (fun _=>by show (q:Int)≤cap; omega) (by rw [Int.toNat_natCast]; exact h)
theorem slz {T e sz by' b m cap:Nat} {x y:Operand} {k:IntKind} {lo:Int} (q:Nat) (ho:nth l i=some ⟨some d,.slice T x (some y) none none,t,p,af,none⟩) (hT:cL P T=some (e,sz,by')) (hx:Ev ρ true x (.slice (some ⟨b,0,none⟩) m cap)) (hy:Ev ρ true y (.int k lo))
  (hq:lo=q) (h1:q≤m) (h2:m≤cap) (h:∀ oa,(q<m→oa=some ⟨b,q*sz,none⟩)→Wo dr mc P n l K σ ((d,true,.slice oa (m-q) (cap-q)) :: ρ) G μ):Wo dr mc P n l K (i :: σ) ρ G μ:=by
 by_cases h3:q<cap
 ·exact slr q ho hT hx hy hq h1 h2 h3 (h _ fun _=>rfl)
 refine .pure ho (.inl rfl) .no (fun _ a w ha=>?_) (h (some ⟨b,0,none⟩) (fun h4=>absurd h4 (by omega)))
 obtain ⟨hu,inf,hi,rfl,rfl⟩:=gE hT
 subst hq
 have hx':=hx.eval ha rfl
 have hn:cap=q:=by omega
 simp [execOp,hx',hy.eval ha rfl,Instr.sliceAt,run_underlying hu,Instr.slice,Instr.sliceBounds,Instr.sliceBound,asIntOf,sizeOf,typeInfo,hi,h1,h2,hn]
 try omega
theorem sll {T e sz by' b m cap:Nat} {x y z:Operand} {k k':IntKind} {lo hi:Int} (q r:Nat) (ho:nth l i=some ⟨some d,.slice T x (some y) (some z) none,t,p,af,none⟩) (hT:cL P T=some (e,sz,by')) (hx:Ev ρ true x (.slice (some ⟨b,0,none⟩) m cap)) (hy:Ev ρ true y (.int k lo)) (hz:Ev ρ true z (.int k' hi))
  (hq:lo=q) (hr:hi=r) (h1:q≤r) (h2:r≤cap) (h3:q<cap) (h:Wo dr mc P n l K σ ((d,true,.slice (some ⟨b,q*sz,none⟩) (r-q) (cap-q)) :: ρ) G μ):Wo dr mc P n l K (i :: σ) ρ G μ:=by
 subst hq; subst hr
 refine sc (s:=⟨some ⟨b,0,none⟩,cap⟩) (m:=m) ho .no hT hx hy hz (by omega) (by omega) (fun _=>by show (r:Int)≤cap; omega) ?_
 have e1:(Sh.cut ⟨some ⟨b,0,none⟩,cap⟩ (q:Int).toNat sz).val ((r:Int).toNat-(q:Int).toNat)=.slice (some ⟨b,q*sz,none⟩) (r-q) (cap-q):=by
  simp only [Int.toNat_natCast,Sh.cut,Sh.val,if_neg (show ¬ cap=q by omega),Option.map_some,jD,Nat.zero_add]
 rw [e1]; exact h
theorem aQP {T E ty by' sz b m cap q r cp:Nat} {xs:List Value} {oa:Option Addr} {w:World} (hT:cL P T=some (E,sz,by')) (hs:Sat G [.row (.slice (some ⟨b,0,none⟩) m cap) E sz m xs] w) (hq:q≤r) (hr:r≤m) (hoa:r<m→oa=some ⟨b,r*sz,none⟩) (h1:∀ u∈xs,u.oneCell'=true) :
  ∃ w',(Builtin.append_ #[T,T] ty #[.slice (some ⟨b,0,none⟩) q cap,.slice oa (m-r) cp]).run P w=.ok (.slice (some ⟨b,0,none⟩) (q+(m-r)) cap) w'∧Tr G [b] w G [.row (.slice (some ⟨b,0,none⟩) (q+(m-r)) cap) E sz (q+(m-r)) (xs.take (q*sz)++xs.drop (r*sz))] w':=by
 obtain ⟨hu,inf,hi,rfl,rfl⟩:=gE hT
 have hown:w.ownsRow 0 E inf.size (.slice (some ⟨b,0,none⟩) m cap) m xs:=hs.own _ (List.mem_singleton.2 rfl)
 have hxl:=hown.1
 rcases hown.2 with ⟨e,_⟩ | ⟨g,cap',cur,e,_,hg,hnc,hcm,hcs,htake⟩
 ·cases e
 simp only [Value.slice.injEq,Option.some.injEq,Addr.mk.injEq,and_true,true_and] at e
 obtain ⟨rfl,rfl⟩:=e
 have hsat:Sat G [.blk b (.cells cur E (0,0))] w:=⟨hs.sub,fun r hr=>by rw [List.mem_singleton.1 hr]; exact hg,fun c hc=>hs.apart c (by simpa [keys,Res.keys,Value.ownBlock] using hc),by simp [keys,Res.keys]⟩
 have hqs:q*inf.size≤r*inf.size:=Nat.mul_le_mul_right _ hq
 have hrs:r*inf.size≤m*inf.size:=Nat.mul_le_mul_right _ hr
 have hms:m*inf.size≤cap*inf.size:=Nat.mul_le_mul_right _ hnc
 have hcl:cur.toList.length=cur.size:=Array.length_toList ..
 have hnl:(xs.drop (r*inf.size)).length=(m-r)*inf.size:=by rw [List.length_drop,hxl,Nat.sub_mul]
 have hsub:(m-r)*inf.size=m*inf.size-r*inf.size:=Nat.sub_mul ..
 have hlen:(xs.take (q*inf.size)++xs.drop (r*inf.size)).length=(q+(m-r))*inf.size:=by
  rw [List.length_append,hnl,List.length_take,Nat.add_mul,hxl]; omega
 have hpre:cur.toList.take (q*inf.size)=xs.take (q*inf.size):=by
  rw [← htake,List.take_take,Nat.min_eq_left (by omega)]
 by_cases hk:m-r=0
 ·rw [hk]
  have hd:xs.drop (r*inf.size)=[]:=List.drop_of_length_le (by rw [hxl]; exact Nat.mul_le_mul_right _ (by omega))
  rw [hd,List.append_nil,Nat.add_zero]
  refine ⟨w,?_,?_⟩
  ·have hqc:q≤cap:=by omega
   cases oa<;>simp [Builtin.append_,run_underlying hu,sizeOf,typeInfo,hi,Builtin.lenOf,Builtin.firstCells,loadCells,loadCellsFrom,hqc,storeCells]
  have:=(oC hsat).asRow (m:=q) (cap:=cap) (sz:=inf.size) (xs:=xs.take (q*inf.size)) (by rw [List.length_take,hxl]; omega) (by omega) hcm hcs hpre
  simpa [keys,Res.keys] using this
 obtain rfl:=hoa (by omega)
 have hnews:∀ j u,(xs.drop (r*inf.size))[j]? = some u→w.cell? ((⟨b,r*inf.size,none⟩ : Addr).add j)=some u:=by
  intro j u hj
  rw [List.getElem?_drop] at hj
  have:=hown.cells (g:=b) rfl (r*inf.size+j) u hj
  rw [jD,Nat.zero_add] at this
  rw [jD]; exact this
 have hroom:q+(m-r)≤cap:=by omega
 have hfit:q*inf.size+(xs.drop (r*inf.size)).length≤cur.size:=by rw [hnl,hcs,←Nat.add_mul]; exact Nat.mul_le_mul_right _ hroom
 have hrun:=run_append_room (P:=P) w T ty E inf hu hi b q cap cur hg ⟨b,r*inf.size,none⟩ (m-r) cp (xs.drop (r*inf.size)) hnl hnews (fun u hu=>h1 u (List.mem_of_mem_drop hu)) hroom hfit
 refine ⟨_,hrun,?_⟩
 have h2:=uD (cs':=(cur.toList.take (q*inf.size)++xs.drop (r*inf.size)++cur.toList.drop (q*inf.size+(xs.drop (r*inf.size)).length)).toArray) hsat
 refine h2.asRow (m:=q+(m-r)) (cap:=cap) (sz:=inf.size) hlen hroom hcm ?_ ?_
 ·simp only [List.size_toArray,aT,hcl]
  rw [List.length_drop] at hfit
  omega
 rw [hpre,←hlen]
 exact List.take_left
theorem apD {α:Type} {enc:α→List Value} {T E sz by' b cap q r cp:Nat} {x y:Operand} {xs:List α} {oa:Option Addr} {μ':aH} (ho:nth l i=some ⟨some d,.call { callee:=.builtin .append,args:=#[x,y],argTypes:=#[T,T] },t,p,af,none⟩) (hT:cL P T=some (E,sz,by'))
  (hx:Ev ρ true x (.slice (some ⟨b,0,none⟩) q cap)) (hy:Ev ρ true y (.slice oa (xs.length-r) cp)) (hm:MTake μ (rS sz enc (.slice (some ⟨b,0,none⟩) xs.length cap) E xs) μ') (hoa:r<xs.length→oa=some ⟨b,r*sz,none⟩) (hsz:∀ y∈xs,(enc y).length=sz) (h1:∀ u∈xs.flatMap enc,u.oneCell'=true) (hq:q≤r) (hr:r≤xs.length)
  (h:Wo dr mc P n l K σ ((d,true,.slice (some ⟨b,0,none⟩) (xs.take q++xs.drop r).length cap) :: ρ) G (rS sz enc (.slice (some ⟨b,0,none⟩) (xs.take q++xs.drop r).length cap) E (xs.take q++xs.drop r) :: μ')) (hmc:mc.a=false∨dr=false:=by first|exact .inl rfl|exact .inr rfl):Wo dr mc P n l K (i :: σ) ρ G μ:=by
 have hl0:(xs.take q++xs.drop r).length=q+(xs.length-r):=by rw [List.length_append,List.length_take,List.length_drop]; omega
 rw [hl0] at h
 refine .act (μ₁:=[rS sz enc (.slice (some ⟨b,0,none⟩) xs.length cap) E xs]) (μ₂:=μ') (post:=fun G' μ' v'=>G'=G∧v'=.slice (some ⟨b,0,none⟩) (q+(xs.length-r)) cap∧μ'=[rS sz enc (.slice (some ⟨b,0,none⟩) (q+(xs.length-r)) cap) E (xs.take q++xs.drop r)]) ho (by rcases hmc with h | h<;>simp [cA,h]) .no hm.perm (fun a w ha hs=>.inl ?_) ?_
 ·obtain ⟨w',hrun,ht⟩:=aQP (ty:=t) (cp:=cp) hT hs.left hq hr hoa h1
  refine ⟨_,w',G,_,.inl (by simp [execOp,resolve,invoke,builtin,hx.eval ha rfl,hy.eval ha rfl,hrun]),?_,rfl,rfl,rfl⟩
  have hl:(xs.take q++xs.drop r).length=q+(xs.length-r):=by rw [List.length_append,List.length_take,List.length_drop]; omega
  have e1:(xs.take q++xs.drop r).flatMap enc=(xs.flatMap enc).take (q*sz)++(xs.flatMap enc).drop (r*sz):=by
   rw [List.flatMap_append,aC9 hsz,aGH hsz]
  have hk:keys [rS sz enc (.slice (some ⟨b,0,none⟩) xs.length cap) E xs]=[b]:=by simp [keys,Res.keys,Value.ownBlock]
  rw [hk]
  show Tr G [b] w G [.row _ E sz (xs.take q++xs.drop r).length ((xs.take q++xs.drop r).flatMap enc)] w'
  rw [hl,e1]; exact ht
 rintro v' G' μ'' _ ⟨rfl,rfl,rfl⟩
 exact h
theorem clT {α:Type} {enc:α→List Value} {T E sz by' b cap k cp:Nat} {x:Operand} {z:Value} {xs:List α} {μ':aH} {dd:Option Nat} (ho:nth l i=some ⟨dd,.call { callee:=.builtin .clear,args:=#[x],argTypes:=#[T] },t,p,af,none⟩) (hT:cL P T=some (E,sz,by')) (hz:(P.info? E).bind (·.zero)=some z) (hzs:z.cells.size=sz) (hz1:∀ u∈z.cells,u.oneCell'=true)
  (hx:Ev ρ true x (.slice (some ⟨b,xs.length*sz,none⟩) k cp)) (hm:MTake μ (rS sz enc (.slice (some ⟨b,0,none⟩) xs.length cap) E xs) μ') (h0:0<k) (hk:xs.length+k≤cap) (hsz:∀ y∈xs,(enc y).length=sz)
  (h:Wo dr mc P n l K σ (dM ρ dd true (.tuple #[])) G (rS sz enc (.slice (some ⟨b,0,none⟩) xs.length cap) E xs :: μ')):Wo dr mc P n l K (i :: σ) ρ G μ:=by
 refine .act (μ₁:=[rS sz enc (.slice (some ⟨b,0,none⟩) xs.length cap) E xs]) (μ₂:=μ') (post:=fun G' μ' v'=>G'=G∧v'=.tuple #[]∧μ'=[rS sz enc (.slice (some ⟨b,0,none⟩) xs.length cap) E xs]) ho (.inl rfl) .no hm.perm (fun a w ha hs=>.inl ?_) ?_
 ·have hs':=hs.left
  have hrow:w.ownsRow 0 E sz (.slice (some ⟨b,0,none⟩) xs.length cap) xs.length (xs.flatMap enc):=hs'.own _ (List.mem_singleton.2 rfl)
  have hfl:=uO hsz
  obtain ⟨hu,inf,hi,rfl,rfl⟩:=gE hT
  rw [hi] at hz
  simp only [Option.bind_some] at hz
  rcases hrow.2 with ⟨e,_⟩ | ⟨g,cap',cur,e,_,hg,hnc,hcm,hcs,htake⟩
  ·cases e
  simp only [Value.slice.injEq,Option.some.injEq,Addr.mk.injEq,and_true,true_and] at e
  obtain ⟨rfl,rfl⟩:=e
  have hsat:Sat G [.blk b (.cells cur E (0,0))] w:=⟨hs'.sub,fun r hr=>by rw [List.mem_singleton.1 hr]; exact hg,fun c hc=>hs'.apart c (by simpa [keys,Res.keys,Value.ownBlock] using hc),by simp [keys,Res.keys]⟩
  have hzl:(Builtin.zeroCells z.cells k).toList.length=k*inf.size:=by rw [Array.length_toList,size_zeroCells,hzs]
  have hin:xs.length*inf.size+k*inf.size≤cap*inf.size:=by rw [← Nat.add_mul]; exact Nat.mul_le_mul_right _ hk
  have hz2:∀ u∈(Builtin.zeroCells z.cells k).toList,u.oneCell'=true:=by
   intro u hu
   rw [Array.mem_toList_iff] at hu
   unfold Builtin.zeroCells at hu
   obtain ⟨j,hj,rfl⟩:=Array.mem_map.1 hu
   have hjs:j%z.cells.size<z.cells.size:=Nat.mod_lt _ (by
    rcases Nat.eq_zero_or_pos z.cells.size with h0' | h0'
    ·rw [h0'] at hj; simp at hj
    exact h0')
   have:z.cells[j%z.cells.size]! = z.cells[j%z.cells.size]:=by simp [hjs]
   rw [this]
   exact hz1 _ (Array.getElem_mem hjs)
  have hst:=run_storeCells_at P b (xs.length*inf.size) E (Builtin.zeroCells z.cells k).toList 0 cur w hg (by rw [Nat.add_zero,hzl]; omega) hz2
  simp only [Nat.add_zero] at hst
  refine ⟨.tuple #[],w.setRow b (cur.toList.take (xs.length*inf.size)++(Builtin.zeroCells z.cells k).toList++cur.toList.drop (xs.length*inf.size+(Builtin.zeroCells z.cells k).toList.length)).toArray,G,_,.inl (by
   have hk0:k≠0:=by omega
   simp [execOp,resolve,invoke,builtin,hx.eval ha rfl,Builtin.clear_,run_underlying hu,zeroValue,typeInfo,hi,hz,hst]),?_,rfl,rfl,rfl⟩
  have hkk:keys [rS inf.size enc (.slice (some ⟨b,0,none⟩) xs.length cap) E xs]=[b]:=by simp [keys,Res.keys,Value.ownBlock]
  rw [hkk]
  have h2:=uD (cs':=(cur.toList.take (xs.length*inf.size)++(Builtin.zeroCells z.cells k).toList++cur.toList.drop (xs.length*inf.size+(Builtin.zeroCells z.cells k).toList.length)).toArray) hsat
  have hcl:cur.toList.length=cur.size:=Array.length_toList ..
  refine h2.asRow (m:=xs.length) (cap:=cap) (sz:=inf.size) hfl (by omega) hcm ?_ ?_
  ·simp only [List.size_toArray,aT,hcl,hzl]
   omega
  rw [List.append_assoc,List.take_append_of_le_length (by rw [List.length_take,hcl]; omega),List.take_take,Nat.min_self,htake]
 rintro v' G' μ'' _ ⟨rfl,rfl,rfl⟩
 exact h
end
theorem yE {α:Type} {enc:α→List Value} {sz:Nat} {P:Program} {G:PM} {μ:aH} {f:FuncId} {args:Array Value} {E:Nat} {v:Value} {xs:List α} {Q:aH→Value→Prop} (hsz:∀ x∈xs,(enc x).length=sz)
  (h:∀ (s:Sh) (G2:PM),PM.le G G2→v=s.val xs.length→SlR G2 sz enc s xs→Ct P f args G2 μ (fun _ μ' u=>Q μ' u)):Ct P f args G (rS sz enc v E xs :: μ) (fun _ μ' u=>∃ ν,μ'=rS sz enc v E xs :: ν∧Q ν u):=by
 intro w hs
 have hrow:w.ownsRow 0 E sz v xs.length (xs.flatMap enc):=hs.own _ (List.mem_cons_self ..)
 have hnd:=hs.nodup
 rcases hrow.2 with ⟨rfl,h0⟩ | ⟨g,cap,cur,rfl,_,hg,hnc,hcm,hcs,htake⟩
 ·have hx:xs=[]:=List.eq_nil_of_length_eq_zero h0
  subst hx
  have hk:keys (rS sz enc (.slice none 0 0) E ([]:List α) :: μ)=keys μ:=by simp [keys,Res.keys,Value.ownBlock]
  have hs2:Sat G μ w:=⟨hs.sub,fun r hr=>hs.own r (List.mem_cons_of_mem _ hr),by rw [← hk]; exact hs.apart,by rw [← hk]; exact hs.nodup⟩
  refine (h ⟨none,0⟩ G (PM.le.refl G) rfl SlR.nul w hs2).mono ?_
  rintro e w' ⟨u,G',μ',rfl,ht,hQ⟩
  refine ⟨u,G',_,rfl,?_,μ',rfl,hQ⟩
  rw [hk]; exact ht.nilRow
 have hk:keys (rS sz enc (.slice (some ⟨g,0,none⟩) xs.length cap) E xs :: μ)=keys (.blk g (.cells cur E (0,0)) :: μ):=by simp [keys,Res.keys,Value.ownBlock]
 have hs2:Sat G (.blk g (.cells cur E (0,0)) :: μ) w:=by
  refine ⟨hs.sub,fun r hr=>?_,by rw [← hk]; exact hs.apart,by rw [← hk]; exact hs.nodup⟩
  rcases List.mem_cons.1 hr with rfl | hr
  ·exact hg
  exact hs.own r (List.mem_cons_of_mem _ hr)
 have hGg:G g=none:=hs2.apart g (by simp [keys,Res.keys])
 have hsl:SlR (G.add g (.cells cur E (0,0))) sz enc ⟨some ⟨g,0,none⟩,cap⟩ xs:=by
  refine SlR.ofRow hsz hnc (fun _=>rfl) ?_
  intro j u hj w' hs'
  show w'.cell? ⟨g,0+j,none⟩=some u
  rw [Nat.zero_add,cell_of_row w' g j cur E (0,0) (hs' g _ (gI G g _))]
  rw [← htake,List.getElem?_take] at hj
  split at hj
  ·simpa using hj
  cases hj
 refine (aCJ (h ⟨some ⟨g,0,none⟩,cap⟩ _ (sK hGg) rfl hsl) w hs2).mono ?_
 rintro e w' ⟨u,G',μ',rfl,ht,ν,rfl,hQ⟩
 refine ⟨u,G',_,rfl,?_,ν,rfl,hQ⟩
 rw [hk]
 exact ht.asRow (uO hsz) hnc hcm hcs htake
section
variable {α:Type}
theorem iI {l:List α} {k:Nat} {z:α} (h:k<l.length):l[k]? = some (l.getD k z):=by simp [h]
theorem aDD {X Z:List α} {x z0:α} {i:Nat} (hi:i=X.length):(X++x :: Z).getD i z0=x:=by subst hi; simp
theorem aBy {X Z:List α} {x y:α} {i:Nat} (hi:i=X.length):(X++x :: Z).set i y=X++y :: Z:=by subst hi; simp
theorem aDC {X Y Z L:List α} {x y z0:α} {i:Nat} (hL:L=X++x :: (Y++y :: Z)) (hi:i=X.length):L.getD i z0=x:=by rw [hL,aDD hi]
theorem aGU {X Y Z L:List α} {x y z0:α} {j:Nat} (hL:L=X++x :: (Y++y :: Z)) (hj:j=X.length+1+Y.length):L.getD j z0=y:=by
 rw [hL,show X++x :: (Y++y :: Z)=(X++x :: Y)++y :: Z by simp,aDD (by simp; omega)]
theorem aI9 {X Y Z L:List α} {x y z0:α} {i j:Nat} (hL:L=X++x :: (Y++y :: Z)) (hi:i=X.length) (hj:j=X.length+1+Y.length):(L.set i (L.getD j z0)).set j (L.getD i z0)=X++y :: (Y++x :: Z):=by
 rw [aDC hL hi,aGU hL hj,hL,aBy hi,show X++y :: (Y++y :: Z)=(X++y :: Y)++y :: Z by simp,aBy (by simp; omega)]; simp
theorem aJA {X Y Z L:List α} {x y z0:α} {i j:Nat} (hL:L=X++x :: (Y++y :: Z)) (hi:i=X.length) (hj:j=X.length+1+Y.length):(L.set j (L.getD i z0)).set i (L.getD j z0)=X++y :: (Y++x :: Z):=by
 rw [aDC hL hi,aGU hL hj,hL,show X++x :: (Y++y :: Z)=(X++x :: Y)++y :: Z by simp,aBy (by simp; omega),show (X++x :: Y)++x :: Z=X++x :: (Y++x :: Z) by simp,aBy hi]
def lI (P A Q B S:List α) (k:Nat):List α:=P++(B.take k++A.drop k)++Q++(A.take k++B.drop k)++S
theorem aRa (P A Q B S:List α):lI P A Q B S 0=P++A++Q++B++S:=by simp [lI]
theorem aRX {P A Q B S:List α} {k:Nat} (h:A.length=B.length) (hk:k=A.length):lI P A Q B S k=P++B++Q++A++S:=by
 subst hk
 unfold lI
 rw [List.take_of_length_le (l:=B) (by omega),List.drop_of_length_le (l:=A) (by omega),List.take_of_length_le (l:=A) (by omega),List.drop_of_length_le (l:=B) (by omega)]; simp
theorem aRY (P A Q B S:List α) {k:Nat} (h:A.length=B.length) (hk:k≤A.length):(lI P A Q B S k).length=P.length+A.length+Q.length+B.length+S.length:=by
 unfold lI; simp only [aT]; omega
theorem aRZ {P A Q B S:List α} {k i j:Nat} {z0:α} (h:A.length=B.length) (hk:k<A.length) (hi:i=P.length+k) (hj:j=P.length+A.length+Q.length+k) :
  ((lI P A Q B S k).set i ((lI P A Q B S k).getD j z0)).set j ((lI P A Q B S k).getD i z0)=lI P A Q B S (k+1):=by
 have ea:A.drop k=A[k] :: A.drop (k+1):=List.drop_eq_getElem_cons hk
 have eb:B.drop k=B[k] :: B.drop (k+1):=List.drop_eq_getElem_cons (by omega)
 have ta:A.take (k+1)=A.take k++[A[k]]:=by rw [List.take_add_one,List.getElem?_eq_getElem hk]; rfl
 have tb:B.take (k+1)=B.take k++[B[k]]:=by rw [List.take_add_one,List.getElem?_eq_getElem (by omega)]; rfl
 have hL:lI P A Q B S k=(P++B.take k)++A[k] :: ((A.drop (k+1)++Q++A.take k)++B[k] :: (B.drop (k+1)++S)):=by
  unfold lI; rw [ea,eb]; simp only [List.append_assoc,List.cons_append]
 rw [aI9 hL (by simp; omega) (by simp; omega)]
 unfold lI
 rw [ta,tb]; simp only [List.append_assoc,List.cons_append,List.nil_append]
end
structure CmpR (P:Program) (f:FuncId) (vc:List Value) (cv:Meta→Meta→Int) (G:PM):Prop where
 ok:∀ G',PM.le G G'→∀ a b:Meta,Ct P f ([a.val,b.val]++vc).toArray G' [] fun _ μ' u=>μ'=[]∧u=.int .i64 (cv a b)
theorem CmpR.mono {P:Program} {f:FuncId} {vc:List Value} {cv:Meta→Meta→Int} {G G':PM} (h:CmpR P f vc cv G) (hle:PM.le G G'):CmpR P f vc cv G':=⟨fun G2 h2=>h.ok G2 (hle.trans h2)⟩
abbrev TM:=Meta×Nat
def z0:TM:=(Meta.zero,0)
def ms (T:List TM):List Meta:=T.map (·.1)
theorem uX (A B:List TM):ms (A++B)=ms A++ms B:=List.map_append ..
theorem nQ (x:TM) (B:List TM):ms (x :: B)=x.1 :: ms B:=rfl
theorem cN (A:List TM):(ms A).length=A.length:=List.length_map ..
def cG (cv:Meta→Meta→Int) (a b:Meta):Bool:=decide (cv a b<0)
theorem aIp {X A Z:List TM} {k:Nat} (h1:X.length≤k) (h2:k<X.length+A.length):(ms (X++A++Z)).getD k Meta.zero=(A.getD (k-X.length) z0).1:=by
 obtain ⟨d,rfl⟩ : ∃ d,k=X.length+d:=⟨k-X.length,by omega⟩
 have hd:d<A.length:=by omega
 have e:(X++A++Z)[X.length+d]? = some A[d]:=by rw [List.append_assoc,List.getElem?_append_right (by omega),show X.length+d-X.length=d by omega,List.getElem?_append_left hd,List.getElem?_eq_getElem hd]
 simp only [ms,List.getD_eq_getElem?_getD,List.getElem?_map,e,Option.map_some,Option.getD_some,show X.length+d-X.length=d by omega,List.getElem?_eq_getElem hd]
theorem zS {A:List TM} {k:Nat} (h:k<A.length):A.getD k z0∈A:=by
 simp only [List.getD_eq_getElem?_getD,List.getElem?_eq_getElem h,Option.getD_some]; exact List.getElem_mem h
section
variable {lt:Meta→Meta→Bool}
theorem aIx {A:List TM} (hs:Srt lt A) {i j:Nat} (hij:i<j) (hj:j<A.length):TL lt (A.getD i z0) (A.getD j z0):=by
 have:=List.pairwise_iff_getElem.1 hs i j (by omega) hj hij
 simpa [hj,show i<A.length by omega] using this
theorem aBR (h:Wk0 lt) {A:List TM} (hs:Srt lt A) {q:Nat} {y:TM} (hq:q=0∨TL lt (A.getD (q-1) z0) y) (hl:q≤A.length):∀ x∈A.take q,TL lt x y:=by
 intro x hx
 obtain ⟨i,hi,rfl⟩:=List.mem_iff_getElem.1 hx
 rw [List.length_take] at hi
 rw [List.getElem_take]
 have e:A.getD i z0=A[i]:=by simp [show i<A.length by omega]
 rw [← e]
 rcases hq with hq | hq
 ·omega
 ·by_cases hi':i=q-1
  ·rw [hi']; exact hq
  ·exact (aIx hs (show i<q-1 by omega) (by omega)).tr h hq
theorem aDQ (h:Wk0 lt) {A:List TM} (hs:Srt lt A) {q:Nat} {y:TM} (hq:q=A.length∨TL lt y (A.getD q z0)):∀ x∈A.drop q,TL lt y x:=by
 intro x hx
 obtain ⟨i,hi,rfl⟩:=List.mem_iff_getElem.1 hx
 rw [List.length_drop] at hi
 rw [List.getElem_drop]
 have e:A.getD (q+i) z0=A[q+i]:=by simp [show q+i<A.length by omega]
 rw [← e]
 rcases hq with hq | hq
 ·omega
 ·by_cases hi':i=0
  ·rw [hi']; exact hq
  ·exact TL.tr h hq (aIx hs (show q<q+i by omega) (by omega))
theorem cR {A:List TM} (hs:Srt lt A) (q:Nat):Srt lt (A.take q)∧Srt lt (A.drop q)∧∀ x∈A.take q,∀ y∈A.drop q,TL lt x y:=by
 have h:=hs
 unfold Srt at h
 rw [← List.take_append_drop q A] at h
 exact List.pairwise_append.1 h
theorem aIy (h:Wk0 lt) {B:List TM} {x:TM} {q:Nat} (hs:Srt lt B) (h1:q=0∨TL lt (B.getD (q-1) z0) x) (h2:q=B.length∨TL lt x (B.getD q z0)) (hl:q≤B.length):Srt lt (B.take q++x :: B.drop q):=by
 obtain ⟨s1,s2,s3⟩:=cR hs q
 refine List.pairwise_append.2 ⟨s1,List.pairwise_cons.2 ⟨aDQ h hs h2,s2⟩,fun a ha b hb=>?_⟩
 rcases List.mem_cons.1 hb with rfl | hb
 ·exact aBR h hs h1 hl a ha
 exact s3 a ha b hb
theorem aHs {B:List TM} {x:TM} (q:Nat):(B.take q++x :: B.drop q).Perm (x :: B):=by
 have:=List.perm_middle (a:=x) (l₁:=B.take q) (l₂:=B.drop q)
 rwa [List.take_append_drop] at this
end
theorem aRB {lt:Meta→Meta→Bool} (S:List TM):Srt lt (S.take 1):=by
 cases S with
 | nil=>exact .nil
 | cons x S=>exact List.pairwise_singleton _ _
theorem aBL {S:List TM} {q:Nat} (h:q<S.length):S.drop q=S.getD q z0 :: S.drop (q+1):=by
 rw [List.drop_eq_getElem_cons h]; simp [h]
theorem aB6 {S:List TM} {q:Nat} (h:q<S.length):S.take (q+1)=S.take q++[S.getD q z0]:=by
 rw [List.take_add_one,List.getElem?_eq_getElem h]; simp [h]
theorem aJQ {A B:List TM} (h:0<A.length):A.take (A.length-1)++A.getD (A.length-1) z0 :: B=A++B:=by
 have:=aB6 (S:=A) (q:=A.length-1) (by omega)
 rw [show A.length-1+1=A.length by omega,List.take_length] at this
 rw [show A++B=(A.take (A.length-1)++[A.getD (A.length-1) z0])++B from congrArg (·++B) this]; simp
theorem aNN {S A B S1:List TM} {q:Nat} (hq:q<S.length) (hAB:A++B=S1) (hp:S1.Perm (S.take q)):(A++S.getD q z0 :: B).Perm (S.take (q+1)):=by
 rw [aB6 hq]
 refine List.perm_middle.trans ?_
 rw [hAB]
 exact (hp.cons _).trans (List.perm_append_comm (l₁:=[S.getD q z0]) (l₂:=S.take q))
theorem aGk {P A B D R:List TM} {y:TM} {j:Nat} (hj:j=P.length+A.length):(ms (P++(A++y :: B++D)++R)).getD j Meta.zero=y.1:=by
 rw [show P++(A++y :: B++D)++R=(P++A)++y :: (B++D++R) by simp,uX,nQ]
 exact aDD (by rw [cN]; simp; omega)
theorem aGi {P A B D R:List TM} {y:TM} (hA:0<A.length):ms (P++(A++y :: B++D)++R)=ms (P++A.take (A.length-1))++(A.getD (A.length-1) z0).1 :: ([]++y.1 :: ms (B++D++R)):=by
 have h:=aJQ (B:=y :: B) hA
 rw [← h,←nQ,List.nil_append,←nQ,←uX]; simp
theorem aGj {P A B D R:List TM} {y:TM} {j:Nat} (hA:0<A.length) (hj:j=P.length+A.length-1):(ms (P++(A++y :: B++D)++R)).getD j Meta.zero=(A.getD (A.length-1) z0).1 :=
 aDC (aGi hA) (by rw [cN]; simp; omega)
theorem aNR {P A B D R:List TM} {y:TM} {i j:Nat} (hA:0<A.length) (hi:i=P.length+A.length-1) (hj:j=P.length+A.length) :
  ((ms (P++(A++y :: B++D)++R)).set j ((ms (P++(A++y :: B++D)++R)).getD i Meta.zero)).set i ((ms (P++(A++y :: B++D)++R)).getD j Meta.zero)=ms (P++(A.take (A.length-1)++y :: (A.getD (A.length-1) z0 :: B)++D)++R):=by
 rw [aJA (aGi hA) (by rw [cN]; simp; omega) (by rw [cN]; simp; omega),List.nil_append,←nQ,←nQ,←uX]; simp
theorem aNL {cv:Meta→Meta→Int} {P A B D R:List TM} {y:TM} (hB:∀ z∈B,TL (cG cv) y z)
  (hc:0<A.length∧cv ((ms (P++(A++y :: B++D)++R)).getD (P.length+A.length) Meta.zero) ((ms (P++(A++y :: B++D)++R)).getD (P.length+A.length-1) Meta.zero)<0):∀ z∈A.getD (A.length-1) z0 :: B,TL (cG cv) y z:=by
 rw [aGk rfl,aGj hc.1 rfl] at hc
 intro z hz
 rcases List.mem_cons.1 hz with rfl | hz
 ·exact .inl (by unfold cG; exact decide_eq_true hc.2)
 ·exact hB z hz
theorem aNQ {cv:Meta→Meta→Int} {P S A B S1 R:List TM} {q:Nat} (hw:Wk0 (cG cv)) (hs:Srt (cG cv) S1) (hAB:A++B=S1) (hB:∀ z∈B,TL (cG cv) (S.getD q z0) z) (hS:S.Pairwise fun x y=>x.2<y.2) (hp:S1.Perm (S.take q)) (hq:q<S.length)
  (hc:0<A.length→0≤cv ((ms (P++(A++S.getD q z0 :: B++S.drop (q+1))++R)).getD (P.length+A.length) Meta.zero) ((ms (P++(A++S.getD q z0 :: B++S.drop (q+1))++R)).getD (P.length+A.length-1) Meta.zero)):Srt (cG cv) (A++S.getD q z0 :: B):=by
 have hs':=hs
 rw [← hAB] at hs'
 obtain ⟨s1,s2,s3⟩:=List.pairwise_append.1 hs'
 have hA:∀ x∈A,TL (cG cv) x (S.getD q z0):=by
  by_cases h0:A.length=0
  ·rw [List.eq_nil_of_length_eq_zero h0]; intro x hx; cases hx
  have h1:=hc (by omega)
  rw [aGk rfl,aGj (by omega) rfl] at h1
  have ht:(A.getD (A.length-1) z0).2<(S.getD q z0).2:=by
   have hm:A.getD (A.length-1) z0∈S.take q:=hp.mem_iff.1 (by rw [← hAB]; exact List.mem_append_left _ (zS (by omega)))
   have hS':=hS
   rw [← List.take_append_drop q S,aBL hq] at hS'
   exact (List.pairwise_append.1 hS').2.2 _ hm _ (List.mem_cons_self ..)
  have h2:TL (cG cv) (A.getD (A.length-1) z0) (S.getD q z0):=(aFA hw ht).2 (by unfold cG; exact decide_eq_false (by omega))
  intro x hx
  have:=aBR hw s1 (q:=A.length) (y:=S.getD q z0) (.inr h2) (Nat.le_refl _) x (by rw [List.take_length]; exact hx)
  exact this
 refine List.pairwise_append.2 ⟨s1,List.pairwise_cons.2 ⟨hB,s2⟩,fun x hx z hz=>?_⟩
 rcases List.mem_cons.1 hz with rfl | hz
 ·exact hA x hx
 exact s3 x hx z hz
section
variable {cv:Meta→Meta→Int} {P A B R:List TM}
theorem aBw {i:Nat} (h:i<A.length):(ms (P++A++B++R)).getD (P.length+i) Meta.zero=(A.getD i z0).1:=by
 have:=aIp (X:=P) (A:=A) (Z:=B++R) (k:=P.length+i) (by omega) (by omega)
 rw [show P.length+i-P.length=i by omega,←List.append_assoc] at this
 exact this
theorem aBx {i:Nat} (h:i<B.length):(ms (P++A++B++R)).getD (P.length+A.length+i) Meta.zero=(B.getD i z0).1:=by
 have:=aIp (X:=P++A) (A:=B) (Z:=R) (k:=P.length+A.length+i) (by simp) (by simp; omega)
 rw [List.length_append,show P.length+A.length+i-(P.length+A.length)=i by omega] at this
 exact this
theorem aQl (h:0<A.length):(ms (P++A++B++R)).getD P.length Meta.zero=(A.getD 0 z0).1:=aBw (i:=0) h
theorem aQm (h:0<B.length):(ms (P++A++B++R)).getD (P.length+A.length) Meta.zero=(B.getD 0 z0).1:=aBx (i:=0) h
theorem aA4 (hw:Wk0 (cG cv)) (ht:∀ x∈A,∀ y∈B,x.2<y.2) {i j:Nat} (hi:i<A.length) (hj:j<B.length) (h:cv (B.getD j z0).1 (A.getD i z0).1<0):TL (cG cv) (B.getD j z0) (A.getD i z0) :=
 (aLH hw (ht _ (zS hi) _ (zS hj))).2 (by unfold cG; exact decide_eq_true h)
theorem aA5 (hw:Wk0 (cG cv)) (ht:∀ x∈A,∀ y∈B,x.2<y.2) {i j:Nat} (hi:i<A.length) (hj:j<B.length) (h:0≤cv (B.getD j z0).1 (A.getD i z0).1):TL (cG cv) (A.getD i z0) (B.getD j z0) :=
 (aFA hw (ht _ (zS hi) _ (zS hj))).2 (by unfold cG; exact decide_eq_false (by omega))
theorem aBl (h:A.length=1):A=[A.getD 0 z0]:=by
 match A,h with
 | [x],_=>rfl
theorem aQr {x:TM} {k i j:Nat} (hk:k<B.length) (hi:i=P.length+k) (hj:j=P.length+k+1) :
  ((ms (P++(B.take k++x :: B.drop k)++R)).set i ((ms (P++(B.take k++x :: B.drop k)++R)).getD j Meta.zero)).set j ((ms (P++(B.take k++x :: B.drop k)++R)).getD i Meta.zero)=ms (P++(B.take (k+1)++x :: B.drop (k+1))++R):=by
 have hL:ms (P++(B.take k++x :: B.drop k)++R)=ms (P++B.take k)++x.1 :: ([]++(B.getD k z0).1 :: ms (B.drop (k+1)++R)):=by
  rw [aBL hk,List.nil_append,←nQ,←nQ,←uX]; simp
 rw [aI9 hL (by rw [cN]; simp; omega) (by rw [cN]; simp; omega),aB6 hk,List.nil_append,←nQ,←nQ,←uX]; simp
theorem aQq {y:TM} {e i j:Nat} (he:0<e) (hl:e≤A.length) (hi:i=P.length+e-1) (hj:j=P.length+e) :
  ((ms (P++(A.take e++y :: A.drop e)++R)).set j ((ms (P++(A.take e++y :: A.drop e)++R)).getD i Meta.zero)).set i ((ms (P++(A.take e++y :: A.drop e)++R)).getD j Meta.zero)=ms (P++(A.take (e-1)++y :: A.drop (e-1))++R):=by
 obtain ⟨k,rfl⟩ : ∃ k,e=k+1:=⟨e-1,by omega⟩
 have hk:k<A.length:=by omega
 have hL:ms (P++(A.take (k+1)++y :: A.drop (k+1))++R)=ms (P++A.take k)++(A.getD k z0).1 :: ([]++y.1 :: ms (A.drop (k+1)++R)):=by
  rw [aB6 hk,List.nil_append,←nQ,←nQ,←uX]; simp
 rw [aJA hL (by rw [cN]; simp; omega) (by rw [cN]; simp; omega),show k+1-1=k by omega,aBL hk,List.nil_append,←nQ,←nQ,←uX]; simp
theorem aO2 (hA:A.length=1) (q:Nat):(B.take q++A.getD 0 z0 :: B.drop q).Perm (A++B):=by
 have:=aHs (B:=B) (x:=A.getD 0 z0) q
 rw [aBl hA]; exact this
theorem aOw (hB:B.length=1) (q:Nat):(A.take q++B.getD 0 z0 :: A.drop q).Perm (A++B):=by
 have:=aHs (B:=A) (x:=B.getD 0 z0) q
 rw [aBl hB]; exact this.trans (List.perm_append_comm (l₁:=[B.getD 0 z0]) (l₂:=A))
theorem aJD (hw:Wk0 (cG cv)) (sA:Srt (cG cv) A) (sB:Srt (cG cv) B) {s h:Nat} (h1:h-B.length≤s) (h3:s≤h) (h4:s≤A.length)
  (f1:s=h-B.length∨TL (cG cv) (A.getD (s-1) z0) (B.getD (h-s) z0)) (f2:(s=h∨s=A.length)∨TL (cG cv) (B.getD (h-1-s) z0) (A.getD s z0)) :
  ∀ x∈A.take s++B.take (h-s),∀ y∈A.drop s++B.drop (h-s),TL (cG cv) x y:=by
 obtain ⟨a1,a2,a3⟩:=cR sA s
 obtain ⟨b1,b2,b3⟩:=cR sB (h-s)
 intro x hx y hy
 rcases List.mem_append.1 hx with hx | hx<;>rcases List.mem_append.1 hy with hy | hy
 ·exact a3 x hx y hy
 ·by_cases e:s=h-B.length
  ·by_cases hb:h<B.length
   ·have:s=0:=by omega
    subst this; simp at hx
   ·have:B.length≤h-s:=by omega
    rw [List.drop_of_length_le this] at hy; cases hy
  ·have h5:=aBR hw sA (q:=s) (y:=B.getD (h-s) z0) (.inr (f1.resolve_left e)) h4 x hx
   exact aDQ hw sB (q:=h-s) (y:=x) (.inr h5) y hy
 ·by_cases e:s=h∨s=A.length
  ·rcases e with e | e
   ·rw [e,Nat.sub_self] at hx; simp at hx
   ·rw [e,List.drop_length] at hy; cases hy
  ·have h5:=f2.resolve_left e
   have h6:=aBR hw sB (q:=h-s) (y:=A.getD s z0) (.inr (by rw [show h-s-1=h-1-s by omega]; exact h5)) (by omega) x hx
   exact aDQ hw sA (q:=s) (y:=x) (.inr h6) y hy
 ·exact b3 x hx y hy
theorem aJF {s q:Nat} (h:A.length≤s∨q=0):ms (P++A++B++R)=ms (P++(A.take s++B.take q)++(A.drop s++B.drop q)++R):=by
 rcases h with h|rfl
 ·rw [List.take_of_length_le h,List.drop_of_length_le h,List.nil_append]
  conv=>lhs; rw [← List.take_append_drop q B]
  simp
 ·rw [List.take_zero,List.drop_zero,List.append_nil]
  conv=>lhs; rw [← List.take_append_drop s A]
  simp only [List.append_assoc]
theorem aJG {s q:Nat}:ms (P++A.take s)++ms (B.take q)++ms (A.drop s)++ms (B.drop q++R)=ms (P++(A.take s++B.take q)++(A.drop s++B.drop q)++R):=by
 simp only [ms,List.map_append,List.append_assoc]
theorem aJE {s q:Nat}:ms (P++A++B++R)=ms (P++A.take s)++ms (A.drop s)++ms (B.take q)++ms (B.drop q++R):=by
 conv=>lhs; rw [← List.take_append_drop s A,←List.take_append_drop q B]
 simp only [ms,List.map_append,List.append_assoc]
theorem lC {X Z:List TM} {lt:Meta→Meta→Bool} (hX:Srt lt X) (hZ:Srt lt Z) (h:X.length=0∨Z.length=0):Srt lt (X++Z):=by
 rcases h with h | h
 ·rw [List.eq_nil_of_length_eq_zero h]; exact hZ
 ·rw [List.eq_nil_of_length_eq_zero h,List.append_nil]; exact hX
theorem lJ {S1 S2:List TM} {s q:Nat} (hc:∀ x∈A.take s++B.take q,∀ y∈A.drop s++B.drop q,TL (cG cv) x y) (p1:S1.Perm (A.take s++B.take q)) (s1:Srt (cG cv) S1) (p2:S2.Perm (A.drop s++B.drop q)) (s2:Srt (cG cv) S2):(S1++S2).Perm (A++B)∧Srt (cG cv) (S1++S2):=by
 refine ⟨(p1.append p2).trans ?_,List.pairwise_append.2 ⟨s1,s2,fun x hx y hy=>hc x (p1.mem_iff.1 hx) y (p2.mem_iff.1 hy)⟩⟩
 conv=>rhs; rw [← List.take_append_drop s A,←List.take_append_drop q B]
 rw [List.append_assoc,List.append_assoc]
 refine List.Perm.append_left _ ?_
 rw [← List.append_assoc,←List.append_assoc]
 exact List.Perm.append_right _ List.perm_append_comm
end
theorem aOV (x:Y):(x ||| 128#8).toNat=x.toNat%128+128:=by
 have h:=x.isLt
 have hd:∀ y:Y,(y ||| 128#8).toNat=y.toNat%128+128:=by decide
 exact hd x
theorem aLX (x:Y):(x &&& 127#8).toNat=x.toNat%128:=by
 have hd:∀ y:Y,(y &&& 127#8).toNat=y.toNat%128:=by decide
 exact hd x
theorem aOF {m:BitVec 64} (h:¬ m.toNat<128):bP m.toNat=(m.setWidth 8 ||| 128#8) :: bP (m >>> 7).toNat:=by
 rw [tC h]
 have e1:BitVec.ofNat 8 (m.toNat%128+128)=m.setWidth 8 ||| 128#8:=by
  apply BitVec.eq_of_toNat_eq
  rw [aOV,BitVec.toNat_ofNat,BitVec.toNat_setWidth]
  omega
 have e2:(m >>> 7).toNat=m.toNat / 128:=by rw [BitVec.toNat_ushiftRight,Nat.shiftRight_eq_div_pow]
 rw [e1,e2]
theorem aOD {m:BitVec 64} (h:m.toNat<128):bP m.toNat=[m.setWidth 8]:=by
 rw [rV h]
 rfl
theorem aQv (m:BitVec 64):(m >>> 7).toNat=m.toNat / 128:=by rw [BitVec.toNat_ushiftRight,Nat.shiftRight_eq_div_pow]
theorem uvI {x:Int} (h:u64 x):Value.int .u64 x=uv .u64 (BitVec.ofInt 64 x):=by
 unfold u64 at h
 show Value.int .u64 x=Value.int .u64 (((BitVec.ofInt 64 x).toNat:Nat):Int)
 congr 1
 rw [BitVec.toNat_ofInt]
 omega
theorem ofI {x:Int} (h:u64 x):(BitVec.ofInt 64 x).toNat=x.toNat:=by
 unfold u64 at h
 rw [BitVec.toNat_ofInt]; omega
theorem aHp (k:Nat):(128:Nat)^k=2^(7*k):=by rw [Nat.pow_mul]
theorem aFD {w:BitVec 64} {x:Y} {k:Nat} (hw:w.toNat<128^k) (hk:k≤9) (hx:k=9→x.toNat≤1):(w ||| (x &&& 127#8).setWidth 64 <<< (7*k)).toNat=w.toNat+(x.toNat%128)*128^k:=by
 have hxl:=x.isLt
 have h1:((x &&& 127#8).setWidth 64 <<< (7*k)).toNat=2^(7*k)*(x.toNat%128):=by
  rw [BitVec.toNat_shiftLeft,BitVec.toNat_setWidth,aLX,Nat.mod_eq_of_lt (a:=x.toNat%128) (by omega),Nat.shiftLeft_eq,Nat.mul_comm]
  refine Nat.mod_eq_of_lt ?_
  rcases Nat.lt_or_ge k 9 with h | h
  ·have h2:(2:Nat)^(7*k)≤2^56:=Nat.pow_le_pow_right (by decide) (by omega)
   have h3:2^(7*k)*(x.toNat%128)≤2^56*127:=Nat.mul_le_mul h2 (by omega)
   have h4:(2:Nat)^56*127<2^64:=by decide
   omega
  obtain rfl:k=9:=by omega
  have:=hx rfl
  have h3:(2:Nat)^(7*9)*(x.toNat%128)≤2^(7*9)*1:=Nat.mul_le_mul_left _ (by omega)
  have h4:(2:Nat)^(7*9)*1<2^64:=by decide
  omega
 rw [BitVec.toNat_or,h1]
 have h5:=Nat.two_pow_add_eq_or_of_lt (i:=7*k) (b:=w.toNat) (by rw [← aHp]; exact hw) (x.toNat%128)
 rw [show w.toNat ||| 2^(7*k)*(x.toNat%128)=2^(7*k)*(x.toNat%128) ||| w.toNat from Nat.or_comm _ _,←h5,←aHp,Nat.mul_comm]
 omega
theorem sT {xs:List Y} {k:Nat} (h:k<xs.length):xs.drop k=xs.getD k 0 :: xs.drop (k+1):=by
 rw [List.drop_eq_getElem_cons h]; simp [h]
section
variable {xs:List Y} {k:Nat} {w:BitVec 64}
theorem aN7 (e:dR xs=gA k w.toNat (xs.drop k)) (h:k<xs.length) (hk:k=9) (hx:1<(xs.getD k 0).toNat):dR xs=(0,0,11):=by
 rw [e,sT h,gA,if_pos ⟨hk,hx⟩]
theorem aN9 (e:dR xs=gA k w.toNat (xs.drop k)) (h:k<xs.length) (hk:0<k) (hx:(xs.getD k 0).toNat=0):dR xs=(0,0,11):=by
 rw [e,sT h,gA,if_neg (by omega),if_pos (by omega),if_pos ⟨hk,hx⟩]
theorem aN6 (e:dR xs=gA k w.toNat (xs.drop k)) (hw:w.toNat<128^k) (h9:k≤9) (h:k<xs.length) (hf:¬ (k=9∧1<(xs.getD k 0).toNat)) (hx:(xs.getD k 0).toNat<128) (hz:¬ (0<k∧(xs.getD k 0).toNat=0)) :
  dR xs=((w ||| (xs.getD k 0 &&& 127#8).setWidth 64 <<< (7*k)).toNat,k+1,0):=by
 rw [e,sT h,gA,if_neg hf,if_pos hx,if_neg hz,aFD hw h9 (by omega),Nat.mod_eq_of_lt hx]
theorem aDc (e:dR xs=gA k w.toNat (xs.drop k)) (hw:w.toNat<128^k) (h9:k≤9) (h:k<xs.length) (hf:¬ (k=9∧1<(xs.getD k 0).toNat)) (hx:¬ (xs.getD k 0).toNat<128) :
  dR xs=gA (k+1) (w ||| (xs.getD k 0 &&& 127#8).setWidth 64 <<< (7*k)).toNat (xs.drop (k+1))∧(w ||| (xs.getD k 0 &&& 127#8).setWidth 64 <<< (7*k)).toNat<128^(k+1)∧k+1≤9:=by
 have hxl:=(xs.getD k 0).isLt
 have hm:(xs.getD k 0).toNat%128=(xs.getD k 0).toNat-128:=by omega
 rw [aFD hw h9 (by omega),hm]
 refine ⟨by rw [e,sT h,gA,if_neg hf,if_neg hx],?_,by omega⟩
 rw [Nat.pow_succ]
 have:((xs.getD k 0).toNat-128)*128^k≤127*128^k:=Nat.mul_le_mul_right _ (by omega)
 omega
theorem aN8 (e:dR xs=gA k w.toNat (xs.drop k)) (h:xs.length≤k):dR xs=(0,0,10):=by
 rw [e,List.drop_of_length_le h,gA]
end
structure NumR (xs:List Y) (n k:Nat) (e:Int):Prop where
 eq:dR xs=(n,k,e)
 lt:n<18446744073709551616
 le:k≤xs.length
theorem NumR.of {xs:List Y} {n k:Nat} {e:Int} (h:dR xs=(n,k,e)):NumR xs n k e:=by
 by_cases he:e=0
 ·subst he
  obtain ⟨_,h2,_,h4⟩:=aHX h
  exact ⟨h,h2,h4⟩
 ·obtain ⟨rfl,rfl⟩:=aDe xs 0 0 n k e h he
  exact ⟨h,by decide,Nat.zero_le _⟩
theorem aH4 {xs:List Y} {e:Int} (h:¬ e=0):dD ⟨xs,e⟩=(0,⟨xs,e⟩):=by unfold dD; rw [if_pos h]
theorem aDv {xs L:List Y} {e e':Int} {n k:Nat} (h:e=0) (hN:NumR xs n k e') (eL:L=xs.drop k):dD ⟨xs,e⟩=(n,⟨L,e'⟩):=by
 unfold dD; rw [if_neg (by simp [h])]; simp only [hN.eq,eL]
theorem aH6 {most:Nat} {xs:List Y} {e:Int} (h:¬ e=0):gD most ⟨xs,e⟩=([],⟨xs,e⟩):=by unfold gD; rw [if_pos h]
theorem aH7 {most n k:Nat} {xs:List Y} {e e':Int} (h:e=0) (hN:NumR xs n k e') (he:¬ e'=0):gD most ⟨xs,e⟩=([],⟨xs,e'⟩):=by
 unfold gD; rw [if_neg (by simp [h])]; simp only [hN.eq]; rw [if_pos he]
theorem aH8 {most n k:Nat} {xs:List Y} {e e':Int} (h:e=0) (hN:NumR xs n k e') (he:e'=0) (hn:most<n):gD most ⟨xs,e⟩=([],⟨xs,4⟩):=by
 unfold gD; rw [if_neg (by simp [h])]; simp only [hN.eq]; rw [if_neg (by simp [he]),if_pos hn]
theorem aIA {most n k:Nat} {xs:List Y} {e e':Int} (h:e=0) (hN:NumR xs n k e') (he:e'=0) (hn:¬ most<n) (hl:xs.length-k<n):gD most ⟨xs,e⟩=([],⟨xs,10⟩):=by
 unfold gD; rw [if_neg (by simp [h])]; simp only [hN.eq]; rw [if_neg (by simp [he]),if_neg hn,if_pos hl]
theorem aH9 {most n k:Nat} {xs L M:List Y} {e e':Int} (h:e=0) (hN:NumR xs n k e') (he:e'=0) (hn:¬ most<n) (hl:¬ xs.length-k<n) (eL:L=(xs.drop k).take (k+n-k)) (eM:M=xs.drop (k+n)):gD most ⟨xs,e⟩=(L,⟨M,0⟩):=by
 unfold gD; rw [if_neg (by simp [h])]; simp only [hN.eq]; rw [if_neg (by simp [he]),if_neg hn,if_neg hl,eL,eM,Nat.add_sub_cancel_left]
theorem aH1 {xs:List Y} {e:Int} (h:¬ e=0):mC ⟨xs,e⟩=(0,⟨xs,e⟩):=by unfold mC; rw [if_pos h]
theorem aH3 {xs:List Y} {e:Int} (h:e=0) (hl:xs.length<1):mC ⟨xs,e⟩=(0,⟨xs,10⟩):=by unfold mC; rw [if_neg (by simp [h]),if_pos hl]
theorem aH2 {xs L:List Y} {e:Int} (h:e=0) (hl:¬ xs.length<1) (eL:L=xs.drop 1):mC ⟨xs,e⟩=(xs.getD 0 0,⟨L,0⟩):=by unfold mC; rw [if_neg (by simp [h]),if_neg hl,eL]
def rO (xs:List Y) (e:Int):Int:=if e=0∧0<xs.length then 12 else e
theorem aDd:∀ (i n:Nat),i<(bP n).length→(bP n).getD i 0=if i+1<(bP n).length then BitVec.ofNat 8 (n / 128^i%128+128) else BitVec.ofNat 8 (n / 128^i)
 | 0,n,h=>by
  by_cases hn:n<128
  ·rw [rV hn]; simp
  ·rw [tC hn]
   have:=aBj (n / 128)
   rw [if_pos (by simp only [List.length_cons]; omega)]
   simp
 | i+1,n,h=>by
  by_cases hn:n<128
  ·rw [rV hn] at h; simp at h
  ·rw [tC hn] at h ⊢
   simp only [List.length_cons,List.getD_cons_succ] at h ⊢
   rw [aDd i (n / 128) (by omega),Nat.div_div_eq_div_mul,Nat.pow_succ,Nat.mul_comm]
   by_cases hi:i+1<(bP (n / 128)).length
   ·rw [if_pos hi,if_pos (by omega)]
   ·rw [if_neg hi,if_neg (by omega)]
theorem aOE:∀ (n:Nat),n / 128^((bP n).length-1)<128:=by
 intro n
 induction n using Nat.strongRecOn with
 | ind n ih =>
  by_cases hn:n<128
  ·rw [rV hn]; simpa using hn
  ·have h1:=ih (n / 128) (by omega)
   have h2:=aBj (n / 128)
   rw [tC hn,List.length_cons]
   have e:(bP (n / 128)).length+1-1=((bP (n / 128)).length-1)+1:=by omega
   rw [e,Nat.pow_succ,Nat.mul_comm,←Nat.div_div_eq_div_mul]
   exact h1
theorem aJU {xs:List Y} {i:Nat} (h:i<xs.length):xs.take i++[xs.getD i 0]=xs.take (i+1):=by
 rw [List.take_succ_eq_append_getElem h]; simp [h]
theorem aOB {n i:Nat} {m:BitVec 64} {L:List Y} (e:L=(bP n).take i) (hm:m.toNat=n / 128^i) (h:i+1<(bP n).length):L++[(m%128#64).setWidth 8+128#8]=(bP n).take (i+1):=by
 rw [← aJU (by omega),e,aDd i n (by omega),if_pos h,←hm]
 congr 2
 apply BitVec.eq_of_toNat_eq
 have e1:(128#64).toNat=128:=rfl
 have e2:(128#8).toNat=128:=rfl
 rw [BitVec.toNat_add,BitVec.toNat_setWidth,BitVec.toNat_umod,e1,e2,BitVec.toNat_ofNat]
 omega
theorem aOC {n i:Nat} {m:BitVec 64} {L:List Y} (e:L=(bP n).take i) (hm:m.toNat=n / 128^i) (h:¬ i+1<(bP n).length) (h2:i<(bP n).length):L++[(m%128#64).setWidth 8]=(bP n).take (i+1):=by
 rw [← aJU (by omega),e,aDd i n (by omega),if_neg h,←hm]
 congr 2
 have hl:=aOE n
 rw [show (bP n).length-1=i by omega,←hm] at hl
 apply BitVec.eq_of_toNat_eq
 have e1:(128#64).toNat=128:=rfl
 rw [BitVec.toNat_setWidth,BitVec.toNat_umod,e1,BitVec.toNat_ofNat]
 omega
theorem aFt {n i:Nat} {m:BitVec 64} (hm:m.toNat=n / 128^i):(m / 128#64).toNat=n / 128^(i+1):=by
 rw [BitVec.toNat_udiv,hm,Nat.pow_succ,Nat.div_div_eq_div_mul]; rfl
theorem aFs (m:BitVec 64):(m / 128#64).toNat=m.toNat / 128:=by rw [BitVec.toNat_udiv]; rfl
theorem aM8 {k n:Nat} {m:BitVec 64} (e:k+(bP m.toNat).length=1+(bP n).length) (h:127<m.toNat):k+1+(bP (m / 128#64).toNat).length=1+(bP n).length:=by
 rw [tC (by omega),List.length_cons] at e
 rw [aFs]; omega
theorem aM7 {k n:Nat} {m:BitVec 64} (e:k+(bP m.toNat).length=1+(bP n).length) (h:m.toNat≤127):k=(bP n).length:=by
 rw [rV (by omega)] at e
 simp at e; omega
def Lead (B:List Y) (I k:Nat):Prop:=∀ j,j<k→128≤(B.getD (I+j) 0).toNat
def nL (B:List Y) (I:Nat):Nat→Nat
 | 0=>0
 | k+1=>nL B I k+((B.getD (I+k) 0).toNat-128)*128^k
section
variable {B:List Y} {I k:Nat}
theorem Lead.zero:Lead B I 0:=fun j hj=>by omega
theorem Lead.succ (h:Lead B I k) (hx:128≤(B.getD (I+k) 0).toNat):Lead B I (k+1):=fun j hj=>by
 by_cases e:j=k
 ·subst e; exact hx
 ·exact h j (by omega)
theorem zM (B:List Y) (I j:Nat):(B.drop I).getD j 0=B.getD (I+j) 0:=by simp [List.getD_eq_getElem?_getD,List.getElem?_drop]
theorem zU:∀ (k:Nat),Lead B I k→k≤9→I+k≤B.length→dR (B.drop I)=gA k (nL B I k) ((B.drop I).drop k)
 | 0,_,_,_=>rfl
 | k+1,h,h9,hl=>by
  rw [zU k (fun j hj=>h j (by omega)) (by omega) (by omega),sT (by simp only [List.length_drop]; omega),zM,gA,if_neg (by omega),if_neg (by have:=h k (by omega); omega)]
  rfl
theorem aPw (h:Lead B I k) (hk:k=10) (hl:I+k≤B.length):dR (B.drop I)=(0,0,11):=by
 subst hk
 rw [zU 9 (fun j hj=>h j (by omega)) (by omega) (by omega),sT (by simp only [List.length_drop]; omega),zM,gA,if_pos ⟨rfl,by have:=h 9 (by omega); omega⟩]
theorem aPz (h:Lead B I k) (hk:k≤9) (h1:I+k≤B.length) (hl:B.length≤I+k):dR (B.drop I)=(0,0,10):=by
 rw [zU k h hk h1,List.drop_of_length_le (by simp only [List.length_drop]; omega),gA]
theorem aPx (h:Lead B I k) (hk:k≤9) (h1:I+k<B.length) (hx:(B.getD (I+k) 0).toNat<128) (hb:k=9∧1<(B.getD (I+k) 0).toNat∨0<k∧(B.getD (I+k) 0).toNat=0):dR (B.drop I)=(0,0,11):=by
 rw [zU k h hk (by omega),sT (by simp only [List.length_drop]; omega),zM,gA]
 by_cases c:k=9∧1<(B.getD (I+k) 0).toNat
 ·rw [if_pos c]
 ·rw [if_neg c,if_pos hx,if_pos (by omega)]
theorem aPy (h:Lead B I k) (hk:k≤9) (h1:I+k<B.length) (hx:(B.getD (I+k) 0).toNat<128) (hb:¬ (k=9∧1<(B.getD (I+k) 0).toNat)) (hc:¬ (0<k∧(B.getD (I+k) 0).toNat=0)):dR (B.drop I)=(nL B I k+(B.getD (I+k) 0).toNat*128^k,k+1,0):=by
 rw [zU k h hk (by omega),sT (by simp only [List.length_drop]; omega),zM,gA,if_neg hb,if_pos hx,if_neg hc]
theorem aLj {i T:Nat} {w:BitVec 64} (e:w.toNat*128^(i+1)+nL B I (i+1)=T) (hT:T<18446744073709551616) (hx:128≤(B.getD (I+i) 0).toNat) :
  (w*128#64+((B.getD (I+i) 0)-128#8).setWidth 64).toNat*128^i+nL B I i=T:=by
 have hxl:=(B.getD (I+i) 0).isLt
 have hp:0<128^i:=Nat.pow_pos (by decide)
 rw [nL,Nat.pow_succ] at e
 have e1:((B.getD (I+i) 0-128#8).setWidth 64).toNat=(B.getD (I+i) 0).toNat-128:=by
  rw [BitVec.toNat_setWidth,BitVec.toNat_sub]
  have:(128#8).toNat=128:=rfl
  rw [this]; omega
 have e2:w.toNat*(128^i*128)=(w.toNat*128)*128^i:=by rw [Nat.mul_comm (128^i) 128,←Nat.mul_assoc]
 rw [e2] at e
 have e3:(w.toNat*128+((B.getD (I+i) 0).toNat-128))*128^i+nL B I i=T:=by rw [Nat.add_mul]; omega
 have hlt:w.toNat*128+((B.getD (I+i) 0).toNat-128)<18446744073709551616:=by
  have:(w.toNat*128+((B.getD (I+i) 0).toNat-128))*1≤(w.toNat*128+((B.getD (I+i) 0).toNat-128))*128^i:=Nat.mul_le_mul_left _ hp
  omega
 have e4:(w*128#64+((B.getD (I+i) 0)-128#8).setWidth 64).toNat=w.toNat*128+((B.getD (I+i) 0).toNat-128):=by
  rw [BitVec.toNat_add,e1,BitVec.toNat_mul]
  have:(128#64).toNat=128:=rfl
  rw [this]; omega
 rw [e4]; exact e3
theorem aLi {x:Y} (hx:x=B.getD (I+k) 0):(x.setWidth 64).toNat*128^k+nL B I k=nL B I k+(B.getD (I+k) 0).toNat*128^k:=by
 have h:=x.isLt
 rw [BitVec.toNat_setWidth,Nat.mod_eq_of_lt (by omega),hx]; omega
theorem aLh {T:Nat} {w:BitVec 64} (e:w.toNat*128^0+nL B I 0=T):w.toNat=T:=by rw [nL,Nat.pow_zero] at e; omega
end
theorem aD2 {B:List Y} {I:Nat} {e e':Int} (h:e=0) (hN:dR (B.drop I)=(0,0,e')):dD ⟨B.drop I,e⟩=(0,⟨B.drop I,e'⟩):=aDv h (.of hN) rfl
theorem aP6 {B:List Y} {I k n T:Nat} {e:Int} (h:e=0) (hN:dR (B.drop I)=(T,k+1,0)) (hn:n=T):dD ⟨B.drop I,e⟩=(n,⟨B.drop (I+k+1),0⟩):=by
 subst hn; refine aDv h (.of hN) ?_; rw [List.drop_drop]; rfl
theorem aBi {s:Rd'} {n:Nat} {L:List Y} {e':Int} (h:dD s=(n,⟨L,e'⟩)) (h0:s.bad=0):∃ k,NumR s.rest n k e'∧L=s.rest.drop k:=by
 unfold dD at h
 rw [if_neg (by simp [h0])] at h
 simp only [Prod.mk.injEq,Rd'.mk.injEq] at h
 exact ⟨(dR s.rest).2.1,.of (by rw [← h.1,←h.2.2]),h.2.1.symm⟩
theorem fM {s:Rd'} {n:Nat} {t:Rd'} (h:dD s=(n,t)):n<18446744073709551616:=by
 unfold dD at h
 split at h
 ·simp only [Prod.mk.injEq] at h; omega
 ·simp only [Prod.mk.injEq] at h
  have:=NumR.of (xs:=s.rest) (n:=(dR s.rest).1) (k:=(dR s.rest).2.1) (e:=(dR s.rest).2.2) rfl
  have:=this.lt
  omega
theorem aO7 {B:List Y} {I I' n most:Nat} {e e':Int} (h:e=0) (hN:dD ⟨B.drop I,e⟩=(n,⟨B.drop I',e'⟩)) (he:¬ e'=0):gD most ⟨B.drop I,e⟩=([],⟨B.drop I',e'⟩):=by
 obtain ⟨k,hk,hL⟩:=aBi hN h
 obtain ⟨_,rfl⟩:=aDe _ _ _ _ _ _ hk.eq he
 rw [hL,List.drop_zero]; exact aH7 h hk he
theorem aO8 {B:List Y} {I I' n most:Nat} {e e':Int} (h:e=0) (hN:dD ⟨B.drop I,e⟩=(n,⟨B.drop I',e'⟩)) (he:e'=0) (hn:most<n):gD most ⟨B.drop I,e⟩=([],⟨B.drop I,4⟩):=by
 obtain ⟨k,hk,hL⟩:=aBi hN h
 exact aH8 h hk he hn
theorem aHv {B:List Y} {I' k:Nat} {r:List Y} (hL:B.drop I'=r.drop k):B.length-I'=r.length-k:=by
 have:=congrArg List.length hL
 simpa only [List.length_drop] using this
theorem aPA {B:List Y} {I I' n most:Nat} {e e':Int} (h:e=0) (hN:dD ⟨B.drop I,e⟩=(n,⟨B.drop I',e'⟩)) (he:e'=0) (hI':I'≤B.length) (hn:¬ most<n) (hl:B.length-I'<n):gD most ⟨B.drop I,e⟩=([],⟨B.drop I,10⟩):=by
 obtain ⟨k,hk,hL⟩:=aBi hN h
 have:=aHv hL
 simp only at this
 exact aIA h hk he hn (by omega)
theorem aO9 {B L:List Y} {I I' n most:Nat} (hN:dD ⟨B.drop I,0⟩=(n,⟨B.drop I',0⟩)) (hI':I'≤B.length) (hn:¬ most<n) (hl:¬ B.length-I'<n) (eL:L=(B.drop I').take (I'+n-I')):gD most ⟨B.drop I,0⟩=(L,⟨B.drop (I'+n),0⟩):=by
 obtain ⟨k,hk,hL⟩:=aBi hN rfl
 have:=aHv hL
 simp only at this
 refine aH9 rfl hk rfl hn (by omega) ?_ ?_
 ·rw [eL,hL,Nat.add_sub_cancel_left,Nat.add_sub_cancel_left]
 rw [← List.drop_drop,hL,List.drop_drop]
section
variable {P:Program} {G:PM} {μ:aH}
theorem aCI {f:FuncId} {args:Array Value} {b:Nat} {o:Obj} {post:PM→aH→Value→Prop} (h:PM.le G (G.add b o)→Ct P f args (G.add b o) μ post):Ct P f args G (.blk b o :: μ) post:=by
 intro w hs
 have hk:keys (.blk b o :: μ)=b :: keys μ:=by simp [keys,Res.keys]
 have hnd:=hs.nodup
 rw [hk] at hnd
 have hbμ:=(List.nodup_cons.1 hnd).1
 have hbo:w.heap[b]? = some o:=hs.own _ (List.mem_cons_self ..)
 have hs2:Sat (G.add b o) μ w:=by
  refine ⟨fun c u hc=>?_,fun r hr=>hs.own r (List.mem_cons_of_mem _ hr),fun c hc=>?_,(List.nodup_cons.1 hnd).2⟩
  ·unfold PM.add at hc
   split at hc
   ·rename_i e; subst e; cases hc; exact hbo
   exact hs.sub c u hc
  unfold PM.add
  rw [if_neg (fun (e:c=b)=>hbμ (e▸hc))]
  exact hs.apart c (by rw [hk]; exact List.mem_cons_of_mem _ hc)
 refine (h (sK (hs.apart b (by simp [keys,Res.keys]))) w hs2).mono ?_
 rintro e w' ⟨v,G',μ',rfl,ht,hQ⟩
 refine ⟨v,G',μ',rfl,⟨ht.sat,ht.os,ht.tape,ht.output,ht.size,fun c hc hK=>?_,fun c hc=>?_,fun c u hK hc=>?_⟩,hQ⟩
 ·rw [hk] at hK
  have hne:c≠b:=fun e=>hK (by rw [e]; exact List.mem_cons_self ..)
  have h1:=ht.old c hc (fun hm=>hK (List.mem_cons_of_mem _ hm))
  refine ⟨h1.1,?_⟩
  rw [h1.2]
  unfold PM.add
  rw [if_neg hne]
 ·rw [hk]
  rcases ht.mine c hc with h1 | h1
  ·exact .inl (List.mem_cons_of_mem _ h1)
  exact .inr h1
 rw [hk] at hK
 have hne:c≠b:=fun e=>hK (by rw [e]; exact List.mem_cons_self ..)
 exact ht.le c u (fun hm=>hK (List.mem_cons_of_mem _ hm)) (by unfold PM.add; rw [if_neg hne]; exact hc)
end
def nN (x:Int):List Value:=[.int .u64 x]
theorem aF2:∀ ns:List Int,ns.flatMap nN=ns.map (Value.int .u64)
 | []=>rfl
 | x :: ns=>by rw [List.flatMap_cons,aF2 ns]; rfl
theorem SlR.u1 {G:PM} {s:Sh} {xs:List Int} (h:SlR G 1 nN s xs) {j:Int} (k:Nat) {x:Int} (hj:j.toNat=k) (hx:xs[k]? = some x):RdP G ⟨s.b,s.o+j.toNat*1,none⟩ (.int .u64 x):=by
 have:=(h.nth k hj hx) 0 _ rfl
 simpa using this
theorem SlR.part {G:PM} {b o cap:Nat} {ns:List Int} {cs:List Value} (hp:RdNP G b 0 cs) (hc:(cs.drop o).take ns.length=ns.flatMap nN) (h:ns.length≤cap):SlR G 1 nN ⟨some ⟨b,o,none⟩,cap⟩ ns:=by
 refine ⟨fun _=>rfl,h,fun i x hx j v hj=>?_⟩
 have h0:j=0∧v=.int .u64 x:=by
  cases j with
  | zero=>simp [nN] at hj; exact ⟨rfl,hj.symm⟩
  | succ j=>simp [nN] at hj
 obtain ⟨rfl,rfl⟩:=h0
 have hi:i<ns.length:=by
  rcases Nat.lt_or_ge i ns.length with h | h
  ·exact h
  rw [List.getElem?_eq_none h] at hx; cases hx
 have hg:cs[o+i]? = some (.int .u64 x):=by
  have:=congrArg (fun l=>l[i]?) hc
  simp only [aF2,List.getElem?_map,hx,List.getElem?_take,if_pos hi,List.getElem?_drop] at this
  exact this
 have:=hp (o+i) (.int .u64 x) hg
 simpa [Sh.b,Sh.o] using this
theorem aHa {ns:List Int} {k:Nat} {x:Int} (h:ns[k]? = some x):fL (ns.take (k+1))=fL (ns.take k)++bP x.toNat:=by
 rw [List.take_add_one,h]; simp [fL]
theorem iZ:∀ {ns:List Int},(∀ x∈ns,u64 x)→(fL ns).length≤10*ns.length
 | [],_=>by simp [fL]
 | x :: ns,h=>by
  have h1:=h x (List.mem_cons_self ..)
  unfold u64 at h1
  have h2:=gZ (n:=x.toNat) (by omega)
  have h3:=iZ (ns:=ns) (fun y hy=>h y (List.mem_cons_of_mem _ hy))
  have:fL (x :: ns)=bP x.toNat++fL ns:=by simp [fL]
  rw [this,List.length_append,List.length_cons]; omega
theorem aHb {ns:List Int} (h:∀ x∈ns,u64 x) (k:Nat):(fL (ns.take k)).length≤10*ns.length:=by
 have h1:=iZ (ns:=ns.take k) (fun x hx=>h x (List.mem_of_mem_take hx))
 rw [List.length_take] at h1; omega
theorem aRy {bad:Bool} {n most:Nat} {e:Int}:((bad||decide ((most:Int)<(n:Int))) || !decide (e=0))=(bad||(decide (most<n) || !decide (e=0))):=by
 rw [Bool.or_assoc,decide_eq_decide.2 (show ((most:Int)<(n:Int))↔most<n by omega)]
section
variable {α:Type} {O:Option α} {s t:Rd'} {bad:Bool}
theorem Tk.numE {k:Nat→List Y→Option α} {n:Nat} (h:Tk O s bad (fS k)) (hN:dD s=(n,t)):Tk O t bad (k n):=by
 have:=h.num; rw [hN] at this; exact this
theorem Tk.upE {most n:Nat} {k:Nat→List Y→Option α} {K:List Y→Option α} {L:List Y} {e':Int} {bad':Bool} (h:Tk O s bad (iL most k)) (hN:dD s=(n,⟨L,e'⟩)) (hb:bad'=(bad||(decide (most<n) || !decide (e'=0)))) (hK:n≤most→K=k n):Tk O ⟨L,e'⟩ bad' K:=by
 have h1:=aLL (c:=(decide (most<n) || !decide (e'=0))) h (by rw [hN])
 rw [hN,←hb] at h1
 by_cases hn:n≤most
 ·rw [hK hn]; exact h1
 ·have ht:bad'=true:=by rw [hb,decide_eq_true (show most<n by omega)]; simp
  exact h1.lost (.inl ht) (.inl ht)
theorem Tk.strE {most:Nat} {k:List Y→List Y→Option α} {M:List Y} (h:Tk O s bad (jY most k)) (hN:gD most s=(M,t)):Tk O t bad (k M):=by
 have:=h.str; rw [hN] at this; exact this
theorem Tk.byteE {k:Y→List Y→Option α} {y:Y} (h:Tk O s bad (lZ k)) (hN:mC s=(y,t)):Tk O t bad (k y):=by
 have:=h.byte; rw [hN] at this; exact this
end
theorem oP {s t:Rd'} {n:Nat} (h:dD s=(n,t)):t.rest.length≤s.rest.length:=by
 unfold dD at h
 split at h
 ·simp only [Prod.mk.injEq] at h; rw [← h.2]; exact Nat.le_refl _
 ·simp only [Prod.mk.injEq] at h; rw [← h.2]; simp
theorem aIH {s t:Rd'} {most:Nat} {M:List Y} (h:gD most s=(M,t)):t.rest.length≤s.rest.length:=by
 unfold gD at h
 repeat' split at h
 all_goals (simp only [Prod.mk.injEq] at h; rw [← h.2]; simp)
theorem aPg {s t:Rd'} {y:Y} (h:mC s=(y,t)):t.rest.length≤s.rest.length:=by
 unfold mC at h
 repeat' split at h
 all_goals (simp only [Prod.mk.injEq] at h; rw [← h.2]; simp)
structure ByR (s0 s:Rd') (bad:Bool) (rt:List Y):Prop where
 len:rt.length≤32
 tk:∀ (α:Type) (O:Option α) (K:List Y→List Y→Option α),Tk O s0 bad (eG lZ 32 K)→Tk O s bad (eG lZ (32-rt.length) fun r=>K (rt++r))
theorem ByR.zero {s0:Rd'} {bad:Bool}:ByR s0 s0 bad []:=⟨by simp,fun _ _ _ h=>h⟩
theorem ByR.step {s0 s t:Rd'} {bad:Bool} {rt:List Y} {y:Y} (h:ByR s0 s bad rt) (hl:rt.length<32) (hN:mC s=(y,t)):ByR s0 t bad (rt++[y]):=by
 refine ⟨by simp; omega,fun α O K hK=>?_⟩
 have h1:=h.tk α O K hK
 obtain ⟨m,hm⟩ : ∃ m,32-rt.length=m+1:=⟨31-rt.length,by omega⟩
 rw [hm,eG] at h1
 have h2:=h1.byteE hN
 have hm2:32-(rt++[y]).length=m:=by simp; omega
 rw [hm2]
 have e:(fun r=>K (rt++[y]++r))=fun xs=>K (rt++y :: xs):=by funext r; simp
 rw [e]; exact h2
theorem ByR.all {s0 s:Rd'} {bad:Bool} {rt:List Y} (h:ByR s0 s bad rt) (hl:rt.length=32) {α:Type} {O:Option α} {K:List Y→List Y→Option α} (hK:Tk O s0 bad (eG lZ 32 K)):Tk O s bad (K rt):=by
 have h1:=h.tk α O K hK
 rw [hl,Nat.sub_self,eG,List.append_nil] at h1
 exact h1
def aA1 (s t:Rd') (bad bad':Bool) (m:Meta):Prop:=∀ (α:Type) (O:Option α) (k:Meta→List Y→Option α),Tk O s bad (oO k)→Tk O t bad' (k m)
theorem aNx {s t9:Rd'} {b0 b1 b2 b3:Bool} {n1 n2 n3 n4 n5 n6:Nat} {L1 L5 L6 M7 M8 rt:List Y} {e1 e5 e6:Int} {t2 t3 t4 t7 t8:Rd'} {lv sz ct:Int} {root:Nat→Int}
  (h1:dD s=(n1,⟨L1,e1⟩)) (q1:b1=(b0||(decide (255<n1) || !decide (e1=0)))) (w1:n1≤255→lv=n1)
  (h2:dD ⟨L1,e1⟩=(n2,t2)) (h3:dD t2=(n3,t3)) (h4:dD t3=(n4,t4))
  (h5:dD t4=(n5,⟨L5,e5⟩)) (q5:b2=(b1||(decide (9223372036854775807<n5) || !decide (e5=0)))) (w5:n5≤9223372036854775807→sz=n5)
  (h6:dD ⟨L5,e5⟩=(n6,⟨L6,e6⟩)) (q6:b3=(b2||(decide (9223372036854775807<n6) || !decide (e6=0)))) (w6:n6≤9223372036854775807→ct=n6)
  (h7:gD 1024 ⟨L6,e6⟩=(M7,t7)) (h8:gD 1024 t7=(M8,t8)) (h9:ByR t8 t9 b3 rt) (hl:rt.length=32) (hr:root=fun i=>((rt.getD i 0).toNat:Int)) :
  aA1 s t9 b0 b3 ⟨lv,n2,n3,n4,sz,ct,cZ M7,cZ M8,root⟩:=by
 intro α O k h
 subst hr
 unfold oO at h
 have a1:=h.upE (K:=fS fun g=>fS fun ep=>fS fun nu=>iL 9223372036854775807 fun sz=>iL 9223372036854775807 fun ct=>jY 1024 fun mn=>jY 1024 fun mx=>eG lZ 32 fun rt =>
  k ⟨lv,g,ep,nu,sz,ct,cZ mn,cZ mx,fun i=>((rt.getD i 0).toNat:Int)⟩) h1 q1 (fun hn=>by rw [w1 hn])
 have a2:=a1.numE h2
 have a3:=a2.numE h3
 have a4:=a3.numE h4
 have a5:=a4.upE (K:=iL 9223372036854775807 fun ct=>jY 1024 fun mn=>jY 1024 fun mx=>eG lZ 32 fun rt =>
  k ⟨lv,n2,n3,n4,sz,ct,cZ mn,cZ mx,fun i=>((rt.getD i 0).toNat:Int)⟩) h5 q5 (fun hn=>by rw [w5 hn])
 have a6:=a5.upE (K:=jY 1024 fun mn=>jY 1024 fun mx=>eG lZ 32 fun rt =>
  k ⟨lv,n2,n3,n4,sz,ct,cZ mn,cZ mx,fun i=>((rt.getD i 0).toNat:Int)⟩) h6 q6 (fun hn=>by rw [w6 hn])
 have a7:=a6.strE h7
 have a8:=a7.strE h8
 exact h9.all hl a8
theorem yB {n:Nat} (h:n≤255):IntKind.u8.wrap (n:Int)=n:=aSH (by omega) (by omega)
theorem yA {n:Nat} (h:n≤9223372036854775807):IntKind.i64.wrap (n:Int)=n:=bO (by omega) (by omega)
theorem aIb {rt:List Y} {k:Nat} {f:Nat→Y} {y:Y} (hr:rt.length=k) (ef:∀ i,f i=rt.getD i 0):∀ i,upd f k ((y.setWidth 64).setWidth 8) i=(rt++[y]).getD i 0:=by
 intro i
 have hy:(y.setWidth 64).setWidth 8=y:=by
  apply BitVec.eq_of_toNat_eq
  have:=y.isLt
  simp only [BitVec.toNat_setWidth]; omega
 unfold upd
 by_cases h:i=k
 ·rw [if_pos h,hy,h,←hr]; simp
 ·rw [if_neg h,ef i]
  simp only [List.getD_eq_getElem?_getD]
  rcases Nat.lt_or_ge i rt.length with h1 | h1
  ·rw [List.getElem?_append_left h1]
  ·rw [List.getElem?_eq_none h1,List.getElem?_eq_none (by simp; omega)]
theorem aHL {a b c d e g h i:Value} {f:Nat→Y} {k m:Nat} {y:Y} (hm:m=8+k):([a,b,c,d,e,g,h,i]++ba 32 f).set m (V y)=[a,b,c,d,e,g,h,i]++ba 32 (upd f k y):=by
 subst hm
 rw [List.set_append_right _ _ (by simp)]
 congr 1
 simp only [List.length_cons,List.length_nil]
 rw [show 8+k-(0+1+1+1+1+1+1+1+1)=k by omega]
 exact aBB
theorem aBg {a b c d e g h i:Value} {f:Nat→Y} (h1:a.oneCell'=true) (h2:b.oneCell'=true) (h3:c.oneCell'=true) (h4:d.oneCell'=true) (h5:e.oneCell'=true) (h6:g.oneCell'=true) (h7:h.oneCell'=true) (h8:i.oneCell'=true):∀ u∈[a,b,c,d,e,g,h,i]++ba 32 f,u.oneCell'=true:=by
 intro u hu
 rcases List.mem_append.1 hu with hu | hu
 ·simp only [List.mem_cons,List.not_mem_nil,or_false] at hu
  rcases hu with rfl|rfl|rfl|rfl|rfl|rfl|rfl|rfl<;>assumption
 ·unfold ba at hu
  obtain ⟨j,_,rfl⟩:=List.mem_map.1 hu
  rfl
theorem aCH {k:CK} {f:Nat→Value}:∀ (l:List Nat),(∀ i∈l,CkOk k (f i))→Conf (List.replicate l.length k) (l.map f)
 | [],_=>.nil
 | i :: l,h=>.cons (h i (List.mem_cons_self ..)) (aCH l fun j hj=>h j (List.mem_cons_of_mem _ hj))
def aHF:List CK:=[.int .u8,.int .u64,.int .u64,.int .u64,.int .i64,.int .i64,.str,.str]++List.replicate 32 (.int .u8)
theorem aHH {m:Meta} (h:m.wf):Conf aHF m.cells:=by
 have l1:=h.level; have l2:=h.gen; have l3:=h.epoch; have l4:=h.number; have l5:=h.size; have l6:=h.count; have l7:=h.minL; have l8:=h.maxL
 refine aJz ?_ ?_
 ·refine .cons (.int ?_ ?_) (.cons (.int ?_ ?_) (.cons (.int ?_ ?_) (.cons (.int ?_ ?_) (.cons (.int ?_ ?_) (.cons (.int ?_ ?_) (.cons (.str ?_) (.cons (.str ?_) .nil)))))))
  all_goals first
   | (simp only [IntKind.min,IntKind.max,IntKind.bits,IntKind.signed]; simp; omega)
   | (simp only [maxLen]; omega)
 have:=aCH (k:=.int .u8) (f:=fun i=>.int .u8 (m.root i)) (List.range 32) (fun i hi=>by
  have hr:=h.root i (List.mem_range.1 hi)
  refine .int ?_ ?_
  all_goals (simp only [IntKind.min,IntKind.max,IntKind.bits,IntKind.signed]; simp; omega))
 rw [List.length_range] at this
 exact this
open Classical in
noncomputable def uJ (a b:Meta):Bool:=decide (a.cells=b.cells)
theorem aC4 {a b:Meta}:uJ a b=true↔a.cells=b.cells:=by unfold uJ; simp
open Classical in
noncomputable def nB (a b:List Meta):Bool:=decide (a.map Meta.cells=b.map Meta.cells)
theorem aD6 {a b:List Meta}:nB a b=true↔a.map Meta.cells=b.map Meta.cells:=by unfold nB; simp
theorem aQd (a:List Meta):nB a a=true:=by unfold nB; simp
theorem aQb {a b:List Meta} (h:a.length≠b.length):nB a b=false:=by
 refine Bool.eq_false_iff.2 fun e0=>?_
 have e:=aD6.1 e0
 exact h (by have:=congrArg List.length e; simpa using this)
theorem aQc {a b:List Meta} {k:Nat} (hk:k<a.length) (hl:a.length=b.length) (h:uJ (a.getD k Meta.zero) (b.getD k Meta.zero)=false):nB a b=false:=by
 refine Bool.eq_false_iff.2 fun e0=>?_
 have e:=aD6.1 e0
 have h1:=congrArg (fun l=>l[k]?) e
 have hb:k<b.length:=by omega
 simp only [List.getElem?_map,List.getElem?_eq_getElem hk,List.getElem?_eq_getElem hb,Option.map_some,Option.some.injEq] at h1
 have:uJ (a.getD k Meta.zero) (b.getD k Meta.zero)=true:=aC4.2 (by simpa [hk,hb] using h1)
 rw [h] at this; cases this
theorem aQe {a b:List Meta} (hl:a.length=b.length) (h:∀ j,j<a.length→uJ (a.getD j Meta.zero) (b.getD j Meta.zero)=true):nB a b=true:=by
 refine aD6.2 (List.ext_getElem (by simpa using hl) fun i h1 h2=>?_)
 simp only [List.length_map] at h1 h2
 have:=aC4.1 (h i h1)
 simpa [h1,h2] using this
structure RpR {β:Type} (f:∀ α:Type,(β→List Y→Option α)→List Y→Option α) (N:Nat) (s0 s:Rd') (bad0 bad:Bool) (rt:List β):Prop where
 len:rt.length≤N
 tk:∀ (α:Type) (O:Option α) (K:List β→List Y→Option α),Tk O s0 bad0 (eG (f α) N K)→Tk O s bad (eG (f α) (N-rt.length) fun r=>K (rt++r))
section
variable {β:Type} {f:∀ α:Type,(β→List Y→Option α)→List Y→Option α} {N:Nat} {s0 s t:Rd'} {bad0 bad bad':Bool} {rt:List β} {x:β}
theorem RpR.zero:RpR f N s0 s0 bad0 bad0 []:=⟨by simp,fun _ _ _ h=>h⟩
theorem RpR.step (h:RpR f N s0 s bad0 bad rt) (hl:rt.length<N) (hx:∀ (α:Type) (O:Option α) (k:β→List Y→Option α),Tk O s bad (f α k)→Tk O t bad' (k x)):RpR f N s0 t bad0 bad' (rt++[x]):=by
 refine ⟨by simp; omega,fun α O K hK=>?_⟩
 have h1:=h.tk α O K hK
 obtain ⟨m,hm⟩ : ∃ m,N-rt.length=m+1:=⟨N-1-rt.length,by omega⟩
 rw [hm,eG] at h1
 have h2:=hx α O _ h1
 have hm2:N-(rt++[x]).length=m:=by simp; omega
 rw [hm2]
 have e:(fun r=>K (rt++[x]++r))=fun xs=>K (rt++x :: xs):=by funext r; simp
 rw [e]; exact h2
theorem RpR.all (h:RpR f N s0 s bad0 bad rt) (hl:rt.length=N) {α:Type} {O:Option α} {K:List β→List Y→Option α} (hK:Tk O s0 bad0 (eG (f α) N K)):Tk O s bad (K rt):=by
 have h1:=h.tk α O K hK
 rw [hl,Nat.sub_self,eG,List.append_nil] at h1
 exact h1
theorem RpR.stop (h:RpR f N s0 s bad0 bad rt) (hb:bad=true) {α:Type} {O:Option α} {K:List β→List Y→Option α} {k':List Y→Option α} (hK:Tk O s0 bad0 (eG (f α) N K)):Tk O s bad k' :=
 (h.tk α O K hK).lost (.inl hb) (.inl hb)
end
def fE (g:Nat→Int):List Value:=(List.range 9).map fun i=>.int .u64 (g i)
theorem gJ (g:Nat→Int):(fE g).length=9:=by simp [fE]
theorem aN5 {g:Nat→Int} {k:Nat} {x:Int} {v w:Value} (hk:k<9):(fE g++[v,w]).set k (.int .u64 x)=fE (upd g k x)++[v,w]:=by
 rw [List.set_append_left _ _ (by rw [gJ]; exact hk)]
 congr 1
 refine List.ext_getElem? fun i=>?_
 rw [List.getElem?_set,gJ]
 unfold fE upd
 by_cases h:k=i
 ·subst h; simp [hk]
 rw [if_neg h,List.getElem?_map,List.getElem?_map]
 by_cases hi:i<9
 ·rw [List.getElem?_range hi]; simp [Ne.symm h]
 rw [List.getElem?_eq_none (by simp; omega)]; rfl
def aCx (gs:List Nat):List Y→Option Edit :=
 iL 1024 fun na=>eG oO na fun add=>iL 1024 fun nd=>eG mZ nd fun drop =>
  mY ⟨(gs.getD 0 0:Nat),(gs.getD 1 0:Nat),(gs.getD 2 0:Nat),(gs.getD 3 0:Nat),fun i=>((gs.getD (i+4) 0:Nat):Int),add,drop⟩
theorem aMQ:iU=eG fS 9 aCx:=rfl
instance {g:Nat→Int}:QLen (fE g) 9:=⟨gJ g⟩
theorem pO {g:Nat→Int} {a b:Value}:(fE g++[a,b])[9]? = some a:=rfl
theorem aDZ {g:Nat→Int} {a b:Value}:(fE g++[a,b])[10]? = some b:=rfl
theorem pP {g:Nat→Int} {a b v:Value}:(fE g++[a,b]).set 9 v=fE g++[v,b]:=rfl
theorem aDa {g:Nat→Int} {a b v:Value}:(fE g++[a,b]).set 10 v=fE g++[a,v]:=rfl
theorem dQ {g:Nat→Int} {a b:Value}:(fE g++[a,b]).length=11:=by rw [List.length_append,gJ]; rfl
theorem zZ {g:Nat→Int} {a b:Value} (ha:a.oneCell'=true) (hb:b.oneCell'=true):∀ u∈fE g++[a,b],u.oneCell'=true:=by
 intro u hu
 rcases List.mem_append.1 hu with hu | hu
 ·unfold fE at hu
  obtain ⟨j,_,rfl⟩:=List.mem_map.1 hu
  rfl
 ·simp only [List.mem_cons,List.not_mem_nil,or_false] at hu
  rcases hu with rfl|rfl<;>assumption
theorem wX {g:Nat→Int} {k m:Nat} {x:Int} {v w:Value} (hm:m=k) (hk:k<9):(fE g++[v,w]).set m (.int .u64 x)=fE (upd g k x)++[v,w]:=by subst hm; exact aN5 hk
theorem aMt {b k:Nat} {j:Int} (hj:j=k) (hk:k<4):([.pointer (some ⟨b,0,none⟩),.pointer (some ⟨b,1,none⟩),.pointer (some ⟨b,2,none⟩),.pointer (some ⟨b,3,none⟩)]:List Value)[0+j.toNat*1]? = some (.pointer (some ⟨b,k,none⟩)):=by
 subst hj
 rcases (show k=0∨k=1∨k=2∨k=3 by omega) with rfl|rfl|rfl|rfl<;>rfl
theorem uS {rt:List Nat} {k:Nat} {g:Nat→Int} {y:Nat} (hr:rt.length=k) (ef:∀ i,g i=((rt.getD i 0:Nat):Int)):∀ i,upd g k (y:Int) i=(((rt++[y]).getD i 0:Nat):Int):=by
 intro i
 unfold upd
 by_cases h:i=k
 ·rw [if_pos h,h,←hr]; simp
 ·rw [if_neg h,ef i]
  simp only [List.getD_eq_getElem?_getD]
  rcases Nat.lt_or_ge i rt.length with h1 | h1
  ·rw [List.getElem?_append_left h1]
  ·rw [List.getElem?_eq_none h1,List.getElem?_eq_none (by simp; omega)]
def pH (gs:List Nat) (add:List Meta) (drop:List Gone):Edit:=⟨(gs.getD 0 0:Nat),(gs.getD 1 0:Nat),(gs.getD 2 0:Nat),(gs.getD 3 0:Nat),fun i=>((gs.getD (i+4) 0:Nat):Int),add,drop⟩
def wJ (gs:List Nat) (add:List Meta):List Y→Option Edit:=iL 1024 fun nd=>eG mZ nd fun drop=>mY (pH gs add drop)
theorem aFz {gs:List Nat} {add:List Meta} {drop:List Gone} {g:Nat→Int} {ha hd:Sh} (hg:∀ i,g i=((gs.getD i 0:Nat):Int)):fE g++[ha.val add.length,hd.val drop.length]=(pH gs add drop).cells ha hd:=by
 obtain rfl:g=fun i=>((gs.getD i 0:Nat):Int):=funext hg
 rfl
section
variable {O:Option Edit} {xs L:List Y} {gs:List Nat} {add:List Meta} {drop:List Gone} {e:Int} {s t:Rd'} {bad bad':Bool} {n N:Nat}
theorem aFl (h:RpR (fun α=>@fS α) 9 ⟨xs,0⟩ t false false gs) (hl:gs.length=9):Tk (iU xs) t false (aCx gs):=by
 refine h.all hl ?_
 rw [aMQ]; exact aLK
theorem aFm (h:Tk O s bad (aCx gs)) (hN:dD s=(n,⟨L,e⟩)) (hb:bad'=(bad||(decide (1024<n) || !decide (e=0)))):Tk O ⟨L,e⟩ bad' (eG oO n (wJ gs)) :=
 Tk.upE (k:=fun n=>eG oO n (wJ gs)) h hN hb (fun _=>rfl)
theorem aFn (h:Tk O s bad (eG oO N (wJ gs))) (hR:RpR (fun α=>@oO α) N s t bad bad' add) (hn:n+add.length=N) (he:n=0∨bad'=true):Tk O t bad' (wJ gs add):=by
 rcases he with he | he
 ·exact hR.all (by omega) h
 ·exact hR.stop he h
theorem aMR (h:Tk O s bad (wJ gs add)) (hN:dD s=(n,⟨L,e⟩)) (hb:bad'=(bad||(decide (1024<n) || !decide (e=0)))):Tk O ⟨L,e⟩ bad' (eG mZ n fun drop=>mY (pH gs add drop)) :=
 Tk.upE (k:=fun n=>eG mZ n fun drop=>mY (pH gs add drop)) h hN hb (fun _=>rfl)
theorem aFo (h:Tk O s bad (eG mZ N fun drop=>mY (pH gs add drop))) (hR:RpR (fun α=>@mZ α) N s t bad bad' drop) (hn:n+drop.length=N) (he:n=0∨bad'=true):Tk O t bad' (mY (pH gs add drop)):=by
 rcases he with he | he
 ·exact hR.all (by omega) h
 ·exact hR.stop he h
theorem aFp (h:Tk O ⟨L,e⟩ bad (mY (pH gs add drop))) (hc:bad=true∨rO L e≠0):O=none:=by
 rw [h.fin,if_neg]
 rintro ⟨h1,h2,h3⟩
 rcases hc with hc | hc
 ·rw [h1] at hc; cases hc
 refine hc ?_
 simp only at h2 h3
 subst h2; subst h3; rfl
theorem aFq (h:Tk O ⟨L,e⟩ bad (mY (pH gs add drop))) (hb:bad=false) (hc:rO L e=0):O=some (pH gs add drop):=by
 rw [h.fin,if_pos]
 unfold rO at hc
 split at hc
 ·cases hc
 rename_i hn
 refine ⟨hb,hc,?_⟩
 cases L with
 | nil=>rfl
 | cons y L=>exact absurd ⟨hc,by simp⟩ hn
end
theorem aEN {bad bad':Bool} {n most:Nat} {e:Int} (hb:bad'=(bad||(decide (most<n) || !decide (e=0)))) (h:bad'=false):n≤most:=by
 rw [h] at hb
 simp at hb
 omega
theorem aDF {s t:Rd'} {L:List Y} {e:Int} {b0 b1:Bool} {n1 n2:Nat} {lv:Int} (h1:dD s=(n1,⟨L,e⟩)) (q1:b1=(b0||(decide (255<n1) || !decide (e=0)))) (w1:n1≤255→lv=n1) (h2:dD ⟨L,e⟩=(n2,t)) :
  ∀ (α:Type) (O:Option α) (k:Gone→List Y→Option α),Tk O s b0 (mZ k)→Tk O t b1 (k ⟨lv,n2⟩):=by
 intro α O k h
 unfold mZ at h
 have a1:=h.upE (K:=fS fun n=>k ⟨lv,n⟩) h1 q1 (fun hn=>by rw [w1 hn])
 exact a1.numE h2
theorem uR {g:Gone}:∀ u∈g.cells,u.oneCell'=true:=by
 intro u hu
 simp only [Gone.cells,List.mem_cons,List.not_mem_nil,or_false] at hu
 rcases hu with rfl|rfl<;>rfl
def DecR (xs:List Y) (e:Edit) (err:Int):Prop:=(iU xs=some e∧err=0)∨(iU xs=none∧e=Edit.zero∧err=180)
theorem aJ3:Edit.zero.wf:=⟨⟨by decide,by decide⟩,⟨by decide,by decide⟩,⟨by decide,by decide⟩,⟨by decide,by decide⟩,(fun _ _=>⟨show (0:Int)≤0 by decide,show (0:Int)<18446744073709551616 by decide⟩),(fun _ h=>by cases h),(fun _ h=>by cases h)⟩
theorem EdR.zero {G:PM}:EdR G Edit.zero ⟨none,0⟩ ⟨none,0⟩:=⟨SlR.nul,SlR.nul,aJ3⟩
section
variable {dr:Bool} {mc:Md} {P:Program} {n:Nat} {l:List Oper} {K:aO→PM→aH→Prop} {i:Nat} {σ:List Nat} {ρ:aO} {G:PM} {μ:aH}
variable {d t:Nat} {p:String} {af:Array Edge} {g:Option (Nat×Bool)} {c:Bool}
theorem bSf {T E sz by' len:Nat} {ps:List (Nat×Operand)} {vs:List (Nat×Value)} {cs:List Value} (ho:nth l i=some ⟨some d,.buildSlice T len ps.toArray,t,p,af,none⟩) (hT:cL P T=some (E,sz,by')) (hv:∀ a,Ag n ρ a→true=true→ps.map (fun q=>(q.1,a.eval q.2))=vs) (hb:uH P T len vs=some cs)
  (h:∀ b G',PM.le G G'→PB G' b (cl cs E)→Wo dr mc P n l K σ ((d,true,.slice (some ⟨b,0,none⟩) len len) :: ρ) G' μ):Wo dr mc P n l K (i :: σ) ρ G μ:=by
 refine .fresh (μ₁:=[]) (μ₂:=μ) (post:=fun G' μa μb v=>μa=[]∧μb=[]∧∃ b,v=.slice (some ⟨b,0,none⟩) len len∧PB G' b (cl cs E)) ho (.inl rfl) rfl (List.Perm.refl _) (fun a w ha hs=>?_) ?_ ?_
 ·have hrun:(execOp a.eval ⟨some d,.buildSlice T len ps.toArray,t,p,af,none⟩).run P w=.ok (.value (.slice (some ⟨w.heap.size,0,none⟩) len len)) (w.alloc (cl cs E)):=by
   obtain ⟨hu,inf,hi,hs1,_⟩:=gE hT
   have h1:=hv a ha rfl
   simp only [uH,hu,hi] at hb
   cases hz:inf.zero with
   | none=>rw [hz] at hb; cases hb
   | some z =>
    rw [hz] at hb
    simp only at hb
    split at hb
    ·cases hb
    rename_i hle
    simp only [not_or] at hle
    obtain ⟨hle,h0⟩:=hle
    cases hf:Instr.fill (fun j=>some (j*inf.size,inf.size)) ((Array.range (len*inf.size)).map (z.cells[·%z.cells.size]!)) vs with
    | none=>rw [hf] at hb; cases hb
    | some r =>
     rw [hf] at hb
     simp only [Option.map_some,Option.some.injEq] at hb
     subst hb
     simp [execOp,Instr.buildSlice,run_underlying hu,sizeOf,typeInfo,hi,h0,hle,zeroValue,hz,hf,h1,newRow,cl]
  have hs0:Sat G [] w:=⟨hs.sub,by simp,by simp [keys],by simp [keys]⟩
  have ht:=((oC hs0).alloc (cl cs E)).freeze (by simp [keys])
  exact ⟨_,_,_,[],[],hrun,ht,rfl,rfl,_,rfl,⟨gI _ _ _⟩⟩
 ·rintro v G' μa μb ⟨rfl,rfl,_⟩
  exact ⟨(fun w _ r hr=>by cases hr),(fun b hb=>by cases hb),by simp [keys]⟩
 rintro v G' μa μb hle ⟨rfl,rfl,b,rfl,hb⟩
 have:=h b G' hle hb
 simp only [List.nil_append,List.append_nil]
 exact this
theorem PB.slq {b cap:Nat} {ns:List Int} {T:TypeId} (h:PB G b (cl (ns.map (Value.int .u64)) T)) (hc:ns.length≤cap):SlR G 1 nN ⟨some ⟨b,0,none⟩,cap⟩ ns:=by
 refine ⟨fun _=>rfl,hc,fun i x hx j v hj=>?_⟩
 have h0:j=0∧v=.int .u64 x:=by
  cases j with
  | zero=>simp [nN] at hj; exact ⟨rfl,hj.symm⟩
  | succ j=>simp [nN] at hj
 obtain ⟨rfl,rfl⟩:=h0
 have:=h.rd (o:=i) (v:=.int .u64 x) (by rw [List.getElem?_map,hx]; rfl)
 simpa [Sh.b,Sh.o] using this
theorem bQ {T E by' len:Nat} {ps:List (Nat×Operand)} {us:List Value} {z:Value} (ns:List Int) (ho:nth l i=some ⟨some d,.buildSlice T len ps.toArray,t,p,af,none⟩) (hT:cL P T=some (E,1,by')) (hz:(P.info? E).bind (·.zero)=some z) (hv:∀ a,Ag n ρ a→true=true→ps.map (fun q=>(q.1,a.eval q.2))=parts 0 us) (hus:us=ns.map (Value.int .u64)) (hl:ns.length=len) (h0:0<len∧len≤16777216)
  (h:∀ G' s,PM.le G G'→SlR G' 1 nN s ns→Wo dr mc P n l K σ ((d,true,s.val ns.length) :: ρ) G' μ):Wo dr mc P n l K (i :: σ) ρ G μ:=by
 subst hus
 refine bSf (vs:=parts 0 (ns.map (Value.int .u64))) (cs:=ns.map (Value.int .u64)) ho hT hv ?_ (fun b G' hle hb=>?_)
 ·obtain ⟨hu,inf,hi,hs1,_⟩:=gE hT
  rw [hi] at hz
  simp only [Option.bind_some] at hz
  simp only [uH,hu,hi,hz,hs1]
  rw [if_neg (by omega)]
  generalize ha:(Array.range (len*1)).map (z.cells[·%z.cells.size]!)=arr
  have hs:arr.toList.length=len:=by rw [← ha]; simp
  have h2:=aC5 (ns.map (Value.int .u64)) 0 arr.toList (fun u hu=>by obtain ⟨x,_,rfl⟩:=List.mem_map.1 hu; rfl) (by rw [List.length_map]; omega)
  simp only [Array.toArray_toList] at h2
  rw [h2]
  have h3:arr.toList.drop (0+(ns.map (Value.int .u64)).length)=[]:=List.drop_of_length_le (by rw [List.length_map]; omega)
  rw [h3]
  simp
 have:=h G' ⟨some ⟨b,0,none⟩,len⟩ hle (hb.slq (by omega))
 rw [Sh.val,hl] at this
 exact this
end
theorem q1 {a:Int} (h:u64 a):∀ x∈[a],u64 x:=by intro x hx; rw [List.mem_singleton.1 hx]; exact h
theorem q2 {a b:Int} (h:u64 a) (h2:u64 b):∀ x∈[a,b],u64 x:=by
 intro x hx; simp only [List.mem_cons,List.not_mem_nil,or_false] at hx; rcases hx with rfl|rfl<;>assumption
theorem q4 {a b c d:Int} (h:u64 a) (h2:u64 b) (h3:u64 c) (h4:u64 d):∀ x∈[a,b,c,d],u64 x:=by
 intro x hx; simp only [List.mem_cons,List.not_mem_nil,or_false] at hx; rcases hx with rfl|rfl|rfl|rfl<;>assumption
theorem q6 {a b c d e f:Int} (h:u64 a) (h2:u64 b) (h3:u64 c) (h4:u64 d) (h5:u64 e) (h6:u64 f):∀ x∈[a,b,c,d,e,f],u64 x:=by
 intro x hx; simp only [List.mem_cons,List.not_mem_nil,or_false] at hx; rcases hx with rfl|rfl|rfl|rfl|rfl|rfl<;>assumption
theorem oS {n:Nat} (h:n<18446744073709551616):u64 (n:Int):=⟨by omega,by omega⟩
theorem aSG (x:Int):(IntKind.u64.wrap x).toNat=qU x:=by
 unfold qU IntKind.wrap
 simp [IntKind.signed,IntKind.bits]
theorem aJc (x:Int):u64 (IntKind.u64.wrap x):=by
 unfold u64 IntKind.wrap
 simp [IntKind.signed,IntKind.bits]; omega
theorem aEI {m:Meta} (h:m.wf):∀ x∈[m.level,m.gen,m.epoch,m.number,IntKind.u64.wrap m.size,IntKind.u64.wrap m.count],u64 x:=by
 have l1:=h.level; have l2:=h.gen; have l3:=h.epoch; have l4:=h.number
 exact q6 ⟨by omega,by omega⟩ ⟨by omega,by omega⟩ ⟨by omega,by omega⟩ ⟨by omega,by omega⟩ (aJc _) (aJc _)
def jT (e:Edit):List Int:=(List.range 5).map e.gens
theorem uQ {e:Edit} (h:e.wf):∀ x∈jT e,u64 x:=by
 intro x hx
 obtain ⟨i,hi,rfl⟩:=List.mem_map.1 hx
 exact h.gens i (List.mem_range.1 hi)
theorem aGS {G:PM} {e:Edit} {ha hd:Sh} {b:Nat} {T:TypeId} (h:PB G b (cl (e.cells ha hd) T)):SlR G 1 nN ⟨some ⟨b,4,none⟩,5⟩ (jT e):=by
 refine SlR.part (cs:=e.cells ha hd) (fun j v hj=>?_) rfl (Nat.le_refl 5)
 have:=h.rd hj
 simpa using this
theorem aDW {m:Meta} (h:m.wf):(m.cells.drop 8).take 32=ba 32 (fun i=>BitVec.ofInt 8 (m.root i)):=by
 have e:m.cells.drop 8=(List.range 32).map fun i=>.int .u8 (m.root i):=rfl
 rw [e,List.take_of_length_le (by simp)]
 unfold ba
 refine List.map_congr_left fun i hi=>?_
 have hr:=h.root i (List.mem_range.1 hi)
 show Value.int .u8 (m.root i)=V (BitVec.ofInt 8 (m.root i))
 have e2:(((BitVec.ofInt 8 (m.root i)).toNat:Nat):Int)=m.root i:=by rw [BitVec.toNat_ofInt]; omega
 show Value.int .u8 (m.root i)=Value.int .u8 (((BitVec.ofInt 8 (m.root i)).toNat:Nat):Int)
 rw [e2]
theorem aDg:fL []=[]:=rfl
theorem aDf (x:Int) (ns:List Int):fL (x :: ns)=bP x.toNat++fL ns:=by simp [fL]
theorem aC0 (m:Meta) (A:List Y):A++fL [m.level,m.gen,m.epoch,m.number,IntKind.u64.wrap m.size,IntKind.u64.wrap m.count]++nD (yb m.min)++nD (yb m.max)++yl 32 (fun i=>BitVec.ofInt 8 (m.root i))=A++eF m:=by
 unfold eF
 simp only [aDf,aDg,aSG,List.append_assoc,List.append_nil]
 rfl
theorem aCz (g:Gone) (A:List Y):A++fL [g.level,g.number]=A++gV g:=by
 unfold gV
 simp only [aDf,aDg,List.append_nil]
theorem aCy (e:Edit):fL [e.log,e.next,e.seq,e.least]++fL (jT e)++fL [(e.add.length:Int)]++e.add.flatMap eF++fL [(e.drop.length:Int)]++e.drop.flatMap gV=kU e:=by
 have h:fL (jT e)=(List.range 5).flatMap fun i=>bP (e.gens i).toNat:=by unfold fL jT; rw [List.flatMap_map]
 unfold kU
 rw [h]
 simp only [aDf,aDg,List.append_assoc,List.append_nil,Int.toNat_natCast]
theorem uP {α β:Type} {f:α→List β} {xs:List α} {k:Nat} {x:α} (h:xs[k]? = some x):(xs.take (k+1)).flatMap f=(xs.take k).flatMap f++f x:=by
 rw [List.take_add_one,h]; simp
theorem wN {α β:Type} {f:α→List β} {xs:List α} {k:Nat} {x:α} (h:xs[k]? = some x):((xs.take k).flatMap f).length+(f x).length≤(xs.flatMap f).length:=by
 have h1:xs.flatMap f=(xs.take (k+1)).flatMap f++(xs.drop (k+1)).flatMap f:=by rw [← List.flatMap_append,List.take_append_drop]
 rw [h1,uP h]; simp only [List.length_append]; omega
theorem wO {α β:Type} {f:α→List β} {xs:List α} (k:Nat):((xs.take k).flatMap f).length≤(xs.flatMap f).length:=by
 have h1:xs.flatMap f=(xs.take k).flatMap f++(xs.drop k).flatMap f:=by rw [← List.flatMap_append,List.take_append_drop]
 rw [h1]; simp only [List.length_append]; omega
theorem tK {xs:List Y} (h:xs.length<18446744073709551616):(nD xs).length≤xs.length+10:=by
 have:=gZ h
 unfold nD; rw [List.length_append]; omega
theorem aI6 (xs:List Y):xs.length≤(nD xs).length:=by unfold nD; rw [List.length_append]; omega
theorem aC1 (m:Meta):m.min.size+m.max.size≤(eF m).length:=by
 have h1:=aI6 (yb m.min); have h2:=aI6 (yb m.max)
 rw [nE] at h1 h2
 unfold eF
 simp only [List.length_append]; omega
theorem aMg {g:Gone} (h:g.wf):(gV g).length≤20:=by
 have h1:=h.level; have h2:=h.number
 have n1:=gZ (n:=g.level.toNat) (by omega); have n2:=gZ (n:=g.number.toNat) (by omega)
 unfold gV; rw [List.length_append]; omega
theorem aBU {gs:List Gone} (h:∀ g∈gs,g.wf):(gs.flatMap gV).length≤20*gs.length:=by
 induction gs with
 | nil=>simp
 | cons g gs ih =>
  have h1:=aMg (h g (List.mem_cons_self ..))
  have h2:=ih fun x hx=>h x (List.mem_cons_of_mem _ hx)
  rw [List.flatMap_cons,List.length_append,List.length_cons]; omega
theorem SlR.fat {α:Type} {G:PM} {sz:Nat} {enc:α→List Value} {h:Sh} {xs:List α} (s:SlR G sz enc h xs) {j:Int} {k:Nat} {x:α} (hj:j.toNat=k) (hx:xs[k]? = some x) (q:Nat) {v:Value} (hv:(enc x)[q]? = some v):RdP G ⟨h.b,h.o+j.toNat*sz+q,none⟩ v:=s.at hj hx q v hv
section
variable {α:Type} {O:Option α} {s t:Rd'} {bad:Bool}
theorem Tk.upR {most n:Nat} {k:Nat→List Y→Option α} {K:List Y→Option α} {bad':Bool} (h:Tk O s bad (iL most k)) (hN:dD s=(n,t)) (hb:bad'=(bad||decide (most<n))) (hK:n≤most→K=k n):Tk O t bad' K:=by
 have h1:=Tk.numE (k:=fun n r=>if n≤most then k n r else none) h hN
 by_cases hn:n≤most
 ·have hd:decide (most<n)=false:=decide_eq_false (by omega)
  rw [hK hn,hb,hd,Bool.or_false]
  rcases h1 with ⟨a,b,c⟩ | h1
  ·exact .inl ⟨a,b,by simp only [if_pos hn] at c; exact c⟩
  ·exact .inr h1
 ·have ht:bad'=true:=by rw [hb,decide_eq_true (show most<n by omega)]; simp
  rcases h1 with ⟨a,b,c⟩ | h1
  ·exact .inr ⟨by simp only [if_neg hn] at c; exact c,.inl ht⟩
  ·exact .inr ⟨h1.1,.inl ht⟩
theorem Tk.seen {k:List Y→Option α} (h:Tk O s bad k):Tk O s (bad || !decide (s.bad=0)) k :=
 h.bad_of (fun h0 _ hc=>by rw [h0] at hc; simp at hc)
end
theorem aHG {s t1 t2 t3 t4 t5 t6 t7 t8 t9:Rd'} {b3:Bool} {n1 n2 n3 n4 n5 n6:Nat} {M7 M8 rt:List Y} {lv sz ct:Int} {root:Nat→Int}
  (h1:dD s=(n1,t1)) (w1:n1≤255→lv=n1) (h2:dD t1=(n2,t2)) (h3:dD t2=(n3,t3)) (h4:dD t3=(n4,t4))
  (h5:dD t4=(n5,t5)) (w5:n5≤9223372036854775807→sz=n5) (h6:dD t5=(n6,t6)) (w6:n6≤9223372036854775807→ct=n6)
  (h7:gD 1024 t6=(M7,t7)) (h8:gD 1024 t7=(M8,t8)) (hb:b3=(((false||decide (255<n1))||decide (9223372036854775807<n5))||decide (9223372036854775807<n6))) (h9:ByR t8 t9 b3 rt) (hl:rt.length=32) (hr:root=fun i=>((rt.getD i 0).toNat:Int)) :
  aA1 s t9 false (b3 || !decide (t9.bad=0)) ⟨lv,n2,n3,n4,sz,ct,cZ M7,cZ M8,root⟩:=by
 intro α O k h
 subst hr
 unfold oO at h
 have a1:=h.upR (K:=fS fun g=>fS fun ep=>fS fun nu=>iL 9223372036854775807 fun sz=>iL 9223372036854775807 fun ct=>jY 1024 fun mn=>jY 1024 fun mx=>eG lZ 32 fun rt =>
  k ⟨lv,g,ep,nu,sz,ct,cZ mn,cZ mx,fun i=>((rt.getD i 0).toNat:Int)⟩) h1 rfl (fun hn=>by rw [w1 hn])
 have a2:=a1.numE h2
 have a3:=a2.numE h3
 have a4:=a3.numE h4
 have a5:=a4.upR (K:=iL 9223372036854775807 fun ct=>jY 1024 fun mn=>jY 1024 fun mx=>eG lZ 32 fun rt =>
  k ⟨lv,n2,n3,n4,sz,ct,cZ mn,cZ mx,fun i=>((rt.getD i 0).toNat:Int)⟩) h5 rfl (fun hn=>by rw [w5 hn])
 have a6:=a5.upR (K:=jY 1024 fun mn=>jY 1024 fun mx=>eG lZ 32 fun rt =>
  k ⟨lv,n2,n3,n4,sz,ct,cZ mn,cZ mx,fun i=>((rt.getD i 0).toNat:Int)⟩) h6 rfl (fun hn=>by rw [w6 hn])
 have a7:=a6.strE h7
 have a8:=a7.strE h8
 rw [← hb] at a8
 exact (h9.all hl a8).seen
theorem aG3 {n:Nat}:decide ((n:Int)<256) = !decide (255<n):=by
 by_cases h:n<256
 ·rw [decide_eq_true (by omega),decide_eq_false (p:=255<n) (by omega)]; rfl
 ·rw [decide_eq_false (by omega),decide_eq_true (p:=255<n) (by omega)]; rfl
theorem aG4 {n:Nat}:decide ((n:Int)<9223372036854775808) = !decide (9223372036854775807<n):=by
 by_cases h:n<9223372036854775808
 ·rw [decide_eq_true (by omega),decide_eq_false (p:=9223372036854775807<n) (by omega)]; rfl
 ·rw [decide_eq_false (by omega),decide_eq_true (p:=9223372036854775807<n) (by omega)]; rfl
theorem aGs {n:Nat}:decide ((n:Int)≤1024) = !decide (1024<n):=by
 by_cases h:n≤1024
 ·rw [decide_eq_true (by omega),decide_eq_false (p:=1024<n) (by omega)]; rfl
 ·rw [decide_eq_false (by omega),decide_eq_true (p:=1024<n) (by omega)]; rfl
theorem eq0 {e:Int}:(e == 0)=decide (e=0):=by by_cases h:e=0<;>simp [h]
theorem aGF {n1 n5 n6:Nat} {e:Int}:((((decide ((n1:Int)<256)&&decide ((n5:Int)<9223372036854775808))&&decide ((n6:Int)<9223372036854775808))&&(e == 0))) = !((((false||decide (255<n1))||decide (9223372036854775807<n5))||decide (9223372036854775807<n6)) || !decide (e=0)):=by
 rw [aG3,aG4,aG4,eq0]
 cases decide (255<n1)<;>cases decide (9223372036854775807<n5)<;>cases decide (9223372036854775807<n6)<;>cases decide (e=0)<;>rfl
theorem aGC {n:Nat} {e:Int}:(!((e == 0)&&decide ((n:Int)≤1024)))=(false||(decide (1024<n) || !decide (e=0))):=by
 rw [aGs,eq0]
 cases decide (1024<n)<;>cases decide (e=0)<;>rfl
theorem aGD {n:Nat} {bad:Bool}:(!(!bad&&decide ((n:Int)≤1024)))=(bad||decide (1024<n)):=by
 rw [aGs]
 cases decide (1024<n)<;>cases bad<;>rfl
theorem aGE {n:Nat} {e:Int}:(!(decide ((n:Int)<256)&&(e == 0)))=(false||(decide (255<n) || !decide (e=0))):=by
 rw [aG3,eq0]
 cases decide (255<n)<;>cases decide (e=0)<;>rfl
theorem aMS {O:Option Edit} {gs:List Nat} {add:List Meta} {s t:Rd'} {bad bad':Bool} {n:Nat} (h:Tk O s bad (wJ gs add)) (hN:dD s=(n,t)) (hb:bad'=(bad||decide (1024<n))):Tk O t bad' (eG mZ n fun drop=>mY (pH gs add drop)) :=
 Tk.upR (k:=fun n=>eG mZ n fun drop=>mY (pH gs add drop)) h hN hb (fun _=>rfl)
theorem aRx {bad:Bool} {n:Nat} (h:(!(!bad&&decide ((n:Int)≤1024)))=false):n≤1024:=by
 rw [aGD] at h
 simp at h
 omega
section
variable {dr:Bool} {mc:Md} {P:Program} {n:Nat} {l:List Oper} {K:aO→PM→aH→Prop} {i:Nat} {σ:List Nat} {ρ:aO} {G:PM} {μ:aH}
variable {d t:Nat} {p:String} {af:Array Edge} {g:Option (Nat×Bool)} {c:Bool}
end
def qH (s:State) (e:Edit):Bool:=((List.range 5).any fun i=>decide (e.gens i<s.gens i))||(((decide (e.log<s.log)||decide (e.next<s.next))||decide (e.seq<s.seq))||decide (e.least<s.least))
theorem aFN {s:State} {e:Edit} {i:Nat} (hi:i<5) (h:e.gens i<s.gens i):qH s e=true:=by
 unfold qH
 rw [List.any_eq_true.2 ⟨i,List.mem_range.2 hi,by simpa using h⟩]; rfl
theorem aCi {s:State} {e:Edit} (h:∀ i,i<5→¬ e.gens i<s.gens i):qH s e=(((decide (e.log<s.log)||decide (e.next<s.next))||decide (e.seq<s.seq))||decide (e.least<s.least)):=by
 unfold qH
 rw [show ((List.range 5).any fun i=>decide (e.gens i<s.gens i))=false from List.any_eq_false.2 (fun i hi=>by simpa using h i (List.mem_range.1 hi)),Bool.false_or]
theorem State.len {s:State} {hd:Nat→Sh}:(s.cells hd).length=14:=by simp [State.cells]
theorem iT {s:State} {hd:Nat→Sh}:∀ u∈s.cells hd,u.oneCell'=true:=by
 intro u hu
 simp only [State.cells,List.mem_append,List.mem_map,List.mem_cons,List.not_mem_nil,or_false] at hu
 rcases hu with (⟨i,_,rfl⟩ | (rfl|rfl|rfl|rfl)) | ⟨i,_,rfl⟩<;>rfl
theorem Edit.len {e:Edit} {ha hd:Sh}:(e.cells ha hd).length=11:=by simp [Edit.cells]
theorem aEY {e:Edit} {ha hd:Sh}:∀ u∈e.cells ha hd,u.oneCell'=true:=by
 intro u hu
 simp only [Edit.cells,List.mem_append,List.mem_map,List.mem_cons,List.not_mem_nil,or_false] at hu
 rcases hu with ((rfl|rfl|rfl|rfl) | ⟨i,_,rfl⟩) | (rfl|rfl)<;>rfl
theorem aM2 {e:Edit} {j:Int} {k:Nat} (hj:j.toNat=k) (h:k<5):((List.range 5).map (fun i=>Value.int .u64 (e.gens i)))[j.toNat]? = some (.int .u64 (e.gens k)):=by
 subst hj
 simp [h]
instance {s:State} {hd:Nat→Sh}:QLen (s.cells hd) 14:=⟨State.len⟩
instance {e:Edit} {ha hd:Sh}:QLen (e.cells ha hd) 11:=⟨Edit.len⟩
theorem aB9 {a b:UInt8}:(a<b)↔a.toNat<b.toNat:=UInt8.lt_iff_toNat_lt
theorem aFP:∀ (x:List UInt8),Op.bytesLess x x=false
 | []=>rfl
 | a :: x=>by
  have h:¬ a<a:=by rw [aB9]; omega
  simp [Op.bytesLess,h,aFP x]
theorem aFQ:∀ {x y z:List UInt8},Op.bytesLess x y=true→Op.bytesLess y z=true→Op.bytesLess x z=true
 | [],[],_,h,_=>by simp [Op.bytesLess] at h
 | [],_ :: _,[],_,h=>by simp [Op.bytesLess] at h
 | [],_ :: _,_ :: _,_,_=>by simp [Op.bytesLess]
 | _ :: _,[],_,h,_=>by simp [Op.bytesLess] at h
 | _ :: _,_ :: _,[],_,h=>by simp [Op.bytesLess] at h
 | a :: x,b :: y,c :: z,h,h'=>by
  simp only [Op.bytesLess,Bool.or_eq_true,Bool.and_eq_true,decide_eq_true_eq,beq_iff_eq] at h h' ⊢
  rcases h with h | ⟨rfl,h⟩
  ·rcases h' with h' | ⟨rfl,_⟩
   ·left; rw [aB9] at *; omega
   ·exact .inl h
  ·rcases h' with h' | ⟨rfl,h'⟩
   ·exact .inl h'
   ·exact .inr ⟨rfl,aFQ h h'⟩
theorem aFR:∀ (x y:List UInt8),Op.bytesLess x y=true∨x=y∨Op.bytesLess y x=true
 | [],[]=>.inr (.inl rfl)
 | [],_ :: _=>.inl (by simp [Op.bytesLess])
 | _ :: _,[]=>.inr (.inr (by simp [Op.bytesLess]))
 | a :: x,b :: y=>by
  simp only [Op.bytesLess,Bool.or_eq_true,Bool.and_eq_true,decide_eq_true_eq,beq_iff_eq,List.cons.injEq]
  have hab:a.toNat<b.toNat∨a=b∨b.toNat<a.toNat:=by
   rcases Nat.lt_trichotomy a.toNat b.toNat with h | h | h
   ·exact .inl h
   ·exact .inr (.inl (UInt8.toNat_inj.1 h))
   ·exact .inr (.inr h)
  rcases hab with h|rfl | h
  ·exact .inl (.inl (aB9.2 h))
  ·rcases aFR x y with h|rfl | h
   ·exact .inl (.inr ⟨rfl,h⟩)
   ·exact .inr (.inl ⟨rfl,rfl⟩)
   ·exact .inr (.inr (.inr ⟨rfl,h⟩))
  ·exact .inr (.inr (.inl (aB9.2 h)))
theorem aFW {a b:ByteArray} (h:a.toList=b.toList):a=b:=by
 rw [ByteArray.toList_eq,ByteArray.toList_eq] at h
 cases a with | mk a=>cases b with | mk b =>
 congr 1
 exact Array.toList_inj.1 h
theorem aBb (a:ByteArray):lt a a=false:=aFP _
theorem aBc {a b c:ByteArray} (h:lt a b=true) (h':lt b c=true):lt a c=true:=aFQ h h'
theorem aDR (a b:ByteArray):lt a b=true∨a=b∨lt b a=true:=by
 rcases aFR a.toList b.toList with h | h | h
 ·exact .inl h
 ·exact .inr (.inl (aFW h))
 ·exact .inr (.inr h)
theorem aG5 {a b:ByteArray} (h:lt a b=true):lt b a=false:=by
 cases h':lt b a with
 | false=>rfl
 | true=>have:=aBc h h'; rw [aBb] at this; cases this
theorem aBZ (a b:ByteArray):le a b = !lt b a:=by
 have e:le a b=(lt a b||a.toList == b.toList):=rfl
 rw [e]
 rcases aDR a b with h|rfl | h
 ·rw [h,aG5 h]; rfl
 ·rw [aBb]; simp
 ·rw [h,aG5 h]
  have hne:(a.toList == b.toList)=false:=by
   rw [beq_eq_false_iff_ne]
   intro e
   rw [aFW e,aBb] at h; cases h
  rw [hne]; rfl
theorem aGt {a b c:ByteArray} (h:le a b=true) (h':lt b c=true):lt a c=true:=by
 rw [aBZ] at h
 rcases aDR a b with h2|rfl | h2
 ·exact aBc h2 h'
 ·exact h'
 ·rw [h2] at h; cases h
theorem aGX {s:State} {m:Meta} (h:good s m=true):le m.min m.max=true:=by
 simp only [good,Bool.and_eq_true] at h
 exact h.1.1.1.1.1.1.2
theorem rT (s:State) {i:Nat} (h:i<5):((s.lv i).length:Int)≤tot s 5:=by
 have h1:=xX s (show i+1≤5 by omega)
 have h2:=xY s i
 rw [show tot s (i+1)=tot s i+(s.lv i).length from rfl] at h1
 omega
inductive Ck (lt:Meta→Meta→Bool) (bs:Nat):List TM→List TM→Prop
 | last {s o:List TM} (h:s.length≤bs) (hs:Srt lt s) (hp:s.Perm o):Ck lt bs s o
 | cons {s o T O:List TM} (h:s.length=bs) (hs:Srt lt s) (hp:s.Perm o) (hT:Ck lt bs T O):Ck lt bs (s++T) (o++O)
section
variable {lt:Meta→Meta→Bool} {bs:Nat} {T O:List TM}
theorem Ck.perm (h:Ck lt bs T O):T.Perm O:=by
 induction h with
 | last h hs hp=>exact hp
 | cons h hs hp hT ih=>exact hp.append ih
theorem Ck.big (h:Ck lt bs T O) (hb:0<bs) (hl:T.length≤bs):Srt lt T∧T.Perm O:=by
 refine ⟨?_,h.perm⟩
 cases h with
 | last h hs hp=>exact hs
 | @cons s o T O h hs hp hT =>
  rw [List.length_append] at hl
  have:T=[]:=List.eq_nil_of_length_eq_zero (by omega)
  rw [this,List.append_nil]; exact hs
theorem Ck.one (h:Ck lt bs T O) (hb:0<bs) (hl:bs<T.length):∃ s o T' O',T=s++T'∧O=o++O'∧s.length=bs∧o.length=bs∧Srt lt s∧s.Perm o∧Ck lt bs T' O'∧0<T'.length:=by
 cases h with
 | last h hs hp=>omega
 | @cons s o T O h hs hp hT=>exact ⟨s,o,T,O,rfl,rfl,h,by rw [← hp.length_eq]; exact h,hs,hp,hT,by rw [List.length_append] at hl; omega⟩
theorem Ck.two (h:Ck lt bs T O) (hb:0<bs) (hl:bs+bs≤T.length):∃ s1 s2 o1 o2 T' O',T=s1++s2++T'∧O=o1++o2++O'∧s1.length=bs∧s2.length=bs∧o1.length=bs∧o2.length=bs∧Srt lt s1∧Srt lt s2∧s1.Perm o1∧s2.Perm o2∧Ck lt bs T' O':=by
 obtain ⟨s1,o1,T1,O1,rfl,rfl,h1,h2,h3,h4,h5,h6⟩:=h.one hb (by omega)
 rw [List.length_append] at hl
 cases h5 with
 | last g hs hp=>exact ⟨s1,T1,o1,O1,[],[],by simp,by simp,h1,by omega,h2,by rw [← hp.length_eq]; omega,h3,hs,h4,hp,.last (Nat.zero_le _) .nil (List.Perm.refl _)⟩
 | @cons s o T O g hs hp hT=>exact ⟨s1,s,o1,o,T,O,by simp,by simp,h1,g,h2,by rw [← hp.length_eq]; exact g,h3,hs,h4,hp,hT⟩
theorem Ck.rest (h:Ck lt bs T O) (hb:0<bs) (hl:bs<T.length) (h2:T.length<bs+bs):∃ s1 s2 o1 o2,T=s1++s2∧O=o1++o2∧s1.length=bs∧0<s2.length∧o1.length=bs∧Srt lt s1∧Srt lt s2∧s1.Perm o1∧s2.Perm o2:=by
 obtain ⟨s1,o1,T1,O1,rfl,rfl,h1,h3,h4,h5,h6,h7⟩:=h.one hb hl
 rw [List.length_append] at h2
 obtain ⟨h8,h9⟩:=h6.big hb (by omega)
 exact ⟨s1,T1,o1,O1,rfl,rfl,h1,h7,h3,h4,h8,h5,h9⟩
theorem aJI {X Z s1 s2 o1 o2 T0:List TM} (hT:T0.Pairwise fun x y=>x.2<y.2) (e:X++(o1++o2++Z)=T0) (h1:s1.Perm o1) (h2:s2.Perm o2):∀ x∈s1,∀ y∈s2,x.2<y.2:=by
 intro x hx y hy
 rw [← e] at hT
 have h3:=(List.pairwise_append.1 hT).2.1
 have h4:=(List.pairwise_append.1 h3).1
 exact (List.pairwise_append.1 h4).2.2 x (h1.mem_iff.1 hx) y (h2.mem_iff.1 hy)
theorem aJJ {X Y Z T0:List TM} (hT:T0.Pairwise fun x y=>x.2<y.2) (e:X++(Y++Z)=T0):Y.Pairwise fun x y=>x.2<y.2:=by
 rw [← e] at hT
 exact (List.pairwise_append.1 (List.pairwise_append.1 hT).2.1).1
theorem aN2 (xs:List Meta):ms (xs.zipIdx 0)=xs:=by unfold ms; simp
theorem aRf (xs:List Meta):(xs.zipIdx 0).Pairwise fun x y=>x.2<y.2:=by
 refine List.pairwise_iff_getElem.2 fun i j hi hj hij=>?_
 simp only [List.getElem_zipIdx]
 show 0+i<0+j
 omega
theorem aN1 (h:Wk0 lt) {xs:List Meta} {T:List TM} (hs:Srt lt T) (hp:T.Perm (xs.zipIdx 0)):ms T=jI lt xs:=aIt h hs hp
end
def wH (x y:Int):Int:=if x<y then -1 else if y<x then 1 else 0
def rL (x y:ByteArray):Int:=if lt x y then -1 else if lt y x then 1 else 0
def jV (i:Int) (a b:Meta):Int:=if i=0 then wH b.number a.number else rL a.min b.min
def iX (i:Int) (a b:Meta):Bool:=if i=0 then decide (b.number<a.number) else lt a.min b.min
theorem aG6 (i:Int):cG (jV i)=iX i:=by
 funext a b
 unfold cG jV iX wH rL
 by_cases h:i=0
 ·simp only [h,if_true]
  split
  ·rename_i h1; simp [h1]
  ·rename_i h1
   split<;>simp [h1]
 ·simp only [h,if_false]
  cases h1:lt a.min b.min with
  | true=>rfl
  | false=>cases lt b.min a.min<;>rfl
theorem aBd (i:Int):Wk0 (iX i):=by
 unfold iX
 by_cases h:i=0
 ·simp only [h,if_true]
  refine ⟨fun a=>by simp,fun {a b c} h1 h2=>?_,fun {a b} c h1=>?_⟩
  ·simp only [decide_eq_true_eq] at *; omega
  simp only [decide_eq_true_eq] at *; omega
 simp only [h,if_false]
 refine ⟨fun a=>aBb _,fun {a b c} h1 h2=>aBc h1 h2,fun {a b} c h1=>?_⟩
 rcases aDR a.min c.min with h2 | h2 | h2
 ·exact .inl h2
 ·right; rw [← h2]; exact h1
 right; exact aBc h2 h1
theorem aL1 {x y:ByteArray} (h:Op.bytesLess x.toList y.toList=true):rL x y = -1:=by unfold rL; rw [if_pos (show lt x y=true from h)]
theorem aL0 {x y:ByteArray} (h:Op.bytesLess x.toList y.toList=false) (h2:(!(Op.bytesLess x.toList y.toList||x.toList == y.toList))=true):rL x y=1:=by
 have h3:lt y x=true:=by
  have:le x y=false:=by simpa [le] using h2
  rw [aBZ] at this; simpa using this
 unfold rL; rw [if_neg (by rw [show lt x y=false from h]; decide),if_pos h3]
theorem aLz {x y:ByteArray} (h:Op.bytesLess x.toList y.toList=false) (h2:(!(Op.bytesLess x.toList y.toList||x.toList == y.toList))=false):rL x y=0:=by
 have h3:lt y x=false:=by
  have:le x y=true:=by unfold le; simpa only [Bool.not_eq_false'] using h2
  rw [aBZ] at this; simpa using this
 unfold rL; rw [if_neg (by rw [show lt x y=false from h]; decide),if_neg (by rw [h3]; decide)]
end Go.Tan
