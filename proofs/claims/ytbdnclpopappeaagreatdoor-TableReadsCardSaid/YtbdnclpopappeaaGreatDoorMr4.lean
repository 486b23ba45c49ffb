/- Lemmas and contracts of functions, joined. -/
import Derived.Test.YtbdnclpopappeaaGreatDoorMr3
set_option linter.unusedSimpArgs false
set_option linter.unusedVariables false
set_option linter.unusedSectionVars false
namespace Go.Proofs.YtbdnclpopappeaaGreatDoor
open Go.Tan Go.RowKit
theorem aCD:(Tryz.prog.info? 139).bind (·.zero)=some (.int .u32 0):=by kernel_rfl
theorem qW:aQ Tryz.prog 142=true:=by kernel_rfl
theorem aE5:iS Tryz.prog 166=some ([.int .u32 0,.int .u32 0,.int .u32 0,.int .u32 0,.int .u32 0,.int .u32 0,.int .u32 0,.int .u32 0]):=by kernel_rfl
theorem aTA:aQ Tryz.prog 141=true:=by kernel_rfl
theorem aAU:dG Tryz.prog 166=some 8:=by kernel_rfl
theorem aSz:aQ Tryz.prog 120=true:=by kernel_rfl
theorem aS0:aQ Tryz.prog 121=true:=by kernel_rfl
theorem qJ (x:W) (k:Nat) (G:PM) (hk:k≤32):Ct Tryz.prog 142 ([U x,.int .i64 (k:Int)]:List Value).toArray G [] (fun _ μ' u=>μ'=[]∧u=U (iH x k)):=by
 refine Ct.of Tryz.func142 rfl Tryz.ntmps142 rfl fun w0 hs0=>?_
 refine .g (bG (mc:=⟨false,false⟩) [0,1,2,3,4,5,6,7,8] aV (by kernel_rfl) ?_)
 refine .p (iC (k:=.u32) rfl .no (.u rfl) (.u rfl) (by omega) ?_)
 refine .p (aW (((32-k):Nat):Int) rfl rfl rfl rfl ?_)
 refine lw (k:=.u32) rfl .no rfl (.u rfl) (.u rfl) (by omega) ?_
 refine bw (k:=.u32) rfl .no rfl (.u rfl) (.u rfl) rfl (aS rfl rfl (.nc (.ret (aP Tryz.results142 (.tmp rfl .nil) ?_))))
 exact ⟨rfl,congrArg (fun z=>mC [uv .u32 z]) (BitVec.or_comm ..)⟩
theorem aSD {n:Nat} {y:Nat→W} {z:W}:wa n y++[U z]=wa (n+1) (bA y n z):=by
 refine List.ext_getElem? fun i=>?_
 rw [List.getElem?_append,bO]
 by_cases h:i<n
 ·rw [if_pos h,tC h,tC (by omega),bA,if_neg (by omega)]
 rw [if_neg h]
 by_cases h2:i=n
 ·subst h2; rw [tC (by omega),uU]; simp
 rw [List.getElem?_eq_none (by simp; omega),List.getElem?_eq_none (by rw [bO]; omega)]
theorem aIT {v:Value} {E n:Nat} {y:Nat→W} {z:W}:Res.row v E 1 (n+1) (wa n y++[U z])=Res.row v E 1 (n+1) (wa (n+1) (bA y n z)):=by rw [aSD]
theorem aR5 {s x:Nat→W} {k:Nat}:bA (fun i=>if i<k then s i+x i else x i) k ((if k<k then s k+x k else x k)+s k)=fun i=>if i<k+1 then s i+x i else x i:=by
 funext i
 unfold bA
 by_cases h:i=k
 ·subst h; simp [BitVec.add_comm]
 ·rw [if_neg h]
  by_cases h2:i<k
  ·simp [h2,show i<k+1 by omega]
  ·simp [h2,show ¬ i<k+1 by omega]
theorem aNz {n q:Nat} (h:q<8):aA5 n q=((BitVec.ofInt 64 (n:Int)*8#64) >>> (((8*(7-q):Nat):Int)).toNat).setWidth 8:=by
 rw [Int.toNat_natCast,show 8*(7-q)=56-8*q by omega]; rfl
theorem aME {zs L:List Y} {j b T:Nat} (eL:L=(zs.drop (64*j)).take (64*j+64-64*j)):Res.blk b (cl (wa 8 (oM (fE zs j) (fun i=>L.getD i 0))) T)=.blk b (cl (wa 8 (fE zs (j+1))) T):=by
 rw [fE,aBe (b':=tX zs j)]
 intro i hi
 rw [eL,tX,aGl (by omega)]
theorem aBf (xs:List Y) (i q:Nat) (hq:q<4):gN xs (4*i+q)=((fE (kH xs) ((kH xs).length / 64) i) >>> (24-8*q)).setWidth 8:=by
 unfold gN
 rw [show (4*i+q) / 4=i by omega,show (4*i+q)%4=q by omega]
theorem aLL (a b c d:W):a+b+c+d=a+c+b+d:=by rw [BitVec.add_assoc a b c,BitVec.add_comm b c,←BitVec.add_assoc]
theorem aP8 (x:Nat→W) (k w:W):x 7+(iH (x 4) 6 ^^^ iH (x 4) 11 ^^^ iH (x 4) 25)+((x 4 &&& x 5) ^^^ (~~~x 4 &&& x 6))+k+w+((iH (x 0) 2 ^^^ iH (x 0) 13 ^^^ iH (x 0) 22)+((x 0 &&& x 1) ^^^ (x 0 &&& x 2) ^^^ (x 1 &&& x 2)))=rR x k w 0:=by rw [aFx,aOC]; rfl
theorem aQA (x:Nat→W) (k w:W):x 3+(x 7+(iH (x 4) 6 ^^^ iH (x 4) 11 ^^^ iH (x 4) 25)+((x 4 &&& x 5) ^^^ (~~~x 4 &&& x 6))+k+w)=rR x k w 4:=by rw [aFx]; rfl
theorem aQu (xs:List Y) (i:Nat):gN xs (4*i)=((fE (kH xs) ((kH xs).length / 64) i) >>> 24).setWidth 8:=aBf xs i 0 (by decide)
theorem aQW (xs:List Y) (h:Sh) (G:PM) (hs:SlR G 1 aL h xs) (hl:64≤xs.length):Ct Tryz.prog 141 ([h.val xs.length]:List Value).toArray G [] (fun _ μ' u=>μ'=[.row u 139 1 64 (wa 64 (iO (fun i=>xs.getD i 0) 48))]):=by
 refine Ct.of Tryz.func141 rfl Tryz.ntmps141 rfl fun w0 hs0=>?_
 refine .seq (aM rfl rfl (aS rfl rfl (.nc (.seq (aM rfl rfl (aS rfl rfl (.nc (.seq (.seq (aBq 139 1 ?_))))))))))
 refine aM rfl rfl (aS rfl rfl (.nc (.block ?_)))
 refine bE (α:=Nat×Value×(Nat→W)) (fun gh=>[(3,true,gh.2.1),(4,true,.int .i64 (gh.1:Int))]) (fun gh=>[.row gh.2.1 139 1 gh.1 (wa gh.1 gh.2.2)])
  (fun gh Gl=>(gh.1≤16)∧(gh.2.2=nR (fun i=>xs.getD i 0) gh.1)) (fun gh=>16-gh.1) (0,.slice none 0 0,fun _=>0#32) [(0,true,_)] []
  (aA rfl (aO rfl (aA rfl eZ)))
  (mS .here rfl mN) ?_ ?_
 ·refine ⟨?_,?_⟩
  ·(try dsimp only)<;>(first|omega|rfl|assumption|(simp; done))
  (try dsimp only)<;>(first|omega|rfl|assumption|(simp; done))
 intro gh N0 Gl0 hN0 hGl0 hF0
 obtain ⟨k,v,y⟩:=gh; dsimp only at hF0 hN0 ⊢
 obtain ⟨hk,ey⟩:=hF0
 have hs:=hs.mono hGl0
 refine .g (cP rfl rfl rfl rfl (.g (cD rfl (fun c1=>?_) (fun c1=>?_))))
 ·have c1k:=c1
  try simp only [aC,aD] at c1
  refine .g (bG (mc:=⟨false,false⟩) [0,1,2,3,4,5,6,7,8,9,10,11,12,13,14,15,16,17,18,19,20,21,22,23,24,25,26,27,28,29,30,31,32,33,34,35,36] aV (by kernel_rfl) ?_)
  refine .p (aW (((4*k):Nat):Int) rfl rfl rfl rfl ?_)
  refine ih rfl .no aH (.u rfl) (.u rfl) (by omega) (by omega) (fun _=>hs.nn (k:=(4*k)) (by omega)) ?_
  refine lN rfl cA rfl ((hs.yat ((4*k)) (by omega) (by omega)).rd) ?_
  refine cu (k:=.u8) rfl .no rfl pO (.u rfl) ?_
  refine lw (k:=.u32) rfl .no rfl (.u rfl) (.u rfl) (fun _=>by decide) ?_
  refine .p (aW (((4*k):Nat):Int) rfl rfl rfl rfl ?_)
  refine dR ((((4*k)+1):Nat):Int) rfl .no (.u rfl) (.u rfl) rfl (by omega) (fun _=>cB (by omega) (by omega)) ?_
  refine ih rfl .no aH (.u rfl) (.u rfl) (by omega) (by omega) (fun _=>hs.nn (k:=((4*k)+1)) (by omega)) ?_
  refine ld rfl .no cA (.u rfl) (fun _=>(hs.yat (((4*k)+1)) (by omega) (by omega)).rd) ?_
  refine cu (k:=.u8) rfl .no rfl pO (.u rfl) ?_
  refine lw (k:=.u32) rfl .no rfl (.u rfl) (.u rfl) (fun _=>by decide) ?_
  refine bw (k:=.u32) rfl .no rfl (.u rfl) (.u rfl) rfl (.p (aW (((4*k):Nat):Int) rfl rfl rfl rfl ?_))
  refine dR ((((4*k)+2):Nat):Int) rfl .no (.u rfl) (.u rfl) rfl (by omega) (fun _=>cB (by omega) (by omega)) ?_
  refine ih rfl .no aH (.u rfl) (.u rfl) (by omega) (by omega) (fun _=>hs.nn (k:=((4*k)+2)) (by omega)) ?_
  refine ld rfl .no cA (.u rfl) (fun _=>(hs.yat (((4*k)+2)) (by omega) (by omega)).rd) ?_
  refine cu (k:=.u8) rfl .no rfl pO (.u rfl) ?_
  refine lw (k:=.u32) rfl .no rfl (.u rfl) (.u rfl) (fun _=>by decide) ?_
  refine bw (k:=.u32) rfl .no rfl (.u rfl) (.u rfl) rfl (.p (aW (((4*k):Nat):Int) rfl rfl rfl rfl ?_))
  refine dR ((((4*k)+3):Nat):Int) rfl .no (.u rfl) (.u rfl) rfl (by omega) (fun _=>cB (by omega) (by omega)) ?_
  refine ih rfl .no aH (.u rfl) (.u rfl) (by omega) (by omega) (fun _=>hs.nn (k:=((4*k)+3)) (by omega)) ?_
  refine ld rfl .no cA (.u rfl) (fun _=>(hs.yat (((4*k)+3)) (by omega) (by omega)).rd) ?_
  refine cu (k:=.u8) rfl .no rfl pO (.u rfl) ?_
  refine bw (k:=.u32) rfl .no rfl (.u rfl) (.u rfl) rfl ?_
  refine Go.Tan.b1 rfl mH aCD (.u rfl) rfl rfl (by decide) ?_; intro b46
  refine ap rfl mH aCD rfl (.u rfl) (.u rfl) aF (rfl) (fun _=>⟨_,_,rfl,RdN.own .here⟩) (mW rfl) (by omega) (by unfold maxLen; omega) ?_; intro v47
  refine .g (aW (((k+1):Nat):Int) rfl rfl rfl rfl ?_)
  refine .g (aZ (k+1,v47,bA y k (yB (fun i=>xs.getD i 0) (4*k))) ?_ ?_ ?_ ?_ ?_)
  ·exact (aA rfl (aO rfl (aA rfl eZ)))
  ·exact (mS .here aIT mN)
  ·first|omega|(dsimp only; omega)
  ·exact hGl0
  refine ⟨?_,?_⟩
  ·(try dsimp only)<;>(first|omega|rfl|assumption|(simp; done))
  (try dsimp only)<;>(rw [ey]; rfl)
 have c1k:=c1
 try simp only [aC,aD] at c1
 refine .exit (.xcode (.xlp (.xblk (.code (.seq (.seq (aM rfl rfl (aS rfl rfl (.nc (.block ?_))))))))))
 obtain rfl:k=16:=by omega
 refine bE (α:=Nat×Value×(Nat→W)) (fun gh=>[(3,true,gh.2.1),(5,true,.int .i64 ((16+gh.1:Nat):Int))]) (fun gh=>[.row gh.2.1 139 1 (16+gh.1) (wa (16+gh.1) gh.2.2)])
  (fun gh Gl=>(gh.1≤48)∧(gh.2.2=iO (fun i=>xs.getD i 0) gh.1)) (fun gh=>48-gh.1) (0,_,y) [] []
  (aA rfl (aO rfl eZ))
  (mS .here rfl mN) ?_ ?_
 ·refine ⟨?_,?_⟩
  ·(try dsimp only)<;>(first|omega|rfl|assumption|(simp; done))
  (try dsimp only)<;>(rw [ey]; rfl)
 intro gh N1 Gl1 hN1 hGl1 hF1
 obtain ⟨k1,v,y⟩:=gh; dsimp only at hF1 hN1 ⊢
 obtain ⟨hk1,ey⟩:=hF1
 refine .g (cP rfl rfl rfl rfl (.g (cD rfl (fun c2=>?_) (fun c2=>?_))))
 ·have c2k:=c2
  try simp only [aC,aD] at c2
  refine .skip (.code (.seq (.block (.seq ?_))))
  refine xA .here (by omega) ?_; intro bRW cRW evRW lcRW; subst evRW
  refine bG (mc:=⟨false,false⟩) [0,1,2,3,4,6,7,8,9,10,13,14,15,16,17,18,5,11,12,19,20] aV (by kernel_rfl) ?_
  refine .p (aW (((1+k1):Nat):Int) rfl rfl rfl rfl ?_)
  refine ia rfl .no mH (.u rfl) (.u rfl) (by omega) (by omega) ?_
  refine lN rfl bI rfl (Rd.row .here (by first|exact pC ((1+k1)) (by omega) (by omega)|exact bF ((1+k1)) (by omega) (by omega))) ?_
  refine .p (aW (((1+k1):Nat):Int) rfl rfl rfl rfl ?_)
  refine ia rfl .no mH (.u rfl) (.u rfl) (by omega) (by omega) ?_
  refine lN rfl bI rfl (Rd.row .here (by first|exact pC ((1+k1)) (by omega) (by omega)|exact bF ((1+k1)) (by omega) (by omega))) ?_
  refine .p (aW (((1+k1):Nat):Int) rfl rfl rfl rfl ?_)
  refine ia rfl .no mH (.u rfl) (.u rfl) (by omega) (by omega) ?_
  refine lN rfl bI rfl (Rd.row .here (by first|exact pC ((1+k1)) (by omega) (by omega)|exact bF ((1+k1)) (by omega) (by omega))) ?_
  refine iC (k:=.u32) rfl .no (.u rfl) (.u rfl) (fun _=>by decide) ?_
  refine kV rfl qW (aB rfl (aB rfl aE)) (qJ _ 7 _ (by decide)) ?_
  refine kV rfl qW (aB rfl (aB rfl aE)) (qJ _ 18 _ (by decide)) ?_
  refine bw (k:=.u32) rfl .no rfl (.u rfl) (.u rfl) rfl (bw (k:=.u32) rfl .no rfl (.u rfl) (.u rfl) rfl (.g (bG (mc:=⟨false,false⟩) [0,1,2,3,4,6,7,8,9,10,13,14,15,16,17,18,5,11,12,19,20] aV (by kernel_rfl) ?_)))
  refine .p (aW (((14+k1):Nat):Int) rfl rfl rfl rfl ?_)
  refine ia rfl .no mH (.u rfl) (.u rfl) (by omega) (by omega) ?_
  refine lN rfl bI rfl (Rd.row .here (by first|exact pC ((14+k1)) (by omega) (by omega)|exact bF ((14+k1)) (by omega) (by omega))) ?_
  refine .p (aW (((14+k1):Nat):Int) rfl rfl rfl rfl ?_)
  refine ia rfl .no mH (.u rfl) (.u rfl) (by omega) (by omega) ?_
  refine lN rfl bI rfl (Rd.row .here (by first|exact pC ((14+k1)) (by omega) (by omega)|exact bF ((14+k1)) (by omega) (by omega))) ?_
  refine .p (aW (((14+k1):Nat):Int) rfl rfl rfl rfl ?_)
  refine ia rfl .no mH (.u rfl) (.u rfl) (by omega) (by omega) ?_
  refine lN rfl bI rfl (Rd.row .here (by first|exact pC ((14+k1)) (by omega) (by omega)|exact bF ((14+k1)) (by omega) (by omega))) ?_
  refine iC (k:=.u32) rfl .no (.u rfl) (.u rfl) (fun _=>by decide) ?_
  refine kV rfl qW (aB rfl (aB rfl aE)) (qJ _ 17 _ (by decide)) ?_
  refine kV rfl qW (aB rfl (aB rfl aE)) (qJ _ 19 _ (by decide)) ?_
  refine bw (k:=.u32) rfl .no rfl (.u rfl) (.u rfl) rfl (bw (k:=.u32) rfl .no rfl (.u rfl) (.u rfl) rfl (.g (bG (mc:=⟨false,false⟩) [0,1,2,3,4,5,6,7,8,9,10,11,12,13,14,15,16,17,18] aV (by kernel_rfl) ?_)))
  refine .p (aW ((k1:Nat):Int) rfl rfl rfl rfl ?_)
  refine ia rfl .no mH (.u rfl) (.u rfl) (by omega) (by omega) ?_
  refine lN rfl bI rfl (Rd.row .here (by first|exact pC (k1) (by omega) (by omega)|exact bF (k1) (by omega) (by omega))) ?_
  refine .p (bw (k:=.u32) rfl .no rfl (.u rfl) (.u rfl) rfl (.p (aW (((9+k1):Nat):Int) rfl rfl rfl rfl ?_)))
  refine ia rfl .no mH (.u rfl) (.u rfl) (by omega) (by omega) ?_
  refine lN rfl bI rfl (Rd.row .here (by first|exact pC ((9+k1)) (by omega) (by omega)|exact bF ((9+k1)) (by omega) (by omega))) ?_
  refine bw (k:=.u32) rfl .no rfl (.u rfl) (.u rfl) rfl (.p (bw (k:=.u32) rfl .no rfl (.u rfl) (.u rfl) rfl ?_))
  refine Go.Tan.b1 rfl mH aCD (.u rfl) rfl rfl (by decide) ?_; intro b108
  refine ap rfl mH aCD rfl (.u rfl) (.u rfl) aF (rfl) (fun _=>⟨_,_,rfl,RdN.own .here⟩) (mW rfl) (by omega) (by unfold maxLen; omega) ?_; intro v109
  refine .g (dR (((((16+k1:Nat))+1):Nat):Int) rfl .no (.u rfl) (.u rfl) rfl (by omega) (fun _=>cB (by omega) (by omega)) ?_)
  refine .g (aZ (k1+1,v109,bA y (16+k1) (y k1+s0W (y (1+k1))+y (9+k1)+s1W (y (14+k1)))) ?_ ?_ ?_ ?_ ?_)
  ·exact (aA rfl (aO rfl eZ))
  ·exact (mS .here aIT mN)
  ·first|omega|(dsimp only; omega)
  ·exact hGl1
  refine ⟨?_,?_⟩
  ·(try dsimp only)<;>(first|omega|rfl|assumption|(simp; done))
  (try dsimp only)<;>(rw [ey,iO]; exact congrArg (bA _ _) (aLL ..))
 have c2k:=c2
 try simp only [aC,aD] at c2
 refine .exit (.xcode (.xlp (.xblk (.code (.seq (bD rfl rfl (mV rfl rfl (aS rfl rfl (.nc (.ret (We.fin Tryz.results141 (.tmp rfl .nil) (mS .here rfl mN) ?_)))))))))))
 obtain rfl:k1=48:=by omega
 rw [ey]; rfl
theorem aP9 {x y:Nat→W} {k:Nat} {zs:List Value} (h:zs.length=8) (a e:W) (ha:a=rR x (kW k) (y k) 0) (he:e=rR x (kW k) (y k) 4):pW zs [(0,1),(1,1),(2,1),(3,1),(4,1),(5,1),(6,1),(7,1)] [[U a],[U (x 0)],[U (x 1)],[U (x 2)],[U e],[U (x 4)],[U (x 5)],[U (x 6)]]=wa 8 (rR x (kW k) (y k)):=by
 subst ha; subst he
 match zs,h with
 | [a,b,c,d,e,f,g,h],_=>rfl
set_option maxHeartbeats 1000000 in
theorem aPo (s:Nat→W) (xs:List Y) (h:Sh) (G:PM) (hs:SlR G 1 aL h xs) (hR:RdNP G 0 0 (wa 64 kW)) (hl:64≤xs.length):Ct Tryz.prog 121 ([.agg (wa 8 s).toArray,h.val xs.length]:List Value).toArray G [] (fun _ μ' u=>μ'=[]∧u=.agg (wa 8 (oM s (fun i=>xs.getD i 0))).toArray):=by
 refine Ct.of Tryz.func121 rfl Tryz.ntmps121 rfl fun w0 hs0=>?_
 refine .seq (bD rfl rfl ?_)
 refine bX rfl rfl rfl ?_; intro b2
 refine al rfl aE5 ?_; intro b4
 refine .g (kc rfl aTA (aB rfl aE) (aQW xs h _ hs hl) ?_)
 rintro v12 G12 μ12 hG12 rfl
 have hR:=hR.mono hG12
 refine .g (lB rfl aAI rfl aT ?_)
 refine al rfl aE5 ?_; intro b6
 refine sW rfl rfl rfl rfl aAU .here ?_
 refine .nil (.code (.seq (.seq ?_)))
 refine xA aF (by omega) ?_; intro bRW cRW evRW lcRW; subst evRW
 refine aM rfl rfl (aS rfl rfl (.nc (.block ?_)))
 refine bE (α:=Nat×(Nat→W)) (fun gh=>[(7,true,.int .i64 (gh.1:Int))]) (fun gh=>[.blk b6 (cl (wa 8 gh.2) 166)])
  (fun gh Gl=>(gh.1≤64)∧(gh.2=uO (iO (fun i=>xs.getD i 0) 48) s gh.1)) (fun gh=>64-gh.1) (0,s) [(2,true,_),(4,true,_),(5,true,_),(6,true,_)] [_,_,_]
  (aO rfl (aA rfl (aA rfl (aA rfl (aA rfl eZ)))))
  (mS .here rfl (mS .here rfl (mS .here rfl (mS .here rfl mN)))) ?_ ?_
 ·refine ⟨?_,?_⟩
  ·(try dsimp only)<;>(first|omega|rfl|assumption|(simp; done))
  (try dsimp only)<;>(first|omega|rfl|assumption|(simp; done))
 intro gh N0 Gl0 hN0 hGl0 hF0
 obtain ⟨k,x⟩:=gh; dsimp only at hF0 hN0 ⊢
 obtain ⟨hk,ex⟩:=hF0
 have hR:=hR.mono hGl0
 refine .g (cP rfl rfl rfl rfl (.g (cD rfl (fun c1=>?_) (fun c1=>?_))))
 ·have c1k:=c1
  try simp only [aC,aD] at c1
  refine .g (bG (mc:=⟨false,false⟩) [0,1,2,3,5,6,9,10,14,15,16,17,18,19,20,21,22,23,24,25,27,28,29,31,32,33,34,4,7,8,11,12,13,26,30,35,36] aV (by kernel_rfl) ?_)
  refine iW rfl dI rfl rfl ?_
  refine lO rfl bI rfl .here (by first|exact bF (7) (by omega) (by omega)|exact cM (7) (by omega) (by omega)|exact cV (7) (by omega) (by omega)|rfl) ?_
  refine iW rfl dI rfl rfl ?_
  refine lO rfl bI rfl .here (by first|exact bF (4) (by omega) (by omega)|exact cM (4) (by omega) (by omega)|exact cV (4) (by omega) (by omega)|rfl) ?_
  refine iW rfl dI rfl rfl ?_
  refine lO rfl bI rfl .here (by first|exact bF (4) (by omega) (by omega)|exact cM (4) (by omega) (by omega)|exact cV (4) (by omega) (by omega)|rfl) ?_
  refine iW rfl dI rfl rfl ?_
  refine lO rfl bI rfl .here (by first|exact bF (4) (by omega) (by omega)|exact cM (4) (by omega) (by omega)|exact cV (4) (by omega) (by omega)|rfl) ?_
  refine iW rfl dI rfl rfl ?_
  refine lO rfl bI rfl .here (by first|exact bF (4) (by omega) (by omega)|exact cM (4) (by omega) (by omega)|exact cV (4) (by omega) (by omega)|rfl) ?_
  refine iW rfl dI rfl rfl ?_
  refine lO rfl bI rfl .here (by first|exact bF (5) (by omega) (by omega)|exact cM (5) (by omega) (by omega)|exact cV (5) (by omega) (by omega)|rfl) ?_
  refine bw (k:=.u32) rfl .no rfl (.u rfl) (.u rfl) rfl (iW rfl dI rfl rfl ?_)
  refine lO rfl bI rfl .here (by first|exact bF (4) (by omega) (by omega)|exact cM (4) (by omega) (by omega)|exact cV (4) (by omega) (by omega)|rfl) ?_
  refine xw (k:=.u32) rfl .no rfl (.u rfl) ?_
  refine iW rfl dI rfl rfl ?_
  refine lO rfl bI rfl .here (by first|exact bF (6) (by omega) (by omega)|exact cM (6) (by omega) (by omega)|exact cV (6) (by omega) (by omega)|rfl) ?_
  refine bw (k:=.u32) rfl .no rfl (.u rfl) (.u rfl) rfl (bw (k:=.u32) rfl .no rfl (.u rfl) (.u rfl) rfl (.p (iW rfl qR rfl rfl ?_)))
  refine lN rfl bI rfl ((hR.wat (k) (by omega) (by omega)).rd) ?_
  refine .p (ia rfl .no mH (.u rfl) (.u rfl) (by omega) (by omega) ?_)
  refine lN rfl bI rfl (Rd.row aF (by first|exact pC (k) (by omega) (by omega)|exact bF (k) (by omega) (by omega))) ?_
  refine kV rfl qW (aB rfl (aB rfl aE)) (qJ _ 6 _ (by decide)) ?_
  refine kV rfl qW (aB rfl (aB rfl aE)) (qJ _ 11 _ (by decide)) ?_
  refine bw (k:=.u32) rfl .no rfl (.u rfl) (.u rfl) rfl (kV rfl qW (aB rfl (aB rfl aE)) (qJ _ 25 _ (by decide)) ?_)
  refine bw (k:=.u32) rfl .no rfl (.u rfl) (.u rfl) rfl (bw (k:=.u32) rfl .no rfl (.u rfl) (.u rfl) rfl (bw (k:=.u32) rfl .no rfl (.u rfl) (.u rfl) rfl (bw (k:=.u32) rfl .no rfl (.u rfl) (.u rfl) rfl (bw (k:=.u32) rfl .no rfl (.u rfl) (.u rfl) rfl (.g (bG (mc:=⟨false,false⟩) [0,1,3,4,7,8,11,12,13,14,15,16,17,18,19,20,21,22,23,24,25,26,27,2,5,6,9,10,28,29] aV (by kernel_rfl) ?_))))))
  refine iW rfl dI rfl rfl ?_
  refine lO rfl bI rfl .here (by first|exact bF (0) (by omega) (by omega)|exact cM (0) (by omega) (by omega)|exact cV (0) (by omega) (by omega)|rfl) ?_
  refine iW rfl dI rfl rfl ?_
  refine lO rfl bI rfl .here (by first|exact bF (0) (by omega) (by omega)|exact cM (0) (by omega) (by omega)|exact cV (0) (by omega) (by omega)|rfl) ?_
  refine iW rfl dI rfl rfl ?_
  refine lO rfl bI rfl .here (by first|exact bF (0) (by omega) (by omega)|exact cM (0) (by omega) (by omega)|exact cV (0) (by omega) (by omega)|rfl) ?_
  refine iW rfl dI rfl rfl ?_
  refine lO rfl bI rfl .here (by first|exact bF (0) (by omega) (by omega)|exact cM (0) (by omega) (by omega)|exact cV (0) (by omega) (by omega)|rfl) ?_
  refine iW rfl dI rfl rfl ?_
  refine lO rfl bI rfl .here (by first|exact bF (1) (by omega) (by omega)|exact cM (1) (by omega) (by omega)|exact cV (1) (by omega) (by omega)|rfl) ?_
  refine bw (k:=.u32) rfl .no rfl (.u rfl) (.u rfl) rfl (iW rfl dI rfl rfl ?_)
  refine lO rfl bI rfl .here (by first|exact bF (0) (by omega) (by omega)|exact cM (0) (by omega) (by omega)|exact cV (0) (by omega) (by omega)|rfl) ?_
  refine iW rfl dI rfl rfl ?_
  refine lO rfl bI rfl .here (by first|exact bF (2) (by omega) (by omega)|exact cM (2) (by omega) (by omega)|exact cV (2) (by omega) (by omega)|rfl) ?_
  refine bw (k:=.u32) rfl .no rfl (.u rfl) (.u rfl) rfl (bw (k:=.u32) rfl .no rfl (.u rfl) (.u rfl) rfl (iW rfl dI rfl rfl ?_))
  refine lO rfl bI rfl .here (by first|exact bF (1) (by omega) (by omega)|exact cM (1) (by omega) (by omega)|exact cV (1) (by omega) (by omega)|rfl) ?_
  refine iW rfl dI rfl rfl ?_
  refine lO rfl bI rfl .here (by first|exact bF (2) (by omega) (by omega)|exact cM (2) (by omega) (by omega)|exact cV (2) (by omega) (by omega)|rfl) ?_
  refine bw (k:=.u32) rfl .no rfl (.u rfl) (.u rfl) rfl (bw (k:=.u32) rfl .no rfl (.u rfl) (.u rfl) rfl (kV rfl qW (aB rfl (aB rfl aE)) (qJ _ 2 _ (by decide)) ?_))
  refine kV rfl qW (aB rfl (aB rfl aE)) (qJ _ 13 _ (by decide)) ?_
  refine bw (k:=.u32) rfl .no rfl (.u rfl) (.u rfl) rfl (kV rfl qW (aB rfl (aB rfl aE)) (qJ _ 22 _ (by decide)) ?_)
  refine bw (k:=.u32) rfl .no rfl (.u rfl) (.u rfl) rfl (bw (k:=.u32) rfl .no rfl (.u rfl) (.u rfl) rfl (.g (bw (k:=.u32) rfl .no rfl (.u rfl) (.u rfl) rfl (iW rfl dI rfl rfl ?_))))
  refine lO rfl bI rfl .here (by first|exact bF (0) (by omega) (by omega)|exact cM (0) (by omega) (by omega)|exact cV (0) (by omega) (by omega)|rfl) ?_
  refine iW rfl dI rfl rfl ?_
  refine lO rfl bI rfl .here (by first|exact bF (1) (by omega) (by omega)|exact cM (1) (by omega) (by omega)|exact cV (1) (by omega) (by omega)|rfl) ?_
  refine iW rfl dI rfl rfl ?_
  refine lO rfl bI rfl .here (by first|exact bF (2) (by omega) (by omega)|exact cM (2) (by omega) (by omega)|exact cV (2) (by omega) (by omega)|rfl) ?_
  refine iW rfl dI rfl rfl ?_
  refine lO rfl bI rfl .here (by first|exact bF (3) (by omega) (by omega)|exact cM (3) (by omega) (by omega)|exact cV (3) (by omega) (by omega)|rfl) ?_
  refine .p (bw (k:=.u32) rfl .no rfl (.u rfl) (.u rfl) rfl (iW rfl dI rfl rfl ?_))
  refine lO rfl bI rfl .here (by first|exact bF (4) (by omega) (by omega)|exact cM (4) (by omega) (by omega)|exact cV (4) (by omega) (by omega)|rfl) ?_
  refine iW rfl dI rfl rfl ?_
  refine lO rfl bI rfl .here (by first|exact bF (5) (by omega) (by omega)|exact cM (5) (by omega) (by omega)|exact cV (5) (by omega) (by omega)|rfl) ?_
  refine iW rfl dI rfl rfl ?_
  refine lO rfl bI rfl .here (by first|exact bF (6) (by omega) (by omega)|exact cM (6) (by omega) (by omega)|exact cV (6) (by omega) (by omega)|rfl) ?_
  refine dU (wa 8 (rR x (kW k) (iO (fun i=>xs.getD i 0) 48 k))) rfl .no aBz (.cons (.u rfl) rfl (.cons (.u rfl) rfl (.cons (.u rfl) rfl (.cons (.u rfl) rfl (.cons (.u rfl) rfl (.cons (.u rfl) rfl (.cons (.u rfl) rfl (.cons (.u rfl) rfl .nil)))))))) rfl (aP9 (y:=iO (fun i=>xs.getD i 0) 48) rfl _ _ (aP8 x _ _) (aQA x _ _)) ?_
  refine sW rfl rfl rfl rfl aAU .here ?_
  refine .g (aW (((k+1):Nat):Int) rfl rfl rfl rfl ?_)
  refine .g (aZ (k+1,rR x (kW k) (iO (fun i=>xs.getD i 0) 48 k)) ?_ ?_ ?_ ?_ ?_)
  ·exact (aO rfl (aA rfl (aA rfl (aA rfl (aA rfl eZ)))))
  ·exact (mS .here rfl (mS .here rfl (mS .here rfl (mS .here rfl mN))))
  ·first|omega|(dsimp only; omega)
  ·exact hGl0
  refine ⟨?_,?_⟩
  ·(try dsimp only)<;>(first|omega|rfl|assumption|(simp; done))
  (try dsimp only)<;>(rw [ex]; rfl)
 have c1k:=c1
 try simp only [aC,aD] at c1
 refine .exit (.xcode (.xlp (.xblk (.code (.seq (.seq (aM rfl rfl (aS rfl rfl (.nc (.block ?_))))))))))
 obtain rfl:k=64:=by omega
 refine bE (α:=Nat×(Nat→W)) (fun gh=>[(10,true,.int .i64 (gh.1:Int))]) (fun gh=>[.blk b6 (cl (wa 8 gh.2) 166)])
  (fun gh Gl=>(gh.1≤8)∧(gh.2=fun i=>if i<gh.1 then s i+x i else x i)) (fun gh=>8-gh.1) (0,x) [(2,true,_),(4,true,_),(6,true,_)] [_,_,_]
  (aO rfl (aA rfl (aA rfl (aA rfl eZ))))
  (mS .here rfl (mS .here rfl (mS .here rfl (mS .here rfl mN)))) ?_ ?_
 ·refine ⟨?_,?_⟩
  ·(try dsimp only)<;>(first|omega|rfl|assumption|(simp; done))
  (try dsimp only)<;>(funext i; simp)
 intro gh N1 Gl1 hN1 hGl1 hF1
 obtain ⟨q,z⟩:=gh; dsimp only at hF1 hN1 ⊢
 obtain ⟨hq,ez⟩:=hF1
 refine .g (cP rfl rfl rfl rfl (.g (cD rfl (fun c2=>?_) (fun c2=>?_))))
 ·have c2k:=c2
  try simp only [aC,aD] at c2
  refine .g (bG (mc:=⟨false,false⟩) [0,1,2,3,4,5,6,7,8,9] aV (by kernel_rfl) ?_)
  refine .p (iW rfl dI rfl rfl ?_)
  refine lO rfl bI rfl .here (by first|exact bF (q) (by omega) (by omega)|exact cM (q) (by omega) (by omega)|exact cV (q) (by omega) (by omega)|rfl) ?_
  refine .p (iW rfl dI rfl rfl ?_)
  refine lO rfl bI rfl bM (by first|exact bF (q) (by omega) (by omega)|exact cM (q) (by omega) (by omega)|exact cV (q) (by omega) (by omega)|rfl) ?_
  refine bw (k:=.u32) rfl .no rfl (.u rfl) (.u rfl) rfl (iW rfl dI rfl rfl ?_)
  refine s1 rfl (.u rfl) (.u rfl) rfl eC .here (by first|decide|(simp only [bO,aU,bJ]; omega)) (by first|exact cU (q) (by omega)|exact hH (q) (by omega)|exact mD (q) (by omega) (by omega)|rfl) ?_
  refine .g (aW (((q+1):Nat):Int) rfl rfl rfl rfl ?_)
  refine .g (aZ (q+1,bA z q (z q+s q)) ?_ ?_ ?_ ?_ ?_)
  ·exact (aO rfl (aA rfl (aA rfl (aA rfl eZ))))
  ·exact (mS .here rfl (mS .here rfl (mS .here rfl (mS .here rfl mN))))
  ·first|omega|(dsimp only; omega)
  ·exact hGl1
  refine ⟨?_,?_⟩
  ·(try dsimp only)<;>(first|omega|rfl|assumption|(simp; done))
  (try dsimp only)<;>(rw [ez]; exact aR5)
 have c2k:=c2
 try simp only [aC,aD] at c2
 refine .g (lB rfl aAI rfl .here ?_)
 refine sW rfl rfl rfl rfl aAU aT ?_
 refine .nil (.code (.ret (aP Tryz.results121 (.cell rfl (fun w hw=>bW aAI (RdN.own .here) ((by first|exact qE|exact qL|rfl)) hw) .nil) ?_)))
 obtain rfl:q=8:=by omega
 exact ⟨rfl,by rw [ez,ex,aJZ (f:=fun i=>if i<8 then s i+uO (iO (fun i=>xs.getD i 0) 48) s 64 i else uO (iO (fun i=>xs.getD i 0) 48) s 64 i) (f':=oM s (fun i=>xs.getD i 0)) (fun i hi=>by rw [if_pos hi]; rfl)]; rfl⟩
theorem aOm (xs:List Y) (h:Sh) (G:PM) (hs:SlR G 1 aL h xs) (hl:xs.length≤1000000000000):Ct Tryz.prog 120 ([h.val xs.length]:List Value).toArray G [] (PR 5 (fun L=>L=kH xs)):=by
 refine Ct.of Tryz.func120 rfl Tryz.ntmps120 rfl fun w0 hs0=>?_
 have hz:jD xs.length=(119-xs.length%64)%64:=rfl
 refine .seq (aM rfl rfl (aS rfl rfl (.nc (.seq (gH rfl rfl ?_)))))
 refine mM rfl aH ?_; intro b6
 refine .p (nW rfl aH aY (.u rfl) (.u rfl) .here hs.sc (by (try simp only [bJ,bB]); omega) ?_)
 intro v8 L8 _ ov8 eL8
 have lL8:L8.length=xs.length:=by rw [eL8]
 refine aS rfl rfl (.nc (.seq (gH rfl rfl (mV rfl rfl ?_))))
 refine Go.Tan.b1 rfl aH aY (.u rfl) rfl rfl (by decide) ?_; intro b10
 refine cF rfl aH aY (.u rfl) (.u rfl) aF (Sc.one (y:=128#8) .here) (by show _+1≤_; omega) ?_
 intro v11 L11 ov11 eL11
 have lL11:L11.length=L8.length+1:=by rw [eL11,List.length_append]; first|rfl | simp [bB]
 refine aS rfl rfl (.nc (.seq (.block ?_)))
 refine bE (α:=Nat×Value×List Y) (fun gh=>[(3,true,gh.2.1)]) (fun gh=>[rB gh.2.1 5 gh.2.2])
  (fun gh Gl=>(gh.1≤jD xs.length)∧(gh.2.2=xs++128#8 :: List.replicate gh.1 0#8)) (fun gh=>jD xs.length-gh.1) (0,_,_) [(0,true,_)] [_]
  (aA rfl (aA rfl eZ))
  (mS .here rfl (mS .here rfl mN)) ?_ ?_
 ·refine ⟨?_,?_⟩
  ·(try dsimp only)<;>(exact Nat.zero_le _)
  (try dsimp only)<;>(rw [eL11,eL8]; rfl)
 intro gh N0 Gl0 hN0 hGl0 hF0
 obtain ⟨j,v,L⟩:=gh; dsimp only at hF0 hN0 ⊢
 obtain ⟨hj,eL⟩:=hF0
 have lL:L.length=xs.length+1+j:=by rw [eL]; simp; omega
 refine .g (lr rfl .no bK (.u rfl) .here ?_)
 refine zM (L.length) (64) rfl .no (.u rfl) (.u rfl) (by omega) (by omega) (fun _=>by first|decide|omega) ?_
 refine cP rfl rfl rfl rfl (.g (cD rfl (fun c1=>?_) (fun c1=>?_)))
 ·have c1k:=c1
  try simp only [aC,aD] at c1
  refine .skip (.code (.block (gH rfl rfl (mV rfl rfl ?_))))
  refine Go.Tan.b1 rfl aH aY (.u rfl) rfl rfl (by decide) ?_; intro b17
  refine cF rfl aH aY (.u rfl) (.u rfl) aF (Sc.one (y:=0#8) .here) (by show _+1≤_; omega) ?_
  intro v18 L18 ov18 eL18
  have lL18:L18.length=L.length+1:=by rw [eL18,List.length_append]; first|rfl | simp [bB]
  refine .g (aZ (j+1,v18,L18) ?_ ?_ ?_ ?_ ?_)
  ·exact (aA rfl (aA rfl eZ))
  ·exact (mS .here rfl (mS aF rfl mN))
  ·(try dsimp only); omega
  ·exact hGl0
  refine ⟨?_,?_⟩
  ·(try dsimp only)<;>(omega)
  (try dsimp only)<;>(rw [eL18,eL,List.append_assoc,List.cons_append,←List.replicate_succ'])
 have c1k:=c1
 try simp only [aC,aD] at c1
 refine .g (lE rfl bK rfl (ci rfl .no rfl cW (.u rfl) ?_))
 refine bw (k:=.u64) (b:=8#64) rfl .no rfl (.u rfl) (.u rfl) rfl (aS rfl rfl (.nc (.seq (.seq (aM rfl rfl (aS rfl rfl (.nc (.block ?_))))))))
 refine bE (α:=Nat×Value×List Y) (fun gh=>[(3,true,gh.2.1),(5,true,.int .i64 (7-(gh.1:Int)))]) (fun gh=>[rB gh.2.1 5 gh.2.2])
  (fun gh Gl=>(gh.1≤8)∧(gh.2.2=xs++(128#8 :: List.replicate (jD xs.length) 0#8++qB xs.length gh.1))) (fun gh=>8-gh.1) (0,_,_) [(4,true,_)] [_]
  (aA rfl (aO rfl (aA rfl eZ)))
  (mS .here rfl (mS .here rfl mN)) ?_ ?_
 ·refine ⟨?_,?_⟩
  ·(try dsimp only)<;>(first|omega|rfl|assumption|(simp; done))
  (try dsimp only)<;>(rw [eL,show j=jD xs.length by omega]; simp [qB])
 intro gh N1 Gl1 hN1 hGl1 hF1
 obtain ⟨q,v,L⟩:=gh; dsimp only at hF1 hN1 ⊢
 obtain ⟨hq,eL⟩:=hF1
 have lL:L.length=xs.length+jD xs.length+1+q:=by rw [eL]; simp [aDI]; omega
 refine .g (cP rfl rfl rfl rfl (.g (cD rfl (fun c2=>?_) (fun c2=>?_))))
 ·have c2k:=c2
  try simp only [aC,aD] at c2
  refine .g (dR (((8*(7-q)):Nat):Int) rfl .no (.u rfl) (.u rfl) rfl (by omega) (fun _=>cB (by omega) (by omega)) ?_)
  refine iC (k:=.u64) rfl .no (.u rfl) (.u rfl) (by omega) ?_
  refine cu (k:=.u64) rfl .no rfl kU (.u rfl) ?_
  refine Go.Tan.b1 rfl aH aY (.u rfl) rfl rfl (by decide) ?_; intro b33
  refine cF rfl aH aY (.u rfl) (.u rfl) aF (Sc.one .here) (by show _+1≤_; omega) ?_
  intro v34 L34 ov34 eL34
  have lL34:L34.length=L.length+1:=by rw [eL34,List.length_append]; first|rfl | simp [bB]
  refine .g (aR rfl rfl rfl rfl ?_)
  refine .g (aZ (q+1,v34,L34) ?_ ?_ ?_ ?_ ?_)
  ·exact (aA rfl (aO rfl (aA rfl eZ)))
  ·exact (mS .here rfl (mS aF rfl mN))
  ·first|omega|(dsimp only; omega)
  ·exact hGl1
  refine ⟨?_,?_⟩
  ·(try dsimp only)<;>(first|omega|rfl|assumption|(simp; done))
  (try dsimp only)<;>(rw [eL34,eL,aG9,List.append_assoc,List.append_assoc,aNz (by omega)]; rfl)
 have c2k:=c2
 try simp only [aC,aD] at c2
 refine .exit (.xcode (.xlp (.xblk (.code (.seq (bD rfl rfl (mV rfl rfl (aS rfl rfl (.nc (.ret (We.fin Tryz.results120 (.tmp rfl .nil) (mS .here rfl mN) ?_)))))))))))
 obtain rfl:q=8:=by omega
 exact ⟨L,eL,rfl⟩
theorem zK (xs:List Y) (h:Sh) (G:PM) (hs:SlR G 1 aL h xs) (hR:RdNP G 0 0 (wa 64 kW)) (hl:xs.length≤1000000000000):Ct Tryz.prog 86 ([h.val xs.length]:List Value).toArray G [] (fun _ μ' u=>μ'=[]∧u=.agg (ba 32 (gN xs)).toArray):=by
 refine Ct.of Tryz.func86 rfl Tryz.ntmps86 rfl fun w0 hs0=>?_
 refine .seq (aM rfl rfl ?_)
 refine al rfl fT ?_; intro b2
 refine .g (kc rfl aSz (aB rfl aE) (iT (aOm xs h _ hs hl)) ?_)
 rintro v9 G9 μ9 hG9 ⟨L9,ov9,eL9,rfl⟩
 have hR:=hR.mono hG9
 refine aS rfl rfl (.nc (.seq ?_))
 refine iR .here (by first|(intro b hb; cases hb; done) | simp [keys,Res.keys]) ?_; intro GfR9 hR9 hleR9 evR9 hsR9; subst evR9
 have hR:=hR.mono hleR9
 subst eL9
 have lp:=aOl xs
 have lt:=aEC xs.length
 have hz:jD xs.length=(119-xs.length%64)%64:=rfl
 have lp2:(kH xs).length=xs.length+(jD xs.length+9):=by rw [kH,List.length_append,lt]
 refine .g (dU (wa 8 ivW) rfl .no aBz (.cons (.u rfl) rfl (.cons (.u rfl) rfl (.cons (.u rfl) rfl (.cons (.u rfl) rfl (.cons (.u rfl) rfl (.cons (.u rfl) rfl (.cons (.u rfl) rfl (.cons (.u rfl) rfl .nil)))))))) rfl (by rfl) ?_)
 refine al rfl aE5 ?_; intro b4
 refine sW rfl rfl rfl rfl aAU .here ?_
 refine .nil (.code (.seq (.seq (aM rfl rfl (aS rfl rfl (.nc (.block ?_)))))))
 refine bE (α:=Nat) (fun j=>[(5,true,.int .i64 ((64*j:Nat):Int))]) (fun j=>[.blk b4 (cl (wa 8 (fE (kH xs) j)) 166)])
  (fun j Gl=>(64*j≤(kH xs).length)) (fun j=>(kH xs).length-64*j) 0 [(2,true,_),(3,true,_),(4,true,_)] [_]
  (aO rfl (aA rfl (aA rfl (aA rfl eZ))))
  (mS .here rfl (mS .here rfl mN)) ?_ ?_
 ·(try dsimp only)<;>(first|omega|rfl|assumption|(simp; done))
 intro j N0 Gl0 hN0 hGl0 hF0
 try dsimp only at hF0 hN0 ⊢
 have hj:=hF0
 have hR:=hR.mono hGl0
 have hsR9:=hsR9.mono hGl0
 refine .g (lE rfl bK rfl (cP rfl rfl rfl rfl (.g (cD rfl (fun c1=>?_) (fun c1=>?_)))))
 ·have c1k:=c1
  try simp only [aC,aD] at c1
  refine .g (bG (mc:=⟨false,false⟩) [0,1,2,3,4,5,6,7] aV (by kernel_rfl) ?_)
  refine lB rfl aAI rfl .here ?_
  refine .p (dR (((((64*j:Nat))+64):Nat):Int) rfl .no (.u rfl) (.u rfl) rfl (by omega) (fun _=>cB (by omega) (by omega)) ?_)
  refine kS (((64*j:Nat))) ((((64*j:Nat))+64)) rfl .no aH hsR9 (.u rfl) (.u rfl) (.u rfl) (by omega) (by omega) (by omega) (by omega) ?_
  intro h22 L22 eL22 lL22 hs22
  have lL22:=lL22 rfl
  refine kV rfl aS0 (aB rfl (aB rfl aE)) (aPo (fE (kH xs) j) L22 h22 _ hs22 hR (by omega)) ?_
  refine sW rfl rfl rfl rfl aAU .here ?_
  refine .g (dR (((((64*j:Nat))+64):Nat):Int) rfl .no (.u rfl) (.u rfl) rfl (by omega) (fun _=>cB (by omega) (by omega)) ?_)
  refine .g (aZ (j+1) ?_ ?_ ?_ ?_ ?_)
  ·exact (aO rfl (aA rfl (aA rfl (aA rfl eZ))))
  ·exact (mS .here (aME eL22) (mS .here rfl mN))
  ·first|omega|(dsimp only; omega)
  ·exact hGl0
  (try dsimp only)<;>(first|omega|rfl|assumption|(simp; done))
 have c1k:=c1
 try simp only [aC,aD] at c1
 refine .exit (.xcode (.xlp (.xblk (.code (.seq (aM rfl rfl ?_))))))
 refine al rfl fT ?_; intro b6
 refine .nil (.code (.seq (.seq (aM rfl rfl (aS rfl rfl (.nc (.block ?_)))))))
 obtain rfl:j=(kH xs).length / 64:=by omega
 refine bE (α:=Nat×(Nat→Y)) (fun gh=>[(7,true,.int .i64 (gh.1:Int))]) (fun gh=>[.blk b6 (cl (ba 32 gh.2) 23)])
  (fun gh Gl=>(gh.1≤8)∧(gh.2=fQ (gN xs) (4*gh.1))) (fun gh=>8-gh.1) (0,fun _=>0#8) [(2,true,_),(4,true,_),(6,true,_)] [_,_]
  (aO rfl (aA rfl (aA rfl (aA rfl eZ))))
  (mS .here rfl (mS .here rfl (mS .here rfl mN))) ?_ ?_
 ·refine ⟨?_,?_⟩
  ·(try dsimp only)<;>(first|omega|rfl|assumption|(simp; done))
  (try dsimp only)<;>(first|omega|rfl|assumption|(simp; done))
 intro gh N1 Gl1 hN1 hGl1 hF1
 obtain ⟨i,f⟩:=gh; dsimp only at hF1 hN1 ⊢
 obtain ⟨hi,ef⟩:=hF1
 refine .g (cP rfl rfl rfl rfl (.g (cD rfl (fun c2=>?_) (fun c2=>?_))))
 ·have c2k:=c2
  try simp only [aC,aD] at c2
  refine .g (aW (((4*i):Nat):Int) rfl rfl rfl rfl ?_)
  refine .p (iW rfl dI rfl rfl ?_)
  refine lO rfl bI rfl aF (by first|exact bF (i) (by omega) (by omega)|exact cM (i) (by omega) (by omega)|exact cV (i) (by omega) (by omega)|rfl) ?_
  refine iC (k:=.u32) rfl .no (.u rfl) (.u rfl) (fun _=>by decide) ?_
  refine cu (k:=.u32) rfl .no rfl vA (.u rfl) ?_
  refine iW rfl gB rfl rfl ?_
  refine s1 rfl (.u rfl) (.u rfl) rfl fW .here (by first|decide|(simp only [bO,aU,bJ]; omega)) (by first|exact cU ((4*i)) (by omega)|exact hH ((4*i)) (by omega)|exact mD ((4*i)) (by omega) (by omega)|rfl) ?_
  refine .g (aW (((4*i):Nat):Int) rfl rfl rfl rfl ?_)
  refine dR ((((4*i)+1):Nat):Int) rfl .no (.u rfl) (.u rfl) rfl (by omega) (fun _=>cB (by omega) (by omega)) ?_
  refine .p (iW rfl dI rfl rfl ?_)
  refine lO rfl bI rfl aF (by first|exact bF (i) (by omega) (by omega)|exact cM (i) (by omega) (by omega)|exact cV (i) (by omega) (by omega)|rfl) ?_
  refine iC (k:=.u32) rfl .no (.u rfl) (.u rfl) (fun _=>by decide) ?_
  refine cu (k:=.u32) rfl .no rfl vA (.u rfl) ?_
  refine iW rfl gB rfl rfl ?_
  refine s1 rfl (.u rfl) (.u rfl) rfl fW .here (by first|decide|(simp only [bO,aU,bJ]; omega)) (by first|exact cU (((4*i)+1)) (by omega)|exact hH (((4*i)+1)) (by omega)|exact mD (((4*i)+1)) (by omega) (by omega)|rfl) ?_
  refine .g (aW (((4*i):Nat):Int) rfl rfl rfl rfl ?_)
  refine dR ((((4*i)+2):Nat):Int) rfl .no (.u rfl) (.u rfl) rfl (by omega) (fun _=>cB (by omega) (by omega)) ?_
  refine .p (iW rfl dI rfl rfl ?_)
  refine lO rfl bI rfl aF (by first|exact bF (i) (by omega) (by omega)|exact cM (i) (by omega) (by omega)|exact cV (i) (by omega) (by omega)|rfl) ?_
  refine iC (k:=.u32) rfl .no (.u rfl) (.u rfl) (fun _=>by decide) ?_
  refine cu (k:=.u32) rfl .no rfl vA (.u rfl) ?_
  refine iW rfl gB rfl rfl ?_
  refine s1 rfl (.u rfl) (.u rfl) rfl fW .here (by first|decide|(simp only [bO,aU,bJ]; omega)) (by first|exact cU (((4*i)+2)) (by omega)|exact hH (((4*i)+2)) (by omega)|exact mD (((4*i)+2)) (by omega) (by omega)|rfl) ?_
  refine .g (aW (((4*i):Nat):Int) rfl rfl rfl rfl ?_)
  refine dR ((((4*i)+3):Nat):Int) rfl .no (.u rfl) (.u rfl) rfl (by omega) (fun _=>cB (by omega) (by omega)) ?_
  refine .p (iW rfl dI rfl rfl ?_)
  refine lO rfl bI rfl aF (by first|exact bF (i) (by omega) (by omega)|exact cM (i) (by omega) (by omega)|exact cV (i) (by omega) (by omega)|rfl) ?_
  refine cu (k:=.u32) rfl .no rfl vA (.u rfl) ?_
  refine iW rfl gB rfl rfl ?_
  refine s1 rfl (.u rfl) (.u rfl) rfl fW .here (by first|decide|(simp only [bO,aU,bJ]; omega)) (by first|exact cU (((4*i)+3)) (by omega)|exact hH (((4*i)+3)) (by omega)|exact mD (((4*i)+3)) (by omega) (by omega)|rfl) ?_
  refine .g (aW (((i+1):Nat):Int) rfl rfl rfl rfl ?_)
  refine .g (aZ (i+1,bA (bA (bA (bA f (4*i) (gN xs (4*i))) (4*i+1) (gN xs (4*i+1))) (4*i+2) (gN xs (4*i+2))) (4*i+3) (gN xs (4*i+3))) ?_ ?_ ?_ ?_ ?_)
  ·exact (aO rfl (aA rfl (aA rfl (aA rfl eZ))))
  ·exact (mS .here (by rw [aQu,aBf xs i 1 (by decide),aBf xs i 2 (by decide),aBf xs i 3 (by decide)]; rfl) (mS .here rfl (mS .here rfl mN)))
  ·first|omega|(dsimp only; omega)
  ·exact hGl1
  refine ⟨?_,?_⟩
  ·(try dsimp only)<;>(first|omega|rfl|assumption|(simp; done))
  (try dsimp only)<;>(rw [ef]; rfl)
 have c2k:=c2
 try simp only [aC,aD] at c2
 refine .g (lB rfl cH rfl .here ?_)
 refine sW rfl rfl rfl rfl fH aT ?_
 refine .nil (.code (.ret (aP Tryz.results86 (.cell rfl (fun w hw=>bW cH (RdN.own .here) ((by first|exact qE|exact qL|rfl)) hw) .nil) ?_)))
 obtain rfl:i=8:=by omega
 exact ⟨rfl,by rw [ef,iJ (fun i hi=>(jU (gN xs) hi).symm)]; rfl⟩
theorem xO:aQ Tryz.prog 86=true:=by kernel_rfl
theorem aKf:aQ Tryz.prog 155=true:=by kernel_rfl
theorem tM:aQ Tryz.prog 51=true:=by kernel_rfl
theorem aEt:aQ Tryz.prog 139=true:=by kernel_rfl
theorem aSx:aQ Tryz.prog 118=true:=by kernel_rfl
theorem aSw:aQ Tryz.prog 117=true:=by kernel_rfl
theorem sL (n:BitVec 64) (many:Nat) (G:PM) (hm:many≤8):Ct Tryz.prog 51 ([uv .u64 n,.int .i64 (many:Int)]:List Value).toArray G [] (PR 5 (fun L=>L=cO n many)):=by
 refine Ct.of Tryz.func51 rfl Tryz.ntmps51 rfl fun w0 hs0=>?_
 refine .seq (aM rfl rfl (aS rfl rfl (.nc (.seq (aM rfl rfl (aS rfl rfl (.nc (.seq (.seq (tD 5 ?_))))))))))
 refine aM rfl rfl (aS rfl rfl (.nc (.block ?_)))
 refine bE (α:=Nat×Value×List Y×BitVec 64) (fun gh=>[(0,true,uv .u64 gh.2.2.2),(5,true,gh.2.1),(6,true,.int .i64 (gh.1:Int))]) (fun gh=>[rB gh.2.1 5 gh.2.2.1])
  (fun gh Gl=>(gh.1≤many)∧(gh.2.2.1=cO n gh.1)∧(gh.2.2.2=n >>> (8*gh.1))) (fun gh=>many-gh.1) (0,.slice none 0 0,[],n) [(1,true,_)] []
  (aA rfl (aA rfl (aO rfl (aA rfl eZ))))
  (mS .here rfl mN) ?_ ?_
 ·refine ⟨?_,?_,?_⟩
  ·(try dsimp only)<;>(first|omega|rfl|assumption|(simp; done))
  ·(try dsimp only)<;>(rfl)
  (try dsimp only)<;>(simp)
 intro gh N0 Gl0 hN0 hGl0 hF0
 obtain ⟨k,v,L,m⟩:=gh; dsimp only at hF0 hN0 ⊢
 obtain ⟨hk,eL,em⟩:=hF0
 have lL:L.length=k:=by rw [eL,gT]
 refine .g (cP rfl rfl rfl rfl (mV rfl rfl (mv rfl (.t rfl rfl) (.u rfl) (cp rfl (.t rfl rfl) (.s rfl) (.u rfl) rfl (cC rfl .no (.u rfl) (.s rfl) (.g (cD rfl (fun c1=>?_) (fun c1=>?_))))))))
 ·have c1k:=c1
  try simp only [aC,aI,aD] at c1
  refine .g (mw (k:=.u64) (b:=256#64) rfl .no (.u rfl) (.u rfl) (fun _=>show (256#64:BitVec 64)≠0#64 by decide) ?_)
  refine cu (k:=.u64) rfl .no rfl kU (.u rfl) ?_
  refine Go.Tan.b1 rfl aH aY (.u rfl) rfl rfl (by decide) ?_; intro b20
  refine cF rfl aH aY (.u rfl) (.u rfl) aF (Sc.one .here) (by show _+1≤_; omega) ?_
  intro v21 L21 ov21 eL21
  have lL21:L21.length=L.length+1:=by rw [eL21,List.length_append]; first|rfl | simp [bB]
  refine .g (dw (k:=.u64) (b:=256#64) rfl .no rfl (.u rfl) (.u rfl) (fun _=>show (256#64:BitVec 64)≠0#64 by decide) ?_)
  refine .g (aW (((k+1):Nat):Int) rfl rfl rfl rfl ?_)
  refine .g (aZ (k+1,v21,L21,m / 256#64) ?_ ?_ ?_ ?_ ?_)
  ·exact (aA rfl (aA rfl (aO rfl (aA rfl eZ))))
  ·exact (mS .here rfl mN)
  ·first|omega|(dsimp only; omega)
  ·exact hGl0
  refine ⟨?_,?_,?_⟩
  ·(try dsimp only)<;>(first|omega|rfl|assumption|(simp; done))
  ·(try dsimp only)<;>(rw [eL21,eL,em,aGc,←aMU]; rfl)
  (try dsimp only)<;>(rw [em,aGK,←BitVec.shiftRight_add]; rfl)
 have c1k:=c1
 try simp only [aC,aI,aD] at c1
 refine .exit (.xcode (.xlp (.xblk (.code (.seq (bD rfl rfl (mV rfl rfl (aS rfl rfl (.nc (.ret (We.fin Tryz.results51 (.tmp rfl .nil) (mS .here rfl mN) ?_)))))))))))
 obtain rfl:k=many:=by omega
 exact ⟨L,eL,rfl⟩
theorem aF9 (key:List Y) (h:Sh) (b:Y) (G:PM) (hs:SlR G 1 aL h key) (hR:RdNP G 0 0 (wa 64 kW)) (hl:key.length≤1000000000000):Ct Tryz.prog 155 ([h.val key.length,V b]:List Value).toArray G [] (PR 5 (fun L=>L=yl 64 (dY key b))):=by
 refine Ct.of Tryz.func155 rfl Tryz.ntmps155 rfl fun w0 hs0=>?_
 refine .g (lE rfl bK rfl (cP rfl rfl rfl rfl (.g (cD rfl (fun c1=>?_) (fun c1=>?_)))))
 ·have c1k:=c1
  try simp only [aC,aD] at c1
  have ek1:oF key=aBg key:=by unfold oF; rw [if_pos (by omega)]
  refine .g (kV rfl xO (aB rfl aE) (zK key h _ hs hR hl) ?_)
  refine al rfl fT ?_; intro b6
  refine sW rfl rfl rfl rfl fH .here ?_
  refine .nil (.code ?_)
  refine fS .here (by intro b hb; cases hb) ?_; intro Gfb6 hleb6 hbb6
  have hs:=hs.mono hleb6
  refine bD rfl rfl ?_
  refine kA rfl .no gB (.u rfl) hbb6 (by first|exact iY|exact gE|exact iX) ?_; intro h16 L16 eL16 lL16 hs16
  refine aS rfl rfl (.nil ?_)
  have ek1:oF key=L16:=by rw [ek1,eL16]; rfl
  refine .code (.seq (aM rfl rfl (aS rfl rfl (.nc (.seq (.seq (tD 5 ?_)))))))
  refine aM rfl rfl (aS rfl rfl (.nc (.block ?_)))
  refine bE (α:=Nat×Value×List Y) (fun gh=>[(7,true,gh.2.1),(8,true,.int .i64 (gh.1:Int))]) (fun gh=>[rB gh.2.1 5 gh.2.2])
   (fun gh Gl=>(gh.1≤64)∧(gh.2.2=yl gh.1 (dY key b))) (fun gh=>64-gh.1) (0,.slice none 0 0,[]) [(1,true,_),(5,true,_)] []
   (aA rfl (aO rfl (aA rfl (aA rfl eZ))))
   (mS .here rfl mN) ?_ ?_
  ·refine ⟨?_,?_⟩
   ·(try dsimp only)<;>(first|omega|rfl|assumption|(simp; done))
   (try dsimp only)<;>(rfl)
  intro gh N0 Gl0 hN0 hGl0 hF0
  obtain ⟨k,v,M⟩:=gh; dsimp only at hF0 hN0 ⊢
  obtain ⟨hk,eM⟩:=hF0
  have hs:=hs.mono hGl0
  have hs16:=hs16.mono hGl0
  have lM:M.length=k:=by rw [eM,bB]
  refine .g (cP rfl rfl rfl rfl (.g (cD rfl (fun c2=>?_) (fun c2=>?_))))
  ·have c2k:=c2
   try simp only [aC,aD] at c2
   refine .g (lE rfl bK rfl (cP rfl rfl rfl rfl (.g (cD rfl (fun c3=>?_) (fun c3=>?_)))))
   ·have c3k:=c3
    try simp only [aC,aD] at c3
    refine oK rfl rfl (mV rfl rfl (mV rfl rfl (ih rfl .no aH (.u rfl) (.u rfl) (by omega) (by omega) (fun _=>hs16.nn (k:=k) (by omega)) ?_)))
    refine lN rfl cA rfl ((hs16.yat (k) (by omega) (by omega)).rd) ?_
    refine .g (bw (k:=.u8) rfl .no rfl (.u rfl) (.u rfl) rfl ?_)
    refine Go.Tan.b1 rfl aH aY (.u rfl) rfl rfl (by decide) ?_; intro b33
    refine cF rfl aH aY (.u rfl) (.u rfl) aF (Sc.one .here) (by show _+1≤_; omega) ?_
    intro v34 L34 ov34 eL34
    have lL34:L34.length=M.length+1:=by rw [eL34,List.length_append]; first|rfl | simp [bB]
    refine .g (aW (((k+1):Nat):Int) rfl rfl rfl rfl ?_)
    refine .g (aZ (k+1,v34,L34) ?_ ?_ ?_ ?_ ?_)
    ·exact (aA rfl (aO rfl (aA rfl (aA rfl eZ))))
    ·exact (mS .here rfl mN)
    ·first|omega|(dsimp only; omega)
    ·exact hGl0
    refine ⟨?_,?_⟩
    ·(try dsimp only)<;>(first|omega|rfl|assumption|(simp; done))
    (try dsimp only)<;>(rw [eL34,eM,aBu,dY,ek1,if_pos (by omega),BitVec.xor_comm b]; rfl)
   have c3k:=c3
   try simp only [aC,aD] at c3
   refine .g (bw (k:=.u8) (a:=0#8) rfl .no rfl (.u rfl) (.u rfl) rfl ?_)
   refine Go.Tan.b1 rfl aH aY (.u rfl) rfl rfl (by decide) ?_; intro b33
   refine cF rfl aH aY (.u rfl) (.u rfl) aF (Sc.one .here) (by show _+1≤_; omega) ?_
   intro v34 L34 ov34 eL34
   have lL34:L34.length=M.length+1:=by rw [eL34,List.length_append]; first|rfl | simp [bB]
   refine .g (aW (((k+1):Nat):Int) rfl rfl rfl rfl ?_)
   refine .g (aZ (k+1,v34,L34) ?_ ?_ ?_ ?_ ?_)
   ·exact (aA rfl (aO rfl (aA rfl (aA rfl eZ))))
   ·exact (mS .here rfl mN)
   ·first|omega|(dsimp only; omega)
   ·exact hGl0
   refine ⟨?_,?_⟩
   ·(try dsimp only)<;>(first|omega|rfl|assumption|(simp; done))
   (try dsimp only)<;>(rw [eL34,eM,aBu,dY,ek1,if_neg (by omega)]; exact congrArg (fun z=>yl k (dY key b)++[z]) BitVec.zero_xor)
  have c2k:=c2
  try simp only [aC,aD] at c2
  refine .exit (.xcode (.xlp (.xblk (.code (.seq (bD rfl rfl (mV rfl rfl (aS rfl rfl (.nc (.ret (We.fin Tryz.results155 (.tmp rfl .nil) (mS .here rfl mN) ?_)))))))))))
  obtain rfl:k=64:=by omega
  exact ⟨M,eM,rfl⟩
 have c1k:=c1
 try simp only [aC,aD] at c1
 have ek2:oF key=key:=by unfold oF; rw [if_neg (by omega)]
 refine .skip (.code (.seq (aM rfl rfl (aS rfl rfl (.nc (.seq (.seq (tD 5 ?_))))))))
 refine aM rfl rfl (aS rfl rfl (.nc (.block ?_)))
 refine bE (α:=Nat×Value×List Y) (fun gh=>[(7,true,gh.2.1),(8,true,.int .i64 (gh.1:Int))]) (fun gh=>[rB gh.2.1 5 gh.2.2])
  (fun gh Gl=>(gh.1≤64)∧(gh.2.2=yl gh.1 (dY key b))) (fun gh=>64-gh.1) (0,.slice none 0 0,[]) [(1,true,_),(5,true,_)] []
  (aA rfl (aO rfl (aA rfl (aA rfl eZ))))
  (mS .here rfl mN) ?_ ?_
 ·refine ⟨?_,?_⟩
  ·(try dsimp only)<;>(first|omega|rfl|assumption|(simp; done))
  (try dsimp only)<;>(rfl)
 intro gh N1 Gl1 hN1 hGl1 hF1
 obtain ⟨k,v,M⟩:=gh; dsimp only at hF1 hN1 ⊢
 obtain ⟨hk,eM⟩:=hF1
 have hs:=hs.mono hGl1
 have lM:M.length=k:=by rw [eM,bB]
 refine .g (cP rfl rfl rfl rfl (.g (cD rfl (fun c4=>?_) (fun c4=>?_))))
 ·have c4k:=c4
  try simp only [aC,aD] at c4
  refine .g (lE rfl bK rfl (cP rfl rfl rfl rfl (.g (cD rfl (fun c5=>?_) (fun c5=>?_)))))
  ·have c5k:=c5
   try simp only [aC,aD] at c5
   refine oK rfl rfl (mV rfl rfl (mV rfl rfl (ih rfl .no aH (.u rfl) (.u rfl) (by omega) (by omega) (fun _=>hs.nn (k:=k) (by omega)) ?_)))
   refine lN rfl cA rfl ((hs.yat (k) (by omega) (by omega)).rd) ?_
   refine .g (bw (k:=.u8) rfl .no rfl (.u rfl) (.u rfl) rfl ?_)
   refine Go.Tan.b1 rfl aH aY (.u rfl) rfl rfl (by decide) ?_; intro b33
   refine cF rfl aH aY (.u rfl) (.u rfl) aF (Sc.one .here) (by show _+1≤_; omega) ?_
   intro v34 L34 ov34 eL34
   have lL34:L34.length=M.length+1:=by rw [eL34,List.length_append]; first|rfl | simp [bB]
   refine .g (aW (((k+1):Nat):Int) rfl rfl rfl rfl ?_)
   refine .g (aZ (k+1,v34,L34) ?_ ?_ ?_ ?_ ?_)
   ·exact (aA rfl (aO rfl (aA rfl (aA rfl eZ))))
   ·exact (mS .here rfl mN)
   ·first|omega|(dsimp only; omega)
   ·exact hGl1
   refine ⟨?_,?_⟩
   ·(try dsimp only)<;>(first|omega|rfl|assumption|(simp; done))
   (try dsimp only)<;>(rw [eL34,eM,aBu,dY,ek2,if_pos (by omega),BitVec.xor_comm b]; rfl)
  have c5k:=c5
  try simp only [aC,aD] at c5
  refine .g (bw (k:=.u8) (a:=0#8) rfl .no rfl (.u rfl) (.u rfl) rfl ?_)
  refine Go.Tan.b1 rfl aH aY (.u rfl) rfl rfl (by decide) ?_; intro b33
  refine cF rfl aH aY (.u rfl) (.u rfl) aF (Sc.one .here) (by show _+1≤_; omega) ?_
  intro v34 L34 ov34 eL34
  have lL34:L34.length=M.length+1:=by rw [eL34,List.length_append]; first|rfl | simp [bB]
  refine .g (aW (((k+1):Nat):Int) rfl rfl rfl rfl ?_)
  refine .g (aZ (k+1,v34,L34) ?_ ?_ ?_ ?_ ?_)
  ·exact (aA rfl (aO rfl (aA rfl (aA rfl eZ))))
  ·exact (mS .here rfl mN)
  ·first|omega|(dsimp only; omega)
  ·exact hGl1
  refine ⟨?_,?_⟩
  ·(try dsimp only)<;>(first|omega|rfl|assumption|(simp; done))
  (try dsimp only)<;>(rw [eL34,eM,aBu,dY,ek2,if_neg (by omega)]; exact congrArg (fun z=>yl k (dY key b)++[z]) BitVec.zero_xor)
 have c4k:=c4
 try simp only [aC,aD] at c4
 refine .exit (.xcode (.xlp (.xblk (.code (.seq (bD rfl rfl (mV rfl rfl (aS rfl rfl (.nc (.ret (We.fin Tryz.results155 (.tmp rfl .nil) (mS .here rfl mN) ?_)))))))))))
 obtain rfl:k=64:=by omega
 exact ⟨M,eM,rfl⟩
theorem aDn (key:List Y) (hk:Sh) (xs:List Y) (hx:Sh) (G:PM) (hsk:SlR G 1 aL hk key) (hs:SlR G 1 aL hx xs) (hR:RdNP G 0 0 (wa 64 kW)) (hlk:key.length≤1000) (hl:xs.length≤900000000000):Ct Tryz.prog 139 ([hk.val key.length,hx.val xs.length]:List Value).toArray G [] (fun _ μ' u=>μ'=[]∧u=.agg (ba 32 (pB key xs)).toArray):=by
 refine Ct.of Tryz.func139 rfl Tryz.ntmps139 rfl fun w0 hs0=>?_
 refine .seq (aM rfl rfl ?_)
 refine al rfl fT ?_; intro b4
 refine .g (kc rfl aKf (aB rfl (aB rfl aE)) (iT (aF9 key hk 54#8 _ hsk hR (by omega))) ?_)
 rintro v9 G9 μ9 hG9 ⟨L9,ov9,eL9,rfl⟩
 have hsk:=hsk.mono hG9
 have hs:=hs.mono hG9
 have hR:=hR.mono hG9
 refine aS rfl rfl (.nil ?_)
 have lL9:L9.length=64:=by rw [eL9,bB]
 refine .g (cF rfl aH aY (.u rfl) (.u rfl) .here hs.sc (by (try simp only [bJ,bB]); omega) ?_)
 intro v12 L12 ov12 eL12
 have lL12:L12.length=L9.length+xs.length:=by rw [eL12,List.length_append]
 refine aS rfl rfl (.nc (.seq ?_))
 refine iR .here (by first|(intro b hb; cases hb; done) | simp [keys,Res.keys]) ?_; intro GfR9 hR9 hleR9 evR9 hsR9; subst evR9
 have hsk:=hsk.mono hleR9
 have hR:=hR.mono hleR9
 refine .g (kV rfl xO (aB rfl aE) (zK L12 _ _ hsR9 hR (by omega)) ?_)
 refine al rfl fT ?_; intro b6
 refine sW rfl rfl rfl rfl fH .here ?_
 refine .g (kc rfl aKf (aB rfl (aB rfl aE)) (iT (aF9 key hk 92#8 _ hsk hR (by omega))) ?_)
 rintro v16 G16 μ16 hG16 ⟨L16,ov16,eL16,rfl⟩
 have hR:=hR.mono hG16
 refine aS rfl rfl (.nil ?_)
 have lL16:L16.length=64:=by rw [eL16,bB]
 refine .g (lY rfl .no gB (.u rfl) (cF rfl aH aY (.u rfl) (.u rfl) .here (Sc.arr aF) (by (try simp only [bJ,bB]); omega) ?_))
 intro v19 L19 ov19 eL19
 have lL19:L19.length=L16.length+32:=by rw [eL19,List.length_append]; first|rfl | simp [bB]
 refine aS rfl rfl (.nc (.seq ?_))
 refine iR .here (by first|(intro b hb; cases hb; done) | simp [keys,Res.keys]) ?_; intro GfR16 hR16 hleR16 evR16 hsR16; subst evR16
 have hR:=hR.mono hleR16
 refine .g (kV rfl xO (aB rfl aE) (zK L19 _ _ hsR16 hR (by omega)) ?_)
 refine sW rfl rfl rfl rfl fH aF ?_
 refine .nil (.code (.ret (aP Tryz.results139 (.cell rfl (fun w hw=>bW cH (RdN.own .here) ((by first|exact qE|exact qL|rfl)) hw) .nil) ?_)))
 exact ⟨rfl,by rw [eL19,eL16,eL12,eL9]; rfl⟩
theorem aPe (enc mac nonce:Nat→Y) (ad:List Y) (ha:Sh) (xs:List Y) (hx:Sh) (G:PM) (hsa:SlR G 1 aL ha ad) (hsx:SlR G 1 aL hx xs) (hR:RdNP G 0 0 (wa 64 kW)) (hla:ad.length≤209715200000) (hl:xs.length≤209715200000):Ct Tryz.prog 118 ([.agg (ba 32 enc++ba 32 mac).toArray,.agg (ba 12 nonce).toArray,ha.val ad.length,hx.val xs.length]:List Value).toArray G [] (PR 5 (fun L=>L=yl 16 (sZ mac nonce ad xs))):=by
 refine Ct.of Tryz.func118 rfl Tryz.ntmps118 rfl fun w0 hs0=>?_
 refine .seq (eH rfl rfl ?_)
 refine bX rfl rfl rfl ?_; intro b4
 refine bX rfl rfl rfl ?_; intro b5
 refine .g (lE rfl bK rfl (ci rfl .no rfl cW (.u rfl) ?_))
 refine kc rfl tM (aB rfl (aB rfl aE)) (iT (sL _ 8 _ (by decide))) ?_
 rintro v14 G14 μ14 hG14 ⟨L14,ov14,eL14,rfl⟩
 have hsa:=hsa.mono hG14
 have hsx:=hsx.mono hG14
 have hR:=hR.mono hG14
 refine aS rfl rfl (.nil ?_)
 have lL14:L14.length=8:=by rw [eL14]; exact gT _ 8
 refine .g (cF rfl aH aY (.u rfl) (.u rfl) .here hsa.sc (by (try simp only [bJ,bB]); omega) ?_)
 intro v17 L17 ov17 eL17
 have lL17:L17.length=L14.length+ad.length:=by rw [eL17,List.length_append]
 refine .g (lY rfl .no aBx (.u rfl) (cF rfl aH aY (.u rfl) (.u rfl) .here (Sc.arr aF) (by (try simp only [bJ,bB]); omega) ?_))
 intro v20 L20 ov20 eL20
 have lL20:L20.length=L17.length+12:=by rw [eL20,List.length_append]; first|rfl | simp [bB]
 refine .g (cF rfl aH aY (.u rfl) (.u rfl) .here hsx.sc (by (try simp only [bJ,bB]); omega) ?_)
 intro v23 L23 ov23 eL23
 have lL23:L23.length=L20.length+xs.length:=by rw [eL23,List.length_append]
 refine aS rfl rfl (.nc (.seq ?_))
 refine fS aT (by intro b hb; cases hb) ?_; intro Gfb4 hleb4 hbb4
 have hR:=hR.mono hleb4
 refine iR .here (by first|(intro b hb; cases hb; done) | simp [keys,Res.keys]) ?_; intro GfR14 hR14 hleR14 evR14 hsR14; subst evR14
 have hR:=hR.mono hleR14
 have hbb4:=hbb4.mono hleR14
 refine .g (fA rfl aEm rfl ?_)
 refine kA rfl .no tG (.u rfl) hbb4 (by first|exact iY|exact gE|exact iX) ?_; intro h25 L25 eL25 lL25 hs25
 refine .p (kV rfl aEt (aB rfl (aB rfl aE)) (aDn L25 h25 L23 _ _ hs25 hsR14 hR (by omega) (by omega)) ?_)
 refine al rfl fT ?_; intro b10
 refine sW rfl rfl rfl rfl fH .here ?_
 refine .nil (.code (.seq (gH rfl rfl ?_)))
 refine mM rfl aH ?_; intro b28
 refine sah rfl .no gB (.u rfl) (.u rfl) (fun _=>by first|decide|omega) (fun _=>by first|decide|omega) ?_
 skip
 refine nW rfl aH aY (.u rfl) (.u rfl) .here (aLF aF (by decide)) (by (try simp only [bJ,bB]); omega) ?_
 intro v30 L30 _ ov30 eL30
 have lL30:L30.length=16:=by rw [eL30]; first|rfl | simp [bB]
 refine aS rfl rfl (.nc (.ret (We.fin Tryz.results118 (.tmp rfl .nil) (mS .here rfl mN) ?_)))
 exact ⟨L30,by rw [eL30,eL23,eL20,eL17,eL14,eL25]; rfl,rfl⟩
theorem aPT (key nonce:Nat→Y) (count:W) (h:Sh) (xs:List Y) (G:PM) (hs:SlR G 1 aL h xs) (hl:xs.length≤140737488351232):Ct Tryz.prog 117 ([.agg (ba 32 key).toArray,.agg (ba 12 nonce).toArray,U count,h.val xs.length]:List Value).toArray G [] (PR 5 (fun L=>L=iZ key nonce count xs)):=by
 refine Ct.of Tryz.func117 rfl Tryz.ntmps117 rfl fun w0 hs0=>?_
 refine .seq (eH rfl rfl ?_)
 refine bX rfl rfl rfl ?_; intro b4
 refine bX rfl rfl rfl ?_; intro b5
 refine aS rfl rfl (.nc (.seq (aM rfl rfl (aS rfl rfl (.nc (.seq (aM rfl rfl ?_)))))))
 refine al rfl rA ?_; intro b10
 refine .nil (.code (.seq (.seq (aM rfl rfl (aS rfl rfl (.nc (.block (aBq 5 1 ?_))))))))
 refine bE (α:=Nat×Value) (fun gh=>[(9,true,gh.2),(11,true,.int .i64 (gh.1:Int))]) (fun gh=>[.row gh.2 5 1 gh.1 (ba gh.1 (pX key nonce count xs)),.blk b10 (cl (ba 64 (aDO key nonce count gh.1)) 188)])
  (fun gh Gl=>gh.1≤xs.length) (fun gh=>xs.length-gh.1) (0,.slice none 0 0) [(2,true,_),(3,true,_),(4,true,_),(5,true,_),(10,true,_)] [.blk b5 _,.blk b4 _]
  (aA rfl (aA rfl (aA rfl (aA rfl (aA rfl (aA rfl (aA rfl eZ)))))))
  (mS .here rfl (mS .here rfl (mS .here rfl (mS .here rfl mN)))) ?_ ?_
 ·show 0≤xs.length; omega
 intro gh N0 Gl0 hN0 hGl0 hF0
 obtain ⟨k,v⟩:=gh; dsimp only at hF0 hN0 ⊢
 have hk:k≤xs.length:=hF0
 refine .g (lE rfl bK rfl (cP rfl rfl rfl rfl (.g (cD rfl (fun c1=>?_) (fun c1=>?_)))))
 ·have c1k:=c1
  try simp only [aC] at c1
  refine .g (rm rfl .no (.u rfl) (.u rfl) (fun _=>by decide) ?_)
  refine cP rfl rfl rfl rfl (.g (cD rfl (fun c2=>?_) (fun c2=>?_)))
  ·have c2k:=c2
   try simp only [aC] at c2
   refine .g (lB rfl uY rfl bM ?_)
   refine lB rfl aJ1 rfl aT ?_
   refine .p (qu rfl .no (.u rfl) (.u rfl) (fun _=>by decide) ?_)
   refine ci rfl .no rfl aEd (.u rfl) ?_
   refine bw (k:=.u32) rfl .no rfl (.u rfl) (.u rfl) rfl (kV rfl aS7 (aB rfl (aB rfl (aB rfl aE))) (aPS _ _ _ _) ?_)
   refine sw rfl (.u rfl) (.u rfl) rfl jL aF ((aU _ _).trans (aU _ _).symm) (dW _ _) ?_
   refine .nil ?_
   simp only [aPE (x:=(k:Int)) k rfl (by omega),BitVec.ofInt_natCast]
   refine .code (bG (mc:=⟨false,false⟩) [0,1,2,3,4,5,6,7,8,9,10,11,12] aV (by kernel_rfl) ?_)
   refine mV rfl rfl (mV rfl rfl (mV rfl rfl (ih rfl .no aH (.u rfl) (.u rfl) (by omega) (by omega) (fun _=>hs.nn (k:=k) (by omega)) ?_)))
   refine lN rfl cA rfl (((hs.mono hGl0).yat k (by omega) (by omega)).rd) ?_
   refine .p (rm rfl .no (.u rfl) (.u rfl) (fun _=>by decide) ?_)
   refine iA rfl .no jE (.u rfl) (.u rfl) (fun _=>by rw [uT k rfl]; omega) (fun _=>by rw [uT k rfl]; omega) ?_
   refine lO rfl cA rfl .here (cM (k%64) (by rw [uT k rfl]; omega) (by omega)) ?_
   refine bw (k:=.u8) rfl .no rfl (.u rfl) (.u rfl) rfl ?_
   refine Go.Tan.b1 rfl aH aY (.u rfl) rfl rfl (by decide) ?_; intro b39
   refine ap rfl aH aY rfl (.u rfl) (.u rfl) aT (rfl) (fun _=>⟨_,_,rfl,RdN.own .here⟩) (fun u hu=>by rw [List.mem_singleton.1 hu]; rfl) (by omega) (by unfold maxLen; omega) ?_; intro v40
   refine .g (aR rfl rfl rfl rfl ?_)
   refine .g (aZ (k+1,v40) ?_ ?_ ?_ ?_ ?_)
   ·exact (aA rfl (aA rfl (aA rfl (aA rfl (aA rfl (aA rfl (aA rfl eZ)))))))
   ·exact (mS .here (aF6 rfl) (mS aF rfl (mS aF rfl (mS aF rfl mN))))
   ·first|omega|(dsimp only; omega)
   ·exact hGl0
   show k+1≤xs.length; omega
  have c2k:=c2
  try simp only [aC] at c2
  refine .g (bG (mc:=⟨false,false⟩) [0,1,2,3,4,5,6,7,8,9,10,11,12] aV (by kernel_rfl) ?_)
  refine mV rfl rfl (mV rfl rfl (mV rfl rfl (ih rfl .no aH (.u rfl) (.u rfl) (by omega) (by omega) (fun _=>hs.nn (k:=k) (by omega)) ?_)))
  refine lN rfl cA rfl (((hs.mono hGl0).yat k (by omega) (by omega)).rd) ?_
  refine .p (rm rfl .no (.u rfl) (.u rfl) (fun _=>by decide) ?_)
  refine iA rfl .no jE (.u rfl) (.u rfl) (fun _=>by rw [uT k rfl]; omega) (fun _=>by rw [uT k rfl]; omega) ?_
  refine lO rfl cA rfl aF (cM (k%64) (by rw [uT k rfl]; omega) (by omega)) ?_
  refine bw (k:=.u8) rfl .no rfl (.u rfl) (.u rfl) rfl ?_
  refine Go.Tan.b1 rfl aH aY (.u rfl) rfl rfl (by decide) ?_; intro b39
  refine ap rfl aH aY rfl (.u rfl) (.u rfl) aF (rfl) (fun _=>⟨_,_,rfl,RdN.own .here⟩) (fun u hu=>by rw [List.mem_singleton.1 hu]; rfl) (by omega) (by unfold maxLen; omega) ?_; intro v40
  refine .g (aR rfl rfl rfl rfl ?_)
  refine .g (aZ (k+1,v40) ?_ ?_ ?_ ?_ ?_)
  ·exact (aA rfl (aA rfl (aA rfl (aA rfl (aA rfl (aA rfl (aA rfl eZ)))))))
  ·exact (mS .here (aF6 (aHR c2k)) (mS aF (by rw [aHR c2k]; rfl) (mS aF rfl (mS aF rfl mN))))
  ·first|omega|(dsimp only; omega)
  ·exact hGl0
  show k+1≤xs.length; omega
 have c1k:=c1
 try simp only [aC] at c1
 refine .exit (.xcode (.xlp (.xblk (.code (.seq (bD rfl rfl (mV rfl rfl (aS rfl rfl (.nc (.ret ?_))))))))))
 obtain rfl:k=xs.length:=by omega
 refine We.fin Tryz.results117 (.tmp rfl .nil) (mS .here rfl mN) ?_
 exact ⟨iZ key nonce count xs,rfl,by simp only [rB,iZ,bB,aEP]; rfl⟩
theorem aPc (enc mac nonce:Nat→Y) (ad:List Y) (ha:Sh) (xs:List Y) (hx:Sh) (G:PM) (hsa:SlR G 1 aL ha ad) (hsx:SlR G 1 aL hx xs) (hR:RdNP G 0 0 (wa 64 kW)) (hla:ad.length≤209715200000) (hl:xs.length≤209715200000):Ct Tryz.prog 130 ([.agg (ba 32 enc++ba 32 mac).toArray,.agg (ba 12 nonce).toArray,ha.val ad.length,hx.val xs.length]:List Value).toArray G [] (fun _ μ' u=>∃ v L e,OpenR (oI enc mac nonce ad xs) L e∧μ'=[rB v 5 L]∧u=.tuple #[v,.int .i64 e]):=by
 refine Ct.of Tryz.func130 rfl Tryz.ntmps130 rfl fun w0 hs0=>?_
 refine .seq (gH rfl rfl ?_)
 refine bX rfl rfl rfl ?_; intro b4
 refine bX rfl rfl rfl ?_; intro b5
 refine .g (lE rfl bK rfl (aR rfl rfl rfl rfl ?_))
 refine aS rfl rfl (.nc (.seq (.seq ?_)))
 by_cases h16:xs.length<16
 ·refine bG (mc:=⟨false,false⟩) [0,1,2,3,4,5,6,7,8,11,12,13,14,9,10,15,16] aV (by kernel_rfl) ?_
  refine .p (cP rfl rfl rfl rfl (mE true (decide_eq_true (by omega)) ?_))
  refine mV rfl rfl (oN (.bool false) rfl rfl (Gd.f (b:=true) rfl rfl) ?_)
  refine oN (.bool false) rfl rfl (Gd.f (b:=true) rfl rfl) ?_
  refine gO (.bool false) rfl rfl (Gd.f (b:=true) rfl rfl) ?_
  refine gO (.bool false) rfl rfl (Gd.f (b:=true) rfl rfl) ?_
  refine gO (.bool false) rfl rfl (Gd.f (b:=true) rfl rfl) ?_
  refine gO (.bool false) rfl rfl (Gd.f (b:=true) rfl rfl) ?_
  refine gO (.bool false) rfl rfl (Gd.f (b:=true) rfl rfl) ?_
  refine gO (.bool false) rfl rfl (Gd.f (b:=true) rfl rfl) ?_
  refine gO (.bool false) rfl rfl (Gd.f (b:=true) rfl rfl) ?_
  refine oN (.bool false) rfl rfl (Gd.f (b:=true) rfl rfl) ?_
  refine skc (.bool false) rfl rfl (Gd.f (b:=true) rfl rfl) ?_
  refine oN (.bool false) rfl rfl (Gd.f (b:=true) rfl rfl) ?_
  refine gO (.bool false) rfl rfl (Gd.f (b:=true) rfl rfl) ?_
  refine cL rfl .no (.u rfl) (.s rfl) (.g (cD rfl (fun c1=>?_) (fun c1=>?_)))
  ·have c1k:=c1
   try simp only [aC,aD] at c1
   refine .seq (bD rfl rfl (aS rfl rfl (aS rfl rfl (.nc (.ret (jW 5 ?_))))))
   refine We.fin Tryz.results130 (.tmp rfl (.tmp rfl .nil)) (mS .here rfl mN) ?_
   rw [aHb h16]; exact ⟨_,[],60,.inr ⟨rfl,rfl,rfl⟩,rfl,rfl⟩
  have c1k:=c1
  exact absurd c1 (by simp)
 refine bG (mc:=⟨false,false⟩) [0,1,2,3,4,5,6,7,8,11,12,13,14,9,10,15,16] aV (by kernel_rfl) ?_
 refine .p (cP rfl rfl rfl rfl (mE false (decide_eq_false (by omega)) ?_))
 refine .p (lA rfl (Gd.f (b:=false) rfl rfl) pM (.u rfl) (fun _=>RdN.own aF) (fun _=>(by first|exact qE|exact qL|rfl)) ?_)
 refine lA rfl (Gd.f (b:=false) rfl rfl) qP (.u rfl) (fun _=>RdN.own .here) (fun _=>(by first|exact qE|exact qL|rfl)) ?_
 refine mv rfl (Gd.f (b:=false) rfl rfl) (.u rfl) (mv rfl (Gd.f (b:=false) rfl rfl) (.u rfl) (mv rfl (Gd.f (b:=false) rfl rfl) (.u rfl) (kE ((xs.length-16)) rfl (Gd.f (b:=false) rfl rfl) aH hsx (.u rfl) (.u rfl) (by omega) (by omega) ?_)))
 intro h22 L22 eL22 lL22 hs22
 have lL22:=lL22 rfl
 refine mv rfl (Gd.f (b:=false) rfl rfl) (.u rfl) (mv rfl (Gd.f (b:=false) rfl rfl) (.u rfl) (kD ((xs.length-16)) rfl (Gd.f (b:=false) rfl rfl) aH hsx (.u rfl) (.u rfl) (by omega) (by omega) ?_))
 intro h27 L27 eL27 lL27 hs27
 have lL27:=lL27 rfl
 refine sB rfl (Gd.f (b:=false) rfl rfl) jX (.u rfl) (fun _=>hs27.sc) ?_
 refine kcg rfl (Gd.f (b:=false) rfl rfl) aSx (aB rfl (aB rfl (aB rfl (aB rfl aE)))) (Ct.frzB (aPe enc mac nonce ad ha L22 h22 _ hsa hs22 hR hla (by omega))) ?_
 rintro _ G23 μ23 hG23 ⟨h23,L23,eL23,rfl,rfl,hs23⟩
 have hsx:=hsx.mono hG23
 refine sB rfl (Gd.f (b:=false) rfl rfl) jX (.u rfl) (fun _=>hs23.sc) ?_
 refine cbn rfl (Gd.f (b:=false) rfl rfl) (.u rfl) (.u rfl) ?_
 refine cL rfl .no (.u rfl) (.u rfl) (.g (cD rfl (fun c2=>?_) (fun c2=>?_)))
 ·have c2k:=c2
  try simp only [aC,aD] at c2
  refine .seq (bD rfl rfl (aS rfl rfl (aS rfl rfl (.nc (.ret (jW 5 ?_))))))
  refine We.fin Tryz.results130 (.tmp rfl (.tmp rfl .nil)) (mS .here rfl mN) ?_
  rw [aHa (by omega) (by rw [← eL22,←eL27,←eL23]; simpa using c2)]; exact ⟨_,[],60,.inr ⟨rfl,rfl,rfl⟩,rfl,rfl⟩
 have c2k:=c2
 try simp only [aC,aD] at c2
 refine .g (bG (mc:=⟨false,false⟩) [0,1,2,3,4,5,6,7,8] aV (by kernel_rfl) ?_)
 refine fZ rfl aB2 rfl (lA rfl .no uY (.u rfl) (fun _=>RdN.part (n:=32) (cs':=ba 32 enc) aF (gE)) (fun _=>(by first|exact qE|exact qL|rfl)) ?_)
 refine lB rfl qP rfl .here ?_
 refine .p (kE ((xs.length-16)) rfl .no aH hsx (.u rfl) (.u rfl) (by omega) (by omega) ?_)
 intro h36 L36 eL36 lL36 hs36
 have lL36:=lL36 rfl
 refine kc rfl aSw (aB rfl (aB rfl (aB rfl (aB rfl aE)))) (iT (aPT enc nonce 1#32 h36 L36 _ hs36 (by omega))) ?_
 rintro v37 G37 μ37 hG37 ⟨L37,ov37,eL37,rfl⟩
 refine aS rfl rfl (aS rfl rfl (.nc (.ret (We.fin Tryz.results130 (.tmp rfl (.tmp rfl .nil)) (mS .here rfl mN) ?_))))
 rw [aDW (by omega) (by rw [← eL22,←eL27,←eL23]; simpa using c2),←eL36]; exact ⟨v37,L37,0,.inl ⟨by rw [eL37],rfl⟩,rfl,rfl⟩
theorem aKZ:aQ Tryz.prog 144=true:=by kernel_rfl
theorem aS1:aQ Tryz.prog 126=true:=by kernel_rfl
theorem aHP (x:W) (G:PM):Ct Tryz.prog 144 ([U x]:List Value).toArray G [] (fun _ μ' u=>μ'=[]∧u=U (qA 4 x)):=by
 refine Ct.of Tryz.func144 rfl Tryz.ntmps144 rfl fun w0 hs0=>?_
 refine .seq (aM rfl rfl (aS rfl rfl (.nc (.seq (.seq (aM rfl rfl (mV rfl rfl (.nc (.block ?_)))))))))
 refine bE (α:=Nat×W) (fun gh=>[(0,true,U gh.2),(3,true,.int .i64 (gh.1:Int))]) (fun _=>[])
  (fun gh Gl=>(gh.1≤4)∧(gh.2=qA gh.1 x)) (fun gh=>4-gh.1) (0,x) [] []
  (aA rfl (aO rfl eZ))
  mN ?_ ?_
 ·refine ⟨?_,?_⟩
  ·(try dsimp only)<;>(first|omega|rfl|assumption|(simp; done))
  (try dsimp only)<;>(first|omega|rfl|assumption|(simp; done))
 intro gh N0 Gl0 hN0 hGl0 hF0
 obtain ⟨k,y⟩:=gh; dsimp only at hF0 hN0 ⊢
 obtain ⟨hk,ey⟩:=hF0
 refine .g (cP rfl rfl rfl rfl (.g (cD rfl (fun c1=>?_) (fun c1=>?_))))
 ·have c1k:=c1
  try simp only [aC,aD] at c1
  refine .g (iC (k:=.u32) rfl .no (.u rfl) (.u rfl) (fun _=>by decide) ?_)
  refine .p (bw (k:=.u32) (b:=1#32) rfl .no rfl (.u rfl) (.u rfl) rfl (nw (k:=.u32) rfl .no rfl (.u rfl) ?_))
  refine bw (k:=.u32) (a:=2197175160#32) rfl .no rfl (.u rfl) (.u rfl) rfl (bw (k:=.u32) rfl .no rfl (.u rfl) (.u rfl) rfl (.g (aW (((k+1):Nat):Int) rfl rfl rfl rfl ?_)))
  refine .g (aZ (k+1,aGp y) ?_ ?_ ?_ ?_ ?_)
  ·exact (aA rfl (aO rfl eZ))
  ·exact mN
  ·first|omega|(dsimp only; omega)
  ·exact hGl0
  refine ⟨?_,?_⟩
  ·(try dsimp only)<;>(first|omega|rfl|assumption|(simp; done))
  (try dsimp only)<;>(rw [ey]; rfl)
 have c1k:=c1
 try simp only [aC,aD] at c1
 refine .exit (.xcode (.xlp (.xblk (.code (.seq (bD rfl rfl (mV rfl rfl (aS rfl rfl (.nc (.ret (aP Tryz.results144 (.tmp rfl .nil) ?_)))))))))))
 obtain rfl:k=4:=by omega
 exact ⟨rfl,by rw [ey]; rfl⟩
theorem aMj (sum:W) (xs:List Y) (h:Sh) (G:PM) (hs:SlR G 1 aL h xs) (hl:xs.length≤9000000000000000000):Ct Tryz.prog 126 ([U sum,h.val xs.length]:List Value).toArray G [] (fun _ μ' u=>μ'=[]∧u=U (nY sum xs)):=by
 refine Ct.of Tryz.func126 rfl Tryz.ntmps126 rfl fun w0 hs0=>?_
 refine .g (xw (k:=.u32) rfl .no rfl (.u rfl) ?_)
 refine .g (lE rfl bK rfl (mV rfl rfl (.nc (.block ?_))))
 refine bE (α:=Nat×W) (fun gh=>[(5,true,U gh.2),(12,true,.int .i64 (gh.1:Int))]) (fun _=>[])
  (fun gh Gl=>(gh.1≤xs.length)∧(gh.2=(xs.take gh.1).foldl yN (~~~sum))) (fun gh=>xs.length-gh.1) (0, ~~~sum) [(10,true,_),(11,true,_)] []
  (aA rfl (aO rfl (aA rfl (aA rfl eZ))))
  mN ?_ ?_
 ·refine ⟨?_,?_⟩
  ·(try dsimp only)<;>(first|omega|rfl|assumption|(simp; done))
  (try dsimp only)<;>(first|omega|rfl|assumption|(simp; done))
 intro gh N0 Gl0 hN0 hGl0 hF0
 obtain ⟨k,x⟩:=gh; dsimp only at hF0 hN0 ⊢
 obtain ⟨hk,ex⟩:=hF0
 have hs:=hs.mono hGl0
 refine .g (cP rfl rfl rfl rfl (.g (cD rfl (fun c1=>?_) (fun c1=>?_))))
 ·have c1k:=c1
  try simp only [aC,aD] at c1
  refine .skip (.code (.seq (.block (.seq (eH rfl rfl (ih rfl .no aH (.u rfl) (.u rfl) (by omega) (by omega) (fun _=>hs.nn (k:=k) (by omega)) ?_))))))
  refine lN rfl cA rfl ((hs.yat (k) (by omega) (by omega)).rd) ?_
  refine .g (cu (k:=.u8) rfl .no rfl pO (.u rfl) ?_)
  refine bw (k:=.u32) rfl .no rfl (.u rfl) (.u rfl) rfl (kV rfl aKZ (aB rfl aE) (aHP _ _) ?_)
  refine kV rfl aKZ (aB rfl aE) (aHP _ _) ?_
  refine .g (aW (((k+1):Nat):Int) rfl rfl rfl rfl ?_)
  refine .g (aZ (k+1,qA 4 (qA 4 (x ^^^ (xs.getD k 0).setWidth 32))) ?_ ?_ ?_ ?_ ?_)
  ·exact (aA rfl (aO rfl (aA rfl (aA rfl eZ))))
  ·exact mN
  ·first|omega|(dsimp only; omega)
  ·exact hGl0
  refine ⟨?_,?_⟩
  ·(try dsimp only)<;>(first|omega|rfl|assumption|(simp; done))
  (try dsimp only)<;>(rw [aNH (by omega),←ex,aNX]; rfl)
 have c1k:=c1
 try simp only [aC,aD] at c1
 refine .g (xw (k:=.u32) rfl .no rfl (.u rfl) ?_)
 refine aS rfl rfl (.nc (.ret (aP Tryz.results126 (.tmp rfl .nil) ?_)))
 obtain rfl:k=xs.length:=by omega
 exact ⟨rfl,by rw [ex,List.take_length]; rfl⟩
theorem aMk (ps:List (Sh×List Y)) (h:Sh) (G:PM) (hs:SlP G h ps) (hl:(cN ps).length≤9000000000000000000) (hn:ps.length≤1000):Ct Tryz.prog 99 ([h.val ps.length]:List Value).toArray G [] (fun _ μ' u=>μ'=[]∧u=U (nY 0#32 (cN ps))):=by
 refine Ct.of Tryz.func99 rfl Tryz.ntmps99 rfl fun w0 hs0=>?_
 refine .g (lE rfl xP rfl (mV rfl rfl (.nc (.block ?_))))
 refine bE (α:=Nat×W) (fun gh=>[(3,true,U gh.2),(8,true,.int .i64 (gh.1:Int))]) (fun _=>[])
  (fun gh Gl=>(gh.1≤ps.length)∧(gh.2=nY 0#32 (cN (ps.take gh.1)))) (fun gh=>ps.length-gh.1) (0,0#32) [(6,true,_),(7,true,_)] []
  (aA rfl (aO rfl (aA rfl (aA rfl eZ))))
  mN ?_ ?_
 ·refine ⟨?_,?_⟩
  ·(try dsimp only)<;>(first|omega|rfl|assumption|(simp; done))
  (try dsimp only)<;>(simp [cN,aMm])
 intro gh N0 Gl0 hN0 hGl0 hF0
 obtain ⟨k,x⟩:=gh; dsimp only at hF0 hN0 ⊢
 obtain ⟨hk,ex⟩:=hF0
 have hs:=hs.mono hGl0
 refine .g (cP rfl rfl rfl rfl (.g (cD rfl (fun c1=>?_) (fun c1=>?_))))
 ·have c1k:=c1
  try simp only [aC,aD] at c1
  refine .skip (.code (.seq (.block (.seq (eH rfl rfl (ih rfl .no gP (.u rfl) (.u rfl) (by omega) (by omega) (fun _=>hs.sl.nn (k:=k) (by omega)) ?_))))))
  obtain ⟨p11,ep11⟩:=dO (k:=k) (xs:=ps) (by omega)
  have hq11:=hs.get ep11
  refine lN rfl bV rfl ((hs.at (k) (by omega) ep11).rd) ?_
  refine .g (kV rfl aS1 (aB rfl (aB rfl aE)) (aMj _ p11.2 _ _ hq11 (by have:=aCg ep11; omega)) ?_)
  refine .g (aW (((k+1):Nat):Int) rfl rfl rfl rfl ?_)
  refine .g (aZ (k+1,nY x p11.2) ?_ ?_ ?_ ?_ ?_)
  ·exact (aA rfl (aO rfl (aA rfl (aA rfl eZ))))
  ·exact mN
  ·first|omega|(dsimp only; omega)
  ·exact hGl0
  refine ⟨?_,?_⟩
  ·(try dsimp only)<;>(first|omega|rfl|assumption|(simp; done))
  (try dsimp only)<;>(rw [ex,aMl,vQ ep11])
 have c1k:=c1
 try simp only [aC,aD] at c1
 refine .exit (.xcode (.xlp (.xblk (.code (.seq (bD rfl rfl (mV rfl rfl (aS rfl rfl (.nc (.ret (aP Tryz.results99 (.tmp rfl .nil) ?_)))))))))))
 obtain rfl:k=ps.length:=by omega
 exact ⟨rfl,by rw [ex,List.take_length]; rfl⟩
theorem rZ:sbT Tryz.prog 9 34=true:=by kernel_rfl
theorem aK4:lC Tryz.prog 3 5=some .u8:=by kernel_rfl
theorem aKv:aQ Tryz.prog 99=true:=by kernel_rfl
theorem jG:cG Tryz.prog 71=some (9,1,16):=by kernel_rfl
theorem vG:(cG Tryz.prog 71).isSome=true:=by kernel_rfl
theorem aTX:aQ Tryz.prog 75=true:=by kernel_rfl
theorem aF7 {G:PM} {b T:Nat} {h1:Sh} {L1:List Y} (hle:PM.le G (G.add b (cl [h1.val L1.length] T))) (hs:SlR G 1 aL h1 L1) (hl:L1.length≤1000000000000000) :
  Ct Tryz.prog 99 ([.slice (some ⟨b,0,none⟩) 1 1]:List Value).toArray (G.add b (cl [h1.val L1.length] T)) [] (fun _ μ' u=>μ'=[]∧u=U (nY 0#32 L1)):=by
 have h:=aMk [(h1,L1)] ⟨some ⟨b,0,none⟩,1⟩ _ (SlP.one hle hs) (by simpa [cN] using Nat.le_trans hl (by decide)) (by simp)
 rw [show cN [(h1,L1)]=L1 by simp [cN]] at h
 exact h
theorem aQk (L:List Y) (bb cap n:Nat) (en:n=L.length) (key:ByteArray) (pr:Nat) (G:PM) (h0:0<L.length) (hn:L.length≤100000000) (hk:key.size≤1000000000000000) (hpr:pr≤1000000):Ct Tryz.prog 75 ([.slice (some ⟨bb,0,none⟩) n cap,.string key,.int .i64 (pr:Int)]:List Value).toArray G [rB (.slice (some ⟨bb,0,none⟩) n cap) 5 L] (fun _ μ' u=>μ'=[rB (.slice (some ⟨bb,0,none⟩) n cap) 5 (lZ key L pr)]∧u=.tuple #[]):=by
 subst en
 refine Ct.of Tryz.func75 rfl Tryz.ntmps75 rfl fun w0 hs0=>?_
 refine .seq (oK rfl rfl (mV rfl rfl ?_))
 refine rH rfl rfl rZ (.u rfl) ?_; intro G10 h10 hG10 hs10
 refine Go.Tan.b1 rfl gP jM (.u rfl) rfl rfl (by decide) ?_; intro b11
 refine kp rfl .no aKv (aB rfl aE) (Gp.add .here Gp.nil) (fun _ hle hq=>aF7 hle hs10 (by rw [bP]; omega)) ?_
 refine .g (kV rfl vE (aB rfl (aB rfl aE)) (uP _ 15 _) ?_)
 refine aS rfl rfl (.nc (.seq (bD rfl rfl (mV rfl rfl (mV rfl rfl (.nc (.block ?_)))))))
 refine bE (α:=Nat×List Y) (fun gh=>[(6,true,U (hJ key gh.1)),(16,true,.int .i64 (gh.1:Int))]) (fun gh=>[rB (.slice (some ⟨bb,0,none⟩) L.length cap) 5 gh.2])
  (fun gh Gl=>(gh.1≤pr)∧(gh.2=lZ key L gh.1)∧(gh.2.length=L.length)) (fun gh=>pr-gh.1) (0,L) [(0,true,_),(7,true,_),(15,true,_)] [_]
  (aA rfl (aO rfl (aA rfl (aA rfl (aA rfl eZ)))))
  (mS aF rfl (mS .here rfl mN)) ?_ ?_
 ·refine ⟨?_,?_,?_⟩
  ·(try dsimp only)<;>(first|omega|rfl|assumption|(simp; done))
  ·(try dsimp only)<;>(rfl)
  (try dsimp only)<;>(first|omega|rfl|assumption|(simp; done))
 intro gh N0 Gl0 hN0 hGl0 hF0
 obtain ⟨k,M⟩:=gh; dsimp only at hF0 hN0 ⊢
 obtain ⟨hk2,eM,lM⟩:=hF0
 refine .g (cP rfl rfl rfl rfl (.g (cD rfl (fun c1=>?_) (fun c1=>?_))))
 ·have c1k:=c1
  try simp only [aC,aD] at c1
  refine .g (lr rfl .no bK (.u rfl) .here ?_)
  refine aW (((8*M.length):Nat):Int) rfl rfl rfl rfl ?_
  refine ci rfl .no rfl aEd (.u rfl) ?_
  refine mw (k:=.u32) (b:=BitVec.ofInt 32 ((8*M.length:Nat):Int)) rfl .no (.u rfl) (.u rfl) (fun _=>aIv (by omega) (by omega)) ?_
  refine .g (iC (k:=.u32) rfl .no (.u rfl) (.u rfl) (fun _=>by decide) ?_)
  have hp8:(gW key M.length k >>> 3).toNat<M.length:=aIu (by omega) (by omega)
  refine ia rfl .no aH (.u rfl) (.u rfl) (fun _=>Int.natCast_nonneg _) (fun _=>Int.ofNat_lt.2 (Nat.lt_of_lt_of_eq hp8 lM)) ?_
  refine lN rfl cA rfl (Rd.row .here (pC _ (by rw [Nat.zero_add,Nat.mul_one]; rfl) hp8)) ?_
  refine .p (bw (k:=.u32) (b:=7#32) rfl .no rfl (.u rfl) (.u rfl) rfl (lw (k:=.u8) (a:=1#8) rfl .no rfl (.s rfl) (.u rfl) (fun _=>Int.natCast_nonneg _) ?_))
  refine bw (k:=.u8) rfl .no rfl (.u rfl) (.u rfl) rfl (ia rfl .no aH (.u rfl) (.u rfl) (fun _=>Int.natCast_nonneg _) (fun _=>Int.ofNat_lt.2 (Nat.lt_of_lt_of_eq hp8 lM)) ?_)
  refine s1r rfl (.u rfl) (.u rfl) fW .here (by rw [Nat.zero_add,Nat.mul_one]; exact hp8) ?_; intro Ls5_10 eLs5_10 lLs5_10
  refine .g (bw (k:=.u32) rfl .no rfl (.u rfl) (.u rfl) rfl (.g (aW (((k+1):Nat):Int) rfl rfl rfl rfl ?_)))
  refine .g (aZ (k+1,Ls5_10) ?_ ?_ ?_ ?_ ?_)
  ·exact (aA rfl (aO rfl (aA rfl (aA rfl (aA rfl eZ)))))
  ·exact (mS .here rfl (mS .here rfl mN))
  ·first|omega|(dsimp only; omega)
  ·exact hGl0
  refine ⟨?_,?_,?_⟩
  ·(try dsimp only)<;>(first|omega|rfl|assumption|(simp; done))
  ·(try dsimp only)<;>(exact aRC lM (by rw [eLs5_10,eM,Nat.zero_add,Nat.mul_one]; rfl))
  (try dsimp only)<;>(first|omega|rfl|assumption|(simp; done))
 have c1k:=c1
 try simp only [aC,aD] at c1
 refine .g (We.fin Tryz.results75 .nil (mS .here rfl mN) ?_)
 obtain rfl:k=pr:=by omega
 exact ⟨by rw [eM],rfl⟩
theorem aOG (h:Sh) (f:List Y) (key:ByteArray) (G:PM) (hs:SlR G 1 aL h f) (hl:f.length≤100000000) (hk:key.size≤1000000000000000):Ct Tryz.prog 55 ([h.val f.length,.string key]:List Value).toArray G [] (fun _ μ' u=>μ'=[]∧u=.bool (nI f key)):=by
 refine Ct.of Tryz.func55 rfl Tryz.ntmps55 rfl fun w0 hs0=>?_
 refine .g (lE rfl bK rfl (cP rfl rfl rfl rfl (mV rfl rfl (mv rfl (.f rfl rfl) (.u rfl) (mv rfl (.f rfl rfl) (.u rfl) (ln rfl (.f rfl rfl) bK (.s rfl) (dR (((f.length-1):Nat):Int) rfl (.f rfl rfl) (.s rfl) (.u rfl) rfl (fun hc=>by (try simp only [Bool.and_eq_true,decide_eq_true_eq,Bool.not_eq_true',Bool.or_eq_false_iff,decide_eq_false_iff_not] at hc); omega) (fun hc=>cB (by (try simp only [Bool.and_eq_true,decide_eq_true_eq,Bool.not_eq_true',Bool.or_eq_false_iff,decide_eq_false_iff_not] at hc); omega) (by (try simp only [Bool.and_eq_true,decide_eq_true_eq,Bool.not_eq_true',Bool.or_eq_false_iff,decide_eq_false_iff_not] at hc); omega)) ?_)))))))
 refine ih rfl (.f rfl rfl) aH (.s rfl) (.s rfl) (fun hc=>by (try simp only [Bool.and_eq_true,decide_eq_true_eq,Bool.not_eq_true',Bool.or_eq_false_iff,decide_eq_false_iff_not] at hc); omega) (fun hc=>by (try simp only [Bool.and_eq_true,decide_eq_true_eq,Bool.not_eq_true',Bool.or_eq_false_iff,decide_eq_false_iff_not] at hc); omega) (fun hc=>hs.nn (k:=(f.length-1)) (by (try simp only [Bool.and_eq_true,decide_eq_true_eq,Bool.not_eq_true',Bool.or_eq_false_iff,decide_eq_false_iff_not] at hc); omega)) ?_
 refine ld rfl (.f rfl rfl) cA (.s rfl) (fun hc=>(hs.yat ((f.length-1)) (by (try simp only [Bool.and_eq_true,decide_eq_true_eq,Bool.not_eq_true',Bool.or_eq_false_iff,decide_eq_false_iff_not] at hc); omega) (by (try simp only [Bool.and_eq_true,decide_eq_true_eq,Bool.not_eq_true',Bool.or_eq_false_iff,decide_eq_false_iff_not] at hc); omega)).rd) ?_
 refine cp rfl (.f rfl rfl) (.s rfl) (.u rfl) rfl (cL rfl .no (.u rfl) (.s rfl) (mV rfl rfl (mv rfl (.f rfl rfl) (.u rfl) (mv rfl (.f rfl rfl) (.u rfl) (ln rfl (.f rfl rfl) bK (.s rfl) (dR (((f.length-1):Nat):Int) rfl (.f rfl rfl) (.s rfl) (.u rfl) rfl (fun hc=>by (try simp only [Bool.and_eq_true,decide_eq_true_eq,Bool.not_eq_true',Bool.or_eq_false_iff,decide_eq_false_iff_not] at hc); omega) (fun hc=>cB (by (try simp only [Bool.and_eq_true,decide_eq_true_eq,Bool.not_eq_true',Bool.or_eq_false_iff,decide_eq_false_iff_not] at hc); omega) (by (try simp only [Bool.and_eq_true,decide_eq_true_eq,Bool.not_eq_true',Bool.or_eq_false_iff,decide_eq_false_iff_not] at hc); omega)) ?_))))))
 refine ih rfl (.f rfl rfl) aH (.s rfl) (.s rfl) (fun hc=>by (try simp only [Bool.and_eq_true,decide_eq_true_eq,Bool.not_eq_true',Bool.or_eq_false_iff,decide_eq_false_iff_not] at hc); omega) (fun hc=>by (try simp only [Bool.and_eq_true,decide_eq_true_eq,Bool.not_eq_true',Bool.or_eq_false_iff,decide_eq_false_iff_not] at hc); omega) (fun hc=>hs.nn (k:=(f.length-1)) (by (try simp only [Bool.and_eq_true,decide_eq_true_eq,Bool.not_eq_true',Bool.or_eq_false_iff,decide_eq_false_iff_not] at hc); omega)) ?_
 refine ld rfl (.f rfl rfl) cA (.s rfl) (fun hc=>(hs.yat ((f.length-1)) (by (try simp only [Bool.and_eq_true,decide_eq_true_eq,Bool.not_eq_true',Bool.or_eq_false_iff,decide_eq_false_iff_not] at hc); omega) (by (try simp only [Bool.and_eq_true,decide_eq_true_eq,Bool.not_eq_true',Bool.or_eq_false_iff,decide_eq_false_iff_not] at hc); omega)).rd) ?_
 refine cp rfl (.f rfl rfl) (.s rfl) (.u rfl) rfl (cL rfl .no (.u rfl) (.s rfl) (.g (cD rfl (fun c1=>?_) (fun c1=>?_))))
 ·have c1k:=c1
  try simp only [aC,aI,aD] at c1
  refine .seq (aM rfl rfl (aS rfl rfl (.nc (.ret (aP Tryz.results55 (.tmp rfl .nil) ?_)))))
  exact ⟨rfl,congrArg Value.bool (aN4 c1).symm⟩
 have c1k:=c1
 try simp only [aC,aI,aD] at c1
 refine .skip (.code (.seq (dP ⟨false,false⟩ aV (by kernel_rfl) ?_)))
 refine Wp.one 0 (by kernel_rfl) ?_
 refine mV rfl rfl (.nil (Wp.one 1 (by kernel_rfl) ?_))
 refine mV rfl rfl (.nil (Wp.one 2 (by kernel_rfl) ?_))
 refine lE rfl bK rfl (.nil (Wp.one 3 (by kernel_rfl) ?_))
 refine aW (((f.length-1):Nat):Int) rfl rfl rfl rfl ?_
 refine .nil (Wp.one 4 (by kernel_rfl) ?_)
 refine kE ((f.length-1)) rfl .no aH hs (.u rfl) (.u rfl) (by omega) (by omega) ?_
 intro h35 L35 eL35 lL35 hs35
 have lL35:=lL35 rfl
 refine .nil (Wp.one 5 (by kernel_rfl) ?_)
 refine mV rfl rfl (.nil (Wp.one 6 (by kernel_rfl) ?_))
 refine mV rfl rfl (.nil (Wp.one 7 (by kernel_rfl) ?_))
 refine lE rfl bK rfl (.nil (Wp.one 8 (by kernel_rfl) ?_))
 refine aW (((f.length-1):Nat):Int) rfl rfl rfl rfl ?_
 refine .nil (Wp.one 9 (by kernel_rfl) ?_)
 refine ih rfl .no aH (.u rfl) (.u rfl) (by omega) (by omega) (fun _=>hs.nn (k:=(f.length-1)) (by omega)) ?_
 refine .nil (Wp.one 10 (by kernel_rfl) ?_)
 refine lN rfl cA rfl ((hs.yat ((f.length-1)) (by omega) (by omega)).rd) ?_
 refine .nil (Wp.one 11 (by kernel_rfl) ?_)
 refine aS rfl rfl (.nil (Wp.one 12 (by kernel_rfl) ?_))
 refine aS rfl rfl (.nil (Wp.last (by kernel_rfl) ?_))
 refine .code (.seq (oK rfl rfl (mV rfl rfl ?_)))
 refine rH rfl rfl rZ (.u rfl) ?_; intro G43 h43 hG43 hs43
 have hs35:=hs35.mono hG43
 refine Go.Tan.b1 rfl gP jM (.u rfl) rfl rfl (by decide) ?_; intro b44
 refine kp rfl .no aKv (aB rfl aE) (Gp.add .here Gp.nil) (fun _ hle hq=>aF7 hle hs43 (by rw [bP]; omega)) ?_
 refine .g (kV rfl vE (aB rfl (aB rfl aE)) (uP _ 15 _) ?_)
 refine aS rfl rfl (.nc (.seq (.seq (bD rfl rfl (mV rfl rfl (mV rfl rfl (.nc (.block ?_))))))))
 refine bE (α:=Nat) (fun k=>[(7,true,U (hJ key k)),(49,true,V (BitVec.ofNat 8 k))]) (fun _=>[])
  (fun k Gl=>(k≤(f.getD (f.length-1) 0).toNat)∧(∀ j,j<k→jH L35 (gW key L35.length j)=true)) (fun k=>(f.getD (f.length-1) 0).toNat-k) 0 [(5,true,_),(8,true,_),(48,true,_)] [_]
  (aA rfl (aA rfl (aA rfl (aA rfl (aA rfl eZ)))))
  (mS .here rfl mN) ?_ ?_
 ·refine ⟨?_,?_⟩
  ·(try dsimp only)<;>(first|omega|rfl|assumption|(simp; done))
  (try dsimp only)<;>(exact fun j h=>absurd h (Nat.not_lt_zero _))
 intro k N0 Gl0 hN0 hGl0 hF0
 try dsimp only at hF0 hN0 ⊢
 obtain ⟨hk2,hb⟩:=hF0
 have hs35:=hs35.mono hGl0
 refine .g (cP rfl rfl rfl rfl (.g (cD rfl (fun c2=>?_) (fun c2=>?_))))
 ·have c2k:=c2
  try simp only [aC,aI,aD] at c2
  refine .g (lE rfl bK rfl (aW (((8*L35.length):Nat):Int) rfl rfl rfl rfl ?_))
  refine ci rfl .no rfl aEd (.u rfl) ?_
  refine mw (k:=.u32) (b:=BitVec.ofInt 32 ((8*L35.length:Nat):Int)) rfl .no (.u rfl) (.u rfl) (fun _=>aIv (by omega) (by omega)) ?_
  refine .g (iC (k:=.u32) rfl .no (.u rfl) (.u rfl) (fun _=>by decide) ?_)
  have hp8:(gW key L35.length k >>> 3).toNat<L35.length:=aIu (by omega) (by omega)
  refine ih rfl .no aH (.u rfl) (.u rfl) (fun _=>Int.natCast_nonneg _) (fun _=>Int.ofNat_lt.2 hp8) (fun _=>hs35.nn (k:=(gW key L35.length k >>> 3).toNat) (by omega)) ?_
  refine lN rfl cA rfl ((hs35.yat (gW key L35.length k >>> 3).toNat rfl hp8).rd) ?_
  refine .p (bw (k:=.u32) (b:=7#32) rfl .no rfl (.u rfl) (.u rfl) rfl (iC (k:=.u8) rfl .no (.u rfl) (.u rfl) (fun _=>Int.natCast_nonneg _) ?_))
  refine bw (k:=.u8) (b:=1#8) rfl .no rfl (.u rfl) (.u rfl) rfl (cP rfl rfl rfl rfl (.g (cD rfl (fun c3=>?_) (fun c3=>?_))))
  ·have c3k:=c3
   try simp only [aC,aI,aD] at c3
   refine .seq (aM rfl rfl (aS rfl rfl (.nc (.ret (aP Tryz.results55 (.tmp rfl .nil) ?_)))))
   exact ⟨rfl,congrArg Value.bool (aN5 c1 eL35 hk2 c2 c3).symm⟩
  have c3k:=c3
  try simp only [aC,aI,aD] at c3
  refine .g (bw (k:=.u32) rfl .no rfl (.u rfl) (.u rfl) rfl (.g (bw (k:=.u8) (b:=1#8) rfl .no rfl (.u rfl) (.u rfl) rfl (.g (aZ (k+1) ?_ ?_ ?_ ?_ ?_)))))
  ·exact (aA rfl (fD rfl (by show V (BitVec.ofNat 8 k+1#8)=_; rw [← BitVec.ofNat_add]) (aA rfl (aA rfl (aA rfl eZ)))))
  ·exact (mS .here rfl mN)
  ·have:=aN3 hk2 c2; omega
  ·exact hGl0
  refine ⟨?_,?_⟩
  ·(try dsimp only)<;>(exact aHF hk2 c2)
  (try dsimp only)<;>(exact aN6 hb c3k)
 have c2k:=c2
 try simp only [aC,aI,aD] at c2
 refine .exit (.xcode (.xlp (.xblk (.code (.seq (aM rfl rfl (aS rfl rfl (.nc (.ret (aP Tryz.results55 (.tmp rfl .nil) ?_))))))))))
 exact ⟨rfl,congrArg Value.bool (aN7 c1 eL35 hk2 c2 hb).symm⟩
theorem aOD (h:Sh) (l:List ByteArray) (bits:Int) (G:PM) (hs:SlR G 1 kC h l) (hl:l.length≤100000) (hk:∀ s∈l,s.size≤1000000):Ct Tryz.prog 32 ([h.val l.length,.int .i64 bits]:List Value).toArray G [] (PR 5 (fun L=>L=lK l bits)):=by
 refine Ct.of Tryz.func32 rfl Tryz.ntmps32 rfl fun w0 hs0=>?_
 have hp:=hpb bits; have hpl:=aBH bits; have hr:=aNc bits; have hrl:=aHl bits
 have hm:l.length*eG bits≤6400000:=Nat.le_trans (Nat.mul_le_mul hl hpl.2) (by decide)
 refine .g (mI rfl .no (.u rfl) (.u rfl) ?_)
 refine mA rfl .no (.u rfl) (.u rfl) ?_
 refine aS rfl rfl (.nc (.seq ?_))
 rw [← hp]
 refine .g (dR ((((eG bits)*69):Nat):Int) rfl .no (.u rfl) (.u rfl) rfl (by omega) (fun _=>cB (by omega) (by omega)) ?_)
 refine qun (((eG bits)*69)) (100) rfl .no (.u rfl) (.u rfl) (by omega) (by omega) (fun _=>by first|decide|omega) (by omega) ?_
 refine wK ((((eG bits)*69) / 100)) (30) rfl .no (.u rfl) (.u rfl) (by omega) (by omega) ?_
 refine mAn (1) ((min (((eG bits)*69) / 100) 30)) rfl .no (.u rfl) (.u rfl) (by omega) (by omega) ?_
 refine aS rfl rfl (.nc (.seq ?_))
 rw [show max 1 (min (eG bits*69 / 100) 30)=mX bits from rfl]
 refine .g (lE rfl vG rfl (.p (dR (((l.length*eG bits):Nat):Int) rfl .no (.u rfl) (.u rfl) rfl (fun _=>rfl) (fun _=>cB (by omega) (by omega)) ?_)))
 refine mAn (64) ((l.length*eG bits)) rfl .no (.u rfl) (.u rfl) (by omega) (by omega) ?_
 refine dR ((((max 64 (l.length*eG bits))+7):Nat):Int) rfl .no (.u rfl) (.u rfl) rfl (by omega) (fun _=>cB (by omega) (by omega)) ?_
 refine qun (((max 64 (l.length*eG bits))+7)) (8) rfl .no (.u rfl) (.u rfl) (by omega) (by omega) (fun _=>by first|decide|omega) (by omega) ?_
 refine .p (lE rfl vG rfl (.p (dR (((l.length*eG bits):Nat):Int) rfl .no (.u rfl) (.u rfl) rfl (fun _=>rfl) (fun _=>cB (by omega) (by omega)) ?_)))
 refine qun ((l.length*eG bits)) (8) rfl .no (.u rfl) (.u rfl) (by omega) (by omega) (fun _=>by first|decide|omega) (by omega) ?_
 refine dR (((((l.length*eG bits) / 8)+10):Nat):Int) rfl .no (.u rfl) (.u rfl) rfl (by omega) (fun _=>cB (by omega) (by omega)) ?_
 refine mkY ((((max 64 (l.length*eG bits))+7) / 8)) ((((l.length*eG bits) / 8)+10)) rfl aH aY (.u rfl) (.u rfl) (by first|rfl|omega) (by first|rfl|omega) (by omega) (by omega) ?_; intro b30
 have lR30:(List.replicate ((((max 64 (l.length*eG bits))+7) / 8)) (0#8:Y)).length=(((max 64 (l.length*eG bits))+7) / 8):=List.length_replicate
 refine .g (lE rfl vG rfl (mV rfl rfl (.nc (.block ?_))))
 refine bE (α:=Nat×List Y) (fun gh=>[(33,true,.int .i64 (gh.1:Int))]) (fun gh=>[rB (.slice (some ⟨b30,0,none⟩) ((max 64 (l.length*eG bits)+7) / 8:Nat) (l.length*eG bits / 8+10:Nat)) 5 gh.2])
  (fun gh Gl=>(gh.1≤l.length)∧(gh.2=rL l bits gh.1)) (fun gh=>l.length-gh.1) (0,_) [(5,true,_),(6,true,_),(31,true,_),(32,true,_)] []
  (aO rfl (aA rfl (aA rfl (aA rfl (aA rfl eZ)))))
  (mS .here rfl mN) ?_ ?_
 ·refine ⟨?_,?_⟩
  ·(try dsimp only)<;>(first|omega|rfl|assumption|(simp; done))
  (try dsimp only)<;>(rfl)
 intro gh N0 Gl0 hN0 hGl0 hF0
 obtain ⟨k,M⟩:=gh; dsimp only at hF0 hN0 ⊢
 obtain ⟨hk2,eM⟩:=hF0
 have hs:=hs.mono hGl0
 have lM:M.length=(max 64 (l.length*eG bits)+7) / 8:=by rw [eM,aDE]
 refine .g (cP rfl rfl rfl rfl (.g (cD rfl (fun c1=>?_) (fun c1=>?_))))
 ·have c1k:=c1
  try simp only [aC,aD] at c1
  refine .skip (.code (.seq (.block (.seq (eH rfl rfl (ih rfl .no jG (.u rfl) (.u rfl) (by omega) (by omega) (fun _=>hs.nn (k:=k) (by first|omega|(simp only [Bool.and_eq_true,decide_eq_true_eq] at hc; omega)|(simp only [List.length_cons,List.length_nil]; omega))) ?_))))))
  obtain ⟨s,es⟩:=dO (k:=k) (xs:=l) (by omega)
  refine lN rfl cE rfl ((hs.t1 k (by omega) es).rd) ?_
  refine .g (ka rfl (.inr rfl) aTX (aB rfl (aB rfl (aB rfl aE))) (bQ .here) (aQk M b30 _ _ lM.symm s (mX bits) _ (by omega) (by omega) (Nat.le_trans (hk s (List.mem_of_getElem? es)) (by decide)) (by omega)) ?_)
  rintro _ G40 μ40 hG40 ⟨rfl,rfl⟩
  refine .g (aW (((k+1):Nat):Int) rfl rfl rfl rfl ?_)
  refine .g (aZ (k+1,lZ s M (mX bits)) ?_ ?_ ?_ ?_ ?_)
  ·exact (aO rfl (aA rfl (aA rfl (aA rfl (aA rfl eZ)))))
  ·exact (mS .here rfl mN)
  ·first|omega|(dsimp only; omega)
  ·exact (hGl0).trans hG40
  refine ⟨?_,?_⟩
  ·(try dsimp only)<;>(first|omega|rfl|assumption|(simp; done))
  (try dsimp only)<;>(rw [eM,aNp es])
 have c1k:=c1
 try simp only [aC,aD] at c1
 refine .g (ci rfl .no rfl aK4 (.u rfl) ?_)
 refine Go.Tan.b1 rfl aH aY (.u rfl) rfl rfl (by decide) ?_; intro b45
 refine cF rfl aH aY (.u rfl) (.u rfl) aF (Sc.one .here) (by show _+1≤_; omega) ?_
 intro v46 L46 ov46 eL46
 have lL46:L46.length=M.length+1:=by rw [eL46,List.length_append]; first|rfl | simp [bB]
 refine aS rfl rfl (.nc (.ret (We.fin Tryz.results32 (.tmp rfl .nil) (mS .here rfl mN) ?_)))
 obtain rfl:k=l.length:=by omega
 exact ⟨_,by rw [eL46,eM]; rfl,rfl⟩
theorem sA:lC Tryz.prog 5 24=some .u64:=by kernel_rfl
theorem pQ:aQ Tryz.prog 34=true:=by kernel_rfl
theorem oU (xs:List Y) (h:Sh) (G:PM) (hs:SlR G 1 aL h xs) (n:BitVec 64) (hl:xs.length≤100000000000000):Ct Tryz.prog 34 ([h.val xs.length,uv .u64 n]:List Value).toArray G [] (PR 5 (fun L=>L=xs++bL n.toNat)):=by
 refine Ct.of Tryz.func34 rfl Tryz.ntmps34 rfl fun w0 hs0=>?_
 have ln:=jA n.isLt
 refine .seq (aM rfl rfl (aS rfl rfl (.nc (.seq (gH rfl rfl ?_)))))
 refine mM rfl aH ?_; intro b6
 refine .p (nW rfl aH aY (.u rfl) (.u rfl) .here hs.sc (by (try simp only [bJ,bB]); omega) ?_)
 intro v8 L8 _ ov8 eL8
 have lL8:L8.length=xs.length:=by rw [eL8]
 refine aS rfl rfl (.nc (.seq (.block ?_)))
 refine bE (α:=BitVec 64×Value×List Y) (fun gh=>[(1,true,uv .u64 gh.1),(5,true,gh.2.1)]) (fun gh=>[rB gh.2.1 5 gh.2.2])
  (fun gh Gl=>(gh.2.2++bL gh.1.toNat=xs++bL n.toNat)) (fun gh=>gh.1.toNat) (n,v8,L8) [] []
  (aA rfl (aA rfl eZ))
  (mS .here rfl mN) ?_ ?_
 ·(try dsimp only)<;>(rw [eL8])
 intro gh N0 Gl0 hN0 hGl0 hF0
 obtain ⟨m,v,L⟩:=gh; dsimp only at hF0 hN0 ⊢
 have eq:=hF0
 have tq:@BitVec.toNat IntKind.u64.bits m=m.toNat:=rfl
 have lq:=congrArg List.length eq
 simp only [List.length_append] at lq
 have lp:=uL m.toNat
 refine .g (cP rfl rfl rfl rfl (.g (cD rfl (fun c1=>?_) (fun c1=>?_))))
 ·have c1k:=c1
  try simp only [aC,aI,aD] at c1
  refine .g (cu (k:=.u64) rfl .no rfl kU (.u rfl) ?_)
  refine bw (k:=.u8) (b:=128#8) rfl .no rfl (.u rfl) (.u rfl) rfl ?_
  refine Go.Tan.b1 rfl aH aY (.u rfl) rfl rfl (by decide) ?_; intro b17
  refine cF rfl aH aY (.u rfl) (.u rfl) aF (Sc.one .here) (by show _+1≤_; omega) ?_
  intro v18 L18 ov18 eL18
  have lL18:L18.length=L.length+1:=by rw [eL18,List.length_append]; first|rfl | simp [bB]
  refine .g (iC (k:=.u64) rfl .no (.u rfl) (.u rfl) (fun _=>by decide) ?_)
  refine .g (aZ (m >>> 7,v18,L18) ?_ ?_ ?_ ?_ ?_)
  ·exact (aA rfl (aA rfl eZ))
  ·exact (mS .here rfl mN)
  ·(dsimp only; rw [aQy]; omega)
  ·exact hGl0
  (try dsimp only)<;>(rw [eL18,←eq,aOY (m:=m) (by omega),List.append_assoc]; rfl)
 have c1k:=c1
 try simp only [aC,aI,aD] at c1
 refine .g (cu (k:=.u64) rfl .no rfl kU (.u rfl) ?_)
 refine Go.Tan.b1 rfl aH aY (.u rfl) rfl rfl (by decide) ?_; intro b22
 refine cF rfl aH aY (.u rfl) (.u rfl) aF (Sc.one .here) (by show _+1≤_; omega) ?_
 intro v23 L23 ov23 eL23
 have lL23:L23.length=L.length+1:=by rw [eL23,List.length_append]; first|rfl | simp [bB]
 refine aS rfl rfl (.nc (.ret (We.fin Tryz.results34 (.tmp rfl .nil) (mS .here rfl mN) ?_)))
 exact ⟨L23,by rw [eL23,←eq,aOW (m:=m) (by omega)]; rfl,rfl⟩
theorem aLC (xs:List Y) (h:Sh) (G:PM) (hs:SlR G 1 aL h xs) (x:Int) (hx:u64 x) (hl:xs.length≤100000000000000):Ct Tryz.prog 34 ([h.val xs.length,.int .u64 x]:List Value).toArray G [] (PR 5 (fun L=>L=xs++bL x.toNat)):=by
 rw [uvI hx,←ofI hx]; exact oU xs h G hs _ hl
theorem aFD (xs:List Y) (h:Sh) (G:PM) (hs:SlR G 1 aL h xs) (s:ByteArray) (hl:xs.length+s.size≤100000000000000):Ct Tryz.prog 30 ([h.val xs.length,.string s]:List Value).toArray G [] (PR 5 (fun L=>L=xs++kO (yb s))):=by
 refine Ct.of Tryz.func30 rfl Tryz.ntmps30 rfl fun w0 hs0=>?_
 have ly:=bP s
 have ln:=jA (n:=s.size) (by omega)
 refine .g (ls rfl .no cI (.u rfl) (cw rfl .no cW (.u rfl) (fun _=>eY (by omega) (by omega)) ?_))
 refine kc rfl pQ (aB rfl (aB rfl aE)) (iT (aLC xs h _ hs (s.size:Int) ⟨by omega,by omega⟩ (by omega))) ?_
 rintro v9 G9 μ9 hG9 ⟨L9,ov9,eL9,rfl⟩
 refine mV rfl rfl ?_
 have l9:L9.length=xs.length+(bL s.size).length:=by rw [eL9,List.length_append,Int.toNat_natCast]
 refine nF rfl aH cI aY (.u rfl) (.u rfl) .here (by (try simp only [List.length_append]); omega) ?_; intro v11 L11 ov11 eL11
 refine aS rfl rfl (.nc (.ret (We.fin Tryz.results30 (.tmp rfl .nil) (mS .here rfl mN) ?_)))
 exact ⟨L11,by rw [eL11,eL9,kO,ly,Int.toNat_natCast,List.append_assoc],rfl⟩
theorem aHW (xs:List Y) (h:Sh) (G:PM) (hs:SlR G 1 aL h xs) (hl:xs.length≤100000000000000):Ct Tryz.prog 124 ([h.val xs.length]:List Value).toArray G [] (fun _ μ' u=>∃ n k e,NumR xs n k e∧μ'=[]∧u=.tuple #[.int .u64 (n:Int),.int .i64 (k:Int),.int .i64 e]):=by
 refine Ct.of Tryz.func124 rfl Tryz.ntmps124 rfl fun w0 hs0=>?_
 refine .g (lE rfl bK rfl (mV rfl rfl (.nc (.block ?_))))
 refine bE (α:=Nat×BitVec 64) (fun gh=>[(5,true,uv .u64 gh.2),(10,true,.int .i64 (gh.1:Int))]) (fun _=>[])
  (fun gh Gl=>(gh.1≤xs.length)∧(gh.1≤9)∧(gh.2.toNat<128^gh.1)∧(dB xs=fL gh.1 gh.2.toNat (xs.drop gh.1))) (fun gh=>xs.length-gh.1) (0,0#64) [(8,true,_),(9,true,_)] []
  (aA rfl (aO rfl (aA rfl (aA rfl eZ))))
  mN ?_ ?_
 ·refine ⟨?_,?_,?_,?_⟩
  ·(try dsimp only)<;>(first|omega|rfl|assumption|(simp; done))
  ·(try dsimp only)<;>(first|omega|rfl|assumption|(simp; done))
  ·(try dsimp only)<;>(decide)
  (try dsimp only)<;>(rfl)
 intro gh N0 Gl0 hN0 hGl0 hF0
 obtain ⟨k,w⟩:=gh; dsimp only at hF0 hN0 ⊢
 obtain ⟨hk,h9,hw,e⟩:=hF0
 have hs:=hs.mono hGl0
 have tq:@BitVec.toNat IntKind.u8.bits (xs.getD k 0)=(xs.getD k 0).toNat:=rfl
 refine .g (cP rfl rfl rfl rfl (.g (cD rfl (fun c1=>?_) (fun c1=>?_))))
 ·have c1k:=c1
  try simp only [aC,aI,aD] at c1
  refine .skip (.code (.seq (.block (.seq (oK rfl rfl (mV rfl rfl (ih rfl .no aH (.u rfl) (.u rfl) (by omega) (by omega) (fun _=>hs.nn (k:=k) (by omega)) ?_)))))))
  refine lN rfl cA rfl ((hs.yat (k) (by omega) (by omega)).rd) ?_
  refine .g (cP rfl rfl rfl rfl (mV rfl rfl (mv rfl (.t rfl rfl) (.u rfl) (cp rfl (.t rfl rfl) (.s rfl) (.u rfl) rfl (cC rfl .no (.u rfl) (.s rfl) (.g (cD rfl (fun c2=>?_) (fun c2=>?_))))))))
  ·have c2k:=c2
   try simp only [aC,aI,aD] at c2
   refine .seq (eH rfl rfl (aS rfl rfl (aS rfl rfl (aS rfl rfl (.nc (.ret (aP Tryz.results124 (.tmp rfl (.tmp rfl (.tmp rfl .nil))) ?_)))))))
   exact ⟨0,0,11,.of (aOQ e (by omega) (by omega) (by omega)),rfl,rfl⟩
  have c2k:=c2
  try simp only [aC,aI,aD] at c2
  refine .g (bw (k:=.u8) (b:=127#8) rfl .no rfl (.u rfl) (.u rfl) rfl (cu (k:=.u8) rfl .no rfl sA (.u rfl) ?_))
  refine .p (aW (((7*k):Nat):Int) rfl rfl rfl rfl ?_)
  refine lw (k:=.u64) rfl .no rfl (.u rfl) (.u rfl) (by omega) ?_
  refine bw (k:=.u64) rfl .no rfl (.u rfl) (.u rfl) rfl (.g (cP rfl rfl rfl rfl (.g (cD rfl (fun c3=>?_) (fun c3=>?_)))))
  ·have c3k:=c3
   try simp only [aC,aI,aD] at c3
   refine .g (cP rfl rfl rfl rfl (mV rfl rfl (mv rfl (.t rfl rfl) (.u rfl) (cp rfl (.t rfl rfl) (.s rfl) (.u rfl) rfl (cC rfl .no (.u rfl) (.s rfl) (.g (cD rfl (fun c4=>?_) (fun c4=>?_))))))))
   ·have c4k:=c4
    try simp only [aC,aI,aD] at c4
    refine .seq (eH rfl rfl (aS rfl rfl (aS rfl rfl (aS rfl rfl (.nc (.ret (aP Tryz.results124 (.tmp rfl (.tmp rfl (.tmp rfl .nil))) ?_)))))))
    exact ⟨0,0,11,.of (aOS e (by omega) (by omega) (by omega)),rfl,rfl⟩
   have c4k:=c4
   try simp only [aC,aI,aD] at c4
   refine .g (aW (((k+1):Nat):Int) rfl rfl rfl rfl ?_)
   refine aS rfl rfl (aS rfl rfl (aS rfl rfl (.nc (.ret (aP Tryz.results124 (.tmp rfl (.tmp rfl (.tmp rfl .nil))) ?_)))))
   exact ⟨_,_,0,.of (aOP e hw h9 (by omega) (by omega) (by omega) (by omega)),rfl,rfl⟩
  have c3k:=c3
  try simp only [aC,aI,aD] at c3
  refine .g (aW (((k+1):Nat):Int) rfl rfl rfl rfl ?_)
  refine .g (aZ (k+1,w ||| (xs.getD k 0 &&& 127#8).setWidth 64 <<< (7*k)) ?_ ?_ ?_ ?_ ?_)
  ·exact (aA rfl (aO rfl (aA rfl (aA rfl eZ))))
  ·exact mN
  ·first|omega|(dsimp only; omega)
  ·exact hGl0
  refine ⟨?_,?_,?_,?_⟩
  ·(try dsimp only)<;>(first|omega|rfl|assumption|(simp; done))
  ·(try dsimp only)<;>(exact (aDP e hw h9 (by omega) (by omega) (by omega)).2.2)
  ·(try dsimp only)<;>(exact (aDP e hw h9 (by omega) (by omega) (by omega)).2.1)
  (try dsimp only)<;>(exact (aDP e hw h9 (by omega) (by omega) (by omega)).1)
 have c1k:=c1
 try simp only [aC,aI,aD] at c1
 refine .exit (.xcode (.xlp (.xblk (.code (.seq (eH rfl rfl (aS rfl rfl (aS rfl rfl (aS rfl rfl (.nc (.ret (aP Tryz.results124 (.tmp rfl (.tmp rfl (.tmp rfl .nil))) ?_))))))))))))
 exact ⟨0,0,10,.of (aOR e (by omega)),rfl,rfl⟩
theorem aTo:fX Tryz.prog 175 [0]=some ([.slice none 0 0,.int .i64 0],[(0,1)]):=by kernel_rfl
theorem xU:wN Tryz.prog 145=true:=by kernel_rfl
theorem rD:cK Tryz.prog 175 1=some 1:=by kernel_rfl
theorem gD:dT Tryz.prog 37=some none:=by kernel_rfl
theorem jY:cK Tryz.prog 175 0=some 0:=by kernel_rfl
theorem aKV:aQ Tryz.prog 124=true:=by kernel_rfl
theorem oS:dG Tryz.prog 37=some 1:=by kernel_rfl
theorem jF:lC Tryz.prog 24 3=some .i64:=by kernel_rfl
theorem qY:aQ Tryz.prog 96=true:=by kernel_rfl
theorem aKW:aQ Tryz.prog 125=true:=by kernel_rfl
theorem pI (xs:List Y) (e:Int) (s:Sh) (b:Nat) (G:PM) (hs:SlR G 1 aL s xs) (hl:xs.length≤100000000000000):Ct Tryz.prog 95 ([.pointer (some ⟨b,0,none⟩)]:List Value).toArray G [.blk b (cl [s.val xs.length,.int .i64 e] 175)] (fun G' μ' u=>∃ n L e' s',cR ⟨xs,e⟩=(n,⟨L,e'⟩)∧μ'=[.blk b (cl [Sh.val s' L.length,.int .i64 e'] 175)]∧u=.int .u64 (n:Int)∧SlR G' 1 aL s' L):=by
 refine Ct.of Tryz.func95 rfl Tryz.ntmps95 rfl fun w0 hs0=>?_
 refine .g (pe rfl .no xU (.u rfl) (.u rfl) ?_)
 refine mV rfl rfl (mv rfl (Gd.f (b:=false) rfl rfl) (.u rfl) (nc rfl (Gd.f (b:=false) rfl rfl) (.u rfl) (fz rfl (Gd.f (b:=false) rfl rfl) rD (.u rfl) (ld rfl (Gd.f (b:=false) rfl rfl) gD (.u rfl) (fun _=>Rd.own .here (by first|exact aJ rfl|rfl)) ?_))))
 refine cp rfl (Gd.f (b:=false) rfl rfl) (.u rfl) (.u rfl) rfl (cL rfl .no (.u rfl) (.u rfl) (.g (cD rfl (fun c1=>?_) (fun c1=>?_))))
 ·have c1k:=c1
  try simp only [aC,aI,aD] at c1
  refine .seq (aM rfl rfl (aS rfl rfl (.nc (.ret (We.fin Tryz.results95 (.tmp rfl .nil) (mS .here rfl mN) ?_)))))
  exact ⟨0,xs,e,s,aH9 (by simpa using c1k),rfl,rfl,hs⟩
 have c1k:=c1
 try simp only [aC,aI,aD] at c1
 refine .g (nC rfl rfl (fZ rfl jY rfl (lO rfl bV rfl .here (by first|exact aJ rfl|rfl) ?_)))
 refine kc rfl aKV (aB rfl aE) (aHW xs s _ hs hl) ?_
 rintro _ G20 μ20 hG20 ⟨n20,k20,e20,hN,rfl,rfl⟩
 have hNl:=hN.le; have hNt:=hN.lt
 have hs:=hs.mono hG20
 refine .p (eX rfl rfl rfl (eX rfl rfl rfl (eX rfl rfl rfl (.g (nC rfl rfl (fZ rfl rD rfl (s1 rfl (.u rfl) (.u rfl) rfl oS .here (by first|decide|(simp only [bO,aU,bJ]; omega)) (rfl) ?_)))))))
 refine .g (nC rfl rfl (fZ rfl jY rfl (lO rfl bV rfl .here (by first|exact aJ rfl|rfl) ?_)))
 refine .p (kD (k20) rfl .no aH hs (.u rfl) (.u rfl) (by omega) (by omega) ?_)
 intro h34 L34 eL34 lL34 hs34
 have lL34:=lL34 rfl
 refine nC rfl rfl (fZ rfl jY rfl (s1 rfl (.u rfl) (.u rfl) rfl iE .here (show 0<2 by decide) (rfl) ?_))
 refine .nil (.code (.seq (bD rfl rfl (mV rfl rfl (aS rfl rfl (.nc (.ret (We.fin Tryz.results95 (.tmp rfl .nil) (mS .here rfl mN) ?_))))))))
 exact ⟨n20,L34,e20,h34,aDh (by simpa using c1k) hN eL34,rfl,rfl,hs34⟩
theorem aHz (xs:List Y) (e:Int) (s:Sh) (b:Nat) (G:PM) (hs:SlR G 1 aL s xs) (hl:xs.length≤100000000000000) (most:Nat) (hm:most≤100000000000000):Ct Tryz.prog 97 ([.pointer (some ⟨b,0,none⟩),.int .i64 (most:Int)]:List Value).toArray G [.blk b (cl [s.val xs.length,.int .i64 e] 175)] (fun G' μ' u=>∃ M L e' s',iB most ⟨xs,e⟩=(M,⟨L,e'⟩)∧μ'=[.blk b (cl [Sh.val s' L.length,.int .i64 e'] 175)]∧u=.string (aN M)∧SlR G' 1 aL s' L):=by
 refine Ct.of Tryz.func97 rfl Tryz.ntmps97 rfl fun w0 hs0=>?_
 refine .g (pe rfl .no xU (.u rfl) (.u rfl) ?_)
 refine mV rfl rfl (mv rfl (Gd.f (b:=false) rfl rfl) (.u rfl) (nc rfl (Gd.f (b:=false) rfl rfl) (.u rfl) (fz rfl (Gd.f (b:=false) rfl rfl) rD (.u rfl) (ld rfl (Gd.f (b:=false) rfl rfl) gD (.u rfl) (fun _=>Rd.own .here (by first|exact aJ rfl|rfl)) ?_))))
 refine cp rfl (Gd.f (b:=false) rfl rfl) (.u rfl) (.u rfl) rfl (cL rfl .no (.u rfl) (.u rfl) (.g (cD rfl (fun c1=>?_) (fun c1=>?_))))
 ·have c1k:=c1
  try simp only [aC,aI,aD] at c1
  refine .seq (aM rfl rfl (aS rfl rfl (.nc (.ret (We.fin Tryz.results97 (.tmp rfl .nil) (mS .here rfl mN) ?_)))))
  exact ⟨[],xs,e,s,aIA (by simpa using c1k),rfl,rfl,hs⟩
 have c1k:=c1
 try simp only [aC,aI,aD] at c1
 refine .g (nC rfl rfl (fZ rfl jY rfl (lO rfl bV rfl .here (by first|exact aJ rfl|rfl) ?_)))
 refine kc rfl aKV (aB rfl aE) (aHW xs s _ hs hl) ?_
 rintro _ G24 μ24 hG24 ⟨n20,k20,e20,hN,rfl,rfl⟩
 have hNl:=hN.le; have hNt:=hN.lt
 have hs:=hs.mono hG24
 refine .p (eX rfl rfl rfl (eX rfl rfl rfl (eX rfl rfl rfl (.g (cP rfl rfl rfl rfl (.g (cD rfl (fun c2=>?_) (fun c2=>?_))))))))
 ·have c2k:=c2
  try simp only [aC,aI,aD] at c2
  refine .g (nC rfl rfl (fZ rfl rD rfl (s1 rfl (.u rfl) (.u rfl) rfl oS .here (by first|decide|(simp only [bO,aU,bJ]; omega)) (rfl) ?_)))
  refine .nil (.code (.seq (aM rfl rfl (aS rfl rfl (.nc (.ret (We.fin Tryz.results97 (.tmp rfl .nil) (mS .here rfl mN) ?_)))))))
  exact ⟨[],xs,e20,s,aIB (by simpa using c1k) hN (by simpa using c2k),rfl,rfl,hs⟩
 have c2k:=c2
 try simp only [aC,aI,aD] at c2
 refine .g (mAn (0) (most) rfl .no (.u rfl) (.u rfl) (by omega) (by omega) ?_)
 refine cw rfl .no cW (.u rfl) (fun _=>eY (by omega) (by omega)) ?_
 refine cP rfl rfl rfl rfl (.g (cD rfl (fun c3=>?_) (fun c3=>?_)))
 ·have c3k:=c3
  try simp only [aC,aI,aD] at c3
  refine .g (nC rfl rfl (fZ rfl rD rfl (s1 rfl (.u rfl) (.u rfl) rfl oS .here (by first|decide|(simp only [bO,aU,bJ]; omega)) (rfl) ?_)))
  refine .nil (.code (.seq (aM rfl rfl (aS rfl rfl (.nc (.ret (We.fin Tryz.results97 (.tmp rfl .nil) (mS .here rfl mN) ?_)))))))
  exact ⟨[],xs,4,s,aIC (by simpa using c1k) hN (by simpa using c2k) (by omega),rfl,rfl,hs⟩
 have c3k:=c3
 try simp only [aC,aI,aD] at c3
 refine .g (nC rfl rfl (fZ rfl jY rfl (lO rfl bV rfl .here (by first|exact aJ rfl|rfl) ?_)))
 refine lE rfl bK rfl (.p (aR rfl rfl rfl rfl ?_))
 refine cw rfl .no cW (.u rfl) (fun _=>eY (by omega) (by omega)) ?_
 refine cP rfl rfl rfl rfl (.g (cD rfl (fun c4=>?_) (fun c4=>?_)))
 ·have c4k:=c4
  try simp only [aC,aI,aD] at c4
  refine .g (nC rfl rfl (fZ rfl rD rfl (s1 rfl (.u rfl) (.u rfl) rfl oS .here (by first|decide|(simp only [bO,aU,bJ]; omega)) (rfl) ?_)))
  refine .nil (.code (.seq (aM rfl rfl (aS rfl rfl (.nc (.ret (We.fin Tryz.results97 (.tmp rfl .nil) (mS .here rfl mN) ?_)))))))
  exact ⟨[],xs,10,s,aIE (by simpa using c1k) hN (by simpa using c2k) (by omega) (by omega),rfl,rfl,hs⟩
 have c4k:=c4
 try simp only [aC,aI,aD] at c4
 refine .g (cw rfl .no jF (.u rfl) (fun _=>cB (by omega) (by omega)) ?_)
 refine aW (((k20+n20):Nat):Int) rfl rfl rfl rfl ?_
 refine .g (nC rfl rfl (fZ rfl jY rfl (lO rfl bV rfl .here (by first|exact aJ rfl|rfl) ?_)))
 refine .p (kS (k20) ((k20+n20)) rfl .no aH hs (.u rfl) (.u rfl) (.u rfl) (by omega) (by omega) (by omega) (by omega) ?_)
 intro h68 L68 eL68 lL68 hs68
 have lL68:=lL68 rfl
 refine sB rfl .no jX (.u rfl) (fun _=>hs68.sc) ?_
 refine .g (nC rfl rfl (fZ rfl jY rfl (lO rfl bV rfl .here (by first|exact aJ rfl|rfl) ?_)))
 refine .p (kD ((k20+n20)) rfl .no aH hs (.u rfl) (.u rfl) (by omega) (by omega) ?_)
 intro h76 L76 eL76 lL76 hs76
 have lL76:=lL76 rfl
 refine nC rfl rfl (fZ rfl jY rfl (s1 rfl (.u rfl) (.u rfl) rfl iE .here (by first|decide|(simp only [bO,aU,bJ]; omega)) (rfl) ?_))
 refine .nil (.code (.seq (bD rfl rfl (mV rfl rfl (aS rfl rfl (.nc (.ret (We.fin Tryz.results97 (.tmp rfl .nil) (mS .here rfl mN) ?_))))))))
 obtain rfl:e=0:=by simpa using c1k
 exact ⟨L68,L76,0,h76,aID rfl hN (by simpa using c2k) (by omega) (by omega) eL68 eL76,rfl,rfl,hs76⟩
theorem zJ (xs:List Y) (e:Int) (s:Sh) (b:Nat) (G:PM) (hs:SlR G 1 aL s xs) (hl:xs.length≤100000000000000):Ct Tryz.prog 93 ([.pointer (some ⟨b,0,none⟩),.int .i64 ((1:Nat):Int)]:List Value).toArray G [.blk b (cl [s.val xs.length,.int .i64 e] 175)] (fun G' μ' u=>∃ y L e' s',iM ⟨xs,e⟩=(y,⟨L,e'⟩)∧μ'=[.blk b (cl [Sh.val s' L.length,.int .i64 e'] 175)]∧u=uv .u64 (y.setWidth 64)∧SlR G' 1 aL s' L):=by
 refine Ct.of Tryz.func93 rfl Tryz.ntmps93 rfl fun w0 hs0=>?_
 refine .g (pe rfl .no xU (.u rfl) (.u rfl) ?_)
 refine mV rfl rfl (mv rfl (Gd.f (b:=false) rfl rfl) (.u rfl) (nc rfl (Gd.f (b:=false) rfl rfl) (.u rfl) (fz rfl (Gd.f (b:=false) rfl rfl) rD (.u rfl) (ld rfl (Gd.f (b:=false) rfl rfl) gD (.u rfl) (fun _=>Rd.own .here (by first|exact aJ rfl|rfl)) ?_))))
 refine cp rfl (Gd.f (b:=false) rfl rfl) (.u rfl) (.u rfl) rfl (cL rfl .no (.u rfl) (.u rfl) (.g (cD rfl (fun c1=>?_) (fun c1=>?_))))
 ·have c1k:=c1
  try simp only [aC,aI,aD] at c1
  refine .seq (aM rfl rfl (aS rfl rfl (.nc (.ret (We.fin Tryz.results93 (.tmp rfl .nil) (mS .here rfl mN) ?_)))))
  exact ⟨0,xs,e,s,aDg (by simpa using c1k),rfl,rfl,hs⟩
 have c1k:=c1
 try simp only [aC,aI,aD] at c1
 refine .g (cP rfl rfl rfl rfl (mV rfl rfl (mv rfl (.f rfl rfl) (.u rfl) (cp rfl (.f rfl rfl) (.s rfl) (.u rfl) rfl (cL rfl .no (.u rfl) (.s rfl) (.g (cD rfl (fun c2=>?_) (fun c2=>?_))))))))
 ·have c2k:=c2
  exact absurd c2 (by decide)
 have c2k:=c2
 try simp only [aC,aI,aD] at c2
 refine .g (nC rfl rfl (fZ rfl jY rfl (lO rfl bV rfl .here (by first|exact aJ rfl|rfl) ?_)))
 refine lE rfl bK rfl (cP rfl rfl rfl rfl (.g (cD rfl (fun c3=>?_) (fun c3=>?_))))
 ·have c3k:=c3
  try simp only [aC,aI,aD] at c3
  refine .g (nC rfl rfl (fZ rfl rD rfl (s1 rfl (.u rfl) (.u rfl) rfl oS .here (by first|decide|(simp only [bO,aU,bJ]; omega)) (rfl) ?_)))
  refine .nil (.code (.seq (aM rfl rfl (aS rfl rfl (.nc (.ret (We.fin Tryz.results93 (.tmp rfl .nil) (mS .here rfl mN) ?_)))))))
  exact ⟨0,xs,10,s,aH8 (by simpa using c1k) (by omega),rfl,rfl,hs⟩
 have c3k:=c3
 try simp only [aC,aI,aD] at c3
 refine .skip (.code (.seq (aM rfl rfl (aS rfl rfl (.nc (.seq (.seq (bD rfl rfl (mV rfl rfl (mV rfl rfl (.nc (.block ?_))))))))))))
 refine bE (α:=Nat×BitVec 64) (fun gh=>[(5,true,uv .u64 gh.2),(36,true,.int .i64 (gh.1:Int))]) (fun _=>[])
  (fun gh Gl=>(gh.1≤1)∧(gh.2=if gh.1=0 then 0#64 else (xs.getD 0 0).setWidth 64)) (fun gh=>1-gh.1) (0,0#64) [(0,true,_),(1,true,_),(35,true,_)] [_]
  (aA rfl (aO rfl (aA rfl (aA rfl (aA rfl eZ)))))
  (mS .here rfl mN) ?_ ?_
 ·refine ⟨?_,?_⟩
  ·(try dsimp only)<;>(first|omega|rfl|assumption|(simp; done))
  (try dsimp only)<;>(rfl)
 intro gh N0 Gl0 hN0 hGl0 hF0
 obtain ⟨k,m⟩:=gh; dsimp only at hF0 hN0 ⊢
 obtain ⟨hk,em⟩:=hF0
 have hs:=hs.mono hGl0
 refine .g (cP rfl rfl rfl rfl (.g (cD rfl (fun c4=>?_) (fun c4=>?_))))
 ·have c4k:=c4
  try simp only [aC,aI,aD] at c4
  refine .g (nC rfl rfl (fZ rfl jY rfl (lO rfl bV rfl .here (by first|exact aJ rfl|rfl) ?_)))
  refine mV rfl rfl (ih rfl .no aH (.u rfl) (.u rfl) (by omega) (by omega) (fun _=>hs.nn (k:=k) (by omega)) ?_)
  refine lN rfl cA rfl ((hs.yat (k) (by omega) (by omega)).rd) ?_
  refine cu (k:=.u8) rfl .no rfl sA (.u rfl) ?_
  refine .p (aW (((8*k):Nat):Int) rfl rfl rfl rfl ?_)
  refine lw (k:=.u64) rfl .no rfl (.u rfl) (.u rfl) (by omega) ?_
  refine bw (k:=.u64) rfl .no rfl (.u rfl) (.u rfl) rfl (.g (aW (((k+1):Nat):Int) rfl rfl rfl rfl ?_))
  refine .g (aZ (k+1,m ||| (xs.getD k 0).setWidth 64 <<< (8*k)) ?_ ?_ ?_ ?_ ?_)
  ·exact (aA rfl (aO rfl (aA rfl (aA rfl (aA rfl eZ)))))
  ·exact (mS .here rfl mN)
  ·first|omega|(dsimp only; omega)
  ·exact hGl0
  refine ⟨?_,?_⟩
  ·(try dsimp only)<;>(first|omega|rfl|assumption|(simp; done))
  (try dsimp only)<;>((obtain rfl:k=0:=by omega); rw [em,if_pos rfl]; simp)
 have c4k:=c4
 try simp only [aC,aI,aD] at c4
 refine .g (nC rfl rfl (fZ rfl jY rfl (lO rfl bV rfl .here (by first|exact aJ rfl|rfl) ?_)))
 refine .p (kD (1) rfl .no aH hs (.u rfl) (.u rfl) (by omega) (by omega) ?_)
 intro h59 L59 eL59 lL59 hs59
 have lL59:=lL59 rfl
 refine nC rfl rfl (fZ rfl jY rfl (s1 rfl (.u rfl) (.u rfl) rfl iE .here (by first|decide|(simp only [bO,aU,bJ]; omega)) (rfl) ?_))
 refine .nil (.code (.seq (bD rfl rfl (mV rfl rfl (aS rfl rfl (.nc (.ret (We.fin Tryz.results93 (.tmp rfl .nil) (mS .here rfl mN) ?_))))))))
 obtain rfl:k=1:=by omega
 obtain rfl:e=0:=by simpa using c1k
 exact ⟨_,L59,0,h59,aH7 rfl (by omega) eL59,rfl,by rw [em]; rfl,hs59⟩
theorem qG (xs:List Y) (e:Int) (s:Sh) (b:Nat) (G:PM) (hp:RdNP G b 0 [s.val xs.length,.int .i64 e]):Ct Tryz.prog 96 ([.pointer (some ⟨b,0,none⟩)]:List Value).toArray G [] (fun _ μ' u=>μ'=[]∧u=.int .i64 e):=by
 refine Ct.of Tryz.func96 rfl Tryz.ntmps96 rfl fun w0 hs0=>?_
 refine .g (pe rfl .no xU (.u rfl) (.u rfl) ?_)
 refine .g (aCK rfl rfl ?_)
 refine .g (nC rfl rfl (fZ rfl rD rfl (lN rfl gD rfl ((hp.z rfl).rd) ?_)))
 refine aS rfl rfl (.nc (.ret (aP Tryz.results96 (.tmp rfl .nil) ?_)))
 exact ⟨rfl,rfl⟩
theorem aHy (xs:List Y) (e:Int) (s:Sh) (b:Nat) (G:PM) (hp:RdNP G b 0 [s.val xs.length,.int .i64 e]):Ct Tryz.prog 125 ([.pointer (some ⟨b,0,none⟩)]:List Value).toArray G [] (fun _ μ' u=>μ'=[]∧u=.int .i64 (xs.length:Int)):=by
 refine Ct.of Tryz.func125 rfl Tryz.ntmps125 rfl fun w0 hs0=>?_
 refine .g (pe rfl .no xU (.u rfl) (.u rfl) ?_)
 refine .g (aCK rfl rfl ?_)
 refine .g (nC rfl rfl (fZ rfl jY rfl (lN rfl bV rfl ((hp.z rfl).rd) ?_)))
 refine lE rfl bK rfl (aS rfl rfl (.nc (.ret (aP Tryz.results125 (.tmp rfl .nil) ?_))))
 exact ⟨rfl,rfl⟩
theorem aBL (xs:List Y) (e:Int) (s:Sh) (b:Nat) (G:PM) (hp:RdNP G b 0 [s.val xs.length,.int .i64 e]):Ct Tryz.prog 98 ([.pointer (some ⟨b,0,none⟩)]:List Value).toArray G [] (fun _ μ' u=>μ'=[]∧u=.int .i64 (oX xs e)):=by
 refine Ct.of Tryz.func98 rfl Tryz.ntmps98 rfl fun w0 hs0=>?_
 refine .g (kV rfl qY (aB rfl aE) (qG xs e s b _ hp) ?_)
 refine cP rfl rfl rfl rfl (mV rfl rfl (mv rfl (.t rfl rfl) (.u rfl) (kv rfl (.t rfl rfl) aKW (Eva.cons (.s rfl) aE) (fun hc=>aHy xs e s b _ hp) ?_)))
 refine cp rfl (.t rfl rfl) (.s rfl) (.u rfl) rfl (cC rfl .no (.u rfl) (.s rfl) (.g (cD rfl (fun c1=>?_) (fun c1=>?_))))
 ·have c1k:=c1
  try simp only [aC,aD] at c1
  refine .seq (aM rfl rfl (aS rfl rfl (.nc (.ret (aP Tryz.results98 (.tmp rfl .nil) ?_)))))
  exact ⟨rfl,congrArg (Value.int .i64) (by unfold oX; rw [if_pos (by simpa using c1k)])⟩
 have c1k:=c1
 try simp only [aC,aD] at c1
 refine .g (kV rfl qY (aB rfl aE) (qG xs e s b _ hp) ?_)
 refine aS rfl rfl (.nc (.ret (aP Tryz.results98 (.tmp rfl .nil) ?_)))
 exact ⟨rfl,congrArg (Value.int .i64) (by unfold oX; rw [if_neg (by simpa using c1k)])⟩
theorem vC:cK Tryz.prog 26 0=some 0:=by kernel_rfl
theorem tI:cK Tryz.prog 26 1=some 1:=by kernel_rfl
theorem tJ:cK Tryz.prog 26 2=some 2:=by kernel_rfl
theorem aCB:iS Tryz.prog 125=some (ba 12 (fun _=>0#8)):=by kernel_rfl
theorem aKy:dG Tryz.prog 125=some 12:=by kernel_rfl
theorem aAN:cK Tryz.prog 26 3=some 3:=by kernel_rfl
theorem aAO:cK Tryz.prog 26 4=some 4:=by kernel_rfl
theorem aSX:fX Tryz.prog 119 [0,1,2]=some ([.int .u64 0,.int .u64 0,.int .u64 0],[(0,1),(1,1),(2,1)]):=by kernel_rfl
theorem aSV:iG Tryz.prog 119=some (3,24,1):=by kernel_rfl
theorem aHO (h:Hd) (G:PM):Ct Tryz.prog 22 ([.agg ([V h.kind,V h.level,uv .u64 h.gen,uv .u64 h.epoch,uv .u64 h.num]:List Value).toArray]:List Value).toArray G [] (fun _ μ' u=>μ'=[]∧u=.bool h.right):=by
 refine Ct.of Tryz.func22 rfl Tryz.ntmps22 rfl fun w0 hs0=>?_
 refine .seq (bD rfl rfl ?_)
 refine bX rfl rfl rfl ?_; intro b1
 refine .g (fZ rfl vC rfl (lO rfl cA rfl .here (by first|exact aJ rfl|rfl) ?_))
 refine .g (cP rfl rfl rfl rfl (.g (cD rfl (fun c1=>?_) (fun c1=>?_))))
 ·have c1k:=c1
  try simp only [aC,aD] at c1
  refine .g (fZ rfl tI rfl (lO rfl cA rfl .here (by first|exact aJ rfl|rfl) ?_))
  refine cP rfl rfl rfl rfl (aS rfl rfl (.nc (.ret (aP Tryz.results22 (.tmp rfl .nil) ?_))))
  exact ⟨rfl,congrArg Value.bool (aE9 c1).symm⟩
 have c1k:=c1
 try simp only [aC,aD] at c1
 refine .g (cP rfl rfl rfl rfl (.g (cD rfl (fun c2=>?_) (fun c2=>?_))))
 ·have c2k:=c2
  try simp only [aC,aD] at c2
  refine .g (tR rfl c2k ?_)
  refine .g (fZ rfl tI rfl (lO rfl cA rfl .here (by first|exact aJ rfl|rfl) ?_))
  refine cP rfl rfl rfl rfl (.p (fz rfl (.t rfl rfl) tJ (.u rfl) (ld rfl (.t rfl rfl) fI (.s rfl) (fun hc=>Rd.own .here (by first|exact aJ rfl|rfl)) ?_)))
  refine cp rfl (.t rfl rfl) (.s rfl) (.u rfl) rfl (cC rfl .no (.u rfl) (.s rfl) (aS rfl rfl (.nc (.ret (aP Tryz.results22 (.tmp rfl .nil) ?_)))))
  exact ⟨rfl,congrArg Value.bool (aE8 c2).symm⟩
 have c2k:=c2
 try simp only [aC,aD] at c2
 refine .g (cP rfl rfl rfl rfl (.g (cD rfl (fun c3=>?_) (fun c3=>?_))))
 ·have c3k:=c3
  try simp only [aC,aD] at c3
  refine .g (fZ rfl tI rfl (lO rfl cA rfl .here (by first|exact aJ rfl|rfl) ?_))
  refine cP rfl rfl rfl rfl (.p (fz rfl (.t rfl rfl) tJ (.u rfl) (ld rfl (.t rfl rfl) fI (.s rfl) (fun hc=>Rd.own .here (by first|exact aJ rfl|rfl)) ?_)))
  refine cp rfl (.t rfl rfl) (.s rfl) (.u rfl) rfl (cC rfl .no (.u rfl) (.s rfl) (aS rfl rfl (.nc (.ret (aP Tryz.results22 (.tmp rfl .nil) ?_)))))
  exact ⟨rfl,congrArg Value.bool (aFA c3).symm⟩
 have c3k:=c3
 try simp only [aC,aD] at c3
 refine .skip (.blk (.code (.seq (aM rfl rfl (aS rfl rfl (.nc (.ret (aP Tryz.results22 (.tmp rfl .nil) ?_))))))))
 exact ⟨rfl,congrArg Value.bool (aE7 c2 c1 c3).symm⟩
theorem aCH (n:BitVec 64) (G:PM):Ct Tryz.prog 73 ([uv .u64 n]:List Value).toArray G [] (fun _ μ' u=>μ'=[]∧u=.agg (ba 12 (hZ n)).toArray):=by
 refine Ct.of Tryz.func73 rfl Tryz.ntmps73 rfl fun w0 hs0=>?_
 refine .seq (aM rfl rfl ?_)
 refine al rfl aCB ?_; intro b2
 refine .nil (.code (.seq (aM rfl rfl ?_)))
 refine al rfl aCB ?_; intro b3
 refine .nil (.code (.seq (.seq (aM rfl rfl (mV rfl rfl (.nc (.block ?_)))))))
 refine bE (α:=Nat×(Nat→Y)) (fun gh=>[(5,true,.int .i64 (gh.1:Int))]) (fun gh=>[.blk b3 (cl (ba 12 gh.2) 125)])
  (fun gh Gl=>(gh.1≤8)∧(gh.2=fQ (hZ n) gh.1)) (fun gh=>8-gh.1) (0,fun _=>0#8) [(0,true,_),(2,true,_),(3,true,_)] [_]
  (aO rfl (aA rfl (aA rfl (aA rfl eZ))))
  (mS .here rfl (mS .here rfl mN)) ?_ ?_
 ·refine ⟨?_,?_⟩
  ·(try dsimp only)<;>(first|omega|rfl|assumption|(simp; done))
  (try dsimp only)<;>(first|omega|rfl|assumption|(simp; done))
 intro gh N0 Gl0 hN0 hGl0 hF0
 obtain ⟨k,f⟩:=gh; dsimp only at hF0 hN0 ⊢
 obtain ⟨hk,ef⟩:=hF0
 refine .g (cP rfl rfl rfl rfl (.g (cD rfl (fun c1=>?_) (fun c1=>?_))))
 ·have c1k:=c1
  try simp only [aC,aD] at c1
  refine .g (aW (((8*k):Nat):Int) rfl rfl rfl rfl ?_)
  refine iC (k:=.u64) rfl .no (.u rfl) (.u rfl) (by omega) ?_
  refine cu (k:=.u64) rfl .no rfl kU (.u rfl) ?_
  refine iW rfl aBx rfl rfl ?_
  refine s1 rfl (.u rfl) (.u rfl) rfl fW .here (by first|decide|(simp only [bO,aU,bJ]; omega)) (by first|exact cU (k) (by omega)|exact hH (k) (by omega)|exact mD (k) (by omega) (by omega)|rfl) ?_
  refine .g (aW (((k+1):Nat):Int) rfl rfl rfl rfl ?_)
  refine .g (aZ (k+1,bA f k ((n >>> (8*k)).setWidth 8)) ?_ ?_ ?_ ?_ ?_)
  ·exact (aO rfl (aA rfl (aA rfl (aA rfl eZ))))
  ·exact (mS .here rfl (mS .here rfl mN))
  ·first|omega|(dsimp only; omega)
  ·exact hGl0
  refine ⟨?_,?_⟩
  ·(try dsimp only)<;>(first|omega|rfl|assumption|(simp; done))
  (try dsimp only)<;>(exact wM ef (by unfold hZ; rw [if_pos (by omega)]))
 have c1k:=c1
 try simp only [aC,aD] at c1
 refine .g (lB rfl qP rfl .here ?_)
 refine sW rfl rfl rfl rfl aKy aF ?_
 refine .nil (.code (.ret (aP Tryz.results73 (.cell rfl (fun w hw=>bW qP (RdN.own .here) ((by first|exact qE|exact qL|rfl)) hw) .nil) ?_)))
 obtain rfl:k=8:=by omega
 exact ⟨rfl,by rw [ef,iJ (fun i hi=>aHQ n hi)]; rfl⟩
theorem zB (h:Hd) (G:PM):Ct Tryz.prog 26 ([.agg ([V h.kind,V h.level,uv .u64 h.gen,uv .u64 h.epoch,uv .u64 h.num]:List Value).toArray]:List Value).toArray G [] (PR 5 (fun L=>L=aX h)):=by
 refine Ct.of Tryz.func26 rfl Tryz.ntmps26 rfl fun w0 hs0=>?_
 refine .seq (bD rfl rfl ?_)
 refine bX rfl rfl rfl ?_; intro b1
 refine aS rfl rfl (.nc (.seq (rq9 rfl rfl ?_)))
 refine Go.Tan.bN rfl aH aY (Evp.cons (.u rfl) (Evp.cons (.u rfl) (Evp.cons (.u rfl) (Evp.cons (.u rfl) Evp.nil)))) rfl (by decide) (by simp [Value.oneCell',Sh.val]) ?_; intro b6
 refine mkS [116#8,97#8,110#8,116#8] rfl rfl aEc (.u rfl) .here rfl rfl (by decide) ?_; intro G7 hG7 hs7
 refine fZ rfl vC rfl (lO rfl cA rfl .here (by first|exact aJ rfl|rfl) ?_)
 refine fZ rfl tI rfl (lO rfl cA rfl .here (by first|exact aJ rfl|rfl) ?_)
 refine Go.Tan.bN rfl aH aY (Evp.cons (.u rfl) (Evp.cons (.u rfl) Evp.nil)) rfl (by decide) (pG rfl rfl) ?_; intro b12
 refine apF (.inr rfl) rfl aH aY (.u rfl) (.u rfl) hs7 rfl (Sc.blk (ys:=[h.kind,h.level]) .here rfl rfl) (by (try simp only [List.length_cons,List.length_nil]); omega) (by (try simp only [List.length_cons,List.length_nil]); omega) (by (try simp only [List.length_cons,List.length_nil]); omega) ?_; intro v13 L13 ov13 eL13
 have lL13:L13.length=[116#8,97#8,110#8,116#8].length+2:=by rw [eL13,List.length_append]; first|rfl | simp [bB]
 refine .g (fZ rfl tJ rfl (lO rfl fI rfl aT (by first|exact aJ rfl|rfl) ?_))
 refine fZ rfl aAN rfl (lO rfl fI rfl aT (by first|exact aJ rfl|rfl) ?_)
 refine fZ rfl aAO rfl (lO rfl fI rfl aT (by first|exact aJ rfl|rfl) ?_)
 refine bC rfl .no aSX (.cons (.u rfl) rfl (.cons (.u rfl) rfl (.cons (.u rfl) rfl .nil))) rfl ?_
 refine mV rfl rfl (.nc (.block ?_))
 refine bE (α:=Nat×Value×List Y) (fun gh=>[(3,true,gh.2.1),(21,true,.int .i64 (gh.1:Int))]) (fun gh=>[rB gh.2.1 5 gh.2.2])
  (fun gh Gl=>(gh.1≤3)∧(gh.2.2=h.some gh.1)) (fun gh=>3-gh.1) (0,_,_) [(20,true,_)] [_,_]
  (aA rfl (aO rfl (aA rfl eZ)))
  (mS .here rfl (mS .here rfl (mS .here rfl mN))) ?_ ?_
 ·refine ⟨?_,?_⟩
  ·(try dsimp only)<;>(first|omega|rfl|assumption|(simp; done))
  (try dsimp only)<;>(rw [eL13]; rfl)
 intro gh N0 Gl0 hN0 hGl0 hF0
 obtain ⟨k,v,L⟩:=gh; dsimp only at hF0 hN0 ⊢
 obtain ⟨hk,eL⟩:=hF0
 have lL:L.length=6+8*k:=by rw [eL,Hd.some_len]
 refine .g (cP rfl rfl rfl rfl (.g (cD rfl (fun c1=>?_) (fun c1=>?_))))
 ·have c1k:=c1
  try simp only [aC,aD] at c1
  refine .g (ix rfl .no aSV fI (.u rfl) (.u rfl) (by omega) (by omega) (fun _=>aLA (by omega)) ?_)
  refine aS rfl rfl (.nc ?_)
  refine iR .here (by first|(intro b hb; cases hb; done) | simp [keys,Res.keys]) ?_; intro GfR13 hR13 hleR13 evR13 hsR13; subst evR13
  refine .g (kc rfl tK (aB rfl (aB rfl (aB rfl aE))) (iT (rV L _ _ 8 _ hsR13 (by omega) (by decide))) ?_)
  rintro v26 G26 μ26 hG26 ⟨L26,ov26,eL26,rfl⟩
  refine .g (aW (((k+1):Nat):Int) rfl rfl rfl rfl ?_)
  refine .g (aZ (k+1,v26,L26) ?_ ?_ ?_ ?_ ?_)
  ·exact (aA rfl (aO rfl (aA rfl eZ)))
  ·exact (mS .here rfl (mS .here rfl (mS .here rfl mN)))
  ·first|omega|(dsimp only; omega)
  ·exact ((hGl0).trans hleR13).trans hG26
  refine ⟨?_,?_⟩
  ·(try dsimp only)<;>(first|omega|rfl|assumption|(simp; done))
  (try dsimp only)<;>(rw [eL26,eL,xV]; rfl)
 have c1k:=c1
 try simp only [aC,aD] at c1
 refine .exit (.xcode (.xlp (.xblk (.code (.seq (bD rfl rfl (mV rfl rfl (aS rfl rfl (.nc (.ret (We.fin Tryz.results26 (.tmp rfl .nil) (mS .here rfl mN) ?_)))))))))))
 obtain rfl:k=3:=by omega
 exact ⟨L,by rw [eL,aK9],rfl⟩
theorem aIL (h:Hd) (G:PM):Ct Tryz.prog 37 ([.agg ([V h.kind,V h.level,uv .u64 h.gen,uv .u64 h.epoch,uv .u64 h.num]:List Value).toArray]:List Value).toArray G [] (fun _ μ' u=>μ'=[]∧u=.bool h.right):=by
 refine Ct.of Tryz.func37 rfl Tryz.ntmps37 rfl fun w0 hs0=>?_
 refine .seq (bD rfl rfl ?_)
 refine bX rfl rfl rfl ?_; intro b1
 refine .g (fZ rfl vC rfl (lO rfl cA rfl .here (by first|exact aJ rfl|rfl) ?_))
 refine cP rfl rfl rfl rfl (.g (cD rfl (fun c1=>?_) (fun c1=>?_)))
 ·have c1k:=c1
  try simp only [aC,aD] at c1
  refine .g (fZ rfl tI rfl (lO rfl cA rfl .here (by first|exact aJ rfl|rfl) ?_))
  refine cP rfl rfl rfl rfl (aS rfl rfl (.nc (.ret (aP Tryz.results37 (.tmp rfl .nil) ?_))))
  exact ⟨rfl,congrArg Value.bool (aE9 c1).symm⟩
 have c1k:=c1
 try simp only [aC,aD] at c1
 refine .g (fZ rfl vC rfl (lO rfl cA rfl .here (by first|exact aJ rfl|rfl) ?_))
 refine cP rfl rfl rfl rfl (.p (fz rfl (.f rfl rfl) vC (.u rfl) (ld rfl (.f rfl rfl) cA (.s rfl) (fun hc=>Rd.own .here (by first|exact aJ rfl|rfl)) ?_)))
 refine cp rfl (.f rfl rfl) (.s rfl) (.u rfl) rfl (cL rfl .no (.u rfl) (.s rfl) (.p (fz rfl (.t rfl rfl) tI (.u rfl) (ld rfl (.t rfl rfl) cA (.s rfl) (fun hc=>Rd.own .here (by first|exact aJ rfl|rfl)) ?_))))
 refine cp rfl (.t rfl rfl) (.s rfl) (.u rfl) rfl (cC rfl .no (.u rfl) (.s rfl) (.p (fz rfl (.t rfl rfl) tJ (.u rfl) (ld rfl (.t rfl rfl) fI (.s rfl) (fun hc=>Rd.own .here (by first|exact aJ rfl|rfl)) ?_))))
 refine cp rfl (.t rfl rfl) (.s rfl) (.u rfl) rfl (cC rfl .no (.u rfl) (.s rfl) (aS rfl rfl (.nc (.ret (aP Tryz.results37 (.tmp rfl .nil) ?_)))))
 refine ⟨rfl,congrArg Value.bool ?_⟩
 exact aK8 c1
theorem aPb (n:BitVec 64) (G:PM):Ct Tryz.prog 85 ([uv .u64 n]:List Value).toArray G [] (fun _ μ' u=>μ'=[]∧u=.agg (ba 12 (hZ n)).toArray):=by
 refine Ct.of Tryz.func85 rfl Tryz.ntmps85 rfl fun w0 hs0=>?_
 refine .seq (aM rfl rfl ?_)
 refine al rfl aCB ?_; intro b2
 refine .nil (.code (.seq (aM rfl rfl ?_)))
 refine al rfl aCB ?_; intro b3
 refine .g (kc rfl tM (aB rfl (aB rfl aE)) (iT (sL _ 8 _ (by decide))) ?_)
 rintro v7 G7 μ7 hG7 ⟨L7,ov7,eL7,rfl⟩
 refine aS rfl rfl (.nil ?_)
 have lL7:L7.length=8:=by rw [eL7]; exact gT _ _
 refine .code (.seq (.seq ?_))
 refine iR .here (by first|(intro b hb; cases hb; done) | simp [keys,Res.keys]) ?_; intro GfR7 hR7 hleR7 evR7 hsR7; subst evR7
 refine aM rfl rfl (aS rfl rfl (.nc (.block ?_)))
 refine bE (α:=Nat×(Nat→Y)) (fun gh=>[(5,true,.int .i64 (gh.1:Int))]) (fun gh=>[.blk b3 (cl (ba 12 gh.2) 125)])
  (fun gh Gl=>(gh.1≤8)∧(gh.2=fQ (hZ n) gh.1)) (fun gh=>8-gh.1) (0,fun _=>0#8) [(2,true,_),(3,true,_),(4,true,_)] [_]
  (aO rfl (aA rfl (aA rfl (aA rfl eZ))))
  (mS .here rfl (mS .here rfl mN)) ?_ ?_
 ·refine ⟨?_,?_⟩
  ·(try dsimp only)<;>(first|omega|rfl|assumption|(simp; done))
  (try dsimp only)<;>(first|omega|rfl|assumption|(simp; done))
 intro gh N0 Gl0 hN0 hGl0 hF0
 obtain ⟨k,f⟩:=gh; dsimp only at hF0 hN0 ⊢
 obtain ⟨hk,ef⟩:=hF0
 have hsR7:=hsR7.mono hGl0
 refine .g (cP rfl rfl rfl rfl (.g (cD rfl (fun c1=>?_) (fun c1=>?_))))
 ·have c1k:=c1
  try simp only [aC,aD] at c1
  refine .skip (.code (.seq (.block (uQ rfl rfl (mV rfl rfl (mV rfl rfl (mV rfl rfl (ih rfl .no aH (.u rfl) (.u rfl) (by omega) (by omega) (fun _=>hsR7.nn (k:=k) (by omega)) ?_))))))))
  refine lN rfl cA rfl ((hsR7.yat (k) (by omega) (by omega)).rd) ?_
  refine iW rfl aBx rfl rfl ?_
  refine s1 rfl (.u rfl) (.u rfl) rfl fW .here (by first|decide|(simp only [bO,aU,bJ]; omega)) (by first|exact cU (k) (by omega)|exact hH (k) (by omega)|exact mD (k) (by omega) (by omega)|rfl) ?_
  refine .g (aW (((k+1):Nat):Int) rfl rfl rfl rfl ?_)
  refine .g (aZ (k+1,bA f k (L7.getD k 0)) ?_ ?_ ?_ ?_ ?_)
  ·exact (aO rfl (aA rfl (aA rfl (aA rfl eZ))))
  ·exact (mS .here rfl (mS .here rfl mN))
  ·first|omega|(dsimp only; omega)
  ·exact hGl0
  refine ⟨?_,?_⟩
  ·(try dsimp only)<;>(first|omega|rfl|assumption|(simp; done))
  (try dsimp only)<;>(exact wM ef (by rw [eL7]; exact aNG (by omega)))
 have c1k:=c1
 try simp only [aC,aD] at c1
 refine .g (lB rfl qP rfl .here ?_)
 refine sW rfl rfl rfl rfl aKy aF ?_
 refine .nil (.code (.ret (aP Tryz.results85 (.cell rfl (fun w hw=>bW qP (RdN.own .here) ((by first|exact qE|exact qL|rfl)) hw) .nil) ?_)))
 obtain rfl:k=8:=by omega
 exact ⟨rfl,by rw [ef,iJ (fun i hi=>aHQ n hi)]; rfl⟩
theorem aDo (h:Hd) (G:PM):Ct Tryz.prog 42 ([.agg ([V h.kind,V h.level,uv .u64 h.gen,uv .u64 h.epoch,uv .u64 h.num]:List Value).toArray]:List Value).toArray G [] (PR 5 (fun L=>L=aX h)):=by
 refine Ct.of Tryz.func42 rfl Tryz.ntmps42 rfl fun w0 hs0=>?_
 refine .seq (bD rfl rfl ?_)
 refine bX rfl rfl rfl ?_; intro b1
 refine .g (fZ rfl vC rfl (lO rfl cA rfl .here (by first|exact aJ rfl|rfl) ?_))
 refine fZ rfl tI rfl (lO rfl cA rfl .here (by first|exact aJ rfl|rfl) ?_)
 refine Go.Tan.bN rfl aH aY (Evp.cons (.u rfl) (Evp.cons (.u rfl) (Evp.cons (.u rfl) (Evp.cons (.u rfl) (Evp.cons (.u rfl) (Evp.cons (.u rfl) Evp.nil)))))) rfl (by decide) (aOc rfl rfl rfl rfl rfl rfl) ?_; intro b8
 refine aS rfl rfl (.nc (.seq (aEK [116#8,97#8,110#8,116#8,h.kind,h.level] 6 .here rfl rfl (by decide) ?_)))
 have lR8:([116#8,97#8,110#8,116#8,h.kind,h.level]:List Y).length=6:=rfl
 refine .g (fZ rfl tJ rfl (lO rfl fI rfl aF (by first|exact aJ rfl|rfl) ?_))
 refine kc rfl tM (aB rfl (aB rfl aE)) (Ct.frzB (sL _ 8 _ (by decide))) ?_
 rintro _ G12 μ12 hG12 ⟨h12,L12,eL12,rfl,rfl,hs12⟩
 have lL12:L12.length=8:=by rw [eL12]; exact gT _ _
 refine cF rfl aH aY (.u rfl) (.u rfl) .here hs12.sc (by (try simp only [bJ,bB]); omega) ?_
 intro v13 L13 ov13 eL13
 have lL13:L13.length=[116#8,97#8,110#8,116#8,h.kind,h.level].length+L12.length:=by rw [eL13,List.length_append]
 refine .g (fZ rfl aAN rfl (lO rfl fI rfl aF (by first|exact aJ rfl|rfl) ?_))
 refine kc rfl tM (aB rfl (aB rfl aE)) (Ct.frzB (sL _ 8 _ (by decide))) ?_
 rintro _ G17 μ17 hG17 ⟨h17,L17,eL17,rfl,rfl,hs17⟩
 have lL17:L17.length=8:=by rw [eL17]; exact gT _ _
 refine cF rfl aH aY (.u rfl) (.u rfl) .here hs17.sc (by (try simp only [bJ,bB]); omega) ?_
 intro v18 L18 ov18 eL18
 have lL18:L18.length=L13.length+L17.length:=by rw [eL18,List.length_append]
 refine .g (fZ rfl aAO rfl (lO rfl fI rfl aF (by first|exact aJ rfl|rfl) ?_))
 refine kc rfl tM (aB rfl (aB rfl aE)) (Ct.frzB (sL _ 8 _ (by decide))) ?_
 rintro _ G22 μ22 hG22 ⟨h22,L22,eL22,rfl,rfl,hs22⟩
 have lL22:L22.length=8:=by rw [eL22]; exact gT _ _
 refine cF rfl aH aY (.u rfl) (.u rfl) .here hs22.sc (by (try simp only [bJ,bB]); omega) ?_
 intro v23 L23 ov23 eL23
 have lL23:L23.length=L18.length+L22.length:=by rw [eL23,List.length_append]
 refine aS rfl rfl (.nc (.seq (bD rfl rfl (mV rfl rfl (aS rfl rfl (.nc (.ret (We.fin Tryz.results42 (.tmp rfl .nil) (mS .here rfl mN) ?_))))))))
 exact ⟨L23,by rw [eL23,eL18,eL13,eL12,eL17,eL22]; rfl,rfl⟩
theorem aN8 {G:PM} {b T:Nat} {hk h1:Sh} {key L1:List Y} (hle:PM.le G (G.add b (cl [h1.val L1.length] T))) (hsk:SlR G 1 aL hk key) (hs:SlR G 1 aL h1 L1) (hK:RdNP G 1 0 (wa 64 kW)) (hlk:key.length≤140737488351232) (hl:L1.length≤1000000000000000) :
  Ct Tryz.prog 135 ([hk.val key.length,.slice (some ⟨b,0,none⟩) 1 1]:List Value).toArray (G.add b (cl [h1.val L1.length] T)) [] (fun _ μ' u=>μ'=[]∧u=.agg (ba 32 (pB key L1)).toArray):=by
 have h:=aDJ key hk [(h1,L1)] ⟨some ⟨b,0,none⟩,1⟩ _ (hsk.mono hle) (SlP.one hle hs) (hK.mono hle) hlk (by simpa [cN] using hl) (by simp)
 rw [show cN [(h1,L1)]=L1 by simp [cN]] at h
 exact h
theorem aJ0 (salt:List Y) (hk:Sh) (xs:List Y) (h:Sh) (G:PM) (hsk:SlR G 1 aL hk salt) (hs:SlR G 1 aL h xs) (hK:RdNP G 1 0 (wa 64 kW)) (hlk:salt.length≤140737488351232) (hl:xs.length≤1000000000000000):Ct Tryz.prog 108 ([hk.val salt.length,h.val xs.length]:List Value).toArray G [] (fun _ μ' u=>μ'=[]∧u=.agg (ba 32 (pB salt xs)).toArray):=by
 refine Ct.of Tryz.func108 rfl Tryz.ntmps108 rfl fun w0 hs0=>?_
 refine .seq (aM rfl rfl ?_)
 refine al rfl fT ?_; intro b4
 refine .nil (.code (.seq (oK rfl rfl (mV rfl rfl (mV rfl rfl ?_)))))
 refine Go.Tan.b1 rfl gP jM (.u rfl) rfl rfl (by decide) ?_; intro b7
 refine kp rfl .no aEr (aB rfl (aB rfl aE)) (Gp.add .here Gp.nil) (fun _ hle hq=>aN8 hle hsk hs hK hlk hl) ?_
 refine sW rfl rfl rfl rfl fH aF ?_
 refine .nil (.code (.ret (aP Tryz.results108 (.cell rfl (fun w hw=>bW cH (RdN.own .here) ((by first|exact qE|exact qL|rfl)) hw) .nil) ?_)))
 exact ⟨rfl,rfl⟩
theorem SlP.three {G:PM} {b T:Nat} {h1 h2 h3:Sh} {L1 L2 L3:List Y} (hle:PM.le G (G.add b (cl [h1.val L1.length,h2.val L2.length,h3.val L3.length] T))) (hs:SlR G 1 aL h1 L1) (hs2:SlR G 1 aL h2 L2) (hs3:SlR G 1 aL h3 L3) :
  SlP (G.add b (cl [h1.val L1.length,h2.val L2.length,h3.val L3.length] T)) ⟨some ⟨b,0,none⟩,3⟩ [(h1,L1),(h2,L2),(h3,L3)] :=
 ⟨nD (T:=T) (iF _ _ _) (fun _ _=>rfl) (by simp),fun p hp=>by
  simp only [List.mem_cons,List.not_mem_nil,or_false] at hp
  rcases hp with rfl|rfl|rfl
  ·exact hs.mono hle
  ·exact hs2.mono hle
  ·exact hs3.mono hle⟩
theorem aN9 {G:PM} {b c T T' E lo:Nat} {hk hu s:Sh} {key use L:List Y} {y:Y} (hsk:SlR G 1 aL hk key) (hsu:SlR G 1 aL hu use) (hK:RdNP G 1 0 (wa 64 kW)) (hlo:lo≤L.length) (hlk:key.length≤140737488351232) (hl:L.length+use.length≤100000000000000) :
  Ct Tryz.prog 135 ([hk.val key.length,.slice (some ⟨c,0,none⟩) 3 3]:List Value).toArray G [rB (s.val L.length) E L,.blk b (cl [V y] T),.blk c (cl [(s.cut lo 1).val (L.length-lo),hu.val use.length,.slice (some ⟨b,0,none⟩) 1 1] T')]
   (fun _ μ' u=>∃ ν,μ'=rB (s.val L.length) E L :: ν∧∃ ν2,ν=.blk b (cl [V y] T) :: ν2∧∃ ν3,ν2=.blk c (cl [(s.cut lo 1).val (L.length-lo),hu.val use.length,.slice (some ⟨b,0,none⟩) 1 1] T') :: ν3∧ν3=[]∧u=.agg (ba 32 (pB key (L.drop lo++use++[y]))).toArray) :=
 xG (fun s' G2 hle hv hs=>aEU (fun h1=>aEU (fun h2=>by
  obtain rfl:=aLH hv
  have e1:SlR G2 1 aL (s.cut lo 1) (L.drop lo):=by
   have:=hs.cutn (lo:=lo) (m:=L.length-lo) (by omega)
   rwa [List.take_of_length_le (by simp)] at this
  have e2:SlR (G2.add b (cl [V y] T)) 1 aL ⟨some ⟨b,0,none⟩,1⟩ [y]:=nD (T:=T) (iF _ _ _) (fun _ _=>rfl) (by simp)
  have e3:L.length-lo=(L.drop lo).length:=by simp
  rw [e3] at h2 ⊢
  have hP:=SlP.three (h1:=s.cut lo 1) (h2:=hu) (h3:=⟨some ⟨b,0,none⟩,1⟩) h2 (e1.mono h1) ((hsu.mono hle).mono h1) e2
  have h:=aDJ key hk _ ⟨some ⟨c,0,none⟩,3⟩ _ (((hsk.mono hle).mono h1).mono h2) hP (((hK.mono hle).mono h1).mono h2) hlk (by simp [cN]; omega) (by simp)
  rw [show cN [((s.cut lo 1),L.drop lo),(hu,use),((⟨some ⟨b,0,none⟩,1⟩ : Sh),[y])]=L.drop lo++use++[y] by simp [cN]] at h
  exact h)))
theorem aJz (key:List Y) (hk:Sh) (use:List Y) (hu:Sh) (G:PM) (hsk:SlR G 1 aL hk key) (hsu:SlR G 1 aL hu use) (hK:RdNP G 1 0 (wa 64 kW)) (hlk:key.length≤1000) (hl:use.length≤1000000):Ct Tryz.prog 109 ([hk.val key.length,hu.val use.length,.int .i64 ((64:Nat):Int)]:List Value).toArray G [] (fun G' μ' u=>∃ s L,L=oC key use 2∧μ'=[]∧u=.tuple #[s.val L.length,.int .i64 0]∧SlR G' 1 aL s L):=by
 refine Ct.of Tryz.func109 rfl Tryz.ntmps109 rfl fun w0 hs0=>?_
 refine .g (cP rfl rfl rfl rfl (mV rfl rfl (mv rfl (.f rfl rfl) (.u rfl) (cp rfl (.f rfl rfl) (.s rfl) (.u rfl) rfl (cL rfl .no (.u rfl) (.s rfl) (.g (cD rfl (fun c1=>?_) (fun c1=>?_))))))))
 ·have c1k:=c1
  exact absurd c1 (by decide)
 have c1k:=c1
 try simp only [aC,aD] at c1
 refine .g (aW (((64+32):Nat):Int) rfl rfl rfl rfl ?_)
 refine mkY (0) ((64+32)) rfl aH aY (.u rfl) (.u rfl) (by first|rfl|omega) (by first|rfl|omega) (by omega) (by omega) ?_; intro b19
 have lR19:(List.replicate (0) (0#8:Y)).length=0:=List.length_replicate
 refine aS rfl rfl (.nc (.seq (.seq (aM rfl rfl (aS rfl rfl (.nc (.block ?_)))))))
 refine bE (α:=Nat×Value×List Y) (fun gh=>[(8,true,gh.2.1),(9,true,V (BitVec.ofNat 8 (gh.1+1)))]) (fun gh=>[rB gh.2.1 5 gh.2.2])
  (fun gh Gl=>(gh.1≤2)∧(gh.2.2=oC key use gh.1)) (fun gh=>2-gh.1) (0,_,_) [(0,true,_),(1,true,_),(2,true,_)] []
  (aA rfl (aA rfl (aA rfl (aA rfl (aA rfl eZ)))))
  (mS .here rfl mN) ?_ ?_
 ·refine ⟨?_,?_⟩
  ·(try dsimp only)<;>(first|omega|rfl|assumption|(simp; done))
  (try dsimp only)<;>(rfl)
 intro gh N0 Gl0 hN0 hGl0 hF0
 obtain ⟨j,v,L⟩:=gh; dsimp only at hF0 hN0 ⊢
 obtain ⟨hj,eL⟩:=hF0
 have hsk:=hsk.mono hGl0
 have hsu:=hsu.mono hGl0
 have hK:=hK.mono hGl0
 have lL:L.length=32*j:=by rw [eL,uF]
 refine .g (lr rfl .no bK (.u rfl) .here ?_)
 refine .p (cP rfl rfl rfl rfl (.g (cD rfl (fun c2=>?_) (fun c2=>?_))))
 ·have c2k:=c2
  try simp only [aC,aD] at c2
  refine .skip (.code (.seq (.block (.seq ?_))))
  refine aAB .here ?_; intro sR19 bbR19 evR19 lcR19 oaR19; subst evR19
  refine .g (lr rfl .no bK (.u rfl) .here ?_)
  refine aR rfl rfl rfl rfl ?_
  refine mAq ((32*j-32:Nat):Int) rfl (.u rfl) (.u rfl) (by split<;>omega) ?_
  refine sd rfl .no aH (.u rfl) (.u rfl) (by omega) (by omega) ?_
  refine mV rfl rfl (mV rfl rfl ?_)
  refine Go.Tan.b1 rfl aH aY (.u rfl) rfl rfl (by decide) ?_; intro b35
  refine Go.Tan.bN rfl gP jM (Evp.cons (.u rfl) (Evp.cons (.u rfl) (Evp.cons (.u rfl) Evp.nil))) rfl (by decide) (by simp [Value.oneCell',Sh.val]) ?_; intro b36
  refine ka rfl (.inr rfl) aEr (aB rfl (aB rfl aE)) (aBB aT aF .here) (aN9 (lo:=32*j-32) hsk hsu hK (by omega) (by omega) (by omega)) ?_
  rintro _ G37 μ37 hG37 ⟨_,rfl,_,rfl,_,rfl,rfl,rfl⟩
  refine al rfl fT ?_; intro b10
  refine sW rfl rfl rfl rfl fH .here ?_
  refine .g (lY rfl .no gB (.u rfl) (cF rfl aH aY (.u rfl) (.u rfl) aF (Sc.arr .here) (by (try simp only [bJ,bB]); omega) ?_))
  intro v40 L40 ov40 eL40
  have lL40:L40.length=L.length+32:=by rw [eL40,List.length_append]; first|rfl | simp [bB]
  refine .g (bw (k:=.u8) (b:=1#8) rfl .no rfl (.u rfl) (.u rfl) rfl (.g (aZ (j+1,v40,L40) ?_ ?_ ?_ ?_ ?_)))
  ·exact (aA rfl (fD rfl (by show V (BitVec.ofNat 8 (j+1)+1#8)=_; rw [← BitVec.ofNat_add]) (aA rfl (aA rfl (aA rfl eZ)))))
  ·exact (mS .here rfl mN)
  ·first|omega|(dsimp only; omega)
  ·exact (hGl0).trans hG37
  refine ⟨?_,?_⟩
  ·(try dsimp only)<;>(first|omega|rfl|assumption|(simp; done))
  (try dsimp only)<;>(rw [eL40,eL,aNA]; rfl)
 have c2k:=c2
 try simp only [aC,aD] at c2
 refine .exit (.xcode (.xlp (.xblk (.code (.seq ?_)))))
 refine iR .here (by first|(intro b hb; cases hb; done) | simp [keys,Res.keys]) ?_; intro GfR19 hR19 hleR19 evR19 hsR19; subst evR19
 refine nO rfl rfl (mV rfl rfl (mV rfl rfl (mV rfl rfl ?_)))
 refine kM 64 rfl aH hsR19 (.u rfl) (.u rfl) (.u rfl) (by omega) ?_; intro h44 L44 eL44 lL44 hs44
 refine aS rfl rfl (aS rfl rfl (.nc (.ret (aP Tryz.results109 (.tmp rfl (.tmp rfl .nil)) ?_))))
 obtain rfl:j=2:=by omega
 exact ⟨h44,L44,by rw [eL44,eL]; exact List.take_of_length_le (by rw [uF]; omega),rfl,rfl,hs44⟩
theorem aAW:iS Tryz.prog 65=some (ba 32 (fun _=>0#8)++ba 32 (fun _=>0#8)):=by kernel_rfl
theorem aSs:aQ Tryz.prog 108=true:=by kernel_rfl
theorem aSt:aQ Tryz.prog 109=true:=by kernel_rfl
theorem aSg:fX Tryz.prog 65 [0,1]=some (ba 32 (fun _=>0#8)++ba 32 (fun _=>0#8),[(0,32),(32,32)]):=by kernel_rfl
theorem aB9:dG Tryz.prog 65=some 64:=by kernel_rfl
theorem aAR:aQ Tryz.prog 26=true:=by kernel_rfl
theorem aTT:aQ Tryz.prog 69=true:=by kernel_rfl
theorem aS9:aQ Tryz.prog 140=true:=by kernel_rfl
theorem aEy:aQ Tryz.prog 42=true:=by kernel_rfl
theorem aSy:aQ Tryz.prog 119=true:=by kernel_rfl
theorem aJy (root:Nat→Y) (use:List Y) (hu:Sh) (G:PM) (hsu:SlR G 1 aL hu use) (hK:RdNP G 1 0 (wa 64 kW)) (hl:use.length≤1000000):Ct Tryz.prog 69 ([.agg (ba 32 root).toArray,hu.val use.length]:List Value).toArray G [] (fun _ μ' u=>μ'=[]∧u=.agg (ba 32 (dE root use)++ba 32 (dF root use)).toArray):=by
 refine Ct.of Tryz.func69 rfl Tryz.ntmps69 rfl fun w0 hs0=>?_
 refine .seq (bD rfl rfl ?_)
 refine bX rfl rfl rfl ?_; intro b2
 refine al rfl aAW ?_; intro b4
 refine .nil (.code (.seq ?_))
 refine fS aF (by intro b hb; cases hb) ?_; intro Gfb2 hleb2 hbb2
 have hsu:=hsu.mono hleb2
 have hK:=hK.mono hleb2
 refine nO rfl rfl ?_
 refine Go.Tan.bN rfl aH aY (Evp.cons (.u rfl) (Evp.cons (.u rfl) (Evp.cons (.u rfl) (Evp.cons (.u rfl) (Evp.cons (.u rfl) (Evp.cons (.u rfl) (Evp.cons (.u rfl) (Evp.cons (.u rfl) Evp.nil)))))))) rfl (by decide) (by simp [Value.oneCell',Sh.val]) ?_; intro b8
 refine mkS zQ rfl rfl aEc (.u rfl) .here rfl rfl (by decide) ?_; intro G9 hG9 hs9
 have hsu:=hsu.mono hG9
 have hK:=hK.mono hG9
 have hbb2:=hbb2.mono hG9
 refine kA rfl .no gB (.u rfl) hbb2 (by first|exact iY|exact gE|exact iX) ?_; intro h10 L10 eL10 lL10 hs10
 refine kV rfl aSs (aB rfl (aB rfl aE)) (aJ0 zQ _ L10 h10 _ hs9 hs10 hK (by decide) (by omega)) ?_
 refine al rfl fT ?_; intro b5
 refine sW rfl rfl rfl rfl fH .here ?_
 refine .nil (.code (.seq ?_))
 refine fS .here (by intro b hb; cases hb) ?_; intro Gfb5 hleb5 hbb5
 have hsu:=hsu.mono hleb5
 have hK:=hK.mono hleb5
 refine rq8 rfl rfl ?_
 refine kA rfl .no gB (.u rfl) hbb5 (by first|exact iY|exact gE|exact iX) ?_; intro h13 L13 eL13 lL13 hs13
 refine .p (kc rfl aSt (aB rfl (aB rfl (aB rfl aE))) (aJz L13 h13 use hu _ hs13 hsu hK (by omega) hl) ?_)
 rintro _ G15 μ15 hG15 ⟨h15,L15,eL15,rfl,rfl,hs15⟩
 refine .p (eX rfl rfl rfl (eX rfl rfl rfl (aS rfl rfl ?_)))
 have lL15:L15.length=64:=by rw [eL15,uF]
 refine .g (bG (mc:=⟨false,false⟩) [0,1,2,3,4,5,6,7,8,9] aV (by kernel_rfl) ?_)
 refine .p (kE (32) rfl .no aH hs15 (.u rfl) (.u rfl) (by omega) (by omega) ?_)
 intro h19 L19 eL19 lL19 hs19
 have lL19:=lL19 rfl
 refine spS rfl .no tG hs19 (.u rfl) (by omega) (by decide) ?_
 refine lA rfl .no uY (.u rfl) (fun _=>(hs19.arr (m:=32) (by omega)).rd) (fun _=>aU _ _) ?_
 refine .p (kD (32) rfl .no aH hs15 (.u rfl) (.u rfl) (by omega) (by omega) ?_)
 intro h23 L23 eL23 lL23 hs23
 have lL23:=lL23 rfl
 refine spS rfl .no tG hs23 (.u rfl) (by omega) (by decide) ?_
 refine lA rfl .no uY (.u rfl) (fun _=>(hs23.arr (m:=32) (by omega)).rd) (fun _=>aU _ _) ?_
 refine dU (ba 32 (fun i=>L19.getD i 0)++ba 32 (fun i=>L23.getD i 0)) rfl .no aSg (.cons (.u rfl) rfl (.cons (.u rfl) rfl .nil)) rfl (aNo (by decide) _ _) ?_
 refine sw rfl (.u rfl) (.u rfl) rfl aB9 .here (by first|exact qE|exact qL|rfl) (aA2 _ _) ?_
 refine .nil (.code (.ret (aP Tryz.results69 (.cell rfl (fun w hw=>bW pM (RdN.own .here) ((by first|exact qE|exact qL|rfl)) hw) .nil) ?_)))
 have e:L15=sH root use:=by rw [eL15,eL13,eL10]; rfl
 exact ⟨rfl,congrArg (fun z=>Value.agg (List.toArray z)) (aNn e eL19 eL23)⟩
theorem aCG (root:Nat→Y) (h:Hd) (G:PM) (hK:RdNP G 1 0 (wa 64 kW)):Ct Tryz.prog 25 ([.agg (ba 32 root).toArray,.agg ([V h.kind,V h.level,uv .u64 h.gen,uv .u64 h.epoch,uv .u64 h.num]:List Value).toArray]:List Value).toArray G [] (fun _ μ' u=>μ'=[]∧u=.agg (ba 32 (dE root (aX h))++ba 32 (dF root (aX h))).toArray):=by
 refine Ct.of Tryz.func25 rfl Tryz.ntmps25 rfl fun w0 hs0=>?_
 refine .seq (eH rfl rfl ?_)
 refine bX rfl rfl rfl ?_; intro b2
 refine bX rfl rfl rfl ?_; intro b3
 refine al rfl aAW ?_; intro b4
 refine .g (bG (mc:=⟨false,false⟩) [0,1,2,3,4] aV (by kernel_rfl) ?_)
 refine lB rfl cH rfl aT ?_
 refine lB rfl fB rfl aF ?_
 refine kc rfl aAR (aB rfl aE) (Ct.frzB (zB h _)) ?_
 rintro _ G7 μ7 hG7 ⟨h7,L7,eL7,rfl,rfl,hs7⟩
 have hK:=hK.mono hG7
 refine kV rfl aTT (aB rfl (aB rfl aE)) (aJy root L7 h7 _ hs7 hK (by rw [eL7,mR]; decide)) ?_
 refine sw rfl (.u rfl) (.u rfl) rfl aB9 .here (by first|exact qE|exact qL|rfl) (aA2 _ _) ?_
 refine .nil (.code (.ret (aP Tryz.results25 (.cell rfl (fun w hw=>bW pM (RdN.own .here) ((by first|exact qE|exact qL|rfl)) hw) .nil) ?_)))
 subst eL7
 exact ⟨rfl,rfl⟩
theorem aPW (key:List Y) (hk:Sh) (use:List Y) (hu:Sh) (G:PM) (hsk:SlR G 1 aL hk key) (hsu:SlR G 1 aL hu use) (hR:RdNP G 0 0 (wa 64 kW)) (hlk:key.length≤1000) (hl:use.length≤1000000):Ct Tryz.prog 140 ([hk.val key.length,hu.val use.length,.int .i64 ((64:Nat):Int)]:List Value).toArray G [] (fun G' μ' u=>∃ s L,L=oC key use 2∧μ'=[]∧u=.tuple #[s.val L.length,.int .i64 0]∧SlR G' 1 aL s L):=by
 refine Ct.of Tryz.func140 rfl Tryz.ntmps140 rfl fun w0 hs0=>?_
 refine .g (cP rfl rfl rfl rfl (mV rfl rfl (mv rfl (.f rfl rfl) (.u rfl) (cp rfl (.f rfl rfl) (.s rfl) (.u rfl) rfl (cL rfl .no (.u rfl) (.s rfl) (.g (cD rfl (fun c1=>?_) (fun c1=>?_))))))))
 ·have c1k:=c1
  exact absurd c1 (by decide)
 have c1k:=c1
 try simp only [aC,aD] at c1
 refine .skip (.code (.seq (aM rfl rfl (aS rfl rfl (.nc (.seq (tD 5 ?_)))))))
 refine aM rfl rfl (aS rfl rfl (.nc (.seq (.seq (tD 5 ?_)))))
 refine aM rfl rfl (aS rfl rfl (.nc (.block ?_)))
 refine bE (α:=Nat×Value×List Y×Value×List Y) (fun gh=>[(8,true,gh.2.1),(9,true,gh.2.2.2.1),(10,true,.int .i64 ((gh.1+1:Nat):Int))]) (fun gh=>[rB gh.2.2.2.1 5 gh.2.2.2.2,rB gh.2.1 5 gh.2.2.1])
  (fun gh Gl=>(gh.1≤2)∧(gh.2.2.1=oC key use gh.1)∧(gh.2.2.2.2=rJ key use gh.1)) (fun gh=>2-gh.1) (0,.slice none 0 0,[],.slice none 0 0,[]) [(0,true,_),(1,true,_),(2,true,_)] []
  (aA rfl (aA rfl (aO rfl (aA rfl (aA rfl (aA rfl eZ))))))
  (mS .here rfl (mS .here rfl mN)) ?_ ?_
 ·refine ⟨?_,?_,?_⟩
  ·(try dsimp only)<;>(first|omega|rfl|assumption|(simp; done))
  ·(try dsimp only)<;>(rfl)
  (try dsimp only)<;>(rfl)
 intro gh N0 Gl0 hN0 hGl0 hF0
 obtain ⟨j,v,A,u,B⟩:=gh; dsimp only at hF0 hN0 ⊢
 obtain ⟨hj,eA,eB⟩:=hF0
 have hsk:=hsk.mono hGl0
 have hsu:=hsu.mono hGl0
 have hR:=hR.mono hGl0
 have lA:A.length=32*j:=by rw [eA,uF]
 have lB9:B.length≤32:=by rw [eB]; exact aNB _ _ _
 refine .g (lr rfl .no bK (.u rfl) aF ?_)
 refine .p (cP rfl rfl rfl rfl (.g (cD rfl (fun c2=>?_) (fun c2=>?_))))
 ·have c2k:=c2
  try simp only [aC,aD] at c2
  refine .skip (.code (.seq (.block (.seq ?_))))
  refine aAB .here ?_; intro sRB bbRB evRB lcRB oaRB; subst evRB
  refine gH rfl rfl ?_
  refine mM rfl aH ?_; intro b25
  refine .p (nW rfl aH aY (.u rfl) (.u rfl) .here (aCJ aF oaRB) (show B.length≤140737488355328 by omega) ?_)
  intro v27 L27 _ ov27 eL27
  have lL27:L27.length=B.length:=by rw [eL27]
  refine .g (cF rfl aH aY (.u rfl) (.u rfl) .here hsu.sc (by (try simp only [bJ,bB]); omega) ?_)
  intro v30 L30 ov30 eL30
  have lL30:L30.length=L27.length+use.length:=by rw [eL30,List.length_append]
  refine .g (ci rfl .no rfl aK4 (.u rfl) ?_)
  refine Go.Tan.b1 rfl aH aY (.u rfl) rfl rfl (by decide) ?_; intro b34
  refine cF rfl aH aY (.u rfl) (.u rfl) aF (Sc.one .here) (by show _+1≤_; omega) ?_
  intro v35 L35 ov35 eL35
  have lL35:L35.length=L30.length+1:=by rw [eL35,List.length_append]; first|rfl | simp [bB]
  refine aS rfl rfl (.nc (.seq ?_))
  refine iR .here (by first|(intro b hb; cases hb; done) | simp [keys,Res.keys]) ?_; intro GfR27 hR27 hleR27 evR27 hsR27; subst evR27
  have hsk:=hsk.mono hleR27
  have hR:=hR.mono hleR27
  refine .g (kV rfl aEt (aB rfl (aB rfl aE)) (aDn key hk L35 _ _ hsk hsR27 hR hlk (by omega)) ?_)
  refine al rfl fT ?_; intro b12
  refine sW rfl rfl rfl rfl fH .here ?_
  refine .nil (.code (.seq (gH rfl rfl ?_)))
  refine mM rfl aH ?_; intro b39
  refine lY rfl .no gB (.u rfl) (nW rfl aH aY (.u rfl) (.u rfl) .here (Sc.arr aF) (Nat.le_trans (Nat.le_of_eq (bB 32 _)) (by decide)) ?_)
  intro v41 L41 _ ov41 eL41
  have lL41:L41.length=32:=by rw [eL41]; first|rfl | simp [bB]
  refine aS rfl rfl (.nc ?_)
  refine aAB .here ?_; intro sRB bbRB evRB lcRB oaRB; subst evRB
  refine .g (cF rfl aH aY (.u rfl) (.u rfl) fG (aCJ .here oaRB) (by (try simp only [bJ,bB]); omega) ?_)
  intro v44 L44 ov44 eL44
  have lL44:L44.length=A.length+L41.length:=by rw [eL44,List.length_append]
  refine .g (dR (((((j+1:Nat))+1):Nat):Int) rfl .no (.u rfl) (.u rfl) rfl (by omega) (fun _=>cB (by omega) (by omega)) ?_)
  refine .g (aZ (j+1,v44,L44,sRB.val L41.length,L41) ?_ ?_ ?_ ?_ ?_)
  ·exact (aA rfl (aA rfl (aO rfl (aA rfl (aA rfl (aA rfl eZ))))))
  ·exact (mS aF rfl (mS .here rfl mN))
  ·first|omega|(dsimp only; omega)
  ·exact (hGl0).trans hleR27
  refine ⟨?_,?_,?_⟩
  ·(try dsimp only)<;>(first|omega|rfl|assumption|(simp; done))
  ·(try dsimp only)<;>(rw [eL44,eA,eL41,eL35,eL30,eL27,eB]; exact aNC _ _ _)
  (try dsimp only)<;>(rw [eL41,eL35,eL30,eL27,eB]; exact aGV _ _ _)
 have c2k:=c2
 try simp only [aC,aD] at c2
 refine .exit (.xcode (.xlp (.xblk (.code (.seq ?_)))))
 refine iR aF (by first|(intro b hb; cases hb; done) | simp [keys,Res.keys]) ?_; intro GfRA hRA hleRA evRA hsRA; subst evRA
 refine .g (kE (64) rfl .no aH hsRA (.u rfl) (.u rfl) (by omega) (by omega) ?_)
 intro h47 L47 eL47 lL47 hs47
 have lL47:=lL47 rfl
 refine aS rfl rfl (aS rfl rfl (.nc (.ret (aP Tryz.results140 (.tmp rfl (.tmp rfl .nil)) ?_))))
 obtain rfl:j=2:=by omega
 exact ⟨h47,L47,by rw [eL47,eA]; exact List.take_of_length_le (by rw [uF]; omega),rfl,rfl,hs47⟩
theorem aPU (root:Nat→Y) (use:List Y) (hu:Sh) (G:PM) (hsu:SlR G 1 aL hu use) (hR:RdNP G 0 0 (wa 64 kW)) (hl:use.length≤1000000):Ct Tryz.prog 119 ([.agg (ba 32 root).toArray,hu.val use.length]:List Value).toArray G [] (fun _ μ' u=>μ'=[]∧u=.agg (ba 32 (dE root use)++ba 32 (dF root use)).toArray):=by
 refine Ct.of Tryz.func119 rfl Tryz.ntmps119 rfl fun w0 hs0=>?_
 refine .seq (bD rfl rfl ?_)
 refine bX rfl rfl rfl ?_; intro b2
 refine al rfl aAW ?_; intro b4
 refine .nil (.code (.seq ?_))
 refine fS aF (by intro b hb; cases hb) ?_; intro Gfb2 hleb2 hbb2
 have hsu:=hsu.mono hleb2
 have hR:=hR.mono hleb2
 refine nO rfl rfl ?_
 refine Go.Tan.bN rfl aH aY (Evp.cons (.u rfl) (Evp.cons (.u rfl) (Evp.cons (.u rfl) (Evp.cons (.u rfl) (Evp.cons (.u rfl) (Evp.cons (.u rfl) (Evp.cons (.u rfl) (Evp.cons (.u rfl) Evp.nil)))))))) rfl (by decide) (by simp [Value.oneCell',Sh.val]) ?_; intro b10
 refine mkS zQ rfl rfl aEc (.u rfl) .here rfl rfl (by decide) ?_; intro G11 hG11 hs11
 have hsu:=hsu.mono hG11
 have hR:=hR.mono hG11
 have hbb2:=hbb2.mono hG11
 refine kA rfl .no gB (.u rfl) hbb2 (by first|exact iY|exact gE|exact iX) ?_; intro h12 L12 eL12 lL12 hs12
 refine kV rfl aEt (aB rfl (aB rfl aE)) (aDn zQ _ L12 h12 _ hs11 hs12 hR (by decide) (by omega)) ?_
 refine al rfl fT ?_; intro b5
 refine sW rfl rfl rfl rfl fH .here ?_
 refine .nil (.code (.seq ?_))
 refine fS .here (by intro b hb; cases hb) ?_; intro Gfb5 hleb5 hbb5
 have hsu:=hsu.mono hleb5
 have hR:=hR.mono hleb5
 refine rq8 rfl rfl ?_
 refine kA rfl .no gB (.u rfl) hbb5 (by first|exact iY|exact gE|exact iX) ?_; intro h15 L15 eL15 lL15 hs15
 refine .p (kc rfl aS9 (aB rfl (aB rfl (aB rfl aE))) (aPW L15 h15 use hu _ hs15 hsu hR (by omega) hl) ?_)
 rintro _ G17 μ17 hG17 ⟨h17,L17,eL17,rfl,rfl,hs17⟩
 refine .p (eX rfl rfl rfl (eX rfl rfl rfl (aS rfl rfl ?_)))
 have lL17:L17.length=64:=by rw [eL17,uF]
 refine aS rfl rfl (.nc (.seq (aM rfl rfl ?_)))
 refine al rfl aAW ?_; intro b8
 refine .nil (.code (.seq (.seq (aM rfl rfl (aS rfl rfl (.nc (.block ?_)))))))
 refine bE (α:=Nat) (fun k=>[(9,true,.int .i64 (k:Int))]) (fun k=>[.blk b8 (cl (ba 32 (rK (fun i=>L17.getD i 0) k)++ba 32 (rK (fun i=>L17.getD (32+i) 0) k)) 65)])
  (fun k Gl=>(k≤32)) (fun k=>32-k) 0 [(4,true,_),(6,true,_),(8,true,_)] [_]
  (aO rfl (aA rfl (aA rfl (aA rfl eZ))))
  (mS .here rfl (mS .here rfl mN)) ?_ ?_
 ·(try dsimp only)<;>(first|omega|rfl|assumption|(simp; done))
 intro k N0 Gl0 hN0 hGl0 hF0
 try dsimp only at hF0 hN0 ⊢
 have hk:=hF0
 have hs17:=hs17.mono hGl0
 refine .g (cP rfl rfl rfl rfl (.g (cD rfl (fun c1=>?_) (fun c1=>?_))))
 ·have c1k:=c1
  try simp only [aC,aD] at c1
  refine .skip (.code (.seq (.block (.seq (rq8 rfl rfl (mV rfl rfl (mV rfl rfl (mV rfl rfl (ih rfl .no aH (.u rfl) (.u rfl) (by omega) (by omega) (fun _=>hs17.nn (k:=k) (by omega)) ?_)))))))))
  refine lN rfl cA rfl ((hs17.yat (k) (by omega) (by omega)).rd) ?_
  refine fZ rfl aB2 rfl (iW rfl tG rfl rfl ?_)
  refine s1 rfl (.u rfl) (.u rfl) rfl fW .here (by first|decide|(simp only [bO,aU,bJ]; omega)) (aLs k (by omega) (by omega)) ?_
  refine .g (aW (((32+k):Nat):Int) rfl rfl rfl rfl ?_)
  refine ih rfl .no aH (.u rfl) (.u rfl) (by omega) (by omega) (fun _=>hs17.nn (k:=(32+k)) (by omega)) ?_
  refine lN rfl cA rfl ((hs17.yat ((32+k)) (by omega) (by omega)).rd) ?_
  refine fZ rfl aEm rfl (iW rfl tG rfl rfl ?_)
  refine s1 rfl (.u rfl) (.u rfl) rfl fW .here (by first|decide|(simp only [bO,aU,bJ]; omega)) (aLt k (by omega)) ?_
  refine .g (aW (((k+1):Nat):Int) rfl rfl rfl rfl ?_)
  refine .g (aZ (k+1) ?_ ?_ ?_ ?_ ?_)
  ·exact (aO rfl (aA rfl (aA rfl (aA rfl eZ))))
  ·exact (mS .here (by rw [← aG5 rfl,←aG5 rfl]) (mS .here rfl mN))
  ·first|omega|(dsimp only; omega)
  ·exact hGl0
  (try dsimp only)<;>(first|omega|rfl|assumption|(simp; done))
 have c1k:=c1
 try simp only [aC,aD] at c1
 refine .g (lB rfl pM rfl .here ?_)
 refine sw rfl (.u rfl) (.u rfl) rfl aB9 aF (by first|exact qE|exact qL|rfl) (aA2 _ _) ?_
 refine .nil (.code (.ret (aP Tryz.results119 (.cell rfl (fun w hw=>bW pM (RdN.own .here) ((by first|exact qE|exact qL|rfl)) hw) .nil) ?_)))
 obtain rfl:k=32:=by omega
 have e:L17=sH root use:=by rw [eL17,eL15,eL12]; rfl
 exact ⟨rfl,congrArg (fun z=>Value.agg (List.toArray z)) (aNm e)⟩
theorem aPa (root:Nat→Y) (h:Hd) (G:PM) (hR:RdNP G 0 0 (wa 64 kW)):Ct Tryz.prog 84 ([.agg (ba 32 root).toArray,.agg ([V h.kind,V h.level,uv .u64 h.gen,uv .u64 h.epoch,uv .u64 h.num]:List Value).toArray]:List Value).toArray G [] (fun _ μ' u=>μ'=[]∧u=.agg (ba 32 (dE root (aX h))++ba 32 (dF root (aX h))).toArray):=by
 refine Ct.of Tryz.func84 rfl Tryz.ntmps84 rfl fun w0 hs0=>?_
 refine .seq (eH rfl rfl ?_)
 refine bX rfl rfl rfl ?_; intro b2
 refine bX rfl rfl rfl ?_; intro b3
 refine al rfl aAW ?_; intro b4
 refine .g (bG (mc:=⟨false,false⟩) [0,1,2,3,4] aV (by kernel_rfl) ?_)
 refine lB rfl cH rfl aT ?_
 refine lB rfl fB rfl aF ?_
 refine kc rfl aEy (aB rfl aE) (Ct.frzB (aDo h _)) ?_
 rintro _ G7 μ7 hG7 ⟨h7,L7,eL7,rfl,rfl,hs7⟩
 have hR:=hR.mono hG7
 refine kV rfl aSy (aB rfl (aB rfl aE)) (aPU root L7 h7 _ hs7 hR (by rw [eL7,mR]; decide)) ?_
 refine sw rfl (.u rfl) (.u rfl) rfl aB9 .here (by first|exact qE|exact qL|rfl) (aA2 _ _) ?_
 refine .nil (.code (.ret (aP Tryz.results84 (.cell rfl (fun w hw=>bW pM (RdN.own .here) ((by first|exact qE|exact qL|rfl)) hw) .nil) ?_)))
 subst eL7
 exact ⟨rfl,rfl⟩
theorem uV (xs:List Y) (h:Sh) (G:PM) (hs:SlR G 1 aL h xs) (hl:xs.length≤100000000000000):Ct Tryz.prog 92 ([h.val xs.length]:List Value).toArray G [] (fun G' μ' u=>∃ b s,μ'=[.blk b (cl [Sh.val s xs.length,.int .i64 0] 175)]∧u=.pointer (some ⟨b,0,none⟩)∧SlR G' 1 aL s xs):=by
 refine Ct.of Tryz.func92 rfl Tryz.ntmps92 rfl fun w0 hs0=>?_
 refine .seq (aM rfl rfl (aS rfl rfl (.nc (.seq (nO rfl rfl ?_)))))
 refine mM rfl aH ?_; intro b3
 refine .p (nW rfl aH aY (.u rfl) (.u rfl) .here hs.sc (by (try simp only [bJ,bB]); omega) ?_)
 intro v5 L5 _ ov5 eL5
 have lL5:L5.length=xs.length:=by rw [eL5]
 refine dU ([v5,.int .i64 0]) rfl .no aTo (.cons (.u rfl) (yH ov5) .nil) rfl (rfl) ?_
 refine bX rfl rfl rfl ?_; intro b7
 refine aS rfl rfl (.nc (.ret ?_))
 refine aBo aF (by first|(intro b hb; cases hb; done) | simp [keys,Res.keys]) ?_; intro GfR5 hR5 hleR5 evR5 hsR5; subst evR5
 refine We.fin Tryz.results92 (.tmp rfl .nil) (mS .here rfl mN) ?_
 subst eL5
 exact ⟨b7,hR5,rfl,rfl,hsR5⟩
theorem wQ (xs:List Y) (s:Sh) (b:Nat) (G:PM) (hs:SlR G 1 aL s xs) (h8:8≤xs.length) (hl:xs.length≤100000000000000):Ct Tryz.prog 93 ([.pointer (some ⟨b,0,none⟩),.int .i64 ((8:Nat):Int)]:List Value).toArray G [.blk b (cl [s.val xs.length,.int .i64 0] 175)] (fun G' μ' u=>∃ s',μ'=[.blk b (cl [Sh.val s' (xs.drop 8).length,.int .i64 0] 175)]∧u=uv .u64 (bU xs 8)∧SlR G' 1 aL s' (xs.drop 8)):=by
 refine Ct.of Tryz.func93 rfl Tryz.ntmps93 rfl fun w0 hs0=>?_
 refine .g (pe rfl .no xU (.u rfl) (.u rfl) ?_)
 refine mV rfl rfl (mv rfl (Gd.f (b:=false) rfl rfl) (.u rfl) (nc rfl (Gd.f (b:=false) rfl rfl) (.u rfl) (fz rfl (Gd.f (b:=false) rfl rfl) rD (.u rfl) (ld rfl (Gd.f (b:=false) rfl rfl) gD (.u rfl) (fun _=>Rd.own .here (by first|exact aJ rfl|rfl)) ?_))))
 refine cp rfl (Gd.f (b:=false) rfl rfl) (.u rfl) (.u rfl) rfl (cL rfl .no (.u rfl) (.u rfl) (.g (cD rfl (fun c1=>?_) (fun c1=>?_))))
 ·have c1k:=c1
  exact absurd c1 (by decide)
 have c1k:=c1
 try simp only [aC,aD] at c1
 refine .g (cP rfl rfl rfl rfl (mV rfl rfl (mv rfl (.f rfl rfl) (.u rfl) (cp rfl (.f rfl rfl) (.s rfl) (.u rfl) rfl (cL rfl .no (.u rfl) (.s rfl) (.g (cD rfl (fun c2=>?_) (fun c2=>?_))))))))
 ·have c2k:=c2
  exact absurd c2 (by decide)
 have c2k:=c2
 try simp only [aC,aD] at c2
 refine .g (nC rfl rfl (fZ rfl jY rfl (lO rfl bV rfl .here (by first|exact aJ rfl|rfl) ?_)))
 refine lE rfl bK rfl (cP rfl rfl rfl rfl (.g (cD rfl (fun c3=>?_) (fun c3=>?_))))
 ·have c3k:=c3
  try simp only [aC,aD] at c3
  exfalso; omega
 have c3k:=c3
 try simp only [aC,aD] at c3
 refine .skip (.code (.seq (aM rfl rfl (aS rfl rfl (.nc (.seq (.seq (bD rfl rfl (mV rfl rfl (mV rfl rfl (.nc (.block ?_))))))))))))
 refine bE (α:=Nat×BitVec 64) (fun gh=>[(5,true,uv .u64 gh.2),(36,true,.int .i64 (gh.1:Int))]) (fun _=>[])
  (fun gh Gl=>(gh.1≤8)∧(gh.2=bU xs gh.1)) (fun gh=>8-gh.1) (0,0#64) [(0,true,_),(1,true,_),(35,true,_)] [_]
  (aA rfl (aO rfl (aA rfl (aA rfl (aA rfl eZ)))))
  (mS .here rfl mN) ?_ ?_
 ·refine ⟨?_,?_⟩
  ·(try dsimp only)<;>(first|omega|rfl|assumption|(simp; done))
  (try dsimp only)<;>(rfl)
 intro gh N0 Gl0 hN0 hGl0 hF0
 obtain ⟨k,m⟩:=gh; dsimp only at hF0 hN0 ⊢
 obtain ⟨hk,em⟩:=hF0
 have hs:=hs.mono hGl0
 refine .g (cP rfl rfl rfl rfl (.g (cD rfl (fun c4=>?_) (fun c4=>?_))))
 ·have c4k:=c4
  try simp only [aC,aD] at c4
  refine .g (nC rfl rfl (fZ rfl jY rfl (lO rfl bV rfl .here (by first|exact aJ rfl|rfl) ?_)))
  refine mV rfl rfl (ih rfl .no aH (.u rfl) (.u rfl) (by omega) (by omega) (fun _=>hs.nn (k:=k) (by omega)) ?_)
  refine lN rfl cA rfl ((hs.yat (k) (by omega) (by omega)).rd) ?_
  refine cu (k:=.u8) rfl .no rfl sA (.u rfl) ?_
  refine .p (aW (((8*k):Nat):Int) rfl rfl rfl rfl ?_)
  refine lw (k:=.u64) rfl .no rfl (.u rfl) (.u rfl) (by omega) ?_
  refine bw (k:=.u64) rfl .no rfl (.u rfl) (.u rfl) rfl (.g (aW (((k+1):Nat):Int) rfl rfl rfl rfl ?_))
  refine .g (aZ (k+1,m ||| (xs.getD k 0).setWidth 64 <<< (8*k)) ?_ ?_ ?_ ?_ ?_)
  ·exact (aA rfl (aO rfl (aA rfl (aA rfl (aA rfl eZ)))))
  ·exact (mS .here rfl mN)
  ·first|omega|(dsimp only; omega)
  ·exact hGl0
  refine ⟨?_,?_⟩
  ·(try dsimp only)<;>(first|omega|rfl|assumption|(simp; done))
  (try dsimp only)<;>(rw [em]; rfl)
 have c4k:=c4
 try simp only [aC,aD] at c4
 refine .g (nC rfl rfl (fZ rfl jY rfl (lO rfl bV rfl .here (by first|exact aJ rfl|rfl) ?_)))
 refine .p (kD (8) rfl .no aH hs (.u rfl) (.u rfl) (by omega) (by omega) ?_)
 intro h59 L59 eL59 lL59 hs59
 have lL59:=lL59 rfl
 refine nC rfl rfl (fZ rfl jY rfl (s1 rfl (.u rfl) (.u rfl) rfl iE .here (by first|decide|(simp only [bO,aU,bJ]; omega)) (rfl) ?_))
 refine .nil (.code (.seq (bD rfl rfl (mV rfl rfl (aS rfl rfl (.nc (.ret (We.fin Tryz.results93 (.tmp rfl .nil) (mS .here rfl mN) ?_))))))))
 obtain rfl:k=8:=by omega
 exact ⟨h59,by rw [eL59]; rfl,by rw [em]; rfl,by rw [← eL59]; exact hs59⟩
theorem aAL:fX Tryz.prog 26 []=some ([V 0#8,V 0#8,uv .u64 0#64,uv .u64 0#64,uv .u64 0#64],[]):=by kernel_rfl
theorem vF:aQ Tryz.prog 92=true:=by kernel_rfl
theorem aJ4:fX Tryz.prog 26 [0,1]=some ([V 0#8,V 0#8,uv .u64 0#64,uv .u64 0#64,uv .u64 0#64],[(0,1),(1,1)]):=by kernel_rfl
theorem pR:aQ Tryz.prog 93=true:=by kernel_rfl
theorem xQ:dG Tryz.prog 24=some 1:=by kernel_rfl
theorem aKg:aQ Tryz.prog 22=true:=by kernel_rfl
theorem aFF (xs:List Y) (h:Sh) (G:PM) (hs:SlR G 1 aL h xs) (hl:xs.length≤100000000000000):Ct Tryz.prog 91 ([h.val xs.length]:List Value).toArray G [] (fun _ μ' u=>μ'=[]∧u=.tuple #[.agg (gY xs).1.cells.toArray,.int .i64 (gY xs).2]):=by
 refine Ct.of Tryz.func91 rfl Tryz.ntmps91 rfl fun w0 hs0=>?_
 refine .seq (bD rfl rfl ?_)
 refine al rfl rC ?_; intro b2
 refine .g (lE rfl bK rfl (cP rfl rfl rfl rfl (.g (cD rfl (fun c1=>?_) (fun c1=>?_)))))
 ·have c1k:=c1
  try simp only [aC,aI,aD] at c1
  refine .g (bC rfl .no aAL .nil rfl ?_)
  refine sw rfl (.u rfl) (.u rfl) rfl mK .here (by first|exact qE|exact qL|rfl) (lS rfl rfl rfl rfl rfl) ?_
  refine aS rfl rfl (.nc (.ret (aP Tryz.results91 (.cell rfl (fun w hw=>bW fB (RdN.own .here) ((by first|exact qE|exact qL|rfl)) hw) (.tmp rfl .nil)) ?_)))
  exact ⟨rfl,by rw [aI9 (by omega)]; rfl⟩
 have c1k:=c1
 try simp only [aC,aI,aD] at c1
 refine .g (kS (6) (30) rfl .no aH hs (.u rfl) (.u rfl) (.u rfl) (by omega) (by omega) (by omega) (by omega) ?_)
 intro h11 L11 eL11 lL11 hs11
 have lL11:=lL11 rfl
 refine kc rfl vF (aB rfl aE) (uV L11 h11 _ hs11 (by omega)) ?_
 rintro _ G12 μ12 hG12 ⟨b12,sn0,rfl,rfl,hsn0⟩
 have hs:=hs.mono hG12
 refine .g (bG (mc:=⟨false,false⟩) [0,1,2,3,4,5,6,7,8] aV (by kernel_rfl) ?_)
 refine mV rfl rfl (ih rfl .no aH (.u rfl) (.u rfl) (by omega) (by omega) (fun _=>hs.nn (k:=4) (by omega)) ?_)
 refine lN rfl cA rfl ((hs.yat (4) (by omega) (by omega)).rd) ?_
 refine mV rfl rfl (ih rfl .no aH (.u rfl) (.u rfl) (by omega) (by omega) (fun _=>hs.nn (k:=5) (by omega)) ?_)
 refine lN rfl cA rfl ((hs.yat (5) (by omega) (by omega)).rd) ?_
 refine dU ([V (xs.getD 4 0),V (xs.getD 5 0),uv .u64 0#64,uv .u64 0#64,uv .u64 0#64]) rfl .no aJ4 (.cons (.u rfl) rfl (.cons (.u rfl) rfl .nil)) rfl (rfl) ?_
 refine al rfl rC ?_; intro b5
 refine sw rfl (.u rfl) (.u rfl) rfl mK .here (by first|exact qE|exact qL|rfl) (lS rfl rfl rfl rfl rfl) ?_
 refine .g (ka rfl (.inr rfl) pR (aB rfl (aB rfl aE)) (bQ aF) (wQ L11 sn0 _ _ hsn0 (by (try simp only [List.length_drop]); omega) (by (try simp only [List.length_drop]); omega)) ?_)
 rintro _ G21 μ21 hG21 ⟨sn1,rfl,rfl,hsn1⟩
 have hs:=hs.mono hG21
 refine fZ rfl tJ rfl (s1 rfl (.u rfl) (.u rfl) rfl xQ aF (show 2<5 by decide) (rfl) ?_)
 refine .g (ka rfl (.inr rfl) pR (aB rfl (aB rfl aE)) (bQ aF) (wQ (L11.drop 8) sn1 _ _ hsn1 (by (try simp only [List.length_drop]); omega) (by (try simp only [List.length_drop]); omega)) ?_)
 rintro _ G24 μ24 hG24 ⟨sn2,rfl,rfl,hsn2⟩
 have hs:=hs.mono hG24
 refine fZ rfl aAN rfl (s1 rfl (.u rfl) (.u rfl) rfl xQ aF (show 3<5 by decide) (rfl) ?_)
 refine .g (ka rfl (.inr rfl) pR (aB rfl (aB rfl aE)) (bQ aF) (wQ ((L11.drop 8).drop 8) sn2 _ _ hsn2 (by (try simp only [List.length_drop]); omega) (by (try simp only [List.length_drop]); omega)) ?_)
 rintro _ G27 μ27 hG27 ⟨sn3,rfl,rfl,hsn3⟩
 have hs:=hs.mono hG27
 refine fZ rfl aAO rfl (s1 rfl (.u rfl) (.u rfl) rfl xQ aF (show 4<5 by decide) (rfl) ?_)
 refine .g (kE (4) rfl .no aH hs (.u rfl) (.u rfl) (by omega) (by omega) ?_)
 intro h30 L30 eL30 lL30 hs30
 have lL30:=lL30 rfl
 refine sB rfl .no jX (.u rfl) (fun _=>hs30.sc) ?_
 refine cs rfl .no (.u rfl) (.u rfl) rfl (.p (lA rfl (.f rfl rfl) fB (.u rfl) (fun _=>RdN.own .here) (fun _=>(by first|exact qE|exact qL|rfl)) ?_))
 refine kv rfl (.f rfl rfl) aKg (Eva.cons (.s rfl) aE) (fun hc=>aHO ⟨xs.getD 4 0,xs.getD 5 0,bU L11 8,bU (L11.drop 8) 8,bU ((L11.drop 8).drop 8) 8⟩ _) ?_
 refine nt rfl (.f rfl rfl) (.s rfl) (cL rfl .no (.u rfl) (.s rfl) (.g (cD rfl (fun c2=>?_) (fun c2=>?_))))
 ·have c2k:=c2
  try simp only [aC,aI,aD] at c2
  refine .g (bC rfl .no aAL .nil rfl ?_)
  refine sw rfl (.u rfl) (.u rfl) rfl mK aT (by first|exact qE|exact qL|rfl) (lS rfl rfl rfl rfl rfl) ?_
  refine aS rfl rfl (.nc (.ret (aP Tryz.results91 (.cell rfl (fun w hw=>bW fB (RdN.own .here) ((by first|exact qE|exact qL|rfl)) hw) (.tmp rfl .nil)) ?_)))
  rw [aA0 eL11] at c2k
  exact ⟨rfl,by rw [aEE (by omega) (fun hq=>aRW eL30 c2k hq)]; rfl⟩
 have c2k:=c2
 try simp only [aC,aI,aD] at c2
 refine .g (lB rfl fB rfl .here ?_)
 refine sw rfl (.u rfl) (.u rfl) rfl mK aT (by first|exact qE|exact qL|rfl) (lS rfl rfl rfl rfl rfl) ?_
 refine aS rfl rfl (.nc (.ret (aP Tryz.results91 (.cell rfl (fun w hw=>bW fB (RdN.own .here) ((by first|exact qE|exact qL|rfl)) hw) (.tmp rfl .nil)) ?_)))
 rw [aA0 eL11] at c2k
 exact ⟨rfl,by rw [aI7 (by omega) (aRX eL30 c2k),←aA0 eL11]; rfl⟩
theorem aRY {A B:List Y} {k:Nat} (he:A.take k=B.take k) (h1:k<A.length) (h2:k<B.length) (h:A.getD k 0=B.getD k 0):A.take (k+1)=B.take (k+1):=by
 rw [List.take_succ_eq_append_getElem h1,List.take_succ_eq_append_getElem h2,he]
 have e1:A.getD k 0=A[k]:=by simp [h1]
 have e2:B.getD k 0=B[k]:=by simp [h2]
 rw [← e1,←e2,h]
theorem aMV {a b:Y} {A B:List Y} {k:Nat} (ha:A.getD k 0=a) (hb:B.getD k 0=b) (h:¬ (a.toNat:Int)=b.toNat):¬ A=B:=fun e=>h (by rw [← ha,←hb,e])
theorem aMW {a b:Y} (h:(a.toNat:Int)=b.toNat):a=b:=BitVec.eq_of_toNat_eq (by omega)
theorem aQX (A B:List Y) (ha hb:Sh) (G:PM) (hsa:SlR G 1 aL ha A) (hsb:SlR G 1 aL hb B) (hl:A.length≤100000000000000):Ct Tryz.prog 128 ([ha.val A.length,hb.val B.length]:List Value).toArray G [] (fun _ μ' u=>μ'=[]∧u=.bool (decide (A=B))):=by
 refine Ct.of Tryz.func128 rfl Tryz.ntmps128 rfl fun w0 hs0=>?_
 refine .g (lE rfl bK rfl (.p (lE rfl bK rfl (cP rfl rfl rfl rfl (.g (cD rfl (fun c1=>?_) (fun c1=>?_)))))))
 ·have c1k:=c1
  try simp only [aC,aD] at c1
  refine .seq (aM rfl rfl (aS rfl rfl (.nc (.ret (aP Tryz.results128 (.tmp rfl .nil) ?_)))))
  exact ⟨rfl,congrArg Value.bool (decide_eq_false (fun e=>c1 (by rw [e]))).symm⟩
 have c1k:=c1
 try simp only [aC,aD] at c1
 refine .g (lE rfl bK rfl (mV rfl rfl (.nc (.block ?_))))
 refine bE (α:=Nat) (fun k=>[(13,true,.int .i64 (k:Int))]) (fun _=>[])
  (fun k Gl=>(k≤A.length)∧(A.take k=B.take k)) (fun k=>A.length-k) 0 [(0,true,_),(1,true,_),(12,true,_)] []
  (aO rfl (aA rfl (aA rfl (aA rfl eZ))))
  mN ?_ ?_
 ·refine ⟨?_,?_⟩
  ·(try dsimp only)<;>(first|omega|rfl|assumption|(simp; done))
  (try dsimp only)<;>(rfl)
 intro k N0 Gl0 hN0 hGl0 hF0
 try dsimp only at hF0 hN0 ⊢
 obtain ⟨hk,he⟩:=hF0
 have hsa:=hsa.mono hGl0
 have hsb:=hsb.mono hGl0
 refine .g (cP rfl rfl rfl rfl (.g (cD rfl (fun c2=>?_) (fun c2=>?_))))
 ·have c2k:=c2
  try simp only [aC,aD] at c2
  refine .g (bG (mc:=⟨false,false⟩) [0,1,2,3,4,5,6,7,8] aV (by kernel_rfl) ?_)
  refine mV rfl rfl (mV rfl rfl (ih rfl .no aH (.u rfl) (.u rfl) (by omega) (by omega) (fun _=>hsa.nn (k:=k) (by omega)) ?_))
  refine lN rfl cA rfl ((hsa.yat (k) (by omega) (by omega)).rd) ?_
  refine mV rfl rfl (mV rfl rfl (ih rfl .no aH (.u rfl) (.u rfl) (by omega) (by omega) (fun _=>hsb.nn (k:=k) (by omega)) ?_))
  refine lN rfl cA rfl ((hsb.yat (k) (by omega) (by omega)).rd) ?_
  refine cP rfl rfl rfl rfl (.g (cD rfl (fun c3=>?_) (fun c3=>?_)))
  ·have c3k:=c3
   try simp only [aC,aD] at c3
   refine .seq (aM rfl rfl (aS rfl rfl (.nc (.ret (aP Tryz.results128 (.tmp rfl .nil) ?_)))))
   exact ⟨rfl,congrArg Value.bool (decide_eq_false (aMV rfl rfl c3)).symm⟩
  have c3k:=c3
  try simp only [aC,aD] at c3
  refine .g (aW (((k+1):Nat):Int) rfl rfl rfl rfl ?_)
  refine .g (aZ (k+1) ?_ ?_ ?_ ?_ ?_)
  ·exact (aO rfl (aA rfl (aA rfl (aA rfl eZ))))
  ·exact mN
  ·first|omega|(dsimp only; omega)
  ·exact hGl0
  refine ⟨?_,?_⟩
  ·(try dsimp only)<;>(first|omega|rfl|assumption|(simp; done))
  (try dsimp only)<;>(exact aRY he (by omega) (by omega) (aMW c3))
 have c2k:=c2
 try simp only [aC,aD] at c2
 refine .exit (.xcode (.xlp (.xblk (.code (.seq (aM rfl rfl (aS rfl rfl (.nc (.ret (aP Tryz.results128 (.tmp rfl .nil) ?_))))))))))
 exact ⟨rfl,congrArg Value.bool (decide_eq_true (by have h1:=he; rw [show k=A.length by omega,List.take_length,List.take_of_length_le (by omega)] at h1; exact h1)).symm⟩
theorem aSu:aQ Tryz.prog 110=true:=by kernel_rfl
theorem vB:cK Tryz.prog 121 3=some 3:=by kernel_rfl
theorem aSv:aQ Tryz.prog 111=true:=by kernel_rfl
theorem aEg:cK Tryz.prog 121 1=some 1:=by kernel_rfl
theorem iV:cK Tryz.prog 121 0=some 0:=by kernel_rfl
theorem aEh:cK Tryz.prog 121 2=some 2:=by kernel_rfl
theorem pT:dG Tryz.prog 9=some 1:=by kernel_rfl
theorem aTU:aQ Tryz.prog 70=true:=by kernel_rfl
theorem aEv:aQ Tryz.prog 24=true:=by kernel_rfl
theorem aKh:aQ Tryz.prog 23=true:=by kernel_rfl
theorem aSY:fX Tryz.prog 121 [0]=some ([.slice none 0 0,.slice none 0 0,.int .i64 0,.string ByteArray.empty],[(0,1)]):=by kernel_rfl
theorem aTi:iS Tryz.prog 121=some ([.slice none 0 0,.slice none 0 0,.int .i64 0,.string ByteArray.empty]):=by kernel_rfl
theorem aTh:dG Tryz.prog 121=some 4:=by kernel_rfl
theorem aTV:aQ Tryz.prog 71=true:=by kernel_rfl
theorem aMs (e:Ent) (G:PM) (hu:e.user.size≤10000000):Ct Tryz.prog 110 ([e.val]:List Value).toArray G [] (fun _ μ' u=>μ'=[]∧u=.string (aN (bZ e))):=by
 refine Ct.of Tryz.func110 rfl Tryz.ntmps110 rfl fun w0 hs0=>?_
 refine .seq (bD rfl rfl ?_)
 refine bX rfl rfl rfl ?_; intro b1
 refine .g (fZ rfl fM rfl (lO rfl cE rfl .here (by first|exact aJ rfl|rfl) ?_))
 refine rH rfl rfl rZ (.u rfl) ?_; intro G5 h5 hG5 hs5
 refine fZ rfl pP rfl (lO rfl fI rfl .here (by first|exact aJ rfl|rfl) ?_)
 refine lw (k:=.u64) rfl .no rfl (.u rfl) (.u rfl) (fun _=>by decide) ?_
 refine fZ rfl xJ rfl (lO rfl cA rfl .here (by first|exact aJ rfl|rfl) ?_)
 refine cu (k:=.u8) rfl .no rfl sA (.u rfl) ?_
 refine bw (k:=.u64) rfl .no rfl (.u rfl) (.u rfl) rfl (kc rfl tK (aB rfl (aB rfl (aB rfl aE))) (Ct.frzB (rV _ h5 _ 8 _ hs5 (by rw [bP]; omega) (by decide))) ?_)
 rintro _ G13 μ13 hG13 ⟨h13,L13,eL13,rfl,rfl,hs13⟩
 refine sB rfl .no jX (.u rfl) (fun _=>hs13.sc) ?_
 refine aS rfl rfl (.nc (.ret (aP Tryz.results110 (.tmp rfl .nil) ?_)))
 exact ⟨rfl,by rw [eL13]; rfl⟩
theorem aLU (a b:ByteArray) (G:PM) (ha:a.size≤100000000):Ct Tryz.prog 111 ([.string a,.string b]:List Value).toArray G [] (fun _ μ' u=>μ'=[]∧u=.int .i64 (dV (yb a) (yb b):Int)):=by
 refine Ct.of Tryz.func111 rfl Tryz.ntmps111 rfl fun w0 hs0=>?_
 refine .g (ls rfl .no cI (.u rfl) (.p (ls rfl .no cI (.u rfl) (wK (a.size) (b.size) rfl .no (.u rfl) (.u rfl) (by omega) (by omega) ?_))))
 refine aS rfl rfl (.nc (.seq (.seq (bD rfl rfl (mV rfl rfl (mV rfl rfl (.nc (.block ?_))))))))
 refine bE (α:=Nat) (fun k=>[(13,true,.int .i64 (k:Int))]) (fun _=>[])
  (fun k Gl=>(k≤a.size∧k≤b.size)∧(∀ j,j<k→(yb a).getD j 0=(yb b).getD j 0)) (fun k=>a.size-k) 0 [(0,true,_),(1,true,_),(5,true,_),(12,true,_)] []
  (aO rfl (aA rfl (aA rfl (aA rfl (aA rfl eZ)))))
  mN ?_ ?_
 ·refine ⟨?_,?_⟩
  ·(try dsimp only)<;>(first|omega|rfl|assumption|(simp; done))
  (try dsimp only)<;>(exact fun j h=>absurd h (Nat.not_lt_zero _))
 intro k N0 Gl0 hN0 hGl0 hF0
 try dsimp only at hF0 hN0 ⊢
 obtain ⟨hk,hj⟩:=hF0
 refine .g (cP rfl rfl rfl rfl (.g (cD rfl (fun c1=>?_) (fun c1=>?_))))
 ·have c1k:=c1
  try simp only [aC,aD] at c1
  refine .g (bG (mc:=⟨false,false⟩) [0,1,2,3,4,5,6] aV (by kernel_rfl) ?_)
  refine .p (sI (k) rfl .no cI (.u rfl) (.u rfl) (by omega) (fun _=>by first|omega|(simp only [Bool.and_eq_true,decide_eq_true_eq] at hc; omega)) ?_)
  refine .p (sI (k) rfl .no cI (.u rfl) (.u rfl) (by omega) (fun _=>by first|omega|(simp only [Bool.and_eq_true,decide_eq_true_eq] at hc; omega)) ?_)
  refine cP rfl rfl rfl rfl (.g (cD rfl (fun c2=>?_) (fun c2=>?_)))
  ·have c2k:=c2
   try simp only [aC,aD] at c2
   refine .seq (bD rfl rfl (mV rfl rfl (aS rfl rfl (.nc (.ret (aP Tryz.results111 (.tmp rfl .nil) ?_))))))
   exact ⟨rfl,aLS (by omega) hj c2⟩
  have c2k:=c2
  try simp only [aC,aD] at c2
  refine .g (aW (((k+1):Nat):Int) rfl rfl rfl rfl ?_)
  refine .g (aZ (k+1) ?_ ?_ ?_ ?_ ?_)
  ·exact (aO rfl (aA rfl (aA rfl (aA rfl (aA rfl eZ)))))
  ·exact mN
  ·first|omega|(dsimp only; omega)
  ·exact hGl0
  refine ⟨?_,?_⟩
  ·(try dsimp only)<;>(first|omega|rfl|assumption|(simp; done))
  (try dsimp only)<;>(exact aCd hj c2)
 have c1k:=c1
 try simp only [aC,aD] at c1
 refine .exit (.xcode (.xlp (.xblk (.code (.seq (bD rfl rfl (mV rfl rfl (aS rfl rfl (.nc (.ret (aP Tryz.results111 (.tmp rfl .nil) ?_)))))))))))
 exact ⟨rfl,by rw [aLR hk (by omega) hj]; rfl⟩
theorem aLM (O P:List Y) (vo:Value) (sp:Sh) (rs:Nat) (last:ByteArray) (bb:Nat) (e:Ent) (anew:Bool) (G:PM) (hP:SlR G 1 aL sp P) (hlO:O.length≤100000000) (hlP:P.length≤1000000000) (hrs:rs≤1000000000) (hll:last.size≤10000000) (hu:e.user.size≤10000000) (hv:e.value.size≤10000000):Ct Tryz.prog 71 ([.pointer (some ⟨bb,0,none⟩),e.val,.bool anew]:List Value).toArray G [.blk bb (cl [vo,sp.val P.length,.int .i64 (rs:Int),.string last] 121),rB vo 5 O] (fun G' μ' u=>∃ v' O' sp' P',O'=O++nZ (yb last) anew e∧P'=(if anew=true then P++cO (BitVec.ofInt 64 (O.length:Int)) 4 else P)∧μ'=[.blk bb (cl [v',sp'.val P'.length,.int .i64 ((if anew=true then rs+1 else rs:Nat):Int),.string (aN (bZ e))] 121),rB v' 5 O']∧u=.tuple #[]∧SlR G' 1 aL sp' P'):=by
 refine Ct.of Tryz.func71 rfl Tryz.ntmps71 rfl fun w0 hs0=>?_
 have hks:=aDD e
 have hcl:=yK (yb last) (yb (aN (bZ e)))
 rw [bP,bP] at hcl
 refine .seq (aM rfl rfl ?_)
 refine bX rfl rfl rfl ?_; intro b4
 refine .g (lA rfl .no dN (.u rfl) (fun _=>RdN.own .here) (fun _=>(by first|rfl|exact Ent.len _)) ?_)
 refine kV rfl aSu (aB rfl aE) (aMs e _ hu) ?_
 refine .g (nC rfl rfl (fZ rfl vB rfl (lO rfl cE rfl aF (by first|exact aJ rfl|rfl) ?_)))
 refine .p (kV rfl aSv (aB rfl (aB rfl aE)) (aLU last (aN (bZ e)) _ (by omega)) ?_)
 refine .g (cD rfl (fun c1=>?_) (fun c1=>?_))
 ·have c1k:=c1
  try simp only [aC,aD] at c1
  refine .g (bG (mc:=⟨false,false⟩) [0,1,2,3,4,5,6,7,8,9,10,11,12,13,14] aV (by kernel_rfl) ?_)
  refine .p (nC rfl rfl (fZ rfl aEg rfl (lO rfl bV rfl aF (by first|exact aJ rfl|rfl) ?_)))
  refine .p (nC rfl rfl (fZ rfl iV rfl (lO rfl bV rfl aF (by first|exact aJ rfl|rfl) ?_)))
  refine lr rfl .no bK (.u rfl) aT ?_
  refine ci rfl .no rfl cW (.u rfl) ?_
  refine kc rfl tK (aB rfl (aB rfl (aB rfl aE))) (Ct.frzB (rV P sp _ 4 _ hP (by omega) (by decide))) ?_
  rintro _ G29 μ29 hG29 ⟨h29,L29,eL29,rfl,rfl,hs29⟩
  have hP:=hP.mono hG29
  refine nC rfl rfl (fZ rfl aEg rfl (s1 rfl (.u rfl) (.u rfl) rfl iE aF (by first|decide|(simp only [bO,aU,bJ]; omega)) (rfl) ?_))
  refine .g (nC rfl rfl (fZ rfl aEh rfl (lO rfl dA rfl .here (by first|exact aJ rfl|rfl) ?_)))
  refine aW (((rs+1):Nat):Int) rfl rfl rfl rfl ?_
  refine nC rfl rfl (fZ rfl aEh rfl (s1 rfl (.u rfl) (.u rfl) rfl qZ .here (show 2<4 by decide) (rfl) ?_))
  refine .g (bG (mc:=⟨false,false⟩) [0,1,3,4,5,6,7,9,10,11,12,2,8,13,14] aV (by kernel_rfl) ?_)
  refine .p (ci rfl .no rfl cW (.u rfl) ?_)
  refine .p (ls rfl .no cI (.u rfl) (.p (aR rfl rfl rfl rfl ?_)))
  refine ci rfl .no rfl cW (.u rfl) ?_
  refine fZ rfl mG rfl (lO rfl cE rfl aF (by first|exact aJ rfl|rfl) ?_)
  refine ls rfl .no cI (.u rfl) (ci rfl .no rfl cW (.u rfl) ?_)
  refine kc rfl pQ (aB rfl (aB rfl aE)) (Ct.frzB (oU [] ⟨none,0⟩ _ SlR.nul _ (Nat.zero_le _))) ?_
  rintro _ G41 μ41 hG41 ⟨h41,L41,eL41,rfl,rfl,hs41⟩
  have hP:=hP.mono hG41
  have hs29:=hs29.mono hG41
  have lL41:=zC eL41
  refine kc rfl pQ (aB rfl (aB rfl aE)) (Ct.frzB (oU L41 h41 _ hs41 _ (by omega))) ?_
  rintro _ G47 μ47 hG47 ⟨h47,L47,eL47,rfl,rfl,hs47⟩
  have hP:=hP.mono hG47
  have hs29:=hs29.mono hG47
  have hs41:=hs41.mono hG47
  have lL47:=uJ eL47
  refine kc rfl pQ (aB rfl (aB rfl aE)) (Ct.frzB (oU L47 h47 _ hs47 _ (by omega))) ?_
  rintro _ G52 μ52 hG52 ⟨h52,L52,eL52,rfl,rfl,hs52⟩
  have hP:=hP.mono hG52
  have hs29:=hs29.mono hG52
  have hs41:=hs41.mono hG52
  have hs47:=hs47.mono hG52
  refine aS rfl rfl (.nc (.seq (dP ⟨false,false⟩ aV (by kernel_rfl) ?_)))
  refine Wp.one 0 (by kernel_rfl) ?_
  refine mV rfl rfl (.nil (Wp.one 1 (by kernel_rfl) ?_))
  refine mV rfl rfl (.nil (Wp.one 2 (by kernel_rfl) ?_))
  refine nC rfl rfl (.nil (Wp.one 3 (by kernel_rfl) ?_))
  refine fZ rfl iV rfl (.nil (Wp.one 4 (by kernel_rfl) ?_))
  refine lO rfl bV rfl .here (by first|exact aJ rfl|rfl) ?_
  refine .nil (Wp.one 5 (by kernel_rfl) ?_)
  refine mV rfl rfl (.nil (Wp.one 7 (by kernel_rfl) ?_))
  refine mV rfl rfl (.nil (Wp.one 8 (by kernel_rfl) ?_))
  refine mV rfl rfl (.nil (Wp.one 9 (by kernel_rfl) ?_))
  refine sD (0) rfl .no cI (.u rfl) (.u rfl) (by omega) (by omega) ?_
  refine .nil (Wp.one 11 (by kernel_rfl) ?_)
  refine fZ rfl mG rfl (.nil (Wp.b2 6 12 (by kernel_rfl) ?_ ?_))
  ·have lL52:=uJ eL52
   refine cF rfl aH aY (.u rfl) (.u rfl) aT hs52.sc (by (try simp only [bJ,bB]); omega) ?_
   intro v59 L59 ov59 eL59
   have lL59:L59.length=O.length+L52.length:=by rw [eL59,List.length_append]
   refine .nil (Wp.b2 10 12 (by kernel_rfl) ?_ ?_)
   ·refine nF rfl aH cI aY (.u rfl) (.u rfl) .here (by rw [fO,List.length_drop,bP]; omega) ?_; intro v63 L63 ov63 eL63
    refine .nil (Wp.one 12 (by kernel_rfl) ?_)
    refine lO rfl cE rfl aT (by first|exact aJ rfl|rfl) ?_
    refine .nil (Wp.b1 13 (by kernel_rfl) ?_)
    have lL63:L63.length≤L59.length+(aN (bZ e)).size:=by rw [eL63,List.length_append,bP,fO,List.length_drop,bP]; omega
    refine nF rfl aH cI aY (.u rfl) (.u rfl) .here (by (try simp only [List.length_append]); omega) ?_; intro v66 L66 ov66 eL66
    refine .nil (Wp.one 14 (by kernel_rfl) ?_)
    refine nC rfl rfl (.nil (Wp.one 15 (by kernel_rfl) ?_))
    refine fZ rfl iV rfl (.nil (Wp.b1 16 (by kernel_rfl) ?_))
    refine fR rfl (.u rfl) (.u rfl) .here iE aF (show 0<4 by decide) (rfl) ?_
    refine .nil (Wp.last (by kernel_rfl) ?_)
    refine .g (nC rfl rfl (fZ rfl vB rfl (s1 rfl (.u rfl) (.u rfl) rfl pT .here (show 3<4 by decide) (rfl) ?_)))
    refine .g (We.fin Tryz.results71 .nil (mS .here rfl (mS .here rfl mN)) ?_)
    subst c1
    exact ⟨_,L66,h29,L29,tT (k:=0) hu hv yL.symm eL41 eL47 eL52 eL59 eL63 eL66,by rw [if_pos rfl]; exact eL29,rfl,rfl,hs29⟩
   refine lO rfl cE rfl aT (by first|exact aJ rfl|rfl) ?_
   refine .nil (Wp.b1 10 (by kernel_rfl) ?_)
   refine nF rfl aH cI aY (.u rfl) (.u rfl) .here (by rw [fO,List.length_drop,bP]; omega) ?_; intro v63 L63 ov63 eL63
   refine .nil (Wp.b1 13 (by kernel_rfl) ?_)
   have lL63:L63.length≤L59.length+(aN (bZ e)).size:=by rw [eL63,List.length_append,bP,fO,List.length_drop,bP]; omega
   refine nF rfl aH cI aY (.u rfl) (.u rfl) .here (by (try simp only [List.length_append]); omega) ?_; intro v66 L66 ov66 eL66
   refine .nil (Wp.one 14 (by kernel_rfl) ?_)
   refine nC rfl rfl (.nil (Wp.one 15 (by kernel_rfl) ?_))
   refine fZ rfl iV rfl (.nil (Wp.b1 16 (by kernel_rfl) ?_))
   refine fR rfl (.u rfl) (.u rfl) .here iE aF (show 0<4 by decide) (rfl) ?_
   refine .nil (Wp.last (by kernel_rfl) ?_)
   refine .g (nC rfl rfl (fZ rfl vB rfl (s1 rfl (.u rfl) (.u rfl) rfl pT .here (show 3<4 by decide) (rfl) ?_)))
   refine .g (We.fin Tryz.results71 .nil (mS .here rfl (mS .here rfl mN)) ?_)
   subst c1
   exact ⟨_,L66,h29,L29,tT (k:=0) hu hv yL.symm eL41 eL47 eL52 eL59 eL63 eL66,by rw [if_pos rfl]; exact eL29,rfl,rfl,hs29⟩
  refine lO rfl cE rfl aF (by first|exact aJ rfl|rfl) ?_
  refine .nil (Wp.b1 6 (by kernel_rfl) ?_)
  have lL52:=uJ eL52
  refine cF rfl aH aY (.u rfl) (.u rfl) aT hs52.sc (by (try simp only [bJ,bB]); omega) ?_
  intro v59 L59 ov59 eL59
  have lL59:L59.length=O.length+L52.length:=by rw [eL59,List.length_append]
  refine .nil (Wp.b1 10 (by kernel_rfl) ?_)
  refine nF rfl aH cI aY (.u rfl) (.u rfl) .here (by rw [fO,List.length_drop,bP]; omega) ?_; intro v63 L63 ov63 eL63
  refine .nil (Wp.b1 13 (by kernel_rfl) ?_)
  have lL63:L63.length≤L59.length+(aN (bZ e)).size:=by rw [eL63,List.length_append,bP,fO,List.length_drop,bP]; omega
  refine nF rfl aH cI aY (.u rfl) (.u rfl) .here (by (try simp only [List.length_append]); omega) ?_; intro v66 L66 ov66 eL66
  refine .nil (Wp.one 14 (by kernel_rfl) ?_)
  refine nC rfl rfl (.nil (Wp.one 15 (by kernel_rfl) ?_))
  refine fZ rfl iV rfl (.nil (Wp.b1 16 (by kernel_rfl) ?_))
  refine fR rfl (.u rfl) (.u rfl) .here iE aF (show 0<4 by decide) (rfl) ?_
  refine .nil (Wp.last (by kernel_rfl) ?_)
  refine .g (nC rfl rfl (fZ rfl vB rfl (s1 rfl (.u rfl) (.u rfl) rfl pT .here (show 3<4 by decide) (rfl) ?_)))
  refine .g (We.fin Tryz.results71 .nil (mS .here rfl (mS .here rfl mN)) ?_)
  subst c1
  exact ⟨_,L66,h29,L29,tT (k:=0) hu hv yL.symm eL41 eL47 eL52 eL59 eL63 eL66,by rw [if_pos rfl]; exact eL29,rfl,rfl,hs29⟩
 have c1k:=c1
 try simp only [aC,aD] at c1
 refine .g (bG (mc:=⟨false,false⟩) [0,1,3,4,5,6,7,9,10,11,12,2,8,13,14] aV (by kernel_rfl) ?_)
 refine .p (ci rfl .no rfl cW (.u rfl) ?_)
 refine .p (ls rfl .no cI (.u rfl) (.p (aR rfl rfl rfl rfl ?_)))
 refine ci rfl .no rfl cW (.u rfl) ?_
 refine fZ rfl mG rfl (lO rfl cE rfl .here (by first|exact aJ rfl|rfl) ?_)
 refine ls rfl .no cI (.u rfl) (ci rfl .no rfl cW (.u rfl) ?_)
 refine kc rfl pQ (aB rfl (aB rfl aE)) (Ct.frzB (oU [] ⟨none,0⟩ _ SlR.nul _ (Nat.zero_le _))) ?_
 rintro _ G41 μ41 hG41 ⟨h41,L41,eL41,rfl,rfl,hs41⟩
 have hP:=hP.mono hG41
 have lL41:=zC eL41
 refine kc rfl pQ (aB rfl (aB rfl aE)) (Ct.frzB (oU L41 h41 _ hs41 _ (by omega))) ?_
 rintro _ G47 μ47 hG47 ⟨h47,L47,eL47,rfl,rfl,hs47⟩
 have hP:=hP.mono hG47
 have lL47:=uJ eL47
 refine kc rfl pQ (aB rfl (aB rfl aE)) (Ct.frzB (oU L47 h47 _ hs47 _ (by omega))) ?_
 rintro _ G52 μ52 hG52 ⟨h52,L52,eL52,rfl,rfl,hs52⟩
 have hP:=hP.mono hG52
 refine aS rfl rfl (.nc (.seq (dP ⟨false,false⟩ aV (by kernel_rfl) ?_)))
 refine Wp.one 0 (by kernel_rfl) ?_
 refine mV rfl rfl (.nil (Wp.one 1 (by kernel_rfl) ?_))
 refine mV rfl rfl (.nil (Wp.one 2 (by kernel_rfl) ?_))
 refine nC rfl rfl (.nil (Wp.one 3 (by kernel_rfl) ?_))
 refine fZ rfl iV rfl (.nil (Wp.one 4 (by kernel_rfl) ?_))
 refine lO rfl bV rfl aF (by first|exact aJ rfl|rfl) ?_
 refine .nil (Wp.one 5 (by kernel_rfl) ?_)
 refine mV rfl rfl (.nil (Wp.one 7 (by kernel_rfl) ?_))
 refine mV rfl rfl (.nil (Wp.one 8 (by kernel_rfl) ?_))
 refine mV rfl rfl (.nil (Wp.one 9 (by kernel_rfl) ?_))
 refine sD ((dV (yb last) (yb (aN (bZ e))))) rfl .no cI (.u rfl) (.u rfl) (by omega) (by omega) ?_
 refine .nil (Wp.one 11 (by kernel_rfl) ?_)
 refine fZ rfl mG rfl (.nil (Wp.b2 6 12 (by kernel_rfl) ?_ ?_))
 ·have lL52:=uJ eL52
  refine cF rfl aH aY (.u rfl) (.u rfl) aT hs52.sc (by (try simp only [bJ,bB]); omega) ?_
  intro v59 L59 ov59 eL59
  have lL59:L59.length=O.length+L52.length:=by rw [eL59,List.length_append]
  refine .nil (Wp.b2 10 12 (by kernel_rfl) ?_ ?_)
  ·refine nF rfl aH cI aY (.u rfl) (.u rfl) .here (by rw [fO,List.length_drop,bP]; omega) ?_; intro v63 L63 ov63 eL63
   refine .nil (Wp.one 12 (by kernel_rfl) ?_)
   refine lO rfl cE rfl aF (by first|exact aJ rfl|rfl) ?_
   refine .nil (Wp.b1 13 (by kernel_rfl) ?_)
   have lL63:L63.length≤L59.length+(aN (bZ e)).size:=by rw [eL63,List.length_append,bP,fO,List.length_drop,bP]; omega
   refine nF rfl aH cI aY (.u rfl) (.u rfl) .here (by (try simp only [List.length_append]); omega) ?_; intro v66 L66 ov66 eL66
   refine .nil (Wp.one 14 (by kernel_rfl) ?_)
   refine nC rfl rfl (.nil (Wp.one 15 (by kernel_rfl) ?_))
   refine fZ rfl iV rfl (.nil (Wp.b1 16 (by kernel_rfl) ?_))
   refine fR rfl (.u rfl) (.u rfl) .here iE aT (show 0<4 by decide) (rfl) ?_
   refine .nil (Wp.last (by kernel_rfl) ?_)
   refine .g (nC rfl rfl (fZ rfl vB rfl (s1 rfl (.u rfl) (.u rfl) rfl pT .here (show 3<4 by decide) (rfl) ?_)))
   refine .g (We.fin Tryz.results71 .nil (mS .here rfl (mS .here rfl mN)) ?_)
   subst c1
   exact ⟨_,L66,sp,P,tT (k:=dV (yb last) (yb (aN (bZ e)))) hu hv (by rw [yM,iD]) eL41 eL47 eL52 eL59 eL63 eL66,by rw [if_neg (by decide)],rfl,rfl,hP⟩
  refine lO rfl cE rfl aF (by first|exact aJ rfl|rfl) ?_
  refine .nil (Wp.b1 10 (by kernel_rfl) ?_)
  refine nF rfl aH cI aY (.u rfl) (.u rfl) .here (by rw [fO,List.length_drop,bP]; omega) ?_; intro v63 L63 ov63 eL63
  refine .nil (Wp.b1 13 (by kernel_rfl) ?_)
  have lL63:L63.length≤L59.length+(aN (bZ e)).size:=by rw [eL63,List.length_append,bP,fO,List.length_drop,bP]; omega
  refine nF rfl aH cI aY (.u rfl) (.u rfl) .here (by (try simp only [List.length_append]); omega) ?_; intro v66 L66 ov66 eL66
  refine .nil (Wp.one 14 (by kernel_rfl) ?_)
  refine nC rfl rfl (.nil (Wp.one 15 (by kernel_rfl) ?_))
  refine fZ rfl iV rfl (.nil (Wp.b1 16 (by kernel_rfl) ?_))
  refine fR rfl (.u rfl) (.u rfl) .here iE aT (show 0<4 by decide) (rfl) ?_
  refine .nil (Wp.last (by kernel_rfl) ?_)
  refine .g (nC rfl rfl (fZ rfl vB rfl (s1 rfl (.u rfl) (.u rfl) rfl pT .here (show 3<4 by decide) (rfl) ?_)))
  refine .g (We.fin Tryz.results71 .nil (mS .here rfl (mS .here rfl mN)) ?_)
  subst c1
  exact ⟨_,L66,sp,P,tT (k:=dV (yb last) (yb (aN (bZ e)))) hu hv (by rw [yM,iD]) eL41 eL47 eL52 eL59 eL63 eL66,by rw [if_neg (by decide)],rfl,rfl,hP⟩
 refine lO rfl cE rfl .here (by first|exact aJ rfl|rfl) ?_
 refine .nil (Wp.b1 6 (by kernel_rfl) ?_)
 have lL52:=uJ eL52
 refine cF rfl aH aY (.u rfl) (.u rfl) aT hs52.sc (by (try simp only [bJ,bB]); omega) ?_
 intro v59 L59 ov59 eL59
 have lL59:L59.length=O.length+L52.length:=by rw [eL59,List.length_append]
 refine .nil (Wp.b1 10 (by kernel_rfl) ?_)
 refine nF rfl aH cI aY (.u rfl) (.u rfl) .here (by rw [fO,List.length_drop,bP]; omega) ?_; intro v63 L63 ov63 eL63
 refine .nil (Wp.b1 13 (by kernel_rfl) ?_)
 have lL63:L63.length≤L59.length+(aN (bZ e)).size:=by rw [eL63,List.length_append,bP,fO,List.length_drop,bP]; omega
 refine nF rfl aH cI aY (.u rfl) (.u rfl) .here (by (try simp only [List.length_append]); omega) ?_; intro v66 L66 ov66 eL66
 refine .nil (Wp.one 14 (by kernel_rfl) ?_)
 refine nC rfl rfl (.nil (Wp.one 15 (by kernel_rfl) ?_))
 refine fZ rfl iV rfl (.nil (Wp.b1 16 (by kernel_rfl) ?_))
 refine fR rfl (.u rfl) (.u rfl) .here iE aT (show 0<4 by decide) (rfl) ?_
 refine .nil (Wp.last (by kernel_rfl) ?_)
 refine .g (nC rfl rfl (fZ rfl vB rfl (s1 rfl (.u rfl) (.u rfl) rfl pT .here (show 3<4 by decide) (rfl) ?_)))
 refine .g (We.fin Tryz.results71 .nil (mS .here rfl (mS .here rfl mN)) ?_)
 subst c1
 exact ⟨_,L66,sp,P,tT (k:=dV (yb last) (yb (aN (bZ e)))) hu hv (by rw [yM,iD]) eL41 eL47 eL52 eL59 eL63 eL66,by rw [if_neg (by decide)],rfl,rfl,hP⟩
theorem aFY (h:Sh) (l:List Ent) (every:Int) (G:PM) (hs:SlR G 4 Ent.cells h l) (hl:l.length≤1000000):Ct Tryz.prog 28 ([h.val l.length,.int .i64 every]:List Value).toArray G [] (fun _ μ' u=>∃ v L er,(L,er)=fP l every∧μ'=[rB v 5 L]∧u=.tuple #[v,.int .i64 er]):=by
 refine Ct.of Tryz.func28 rfl Tryz.ntmps28 rfl fun w0 hs0=>?_
 refine .g (cP rfl rfl rfl rfl (mV rfl rfl (mv rfl (.f rfl rfl) (.u rfl) (cp rfl (.f rfl rfl) (.s rfl) (.u rfl) rfl (cL rfl .no (.u rfl) (.s rfl) (mV rfl rfl (mv rfl (.f rfl rfl) (.u rfl) (kv rfl (.f rfl rfl) aEv (Eva.cons (.s rfl) aE) (fun hc=>aDm h l _ hs (by (try simp only [Bool.and_eq_true,decide_eq_true_eq,Bool.not_eq_true',Bool.or_eq_false_iff,decide_eq_false_iff_not] at hc); omega)) ?_))))))))
 refine nt rfl (.f rfl rfl) (.s rfl) (cL rfl .no (.u rfl) (.s rfl) (mV rfl rfl (mv rfl (.f rfl rfl) (.u rfl) (kv rfl (.f rfl rfl) aKh (Eva.cons (.s rfl) (aB rfl aE)) (fun hc=>aF4 h l _ hs (by (try simp only [Bool.and_eq_true,decide_eq_true_eq,Bool.not_eq_true',Bool.or_eq_false_iff,decide_eq_false_iff_not] at hc); omega) 70 aTU [] (fun e => !bT e) (fun G2 _ e _=>aLj e G2)) ?_))))
 refine cL rfl .no (.u rfl) (.s rfl) (.g (cD rfl (fun c1=>?_) (fun c1=>?_)))
 ·have c1k:=c1
  try simp only [aC,aI,aD] at c1
  refine .seq (bD rfl rfl (aS rfl rfl (aS rfl rfl (.nc (.ret (jW 5 ?_))))))
  refine We.fin Tryz.results28 (.tmp rfl (.tmp rfl .nil)) (mS .here rfl mN) ?_
  exact ⟨_,[],1,aFs c1k,rfl,rfl⟩
 have c1k:=c1
 try simp only [aC,aI,aD] at c1
 refine .g (ci rfl .no rfl cW (.u rfl) ?_)
 refine kc rfl pQ (aB rfl (aB rfl aE)) (Ct.frzB (oU [] ⟨none,0⟩ _ SlR.nul _ (Nat.zero_le _))) ?_
 rintro _ G26 μ26 hG26 ⟨h26,L26,eL26,rfl,rfl,hs26⟩
 have hs:=hs.mono hG26
 refine .p (lE rfl gJ rfl (ci rfl .no rfl cW (.u rfl) ?_))
 have lL26:=zC eL26
 refine kc rfl pQ (aB rfl (aB rfl aE)) (iT (oU L26 h26 _ hs26 _ (by omega))) ?_
 rintro v30 G30 μ30 hG30 ⟨L30,ov30,eL30,rfl⟩
 have hs:=hs.mono hG30
 refine dU ([v30,.slice none 0 0,.int .i64 0,.string ByteArray.empty]) rfl .no aSY (.cons (.u rfl) (yH ov30) .nil) rfl (rfl) ?_
 refine al rfl aTi ?_; intro b6
 refine sw rfl (.u rfl) (.u rfl) rfl aTh .here (by first|rfl|exact Ent.len _) (aOb ov30 rfl rfl rfl) ?_
 refine .g (lE rfl gJ rfl (mV rfl rfl (.nc (.block ?_))))
 refine bE (α:=Nat×Value×List Y×Sh×List Y×Nat×ByteArray) (fun gh=>[(34,true,.int .i64 (gh.1:Int))]) (fun gh=>[.blk b6 (cl [gh.2.1,gh.2.2.2.1.val gh.2.2.2.2.1.length,.int .i64 (gh.2.2.2.2.2.1:Int),.string gh.2.2.2.2.2.2] 121),rB gh.2.1 5 gh.2.2.1])
  (fun gh Gl=>(gh.1≤l.length)∧(gh.2.2.1=dX every.toNat l gh.1)∧(gh.2.2.2.2.1=lT every.toNat l gh.1)∧(gh.2.2.2.2.2.1=jV every.toNat gh.1)∧(gh.2.2.2.2.2.2=aN (oZ l gh.1))∧(∀ j,j<gh.1→(dX every.toNat l (j+1)).length≤1048576)∧(SlR Gl 1 aL gh.2.2.2.1 gh.2.2.2.2.1)) (fun gh=>l.length-gh.1) (0,v30,L30,⟨none,0⟩,[],0,ByteArray.empty) [(1,true,_),(6,true,_),(32,true,_),(33,true,_)] []
  (aO rfl (aA rfl (aA rfl (aA rfl (aA rfl eZ)))))
  (mS .here rfl (mS .here rfl mN)) ?_ ?_
 ·refine ⟨?_,?_,?_,?_,?_,?_,?_⟩
  ·(try dsimp only)<;>(first|omega|rfl|assumption|(simp; done))
  ·(try dsimp only)<;>(rw [eL30,eL26]; exact aMH (by have:=(yE c1k).1; omega) rfl (by have:=(yE c1k).1; omega) (by omega))
  ·(try dsimp only)<;>(rfl)
  ·(try dsimp only)<;>(rfl)
  ·(try dsimp only)<;>(exact tY)
  ·(try dsimp only)<;>(exact fun j h=>absurd h (Nat.not_lt_zero _))
  (try dsimp only)<;>(exact SlR.nul)
 intro gh N0 Gl0 hN0 hGl0 hF0
 obtain ⟨k,v,O,sp,P,rs,last⟩:=gh; dsimp only at hF0 hN0 ⊢
 obtain ⟨hk,eO,eP,er,el,hno,hP⟩:=hF0
 have hs:=hs.mono hGl0
 obtain ⟨hev,hsz⟩:=yE c1k
 have lO9:O.length≤1048576:=by rw [eO]; exact aHd (by omega) (by omega) hno
 have lP:P.length=4*rs:=by rw [eP,er,aBI]
 have lrs:rs≤k:=by rw [er]; exact aBX _ _
 have ll:last.size≤1032:=by rw [el]; exact aG7 hsz k
 refine .g (cP rfl rfl rfl rfl (.g (cD rfl (fun c2=>?_) (fun c2=>?_))))
 ·have c2k:=c2
  try simp only [aC,aI,aD] at c2
  refine .skip (.code (.seq (.block (.seq (nO rfl rfl (mV rfl rfl (ih rfl .no dZ (.u rfl) (.u rfl) (by omega) (by omega) (fun _=>hs.nn (k:=k) (by first|omega|(simp only [Bool.and_eq_true,decide_eq_true_eq] at hc; omega)|(simp only [List.length_cons,List.length_nil]; omega))) ?_)))))))
  obtain ⟨x,ex⟩:=dO (k:=k) (xs:=l) (by omega)
  refine lA rfl .no dN (.u rfl) (fun _=>(hs.at (by omega) ex).rd) (fun _=>Ent.len _) ?_
  refine al rfl xS ?_; intro b8
  refine aS rfl rfl ?_
  have hxx:=hsz x (List.mem_of_getElem? ex)
  refine sw rfl (.u rfl) (.u rfl) rfl fN .here (by first|rfl|exact Ent.len _) (Ent.one _) ?_
  refine .g (bG (mc:=⟨true,false⟩) [0,1,2,3,4,5] aV (by kernel_rfl) ?_)
  refine lA rfl .no dN (.u rfl) (fun _=>RdN.own .here) (fun _=>(by first|rfl|exact Ent.len _)) ?_
  refine .p (zM (k) ((every).toNat) rfl .no (.u rfl) (.u rfl) (by omega) (by omega) (fun _=>by first|decide|omega) ?_)
  refine cP rfl rfl rfl rfl (ka rfl (.inl rfl) aTV (aB rfl (aB rfl (aB rfl aE))) (rM aF aF) (aLM O P v sp rs last b6 x _ _ hP (by omega) (by omega) (by omega) (by omega) (by omega) (by omega)) ?_)
  rintro _ G44 μ44 hG44 ⟨v44,O44,sp44,P44,eO44,eP44,rfl,rfl,hP44⟩
  have hP:=hP.mono hG44
  refine .g (fZ rfl iV rfl (lO rfl bV rfl .here (by first|exact aJ rfl|rfl) ?_))
  refine lr rfl .no bK (.u rfl) aF ?_
  refine cP rfl rfl rfl rfl (.g (cD rfl (fun c3=>?_) (fun c3=>?_)))
  ·have c3k:=c3
   try simp only [aC,aI,aD] at c3
   refine .seq (bD rfl rfl (aS rfl rfl (aS rfl rfl (.nc (.ret (jW 5 ?_))))))
   refine We.fin Tryz.results28 (.tmp rfl (.tmp rfl .nil)) (mS .here rfl mN) ?_
   exact ⟨_,[],4,aCe c1k (k:=k) (by omega) (by rw [← tZ (L:=O44) ex el rfl (by rw [eO44,eO])]; omega),rfl,rfl⟩
  have c3k:=c3
  try simp only [aC,aI,aD] at c3
  refine .g (aW (((k+1):Nat):Int) rfl rfl rfl rfl ?_)
  refine .g (aZ (k+1,v44,O44,sp44,P44,_,_) (aO rfl (aA rfl (aA rfl (aA rfl (aA rfl eZ))))) (mS .here rfl (mS .here rfl mN)) ?_ ?_ ?_)
  ·first|omega|(dsimp only; omega)
  ·exact (hGl0).trans hG44
  refine ⟨?_,?_,?_,?_,?_,?_,?_⟩
  ·(try dsimp only)<;>(first|omega|rfl|assumption|(simp; done))
  ·(try dsimp only)<;>(exact tZ (L:=O44) ex el rfl (by rw [eO44,eO]))
  ·(try dsimp only)<;>(exact aDc rfl eO eP eP44)
  ·(try dsimp only)<;>(exact aD0 rfl er)
  ·(try dsimp only)<;>(exact (congrArg aN (aDG ex)).symm)
  ·(try dsimp only)<;>(exact aCf hno (by rw [← tZ (L:=O44) ex el rfl (by rw [eO44,eO])]; omega))
  (try dsimp only)<;>(exact hP44)
 have c2k:=c2
 try simp only [aC,aI,aD] at c2
 refine .exit (.xcode (.xlp (.xblk (.code (.seq (dP ⟨true,false⟩ aV (by kernel_rfl) ?_))))))
 refine Wp.one 0 (by kernel_rfl) ?_
 refine fZ rfl iV rfl (.nil (Wp.one 1 (by kernel_rfl) ?_))
 refine lO rfl bV rfl .here (by first|exact aJ rfl|rfl) ?_
 refine .nil (Wp.one 2 (by kernel_rfl) ?_)
 refine fZ rfl aEg rfl (.nil (Wp.one 3 (by kernel_rfl) ?_))
 refine lO rfl bV rfl .here (by first|exact aJ rfl|rfl) ?_
 refine .nil (Wp.one 5 (by kernel_rfl) ?_)
 refine fZ rfl aEh rfl (.nil (Wp.b2 4 6 (by kernel_rfl) ?_ ?_))
 ·refine cF rfl aH aY (.u rfl) (.u rfl) aF hP.sc (by (try simp only [bJ,bB]); omega) ?_
  intro v54 L54 ov54 eL54
  have lL54:L54.length=O.length+P.length:=by rw [eL54,List.length_append]
  refine .nil (Wp.one 6 (by kernel_rfl) ?_)
  refine lO rfl dA rfl aF (by first|exact aJ rfl|rfl) ?_
  refine .nil (Wp.one 7 (by kernel_rfl) ?_)
  refine ci rfl .no rfl cW (.u rfl) ?_
  refine .nil (Wp.b1 8 (by kernel_rfl) ?_)
  refine kc rfl tK (aB rfl (aB rfl (aB rfl aE))) (Ct.frzB (rV [] ⟨none,0⟩ _ 4 _ SlR.nul (Nat.zero_le _) (by decide))) ?_
  rintro _ G58 μ58 hG58 ⟨h58,L58,eL58,rfl,rfl,hs58⟩
  have hP:=hP.mono hG58
  refine .nil (Wp.b1 9 (by kernel_rfl) ?_)
  have lL58:=fx0 eL58
  refine cF rfl aH aY (.u rfl) (.u rfl) .here hs58.sc (by (try simp only [bJ,bB]); omega) ?_
  intro v59 L59 ov59 eL59
  have lL59:L59.length=L54.length+L58.length:=by rw [eL59,List.length_append]
  refine .nil (Wp.one 10 (by kernel_rfl) ?_)
  refine fZ rfl iV rfl (.nil (Wp.b1 11 (by kernel_rfl) ?_))
  refine fR rfl (.u rfl) (.u rfl) .here iE aF (by first|decide|(simp only [bO,aU,bJ]; omega)) (rfl) ?_
  refine .nil (Wp.last (by kernel_rfl) ?_)
  refine .g (fZ rfl iV rfl (lO rfl bV rfl .here (by first|exact aJ rfl|rfl) ?_))
  refine lr rfl .no bK (.u rfl) aF ?_
  refine cP rfl rfl rfl rfl (.g (cD rfl (fun c4=>?_) (fun c4=>?_)))
  ·have c4k:=c4
   try simp only [aC,aI,aD] at c4
   refine .seq (bD rfl rfl (aS rfl rfl (aS rfl rfl (.nc (.ret (jW 5 ?_))))))
   refine We.fin Tryz.results28 (.tmp rfl (.tmp rfl .nil)) (mS .here rfl mN) ?_
   obtain rfl:k=l.length:=by omega
   exact ⟨_,[],4,aAj c1k (by rw [← vP eO eP er eL54 eL58 eL59]; omega),rfl,rfl⟩
  have c4k:=c4
  try simp only [aC,aI,aD] at c4
  refine .g (fZ rfl iV rfl (lO rfl bV rfl .here (by first|exact aJ rfl|rfl) ?_))
  refine aS rfl rfl (aS rfl rfl (.nc (.ret (We.fin Tryz.results28 (.tmp rfl (.tmp rfl .nil)) (mS aF rfl mN) ?_))))
  obtain rfl:k=l.length:=by omega
  have eB:=vP eO eP er eL54 eL58 eL59
  exact ⟨_,L59,0,by rw [eB]; exact aAk c1k hno (by rw [← eB]; omega),rfl,rfl⟩
 refine lO rfl dA rfl .here (by first|exact aJ rfl|rfl) ?_
 refine .nil (Wp.b2 4 7 (by kernel_rfl) ?_ ?_)
 ·refine cF rfl aH aY (.u rfl) (.u rfl) aF hP.sc (by (try simp only [bJ,bB]); omega) ?_
  intro v54 L54 ov54 eL54
  have lL54:L54.length=O.length+P.length:=by rw [eL54,List.length_append]
  refine .nil (Wp.one 7 (by kernel_rfl) ?_)
  refine ci rfl .no rfl cW (.u rfl) ?_
  refine .nil (Wp.b1 8 (by kernel_rfl) ?_)
  refine kc rfl tK (aB rfl (aB rfl (aB rfl aE))) (Ct.frzB (rV [] ⟨none,0⟩ _ 4 _ SlR.nul (Nat.zero_le _) (by decide))) ?_
  rintro _ G58 μ58 hG58 ⟨h58,L58,eL58,rfl,rfl,hs58⟩
  have hP:=hP.mono hG58
  refine .nil (Wp.b1 9 (by kernel_rfl) ?_)
  have lL58:=fx0 eL58
  refine cF rfl aH aY (.u rfl) (.u rfl) .here hs58.sc (by (try simp only [bJ,bB]); omega) ?_
  intro v59 L59 ov59 eL59
  have lL59:L59.length=L54.length+L58.length:=by rw [eL59,List.length_append]
  refine .nil (Wp.one 10 (by kernel_rfl) ?_)
  refine fZ rfl iV rfl (.nil (Wp.b1 11 (by kernel_rfl) ?_))
  refine fR rfl (.u rfl) (.u rfl) .here iE aF (by first|decide|(simp only [bO,aU,bJ]; omega)) (rfl) ?_
  refine .nil (Wp.last (by kernel_rfl) ?_)
  refine .g (fZ rfl iV rfl (lO rfl bV rfl .here (by first|exact aJ rfl|rfl) ?_))
  refine lr rfl .no bK (.u rfl) aF ?_
  refine cP rfl rfl rfl rfl (.g (cD rfl (fun c4=>?_) (fun c4=>?_)))
  ·have c4k:=c4
   try simp only [aC,aI,aD] at c4
   refine .seq (bD rfl rfl (aS rfl rfl (aS rfl rfl (.nc (.ret (jW 5 ?_))))))
   refine We.fin Tryz.results28 (.tmp rfl (.tmp rfl .nil)) (mS .here rfl mN) ?_
   obtain rfl:k=l.length:=by omega
   exact ⟨_,[],4,aAj c1k (by rw [← vP eO eP er eL54 eL58 eL59]; omega),rfl,rfl⟩
  have c4k:=c4
  try simp only [aC,aI,aD] at c4
  refine .g (fZ rfl iV rfl (lO rfl bV rfl .here (by first|exact aJ rfl|rfl) ?_))
  refine aS rfl rfl (aS rfl rfl (.nc (.ret (We.fin Tryz.results28 (.tmp rfl (.tmp rfl .nil)) (mS aF rfl mN) ?_))))
  obtain rfl:k=l.length:=by omega
  have eB:=vP eO eP er eL54 eL58 eL59
  exact ⟨_,L59,0,by rw [eB]; exact aAk c1k hno (by rw [← eB]; omega),rfl,rfl⟩
 refine ci rfl .no rfl cW (.u rfl) ?_
 refine .nil (Wp.b1 4 (by kernel_rfl) ?_)
 refine cF rfl aH aY (.u rfl) (.u rfl) aF hP.sc (by (try simp only [bJ,bB]); omega) ?_
 intro v54 L54 ov54 eL54
 have lL54:L54.length=O.length+P.length:=by rw [eL54,List.length_append]
 refine .nil (Wp.b1 8 (by kernel_rfl) ?_)
 refine kc rfl tK (aB rfl (aB rfl (aB rfl aE))) (Ct.frzB (rV [] ⟨none,0⟩ _ 4 _ SlR.nul (Nat.zero_le _) (by decide))) ?_
 rintro _ G58 μ58 hG58 ⟨h58,L58,eL58,rfl,rfl,hs58⟩
 refine .nil (Wp.b1 9 (by kernel_rfl) ?_)
 have lL58:=fx0 eL58
 refine cF rfl aH aY (.u rfl) (.u rfl) .here hs58.sc (by (try simp only [bJ,bB]); omega) ?_
 intro v59 L59 ov59 eL59
 have lL59:L59.length=L54.length+L58.length:=by rw [eL59,List.length_append]
 refine .nil (Wp.one 10 (by kernel_rfl) ?_)
 refine fZ rfl iV rfl (.nil (Wp.b1 11 (by kernel_rfl) ?_))
 refine fR rfl (.u rfl) (.u rfl) .here iE aF (by first|decide|(simp only [bO,aU,bJ]; omega)) (rfl) ?_
 refine .nil (Wp.last (by kernel_rfl) ?_)
 refine .g (fZ rfl iV rfl (lO rfl bV rfl .here (by first|exact aJ rfl|rfl) ?_))
 refine lr rfl .no bK (.u rfl) aF ?_
 refine cP rfl rfl rfl rfl (.g (cD rfl (fun c4=>?_) (fun c4=>?_)))
 ·have c4k:=c4
  try simp only [aC,aI,aD] at c4
  refine .seq (bD rfl rfl (aS rfl rfl (aS rfl rfl (.nc (.ret (jW 5 ?_))))))
  refine We.fin Tryz.results28 (.tmp rfl (.tmp rfl .nil)) (mS .here rfl mN) ?_
  obtain rfl:k=l.length:=by omega
  exact ⟨_,[],4,aAj c1k (by rw [← vP eO eP er eL54 eL58 eL59]; omega),rfl,rfl⟩
 have c4k:=c4
 try simp only [aC,aI,aD] at c4
 refine .g (fZ rfl iV rfl (lO rfl bV rfl .here (by first|exact aJ rfl|rfl) ?_))
 refine aS rfl rfl (aS rfl rfl (.nc (.ret (We.fin Tryz.results28 (.tmp rfl (.tmp rfl .nil)) (mS aF rfl mN) ?_))))
 obtain rfl:k=l.length:=by omega
 have eB:=vP eO eP er eL54 eL58 eL59
 exact ⟨_,L59,0,by rw [eB]; exact aAk c1k hno (by rw [← eB]; omega),rfl,rfl⟩
theorem mJ:iS Tryz.prog 47=some (Ent.zero.cells):=by kernel_rfl
theorem tH:fX Tryz.prog 47 []=some (Ent.zero.cells,[]):=by kernel_rfl
theorem aJ7:fX Tryz.prog 47 [0,1,2]=some (Ent.zero.cells,[(0,1),(1,1),(2,1)]):=by kernel_rfl
theorem pS:aQ Tryz.prog 95=true:=by kernel_rfl
theorem aKa:aQ Tryz.prog 145=true:=by kernel_rfl
theorem aTB:aQ Tryz.prog 146=true:=by kernel_rfl
theorem aKX:aQ Tryz.prog 127=true:=by kernel_rfl
theorem vJ:(Tryz.prog.info? 47).bind (·.zero)=some (.agg (Ent.zero.cells).toArray):=by kernel_rfl
theorem aKi:aQ Tryz.prog 28=true:=by kernel_rfl
theorem aS2:aQ Tryz.prog 128=true:=by kernel_rfl
theorem aMw (s:ByteArray) (G:PM) (hl:s.size≤1000000000):Ct Tryz.prog 146 ([.string s]:List Value).toArray G [] (fun _ μ' u=>μ'=[]∧u=.tuple #[(fF (yb s)).1.val,.int .i64 (fF (yb s)).2]):=by
 refine Ct.of Tryz.func146 rfl Tryz.ntmps146 rfl fun w0 hs0=>?_
 have l8:(yb (aN ((yb s).drop (s.size-8)))).length≤1000000000:=by rw [iD,List.length_drop,bP]; omega
 refine .seq (bD rfl rfl ?_)
 refine al rfl mJ ?_; intro b2
 refine .g (ls rfl .no cI (.u rfl) (aR rfl rfl rfl rfl ?_))
 refine .g (cP rfl rfl rfl rfl (.g (cD rfl (fun c1=>?_) (fun c1=>?_))))
 ·have c1k:=c1
  try simp only [aC,aD] at c1
  refine .g (bC rfl .no tH .nil rfl ?_)
  refine sw rfl (.u rfl) (.u rfl) rfl fN .here (by first|rfl|exact Ent.len _) (Ent.one _) ?_
  refine aS rfl rfl (.nc (.ret (aP Tryz.results146 (.cell rfl (fun w hw=>bW dN (RdN.own .here) ((by first|rfl|exact Ent.len _)) hw) (.tmp rfl .nil)) ?_)))
  exact ⟨rfl,by rw [aJM c1]; rfl⟩
 have c1k:=c1
 try simp only [aC,aD] at c1
 refine .g (sD ((s.size-8)) rfl .no cI (.u rfl) (.u rfl) (by omega) (by omega) ?_)
 refine rH rfl rfl rZ (.u rfl) ?_; intro G16 h16 hG16 hs16
 refine kc rfl vF (aB rfl aE) (uV (yb (aN ((yb s).drop (s.size-8)))) h16 _ hs16 (by omega)) ?_
 rintro _ G17 μ17 hG17 ⟨b17,s17,rfl,rfl,hs17⟩
 refine ka rfl (.inr rfl) pR (aB rfl (aB rfl aE)) (bQ .here) (wQ (yb (aN ((yb s).drop (s.size-8)))) s17 _ _ hs17 (by rw [iD,List.length_drop,bP]; omega) (by omega)) ?_
 rintro _ G18 μ18 hG18 ⟨s18,rfl,rfl,hs18⟩
 refine .g (sE ((s.size-8)) rfl .no cI (.u rfl) (.u rfl) (by omega) (by omega) ?_)
 refine .p (iC (k:=.u64) rfl .no (.u rfl) (.u rfl) (fun _=>by decide) ?_)
 refine .p (cu (k:=.u64) rfl .no rfl kU (.u rfl) ?_)
 refine dU ((Ent.cells ⟨aN ((yb s).take (s.size-8)),(bU (yb (aN ((yb s).drop (s.size-8)))) 8) >>> 8,(bU (yb (aN ((yb s).drop (s.size-8)))) 8).setWidth 8,ByteArray.empty⟩)) rfl .no aJ7 (.cons (.u rfl) rfl (.cons (.u rfl) rfl (.cons (.u rfl) rfl .nil))) rfl (rfl) ?_
 refine al rfl mJ ?_; intro b6
 refine sw rfl (.u rfl) (.u rfl) rfl fN .here (by first|rfl|exact Ent.len _) (Ent.one _) ?_
 refine .g (lA rfl .no dN (.u rfl) (fun _=>RdN.own .here) (fun _=>(by first|rfl|exact Ent.len _)) ?_)
 refine kv rfl .no aEu (aB rfl aE) (fun _=>aCv ⟨aN ((yb s).take (s.size-8)),(bU (yb (aN ((yb s).drop (s.size-8)))) 8) >>> 8,(bU (yb (aN ((yb s).drop (s.size-8)))) 8).setWidth 8,ByteArray.empty⟩ _) ?_
 refine nt rfl .no (.u rfl) (.g (cD rfl (fun c2=>?_) (fun c2=>?_)))
 ·have c2k:=c2
  try simp only [aC,aD] at c2
  refine .g (bC rfl .no tH .nil rfl ?_)
  refine sw rfl (.u rfl) (.u rfl) rfl fN aT (by first|rfl|exact Ent.len _) (Ent.one _) ?_
  refine aS rfl rfl (.nc (.ret (aP Tryz.results146 (.cell rfl (fun w hw=>bW dN (RdN.own .here) ((by first|rfl|exact Ent.len _)) hw) (.tmp rfl .nil)) ?_)))
  exact ⟨rfl,by rw [aRr c1 c2]; rfl⟩
 have c2k:=c2
 try simp only [aC,aD] at c2
 refine .g (lA rfl .no dN (.u rfl) (fun _=>RdN.own .here) (fun _=>(by first|rfl|exact Ent.len _)) ?_)
 refine sw rfl (.u rfl) (.u rfl) rfl fN aT (by first|rfl|exact Ent.len _) (Ent.one _) ?_
 refine aS rfl rfl (.nc (.ret (aP Tryz.results146 (.cell rfl (fun w hw=>bW dN (RdN.own .here) ((by first|rfl|exact Ent.len _)) hw) (.tmp rfl .nil)) ?_)))
 exact ⟨rfl,by rw [aRs c1 c2]; rfl⟩
theorem aJJ (xs:List Y) (s:Sh) (b n:Nat) (G:PM) (hs:SlR G 1 aL s xs) (hn:n≤xs.length) (hl:xs.length≤100000000000000):Ct Tryz.prog 145 ([.pointer (some ⟨b,0,none⟩),.int .u64 (n:Int)]:List Value).toArray G [.blk b (cl [s.val xs.length,.int .i64 0] 175)] (fun G' μ' u=>∃ s',μ'=[.blk b (cl [Sh.val s' (xs.drop n).length,.int .i64 0] 175)]∧u=.string (aN (xs.take n))∧SlR G' 1 aL s' (xs.drop n)):=by
 refine Ct.of Tryz.func145 rfl Tryz.ntmps145 rfl fun w0 hs0=>?_
 refine .seq (aM rfl rfl (aS rfl rfl (.nc (.seq (eH rfl rfl (mV rfl rfl ?_))))))
 refine mkY (n) (n) rfl aH aY (.u rfl) (.u rfl) (by first|rfl|omega) (by first|rfl|omega) (by omega) (by omega) ?_; intro b8
 have lR8:(List.replicate (n) (0#8:Y)).length=n:=List.length_replicate
 refine .g (lr rfl .no bK (.u rfl) .here ?_)
 refine mV rfl rfl (.nc (.block ?_))
 refine bE (α:=Nat×List Y×Sh) (fun gh=>[(11,true,.int .i64 (gh.1:Int))]) (fun gh=>[rB (.slice (some ⟨b8,0,none⟩) (n:Nat) (n:Nat)) 5 gh.2.1,.blk b (cl [Sh.val gh.2.2 (xs.drop gh.1).length,.int .i64 0] 175)])
  (fun gh Gl=>(gh.1≤n)∧(gh.2.1=qM xs n gh.1)∧(gh.2.1.length=n)∧(SlR Gl 1 aL gh.2.2 (xs.drop gh.1))) (fun gh=>n-gh.1) (0,List.replicate n 0#8,s) [(0,true,_),(5,true,_),(10,true,_)] []
  (aO rfl (aA rfl (aA rfl (aA rfl eZ))))
  (mS .here rfl (mS .here rfl mN)) ?_ ?_
 ·refine ⟨?_,?_,?_,?_⟩
  ·(try dsimp only)<;>(first|omega|rfl|assumption|(simp; done))
  ·(try dsimp only)<;>(rw [aR1])
  ·(try dsimp only)<;>(exact List.length_replicate)
  (try dsimp only)<;>(exact hs)
 intro gh N0 Gl0 hN0 hGl0 hF0
 obtain ⟨k,M,s9⟩:=gh; dsimp only at hF0 hN0 ⊢
 obtain ⟨hk,eM,lM,hsl⟩:=hF0
 refine .g (cP rfl rfl rfl rfl (.g (cD rfl (fun c1=>?_) (fun c1=>?_))))
 ·have c1k:=c1
  try simp only [aC,aD] at c1
  refine .g (ka rfl (.inr rfl) pR (aB rfl (aB rfl aE)) (bQ aF) (zJ (xs.drop k) 0 s9 b _ hsl (by rw [List.length_drop]; omega)) ?_)
  rintro _ G17 μ17 hG17 ⟨y17,L17,e17,s17,hN17,rfl,rfl,hs17⟩
  obtain ⟨rfl,rfl,rfl⟩:=aRy (by omega) hN17
  have hsl:=hsl.mono hG17
  refine cu (k:=.u64) rfl .no rfl kU (.u rfl) ?_
  refine ia rfl .no aH (.u rfl) (.u rfl) (by omega) (by omega) ?_
  refine s1r rfl (.u rfl) (.u rfl) fW aF (by omega) ?_; intro Ls5_6 eLs5_6 lLs5_6
  refine .g (aW (((k+1):Nat):Int) rfl rfl rfl rfl ?_)
  refine .g (aZ (k+1,Ls5_6,s17) ?_ ?_ ?_ ?_ ?_)
  ·exact (aO rfl (aA rfl (aA rfl (aA rfl eZ))))
  ·exact (mS .here rfl (mS .here rfl mN))
  ·first|omega|(dsimp only; omega)
  ·exact (hGl0).trans hG17
  refine ⟨?_,?_,?_,?_⟩
  ·(try dsimp only)<;>(first|omega|rfl|assumption|(simp; done))
  ·(try dsimp only)<;>(rw [eLs5_6,eM]; exact aRz (by omega) hn (by rw [Nat.zero_add,Nat.mul_one]; rfl) (aRx _))
  ·(try dsimp only)<;>(first|omega|rfl|assumption|(simp; done))
  (try dsimp only)<;>(exact hs17)
 have c1k:=c1
 try simp only [aC,aD] at c1
 refine .exit (.xcode (.xlp (.xblk (.code (.seq ?_)))))
 subst lM
 refine .g (sB rfl .no jX (.u rfl) (fun _=>(Sc.row .here)) ?_)
 refine aS rfl rfl (.nc (.ret (We.fin Tryz.results145 (.tmp rfl .nil) (mS aF rfl mN) ?_)))
 obtain rfl:k=M.length:=by omega
 exact ⟨s9,rfl,congrArg (fun z=>Value.string (aN z)) (eM.trans aRw),hsl⟩
theorem aFa (xs:List Y) (s:Sh) (b:Nat) (last:ByteArray) (G:PM) (hs:SlR G 1 aL s xs) (hl:xs.length≤100000000) (hk:last.size≤100000000):Ct Tryz.prog 127 ([.pointer (some ⟨b,0,none⟩),.string last]:List Value).toArray G [.blk b (cl [s.val xs.length,.int .i64 0] 175)] (fun G' μ' u=>(kP (yb last) xs=none∧μ'=[]∧∃ (E:Ent) (key:ByteArray),u=.tuple #[E.val,.string key,.bool false])∨(∃ E key L s',kP (yb last) xs=some (E,yb key,L)∧μ'=[.blk b (cl [Sh.val s' L.length,.int .i64 0] 175)]∧u=.tuple #[E.val,.string key,.bool true]∧SlR G' 1 aL s' L)):=by
 refine Ct.of Tryz.func127 rfl Tryz.ntmps127 rfl fun w0 hs0=>?_
 refine .seq (eH rfl rfl ?_)
 refine al rfl mJ ?_; intro b4
 refine .g (ka rfl (.inr rfl) pS (aB rfl aE) (bQ aF) (pI xs 0 s b _ hs (by omega)) ?_)
 rintro _ G15 μ15 hG15 ⟨n15,L15,e15,s15,hN15,rfl,rfl,hs15⟩
 have lL15:=pJ hN15; have nL15:=iN hN15; simp only at lL15
 refine .p (ka rfl (.inr rfl) pS (aB rfl aE) (bQ .here) (pI L15 e15 s15 b _ hs15 (by omega)) ?_)
 rintro _ G17 μ17 hG17 ⟨n17,L17,e17,s17,hN17,rfl,rfl,hs17⟩
 have lL17:=pJ hN17; have nL17:=iN hN17; simp only at lL17
 refine .p (ka rfl (.inr rfl) pS (aB rfl aE) (bQ .here) (pI L17 e17 s17 b _ hs17 (by omega)) ?_)
 rintro _ G19 μ19 hG19 ⟨n19,L19,e19,s19,hN19,rfl,rfl,hs19⟩
 have lL19:=pJ hN19; have nL19:=iN hN19; simp only at lL19
 refine .g (kp rfl .no aKW (aB rfl aE) (Gp.add .here Gp.nil) (fun _ hle hq=>aHy L19 e19 s19 b _ RdNP.add) ?_)
 refine cw rfl .no cW (.u rfl) (fun _=>eY (by omega) (by omega)) ?_
 refine .g (kp rfl .no qY (aB rfl aE) (Gp.add .here Gp.nil) (fun _ hle hq=>qG L19 e19 s19 b _ RdNP.add) ?_)
 refine cP rfl rfl rfl rfl (mV rfl rfl (mv rfl (.f rfl rfl) (.u rfl) (mv rfl (.f rfl rfl) (.u rfl) (ls rfl (.f rfl rfl) cI (.s rfl) (cw rfl (.f rfl rfl) cW (.s rfl) (fun hc=>eY (by (try simp only [Bool.and_eq_true,decide_eq_true_eq,Bool.not_eq_true',Bool.or_eq_false_iff,decide_eq_false_iff_not] at hc); omega) (by (try simp only [Bool.and_eq_true,decide_eq_true_eq,Bool.not_eq_true',Bool.or_eq_false_iff,decide_eq_false_iff_not] at hc); omega)) ?_)))))
 refine cp rfl (.f rfl rfl) (.s rfl) (.s rfl) rfl (cL rfl .no (.u rfl) (.s rfl) (mV rfl rfl (mv rfl (.f rfl rfl) (.u rfl) (mv rfl (.f rfl rfl) (.u rfl) (cp rfl (.f rfl rfl) (.s rfl) (.s rfl) rfl (cL rfl .no (.u rfl) (.s rfl) (mV rfl rfl (mv rfl (.f rfl rfl) (.u rfl) (mv rfl (.f rfl rfl) (.u rfl) (mv rfl (.f rfl rfl) (.u rfl) (ar rfl (.f rfl rfl) (.s rfl) (.s rfl) rfl (fun hc=>eY (by (try simp only [Bool.and_eq_true,decide_eq_true_eq,Bool.not_eq_true',Bool.or_eq_false_iff,decide_eq_false_iff_not] at hc); omega) (by (try simp only [Bool.and_eq_true,decide_eq_true_eq,Bool.not_eq_true',Bool.or_eq_false_iff,decide_eq_false_iff_not] at hc); omega)) ?_)))))))))))
 refine cp rfl (.f rfl rfl) (.s rfl) (.s rfl) rfl (cL rfl .no (.u rfl) (.s rfl) (.g (cD rfl (fun c1=>?_) (fun c1=>?_))))
 ·have c1k:=c1
  try simp only [aC,aI,aD] at c1
  refine .g (bC rfl .no tH .nil rfl ?_)
  refine sw rfl (.u rfl) (.u rfl) rfl fN aF (by first|rfl|exact Ent.len _) (Ent.one _) ?_
  refine aS rfl rfl (aS rfl rfl (.nc (.ret (aP Tryz.results127 (.cell rfl (fun w hw=>bW dN (RdN.own .here) (Ent.len _) hw) (.tmp rfl (.tmp rfl .nil))) ?_))))
  exact .inl ⟨by rw [zX hN15 hN17 hN19,if_neg (fun q=>by omega)],rfl,Ent.zero,ByteArray.empty,rfl⟩
 have c1k:=c1
 try simp only [aC,aI,aD] at c1
 refine .skip (.code (.seq ?_))
 obtain rfl:e19=0:=by omega
 refine bG (mc:=⟨true,false⟩) [0,1,2,3,4,5,6,7] aV (by kernel_rfl) ?_
 refine .p (sE (n15) rfl .no cI (.u rfl) (.u rfl) (by omega) (by omega) ?_)
 refine .p (ka rfl (.inl rfl) aKa (aB rfl (aB rfl aE)) (bQ .here) (aJJ L19 s19 b n17 _ hs19 (by omega) (by omega)) ?_)
 rintro _ G51 μ51 hG51 ⟨s51,rfl,rfl,hs51⟩
 refine sP rfl .no (.u rfl) (.u rfl) (fun _=>by simp only [fO,List.length_take,bP]; omega) ?_
 refine aS rfl rfl (.nc (.seq ?_))
 generalize hkey:aN (yb (aN ((yb last).take n15))++yb (aN (L19.take n17)))=key
 have eky:yb key=(yb last).take n15++L19.take n17:=by rw [← hkey,iD,iD,iD]
 have lky:key.size≤200000000:=by rw [← bP,eky,List.length_append,List.length_take,List.length_take,bP]; omega
 refine .g (kV rfl aTB (aB rfl aE) (aMw key _ (by omega)) ?_)
 refine .p (eX rfl rfl rfl (eX rfl rfl rfl ?_))
 refine al rfl mJ ?_; intro b12
 refine sw rfl (.u rfl) (.u rfl) rfl fN .here (by first|rfl|exact Ent.len _) (Ent.one _) ?_
 refine .g (ka rfl (.inr rfl) aKa (aB rfl (aB rfl aE)) (bQ aF) (aJJ (L19.drop n17) s51 b n19 _ hs51 (by rw [List.length_drop]; omega) (by rw [List.length_drop]; omega)) ?_)
 rintro _ G60 μ60 hG60 ⟨s60,rfl,rfl,hs60⟩
 refine fZ rfl mG rfl (s1 rfl (.u rfl) (.u rfl) rfl pT aF (show 3<4 by decide) (aEW _ _) ?_)
 refine .nil (.code (.seq ?_))
 by_cases hq:(fF (yb key)).2=0
 ·refine .g (lA rfl .no dN (.u rfl) (fun _=>RdN.own .here) (fun _=>(by first|rfl|exact Ent.len _)) ?_)
  refine .p (cP rfl rfl rfl rfl (sw rfl (.u rfl) (.u rfl) rfl fN aT (by first|rfl|exact Ent.len _) (Ent.one _) ?_))
  refine aS rfl rfl (aS rfl rfl (.nc (.ret (We.fin Tryz.results127 (.cell rfl (fun w hw=>bW dN (RdN.own .here) (Ent.len _) hw) (.tmp rfl (.tmp rfl .nil))) (mS aT rfl mN) ?_))))
  refine .inr ⟨{ (fF (yb key)).1 with value:=aN ((L19.drop n17).take n19) },key,(L19.drop n17).drop n19,s60,?_,rfl,?_,hs60⟩
  ·rw [zX hN15 hN17 hN19,if_pos ⟨rfl,by omega,by omega,by omega⟩,←eky,if_pos hq]
  rw [show ((fF (yb key)).2 == 0)=true by rw [hq]; rfl]; rfl
 refine .g (lA rfl .no dN (.u rfl) (fun _=>RdN.own .here) (fun _=>(by first|rfl|exact Ent.len _)) ?_)
 refine .p (cP rfl rfl rfl rfl (sw rfl (.u rfl) (.u rfl) rfl fN aT (by first|rfl|exact Ent.len _) (Ent.one _) ?_))
 refine aS rfl rfl (aS rfl rfl (.nc (.ret (aP Tryz.results127 (.cell rfl (fun w hw=>bW dN (RdN.own .here) (Ent.len _) hw) (.tmp rfl (.tmp rfl .nil))) ?_))))
 refine .inl ⟨?_,rfl,{ (fF (yb key)).1 with value:=aN ((L19.drop n17).take n19) },key,?_⟩
 ·rw [zX hN15 hN17 hN19,if_pos ⟨rfl,by omega,by omega,by omega⟩,←eky,if_neg hq]
 rw [show ((fF (yb key)).2 == 0)=false from beq_eq_false_iff_ne.2 hq]; rfl
theorem aLl (xs:List Y) (s:Sh) (b:Nat) (last:ByteArray) (G:PM) (hs:SlR G 1 aL s xs) (hl:xs.length≤100000000) (hk:last.size≤100000000) (hq:kP (yb last) xs=none):Ct Tryz.prog 127 ([.pointer (some ⟨b,0,none⟩),.string last]:List Value).toArray G [.blk b (cl [s.val xs.length,.int .i64 0] 175)] (fun _ μ' u=>∃ (E:Ent) (key:ByteArray),μ'=[]∧u=.tuple #[E.val,.string key,.bool false]) :=
 (aFa xs s b last G hs hl hk).mono fun G' μ' u hh=>by
  rcases hh with ⟨_,h1,E,key,h2⟩ | ⟨E,key,L,s',h1,_⟩
  ·exact ⟨E,key,h1,h2⟩
  ·rw [hq] at h1; cases h1
theorem aLm (xs:List Y) (s:Sh) (b:Nat) (last:ByteArray) (G:PM) (hs:SlR G 1 aL s xs) (hl:xs.length≤100000000) (hk:last.size≤100000000) {E:Ent} {K L:List Y} (hq:kP (yb last) xs=some (E,K,L)):Ct Tryz.prog 127 ([.pointer (some ⟨b,0,none⟩),.string last]:List Value).toArray G [.blk b (cl [s.val xs.length,.int .i64 0] 175)] (fun G' μ' u=>∃ key s',yb key=K∧μ'=[.blk b (cl [Sh.val s' L.length,.int .i64 0] 175)]∧u=.tuple #[E.val,.string key,.bool true]∧SlR G' 1 aL s' L) :=
 (aFa xs s b last G hs hl hk).mono fun G' μ' u hh=>by
  rcases hh with ⟨h1,_⟩ | ⟨E,key,L,s',h1,h2,h3,h4⟩
  ·rw [hq] at h1; cases h1
  ·rw [hq] at h1; cases h1; exact ⟨key,s',rfl,h2,h3,h4⟩
theorem aFZ (xs:List Y) (h:Sh) (G:PM) (hs:SlR G 1 aL h xs) (hl:xs.length≤1000000):Ct Tryz.prog 101 ([h.val xs.length]:List Value).toArray G [] (fun G' μ' u=>∃ (h':Sh) (l:List Ent) (er:Int),(l,er)=gM xs∧μ'=[]∧u=.tuple #[h'.val l.length,.int .i64 er]∧SlR G' 4 Ent.cells h' l):=by
 refine Ct.of Tryz.func101 rfl Tryz.ntmps101 rfl fun w0 hs0=>?_
 refine .g (kc rfl vF (aB rfl aE) (uV xs h _ hs (by omega)) ?_)
 rintro _ G15 μ15 hG15 ⟨b15,s15,rfl,rfl,hs15⟩
 have hs:=hs.mono hG15
 refine .g (ka rfl (.inr rfl) pS (aB rfl aE) (bQ .here) (pI xs 0 s15 b15 _ hs15 (by omega)) ?_)
 rintro _ G17 μ17 hG17 ⟨n17,L17,e17,s17,hN17,rfl,rfl,hs17⟩
 have lL17:=pJ hN17; have nL17:=iN hN17; simp only at lL17
 have hs:=hs.mono hG17
 refine .p (ka rfl (.inr rfl) pS (aB rfl aE) (bQ .here) (pI L17 e17 s17 b15 _ hs17 (by omega)) ?_)
 rintro _ G19 μ19 hG19 ⟨n19,L19,e19,s19,hN19,rfl,rfl,hs19⟩
 have lL19:=pJ hN19; have nL19:=iN hN19; simp only at lL19
 have hs:=hs.mono hG19
 refine .g (kp rfl .no qY (aB rfl aE) (Gp.add .here Gp.nil) (fun _ hle hq=>qG L19 e19 s19 b15 _ RdNP.add) ?_)
 refine cP rfl rfl rfl rfl (mV rfl rfl (mv rfl (.f rfl rfl) (.u rfl) (cp rfl (.f rfl rfl) (.s rfl) (.u rfl) rfl (cL rfl .no (.u rfl) (.s rfl) (.g (cD rfl (fun c1=>?_) (fun c1=>?_)))))))
 ·have c1k:=c1
  try simp only [aC,aI,aD] at c1
  refine .seq (bD rfl rfl (aS rfl rfl (aS rfl rfl (.nc (.ret (aP Tryz.results101 (.tmp rfl (.tmp rfl .nil)) ?_))))))
  exact ⟨⟨none,0⟩,[],100,aH4 hN17 hN19 c1,rfl,rfl,SlR.nul⟩
 have c1k:=c1
 try simp only [aC,aI,aD] at c1
 refine .skip (.code (.seq (aM rfl rfl (aS rfl rfl (.nc (.seq (.seq ?_)))))))
 obtain rfl:e19=0:=by omega
 refine kQ 4 Ent.cells 47 (aM rfl rfl (aS rfl rfl (.nc (.block ?_))))
 refine bE (α:=Nat×ByteArray×Value×List Ent×List Y×Sh) (fun gh=>[(6,true,.int .u64 (gh.1:Int)),(7,true,gh.2.2.1),(8,true,.string gh.2.1)]) (fun gh=>[rS 4 Ent.cells gh.2.2.1 47 gh.2.2.2.1,.blk b15 (cl [Sh.val gh.2.2.2.2.2 gh.2.2.2.2.1.length,.int .i64 0] 175)])
  (fun gh Gl=>(gF n19 [] [] L19=gF gh.1 (yb gh.2.1) gh.2.2.2.1 gh.2.2.2.2.1)∧(gh.2.2.2.1.length+gh.2.2.2.2.1.length≤L19.length∧gh.2.1.size+gh.2.2.2.2.1.length≤L19.length)∧(gh.1≤n19)∧(SlR Gl 1 aL gh.2.2.2.2.2 gh.2.2.2.2.1)) (fun gh=>gh.1) (n19,ByteArray.empty,.slice none 0 0,[],L19,s19) [(0,true,_),(4,true,_),(5,true,_)] []
  (aA rfl (aA rfl (aA rfl (aA rfl (aA rfl (aA rfl eZ))))))
  (mS .here rfl (mS .here rfl mN)) ?_ ?_
 ·refine ⟨?_,?_,?_,?_⟩
  ·(try dsimp only)<;>(rw [aJp])
  ·(try dsimp only)<;>(exact ⟨by simp,Nat.le_of_eq (by rw [show ByteArray.empty.size=0 from rfl]; omega)⟩)
  ·(try dsimp only)<;>(first|omega|rfl|assumption|(simp; done))
  (try dsimp only)<;>(exact hs19)
 intro gh N0 Gl0 hN0 hGl0 hF0
 obtain ⟨m,last,v,acc,R,sR⟩:=gh; dsimp only at hF0 hN0 ⊢
 obtain ⟨hE,hlen,hm,hR⟩:=hF0
 have hs:=hs.mono hGl0
 refine .g (cP rfl rfl rfl rfl (.g (cD rfl (fun c2=>?_) (fun c2=>?_))))
 ·have c2k:=c2
  try simp only [aC,aI,aD] at c2
  refine .skip (.code (.seq (.block (.seq ?_))))
  rcases hst:kP (yb last) R with _ | ⟨E2,K2,R2⟩
  ·refine .g (ka rfl (.inr rfl) aKX (aB rfl (aB rfl aE)) (bQ aF) (aLl R sR b15 last _ hR (by omega) (by omega) hst) ?_)
   rintro _ G34 μ34 hG34 ⟨E34,key34,rfl,rfl⟩
   have hs:=hs.mono hG34
   have hR:=hR.mono hG34
   refine .p (eX rfl rfl rfl (eX rfl rfl rfl (eX rfl rfl rfl ?_)))
   refine al rfl mJ ?_; intro b9
   refine sw rfl (.u rfl) (.u rfl) rfl fN .here (by first|rfl|exact Ent.len _) (Ent.one _) ?_
   refine .g (nt rfl .no (.u rfl) (.g (tR rfl rfl ?_)))
   refine .seq (bD rfl rfl (aS rfl rfl (aS rfl rfl (.nc (.ret (aP Tryz.results101 (.tmp rfl (.tmp rfl .nil)) ?_))))))
   exact ⟨⟨none,0⟩,[],100,aH5 hN17 hN19 ⟨rfl,by omega⟩ (by rw [hE]; exact aCw (by omega) hst),rfl,rfl,SlR.nul⟩
  refine .g (ka rfl (.inr rfl) aKX (aB rfl (aB rfl aE)) (bQ aF) (aLm R sR b15 last _ hR (by omega) (by omega) hst) ?_)
  rintro _ G34 μ34 hG34 ⟨key34,s34,rfl,rfl,rfl,hs34⟩
  have hs:=hs.mono hG34
  refine .p (eX rfl rfl rfl (eX rfl rfl rfl (eX rfl rfl rfl ?_)))
  refine al rfl mJ ?_; intro b9
  refine sw rfl (.u rfl) (.u rfl) rfl fN .here (by first|rfl|exact Ent.len _) (Ent.one _) ?_
  refine .g (nt rfl .no (.u rfl) (.g (aCK rfl rfl ?_)))
  refine .g (lA rfl .no dN (.u rfl) (fun _=>RdN.own .here) (fun _=>(by first|rfl|exact Ent.len _)) ?_)
  refine Go.Tan.b1 rfl dZ vJ (.u rfl) rfl rfl (by decide) ?_; intro b42
  refine fK (xs:=acc) (E2) rfl dZ vJ rfl (.u rfl) (.u rfl) bM .here (Ent.len _) (Ent.one _) (by omega) (by unfold maxLen; omega) ?_; intro v43 ov43
  refine .g (ar rfl .no (.u rfl) (.u rfl) rfl (fun _=>eY (by omega) (by omega)) ?_)
  refine .g (aZ (m-1,key34,v43,acc++[E2],R2,s34) ?_ ?_ ?_ ?_ ?_)
  ·exact (fD rfl (congrArg (Value.int .u64) (by dsimp only; omega)) (aA rfl (aA rfl (aA rfl (aA rfl (aA rfl eZ))))))
  ·exact (mS .here rfl (mS aT rfl mN))
  ·first|omega|(dsimp only; omega)
  ·exact (hGl0).trans hG34
  refine ⟨?_,?_,?_,?_⟩
  ·(try dsimp only)<;>(rw [hE]; exact aGO (by omega) hst)
  ·(try dsimp only)<;>(have ht:=aJR hst; rw [bP,bP] at ht; rw [List.length_append]; simp only [List.length_cons,List.length_nil]; omega)
  ·(try dsimp only)<;>(first|omega|rfl|assumption|(simp; done))
  (try dsimp only)<;>(exact hs34)
 have c2k:=c2
 try simp only [aC,aI,aD] at c2
 refine .exit (.xcode (.xlp (.xblk (.code (.seq (.seq ?_))))))
 refine jC .here (fun _ _=>rfl) (by intro b hb; cases hb) ?_; intro GfRL hRL hleRL evRL hsRL; subst evRL
 have hs:=hs.mono hleRL
 refine .g (cw rfl .no jF (.u rfl) (fun _=>cB (by omega) (by omega)) ?_)
 refine kc rfl aKi (aB rfl (aB rfl aE)) (aFY hRL acc (n17:Int) _ hsRL (by omega)) ?_
 rintro _ G49 μ49 hG49 ⟨v49,L49,er49,hB49,rfl,rfl⟩
 have hs:=hs.mono hG49
 have hsRL:=hsRL.mono hG49
 refine .p (eX rfl rfl rfl (eX rfl rfl rfl (aS rfl rfl (aS rfl rfl (.nc (.seq ?_))))))
 refine iR .here (by first|(intro b hb; cases hb; done) | simp [keys,Res.keys]) ?_; intro GfR49 hR49 hleR49 evR49 hsR49; subst evR49
 have hs:=hs.mono hleR49
 have hsRL:=hsRL.mono hleR49
 refine .g (cP rfl rfl rfl rfl (mV rfl rfl (mv rfl (.f rfl rfl) (.u rfl) (mv rfl (.f rfl rfl) (.u rfl) ?_))))
 have l49:=aMC hB49
 refine kv rfl (.f rfl rfl) aS2 (Eva.cons (.s rfl) (Eva.cons (.s rfl) aE)) (fun hc=>aQX L49 xs hR49 h _ hsR49 hs (by (try simp only [Bool.and_eq_true,decide_eq_true_eq,Bool.not_eq_true',Bool.or_eq_false_iff,decide_eq_false_iff_not] at hc); omega)) ?_
 refine nt rfl (.f rfl rfl) (.s rfl) (cL rfl .no (.u rfl) (.s rfl) (.g (cD rfl (fun c3=>?_) (fun c3=>?_))))
 ·have c3k:=c3
  try simp only [aC,aI,aD] at c3
  refine .seq (bD rfl rfl (aS rfl rfl (aS rfl rfl (.nc (.ret (aP Tryz.results101 (.tmp rfl (.tmp rfl .nil)) ?_))))))
  exact ⟨⟨none,0⟩,[],100,aH2 hN17 hN19 ⟨rfl,by omega⟩ (by rw [hE,show m=0 by omega]; rfl) hB49 c3,rfl,rfl,SlR.nul⟩
 have c3k:=c3
 try simp only [aC,aI,aD] at c3
 refine .skip (.code (.seq (eH rfl rfl (mV rfl rfl (aS rfl rfl (aS rfl rfl (.nc (.ret (aP Tryz.results101 (.tmp rfl (.tmp rfl .nil)) ?_)))))))))
 exact ⟨hRL,acc,0,aH3 hN17 hN19 ⟨rfl,by omega⟩ (by rw [hE,show m=0 by omega]; rfl) hB49 c3.1 c3.2,rfl,rfl,hsRL⟩
end Go.Proofs.YtbdnclpopappeaaGreatDoor
namespace Go.Tan
section
variable {α:Type} {lt:α→α→Bool}
end
theorem aGe {α:Type} {enc:α→List Value} {sz:Nat}:∀ {xs:List α} {q:Nat},(∀ y∈xs,(enc y).length=sz)→(xs.take q).flatMap enc=(xs.flatMap enc).take (q*sz)
 | [],q,_=>by simp
 | x :: xs,0,_=>by simp
 | x :: xs,q+1,h=>by
  have hx:=h x (List.mem_cons_self ..)
  rw [List.take_succ_cons,List.flatMap_cons,List.flatMap_cons,show (q+1)*sz=(enc x).length+q*sz by rw [hx,Nat.succ_mul]; omega,List.take_length_add_append,aGe (fun y hy=>h y (List.mem_cons_of_mem _ hy))]
section
variable {dr:Bool} {mc:Md} {P:Program} {n:Fm} {l:List Oper} {K:aK→PM→aG→Prop} {i:Nat} {σ:List Nat} {ρ:aK} {G:PM} {μ:aG}
variable {d t:Nat} {p:String} {af:Array Edge} {g:Option (Nat×Bool)} {c:Bool}
theorem sr1 {T T':TypeId} {x y:Operand} {k k':IntKind} {a1 a2:Int} (A:Nat) (ho:nth l i=some ⟨some d,.binOp .shr T x y T',t,p,af,g⟩) (hg:Gd l ρ g c) (hx:Ev ρ c x (.int k a1)) (hy:Ev ρ c y (.int k' a2)) (e1:a1=A) (e2:a2=1) (hk:1≤k.bits)
  (h:Wo dr mc P n l K σ ((d,c,.int k ((A / 2:Nat):Int)) :: ρ) G μ):Wo dr mc P n l K (i :: σ) ρ G μ:=by
 subst e1; subst e2
 refine sr ho hg hx hy (fun _=>by decide) ?_
 have e:(A:Int).fdiv (2^(min (1:Int).toNat k.bits))=((A / 2:Nat):Int):=by
  have:min (1:Int).toNat k.bits=1:=by show min 1 k.bits=1; omega
  rw [this,Int.pow_one,Int.fdiv_eq_ediv_of_nonneg _ (by decide)]
  rfl
 rw [e]; exact h
theorem srh {T e sz by':Nat} {x z:Operand} {b m cap:Nat} {k:IntKind} {hi:Int} (q:Nat) (ho:nth l i=some ⟨some d,.slice T x none (some z) none,t,p,af,none⟩) (hT:cG P T=some (e,sz,by')) (hx:Ev ρ true x (.slice (some ⟨b,0,none⟩) m cap)) (hz:Ev ρ true z (.int k hi))
  (hq:hi=q) (h1:q≤cap) (h:Wo dr mc P n l K σ ((d,true,.slice (some ⟨b,0,none⟩) q cap) :: ρ) G μ):Wo dr mc P n l K (i :: σ) ρ G μ:=by
 subst hq
 exact se (s:=⟨some ⟨b,0,none⟩,cap⟩) (m:=m) ho .no hT hx hz (by omega) (fun _=>by show (q:Int)≤cap; omega) (by rw [Int.toNat_natCast]; exact h)
theorem clT {α:Type} {enc:α→List Value} {T E sz by' b cap k cp:Nat} {x:Operand} {z:Value} {xs:List α} {μ':aG} {dd:Option Nat} (ho:nth l i=some ⟨dd,.call { callee:=.builtin .clear,args:=#[x],argTypes:=#[T] },t,p,af,none⟩) (hT:cG P T=some (E,sz,by')) (hz:(P.info? E).bind (·.zero)=some z) (hzs:z.cells.size=sz) (hz1:∀ u∈z.cells,u.oneCell'=true)
  (hx:Ev ρ true x (.slice (some ⟨b,xs.length*sz,none⟩) k cp)) (hm:MTake μ (rS sz enc (.slice (some ⟨b,0,none⟩) xs.length cap) E xs) μ') (h0:0<k) (hk:xs.length+k≤cap) (hsz:∀ y∈xs,(enc y).length=sz)
  (h:Wo dr mc P n l K σ (cQ ρ dd true (.tuple #[])) G (rS sz enc (.slice (some ⟨b,0,none⟩) xs.length cap) E xs :: μ')):Wo dr mc P n l K (i :: σ) ρ G μ:=by
 refine .act (μ₁:=[rS sz enc (.slice (some ⟨b,0,none⟩) xs.length cap) E xs]) (μ₂:=μ') (post:=fun G' μ' v'=>G'=G∧v'=.tuple #[]∧μ'=[rS sz enc (.slice (some ⟨b,0,none⟩) xs.length cap) E xs]) ho (.inl rfl) .no hm.perm (fun a w ha hs=>.inl ?_) ?_
 ·have hs':=hs.left
  have hrow:w.ownsRow 0 E sz (.slice (some ⟨b,0,none⟩) xs.length cap) xs.length (xs.flatMap enc):=hs'.own _ (List.mem_singleton.2 rfl)
  have hfl:=vX hsz
  obtain ⟨hu,inf,hi,rfl,rfl⟩:=gX hT
  rw [hi] at hz
  simp only [Option.bind_some] at hz
  rcases hrow.2 with ⟨e,_⟩ | ⟨g,cap',cur,e,_,hg,hnc,hcm,hcs,htake⟩
  ·cases e
  simp only [Value.slice.injEq,Option.some.injEq,Addr.mk.injEq,and_true,true_and] at e
  obtain ⟨rfl,rfl⟩:=e
  have hsat:Sat G [.blk b (.cells cur E (0,0))] w:=⟨hs'.sub,fun r hr=>by rw [List.mem_singleton.1 hr]; exact hg,fun c hc=>hs'.apart c (by simpa [keys,Res.keys,Value.ownBlock] using hc),by simp [keys,Res.keys]⟩
  have hzl:(Builtin.zeroCells z.cells k).toList.length=k*inf.size:=by rw [Array.length_toList,size_zeroCells,hzs]
  have hin:xs.length*inf.size+k*inf.size≤cap*inf.size:=by rw [← Nat.add_mul]; exact Nat.mul_le_mul_right _ hk
  have hz2:∀ u∈(Builtin.zeroCells z.cells k).toList,u.oneCell'=true:=by
   intro u hu
   rw [Array.mem_toList_iff] at hu
   unfold Builtin.zeroCells at hu
   obtain ⟨j,hj,rfl⟩:=Array.mem_map.1 hu
   have hjs:j%z.cells.size<z.cells.size:=Nat.mod_lt _ (by
    rcases Nat.eq_zero_or_pos z.cells.size with h0' | h0'
    ·rw [h0'] at hj; simp at hj
    exact h0')
   have:z.cells[j%z.cells.size]! = z.cells[j%z.cells.size]:=by simp [hjs]
   rw [this]
   exact hz1 _ (Array.getElem_mem hjs)
  have hst:=run_storeCells_at P b (xs.length*inf.size) E (Builtin.zeroCells z.cells k).toList 0 cur w hg (by rw [Nat.add_zero,hzl]; omega) hz2
  simp only [Nat.add_zero] at hst
  refine ⟨.tuple #[],w.setRow b (cur.toList.take (xs.length*inf.size)++(Builtin.zeroCells z.cells k).toList++cur.toList.drop (xs.length*inf.size+(Builtin.zeroCells z.cells k).toList.length)).toArray,G,_,.inl (by
   have hk0:k≠0:=by omega
   simp [execOp,resolve,invoke,builtin,hx.eval ha rfl,Builtin.clear_,run_underlying hu,zeroValue,typeInfo,hi,hz,hst]),?_,rfl,rfl,rfl⟩
  have hkk:keys [rS inf.size enc (.slice (some ⟨b,0,none⟩) xs.length cap) E xs]=[b]:=by simp [keys,Res.keys,Value.ownBlock]
  rw [hkk]
  have h2:=xY (cs':=(cur.toList.take (xs.length*inf.size)++(Builtin.zeroCells z.cells k).toList++cur.toList.drop (xs.length*inf.size+(Builtin.zeroCells z.cells k).toList.length)).toArray) hsat
  have hcl:cur.toList.length=cur.size:=Array.length_toList ..
  refine h2.asRow (m:=xs.length) (cap:=cap) (sz:=inf.size) hfl (by omega) hcm ?_ ?_
  ·simp only [List.size_toArray,zH,hcl,hzl]
   omega
  rw [List.append_assoc,List.take_append_of_le_length (by rw [List.length_take,hcl]; omega),List.take_take,Nat.min_self,htake]
 rintro v' G' μ'' _ ⟨rfl,rfl,rfl⟩
 exact h
end
theorem aEV {α:Type} {enc:α→List Value} {sz:Nat} {P:Program} {G:PM} {μ:aG} {f:FuncId} {args:Array Value} {E:Nat} {v:Value} {xs:List α} {Q:aG→Value→Prop} (hsz:∀ x∈xs,(enc x).length=sz)
  (h:∀ (s:Sh) (G2:PM),PM.le G G2→v=s.val xs.length→SlR G2 sz enc s xs→Ct P f args G2 μ (fun _ μ' u=>Q μ' u)):Ct P f args G (rS sz enc v E xs :: μ) (fun _ μ' u=>∃ ν,μ'=rS sz enc v E xs :: ν∧Q ν u):=by
 intro w hs
 have hrow:w.ownsRow 0 E sz v xs.length (xs.flatMap enc):=hs.own _ (List.mem_cons_self ..)
 have hnd:=hs.nodup
 rcases hrow.2 with ⟨rfl,h0⟩ | ⟨g,cap,cur,rfl,_,hg,hnc,hcm,hcs,htake⟩
 ·have hx:xs=[]:=List.eq_nil_of_length_eq_zero h0
  subst hx
  have hk:keys (rS sz enc (.slice none 0 0) E ([]:List α) :: μ)=keys μ:=by simp [keys,Res.keys,Value.ownBlock]
  have hs2:Sat G μ w:=⟨hs.sub,fun r hr=>hs.own r (List.mem_cons_of_mem _ hr),by rw [← hk]; exact hs.apart,by rw [← hk]; exact hs.nodup⟩
  refine (h ⟨none,0⟩ G (PM.le.refl G) rfl SlR.nul w hs2).mono ?_
  rintro e w' ⟨u,G',μ',rfl,ht,hQ⟩
  refine ⟨u,G',_,rfl,?_,μ',rfl,hQ⟩
  rw [hk]; exact ht.nilRow
 have hk:keys (rS sz enc (.slice (some ⟨g,0,none⟩) xs.length cap) E xs :: μ)=keys (.blk g (.cells cur E (0,0)) :: μ):=by simp [keys,Res.keys,Value.ownBlock]
 have hs2:Sat G (.blk g (.cells cur E (0,0)) :: μ) w:=by
  refine ⟨hs.sub,fun r hr=>?_,by rw [← hk]; exact hs.apart,by rw [← hk]; exact hs.nodup⟩
  rcases List.mem_cons.1 hr with rfl | hr
  ·exact hg
  exact hs.own r (List.mem_cons_of_mem _ hr)
 have hGg:G g=none:=hs2.apart g (by simp [keys,Res.keys])
 have hsl:SlR (G.add g (.cells cur E (0,0))) sz enc ⟨some ⟨g,0,none⟩,cap⟩ xs:=by
  refine SlR.ofRow hsz hnc (fun _=>rfl) ?_
  intro j u hj w' hs'
  show w'.cell? ⟨g,0+j,none⟩=some u
  rw [Nat.zero_add,cell_of_row w' g j cur E (0,0) (hs' g _ (iF G g _))]
  rw [← htake,List.getElem?_take] at hj
  split at hj
  ·simpa using hj
  cases hj
 refine (aBw (h ⟨some ⟨g,0,none⟩,cap⟩ _ (sC hGg) rfl hsl) w hs2).mono ?_
 rintro e w' ⟨u,G',μ',rfl,ht,ν,rfl,hQ⟩
 refine ⟨u,G',_,rfl,?_,ν,rfl,hQ⟩
 rw [hk]
 exact ht.asRow (vX hsz) hnc hcm hcs htake
section
variable {α:Type}
theorem uH {l:List α} {k:Nat} {z:α} (h:k<l.length):l[k]? = some (l.getD k z):=by simp [h]
end
abbrev TM:=Meta×Nat
def ms (T:List TM):List Meta:=T.map (·.1)
section
variable {lt:Meta→Meta→Bool}
end
section
variable {cv:Meta→Meta→Int} {P A B R:List TM}
end
section
variable {lt:Meta→Meta→Bool} {bs:Nat} {T O:List TM}
end
structure Mn where
 st:State
 mark:BitVec 64
 n:Nat
section
variable {m:Mn} {p:List Y} {e:Edit} {x:State}
end
theorem Tr.cutRow {G0 G:PM} {K0:List Nat} {w0 w:World} {μ:aG} {b E sz m cap q:Nat} {xs:List Value} (h:Tr G0 K0 w0 G (.row (.slice (some ⟨b,0,none⟩) m cap) E sz m xs :: μ) w) (hq:q≤m) :
  Tr G0 K0 w0 G (.row (.slice (some ⟨b,0,none⟩) q cap) E sz q (xs.take (q*sz)) :: μ) w:=by
 have hk:keys (.row (.slice (some ⟨b,0,none⟩) q cap) E sz q (xs.take (q*sz)) :: μ)=keys (.row (.slice (some ⟨b,0,none⟩) m cap) E sz m xs :: μ):=by simp [keys,Res.keys,Value.ownBlock]
 have hrow:w.ownsRow 0 E sz (.slice (some ⟨b,0,none⟩) m cap) m xs:=h.sat.own _ (List.mem_cons_self ..)
 refine { h with sat:=⟨h.sat.sub,fun r hr=>?_,by rw [hk]; exact h.sat.apart,by rw [hk]; exact h.sat.nodup⟩,mine:=by rw [hk]; exact h.mine }
 rcases List.mem_cons.1 hr with rfl | hr
 ·have hl:=hrow.1
  have hqs:q*sz≤m*sz:=Nat.mul_le_mul_right _ hq
  rcases hrow.2 with ⟨e,_⟩ | ⟨g,cap',cur,e,h0,hg,hnc,hcm,hcs,htake⟩
  ·cases e
  simp only [Value.slice.injEq,Option.some.injEq,Addr.mk.injEq,and_true,true_and] at e
  obtain ⟨rfl,rfl⟩:=e
  refine ⟨by rw [List.length_take,hl,Nat.min_eq_left hqs],.inr ⟨b,cap,cur,rfl,h0,hg,by omega,hcm,hcs,?_⟩⟩
  rw [← htake,List.take_take,Nat.min_eq_left hqs]
 exact h.sat.own r (List.mem_cons_of_mem _ hr)
theorem aJj {α:Type} {enc:α→List Value} {sz:Nat} {X:Cx} {cd:Code} {k:List KI} {ρ:aK} {G:PM} {μ μ':aG} {b cap E:Nat} {xs:List α} (A B:List α) (hsz:∀ x∈xs,(enc x).length=sz) (hm:MTake μ (rS sz enc (.slice (some ⟨b,0,none⟩) xs.length cap) E xs) μ') (e:xs=A++B)
  (h:Wk X cd k ρ G (rS sz enc (.slice (some ⟨b,0,none⟩) A.length cap) E A :: μ')):Wk X cd k ρ G μ :=
 ⟨fun a w ha ht=>h.out a w ha (by
  subst e
  have:=(ht.perm hm.perm).cutRow (q:=A.length) (by rw [List.length_append]; omega)
  rw [← aGe hsz,List.take_left] at this
  exact this)⟩
section
variable {dr:Bool} {mc:Md} {P:Program} {n:Fm} {l:List Oper} {K:aK→PM→aG→Prop} {i:Nat} {σ:List Nat} {ρ:aK} {G:PM} {μ:aG}
variable {d t:Nat} {p:String} {af:Array Edge} {g:Option (Nat×Bool)} {c:Bool}
theorem aLe (A:Nat):BitVec.ofNat 64 A &&& BitVec.ofNat 64 1=BitVec.ofNat 64 (A%2):=by
 apply BitVec.eq_of_toNat_eq
 rw [BitVec.toNat_and,BitVec.toNat_ofNat,BitVec.toNat_ofNat,BitVec.toNat_ofNat,show 1%2^64=1 from rfl,Nat.and_one_is_mod]
 omega
theorem an1 {T T':TypeId} {x y:Operand} {a1 a2:Int} (A:Nat) (ho:nth l i=some ⟨some d,.binOp .and T x y T',t,p,af,g⟩) (hg:Gd l ρ g c) (hx:Ev ρ c x (.int .i64 a1)) (hy:Ev ρ c y (.int .i64 a2)) (e1:a1=A) (e2:a2=1)
  (h:Wo dr mc P n l K σ ((d,c,.int .i64 ((A%2:Nat):Int)) :: ρ) G μ):Wo dr mc P n l K (i :: σ) ρ G μ :=
 .pure ho (.inl rfl) hg (fun hc q w ha=>by
  subst e1; subst e2
  have hb:(binOp .and T (.int .i64 (A:Int)) (.int .i64 1)).run P w=.ok (.int .i64 ((A%2:Nat):Int)) w:=by
   have e1:BitVec.ofInt 64 (A:Int)=BitVec.ofNat 64 A:=by simp
   have e2:BitVec.ofInt 64 (1:Int)=BitVec.ofNat 64 1:=rfl
   have h4:IntKind.i64.wrap ((BitVec.ofNat 64 (A%2)).toNat:Int)=((A%2:Nat):Int):=by
    rw [BitVec.toNat_ofNat,Nat.mod_eq_of_lt (by omega)]
    exact cB (by omega) (by omega)
   have h5:(Op.intBits .and .i64 (A:Int) 1)=pure (.int .i64 (IntKind.i64.wrap ((BitVec.ofInt 64 (A:Int) &&& BitVec.ofInt 64 (1:Int)).toNat:Int))):=rfl
   have h6:binOp .and T (.int .i64 (A:Int)) (.int .i64 1)=Op.intBits .and .i64 (A:Int) 1:=rfl
   rw [h6,h5,e1,e2,aLe,h4]; rfl
  simp only [execOp,hx.eval ha hc,hy.eval ha hc,Sem.run_bind,lF,Result.andThen_ok,hb]; rfl) h
end
def eJ (S:List (Nat×Dg)):List Dg:=(S.map (·.2)).reverse
theorem wX (a:Nat) (r:Dg) (S:List (Nat×Dg)):eJ ((a,r) :: S)=eJ S++[r]:=by simp [eJ]
theorem sY (S:List (Nat×Dg)):(eJ S).length=S.length:=by simp [eJ]
def zD:Dg:=fun _=>0#8
theorem aD9 (a:Nat) (r:Dg) (S:List (Nat×Dg)):(eJ ((a,r) :: S)).getD S.length zD=r:=by
 rw [wX,List.getD_eq_getElem?_getD,List.getElem?_append_right (by rw [sY]; omega),sY,Nat.sub_self]; rfl
def pZ (d:Dg) (L:List Dg):Nat→Dg
 | 0=>d
 | j+1=>pZ (mT (L.getD j zD) d) L j
theorem aCz:∀ (j:Nat) (d x:Dg) (L:List Dg),j≤L.length→pZ d (L++[x]) j=pZ d L j
 | 0,_,_,_,_=>rfl
 | j+1,d,x,L,h=>by
  have e:(L++[x]).getD j zD=L.getD j zD:=by rw [List.getD_eq_getElem?_getD,List.getElem?_append_left (by omega),←List.getD_eq_getElem?_getD]
  simp only [pZ,e]; exact aCz j _ x L (by omega)
theorem aNE {j:Nat} {d:Dg} {L:List Dg} (h:0<j):pZ d L j=pZ (mT (L.getD (j-1) zD) d) L (j-1):=by
 obtain ⟨i,rfl⟩ : ∃ i,j=i+1:=⟨j-1,by omega⟩
 rfl
theorem aRF {S S3:List (Nat×Dg)} {a:Nat} {s:Dg} (h:S=(a,s) :: S3):(eJ S).getD ((eJ S).length-1) zD=s:=by
 subst h; rw [sY]; exact aD9 a s S3
theorem aGY:∀ (S:List (Nat×Dg)) (d:Dg),pZ d (eJ S) S.length=finD d S
 | [],d=>rfl
 | (a,r) :: S,d=>by
  simp only [List.length_cons,pZ,finD,aD9]
  rw [wX,aCz _ _ _ _ (by rw [sY]; exact Nat.le_refl _),aGY S]
theorem aRE {S:List (Nat×Dg)} {L:List Dg} (h:Stk S L) (h0:0<L.length):0<(eJ S).length∧dJ L=pZ ((eJ S).getD ((eJ S).length-1) zD) (eJ S) ((eJ S).length-1):=by
 rw [sY]
 match S,h with
 | [],h=>cases h; cases h0
 | (a,r) :: S,h =>
  refine ⟨Nat.succ_pos _,?_⟩
  rw [h.done,←aGY S r]
  have e:((a,r) :: S).length-1=S.length:=rfl
  rw [e,aD9,wX,aCz _ _ _ _ (by rw [sY]; exact Nat.le_refl _)]
theorem aOt {S:List (Nat×Dg)} {d:Dg} {a q:Nat} {l:List Dg} (h:Pend S d a l) (eq:q=l.length / 2^a) (he:q%2=0):∃ s S',S=(a,s) :: S'∧Pend S' (mT s d) (a+1) l∧q / 2=l.length / 2^(a+1):=by
 subst eq; exact h.even he
theorem aOv {S:List (Nat×Dg)} {d:Dg} {a q:Nat} {l:List Dg} (h:Pend S d a l) (eq:q=l.length / 2^a) (he:¬ q%2=0):Stk ((a,d) :: S) l:=by
 subst eq; exact h.odd (by omega)
theorem aOw {S:List (Nat×Dg)} {d:Dg} {a q:Nat} {l:List Dg} (h:Pend S d a l) (eq:q=l.length / 2^a):0<q:=by
 obtain ⟨L,seg,hS,hl,hr,he',hb⟩:=h.out
 subst eq
 exact Nat.div_pos (by rw [← he',List.length_append,hl]; omega) (Nat.pow_pos (by decide))
theorem aOu {S:List (Nat×Dg)} {d:Dg} {a:Nat} {l:List Dg} (h:Pend S d a l):S.length≤l.length:=by
 obtain ⟨L,seg,hS,hl,hr,he',hb⟩:=h.out
 have:=hS.short
 rw [← he',List.length_append]; omega
end Go.Tan
namespace Go.Proofs.YtbdnclpopappeaaGreatDoor
open Go.Tan Go.RowKit
theorem aNw {G:PM} {b7 b9 T7 T9:Nat} {kind:Y} {h:Sh} {p:List Y} (hle:PM.le G ((G.add b7 (cl [V kind] T7)).add b9 (cl [.slice (some ⟨b7,0,none⟩) 1 1,h.val p.length] T9))) (hq:PM.le (G.add b7 (cl [V kind] T7)) ((G.add b7 (cl [V kind] T7)).add b9 (cl [.slice (some ⟨b7,0,none⟩) 1 1,h.val p.length] T9))) (hs:SlR G 1 aL h p) (hK:RdNP G 1 0 (wa 64 kW)) (hl:p.length≤100000000000000) :
  Ct Tryz.prog 76 ([.slice (some ⟨b9,0,none⟩) 2 2]:List Value).toArray ((G.add b7 (cl [V kind] T7)).add b9 (cl [.slice (some ⟨b7,0,none⟩) 1 1,h.val p.length] T9)) [] (fun _ μ' u=>μ'=[]∧u=.agg (ba 32 (gN (kind :: p))).toArray):=by
 have h1:SlR (G.add b7 (cl [V kind] T7)) 1 aL ⟨some ⟨b7,0,none⟩,1⟩ [kind]:=nD (T:=T7) (iF _ _ _) (fun _ _=>rfl) (by simp)
 have hP:SlP ((G.add b7 (cl [V kind] T7)).add b9 (cl [.slice (some ⟨b7,0,none⟩) 1 1,h.val p.length] T9)) ⟨some ⟨b9,0,none⟩,2⟩ [(⟨some ⟨b7,0,none⟩,1⟩,[kind]),(h,p)] :=
  ⟨nD (T:=T9) (iF _ _ _) (fun _ _=>rfl) (by simp),fun q hq'=>by
   rcases List.mem_cons.1 hq' with rfl | hq'
   ·exact h1.mono hq
   ·rw [List.mem_singleton.1 hq']; exact hs.mono hle⟩
 have hh:=zT _ ⟨some ⟨b9,0,none⟩,2⟩ _ hP (hK.mono hle) (by simp [cN]; omega) (by simp)
 rw [show cN [((⟨some ⟨b7,0,none⟩,1⟩ : Sh),[kind]),(h,p)]=kind :: p by simp [cN]] at hh
 exact hh
theorem aMx {G:PM} {b7 b9 T7 T9:Nat} {kind:Y} (hle:PM.le G ((G.add b7 (cl [V kind] T7)).add b9 (cl [.slice (some ⟨b7,0,none⟩) 1 1] T9))) (hq:PM.le (G.add b7 (cl [V kind] T7)) ((G.add b7 (cl [V kind] T7)).add b9 (cl [.slice (some ⟨b7,0,none⟩) 1 1] T9))) (hK:RdNP G 1 0 (wa 64 kW)) :
  Ct Tryz.prog 76 ([.slice (some ⟨b9,0,none⟩) 1 1]:List Value).toArray ((G.add b7 (cl [V kind] T7)).add b9 (cl [.slice (some ⟨b7,0,none⟩) 1 1] T9)) [] (fun _ μ' u=>μ'=[]∧u=.agg (ba 32 (gN [kind])).toArray):=by
 have h1:SlR (G.add b7 (cl [V kind] T7)) 1 aL ⟨some ⟨b7,0,none⟩,1⟩ [kind]:=nD (T:=T7) (iF _ _ _) (fun _ _=>rfl) (by simp)
 have hP:SlP ((G.add b7 (cl [V kind] T7)).add b9 (cl [.slice (some ⟨b7,0,none⟩) 1 1] T9)) ⟨some ⟨b9,0,none⟩,1⟩ [(⟨some ⟨b7,0,none⟩,1⟩,[kind])] :=
  ⟨nD (T:=T9) (iF _ _ _) (fun _ _=>rfl) (by simp),fun q hq'=>by rw [List.mem_singleton.1 hq']; exact h1.mono hq⟩
 have hh:=zT _ ⟨some ⟨b9,0,none⟩,1⟩ _ hP (hK.mono hle) (by simp [cN]) (by simp)
 rw [show cN [((⟨some ⟨b7,0,none⟩,1⟩ : Sh),[kind])]=[kind] by simp [cN]] at hh
 exact hh
theorem aNk {G G2 G3 G5:PM} {b2 b3 b5 b8 T2 T3 T5 T8:Nat} {a b:Nat→Y} (e2:G2=G.add b2 (cl (ba 32 a) T2)) (e3:G3=G2.add b3 (cl (ba 32 b) T3)) (e5:G5=G3.add b5 (cl [V 1#8] T5))
  (hle:PM.le G (G5.add b8 (cl [.slice (some ⟨b5,0,none⟩) 1 1,.slice (some ⟨b2,0,none⟩) 32 32,.slice (some ⟨b3,0,none⟩) 32 32] T8))) (hq:PM.le G5 (G5.add b8 (cl [.slice (some ⟨b5,0,none⟩) 1 1,.slice (some ⟨b2,0,none⟩) 32 32,.slice (some ⟨b3,0,none⟩) 32 32] T8))∧PM.le G3 G5∧PM.le G2 G3∧PM.le G G2∧True) (hK:RdNP G 1 0 (wa 64 kW)) :
  Ct Tryz.prog 76 ([.slice (some ⟨b8,0,none⟩) 3 3]:List Value).toArray (G5.add b8 (cl [.slice (some ⟨b5,0,none⟩) 1 1,.slice (some ⟨b2,0,none⟩) 32 32,.slice (some ⟨b3,0,none⟩) 32 32] T8)) [] (fun _ μ' u=>μ'=[]∧u=.agg (ba 32 (mT a b)).toArray):=by
 have h1:SlR G5 1 aL ⟨some ⟨b5,0,none⟩,1⟩ [1#8]:=by rw [e5]; exact nD (T:=T5) (iF _ _ _) (fun _ _=>rfl) (by simp)
 have h2:SlR G2 1 aL ⟨some ⟨b2,0,none⟩,32⟩ (yl 32 a):=by rw [e2]; exact aCQ
 have h3:SlR G3 1 aL ⟨some ⟨b3,0,none⟩,32⟩ (yl 32 b):=by rw [e3]; exact aCQ
 have l1:=bB 32 a
 have l2:=bB 32 b
 have hP:SlP (G5.add b8 (cl [.slice (some ⟨b5,0,none⟩) 1 1,.slice (some ⟨b2,0,none⟩) 32 32,.slice (some ⟨b3,0,none⟩) 32 32] T8)) ⟨some ⟨b8,0,none⟩,3⟩ [(⟨some ⟨b5,0,none⟩,1⟩,[1#8]),(⟨some ⟨b2,0,none⟩,32⟩,yl 32 a),(⟨some ⟨b3,0,none⟩,32⟩,yl 32 b)] :=
  ⟨nD (T:=T8) (by simp [uD,l1,l2,Sh.val]; exact iF _ _ _) (fun _ _=>rfl) (by simp),fun q hq'=>by
   simp only [List.mem_cons,List.not_mem_nil,or_false] at hq'
   rcases hq' with rfl|rfl|rfl
   ·exact h1.mono hq.1
   ·exact h2.mono (hq.2.2.1.trans (hq.2.1.trans hq.1))
   ·exact h3.mono (hq.2.1.trans hq.1)⟩
 have hh:=zT _ ⟨some ⟨b8,0,none⟩,3⟩ _ hP (hK.mono hle) (by simp [cN,l1,l2]) (by simp)
 rw [show cN [((⟨some ⟨b5,0,none⟩,1⟩ : Sh),[1#8]),(⟨some ⟨b2,0,none⟩,32⟩,yl 32 a),(⟨some ⟨b3,0,none⟩,32⟩,yl 32 b)]=1#8 :: (yl 32 a++yl 32 b) by simp [cN]] at hh
 exact hh
theorem wJ (p:List Y) (h:Sh) (G:PM) (hs:SlR G 1 aL h p) (hK:RdNP G 1 0 (wa 64 kW)) (hl:p.length≤100000000000000):Ct Tryz.prog 74 ([h.val p.length]:List Value).toArray G [] (fun _ μ' u=>μ'=[]∧u=.agg (ba 32 (dH p)).toArray):=by
 refine Ct.of Tryz.func74 rfl Tryz.ntmps74 rfl fun w0 hs0=>?_
 refine .seq (aM rfl rfl ?_)
 refine al rfl fT ?_; intro b2
 refine .nil (.code (.seq (oK rfl rfl ?_)))
 refine Go.Tan.b1 rfl aH aY (.u rfl) rfl rfl (by decide) ?_; intro b3
 refine mV rfl rfl ?_
 refine Go.Tan.bN rfl gP jM (Evp.cons (.u rfl) (Evp.cons (.u rfl) Evp.nil)) rfl (by decide) (by simp [Value.oneCell',Sh.val]) ?_; intro b5
 refine kp rfl .no aAS (aB rfl aE) (Gp.add .here (Gp.add .here Gp.nil)) (fun _ hle hq=>aNw (kind:=0#8) hle hq.1 hs hK hl) ?_
 refine sW rfl rfl rfl rfl fH aT ?_
 refine .nil (.code (.ret (aP Tryz.results74 (.cell rfl (fun w hw=>bW cH (RdN.own .here) ((by first|exact qE|exact qL|rfl)) hw) .nil) ?_)))
 exact ⟨rfl,rfl⟩
theorem aG0 (a b:Dg) (G:PM) (hK:RdNP G 1 0 (wa 64 kW)):Ct Tryz.prog 77 ([.agg (ba 32 a).toArray,.agg (ba 32 b).toArray]:List Value).toArray G [] (fun _ μ' u=>μ'=[]∧u=.agg (ba 32 (mT a b)).toArray):=by
 refine Ct.of Tryz.func77 rfl Tryz.ntmps77 rfl fun w0 hs0=>?_
 refine .seq (eH rfl rfl ?_)
 refine bX rfl rfl rfl ?_; intro b2
 refine bX rfl rfl rfl ?_; intro b3
 refine al rfl fT ?_; intro b4
 refine .g (bG (mc:=⟨false,false⟩) [1,2,0,3,4,5] aV (by kernel_rfl) ?_)
 refine lY rfl .no gB (.u rfl) (lY rfl .no gB (.u rfl) ?_)
 refine Go.Tan.b1 rfl aH aY (.u rfl) rfl rfl (by decide) ?_; intro b5
 refine Go.Tan.bN rfl gP jM (Evp.cons (.u rfl) (Evp.cons (.u rfl) (Evp.cons (.u rfl) Evp.nil))) rfl (by decide) (by simp [Value.oneCell',Sh.val]) ?_; intro b8
 refine kp rfl .no aAS (aB rfl aE) (Gp.add .here (Gp.add .here (Gp.add aF (Gp.add aF Gp.nil)))) (fun _ hle hq=>aNk rfl rfl rfl hle hq hK) ?_
 refine sW rfl rfl rfl rfl fH aT ?_
 refine .nil (.code (.ret (aP Tryz.results77 (.cell rfl (fun w hw=>bW cH (RdN.own .here) ((by first|exact qE|exact qL|rfl)) hw) .nil) ?_)))
 exact ⟨rfl,rfl⟩
theorem dM:cG Tryz.prog 68=some (23,32,32):=by kernel_rfl
theorem fJ:(Tryz.prog.info? 23).bind (·.zero)=some (.agg (ba 32 (fun _=>0#8)).toArray):=by kernel_rfl
theorem rY:(Tryz.prog.info? 9).bind (·.zero)=some (.string ByteArray.empty):=by kernel_rfl
theorem aSn:cK Tryz.prog 70 0=some 0:=by kernel_rfl
theorem aSo:cK Tryz.prog 70 1=some 64:=by kernel_rfl
theorem aE1:aQ Tryz.prog 73=true:=by kernel_rfl
theorem aTW:aQ Tryz.prog 72=true:=by kernel_rfl
theorem xN:aQ Tryz.prog 74=true:=by kernel_rfl
theorem vD:cK Tryz.prog 70 2=some 65:=by kernel_rfl
theorem aEn:cK Tryz.prog 70 3=some 66:=by kernel_rfl
theorem pN:dT Tryz.prog 68=some none:=by kernel_rfl
theorem vI:dG Tryz.prog 68=some 1:=by kernel_rfl
theorem aMe (L:List ByteArray) (v:Value) (G:PM) (hl:L.length≤1000000):Ct Tryz.prog 33 ([v]:List Value).toArray G [rS 1 kC v 9 L] (fun _ μ' u=>∃ v',μ'=[rS 1 kC v' 9 (gQ L)]∧u=v'):=by
 refine Ct.of Tryz.func33 rfl Tryz.ntmps33 rfl fun w0 hs0=>?_
 refine .g (lr rfl .no vG (.u rfl) .here ?_)
 refine cP rfl rfl rfl rfl (.g (cD rfl (fun c1=>?_) (fun c1=>?_)))
 ·have c1k:=c1
  try simp only [aC,aD] at c1
  refine .seq (bD rfl rfl (mV rfl rfl (aS rfl rfl (.nc (.ret (We.fin Tryz.results33 (.tmp rfl .nil) (mS .here rfl mN) ?_))))))
  exact ⟨_,by rw [aMb (by omega)]; rfl,rfl⟩
 have c1k:=c1
 try simp only [aC,aD] at c1
 refine .skip (.code (.seq (.seq ?_)))
 refine xA .here (by omega) ?_; intro bbR capR evR lcR; subst evR
 refine aM rfl rfl (aS rfl rfl (.nc (.block ?_)))
 refine bE (α:=Nat) (fun k=>[(3,true,.int .i64 (k:Int))]) (fun _=>[])
  (fun k Gl=>(1≤k∧k≤L.length)∧(∀ j,1≤j→j<k→¬ L.getD j eQ=L.getD (j-1) eQ)) (fun k=>L.length-k) 1 [(0,true,_)] [_]
  (aO rfl (aA rfl eZ))
  (mS .here rfl mN) ?_ ?_
 ·refine ⟨?_,?_⟩
  ·(try dsimp only)<;>(first|omega|rfl|assumption|(simp; done))
  (try dsimp only)<;>(exact fun j h1 h2=>absurd h1 (by omega))
 intro k N0 Gl0 hN0 hGl0 hF0
 try dsimp only at hF0 hN0 ⊢
 obtain ⟨hk,hj⟩:=hF0
 refine .g (lr rfl .no vG (.u rfl) .here ?_)
 refine cP rfl rfl rfl rfl (.g (cD rfl (fun c2=>?_) (fun c2=>?_)))
 ·have c2k:=c2
  try simp only [aC,aD] at c2
  refine .skip (.code (.seq (.block (.seq (dP ⟨false,false⟩ aV (by kernel_rfl) ?_)))))
  refine Wp.one 0 (by kernel_rfl) ?_
  refine mV rfl rfl (.nil (Wp.one 1 (by kernel_rfl) ?_))
  refine mV rfl rfl (.nil (Wp.one 2 (by kernel_rfl) ?_))
  refine ia rfl .no jG (.u rfl) (.u rfl) (by omega) (by omega) ?_
  refine .nil (Wp.one 3 (by kernel_rfl) ?_)
  refine lN rfl cE rfl (Rd.row .here (yS (k) (by omega) (by omega))) ?_
  refine .nil (Wp.one 4 (by kernel_rfl) ?_)
  refine mV rfl rfl (.nil (Wp.one 5 (by kernel_rfl) ?_))
  refine mV rfl rfl (.nil (Wp.one 6 (by kernel_rfl) ?_))
  refine aR rfl rfl rfl rfl ?_
  refine .nil (Wp.one 7 (by kernel_rfl) ?_)
  refine ia rfl .no jG (.u rfl) (.u rfl) (by omega) (by omega) ?_
  refine .nil (Wp.one 8 (by kernel_rfl) ?_)
  refine lN rfl cE rfl (Rd.row .here (yS (k-1) (by omega) (by omega))) ?_
  refine .nil (Wp.one 9 (by kernel_rfl) ?_)
  refine cs rfl .no (.u rfl) (.u rfl) rfl (.nil (Wp.last (by kernel_rfl) ?_))
  refine .code (cD rfl (fun c3=>?_) (fun c3=>?_))
  ·have c3k:=c3
   try simp only [aC,aD] at c3
   refine .g (slr k rfl jG (.u rfl) (.u rfl) (by omega) (by omega) (by omega) (by omega) ?_)
   refine aS rfl rfl (.nc (.seq (.seq (aM rfl rfl (aS rfl rfl (.nc (.block ?_)))))))
   refine bE (α:=Nat×Nat×List ByteArray) (fun gh=>[(3,true,.int .i64 (gh.2.1:Int)),(5,true,.int .i64 (gh.1:Int))]) (fun gh=>[rS 1 kC (.slice (some ⟨bbR,0,none⟩) gh.2.2.length capR) 9 gh.2.2])
    (fun gh Gl=>(CmR L gh.2.2 gh.2.1 (k+gh.1))∧(1≤gh.1)) (fun gh=>L.length-(k+gh.1)) (1,k,L) [(0,true,_),(4,true,_)] []
    (aO rfl (aO rfl (aA rfl (aA rfl eZ))))
    (mS .here rfl mN) ?_ ?_
   ·refine ⟨?_,?_⟩
    ·(try dsimp only)<;>(exact aJv hk.1 (by omega) hj (toList_inj c3k))
    (try dsimp only)<;>(first|omega|rfl|assumption|(simp; done))
   intro gh N1 Gl1 hN1 hGl1 hF1
   obtain ⟨q,c,M⟩:=gh; dsimp only at hF1 hN1 ⊢
   obtain ⟨hC,hq⟩:=hF1
   have hcj:=hC.cj; have hjl:=hC.jl; have hlen:=hC.len; have hc1:=hC.c1
   refine .g (lE rfl vG rfl (cP rfl rfl rfl rfl (.g (cD rfl (fun c4=>?_) (fun c4=>?_)))))
   ·have c4k:=c4
    try simp only [aC,aD] at c4
    refine .skip (.code (.seq (.block (.seq (dP ⟨false,false⟩ aV (by kernel_rfl) ?_)))))
    refine Wp.one 0 (by kernel_rfl) ?_
    refine mV rfl rfl (.nil (Wp.one 1 (by kernel_rfl) ?_))
    refine mV rfl rfl (.nil (Wp.one 2 (by kernel_rfl) ?_))
    refine ia rfl .no jG (.u rfl) (.u rfl) (by omega) (by omega) ?_
    refine .nil (Wp.one 3 (by kernel_rfl) ?_)
    refine lN rfl cE rfl (Rd.row .here (yS (k+q) (by omega) (by omega))) ?_
    refine .nil (Wp.one 4 (by kernel_rfl) ?_)
    refine mV rfl rfl (.nil (Wp.one 5 (by kernel_rfl) ?_))
    refine mV rfl rfl (.nil (Wp.one 6 (by kernel_rfl) ?_))
    refine aR rfl rfl rfl rfl ?_
    refine .nil (Wp.one 7 (by kernel_rfl) ?_)
    refine ia rfl .no jG (.u rfl) (.u rfl) (by omega) (by omega) ?_
    refine .nil (Wp.one 8 (by kernel_rfl) ?_)
    refine lN rfl cE rfl (Rd.row .here (yS (k+q-1) (by omega) (by omega))) ?_
    refine .nil (Wp.one 9 (by kernel_rfl) ?_)
    refine cs rfl .no (.u rfl) (.u rfl) rfl (.nil (Wp.last (by kernel_rfl) ?_))
    refine .code (cD rfl (fun c5=>?_) (fun c5=>?_))
    ·have c5k:=c5
     try simp only [aC,aD] at c5
     refine .g (ia rfl .no jG (.u rfl) (.u rfl) (by omega) (by omega) ?_)
     refine lN rfl cE rfl (Rd.row .here (yS (k+q) (by omega) (by omega))) ?_
     refine ia rfl .no jG (.u rfl) (.u rfl) (by omega) (by omega) ?_
     refine stS (k:=c) (u:=(M.getD (k+q) eQ)) rfl (.u rfl) (.u rfl) rfl pT .here (fun _ _=>rfl) (rfl) (mW rfl) (by omega) (by (try simp only [List.length_set]); omega) ?_
     refine .g (aW (((c+1):Nat):Int) rfl rfl rfl rfl ?_)
     refine .g (aW (((q+1):Nat):Int) rfl rfl rfl rfl ?_)
     refine .g (aZ (q+1,c+1,M.set c (M.getD (k+q) eQ)) ?_ ?_ ?_ ?_ ?_)
     ·exact (aO rfl (aO rfl (aA rfl (aA rfl eZ))))
     ·exact (mS .here (by rw [List.length_set]) mN)
     ·first|omega|(dsimp only; omega)
     ·exact hGl1
     refine ⟨?_,?_⟩
     ·(try dsimp only)<;>(exact hC.next (by omega) (aIx (by simpa using c5k)))
     (try dsimp only)<;>(first|omega|rfl|assumption|(simp; done))
    have c5k:=c5
    try simp only [aC,aD] at c5
    refine .g (aW (((q+1):Nat):Int) rfl rfl rfl rfl ?_)
    refine .g (aZ (q+1,c,M) ?_ ?_ ?_ ?_ ?_)
    ·exact (aO rfl (aO rfl (aA rfl (aA rfl eZ))))
    ·exact (mS .here rfl mN)
    ·first|omega|(dsimp only; omega)
    ·exact hGl1
    refine ⟨?_,?_⟩
    ·(try dsimp only)<;>(exact hC.same (by omega) (toList_inj (by simpa using c5k)))
    (try dsimp only)<;>(first|omega|rfl|assumption|(simp; done))
   have c4k:=c4
   try simp only [aC,aD] at c4
   refine .exit (.xcode (.xlp (.xblk (.code (.seq ?_)))))
   have lcc:(M.take c).length=c:=by rw [List.length_take]; omega
   refine aJj (M.take c) (M.drop c) (aCx _) .here (by rw [List.take_append_drop]) ?_
   refine .g (slr (M.take c).length rfl jG (.u rfl) (.u rfl) (by omega) (by omega) (by omega) (by omega) ?_)
   refine clT rfl jG rY rfl (by decide) (.u rfl) .here (by omega) (by omega) (fun _ _=>rfl) ?_
   refine .g (srh (M.take c).length rfl jG (.u rfl) (.u rfl) (by omega) (by omega) ?_)
   refine aS rfl rfl (.nc (.ret (We.fin Tryz.results33 (.tmp rfl .nil) (mS .here rfl mN) ?_)))
   exact ⟨_,by rw [← hC.fin (by omega)]; rfl,rfl⟩
  have c3k:=c3
  try simp only [aC,aD] at c3
  refine .g (aW (((k+1):Nat):Int) rfl rfl rfl rfl ?_)
  refine .g (aZ (k+1) ?_ ?_ ?_ ?_ ?_)
  ·exact (aO rfl (aA rfl eZ))
  ·exact (mS .here rfl mN)
  ·first|omega|(dsimp only; omega)
  ·exact hGl0
  refine ⟨?_,?_⟩
  ·(try dsimp only)<;>(first|omega|rfl|assumption|(simp; done))
  (try dsimp only)<;>(exact aMZ hj c3k)
 have c2k:=c2
 try simp only [aC,aD] at c2
 refine .exit (.xcode (.xlp (.xblk (.code (.seq (bD rfl rfl (mV rfl rfl (aS rfl rfl (.nc (.ret (We.fin Tryz.results33 (.tmp rfl .nil) (mS .here rfl mN) ?_)))))))))))
 exact ⟨_,by rw [aMa (by omega) hj]; rfl,rfl⟩
theorem aEB (enc mac:Nat→Y) (ad:List Y) (ha:Sh) (O:List Y) (D:List Dg) (vo vl:Value) (bw part:Nat) (xs:List Y) (hx:Sh) (G:PM) (hsa:SlR G 1 aL ha ad) (hsx:SlR G 1 aL hx xs) (hK:RdNP G 1 0 (wa 64 kW)) (hla:ad.length≤1000) (hlx:xs.length≤1000000) (hlO:O.length≤100000000) (hlD:D.length≤1000000) (hp:part≤1000000000):Ct Tryz.prog 31 ([.pointer (some ⟨bw,0,none⟩),.int .i64 (part:Int),hx.val xs.length]:List Value).toArray G [.blk bw (cl (dK enc mac (ha.val ad.length) vo vl) 70),rB vo 5 O,rS 32 (ba 32) vl 23 D] (fun _ μ' u=>∃ (X O' W':List Y) (D':List Dg) (vo' vl':Value) (b' cap':Nat),X=kN enc mac (hZ (BitVec.ofInt 64 (part:Int))) ad xs∧O'=O++X∧D'=D++[dH X]∧W'=jB X∧μ'=[.blk bw (cl (dK enc mac (ha.val ad.length) vo' vl') 70),rB vo' 5 O',rS 32 (ba 32) vl' 23 D',rB (.slice (some ⟨b',0,none⟩) W'.length cap') 5 W']∧u=.slice (some ⟨b',0,none⟩) W'.length cap'):=by
 refine Ct.of Tryz.func31 rfl Tryz.ntmps31 rfl fun w0 hs0=>?_
 refine .g (bG (mc:=⟨false,false⟩) [0,1,2,3,4,5,7,8,9,10,11,6,12,13] aV (by kernel_rfl) ?_)
 refine .p (nC rfl rfl (fZ rfl aSn rfl (lA rfl .no pM (.u rfl) (fun _=>RdN.part (n:=64) (cs':=ba 32 enc++ba 32 mac) .here (aEN)) (fun _=>(by first|exact qE|exact qL|rfl)) ?_)))
 refine .p (ci rfl .no rfl cW (.u rfl) ?_)
 refine .p (nC rfl rfl (fZ rfl aSo rfl (lN rfl bV rfl (Rd.own .here aEM) ?_)))
 refine .p (kV rfl aE1 (aB rfl aE) (aCH _ _) ?_)
 refine kc rfl aTW (aB rfl (aB rfl (aB rfl (aB rfl aE)))) (iT (aLG enc mac (hZ (BitVec.ofInt 64 (part:Int))) ad ha xs hx _ hsa hsx hK (by omega) (by omega))) ?_
 rintro v21 G21 μ21 hG21 ⟨L21,ov21,eL21,rfl⟩
 have hK:=hK.mono hG21
 refine aS rfl rfl (.nc (.seq ?_))
 refine iR .here (wF .here rfl (wF .here rfl (wF .here rfl (aA3)))) ?_; intro GfR21 hR21 hleR21 evR21 hsR21; subst evR21
 have hK:=hK.mono hleR21
 refine gH rfl rfl (mV rfl rfl ?_)
 have lL21:L21.length=xs.length+16:=by rw [eL21,uR]
 refine kV rfl xN (aB rfl aE) (wJ L21 hR21 _ hsR21 hK (by omega)) ?_
 refine al rfl fT ?_; intro b8
 refine sw rfl (.u rfl) (.u rfl) rfl fH .here rfl (dW _ _) ?_
 refine .g (nC rfl rfl (fZ rfl vD rfl (lN rfl bV rfl (Rd.own aF kR) ?_)))
 refine .p (cF rfl aH aY (.u rfl) (.u rfl) aT hsR21.sc (by (try simp only [bJ,bB]); omega) ?_)
 intro v30 L30 ov30 eL30
 have lL30:L30.length=O.length+L21.length:=by rw [eL30,List.length_append]
 refine nC rfl rfl (fZ rfl vD rfl (fR rfl (.u rfl) (.u rfl) .here iE aT (by rw [xC]; decide) (aAD) ?_))
 refine .nil (.code (.seq (dP ⟨false,false⟩ aV (by kernel_rfl) ?_)))
 refine Wp.one 0 (by kernel_rfl) ?_
 refine mV rfl rfl (.nil (Wp.one 1 (by kernel_rfl) ?_))
 refine mV rfl rfl (.nil (Wp.one 2 (by kernel_rfl) ?_))
 refine nC rfl rfl (.nil (Wp.one 3 (by kernel_rfl) ?_))
 refine fZ rfl aEn rfl (.nil (Wp.one 4 (by kernel_rfl) ?_))
 refine lN rfl pN rfl (Rd.own .here uX) ?_
 refine .nil (Wp.one 5 (by kernel_rfl) ?_)
 refine lA rfl .no cH (.u rfl) (fun _=>RdN.own aT) (fun _=>aU _ _) ?_
 refine .nil (Wp.b1 6 (by kernel_rfl) ?_)
 refine Go.Tan.b1 rfl dM fJ (.u rfl) rfl rfl (by decide) ?_; intro b39
 refine .nil (Wp.b1 7 (by kernel_rfl) ?_)
 refine fK (xs:=D) ((dH L21)) rfl dM fJ rfl (.u rfl) (.u rfl) fG .here (aU _ _) (dW _ _) (by omega) (by unfold maxLen; omega) ?_; intro v40 ov40
 refine .nil (Wp.one 8 (by kernel_rfl) ?_)
 refine nC rfl rfl (.nil (Wp.one 9 (by kernel_rfl) ?_))
 refine fZ rfl aEn rfl (.nil (Wp.b1 10 (by kernel_rfl) ?_))
 refine fR rfl (.u rfl) (.u rfl) .here vI aT (by rw [xC]; decide) (aSP) ?_
 refine .nil (Wp.last (by kernel_rfl) ?_)
 refine .g (bG (mc:=⟨false,false⟩) [0,1,2,4,3,5,6] aV (by kernel_rfl) ?_)
 refine .p (lE rfl bK rfl (ci rfl .no rfl cW (.u rfl) ?_))
 refine lY rfl .no gB (.u rfl) (kc rfl pQ (aB rfl (aB rfl aE)) (iT (oU [] ⟨none,0⟩ _ SlR.nul _ (Nat.zero_le _))) ?_)
 rintro v46 G46 μ46 hG46 ⟨L46,ov46,eL46,rfl⟩
 have lL46:=zC eL46
 refine cF rfl aH aY (.u rfl) (.u rfl) .here (Sc.arr nP) (by (try simp only [bJ,bB]); omega) ?_
 intro v48 L48 ov48 eL48
 have lL48:L48.length=L46.length+32:=by rw [eL48,List.length_append]; first|rfl | simp [bB]
 refine aS rfl rfl (.nc (.ret ?_))
 refine aSG .here (by rw [eL48,List.length_append,bB]; omega) ?_; intro bbR46 capR46 evR46 lcR46; subst evR46
 refine We.fin Tryz.results31 (.tmp rfl .nil) (mS aF rfl (mS bM rfl (mS aF rfl (mS .here rfl mN)))) ?_
 exact ⟨L21,L30,L48,_,_,_,_,_,eL21,eL30,rfl,aQE (by omega) eL46 eL48,rfl,rfl⟩
theorem aI4 (enc mac:Nat→Y) (ad:List Y) (ha:Sh) (O:List Y) (D:List Dg) (vo vl:Value) (bw part:Nat) (xs:List Y) (v:Value) (G:PM) (hsa:SlR G 1 aL ha ad) (hK:RdNP G 1 0 (wa 64 kW)) (hla:ad.length≤1000) (hlx:xs.length≤1000000) (hlO:O.length≤100000000) (hlD:D.length≤1000000) (hp:part≤1000000000) :
  Ct Tryz.prog 31 ([.pointer (some ⟨bw,0,none⟩),.int .i64 (part:Int),v]:List Value).toArray G (rB v 5 xs :: [.blk bw (cl (dK enc mac (ha.val ad.length) vo vl) 70),rB vo 5 O,rS 32 (ba 32) vl 23 D]) (fun _ μ' u=>∃ ν,μ'=rB v 5 xs :: ν∧∃ (X O' W':List Y) (D':List Dg) (vo' vl':Value) (b' cap':Nat),X=kN enc mac (hZ (BitVec.ofInt 64 (part:Int))) ad xs∧O'=O++X∧D'=D++[dH X]∧W'=jB X∧ν=[.blk bw (cl (dK enc mac (ha.val ad.length) vo' vl') 70),rB vo' 5 O',rS 32 (ba 32) vl' 23 D',rB (.slice (some ⟨b',0,none⟩) W'.length cap') 5 W']∧u=.slice (some ⟨b',0,none⟩) W'.length cap') :=
 xG (fun hx G2 hle hv hs=>by subst hv; exact aEB enc mac ad ha O D vo vl bw part xs hx G2 (hsa.mono hle) hs (hK.mono hle) hla hlx hlO hlD hp)
theorem rX:(cG Tryz.prog 68).isSome=true:=by kernel_rfl
theorem aKr:aQ Tryz.prog 77=true:=by kernel_rfl
theorem aIP (ds:List Dg) (h:Sh) (G:PM) (hs:SlR G 32 (ba 32) h ds) (hK:RdNP G 1 0 (wa 64 kW)) (hl:ds.length≤1000000):Ct Tryz.prog 36 ([h.val ds.length]:List Value).toArray G [] (fun _ μ' u=>μ'=[]∧u=.agg (ba 32 (dJ ds)).toArray):=by
 refine Ct.of Tryz.func36 rfl Tryz.ntmps36 rfl fun w0 hs0=>?_
 refine .seq (aM rfl rfl ?_)
 refine al rfl fT ?_; intro b2
 refine .g (lE rfl rX rfl (cP rfl rfl rfl rfl (.g (cD rfl (fun c1=>?_) (fun c1=>?_)))))
 ·have c1k:=c1
  try simp only [aC,aI,aD] at c1
  refine .seq (gH rfl rfl ?_)
  refine Go.Tan.b1 rfl aH aY (.u rfl) rfl rfl (by decide) ?_; intro b12
  refine Go.Tan.b1 rfl gP jM (.u rfl) rfl rfl (by decide) ?_; intro b13
  refine kp rfl .no aAS (aB rfl aE) (Gp.add .here (Gp.add .here Gp.nil)) (fun _ hle hq=>aMx (kind:=2#8) hle hq.1 hK) ?_
  refine sW rfl rfl rfl rfl fH aT ?_
  refine .nil (.code (.ret (aP Tryz.results36 (.cell rfl (fun w hw=>bW cH (RdN.own .here) ((by first|exact qE|exact qL|rfl)) hw) .nil) ?_)))
  obtain rfl:ds=[]:=List.eq_nil_of_length_eq_zero (by omega)
  exact ⟨rfl,by rw [aIO]; rfl⟩
 have c1k:=c1
 try simp only [aC,aI,aD] at c1
 refine .skip (.code (.seq (aM rfl rfl (aS rfl rfl (.nc (.seq (.seq (kQ 32 (ba 32) 23 ?_))))))))
 refine .g (lE rfl rX rfl (mV rfl rfl (.nc (.block ?_))))
 refine bE (α:=Nat×List (Nat×Dg)×Value) (fun gh=>[(3,true,gh.2.2),(17,true,.int .i64 (gh.1:Int))]) (fun gh=>[rS 32 (ba 32) gh.2.2 23 (eJ gh.2.1)])
  (fun gh Gl=>(gh.1≤ds.length)∧(Stk gh.2.1 (ds.take gh.1))) (fun gh=>ds.length-gh.1) (0,[],.slice none 0 0) [(2,true,_),(15,true,_),(16,true,_)] [_]
  (aA rfl (aO rfl (aA rfl (aA rfl (aA rfl eZ)))))
  (mS .here rfl (mS .here rfl mN)) ?_ ?_
 ·refine ⟨?_,?_⟩
  ·(try dsimp only)<;>(first|omega|rfl|assumption|(simp; done))
  (try dsimp only)<;>(exact Stk.nil)
 intro gh N0 Gl0 hN0 hGl0 hF0
 obtain ⟨k,S,v⟩:=gh; dsimp only at hF0 hN0 ⊢
 obtain ⟨hk,hS⟩:=hF0
 have hs:=hs.mono hGl0
 have hK:=hK.mono hGl0
 refine .g (cP rfl rfl rfl rfl (.g (cD rfl (fun c2=>?_) (fun c2=>?_))))
 ·have c2k:=c2
  try simp only [aC,aI,aD] at c2
  refine .skip (.code (.seq (.block (.seq (nO rfl rfl (mV rfl rfl ?_))))))
  obtain ⟨x,ex⟩:=dO (k:=k) (xs:=ds) (by omega)
  refine ih rfl .no dM (.u rfl) (.u rfl) (by omega) (by omega) (fun _=>hs.nn (k:=k) (by first|omega|(simp only [Bool.and_eq_true,decide_eq_true_eq] at hc; omega)|(simp only [List.length_cons,List.length_nil]; omega))) ?_
  refine lA rfl .no cH (.u rfl) (fun _=>(hs.at (by omega) ex).rd) (fun _=>aU _ _) ?_
  refine al rfl fT ?_; intro b5
  refine .p (sw rfl (.u rfl) (.u rfl) rfl fH .here rfl (dW _ _) ?_)
  refine .g (aW (((k+1):Nat):Int) rfl rfl rfl rfl ?_)
  refine aS rfl rfl (.nc (.block ?_))
  refine bE (α:=Nat×Nat×List (Nat×Dg)×Dg×Value) (fun gh=>[(3,true,gh.2.2.2.2),(6,true,.int .i64 (gh.1:Int))]) (fun gh=>[.blk b5 (cl (ba 32 gh.2.2.2.1) 23),rS 32 (ba 32) gh.2.2.2.2 23 (eJ gh.2.2.1)])
   (fun gh Gl=>(Pend gh.2.2.1 gh.2.2.2.1 gh.2.1 (ds.take (k+1)))∧(gh.1=(ds.take (k+1)).length / 2^gh.2.1)∧(gh.1≤k+1)) (fun gh=>gh.1) (k+1,0,S,x,v) [(2,true,_),(5,true,_),(15,true,_),(16,true,_),(17,true,_)] [_]
   (aA rfl (aO rfl (aA rfl (aA rfl (aA rfl (aA rfl (aA rfl eZ)))))))
   (mS .here rfl (mS .here rfl (mS .here rfl mN))) ?_ ?_
  ·refine ⟨?_,?_,?_⟩
   ·(try dsimp only)<;>(rw [List.take_add_one,ex]; exact aLE hS x)
   ·(try dsimp only)<;>(rw [Nat.pow_zero,Nat.div_one,List.length_take]; omega)
   (try dsimp only)<;>(first|omega|rfl|assumption|(simp; done))
  intro gh N1 Gl1 hN1 hGl1 hF1
  obtain ⟨q,a,S2,dd,v2⟩:=gh; dsimp only at hF1 hN1 ⊢
  obtain ⟨hP,eq,hqk⟩:=hF1
  have hK:=hK.mono hGl1
  have hq0:=aOw hP eq
  have hl2:=aOu hP
  rw [← sY,List.length_take] at hl2
  refine .g (an1 q rfl .no (.u rfl) (.u rfl) rfl rfl ?_)
  refine cP rfl rfl rfl rfl (.g (cD rfl (fun c3=>?_) (fun c3=>?_)))
  ·have c3k:=c3
   try simp only [aC,aI,aD] at c3
   refine .skip (.code (.seq (.block (.seq ?_))))
   obtain ⟨s,S3,hS3,hP3,hq3⟩:=aOt hP eq (by omega)
   have hl3:(eJ S2).length=(eJ S3).length+1:=by rw [hS3,wX,List.length_append]; rfl
   refine xA aF (by omega) ?_; intro bbRS capRS evRS lcRS; subst evRS
   refine bG (mc:=⟨false,false⟩) [0,1,2,3,4,5,6,7,8] aV (by kernel_rfl) ?_
   refine .p (lr rfl .no rX (.u rfl) aF ?_)
   refine dR ((((eJ S2).length-1):Nat):Int) rfl .no (.u rfl) (.u rfl) rfl (by omega) (fun _=>cB (by omega) (by omega)) ?_
   refine ia rfl .no dM (.u rfl) (.u rfl) (by omega) (by omega) ?_
   refine lA rfl .no cH (.u rfl) (fun _=>aCI aF (fun _ _=>aU _ _) (uH (z:=zD) (k:=((eJ S2).length-1)) (by omega)) (by omega)) (fun _=>aU _ _) ?_
   refine lB rfl cH rfl .here ?_
   refine kV rfl aKr (aB rfl (aB rfl aE)) (aG0 _ _ _ hK) ?_
   refine sw rfl (.u rfl) (.u rfl) rfl fH .here (by first|exact qE|exact qL|rfl) (dW _ _) ?_
   refine .g (lr rfl .no rX (.u rfl) aF ?_)
   refine aR rfl rfl rfl rfl ?_
   refine srh (eJ S3).length rfl dM (.u rfl) (.u rfl) (by omega) (by omega) ?_
   refine aS rfl rfl (.nil (.blk (.code (aJj (eJ S3) [s] (fun _ _=>aU _ _) aF (by rw [hS3,wX]) ?_))))
   refine .g (sr1 (q) rfl .no (.u rfl) (.u rfl) (by first|rfl|omega) rfl (by decide) ?_)
   refine .g (aZ (q / 2,a+1,S3,mT ((eJ S2).getD ((eJ S2).length-1) zD) dd,.slice (some ⟨bbRS,0,none⟩) (eJ S3).length capRS) ?_ ?_ ?_ ?_ ?_)
   ·exact (aA rfl (aO rfl (aA rfl (aA rfl (aA rfl (aA rfl (aA rfl eZ)))))))
   ·exact (mS aF rfl (mS .here rfl (mS .here rfl mN)))
   ·first|omega|(dsimp only; omega)
   ·exact hGl1
   refine ⟨?_,?_,?_⟩
   ·(try dsimp only)<;>(rw [aRF hS3]; exact hP3)
   ·(try dsimp only)<;>(exact hq3)
   (try dsimp only)<;>(first|omega|rfl|assumption|(simp; done))
  have c3k:=c3
  try simp only [aC,aI,aD] at c3
  refine .g (lB rfl cH rfl .here ?_)
  refine Go.Tan.b1 rfl dM fJ (.u rfl) rfl rfl (by decide) ?_; intro b44
  refine fK (xs:=(eJ S2)) (dd) rfl dM fJ rfl (.u rfl) (.u rfl) aT .here (aU _ _) (dW _ _) (by omega) (by unfold maxLen; omega) ?_; intro v45 ov45
  refine .g (aW (((k+1):Nat):Int) rfl rfl rfl rfl ?_)
  refine .g (aZ (k+1,(a,dd) :: S2,v45) ?_ ?_ ?_ ?_ ?_)
  ·exact (aA rfl (aO rfl (aA rfl (aA rfl (aA rfl eZ)))))
  ·exact (mS .here (by rw [wX]) (mS aT rfl mN))
  ·first|omega|(dsimp only; omega)
  ·exact (hGl0).trans hGl1
  refine ⟨?_,?_⟩
  ·(try dsimp only)<;>(first|omega|rfl|assumption|(simp; done))
  (try dsimp only)<;>(exact aOv hP eq (by omega))
 have c2k:=c2
 try simp only [aC,aI,aD] at c2
 refine .exit (.xcode (.xlp (.xblk (.code (.seq ?_)))))
 obtain rfl:k=ds.length:=by omega
 rw [List.take_length] at hS
 obtain ⟨hs0,hroot⟩:=aRE hS (by omega)
 have hsl:=hS.short
 rw [← sY] at hsl
 refine xA .here (by omega) ?_; intro bbRS capRS evRS lcRS; subst evRS
 refine .g (lr rfl .no rX (.u rfl) .here ?_)
 refine dR ((((eJ S).length-1):Nat):Int) rfl .no (.u rfl) (.u rfl) rfl (by omega) (fun _=>cB (by omega) (by omega)) ?_
 refine ia rfl .no dM (.u rfl) (.u rfl) (by omega) (by omega) ?_
 refine lA rfl .no cH (.u rfl) (fun _=>aCI .here (fun _ _=>aU _ _) (uH (z:=zD) (k:=((eJ S).length-1)) (by omega)) (by omega)) (fun _=>aU _ _) ?_
 refine al rfl fT ?_; intro b7
 refine sw rfl (.u rfl) (.u rfl) rfl fH .here rfl (dW _ _) ?_
 refine .g (lr rfl .no rX (.u rfl) aF ?_)
 refine aR rfl rfl rfl rfl ?_
 refine aS rfl rfl (.nc (.block ?_))
 refine bE (α:=Nat×Dg) (fun gh=>[(8,true,.int .i64 ((gh.1:Int)-1))]) (fun gh=>[.blk b7 (cl (ba 32 gh.2) 23)])
  (fun gh Gl=>(gh.1≤(eJ S).length-1)∧(dJ ds=pZ gh.2 (eJ S) gh.1)) (fun gh=>gh.1) ((eJ S).length-1,(eJ S).getD ((eJ S).length-1) zD) [(2,true,_),(3,true,_),(7,true,_)] [_,_]
  (fD rfl (oB (by omega)) (aA rfl (aA rfl (aA rfl eZ))))
  (mS .here rfl (mS .here rfl (mS .here rfl mN))) ?_ ?_
 ·refine ⟨?_,?_⟩
  ·(try dsimp only)<;>(first|omega|rfl|assumption|(simp; done))
  (try dsimp only)<;>(exact hroot)
 intro gh N2 Gl2 hN2 hGl2 hF2
 obtain ⟨j,d⟩:=gh; dsimp only at hF2 hN2 ⊢
 obtain ⟨hj,hd⟩:=hF2
 have hK:=hK.mono hGl2
 refine .g (cP rfl rfl rfl rfl (.g (cD rfl (fun c4=>?_) (fun c4=>?_))))
 ·have c4k:=c4
  try simp only [aC,aI,aD] at c4
  refine .g (bG (mc:=⟨false,false⟩) [0,1,2,3,4,5,6] aV (by kernel_rfl) ?_)
  refine .p (ia rfl .no dM (.u rfl) (.u rfl) (by omega) (by omega) ?_)
  refine lA rfl .no cH (.u rfl) (fun _=>aCI aF (fun _ _=>aU _ _) (uH (z:=zD) (k:=(j-1)) (by omega)) (by omega)) (fun _=>aU _ _) ?_
  refine lB rfl cH rfl .here ?_
  refine kV rfl aKr (aB rfl (aB rfl aE)) (aG0 _ _ _ hK) ?_
  refine sw rfl (.u rfl) (.u rfl) rfl fH .here (by first|exact qE|exact qL|rfl) (dW _ _) ?_
  refine .g (aR rfl rfl rfl rfl ?_)
  refine .g (aZ (j-1,mT ((eJ S).getD (j-1) zD) d) ?_ ?_ ?_ ?_ ?_)
  ·exact (fD rfl (oB (by omega)) (aA rfl (aA rfl (aA rfl eZ))))
  ·exact (mS .here rfl (mS .here rfl (mS .here rfl mN)))
  ·first|omega|(dsimp only; omega)
  ·exact hGl2
  refine ⟨?_,?_⟩
  ·(try dsimp only)<;>(first|omega|rfl|assumption|(simp; done))
  (try dsimp only)<;>(rw [hd,aNE (by omega)])
 have c4k:=c4
 try simp only [aC,aI,aD] at c4
 refine .g (lB rfl cH rfl .here ?_)
 refine sw rfl (.u rfl) (.u rfl) rfl fH aT rfl (dW _ _) ?_
 refine .nil (.code (.ret (aP Tryz.results36 (.cell rfl (fun w hw=>bW cH (RdN.own .here) ((by first|exact qE|exact qL|rfl)) hw) .nil) ?_)))
 obtain rfl:j=0:=by omega
 exact ⟨rfl,by rw [hd]; rfl⟩
end Go.Proofs.YtbdnclpopappeaaGreatDoor
