/- Lemmas and contracts of functions, joined. -/
import Derived.Test.YtbdnclpopappeaaGreatDoorMg5
set_option linter.unusedSimpArgs false
set_option linter.unusedVariables false
set_option linter.unusedSectionVars false
namespace Go.Proofs.YtbdnclpopappeaaGreatDoor
open Go.Tan Go.RowKit
theorem aTN:aT Tryz.prog 134=true:=by kernel_rfl
theorem aS7:aT Tryz.prog 107=true:=by kernel_rfl
theorem aPj (B:List Y) (s:Sh) (I n b:Nat) (G:PM) (hs:SlR G 1 aL s B) (hI:I≤B.length) (hl:B.length≤1000000) (hn:n<18446744073709551616):Ct Tryz.prog 107 ([.pointer (some ⟨b,0,none⟩),.int .u64 (n:Int)]:List Value).toArray G [.blk b (cl [Sh.val s B.length,.int .i64 (I:Int),.int .i64 0] 155)] (fun G' μ' u=>∃ (h':Sh) (l:List Ent),(gK n [] [] (B.drop I)=some l∨(gK n [] [] (B.drop I)=none∧l=[]∧¬ n=0))∧l.length≤1000000∧μ'=[]∧u=h'.val l.length∧SlR G' 4 Ent.cells h' l):=by
 refine Ct.of Tryz.func107 rfl Tryz.ntmps107 rfl fun w0 hs0=>?_
 refine .seq (aM rfl rfl (aS rfl rfl (.nc (.seq (aM rfl rfl (aS rfl rfl (.nc (.seq (mW 4 Ent.cells 47 (aM rfl rfl (aS rfl rfl (.nc (.seq (.block ?_))))))))))))))
 refine bD (α:=Nat×ByteArray×Value×List Ent×Nat) (fun gh=>[(1,true,.int .u64 (gh.1:Int)),(5,true,gh.2.2.1),(6,true,.string gh.2.1)]) (fun gh=>[rS 4 Ent.cells gh.2.2.1 47 gh.2.2.2.1,.blk b (cl [Sh.val s B.length,.int .i64 (gh.2.2.2.2:Int),.int .i64 0] 155)])
  (fun gh Gl=>(gK n [] [] (B.drop I)=gK gh.1 (yb gh.2.1) gh.2.2.2.1 (B.drop gh.2.2.2.2))∧(gh.2.2.2.2≤B.length)∧(gh.2.2.2.1.length≤gh.2.2.2.2∧gh.2.1.size≤gh.2.2.2.2)∧(gh.1≤n)) (fun gh=>gh.1) (n,ByteArray.empty,.slice none 0 0,[],I) [(0,true,_)] []
  (aA rfl (aA rfl (aA rfl (aA rfl eZ))))
  (mS .here rfl (mS .here rfl mN)) ?_ ?_
 ·refine ⟨?_,?_,?_,?_⟩
  ·(try dsimp only)<;>(rw [aJr])
  ·(try dsimp only)<;>(first|omega|rfl|assumption|(simp; done))
  ·(try dsimp only)<;>(exact ⟨Nat.zero_le _,Nat.zero_le _⟩)
  (try dsimp only)<;>(first|omega|rfl|assumption|(simp; done))
 intro gh N0 Gl0 hN0 hGl0 hF0
 obtain ⟨m,last,v,acc,J⟩:=gh; dsimp only at hF0 hN0 ⊢
 obtain ⟨hE,hJ,hlen,hm⟩:=hF0
 have hs:=hs.mono hGl0
 refine .g (cP rfl rfl rfl rfl (mV rfl rfl (mv rfl (.t rfl rfl) (.u rfl) (nc rfl (.t rfl rfl) (.s rfl) (fz rfl (.t rfl rfl) oV (.s rfl) (ld rfl (.t rfl rfl) eT (.s rfl) (fun hc=>Rd.own aF (by first|exact aJ rfl|rfl)) ?_))))))
 refine cp rfl (.t rfl rfl) (.s rfl) (.u rfl) rfl (cG rfl .no (.u rfl) (.s rfl) (.g (cD rfl (fun c1=>?_) (fun c1=>?_))))
 ·have c1k:=c1
  try simp only [aC,aI,aD] at c1
  refine .g (ar rfl .no (.u rfl) (.u rfl) rfl (fun _=>fD (by omega) (by omega)) ?_)
  refine .g (ka rfl (.inr rfl) qX (aB rfl aE) (bR aF) (qI B J 0 s b _ hs hJ (by omega)) ?_)
  rintro _ G27 μ27 hG27 ⟨n27,I27,e27,hN27,hI27,rfl,rfl⟩
  have nL27:=iP hN27
  have hs:=hs.mono hG27
  refine .g (ka rfl (.inr rfl) qX (aB rfl aE) (bR .here) (qI B I27 e27 s b _ hs hI27 (by omega)) ?_)
  rintro _ G29 μ29 hG29 ⟨n29,I29,e29,hN29,hI29,rfl,rfl⟩
  have nL29:=iP hN29
  have hs:=hs.mono hG29
  refine .g (ka rfl (.inr rfl) qX (aB rfl aE) (bR .here) (qI B I29 e29 s b _ hs hI29 (by omega)) ?_)
  rintro _ G31 μ31 hG31 ⟨n31,I31,e31,hN31,hI31,rfl,rfl⟩
  have nL31:=iP hN31
  have hs:=hs.mono hG31
  refine .g (bH (mc:=⟨false,false⟩) [0,1,2,3,4,5,6,7,8,9,10,11] aV (by kernel_rfl) ?_)
  refine .p (nC rfl rfl (fZ rfl mE rfl (lO rfl bZ rfl .here (by first|exact aJ rfl|rfl) ?_)))
  refine lE rfl bL rfl (.p (nC rfl rfl (fZ rfl fH rfl (lO rfl dG rfl .here (by first|exact aJ rfl|rfl) ?_))))
  refine aW (((B.length-I31):Nat):Int) rfl rfl rfl rfl ?_
  refine cw rfl .no cX (.u rfl) (fun _=>fD (by omega) (by omega)) ?_
  refine .g (nC rfl rfl (fZ rfl oV rfl (lO rfl eT rfl .here (by first|exact aJ rfl|rfl) ?_)))
  refine cP rfl rfl rfl rfl (mV rfl rfl (mv rfl (.f rfl rfl) (.u rfl) (mv rfl (.f rfl rfl) (.u rfl) (ls rfl (.f rfl rfl) cI (.s rfl) (cw rfl (.f rfl rfl) cX (.s rfl) (fun hc=>fD (by (try simp only [Bool.and_eq_true,decide_eq_true_eq,Bool.not_eq_true',Bool.or_eq_false_iff,decide_eq_false_iff_not] at hc); omega) (by (try simp only [Bool.and_eq_true,decide_eq_true_eq,Bool.not_eq_true',Bool.or_eq_false_iff,decide_eq_false_iff_not] at hc); omega)) ?_)))))
  refine cp rfl (.f rfl rfl) (.s rfl) (.s rfl) rfl (cQ rfl .no (.u rfl) (.s rfl) (mV rfl rfl (mv rfl (.f rfl rfl) (.u rfl) (mv rfl (.f rfl rfl) (.u rfl) (cp rfl (.f rfl rfl) (.s rfl) (.s rfl) rfl (cQ rfl .no (.u rfl) (.s rfl) (mV rfl rfl (mv rfl (.f rfl rfl) (.u rfl) (mv rfl (.f rfl rfl) (.u rfl) (mv rfl (.f rfl rfl) (.u rfl) (ar rfl (.f rfl rfl) (.s rfl) (.s rfl) rfl (fun hc=>fD (by (try simp only [Bool.and_eq_true,decide_eq_true_eq,Bool.not_eq_true',Bool.or_eq_false_iff,decide_eq_false_iff_not] at hc); omega) (by (try simp only [Bool.and_eq_true,decide_eq_true_eq,Bool.not_eq_true',Bool.or_eq_false_iff,decide_eq_false_iff_not] at hc); omega)) ?_)))))))))))
  refine cp rfl (.f rfl rfl) (.s rfl) (.s rfl) rfl (cQ rfl .no (.u rfl) (.s rfl) (.g (cD rfl (fun c2=>?_) (fun c2=>?_))))
  ·have c2k:=c2
   try simp only [aC,aI,aD] at c2
   refine .seq (aM rfl rfl (aS rfl rfl (.nc (.ret (aP Tryz.results107 (.tmp rfl .nil) ?_)))))
   exact ⟨⟨none,0⟩,[],.inr ⟨by rw [hE]; exact aCy (by omega) (aQC hN27 hN29 hN31 (by omega)),rfl,by omega⟩,Nat.zero_le _,rfl,rfl,SlR.nul⟩
  have c2k:=c2
  try simp only [aC,aI,aD] at c2
  refine .skip (.code (.seq ?_))
  obtain rfl:e31=0:=by omega
  refine bH (mc:=⟨false,false⟩) [0,1,2,3,4,5,6,7,8,9,10,11,12,13,14,15,16,17,18,19,20,21] aV (by kernel_rfl) ?_
  refine .p (sE (n27) rfl .no cI (.u rfl) (.u rfl) (by omega) (by omega) ?_)
  refine .p (nC rfl rfl (fZ rfl mE rfl (lO rfl bZ rfl .here (by first|exact aJ rfl|rfl) ?_)))
  refine .p (nC rfl rfl (fZ rfl fH rfl (lO rfl dG rfl .here (by first|exact aJ rfl|rfl) ?_)))
  refine .p (nC rfl rfl (fZ rfl fH rfl (lO rfl dG rfl .here (by first|exact aJ rfl|rfl) ?_)))
  refine .p (cw rfl .no jL (.u rfl) (fun _=>cB (by omega) (by omega)) ?_)
  refine aW (((I31+n29):Nat):Int) rfl rfl rfl rfl ?_
  refine kS (I31) ((I31+n29)) rfl .no aH hs (.u rfl) (.u rfl) (.u rfl) (by omega) (by omega) (by omega) (by omega) ?_
  intro h85 L85 eL85 lL85 hs85
  have lL85:=lL85 rfl
  refine sB rfl .no mC (.u rfl) (fun _=>hs85.sc) ?_
  refine sP rfl .no (.u rfl) (.u rfl) (fun _=>by simp only [fS,List.length_take,bQ]; omega) ?_
  refine aS rfl rfl (.nc (.seq ?_))
  generalize hkey:aN (yb (aN ((yb last).take n27))++yb (aN L85))=key
  have eky:yb key=(yb last).take n27++(B.drop I31).take n29:=by rw [← hkey]; exact aQP (by rw [eL85]; congr 1; omega)
  have lky:key.size≤200000000:=by rw [← bQ,eky,List.length_append,List.length_take,List.length_take,bQ,List.length_drop]; omega
  refine .g (nC rfl rfl (fZ rfl fH rfl (lO rfl dG rfl .here (by first|exact aJ rfl|rfl) ?_)))
  refine .p (cw rfl .no jL (.u rfl) (fun _=>cB (by omega) (by omega)) ?_)
  refine aW (((I31+n29):Nat):Int) rfl rfl rfl rfl ?_
  refine nC rfl rfl (fZ rfl fH rfl (s1 rfl (.u rfl) (.u rfl) rfl rC .here (show 1<3 by decide) (rfl) ?_))
  refine .g (bH (mc:=⟨false,false⟩) [0,1,2,3,4,5,6,7,8,9,10,11,12,13,14,15,16,17] aV (by kernel_rfl) ?_)
  refine .p (nC rfl rfl (fZ rfl mE rfl (lO rfl bZ rfl .here (by first|exact aJ rfl|rfl) ?_)))
  refine .p (nC rfl rfl (fZ rfl fH rfl (lO rfl dG rfl .here (by first|exact aJ rfl|rfl) ?_)))
  refine .p (nC rfl rfl (fZ rfl fH rfl (lO rfl dG rfl .here (by first|exact aJ rfl|rfl) ?_)))
  refine .p (cw rfl .no jL (.u rfl) (fun _=>cB (by omega) (by omega)) ?_)
  refine dR ((((I31+n29)+n31):Nat):Int) rfl .no (.u rfl) (.u rfl) rfl (by omega) (fun _=>cB (by omega) (by omega)) ?_
  refine kS ((I31+n29)) (((I31+n29)+n31)) rfl .no aH hs (.u rfl) (.u rfl) (.u rfl) (by omega) (by omega) (by omega) (by omega) ?_
  intro h113 L113 eL113 lL113 hs113
  have lL113:=lL113 rfl
  refine sB rfl .no mC (.u rfl) (fun _=>hs113.sc) ?_
  refine .g (nC rfl rfl (fZ rfl fH rfl (lO rfl dG rfl .here (by first|exact aJ rfl|rfl) ?_)))
  refine .p (cw rfl .no jL (.u rfl) (fun _=>cB (by omega) (by omega)) ?_)
  refine dR ((((I31+n29)+n31):Nat):Int) rfl .no (.u rfl) (.u rfl) rfl (by omega) (fun _=>cB (by omega) (by omega)) ?_
  refine nC rfl rfl (fZ rfl fH rfl (s1 rfl (.u rfl) (.u rfl) rfl rC .here (show 1<3 by decide) (rfl) ?_))
  refine .nil (.code (.seq ?_))
  have htk:=aQB hN27 hN29 hN31 (by omega) (by omega) (by omega) eky (V:=L113) (by rw [eL113]; congr 1; omega)
  refine .g (kV rfl aTN (aB rfl aE) (aPe key _ (by omega)) ?_)
  refine .p (eX rfl rfl rfl (eX rfl rfl rfl ?_))
  refine al rfl iT ?_; intro b13
  refine sw rfl (.u rfl) (.u rfl) rfl dD .here rfl (Ent.one _) ?_
  refine .g (cP rfl rfl rfl rfl (.g (cD rfl (fun c3=>?_) (fun c3=>?_))))
  ·have c3k:=c3
   try simp only [aC,aI,aD] at c3
   refine .seq (aM rfl rfl (aS rfl rfl (.nc (.ret (aP Tryz.results107 (.tmp rfl .nil) ?_)))))
   rw [if_neg (by omega)] at htk
   exact ⟨⟨none,0⟩,[],.inr ⟨by rw [hE]; exact aCy (by omega) htk,rfl,by omega⟩,Nat.zero_le _,rfl,rfl,SlR.nul⟩
  have c3k:=c3
  try simp only [aC,aI,aD] at c3
  refine .g (fZ rfl mB rfl (s1 rfl (.u rfl) (.u rfl) rfl pV .here (show 3<4 by decide) (aEX _ _) ?_))
  refine .g (lA rfl .no cC (.u rfl) (fun _=>RdN.own .here) (fun _=>(by first|rfl|exact Ent.len _)) ?_)
  refine Go.Tan.b1 rfl fE aAW (.u rfl) rfl rfl (by decide) ?_; intro b136
  refine fR (xs:=acc) ({ (fK (yb key)).1 with value:=aN L113 }) rfl fE aAW rfl (.u rfl) (.u rfl) bP .here (Ent.len _) (Ent.one _) (by omega) (by unfold maxLen; omega) ?_; intro v137 ov137
  refine .g (aZ (m-1,key,v137,acc++[{ (fK (yb key)).1 with value:=aN L113 }],I31+n29+n31) ?_ ?_ ?_ ?_ ?_)
  ·exact (eY rfl (congrArg (Value.int .u64) (by dsimp only; omega)) (aA rfl (aA rfl (aA rfl eZ))))
  ·exact (mS .here rfl (mS aQ rfl mN))
  ·first|omega|(dsimp only; omega)
  ·exact (((hGl0).trans hG27).trans hG29).trans hG31
  refine ⟨?_,?_,?_,?_⟩
  ·(try dsimp only)<;>(rw [if_pos (by omega)] at htk; rw [hE]; exact aGG (by omega) htk)
  ·(try dsimp only)<;>(omega)
  ·(try dsimp only)<;>(rw [if_pos (by omega)] at htk; have ht:=aJV htk; rw [bQ,bQ,List.length_drop,List.length_drop] at ht; rw [List.length_append]; simp only [List.length_cons,List.length_nil]; omega)
  (try dsimp only)<;>(first|omega|rfl|assumption|(simp; done))
 have c1k:=c1
 try simp only [aC,aI,aD] at c1
 refine .exit (.xcode (.xlp (.xblk (.code (.seq (bE rfl rfl (mV rfl rfl (aS rfl rfl (.nc (.ret ?_))))))))))
 refine aEI .here (fun _ _=>rfl) (wG .here rfl (aA0)) ?_; intro GfRA hRA hleRA evRA hsRA; subst evRA
 refine aP Tryz.results107 (.tmp rfl .nil) ?_
 obtain rfl:m=0:=by rcases c1 with h | h; (omega); (first|exact absurd h (by decide)|(simp at h))
 exact ⟨hRA,acc,.inl (by rw [hE]; rfl),by omega,rfl,rfl,hsRA⟩
theorem aPY (xs:List Y) (h:Sh) (G:PM) (hs:SlR G 1 aL h xs) (hl:xs.length≤1000000):Ct Tryz.prog 65 ([h.val xs.length]:List Value).toArray G [] (fun G' μ' u=>∃ (h':Sh) (l:List Ent) (er:Int),(l,er)=gL xs∧μ'=[]∧u=.tuple #[h'.val l.length,.int .i64 er]∧SlR G' 4 Ent.cells h' l):=by
 refine Ct.of Tryz.func65 rfl Tryz.ntmps65 rfl fun w0 hs0=>?_
 refine .g (dB ([h.val xs.length,.int .i64 0,.int .i64 0]) rfl .no aAG (.cons (.u rfl) rfl .nil) rfl (rfl) ?_)
 refine bX rfl rfl rfl ?_; intro b12
 refine .g (ka rfl (.inr rfl) qX (aB rfl aE) (bR .here) (qI xs 0 0 h b12 _ hs (Nat.zero_le _) (by omega)) ?_)
 rintro _ G14 μ14 hG14 ⟨n14,I14,e14,hN14,hI14,rfl,rfl⟩
 have nL14:=iP hN14
 have hs:=hs.mono hG14
 refine .g (ka rfl (.inr rfl) qX (aB rfl aE) (bR .here) (qI xs I14 e14 h b12 _ hs hI14 (by omega)) ?_)
 rintro _ G16 μ16 hG16 ⟨n16,I16,e16,hN16,hI16,rfl,rfl⟩
 have nL16:=iP hN16
 have hs:=hs.mono hG16
 refine .g (nC rfl rfl (fZ rfl oV rfl (lO rfl eT rfl .here (by first|exact aJ rfl|rfl) ?_)))
 refine cP rfl rfl rfl rfl (mV rfl rfl (mv rfl (.f rfl rfl) (.u rfl) (cp rfl (.f rfl rfl) (.s rfl) (.u rfl) rfl (cQ rfl .no (.u rfl) (.s rfl) (.g (cD rfl (fun c1=>?_) (fun c1=>?_)))))))
 ·have c1k:=c1
  try simp only [aC,aI,aD] at c1
  refine .seq (bE rfl rfl (aS rfl rfl (aS rfl rfl (.nc (.ret (aP Tryz.results65 (.tmp rfl (.tmp rfl .nil)) ?_))))))
  exact ⟨⟨none,0⟩,[],100,aH4 hN14 hN16 (by omega),rfl,rfl,SlR.nul⟩
 have c1k:=c1
 try simp only [aC,aI,aD] at c1
 refine .skip (.code (.seq ?_))
 obtain rfl:e16=0:=by omega
 refine .g (ka rfl (.inr rfl) aS7 (aB rfl (aB rfl aE)) (bR .here) (aPj xs h I16 n16 b12 _ hs hI16 hl nL16) ?_)
 rintro _ G28 μ28 hG28 ⟨h28,l28,hE28,hll28,rfl,rfl,hs28⟩
 have hs:=hs.mono hG28
 refine .g (cw rfl .no jL (.u rfl) (fun _=>cB (by omega) (by omega)) ?_)
 refine kc rfl aTb (aB rfl (aB rfl aE)) (aPX h28 l28 (n14:Int) _ hs28 (by omega)) ?_
 rintro _ G33 μ33 hG33 ⟨v33,L33,er33,hB33,rfl,rfl⟩
 have hs:=hs.mono hG33
 have hs28:=hs28.mono hG33
 refine .p (eX rfl rfl rfl (eX rfl rfl rfl (aS rfl rfl (aS rfl rfl (.nc (.seq (.seq ?_)))))))
 refine iV .here (by first|(intro b hb; cases hb; done) | simp [keys,Res.keys]) ?_; intro GfR33 hR33 hleR33 evR33 hsR33; subst evR33
 have hs:=hs.mono hleR33
 have hs28:=hs28.mono hleR33
 refine .g (cP rfl rfl rfl rfl (mV rfl rfl (mv rfl (.f rfl rfl) (.u rfl) (sB rfl (.f rfl rfl) mC (.s rfl) (fun hc=>hsR33.sc) ?_))))
 refine mv rfl (.f rfl rfl) (.u rfl) (sB rfl (.f rfl rfl) mC (.s rfl) (fun hc=>hs.sc) ?_)
 refine cbn rfl (.f rfl rfl) (.s rfl) (.s rfl) ?_
 refine cQ rfl .no (.u rfl) (.s rfl) (.g (cD rfl (fun c2=>?_) (fun c2=>?_)))
 ·have c2k:=c2
  try simp only [aC,aI,aD] at c2
  refine .seq (bE rfl rfl (aS rfl rfl (aS rfl rfl (.nc (.ret (aP Tryz.results65 (.tmp rfl (.tmp rfl .nil)) ?_))))))
  exact ⟨⟨none,0⟩,[],100,(by rcases hE28 with hE | ⟨hE,_,_⟩; (exact aH2 hN14 hN16 ⟨rfl,by omega⟩ hE hB33 c2); (exact aH5 hN14 hN16 ⟨rfl,by omega⟩ hE)),rfl,rfl,SlR.nul⟩
 have c2k:=c2
 try simp only [aC,aI,aD] at c2
 refine .skip (.code (.seq (fC rfl rfl (mV rfl rfl (aS rfl rfl (aS rfl rfl (.nc (.ret (aP Tryz.results65 (.tmp rfl (.tmp rfl .nil)) ?_)))))))))
 rcases hE28 with hE | ⟨hE,rfl,hne⟩
 ·exact ⟨h28,l28,0,aH3 hN14 hN16 ⟨rfl,by omega⟩ hE hB33 c2.1 c2.2,rfl,rfl,hs28⟩
 exact absurd c2.2 (aPw hN14 hN16 hne hB33 c2.1)
theorem aTd:aT Tryz.prog 62=true:=by kernel_rfl
theorem aKv:aT Tryz.prog 63=true:=by kernel_rfl
theorem aTe:aT Tryz.prog 64=true:=by kernel_rfl
theorem aTf:aT Tryz.prog 65=true:=by kernel_rfl
theorem aTg:aT Tryz.prog 66=true:=by kernel_rfl
set_option maxHeartbeats 2000000 in
theorem aPa (root:Nat→Y) (m:Meta) (xs:List Y) (hx:Sh) (user:ByteArray) (seq:BitVec 64) (G:PM) (hw:m.wf) (hs:SlR G 1 aL hx xs) (hR:RdNP G 0 0 (wa 64 kW)) (hl:xs.length≤1000000) (hu:user.size≤1000000000000000):Ct Tryz.prog 13 ([.agg (ba 32 root).toArray,m.val,hx.val xs.length,.string user,uv .u64 seq]:List Value).toArray G [] (fun _ μ' u=>μ'=[]∧u=.tuple #[(((gB root m xs user seq).getD none).getD Ent.zero).val,.bool ((gB root m xs user seq).getD none).isSome,.int .i64 (aGe (gB root m xs user seq))]):=by
 refine Ct.of Tryz.func13 rfl Tryz.ntmps13 rfl fun w0 hs0=>?_
 refine .seq (nQ rfl rfl ?_)
 refine bX rfl rfl rfl ?_; intro b5
 refine bX rfl rfl rfl ?_; intro b6
 refine al rfl iT ?_; intro b10
 refine aS rfl rfl (aS rfl rfl (.nc (.seq ?_)))
 refine fM aQ (by intro b hb; cases hb) ?_; intro Gfb5 hleb5 hbb5
 have hs:=hs.mono hleb5
 have hR:=hR.mono hleb5
 refine fM aF (by intro b hb; cases hb) ?_; intro Gfb6 hleb6 hbb6
 have hs:=hs.mono hleb6
 have hR:=hR.mono hleb6
 have hbb5:=hbb5.mono hleb6
 refine .g (lA rfl .no cK (.u rfl) (fun _=>(hbb5.rdn (m:=32) (cs':=_) (by first|exact jC|exact gS|exact jB)).rd) (fun _=>(aU _ _)) ?_)
 refine lA rfl .no lF (.u rfl) (fun _=>(hbb6.rdn (m:=40) (cs':=m.cells) (rfl)).rd) (fun _=>(Meta.len _)) ?_
 refine .p (kc rfl aTd (aB rfl (aB rfl (aB rfl aE))) (aPb root m xs hx _ hw hs hR hl) ?_)
 rintro _ G30 μ30 hG30 ⟨hq30,hb30,hz30,hd30,qs,bs,zs,ds,er30,hP30,hql,rfl,rfl,hsq,hsb,hsz,hsd⟩
 have hR:=hR.mono hG30
 have hbb5:=hbb5.mono hG30
 have hbb6:=hbb6.mono hG30
 refine .p (eX rfl rfl rfl (eX rfl rfl rfl (eX rfl rfl rfl ?_)))
 refine al rfl aAT ?_; intro b14
 refine .p (sw rfl (.u rfl) (.u rfl) rfl oU .here rfl (mM rfl rfl rfl) ?_)
 refine .g (cP rfl rfl rfl rfl (.g (cD rfl (fun c1=>?_) (fun c1=>?_))))
 ·have c1k:=c1
  try simp only [aC,aI,aD] at c1
  refine .g (dB (Ent.zero.cells) rfl .no jR .nil rfl (rfl) ?_)
  refine .p (sw rfl (.u rfl) (.u rfl) rfl dD aF rfl (Ent.one _) ?_)
  refine aS rfl rfl (aS rfl rfl (.nc (.ret (aP Tryz.results13 (.cell rfl (fun w hw=>bK cC (RdN.own .here) (Ent.len _) hw) (.tmp rfl (.tmp rfl .nil))) ?_))))
  obtain ⟨rfl,hN,_⟩:=aPH hP30 (by simpa using c1)
  rw [aGo hN]
  exact ⟨rfl,rfl⟩
 have c1k:=c1
 try simp only [aC,aI,aD] at c1
 refine .skip (.code (.seq ?_))
 obtain ⟨rows,ix,hB,h2r,hqs,hbs,hzs,hds⟩:=aPJ hP30 (by simpa using c1)
 have lql:qs.length=rows.length+1:=by have:=congrArg List.length hqs; simpa using this
 have lbl:bs.length=rows.length-1:=by rw [hbs,List.length_map,List.length_take]; omega
 have ldl:ds.length=rows.length:=by rw [hds,List.length_map]
 obtain ⟨xf,exf⟩:=eG (k:=bs.length) (xs:=rows) (by omega)
 have hsm:=aPI hB
 have e9:rows.getD (rows.length-1) iD=xf:=by rw [← lbl]; exact aIV exf
 refine .g (fZ rfl aAJ rfl (lO rfl aBt rfl .here (by first|exact aJ rfl|rfl) ?_))
 refine lE rfl vJ rfl (.g (bH (mc:=⟨false,false⟩) [0,1,2,3,4,5,6,7,8,9,10,11,12,13,14,15,16] aV (by kernel_rfl) ?_))
 refine lA rfl .no cK (.u rfl) (fun _=>(hbb5.rdn (m:=32) (cs':=_) (by first|exact jC|exact gS|exact jB)).rd) (fun _=>(aU _ _)) ?_
 refine lA rfl .no lF (.u rfl) (fun _=>(hbb6.rdn (m:=40) (cs':=m.cells) (rfl)).rd) (fun _=>(Meta.len _)) ?_
 refine mV rfl rfl (mV rfl rfl (ih rfl .no jN (.u rfl) (.u rfl) (by omega) (by omega) (fun _=>hsq.sl.nn (k:=bs.length) (by omega)) ?_))
 obtain ⟨p47,ep47⟩:=eG (k:=bs.length) (xs:=qs) (by omega)
 have hq47:=hsq.get ep47
 refine lN rfl bZ rfl ((hsq.at (bs.length) (by omega) ep47).rd) ?_
 refine fZ rfl oR rfl (lO rfl pQ rfl .here (by first|exact aJ rfl|rfl) ?_)
 refine mV rfl rfl (ih rfl .no dN (.u rfl) (.u rfl) (by omega) (by omega) (fun _=>hsd.nn (k:=bs.length) (by first|omega|(simp only [Bool.and_eq_true,decide_eq_true_eq,Bool.not_eq_true',Bool.or_eq_false_iff,decide_eq_false_iff_not,beq_iff_eq,beq_eq_false_iff_ne,ne_eq] at hc; omega)|(simp only [List.length_cons,List.length_nil]; omega))) ?_)
 obtain ⟨d52,ed52⟩:=eG (k:=bs.length) (xs:=ds) (by omega)
 refine lA rfl .no cK (.u rfl) (fun _=>(hsd.at (by omega) ed52).rd) (fun _=>aU _ _) ?_
 have e1:=aHo hqs exf ep47; have e2:=aG9 hds exf ed52; have e3:=hsm xf (List.mem_of_getElem? exf)
 refine kc rfl aKv (aB rfl (aB rfl (aB rfl (aB rfl (aB rfl aE))))) (aHv root m xf 1 p47.2 d52 p47.1 _ e1 e2 hw hq47 hR (by rw [e1]; omega) (by omega)) ?_
 rintro _ G53 μ53 hG53 ⟨h53,L53,ok53,hW53,rfl,rfl,hs53⟩
 have hl53:=hW53.len
 have hR:=hR.mono hG53
 have hbb5:=hbb5.mono hG53
 have hbb6:=hbb6.mono hG53
 have hsq:=hsq.mono hG53
 have hsb:=hsb.mono hG53
 have hsd:=hsd.mono hG53
 refine .p (eX rfl rfl rfl (eX rfl rfl rfl (.g (nt rfl .no (.u rfl) (.g (cD rfl (fun c2=>?_) (fun c2=>?_)))))))
 ·have c2k:=c2
  try simp only [aC,aI,aD] at c2
  refine .g (dB (Ent.zero.cells) rfl .no jR .nil rfl (rfl) ?_)
  refine sw rfl (.u rfl) (.u rfl) rfl dD aF rfl (Ent.one _) ?_
  refine aS rfl rfl (aS rfl rfl (.nc (.ret (aP Tryz.results13 (.cell rfl (fun w hw=>bK cC (RdN.own .here) (Ent.len _) hw) (.tmp rfl (.tmp rfl .nil))) ?_))))
  rw [rM hB (by rw [e9]; exact aSa hW53 (by simpa using c2k))]
  exact ⟨rfl,rfl⟩
 have c2k:=c2
 try simp only [aC,aI,aD] at c2
 refine .g (kV rfl aTe (aB rfl (aB rfl aE)) (aPp h53 L53 user _ hs53 (by omega) hu) ?_)
 refine nt rfl .no (.u rfl) (.g (cD rfl (fun c3=>?_) (fun c3=>?_)))
 ·have c3k:=c3
  try simp only [aC,aI,aD] at c3
  refine .g (dB (Ent.zero.cells) rfl .no jR .nil rfl (rfl) ?_)
  refine sw rfl (.u rfl) (.u rfl) rfl dD aF rfl (Ent.one _) ?_
  refine aS rfl rfl (aS rfl rfl (.nc (.ret (aP Tryz.results13 (.cell rfl (fun w hw=>bK cC (RdN.own .here) (Ent.len _) hw) (.tmp rfl (.tmp rfl .nil))) ?_))))
  rw [aGp (seq:=seq) hB (by rw [e9]; exact aJn hW53 (by simpa using c2k)) (by simpa using c3k)]
  exact ⟨rfl,rfl⟩
 have c3k:=c3
 try simp only [aC,aI,aD] at c3
 refine .skip (.code (.seq ?_))
 have hgr:=aGq (seq:=seq) hB (by rw [e9]; exact aJn hW53 (by simpa using c2k)) (by simpa using c3k)
 refine aM rfl rfl (aS rfl rfl (.nc (.seq (.block ?_))))
 refine bD (α:=Nat) (fun i=>[(19,true,.int .i64 (i:Int))]) (fun _=>[])
  (fun i Gl=>(i≤bs.length)∧(∀ j s,j<i→bs[j]? = some s→lt s user=true)) (fun i=>bs.length-i) 0 [(3,true,_),(4,true,_),(5,true,_),(6,true,_),(10,true,_),(13,true,_),(14,true,_),(16,true,_)] [_,_]
  (aO rfl (aA rfl (aA rfl (aA rfl (aA rfl (aA rfl (aA rfl (aA rfl (aA rfl eZ)))))))))
  (mS .here rfl (mS .here rfl mN)) ?_ ?_
 ·refine ⟨?_,?_⟩
  ·(try dsimp only)<;>(first|omega|rfl|assumption|(simp; done))
  (try dsimp only)<;>(exact fun j s h=>absurd h (Nat.not_lt_zero _))
 intro i N0 Gl0 hN0 hGl0 hF0
 try dsimp only at hF0 hN0 ⊢
 obtain ⟨hi,hlt⟩:=hF0
 have hR:=hR.mono hGl0
 have hbb5:=hbb5.mono hGl0
 have hbb6:=hbb6.mono hGl0
 have hsq:=hsq.mono hGl0
 have hsb:=hsb.mono hGl0
 have hsd:=hsd.mono hGl0
 refine .g (cP rfl rfl rfl rfl (.p (fz rfl (.t rfl rfl) aAJ (.u rfl) (ld rfl (.t rfl rfl) aBt (.s rfl) (fun hc=>Rd.own .here (by first|exact aJ rfl|rfl)) ?_))))
 refine mv rfl (.t rfl rfl) (.u rfl) (ih rfl (.t rfl rfl) jA (.s rfl) (.s rfl) (fun hc=>by (try simp only [Bool.and_eq_true,decide_eq_true_eq,Bool.not_eq_true',Bool.or_eq_false_iff,decide_eq_false_iff_not,beq_iff_eq,beq_eq_false_iff_ne,ne_eq] at hc); omega) (fun hc=>by (try simp only [Bool.and_eq_true,decide_eq_true_eq,Bool.not_eq_true',Bool.or_eq_false_iff,decide_eq_false_iff_not,beq_iff_eq,beq_eq_false_iff_ne,ne_eq] at hc); omega) (fun hc=>hsb.nn (k:=i) (by first|omega|(simp only [Bool.and_eq_true,decide_eq_true_eq,Bool.not_eq_true',Bool.or_eq_false_iff,decide_eq_false_iff_not,beq_iff_eq,beq_eq_false_iff_ne,ne_eq] at hc; omega)|(simp only [List.length_cons,List.length_nil]; omega))) ?_)
 refine ld rfl (.t rfl rfl) cE (.s rfl) (fun hc=>(hsb.t1 i (by (try simp only [Bool.and_eq_true,decide_eq_true_eq,Bool.not_eq_true',Bool.or_eq_false_iff,decide_eq_false_iff_not,beq_iff_eq,beq_eq_false_iff_ne,ne_eq] at hc); omega) (yR (z:=eC) (k:=i) (by (try simp only [Bool.and_eq_true,decide_eq_true_eq,Bool.not_eq_true',Bool.or_eq_false_iff,decide_eq_false_iff_not,beq_iff_eq,beq_eq_false_iff_ne,ne_eq] at hc); omega))).rd) ?_
 refine mv rfl (.t rfl rfl) (.u rfl) (cs rfl (.t rfl rfl) (.s rfl) (.s rfl) rfl (cG rfl .no (.u rfl) (.s rfl) (.g (cD rfl (fun c4=>?_) (fun c4=>?_)))))
 ·have c4k:=c4
  try simp only [aC,aI,aD] at c4
  refine .g (aW (((i+1):Nat):Int) rfl rfl rfl rfl ?_)
  refine .g (aZ (i+1) ?_ ?_ ?_ ?_ ?_)
  ·exact (aO rfl (aA rfl (aA rfl (aA rfl (aA rfl (aA rfl (aA rfl (aA rfl (aA rfl eZ)))))))))
  ·exact (mS .here rfl (mS .here rfl mN))
  ·first|omega|(dsimp only; omega)
  ·exact hGl0
  refine ⟨?_,?_⟩
  ·(try dsimp only)<;>(first|omega|rfl|assumption|(simp; done))
  (try dsimp only)<;>(exact aMN hlt (yR (z:=eC) (k:=i) (by omega)) c4.2)
 have c4k:=c4
 try simp only [aC,aI,aD] at c4
 refine .exit (.xcode (.xlp (.xblk (.code (.seq (.block ?_))))))
 rw [aNV hbs hlt hi (aMO c4k),←lbl] at hgr
 refine bD (α:=Nat) (fun k=>[(19,true,.int .i64 (k:Int))]) (fun _=>[])
  (fun k Gl=>(k≤bs.length)∧(gB root m xs user seq=fP root (bI m) rows user seq (bs.length-k) k)) (fun k=>bs.length-k) i [(3,true,_),(4,true,_),(5,true,_),(6,true,_),(10,true,_),(13,true,_),(14,true,_),(16,true,_)] [_,_]
  (aO rfl (aA rfl (aA rfl (aA rfl (aA rfl (aA rfl (aA rfl (aA rfl (aA rfl eZ)))))))))
  (mS .here rfl (mS .here rfl mN)) ?_ ?_
 ·refine ⟨?_,?_⟩
  ·(try dsimp only)<;>(first|omega|rfl|assumption|(simp; done))
  (try dsimp only)<;>(exact hgr)
 intro k N1 Gl1 hN1 hGl1 hF1
 try dsimp only at hF1 hN1 ⊢
 obtain ⟨hk,hI⟩:=hF1
 have hR:=hR.mono hGl1
 have hbb5:=hbb5.mono hGl1
 have hbb6:=hbb6.mono hGl1
 have hsq:=hsq.mono hGl1
 have hsd:=hsd.mono hGl1
 refine .g (cP rfl rfl rfl rfl (.g (cD rfl (fun c5=>?_) (fun c5=>?_))))
 ·have c5k:=c5
  try simp only [aC,aI,aD] at c5
  refine .skip (.code (.seq (.block (.seq ?_))))
  obtain ⟨x9,ex9⟩:=eG (k:=k) (xs:=rows) (by omega)
  obtain ⟨hst1,hst2⟩:=aGl (n:=bs.length) (j:=k) (by omega) hI
  refine bH (mc:=⟨false,false⟩) [0,1,2,3,4,5,6,7,8,9,10,11,12,13,14,15,16,17,18] aV (by kernel_rfl) ?_
  refine lA rfl .no cK (.u rfl) (fun _=>(hbb5.rdn (m:=32) (cs':=_) (by first|exact jC|exact gS|exact jB)).rd) (fun _=>(aU _ _)) ?_
  refine lA rfl .no lF (.u rfl) (fun _=>(hbb6.rdn (m:=40) (cs':=m.cells) (rfl)).rd) (fun _=>(Meta.len _)) ?_
  refine mV rfl rfl (mV rfl rfl (ih rfl .no jN (.u rfl) (.u rfl) (by omega) (by omega) (fun _=>hsq.sl.nn (k:=k) (by omega)) ?_))
  obtain ⟨p89,ep89⟩:=eG (k:=k) (xs:=qs) (by omega)
  have hq89:=hsq.get ep89
  refine lN rfl bZ rfl ((hsq.at (k) (by omega) ep89).rd) ?_
  refine fZ rfl oR rfl (lO rfl pQ rfl .here (by first|exact aJ rfl|rfl) ?_)
  refine mV rfl rfl (ih rfl .no dN (.u rfl) (.u rfl) (by omega) (by omega) (fun _=>hsd.nn (k:=k) (by first|omega|(simp only [Bool.and_eq_true,decide_eq_true_eq,Bool.not_eq_true',Bool.or_eq_false_iff,decide_eq_false_iff_not,beq_iff_eq,beq_eq_false_iff_ne,ne_eq] at hc; omega)|(simp only [List.length_cons,List.length_nil]; omega))) ?_)
  obtain ⟨d94,ed94⟩:=eG (k:=k) (xs:=ds) (by omega)
  refine lA rfl .no cK (.u rfl) (fun _=>(hsd.at (by omega) ed94).rd) (fun _=>aU _ _) ?_
  refine .p (aW (((2+k):Nat):Int) rfl rfl rfl rfl ?_)
  have e1:=aHo hqs ex9 ep89; have e2:=aG9 hds ex9 ed94; have e3:=hsm x9 (List.mem_of_getElem? ex9)
  refine kc rfl aKv (aB rfl (aB rfl (aB rfl (aB rfl (aB rfl aE))))) (aHv root m x9 (2+k) p89.2 d94 p89.1 _ e1 e2 hw hq89 hR (by rw [e1]; omega) (by omega)) ?_
  rintro _ G97 μ97 hG97 ⟨h97,L97,ok97,hW97,rfl,rfl,hs97⟩
  have hl97:=hW97.len
  refine .p (eX rfl rfl rfl (eX rfl rfl rfl (.g (kc rfl aTf (aB rfl aE) (aPY L97 h97 _ hs97 (by omega)) ?_))))
  rintro _ G102 μ102 hG102 ⟨h102,l102,er102,hR102,rfl,rfl,hs102⟩
  have hll102:=aP3 hR102
  refine .p (eX rfl rfl rfl (eX rfl rfl rfl (.g (nt rfl .no (.u rfl) (mV rfl rfl (mv rfl (.f rfl rfl) (.u rfl) (cp rfl (.f rfl rfl) (.s rfl) (.u rfl) rfl (cQ rfl .no (.u rfl) (.s rfl) (.g (cD rfl (fun c6=>?_) (fun c6=>?_)))))))))))
  ·have c6k:=c6
   try simp only [aC,aI,aD] at c6
   refine .g (dB (Ent.zero.cells) rfl .no jR .nil rfl (rfl) ?_)
   refine sw rfl (.u rfl) (.u rfl) rfl dD aF rfl (Ent.one _) ?_
   refine aS rfl rfl (aS rfl rfl (.nc (.ret (aP Tryz.results13 (.cell rfl (fun w hw=>bK cC (RdN.own .here) (Ent.len _) hw) (.tmp rfl (.tmp rfl .nil))) ?_))))
   rw [hst1 (aNA ex9 hW97 hR102 c6k)]
   exact ⟨rfl,rfl⟩
  have c6k:=c6
  try simp only [aC,aI,aD] at c6
  refine .skip (.code (.seq ?_))
  have hE:=aNB ex9 hW97 hR102 c6k
  refine .g (kV rfl aTg (aB rfl (aB rfl (aB rfl aE))) (aNP h102 l102 user seq _ hs102 (by omega)) ?_)
  refine .p (eX rfl rfl rfl (eX rfl rfl rfl ?_))
  refine al rfl iT ?_; intro b24
  refine sw rfl (.u rfl) (.u rfl) rfl dD .here rfl (Ent.one _) ?_
  refine .g (fz rfl (.t rfl rfl) gE (.u rfl) (ld rfl (.t rfl rfl) cE (.s rfl) (fun hc=>Rd.own .here (by first|exact aJ rfl|rfl)) ?_))
  refine mv rfl (.t rfl rfl) (.u rfl) (cs rfl (.t rfl rfl) (.s rfl) (.s rfl) rfl (cG rfl .no (.u rfl) (.s rfl) (.g (cD rfl (fun c7=>?_) (fun c7=>?_)))))
  ·have c7k:=c7
   try simp only [aC,aI,aD] at c7
   refine .g (lA rfl .no cC (.u rfl) (fun _=>RdN.own .here) (fun _=>Ent.len _) ?_)
   refine sw rfl (.u rfl) (.u rfl) rfl dD aQ rfl (Ent.one _) ?_
   refine aS rfl rfl (aS rfl rfl (.nc (.ret (aP Tryz.results13 (.cell rfl (fun w hw=>bK cC (RdN.own .here) (Ent.len _) hw) (.tmp rfl (.tmp rfl .nil))) ?_))))
   obtain ⟨e8,he8,hu8⟩:=aNT c7k
   have hq8:=(hst2 _ hE).2 e8 he8
   rw [if_pos hu8] at hq8
   rw [hq8]
   exact ⟨rfl,by rw [he8]; rfl⟩
  have c7k:=c7
  try simp only [aC,aI,aD] at c7
  refine .g (cD rfl (fun c8=>?_) (fun c8=>?_))
  ·have c8k:=c8
   try simp only [aC,aI,aD] at c8
   refine .g (dB (Ent.zero.cells) rfl .no jR .nil rfl (rfl) ?_)
   refine sw rfl (.u rfl) (.u rfl) rfl dD aQ rfl (Ent.one _) ?_
   refine aS rfl rfl (aS rfl rfl (.nc (.ret (aP Tryz.results13 (.cell rfl (fun w hw=>bK cC (RdN.own .here) (Ent.len _) hw) (.tmp rfl (.tmp rfl .nil))) ?_))))
   obtain ⟨e8,he8,hu8⟩:=aNS c7k (by simpa using c8k)
   have hq8:=(hst2 _ hE).2 e8 he8
   rw [if_neg hu8] at hq8
   rw [hq8]
   exact ⟨rfl,rfl⟩
  have c8k:=c8
  try simp only [aC,aI,aD] at c8
  refine .g (aW (((k+1):Nat):Int) rfl rfl rfl rfl ?_)
  refine .g (aZ (k+1) ?_ ?_ ?_ ?_ ?_)
  ·exact (aO rfl (aA rfl (aA rfl (aA rfl (aA rfl (aA rfl (aA rfl (aA rfl (aA rfl eZ)))))))))
  ·exact (mS aF rfl (mS aF rfl mN))
  ·first|omega|(dsimp only; omega)
  ·exact ((hGl1).trans hG97).trans hG102
  refine ⟨?_,?_⟩
  ·(try dsimp only)<;>(first|omega|rfl|assumption|(simp; done))
  (try dsimp only)<;>(exact (hst2 _ hE).1 (aNR (fo:=fU l102 user seq) c8k))
 have c5k:=c5
 try simp only [aC,aI,aD] at c5
 refine .g (dB (Ent.zero.cells) rfl .no jR .nil rfl (rfl) ?_)
 refine sw rfl (.u rfl) (.u rfl) rfl dD aF rfl (Ent.one _) ?_
 refine aS rfl rfl (aS rfl rfl (.nc (.ret (aP Tryz.results13 (.cell rfl (fun w hw=>bK cC (RdN.own .here) (Ent.len _) hw) (.tmp rfl (.tmp rfl .nil))) ?_))))
 rw [hI,show bs.length-k=0 by omega]
 exact ⟨rfl,rfl⟩
theorem aSn:gG Tryz.prog 142 []=some ([],[]):=by kernel_rfl
def uE:PanicEntry:={ v:=.iface 142 (.agg #[]),recovered:=false }
def aMM:PanicEntry:={ v:=.iface 142 (.agg #[]),recovered:=true }
theorem oH (b:Bool) (G:PM):Cp Tryz.prog 67 ([.bool b]:List Value).toArray G [] (fun _ μ' u=>b=true∧μ'=[]∧u=.tuple #[]) (fun ch=>ch=[uE]∧b=false):=by
 refine Cp.of Tryz.func67 rfl Tryz.ntmps67 rfl fun w0 hs0=>?_
 refine .g (nt rfl .no (.u rfl) (.g (cD rfl (fun c1=>?_) (fun c1=>?_))))
 ·refine .g (dB [] rfl .no aSn .nil rfl (rfl) ?_)
  refine .read (v:=.iface 142 (.agg #[])) rfl (.inr rfl) .no (fun _ a w ha _=>?_) ?_
  ·have h5:a.eval (.tmp 4)=.agg #[]:=ha.eval (c:=true) rfl rfl
   simp only [execOp,h5]
   unfold Instr.makeInterface
   simp [Sem.run_bind,run_underlying Tryz.underlying142]
  refine pnc rfl rfl (fun _ _ _ _=>⟨rfl,by simpa using c1⟩)
 refine .g (aP Tryz.results67 .nil ?_)
 exact ⟨by simpa using c1,rfl,rfl⟩
theorem aDa (root:Nat→Y) (h:Hd) (ha:Sh) (vr vi:Value) (b part:Nat) (xs:List Y) (hx:Sh) (G:PM) (hsa:SlR G 1 aL ha (aY h)) (hsx:SlR G 1 aL hx xs) (hK:RdNP G 1 0 (wa 64 kW)) (hlx:xs.length≤1000000) (hp:part≤1000000000):Cp Tryz.prog 94 ([.pointer (some ⟨b,0,none⟩),.int .i64 (part:Int),hx.val xs.length]:List Value).toArray G [.blk b (cl (dQ (dJ root (aY h)) (dK root (aY h)) (ha.val (aY h).length) vr vi) 98)] (fun G' μ' u=>∃ L h',gX root h part xs=some L∧μ'=[.blk b (cl (dQ (dJ root (aY h)) (dK root (aY h)) (ha.val (aY h).length) vr vi) 98)]∧u=Sh.val h' L.length∧SlR G' 1 aL h' L) (fun ch=>ch=[uE]∧(gX root h part xs=none)):=by
 refine Cp.of Tryz.func94 rfl Tryz.ntmps94 rfl fun w0 hs0=>?_
 refine .g (bH (mc:=⟨false,false⟩) [0,1,2,3,4,5,7,8,9,10,11,6,12,13,14,15,16,17] aV (by kernel_rfl) ?_)
 refine .p (nC rfl rfl (fZ rfl aKN rfl (lA rfl .no pP (.u rfl) (fun _=>RdN.part (n:=64) (cs':=ba 32 (dJ root (aY h))++ba 32 (dK root (aY h))) .here (aEN)) (fun _=>(by first|exact qE|exact qL|rfl)) ?_)))
 refine .p (ci rfl .no rfl cX (.u rfl) ?_)
 refine .p (nC rfl rfl (fZ rfl aKO rfl (lN rfl bZ rfl (Rd.own .here aEM) ?_)))
 refine .p (kV rfl aEz (aB rfl aE) (aCD _ _) ?_)
 refine kc rfl aKV (aB rfl (aB rfl (aB rfl (aB rfl aE)))) (aE9 (dJ root (aY h)) (dK root (aY h)) (iB (BitVec.ofInt 64 (part:Int))) (aY h) ha xs hx _ hsa hsx hK (by rw [mK]; decide) (by omega)) ?_
 rintro _ G22 μ22 hG22 ⟨v22,L22,e22,hO22,rfl,rfl⟩
 refine .p (eX rfl rfl rfl (eX rfl rfl rfl (.g (cP rfl rfl rfl rfl (nI rfl iS (aB rfl aE) (oH _ _) (fun ch G9 ρ9 μ9 hle9 hd he hm=>⟨hd.1,aHa (o:=gX root h part xs) hO22 hd.2⟩) ?_)))))
 rintro _ G27 μ27 hG27 ⟨hq27,rfl,rfl⟩
 refine .nil (.code (.seq (bE rfl rfl (mV rfl rfl (aS rfl rfl (.nc (.ret ?_)))))))
 refine aBk .here (wG .here rfl (aA0)) ?_; intro GfR22 hR22 hleR22 evR22 hsR22; subst evR22
 refine We.fin Tryz.results94 (.tmp rfl .nil) (mS .here rfl mN) ?_
 exact ⟨L22,hR22,aHb (o:=gX root h part xs) hO22 hq27,rfl,rfl,hsR22⟩
theorem rZ (root:Nat→Y) (h:Hd) (ps:List (RowT×Sh)) (ix:List Y) (ha hr hi:Sh) (b:Nat) (G:PM) (hR:RdrR G h ps ix ha hr hi) (hK:RdNP G 1 0 (wa 64 kW)) (i part:Nat) (p:RowT×Sh) (hp:ps[i]? = some p) (hpt:part≤1000000000):Cp Tryz.prog 56 ([.pointer (some ⟨b,0,none⟩),.int .i64 (i:Int),.int .i64 (part:Int)]:List Value).toArray G [.blk b (cl (dQ (dJ root (aY h)) (dK root (aY h)) (ha.val (aY h).length) (hr.val ps.length) (hi.val ix.length)) 98)] (fun G' μ' u=>∃ L h',dP root h p.1 part=some L∧μ'=[.blk b (cl (dQ (dJ root (aY h)) (dK root (aY h)) (ha.val (aY h).length) (hr.val ps.length) (hi.val ix.length)) 98)]∧u=Sh.val h' L.length∧SlR G' 1 aL h' L) (fun ch=>ch=[uE]∧(dP root h p.1 part=none)):=by
 refine Cp.of Tryz.func56 rfl Tryz.ntmps56 rfl fun w0 hs0=>?_
 have hpm:=List.mem_of_getElem? hp
 have hpe:=hR.each p hpm; have hsm:=hR.sm p hpm
 have hil:=(List.getElem?_eq_some_iff.1 hp).1; have hpl:=hR.len
 refine .g (nC rfl rfl (fZ rfl mX rfl (lN rfl qT rfl (Rd.own .here kZ) ?_)))
 refine mV rfl rfl (ih rfl .no nW (.u rfl) (.u rfl) (by omega) (by omega) (fun _=>hR.rows.nn (k:=i) (by first|omega|(simp only [Bool.and_eq_true,decide_eq_true_eq] at hc; omega)|(simp only [List.length_cons,List.length_nil]; omega))) ?_)
 refine lA rfl .no vA (.u rfl) (fun _=>(hR.rows.at (by omega) hp).rd) (fun _=>mR) ?_
 refine al rfl aCA ?_; intro b7
 refine sw rfl (.u rfl) (.u rfl) rfl aK5 .here rfl (aIT _) ?_
 refine .nil (.code (.seq (dS ⟨true,false⟩ aV (by kernel_rfl) ?_)))
 refine Wp.one 0 (by kernel_rfl) ?_
 refine fZ rfl sC rfl (.nil (Wp.one 1 (by kernel_rfl) ?_))
 refine lO rfl bZ rfl .here (by first|exact aJ rfl|rfl) ?_
 refine .nil (Wp.one 3 (by kernel_rfl) ?_)
 refine fZ rfl qV rfl (.nil (Wp.b2 2 4 (by kernel_rfl) ?_ ?_))
 ·refine kV rfl xN (aB rfl aE) (wJ p.1.bytes p.2 _ hpe hK (by omega)) ?_
  refine .nil (Wp.one 4 (by kernel_rfl) ?_)
  refine lA rfl .no cK (.u rfl) (fun _=>RdN.part (n:=32) (cs':=ba 32 p.1.leaf) .here (aDt)) (fun _=>(by first|exact mR|exact aU _ _|rfl)) ?_
  refine .nil (Wp.one 5 (by kernel_rfl) ?_)
  refine yP rfl .no vC (.u rfl) (.u rfl) ?_
  refine .nil (vO 6 (by kernel_rfl) (by kernel_rfl) ?_)
  refine nI rfl iS (aB rfl aE) (oH _ _) (fun ch G9 ρ9 μ9 hle9 hd he hm=>⟨hd.1,aJi hd.2⟩) ?_
  rintro _ G21 μ21 hG21 ⟨hq21,rfl,rfl⟩
  have hR:=hR.mono hG21
  have hK:=hK.mono hG21
  have hpe:=hpe.mono hG21
  refine .nil (Wp.last (by kernel_rfl) ?_)
  refine .g (fZ rfl sC rfl (lO rfl bZ rfl .here (by first|exact aJ rfl|rfl) ?_))
  refine nJ rfl aAQ (aB rfl (aB rfl (aB rfl aE))) (bR aF) (aDa root h ha _ _ b part p.1.bytes p.2 _ hR.ad hpe hK hsm hpt) (fun ch G9 ρ9 μ9 hle9 hd he hm=>⟨hd.1,(aBl hq21).trans hd.2⟩) ?_
  rintro _ G26 μ26 hG26 ⟨L26,h26,hO26,rfl,rfl,hs26⟩
  have hR:=hR.mono hG26
  have hK:=hK.mono hG26
  have hpe:=hpe.mono hG26
  refine aS rfl rfl (.nc (.ret (We.fin Tryz.results56 (.tmp rfl .nil) (mS .here rfl mN) ?_)))
  exact ⟨L26,h26,(aBl hq21).trans hO26,rfl,rfl,hs26⟩
 refine lA rfl .no cK (.u rfl) (fun _=>RdN.part (n:=32) (cs':=ba 32 p.1.leaf) .here (aDt)) (fun _=>(by first|exact mR|exact aU _ _|rfl)) ?_
 refine .nil (Wp.b1 2 (by kernel_rfl) ?_)
 refine kV rfl xN (aB rfl aE) (wJ p.1.bytes p.2 _ hpe hK (by omega)) ?_
 refine .nil (Wp.one 5 (by kernel_rfl) ?_)
 refine yP rfl .no vC (.u rfl) (.u rfl) ?_
 refine .nil (vO 6 (by kernel_rfl) (by kernel_rfl) ?_)
 refine nI rfl iS (aB rfl aE) (oH _ _) (fun ch G9 ρ9 μ9 hle9 hd he hm=>⟨hd.1,aJi hd.2⟩) ?_
 rintro _ G21 μ21 hG21 ⟨hq21,rfl,rfl⟩
 have hR:=hR.mono hG21
 have hK:=hK.mono hG21
 have hpe:=hpe.mono hG21
 refine .nil (Wp.last (by kernel_rfl) ?_)
 refine .g (fZ rfl sC rfl (lO rfl bZ rfl .here (by first|exact aJ rfl|rfl) ?_))
 refine nJ rfl aAQ (aB rfl (aB rfl (aB rfl aE))) (bR aF) (aDa root h ha _ _ b part p.1.bytes p.2 _ hR.ad hpe hK hsm hpt) (fun ch G9 ρ9 μ9 hle9 hd he hm=>⟨hd.1,(aBl hq21).trans hd.2⟩) ?_
 rintro _ G26 μ26 hG26 ⟨L26,h26,hO26,rfl,rfl,hs26⟩
 refine aS rfl rfl (.nc (.ret (We.fin Tryz.results56 (.tmp rfl .nil) (mS .here rfl mN) ?_)))
 exact ⟨L26,h26,(aBl hq21).trans hO26,rfl,rfl,hs26⟩
theorem aNE (root:Nat→Y) (h:Hd) (ps:List (RowT×Sh)) (ix:List Y) (ha hr hi:Sh) (b:Nat) (G:PM) (hR:RdrR G h ps ix ha hr hi) (hK:RdNP G 1 0 (wa 64 kW)) (i:Nat) (p:RowT×Sh) (hp:ps[i]? = some p):Cp Tryz.prog 59 ([.pointer (some ⟨b,0,none⟩),.int .i64 (i:Int)]:List Value).toArray G [.blk b (cl (dQ (dJ root (aY h)) (dK root (aY h)) (ha.val (aY h).length) (hr.val ps.length) (hi.val ix.length)) 98)] (fun G' μ' u=>∃ l h',gV root h (ps.map (·.1)) i=some l∧μ'=[.blk b (cl (dQ (dJ root (aY h)) (dK root (aY h)) (ha.val (aY h).length) (hr.val ps.length) (hi.val ix.length)) 98)]∧u=Sh.val h' l.length∧SlR G' 4 Ent.cells h' l) (fun ch=>ch=[uE]∧(gV root h (ps.map (·.1)) i=none)):=by
 refine Cp.of Tryz.func59 rfl Tryz.ntmps59 rfl fun w0 hs0=>?_
 have hpm:=List.mem_of_getElem? hp
 have hsm:=hR.sm p hpm
 have hil:=(List.getElem?_eq_some_iff.1 hp).1; have hpl:=hR.len
 refine .g (aW (((2+i):Nat):Int) rfl rfl rfl rfl ?_)
 refine nJ rfl oT (aB rfl (aB rfl (aB rfl aE))) (bR .here) (rZ root h ps ix ha hr hi b _ hR hK i (2+i) p hp (by omega)) (fun ch G9 ρ9 μ9 hle9 hd he hm=>⟨hd.1,aM4 (tB rfl hp) hd.2⟩) ?_
 rintro _ G12 μ12 hG12 ⟨y,h12,hwy,rfl,rfl,hs12⟩
 have hly:=uY hwy
 refine kc rfl aKQ (aB rfl aE) (aFP y h12 _ hs12 (by omega)) ?_
 rintro _ G13 μ13 hG13 ⟨h13,l13,er13,hB13,rfl,rfl,hs13⟩
 refine .p (eX rfl rfl rfl (eX rfl rfl rfl (.g (cP rfl rfl rfl rfl (nI rfl iS (aB rfl aE) (oH _ _) (fun ch G9 ρ9 μ9 hle9 hd he hm=>⟨hd.1,aM5 (tB rfl hp) hwy hB13 hd.2⟩) ?_)))))
 rintro _ G18 μ18 hG18 ⟨hq18,rfl,rfl⟩
 have hs13:=hs13.mono hG18
 refine .nil (.code (.seq (bE rfl rfl (mV rfl rfl (aS rfl rfl (.nc (.ret (We.fin Tryz.results59 (.tmp rfl .nil) (mS .here rfl mN) ?_))))))))
 exact ⟨l13,h13,aM6 (tB rfl hp) hwy hB13 hq18,rfl,rfl,hs13⟩
theorem aRn {xs:List Y} {hx:Sh} {G:PM} {h:Hd} {er:Int} (hs:SlR G 1 aL hx xs) (hl:xs.length≤100000000000000) (e:hH xs=(h,er)):Ct Tryz.prog 91 ([hx.val xs.length]:List Value).toArray G [] (fun _ μ' u=>μ'=[]∧u=.tuple #[.agg h.cells.toArray,.int .i64 er]):=by
 have:=aFD xs hx G hs hl
 rw [e] at this
 exact this
set_option maxHeartbeats 4000000 in
theorem aL0 (root:Nat→Y) (m:Meta) (xs:List Y) (hx:Sh) (G:PM) (hw:m.wf) (hs:SlR G 1 aL hx xs) (hK:RdNP G 1 0 (wa 64 kW)) (hl:xs.length≤1000000):Cp Tryz.prog 54 ([.agg (ba 32 root).toArray,m.val,hx.val xs.length]:List Value).toArray G [] (fun G' μ' u=>∃ (ix:List Y) (b:Nat) (ps:List (RowT×Sh)) (ha hr hi:Sh),dZ root m xs=some (ps.map (·.1),ix)∧μ'=[.blk b (cl (dQ (dJ root (aY (bI m))) (dK root (aY (bI m))) (ha.val (aY (bI m)).length) (hr.val ps.length) (hi.val ix.length)) 98)]∧u=.pointer (some ⟨b,0,none⟩)∧RdrR G' (bI m) ps ix ha hr hi) (fun ch=>ch=[uE]∧(dZ root m xs=none)):=by
 refine Cp.of Tryz.func54 rfl Tryz.ntmps54 rfl fun w0 hs0=>?_
 obtain ⟨h9,er9,hT9⟩ : ∃ h9 er9,hH xs=(h9,er9):=⟨_,_,rfl⟩
 refine .seq (fC rfl rfl ?_)
 refine bX rfl rfl rfl ?_; intro b3
 refine bX rfl rfl rfl ?_; intro b4
 refine .g (kV rfl aKz (aB rfl aE) (aRn hs (by omega) hT9) ?_)
 refine .p (eX rfl rfl rfl (eX rfl rfl rfl ?_))
 refine al rfl rE ?_; intro b7
 refine sw rfl (.u rfl) (.u rfl) rfl mD .here rfl (lS rfl rfl rfl rfl rfl) ?_
 refine aS rfl rfl (.nc (.seq ?_))
 refine fM aQ (by intro b hb; cases hb) ?_; intro Gfb3 hleb3 hbb3
 have hs:=hs.mono hleb3
 have hK:=hK.mono hleb3
 refine fM aF (by intro b hb; cases hb) ?_; intro Gfb4 hleb4 hbb4
 have hs:=hs.mono hleb4
 have hK:=hK.mono hleb4
 have hbb3:=hbb3.mono hleb4
 refine fM .here (by intro b hb; cases hb) ?_; intro Gfb7 hleb7 hbb7
 have hs:=hs.mono hleb7
 have hK:=hK.mono hleb7
 have hbb3:=hbb3.mono hleb7
 have hbb4:=hbb4.mono hleb7
 refine dS ⟨true,false⟩ aV (by kernel_rfl) ?_
 refine Wp.one 0 (by kernel_rfl) ?_
 refine mV rfl rfl (.nil (Wp.one 1 (by kernel_rfl) ?_))
 refine lE rfl bL rfl (.nil (Wp.one 2 (by kernel_rfl) ?_))
 refine fA rfl aEj rfl (.nil (Wp.one 3 (by kernel_rfl) ?_))
 refine lN rfl dG rfl ((hbb4.rd (by rfl)).rd) ?_
 refine .nil (Wp.one 4 (by kernel_rfl) ?_)
 refine cP rfl rfl rfl rfl (.nil (Wp.one 5 (by kernel_rfl) ?_))
 refine mV rfl rfl (.nil (Wp.one 6 (by kernel_rfl) ?_))
 refine mv rfl (.t rfl rfl) (.u rfl) (.nil (Wp.one 7 (by kernel_rfl) ?_))
 refine cp rfl (.t rfl rfl) (.s rfl) (.u rfl) rfl (.nil (Wp.one 8 (by kernel_rfl) ?_))
 refine cG rfl .no (.u rfl) (.s rfl) (.nil (Wp.one 9 (by kernel_rfl) ?_))
 refine mV rfl rfl (.nil (Wp.one 11 (by kernel_rfl) ?_))
 refine lA rfl (.t rfl rfl) lF (.u rfl) (fun hc=>(hbb4.rdn (m:=40) (cs':=m.cells) ((by rw [List.drop_zero]; exact List.take_of_length_le (Nat.le_of_eq (Meta.len m))))).rd) (fun _=>(Meta.len _)) ?_
 refine .nil (Wp.pr 10 (by kernel_rfl) ?_)
 refine lA rfl (.t rfl rfl) fG (.u rfl) (fun hc=>(hbb7.rdn (m:=5) (cs':=h9.cells) (rfl)).rd) (fun _=>rfl) ?_
 refine .nil ⟨⟨rfl,rfl⟩,?_⟩
 refine Wp.b1 12 (by kernel_rfl) ?_
 refine kv rfl (.t rfl rfl) aKP (Eva.cons (.s rfl) aE) (fun hc=>aI6 m _ hw) ?_
 refine .nil (Wp.one 13 (by kernel_rfl) ?_)
 refine eqC (decide (h9=bI m)) rfl (.t rfl rfl) aEd (.s rfl) (.s rfl) (fun hc=>wB _) (fun hc=>wB _) (fun hc=>aC9) ?_
 refine .nil (Wp.one 14 (by kernel_rfl) ?_)
 refine cG rfl .no (.u rfl) (.s rfl) (.nil (Wp.one 15 (by kernel_rfl) ?_))
 refine mV rfl rfl (.nil (Wp.one 16 (by kernel_rfl) ?_))
 refine mv rfl (.t rfl rfl) (.u rfl) (.nil (Wp.one 17 (by kernel_rfl) ?_))
 refine ln rfl (.t rfl rfl) bL (.s rfl) (.nil (Wp.one 18 (by kernel_rfl) ?_))
 refine cp rfl (.t rfl rfl) (.s rfl) (.u rfl) rfl (.nil (Wp.one 19 (by kernel_rfl) ?_))
 refine cG rfl .no (.u rfl) (.s rfl) (.nil (vO 20 (by kernel_rfl) (by kernel_rfl) ?_))
 refine nI rfl iS (aB rfl aE) (oH _ _) (fun ch G9 ρ9 μ9 hle9 hd he hm=>⟨hd.1,aFS hT9 hd.2⟩) ?_
 rintro _ G46 μ46 hG46 ⟨hq46,rfl,rfl⟩
 have hs:=hs.mono hG46
 have hK:=hK.mono hG46
 have hbb3:=hbb3.mono hG46
 have hbb4:=hbb4.mono hG46
 have hbb7:=hbb7.mono hG46
 refine .nil (Wp.last (by kernel_rfl) ?_)
 refine .code (.seq ?_)
 obtain ⟨⟨rfl,rfl⟩,hsz9,hlong⟩:=aFX hq46
 have hrl:=aBN hlong
 refine bH (mc:=⟨false,false⟩) [0,1,2,3,4,5,6,7,8,9,10,11,12] aV (by kernel_rfl) ?_
 refine .p (lE rfl bL rfl (aW (((xs.length-8):Nat):Int) rfl rfl rfl rfl ?_))
 refine kS (30) ((xs.length-8)) rfl .no aH hs (.u rfl) (.u rfl) (.u rfl) (by omega) (by omega) (by omega) (by omega) ?_
 intro h51 L51 eL51 lL51 hs51
 have lL51:=lL51 rfl
 refine .p (lE rfl bL rfl (aW (((xs.length-8):Nat):Int) rfl rfl rfl rfl ?_))
 refine kD ((xs.length-8)) rfl .no aH hs (.u rfl) (.u rfl) (by omega) (by omega) ?_
 intro h56 L56 eL56 lL56 hs56
 have lL56:=lL56 rfl
 refine kc rfl vI (aB rfl aE) (uX L56 h56 _ hs56 (by omega)) ?_
 rintro _ G57 μ57 hG57 ⟨b57,s57,rfl,rfl,hs57⟩
 have hK:=hK.mono hG57
 have hbb3:=hbb3.mono hG57
 have hbb4:=hbb4.mono hG57
 have hbb7:=hbb7.mono hG57
 have hs51:=hs51.mono hG57
 refine aS rfl rfl (aS rfl rfl (.nc (.seq ?_)))
 have hk8:(bU L56 8).toNat=kB xs:=by rw [eL56]; rfl
 have hk9:@BitVec.toNat IntKind.u64.bits (bU L56 8)=kB xs:=hk8
 have eR:L51=mQ xs:=by rw [eL51,show xs.length-8-30=xs.length-38 by omega]; rfl
 refine .g (ka rfl (.inr rfl) pT (aB rfl (aB rfl aE)) (bR .here) (wR L56 s57 _ _ hs57 (by omega) (by omega)) ?_)
 rintro _ G59 μ59 hG59 ⟨s59,rfl,rfl,hs59⟩
 have hK:=hK.mono hG59
 have hbb3:=hbb3.mono hG59
 have hbb4:=hbb4.mono hG59
 have hbb7:=hbb7.mono hG59
 have hs51:=hs51.mono hG59
 refine .g (lE rfl bL rfl (cw rfl .no cX (.u rfl) (fun _=>fD (by omega) (by omega)) ?_))
 refine cP rfl rfl rfl rfl (nI rfl iS (aB rfl aE) (oH _ _) (fun ch G9 ρ9 μ9 hle9 hd he hm=>⟨hd.1,aFT (by have q:=of_decide_eq_false hd.2; omega)⟩) ?_)
 rintro _ G65 μ65 hG65 ⟨hq65,rfl,rfl⟩
 have hK:=hK.mono hG65
 have hbb3:=hbb3.mono hG65
 have hbb4:=hbb4.mono hG65
 have hbb7:=hbb7.mono hG65
 have hs51:=hs51.mono hG65
 refine .nil (.code (.seq ?_))
 have hkk:kB xs≤xs.length-38:=by have q:=of_decide_eq_true hq65; omega
 refine .g (lE rfl bL rfl (.p (cw rfl .no jL (.u rfl) (fun _=>cB (by omega) (by omega)) ?_)))
 refine dR (((L51.length-(bU L56 8).toNat):Nat):Int) rfl .no (.u rfl) (.u rfl) rfl (by omega) (fun _=>cB (by omega) (by omega)) ?_
 refine aS rfl rfl (.nc (.seq (dS ⟨true,false⟩ aV (by kernel_rfl) ?_)))
 refine Wp.one 0 (by kernel_rfl) ?_
 refine lA rfl .no cK (.u rfl) (fun _=>(hbb3.rdn (m:=32) (cs':=_) (by first|exact jC|exact gS|exact jB)).rd) (fun _=>(aU _ _)) ?_
 refine .nil (Wp.one 1 (by kernel_rfl) ?_)
 refine lA rfl .no fG (.u rfl) (fun _=>(hbb7.rdn (m:=5) (cs':=(bI m).cells) (rfl)).rd) (fun _=>rfl) ?_
 refine .nil (Wp.one 5 (by kernel_rfl) ?_)
 refine mV rfl rfl (.nil (Wp.one 6 (by kernel_rfl) ?_))
 refine mV rfl rfl (.nil (Wp.one 7 (by kernel_rfl) ?_))
 refine kD ((L51.length-(bU L56 8).toNat)) rfl .no aH hs51 (.u rfl) (.u rfl) (by omega) (by omega) ?_
 intro h78 L78 eL78 lL78 hs78
 have lL78:=lL78 rfl
 refine .nil (Wp.pr 3 (by kernel_rfl) ?_)
 refine lA rfl .no fG (.u rfl) (fun _=>(hbb7.rdn (m:=5) (cs':=(bI m).cells) (rfl)).rd) (fun _=>rfl) ?_
 refine .nil ⟨⟨rfl,rfl⟩,?_⟩
 refine Wp.b1 2 (by kernel_rfl) ?_
 refine kV rfl aEu (aB rfl (aB rfl aE)) (aCC root (bI m) _ hK) ?_
 refine .nil (Wp.b1 4 (by kernel_rfl) ?_)
 refine kc rfl aAO (aB rfl aE) (Ct.frzB (yX (bI m) _)) ?_
 rintro _ G75 μ75 hG75 ⟨h75,L75,eL75,rfl,rfl,hs75⟩
 have hK:=hK.mono hG75
 have hbb4:=hbb4.mono hG75
 have hs51:=hs51.mono hG75
 have hs78:=hs78.mono hG75
 refine .nil (Wp.one 8 (by kernel_rfl) ?_)
 refine dB (dQ (dJ root (aY (bI m))) (dK root (aY (bI m))) (h75.val L75.length) (.slice none 0 0) (h78.val L78.length)) rfl .no aJ9 (.cons (.u rfl) rfl (.cons (.u rfl) rfl (.cons (.u rfl) rfl .nil))) rfl (rfl) (.nil (Wp.b1 9 (by kernel_rfl) ?_))
 refine bX rfl rfl rfl ?_; intro b80
 refine .nil (Wp.one 10 (by kernel_rfl) ?_)
 refine aS rfl rfl (.nil (Wp.last (by kernel_rfl) ?_))
 refine .code (.seq ?_)
 have hix:L78=(mQ xs).drop (xs.length-38-kB xs):=by rw [eL78,eR,hk8,hrl]
 have e75:h75.val L75.length=h75.val (aY (bI m)).length:=by rw [eL75]
 rw [eL75] at hs75
 rw [e75]
 refine .g (kE ((L51.length-(bU L56 8).toNat)) rfl .no aH hs51 (.u rfl) (.u rfl) (by omega) (by omega) ?_)
 intro h83 L83 eL83 lL83 hs83
 have lL83:=lL83 rfl
 refine aS rfl rfl (.nc (.seq ?_))
 have hA9:L83=(mQ xs).take (xs.length-38-kB xs):=by rw [eL83,eR,hk8,hrl]
 have hB9:=aCP (root:=root) hT9 hsz9 hlong hkk hix hA9
 refine .g (nC rfl rfl (fZ rfl aB1 rfl (lN rfl bZ rfl (Rd.own .here xD) ?_)))
 refine nJ rfl aAQ (aB rfl (aB rfl (aB rfl aE))) (bR .here) (aDa root (bI m) h75 _ _ b80 0 L78 h78 _ hs75 hs78 hK (by omega) (by decide)) (fun ch G9 ρ9 μ9 hle9 hd he hm=>⟨hd.1,aL9 hB9 hd.2⟩) ?_
 rintro _ G89 μ89 hG89 ⟨y,h89,hy,rfl,rfl,hs89⟩
 have hyl:y.length+16≤1000000:=by have h1:=(aBZ hy).2; omega
 have hK:=hK.mono hG89
 have hbb4:=hbb4.mono hG89
 have hs78:=hs78.mono hG89
 have hs75:=hs75.mono hG89
 have hs83:=hs83.mono hG89
 refine kc rfl vI (aB rfl aE) (uX y h89 _ hs89 (by omega)) ?_
 rintro _ G90 μ90 hG90 ⟨b90,s90,rfl,rfl,hs90⟩
 have hK:=hK.mono hG90
 have hbb4:=hbb4.mono hG90
 have hs78:=hs78.mono hG90
 have hs75:=hs75.mono hG90
 have hs83:=hs83.mono hG90
 refine .g (ka rfl (.inr rfl) pU (aB rfl aE) (bR .here) (pM y 0 s90 b90 _ hs90 (by omega)) ?_)
 rintro _ G92 μ92 hG92 ⟨n92,L92,e92,s92,hN92,rfl,rfl,hs92⟩
 have lL92:=pN hN92; have nL92:=iP hN92; simp only at lL92
 have hK:=hK.mono hG92
 have hbb4:=hbb4.mono hG92
 have hs78:=hs78.mono hG92
 have hs75:=hs75.mono hG92
 have hs83:=hs83.mono hG92
 refine aS rfl rfl (.nc (.seq ?_))
 have hBy:=aLy hB9 hy hN92
 refine .g (cP rfl rfl rfl rfl (mV rfl rfl (mv rfl (.t rfl rfl) (.u rfl) (kp rfl (.t rfl rfl) rA (Eva.cons (.s rfl) aE) (Gp.add .here Gp.nil) (fun hc hle hq=>qJ L92 e92 s92 b90 _ RdNP.add) ?_))))
 refine cp rfl (.t rfl rfl) (.s rfl) (.u rfl) rfl (cG rfl .no (.u rfl) (.s rfl) (nI rfl iS (aB rfl aE) (oH _ _) (fun ch G9 ρ9 μ9 hle9 hd he hm=>⟨hd.1,aMA hBy hd.2⟩) ?_))
 rintro _ G100 μ100 hG100 ⟨hq100,rfl,rfl⟩
 have hK:=hK.mono hG100
 have hbb4:=hbb4.mono hG100
 have hs78:=hs78.mono hG100
 have hs75:=hs75.mono hG100
 have hs83:=hs83.mono hG100
 have hs92:=hs92.mono hG100
 refine .nil (.code (.seq ?_))
 obtain ⟨hn0,rfl⟩:=aMC hq100
 obtain ⟨O,eO,hO⟩:=bgO hBy hn0
 refine aM rfl rfl (aS rfl rfl (.nc (.seq (.seq (mW 32 (ba 32) 23 ?_)))))
 refine mW 34 oL 103 ?_
 refine aM rfl rfl (aS rfl rfl (.nc (.block ?_)))
 refine bD (α:=Nat×List Y×Sh×Value×List (RowT×Sh)×Value×List Dg×List Y×Sh) (fun gh=>[(9,true,gh.2.2.1.val gh.2.1.length),(16,true,gh.2.2.2.2.2.1),(17,true,.int .u64 (gh.1:Int))]) (fun gh=>[rS 34 oL gh.2.2.2.1 103 gh.2.2.2.2.1,rS 32 (ba 32) gh.2.2.2.2.2.1 23 gh.2.2.2.2.2.2.1,.blk b90 (cl [Sh.val gh.2.2.2.2.2.2.2.2 gh.2.2.2.2.2.2.2.1.length,.int .i64 0] 175),.blk b80 (cl (dQ (dJ root (aY (bI m))) (dK root (aY (bI m))) (h75.val (aY (bI m)).length) gh.2.2.2.1 (h78.val L78.length)) 98)])
  (fun gh Gl=>(gh.1≤n92+1)∧(O=cT (n92+1-gh.1) (gh.2.2.2.2.1.map (·.1)) gh.2.1 gh.2.2.2.2.2.2.2.1)∧(gh.2.2.2.2.2.2.1=gh.2.2.2.2.1.map (fun p=>p.1.leaf))∧(gh.2.2.2.2.1.length=gh.1∧gh.2.2.2.2.1.length+gh.2.2.2.2.2.2.2.1.length≤y.length∧gh.2.1.length≤xs.length)∧(AllB Gl gh.2.2.2.2.1)∧(SlR Gl 1 aL gh.2.2.1 gh.2.1)∧(SlR Gl 1 aL gh.2.2.2.2.2.2.2.2 gh.2.2.2.2.2.2.2.1)) (fun gh=>n92+1-gh.1) (0,L83,h83,.slice none 0 0,[],.slice none 0 0,[],L92,s92) [(4,true,_),(13,true,_),(14,true,_),(15,true,_)] [_]
  (aA rfl (aA rfl (aA rfl (aA rfl (aA rfl (aA rfl (aA rfl eZ)))))))
  (mS .here rfl (mS .here rfl (mS .here rfl (mS .here rfl (mS .here rfl mN))))) ?_ ?_
 ·refine ⟨?_,?_,?_,?_,?_,?_,?_⟩
  ·(try dsimp only)<;>(first|omega|rfl|assumption|(simp; done))
  ·(try dsimp only)<;>(exact eO)
  ·(try dsimp only)<;>(first|omega|rfl|assumption|(simp; done))
  ·(try dsimp only)<;>(exact ⟨rfl,by simp only [List.length_nil]; omega,by omega⟩)
  ·(try dsimp only)<;>(exact AllB.nil)
  ·(try dsimp only)<;>(exact hs83)
  (try dsimp only)<;>(exact hs92)
 intro gh N0 Gl0 hN0 hGl0 hF0
 obtain ⟨k,A,hA,vr,acc,vl,D,R,sR⟩:=gh; dsimp only at hF0 hN0 ⊢
 obtain ⟨hk,hrows,eD,hlen,hall,hsA,hsR⟩:=hF0
 have hK:=hK.mono hGl0
 have hbb4:=hbb4.mono hGl0
 have hs78:=hs78.mono hGl0
 have hs75:=hs75.mono hGl0
 have lD:D.length=acc.length:=by rw [eD,List.length_map]
 refine .g (cP rfl rfl rfl rfl (.g (cD rfl (fun c1=>?_) (fun c1=>?_))))
 ·have c1k:=c1
  try simp only [aC,aI,aD] at c1
  refine .skip (.code (.seq (.block (.seq (aM rfl rfl ?_)))))
  refine al rfl aCA ?_; intro b18
  refine .g (cP rfl rfl rfl rfl (.g (cD rfl (fun c2=>?_) (fun c2=>?_))))
  ·have c2k:=c2
   try simp only [aC,aI,aD] at c2
   refine .g (ka rfl (.inr rfl) aK0 (aB rfl (aB rfl aE)) (bR bP) (aH0 R 0 sR b90 _ hsR (by omega) 1024 (by decide)) ?_)
   rintro _ G110 μ110 hG110 ⟨M110,L110,e110,s110,hN110,rfl,rfl,hs110⟩
   have lL110:=aDk hN110; simp only at lL110
   have hK:=hK.mono hG110
   have hbb4:=hbb4.mono hG110
   have hs78:=hs78.mono hG110
   have hs75:=hs75.mono hG110
   have hall:=hall.mono hG110
   have hsA:=hsA.mono hG110
   have hsR:=hsR.mono hG110
   refine fZ rfl aEe rfl (s1 rfl (.u rfl) (.u rfl) rfl pV aF (show 0<34 by decide) (rfl) ?_)
   refine .g (ka rfl (.inr rfl) pU (aB rfl aE) (bR aF) (pM L110 e110 s110 b90 _ hs110 (by omega)) ?_)
   rintro _ G113 μ113 hG113 ⟨n113,L113,e113,s113,hN113,rfl,rfl,hs113⟩
   have lL113:=pN hN113; have nL113:=iP hN113; simp only at lL113
   have hK:=hK.mono hG113
   have hbb4:=hbb4.mono hG113
   have hs78:=hs78.mono hG113
   have hs75:=hs75.mono hG113
   have hall:=hall.mono hG113
   have hsA:=hsA.mono hG113
   have hsR:=hsR.mono hG113
   refine aS rfl rfl (.nc (.seq (.seq (aM rfl rfl (mV rfl rfl (.nc (.block ?_)))))))
   have hT3:=((aFW hrows (by omega)).strE hN110).numE hN113
   refine bD (α:=Nat×List Y×Int×Sh×(Nat→Y)×List Y) (fun gh=>[(114,true,.int .i64 (gh.1:Int))]) (fun gh=>[.blk b90 (cl [Sh.val gh.2.2.2.1 gh.2.1.length,.int .i64 gh.2.2.1] 175),.blk b18 (cl (qO M110 (.slice none 0 0) gh.2.2.2.2.1) 103)])
    (fun gh Gl=>(gh.1≤32)∧(gh.2.2.2.2.2.length=gh.1)∧(ByR ⟨L113,e113⟩ ⟨gh.2.1,gh.2.2.1⟩ false gh.2.2.2.2.2)∧(∀ i,gh.2.2.2.2.1 i=gh.2.2.2.2.2.getD i 0)∧(gh.2.1.length≤L113.length∧(gh.2.2.1=0→gh.2.1.length+gh.1≤L113.length))∧(SlR Gl 1 aL gh.2.2.2.1 gh.2.1)) (fun gh=>32-gh.1) (0,L113,e113,s113,(fun _=>0#8),[]) [(4,true,_),(9,true,_),(13,true,_),(14,true,_),(15,true,_),(16,true,_),(17,true,_),(18,true,_),(19,true,_)] [_,_,_,_]
    (aO rfl (aA rfl (aA rfl (aA rfl (aA rfl (aA rfl (aA rfl (aA rfl (aA rfl (aA rfl eZ))))))))))
    (mS .here rfl (mS .here (by first|rfl | (rw [uC]; rfl)) (mS .here rfl (mS .here rfl (mS .here rfl (mS .here rfl mN)))))) ?_ ?_
   ·refine ⟨?_,?_,?_,?_,?_,?_⟩
    ·(try dsimp only)<;>(first|omega|rfl|assumption|(simp; done))
    ·(try dsimp only)<;>(first|omega|rfl|assumption|(simp; done))
    ·(try dsimp only)<;>(exact ByR.zero)
    ·(try dsimp only)<;>(exact fun i=>by simp)
    ·(try dsimp only)<;>(exact ⟨Nat.le_refl _,fun _=>Nat.le_refl _⟩)
    (try dsimp only)<;>(exact hs113)
   intro gh N1 Gl1 hN1 hGl1 hF1
   obtain ⟨q,L,ee,s9,f,rt⟩:=gh; dsimp only at hF1 hN1 ⊢
   obtain ⟨hq,hrt,hB9,ef,lX,hsl⟩:=hF1
   have hK:=hK.mono hGl1
   have hbb4:=hbb4.mono hGl1
   have hs78:=hs78.mono hGl1
   have hs75:=hs75.mono hGl1
   have hall:=hall.mono hGl1
   have hsA:=hsA.mono hGl1
   have hsR:=hsR.mono hGl1
   have hs113:=hs113.mono hGl1
   refine .g (cP rfl rfl rfl rfl (.g (cD rfl (fun c3=>?_) (fun c3=>?_))))
   ·have c3k:=c3
    try simp only [aC,aI,aD] at c3
    refine .g (ka rfl (.inr rfl) pT (aB rfl (aB rfl aE)) (bR .here) (zE L ee s9 b90 _ hsl (by omega)) ?_)
    rintro _ G119 μ119 hG119 ⟨y119,L119,e119,s119,hN119,rfl,rfl,hs119⟩
    have lL119:=zH hN119; simp only at lL119
    have hK:=hK.mono hG119
    have hbb4:=hbb4.mono hG119
    have hs78:=hs78.mono hG119
    have hs75:=hs75.mono hG119
    have hall:=hall.mono hG119
    have hsA:=hsA.mono hG119
    have hsR:=hsR.mono hG119
    have hs113:=hs113.mono hG119
    have hsl:=hsl.mono hG119
    refine cu (k:=.u64) rfl .no rfl lG (.u rfl) ?_
    refine fZ rfl qV rfl (iW rfl gJ rfl rfl ?_)
    refine s1 rfl (.u rfl) (.u rfl) rfl gF aF (by rw [kR]; omega) (aBW (k:=q) (by omega)) ?_
    refine .g (aW (((q+1):Nat):Int) rfl rfl rfl rfl ?_)
    refine .g (aZ (q+1,L119,e119,s119,bA f q ((y119.setWidth 64).setWidth 8),rt++[y119]) ?_ ?_ ?_ ?_ ?_)
    ·exact (aO rfl (aA rfl (aA rfl (aA rfl (aA rfl (aA rfl (aA rfl (aA rfl (aA rfl (aA rfl eZ))))))))))
    ·exact (mS aF rfl (mS .here rfl (mS .here rfl (mS .here rfl (mS .here rfl (mS .here rfl mN))))))
    ·first|omega|(dsimp only; omega)
    ·exact (hGl1).trans hG119
    refine ⟨?_,?_,?_,?_,?_,?_⟩
    ·(try dsimp only)<;>(first|omega|rfl|assumption|(simp; done))
    ·(try dsimp only)<;>(simp [hrt])
    ·(try dsimp only)<;>(exact hB9.step (by omega) hN119)
    ·(try dsimp only)<;>(exact zM hrt ef)
    ·(try dsimp only)<;>(have hbd:=aAi hN119; exact ⟨by omega,fun z=>by have:=hbd.2 z; have:=lX.2 this.1; omega⟩)
    (try dsimp only)<;>(exact hs119)
   have c3k:=c3
   try simp only [aC,aI,aD] at c3
   refine .exit (.xcode (.xlp (.xblk (.code (.seq ?_)))))
   have hg9:=aCU ef (hB9.all (by omega) hT3)
   simp only at hg9
   refine .g (kp rfl .no rA (aB rfl aE) (Gp.add .here Gp.nil) (fun _ hle hq=>qJ L ee s9 b90 _ RdNP.add) ?_)
   refine cP rfl rfl rfl rfl (mV rfl rfl (mv rfl (.t rfl rfl) (.u rfl) (mv rfl (.t rfl rfl) (.u rfl) (ln rfl (.t rfl rfl) bL (.s rfl) (cw rfl (.t rfl rfl) cX (.s rfl) (fun hc=>fD (by (try simp only [Bool.and_eq_true,decide_eq_true_eq,Bool.not_eq_true',Bool.or_eq_false_iff,decide_eq_false_iff_not] at hc); omega) (by (try simp only [Bool.and_eq_true,decide_eq_true_eq,Bool.not_eq_true',Bool.or_eq_false_iff,decide_eq_false_iff_not] at hc); omega)) ?_)))))
   refine cp rfl (.t rfl rfl) (.s rfl) (.s rfl) rfl (cG rfl .no (.u rfl) (.s rfl) (nI rfl iS (aB rfl aE) (oH _ _) (fun ch G9 ρ9 μ9 hle9 hd he hm=>⟨hd.1,aFU hO hg9.2 (by first|rfl|omega) hd.2⟩) ?_))
   rintro _ G134 μ134 hG134 ⟨hq134,rfl,rfl⟩
   have hK:=hK.mono hG134
   have hbb4:=hbb4.mono hG134
   have hs78:=hs78.mono hG134
   have hs75:=hs75.mono hG134
   have hall:=hall.mono hG134
   have hsA:=hsA.mono hG134
   have hsR:=hsR.mono hG134
   have hs113:=hs113.mono hG134
   have hsl:=hsl.mono hG134
   refine .nil (.code (.seq ?_))
   obtain ⟨rfl,hsz⟩:=aFY (by first|rfl|omega) hq134
   have hrw:=hg9.1 ⟨rfl,hsz⟩
   refine bH (mc:=⟨false,false⟩) [0,1,2,3,4,5,6,7,8] aV (by kernel_rfl) ?_
   refine .p (kE (n113) rfl .no aH hsA (.u rfl) (.u rfl) (by omega) (by omega) ?_)
   intro h137 L137 eL137 lL137 hs137
   have lL137:=lL137 rfl
   refine .p (kD (n113) rfl .no aH hsA (.u rfl) (.u rfl) (by omega) (by omega) ?_)
   intro h140 L140 eL140 lL140 hs140
   have lL140:=lL140 rfl
   refine fZ rfl sC rfl (s1 rfl (.u rfl) (.u rfl) rfl iF aF (by rw [kR]; decide) (rfl) ?_)
   refine aS rfl rfl (.nc (.seq (dS ⟨false,false⟩ aV (by kernel_rfl) ?_)))
   refine Wp.one 0 (by kernel_rfl) ?_
   refine mV rfl rfl (.nil (Wp.one 1 (by kernel_rfl) ?_))
   refine mV rfl rfl (.nil (Wp.one 2 (by kernel_rfl) ?_))
   refine nC rfl rfl (.nil (Wp.one 3 (by kernel_rfl) ?_))
   refine fZ rfl mX rfl (.nil (Wp.one 4 (by kernel_rfl) ?_))
   refine lN rfl qT rfl (Rd.own fL kZ) ?_
   refine .nil (Wp.one 5 (by kernel_rfl) ?_)
   refine lA rfl .no vA (.u rfl) (fun _=>RdN.own .here) (fun _=>kR) ?_
   refine .nil (Wp.b1 6 (by kernel_rfl) ?_)
   refine Go.Tan.b1 rfl nW tU (.u rfl) rfl rfl (by decide) ?_; intro b148
   refine .nil (Wp.b1 7 (by kernel_rfl) ?_)
   refine fR (xs:=acc) ((⟨_,L137,f⟩,h137)) rfl nW tU rfl (.u rfl) (.u rfl) bP .here (mR) (nL (pK rfl rfl) (dV _ _)) (by omega) (by unfold maxLen; omega) ?_; intro v149 ov149
   refine .nil (Wp.one 8 (by kernel_rfl) ?_)
   refine nC rfl rfl (.nil (Wp.one 9 (by kernel_rfl) ?_))
   refine fZ rfl mX rfl (.nil (Wp.b1 10 (by kernel_rfl) ?_))
   refine fW rfl (.u rfl) (.u rfl) .here aB8 nS (by rw [xC]; decide) (aAB) ?_
   refine .nil (Wp.last (by kernel_rfl) ?_)
   refine .g (fZ rfl qV rfl (lA rfl .no cK (.u rfl) (fun _=>RdN.part (n:=32) (cs':=ba 32 f) bP (aBV)) (fun _=>(by first|exact mR|exact kR|exact (gO _ _).trans (gO _ _).symm|exact gO _ _|exact aU _ _|exact Meta.len _|rfl)) ?_))
   refine Go.Tan.b1 rfl dN fO (.u rfl) rfl rfl (by decide) ?_; intro b155
   refine fR (xs:=D) (f) rfl dN fO rfl (.u rfl) (.u rfl) rY .here (aU _ _) (dV _ _) (by omega) (by unfold maxLen; omega) ?_; intro v156 ov156
   refine .g (ar rfl .no (.u rfl) (.u rfl) rfl (fun _=>fD (by omega) (by omega)) ?_)
   refine .g (aZ (k+1,L140,h140,v149,acc++[(⟨M110,L137,f⟩,h137)],v156,D++[f],L,s9) ?_ ?_ ?_ ?_ ?_)
   ·exact (aA rfl (aA rfl (eY rfl (congrArg (Value.int .u64) (by dsimp only; omega)) (aA rfl (aA rfl (aA rfl (aA rfl eZ)))))))
   ·exact (mS bP rfl (mS .here rfl (mS fL rfl (mS aF rfl (mS bP rfl mN)))))
   ·first|omega|(dsimp only; omega)
   ·exact ((((hGl0).trans hG110).trans hG113).trans hGl1).trans hG134
   refine ⟨?_,?_,?_,?_,?_,?_,?_⟩
   ·(try dsimp only)<;>(first|omega|rfl|assumption|(simp; done))
   ·(try dsimp only)<;>(rw [List.map_append,eL137,eL140]; exact hrw)
   ·(try dsimp only)<;>(rw [eD,List.map_append]; rfl)
   ·(try dsimp only)<;>(have:=lX.2 rfl; refine ⟨by rw [List.length_append]; simp; omega,by rw [List.length_append]; simp only [List.length_cons,List.length_nil]; omega,by omega⟩)
   ·(try dsimp only)<;>(exact hall.snoc hs137 (by show L137.length≤_; omega))
   ·(try dsimp only)<;>(exact hs140)
   (try dsimp only)<;>(exact hsl)
  have c2k:=c2
  try simp only [aC,aI,aD] at c2
  refine .g (ka rfl (.inr rfl) pU (aB rfl aE) (bR bP) (pM R 0 sR b90 _ hsR (by omega)) ?_)
  rintro _ G113 μ113 hG113 ⟨n113,L113,e113,s113,hN113,rfl,rfl,hs113⟩
  have lL113:=pN hN113; have nL113:=iP hN113; simp only at lL113
  have hK:=hK.mono hG113
  have hbb4:=hbb4.mono hG113
  have hs78:=hs78.mono hG113
  have hs75:=hs75.mono hG113
  have hall:=hall.mono hG113
  have hsA:=hsA.mono hG113
  refine aS rfl rfl (.nc (.seq (.seq (aM rfl rfl (mV rfl rfl (.nc (.block ?_)))))))
  have hT3:=(aFV hrows (by omega) (by omega)).numE hN113
  refine bD (α:=Nat×List Y×Int×Sh×(Nat→Y)×List Y) (fun gh=>[(114,true,.int .i64 (gh.1:Int))]) (fun gh=>[.blk b90 (cl [Sh.val gh.2.2.2.1 gh.2.1.length,.int .i64 gh.2.2.1] 175),.blk b18 (cl (qO [] (.slice none 0 0) gh.2.2.2.2.1) 103)])
   (fun gh Gl=>(gh.1≤32)∧(gh.2.2.2.2.2.length=gh.1)∧(ByR ⟨L113,e113⟩ ⟨gh.2.1,gh.2.2.1⟩ false gh.2.2.2.2.2)∧(∀ i,gh.2.2.2.2.1 i=gh.2.2.2.2.2.getD i 0)∧(gh.2.1.length≤L113.length∧(gh.2.2.1=0→gh.2.1.length+gh.1≤L113.length))∧(SlR Gl 1 aL gh.2.2.2.1 gh.2.1)) (fun gh=>32-gh.1) (0,L113,e113,s113,(fun _=>0#8),[]) [(4,true,_),(9,true,_),(13,true,_),(14,true,_),(15,true,_),(16,true,_),(17,true,_),(18,true,_),(19,true,_)] [_,_,_,_]
   (aO rfl (aA rfl (aA rfl (aA rfl (aA rfl (aA rfl (aA rfl (aA rfl (aA rfl (aA rfl eZ))))))))))
   (mS .here rfl (mS .here (by first|rfl | (rw [uC]; rfl)) (mS .here rfl (mS .here rfl (mS .here rfl (mS .here rfl mN)))))) ?_ ?_
  ·refine ⟨?_,?_,?_,?_,?_,?_⟩
   ·(try dsimp only)<;>(first|omega|rfl|assumption|(simp; done))
   ·(try dsimp only)<;>(first|omega|rfl|assumption|(simp; done))
   ·(try dsimp only)<;>(exact ByR.zero)
   ·(try dsimp only)<;>(exact fun i=>by simp)
   ·(try dsimp only)<;>(exact ⟨Nat.le_refl _,fun _=>Nat.le_refl _⟩)
   (try dsimp only)<;>(exact hs113)
  intro gh N2 Gl2 hN2 hGl2 hF2
  obtain ⟨q,L,ee,s9,f,rt⟩:=gh; dsimp only at hF2 hN2 ⊢
  obtain ⟨hq,hrt,hB9,ef,lX,hsl⟩:=hF2
  have hK:=hK.mono hGl2
  have hbb4:=hbb4.mono hGl2
  have hs78:=hs78.mono hGl2
  have hs75:=hs75.mono hGl2
  have hall:=hall.mono hGl2
  have hsA:=hsA.mono hGl2
  refine .g (cP rfl rfl rfl rfl (.g (cD rfl (fun c4=>?_) (fun c4=>?_))))
  ·have c4k:=c4
   try simp only [aC,aI,aD] at c4
   refine .g (ka rfl (.inr rfl) pT (aB rfl (aB rfl aE)) (bR .here) (zE L ee s9 b90 _ hsl (by omega)) ?_)
   rintro _ G119 μ119 hG119 ⟨y119,L119,e119,s119,hN119,rfl,rfl,hs119⟩
   have lL119:=zH hN119; simp only at lL119
   have hK:=hK.mono hG119
   have hbb4:=hbb4.mono hG119
   have hs78:=hs78.mono hG119
   have hs75:=hs75.mono hG119
   have hall:=hall.mono hG119
   have hsA:=hsA.mono hG119
   have hsl:=hsl.mono hG119
   refine cu (k:=.u64) rfl .no rfl lG (.u rfl) ?_
   refine fZ rfl qV rfl (iW rfl gJ rfl rfl ?_)
   refine s1 rfl (.u rfl) (.u rfl) rfl gF aF (by rw [kR]; omega) (aBW (k:=q) (by omega)) ?_
   refine .g (aW (((q+1):Nat):Int) rfl rfl rfl rfl ?_)
   refine .g (aZ (q+1,L119,e119,s119,bA f q ((y119.setWidth 64).setWidth 8),rt++[y119]) ?_ ?_ ?_ ?_ ?_)
   ·exact (aO rfl (aA rfl (aA rfl (aA rfl (aA rfl (aA rfl (aA rfl (aA rfl (aA rfl (aA rfl eZ))))))))))
   ·exact (mS aF rfl (mS .here rfl (mS .here rfl (mS .here rfl (mS .here rfl (mS .here rfl mN))))))
   ·first|omega|(dsimp only; omega)
   ·exact (hGl2).trans hG119
   refine ⟨?_,?_,?_,?_,?_,?_⟩
   ·(try dsimp only)<;>(first|omega|rfl|assumption|(simp; done))
   ·(try dsimp only)<;>(simp [hrt])
   ·(try dsimp only)<;>(exact hB9.step (by omega) hN119)
   ·(try dsimp only)<;>(exact zM hrt ef)
   ·(try dsimp only)<;>(have hbd:=aAi hN119; exact ⟨by omega,fun z=>by have:=hbd.2 z; have:=lX.2 this.1; omega⟩)
   (try dsimp only)<;>(exact hs119)
  have c4k:=c4
  try simp only [aC,aI,aD] at c4
  refine .exit (.xcode (.xlp (.xblk (.code (.seq ?_)))))
  have hg9:=aCU ef (hB9.all (by omega) hT3)
  simp only at hg9
  refine .g (kp rfl .no rA (aB rfl aE) (Gp.add .here Gp.nil) (fun _ hle hq=>qJ L ee s9 b90 _ RdNP.add) ?_)
  refine cP rfl rfl rfl rfl (mV rfl rfl (mv rfl (.t rfl rfl) (.u rfl) (mv rfl (.t rfl rfl) (.u rfl) (ln rfl (.t rfl rfl) bL (.s rfl) (cw rfl (.t rfl rfl) cX (.s rfl) (fun hc=>fD (by (try simp only [Bool.and_eq_true,decide_eq_true_eq,Bool.not_eq_true',Bool.or_eq_false_iff,decide_eq_false_iff_not] at hc); omega) (by (try simp only [Bool.and_eq_true,decide_eq_true_eq,Bool.not_eq_true',Bool.or_eq_false_iff,decide_eq_false_iff_not] at hc); omega)) ?_)))))
  refine cp rfl (.t rfl rfl) (.s rfl) (.s rfl) rfl (cG rfl .no (.u rfl) (.s rfl) (nI rfl iS (aB rfl aE) (oH _ _) (fun ch G9 ρ9 μ9 hle9 hd he hm=>⟨hd.1,aFU hO hg9.2 (by first|rfl|omega) hd.2⟩) ?_))
  rintro _ G134 μ134 hG134 ⟨hq134,rfl,rfl⟩
  have hK:=hK.mono hG134
  have hbb4:=hbb4.mono hG134
  have hs78:=hs78.mono hG134
  have hs75:=hs75.mono hG134
  have hall:=hall.mono hG134
  have hsA:=hsA.mono hG134
  have hsl:=hsl.mono hG134
  refine .nil (.code (.seq ?_))
  obtain ⟨rfl,hsz⟩:=aFY (by first|rfl|omega) hq134
  have hrw:=hg9.1 ⟨rfl,hsz⟩
  refine bH (mc:=⟨false,false⟩) [0,1,2,3,4,5,6,7,8] aV (by kernel_rfl) ?_
  refine .p (kE (n113) rfl .no aH hsA (.u rfl) (.u rfl) (by omega) (by omega) ?_)
  intro h137 L137 eL137 lL137 hs137
  have lL137:=lL137 rfl
  refine .p (kD (n113) rfl .no aH hsA (.u rfl) (.u rfl) (by omega) (by omega) ?_)
  intro h140 L140 eL140 lL140 hs140
  have lL140:=lL140 rfl
  refine fZ rfl sC rfl (s1 rfl (.u rfl) (.u rfl) rfl iF aF (by rw [kR]; decide) (rfl) ?_)
  refine aS rfl rfl (.nc (.seq (dS ⟨false,false⟩ aV (by kernel_rfl) ?_)))
  refine Wp.one 0 (by kernel_rfl) ?_
  refine mV rfl rfl (.nil (Wp.one 1 (by kernel_rfl) ?_))
  refine mV rfl rfl (.nil (Wp.one 2 (by kernel_rfl) ?_))
  refine nC rfl rfl (.nil (Wp.one 3 (by kernel_rfl) ?_))
  refine fZ rfl mX rfl (.nil (Wp.one 4 (by kernel_rfl) ?_))
  refine lN rfl qT rfl (Rd.own fL kZ) ?_
  refine .nil (Wp.one 5 (by kernel_rfl) ?_)
  refine lA rfl .no vA (.u rfl) (fun _=>RdN.own .here) (fun _=>kR) ?_
  refine .nil (Wp.b1 6 (by kernel_rfl) ?_)
  refine Go.Tan.b1 rfl nW tU (.u rfl) rfl rfl (by decide) ?_; intro b148
  refine .nil (Wp.b1 7 (by kernel_rfl) ?_)
  refine fR (xs:=acc) ((⟨_,L137,f⟩,h137)) rfl nW tU rfl (.u rfl) (.u rfl) bP .here (mR) (nL (pK rfl rfl) (dV _ _)) (by omega) (by unfold maxLen; omega) ?_; intro v149 ov149
  refine .nil (Wp.one 8 (by kernel_rfl) ?_)
  refine nC rfl rfl (.nil (Wp.one 9 (by kernel_rfl) ?_))
  refine fZ rfl mX rfl (.nil (Wp.b1 10 (by kernel_rfl) ?_))
  refine fW rfl (.u rfl) (.u rfl) .here aB8 nS (by rw [xC]; decide) (aAB) ?_
  refine .nil (Wp.last (by kernel_rfl) ?_)
  refine .g (fZ rfl qV rfl (lA rfl .no cK (.u rfl) (fun _=>RdN.part (n:=32) (cs':=ba 32 f) bP (aBV)) (fun _=>(by first|exact mR|exact kR|exact (gO _ _).trans (gO _ _).symm|exact gO _ _|exact aU _ _|exact Meta.len _|rfl)) ?_))
  refine Go.Tan.b1 rfl dN fO (.u rfl) rfl rfl (by decide) ?_; intro b155
  refine fR (xs:=D) (f) rfl dN fO rfl (.u rfl) (.u rfl) rY .here (aU _ _) (dV _ _) (by omega) (by unfold maxLen; omega) ?_; intro v156 ov156
  refine .g (ar rfl .no (.u rfl) (.u rfl) rfl (fun _=>fD (by omega) (by omega)) ?_)
  refine .g (aZ (k+1,L140,h140,v149,acc++[(⟨[],L137,f⟩,h137)],v156,D++[f],L,s9) ?_ ?_ ?_ ?_ ?_)
  ·exact (aA rfl (aA rfl (eY rfl (congrArg (Value.int .u64) (by dsimp only; omega)) (aA rfl (aA rfl (aA rfl (aA rfl eZ)))))))
  ·exact (mS bP rfl (mS .here rfl (mS fL rfl (mS aF rfl (mS bP rfl mN)))))
  ·first|omega|(dsimp only; omega)
  ·exact (((hGl0).trans hG113).trans hGl2).trans hG134
  refine ⟨?_,?_,?_,?_,?_,?_,?_⟩
  ·(try dsimp only)<;>(first|omega|rfl|assumption|(simp; done))
  ·(try dsimp only)<;>(rw [List.map_append,eL137,eL140]; exact hrw)
  ·(try dsimp only)<;>(rw [eD,List.map_append]; rfl)
  ·(try dsimp only)<;>(have:=lX.2 rfl; refine ⟨by rw [List.length_append]; simp; omega,by rw [List.length_append]; simp only [List.length_cons,List.length_nil]; omega,by omega⟩)
  ·(try dsimp only)<;>(exact hall.snoc hs137 (by show L137.length≤_; omega))
  ·(try dsimp only)<;>(exact hs140)
  (try dsimp only)<;>(exact hsl)
 have c1k:=c1
 try simp only [aC,aI,aD] at c1
 refine .exit (.xcode (.xlp (.xblk (.code (.seq ?_)))))
 have hz9:n92+1-k=0:=by omega
 rw [hz9] at hrows
 rcases bge R A with ⟨eR0,eA0⟩ | ⟨eR0,eA0⟩ | eR0
 ·refine dS ⟨true,false⟩ aV (by kernel_rfl) ?_
  refine Wp.one 0 (by kernel_rfl) ?_
  refine mV rfl rfl (.nil (Wp.b1 1 (by kernel_rfl) ?_))
  refine kp rfl .no aB5 (aB rfl aE) (Gp.add aQ Gp.nil) (fun _ hle hq=>aBJ R 0 sR b90 _ RdNP.add) ?_
  refine .nil (Wp.one 2 (by kernel_rfl) ?_)
  refine cP rfl rfl rfl rfl (.nil (Wp.one 3 (by kernel_rfl) ?_))
  refine mV rfl rfl (nV true (by rw [eR0]; rfl) ?_)
  refine .nil (Wp.one 4 (by kernel_rfl) ?_)
  refine mv rfl (.t rfl rfl) (.u rfl) (.nil (Wp.one 5 (by kernel_rfl) ?_))
  refine ln rfl (.t rfl rfl) bL (.u rfl) (.nil (Wp.one 6 (by kernel_rfl) ?_))
  refine cp rfl (.t rfl rfl) (.u rfl) (.u rfl) rfl (.nil (Wp.one 7 (by kernel_rfl) ?_))
  refine cG rfl .no (.u rfl) (.u rfl) (.nil (Wp.one 8 (by kernel_rfl) ?_))
  refine mV rfl rfl (nV true (by rw [eA0]; rfl) ?_)
  refine .nil (Wp.one 9 (by kernel_rfl) ?_)
  refine mv rfl (.t rfl rfl) (.u rfl) (.nil (Wp.one 10 (by kernel_rfl) ?_))
  refine mv rfl (.t rfl rfl) (.u rfl) (.nil (Wp.one 11 (by kernel_rfl) ?_))
  refine nc rfl (.t rfl rfl) (.u rfl) (.nil (Wp.one 12 (by kernel_rfl) ?_))
  refine fz rfl (.t rfl rfl) aB1 (.u rfl) (.nil (Wp.one 13 (by kernel_rfl) ?_))
  refine ld rfl (.t rfl rfl) bZ (.u rfl) (fun _=>Rd.own bP xD) ?_
  refine .nil (Wp.one 18 (by kernel_rfl) ?_)
  refine fa rfl (.t rfl rfl) aEk (.u rfl) (.nil (Wp.pr 19 (by kernel_rfl) ?_))
  refine lA rfl (.t rfl rfl) cK (.u rfl) (fun _=>(hbb4.rdn (m:=32) (cs':=ba 32 (fun i=>BitVec.ofInt 8 (m.root i))) (aDr hw)).rd) (fun _=>(aU _ _)) (.nil ⟨⟨rfl,rfl⟩,?_⟩)
  refine Wp.b1 14 (by kernel_rfl) ?_
  refine kv rfl (.t rfl rfl) xN (aB rfl aE) (fun _=>wJ L78 h78 _ hs78 hK (by omega)) ?_
  refine .nil (Wp.b1 15 (by kernel_rfl) ?_)
  refine Go.Tan.b1g rfl (.t rfl rfl) dN fO (.u rfl) rfl rfl (by decide) ?_; intro b172
  refine .nil (Wp.b1 16 (by kernel_rfl) ?_)
  refine aCJ (xs:=D) ((dH L78)) rfl (.t rfl rfl) dN fO rfl (.u rfl) (.u rfl) aQ .here (aU _ _) (dV _ _) (by omega) (by unfold maxLen; omega) ?_; intro v173 ov173
  refine .nil (Wp.b1 17 (by kernel_rfl) ?_)
  refine kag rfl (.t rfl rfl) (.inl rfl) aEv (aB rfl aE) (bR .here) (aJC (D++[dH L78]) v173 _ hK (by rw [List.length_append,eD,List.length_map]; simp only [List.length_cons,List.length_nil]; omega)) ?_
  rintro _ G174 μ174 hG174 ⟨_,rfl,rfl,rfl⟩
  have hs78:=hs78.mono hG174
  have hs75:=hs75.mono hG174
  have hall:=hall.mono hG174
  refine .nil (Wp.one 20 (by kernel_rfl) ?_)
  refine yP rfl (.t rfl rfl) vC (.u rfl) (.u rfl) ?_
  refine .nil (Wp.one 21 (by kernel_rfl) ?_)
  refine cG rfl .no (.u rfl) (.u rfl) (.nil (vO 22 (by kernel_rfl) (by kernel_rfl) ?_))
  refine nI rfl iS (aB rfl aE) (oH _ _) (fun ch G9 ρ9 μ9 hle9 hd he hm=>⟨hd.1,aMB hw hO (by rw [hrows,eR0,eA0]; exact aDy) eD hd.2⟩) ?_
  rintro _ G179 μ179 hG179 ⟨hq179,rfl,rfl⟩
  have hs78:=hs78.mono hG179
  have hs75:=hs75.mono hG179
  have hall:=hall.mono hG179
  refine .nil (Wp.last (by kernel_rfl) ?_)
  refine .code (.seq ?_)
  refine kG aQ (fun _ _=>rfl) (by intro b hb; cases hb) ?_; intro GfRR hRR hleRR evRR hsRR; subst evRR
  have hs78:=hs78.mono hleRR
  have hs75:=hs75.mono hleRR
  have hall:=hall.mono hleRR
  refine bE rfl rfl (mV rfl rfl (aS rfl rfl (.nc (.ret (We.fin Tryz.results54 (.tmp rfl .nil) (mS bP rfl mN) ?_)))))
  exact ⟨L78,b80,acc,h75,hRR,h78,aMD hw hO (by rw [hrows,eR0,eA0]; exact aDy) eD hq179,rfl,rfl,⟨hs75,hsRR,hall.each,hs78,hall.sm,by omega⟩⟩
 ·refine dS ⟨true,false⟩ aV (by kernel_rfl) ?_
  refine Wp.one 0 (by kernel_rfl) ?_
  refine mV rfl rfl (.nil (Wp.b1 1 (by kernel_rfl) ?_))
  refine kp rfl .no aB5 (aB rfl aE) (Gp.add aQ Gp.nil) (fun _ hle hq=>aBJ R 0 sR b90 _ RdNP.add) ?_
  refine .nil (Wp.one 2 (by kernel_rfl) ?_)
  refine cP rfl rfl rfl rfl (.nil (Wp.one 3 (by kernel_rfl) ?_))
  refine mV rfl rfl (nV true (by rw [eR0]; rfl) ?_)
  refine .nil (Wp.one 4 (by kernel_rfl) ?_)
  refine mv rfl (.t rfl rfl) (.u rfl) (.nil (Wp.one 5 (by kernel_rfl) ?_))
  refine ln rfl (.t rfl rfl) bL (.u rfl) (.nil (Wp.one 6 (by kernel_rfl) ?_))
  refine cp rfl (.t rfl rfl) (.u rfl) (.u rfl) rfl (.nil (Wp.one 7 (by kernel_rfl) ?_))
  refine cG rfl .no (.u rfl) (.u rfl) (.nil (Wp.one 8 (by kernel_rfl) ?_))
  refine mV rfl rfl (nV false (beq_eq_false_iff_ne.2 (fun q=>eA0 (List.eq_nil_of_length_eq_zero (by omega)))) ?_)
  refine .nil (Wp.one 9 (by kernel_rfl) ?_)
  refine gQ (.bool false) rfl rfl (Gd.t (b:=false) rfl rfl) ?_
  refine .nil (Wp.one 10 (by kernel_rfl) ?_)
  refine gQ (.bool false) rfl rfl (Gd.t (b:=false) rfl rfl) ?_
  refine .nil (Wp.one 11 (by kernel_rfl) ?_)
  refine gQ (.bool false) rfl rfl (Gd.t (b:=false) rfl rfl) ?_
  refine .nil (Wp.one 12 (by kernel_rfl) ?_)
  refine gQ (.bool false) rfl rfl (Gd.t (b:=false) rfl rfl) ?_
  refine .nil (Wp.one 13 (by kernel_rfl) ?_)
  refine oN (.bool false) rfl rfl (Gd.t (b:=false) rfl rfl) ?_
  refine .nil (Wp.one 18 (by kernel_rfl) ?_)
  refine gQ (.bool false) rfl rfl (Gd.t (b:=false) rfl rfl) ?_
  refine .nil (Wp.pr 19 (by kernel_rfl) ?_)
  refine oN (.bool false) rfl rfl (Gd.t (b:=false) rfl rfl) ?_
  refine .nil ⟨⟨rfl,rfl⟩,?_⟩
  refine Wp.b1 14 (by kernel_rfl) ?_
  refine wX (.bool false) rfl rfl (Gd.t (b:=false) rfl rfl) ?_
  refine .nil (Wp.b1 15 (by kernel_rfl) ?_)
  refine skc (.bool false) rfl rfl (Gd.t (b:=false) rfl rfl) ?_
  refine .nil (Wp.b1 16 (by kernel_rfl) ?_)
  refine wX (.bool false) rfl rfl (Gd.t (b:=false) rfl rfl) ?_
  refine .nil (Wp.b1 17 (by kernel_rfl) ?_)
  refine wX (.bool false) rfl rfl (Gd.t (b:=false) rfl rfl) ?_
  refine .nil (Wp.one 20 (by kernel_rfl) ?_)
  refine gQ (.bool false) rfl rfl (Gd.t (b:=false) rfl rfl) ?_
  refine .nil (Wp.one 21 (by kernel_rfl) ?_)
  refine cG rfl .no (.u rfl) (.s rfl) (.nil (vO 22 (by kernel_rfl) (by kernel_rfl) ?_))
  refine nI rfl iS (aB rfl aE) (oH _ _) (fun ch G9 ρ9 μ9 hle9 hd he hm=>⟨hd.1,hO.trans (by rw [hrows,aBS (fun q=>eA0 q.2)]; rfl)⟩) ?_
  rintro _ G179 μ179 hG179 ⟨hq179,rfl,rfl⟩
  exact absurd hq179 (by simp)
 refine dS ⟨true,false⟩ aV (by kernel_rfl) ?_
 refine Wp.one 0 (by kernel_rfl) ?_
 refine mV rfl rfl (.nil (Wp.b1 1 (by kernel_rfl) ?_))
 refine kp rfl .no aB5 (aB rfl aE) (Gp.add aQ Gp.nil) (fun _ hle hq=>aBJ R 0 sR b90 _ RdNP.add) ?_
 refine .nil (Wp.one 2 (by kernel_rfl) ?_)
 refine cP rfl rfl rfl rfl (.nil (Wp.one 3 (by kernel_rfl) ?_))
 refine mV rfl rfl (nV false (aGH eR0) ?_)
 refine .nil (Wp.one 4 (by kernel_rfl) ?_)
 refine gQ (.bool false) rfl rfl (Gd.t (b:=false) rfl rfl) ?_
 refine .nil (Wp.one 5 (by kernel_rfl) ?_)
 refine oN (.bool false) rfl rfl (Gd.t (b:=false) rfl rfl) ?_
 refine .nil (Wp.one 6 (by kernel_rfl) ?_)
 refine gQ (.bool false) rfl rfl (Gd.t (b:=false) rfl rfl) ?_
 refine .nil (Wp.one 7 (by kernel_rfl) ?_)
 refine cG rfl .no (.u rfl) (.s rfl) (.nil (Wp.one 8 (by kernel_rfl) ?_))
 refine mV rfl rfl (.nil (Wp.one 9 (by kernel_rfl) ?_))
 refine gQ (.bool false) rfl rfl (Gd.t (b:=false) rfl rfl) ?_
 refine .nil (Wp.one 10 (by kernel_rfl) ?_)
 refine gQ (.bool false) rfl rfl (Gd.t (b:=false) rfl rfl) ?_
 refine .nil (Wp.one 11 (by kernel_rfl) ?_)
 refine gQ (.bool false) rfl rfl (Gd.t (b:=false) rfl rfl) ?_
 refine .nil (Wp.one 12 (by kernel_rfl) ?_)
 refine gQ (.bool false) rfl rfl (Gd.t (b:=false) rfl rfl) ?_
 refine .nil (Wp.one 13 (by kernel_rfl) ?_)
 refine oN (.bool false) rfl rfl (Gd.t (b:=false) rfl rfl) ?_
 refine .nil (Wp.one 18 (by kernel_rfl) ?_)
 refine gQ (.bool false) rfl rfl (Gd.t (b:=false) rfl rfl) ?_
 refine .nil (Wp.pr 19 (by kernel_rfl) ?_)
 refine oN (.bool false) rfl rfl (Gd.t (b:=false) rfl rfl) ?_
 refine .nil ⟨⟨rfl,rfl⟩,?_⟩
 refine Wp.b1 14 (by kernel_rfl) ?_
 refine wX (.bool false) rfl rfl (Gd.t (b:=false) rfl rfl) ?_
 refine .nil (Wp.b1 15 (by kernel_rfl) ?_)
 refine skc (.bool false) rfl rfl (Gd.t (b:=false) rfl rfl) ?_
 refine .nil (Wp.b1 16 (by kernel_rfl) ?_)
 refine wX (.bool false) rfl rfl (Gd.t (b:=false) rfl rfl) ?_
 refine .nil (Wp.b1 17 (by kernel_rfl) ?_)
 refine wX (.bool false) rfl rfl (Gd.t (b:=false) rfl rfl) ?_
 refine .nil (Wp.one 20 (by kernel_rfl) ?_)
 refine gQ (.bool false) rfl rfl (Gd.t (b:=false) rfl rfl) ?_
 refine .nil (Wp.one 21 (by kernel_rfl) ?_)
 refine cG rfl .no (.u rfl) (.s rfl) (.nil (vO 22 (by kernel_rfl) (by kernel_rfl) ?_))
 refine nI rfl iS (aB rfl aE) (oH _ _) (fun ch G9 ρ9 μ9 hle9 hd he hm=>⟨hd.1,hO.trans (by rw [hrows,aBS (fun q=>eR0 q.1)]; rfl)⟩) ?_
 rintro _ G179 μ179 hG179 ⟨hq179,rfl,rfl⟩
 exact absurd hq179 (by simp)
theorem aMd (T b:Nat) (w:World) (x:Value) (hb:w.heap[b]? = some (cl [x] T)):CallsD Tryz.prog 53 #[.pointer (some ⟨b,0,none⟩)] (.panicking [uE]) w (fun e u' w'=>(∃ v,e=.returned v)∧u'=.panicking [aMM]∧w'=w.setRow b #[.int .i64 170]):=by
 refine callsD_of_wpS Tryz.func53 rfl fun c₀ cs hu=>(wpS_seq (wpS_region ?_))
 have hr:recoverD (c₀ :: cs)=some (.iface 142 (.agg #[]),{ c₀ with mode:=.panicking [{ v:=.iface 142 (.agg #[]),recovered:=true }] } :: cs):=by simp [recoverD,hu,uE]
 rw [show Tryz.f53.ntmps=11 from rfl]
 simp only [wpOpsS,List.range,List.range.loop,Array.size,List.length,List.getElem?_toArray,List.getElem?_cons_zero,List.getElem?_cons_succ,Region.wanted,if_true]
 have e1:∀ (ρ:Operand→Value) (d:Option Nat) (t:TypeId) (p:String) (af:Array Edge),(execOp ρ ⟨d,.call { callee:=.builtin .recover,args:=#[],argTypes:=#[] },t,p,af,none⟩).run Tryz.prog w=.ok .recover w:=fun ρ d t p af=>by
  simp [execOp,resolve,invoke,builtin]
 simp only [e1,hr]
 simp [execOp,Oper.upon,Exit.thenS,Act.put,Act.eval]
 refine wpS_of_wp ?_
 refine wp_seq (wp_region ?_)
 simp [wpOps,Region.wanted,execOp,Oper.wp,Oper.upon,Exit.then,Act.put,Act.eval,List.range,List.range.loop]
 refine .inl (wp_block (wp_seq (wp_region ?_)))
 have e2:(binOp .eql 20 (.iface 142 (.agg #[])) .nilIface).run Tryz.prog w=.ok (.bool false) w:=by
  have hu20:=aG0 aK2
  obtain ⟨q,hq⟩:=hu20
  have e4:∀ d,(Op.equalIn (d+1) 20 (.iface 142 (.agg #[])) .nilIface).run Tryz.prog w=.ok false w:=fun d=>by
   unfold Op.equalIn
   simp only [Sem.run_bind,run_underlying hq,Result.andThen_ok,Sem.run_pure]
  obtain ⟨d,hd⟩ : ∃ d,Op.maxDepth=d+1:=Nat.exists_eq_succ_of_ne_zero (by decide)
  simp [binOp,Op.equal,hd,e4]
 have e3:(eqGuard .eql 20 (.tmp 4) (.const .nilIface) (.iface 142 (.agg #[])) .nilIface).run Tryz.prog w=.ok () w:=by unfold eqGuard; simp
 simp [wpOps,Region.wanted,execOp,Oper.wp,Oper.upon,Exit.then,Act.put,Act.eval,List.range,List.range.loop,e2,e3]
 refine .inl (.inl (wp_cond_false (by simp [Act.eval]) ?_))
 refine wp_seq (wp_region ?_)
 have e5:(Instr.typeAssert (.iface 142 (.agg #[])) 20 142 false).run Tryz.prog w=.ok (.agg #[]) w:=by
  unfold Instr.typeAssert
  simp only [Sem.run_bind,run_underlying Tryz.underlying142,Result.andThen_ok]
  simp
 simp [wpOps,Region.wanted,execOp,Oper.wp,Oper.upon,Exit.then,Act.put,Act.eval,List.range,List.range.loop,e5]
 refine .inl (.inl (wp_region ?_))
 have e6:(storeVar 37 ⟨b,0,none⟩ (.int .i64 170)).run Tryz.prog w=.ok () (w.setRow b #[.int .i64 170]):=by
  have:=run_storeCells_at Tryz.prog b 0 T [.int .i64 170] 0 #[x] w hb (by simp) (by simp [Value.oneCell'])
  have hz:dF Tryz.prog 37=some 1:=by kernel_rfl
  cases hi:Tryz.prog.info? 37 with
  | none=>simp [dF,hi] at hz
  | some inf =>
   simp only [dF,hi,Option.map_some,Option.some.injEq] at hz
   simp only [Nat.add_zero] at this
   simpa [storeVar,sizeOf,typeInfo,hi,hz,Value.cells] using this
 simp [wpOps,Region.wanted,execOp,Oper.wp,Oper.upon,Exit.then,Act.put,Act.eval,List.range,List.range.loop,Instr.storeAt,Instr.sureAddr,e6]
 refine .inl (.inl (.inl ?_))
 refine ⟨rfl,_,rfl,.tuple #[],?_,⟨_,rfl⟩,rfl,rfl⟩
 simp [results,Tryz.f53]
set_option maxHeartbeats 4000000 in
theorem aRa (root:Nat→Y) (m:Meta) (xs:List Y) (hx:Sh) (user:ByteArray) (seq:BitVec 64) (G:PM) (hw:m.wf) (hs:SlR G 1 aL hx xs) (hK:RdNP G 1 0 (wa 64 kW)) (hl:xs.length≤1000000) (hu:user.size≤1000000000000000):Ct Tryz.prog 12 ([.agg (ba 32 root).toArray,m.val,hx.val xs.length,.string user,uv .u64 seq]:List Value).toArray G [] (fun _ μ' u=>μ'=[]∧u=.tuple #[(((gB root m xs user seq).getD none).getD Ent.zero).val,.bool ((gB root m xs user seq).getD none).isSome,.int .i64 (aGe (gB root m xs user seq))]):=by
 refine Ct.of Tryz.func12 rfl Tryz.ntmps12 rfl fun w0 hs0=>?_
 obtain ⟨Q,hQ0⟩ : ∃ Q,Q=gB root m xs user seq:=⟨_,rfl⟩
 refine .seq (rW rfl rfl ?_)
 refine bX rfl rfl rfl ?_; intro b5
 refine bX rfl rfl rfl ?_; intro b6
 refine bX rfl rfl rfl ?_; intro b8
 refine bX rfl rfl rfl ?_; intro b9
 refine al rfl iT ?_; intro b10
 refine aS rfl rfl ?_
 refine al rfl aLC ?_; intro b12
 refine .nil (.code (.seq (aSW (gB root m xs user seq=none) [Ent.zero.val,.bool false,.int .i64 170] rfl rfl rfl sG Tryz.results12 (aMd 37 _) rfl (fun hD G'=>⟨rfl,by rw [hD]; rfl⟩) ?_)))
 refine .code (.seq ?_)
 refine fM bP (by intro b hb; cases hb) ?_; intro Gfb8 hleb8 hbb8
 have hs:=hs.mono hleb8
 have hK:=hK.mono hleb8
 refine fM aQ (by intro b hb; cases hb) ?_; intro Gfb9 hleb9 hbb9
 have hs:=hs.mono hleb9
 have hK:=hK.mono hleb9
 have hbb8:=hbb8.mono hleb9
 refine .g (lA rfl .no cK (.u rfl) (fun _=>RdN.own bP) (fun _=>aU _ _) ?_)
 refine lA rfl .no lF (.u rfl) (fun _=>RdN.own aQ) (fun _=>Meta.len _) ?_
 refine .p (nI rfl aKp (aB rfl (aB rfl (aB rfl aE))) (aL0 root m xs hx _ hw hs hK hl) (fun ch G9 ρ9 μ9 hle9 hd he hm=>qB ⟨hd.1,aGo hd.2⟩ he hm .here (.cell rfl (fun w hw=>bK cC (RdN.own aF) (Ent.len _) hw) (.tmp rfl (.cell rfl (fun w hw=>jI eT (Rd.own .here rfl w hw)) .nil)))) ?_)
 rintro _ G22 μ22 hG22 ⟨ix,b22,ps,ha22,hr22,hi22,hB22,rfl,rfl,hR22⟩
 have hpl:=hR22.len
 have h2r:=aCR hB22
 rw [List.length_map] at h2r
 have hK:=hK.mono hG22
 have hbb8:=hbb8.mono hG22
 have hbb9:=hbb9.mono hG22
 refine aS rfl rfl (.nc (.seq ?_))
 obtain ⟨pf,epf⟩:=eG (k:=ps.length-1) (xs:=ps) (by omega)
 have e9:(ps.map (·.1)).getD ((ps.map (·.1)).length-1) iD=pf.1:=by rw [List.length_map,tB rfl epf]
 refine .g (nC rfl rfl (fZ rfl mX rfl (lN rfl qT rfl (Rd.own .here kZ) ?_)))
 refine lE rfl aE1 rfl (aW (((ps.length-1):Nat):Int) rfl rfl rfl rfl ?_)
 refine aS rfl rfl (.nc (.seq (.seq ?_)))
 obtain hwN | ⟨f,hwf⟩ : dP root (bI m) pf.1 1=none∨∃ f,dP root (bI m) pf.1 1=some f:=by
  cases dP root (bI m) pf.1 1 with
  | none=>exact .inl rfl
  | some f=>exact .inr ⟨f,rfl⟩
 ·refine aCI aV rfl ?_
  refine WoT.n3 0 1 3 (by kernel_rfl) ?_ ?_ ?_
  ·refine mV rfl rfl (.nil (WoT.n2 1 3 (by kernel_rfl) ?_ ?_))
   ·refine mV rfl rfl (.nil (WoT.n2 2 3 (by kernel_rfl) ?_ ?_))
    ·refine nJ rfl oT (aB rfl (aB rfl (aB rfl aE))) (bR .here) (rZ root (bI m) ps ix ha22 hr22 hi22 b22 _ hR22 hK (ps.length-1) 1 pf epf (by decide)) (fun ch G9 ρ9 μ9 hle9 hd he hm=>qB ⟨hd.1,rM hB22 (by rw [e9]; exact hd.2)⟩ he hm .here (.cell rfl (fun w hw=>bK cC (RdN.own aF) (Ent.len _) hw) (.tmp rfl (.cell rfl (fun w hw=>jI eT (Rd.own .here rfl w hw)) .nil)))) ?_
     rintro _ G31 μ31 hG31 ⟨f,h31,hwf,rfl,rfl,hs31⟩
     have hK:=hK.mono hG31
     have hbb8:=hbb8.mono hG31
     have hbb9:=hbb9.mono hG31
     have hR22:=hR22.mono hG31
     rw [hwN] at hwf; cases hwf
    refine lN rfl cE rfl ((hbb8.rd (by rfl)).rd) ?_
    refine .nil (WoT.n1 2 (by kernel_rfl) ?_)
    refine nJ rfl oT (aB rfl (aB rfl (aB rfl aE))) (bR .here) (rZ root (bI m) ps ix ha22 hr22 hi22 b22 _ hR22 hK (ps.length-1) 1 pf epf (by decide)) (fun ch G9 ρ9 μ9 hle9 hd he hm=>qB ⟨hd.1,rM hB22 (by rw [e9]; exact hd.2)⟩ he hm .here (.cell rfl (fun w hw=>bK cC (RdN.own aF) (Ent.len _) hw) (.tmp rfl (.cell rfl (fun w hw=>jI eT (Rd.own .here rfl w hw)) .nil)))) ?_
    rintro _ G31 μ31 hG31 ⟨f,h31,hwf,rfl,rfl,hs31⟩
    have hK:=hK.mono hG31
    have hbb8:=hbb8.mono hG31
    have hbb9:=hbb9.mono hG31
    have hR22:=hR22.mono hG31
    rw [hwN] at hwf; cases hwf
   refine lN rfl cE rfl ((hbb8.rd (by rfl)).rd) ?_
   refine .nil (WoT.n1 1 (by kernel_rfl) ?_)
   refine mV rfl rfl (.nil (WoT.n1 2 (by kernel_rfl) ?_))
   refine nJ rfl oT (aB rfl (aB rfl (aB rfl aE))) (bR .here) (rZ root (bI m) ps ix ha22 hr22 hi22 b22 _ hR22 hK (ps.length-1) 1 pf epf (by decide)) (fun ch G9 ρ9 μ9 hle9 hd he hm=>qB ⟨hd.1,rM hB22 (by rw [e9]; exact hd.2)⟩ he hm .here (.cell rfl (fun w hw=>bK cC (RdN.own aF) (Ent.len _) hw) (.tmp rfl (.cell rfl (fun w hw=>jI eT (Rd.own .here rfl w hw)) .nil)))) ?_
   rintro _ G31 μ31 hG31 ⟨f,h31,hwf,rfl,rfl,hs31⟩
   have hK:=hK.mono hG31
   have hbb8:=hbb8.mono hG31
   have hbb9:=hbb9.mono hG31
   have hR22:=hR22.mono hG31
   rw [hwN] at hwf; cases hwf
  ·refine mV rfl rfl (.nil (WoT.n2 0 3 (by kernel_rfl) ?_ ?_))
   ·refine mV rfl rfl (.nil (WoT.n2 2 3 (by kernel_rfl) ?_ ?_))
    ·refine nJ rfl oT (aB rfl (aB rfl (aB rfl aE))) (bR .here) (rZ root (bI m) ps ix ha22 hr22 hi22 b22 _ hR22 hK (ps.length-1) 1 pf epf (by decide)) (fun ch G9 ρ9 μ9 hle9 hd he hm=>qB ⟨hd.1,rM hB22 (by rw [e9]; exact hd.2)⟩ he hm .here (.cell rfl (fun w hw=>bK cC (RdN.own aF) (Ent.len _) hw) (.tmp rfl (.cell rfl (fun w hw=>jI eT (Rd.own .here rfl w hw)) .nil)))) ?_
     rintro _ G31 μ31 hG31 ⟨f,h31,hwf,rfl,rfl,hs31⟩
     have hK:=hK.mono hG31
     have hbb8:=hbb8.mono hG31
     have hbb9:=hbb9.mono hG31
     have hR22:=hR22.mono hG31
     rw [hwN] at hwf; cases hwf
    refine lN rfl cE rfl ((hbb8.rd (by rfl)).rd) ?_
    refine .nil (WoT.n1 2 (by kernel_rfl) ?_)
    refine nJ rfl oT (aB rfl (aB rfl (aB rfl aE))) (bR .here) (rZ root (bI m) ps ix ha22 hr22 hi22 b22 _ hR22 hK (ps.length-1) 1 pf epf (by decide)) (fun ch G9 ρ9 μ9 hle9 hd he hm=>qB ⟨hd.1,rM hB22 (by rw [e9]; exact hd.2)⟩ he hm .here (.cell rfl (fun w hw=>bK cC (RdN.own aF) (Ent.len _) hw) (.tmp rfl (.cell rfl (fun w hw=>jI eT (Rd.own .here rfl w hw)) .nil)))) ?_
    rintro _ G31 μ31 hG31 ⟨f,h31,hwf,rfl,rfl,hs31⟩
    have hK:=hK.mono hG31
    have hbb8:=hbb8.mono hG31
    have hbb9:=hbb9.mono hG31
    have hR22:=hR22.mono hG31
    rw [hwN] at hwf; cases hwf
   refine lN rfl cE rfl ((hbb8.rd (by rfl)).rd) ?_
   refine .nil (WoT.n1 0 (by kernel_rfl) ?_)
   refine mV rfl rfl (.nil (WoT.n1 2 (by kernel_rfl) ?_))
   refine nJ rfl oT (aB rfl (aB rfl (aB rfl aE))) (bR .here) (rZ root (bI m) ps ix ha22 hr22 hi22 b22 _ hR22 hK (ps.length-1) 1 pf epf (by decide)) (fun ch G9 ρ9 μ9 hle9 hd he hm=>qB ⟨hd.1,rM hB22 (by rw [e9]; exact hd.2)⟩ he hm .here (.cell rfl (fun w hw=>bK cC (RdN.own aF) (Ent.len _) hw) (.tmp rfl (.cell rfl (fun w hw=>jI eT (Rd.own .here rfl w hw)) .nil)))) ?_
   rintro _ G31 μ31 hG31 ⟨f,h31,hwf,rfl,rfl,hs31⟩
   have hK:=hK.mono hG31
   have hbb8:=hbb8.mono hG31
   have hbb9:=hbb9.mono hG31
   have hR22:=hR22.mono hG31
   rw [hwN] at hwf; cases hwf
  refine lN rfl cE rfl ((hbb8.rd (by rfl)).rd) ?_
  refine .nil (WoT.n2 0 1 (by kernel_rfl) ?_ ?_)
  ·refine mV rfl rfl (.nil (WoT.n1 1 (by kernel_rfl) ?_))
   refine mV rfl rfl (.nil (WoT.n1 2 (by kernel_rfl) ?_))
   refine nJ rfl oT (aB rfl (aB rfl (aB rfl aE))) (bR .here) (rZ root (bI m) ps ix ha22 hr22 hi22 b22 _ hR22 hK (ps.length-1) 1 pf epf (by decide)) (fun ch G9 ρ9 μ9 hle9 hd he hm=>qB ⟨hd.1,rM hB22 (by rw [e9]; exact hd.2)⟩ he hm .here (.cell rfl (fun w hw=>bK cC (RdN.own aF) (Ent.len _) hw) (.tmp rfl (.cell rfl (fun w hw=>jI eT (Rd.own .here rfl w hw)) .nil)))) ?_
   rintro _ G31 μ31 hG31 ⟨f,h31,hwf,rfl,rfl,hs31⟩
   have hK:=hK.mono hG31
   have hbb8:=hbb8.mono hG31
   have hbb9:=hbb9.mono hG31
   have hR22:=hR22.mono hG31
   rw [hwN] at hwf; cases hwf
  refine mV rfl rfl (.nil (WoT.n1 0 (by kernel_rfl) ?_))
  refine mV rfl rfl (.nil (WoT.n1 2 (by kernel_rfl) ?_))
  refine nJ rfl oT (aB rfl (aB rfl (aB rfl aE))) (bR .here) (rZ root (bI m) ps ix ha22 hr22 hi22 b22 _ hR22 hK (ps.length-1) 1 pf epf (by decide)) (fun ch G9 ρ9 μ9 hle9 hd he hm=>qB ⟨hd.1,rM hB22 (by rw [e9]; exact hd.2)⟩ he hm .here (.cell rfl (fun w hw=>bK cC (RdN.own aF) (Ent.len _) hw) (.tmp rfl (.cell rfl (fun w hw=>jI eT (Rd.own .here rfl w hw)) .nil)))) ?_
  rintro _ G31 μ31 hG31 ⟨f,h31,hwf,rfl,rfl,hs31⟩
  have hK:=hK.mono hG31
  have hbb8:=hbb8.mono hG31
  have hbb9:=hbb9.mono hG31
  have hR22:=hR22.mono hG31
  rw [hwN] at hwf; cases hwf
 refine dS ⟨true,false⟩ aV (by kernel_rfl) ?_
 refine Wp.one 0 (by kernel_rfl) ?_
 refine mV rfl rfl (.nil (Wp.one 1 (by kernel_rfl) ?_))
 refine mV rfl rfl (.nil (Wp.pr 3 (by kernel_rfl) ?_))
 refine lN rfl cE rfl ((hbb8.rd (by rfl)).rd) ?_
 refine .nil ⟨⟨rfl,rfl⟩,?_⟩
 refine Wp.b1 2 (by kernel_rfl) ?_
 refine ka rfl (.inl rfl) oT (aB rfl (aB rfl (aB rfl aE))) (bR .here) (aEJ root (bI m) ps ix ha22 hr22 hi22 b22 _ hR22 hK (ps.length-1) 1 pf f epf (by decide) hwf) ?_
 rintro _ G31 μ31 hG31 ⟨h31,rfl,rfl,hs31⟩
 have hfl:=uY hwf; have hfs:=hR22.sm pf (List.mem_of_getElem? epf)
 have hK:=hK.mono hG31
 have hbb8:=hbb8.mono hG31
 have hbb9:=hbb9.mono hG31
 have hR22:=hR22.mono hG31
 refine .nil (Wp.b1 4 (by kernel_rfl) ?_)
 refine kV rfl aKq (aB rfl (aB rfl aE)) (aHL h31 f user _ hs31 (by omega) hu) ?_
 refine .nil (Wp.one 5 (by kernel_rfl) ?_)
 refine nt rfl .no (.u rfl) (.nil (Wp.last (by kernel_rfl) ?_))
 refine .code (cD rfl (fun c1=>?_) (fun c1=>?_))
 ·have c1k:=c1
  try simp only [aC,aI,aD] at c1
  refine .seq ?_
  have hgq:=aGp hB22 (by rw [e9]; exact hwf) (seq:=seq) (by simpa using c1k)
  refine .g (bC rfl .no jR .nil rfl ?_)
  refine sw rfl (.u rfl) (.u rfl) rfl dD aQ rfl (Ent.one _) ?_
  refine .p (s1 rfl (.u rfl) (.u rfl) rfl mY aQ (by first|decide|(simp only [bO,aU,bJ]; omega)) (rfl) ?_)
  refine .nil (.code (.ret (sM sG rfl (fun w=>sQ w _) Tryz.results12 (.cell rfl (fun w hw=>bK cC (RdN.own aF) (Ent.len _) hw) (.tmp rfl (.cell rfl (fun w hw=>jI eT (Rd.own .here rfl w hw)) .nil))) mN ?_)))
  rw [hgq]
  exact ⟨rfl,rfl⟩
 have c1k:=c1
 try simp only [aC,aI,aD] at c1
 refine .skip (.code (.seq ?_))
 have hgr:=aGq hB22 (by rw [e9]; exact hwf) (seq:=seq) (by simpa using c1k)
 rw [List.length_map] at hgr
 refine .g (nC rfl rfl (fZ rfl mX rfl (lN rfl qT rfl (Rd.own .here kZ) ?_)))
 refine .p (kE ((ps.length-1)) rfl .no nW hR22.rows (.u rfl) (.u rfl) (by omega) (by omega) ?_)
 intro h41 L41 eL41 lL41 hs41
 have lL41:=lL41 rfl
 refine mf (vf:=#[]) (vc:=[Value.pointer (some ⟨b8,0,none⟩)].toArray) rfl .no (fun a ha _=>by simp) (fun a ha _=>by simp [(Ev.u (c:=true) rfl:Ev _ true (.tmp 8) _).eval ha rfl]) ?_
 refine kV rfl aKr (aB rfl (aB rfl aE)) (aGw h41 L41 _ hs41 (by omega) 58 aKs [.pointer (some ⟨b8,0,none⟩)] (iM user) (fun G2 hle p hp=>aGf p user b8 G2 (hbb8.mono hle))) ?_
 refine aS rfl rfl (.nc (.seq (.seq (bE rfl rfl (mV rfl rfl (aS rfl rfl (.nc (.block ?_))))))))
 refine bD (α:=Int) (fun k=>[(11,true,.bool false),(16,true,.int .i64 k)]) (fun _=>[])
  (fun k Gl=>((k = -1∧gB root m xs user seq=some none)∨(0≤k∧k≤((ps.length-1:Nat):Int)∧gB root m xs user seq=fP root (bI m) (ps.map (·.1)) user seq (ps.length-1-k.toNat) k.toNat))) (fun k=>(((ps.length-1:Nat):Int)-k).toNat) (fI (iM user) L41) [(8,true,_),(9,true,_),(10,true,_),(12,true,_),(13,true,_),(14,true,_)] [_,_,_,_,_]
  (aA rfl (aO rfl (aA rfl (aA rfl (aA rfl (aA rfl (aA rfl (aA rfl eZ))))))))
  (mS .here rfl (mS .here rfl (mS .here rfl (mS .here rfl (mS .here rfl mN))))) ?_ ?_
 ·(try dsimp only)<;>(exact aNf (hpl:=by omega) eL41 hgr)
 intro k N0 Gl0 hN0 hGl0 hF0
 try dsimp only at hF0 hN0 ⊢
 have hI:=hF0
 have hK:=hK.mono hGl0
 have hbb8:=hbb8.mono hGl0
 have hbb9:=hbb9.mono hGl0
 have hR22:=hR22.mono hGl0
 refine .g (cP rfl rfl rfl rfl (mV rfl rfl (mv rfl (.t rfl rfl) (.u rfl) (mv rfl (.t rfl rfl) (.u rfl) (cp rfl (.t rfl rfl) (.s rfl) (.s rfl) rfl (cG rfl .no (.u rfl) (.s rfl) (.g (cD rfl (fun c2=>?_) (fun c2=>?_)))))))))
 ·have c2k:=c2
  try simp only [aC,aI,aD] at c2
  refine .skip (.code (.seq (.block (.seq ?_))))
  obtain ⟨j,rfl⟩ : ∃ j:Nat,k=(j:Int):=⟨k.toNat,by omega⟩
  obtain ⟨hj,hgj⟩ : j<ps.length-1∧gB root m xs user seq=fP root (bI m) (ps.map (·.1)) user seq (ps.length-1-j) j:=by rcases hI with ⟨h1,_⟩ | ⟨h1,h2,h3⟩; (omega); (exact ⟨by omega,by simpa using h3⟩)
  obtain ⟨hst1,hst2⟩:=aGl hj hgj
  obtain ⟨p,ep⟩:=eG (k:=j) (xs:=ps) (by omega)
  refine .g (nJ rfl aKt (aB rfl (aB rfl aE)) (bR .here) (aNE root (bI m) ps ix ha22 hr22 hi22 b22 _ hR22 hK j p ep) (fun ch G9 ρ9 μ9 hle9 hd he hm=>qB ⟨hd.1,hst1 hd.2⟩ he hm .here (.cell rfl (fun w hw=>bK cC (RdN.own aF) (Ent.len _) hw) (.tmp rfl (.cell rfl (fun w hw=>jI eT (Rd.own .here rfl w hw)) .nil)))) ?_)
  rintro _ G56 μ56 hG56 ⟨l,h56,hel,rfl,rfl,hs56⟩
  obtain ⟨hln,hlh⟩:=hst2 l hel
  obtain ⟨y9,hwy,hry⟩:=aAq hel
  rw [tB rfl ep] at hwy
  have hll:=aDl hry; have hyl:=uY hwy; have hps:=hR22.sm p (List.mem_of_getElem? ep)
  have hbb8:=hbb8.mono hG56
  have hbb9:=hbb9.mono hG56
  refine .g (mf (vf:=#[]) (vc:=[Value.pointer (some ⟨b8,0,none⟩),Value.pointer (some ⟨b9,0,none⟩)].toArray) rfl .no (fun a ha _=>by simp) (fun a ha _=>by simp [(Ev.u (c:=true) rfl:Ev _ true (.tmp 8) _).eval ha rfl,(Ev.u (c:=true) rfl:Ev _ true (.tmp 9) _).eval ha rfl]) ?_)
  refine kV rfl aEy (aB rfl (aB rfl aE)) (aDA h56 l _ hs56 (by omega) 61 aKu [.pointer (some ⟨b8,0,none⟩),.pointer (some ⟨b9,0,none⟩)] (jP user seq) (fun G2 hle e he=>aGg e user seq b8 b9 G2 (hbb8.mono hle) (hbb9.mono hle))) ?_
  refine .g (cP rfl rfl rfl rfl (.g (cD rfl (fun c3=>?_) (fun c3=>?_))))
  ·have c3k:=c3
   try simp only [aC,aI,aD] at c3
   refine .g (aR rfl rfl rfl rfl ?_)
   refine .g (aZ ((j:Int)+1) ?_ ?_ ?_ ?_ ?_)
   ·exact (aA rfl (aO rfl (aA rfl (aA rfl (aA rfl (aA rfl (aA rfl (aA rfl eZ))))))))
   ·exact (mS .here rfl (mS .here rfl (mS .here rfl (mS .here rfl (mS .here rfl mN)))))
   ·first|omega|(dsimp only; omega)
   ·exact (hGl0).trans hG56
   (try dsimp only)<;>(exact .inr ⟨by omega,by omega,by have:=hln (aGm (by omega)); rw [show ((j:Int)+1).toNat=j+1 by omega]; exact this⟩)
  have c3k:=c3
  try simp only [aC,aI,aD] at c3
  refine .skip (.code (.seq (.seq ?_)))
  rcases aAu (p:=jP user seq) l with hq | ⟨x,hx0,hxi,hxf⟩
  ·exact absurd hq.1 (by omega)
  have hxl:=(List.getElem?_eq_some_iff.1 hxi).1
  have hRx:=hlh x hxf
  refine dS ⟨true,false⟩ aV (by kernel_rfl) ?_
  refine Wp.one 0 (by kernel_rfl) ?_
  refine mV rfl rfl (.nil (Wp.one 1 (by kernel_rfl) ?_))
  refine mV rfl rfl (.nil (Wp.one 2 (by kernel_rfl) ?_))
  refine ih rfl .no fE (.u rfl) (.u rfl) (by omega) (by omega) (fun _=>hs56.nn (k:=(fI (jP user seq) l).toNat) (by omega)) ?_
  refine .nil (Wp.one 3 (by kernel_rfl) ?_)
  refine fA rfl gE rfl (.nil (Wp.one 4 (by kernel_rfl) ?_))
  refine lN rfl cE rfl ((hs56.at rfl hxi 0 _ rfl).rd) ?_
  refine .nil (Wp.one 5 (by kernel_rfl) ?_)
  refine lN rfl cE rfl ((hbb8.rd (by rfl)).rd) ?_
  refine .nil (Wp.one 6 (by kernel_rfl) ?_)
  refine cs rfl .no (.u rfl) (.u rfl) rfl (.nil (Wp.last (by kernel_rfl) ?_))
  refine .code (cD rfl (fun c4=>?_) (fun c4=>?_))
  ·have c4k:=c4
   try simp only [aC,aI,aD] at c4
   refine .g (bC rfl .no jR .nil rfl ?_)
   refine sw rfl (.u rfl) (.u rfl) rfl dD aQ rfl (Ent.one _) ?_
   refine .p (s1 rfl (.u rfl) (.u rfl) rfl mY aQ (by first|decide|(simp only [bO,aU,bJ]; omega)) (rfl) ?_)
   refine .nil (.code (.ret (sM sG rfl (fun w=>sQ w _) Tryz.results12 (.cell rfl (fun w hw=>bK cC (RdN.own aF) (Ent.len _) hw) (.tmp rfl (.cell rfl (fun w hw=>jI eT (Rd.own .here rfl w hw)) .nil))) mN ?_)))
   rw [if_neg (by intro e; rw [e] at c4k; simp at c4k)] at hRx
   rw [hRx]
   exact ⟨rfl,rfl⟩
  have c4k:=c4
  try simp only [aC,aI,aD] at c4
  refine .skip (.code (.seq (rW rfl rfl (mV rfl rfl (mV rfl rfl (ih rfl .no fE (.u rfl) (.u rfl) (by omega) (by omega) (fun _=>hs56.nn (k:=(fI (jP user seq) l).toNat) (by omega)) ?_))))))
  refine lA rfl .no cC (.u rfl) (fun _=>(hs56.at rfl hxi).rd) (fun _=>Ent.len _) ?_
  refine sw rfl (.u rfl) (.u rfl) rfl dD aQ rfl (Ent.one _) ?_
  refine .p (s1 rfl (.u rfl) (.u rfl) rfl mY aQ (by first|decide|(simp only [bO,aU,bJ]; omega)) (rfl) ?_)
  refine .nil (.code (.ret (sM sG rfl (fun w=>sQ w _) Tryz.results12 (.cell rfl (fun w hw=>bK cC (RdN.own aF) (Ent.len _) hw) (.tmp rfl (.cell rfl (fun w hw=>jI eT (Rd.own .here rfl w hw)) .nil))) mN ?_)))
  rw [if_pos (toList_inj (by simpa using c4k))] at hRx
  rw [hRx]
  exact ⟨rfl,rfl⟩
 have c2k:=c2
 try simp only [aC,aI,aD] at c2
 refine .g (bC rfl .no jR .nil rfl ?_)
 refine sw rfl (.u rfl) (.u rfl) rfl dD aQ rfl (Ent.one _) ?_
 refine .p (s1 rfl (.u rfl) (.u rfl) rfl mY aQ (by first|decide|(simp only [bO,aU,bJ]; omega)) (rfl) ?_)
 refine .nil (.code (.ret (sM sG rfl (fun w=>sQ w _) Tryz.results12 (.cell rfl (fun w hw=>bK cC (RdN.own aF) (Ent.len _) hw) (.tmp rfl (.cell rfl (fun w hw=>jI eT (Rd.own .here rfl w hw)) .nil))) mN ?_)))
 rw [aNd hI (by omega)]
 exact ⟨rfl,rfl⟩
theorem aTz:aT Tryz.prog 6=true:=by kernel_rfl
theorem aEl:cL Tryz.prog 43 2=some 72:=by kernel_rfl
theorem aKJ:cL Tryz.prog 43 0=some 0:=by kernel_rfl
theorem aKK:cL Tryz.prog 43 1=some 32:=by kernel_rfl
theorem aKL:cL Tryz.prog 45 0=some 0:=by kernel_rfl
theorem aKM:cL Tryz.prog 45 1=some 1:=by kernel_rfl
theorem aTK:aT Tryz.prog 13=true:=by kernel_rfl
theorem aSv:aCX Tryz.prog 4=true:=by kernel_rfl
set_option maxHeartbeats 2000000 in
theorem aLQ (root:Nat→Y) (m:Meta) (xs:List Y) (hx:Sh) (user:ByteArray) (seq:BitVec 64) (G:PM) (hw:m.wf) (hs:SlR G 1 aL hx xs) (hu:user.size≤1000000000000000) (hK:RdNP G 1 0 (wa 64 kW)) (hR:RdNP G 0 0 (wa 64 kW)):Ct Tryz.prog 4 ([.agg (rI root m (hx.val xs.length)).toArray,.agg ([.string user,uv .u64 seq]:List Value).toArray]:List Value).toArray G [] (fun _ μ' u=>μ'=[]∧u=.bool true):=by
 refine Ct.of Tryz.func4 rfl Tryz.ntmps4 rfl fun w0 hs0=>?_
 refine .seq (fC rfl rfl ?_)
 refine bX rfl rfl rfl ?_; intro b2
 refine bX rfl rfl rfl ?_; intro b3
 refine .g (kv rfl .no aTz aE (fun _=>aRD _ hK) ?_)
 refine .g (fZ rfl aEl rfl (lN rfl bZ rfl (Rd.own aF aCf) ?_))
 refine lE rfl bL rfl (cP rfl rfl rfl rfl (.g (cD rfl (fun c1=>?_) (fun c1=>?_))))
 ·have c1k:=c1
  try simp only [aC,aI,aD] at c1
  refine .seq (bE rfl rfl (mV rfl rfl (aS rfl rfl (.nc (.ret (aP Tryz.results4 (.tmp rfl .nil) ?_))))))
  exact ⟨rfl,rfl⟩
 have c1k:=c1
 try simp only [aC,aI,aD] at c1
 refine .g (fZ rfl aKJ rfl (lA rfl .no cK (.u rfl) (fun _=>RdN.part (n:=32) (cs':=ba 32 root) aF (gS)) (fun _=>(aU _ _)) ?_))
 refine fZ rfl aKK rfl (lA rfl .no lF (.u rfl) (fun _=>RdN.part (n:=40) (cs':=m.cells) aF (aFm)) (fun _=>(Meta.len _)) ?_)
 refine fZ rfl aEl rfl (lN rfl bZ rfl (Rd.own aF aCf) ?_)
 refine fZ rfl aKL rfl (lO rfl cE rfl .here (by first|exact aJ rfl|rfl) ?_)
 refine fZ rfl aKM rfl (lO rfl fF rfl .here (by first|exact aJ rfl|rfl) ?_)
 refine kv rfl .no aB2 (aB rfl (aB rfl (aB rfl (aB rfl (aB rfl aE))))) (fun _=>aRa root m xs hx user seq _ hw hs hK (by omega) hu) ?_
 refine .p (eX rfl rfl rfl (eX rfl rfl rfl (eX rfl rfl rfl ?_)))
 refine al rfl iT ?_; intro b6
 refine sw rfl (.u rfl) (.u rfl) rfl dD .here rfl (Ent.one _) ?_
 refine .g (fZ rfl aKJ rfl (lA rfl .no cK (.u rfl) (fun _=>RdN.part (n:=32) (cs':=ba 32 root) aQ (gS)) (fun _=>(aU _ _)) ?_))
 refine fZ rfl aKK rfl (lA rfl .no lF (.u rfl) (fun _=>RdN.part (n:=40) (cs':=m.cells) aQ (aFm)) (fun _=>(Meta.len _)) ?_)
 refine fZ rfl aEl rfl (lN rfl bZ rfl (Rd.own aQ aCf) ?_)
 refine fZ rfl aKL rfl (lO rfl cE rfl aF (by first|exact aJ rfl|rfl) ?_)
 refine fZ rfl aKM rfl (lO rfl fF rfl aF (by first|exact aJ rfl|rfl) ?_)
 refine kv rfl .no aTK (aB rfl (aB rfl (aB rfl (aB rfl (aB rfl aE))))) (fun _=>aPa root m xs hx user seq _ hw hs hR (by omega) hu) ?_
 refine .p (eX rfl rfl rfl (eX rfl rfl rfl (eX rfl rfl rfl ?_)))
 refine al rfl iT ?_; intro b9
 refine sw rfl (.u rfl) (.u rfl) rfl dD .here rfl (Ent.one _) ?_
 refine .g (lA rfl (.t rfl rfl) cC (.u rfl) (fun _=>RdN.own aF) (fun _=>Ent.len _) ?_)
 refine lA rfl (.t rfl rfl) cC (.u rfl) (fun _=>RdN.own .here) (fun _=>Ent.len _) ?_
 refine eqC (true) rfl (.t rfl rfl) aKE (.u rfl) (.u rfl) (fun _=>aAr (aAw rfl).1 (aAw rfl).2) (fun _=>aAr (aAw rfl).1 (aAw rfl).2) (fun _=>⟨fun _=>rfl,fun _=>rfl⟩) ?_
 refine cG rfl .no (.u rfl) (.u rfl) (mV rfl rfl (mv rfl (.t rfl rfl) (.u rfl) (mv rfl (.t rfl rfl) (.u rfl) (eb rfl (.t rfl rfl) aSv (.u rfl) (.u rfl) (nV true (beq_self_eq_true _) ?_)))))
 refine cG rfl .no (.u rfl) (.u rfl) (mV rfl rfl (mv rfl (.t rfl rfl) (.u rfl) (mv rfl (.t rfl rfl) (.u rfl) (cp rfl (.t rfl rfl) (.u rfl) (.u rfl) rfl (nV true (beq_self_eq_true _) ?_)))))
 refine cG rfl .no (.u rfl) (.u rfl) (aS rfl rfl (.nc (.ret (aP Tryz.results4 (.tmp rfl .nil) ?_))))
 exact ⟨rfl,rfl⟩
end Go.Proofs.YtbdnclpopappeaaGreatDoor
