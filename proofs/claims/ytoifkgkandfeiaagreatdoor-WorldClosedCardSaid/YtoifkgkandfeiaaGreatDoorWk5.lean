/- Lemmas and contracts of functions, joined. -/
import Derived.Test.YtoifkgkandfeiaaGreatDoorWk4
import Derived.Shelf.Small.Wraps
import Derived.Shelf.LaysM
import Derived.Shelf.Strconv.Itoa3
import Derived.Shelf.Strings.Search2
import Derived.Shelf.Strings.Prefix
import Derived.Shelf.Unicode.Decode
import Derived.Test.YtoifkgkandfeiaaGreatDoorProg
set_option linter.unusedSimpArgs false
set_option linter.unusedVariables false
set_option linter.unusedSectionVars false
namespace Go.Proofs.YtoifkgkandfeiaaGreatDoor
open Go.Tan Go.RowKit
theorem aXy:cE Tryz.prog 438=some 74:=by kernel_rfl
theorem aV4:cT Tryz.prog 370 [0,2]=some ([V 0#8,V 0#8,uv .u64 0#64,uv .u64 0#64,uv .u64 0#64,.slice none 0 0,.int .i64 0,.bool false],[(0,5),(6,1)]):=by kernel_rfl
theorem aV6:cT Tryz.prog 438 [0,1,2]=some (ba 32 zF++ba 32 zF++[.slice none 0 0,V 0#8,V 0#8,uv .u64 0#64,uv .u64 0#64,uv .u64 0#64,.slice none 0 0,.int .i64 0,.bool false,.slice none 0 0],[(0,64),(64,1),(65,8)]):=by kernel_rfl
theorem aX1:dV Tryz.prog 438=some (ba 32 zF++ba 32 zF++[.slice none 0 0,V 0#8,V 0#8,uv .u64 0#64,uv .u64 0#64,uv .u64 0#64,.slice none 0 0,.int .i64 0,.bool false,.slice none 0 0]):=by kernel_rfl
theorem aDB:aT Tryz.prog 370 2=some 6:=by kernel_rfl
theorem aFs:aT Tryz.prog 370 3=some 7:=by kernel_rfl
theorem aF6:aL Tryz.prog 315=true:=by kernel_rfl
theorem aMJ:aL Tryz.prog 329=true:=by kernel_rfl
theorem aG7 {h h':Hd} {v v':Value} {u u':Int} {t t':Bool} (e1:h=h') (e2:v=v') (e3:u=u') (e4:t=t'):([V h.kind,V h.level,uv .u64 h.gen,uv .u64 h.epoch,uv .u64 h.num,v,.int .i64 u,.bool t]:List Value)=[V h'.kind,V h'.level,uv .u64 h'.gen,uv .u64 h'.epoch,uv .u64 h'.num,v',.int .i64 u',.bool t']:=by rw [e1,e2,e3,e4]
theorem three {α β γ:Type} [DecidableEq α] (A B:α) (o:Option (β×γ)):A≠B∨(A=B∧o=none)∨(A=B∧∃ Q R,o=some (Q,R)):=by
 by_cases h:A=B
 ·rcases o with _ | ⟨Q,R⟩
  ·exact .inr (.inl ⟨h,rfl⟩)
  ·exact .inr (.inr ⟨h,Q,R,rfl⟩)
 ·exact .inl h
theorem sh8 {m:Nat} (h:m<256):IntKind.i64.wrap ((m:Int)*2^(min (8:Int).toNat IntKind.i64.bits))=((256*m:Nat):Int):=by
 rw [show min (8:Int).toNat IntKind.i64.bits=8 from rfl,show (2:Int)^8=256 from rfl,eV (by omega) (by omega)]; omega
theorem aJS {op:Nat→List Y→Option (List Y)} {tot:Nat} {r parts p Q r':List Y} {recs R:List (List Y)} {used n u:Nat} {X:Option (List (List Y)×Nat)} (eB:X=dO op tot r parts recs used) (h:¬ r.length<7) (en:n=cH r) (hn:¬ (n=0∨128<n)) (ht:¬ r.length<7+n) (ep:p=(r.drop 7).take n) (hf:dG (r.getD 6 0) p=r.take 7)
  (hT:gI op parts recs (r.getD 6 0) p=some (Q,R)) (er:r'=r.drop (7+n)) (eu:u=if Q.isEmpty then tot-r'.length else used):X=dO op tot r' Q R u:=by
 rw [eB,aEt h en hn ht ep hf,hT,er,eu,er]
theorem aVB (root:Nat→Y) (xs:List Y) (hx:Sh) (G:PM) (hs:SlR G 1 aN hx xs) (hK:RdNP G 6 0 (wa 64 kW)) (hm:xs.length≤100000000):Ct Tryz.prog 260 ([.agg (ba 32 root).toArray,hx.val xs.length]:List Value).toArray G [] (fun G' μ' u=>∃ s ps,SlP G' s ps∧ps.map (·.2)=(fV root xs).1.recs∧μ'=[]∧u=.tuple #[.agg ([V (fV root xs).1.hd.kind,V (fV root xs).1.hd.level,uv .u64 (fV root xs).1.hd.gen,uv .u64 (fV root xs).1.hd.epoch,uv .u64 (fV root xs).1.hd.num,(s.val ps.length),.int .i64 ((fV root xs).1.used:Int),.bool (fV root xs).1.torn]:List Value).toArray,.int .i64 (fV root xs).2]):=by
 refine Ct.of Tryz.func260 rfl Tryz.ntmps260 rfl fun w0 hs0=>?_
 refine .seq (dP rfl rfl ?_)
 refine bX rfl rfl rfl ?_; intro b2
 refine al rfl aMr ?_; intro b4
 refine .g (lE rfl bV rfl (cP rfl rfl rfl rfl (.g (cD rfl (fun c1=>?_) (fun c1=>?_)))))
 ·have c1k:=c1
  try simp only [aD,aH,aE] at c1
  refine .g (bC rfl .no aV5 (.cons (.u rfl) rfl .nil) rfl ?_)
  refine sw rfl (.u rfl) (.u rfl) rfl uF .here (by first|exact qE|exact qL|rfl) (tJ rfl rfl rfl rfl rfl rfl rfl rfl) ?_
  refine aS rfl rfl (.nc (.ret (aK Tryz.results260 (.cell rfl (fun w hw=>bW rX (RdN.own .here) ((by first|exact qE|exact qL|rfl)) hw) (.tmp rfl .nil)) ?_)))
  refine ⟨⟨none,0⟩,[],zP,by rw [aJe (by omega)]; rfl,rfl,?_⟩
  rw [aJe (by omega)]; rfl
 have c1k:=c1
 try simp only [aD,aH,aE] at c1
 refine .g (kV rfl aWy (aB rfl aF) (aNP xs hx _ hs (by omega)) ?_)
 refine .p (eX rfl rfl rfl (eX rfl rfl rfl ?_))
 refine al rfl aGK ?_; intro b6
 refine sw rfl (.u rfl) (.u rfl) rfl aBU .here (by first|exact qE|exact qL|rfl) (aAc rfl rfl rfl rfl rfl) ?_
 refine .g (cP rfl rfl rfl rfl (.g (cD rfl (fun c2=>?_) (fun c2=>?_))))
 ·have c2k:=c2
  try simp only [aD,aH,aE] at c2
  refine .g (bC rfl .no aC0 .nil rfl ?_)
  refine .p (sw rfl (.u rfl) (.u rfl) rfl uF aC (by first|exact qE|exact qL|rfl) (tJ rfl rfl rfl rfl rfl rfl rfl rfl) ?_)
  refine aS rfl rfl (.nc (.ret (aK Tryz.results260 (.cell rfl (fun w hw=>bW rX (RdN.own .here) ((by first|exact qE|exact qL|rfl)) hw) (.tmp rfl .nil)) ?_)))
  refine ⟨⟨none,0⟩,[],zP,by rw [aJd (by omega) c2]; rfl,rfl,?_⟩
  rw [aJd (by omega) c2]; rfl
 have c2k:=c2
 try simp only [aD,aH,aE] at c2
 refine .g (bO (mc:=⟨false,false⟩) [0,1,3,5,6,2,4,7,8,9] aY (by kernel_rfl) ?_)
 refine lB rfl dJ rfl aI ?_
 refine lB rfl gT rfl .here ?_
 refine lB rfl gT rfl .here ?_
 refine lB rfl gT rfl .here ?_
 refine bR ([V (cQ xs).1.kind,V (cQ xs).1.level,uv .u64 (cQ xs).1.gen,uv .u64 (cQ xs).1.epoch,uv .u64 (cQ xs).1.num,.slice none 0 0,.int .i64 30,.bool false]) rfl .no aV4 (.cons (.u rfl) rfl (.cons (.u rfl) rfl .nil)) rfl (rfl) (kV rfl aMD (aB rfl (aB rfl aF)) (aGX root (cQ xs).1 _ hK) ?_)
 refine kc rfl uA (aB rfl aF) (Ct.frzB (tH (cQ xs).1 _)) ?_
 rintro _ G29 μ29 hG29 ⟨h29,L29,eL29,rfl,rfl,hs29⟩
 have hs:=hs.mono hG29
 have hK:=hK.mono hG29
 refine bR (dS (fT root (bA (cQ xs).1)) (fU root (bA (cQ xs).1)) (h29.val L29.length) (cQ xs).1 (.slice none 0 0) 30 false (.slice none 0 0)) rfl .no aV6 (.cons (.u rfl) rfl (.cons (.u rfl) rfl (.cons (.u rfl) rfl .nil))) (aS8 aJb gN rfl) (aS4 rfl gN _ _ rfl) ?_
 refine al rfl aX1 ?_; intro b8
 refine sw rfl (.u rfl) (.u rfl) rfl (by rw [mG]; exact aXy) .here (mG.trans aJb.symm) (aTA rfl rfl rfl) ?_
 refine .nil ?_
 subst eL29
 have lh:=fE (cQ xs).1
 refine .code (.seq (rO 1 pE 25 (.g (kD (30) rfl .no aP hs (.u rfl) (.u rfl) (by omega) (by omega) ?_))))
 intro h34 L34 eL34 lL34 hs34
 have lL34:=lL34 rfl
 refine aS rfl rfl (.nc (.seq (.block ?_)))
 refine aX (α:=List Y×Sh×List Y×Sh×List (Sh×List Y)×Value×Nat) (fun gh=>[(9,true,gh.2.1.val gh.1.length)]) (fun gh=>[rS 1 pE gh.2.2.2.2.2.1 25 gh.2.2.2.2.1,.blk b8 (cl (dS (fT root (bA (cQ xs).1)) (fU root (bA (cQ xs).1)) (h29.val (bA (cQ xs).1).length) (cQ xs).1 gh.2.2.2.2.2.1 (gh.2.2.2.2.2.2:Int) false (gh.2.2.2.1.val gh.2.2.1.length)) 438)])
  (fun gh Gl=>(SlR Gl 1 aN gh.2.1 gh.1)∧(SlR Gl 1 aN gh.2.2.2.1 gh.2.2.1)∧(AllS Gl gh.2.2.2.2.1)∧(gh.2.2.1=[]→gh.2.2.2.1=⟨none,0⟩)∧(wU root (cQ xs).1 xs=dO (mF root (cQ xs).1) xs.length gh.1 gh.2.2.1 (gh.2.2.2.2.1.map (·.2)) gh.2.2.2.2.2.2)∧(gh.2.2.2.2.1.length+gh.1.length≤xs.length)∧(gh.2.2.1.length+gh.1.length≤xs.length)) (fun gh=>gh.1.length) (L34,h34,[],⟨none,0⟩,[],.slice none 0 0,30) [(1,true,_),(4,true,_),(8,true,_)] [_,_,_]
  (aA rfl (aA rfl (aA rfl (aA rfl eZ))))
  (mS .here rfl (mS .here rfl (mS .here rfl (mS .here rfl (mS .here rfl mN))))) ?_ ?_
 ·refine ⟨?_,?_,?_,?_,?_,?_,?_⟩
  ·(try dsimp only)<;>(exact hs34)
  ·(try dsimp only)<;>(exact SlR.nul)
  ·(try dsimp only)<;>(exact AllS.nil)
  ·(try dsimp only)<;>(exact fun _=>rfl)
  ·(try dsimp only)<;>(rw [eL34]; rfl)
  ·(try dsimp only)<;>(simp; omega)
  (try dsimp only)<;>(simp; omega)
 intro gh N0 Gl0 hN0 hGl0 hF0
 obtain ⟨M,r,Q,sQ,ps,vr,used⟩:=gh; dsimp only at hF0 hN0 ⊢
 obtain ⟨hr,hq,hA,h0,eB,hps,hQ⟩:=hF0
 have hK:=hK.mono hGl0
 have hs29:=hs29.mono hGl0
 refine .g (lE rfl bV rfl (cP rfl rfl rfl rfl (.g (cD rfl (fun c3=>?_) (fun c3=>?_)))))
 ·have c3k:=c3
  try simp only [aD,aH,aE] at c3
  refine .g (bO (mc:=⟨false,false⟩) [0,1,2,3,4,5,6,7,8,9,10] aY (by kernel_rfl) ?_)
  refine mV rfl rfl (ih rfl .no aP (.u rfl) (.u rfl) (by omega) (by omega) (fun _=>hr.nn (k:=4) (by omega)) ?_)
  refine lN rfl bM rfl ((hr.yat (4) (by omega) (by omega)).rd) ?_
  refine cn (k:=.u8) rfl .no zK (by decide) (.u rfl) ?_; intro m41 em41 lm41
  refine mV rfl rfl (ih rfl .no aP (.u rfl) (.u rfl) (by omega) (by omega) (fun _=>hr.nn (k:=5) (by omega)) ?_)
  refine lN rfl bM rfl ((hr.yat (5) (by omega) (by omega)).rd) ?_
  refine cn (k:=.u8) rfl .no zK (by decide) (.u rfl) ?_; intro m45 em45 lm45
  refine sl rfl .no (.u rfl) (.u rfl) (fun _=>by decide) ?_
  have lm41:m41<256:=lm41
  have lm45:m45<256:=lm45
  refine aSW (m41) (m45) rfl .no (.u rfl) (.u rfl) (fun _=>rfl) (fun _=>sh8 lm45) (by omega) (by omega) ?_
  refine aS rfl rfl (.nil ?_)
  have en:m41+256*m45=cH M:=by rw [em41,em45]; rfl
  refine .g (cP rfl rfl rfl rfl (mV rfl rfl (mv rfl (.f rfl rfl) (.u rfl) (cp rfl (.f rfl rfl) (.s rfl) (.u rfl) rfl (bZ rfl .no (.u rfl) (.s rfl) (.g (cD rfl (fun c4=>?_) (fun c4=>?_))))))))
  ·have c4k:=c4
   try simp only [aD,aH,aE] at c4
   refine .g (bC rfl .no aC0 .nil rfl ?_)
   refine sw rfl (.u rfl) (.u rfl) rfl uF bE (by first|exact qE|exact qL|rfl) (tJ rfl rfl rfl rfl rfl rfl rfl rfl) ?_
   refine aS rfl rfl (.nc (.ret (aK Tryz.results260 (.cell rfl (fun w hw=>bW rX (RdN.own .here) ((by first|exact qE|exact qL|rfl)) hw) (.tmp rfl .nil)) ?_)))
   refine ⟨⟨none,0⟩,[],zP,by rw [xT (by omega) c2 (eB.trans (aJP (by omega) (by omega)))]; rfl,rfl,?_⟩
   rw [xT (by omega) c2 (eB.trans (aJP (by omega) (by omega)))]; rfl
  have c4k:=c4
  try simp only [aD,aH,aE] at c4
  refine .g (lE rfl bV rfl (.p (iF (((7+(m41+256*m45)):Nat):Int) rfl .no (.u rfl) (.u rfl) rfl (by omega) (fun _=>eV (by omega) (by omega)) ?_)))
  refine cP rfl rfl rfl rfl (.g (cD rfl (fun c5=>?_) (fun c5=>?_)))
  ·have c5k:=c5
   try simp only [aD,aH,aE] at c5
   refine .exit (.xcode (.xnot rfl (.xlp (.xblk (.code (.seq ?_))))))
   refine rN .here (fun _ _=>rfl) (by intro b hb; cases hb) ?_; intro GfRR hRR hleRR evRR hsRR; subst evRR
   have hK:=hK.mono hleRR
   have hs29:=hs29.mono hleRR
   have hr:=hr.mono hleRR
   have hq:=hq.mono hleRR
   have hA:=hA.mono hleRR
   have hsRR:=SlP.of hsRR hA
   refine .g (fZ rfl mU rfl (fA rfl aDB rfl (lN rfl cJ rfl (Rd.own .here aJY) ?_)))
   refine .p (lE rfl bV rfl (cP rfl rfl rfl rfl (fZ rfl mU rfl (fA rfl aFs rfl (s1 rfl (.u rfl) (.u rfl) rfl wN .here (by (try rw [mG]); decide) (aJa) ?_)))))
   refine .g (fZ rfl mU rfl (lA rfl .no rX (.u rfl) (fun _=>RdN.part (n:=8) (cs':=[V (cQ xs).1.kind,V (cQ xs).1.level,uv .u64 (cQ xs).1.gen,uv .u64 (cQ xs).1.epoch,uv .u64 (cQ xs).1.num,(hRR.val ps.length),.int .i64 (used:Int),.bool (decide ((used:Int)<(xs.length:Int)))]) .here (aJX)) (fun _=>rfl) (sw rfl (.u rfl) (.u rfl) rfl uF aI (by first|exact qE|exact qL|rfl) (tJ rfl rfl rfl rfl rfl rfl rfl rfl) ?_)))
   refine aS rfl rfl (.nc (.ret (aK Tryz.results260 (.cell rfl (fun w hw=>bW rX (RdN.own .here) ((by first|exact qE|exact qL|rfl)) hw) (.tmp rfl .nil)) ?_)))
   have E:=aEu (root:=root) (by omega) c2 (eB.trans (aJU (by omega) (by omega) (by omega)))
   refine ⟨hRR,ps,hsRR,by rw [E],rfl,?_⟩
   rw [E]
   exact congrArg (fun z=>Value.tuple #[.agg (List.toArray z),.int .i64 0]) (aG7 rfl rfl rfl (by simp))
  have c5k:=c5
  try simp only [aD,aH,aE] at c5
  refine .g (iF (((7+(m41+256*m45)):Nat):Int) rfl .no (.u rfl) (.u rfl) rfl (by omega) (fun _=>eV (by omega) (by omega)) ?_)
  refine kS (7) ((7+(m41+256*m45))) rfl .no aP hr (.u rfl) (.u rfl) (.u rfl) (by omega) (by omega) (by omega) (by omega) ?_
  intro h63 L63 eL63 lL63 hs63
  have lL63:=lL63 rfl
  refine aS rfl rfl (.nil ?_)
  have eP:L63=(M.drop 7).take (m41+256*m45):=by rw [eL63]; congr 1; omega
  refine .code (.seq (.seq ?_))
  rcases three (dG (M.getD 6 0) L63) (M.take 7) (gI (mF root (cQ xs).1) Q (ps.map (·.2)) (M.getD 6 0) L63) with hf | ⟨hf,hT⟩ | ⟨hf,Q2,R2,hT⟩
  ·refine bO (mc:=⟨true,false⟩) [0,1,2,3,5,6,4,7,8,9,10,11,12,13,14,15,16] aY (by kernel_rfl) ?_
   refine mV rfl rfl (ih rfl .no aP (.u rfl) (.u rfl) (by omega) (by omega) (fun _=>hr.nn (k:=6) (by omega)) ?_)
   refine lN rfl bM rfl ((hr.yat (6) (by omega) (by omega)).rd) ?_
   refine .p (kE (7) rfl .no aP hr (.u rfl) (.u rfl) (by omega) (by omega) ?_)
   intro h70 L70 eL70 lL70 hs70
   have lL70:=lL70 rfl
   refine kc rfl wF (aB rfl (aB rfl aF)) (Ct.frzB (vN (M.getD 6 0) L63 h63 _ hs63 (by omega))) ?_
   rintro _ G68 μ68 hG68 ⟨h68,L68,eL68,rfl,rfl,hs68⟩
   have hK:=hK.mono hG68
   have hs29:=hs29.mono hG68
   have hr:=hr.mono hG68
   have hq:=hq.mono hG68
   have hA:=hA.mono hG68
   have hs63:=hs63.mono hG68
   have hs70:=hs70.mono hG68
   refine kV rfl aF6 (aB rfl (aB rfl aF)) (aE1 L68 L70 h68 h70 _ hs68 hs70 (by rw [show L68=dG (M.getD 6 0) L63 from eL68,gY]; decide)) ?_
   refine vP false (decide_eq_false (by rw [eL68,eL70]; exact hf)) ?_
   refine nt rfl .no (.u rfl) (mV rfl rfl (gH (.bool false) rfl rfl (Gd.f (b:=true) rfl rfl) ?_))
   refine gH (.bool false) rfl rfl (Gd.f (b:=true) rfl rfl) ?_
   refine vI (.bool false) rfl rfl (Gd.f (b:=true) rfl rfl) ?_
   refine gH (.bool false) rfl rfl (Gd.f (b:=true) rfl rfl) ?_
   refine ska (.bool false) rfl rfl (Gd.f (b:=true) rfl rfl) ?_
   refine gH (.bool false) rfl rfl (Gd.f (b:=true) rfl rfl) ?_
   refine bZ rfl .no (.u rfl) (.s rfl) (.g (gK rfl rfl ?_))
   refine .g (bC rfl .no aC0 .nil rfl ?_)
   refine sw rfl (.u rfl) (.u rfl) rfl uF bE (by first|exact qE|exact qL|rfl) (tJ rfl rfl rfl rfl rfl rfl rfl rfl) ?_
   refine aS rfl rfl (.nc (.ret (aK Tryz.results260 (.cell rfl (fun w hw=>bW rX (RdN.own .here) ((by first|exact qE|exact qL|rfl)) hw) (.tmp rfl .nil)) ?_)))
   refine ⟨⟨none,0⟩,[],zP,by rw [xT (by omega) c2 (eB.trans (aEr (by omega) (by omega) (by omega) (.inl (by rw [← en,←eP]; exact hf))))]; rfl,rfl,?_⟩
   rw [xT (by omega) c2 (eB.trans (aEr (by omega) (by omega) (by omega) (.inl (by rw [← en,←eP]; exact hf))))]; rfl
  ·refine bO (mc:=⟨true,false⟩) [0,1,2,3,5,6,4,7,8,9,10,11,12,13,14,15,16] aY (by kernel_rfl) ?_
   refine mV rfl rfl (ih rfl .no aP (.u rfl) (.u rfl) (by omega) (by omega) (fun _=>hr.nn (k:=6) (by omega)) ?_)
   refine lN rfl bM rfl ((hr.yat (6) (by omega) (by omega)).rd) ?_
   refine .p (kE (7) rfl .no aP hr (.u rfl) (.u rfl) (by omega) (by omega) ?_)
   intro h70 L70 eL70 lL70 hs70
   have lL70:=lL70 rfl
   refine kc rfl wF (aB rfl (aB rfl aF)) (Ct.frzB (vN (M.getD 6 0) L63 h63 _ hs63 (by omega))) ?_
   rintro _ G68 μ68 hG68 ⟨h68,L68,eL68,rfl,rfl,hs68⟩
   have hK:=hK.mono hG68
   have hs29:=hs29.mono hG68
   have hr:=hr.mono hG68
   have hq:=hq.mono hG68
   have hA:=hA.mono hG68
   have hs63:=hs63.mono hG68
   have hs70:=hs70.mono hG68
   refine kV rfl aF6 (aB rfl (aB rfl aF)) (aE1 L68 L70 h68 h70 _ hs68 hs70 (by rw [show L68=dG (M.getD 6 0) L63 from eL68,gY]; decide)) ?_
   refine vP true (decide_eq_true (by rw [eL68,eL70]; exact hf)) ?_
   refine nt rfl .no (.u rfl) (mV rfl rfl (mv rfl (Gd.f (b:=false) rfl rfl) (.u rfl) (ih rfl (Gd.f (b:=false) rfl rfl) aP (.u rfl) (.u rfl) (by omega) (by omega) (fun _=>hr.nn (k:=6) (by omega)) ?_)))
   refine ld rfl (Gd.f (b:=false) rfl rfl) bM (.u rfl) (fun _=>(hr.yat (6) (by omega) (by omega)).rd) ?_
   refine mv rfl (Gd.f (b:=false) rfl rfl) (.u rfl) (nG rfl (Gd.f (b:=false) rfl rfl) (.inl rfl) aMJ (aB rfl (aB rfl (aB rfl aF))) (dI aC .here) (aUj root (cQ xs).1 (M.getD 6 0) L63 h63 Q sQ ps vr h29 b8 (used:Int) _ hs63 hq h0 hA hs29 hK (by omega) (by omega) (by omega) hT) ?_)
   rintro _ G78 μ78 hG78 ⟨rfl,rfl⟩
   have hK:=hK.mono hG78
   have hs29:=hs29.mono hG78
   have hr:=hr.mono hG78
   have hq:=hq.mono hG78
   have hA:=hA.mono hG78
   have hs63:=hs63.mono hG78
   have hs70:=hs70.mono hG78
   have hs68:=hs68.mono hG78
   refine nt rfl (Gd.f (b:=false) rfl rfl) (.u rfl) (bZ rfl .no (.u rfl) (.u rfl) (.g (gK rfl rfl ?_)))
   refine .g (bC rfl .no aC0 .nil rfl ?_)
   refine sw rfl (.u rfl) (.u rfl) rfl uF aC (by first|exact qE|exact qL|rfl) (tJ rfl rfl rfl rfl rfl rfl rfl rfl) ?_
   refine aS rfl rfl (.nc (.ret (aK Tryz.results260 (.cell rfl (fun w hw=>bW rX (RdN.own .here) ((by first|exact qE|exact qL|rfl)) hw) (.tmp rfl .nil)) ?_)))
   refine ⟨⟨none,0⟩,[],zP,by rw [xT (by omega) c2 (eB.trans ((aEt (by omega) en (by omega) (by omega) eP hf).trans (by rw [hT])))]; rfl,rfl,?_⟩
   rw [xT (by omega) c2 (eB.trans ((aEt (by omega) en (by omega) (by omega) eP hf).trans (by rw [hT])))]; rfl
  refine bO (mc:=⟨true,false⟩) [0,1,2,3,5,6,4,7,8,9,10,11,12,13,14,15,16] aY (by kernel_rfl) ?_
  refine mV rfl rfl (ih rfl .no aP (.u rfl) (.u rfl) (by omega) (by omega) (fun _=>hr.nn (k:=6) (by omega)) ?_)
  refine lN rfl bM rfl ((hr.yat (6) (by omega) (by omega)).rd) ?_
  refine .p (kE (7) rfl .no aP hr (.u rfl) (.u rfl) (by omega) (by omega) ?_)
  intro h70 L70 eL70 lL70 hs70
  have lL70:=lL70 rfl
  refine kc rfl wF (aB rfl (aB rfl aF)) (Ct.frzB (vN (M.getD 6 0) L63 h63 _ hs63 (by omega))) ?_
  rintro _ G68 μ68 hG68 ⟨h68,L68,eL68,rfl,rfl,hs68⟩
  have hK:=hK.mono hG68
  have hs29:=hs29.mono hG68
  have hr:=hr.mono hG68
  have hq:=hq.mono hG68
  have hA:=hA.mono hG68
  have hs63:=hs63.mono hG68
  have hs70:=hs70.mono hG68
  refine kV rfl aF6 (aB rfl (aB rfl aF)) (aE1 L68 L70 h68 h70 _ hs68 hs70 (by rw [show L68=dG (M.getD 6 0) L63 from eL68,gY]; decide)) ?_
  refine vP true (decide_eq_true (by rw [eL68,eL70]; exact hf)) ?_
  refine nt rfl .no (.u rfl) (mV rfl rfl (mv rfl (Gd.f (b:=false) rfl rfl) (.u rfl) (ih rfl (Gd.f (b:=false) rfl rfl) aP (.u rfl) (.u rfl) (by omega) (by omega) (fun _=>hr.nn (k:=6) (by omega)) ?_)))
  refine ld rfl (Gd.f (b:=false) rfl rfl) bM (.u rfl) (fun _=>(hr.yat (6) (by omega) (by omega)).rd) ?_
  refine mv rfl (Gd.f (b:=false) rfl rfl) (.u rfl) (nG rfl (Gd.f (b:=false) rfl rfl) (.inl rfl) aMJ (aB rfl (aB rfl (aB rfl aF))) (dI aC .here) (aUm root (cQ xs).1 (M.getD 6 0) L63 h63 Q sQ ps vr h29 b8 (used:Int) _ hs63 hq h0 hA hs29 hK (by omega) (by omega) (by omega) hT) ?_)
  rintro _ G78 μ78 hG78 ⟨ps2,sQ2,vr2,rfl,rfl,rfl,hq2,h02,hA2,ln2,lQ2⟩
  have hr:=hr.mono hG78
  have hA:=hA.mono hG78
  refine nt rfl (Gd.f (b:=false) rfl rfl) (.u rfl) (bZ rfl .no (.u rfl) (.u rfl) (.g (dM rfl rfl ?_)))
  refine .g (iF (((7+(m41+256*m45)):Nat):Int) rfl .no (.u rfl) (.u rfl) rfl (by omega) (fun _=>eV (by omega) (by omega)) ?_)
  refine kD ((7+(m41+256*m45))) rfl .no aP hr (.u rfl) (.u rfl) (by omega) (by omega) ?_
  intro h85 L85 eL85 lL85 hs85
  have lL85:=lL85 rfl
  refine aS rfl rfl (.nil ?_)
  have eE:=aHY hq2 h02
  refine .g (fZ rfl gW rfl (lN rfl dB rfl (Rd.own .here kP) ?_))
  refine rI rfl .no bV (.u rfl) (.u rfl) ?_
  refine .g (cD rfl (fun c6=>?_) (fun c6=>?_))
  ·have c6k:=c6
   try simp only [aD,aH,aE] at c6
   refine .g (lE rfl bV rfl (.p (lE rfl bV rfl (aW (((xs.length-L85.length):Nat):Int) rfl rfl rfl rfl ?_))))
   refine fZ rfl mU rfl (fA rfl aDB rfl (s1 rfl (.u rfl) (.u rfl) rfl lR .here (by (try rw [mG]); decide) (aTB) ?_))
   refine .g (aU (L85,h85,Q2,sQ2,ps2,vr2,xs.length-L85.length) ?_ ?_ ?_ ?_ ?_)
   ·exact (aA rfl (aA rfl (aA rfl (aA rfl eZ))))
   ·exact (mS aC rfl (mS .here rfl (mS .here rfl (mS .here rfl (mS .here rfl mN)))))
   ·first|omega|(dsimp only; omega)
   ·exact ((hGl0).trans hG68).trans hG78
   refine ⟨?_,?_,?_,?_,?_,?_,?_⟩
   ·(try dsimp only)<;>(exact hs85)
   ·(try dsimp only)<;>(exact hq2)
   ·(try dsimp only)<;>(exact hA2)
   ·(try dsimp only)<;>(exact h02)
   ·(try dsimp only)<;>(exact aJS eB (by omega) en (by omega) (by omega) eP hf hT eL85 (by rw [show Q2.isEmpty=true from eE.symm.trans c6]; rfl))
   ·(try dsimp only)<;>(first|omega|rfl|assumption|(simp; done))
   (try dsimp only)<;>(first|omega|rfl|assumption|(simp; done))
  have c6k:=c6
  try simp only [aD,aH,aE] at c6
  refine .g (aU (L85,h85,Q2,sQ2,ps2,vr2,used) ?_ ?_ ?_ ?_ ?_)
  ·exact (aA rfl (aA rfl (aA rfl (aA rfl eZ))))
  ·exact (mS aC rfl (mS .here rfl (mS .here rfl (mS .here rfl (mS .here rfl mN)))))
  ·first|omega|(dsimp only; omega)
  ·exact ((hGl0).trans hG68).trans hG78
  refine ⟨?_,?_,?_,?_,?_,?_,?_⟩
  ·(try dsimp only)<;>(exact hs85)
  ·(try dsimp only)<;>(exact hq2)
  ·(try dsimp only)<;>(exact hA2)
  ·(try dsimp only)<;>(exact h02)
  ·(try dsimp only)<;>(exact aJS eB (by omega) en (by omega) (by omega) eP hf hT eL85 (by rw [show Q2.isEmpty=false from eE.symm.trans c6]; rfl))
  ·(try dsimp only)<;>(first|omega|rfl|assumption|(simp; done))
  (try dsimp only)<;>(first|omega|rfl|assumption|(simp; done))
 have c3k:=c3
 try simp only [aD,aH,aE] at c3
 refine .exit (.xcode (.xlp (.xblk (.code (.seq ?_)))))
 refine rN .here (fun _ _=>rfl) (by intro b hb; cases hb) ?_; intro GfRR hRR hleRR evRR hsRR; subst evRR
 have hA:=hA.mono hleRR
 have hsRR:=SlP.of hsRR hA
 refine .g (fZ rfl mU rfl (fA rfl aDB rfl (lN rfl cJ rfl (Rd.own .here aJY) ?_)))
 refine .p (lE rfl bV rfl (cP rfl rfl rfl rfl (fZ rfl mU rfl (fA rfl aFs rfl (s1 rfl (.u rfl) (.u rfl) rfl wN .here (by (try rw [mG]); decide) (aJa) ?_)))))
 refine .g (fZ rfl mU rfl (lA rfl .no rX (.u rfl) (fun _=>RdN.part (n:=8) (cs':=[V (cQ xs).1.kind,V (cQ xs).1.level,uv .u64 (cQ xs).1.gen,uv .u64 (cQ xs).1.epoch,uv .u64 (cQ xs).1.num,(hRR.val ps.length),.int .i64 (used:Int),.bool (decide ((used:Int)<(xs.length:Int)))]) .here (aJX)) (fun _=>rfl) (sw rfl (.u rfl) (.u rfl) rfl uF aI (by first|exact qE|exact qL|rfl) (tJ rfl rfl rfl rfl rfl rfl rfl rfl) ?_)))
 refine aS rfl rfl (.nc (.ret (aK Tryz.results260 (.cell rfl (fun w hw=>bW rX (RdN.own .here) ((by first|exact qE|exact qL|rfl)) hw) (.tmp rfl .nil)) ?_)))
 have E:=aEu (root:=root) (by omega) c2 (eB.trans (aEs (by omega)))
 refine ⟨hRR,ps,hsRR,by rw [E],rfl,?_⟩
 rw [E]
 exact congrArg (fun z=>Value.tuple #[.agg (List.toArray z),.int .i64 0]) (aG7 rfl rfl rfl (by simp))
end Go.Proofs.YtoifkgkandfeiaaGreatDoor
namespace Go.Tan
open Go.RowKit
def nF (a b:Int):List Int:=[a,b,0,0,0,0,0,0,0,0,0]
theorem aPN (a b:Int):kC (cU a b)=dC (nF a b):=by
 simp [kC,dC,cU,nF,List.range_succ]
theorem aS5 {x:Int} {l:List Int} (h:u64 x):rC ⟨dC (x :: l),0⟩=(x.toNat,⟨dC l,0⟩):=by
 have hb:=aR3 (n:=x.toNat) (by have:=h.2; omega) (dC l)
 rw [aCO]
 unfold rC
 rw [if_neg (fun h=>h rfl)]
 show ((gB (cL x.toNat++dC l)).1,(⟨(cL x.toNat++dC l).drop (gB (cL x.toNat++dC l)).2.1,(gB (cL x.toNat++dC l)).2.2⟩ : Rd'))=_
 rw [hb]
 simp
theorem aRU {a b:Int} (ha:u64 a) (hb:u64 b) (k:Nat):u64 ((nF a b).getD k 0):=by
 have h0:u64 0:=⟨by decide,by decide⟩
 match k with
 | 0=>exact ha
 | 1=>exact hb
 | 2 | 3 | 4 | 5 | 6 | 7 | 8 | 9 | 10=>exact h0
 | k+11=>simpa [nF] using h0
theorem aRT {a b:Int} {k:Nat} (h:k<11):(nF a b).drop k=(nF a b).getD k 0 :: (nF a b).drop (k+1):=by
 match k with
 | 0 | 1 | 2 | 3 | 4 | 5 | 6 | 7 | 8 | 9 | 10=>rfl
 | k+11=>omega
theorem aCU {a b:Int} {k n:Nat} {L L':List Y} {e e':Int} (ha:u64 a) (hb:u64 b) (hk:k<11) (hL:L=dC ((nF a b).drop k)) (he:e=0) (h:rC ⟨L,e⟩=(n,⟨L',e'⟩)):(n:Int)=(nF a b).getD k 0∧L'=dC ((nF a b).drop (k+1))∧e'=0:=by
 have hu:=aRU ha hb k
 rw [hL,he,aRT hk,aS5 hu] at h
 simp only [Prod.mk.injEq,Rd'.mk.injEq] at h
 obtain ⟨rfl,rfl,rfl⟩:=h
 exact ⟨Int.toNat_of_nonneg hu.1,rfl,rfl⟩
theorem aAY {a b:Int} (ha:u64 a) (hb:u64 b) (k:Nat):(dC ((nF a b).drop k)).length≤110:=by
 have h:=gD (ns:=(nF a b).drop k) (fun x hx=>by
  have hm:=List.mem_of_mem_drop hx
  have h0:u64 0:=⟨by decide,by decide⟩
  simp only [nF,List.mem_cons,List.not_mem_nil,or_false] at hm
  rcases hm with rfl|rfl|rfl|rfl|rfl|rfl|rfl|rfl|rfl|rfl|rfl<;>assumption)
 have:((nF a b).drop k).length≤11:=by rw [List.length_drop]; show 11-k≤11; omega
 omega
def gF (a b:Int) (k:Nat):Nat→Int:=fun i=>if i<k then (nF a b).getD i 0 else 0
theorem aPn {a b:Int}:(fun _=>0)=gF a b 0:=by funext i; simp [gF]
theorem aH2 {a b:Int} {k:Nat} {n:Nat} (h:(n:Int)=(nF a b).getD k 0):bG (gF a b k) k (n:Int)=gF a b (k+1):=by
 funext i
 unfold bG gF
 by_cases e:i=k
 ·subst e; simp [h]
 ·have:(i<k+1)↔(i<k):=by omega
  simp [e,this]
theorem aPo {a b:Int}:iS (gF a b 9)++[.slice none 0 0,.slice none 0 0]=(cU a b).cells ⟨none,0⟩ ⟨none,0⟩:=rfl
end Go.Tan
namespace Go.Proofs.YtoifkgkandfeiaaGreatDoor
open Go.Tan Go.RowKit
theorem aYF:cT Tryz.prog 474 [0]=some ([.pointer none,.bool false],[(0,1)]):=by kernel_rfl
theorem aM4:bJ Tryz.prog 476=some (475,1,8):=by kernel_rfl
theorem aYI:(Tryz.prog.info? 475).bind (·.zero)=some (.pointer none):=by kernel_rfl
theorem aYH:(bJ Tryz.prog 476).isSome=true:=by kernel_rfl
theorem aYE:bT Tryz.prog 475=some none:=by kernel_rfl
theorem aYG:aL Tryz.prog 224=true:=by kernel_rfl
set_option maxHeartbeats 2000000 in
theorem aOx (a b:Int) (h:Sh) (xs:List Y) (G:PM) (ha:u64 a) (hb:u64 b) (hx:xs=kC (cU a b)) (hs:SlR G 1 aN h xs):Ct Tryz.prog 330 ([h.val xs.length]:List Value).toArray G [] (fun _ μ' u=>μ'=[]∧u=.tuple #[(cU a b).val ⟨none,0⟩ ⟨none,0⟩,.int .i64 0]):=by
 refine Ct.of Tryz.func330 rfl Tryz.ntmps330 rfl fun w0 hs0=>?_
 have hx0:xs=dC ((nF a b).drop 0):=hx.trans (aPN a b)
 refine .seq (bB rfl rfl ?_)
 refine al rfl aBY ?_; intro b2
 refine .g (kc rfl aF0 (aB rfl aF) (aOA xs h _ hs (by rw [hx0]; have:=aAY ha hb 0; omega)) ?_)
 rintro _ G13 μ13 hG13 ⟨b13,s13,rfl,rfl,hs13⟩
 refine bR ([.pointer (some ⟨b13,0,none⟩),.bool false]) rfl .no aYF (.cons (.u rfl) rfl .nil) rfl (rfl) ?_
 refine bX rfl rfl rfl ?_; intro b15
 refine aS rfl rfl (.nc (.seq (aQ rfl rfl ?_)))
 refine al rfl aBY ?_; intro b5
 refine .g (fZ rfl aBA rfl (fZ rfl vZ rfl (fZ rfl aBB rfl (fZ rfl aBC rfl ?_))))
 refine Go.Tan.bN rfl aM4 aYI (Evp.cons (.u rfl) (Evp.cons (.u rfl) (Evp.cons (.u rfl) (Evp.cons (.u rfl) Evp.nil)))) rfl (by decide) (by simp [Value.oneCell',Sh.val]) ?_; intro b20
 refine lE rfl aYH rfl (mV rfl rfl (.nc (.block ?_)))
 refine aX (α:=Nat×List Y×Sh) (fun gh=>[(22,true,.int .i64 (gh.1:Int))]) (fun gh=>[.blk b5 (cl (iS (gF a b gh.1)++[.slice none 0 0,.slice none 0 0]) 202),.blk b13 (cl [Sh.val gh.2.2 gh.2.1.length,.int .i64 0] 419)])
  (fun gh Gl=>(gh.1≤4)∧(gh.2.1=dC ((nF a b).drop gh.1))∧(SlR Gl 1 aN gh.2.2 gh.2.1)) (fun gh=>4-gh.1) (0,xs,s13) [(2,true,_),(4,true,_),(5,true,_),(20,true,_),(21,true,_)] [_,_,_]
  (aM rfl (aA rfl (aA rfl (aA rfl (aA rfl (aA rfl eZ))))))
  (mS aC (by rw [← aPn]) (mS aI rfl (mS .here rfl (mS .here rfl (mS .here rfl mN))))) ?_ ?_
 ·refine ⟨?_,?_,?_⟩
  ·(try dsimp only)<;>(first|omega|rfl|assumption|(simp; done))
  ·(try dsimp only)<;>(exact hx0)
  (try dsimp only)<;>(exact hs13)
 intro gh N0 Gl0 hN0 hGl0 hF0
 obtain ⟨k,L,s9⟩:=gh; dsimp only at hF0 hN0 ⊢
 obtain ⟨hk,hL,hsl⟩:=hF0
 refine .g (cP rfl rfl rfl rfl (.g (cD rfl (fun c1=>?_) (fun c1=>?_))))
 ·have c1k:=c1
  try simp only [aD,aH,aE] at c1
  refine .g (ia rfl .no aM4 (.u rfl) (.u rfl) (by omega) (by omega) ?_)
  refine ld (v:=.pointer (some ⟨b5,k,none⟩)) rfl .no aYE (.u rfl) (fun _=>Rd.own aI (aPf rfl (by omega))) ?_
  refine .g (nC rfl rfl (fZ rfl aBF rfl (lO rfl aA3 rfl bE (by first|exact aV rfl|rfl) ?_)))
  refine ka rfl (.inr rfl) aF1 (aB rfl aF) (cO aC) (aEq L 0 s9 b13 _ hsl (by rw [hL]; have:=aAY ha hb (k); omega)) ?_
  rintro _ G31 μ31 hG31 ⟨n31,L31,e31,s31,hN31,rfl,rfl,hs31⟩
  obtain ⟨hn31,hL31,rfl⟩:=aCU ha hb (by omega) hL rfl hN31
  have hsl:=hsl.mono hG31
  refine nC rfl rfl (s1 rfl (.u rfl) (.u rfl) rfl kB aC (by first|decide|(simp only [List.length_append,xP,List.length_cons,List.length_nil]; omega)) (aIy (k:=k) rfl (by omega)) ?_)
  refine .g (aW (((k+1):Nat):Int) rfl rfl rfl rfl ?_)
  refine .g (aU (k+1,L31,s31) ?_ ?_ ?_ ?_ ?_)
  ·exact (aM rfl (aA rfl (aA rfl (aA rfl (aA rfl (aA rfl eZ))))))
  ·exact (mS .here (by rw [aH2 hn31]) (mS .here rfl (mS .here rfl (mS .here rfl (mS .here rfl mN)))))
  ·first|omega|(dsimp only; omega)
  ·exact (hGl0).trans hG31
  refine ⟨?_,?_,?_⟩
  ·(try dsimp only)<;>(first|omega|rfl|assumption|(simp; done))
  ·(try dsimp only)<;>(exact hL31)
  (try dsimp only)<;>(exact hs31)
 have c1k:=c1
 try simp only [aD,aH,aE] at c1
 refine .exit (.xcode (.xlp (.xblk (.code (.seq (.seq (aQ rfl rfl (mV rfl rfl (.nc (.block ?_))))))))))
 refine aX (α:=Nat×List Y×Sh) (fun gh=>[(34,true,.int .i64 (gh.1:Int))]) (fun gh=>[.blk b5 (cl (iS (gF a b (4+gh.1))++[.slice none 0 0,.slice none 0 0]) 202),.blk b13 (cl [Sh.val gh.2.2 gh.2.1.length,.int .i64 0] 419)])
  (fun gh Gl=>(gh.1≤5)∧(gh.2.1=dC ((nF a b).drop (4+gh.1)))∧(SlR Gl 1 aN gh.2.2 gh.2.1)) (fun gh=>5-gh.1) (0,L,s9) [(2,true,_),(4,true,_),(5,true,_)] [_,_,_]
  (aM rfl (aA rfl (aA rfl (aA rfl eZ))))
  (mS .here (by rw [show k=4+0 by omega]) (mS .here rfl (mS .here rfl (mS .here rfl (mS .here rfl mN))))) ?_ ?_
 ·refine ⟨?_,?_,?_⟩
  ·(try dsimp only)<;>(first|omega|rfl|assumption|(simp; done))
  ·(try dsimp only)<;>(rw [hL,show k=4+0 by omega])
  (try dsimp only)<;>(exact hsl)
 intro gh N1 Gl1 hN1 hGl1 hF1
 obtain ⟨k2,L2,s2⟩:=gh; dsimp only at hF1 hN1 ⊢
 obtain ⟨hk2,hL2,hsl2⟩:=hF1
 refine .g (cP rfl rfl rfl rfl (.g (cD rfl (fun c2=>?_) (fun c2=>?_))))
 ·have c2k:=c2
  try simp only [aD,aH,aE] at c2
  refine .g (nC rfl rfl (fZ rfl aBF rfl (lO rfl aA3 rfl bE (by first|exact aV rfl|rfl) ?_)))
  refine ka rfl (.inr rfl) aF1 (aB rfl aF) (cO aC) (aEq L2 0 s2 b13 _ hsl2 (by rw [hL2]; have:=aAY ha hb (4+k2); omega)) ?_
  rintro _ G42 μ42 hG42 ⟨n42,L42,e42,s42,hN42,rfl,rfl,hs42⟩
  obtain ⟨hn42,hL42,rfl⟩:=aCU ha hb (by omega) hL2 rfl hN42
  have hsl2:=hsl2.mono hG42
  refine fZ rfl aBD rfl (iW rfl yQ rfl rfl ?_)
  refine s1 rfl (.u rfl) (.u rfl) rfl kB aC (by first|decide|(simp only [List.length_append,xP,List.length_cons,List.length_nil]; omega)) (aIy (k:=4+k2) (by omega) (by omega)) ?_
  refine .g (aW (((k2+1):Nat):Int) rfl rfl rfl rfl ?_)
  refine .g (aU (k2+1,L42,s42) ?_ ?_ ?_ ?_ ?_)
  ·exact (aM rfl (aA rfl (aA rfl (aA rfl eZ))))
  ·exact (mS .here (by rw [aH2 hn42]; rfl) (mS .here rfl (mS .here rfl (mS .here rfl (mS .here rfl mN)))))
  ·first|omega|(dsimp only; omega)
  ·exact (hGl1).trans hG42
  refine ⟨?_,?_,?_⟩
  ·(try dsimp only)<;>(first|omega|rfl|assumption|(simp; done))
  ·(try dsimp only)<;>(exact hL42)
  (try dsimp only)<;>(exact hs42)
 have c2k:=c2
 try simp only [aD,aH,aE] at c2
 refine .exit (.xcode (.xlp (.xblk (.code (.seq (.seq ?_))))))
 have hL9:L2=dC ((nF a b).drop 9):=by rw [hL2,show 4+k2=9 by omega]
 obtain rfl:k2=5:=by omega
 refine .g (ka rfl (.inr rfl) aMP (aB rfl (aB rfl aF)) (dI bE aC) (aKf L2 0 false s2 b15 b13 _ hsl2 (by rw [hL9]; exact Nat.le_trans (aAY ha hb _) (by decide)) 1024) ?_)
 rintro _ G47 μ47 hG47 ⟨n47,L47,e47,s47,bad47,hN47,hb47,rfl,rfl,hs47⟩
 obtain ⟨hn47,hL47,rfl⟩:=aCU ha hb (by decide) hL9 rfl hN47
 obtain rfl:n47=0:=Int.ofNat.inj hn47
 obtain rfl:bad47=false:=hb47
 refine aS rfl rfl (.nc (.block ?_))
 refine aX (α:=Nat) (fun n=>[(9,true,.int .u64 (n:Int))]) (fun _=>[])
  (fun n Gl=>(n=0)) (fun n=>0) 0 [(2,true,_),(4,true,_),(5,true,_)] [_,_,_,_,_]
  (aA rfl (aA rfl (aA rfl (aA rfl eZ))))
  (mS .here rfl (mS .here rfl (mS .here rfl (mS .here rfl (mS .here rfl mN))))) ?_ ?_
 ·(try dsimp only)<;>(first|omega|rfl|assumption|(simp; done))
 intro n N2 Gl2 hN2 hGl2 hF2
 try dsimp only at hF2 hN2 ⊢
 have hn3:=hF2
 have hs47:=hs47.mono hGl2
 refine .g (cP rfl rfl rfl rfl (mV rfl rfl (mv rfl (.t rfl rfl) (.u rfl) (nc rfl (.t rfl rfl) (.s rfl) (fz rfl (.t rfl rfl) aBG (.s rfl) (ld rfl (.t rfl rfl) kX (.s rfl) (fun hc=>Rd.own .here (by first|exact aV rfl|rfl)) ?_))))))
 refine nt rfl (.t rfl rfl) (.s rfl) (bL rfl .no (.u rfl) (.s rfl) (.g (cD rfl (fun c3=>?_) (fun c3=>?_))))
 ·have c3k:=c3
  subst hn3; simp at c3
 have c3k:=c3
 try simp only [aD,aH,aE] at c3
 refine .g (ka rfl (.inr rfl) aMP (aB rfl (aB rfl aF)) (dI .here .here) (aKf L47 0 false s47 b15 b13 _ hs47 (by rw [hL47]; exact Nat.le_trans (aAY ha hb _) (by decide)) 1024) ?_)
 rintro _ G67 μ67 hG67 ⟨n67,L67,e67,s67,bad67,hN67,hb67,rfl,rfl,hs67⟩
 obtain ⟨hn67,hL67,rfl⟩:=aCU ha hb (by decide) hL47 rfl hN67
 obtain rfl:n67=0:=Int.ofNat.inj hn67
 obtain rfl:bad67=false:=hb67
 refine aS rfl rfl (.nc (.block ?_))
 refine aX (α:=Nat) (fun q=>[(10,true,.int .u64 (q:Int))]) (fun _=>[])
  (fun q Gl=>(q=0)) (fun q=>0) 0 [(2,true,_),(4,true,_),(5,true,_)] [_,_,_,_,_]
  (aA rfl (aA rfl (aA rfl (aA rfl eZ))))
  (mS .here rfl (mS .here rfl (mS .here rfl (mS .here rfl (mS .here rfl mN))))) ?_ ?_
 ·(try dsimp only)<;>(first|omega|rfl|assumption|(simp; done))
 intro q N3 Gl3 hN3 hGl3 hF3
 try dsimp only at hF3 hN3 ⊢
 have hn4:=hF3
 refine .g (cP rfl rfl rfl rfl (mV rfl rfl (mv rfl (.t rfl rfl) (.u rfl) (nc rfl (.t rfl rfl) (.s rfl) (fz rfl (.t rfl rfl) aBG (.s rfl) (ld rfl (.t rfl rfl) kX (.s rfl) (fun hc=>Rd.own .here (by first|exact aV rfl|rfl)) ?_))))))
 refine nt rfl (.t rfl rfl) (.s rfl) (bL rfl .no (.u rfl) (.s rfl) (.g (cD rfl (fun c4=>?_) (fun c4=>?_))))
 ·have c4k:=c4
  subst hn4; simp at c4
 have c4k:=c4
 try simp only [aD,aH,aE] at c4
 refine .g (nC rfl rfl (fZ rfl aBG rfl (lO rfl kX rfl .here (by first|exact aV rfl|rfl) ?_)))
 refine mV rfl rfl (mv rfl (.f rfl rfl) (.u rfl) (nc rfl (.f rfl rfl) (.s rfl) (fz rfl (.f rfl rfl) aBF (.s rfl) (ld rfl (.f rfl rfl) aA3 (.s rfl) (fun hc=>Rd.own .here (by first|exact aV rfl|rfl)) ?_))))
 refine kp rfl (.f rfl rfl) aYG (Eva.cons (.s rfl) aF) (Gp.add aC Gp.nil) (fun hc hle hq=>aS0 L67 0 s67 b13 _ RdNP.add) ?_
 refine cp rfl (.f rfl rfl) (.s rfl) (.u rfl) rfl (bZ rfl .no (.u rfl) (.s rfl) (.g (cD rfl (fun c5=>?_) (fun c5=>?_))))
 ·have c5k:=c5
  rw [hL67] at c5; exact Bool.noConfusion (id c5:false=true)
 have c5k:=c5
 try simp only [aD,aH,aE] at c5
 refine .g (lA rfl .no rW (.u rfl) (fun _=>RdN.own aI) (fun _=>(by first|exact qY|exact qY.trans qY.symm|rfl)) ?_)
 refine sw rfl (.u rfl) (.u rfl) rfl aDN dK (by first|exact qY|exact qY.trans qY.symm|rfl) (aRb rfl rfl) ?_
 refine aS rfl rfl (.nc (.ret (aK Tryz.results330 (.cell rfl (fun w hw=>bW rW (RdN.own .here) ((by first|exact qY|exact qY.trans qY.symm|rfl)) hw) (.tmp rfl .nil)) ?_)))
 exact ⟨rfl,by rw [Edit.val,←aPo]; rfl⟩
end Go.Proofs.YtoifkgkandfeiaaGreatDoor
namespace Go.Proofs.YtoifkgkandfeiaaGreatDoor
open Go.Tan Go.RowKit Go.Maps Go.Sort Go.Shelf
theorem aYD:wS Tryz.prog 34 32=true:=by kernel_rfl
theorem aXX:aL Tryz.prog 330=true:=by kernel_rfl
theorem aFq:aT Tryz.prog 300 2=some 19:=by kernel_rfl
theorem yX:aT Tryz.prog 300 1=some 5:=by kernel_rfl
theorem aFr:aT Tryz.prog 300 3=some 20:=by kernel_rfl
theorem uH:dV Tryz.prog 300=some ([.int .u8 0,.int .u8 0,.int .u64 0,.int .u64 0,.int .u64 0,.slice none 0 0,.slice none 0 0,.slice none 0 0,.slice none 0 0,.slice none 0 0,.int .u64 0,.int .u64 0,.int .u64 0,.int .u64 0,.int .u64 0,.int .u64 0,.int .u64 0,.int .u64 0,.int .u64 0,.int .u64 0,.int .i64 0,.int .i64 0,.bool false]):=by kernel_rfl
theorem aXA:aL Tryz.prog 260=true:=by kernel_rfl
theorem aLo:aT Tryz.prog 370 0=some 0:=by kernel_rfl
theorem aV2:cT Tryz.prog 300 [0,4,5]=some ([.int .u8 0,.int .u8 0,.int .u64 0,.int .u64 0,.int .u64 0,.slice none 0 0,.slice none 0 0,.slice none 0 0,.slice none 0 0,.slice none 0 0,.int .u64 0,.int .u64 0,.int .u64 0,.int .u64 0,.int .u64 0,.int .u64 0,.int .u64 0,.int .u64 0,.int .u64 0,.int .u64 0,.int .i64 0,.int .i64 0,.bool false],[(0,5),(21,1),(22,1)]):=by kernel_rfl
theorem sE:cE Tryz.prog 300=some 23:=by kernel_rfl
theorem aXB:aL Tryz.prog 261=true:=by kernel_rfl
theorem aLM:bT Tryz.prog 300=some (some 23):=by kernel_rfl
set_option maxHeartbeats 2000000 in
theorem aUP (h:Hd) (used:Int) (torn:Bool) (bm:Nat) (p:List Y) (hp:Sh) (G:PM) (hs:SlR G 1 aN hp p) (a b:Int) (mark:BitVec 64) (ha:u64 a) (hb:u64 b) (hab:a≤b) (hm0:0#64<mark) (hpe:p=gE mark (cM a b) (cU a b)) (hl:p.length≤1000) (hK:RdNP G 6 0 (wa 64 kW)):Ct Tryz.prog 261 ([.pointer (some ⟨bm,0,none⟩),hp.val p.length]:List Value).toArray G [.blk bm (cl (nK h State.zero dE 0#64 0 used torn) 300)] (fun G' μ' u=>μ'=[.blk bm (cl (nK h (cM a b) dE mark 1 used torn) 300)]∧u=.bool true):=by
 refine Ct.of Tryz.func261 rfl Tryz.ntmps261 rfl fun w0 hs0=>?_
 have lp40:p.length=40+(kC (cU a b)).length:=by rw [hpe,aJg]
 have hmk:=aTK hpe
 refine .g (lE rfl bV rfl (cP rfl rfl rfl rfl (.g (cD rfl (fun c1=>?_) (fun c1=>?_)))))
 ·have c1k:=c1
  have:=of_decide_eq_true c1
  omega
 have c1k:=c1
 try simp only [aD,aH,aE] at c1
 refine .g (kc rfl aF0 (aB rfl aF) (aKx p hp _ hs (by omega)) ?_)
 rintro _ G14 μ14 hG14 ⟨b14,s14,rfl,rfl,hs14⟩
 have hs:=hs.mono hG14
 have hK:=hK.mono hG14
 refine .g (ka rfl (.inr rfl) aDH (aB rfl (aB rfl aF)) (cO .here) (aCT p s14 _ _ hs14 (by omega) (by omega)) ?_)
 rintro _ G16 μ16 hG16 ⟨s16,rfl,rfl,hs16⟩
 rw [hmk]
 have hs:=hs.mono hG16
 have hK:=hK.mono hG16
 refine .g (kD (40) rfl .no aP hs (.u rfl) (.u rfl) (by omega) (by omega) ?_)
 intro h19 L19 eL19 lL19 hs19
 have lL19:=lL19 rfl
 refine kV rfl aXX (aB rfl aF) (aOx a b h19 L19 _ ha hb (by rw [eL19,hpe]; exact aTH ..) hs19) ?_
 refine .p (eX rfl rfl rfl (eX rfl rfl rfl ?_))
 refine al rfl aBY ?_; intro b7
 refine sw rfl (.u rfl) (.u rfl) rfl aDN .here (by first|exact qE|exact qL|rfl) (aCu) ?_
 refine .g (cP rfl rfl rfl rfl (mV rfl rfl (mv rfl (.f rfl rfl) (.u rfl) (mv rfl (.f rfl rfl) (.u rfl) (nc rfl (.f rfl rfl) (.s rfl) (fz rfl (.f rfl rfl) aFq (.s rfl) (ld rfl (.f rfl rfl) aZ (.s rfl) (fun hc=>Rd.own aI rfl) ?_)))))))
 refine cp rfl (.f rfl rfl) (.s rfl) (.s rfl) rfl (bZ rfl .no (.u rfl) (.s rfl) (.g (cD rfl (fun c2=>?_) (fun c2=>?_))))
 ·have c2k:=c2
  try simp only [aD,aH,aE] at c2
  exfalso
  rcases c2 with c2 | c2
  ·exact absurd trivial c2
  exact BitVec.not_lt.2 (leU.1 c2) hm0
 have c2k:=c2
 try simp only [aD,aH,aE] at c2
 refine .g (bO (mc:=⟨false,false⟩) [0,1,2,3,4,5,6,7,8,9,10,11] aY (by kernel_rfl) ?_)
 refine .p (nC rfl rfl (fZ rfl yX rfl (lA rfl .no jV (.u rfl) (fun _=>RdN.part (n:=14) (cs':=State.zero.cells dE) aI (aIf)) (fun _=>(by first|exact qE|exact qL|rfl)) ?_)))
 refine lB rfl rW rfl .here ?_
 refine kV rfl aL7 (aB rfl (aB rfl aF)) (aGs a b _ ha hb hab) ?_
 refine .p (eX rfl rfl rfl (eX rfl rfl rfl ?_))
 refine al rfl wJ ?_; intro b9
 refine sw rfl (.u rfl) (.u rfl) rfl qJ .here (by first|exact qE|exact qL|rfl) (oB) ?_
 refine .g (bO (mc:=⟨false,false⟩) [0,1,2,3,5,6,7,8,4,9,10] aY (by kernel_rfl) ?_)
 refine .p (cP rfl rfl rfl rfl (.p (lA rfl (.f rfl rfl) jV (.u rfl) (fun _=>RdN.own .here) (fun _=>(by first|exact qE|exact qL|rfl)) ?_)))
 refine mv rfl (.f rfl rfl) (.u rfl) (kS (8) (40) rfl (.f rfl rfl) aP hs (.s rfl) (.u rfl) (.u rfl) (fun hc=>by omega) (fun hc=>by omega) (fun hc=>by omega) (fun hc=>by omega) ?_)
 intro h48 L48 eL48 lL48 hs48
 have lL48:L48.length=32:=by rw [eL48,List.length_take,List.length_drop]; omega
 refine spS rfl (.f rfl rfl) mR hs48 (.s rfl) (fun hc=>by omega) (by decide) ?_
 refine lA rfl (.f rfl rfl) dJ (.s rfl) (fun hc=>(hs48.arr (m:=32) (by omega)).rd) (fun _=>bP _ _) ?_
 refine kv rfl (.f rfl rfl) aL8 (Eva.cons (.s rfl) aF) (fun hc=>aIe (cM a b) dE _ aCf (aJ9 ha hb) aJ8 hK) ?_
 refine nqB rfl (.f rfl rfl) aYD (.s rfl) (.s rfl) ?_
 refine bZ rfl .no (.u rfl) (.s rfl) (.g (cD rfl (fun c3=>?_) (fun c3=>?_)))
 ·have c3k:=c3
  exfalso
  have c9:(0:Int)≠0∨¬ yl 32 (aCa (cM a b))=yl 32 (fun i=>L48.getD i 0):=by simpa using c3
  rcases c9 with q | q
  ·exact q rfl
  rw [aVc (by omega),eL48,hpe,aTI] at q; exact q rfl
 have c3k:=c3
 try simp only [aD,aH,aE] at c3
 refine .g (lB rfl jV rfl .here ?_)
 refine .p (nC rfl rfl (fZ rfl yX rfl (st rfl (.u rfl) (.u rfl) rfl qJ bE (by show 5+14≤23; decide) (oB) ?_)))
 refine nC rfl rfl (fZ rfl aFq rfl (s1 rfl (.u rfl) (.u rfl) rfl kB .here (by show 19<23; decide) (rfl) ?_))
 refine .g (nC rfl rfl (fZ rfl aFr rfl (lO rfl cJ rfl .here rfl ?_)))
 refine aW (((0+1):Nat):Int) rfl rfl rfl rfl ?_
 refine nC rfl rfl (fZ rfl aFr rfl (s1 rfl (.u rfl) (.u rfl) rfl lR .here (by show 20<23; decide) (rfl) ?_))
 refine .nil (.code (.seq (aQ rfl rfl (aS rfl rfl (.nc (.ret (bD Tryz.results261 (.tmp rfl .nil) (mS .here rfl mN) ?_)))))))
 exact ⟨rfl,rfl⟩
theorem aVA (root:Nat→Y) (xs:List Y) (hx:Sh) (h:Hd) (rc:List Y) (used:Nat) (torn:Bool) (G:PM) (hs:SlR G 1 aN hx xs) (hrd:fV root xs=(⟨h,[rc],used,torn⟩,0)) (hm:xs.length≤100000) (hK:RdNP G 6 0 (wa 64 kW)):Ct Tryz.prog 260 ([.agg (ba 32 root).toArray,hx.val xs.length]:List Value).toArray G [] (fun G' μ' u=>∃ (s:Sh) (ps:List (Sh×List Y)),SlP G' s ps∧ps.map (·.2)=[rc]∧μ'=[]∧u=.tuple #[.agg ([V h.kind,V h.level,uv .u64 h.gen,uv .u64 h.epoch,uv .u64 h.num,(s.val ps.length),.int .i64 (used:Int),.bool torn]:List Value).toArray,.int .i64 0]):=by
 refine (aVB root xs hx G hs hK (by omega)).mono fun G' μ' u hh=>?_
 rw [hrd] at hh
 obtain ⟨s,ps,h1,h2,h3,h4⟩:=hh
 exact ⟨s,ps,h1,h2,h3,h4⟩
theorem aQ5 (root:Nat→Y) (xs:List Y) (hx:Sh) (h:Hd) (rc:List Y) (used:Nat) (torn:Bool) (G:PM) (hs:SlR G 1 aN hx xs) (hrd:fV root xs=(⟨h,[rc],used,torn⟩,0)) (hm:xs.length≤100000) (a b:Int) (mark:BitVec 64) (ha:u64 a) (hb:u64 b) (hab:a≤b) (hm0:0#64<mark) (hrc:rc=gE mark (cM a b) (cU a b)) (hk3:h.kind=3#8) (hl:rc.length≤1000) (hK:RdNP G 6 0 (wa 64 kW)):Ct Tryz.prog 191 ([.agg (ba 32 root).toArray,hx.val xs.length]:List Value).toArray G [] (fun _ μ' u=>μ'=[]∧u=.tuple #[.agg (nK h (cM a b) dE mark 1 (used:Int) torn).toArray,.int .i64 0]):=by
 refine Ct.of Tryz.func191 rfl Tryz.ntmps191 rfl fun w0 hs0=>?_
 refine .seq (dP rfl rfl ?_)
 refine bX rfl rfl rfl ?_; intro b2
 refine al rfl uH ?_; intro b4
 refine .g (lA rfl .no dJ (.u rfl) (fun _=>RdN.own aC) (fun _=>(by first|exact uV|rfl)) ?_)
 refine .p (kc rfl aXA (aB rfl (aB rfl aF)) (aVA root xs hx h rc used torn _ hs hrd hm hK) ?_)
 rintro _ G14 μ14 hG14 ⟨s14,ps14,hp14,ep14,rfl,rfl⟩
 have l14:ps14.length=1:=by have:=congrArg List.length ep14; simpa using this
 have hK:=hK.mono hG14
 refine .p (eX rfl rfl rfl (eX rfl rfl rfl ?_))
 refine al rfl aMr ?_; intro b6
 refine sw rfl (.u rfl) (.u rfl) rfl uF .here (by first|exact uV|rfl) (tJ rfl rfl rfl rfl rfl rfl rfl rfl) ?_
 refine .g (cP rfl rfl rfl rfl (mV rfl rfl (mv rfl (.f rfl rfl) (.u rfl) (ln rfl (.f rfl rfl) bV (.s rfl) (cp rfl (.f rfl rfl) (.s rfl) (.u rfl) rfl (mv rfl (.f rfl rfl) (.s rfl) (fz rfl (.tc rfl rfl) aLo (.u rfl) (fz rfl (.tc rfl rfl) aC5 (.s rfl) (ld rfl (.tc rfl rfl) bM (.s rfl) (fun hc=>Rd.own .here rfl) ?_)))))))))
 refine cp rfl (.tc rfl rfl) (.s rfl) (.u rfl) rfl (bL rfl (.f rfl rfl) (.s rfl) (.s rfl) (bZ rfl .no (.u rfl) (.s rfl) (.g (cD rfl (fun c1=>?_) (fun c1=>?_)))))
 ·have c1k:=c1
  try simp only [aD,aH,aE] at c1
  exfalso
  rcases c1 with c1 | c1
  ·exact absurd trivial c1
  exact c1.2 (by rw [hk3]; rfl)
 have c1k:=c1
 try simp only [aD,aH,aE] at c1
 refine .g (fZ rfl aLo rfl (lA rfl .no gT (.u rfl) (fun _=>RdN.part (n:=5) (cs':=[V h.kind,V h.level,uv .u64 h.gen,uv .u64 h.epoch,uv .u64 h.num]) .here (rfl)) (fun _=>rfl) ?_))
 refine fZ rfl aDB rfl (lO rfl cJ rfl .here (by first|exact aV rfl|rfl) ?_)
 refine fZ rfl aFs rfl (lO rfl kX rfl .here (by first|exact aV rfl|rfl) ?_)
 refine bR (nK h State.zero dE 0#64 0 (used:Int) torn) rfl .no aV2 (.cons (.u rfl) rfl (.cons (.u rfl) rfl (.cons (.u rfl) rfl .nil))) rfl (rfl) ?_
 refine al rfl uH ?_; intro b8
 refine sw rfl (.u rfl) (.u rfl) rfl sE .here (by first|exact uV|rfl) (qV) ?_
 refine .g (fZ rfl wC rfl (lO rfl aA4 rfl aC rfl ?_))
 refine lE rfl uC rfl (mV rfl rfl (.nc (.block ?_)))
 refine aX (α:=Nat×State×BitVec 64×Int) (fun gh=>[(41,true,.int .i64 (gh.1:Int))]) (fun gh=>[.blk b8 (cl (nK h gh.2.1 dE gh.2.2.1 gh.2.2.2 (used:Int) torn) 300)])
  (fun gh Gl=>(gh.1≤1)∧((gh.1=0∧gh.2.1=State.zero∧gh.2.2.1=0#64∧gh.2.2.2=0)∨(gh.1=1∧gh.2.1=cM a b∧gh.2.2.1=mark∧gh.2.2.2=1))) (fun gh=>1-gh.1) (0,State.zero,0#64,0) [(4,true,_),(8,true,_),(39,true,_),(40,true,_)] [_,_,_]
  (aM rfl (aA rfl (aA rfl (aA rfl (aA rfl eZ)))))
  (mS .here rfl (mS .here rfl (mS .here rfl (mS .here rfl mN)))) ?_ ?_
 ·refine ⟨?_,?_⟩
  ·(try dsimp only)<;>(first|omega|rfl|assumption|(simp; done))
  (try dsimp only)<;>(exact .inl ⟨rfl,rfl,rfl,rfl⟩)
 intro gh N0 Gl0 hN0 hGl0 hF0
 obtain ⟨k,X,mk,n⟩:=gh; dsimp only at hF0 hN0 ⊢
 obtain ⟨hk,hX⟩:=hF0
 have hK:=hK.mono hGl0
 have hp14:=hp14.mono hGl0
 refine .g (cP rfl rfl rfl rfl (.g (cD rfl (fun c2=>?_) (fun c2=>?_))))
 ·have c2k:=c2
  try simp only [aD,aH,aE] at c2
  refine .skip (.code (.seq (.block (.seq (dP rfl rfl (ih rfl .no iN (.u rfl) (.u rfl) (by omega) (by omega) (fun _=>hp14.sl.nn (k:=k) (by omega)) ?_))))))
  obtain ⟨p44,ep44⟩:=dY (k:=k) (xs:=ps14) (by omega)
  have hq44:=hp14.get ep44
  refine lN rfl dB rfl ((hp14.at (k) (by omega) ep44).rd) ?_
  refine aS rfl rfl (.nc (.seq ?_))
  obtain ⟨hk0,rfl,rfl,rfl⟩ : k=0∧X=State.zero∧mk=0#64∧n=0:=by rcases hX with h | ⟨h,_⟩<;>first|exact h|omega
  have hp9:p44.2=rc:=by
   have h9:=congrArg (fun l=>l[k]?) ep14
   have h8:=aRE ep44
   rw [show (List.map (fun x=>x.2) ps14)[k]? = some p44.2 from h8] at h9
   rw [hk0] at h9
   exact Option.some.inj h9
  refine .g (ka rfl (.inr rfl) aXB (aB rfl (aB rfl aF)) (cO .here) (aUP h (used:Int) torn b8 p44.2 p44.1 _ hq44 a b mark ha hb hab hm0 (hp9.trans hrc) (by rw [hp9]; exact hl) hK) ?_)
  rintro _ G46 μ46 hG46 ⟨rfl,rfl⟩
  refine nt rfl .no (.u rfl) (.g (dM rfl rfl ?_))
  refine .g (aW (((k+1):Nat):Int) rfl rfl rfl rfl ?_)
  refine .g (aU (k+1,cM a b,mark,1) ?_ ?_ ?_ ?_ ?_)
  ·exact (aM rfl (aA rfl (aA rfl (aA rfl (aA rfl eZ)))))
  ·exact (mS .here rfl (mS .here rfl (mS .here rfl (mS .here rfl mN))))
  ·first|omega|(dsimp only; omega)
  ·exact (hGl0).trans hG46
  refine ⟨?_,?_⟩
  ·(try dsimp only)<;>(first|omega|rfl|assumption|(simp; done))
  (try dsimp only)<;>(exact .inr ⟨by omega,rfl,rfl,rfl⟩)
 have c2k:=c2
 try simp only [aD,aH,aE] at c2
 refine .g (lA rfl .no aLM (.u rfl) (fun _=>RdN.own .here) (fun _=>(by first|exact uV|rfl)) ?_)
 refine sw rfl (.u rfl) (.u rfl) rfl sE aI (by first|exact uV|rfl) (qV) ?_
 refine aS rfl rfl (.nc (.ret (aK Tryz.results191 (.cell rfl (fun w hw=>bW aLM (RdN.own .here) (uV) hw) (.tmp rfl .nil)) ?_)))
 obtain ⟨rfl,rfl,rfl⟩ : X=cM a b∧mk=mark∧n=1:=by rcases hX with ⟨h,_⟩ | ⟨_,h⟩<;>first|exact h|omega
 exact ⟨rfl,rfl⟩
end Go.Proofs.YtoifkgkandfeiaaGreatDoor
namespace Go.Proofs.YtoifkgkandfeiaaGreatDoor
open Go.Tan Go.RowKit Go.Maps Go.Sort Go.Shelf
theorem aX9:sbT Tryz.prog 9 25=true:=by kernel_rfl
theorem aWm:aL Tryz.prog 162=true:=by kernel_rfl
theorem aWl:aL Tryz.prog 161=true:=by kernel_rfl
theorem aLu:aL Tryz.prog 127=true:=by kernel_rfl
theorem aFn:aT Tryz.prog 231 0=some 0:=by kernel_rfl
theorem aLP:bT Tryz.prog 97=some none:=by kernel_rfl
theorem aFx:aL Tryz.prog 128=true:=by kernel_rfl
theorem aC9:aT Tryz.prog 165 4=some 41:=by kernel_rfl
theorem tY:aL Tryz.prog 129=true:=by kernel_rfl
theorem tS:cT Tryz.prog 161 [0,3,4]=some ([V 0#8,V 0#8,uv .u64 0#64,uv .u64 0#64,uv .u64 0#64],[(0,1),(3,1),(4,1)]):=by kernel_rfl
theorem tT:cT Tryz.prog 163 [0]=some ([.int .u8 0,.int .u8 0,.int .u64 0,.int .u64 0,.int .u64 0,.int .u64 0,.bool false],[(0,5)]):=by kernel_rfl
theorem mT:aT Tryz.prog 165 12=some 74:=by kernel_rfl
theorem uD:cE Tryz.prog 163=some 7:=by kernel_rfl
theorem lJ:aT Tryz.prog 165 10=some 60:=by kernel_rfl
theorem nY:aT Tryz.prog 165 7=some 57:=by kernel_rfl
theorem sA:aT Tryz.prog 165 5=some 42:=by kernel_rfl
theorem aLV:cT Tryz.prog 202 [0,2,3,4]=some (iS (fun _=>0)++[.slice none 0 0,.slice none 0 0],[(0,1),(2,1),(3,1),(4,5)]):=by kernel_rfl
theorem aLk:aT Tryz.prog 231 1=some 1:=by kernel_rfl
theorem tR:bT Tryz.prog 153=some none:=by kernel_rfl
theorem aLt:aL Tryz.prog 104=true:=by kernel_rfl
theorem aLx:aL Tryz.prog 132=true:=by kernel_rfl
theorem aLw:aL Tryz.prog 131=true:=by kernel_rfl
theorem aLv:aL Tryz.prog 130=true:=by kernel_rfl
theorem aC8:aT Tryz.prog 165 2=some 2:=by kernel_rfl
theorem aLT:cT Tryz.prog 159 []=some ((State.zero.cells dE),[]):=by kernel_rfl
theorem aLy:aL Tryz.prog 133=true:=by kernel_rfl
theorem tZ:aL Tryz.prog 137=true:=by kernel_rfl
theorem aBK:aL Tryz.prog 136=true:=by kernel_rfl
theorem aWg:aL Tryz.prog 139=true:=by kernel_rfl
theorem aWh:aL Tryz.prog 140=true:=by kernel_rfl
theorem aA9:aT Tryz.prog 163 1=some 5:=by kernel_rfl
theorem aIQ (bl:Nat) (h:Sh) (xs:List Nd) (sz:Value) (w:Nat→Nat) (G:PM) (hbl:PB G bl (cl [h.val xs.length,sz] 225)) (hs:SlR G 16 Nd.cells h xs) (hW:WayN xs ⟨#[]⟩ 18446744073709551615#64 w) (hn:cY xs (w 0) 0=0) (hl:xs.length≤1000000):Ct Tryz.prog 104 ([.pointer (some ⟨bl,0,none⟩)]:List Value).toArray G [] (fun _ μ' u=>μ'=[]∧u=.slice none 0 0):=by
 refine Ct.of Tryz.func104 rfl Tryz.ntmps104 rfl fun w0 hs0=>?_
 refine .g (kV rfl aWm (aB rfl aF) (aQY bl h xs sz _ hbl hl) ?_)
 refine kV rfl aWl (aB rfl (aB rfl (aB rfl (aB rfl aF)))) (aQW bl h xs sz _ hbl hs w ⟨#[]⟩ 18446744073709551615#64 hW _ hn) ?_
 refine aS rfl rfl (.nc (.ret (aK Tryz.results104 (.tmp rfl .nil) ?_)))
 exact ⟨rfl,rfl⟩
end Go.Proofs.YtoifkgkandfeiaaGreatDoor
namespace Go.Proofs.YtoifkgkandfeiaaGreatDoor
open Go.Tan Go.RowKit Go.Maps Go.Sort Go.Shelf
theorem aM0:ifT Tryz.prog 20=true:=by kernel_rfl
theorem aYA:aT Tryz.prog 36 0=some 0:=by kernel_rfl
theorem aYB:aT Tryz.prog 36 1=some 1:=by kernel_rfl
theorem aYC:aT Tryz.prog 36 2=some 2:=by kernel_rfl
theorem aBZ:dV Tryz.prog 30=some ([.int .i64 0]):=by kernel_rfl
theorem aLp:aT Tryz.prog 38 0=some 0:=by kernel_rfl
theorem wD:aL Tryz.prog 125=true:=by kernel_rfl
theorem aWc:aT Tryz.prog 38 1=some 1:=by kernel_rfl
theorem aFt:aT Tryz.prog 38 4=some 4:=by kernel_rfl
theorem aWd:aT Tryz.prog 38 2=some 2:=by kernel_rfl
theorem aWe:aT Tryz.prog 38 3=some 3:=by kernel_rfl
theorem aDK:aL Tryz.prog 89=true:=by kernel_rfl
theorem aMU:aL Tryz.prog 88=true:=by kernel_rfl
theorem aGN:dV Tryz.prog 45=some ([.pointer none]):=by kernel_rfl
theorem mQ:bT Tryz.prog 38=some (some 7):=by kernel_rfl
theorem aGC:aL Tryz.prog 84=true:=by kernel_rfl
theorem aMS:aL Tryz.prog 85=true:=by kernel_rfl
theorem aMT:aL Tryz.prog 86=true:=by kernel_rfl
theorem aCy:cT Tryz.prog 165 [0,1,2,3,4,9,13]=some ([.pointer none,.pointer none,.int .u8 0,.int .u8 0,.int .u8 0,.int .u8 0,.int .u8 0,.int .u8 0,.int .u8 0,.int .u8 0,.int .u8 0,.int .u8 0,.int .u8 0,.int .u8 0,.int .u8 0,.int .u8 0,.int .u8 0,.int .u8 0,.int .u8 0,.int .u8 0,.int .u8 0,.int .u8 0,.int .u8 0,.int .u8 0,.int .u8 0,.int .u8 0,.int .u8 0,.int .u8 0,.int .u8 0,.int .u8 0,.int .u8 0,.int .u8 0,.int .u8 0,.int .u8 0,.int .i64 0,.int .i64 0,.int .i64 0,.int .i64 0,.int .i64 0,.int .i64 0,.int .i64 0,.int .u64 0,.slice none 0 0,.slice none 0 0,.slice none 0 0,.slice none 0 0,.slice none 0 0,.int .u64 0,.int .u64 0,.int .u64 0,.int .u64 0,.int .u64 0,.int .u64 0,.int .u64 0,.int .u64 0,.int .u64 0,.int .u64 0,.int .u64 0,.int .u64 0,.map none,.int .u8 0,.int .u8 0,.int .u64 0,.int .u64 0,.int .u64 0,.int .u64 0,.bool false,.int .u8 0,.int .u8 0,.int .u64 0,.int .u64 0,.int .u64 0,.int .u64 0,.bool false,.int .u8 0,.int .u8 0,.int .u64 0,.int .u64 0,.int .u64 0,.int .u64 0,.bool false,.pointer none,.pointer none,.int .i64 0,.bool false],[(0,1),(1,1),(2,32),(34,7),(41,1),(59,1),(81,1)]):=by kernel_rfl
theorem aMV:aL Tryz.prog 90=true:=by kernel_rfl
theorem uG:cE Tryz.prog 45=some 1:=by kernel_rfl
theorem lI:bT Tryz.prog 45=some none:=by kernel_rfl
theorem aEN (w:World) (x y:Value):CallsD Tryz.prog 89 #[x,y] .returning w (fun e u' w'=>(∃ v,e=.returned v)∧u'=.returning∧w'=w):=by
 refine callsD_of_wpS Tryz.func89 rfl fun c₀ cs hu=>(wpS_seq (wpS_region ?_))
 have hr:recoverD (c₀ :: cs)=none:=by simp [recoverD,hu]
 rw [show Tryz.f89.ntmps=25 from rfl]
 simp only [wpOpsS,List.range,List.range.loop,Array.size,List.length,List.getElem?_toArray,List.getElem?_cons_zero,List.getElem?_cons_succ,Region.wanted,if_true]
 have e1:∀ (ρ:Operand→Value) (d:Option Nat) (t:TypeId) (p:String) (af:Array Edge),(execOp ρ ⟨d,.call { callee:=.builtin .recover,args:=#[],argTypes:=#[] },t,p,af,none⟩).run Tryz.prog w=.ok .recover w:=fun ρ d t p af=>by
  simp [execOp,resolve,invoke,builtin]
 simp only [e1,hr]
 simp [execOp,Oper.upon,Exit.thenS,Act.put,Act.eval]
 refine wpS_of_wp ?_
 refine wp_seq (wp_seq (wp_region ?_))
 have e2:(binOp .eql 20 .nilIface .nilIface).run Tryz.prog w=.ok (.bool true) w:=by
  have hu20:=aIH aM0
  obtain ⟨q,hq⟩:=hu20
  have e4:∀ d,(Op.equalIn (d+1) 20 .nilIface .nilIface).run Tryz.prog w=.ok true w:=fun d=>by
   unfold Op.equalIn
   simp only [Sem.run_bind,run_underlying hq,Result.andThen_ok,Sem.run_pure]
  obtain ⟨d,hd⟩ : ∃ d,Op.maxDepth=d+1:=Nat.exists_eq_succ_of_ne_zero (by decide)
  simp [binOp,Op.equal,hd,e4]
 have e3:∀ z,(eqGuard .eql 20 z (.const .nilIface) .nilIface .nilIface).run Tryz.prog w=.ok () w:=fun z=>by unfold eqGuard; simp
 simp [wpOps,Region.wanted,execOp,Oper.wp,Oper.upon,Exit.then,Act.put,Act.eval,List.range,List.range.loop,e2,e3]
 refine .inl (.inl (wp_cond_true (by simp [Act.eval]) (wp_ret ?_)))
 refine ⟨rfl,.returning,by rw [← hu],.tuple #[],?_,⟨_,rfl⟩,rfl,rfl⟩
 simp [results,Tryz.f89]
theorem aSN (w:World) (b c:Nat) (h:w.cell? ⟨b,0,none⟩=some (.int .i64 0)):CallsD Tryz.prog 88 #[.pointer (some ⟨b,0,none⟩),.pointer (some ⟨c,0,none⟩)] .returning w (fun e u' w'=>(∃ v,e=.returned v)∧u'=.returning∧w'=w):=by
 refine callsD_of_wpS Tryz.func88 rfl fun c₀ cs hu=>(wpS_of_wp ?_)
 rw [show Tryz.f88.ntmps=4 from rfl]
 refine wp_seq (wp_region ?_)
 have h1:(Instr.loadAt 30 (.pointer (some ⟨b,0,none⟩))).run Tryz.prog w=.ok (.int .i64 0) w:=by simp [Instr.loadAt,Instr.sureAddr,pP jA h]
 have h2:=aJt (P:=Tryz.prog) (op:=.neq) (k:=.i64) (a:=0) (b:=0) (r:=false) 30 rfl w
 simp [wpOps,Region.wanted,execOp,Oper.wp,Oper.upon,Exit.then,Act.put,Act.eval,List.range,List.range.loop,h1,h2,jD]
 refine .inl (.inl (wp_cond_false (by simp [Act.eval]) (wp_skip ?_)))
 refine ⟨rfl,.returning,by rw [← hu],.tuple #[],?_,⟨_,rfl⟩,rfl,rfl⟩
 simp [results,Tryz.f88]
theorem vO (n m:Int) (G:PM):Ct Tryz.prog 125 ([.int .i64 n,.int .i64 m]:List Value).toArray G [] (fun _ μ' u=>μ'=[]∧u=.bool (tP n m)):=by
 refine Ct.of Tryz.func125 rfl Tryz.ntmps125 rfl fun w0 hs0=>?_
 refine .g (cP rfl rfl rfl rfl (mV rfl rfl (mv rfl (.t rfl rfl) (.u rfl) (mv rfl (.t rfl rfl) (.u rfl) (cp rfl (.t rfl rfl) (.s rfl) (.s rfl) rfl (bL rfl .no (.u rfl) (.s rfl) (aS rfl rfl (.nc (.ret (aK Tryz.results125 (.tmp rfl .nil) ?_))))))))))
 exact ⟨rfl,rfl⟩
theorem aEl (o:Opts) (G:PM):Ct Tryz.prog 84 ([o.val]:List Value).toArray G [] (fun _ μ' u=>μ'=[]∧u=.bool (oN o)):=by
 refine Ct.of Tryz.func84 rfl Tryz.ntmps84 rfl fun w0 hs0=>?_
 refine .seq (bB rfl rfl ?_)
 refine bX rfl rfl rfl ?_; intro b1
 refine .g (fZ rfl aLp rfl (lO rfl cJ rfl .here rfl ?_))
 refine kV rfl wD (aB rfl (aB rfl aF)) (vO _ _ _) ?_
 refine .p (fz rfl (.t rfl rfl) aWc (.u rfl) (ld rfl (.t rfl rfl) cJ (.s rfl) (fun _=>Rd.own .here rfl) ?_))
 refine kv rfl (.t rfl rfl) wD (Eva.cons (.s rfl) (aB rfl aF)) (fun hc=>vO _ _ _) ?_
 refine bL rfl .no (.u rfl) (.s rfl) (.p (fz rfl (.t rfl rfl) aFt (.u rfl) (fa rfl (.t rfl rfl) aYA (.s rfl) (ld rfl (.t rfl rfl) cJ (.s rfl) (fun _=>Rd.own .here rfl) ?_))))
 refine kv rfl (.t rfl rfl) wD (Eva.cons (.s rfl) (aB rfl aF)) (fun hc=>vO _ _ _) ?_
 refine bL rfl .no (.u rfl) (.s rfl) (.g (fz rfl (.t rfl rfl) aWd (.u rfl) (ld rfl (.t rfl rfl) cJ (.s rfl) (fun _=>Rd.own .here rfl) ?_)))
 refine kv rfl (.t rfl rfl) wD (Eva.cons (.s rfl) (aB rfl aF)) (fun hc=>vO _ _ _) ?_
 refine bL rfl .no (.u rfl) (.s rfl) (.p (fz rfl (.t rfl rfl) aWe (.u rfl) (ld rfl (.t rfl rfl) cJ (.s rfl) (fun _=>Rd.own .here rfl) ?_)))
 refine kv rfl (.t rfl rfl) wD (Eva.cons (.s rfl) (aB rfl aF)) (fun hc=>vO _ _ _) ?_
 refine bL rfl .no (.u rfl) (.s rfl) (.p (fz rfl (.t rfl rfl) aFt (.u rfl) (fa rfl (.t rfl rfl) aYB (.s rfl) (ld rfl (.t rfl rfl) cJ (.s rfl) (fun _=>Rd.own .here rfl) ?_))))
 refine kv rfl (.t rfl rfl) wD (Eva.cons (.s rfl) (aB rfl aF)) (fun hc=>vO _ _ _) ?_
 refine bL rfl .no (.u rfl) (.s rfl) (.p (fz rfl (.t rfl rfl) aFt (.u rfl) (fa rfl (.t rfl rfl) aYC (.s rfl) (ld rfl (.t rfl rfl) cJ (.s rfl) (fun _=>Rd.own .here rfl) ?_))))
 refine kv rfl (.t rfl rfl) wD (Eva.cons (.s rfl) (aB rfl aF)) (fun hc=>vO _ _ _) ?_
 refine bL rfl .no (.u rfl) (.s rfl) (aS rfl rfl (.nc (.ret (aK Tryz.results84 (.tmp rfl .nil) ?_))))
 exact ⟨rfl,rfl⟩
end Go.Proofs.YtoifkgkandfeiaaGreatDoor
namespace Go.Proofs.YtoifkgkandfeiaaGreatDoor
open Go.Tan Go.RowKit Go.Maps Go.Sort Go.Shelf
theorem aHO (bx bm room done clk:Nat) (d:Db) (F:List Fi) (G:PM) (hD:DkR F clk) (hd9:done≤100000000) (hr9:room≤1000000000) (nm:ByteArray) (h:Sh) (xs:List Y) (hs:SlR G 1 aN h xs) (hn:eH nm) (hab:bK nm F=none) (hx:xs.length≤1000000) (hfit:xs.length+cA F≤room) (hcf:F.length<100):Ct Tryz.prog 136 ([pt bx,.string nm,h.val xs.length]:List Value).toArray G [.blk bx (cl (Db.cells d) 165),.blk d.dk (cl (bH bm room (done)) 118),.blk bm (mO ((F).map Fi.fe) (clk))] (fun G' μ' u=>∃ f:Fi,f.nm=nm∧f.n=xs.length∧f.safe=xs.length∧f.born=clk∧SlR G' 1 aN f.h xs∧DkR (F++[f]) (clk+1)∧μ'=[.blk bx (cl (Db.cells d) 165),.blk d.dk (cl (bH bm room (done+1+1)) 118),.blk bm (mO ((F++[f]).map Fi.fe) (clk+1))]∧u=.tuple #[]):=by
 refine Ct.of Tryz.func136 rfl Tryz.ntmps136 rfl fun w0 hs0=>?_
 refine .g (nC rfl rfl (fZ rfl nX rfl (lO rfl gU rfl .here rfl ?_)))
 refine .p (ka rfl (.inr rfl) aDG (aB rfl (aB rfl (aB rfl aF))) (dI aC aC) (aHH d.dk bm room done clk F _ hD (by omega) hr9 nm h xs hs hn hab (by omega) hfit) ?_)
 rintro _ G13 μ13 hG13 ⟨f,hfn,hfl,hfs,hfb,hsf,rfl,rfl⟩
 have hD2:DkR (F++[f]) (clk+1):=hD.app hfb (by omega) (by rw [hfn]; exact hab) (by rw [hfn]; exact hn.2) (by omega)
 have hg2:bK nm (F++[f])=some f:=aEA hab hfn
 refine .g (kV rfl mW (aB rfl aF) (nL _) ?_)
 refine .g (ka rfl (.inr rfl) aWq (aB rfl (aB rfl aF)) (fF aI .here .here) (cX fun G2 hle2 h2=>aOw bx bm room (done+1) (clk+1) d (F++[f]) G2 h2 hD2 (by omega) hr9 nm f hn hg2) ?_)
 rintro _ G18 μ18 hG18 ⟨ν9,rfl,rfl,rfl⟩
 have hsf:=hsf.mono hG18
 refine .g (bD Tryz.results136 .nil (mS .here rfl (mS .here rfl (mS .here rfl mN))) ?_)
 exact ⟨{ f with safe:=f.n },hfn,hfl,hfl,hfb,hsf,hD.app hfb (by show _+f.n≤_; omega) (by show bK f.nm F=none; rw [hfn]; exact hab) (by show f.nm.size≤100; rw [hfn]; exact hn.2) (by omega),by rw [aH0 hab hfn],rfl⟩
theorem aHN (bx bm room done clk:Nat) (d:Db) (F:List Fi) (G:PM) (hD:DkR F clk) (hd9:done≤100000000) (hr9:room≤1000000000) (nm:ByteArray) (v:Value) (xs:List Y) (hn:eH nm) (hab:bK nm F=none) (hx:xs.length≤1000000) (hfit:xs.length+cA F≤room) (hcf:F.length<100) :
  Ct Tryz.prog 136 ([pt bx,.string nm,v]:List Value).toArray G (rB v 5 xs :: [.blk bx (cl (Db.cells d) 165),.blk d.dk (cl (bH bm room (done)) 118),.blk bm (mO ((F).map Fi.fe) (clk))]) (fun G' μ' u=>∃ f:Fi,f.nm=nm∧f.n=xs.length∧f.safe=xs.length∧f.born=clk∧SlR G' 1 aN f.h xs∧DkR (F++[f]) (clk+1)∧μ'=[.blk bx (cl (Db.cells d) 165),.blk d.dk (cl (bH bm room (done+1+1)) 118),.blk bm (mO ((F++[f]).map Fi.fe) (clk+1))]∧u=.tuple #[]) :=
 aAy fun s G2 hle hv hs=>by
  subst hv
  exact aHO bx bm room done clk d F G2 hD hd9 hr9 nm s xs hs hn hab hx hfit hcf
end Go.Proofs.YtoifkgkandfeiaaGreatDoor
namespace Go.Proofs.YtoifkgkandfeiaaGreatDoor
open Go.Tan Go.RowKit Go.Maps Go.Sort Go.Shelf
theorem aEM (h:Sh) (l:List ByteArray) (G:PM) (hs:SlR G 1 kF h l) (hl:l.length≤1000000):Ct Tryz.prog 53 ([h.val l.length]:List Value).toArray G [] (fun _ μ' u=>μ'=[]∧u=.bool (l.all jQ)):=by
 refine Ct.of Tryz.func53 rfl Tryz.ntmps53 rfl fun w0 hs0=>?_
 refine .g (lE rfl wM rfl (mV rfl rfl (.nc (.block ?_))))
 refine aX (α:=Nat) (fun k=>[(7,true,.int .i64 (k:Int))]) (fun _=>[])
  (fun k Gl=>(k≤l.length)∧((l.take k).all jQ=true)) (fun k=>l.length-k) 0 [(5,true,_),(6,true,_)] []
  (aM rfl (aA rfl (aA rfl eZ)))
  mN ?_ ?_
 ·refine ⟨?_,?_⟩
  ·(try dsimp only)<;>(first|omega|rfl|assumption|(simp; done))
  (try dsimp only)<;>(rfl)
 intro k N0 Gl0 hN0 hGl0 hF0
 try dsimp only at hF0 hN0 ⊢
 obtain ⟨hk,hg⟩:=hF0
 have hs:=hs.mono hGl0
 refine .g (cP rfl rfl rfl rfl (.g (cD rfl (fun c1=>?_) (fun c1=>?_))))
 ·have c1k:=c1
  have c1:=of_decide_eq_true c1
  refine .skip (.code (.seq (.block (.seq (dP rfl rfl (ih rfl .no jZ (.u rfl) (.u rfl) (by omega) (by omega) (fun _=>hs.nn (k:=k) (by first|omega|(simp only [Bool.and_eq_true,decide_eq_true_eq] at hc; omega)|(simp only [List.length_cons,List.length_nil]; omega))) ?_))))))
  obtain ⟨x,ex⟩:=dY (k:=k) (xs:=l) (by omega)
  refine lN rfl cW rfl ((hs.at (by omega) ex 0 _ rfl).rd) (.g (cs rfl .no (.u rfl) (.u rfl) rfl (mV rfl rfl (mv rfl (.f rfl rfl) (.u rfl) (ls rfl (.f rfl rfl) lU (.s rfl) (cp rfl (.f rfl rfl) (.s rfl) (.u rfl) rfl (bZ rfl .no (.u rfl) (.s rfl) (.g (cD rfl (fun c2=>?_) (fun c2=>?_))))))))))
  ·have c2k:=c2
   skip
   refine .seq (aQ rfl rfl (aS rfl rfl (.nc (.ret (aK Tryz.results53 (.tmp rfl .nil) ?_)))))
   exact ⟨rfl,by rw [aNY ex (by rw [aIA] at c2; simpa using c2)]; rfl⟩
  have c2k:=c2
  skip
  refine .g (aW (((k+1):Nat):Int) rfl rfl rfl rfl ?_)
  refine .g (aU (k+1) ?_ ?_ ?_ ?_ ?_)
  ·exact (aM rfl (aA rfl (aA rfl eZ)))
  ·exact mN
  ·first|omega|(dsimp only; omega)
  ·exact hGl0
  refine ⟨?_,?_⟩
  ·(try dsimp only)<;>(first|omega|rfl|assumption|(simp; done))
  (try dsimp only)<;>(exact aNZ ex hg (by rw [aIA] at c2; simpa using c2))
 have c1k:=c1
 have c1:=of_decide_eq_false c1
 refine .exit (.xcode (.xlp (.xblk (.code (.seq (aQ rfl rfl (aS rfl rfl (.nc (.ret (aK Tryz.results53 (.tmp rfl .nil) ?_))))))))))
 obtain rfl:k=l.length:=by omega
 rw [List.take_length] at hg
 exact ⟨rfl,by rw [hg]; rfl⟩
theorem aTF (bd bm room done clk:Nat) (F:List Fi) (G:PM) (hD:DkR F clk) (hd9:done≤1000000000) (hr9:room≤1000000000) (nm:ByteArray):Ct Tryz.prog 55 ([.pointer (some ⟨bd,0,none⟩),.string nm,.bool true,.slice none 0 0]:List Value).toArray G [.blk bd (cl (bH bm room (done)) 118),.blk bm (mO ((F).map Fi.fe) (clk))] (fun _ μ' u=>∃ e:Int,(e=0→eH nm∧(bK nm F).isSome=true)∧(eH nm→e=0∨e=2)∧μ'=[.blk bd (cl (bH bm room (done)) 118),.blk bm (mO ((F).map Fi.fe) (clk))]∧u=.int .i64 e):=by
 refine Ct.of Tryz.func55 rfl Tryz.ntmps55 rfl fun w0 hs0=>?_
 refine .g (pe rfl .no iY (.u rfl) (.u rfl) ?_)
 refine .g (dM rfl rfl ?_)
 refine .skip (.code (.seq (.seq (rq9 rfl rfl (mV rfl rfl ?_)))))
 refine Go.Tan.b1 rfl jZ sG (.u rfl) rfl rfl (by decide) ?_; intro b14
 refine kp rfl .no wG (aB rfl aF) (Gp.add .here Gp.nil) (fun _ hle hq=>aEM ⟨some ⟨b14,0,none⟩,1⟩ [nm] _ (fD (xs:=[nm]) (bU _ _ _) (fun _ _=>rfl) (Nat.le_refl 1)) (by show 1≤_; omega)) ?_
 refine nt rfl .no (.u rfl) (mV rfl rfl (mv rfl (.f rfl rfl) (.u rfl) (kv rfl (.f rfl rfl) wG (Eva.cons (.s rfl) aF) (fun hc=>aEM ⟨none,0⟩ [] _ SlR.nul (Nat.zero_le _)) ?_)))
 refine nt rfl (.f rfl rfl) (.s rfl) (bZ rfl .no (.u rfl) (.s rfl) (.g (cD rfl (fun c1=>?_) (fun c1=>?_))))
 ·have c1k:=c1
  have hb:jQ nm=false:=by simpa using c1k
  refine .seq (aQ rfl rfl (aS rfl rfl (.nc (.ret (bD Tryz.results55 (.tmp rfl .nil) (mS aC rfl (mS aC rfl mN)) ?_)))))
  exact ⟨1,(fun h=>absurd h (by decide)),(fun h=>by rw [aPu h] at hb; cases hb),rfl,rfl⟩
 have c1k:=c1
 have hb:jQ nm=true:=by simpa using c1k
 refine .g (nC rfl rfl (fZ rfl aA6 rfl (lO rfl cJ rfl aC rfl ?_)))
 refine cP rfl rfl rfl rfl (.g (cD rfl (fun c2=>?_) (fun c2=>?_)))
 ·have c2k:=c2
  cases c2
 have c2k:=c2
 try simp only [aD,aH,aE] at c2
 refine .g (nC rfl rfl (fZ rfl vV rfl (lO rfl kX rfl aC rfl ?_)))
 refine .g (cD rfl (fun c3=>?_) (fun c3=>?_))
 ·have c3k:=c3
  cases c3
 have c3k:=c3
 try simp only [aD,aH,aE] at c3
 refine .g (nC rfl rfl (fZ rfl fX rfl (lO rfl fW rfl aC (by first|exact aV rfl|rfl) ?_)))
 refine .p (aCD rfl .no gX sF (.u rfl) (.u rfl) (uX aI) (aIW) (aIV) ?_)
 refine .p (eX rfl rfl rfl (eX rfl rfl rfl ?_))
 refine al rfl qK ?_; intro b9
 refine sw rfl (.u rfl) (.u rfl) rfl qI .here rfl (Fi.one _) ?_
 refine aS rfl rfl (.nc (.seq (lF rfl rfl (mV rfl rfl (mV rfl rfl (mv rfl (.t rfl rfl) (.u rfl) (nt rfl (.t rfl rfl) (.s rfl) (bL rfl .no (.u rfl) (.s rfl) (.g (cD rfl (fun c4=>?_) (fun c4=>?_)))))))))))
 ·have c4k:=c4
  have hn9:(bK nm F).isSome=false:=by simpa using c4k
  refine .seq (aQ rfl rfl (aS rfl rfl (.nc (.ret (bD Tryz.results55 (.tmp rfl .nil) (mS aI rfl (mS aI rfl mN)) ?_)))))
  exact ⟨2,fun h=>absurd h (by decide),fun _=>.inr rfl,rfl,rfl⟩
 have c4k:=c4
 have hn9:(bK nm F).isSome=true:=by simpa using c4k
 refine .skip (.code (.seq (aQ rfl rfl (aS rfl rfl (.nc (.ret (bD Tryz.results55 (.tmp rfl .nil) (mS aI rfl (mS aI rfl mN)) ?_)))))))
 exact ⟨0,fun _=>⟨aPv hb,hn9⟩,fun _=>.inl rfl,rfl,rfl⟩
theorem aHJ (bd bm room done clk:Nat) (F:List Fi) (G:PM) (hD:DkR F clk) (hd9:done≤1000000000) (hr9:room≤1000000000) (nm:ByteArray):Ct Tryz.prog 33 ([.pointer (some ⟨bd,0,none⟩),.string nm]:List Value).toArray G [.blk bd (cl (bH bm room (done)) 118),.blk bm (mO ((F).map Fi.fe) (clk))] (fun _ μ' u=>∃ (F':List Fi) (e:Int) (dn:Nat),DkR F' clk∧F'.length≤F.length∧cA F'≤cA F∧(eH nm→e=0∨e=2)∧dn≤done+1∧μ'=[.blk bd (cl (bH bm room (dn)) 118),.blk bm (mO ((F').map Fi.fe) (clk))]∧u=.int .i64 e):=by
 refine Ct.of Tryz.func33 rfl Tryz.ntmps33 rfl fun w0 hs0=>?_
 refine .g (ka rfl (.inr rfl) zC (aB rfl (aB rfl (aB rfl (aB rfl aF)))) (dI .here .here) (aTF bd bm room done clk F _ hD hd9 hr9 nm) ?_)
 rintro _ G8 μ8 hG8 ⟨e,he0,he2,rfl,rfl⟩
 refine .g (cP rfl rfl rfl rfl (.g (cD rfl (fun c1=>?_) (fun c1=>?_))))
 ·have c1k:=c1
  skip
  refine .seq (bB rfl rfl (mV rfl rfl (aS rfl rfl (.nc (.ret (bD Tryz.results33 (.tmp rfl .nil) (mS .here rfl (mS .here rfl mN)) ?_))))))
  exact ⟨F,e,done,hD,Nat.le_refl _,Nat.le_refl _,he2,by omega,rfl,rfl⟩
 have c1k:=c1
 have he:e=0:=by simpa using c1
 obtain ⟨hgn,hsm⟩:=he0 he
 obtain ⟨f,hf⟩:=Option.isSome_iff_exists.1 hsm
 have hsz:=(sV hf).1
 have hln:=(uO (nm:=nm) (F:=F)).2
 refine .g (nC rfl rfl (fZ rfl fX rfl (lO rfl fW rfl .here rfl ?_)))
 refine .p (dlS rfl gX (.u rfl) (.u rfl) aC (pI hf) ?_)
 refine .g (ka rfl (.inr rfl) aBP (aB rfl aF) (cO aC) (zY bd bm room done _ (by omega)) ?_)
 rintro _ G18 μ18 hG18 ⟨rfl,rfl⟩
 refine aS rfl rfl (.nc (.ret (bD Tryz.results33 (.tmp rfl .nil) (mS .here rfl (mS .here rfl mN)) ?_)))
 exact ⟨dN nm F,0,done+1,hD.del hf,hln,by omega,fun _=>.inl rfl,Nat.le_refl _,by rw [← xL],rfl⟩
end Go.Proofs.YtoifkgkandfeiaaGreatDoor
namespace Go.Proofs.YtoifkgkandfeiaaGreatDoor
open Go.Tan Go.RowKit Go.Maps Go.Sort Go.Shelf
theorem aMK:aL Tryz.prog 33=true:=by kernel_rfl
theorem aWr:aL Tryz.prog 177=true:=by kernel_rfl
theorem aIs (bd bm room done clk:Nat) (F:List Fi) (G:PM) (hbd:PB G bd (cl (bH bm room done) 118)) (hbm:PB G bm (mO (F.map Fi.fe) clk)) (hD:DkR F clk):Ct Tryz.prog 52 ([.pointer (some ⟨bd,0,none⟩)]:List Value).toArray G [] (fun _ μ' u=>∃ (v:Value) (L:List ByteArray),(∀ s∈L,s∈F.map Fi.nm)∧L.length≤1000∧μ'=[rS 1 kF v 9 L]∧u=v):=by
 refine Ct.of Tryz.func52 rfl Tryz.ntmps52 rfl fun w0 hs0=>?_
 refine .g (pe rfl .no iY (.u rfl) (.u rfl) ?_)
 refine .g (dM rfl rfl ?_)
 refine .g (nC rfl rfl (fA rfl fX rfl (lN rfl fW rfl ((hbd.rd (rfl)).rd) ?_)))
 refine kc rfl aMX (aB rfl aF) (aIP bm _) ?_
 rintro _ G9 μ9 hG9 ⟨b9,rfl,rfl⟩
 have hbm:=hbm.mono hG9
 refine ka rfl (.inr rfl) aMW (aB rfl aF) (cO .here) (pV fun hle=>aJ5 b9 bm clk F _ hD ⟨bU _ _ _⟩ (hbm.mono hle)) ?_
 rintro v10 G10 μ10 hG10 ⟨L10,hm10,hl10,rfl⟩
 refine aS rfl rfl (.nc (.ret (bD Tryz.results52 (.tmp rfl .nil) (mS .here rfl mN) ?_)))
 exact ⟨v10,L10,hm10,hl10,rfl,rfl⟩
theorem aPE (bx bm room done clk:Nat) (d:Db) (F:List Fi) (G:PM) (hbx:PB G bx (cl d.cells 165)) (hD:DkR F clk) (hd9:done≤100000000) (hr9:room≤1000000000) (nm:ByteArray) (hg:eH nm):Ct Tryz.prog 177 ([pt bx,.string nm]:List Value).toArray G [.blk d.dk (cl (bH bm room (done)) 118),.blk bm (mO ((F).map Fi.fe) (clk))] (fun _ μ' u=>∃ (F':List Fi) (dn:Nat),DkR F' clk∧F'.length≤F.length∧cA F'≤cA F∧dn≤done+1∧μ'=[.blk d.dk (cl (bH bm room (dn)) 118),.blk bm (mO ((F').map Fi.fe) (clk))]∧u=.tuple #[]):=by
 refine Ct.of Tryz.func177 rfl Tryz.ntmps177 rfl fun w0 hs0=>?_
 refine .g (nC rfl rfl (fA rfl nX rfl (lN rfl gU rfl ((hbx.rd (rfl)).rd) ?_)))
 refine .p (ka rfl (.inr rfl) aMK (aB rfl (aB rfl aF)) (dI .here .here) (aHJ d.dk bm room done clk F _ hD (by omega) hr9 nm) ?_)
 rintro _ G10 μ10 hG10 ⟨F2,e,dn,hD2,hl2,hz2,he2,hd2,rfl,rfl⟩
 have he:=he2 hg
 refine .g (cP rfl rfl rfl rfl (.g (cD rfl (fun c1=>?_) (fun c1=>?_))))
 ·have c1k:=c1
  obtain rfl:e=0:=by
   rcases he with h | h
   ·exact h
   subst h; cases c1
  refine .g (kV rfl mW (aB rfl aF) (nL _) ?_)
  refine .g (bD Tryz.results177 .nil (mS .here rfl (mS .here rfl mN)) ?_)
  exact ⟨F2,dn,hD2,hl2,hz2,hd2,rfl,rfl⟩
 have c1k:=c1
 skip
 refine .g (bD Tryz.results177 .nil (mS .here rfl (mS .here rfl mN)) ?_)
 exact ⟨F2,dn,hD2,hl2,hz2,hd2,rfl,rfl⟩
theorem aKF (bx bm room done clk:Nat) (d:Db) (F:List Fi) (G:PM) (hbx:PB G bx (cl d.cells 165)) (hD:DkR F clk) (hd9:done≤90000000) (hr9:room≤1000000000) (hgn:∀ f∈F,f.nm.size≠0) (h:Sh) (l:List ByteArray) (hs:SlR G 1 kF h l) (hl:l.length≤100000):Ct Tryz.prog 128 ([pt bx,h.val l.length]:List Value).toArray G [.blk d.dk (cl (bH bm room (done)) 118),.blk bm (mO ((F).map Fi.fe) (clk))] (fun _ μ' u=>∃ (F':List Fi) (dn:Nat),DkR F' clk∧F'.length≤F.length∧cA F'≤cA F∧dn≤done+1000∧((∀ f∈F,f.nm∈l)→F'=F∧dn=done)∧μ'=[.blk d.dk (cl (bH bm room (dn)) 118),.blk bm (mO ((F').map Fi.fe) (clk))]∧u=.tuple #[]):=by
 refine Ct.of Tryz.func128 rfl Tryz.ntmps128 rfl fun w0 hs0=>?_
 refine .g (nC rfl rfl (fA rfl nX rfl (lN rfl gU rfl ((hbx.rd (rfl)).rd) ?_)))
 refine ka rfl (.inr rfl) aDJ (aB rfl aF) (dI .here .here) (cX fun G1 hle1 h1=>cX fun G2 hle2 h2=>aIs d.dk bm room done clk F G2 (h1.mono hle2) h2 hD) ?_
 rintro v10 G10 μ10 hG10 ⟨ν1,rfl,ν2,rfl,v,L10,hm10,hl10,rfl,rfl⟩
 have hbx:=hbx.mono hG10
 have hs:=hs.mono hG10
 refine lr rfl .no wM (.u rfl) aI ?_
 refine mV rfl rfl (.nc (.block ?_))
 refine rN aI (fun _ _=>rfl) (bF .here rfl (bF .here rfl (eT))) ?_; intro GfRN hRN hleRN evRN hsRN; subst evRN
 have hbx:=hbx.mono hleRN
 have hs:=hs.mono hleRN
 refine aX (α:=Nat×List Fi×Nat) (fun gh=>[(12,true,.int .i64 (gh.1:Int))]) (fun gh=>[.blk d.dk (cl (bH bm room gh.2.2) 118),.blk bm (mO (gh.2.1.map Fi.fe) clk)])
  (fun gh Gl=>(gh.1≤L10.length)∧(DkR gh.2.1 clk)∧(gh.2.1.length≤F.length)∧(cA gh.2.1≤cA F)∧(gh.2.2≤done+gh.1)∧((∀ f∈F,f.nm∈l)→gh.2.1=F∧gh.2.2=done)) (fun gh=>L10.length-gh.1) (0,F,done) [(0,true,_),(1,true,_),(10,true,_),(11,true,_)] []
  (aM rfl (aA rfl (aA rfl (aA rfl (aA rfl eZ)))))
  (mS .here rfl (mS .here rfl mN)) ?_ ?_
 ·refine ⟨?_,?_,?_,?_,?_,?_⟩
  ·(try dsimp only)<;>(first|omega|rfl|assumption|(simp; done))
  ·(try dsimp only)<;>(exact hD)
  ·(try dsimp only)<;>(first|omega|rfl|assumption|(simp; done))
  ·(try dsimp only)<;>(first|omega|rfl|assumption|(simp; done))
  ·(try dsimp only)<;>(first|omega|rfl|assumption|(simp; done))
  (try dsimp only)<;>(exact fun _=>⟨rfl,rfl⟩)
 intro gh N0 Gl0 hN0 hGl0 hF0
 obtain ⟨k,Fk,dk⟩:=gh; dsimp only at hF0 hN0 ⊢
 obtain ⟨hk,hDk,hlk,hzk,hdk,hak⟩:=hF0
 have hbx:=hbx.mono hGl0
 have hs:=hs.mono hGl0
 have hsRN:=hsRN.mono hGl0
 refine .g (cP rfl rfl rfl rfl (.g (cD rfl (fun c1=>?_) (fun c1=>?_))))
 ·have c1k:=c1
  try simp only [aD,aE] at c1
  refine .skip (.code (.seq (.block (.seq (dP rfl rfl (ih rfl .no jZ (.u rfl) (.u rfl) (by omega) (by omega) (fun _=>hsRN.nn (k:=k) (by first|omega|(simp only [Bool.and_eq_true,decide_eq_true_eq] at hc; omega)|(simp only [List.length_cons,List.length_nil]; omega))) ?_))))))
  obtain ⟨y,ey⟩:=dY (k:=k) (xs:=L10) (by omega)
  have hgy:y.size≠0∧y.size≤100∧∃ f∈F,f.nm=y:=by
   obtain ⟨f,hf,e⟩:=List.mem_map.1 (hm10 y (List.mem_of_getElem? ey))
   exact ⟨e▸hgn f hf,e▸hD.gn f hf,f,hf,e⟩
  refine lN rfl cW rfl ((hsRN.at (by omega) ey 0 _ rfl).rd) ?_
  refine .g (kV rfl aL6 (aB rfl (aB rfl aF)) (aHE h l y _ hs (by omega)) ?_)
  refine nt rfl .no (.u rfl) (.g (cD rfl (fun c2=>?_) (fun c2=>?_)))
  ·have c2k:=c2
   have hna:¬ ∀ f∈F,f.nm∈l:=fun hall=>by
    have hq9:(l.any fun z=>y.toList == z.toList)=true:=by
     obtain ⟨_,_,f,hf,e⟩:=hgy
     exact List.any_eq_true.2 ⟨y,by rw [← e]; exact hall f hf,by simp⟩
    rw [hq9] at c2; cases c2
   refine .g (ka rfl (.inr rfl) aWr (aB rfl (aB rfl aF)) (dI .here .here) (aPE bx bm room dk clk d Fk _ hbx hDk (by omega) hr9 y ⟨hgy.1,hgy.2.1⟩) ?_)
   rintro _ G22 μ22 hG22 ⟨F2,dn,hD2,hl2,hz2,hd2,rfl,rfl⟩
   refine .g (aW (((k+1):Nat):Int) rfl rfl rfl rfl ?_)
   refine .g (aU (k+1,F2,dn) ?_ ?_ ?_ ?_ ?_)
   ·exact (aM rfl (aA rfl (aA rfl (aA rfl (aA rfl eZ)))))
   ·exact (mS .here rfl (mS .here rfl mN))
   ·first|omega|(dsimp only; omega)
   ·exact (hGl0).trans hG22
   refine ⟨?_,?_,?_,?_,?_,?_⟩
   ·(try dsimp only)<;>(first|omega|rfl|assumption|(simp; done))
   ·(try dsimp only)<;>(exact hD2)
   ·(try dsimp only)<;>(first|omega|rfl|assumption|(simp; done))
   ·(try dsimp only)<;>(first|omega|rfl|assumption|(simp; done))
   ·(try dsimp only)<;>(first|omega|rfl|assumption|(simp; done))
   (try dsimp only)<;>(exact fun hq=>absurd hq hna)
  have c2k:=c2
  skip
  refine .g (aW (((k+1):Nat):Int) rfl rfl rfl rfl ?_)
  refine .g (aU (k+1,Fk,dk) ?_ ?_ ?_ ?_ ?_)
  ·exact (aM rfl (aA rfl (aA rfl (aA rfl (aA rfl eZ)))))
  ·exact (mS .here rfl (mS .here rfl mN))
  ·first|omega|(dsimp only; omega)
  ·exact hGl0
  refine ⟨?_,?_,?_,?_,?_,?_⟩
  ·(try dsimp only)<;>(first|omega|rfl|assumption|(simp; done))
  ·(try dsimp only)<;>(exact hDk)
  ·(try dsimp only)<;>(first|omega|rfl|assumption|(simp; done))
  ·(try dsimp only)<;>(first|omega|rfl|assumption|(simp; done))
  ·(try dsimp only)<;>(first|omega|rfl|assumption|(simp; done))
  (try dsimp only)<;>(exact hak)
 have c1k:=c1
 try simp only [aD,aE] at c1
 refine .g (bD Tryz.results128 .nil (mS .here rfl (mS .here rfl mN)) ?_)
 exact ⟨Fk,dk,hDk,hlk,hzk,by omega,hak,rfl,rfl⟩
end Go.Proofs.YtoifkgkandfeiaaGreatDoor
namespace Go.Proofs.YtoifkgkandfeiaaGreatDoor
open Go.Tan Go.RowKit Go.Maps Go.Sort Go.Shelf
theorem aOr (bd bm room done clk:Nat) (F:List Fi) (G:PM) (hD:DkR F clk) (hd9:done≤1000000000) (hr9:room≤1000000000) (nm to:ByteArray) (f:Fi) (hn:eH nm) (hn2:eH to) (hf:bK nm F=some f) (hpr:(bK to (dN nm F)).isSome=true):Ct Tryz.prog 139 ([.pointer (some ⟨bd,0,none⟩),.string nm,.string to]:List Value).toArray G [.blk bd (cl (bH bm room (done)) 118),.blk bm (mO ((F).map Fi.fe) (clk))] (fun _ μ' u=>μ'=[.blk bd (cl (bH bm room (done+1)) 118),.blk bm (mO ((lD to f.h f.n f.safe (dN nm F)).map Fi.fe) (clk))]∧u=.int .i64 0):=by
 refine Ct.of Tryz.func139 rfl Tryz.ntmps139 rfl fun w0 hs0=>?_
 refine .seq (aQ rfl rfl (aS rfl rfl (.nc (.seq (.seq (iV rfl rfl (mV rfl rfl (mV rfl rfl (mV rfl rfl ?_)))))))))
 refine Go.Tan.b1 rfl jZ sG (.u rfl) rfl rfl (by decide) ?_; intro b12
 refine ka rfl (.inr rfl) zC (aB rfl (aB rfl (aB rfl (aB rfl aF)))) (fF .here .here .here) (pV fun _=>aAg bd bm room done clk F _ hD hd9 hr9 nm true ⟨some ⟨b12,0,none⟩,1⟩ [to] (fD (xs:=[to]) (bU _ _ _) (fun _ _=>rfl) (Nat.le_refl 1)) (by show 1≤_; omega) (fun s hs=>by rw [List.mem_singleton.1 hs]; exact hn2) hn (fun _=>by rw [hf]; rfl)) ?_
 rintro _ G13 μ13 hG13 ⟨rfl,rfl⟩
 refine .g (cP rfl rfl rfl rfl (.g (cD rfl (fun c1=>?_) (fun c1=>?_))))
 ·have c1k:=c1
  exact absurd c1 (by decide)
 have c1k:=c1
 try simp only [aD,aH,aE] at c1
 refine .g (nC rfl rfl (fZ rfl fX rfl (lO rfl fW rfl .here rfl ?_)))
 refine .p (lkS rfl .no gX sF (.u rfl) (.u rfl) (uX aC) (aAP hf) ?_)
 refine al rfl qK ?_; intro b8
 refine sw rfl (.u rfl) (.u rfl) rfl qI .here rfl (Fi.one _) ?_
 refine .g (nC rfl rfl (fZ rfl fX rfl (lO rfl fW rfl aC rfl ?_)))
 refine .p (dlS rfl gX (.u rfl) (.u rfl) aI (pI hf) ?_)
 refine .g (bO (mc:=⟨false,false⟩) [0,1,2,3,4,5,6] aY (by kernel_rfl) ?_)
 refine .p (nC rfl rfl (fZ rfl fX rfl (lO rfl fW rfl aI rfl ?_)))
 refine .p (lB rfl yL rfl aC ?_)
 refine muT rfl gX (.u rfl) (.u rfl) (.u rfl) .here (by rw [xL]; exact pI (Option.isSome_iff_exists.1 hpr).choose_spec) ?_
 refine .g (ka rfl (.inr rfl) aBP (aB rfl aF) (cO aI) (zY bd bm room done _ (by omega)) ?_)
 rintro _ G35 μ35 hG35 ⟨rfl,rfl⟩
 refine aS rfl rfl (.nc (.ret (bD Tryz.results139 (.tmp rfl .nil) (mS .here rfl (mS .here rfl mN)) ?_)))
 exact ⟨by rw [← aCK hpr,←xL]; rfl,rfl⟩
theorem aOq (bd bm room done clk:Nat) (F:List Fi) (G:PM) (hD:DkR F clk) (hd9:done≤1000000000) (hr9:room≤1000000000) (nm to:ByteArray) (f:Fi) (hn:eH nm) (hn2:eH to) (hf:bK nm F=some f) (hc:F.length<100):Ct Tryz.prog 139 ([.pointer (some ⟨bd,0,none⟩),.string nm,.string to]:List Value).toArray G [.blk bd (cl (bH bm room (done)) 118),.blk bm (mO ((F).map Fi.fe) (clk))] (fun _ μ' u=>∃ (F':List Fi) (clk':Nat),DkR F' clk'∧F'.length≤F.length∧cA F'≤cA F∧(∀ x∈F'.map Fi.nm,x=to∨x∈F.map Fi.nm)∧(bK to (dN nm F)=none→F'=dN nm F++[{ f with nm:=to,born:=clk }]∧clk'=clk+1)∧μ'=[.blk bd (cl (bH bm room (done+1)) 118),.blk bm (mO ((F').map Fi.fe) (clk'))]∧u=.int .i64 0):=by
 have hz:=(sV hf).1
 have hl:=uO (nm:=nm) (F:=F)
 cases e:bK to (dN nm F) with
 | none =>
  refine (aOs bd bm room done clk F G hD hd9 hr9 nm to f hn hn2 hf e).mono fun G' μ' u ⟨h1,h2⟩=>?_
  obtain ⟨a,b,c⟩:=aTT hD hf e hn2.2 hc
  have hlt:(dN nm F).length+1≤F.length:=aHl hf
  refine ⟨_,_,a,by rw [List.length_append]; exact hlt,by omega,fun x hx=>?_,fun _=>⟨rfl,rfl⟩,h1,h2⟩
  rw [List.map_append] at hx
  rcases List.mem_append.1 hx with hx | hx
  ·exact .inr (hl.1.subset hx)
  exact .inl (List.mem_singleton.1 hx)
 | some g =>
  refine (aOr bd bm room done clk F G hD hd9 hr9 nm to f hn hn2 hf (by rw [e]; rfl)).mono fun G' μ' u ⟨h1,h2⟩=>?_
  obtain ⟨p1,p2,p3⟩:=aAK (nm:=to) (h:=f.h) (n:=f.n) (safe:=f.safe) (F:=dN nm F)
  have hfw:=hD.few
  refine ⟨_,_,(hD.del hf).put (nm:=to) (h:=f.h) (n:=f.n) (safe:=f.safe) (by omega),by rw [aIj p1]; exact hl.2,by omega,fun x hx=>?_,(fun h=>by cases h),h1,h2⟩
  rw [p1] at hx
  exact .inr (hl.1.subset hx)
end Go.Proofs.YtoifkgkandfeiaaGreatDoor
namespace Go.Proofs.YtoifkgkandfeiaaGreatDoor
open Go.Tan Go.RowKit Go.Maps Go.Sort Go.Shelf
set_option maxHeartbeats 4000000 in
theorem aOv (bx bm room dk tr held now done clk:Nat) (root:Nat→Y) (o:Opts) (ep o1 mk:BitVec 64) (a0 b0:Int) (n0:BitVec 64) (F:List Fi) (K:List ByteArray) (G:PM) (hD:DkR F clk) (hgn:∀ f∈F,f.nm.size≠0) (hKl:K.length≤1000) (hall:∀ f∈F,f.nm∈K) (hn3:bK (aO 3 n0.toNat) F=none) (hn5:bK (aO 5 0) F=none) (hn0:n0=0#64∨n0=2#64) (hz:cA F≤2000) (hl9:F.length≤10) (hmk:mk.toNat≤900) (hd9:done≤80000000) (hr:5000≤room) (hr9:room≤1000000000) (hK:RdNP G 6 0 (wa 64 kW)) (hsr:SrchP Tryz.prog 127 87 165 118 225 249 bm room dk tr done clk root o ep o1 mk a0 b0 n0 F K G):Ct Tryz.prog 90 ([pt bx]:List Value).toArray G [.blk bx (cl (Db.cells (eY dk tr root o ep held now)) 165),.blk dk (cl (bH bm room done) 118),.blk bm (mO (F.map Fi.fe) clk),.blk tr (cl [uv .u64 mk,uv .u64 o1] 87)] (fun G' μ' u=>∃ (F':List Fi) (clk' dn:Nat),DkR F' clk'∧F'.length≤20∧(F=[]→clk=0→done=0→FirstF G' root ep mk n0 F' clk' dn)∧μ'=[.blk bx (cl (Db.cells (Db.g3 dk tr root o ep held now n0)) 165),.blk dk (cl (bH bm room dn) 118),.blk bm (mO (F'.map Fi.fe) clk'),.blk tr (cl [uv .u64 (mk+1#64),uv .u64 o1] 87)]∧u=.tuple #[]):=by
 refine Ct.of Tryz.func90 rfl Tryz.ntmps90 rfl fun w0 hs0=>?_
 obtain ⟨hq0,hq1,hq2⟩:=n02 hn0
 have hs3:=aAo hn0
 have hgd3:=aRv hn0
 refine .g (ka rfl (.inr rfl) aLu (aB rfl aF) (jF bE .here .here .here) (hsr bx held now _ (PM.le.refl _)) ?_)
 rintro _ G15 μ15 hG15 ⟨bl,vl,hKh,ol,hKs,rfl,rfl⟩
 have hK:=hK.mono hG15
 refine al rfl zJ ?_; intro b2
 refine sw rfl (.u rfl) (.u rfl) rfl zI .here rfl (aEj rfl rfl rfl) ?_
 refine .nil (.code (.seq ?_))
 refine rN iL (fun _ _=>rfl) (bF aI rfl (bF aI rfl (bF aI rfl (bF aC rfl (eT))))) ?_; intro GfRL hRL hleRL evRL hsRL; subst evRL
 have hK:=hK.mono hleRL
 have hKs:=hKs.mono hleRL
 refine dL mK (bF aI rfl (bF aI rfl (bF aI rfl (bF aC rfl (eT))))) ?_; intro Gfbl hlebl hbbl
 have hK:=hK.mono hlebl
 have hKs:=hKs.mono hlebl
 have hsRL:=hsRL.mono hlebl
 refine .g (fZ rfl aFn rfl (lO rfl aLP rfl .here rfl ?_))
 refine ka rfl (.inr rfl) aFx (aB rfl (aB rfl aF)) (fF aI aI aI) (cX fun G2 hle h1=>aKF bx bm room done clk (vQ dk tr root o ep held now a0 b0 n0) F G2 h1 hD (by omega) hr9 hgn hKh K (hKs.mono hle) (by omega)) ?_
 rintro _ G19 μ19 hG19 ⟨ν3,rfl,F0,dn0,_,_,_,_,hsame,rfl,rfl⟩
 obtain ⟨e91,e92⟩:=hsame hall
 have e91:=e91.symm
 have e92:=e92.symm
 subst e91
 subst e92
 have hK:=hK.mono hG19
 have hsRL:=hsRL.mono hG19
 have hbbl:=hbbl.mono hG19
 refine .nil (.code (.seq ?_))
 refine Wk.jn (α:=Unit) (fun _u=>[]) (fun _u=>[.blk bx (cl (Db.cells (Db.g1 dk tr root o ep held now a0 b0 n0)) 165)]) (fun _u Gl=>True) [(0,true,_),(2,true,_)] [_,_,_,_]
  (aA rfl (aA rfl eZ)) (mS aC rfl (mS aC rfl (mS aC rfl (mS aC rfl mN)))) ?_ ?_
 ·refine dX ⟨true,false⟩ aY (by kernel_rfl) ?_
  refine Wp.one 0 (by kernel_rfl) ?_
  refine mV rfl rfl (.nil (Wp.one 1 (by kernel_rfl) ?_))
  refine mV rfl rfl (.nil (Wp.one 2 (by kernel_rfl) ?_))
  refine nC rfl rfl (.nil (Wp.one 3 (by kernel_rfl) ?_))
  refine fZ rfl aC9 rfl (.nil (Wp.one 5 (by kernel_rfl) ?_))
  refine mV rfl rfl (.nil (Wp.b2 4 6 (by kernel_rfl) ?_ ?_))
  ·refine lO rfl aZ rfl .here rfl ?_
   refine .nil (Wp.b1 6 (by kernel_rfl) ?_)
   refine ka rfl (.inl rfl) tY (aB rfl aF) (cO .here) (sR bx (vQ dk tr root o ep held now a0 b0 n0) _ (by show (n0:BitVec 64).toNat<1000; omega)) ?_
   rintro _ G26 μ26 hG26 ⟨rfl,rfl⟩
   have hK:=hK.mono hG26
   have hsRL:=hsRL.mono hG26
   have hbbl:=hbbl.mono hG26
   refine .nil (Wp.one 7 (by kernel_rfl) ?_)
   refine bR ([V 3#8,V 0#8,uv .u64 0#64,uv .u64 ep,uv .u64 n0]) rfl .no tS (.cons (.u rfl) rfl (.cons (.u rfl) rfl (.cons (.u rfl) rfl .nil))) rfl (rfl) ?_
   refine .nil (Wp.one 8 (by kernel_rfl) ?_)
   refine bR ((oG ep n0 0#64).cells) rfl .no tT (.cons (.u rfl) rfl .nil) rfl (rfl) ?_
   refine .nil (Wp.one 9 (by kernel_rfl) ?_)
   refine nC rfl rfl (.nil (Wp.one 10 (by kernel_rfl) ?_))
   refine fZ rfl mT rfl (.nil (Wp.b1 11 (by kernel_rfl) ?_))
   refine pR rfl (.u rfl) (.u rfl) rfl uD .here (by show 74+7≤85; decide) (Fl.one _) (aA0 _ (oG ep n0 0#64)) ?_
   refine .nil (Wp.last (by kernel_rfl) ?_)
   refine aU () ?_ ?_ ?_ ?_ ?_
   ·exact (aA rfl (aA rfl eZ))
   ·exact (mS .here rfl (mS .here rfl (mS .here rfl (mS .here rfl (mS .here rfl mN)))))
   ·exact fL _
   ·exact hG26
   trivial
  refine ka rfl (.inl rfl) tY (aB rfl aF) (cO .here) (sR bx (vQ dk tr root o ep held now a0 b0 n0) _ (by show (n0:BitVec 64).toNat<1000; omega)) ?_
  rintro _ G26 μ26 hG26 ⟨rfl,rfl⟩
  have hK:=hK.mono hG26
  have hsRL:=hsRL.mono hG26
  have hbbl:=hbbl.mono hG26
  refine .nil (Wp.one 4 (by kernel_rfl) ?_)
  refine lO rfl aZ rfl .here rfl ?_
  refine .nil (Wp.one 7 (by kernel_rfl) ?_)
  refine bR ([V 3#8,V 0#8,uv .u64 0#64,uv .u64 ep,uv .u64 n0]) rfl .no tS (.cons (.u rfl) rfl (.cons (.u rfl) rfl (.cons (.u rfl) rfl .nil))) rfl (rfl) ?_
  refine .nil (Wp.one 8 (by kernel_rfl) ?_)
  refine bR ((oG ep n0 0#64).cells) rfl .no tT (.cons (.u rfl) rfl .nil) rfl (rfl) ?_
  refine .nil (Wp.one 9 (by kernel_rfl) ?_)
  refine nC rfl rfl (.nil (Wp.one 10 (by kernel_rfl) ?_))
  refine fZ rfl mT rfl (.nil (Wp.b1 11 (by kernel_rfl) ?_))
  refine pR rfl (.u rfl) (.u rfl) rfl uD .here (by show 74+7≤85; decide) (Fl.one _) (aA0 _ (oG ep n0 0#64)) ?_
  refine .nil (Wp.last (by kernel_rfl) ?_)
  refine aU () ?_ ?_ ?_ ?_ ?_
  ·exact (aA rfl (aA rfl eZ))
  ·exact (mS .here rfl (mS .here rfl (mS .here rfl (mS .here rfl (mS .here rfl mN)))))
  ·exact fL _
  ·exact hG26
  trivial
 intro _u Glj2 hGlj2 hFj2
 have hK:=hK.mono hGlj2
 have hsRL:=hsRL.mono hGlj2
 have hbbl:=hbbl.mono hGlj2
 refine .code (.seq ?_)
 refine Wk.jn (α:=Unit) (fun _u=>[]) (fun _u=>[.blk bx (cl (Db.cells (Db.g2 dk tr root o ep held now a0 b0 n0)) 165)]) (fun _u Gl=>True) [(0,true,_),(2,true,_)] [_,_,_,_]
  (aA rfl (aA rfl eZ)) (mS aC rfl (mS aC rfl (mS aC rfl (mS aC rfl mN)))) ?_ ?_
 ·refine dX ⟨true,false⟩ aY (by kernel_rfl) ?_
  refine Wp.one 0 (by kernel_rfl) ?_
  refine mV rfl rfl (.nil (Wp.one 1 (by kernel_rfl) ?_))
  refine mV rfl rfl (.nil (Wp.one 2 (by kernel_rfl) ?_))
  refine nC rfl rfl (.nil (Wp.one 3 (by kernel_rfl) ?_))
  refine fZ rfl aC9 rfl (.nil (Wp.one 5 (by kernel_rfl) ?_))
  refine mV rfl rfl (.nil (Wp.b2 4 6 (by kernel_rfl) ?_ ?_))
  ·refine lO rfl aZ rfl .here rfl ?_
   refine .nil (Wp.b1 6 (by kernel_rfl) ?_)
   refine ka rfl (.inl rfl) tY (aB rfl aF) (cO .here) (sR bx (Db.g1 dk tr root o ep held now a0 b0 n0) _ (by show (n0+1#64:BitVec 64).toNat<1000; omega)) ?_
   rintro _ G37 μ37 hG37 ⟨rfl,rfl⟩
   have hK:=hK.mono hG37
   have hsRL:=hsRL.mono hG37
   have hbbl:=hbbl.mono hG37
   refine .nil (Wp.one 7 (by kernel_rfl) ?_)
   refine bR ([V 1#8,V 0#8,uv .u64 0#64,uv .u64 ep,uv .u64 (n0+1#64)]) rfl .no tS (.cons (.u rfl) rfl (.cons (.u rfl) rfl (.cons (.u rfl) rfl .nil))) rfl (rfl) ?_
   refine .nil (Wp.one 8 (by kernel_rfl) ?_)
   refine bR ((xC ep (n0+1#64)).cells) rfl .no tT (.cons (.u rfl) rfl .nil) rfl (rfl) ?_
   refine .nil (Wp.one 9 (by kernel_rfl) ?_)
   refine nC rfl rfl (.nil (Wp.one 10 (by kernel_rfl) ?_))
   refine fZ rfl lJ rfl (.nil (Wp.b1 11 (by kernel_rfl) ?_))
   refine pR rfl (.u rfl) (.u rfl) rfl uD .here (by show 60+7≤85; decide) (Fl.one _) (aAz _ (xC ep (n0+1#64))) ?_
   refine .nil (Wp.last (by kernel_rfl) ?_)
   refine aU () ?_ ?_ ?_ ?_ ?_
   ·exact (aA rfl (aA rfl eZ))
   ·exact (mS .here rfl (mS .here rfl (mS .here rfl (mS .here rfl (mS .here rfl mN)))))
   ·exact fL _
   ·exact hG37
   trivial
  refine ka rfl (.inl rfl) tY (aB rfl aF) (cO .here) (sR bx (Db.g1 dk tr root o ep held now a0 b0 n0) _ (by show (n0+1#64:BitVec 64).toNat<1000; omega)) ?_
  rintro _ G37 μ37 hG37 ⟨rfl,rfl⟩
  have hK:=hK.mono hG37
  have hsRL:=hsRL.mono hG37
  have hbbl:=hbbl.mono hG37
  refine .nil (Wp.one 4 (by kernel_rfl) ?_)
  refine lO rfl aZ rfl .here rfl ?_
  refine .nil (Wp.one 7 (by kernel_rfl) ?_)
  refine bR ([V 1#8,V 0#8,uv .u64 0#64,uv .u64 ep,uv .u64 (n0+1#64)]) rfl .no tS (.cons (.u rfl) rfl (.cons (.u rfl) rfl (.cons (.u rfl) rfl .nil))) rfl (rfl) ?_
  refine .nil (Wp.one 8 (by kernel_rfl) ?_)
  refine bR ((xC ep (n0+1#64)).cells) rfl .no tT (.cons (.u rfl) rfl .nil) rfl (rfl) ?_
  refine .nil (Wp.one 9 (by kernel_rfl) ?_)
  refine nC rfl rfl (.nil (Wp.one 10 (by kernel_rfl) ?_))
  refine fZ rfl lJ rfl (.nil (Wp.b1 11 (by kernel_rfl) ?_))
  refine pR rfl (.u rfl) (.u rfl) rfl uD .here (by show 60+7≤85; decide) (Fl.one _) (aAz _ (xC ep (n0+1#64))) ?_
  refine .nil (Wp.last (by kernel_rfl) ?_)
  refine aU () ?_ ?_ ?_ ?_ ?_
  ·exact (aA rfl (aA rfl eZ))
  ·exact (mS .here rfl (mS .here rfl (mS .here rfl (mS .here rfl (mS .here rfl mN)))))
  ·exact fL _
  ·exact hG37
  trivial
 intro _u Glj3 hGlj3 hFj3
 have hK:=hK.mono hGlj3
 have hsRL:=hsRL.mono hGlj3
 have hbbl:=hbbl.mono hGlj3
 refine .g (bO (mc:=⟨false,false⟩) [0,1,2,3,4,5,6,7,8,9,10,11,12,13,14,15,16,17,18,19,20,21] aY (by kernel_rfl) ?_)
 refine .p (nC rfl rfl (fZ rfl lJ rfl (fA rfl qA rfl (fA rfl yS rfl (lO rfl aZ rfl .here rfl ?_)))))
 refine .p (nC rfl rfl (fZ rfl nY rfl (lO rfl aZ rfl .here rfl ?_)))
 refine .p (nC rfl rfl (fZ rfl nY rfl (lO rfl aZ rfl .here rfl ?_)))
 refine .p (nC rfl rfl (fZ rfl sA rfl (fA rfl aA8 rfl (lA rfl .no aA1 (.u rfl) (fun _=>RdN.part (n:=5) (cs':=(List.range 5).map (fun _=>.int .u64 0)) .here (rfl)) (fun _=>rfl) (bR ((cU (nI (n0+1#64)) 0).cells ⟨none,0⟩ ⟨none,0⟩) rfl .no aLV (.cons (.u rfl) rfl (.cons (.u rfl) rfl (.cons (.u rfl) rfl (.cons (.u rfl) rfl .nil)))) rfl (rfl) ?_)))))
 refine al rfl aBY ?_; intro b3
 refine sw rfl (.u rfl) (.u rfl) rfl aDN .here (by first|exact qE|exact qL|rfl) (aCu) ?_
 refine .g (nC rfl rfl (fZ rfl sA rfl (fA rfl pZ rfl (lA rfl .no vT (.u rfl) (fun _=>RdN.part (n:=5) (cs':=(List.range 5).map (fun _=>.slice none 0 0)) aC (rfl)) (fun _=>rfl) ?_))))
 refine mV rfl rfl (.nc (.block ?_))
 refine aX (α:=Nat) (fun k=>[(67,true,.int .i64 (k:Int))]) (fun k=>[.blk b3 (cl ((cU (nI (n0+1#64)) 0).cells ⟨none,0⟩ ⟨none,0⟩) 202)])
  (fun k Gl=>(k≤5)) (fun k=>5-k) 0 [(0,true,_),(2,true,_),(3,true,_),(66,true,_)] [_,_,_,_,_]
  (aM rfl (aA rfl (aA rfl (aA rfl (aA rfl eZ)))))
  (mS .here rfl (mS .here rfl (mS .here rfl (mS .here rfl (mS .here rfl (mS .here rfl mN)))))) ?_ ?_
 ·(try dsimp only)<;>(first|omega|rfl|assumption|(simp; done))
 intro k N0 Gl0 hN0 hGl0 hF0
 try dsimp only at hF0 hN0 ⊢
 have hk:=hF0
 have hK:=hK.mono hGl0
 have hsRL:=hsRL.mono hGl0
 have hbbl:=hbbl.mono hGl0
 refine .g (cP rfl rfl rfl rfl (.g (cD rfl (fun c1=>?_) (fun c1=>?_))))
 ·have c1k:=c1
  try simp only [aD,aH,aE] at c1
  refine .g (ix rfl .no rY gS (.u rfl) (.u rfl) (by omega) (by omega) (fun _=>aCL (by omega)) ?_)
  refine .g (fZ rfl jJ rfl (lO rfl gS rfl .here rfl ?_))
  refine .p (apZ rfl lQ (.u rfl) (.u rfl) ?_)
  refine fZ rfl jJ rfl (s1 rfl (.u rfl) (.u rfl) rfl aBT .here (by first|decide | (show _<85; decide) | (show _<11; decide)) (aHX) ?_)
  refine .g (aW (((k+1):Nat):Int) rfl rfl rfl rfl ?_)
  refine .g (aU (k+1) ?_ ?_ ?_ ?_ ?_)
  ·exact (aM rfl (aA rfl (aA rfl (aA rfl (aA rfl eZ)))))
  ·exact (mS .here rfl (mS .here rfl (mS .here rfl (mS .here rfl (mS .here rfl (mS .here rfl mN))))))
  ·first|omega|(dsimp only; omega)
  ·exact hGl0
  (try dsimp only)<;>(first|omega|rfl|assumption|(simp; done))
 have c1k:=c1
 try simp only [aD,aH,aE] at c1
 refine .g (bO (mc:=⟨false,false⟩) [0,1,2,3,4,5,6,7,8,9,10,11] aY (by kernel_rfl) ?_)
 refine fZ rfl jJ rfl (lO rfl gS rfl .here rfl ?_)
 refine .p (fZ rfl aLk rfl (lO rfl tR rfl dK rfl ?_))
 refine kV rfl aLt (aB rfl aF) (aIQ bl hRL [Nd.z] _ (fun _=>0) _ hbbl hsRL aFJ rfl (by decide)) ?_
 refine kV rfl aLx (aB rfl (aB rfl (aB rfl aF))) (aIO _) ?_
 refine kV rfl aLw (aB rfl (aB rfl aF)) (aJ6 _ _) ?_
 refine kV rfl aLv (aB rfl (aB rfl (aB rfl aF))) (aKN _ 0 _) ?_
 refine apZ rfl lQ (.u rfl) (.u rfl) ?_
 refine fZ rfl jJ rfl (s1 rfl (.u rfl) (.u rfl) rfl aBT .here (by first|decide | (show _<85; decide) | (show _<11; decide)) (aHX) ?_)
 refine .g (nC rfl rfl (fZ rfl vX rfl (lO rfl aZ rfl aC rfl ?_)))
 refine fZ rfl vZ rfl (s1 rfl (.u rfl) (.u rfl) rfl kB .here (by first|decide | (show _<85; decide) | (show _<11; decide)) (aPJ) ?_)
 refine .g (bO (mc:=⟨false,false⟩) [0,1,2,3,4,5,6,7,8,9,10,11,12,15,16,13,14,17,18,19,20,21,22,23,24,25] aY (by kernel_rfl) ?_)
 refine .p (nC rfl rfl (fZ rfl aC8 rfl (lA rfl .no dJ (.u rfl) (fun _=>RdN.part (n:=32) (cs':=ba 32 root) aC (rfl)) (fun _=>(bP _ _)) ?_)))
 refine .p (nC rfl rfl (fZ rfl mT rfl (fA rfl qA rfl (lA rfl .no gT (.u rfl) (fun _=>RdN.part (n:=5) (cs':=[V 3#8,V 0#8,uv .u64 0#64,uv .u64 ep,uv .u64 n0]) aC (rfl)) (fun _=>rfl) ?_))))
 refine .p (nC rfl rfl (fZ rfl yT rfl (lO rfl pY rfl aC rfl ?_)))
 refine bR (State.zero.cells dE) rfl .no aLT .nil rfl (rfl) (lA rfl .no rW (.u rfl) (fun _=>RdN.part (n:=11) (cs':=(cU (nI (n0+1#64)) (nI (n0+1#64+1#64))).cells ⟨none,0⟩ ⟨none,0⟩) .here (rfl)) (fun _=>(by first|exact qE|exact qL|rfl)) ?_)
 refine kp rfl .no aBJ (aB rfl aF) (Gp.add mK Gp.nil) (fun _ hle hq=>aAS tr mk o1 _ ⟨bU _ _ _⟩) ?_
 refine bw (k:=.u64) (b:=1#64) rfl .no rfl (.u rfl) (.u rfl) rfl (kc rfl aLy (aB rfl (aB rfl (aB rfl (aB rfl (aB rfl (aB rfl aF)))))) (aId root ⟨3#8,0#8,0#64,ep,n0⟩ 0#64 (mk+1#64) (nI (n0+1#64)) (nI (n0+1#64+1#64)) _ (aKc _) (aKc _) hq2 hK) ?_)
 rintro _ G110 μ110 hG110 ⟨vL,LL,hLL,lLL,rfl,rfl⟩
 refine .p (eX rfl rfl rfl (eX rfl rfl rfl (eX rfl rfl rfl ?_)))
 refine al rfl wJ ?_; intro b7
 refine .p (sw rfl (.u rfl) (.u rfl) rfl qJ .here (by first|exact qE|exact qL|rfl) (oB) ?_)
 refine .g (cP rfl rfl rfl rfl (.g (cD rfl (fun c2=>?_) (fun c2=>?_))))
 ·have c2k:=c2
  exact absurd c2 (by decide)
 have c2k:=c2
 try simp only [aD,aH,aE] at c2
 refine .g (kV rfl mW (aB rfl aF) (nL _) ?_)
 refine .nil (.code (.seq ?_))
 refine Wk.jn (α:=Fi) (fun f1=>[]) (fun f1=>[.blk dk (cl (bH bm room (done+1+1)) 118),.blk bm (mO ((F++[f1]).map Fi.fe) (clk+1))]) (fun f1 Gl=>(f1.nm=aO 3 n0.toNat)∧(f1.n=(bA ⟨3#8,0#8,0#64,ep,n0⟩++LL).length)∧(f1.safe=f1.n)∧(f1.born=clk)∧(DkR (F++[f1]) (clk+1))∧(SlR Gl 1 aN f1.h (bA ⟨3#8,0#8,0#64,ep,n0⟩++LL))) [(0,true,_),(3,true,_),(7,true,_)] [_,_,_,_,_]
  (aA rfl (aA rfl (aA rfl eZ))) (mS .here rfl (mS aC rfl (mS aC rfl (mS bE rfl (mS bE rfl mN))))) ?_ ?_
 ·refine tQ aC ?_; intro sRM bbRM evRM lcRM oaRM; subst evRM
  refine dX ⟨true,false⟩ aY (by kernel_rfl) ?_
  refine Wp.one 0 (by kernel_rfl) ?_
  refine mV rfl rfl (.nil (Wp.one 1 (by kernel_rfl) ?_))
  refine mV rfl rfl (.nil (Wp.one 2 (by kernel_rfl) ?_))
  refine nC rfl rfl (.nil (Wp.one 3 (by kernel_rfl) ?_))
  refine fZ rfl mT rfl (.nil (Wp.one 5 (by kernel_rfl) ?_))
  refine mV rfl rfl (.nil (Wp.one 6 (by kernel_rfl) ?_))
  refine nC rfl rfl (.nil (Wp.one 7 (by kernel_rfl) ?_))
  refine fZ rfl mT rfl (.nil (Wp.one 8 (by kernel_rfl) ?_))
  refine fA rfl qA rfl (.nil (Wp.one 11 (by kernel_rfl) ?_))
  refine mV rfl rfl (.nil (Wp.b2 4 9 (by kernel_rfl) ?_ ?_))
  ·refine kp rfl .no tZ (aB rfl aF) (Gp.add bE Gp.nil) (fun _ hle hq=>sM bx 74 (oG ep n0 0#64) _ (PB.rdn (m:=7) ⟨bU _ _ _⟩ rfl) (by show n0.toNat<10; omega)) ?_
   refine .nil (Wp.one 9 (by kernel_rfl) ?_)
   refine lA rfl .no gT (.u rfl) (fun _=>RdN.part (n:=5) (cs':=[V 3#8,V 0#8,uv .u64 0#64,uv .u64 ep,uv .u64 n0]) bE (rfl)) (fun _=>rfl) ?_
   refine .nil (Wp.b1 10 (by kernel_rfl) ?_)
   refine kc rfl uA (aB rfl aF) (iM (tH ⟨3#8,0#8,0#64,ep,n0⟩ _)) ?_
   rintro v128 G128 μ128 hG128 ⟨L128,ov128,eL128,rfl⟩
   refine .nil (Wp.b1 12 (by kernel_rfl) ?_)
   refine eN rfl aP bY (.u rfl) (.u rfl) .here (sJ aI oaRM) (by rw [eL128,fE]; omega) ?_
   intro v130 L130 ov130 eL130
   have lL130:L130.length=L128.length+LL.length:=by rw [eL130,List.length_append]
   refine .nil (Wp.b1 13 (by kernel_rfl) ?_)
   refine ka rfl (.inl rfl) aBK (aB rfl (aB rfl (aB rfl aF))) (jF .here bE bE bE) (aHN bx bm room done clk (Db.g2 dk tr root o ep held now a0 b0 n0) F _ hD (by omega) hr9 (aO 3 n0.toNat) v130 L130 hgd3 hn3 (by have q9:L128.length=30:=(by rw [eL128,fE]); omega) (by have q9:L128.length=30:=(by rw [eL128,fE]); omega) (by omega)) ?_
   rintro _ G131 μ131 hG131 ⟨f1,hfa,hfb,hfc,hfd,hsa,hDa,rfl,rfl⟩
   refine .nil (Wp.last (by kernel_rfl) ?_)
   refine aU f1 ?_ ?_ ?_ ?_ ?_
   ·exact (aA rfl (aA rfl (aA rfl eZ)))
   ·exact (mS aC rfl (mS aC rfl (mS aC rfl (mS aI rfl (mS .here rfl (mS aC rfl (mS aC rfl mN)))))))
   ·exact fL _
   ·exact (hG128).trans hG131
   refine ⟨?_,?_,?_,?_,?_,?_⟩
   ·(try dsimp only)<;>(exact hfa)
   ·(try dsimp only)<;>(rw [← eL128,←eL130]; exact hfb)
   ·(try dsimp only)<;>(exact hfc.trans hfb.symm)
   ·(try dsimp only)<;>(exact hfd)
   ·(try dsimp only)<;>(exact hDa)
   (try dsimp only)<;>(rw [← eL128,←eL130]; exact hsa)
  refine lA rfl .no gT (.u rfl) (fun _=>RdN.part (n:=5) (cs':=[V 3#8,V 0#8,uv .u64 0#64,uv .u64 ep,uv .u64 n0]) bE (rfl)) (fun _=>rfl) ?_
  refine .nil (Wp.b1 4 (by kernel_rfl) ?_)
  refine kp rfl .no tZ (aB rfl aF) (Gp.add bE Gp.nil) (fun _ hle hq=>sM bx 74 (oG ep n0 0#64) _ (PB.rdn (m:=7) ⟨bU _ _ _⟩ rfl) (by show n0.toNat<10; omega)) ?_
  refine .nil (Wp.b1 10 (by kernel_rfl) ?_)
  refine kc rfl uA (aB rfl aF) (iM (tH ⟨3#8,0#8,0#64,ep,n0⟩ _)) ?_
  rintro v128 G128 μ128 hG128 ⟨L128,ov128,eL128,rfl⟩
  refine .nil (Wp.b1 12 (by kernel_rfl) ?_)
  refine eN rfl aP bY (.u rfl) (.u rfl) .here (sJ aI oaRM) (by rw [eL128,fE]; omega) ?_
  intro v130 L130 ov130 eL130
  have lL130:L130.length=L128.length+LL.length:=by rw [eL130,List.length_append]
  refine .nil (Wp.b1 13 (by kernel_rfl) ?_)
  refine ka rfl (.inl rfl) aBK (aB rfl (aB rfl (aB rfl aF))) (jF .here bE bE bE) (aHN bx bm room done clk (Db.g2 dk tr root o ep held now a0 b0 n0) F _ hD (by omega) hr9 (aO 3 n0.toNat) v130 L130 hgd3 hn3 (by have q9:L128.length=30:=(by rw [eL128,fE]); omega) (by have q9:L128.length=30:=(by rw [eL128,fE]); omega) (by omega)) ?_
  rintro _ G131 μ131 hG131 ⟨f1,hfa,hfb,hfc,hfd,hsa,hDa,rfl,rfl⟩
  refine .nil (Wp.last (by kernel_rfl) ?_)
  refine aU f1 ?_ ?_ ?_ ?_ ?_
  ·exact (aA rfl (aA rfl (aA rfl eZ)))
  ·exact (mS aC rfl (mS aC rfl (mS aC rfl (mS aI rfl (mS .here rfl (mS aC rfl (mS aC rfl mN)))))))
  ·exact fL _
  ·exact (hG128).trans hG131
  refine ⟨?_,?_,?_,?_,?_,?_⟩
  ·(try dsimp only)<;>(exact hfa)
  ·(try dsimp only)<;>(rw [← eL128,←eL130]; exact hfb)
  ·(try dsimp only)<;>(exact hfc.trans hfb.symm)
  ·(try dsimp only)<;>(exact hfd)
  ·(try dsimp only)<;>(exact hDa)
  (try dsimp only)<;>(rw [← eL128,←eL130]; exact hsa)
 intro f1 Glj16 hGlj16 hFj16
 obtain ⟨hf1n,hf1l,hf1s,hf1b,hD1,hs1⟩:=hFj16
 refine .g (kV rfl aBI (aB rfl (aB rfl aF)) (aAZ 5#8 0#64 _ (by decide)) ?_)
 refine kV rfl aBI (aB rfl (aB rfl aF)) (aAZ 4#8 0#64 _ (by decide)) ?_
 refine aS rfl rfl (aS rfl rfl (.nc (.seq ?_)))
 have hab5:bK (aO 5 0) (F++[f1])=none:=aHo hn5 (by rw [hf1n]; exact fun e=>aIz hn0 e.symm)
 have hz1:cA (F++[f1])≤3000:=by rw [yD]; simp only [cA]; rw [hf1l,List.length_append,fE]; omega
 refine .g (nC rfl rfl (fZ rfl mT rfl (kp rfl .no tZ (aB rfl aF) (Gp.add dK Gp.nil) (fun _ hle hq=>sM bx 74 (oG ep n0 0#64) _ (PB.rdn (m:=7) ⟨bU _ _ _⟩ rfl) (by show n0.toNat<10; omega)) ?_)))
 refine cvS rfl rfl aX9 (.u rfl) ?_; intro G140 h140 hG140 hs140
 have hs1:=hs1.mono hG140
 refine ka rfl (.inr rfl) aBK (aB rfl (aB rfl (aB rfl aF))) (fF dK .here .here) (aHO bx bm room (done+1+1) (clk+1) (Db.g2 dk tr root o ep held now a0 b0 n0) (F++[f1]) _ hD1 (by omega) hr9 (aO 5 0) h140 (yb (aO 3 n0.toNat)) hs140 aI0 hab5 (by rw [iC,hs3]; decide) (by rw [iC,hs3]; omega) (by simp; omega)) ?_
 rintro _ G141 μ141 hG141 ⟨f2,hf2n,hf2l,hf2s,hf2b,hs2,hD2,rfl,rfl⟩
 have hs1:=hs1.mono hG141
 refine .nil (.code (.seq ?_))
 have hf5:bK (aO 5 0) (F++[f1]++[f2])=some f2:=aEA hab5 hf2n
 have hln9:(F++[f1]++[f2]).length≤12:=by simp; omega
 refine .g (nC rfl rfl (fZ rfl nX rfl (lO rfl gU rfl .here rfl ?_)))
 refine .p (ka rfl (.inr rfl) aWg (aB rfl (aB rfl (aB rfl aF))) (dI aC aC) (aOq dk bm room (done+1+1+1+1) (clk+1+1) (F++[f1]++[f2]) _ hD2 (by omega) hr9 (aO 5 0) (aO 4 0) f2 aI0 aEe hf5 (by omega)) ?_)
 rintro _ G148 μ148 hG148 ⟨F3,clk3,hD3,hl3,hz3,hnm3,hfst,rfl,rfl⟩
 have hgn3:∀ f∈F3,f.nm.size≠0:=aRZ hnm3 hgn hf1n hf2n hs3
 have hs1:=hs1.mono hG148
 have hs2:=hs2.mono hG148
 refine kV rfl mW (aB rfl aF) (nL _) ?_
 refine .g (ka rfl (.inr rfl) aWh (aB rfl aF) (dI aI mK) (cX fun G1 hle1 h1=>aO7 bx tr (Db.g2 dk tr root o ep held now a0 b0 n0) mk o1 G1 h1 rfl (by omega)) ?_)
 rintro _ G151 μ151 hG151 ⟨ν7,rfl,rfl,rfl⟩
 have hs1:=hs1.mono hG151
 have hs2:=hs2.mono hG151
 refine .nil (.code (.seq ?_))
 refine dL dK (bF .here rfl (bF aC rfl (bF aC rfl (bF .here rfl (eT))))) ?_; intro Gfb7 hleb7 hbb7
 have hs1:=hs1.mono hleb7
 have hs2:=hs2.mono hleb7
 refine dX ⟨false,false⟩ aY (by kernel_rfl) ?_
 refine Wp.one 0 (by kernel_rfl) ?_
 refine mV rfl rfl (.nil (Wp.one 1 (by kernel_rfl) ?_))
 refine mV rfl rfl (.nil (Wp.one 3 (by kernel_rfl) ?_))
 refine nC rfl rfl (.nil (Wp.one 4 (by kernel_rfl) ?_))
 refine fZ rfl mT rfl (.nil (Wp.one 5 (by kernel_rfl) ?_))
 refine fA rfl aA9 rfl (.nil (iE 2 (by kernel_rfl) ?_))
 refine lA rfl .no jV (.u rfl) (fun _=>(hbb7.rdn (m:=14) (cs':=(cM (nI (n0+1#64)) (nI (n0+1#64+1#64))).cells dE) (rfl)).rd) (fun _=>(by first|exact qE|exact qL|rfl)) ?_
 refine .nil ⟨⟨rfl,rfl⟩,?_⟩
 refine Wp.b1 6 (by kernel_rfl) ?_
 refine s1 rfl (.u rfl) (.u rfl) rfl kB .here (by first|decide | (show _<85; decide) | (show _<11; decide)) (aLG _ 1#64) ?_
 refine .nil (Wp.one 7 (by kernel_rfl) ?_)
 refine nC rfl rfl (.nil (Wp.one 8 (by kernel_rfl) ?_))
 refine fZ rfl sA rfl (.nil (Wp.b1 9 (by kernel_rfl) ?_))
 refine pR rfl (.u rfl) (.u rfl) rfl qJ .here (by show 42+14≤85; decide) (oB) (aFU _ (cM (nI (n0+1#64)) (nI (n0+1#64+1#64))) dE) ?_
 refine .nil (Wp.last (by kernel_rfl) ?_)
 refine .g (nC rfl rfl (fZ rfl mT rfl (kp rfl .no tZ (aB rfl aF) (Gp.add .here Gp.nil) (fun _ hle hq=>sM bx 74 (oG ep n0 1#64) _ (PB.rdn (m:=7) ⟨bU _ _ _⟩ rfl) (by show n0.toNat<10; omega)) ?_)))
 refine Go.Tan.bN rfl jZ sG (Evp.cons (.u rfl) (Evp.cons (.u rfl) Evp.nil)) rfl (by decide) (by simp [Value.oneCell']) ?_; intro b165
 refine .g (fZ rfl jJ rfl (lO rfl gS rfl mK rfl ?_))
 refine lE rfl iZ rfl (mV rfl rfl (.nc (.block ?_)))
 refine aX (α:=Nat) (fun k=>[(11,true,.slice (some ⟨b165,0,none⟩) 2 2),(169,true,.int .i64 (k:Int))]) (fun _=>[])
  (fun k Gl=>(k=0)) (fun k=>0) 0 [(0,true,_),(167,true,_),(168,true,_)] [_,_,_,_,_,_,_]
  (aA rfl (aM rfl (aA rfl (aA rfl (aA rfl eZ)))))
  (mS .here rfl (mS .here rfl (mS .here rfl (mS .here rfl (mS .here rfl (mS .here rfl (mS .here rfl mN))))))) ?_ ?_
 ·(try dsimp only)<;>(first|omega|rfl|assumption|(simp; done))
 intro k N1 Gl1 hN1 hGl1 hF1
 try dsimp only at hF1 hN1 ⊢
 have hk:=hF1
 have hs1:=hs1.mono hGl1
 have hs2:=hs2.mono hGl1
 refine .g (cP rfl rfl rfl rfl (.g (cD rfl (fun c3=>?_) (fun c3=>?_))))
 ·have c3k:=c3
  subst hk; cases c3
 have c3k:=c3
 try simp only [aD,aH,aE] at c3
 refine .g (ka rfl (.inr rfl) aFx (aB rfl (aB rfl aF)) (jF .here .here aC aC) (pV fun hle0=>cX fun G2 hle h1=>aKF bx bm room (done+1+1+1+1+1) clk3 (Db.g3 dk tr root o ep held now n0) F3 G2 h1 hD3 (by omega) hr9 hgn3 ⟨some ⟨b165,0,none⟩,2⟩ [aO 4 0,aO 3 n0.toNat] (fD (hle _ _ (bU _ _ _)) (fun _ _=>rfl) (Nat.le_refl 2)) (by show 2≤100000; decide)) ?_)
 rintro _ G182 μ182 hG182 ⟨ν8,rfl,F4,dn4,hD4,hl4,hz4,hd4,hsm4,rfl,rfl⟩
 have hs1:=hs1.mono hG182
 have hs2:=hs2.mono hG182
 refine .g (bD Tryz.results90 .nil (mS .here rfl (mS .here rfl (mS .here rfl (mS .here rfl mN)))) ?_)
 refine ⟨F4,clk3,dn4,hD4,by omega,fun hF hc hd=>?_,rfl,rfl⟩
 subst hF; subst hc; subst hd
 obtain ⟨e3,e4⟩:=aPa hn0 hf1n hf2n hfst
 obtain ⟨e5,e6⟩:=hsm4 (aPZ e3 hf1n)
 exact ⟨e4,by omega,f1,_,LL,e5.trans e3,hf1n,rfl,hLL,lLL,hf1l,hf1s,hs1,hf2l,hf2s.trans hf2l.symm,hs2⟩
end Go.Proofs.YtoifkgkandfeiaaGreatDoor
namespace Go.Proofs.YtoifkgkandfeiaaGreatDoor
open Go.Tan Go.RowKit Go.Maps Go.Sort Go.Shelf
set_option maxHeartbeats 1000000 in
theorem aOn (bd bm room bt done clk:Nat) (root:Nat→Y) (o:Opts) (o1 mq:BitVec 64) (a0 b0:Int) (n0:BitVec 64) (F:List Fi) (K:List ByteArray) (G:PM) (hO:oN o=true) (ho1:o1.toNat≤1000) (hD:DkR F clk) (hgn:∀ f∈F,f.nm.size≠0) (hKl:K.length≤1000) (hall:∀ f∈F,f.nm∈K) (hn3:bK (aO 3 n0.toNat) F=none) (hn5:bK (aO 5 0) F=none) (hn0:n0=0#64∨n0=2#64) (hz:cA F≤2000) (hl9:F.length≤10) (hmk:mq.toNat≤900) (hd9:done≤80000000) (hr:5000≤room) (hr9:room≤1000000000) (hK:RdNP G 6 0 (wa 64 kW)) (hsr:SrchP Tryz.prog 127 87 165 118 225 249 bm room bd bt done clk root o (o1+1#64) (o1+1#64) mq a0 b0 n0 F K G):Ct Tryz.prog 50 ([.pointer (some ⟨bd,0,none⟩),.pointer (some ⟨bt,0,none⟩),.agg (ba 32 root).toArray,o.val]:List Value).toArray G [.blk bd (cl (bH bm room done) 118),.blk bm (mO (F.map Fi.fe) clk),.blk bt (cl [uv .u64 mq,uv .u64 o1] 87)] (fun G' μ' u=>∃ (bx held now:Nat) (v:Value) (F':List Fi) (clk' dn:Nat),v.oneCell'=true∧DkR F' clk'∧F'.length≤20∧(F=[]→clk=0→done=0→FirstF G' root (o1+1#64) mq n0 F' clk' dn)∧μ'=[.blk bx (cl (Db.cells (Db.g3 bd bt root o (o1+1#64) held now n0)) 165),.blk bd (cl (bH bm room dn) 118),.blk bm (mO (F'.map Fi.fe) clk'),.blk bt (cl [uv .u64 (mq+1#64),uv .u64 (o1+1#64)] 87),.blk now (cl [v,.int .i64 ((0:Nat):Int)] 225),rS 16 Nd.cells v 249 [Nd.z],.mp held .u64 (fun _=>none)]∧u=.tuple #[pt bx,.int .i64 0]):=by
 refine Ct.of Tryz.func50 rfl Tryz.ntmps50 rfl fun w0 hs0=>?_
 refine .seq (dT rfl rfl ?_)
 refine bX rfl rfl rfl ?_; intro b6
 refine bX rfl rfl rfl ?_; intro b7
 refine al rfl aGN ?_; intro b8
 refine al rfl aBZ ?_; intro b9
 refine .g (pe rfl .no iY (.u rfl) (.u rfl) ?_)
 refine mV rfl rfl (mv rfl (.f rfl rfl) (.u rfl) (pe rfl (.f rfl rfl) sC (.s rfl) (.u rfl) ?_))
 refine bZ rfl .no (.u rfl) (.s rfl) (.g (cD rfl (fun c1=>?_) (fun c1=>?_)))
 ·have c1k:=c1
  cases c1
 have c1k:=c1
 try simp only [aD,aH,aE] at c1
 refine .g (lA rfl .no mQ (.u rfl) (fun _=>RdN.part (n:=7) (cs':=o.cells) aI (rfl)) (fun _=>rfl) ?_)
 refine kV rfl aGC (aB rfl aF) (aEl o _) ?_
 refine nt rfl .no (.u rfl) (.g (cD rfl (fun c2=>?_) (fun c2=>?_)))
 ·have c2k:=c2
  rw [hO] at c2; cases c2
 have c2k:=c2
 try simp only [aD,aH,aE] at c2
 refine .g (kp rfl .no aMS (aB rfl aF) (Gp.add dK Gp.nil) (fun _ hle hq=>aHP bd bm room done clk F _ ⟨bU _ _ _⟩) ?_)
 refine .g (cD rfl (fun c3=>?_) (fun c3=>?_))
 ·have c3k:=c3
  cases c3
 have c3k:=c3
 try simp only [aD,aH,aE] at c3
 refine .g (ka rfl (.inr rfl) aMT (aB rfl aF) (cO iL) (aKX bt mq o1 _ (by omega)) ?_)
 rintro _ G29 μ29 hG29 ⟨rfl,rfl⟩
 have hK:=hK.mono hG29
 have hsr:=hsr.mono hG29
 refine .p (eX rfl rfl rfl (eX rfl rfl rfl (.g (cP rfl rfl rfl rfl (.g (cD rfl (fun c4=>?_) (fun c4=>?_)))))))
 ·have c4k:=c4
  exact absurd c4 (by decide)
 have c4k:=c4
 try simp only [aD,aH,aE] at c4
 refine .skip (.code (.seq ?_))
 refine Wk.jn (α:=Nat×Nat×Nat×Value) (fun gh=>[(12,true,.pointer (some ⟨gh.1,0,none⟩))]) (fun gh=>[.blk gh.1 (cl (Db.cells (eY bd bt root o (o1+1#64) gh.2.1 gh.2.2.1)) 165),.mp gh.2.1 .u64 (fun _=>none),.blk gh.2.2.1 (cl [gh.2.2.2,.int .i64 ((0:Nat):Int)] 225),rS 16 Nd.cells gh.2.2.2 249 [Nd.z]]) (fun gh Gl=>(gh.2.2.2.oneCell'=true)) [(8,true,_),(9,true,_)] [_,_,_,_,_]
  (aA rfl (aA rfl eZ)) (mS .here rfl (mS .here rfl (mS .here rfl (mS aI rfl (mS aI rfl mN))))) ?_ ?_
 ·refine dL dK (bF dK rfl (bF dK rfl (bF .here rfl (eT)))) ?_; intro Gfb6 hleb6 hbb6
  have hK:=hK.mono hleb6
  have hsr:=hsr.mono hleb6
  refine dL bE (bF bE rfl (bF bE rfl (bF .here rfl (eT)))) ?_; intro Gfb7 hleb7 hbb7
  have hK:=hK.mono hleb7
  have hsr:=hsr.mono hleb7
  have hbb6:=hbb6.mono hleb7
  refine dX ⟨true,false⟩ aY (by kernel_rfl) ?_
  refine Wp.one 0 (by kernel_rfl) ?_
  refine mV rfl rfl (.nil (Wp.one 1 (by kernel_rfl) ?_))
  refine mV rfl rfl (.nil (Wp.one 4 (by kernel_rfl) ?_))
  refine mV rfl rfl (.nil (iE 2 (by kernel_rfl) ?_))
  refine lA rfl .no dJ (.u rfl) (fun _=>(hbb6.rdn (m:=32) (cs':=ba 32 root) (rfl)).rd) (fun _=>(bP _ _)) ?_
  refine .nil ⟨⟨rfl,rfl⟩,?_⟩
  refine iE 3 (by kernel_rfl) ?_
  refine lA rfl .no mQ (.u rfl) (fun _=>(hbb7.rdn (m:=7) (cs':=o.cells) (rfl)).rd) (fun _=>rfl) ?_
  refine .nil ⟨⟨rfl,rfl⟩,?_⟩
  refine Wp.b2 5 6 (by kernel_rfl) ?_ ?_
  ·refine mk rfl .u64 ?_; intro b40
   refine .nil (Wp.b1 6 (by kernel_rfl) ?_)
   refine kc rfl zG aF (xH _) ?_
   rintro _ G41 μ41 hG41 ⟨bl,vl,ol,rfl,rfl⟩
   have hK:=hK.mono hG41
   have hsr:=hsr.mono hG41
   refine .nil (Wp.one 7 (by kernel_rfl) ?_)
   refine bR ((eY bd bt root o (o1+1#64) b40 bl).cells) rfl .no aCy (.cons (.u rfl) rfl (.cons (.u rfl) rfl (.cons (.u rfl) rfl (.cons (.u rfl) rfl (.cons (.u rfl) rfl (.cons (.u rfl) rfl (.cons (.u rfl) rfl .nil))))))) rfl (rfl) (.nil (Wp.b1 8 (by kernel_rfl) ?_))
   refine bX rfl rfl rfl ?_; intro b43
   refine .nil (Wp.one 9 (by kernel_rfl) ?_)
   refine aS rfl rfl (.nil (Wp.last (by kernel_rfl) ?_))
   refine aU (b43,b40,bl,vl) ?_ ?_ ?_ ?_ ?_
   ·exact (aA rfl (aA rfl (aA rfl eZ)))
   ·exact (mS .here rfl (mS aI rfl (mS .here rfl (mS .here rfl (mS .here rfl (mS .here rfl (mS .here rfl (mS .here rfl (mS .here rfl mN)))))))))
   ·exact fL _
   ·exact ((hleb6).trans hleb7).trans hG41
   (try dsimp only)<;>(first|omega|rfl|assumption|(simp; done))
  refine kc rfl zG aF (xH _) ?_
  rintro _ G41 μ41 hG41 ⟨bl,vl,ol,rfl,rfl⟩
  have hK:=hK.mono hG41
  have hsr:=hsr.mono hG41
  refine .nil (Wp.b1 5 (by kernel_rfl) ?_)
  refine mk rfl .u64 ?_; intro b40
  refine .nil (Wp.one 7 (by kernel_rfl) ?_)
  refine bR ((eY bd bt root o (o1+1#64) b40 bl).cells) rfl .no aCy (.cons (.u rfl) rfl (.cons (.u rfl) rfl (.cons (.u rfl) rfl (.cons (.u rfl) rfl (.cons (.u rfl) rfl (.cons (.u rfl) rfl (.cons (.u rfl) rfl .nil))))))) rfl (rfl) (.nil (Wp.b1 8 (by kernel_rfl) ?_))
  refine bX rfl rfl rfl ?_; intro b43
  refine .nil (Wp.one 9 (by kernel_rfl) ?_)
  refine aS rfl rfl (.nil (Wp.last (by kernel_rfl) ?_))
  refine aU (b43,b40,bl,vl) ?_ ?_ ?_ ?_ ?_
  ·exact (aA rfl (aA rfl (aA rfl eZ)))
  ·exact (mS .here rfl (mS .here rfl (mS .here rfl (mS .here rfl (mS .here rfl (mS .here rfl (mS .here rfl (mS .here rfl (mS .here rfl mN)))))))))
  ·exact fL _
  ·exact ((hleb6).trans hleb7).trans hG41
  (try dsimp only)<;>(first|omega|rfl|assumption|(simp; done))
 intro gh Glj10 hGlj10 hFj10
 obtain ⟨b43,b40,bl,vl⟩:=gh; dsimp only at hFj10 ⊢
 have ol:=hFj10
 have hK:=hK.mono hGlj10
 have hsr:=hsr.mono hGlj10
 refine .code (.seq (Wk.defers [0] 1 (DQ.d ⟨88,[],[.pointer (some ⟨b9,0,none⟩),.pointer (some ⟨b8,0,none⟩)]⟩) (fun _ _ _ _=>False) (fun _ _ _ _ _ _ hq=>hq.elim) rfl rfl ?_))
 refine mf (vf:=#[]) (vc:=[Value.pointer (some ⟨b9,0,none⟩),Value.pointer (some ⟨b8,0,none⟩)].toArray) rfl .no (fun a ha _=>by simp) (fun a ha _=>by simp [(Ev.u (c:=true) rfl:Ev _ true (.tmp 9) _).eval ha rfl,(Ev.u (c:=true) rfl:Ev _ true (.tmp 8) _).eval ha rfl]) ?_
 refine .nil ⟨aFW rfl rfl,?_⟩
 refine .code (.seq (Wk.defers [0] 1 (DQ.d ⟨89,[.pointer (some ⟨b43,0,none⟩),.pointer (some ⟨b9,0,none⟩)],[]⟩) (fun _ _ _ _=>False) (fun _ _ _ _ _ _ hq=>hq.elim) rfl rfl ?_))
 refine mV rfl rfl (.nil ⟨DefOp.fn rfl (aB rfl (aB rfl aF)),?_⟩)
 refine .g (ka rfl (.inr rfl) aMV (aB rfl aF) (jF .here iL iL bE) (aOv b43 bm room bd bt b40 bl done clk root o (o1+1#64) (o1+1#64) mq a0 b0 n0 F K _ hD hgn hKl hall hn3 hn5 hn0 hz hl9 hmk hd9 hr hr9 hK hsr) ?_)
 rintro _ G47 μ47 hG47 ⟨F2,clk2,dn2,hD2,hl2,hfst,rfl,rfl⟩
 refine .g (s1 rfl (.u rfl) (.u rfl) rfl uG oS (by first|decide | (show _<85; decide)) (rfl) ?_)
 refine s1 rfl (.u rfl) (.u rfl) rfl jX oS (by first|decide | (show _<85; decide)) (rfl) ?_
 refine .nil (.code (.ret (aDi [⟨89,[.pointer (some ⟨b43,0,none⟩),.pointer (some ⟨b9,0,none⟩)],[]⟩,⟨88,[],[.pointer (some ⟨b9,0,none⟩),.pointer (some ⟨b8,0,none⟩)]⟩] rfl (by intro q hq; rcases List.mem_cons.1 hq with rfl | hq; exact ⟨aDK,fun w hw=>aEN w _ _⟩; rw [List.mem_singleton.1 hq]; exact ⟨aMU,fun w hw=>aSN w b9 b8 (Rd.own .here rfl w hw)⟩) Tryz.results50 (.cell rfl (fun w hw=>pP lI (Rd.own aC rfl w hw)) (.cell rfl (fun w hw=>pP jA (Rd.own .here rfl w hw)) .nil)) (mS aI rfl (mS aI rfl (mS aI rfl (mS aI rfl (mS bE rfl (mS bE rfl (mS aI rfl mN))))))) ?_)))
 exact ⟨b43,b40,bl,vl,F2,clk2,dn2,ol,hD2,hl2,hfst,rfl,rfl⟩
end Go.Proofs.YtoifkgkandfeiaaGreatDoor
namespace Go.Proofs
open Go.Shelf
def Tryz.lays103_ren:Go.Shelf.Ren:=⟨fun | 103=>115 | 210=>179 | 206=>180 | n=>n,fun | 9=>9 | 4=>4 | 24=>214 | 3=>3 | n=>n,fun | n=>n⟩
theorem Tryz.lays103:Go.Proofs.Lays.n103 Tryz.prog Tryz.lays103_ren:={
 mixed:=by kernel_rfl
 f103:=Tryz.func115.trans (congrArg some (by kernel_rfl))
 f206:=Tryz.func180.trans (congrArg some (by kernel_rfl))
 f210:=Tryz.func179.trans (congrArg some (by kernel_rfl))
 t3:=Tryz.underlying3
 a3:=Tryz.isAgg3
 z3:=Tryz.sizeOf3
 v3:=Tryz.zeroValue3
 t4:=Tryz.underlying4
 a4:=Tryz.isAgg4
 z4:=Tryz.sizeOf4
 v4:=Tryz.zeroValue4
 t9:=Tryz.underlying9
 a9:=Tryz.isAgg9
 z9:=Tryz.sizeOf9
 v9:=Tryz.zeroValue9
 t24:=Tryz.underlying214
 a24:=Tryz.isAgg214
 z24:=Tryz.sizeOf214
 v24:=Tryz.zeroValue214 }
open Go.RowKit in
theorem Tryz.strings_CutPrefix (s p:ByteArray) (w:World) :
  Calls Tryz.prog 115 #[.string s,.string p] w fun e w'=>e=.returned (.tuple #[.string ⟨(Lib.trimPrefix s.data.toList p.data.toList).toArray⟩,.bool (Lib.hasPrefix s.data.toList p.data.toList)])∧w'=w:=Any.strings_CutPrefix Tryz.lays103 s p w
end Go.Proofs
namespace Go.Proofs.YtoifkgkandfeiaaGreatDoor
open Go.Tan Go.RowKit Go.Maps Go.Sort Go.Shelf
theorem aDW:dV Tryz.prog 179=some (Ent.zero.cells):=by kernel_rfl
theorem aM1:(Tryz.prog.info? 179).bind (·.zero)=some (.agg (Ent.zero.cells).toArray):=by kernel_rfl
theorem aFv:aT Tryz.prog 71 1=some 1:=by kernel_rfl
theorem aFu:aT Tryz.prog 71 0=some 0:=by kernel_rfl
theorem aFw:aT Tryz.prog 71 2=some 2:=by kernel_rfl
theorem aVs:cT Tryz.prog 179 [0,1,2,3]=some (Ent.zero.cells,[(0,1),(1,1),(2,1),(3,1)]):=by kernel_rfl
theorem uB:bJ Tryz.prog 22=some (71,3,40):=by kernel_rfl
theorem oV:(bJ Tryz.prog 22).isSome=true:=by kernel_rfl
theorem yP:bT Tryz.prog 71=some (some 3):=by kernel_rfl
theorem aDR:dV Tryz.prog 71=some ([.int .u8 0,.string ByteArray.empty,.string ByteArray.empty]):=by kernel_rfl
theorem aDO:cE Tryz.prog 71=some 3:=by kernel_rfl
theorem aL0:aL Tryz.prog 145=true:=by kernel_rfl
theorem aMY:aL Tryz.prog 93=true:=by kernel_rfl
theorem aHf (q:BitVec 64) (o:Opn) (G:PM):Ct Tryz.prog 145 ([uv .u64 q,o.val]:List Value).toArray G [] (fun _ μ' u=>μ'=[]∧u=(fS q o).val):=by
 refine Ct.of Tryz.func145 rfl Tryz.ntmps145 rfl fun w0 hs0=>?_
 refine .seq (bB rfl rfl ?_)
 refine bX rfl rfl rfl ?_; intro b3
 refine al rfl aDW ?_; intro b4
 refine .g (fZ rfl aFv rfl (lO rfl cW rfl aC (by first|exact aV rfl|rfl) ?_))
 refine .p (fZ rfl aFu rfl (lO rfl bM rfl aC (by first|exact aV rfl|rfl) ?_))
 refine fZ rfl aFw rfl (lO rfl cW rfl aC (by first|exact aV rfl|rfl) ?_)
 refine bR ((fS q o).cells) rfl .no aVs (.cons (.u rfl) rfl (.cons (.u rfl) rfl (.cons (.u rfl) rfl (.cons (.u rfl) rfl .nil)))) rfl (rfl) ?_
 refine sw rfl (.u rfl) (.u rfl) rfl uE .here rfl (Ent.one _) ?_
 refine .nil (.code (.ret (aK Tryz.results145 (.cell rfl (fun w hw=>bW mM (RdN.own .here) (Ent.len _) hw) .nil) ?_)))
 exact ⟨rfl,rfl⟩
theorem aGw (h:Sh) (l:List Opn) (G:PM) (hs:SlR G 3 Opn.cells h l) (hl:l.length=1∨l.length=2) (hok:∀ o∈l,o.ok):Ct Tryz.prog 93 ([uv .u64 1#64,h.val l.length]:List Value).toArray G [] (fun _ μ' u=>μ'=[]∧u=.bool true):=by
 refine Ct.of Tryz.func93 rfl Tryz.ntmps93 rfl fun w0 hs0=>?_
 refine .g (lE rfl oV rfl (ci rfl .no rfl gV (.u rfl) ?_))
 refine .g (cP rfl rfl rfl rfl (mV rfl rfl (mv rfl (.f rfl rfl) (.u rfl) (cp rfl (.f rfl rfl) (.s rfl) (.u rfl) rfl (bZ rfl .no (.u rfl) (.s rfl) (mV rfl rfl (mv rfl (.f rfl rfl) (.u rfl) (cp rfl (.f rfl rfl) (.s rfl) (.u rfl) rfl (bZ rfl .no (.u rfl) (.s rfl) (mV rfl rfl (mv rfl (.f rfl rfl) (.u rfl) (mv rfl (.f rfl rfl) (.u rfl) (bw (k:=.u64) (a:=72057594037927935#64) rfl (.f rfl rfl) rfl (.u rfl) (.s rfl) rfl (bw (k:=.u64) (b:=1#64) rfl (.f rfl rfl) rfl (.s rfl) (.u rfl) rfl (cp rfl (.f rfl rfl) (.s rfl) (.s rfl) rfl (bZ rfl .no (.u rfl) (.s rfl) (.g (cD rfl (fun c1=>?_) (fun c1=>?_)))))))))))))))))))
 ·have c1k:=c1
  rcases hl with e | e<;>rw [e] at c1<;>exact absurd c1 (by decide)
 have c1k:=c1
 try simp only [aD,aH,aE] at c1
 refine .g (lE rfl oV rfl (mV rfl rfl (.nc (.block ?_))))
 refine aX (α:=Nat) (fun k=>[(30,true,.int .i64 (k:Int))]) (fun _=>[])
  (fun k Gl=>(k≤l.length)) (fun k=>l.length-k) 0 [(0,true,_),(28,true,_),(29,true,_)] []
  (aM rfl (aA rfl (aA rfl (aA rfl eZ))))
  mN ?_ ?_
 ·(try dsimp only)<;>(first|omega|rfl|assumption|(simp; done))
 intro k N0 Gl0 hN0 hGl0 hF0
 try dsimp only at hF0 hN0 ⊢
 have hk:=hF0
 have hs:=hs.mono hGl0
 refine .g (cP rfl rfl rfl rfl (.g (cD rfl (fun c2=>?_) (fun c2=>?_))))
 ·have c2k:=c2
  try simp only [aD,aH,aE] at c2
  refine .skip (.code (.seq (.block (.seq (dT rfl rfl (ih rfl .no uB (.u rfl) (.u rfl) (by omega) (by omega) (fun _=>hs.nn (k:=k) (by first|omega|(simp only [Bool.and_eq_true,decide_eq_true_eq] at hc; omega)|(simp only [List.length_cons,List.length_nil]; omega))) ?_))))))
  obtain ⟨o,eo⟩:=dY (k:=k) (xs:=l) (by omega)
  have ho:=hok o (List.mem_of_getElem? eo)
  refine lA rfl .no yP (.u rfl) (fun _=>(hs.at (by omega) eo).rd) (fun _=>Opn.len _) ?_
  refine al rfl aDR ?_; intro b7
  refine sw rfl (.u rfl) (.u rfl) rfl aDO .here rfl (Opn.one _) ?_
  refine .g (lA rfl .no yP (.u rfl) (fun _=>RdN.own .here) (fun _=>(by first|exact Opn.len _|exact Ent.len _|rfl)) ?_)
  refine kV rfl aL0 (aB rfl (aB rfl aF)) (aHf 1#64 o _) ?_
  refine kV rfl aLz (aB rfl aF) (aHV (fS 1#64 o) _) ?_
  refine nt rfl .no (.u rfl) (.g (cD rfl (fun c3=>?_) (fun c3=>?_)))
  ·have c3k:=c3
   rw [xV ho (by decide)] at c3; cases c3
  have c3k:=c3
  try simp only [aD,aH,aE] at c3
  refine .g (aW (((k+1):Nat):Int) rfl rfl rfl rfl ?_)
  refine .g (aU (k+1) ?_ ?_ ?_ ?_ ?_)
  ·exact (aM rfl (aA rfl (aA rfl (aA rfl eZ))))
  ·exact mN
  ·first|omega|(dsimp only; omega)
  ·exact hGl0
  (try dsimp only)<;>(first|omega|rfl|assumption|(simp; done))
 have c2k:=c2
 try simp only [aD,aH,aE] at c2
 refine .exit (.xcode (.xlp (.xblk (.code (.seq (aQ rfl rfl (aS rfl rfl (.nc (.ret (aK Tryz.results93 (.tmp rfl .nil) ?_))))))))))
 exact ⟨rfl,rfl⟩
theorem aNt (h:Sh) (l:List Opn) (G:PM) (hs:SlR G 3 Opn.cells h l) (hl:l.length=1∨l.length=2) (hok:∀ o∈l,o.ok):Ct Tryz.prog 232 ([uv .u64 1#64,h.val l.length]:List Value).toArray G [] (fun G' μ' u=>∃ (s:Sh) (L:List Y),L.length≤20+60*l.length∧μ'=[]∧u=.tuple #[s.val L.length,.int .i64 0]∧SlR G' 1 aN s L):=by
 refine Ct.of Tryz.func232 rfl Tryz.ntmps232 rfl fun w0 hs0=>?_
 refine .g (kV rfl aMY (aB rfl (aB rfl aF)) (aGw h l _ hs hl hok) ?_)
 refine nt rfl .no (.u rfl) (.g (cD rfl (fun c1=>?_) (fun c1=>?_)))
 ·have c1k:=c1
  cases c1
 have c1k:=c1
 try simp only [aD,aH,aE] at c1
 refine .g (kc rfl yZ (aB rfl (aB rfl (aB rfl aF))) (Ct.frzB (vR [] ⟨none,0⟩ 1#64 8 _ SlR.nul (by simp) (by decide))) ?_)
 rintro _ G15 μ15 hG15 ⟨h15,L15,eL15,rfl,rfl,hs15⟩
 have hs:=hs.mono hG15
 refine .p (lE rfl oV rfl (ci rfl .no rfl gV (.u rfl) ?_))
 refine kc rfl aF3 (aB rfl (aB rfl aF)) (iM (aGa L15 h15 _ hs15 _ (by rw [eL15,List.nil_append,fP]; decide))) ?_
 rintro v19 G19 μ19 hG19 ⟨L19,ov19,eL19,rfl⟩
 have hs:=hs.mono hG19
 refine .g (lE rfl oV rfl (mV rfl rfl (.nc (.block ?_))))
 refine aX (α:=Nat×Value×List Y) (fun gh=>[(6,true,gh.2.1),(22,true,.int .i64 (gh.1:Int))]) (fun gh=>[rB gh.2.1 5 gh.2.2])
  (fun gh Gl=>(gh.1≤l.length)∧(gh.2.2.length≤20+60*gh.1)) (fun gh=>l.length-gh.1) (0,v19,L19) [(20,true,_),(21,true,_)] []
  (aA rfl (aM rfl (aA rfl (aA rfl eZ))))
  (mS .here rfl mN) ?_ ?_
 ·refine ⟨?_,?_⟩
  ·(try dsimp only)<;>(first|omega|rfl|assumption|(simp; done))
  (try dsimp only)<;>(rw [eL19,eL15,List.nil_append,List.length_append,fP]; exact Nat.le_trans (Nat.add_le_add_left (hJ (BitVec.isLt _)) 8) (by omega))
 intro gh N0 Gl0 hN0 hGl0 hF0
 obtain ⟨k,v,L⟩:=gh; dsimp only at hF0 hN0 ⊢
 obtain ⟨hk,hL⟩:=hF0
 have hs:=hs.mono hGl0
 refine .g (cP rfl rfl rfl rfl (.g (cD rfl (fun c2=>?_) (fun c2=>?_))))
 ·have c2k:=c2
  try simp only [aD,aH,aE] at c2
  refine .skip (.code (.seq (.block (.seq (dT rfl rfl (ih rfl .no uB (.u rfl) (.u rfl) (by omega) (by omega) (fun _=>hs.nn (k:=k) (by first|omega|(simp only [Bool.and_eq_true,decide_eq_true_eq] at hc; omega)|(simp only [List.length_cons,List.length_nil]; omega))) ?_))))))
  obtain ⟨o,eo⟩:=dY (k:=k) (xs:=l) (by omega)
  have ho:=hok o (List.mem_of_getElem? eo)
  refine lA rfl .no yP (.u rfl) (fun _=>(hs.at (by omega) eo).rd) (fun _=>Opn.len _) ?_
  refine al rfl aDR ?_; intro b8
  refine sw rfl (.u rfl) (.u rfl) rfl aDO .here rfl (Opn.one _) ?_
  refine .g (fZ rfl aFu rfl (lO rfl bM rfl .here (by first|exact aV rfl|rfl) ?_))
  refine Go.Tan.b1 rfl aP bY (.u rfl) rfl rfl (by decide) ?_; intro b28
  refine fZ rfl aFv rfl (lO rfl cW rfl aC (by first|exact aV rfl|rfl) ?_)
  refine ka rfl (.inr rfl) zB (aB rfl (aB rfl aF)) (cO .here) (pV fun hle=>Ct.frzB (wP [o.kind] ⟨some ⟨b28,0,none⟩,1⟩ _ (fD (xs:=[o.kind]) (bU _ _ _) (fun _ _=>rfl) (Nat.le_refl 1)) o.user (by have:=ho.user; show 1+_≤_; omega))) ?_
  rintro _ G31 μ31 hG31 ⟨h31,L31,eL31,rfl,rfl,hs31⟩
  have lL31:L31.length≤21:=by have:=aKD o.user (by have:=ho.user; omega); have:=ho.user; rw [eL31,List.length_append]; show 1+_≤_; omega
  refine .g (fZ rfl aFu rfl (lO rfl bM rfl .here (by first|exact aV rfl|rfl) ?_))
  refine cP rfl rfl rfl rfl (.g (cD rfl (fun c3=>?_) (fun c3=>?_)))
  ·have c3k:=c3
   try simp only [aD,aH,aE] at c3
   refine .g (fZ rfl aFw rfl (lO rfl cW rfl .here (by first|exact aV rfl|rfl) ?_))
   refine kc rfl zB (aB rfl (aB rfl aF)) (Ct.frzB (wP L31 h31 _ hs31 o.value (by have:=ho.value; omega))) ?_
   rintro _ G38 μ38 hG38 ⟨h38,L38,eL38,rfl,rfl,hs38⟩
   have lL38:L38.length≤41:=by have:=aKD o.value (by have:=ho.value; omega); have:=ho.value; rw [eL38,List.length_append]; omega
   have hs31:=hs31.mono hG38
   refine .g (eN rfl aP bY (.u rfl) (.u rfl) aC hs38.sc (by (try simp only [cI,cR]); omega) ?_)
   intro v41 L41 ov41 eL41
   have lL41:L41.length=L.length+L38.length:=by rw [eL41,List.length_append]
   refine .g (aW (((k+1):Nat):Int) rfl rfl rfl rfl ?_)
   refine .g (aU (k+1,v41,L41) ?_ ?_ ?_ ?_ ?_)
   ·exact (aA rfl (aM rfl (aA rfl (aA rfl eZ))))
   ·exact (mS .here rfl mN)
   ·first|omega|(dsimp only; omega)
   ·exact ((hGl0).trans hG31).trans hG38
   refine ⟨?_,?_⟩
   ·(try dsimp only)<;>(first|omega|rfl|assumption|(simp; done))
   (try dsimp only)<;>(rw [lL41]; omega)
  have c3k:=c3
  try simp only [aD,aH,aE] at c3
  refine .g (eN rfl aP bY (.u rfl) (.u rfl) aC hs31.sc (by (try simp only [cI,cR]); omega) ?_)
  intro v41 L41 ov41 eL41
  have lL41:L41.length=L.length+L31.length:=by rw [eL41,List.length_append]
  refine .g (aW (((k+1):Nat):Int) rfl rfl rfl rfl ?_)
  refine .g (aU (k+1,v41,L41) ?_ ?_ ?_ ?_ ?_)
  ·exact (aA rfl (aM rfl (aA rfl (aA rfl eZ))))
  ·exact (mS .here rfl mN)
  ·first|omega|(dsimp only; omega)
  ·exact (hGl0).trans hG31
  refine ⟨?_,?_⟩
  ·(try dsimp only)<;>(first|omega|rfl|assumption|(simp; done))
  (try dsimp only)<;>(rw [lL41]; omega)
 have c2k:=c2
 try simp only [aD,aH,aE] at c2
 refine .exit (.xcode (.xlp (.xblk (.code (.seq (dP rfl rfl (mV rfl rfl (aS rfl rfl (aS rfl rfl (.nc (.ret ?_)))))))))))
 refine aFK .here (by first|(intro b hb; cases hb; done) | simp [keys,Res.keys]) ?_; intro GfR19 hR19 hleR19 evR19 hsR19; subst evR19
 refine aK Tryz.results232 (.tmp rfl (.tmp rfl .nil)) ?_
 obtain rfl:k=l.length:=by omega
 exact ⟨hR19,L,hL,rfl,rfl,hsR19⟩
theorem aNu (h:Sh) (l:List Opn) (G:PM) (hs:SlR G 3 Opn.cells h l) (hl:l.length=1∨l.length=2) (hok:∀ o∈l,o.ok):Ct Tryz.prog 234 ([uv .u64 1#64,h.val l.length]:List Value).toArray G [] (fun G' μ' u=>∃ (s:Sh),μ'=[]∧u=s.val (cB 0 l).length∧SlR G' 4 Ent.cells s (cB 0 l)):=by
 refine Ct.of Tryz.func234 rfl Tryz.ntmps234 rfl fun w0 hs0=>?_
 refine .seq (aQ rfl rfl (aS rfl rfl (.nc (.seq (aQ rfl rfl (aS rfl rfl (.nc (.seq (.seq (rO 4 Ent.cells 179 (.g (lE rfl oV rfl (mV rfl rfl (.nc (.block ?_)))))))))))))))
 refine aX (α:=Nat×Value) (fun gh=>[(0,true,uv .u64 (BitVec.ofNat 64 (gh.1+1))),(5,true,gh.2),(10,true,.int .i64 (gh.1:Int))]) (fun gh=>[rS 4 Ent.cells gh.2 179 (cB 0 (l.take gh.1))])
  (fun gh Gl=>(gh.1≤l.length)) (fun gh=>l.length-gh.1) (0,.slice none 0 0) [(8,true,_),(9,true,_)] []
  (aA rfl (aA rfl (aM rfl (aA rfl (aA rfl eZ)))))
  (mS .here rfl mN) ?_ ?_
 ·(try dsimp only)<;>(first|omega|rfl|assumption|(simp; done))
 intro gh N0 Gl0 hN0 hGl0 hF0
 obtain ⟨k,v⟩:=gh; dsimp only at hF0 hN0 ⊢
 have hk:=hF0
 have hs:=hs.mono hGl0
 refine .g (cP rfl rfl rfl rfl (.g (cD rfl (fun c1=>?_) (fun c1=>?_))))
 ·have c1k:=c1
  try simp only [aD,aH,aE] at c1
  refine .skip (.code (.seq (.block (.seq (dT rfl rfl (ih rfl .no uB (.u rfl) (.u rfl) (by omega) (by omega) (fun _=>hs.nn (k:=k) (by first|omega|(simp only [Bool.and_eq_true,decide_eq_true_eq] at hc; omega)|(simp only [List.length_cons,List.length_nil]; omega))) ?_))))))
  obtain ⟨o,eo⟩:=dY (k:=k) (xs:=l) (by omega)
  have ho:=hok o (List.mem_of_getElem? eo)
  refine lA rfl .no yP (.u rfl) (fun _=>(hs.at (by omega) eo).rd) (fun _=>Opn.len _) ?_
  refine al rfl aDR ?_; intro b7
  refine sw rfl (.u rfl) (.u rfl) rfl aDO .here rfl (Opn.one _) ?_
  refine .g (lA rfl .no yP (.u rfl) (fun _=>RdN.own .here) (fun _=>(by first|exact Opn.len _|exact Ent.len _|rfl)) ?_)
  refine kV rfl aL0 (aB rfl (aB rfl aF)) (aHf (BitVec.ofNat 64 (k+1)) o _) ?_
  refine Go.Tan.b1 rfl aBR aM1 (.u rfl) rfl rfl (by decide) ?_; intro b18
  refine oC (xs:=(cB 0 (l.take k))) ((fS (BitVec.ofNat 64 (k+1)) o)) rfl aBR aM1 rfl (.u rfl) (.u rfl) aI .here (Ent.len _) (Ent.one _) (by rw [aAD,List.length_take]; omega) (by rw [aAD,List.length_take]; unfold maxLen; omega) ?_; intro v19 ov19
  refine .g (bw (k:=.u64) (b:=1#64) rfl .no rfl (.u rfl) (.u rfl) rfl (.g (aW (((k+1):Nat):Int) rfl rfl rfl rfl ?_)))
  refine .g (aU (k+1,v19) ?_ ?_ ?_ ?_ ?_)
  ·exact (eJ rfl (congrArg (uv .u64) aN6) (aA rfl (aM rfl (aA rfl (aA rfl eZ)))))
  ·exact (mS .here (by rw [← aHh eo,Nat.zero_add]) mN)
  ·first|omega|(dsimp only; omega)
  ·exact hGl0
  (try dsimp only)<;>(first|omega|rfl|assumption|(simp; done))
 have c1k:=c1
 try simp only [aD,aH,aE] at c1
 refine .exit (.xcode (.xlp (.xblk (.code (.seq (bB rfl rfl (mV rfl rfl (aS rfl rfl (.nc (.ret ?_))))))))))
 refine aAu .here (fun _ _=>rfl) (by intro b hb; cases hb) ?_; intro GfRE hRE hleRE evRE hsRE; subst evRE
 refine aK Tryz.results234 (.tmp rfl .nil) ?_
 obtain rfl:k=l.length:=by omega
 rw [List.take_length] at hsRE ⊢
 exact ⟨hRE,rfl,rfl,hsRE⟩
theorem aAM (k:Nat) (G:PM) (hk:k<2):Ct Tryz.prog 236 ([uv .u64 (BitVec.ofNat 64 (k+1))]:List Value).toArray G [] (fun _ μ' u=>μ'=[]∧u=.int .i64 ((k+1:Nat):Int)):=by
 refine Ct.of Tryz.func236 rfl Tryz.ntmps236 rfl fun w0 hs0=>?_
 refine .seq (aQ rfl rfl (aS rfl rfl (.nc (.seq (aQ rfl rfl (aS rfl rfl (.nc (.seq (.block ?_)))))))))
 refine aX (α:=Nat) (fun j=>[(0,true,uv .u64 (BitVec.ofNat 64 (k+1) >>> j)),(3,true,.int .i64 ((j+1:Nat):Int))]) (fun _=>[])
  (fun j Gl=>(j≤k)) (fun j=>k-j) 0 [] []
  (aA rfl (aM rfl eZ))
  mN ?_ ?_
 ·(try dsimp only)<;>(first|omega|rfl|assumption|(simp; done))
 intro j N0 Gl0 hN0 hGl0 hF0
 try dsimp only at hF0 hN0 ⊢
 have hj:=hF0
 refine .g (cP rfl rfl rfl rfl (mV rfl rfl (mv rfl (.t rfl rfl) (.u rfl) (bw (k:=.u64) (b:=1#64) rfl (.t rfl rfl) rfl (.s rfl) (.u rfl) rfl (cp rfl (.t rfl rfl) (.s rfl) (.u rfl) rfl (bL rfl .no (.u rfl) (.s rfl) (.g (cD rfl (fun c1=>?_) (fun c1=>?_)))))))))
 ·have c1k:=c1
  skip
  refine .g (iF ((((j+1)+1):Nat):Int) rfl .no (.u rfl) (.u rfl) rfl (by omega) (fun _=>eV (by omega) (by omega)) ?_)
  refine .g (oO (k:=.u64) rfl .no (.u rfl) (.u rfl) (fun _=>by decide) ?_)
  refine .g (aU (j+1) ?_ ?_ ?_ ?_ ?_)
  ·exact (eJ rfl (congrArg (uv .u64) (BitVec.shiftRight_add _ j 1).symm) (aM rfl eZ))
  ·exact mN
  ·have hjk:j<k:=aID hk hj c1k; omega
  ·exact hGl0
  (try dsimp only)<;>(exact aID hk hj c1k)
 have c1k:=c1
 skip
 refine .exit (.xcode (.xlp (.xblk (.code (.seq (bB rfl rfl (mV rfl rfl (aS rfl rfl (.nc (.ret (aK Tryz.results236 (.tmp rfl .nil) ?_)))))))))))
 obtain rfl:j=k:=aP3 hk hj c1k
 exact ⟨rfl,rfl⟩
end Go.Proofs.YtoifkgkandfeiaaGreatDoor
namespace Go.Proofs.YtoifkgkandfeiaaGreatDoor
open Go.Tan Go.RowKit Go.Maps Go.Sort Go.Shelf
theorem aFh:aT Tryz.prog 165 13=some 81:=by kernel_rfl
theorem aWZ:aT Tryz.prog 165 3=some 34:=by kernel_rfl
theorem aXT:aL Tryz.prog 317=true:=by kernel_rfl
theorem aGD:aL Tryz.prog 96=true:=by kernel_rfl
theorem aW4:aL Tryz.prog 232=true:=by kernel_rfl
theorem aW5:aL Tryz.prog 233=true:=by kernel_rfl
theorem aWX:aT Tryz.prog 163 2=some 6:=by kernel_rfl
theorem aW6:aL Tryz.prog 234=true:=by kernel_rfl
theorem aBM:aL Tryz.prog 236=true:=by kernel_rfl
theorem aBL:aL Tryz.prog 235=true:=by kernel_rfl
theorem aUv (bx:Nat) (d:Db) (v:Value) (sz:Nat) (G:PM) (hbx:PB G bx (cl d.cells 165)) (hbn:PB G d.now (cl [v,.int .i64 ((sz:Nat):Int)] 225)) (hm:(sz:Int)<d.o.mem):Ct Tryz.prog 233 ([pt bx]:List Value).toArray G [] (fun _ μ' u=>μ'=[]∧u=.tuple #[]):=by
 refine Ct.of Tryz.func233 rfl Tryz.ntmps233 rfl fun w0 hs0=>?_
 refine .g (bO (mc:=⟨false,false⟩) [0,1,2,3,5,6,7,8,9,4,10] aY (by kernel_rfl) ?_)
 refine .p (nC rfl rfl (fA rfl aFh rfl (lN rfl tR rfl ((hbx.rd (rfl)).rd) ?_)))
 refine .p (nC rfl rfl (fA rfl aWZ rfl (fA rfl aLp rfl (lN rfl cJ rfl ((hbx.rd (rfl)).rd) ?_))))
 refine kV rfl aXT (aB rfl aF) (aQZ d.now v sz _ hbn) ?_
 refine cP rfl rfl rfl rfl (.g (cD rfl (fun c1=>?_) (fun c1=>?_)))
 ·have c1k:=c1
  try simp only [aD,aE] at c1
  refine .ret (aK Tryz.results233 .nil ?_)
  exact ⟨rfl,rfl⟩
 have c1k:=c1
 exact absurd hm (of_decide_eq_false c1)
set_option maxHeartbeats 4000000 in
theorem aHL (bx bm room bd bt held bn:Nat) (root:Nat→Y) (o:Opts) (v0:Value) (F:List Fi) (h:Sh) (l:List Opn) (G:PM) (hD:DkR F 3) (hnm:F.map Fi.nm=[aO 3 0,aO 4 0]) (hz:cA F≤2000) (hr:5000≤room) (hr9:room≤1000000000) (hmem:0<o.mem) (hs:SlR G 3 Opn.cells h l) (hl:l.length=1∨l.length=2) (hok:∀ o∈l,o.ok) (hord:l.length=2→lt (l.getD 0 Opn.zero).user (l.getD 1 Opn.zero).user=true) (hK:RdNP G 6 0 (wa 64 kW)):Ct Tryz.prog 168 ([pt bx,h.val l.length,.bool false]:List Value).toArray G [.blk bx (cl (Db.cells (iD bd bt root o 1#64 held bn)) 165),.blk bd (cl (bH bm room 5) 118),.blk bm (mO (F.map Fi.fe) 3),.blk bn (cl [v0,.int .i64 ((0:Nat):Int)] 225),rS 16 Nd.cells v0 249 [Nd.z]] (fun _ μ' u=>∃ (bb m cap sz:Nat) (F':List Fi),m=(cK (cB 0 l) l.length).length∧DkR F' 4∧F'.map Fi.nm=[aO 3 0,aO 4 0,aO 1 1]∧cA F'≤4000∧μ'=[.blk bx (cl (Db.cells { iD bd bt root o 1#64 held bn with lg:=⟨⟨1#8,0#8,0#64,1#64,1#64⟩,1#64,false⟩,seq:=(0#64+BitVec.ofInt 64 ((l.length:Nat):Int)) }) 165),.blk bd (cl (bH bm room 6) 118),.blk bm (mO (F'.map Fi.fe) 4),.blk bn (cl [.slice (some ⟨bb,0,none⟩) m cap,.int .i64 ((sz:Nat):Int)] 225),rS 16 Nd.cells (.slice (some ⟨bb,0,none⟩) m cap) 249 (cK (cB 0 l) l.length)]∧u=.int .i64 0):=by
 refine Ct.of Tryz.func168 rfl Tryz.ntmps168 rfl fun w0 hs0=>?_
 refine .seq (aQ rfl rfl ?_)
 refine al rfl aBZ ?_; intro b6
 refine .g (kp rfl .no aGD (aB rfl aF) (Gp.add aC Gp.nil) (fun _ hle hq=>aFI bx (iD bd bt root o 1#64 held bn) _ ⟨bU _ _ _⟩) (.g (cP rfl rfl rfl rfl (.g (cD rfl (fun c1=>?_) (fun c1=>?_))))))
 ·have c1k:=c1
  exact absurd c1 (by decide)
 have c1k:=c1
 try simp only [aD,aH,aE] at c1
 refine .skip (.code (.seq (Wk.defers [0] 1 (DQ.d ⟨89,[.pointer (some ⟨bx,0,none⟩),.pointer (some ⟨b6,0,none⟩)],[]⟩) (fun _ _ _ _=>False) (fun _ _ _ _ _ _ hq=>hq.elim) rfl rfl ?_)))
 refine mV rfl rfl (.nil ⟨DefOp.fn rfl (aB rfl (aB rfl aF)),?_⟩)
 refine .g (nC rfl rfl (fZ rfl nY rfl (lO rfl aZ rfl aC rfl ?_)))
 refine bw (k:=.u64) (b:=1#64) rfl .no rfl (.u rfl) (.u rfl) rfl (.p (kc rfl aW4 (aB rfl (aB rfl aF)) (aNt h l _ hs hl hok) ?_))
 rintro _ G31 μ31 hG31 ⟨s31,L31,lL31,rfl,rfl,hs31⟩
 have hK:=hK.mono hG31
 have hs:=hs.mono hG31
 refine .p (eX rfl rfl rfl (eX rfl rfl rfl (.g (cP rfl rfl rfl rfl (.g (cD rfl (fun c2=>?_) (fun c2=>?_)))))))
 ·have c2k:=c2
  exact absurd c2 (by decide)
 have c2k:=c2
 try simp only [aD,aH,aE] at c2
 refine .g (lE rfl bV rfl (cP rfl rfl rfl rfl (.g (cD rfl (fun c3=>?_) (fun c3=>?_)))))
 ·have c3k:=c3
  have:=of_decide_eq_true c3; omega
 have c3k:=c3
 try simp only [aD,aH,aE] at c3
 refine .g (kp rfl .no aW5 (aB rfl aF) (Gp.add dK (Gp.add aC Gp.nil)) (fun _ hle hq=>aUv bx (iD bd bt root o 1#64 held bn) v0 0 _ ⟨hq.1 _ _ (bU _ _ _)⟩ ⟨bU _ _ _⟩ hmem) (.nc (.seq (lF rfl rfl ?_))))
 refine Go.Tan.b1 rfl aP bY (.u rfl) rfl rfl (by decide) ?_; intro b42
 refine mV rfl rfl ?_
 refine apB [0#8] rfl aP bY (.u rfl) rfl rfl (.u rfl) .here hs31.sc (by show 1+L31.length≤_; omega) ?_; intro v44 L44 ov44 eL44
 have lL44:L44.length=1+L31.length:=by rw [eL44]; simp; omega
 refine Go.Tan.b1 (cs:=[v44]) rfl iN lT (.u rfl) (sN ov44) rfl (by decide) ?_; intro b45
 refine aS rfl rfl (.nc (.seq (.seq ?_)))
 refine kR aC (bF aI rfl (bF aI rfl (bF aI rfl (bF aI rfl (bF aI rfl (eT)))))) ?_; intro GfR44 hR44 hleR44 evR44 hsR44; subst evR44
 have hK:=hK.mono hleR44
 have hs:=hs.mono hleR44
 refine dL .here (bF aC rfl (bF aC rfl (bF aC rfl (bF aC rfl (bF aC rfl (eT)))))) ?_; intro Gfb45 hleb45 hbb45
 have hK:=hK.mono hleb45
 have hs:=hs.mono hleb45
 have hsR44:=hsR44.mono hleb45
 refine .g (cD rfl (fun c4=>?_) (fun c4=>?_))
 ·have c4k:=c4
  cases c4
 have c4k:=c4
 try simp only [aD,aH,aE] at c4
 refine .g (nC rfl rfl (fZ rfl lJ rfl (fA rfl aA9 rfl (lO rfl aZ rfl aC rfl ?_))))
 refine cP rfl rfl rfl rfl (.g (cD rfl (fun c5=>?_) (fun c5=>?_)))
 ·have c5k:=c5
  try simp only [aD,aH,aE] at c5
  refine .g (nC rfl rfl (fZ rfl lJ rfl (fA rfl qA rfl (lA rfl .no gT (.u rfl) (fun _=>RdN.part (n:=5) (cs':=[V 1#8,V 0#8,uv .u64 0#64,uv .u64 1#64,uv .u64 1#64]) aC (rfl)) (fun _=>rfl) ?_))))
  refine kc rfl uA (aB rfl aF) (iM (tH ⟨1#8,0#8,0#64,1#64,1#64⟩ _)) ?_
  rintro v69 G69 μ69 hG69 ⟨L69,ov69,eL69,rfl⟩
  have hK:=hK.mono hG69
  have hs:=hs.mono hG69
  have hsR44:=hsR44.mono hG69
  have hbb45:=hbb45.mono hG69
  refine .g (lE rfl uC rfl (mV rfl rfl (.nc (.block ?_))))
  refine aX (α:=Nat×Value×List Y) (fun gh=>[(11,true,gh.2.1),(72,true,.int .i64 (gh.1:Int))]) (fun gh=>[rB gh.2.1 5 gh.2.2])
   (fun gh Gl=>(gh.1≤1)∧(gh.2.2.length≤30+600*gh.1)) (fun gh=>1-gh.1) (0,v69,L69) [(0,true,_),(1,true,_),(2,true,_),(6,true,_),(10,true,_),(70,true,_),(71,true,_)] [_,_,_,_,_,_]
   (aA rfl (aM rfl (aA rfl (aA rfl (aA rfl (aA rfl (aA rfl (aA rfl (aA rfl eZ)))))))))
   (mS .here rfl (mS .here rfl (mS .here rfl (mS .here rfl (mS .here rfl (mS .here rfl (mS .here rfl mN))))))) ?_ ?_
  ·refine ⟨?_,?_⟩
   ·(try dsimp only)<;>(first|omega|rfl|assumption|(simp; done))
   (try dsimp only)<;>(rw [eL69,fE]; omega)
  intro gh N0 Gl0 hN0 hGl0 hF0
  obtain ⟨k,v,LO⟩:=gh; dsimp only at hF0 hN0 ⊢
  obtain ⟨hk,hLO⟩:=hF0
  have hK:=hK.mono hGl0
  have hs:=hs.mono hGl0
  have hsR44:=hsR44.mono hGl0
  have hbb45:=hbb45.mono hGl0
  refine .g (cP rfl rfl rfl rfl (.g (cD rfl (fun c6=>?_) (fun c6=>?_))))
  ·have c6k:=c6
   try simp only [aD,aH,aE] at c6
   refine .skip (.code (.seq (.block (.seq (lF rfl rfl (mV rfl rfl ?_))))))
   have hk0:k=0:=by omega
   refine ia rfl .no iN (.u rfl) (.u rfl) (by omega) (by omega) ?_
   refine lN rfl dB rfl ((hbb45.rd (by rw [hk0]; rfl)).rd) ?_
   refine .g (bO (mc:=⟨true,false⟩) [0,1,2,3,4,5,6,7,8,9,10,11,12,13,14,15,16,17,18,19,20,21,22,23] aY (by kernel_rfl) ?_)
   refine .p (nC rfl rfl (fZ rfl aC8 rfl (lA rfl .no dJ (.u rfl) (fun _=>RdN.part (n:=32) (cs':=ba 32 root) aI (rfl)) (fun _=>(bP _ _)) ?_)))
   refine .p (nC rfl rfl (fZ rfl lJ rfl (fA rfl qA rfl (lA rfl .no gT (.u rfl) (fun _=>RdN.part (n:=5) (cs':=[V 1#8,V 0#8,uv .u64 0#64,uv .u64 1#64,uv .u64 1#64]) aI (rfl)) (fun _=>rfl) ?_))))
   refine .p (nC rfl rfl (fZ rfl lJ rfl (fA rfl aA9 rfl (lO rfl aZ rfl aI rfl ?_))))
   refine .p (ci rfl .no rfl gV (.u rfl) ?_)
   refine bw (k:=.u64) rfl .no rfl (.u rfl) (.u rfl) rfl (.p (kc rfl aL9 (aB rfl (aB rfl (aB rfl (aB rfl aF)))) (aKo root ⟨1#8,0#8,0#64,1#64,1#64⟩ _ L44 hR44 _ hsR44 hK) ?_))
   rintro _ G96 μ96 hG96 ⟨vW,LW,eW,hLW,rfl,rfl⟩
   obtain ⟨rfl,lLW⟩:=aIS (by omega) hLW
   have hs:=hs.mono hG96
   refine .p (eX rfl rfl rfl (eX rfl rfl rfl (.g (kV rfl mW (aB rfl aF) (nL _) ?_))))
   refine .nil (.code ?_)
   refine tQ .here ?_; intro sRW bbRW evRW lcRW oaRW; subst evRW
   refine .g (eN rfl aP bY (.u rfl) (.u rfl) aC (sJ .here oaRW) (by (try simp only [cI,cR]); omega) ?_)
   intro v103 L103 ov103 eL103
   have lL103:L103.length=LO.length+LW.length:=by rw [eL103,List.length_append]
   refine .g (aW (((k+1):Nat):Int) rfl rfl rfl rfl ?_)
   refine .g (aU (k+1,v103,L103) ?_ ?_ ?_ ?_ ?_)
   ·exact (aA rfl (aM rfl (aA rfl (aA rfl (aA rfl (aA rfl (aA rfl (aA rfl (aA rfl eZ)))))))))
   ·exact (mS .here rfl (mS aC rfl (mS aC rfl (mS aC rfl (mS aC rfl (mS aC rfl (mS aC rfl mN)))))))
   ·first|omega|(dsimp only; omega)
   ·exact (hGl0).trans hG96
   refine ⟨?_,?_⟩
   ·(try dsimp only)<;>(first|omega|rfl|assumption|(simp; done))
   (try dsimp only)<;>(rw [lL103]; omega)
  have c6k:=c6
  try simp only [aD,aH,aE] at c6
  refine .exit (.xcode (.xlp (.xblk (.code (.seq ?_)))))
  refine Wk.jn (α:=List Fi) (fun F3=>[]) (fun F3=>[.blk bd (cl (bH bm room 6) 118),.blk bm (mO (F3.map Fi.fe) 4)]) (fun F3 Gl=>(DkR F3 4)∧(F3.map Fi.nm=[aO 3 0,aO 4 0,aO 1 1])∧(cA F3≤4000)) [(0,true,_),(1,true,_),(2,true,_),(6,true,_),(10,true,_)] [_,_,_,_]
   (aA rfl (aA rfl (aA rfl (aA rfl (aA rfl eZ))))) (mS aC rfl (mS aC rfl (mS bE rfl (mS bE rfl mN)))) ?_ ?_
  ·refine dX ⟨true,false⟩ aY (by kernel_rfl) ?_
   refine Wp.one 0 (by kernel_rfl) ?_
   refine mV rfl rfl (.nil (Wp.one 1 (by kernel_rfl) ?_))
   refine nC rfl rfl (.nil (Wp.one 2 (by kernel_rfl) ?_))
   refine fZ rfl nX rfl (.nil (Wp.one 4 (by kernel_rfl) ?_))
   refine mV rfl rfl (.nil (Wp.one 5 (by kernel_rfl) ?_))
   refine nC rfl rfl (.nil (Wp.one 6 (by kernel_rfl) ?_))
   refine fZ rfl lJ rfl (.nil (Wp.one 8 (by kernel_rfl) ?_))
   refine mV rfl rfl (.nil (Wp.b2 3 7 (by kernel_rfl) ?_ ?_))
   ·refine lO rfl gU rfl aI rfl ?_
    refine .nil (Wp.b1 7 (by kernel_rfl) ?_)
    refine kp rfl .no tZ (aB rfl aF) (Gp.add aI Gp.nil) (fun _ hle hq=>sM bx 60 (sX 1#64 0#64) _ (PB.rdn (m:=7) ⟨bU _ _ _⟩ rfl) (by show (1#64:BitVec 64).toNat<10; decide)) ?_
    refine .nil (Wp.b1 9 (by kernel_rfl) ?_)
    refine ka rfl (.inl rfl) aDG (aB rfl (aB rfl (aB rfl aF))) (fF .here aI aI) (aAy fun s9 G2 hle hv hs9=>by subst hv; exact aHI bd bm room 5 3 F G2 hD (by decide) hr9 (aO 1 1) s9 LO hs9 aCM (xB (by rw [hnm]; exact aCN)) (by omega) (by omega)) ?_
    rintro _ G114 μ114 hG114 ⟨f,hfn,hfl,hfs,hfb,rfl,rfl⟩
    have hF2:F.length=2:=by have:=congrArg List.length hnm; simpa using this
    have hD4:DkR (F++[f]) 4:=hD.app hfb (by omega) (by rw [hfn]; exact xB (by rw [hnm]; exact aCN)) (by rw [hfn]; exact aCM.2) (by omega)
    have hn4:(F++[f]).map Fi.nm=[aO 3 0,aO 4 0,aO 1 1]:=by rw [List.map_append,hnm,List.map_cons,List.map_nil,hfn]; rfl
    have hz4:cA (F++[f])≤4000:=by rw [yD]; simp only [cA]; omega
    have hs:=hs.mono hG114
    refine .nil (Wp.b1 10 (by kernel_rfl) ?_)
    refine kV rfl mW (aB rfl aF) (nL _) ?_
    refine .nil (Wp.last (by kernel_rfl) ?_)
    refine aU (F++[f]) ?_ ?_ ?_ ?_ ?_
    ·exact (aA rfl (aA rfl (aA rfl (aA rfl (aA rfl eZ)))))
    ·exact (mS .here rfl (mS .here rfl (mS .here rfl (mS .here rfl (mS .here rfl (mS .here rfl mN))))))
    ·exact fL _
    ·exact hG114
    refine ⟨?_,?_,?_⟩
    ·(try dsimp only)<;>(exact hD4)
    ·(try dsimp only)<;>(exact hn4)
    (try dsimp only)<;>(exact hz4)
   refine kp rfl .no tZ (aB rfl aF) (Gp.add aI Gp.nil) (fun _ hle hq=>sM bx 60 (sX 1#64 0#64) _ (PB.rdn (m:=7) ⟨bU _ _ _⟩ rfl) (by show (1#64:BitVec 64).toNat<10; decide)) ?_
   refine .nil (Wp.one 3 (by kernel_rfl) ?_)
   refine lO rfl gU rfl aI rfl ?_
   refine .nil (Wp.b1 9 (by kernel_rfl) ?_)
   refine ka rfl (.inl rfl) aDG (aB rfl (aB rfl (aB rfl aF))) (fF .here aI aI) (aAy fun s9 G2 hle hv hs9=>by subst hv; exact aHI bd bm room 5 3 F G2 hD (by decide) hr9 (aO 1 1) s9 LO hs9 aCM (xB (by rw [hnm]; exact aCN)) (by omega) (by omega)) ?_
   rintro _ G114 μ114 hG114 ⟨f,hfn,hfl,hfs,hfb,rfl,rfl⟩
   have hF2:F.length=2:=by have:=congrArg List.length hnm; simpa using this
   have hD4:DkR (F++[f]) 4:=hD.app hfb (by omega) (by rw [hfn]; exact xB (by rw [hnm]; exact aCN)) (by rw [hfn]; exact aCM.2) (by omega)
   have hn4:(F++[f]).map Fi.nm=[aO 3 0,aO 4 0,aO 1 1]:=by rw [List.map_append,hnm,List.map_cons,List.map_nil,hfn]; rfl
   have hz4:cA (F++[f])≤4000:=by rw [yD]; simp only [cA]; omega
   have hs:=hs.mono hG114
   refine .nil (Wp.b1 10 (by kernel_rfl) ?_)
   refine kV rfl mW (aB rfl aF) (nL _) ?_
   refine .nil (Wp.last (by kernel_rfl) ?_)
   refine aU (F++[f]) ?_ ?_ ?_ ?_ ?_
   ·exact (aA rfl (aA rfl (aA rfl (aA rfl (aA rfl eZ)))))
   ·exact (mS .here rfl (mS .here rfl (mS .here rfl (mS .here rfl (mS .here rfl (mS .here rfl mN))))))
   ·exact fL _
   ·exact hG114
   refine ⟨?_,?_,?_⟩
   ·(try dsimp only)<;>(exact hD4)
   ·(try dsimp only)<;>(exact hn4)
   (try dsimp only)<;>(exact hz4)
  intro F3 Glj24 hGlj24 hFj24
  obtain ⟨hD3,hn3,hz3⟩:=hFj24
  have hs:=hs.mono hGlj24
  refine .g (nC rfl rfl (fZ rfl lJ rfl (fA rfl aA9 rfl (lO rfl aZ rfl bE rfl ?_))))
  refine .p (lE rfl uC rfl (ci rfl .no rfl gV (.u rfl) ?_))
  refine bw (k:=.u64) rfl .no rfl (.u rfl) (.u rfl) rfl (nC rfl rfl (fZ rfl lJ rfl (fA rfl aA9 rfl (s1 rfl (.u rfl) (.u rfl) rfl kB bE (by first|decide | (show _<85; decide)) (aLE _ 1#64) (.g (nC rfl rfl (fZ rfl lJ rfl (fA rfl aWX rfl (s1 rfl (.u rfl) (.u rfl) rfl wN .here (by first|decide | (show _<85; decide)) (aLF _ false) (.g (cD rfl (fun c7=>?_) (fun c7=>?_))))))))))))
  ·have c7k:=c7
   cases c7
  have c7k:=c7
  try simp only [aD,aH,aE] at c7
  refine .skip (.code (.seq (.seq ?_)))
  refine aCp mK (by decide) ?_; intro bbRL capRL evRL lcRL; subst evRL
  refine .g (nC rfl rfl (fZ rfl nY rfl (lO rfl aZ rfl .here rfl ?_)))
  refine bw (k:=.u64) (b:=1#64) rfl .no rfl (.u rfl) (.u rfl) rfl (.p (kc rfl aW6 (aB rfl (aB rfl aF)) (aNu h l _ hs hl hok) ?_))
  rintro _ G151 μ151 hG151 ⟨s151,rfl,rfl,hs151⟩
  have l151:(cB 0 l).length=l.length:=aAD
  refine lE rfl aBS rfl (mV rfl rfl (.nc (.block ?_)))
  refine aX (α:=Nat×Nat×Nat×Nat×Nat) (fun gh=>[(153,true,.int .i64 (gh.1:Int))]) (fun gh=>[.blk bn (cl [.slice (some ⟨gh.2.2.1,0,none⟩) gh.2.1 gh.2.2.2.1,.int .i64 ((gh.2.2.2.2:Nat):Int)] 225),rS 16 Nd.cells (.slice (some ⟨gh.2.2.1,0,none⟩) gh.2.1 gh.2.2.2.1) 249 (cK (cB 0 l) gh.1)])
   (fun gh Gl=>(gh.1≤l.length)∧(gh.2.1=(cK (cB 0 l) gh.1).length)∧(gh.2.2.2.2≤100000*gh.1)) (fun gh=>l.length-gh.1) (0,1,bbRL,capRL,0) [(0,true,_),(1,true,_),(6,true,_),(151,true,_),(152,true,_)] [_,_,_,_]
   (aM rfl (aA rfl (aA rfl (aA rfl (aA rfl (aA rfl eZ))))))
   (mS dK rfl (mS dK rfl (mS .here rfl (mS .here rfl (mS .here rfl (mS .here rfl mN)))))) ?_ ?_
  ·refine ⟨?_,?_,?_⟩
   ·(try dsimp only)<;>(first|omega|rfl|assumption|(simp; done))
   ·(try dsimp only)<;>(first|omega|rfl|assumption|(simp; done))
   (try dsimp only)<;>(first|omega|rfl|assumption|(simp; done))
  intro gh N1 Gl1 hN1 hGl1 hF1
  obtain ⟨k,m,bb,cap,sz⟩:=gh; dsimp only at hF1 hN1 ⊢
  obtain ⟨hk,hm,hsz⟩:=hF1
  have hs151:=hs151.mono hGl1
  refine .g (cP rfl rfl rfl rfl (.g (cD rfl (fun c8=>?_) (fun c8=>?_))))
  ·have c8k:=c8
   try simp only [aD,aH,aE] at c8
   refine .skip (.code (.seq (.block (.seq (dT rfl rfl (ih rfl .no aBR (.u rfl) (.u rfl) (by omega) (by omega) (fun _=>hs151.nn (k:=k) (by first|omega|(simp only [Bool.and_eq_true,decide_eq_true_eq] at hc; omega)|(simp only [List.length_cons,List.length_nil]; omega))) ?_))))))
   obtain ⟨e,ee⟩:=dY (k:=k) (xs:=(cB 0 l)) (by rw [aAD]; omega)
   obtain ⟨op,eop⟩:=dY (k:=k) (xs:=l) (by omega)
   have hop:=hok op (List.mem_of_getElem? eop)
   have heq:=aHg (j:=0) eop
   rw [ee,Nat.zero_add] at heq
   have heq:=Option.some.inj heq
   subst heq
   obtain ⟨hW,hWn⟩:=aVH (k:=k) (q:=BitVec.ofNat 64 (k+1)) (by omega) eop hord (by omega)
   refine lA rfl .no mM (.u rfl) (fun _=>(hs151.at (by omega) ee).rd) (fun _=>Ent.len _) ?_
   refine al rfl aDW ?_; intro b17
   refine sw rfl (.u rfl) (.u rfl) rfl uE .here rfl (Ent.one _) ?_
   refine .nil (.code (dX ⟨true,false⟩ aY (by kernel_rfl) ?_))
   refine Wp.one 0 (by kernel_rfl) ?_
   refine mV rfl rfl (.nil (Wp.one 1 (by kernel_rfl) ?_))
   refine nC rfl rfl (.nil (Wp.one 2 (by kernel_rfl) ?_))
   refine fZ rfl aFh rfl (.nil (Wp.one 5 (by kernel_rfl) ?_))
   refine fZ rfl tV rfl (.nil (Wp.one 6 (by kernel_rfl) ?_))
   refine lO rfl aZ rfl .here rfl ?_
   refine .nil (Wp.b3 3 4 7 (by kernel_rfl) ?_ ?_ ?_)
   ·refine lO rfl tR rfl bE rfl ?_
    refine .nil (Wp.b2 4 7 (by kernel_rfl) ?_ ?_)
    ·refine lA rfl .no mM (.u rfl) (fun _=>RdN.own .here) (fun _=>Ent.len _) ?_
     refine .nil (Wp.b1 7 (by kernel_rfl) ?_)
     refine kV rfl aBM (aB rfl aF) (aAM k _ (by omega)) ?_
     refine .nil (Wp.b1 8 (by kernel_rfl) ?_)
     refine ka rfl (.inl rfl) aBL (aB rfl (aB rfl (aB rfl aF))) (dI aC aC) (aAN bn bb m cap sz (k+1) (cK (cB 0 l) k) (fS (BitVec.ofNat 64 (k+1)) op) (jI k) _ hm hW hWn (xV hop (by simp; omega)) (by omega) (by omega) (by rw [uT]; omega) (by omega)) ?_
     rintro _ G165 μ165 hG165 ⟨bb2,cap2,rfl,rfl⟩
     refine .nil (Wp.one 9 (by kernel_rfl) ?_)
     refine cP rfl rfl rfl rfl (.nil (Wp.b1 10 (by kernel_rfl) ?_))
     refine kV rfl tX (aB rfl aF) (sT _ rfl _) ?_
     refine .nil (Wp.last (by kernel_rfl) ?_)
     refine .g (aW (((k+1):Nat):Int) rfl rfl rfl rfl ?_)
     refine .g (aU (k+1,(cK (cB 0 l) k++[(fS (BitVec.ofNat 64 (k+1)) op,fun _=>0)]).length,bb2,cap2,sz+(op.user.size+op.value.size+8)) (aM rfl (aA rfl (aA rfl (aA rfl (aA rfl (aA rfl eZ)))))) (mS .here rfl (mS .here (by rw [oJ ee]) (mS aC rfl (mS aC rfl (mS aC rfl (mS aC rfl mN)))))) ?_ ?_ ?_)
     ·first|omega|(dsimp only; omega)
     ·exact (hGl1).trans hG165
     refine ⟨?_,?_,?_⟩
     ·(try dsimp only)<;>(first|omega|rfl|assumption|(simp; done))
     ·(try dsimp only)<;>(rw [oJ ee,pJ])
     (try dsimp only)<;>(have:=hop.user; have:=hop.value; omega)
    refine kV rfl aBM (aB rfl aF) (aAM k _ (by omega)) ?_
    refine .nil (Wp.one 4 (by kernel_rfl) ?_)
    refine lA rfl .no mM (.u rfl) (fun _=>RdN.own .here) (fun _=>Ent.len _) ?_
    refine .nil (Wp.b1 8 (by kernel_rfl) ?_)
    refine ka rfl (.inl rfl) aBL (aB rfl (aB rfl (aB rfl aF))) (dI aC aC) (aAN bn bb m cap sz (k+1) (cK (cB 0 l) k) (fS (BitVec.ofNat 64 (k+1)) op) (jI k) _ hm hW hWn (xV hop (by simp; omega)) (by omega) (by omega) (by rw [uT]; omega) (by omega)) ?_
    rintro _ G165 μ165 hG165 ⟨bb2,cap2,rfl,rfl⟩
    refine .nil (Wp.one 9 (by kernel_rfl) ?_)
    refine cP rfl rfl rfl rfl (.nil (Wp.b1 10 (by kernel_rfl) ?_))
    refine kV rfl tX (aB rfl aF) (sT _ rfl _) ?_
    refine .nil (Wp.last (by kernel_rfl) ?_)
    refine .g (aW (((k+1):Nat):Int) rfl rfl rfl rfl ?_)
    refine .g (aU (k+1,(cK (cB 0 l) k++[(fS (BitVec.ofNat 64 (k+1)) op,fun _=>0)]).length,bb2,cap2,sz+(op.user.size+op.value.size+8)) (aM rfl (aA rfl (aA rfl (aA rfl (aA rfl (aA rfl eZ)))))) (mS .here rfl (mS .here (by rw [oJ ee]) (mS aC rfl (mS aC rfl (mS aC rfl (mS aC rfl mN)))))) ?_ ?_ ?_)
    ·first|omega|(dsimp only; omega)
    ·exact (hGl1).trans hG165
    refine ⟨?_,?_,?_⟩
    ·(try dsimp only)<;>(first|omega|rfl|assumption|(simp; done))
    ·(try dsimp only)<;>(rw [oJ ee,pJ])
    (try dsimp only)<;>(have:=hop.user; have:=hop.value; omega)
   ·refine lA rfl .no mM (.u rfl) (fun _=>RdN.own .here) (fun _=>Ent.len _) ?_
    refine .nil (Wp.b2 3 7 (by kernel_rfl) ?_ ?_)
    ·refine lO rfl tR rfl bE rfl ?_
     refine .nil (Wp.b1 7 (by kernel_rfl) ?_)
     refine kV rfl aBM (aB rfl aF) (aAM k _ (by omega)) ?_
     refine .nil (Wp.b1 8 (by kernel_rfl) ?_)
     refine ka rfl (.inl rfl) aBL (aB rfl (aB rfl (aB rfl aF))) (dI aC aC) (aAN bn bb m cap sz (k+1) (cK (cB 0 l) k) (fS (BitVec.ofNat 64 (k+1)) op) (jI k) _ hm hW hWn (xV hop (by simp; omega)) (by omega) (by omega) (by rw [uT]; omega) (by omega)) ?_
     rintro _ G165 μ165 hG165 ⟨bb2,cap2,rfl,rfl⟩
     refine .nil (Wp.one 9 (by kernel_rfl) ?_)
     refine cP rfl rfl rfl rfl (.nil (Wp.b1 10 (by kernel_rfl) ?_))
     refine kV rfl tX (aB rfl aF) (sT _ rfl _) ?_
     refine .nil (Wp.last (by kernel_rfl) ?_)
     refine .g (aW (((k+1):Nat):Int) rfl rfl rfl rfl ?_)
     refine .g (aU (k+1,(cK (cB 0 l) k++[(fS (BitVec.ofNat 64 (k+1)) op,fun _=>0)]).length,bb2,cap2,sz+(op.user.size+op.value.size+8)) (aM rfl (aA rfl (aA rfl (aA rfl (aA rfl (aA rfl eZ)))))) (mS .here rfl (mS .here (by rw [oJ ee]) (mS aC rfl (mS aC rfl (mS aC rfl (mS aC rfl mN)))))) ?_ ?_ ?_)
     ·first|omega|(dsimp only; omega)
     ·exact (hGl1).trans hG165
     refine ⟨?_,?_,?_⟩
     ·(try dsimp only)<;>(first|omega|rfl|assumption|(simp; done))
     ·(try dsimp only)<;>(rw [oJ ee,pJ])
     (try dsimp only)<;>(have:=hop.user; have:=hop.value; omega)
    refine kV rfl aBM (aB rfl aF) (aAM k _ (by omega)) ?_
    refine .nil (Wp.one 3 (by kernel_rfl) ?_)
    refine lO rfl tR rfl bE rfl ?_
    refine .nil (Wp.b1 8 (by kernel_rfl) ?_)
    refine ka rfl (.inl rfl) aBL (aB rfl (aB rfl (aB rfl aF))) (dI aC aC) (aAN bn bb m cap sz (k+1) (cK (cB 0 l) k) (fS (BitVec.ofNat 64 (k+1)) op) (jI k) _ hm hW hWn (xV hop (by simp; omega)) (by omega) (by omega) (by rw [uT]; omega) (by omega)) ?_
    rintro _ G165 μ165 hG165 ⟨bb2,cap2,rfl,rfl⟩
    refine .nil (Wp.one 9 (by kernel_rfl) ?_)
    refine cP rfl rfl rfl rfl (.nil (Wp.b1 10 (by kernel_rfl) ?_))
    refine kV rfl tX (aB rfl aF) (sT _ rfl _) ?_
    refine .nil (Wp.last (by kernel_rfl) ?_)
    refine .g (aW (((k+1):Nat):Int) rfl rfl rfl rfl ?_)
    refine .g (aU (k+1,(cK (cB 0 l) k++[(fS (BitVec.ofNat 64 (k+1)) op,fun _=>0)]).length,bb2,cap2,sz+(op.user.size+op.value.size+8)) (aM rfl (aA rfl (aA rfl (aA rfl (aA rfl (aA rfl eZ)))))) (mS .here rfl (mS .here (by rw [oJ ee]) (mS aC rfl (mS aC rfl (mS aC rfl (mS aC rfl mN)))))) ?_ ?_ ?_)
    ·first|omega|(dsimp only; omega)
    ·exact (hGl1).trans hG165
    refine ⟨?_,?_,?_⟩
    ·(try dsimp only)<;>(first|omega|rfl|assumption|(simp; done))
    ·(try dsimp only)<;>(rw [oJ ee,pJ])
    (try dsimp only)<;>(have:=hop.user; have:=hop.value; omega)
   refine kV rfl aBM (aB rfl aF) (aAM k _ (by omega)) ?_
   refine .nil (Wp.one 3 (by kernel_rfl) ?_)
   refine lO rfl tR rfl bE rfl ?_
   refine .nil (Wp.one 4 (by kernel_rfl) ?_)
   refine lA rfl .no mM (.u rfl) (fun _=>RdN.own .here) (fun _=>Ent.len _) ?_
   refine .nil (Wp.b1 8 (by kernel_rfl) ?_)
   refine ka rfl (.inl rfl) aBL (aB rfl (aB rfl (aB rfl aF))) (dI aC aC) (aAN bn bb m cap sz (k+1) (cK (cB 0 l) k) (fS (BitVec.ofNat 64 (k+1)) op) (jI k) _ hm hW hWn (xV hop (by simp; omega)) (by omega) (by omega) (by rw [uT]; omega) (by omega)) ?_
   rintro _ G165 μ165 hG165 ⟨bb2,cap2,rfl,rfl⟩
   refine .nil (Wp.one 9 (by kernel_rfl) ?_)
   refine cP rfl rfl rfl rfl (.nil (Wp.b1 10 (by kernel_rfl) ?_))
   refine kV rfl tX (aB rfl aF) (sT _ rfl _) ?_
   refine .nil (Wp.last (by kernel_rfl) ?_)
   refine .g (aW (((k+1):Nat):Int) rfl rfl rfl rfl ?_)
   refine .g (aU (k+1,(cK (cB 0 l) k++[(fS (BitVec.ofNat 64 (k+1)) op,fun _=>0)]).length,bb2,cap2,sz+(op.user.size+op.value.size+8)) (aM rfl (aA rfl (aA rfl (aA rfl (aA rfl (aA rfl eZ)))))) (mS .here rfl (mS .here (by rw [oJ ee]) (mS aC rfl (mS aC rfl (mS aC rfl (mS aC rfl mN)))))) ?_ ?_ ?_)
   ·first|omega|(dsimp only; omega)
   ·exact (hGl1).trans hG165
   refine ⟨?_,?_,?_⟩
   ·(try dsimp only)<;>(first|omega|rfl|assumption|(simp; done))
   ·(try dsimp only)<;>(rw [oJ ee,pJ])
   (try dsimp only)<;>(have:=hop.user; have:=hop.value; omega)
  have c8k:=c8
  try simp only [aD,aH,aE] at c8
  refine .g (nC rfl rfl (fZ rfl nY rfl (lO rfl aZ rfl aI rfl ?_)))
  refine .p (lE rfl oV rfl (ci rfl .no rfl gV (.u rfl) ?_))
  refine bw (k:=.u64) rfl .no rfl (.u rfl) (.u rfl) rfl (nC rfl rfl (fZ rfl nY rfl (s1 rfl (.u rfl) (.u rfl) rfl kB aI (by first|decide | (show _<85; decide)) (aFV _ (0#64+BitVec.ofInt 64 ((l.length:Nat):Int))) (.g (s1 rfl (.u rfl) (.u rfl) rfl jX mK (by first|decide | (show _<85; decide)) (rfl) ?_)))))
  refine .nil (.code (.ret (aDi [⟨89,[.pointer (some ⟨bx,0,none⟩),.pointer (some ⟨b6,0,none⟩)],[]⟩] rfl (by intro q hq; rw [List.mem_singleton.1 hq]; exact ⟨aDK,fun w hw=>aEN w _ _⟩) Tryz.results168 (.cell rfl (fun w hw=>pP jA (Rd.own .here rfl w hw)) .nil) (mS aC rfl (mS bE rfl (mS bE rfl (mS aC rfl (mS aC rfl mN))))) ?_)))
  obtain rfl:k=l.length:=by omega
  exact ⟨bb,m,cap,sz,F3,hm,hD3,hn3,hz3,rfl,rfl⟩
 have c5k:=c5
 cases c5
end Go.Proofs.YtoifkgkandfeiaaGreatDoor
namespace Go.Proofs.YtoifkgkandfeiaaGreatDoor
open Go.Tan Go.RowKit Go.Maps Go.Sort Go.Shelf
theorem aOP (l p:List UInt8) (G:PM):Ct Tryz.prog 115 ([.string (eK l),.string (eK p)]:List Value).toArray G [] (fun _ μ' u=>μ'=[]∧u=.tuple #[.string (eK (Lib.trimPrefix l p)),.bool (Lib.hasPrefix l p)]):=aOc fun w=>Tryz.strings_CutPrefix (eK l) (eK p) w
end Go.Proofs.YtoifkgkandfeiaaGreatDoor
namespace Go.Proofs.YtoifkgkandfeiaaGreatDoor
open Go.Tan Go.RowKit Go.Maps Go.Sort Go.Shelf
theorem aYJ:aL Tryz.prog 115=true:=by kernel_rfl
theorem aWR:jO Tryz.prog 21 23=some .u64:=by kernel_rfl
theorem aW9:aL Tryz.prog 259=true:=by kernel_rfl
theorem aR1 (G:PM):Ct Tryz.prog 259 ([.string (eK z6)]:List Value).toArray G [] (fun _ μ' u=>μ'=[]∧u=.tuple #[uv .u64 0#64,.bool true]):=by
 refine Ct.of Tryz.func259 rfl Tryz.ntmps259 rfl fun w0 hs0=>?_
 refine .seq (bB rfl rfl (aS rfl rfl (aS rfl rfl (.nc (.seq (bB rfl rfl (aS rfl rfl (aS rfl rfl (.nc (.seq (.seq (bB rfl rfl (mV rfl rfl ?_)))))))))))))
 refine rgT rfl lU (.u rfl) ?_; intro b10
 refine .nil (.code (.block ?_))
 refine aX (α:=Nat) (fun k=>[(4,true,uv .u64 0#64),(5,true,.int .i64 ((k:Nat):Int))]) (fun k=>[.blk b10 (.stringIter (eK z6) k)])
  (fun k Gl=>(k≤6)) (fun k=>6-k) 0 [(10,true,_)] []
  (aA rfl (aM rfl (aA rfl eZ)))
  (mS .here rfl mN) ?_ ?_
 ·(try dsimp only)<;>(first|omega|rfl|assumption|(simp; done))
 intro k N0 Gl0 hN0 hGl0 hF0
 try dsimp only at hF0 hN0 ⊢
 have hk:=hF0
 refine .g (aSD rfl (.u rfl) .here ?_)
 refine ex (vs:=(pH (eK z6) k).toList) rfl .no (.u rfl) (aQD _ _) (.g (cD rfl (fun c1=>?_) (fun c1=>?_)))
 ·have c1k:=c1
  have c1:k<(eK z6).size:=of_decide_eq_true c1
  refine .skip (.code (.block (.seq (bB rfl rfl ?_))))
  have hkl:k<6:=c1
  obtain ⟨er,hit⟩:=aK9 hkl
  refine ex (vs:=(pH (eK z6) k).toList) rfl .no (.u rfl) (aVd hkl) (.g (cP rfl rfl rfl rfl (mV rfl rfl (mv rfl (.f rfl rfl) (.u rfl) (cp rfl (.f rfl rfl) (.s rfl) (.u rfl) rfl (bZ rfl .no (.u rfl) (.s rfl) (.g (cD rfl (fun c2=>?_) (fun c2=>?_)))))))))
  ·have c2k:=c2
   cases c2
  have c2k:=c2
  try simp only [aD,aH,aE] at c2
  refine .g (iF (0:Int) rfl .no (.u rfl) (.u rfl) rfl (fun _=>rfl) (fun _=>rfl) ?_)
  refine cw rfl .no aWR (.u rfl) (fun _=>rfl) ?_
  refine .g (bw (k:=.u64) (a:=18446744073709551615#64) (b:=0#64) rfl .no rfl (.u rfl) (.u rfl) rfl (dw (k:=.u64) (b:=10#64) rfl .no rfl (.u rfl) (.u rfl) (fun _=>show (10#64:BitVec 64)≠0#64 by decide) ?_))
  refine cP rfl rfl rfl rfl (mV rfl rfl (mv rfl (.f rfl rfl) (.u rfl) (cp rfl (.f rfl rfl) (.s rfl) (.u rfl) rfl (mv rfl (.f rfl rfl) (.s rfl) (mv rfl (.tc rfl rfl) (.u rfl) (cp rfl (.tc rfl rfl) (.s rfl) (.u rfl) rfl (bL rfl (.f rfl rfl) (.s rfl) (.s rfl) (bZ rfl .no (.u rfl) (.s rfl) (.g (cD rfl (fun c3=>?_) (fun c3=>?_)))))))))))
  ·have c3k:=c3
   exfalso
   have h6:decide ((k:Int)≥6)=false:=decide_eq_false (by omega)
   rw [h6] at c3
   exact absurd c3 (by decide)
  have c3k:=c3
  try simp only [aD,aH,aE] at c3
  refine .g (bw (k:=.u64) (b:=10#64) rfl .no rfl (.u rfl) (.u rfl) rfl (.p (bw (k:=.u64) (b:=0#64) rfl .no rfl (.u rfl) (.u rfl) rfl (.g (aW (((k+1):Nat):Int) rfl rfl rfl rfl ?_)))))
  refine .g (aU (k+1) ?_ ?_ ?_ ?_ ?_)
  ·exact (aA rfl (aM rfl (aA rfl eZ)))
  ·exact (mS .here (by rw [hit]) mN)
  ·first|omega|(dsimp only; omega)
  ·exact hGl0
  (try dsimp only)<;>(first|omega|rfl|assumption|(simp; done))
 have c1k:=c1
 have c1:¬ k<6:=of_decide_eq_false c1
 refine .g (cP rfl rfl rfl rfl (aS rfl rfl (aS rfl rfl (.nc (.ret (aK Tryz.results259 (.tmp rfl (.tmp rfl .nil)) ?_))))))
 obtain rfl:k=6:=by omega
 exact ⟨rfl,rfl⟩
theorem aRC (G:PM):Ct Tryz.prog 115 ([.string (eK uS),.string (eK aCA)]:List Value).toArray G [] (fun _ μ' u=>μ'=[]∧u=.tuple #[.string (eK z6),.bool true]):=by
 have h:=aOP uS aCA G
 rw [aUu,aPy] at h
 exact h
theorem aIr (G:PM):Ct Tryz.prog 190 ([.string (aO 3 0)]:List Value).toArray G [] (fun _ μ' u=>μ'=[]∧u=.tuple #[V 3#8,uv .u64 0#64,.bool true]):=by
 refine Ct.of Tryz.func190 rfl Tryz.ntmps190 rfl fun w0 hs0=>?_
 rw [aRd]
 refine .g (cs rfl .no (.u rfl) (.u rfl) rfl (.g (cD rfl (fun c1=>?_) (fun c1=>?_))))
 ·have c1k:=c1
  rw [aRB] at c1; cases c1
 have c1k:=c1
 try simp only [aD,aH,aE] at c1
 refine .g (cs rfl .no (.u rfl) (.u rfl) rfl (.g (cD rfl (fun c2=>?_) (fun c2=>?_))))
 ·have c2k:=c2
  rw [aRD] at c2; cases c2
 have c2k:=c2
 try simp only [aD,aH,aE] at c2
 refine .g (kV rfl aYJ (aB rfl (aB rfl aF)) (aRC _) ?_)
 refine .p (eX rfl rfl rfl (eX rfl rfl rfl (.g (nt rfl .no (.u rfl) (.g (cD rfl (fun c3=>?_) (fun c3=>?_)))))))
 ·have c3k:=c3
  cases c3
 have c3k:=c3
 try simp only [aD,aH,aE] at c3
 refine .g (nt rfl .no (.u rfl) (.g (cD rfl (fun c4=>?_) (fun c4=>?_))))
 ·have c4k:=c4
  cases c4
 have c4k:=c4
 try simp only [aD,aH,aE] at c4
 refine .g (kV rfl aW9 (aB rfl aF) (aR1 _) ?_)
 refine .p (eX rfl rfl rfl (eX rfl rfl rfl (.g (nt rfl .no (.u rfl) (mV rfl rfl (mv rfl (.f rfl rfl) (.u rfl) (nt rfl (.f rfl rfl) (.s rfl) (bZ rfl .no (.u rfl) (.s rfl) (.g (cD rfl (fun c5=>?_) (fun c5=>?_)))))))))))
 ·have c5k:=c5
  cases c5
 have c5k:=c5
 try simp only [aD,aH,aE] at c5
 refine .skip (.code (.seq (lF rfl rfl (mV rfl rfl (mV rfl rfl (aS rfl rfl (aS rfl rfl (aS rfl rfl (.nc (.ret (aK Tryz.results190 (.tmp rfl (.tmp rfl (.tmp rfl .nil))) ?_)))))))))))
 exact ⟨rfl,rfl⟩
theorem aRW (G:PM):Ct Tryz.prog 190 ([.string (aO 4 0)]:List Value).toArray G [] (fun _ μ' u=>μ'=[]∧u=.tuple #[V 4#8,uv .u64 0#64,.bool true]):=by
 refine Ct.of Tryz.func190 rfl Tryz.ntmps190 rfl fun w0 hs0=>?_
 refine .g (cs rfl .no (.u rfl) (.u rfl) rfl (.g (cD rfl (fun c1=>?_) (fun c1=>?_))))
 ·have c1k:=c1
  try simp only [aD,aH,aE] at c1
  refine .seq (dP rfl rfl (aS rfl rfl (aS rfl rfl (aS rfl rfl (.nc (.ret (aK Tryz.results190 (.tmp rfl (.tmp rfl (.tmp rfl .nil))) ?_)))))))
  exact ⟨rfl,rfl⟩
 have c1k:=c1
 exact absurd c1k (by rw [show ((aO 4 0).toList == (⟨#[99,117,114,114,101,110,116]⟩ : ByteArray).toList)=true from by rw [show aO 4 0=⟨#[99,117,114,114,101,110,116]⟩ from rfl]; simp]; decide)
end Go.Proofs.YtoifkgkandfeiaaGreatDoor
namespace Go.Proofs.YtoifkgkandfeiaaGreatDoor
open Go.Tan Go.RowKit Go.Maps Go.Sort Go.Shelf
theorem aGB:aL Tryz.prog 54=true:=by kernel_rfl
theorem aDz (xs:List Y) (h:Sh) (G:PM) (hs:SlR G 1 aN h xs) (hl:xs.length≤140737488355328):Ct Tryz.prog 54 ([h.val xs.length]:List Value).toArray G [] (PR 5 (fun L=>L=xs)):=by
 refine Ct.of Tryz.func54 rfl Tryz.ntmps54 rfl fun w0 hs0=>?_
 refine .g (rI rfl .no bV (.u rfl) (.u rfl) ?_)
 refine .g (cD rfl (fun c1=>?_) (fun c1=>?_))
 ·have c1k:=c1
  try simp only [aD,aE] at c1
  refine .seq (aQ rfl rfl (aS rfl rfl (.nc (.ret (vM 5 ?_)))))
  refine bD Tryz.results54 (.tmp rfl .nil) (mS .here rfl mN) ?_
  exact ⟨[],(aRa hs c1).symm,rfl⟩
 have c1k:=c1
 try simp only [aD,aE] at c1
 refine .skip (.code (.seq (dT rfl rfl ?_)))
 refine oF rfl aP ?_; intro b5
 refine .p (qM rfl aP bY (.u rfl) (.u rfl) .here hs.sc (by (try simp only [cI,cR]); omega) ?_)
 intro v7 L7 _ ov7 eL7
 have lL7:L7.length=xs.length:=by rw [eL7]
 refine aS rfl rfl (.nc (.ret (bD Tryz.results54 (.tmp rfl .nil) (mS .here rfl mN) ?_)))
 exact ⟨L7,eL7,rfl⟩
theorem aHK (bd bm room done clk:Nat) (F:List Fi) (G:PM) (hbd:PB G bd (cl (bH bm room done) 118)) (hbm:PB G bm (mO (F.map Fi.fe) clk)) (nm:ByteArray) (f:Fi) (xs:List Y) (hn:eH nm) (hf:bK nm F=some f) (hfl:f.n=xs.length) (hsx:SlR G 1 aN f.h xs) (hx9:xs.length≤1000000):Ct Tryz.prog 159 ([.pointer (some ⟨bd,0,none⟩),.string nm]:List Value).toArray G [] (fun _ μ' u=>∃ v:Value,v.oneCell'=true∧μ'=[rB v 5 xs]∧u=.tuple #[v,.int .i64 0]):=by
 refine Ct.of Tryz.func159 rfl Tryz.ntmps159 rfl fun w0 hs0=>?_
 refine .g (pe rfl .no iY (.u rfl) (.u rfl) ?_)
 refine .g (cD rfl (fun c1=>?_) (fun c1=>?_))
 ·have c1k:=c1
  cases c1
 have c1k:=c1
 try simp only [aD,aE] at c1
 refine .seq (lF rfl rfl (mV rfl rfl ?_))
 refine Go.Tan.b1 rfl jZ sG (.u rfl) rfl rfl (by decide) ?_; intro b13
 refine kp rfl .no wG (aB rfl aF) (Gp.add .here Gp.nil) (fun _ hle hq=>aB8 ⟨some ⟨b13,0,none⟩,1⟩ [nm] _ (fD (xs:=[nm]) (bU _ _ _) (fun _ _=>rfl) (Nat.le_refl 1)) (by show 1≤_; omega) (fun s hs=>by rw [List.mem_singleton.1 hs]; exact hn)) ?_
 refine nt rfl .no (.u rfl) (.g (cD rfl (fun c2=>?_) (fun c2=>?_)))
 ·have c2k:=c2
  exact absurd c2 (by decide)
 have c2k:=c2
 try simp only [aD,aE] at c2
 refine .g (nC rfl rfl (fA rfl vV rfl (lN rfl kX rfl ((hbd.rd (rfl)).rd) ?_)))
 refine .g (cD rfl (fun c3=>?_) (fun c3=>?_))
 ·have c3k:=c3
  cases c3
 have c3k:=c3
 try simp only [aD,aE] at c3
 refine .g (nC rfl rfl (fA rfl fX rfl (lN rfl fW rfl ((hbd.rd (rfl)).rd) ?_)))
 refine .p (aCD rfl .no gX sF (.u rfl) (.u rfl) (aAR hbm.h) (aAP hf) (aQv hf) ?_)
 refine .p (eX rfl rfl rfl (eX rfl rfl rfl ?_))
 refine al rfl qK ?_; intro b6
 refine sw rfl (.u rfl) (.u rfl) rfl qI .here rfl (Fi.one _) ?_
 refine .g (nt rfl .no (.u rfl) (.g (cD rfl (fun c4=>?_) (fun c4=>?_))))
 ·have c4k:=c4
  cases c4
 have c4k:=c4
 try simp only [aD,aE] at c4
 refine .g (fZ rfl nW rfl (lO rfl dB rfl .here rfl ?_))
 refine kc rfl aGB (aB rfl aF) (iM (by rw [hfl]; exact aDz xs f.h _ hsx (by omega))) ?_
 rintro v34 G34 μ34 hG34 ⟨L34,ov34,eL34,rfl⟩
 refine aS rfl rfl (aS rfl rfl (.nc (.ret (bD Tryz.results159 (.tmp rfl (.tmp rfl .nil)) (mS .here rfl mN) ?_))))
 subst eL34; exact ⟨v34,ov34,rfl,rfl⟩
theorem zX (bx:Nat) (d:Db) (bm room done clk:Nat) (F:List Fi) (G:PM) (hbx:PB G bx (cl d.cells 165)) (hbd:PB G d.dk (cl (bH bm room done) 118)) (hbm:PB G bm (mO (F.map Fi.fe) clk)) (hD:DkR F clk) (nm:ByteArray) (f:Fi) (xs:List Y) (hn:eH nm) (hf:bK nm F=some f) (hfl:f.n=xs.length) (hsx:SlR G 1 aN f.h xs) (hx9:xs.length≤1000000):Ct Tryz.prog 101 ([pt bx,.string nm]:List Value).toArray G [] (fun _ μ' u=>∃ v:Value,v.oneCell'=true∧μ'=[rB v 5 xs]∧u=v):=by
 refine Ct.of Tryz.func101 rfl Tryz.ntmps101 rfl fun w0 hs0=>?_
 refine .g (nC rfl rfl (fA rfl nX rfl (lN rfl gU rfl ((hbx.rd (rfl)).rd) ?_)))
 refine .p (kc rfl aFy (aB rfl (aB rfl aF)) (aHK d.dk bm room done clk F _ hbd hbm nm f xs hn hf hfl hsx hx9) ?_)
 rintro _ G13 μ13 hG13 ⟨v7,ov7,rfl,rfl⟩
 refine .p (eX rfl rfl rfl (eX rfl rfl rfl (.g (cP rfl rfl rfl rfl (.g (cD rfl (fun c1=>?_) (fun c1=>?_)))))))
 ·have c1k:=c1
  cases c1
 have c1k:=c1
 try simp only [aD,aE] at c1
 refine .g (kV rfl mW (aB rfl aF) (nL _) ?_)
 refine .nil (.code (.seq (bB rfl rfl (mV rfl rfl (aS rfl rfl (.nc (.ret (bD Tryz.results101 (.tmp rfl .nil) (mS .here rfl mN) ?_))))))))
 exact ⟨v7,ov7,rfl,rfl⟩
end Go.Proofs.YtoifkgkandfeiaaGreatDoor
namespace Go.Proofs.YtoifkgkandfeiaaGreatDoor
open Go.Tan Go.RowKit Go.Maps Go.Sort Go.Shelf
theorem aXf:aL Tryz.prog 360=true:=by kernel_rfl
theorem aXY:aL Tryz.prog 331=true:=by kernel_rfl
theorem aL5:aL Tryz.prog 190=true:=by kernel_rfl
theorem aXC:aL Tryz.prog 262=true:=by kernel_rfl
theorem aQA (f:Value) (G:PM):Ct Tryz.prog 360 ([.slice none 0 0,.int .i64 0,.int .i64 0,f]:List Value).toArray G [] (fun _ μ' u=>μ'=[]∧u=.tuple #[]):=by
 refine Ct.of Tryz.func360 rfl Tryz.ntmps360 rfl fun w0 hs0=>?_
 refine .g (aW (((0+1):Nat):Int) rfl rfl rfl rfl ?_)
 refine aS rfl rfl (.nc (.block ?_))
 refine aX (α:=Nat) (fun k=>[(8,true,.int .i64 ((k:Nat):Int))]) (fun _=>[])
  (fun k Gl=>(k=1)) (fun k=>0) 1 [(0,true,_),(1,true,_),(2,true,_),(3,true,_)] []
  (aM rfl (aA rfl (aA rfl (aA rfl (aA rfl eZ)))))
  mN ?_ ?_
 ·(try dsimp only)<;>(first|omega|rfl|assumption|(simp; done))
 intro k N0 Gl0 hN0 hGl0 hF0
 try dsimp only at hF0 hN0 ⊢
 have hk:=hF0
 refine .g (cP rfl rfl rfl rfl (.g (cD rfl (fun c1=>?_) (fun c1=>?_))))
 ·have c1k:=c1
  subst hk; exact absurd c1 (by decide)
 have c1k:=c1
 try simp only [aD,aE] at c1
 refine .g (aK Tryz.results360 .nil ?_)
 exact ⟨rfl,rfl⟩
theorem aSh (v f:Value) (G:PM):Ct Tryz.prog 331 ([.slice none 0 0,.int .i64 0,.int .i64 0,v,f]:List Value).toArray G [] (fun _ μ' u=>μ'=[]∧u=.tuple #[]):=by
 refine Ct.of Tryz.func331 rfl Tryz.ntmps331 rfl fun w0 hs0=>?_
 refine .seq (aQ rfl rfl (aS rfl rfl (.nc (.seq (aQ rfl rfl (aS rfl rfl (.nc (.block ?_))))))))
 refine aX (α:=Nat) (fun k=>[(1,true,.int .i64 0),(2,true,.int .i64 0),(3,true,v),(10,true,.bool true),(11,true,.bool true)]) (fun _=>[])
  (fun k Gl=>True) (fun k=>0) 0 [(0,true,_),(4,true,_)] []
  (aM rfl (aM rfl (aA rfl (aA rfl (aA rfl (aA rfl (aA rfl eZ)))))))
  mN ?_ ?_
 ·trivial
 intro k N0 Gl0 hN0 hGl0 hF0
 try dsimp only at hF0 hN0 ⊢
 refine .g (aR rfl rfl rfl rfl ?_)
 refine .g (cP rfl rfl rfl rfl (.g (cD rfl (fun c1=>?_) (fun c1=>?_))))
 ·have c1k:=c1
  try simp only [aD,aE] at c1
  refine .g (kV rfl aXf (aB rfl (aB rfl (aB rfl (aB rfl aF)))) (aQA _ _) ?_)
  refine .nil (.code (.ret (aK Tryz.results331 .nil ?_)))
  exact ⟨rfl,rfl⟩
 have c1k:=c1
 exact absurd c1 (by decide)
theorem aT7 (f:Value) (G:PM):Ct Tryz.prog 262 ([.slice none 0 0,f]:List Value).toArray G [] (fun _ μ' u=>μ'=[]∧u=.tuple #[]):=by
 refine Ct.of Tryz.func262 rfl Tryz.ntmps262 rfl fun w0 hs0=>?_
 refine .g (lE rfl aBb rfl (.g (cw rfl .no aFd (.u rfl) (fun _=>mL (by omega) (by omega)) ?_)))
 refine kc rfl aMB (aB rfl aF) (aG4 _) ?_
 rintro v11 G11 μ11 hG11 rfl
 refine .p (kv rfl .no aXY (aB rfl (aB rfl (aB rfl (aB rfl (aB rfl aF))))) (fun _=>aSh _ _ _) ?_)
 refine .g (aK Tryz.results262 .nil ?_)
 exact ⟨rfl,rfl⟩
theorem aRV (y:ByteArray) (G:PM) (hy:y=aO 3 0∨y=aO 4 0):Ct Tryz.prog 190 ([.string y]:List Value).toArray G [] (fun _ μ' u=>∃ k:Y,(k=3#8∨k=4#8)∧μ'=[]∧u=.tuple #[V k,uv .u64 0#64,.bool true]):=by
 rcases hy with rfl|rfl
 ·exact (aIr G).mono fun G' μ' u h=>⟨3#8,.inl rfl,h⟩
 ·exact (aRW G).mono fun G' μ' u h=>⟨4#8,.inr rfl,h⟩
theorem aQy (bx:Nat) (d:Db) (bm room done clk:Nat) (F:List Fi) (G:PM) (hbx:PB G bx (cl d.cells 165)) (hbd:PB G d.dk (cl (bH bm room done) 118)) (hbm:PB G bm (mO (F.map Fi.fe) clk)) (hD:DkR F clk) (hF2:∀ f∈F,f.nm=aO 3 0∨f.nm=aO 4 0):Ct Tryz.prog 192 ([pt bx]:List Value).toArray G [] (fun _ μ' u=>μ'=[]∧u=.slice none 0 0):=by
 refine Ct.of Tryz.func192 rfl Tryz.ntmps192 rfl fun w0 hs0=>?_
 refine .g (nC rfl rfl (fA rfl nX rfl (lN rfl gU rfl ((hbx.rd (rfl)).rd) ?_)))
 refine kc rfl aDJ (aB rfl aF) (aIu d.dk bm room done clk F _ hbd hbm hD) ?_
 rintro _ G13 μ13 hG13 ⟨h13,L13,hm13,hl13,hs13,rfl,rfl⟩
 have hbx:=hbx.mono hG13
 refine lE rfl wM rfl (mV rfl rfl (.nc (.block ?_)))
 refine aX (α:=Nat) (fun k=>[(3,true,.slice none 0 0),(15,true,.int .i64 (k:Int))]) (fun _=>[])
  (fun k Gl=>(k≤L13.length)) (fun k=>L13.length-k) 0 [(0,true,_),(13,true,_),(14,true,_)] []
  (aA rfl (aM rfl (aA rfl (aA rfl (aA rfl eZ)))))
  mN ?_ ?_
 ·(try dsimp only)<;>(first|omega|rfl|assumption|(simp; done))
 intro k N0 Gl0 hN0 hGl0 hF0
 try dsimp only at hF0 hN0 ⊢
 have hk:=hF0
 have hbx:=hbx.mono hGl0
 have hs13:=hs13.mono hGl0
 refine .g (cP rfl rfl rfl rfl (.g (cD rfl (fun c1=>?_) (fun c1=>?_))))
 ·have c1k:=c1
  try simp only [aD,aE] at c1
  refine .skip (.code (.seq (.block (.seq (dP rfl rfl (ih rfl .no jZ (.u rfl) (.u rfl) (by omega) (by omega) (fun _=>hs13.nn (k:=k) (by first|omega|(simp only [Bool.and_eq_true,decide_eq_true_eq] at hc; omega)|(simp only [List.length_cons,List.length_nil]; omega))) ?_))))))
  obtain ⟨y,ey⟩:=dY (k:=k) (xs:=L13) (by omega)
  have hy:y=aO 3 0∨y=aO 4 0:=by
   obtain ⟨f,hf,e⟩:=List.mem_map.1 (hm13 y (List.mem_of_getElem? ey))
   exact e▸hF2 f hf
  refine lN rfl cW rfl ((hs13.at (by omega) ey 0 _ rfl).rd) ?_
  refine .g (kc rfl aL5 (aB rfl aF) (aRV y _ hy) ?_)
  rintro _ G21 μ21 hG21 ⟨k9,hk9,rfl,rfl⟩
  have hbx:=hbx.mono hG21
  refine .p (eX rfl rfl rfl (eX rfl rfl rfl (eX rfl rfl rfl (aS rfl rfl (aS rfl rfl (aS rfl rfl (.nc (.seq (Wk.rg [0,1,2,3,4,5,6,7,8,9,10,11,12,13] rfl rfl (mV rfl rfl (mV rfl rfl (mv rfl (.t rfl rfl) (.u rfl) (cp rfl (.t rfl rfl) (.s rfl) (.u rfl) rfl (bL rfl .no (.u rfl) (.s rfl) (mV rfl rfl (mv rfl (.t rfl rfl) (.u rfl) (mv rfl (.t rfl rfl) (.u rfl) (nc rfl (.t rfl rfl) (.s rfl) (fa rfl (.t rfl rfl) sA (.s rfl) (fa rfl (.t rfl rfl) aC2 (.s rfl) (ld rfl (.t rfl rfl) aZ (.s rfl) (fun hc=>(hbx.rd (rfl)).rd) ?_)))))))))))))))))))))
  refine cp rfl (.t rfl rfl) (.s rfl) (.s rfl) rfl (bL rfl .no (.u rfl) (.s rfl) (.g (cD rfl (fun c2=>?_) (fun c2=>?_))))
  ·have c2k:=c2
   rcases hk9 with rfl|rfl<;>cases c2
  have c2k:=c2
  try simp only [aD,aE] at c2
  refine .g (aW (((k+1):Nat):Int) rfl rfl rfl rfl ?_)
  refine .g (aU (k+1) ?_ ?_ ?_ ?_ ?_)
  ·exact (aA rfl (aM rfl (aA rfl (aA rfl (aA rfl eZ)))))
  ·exact mN
  ·first|omega|(dsimp only; omega)
  ·exact (hGl0).trans hG21
  (try dsimp only)<;>(first|omega|rfl|assumption|(simp; done))
 have c1k:=c1
 try simp only [aD,aE] at c1
 refine .g (kV rfl aXC (aB rfl (aB rfl aF)) (aT7 _ _) ?_)
 refine .nil (.code (.seq (bB rfl rfl (mV rfl rfl (aS rfl rfl (.nc (.ret (aK Tryz.results192 (.tmp rfl .nil) ?_))))))))
 exact ⟨rfl,rfl⟩
end Go.Proofs.YtoifkgkandfeiaaGreatDoor
namespace Go.Proofs.YtoifkgkandfeiaaGreatDoor
open Go.Tan Go.RowKit Go.Maps Go.Sort Go.Shelf
theorem aBH:aL Tryz.prog 101=true:=by kernel_rfl
theorem wE:aL Tryz.prog 191=true:=by kernel_rfl
theorem aWb:aT Tryz.prog 300 0=some 0:=by kernel_rfl
theorem aFo:aT Tryz.prog 231 2=some 2:=by kernel_rfl
theorem aX0:cE Tryz.prog 97=some 1:=by kernel_rfl
theorem aWt:aL Tryz.prog 192=true:=by kernel_rfl
theorem uU (root:Nat→Y) (xs:List Y) (h:Hd) (rc:List Y) (used:Nat) (torn:Bool) (a b:Int) (mark:BitVec 64) (v:Value) (G:PM) (ha:u64 a) (hb:u64 b) (hab:a≤b) (hm0:0#64<mark) (hrd:fV root xs=(⟨h,[rc],used,torn⟩,0)) (hm:xs.length≤100000) (hrc:rc=gE mark (cM a b) (cU a b)) (hk3:h.kind=3#8) (hl:rc.length≤1000) (hK:RdNP G 6 0 (wa 64 kW)):Ct Tryz.prog 191 ([.agg (ba 32 root).toArray,v]:List Value).toArray G [rB v 5 xs] (fun _ μ' u=>∃ ν,μ'=rB v 5 xs :: ν∧ν=[]∧u=.tuple #[.agg (nK h (cM a b) dE mark 1 (used:Int) torn).toArray,.int .i64 0]) :=
 yJ (fun hx G2 hle hv hs=>by subst hv; exact aQ5 root xs hx h rc used torn G2 hs hrd hm a b mark ha hb hab hm0 hrc hk3 hl (hK.mono hle))
set_option maxHeartbeats 4000000 in
theorem aTu (bx bm room dk tr held now:Nat) (root:Nat→Y) (o:Opts) (ep o1:BitVec 64) (f1 f2:Fi) (L:List Y) (G:PM) (hD:DkR [f1,f2] 3) (hm1:f1.nm=aO 3 0) (hm2:f2.nm=aO 4 0) (hLL:(L,(0:Int))=mC root ⟨3#8,0#8,0#64,1#64,0#64⟩ 0#64 (gE 1#64 (cM 1 2) (cU 1 2))) (lL:L.length≤600) (hl1:f1.n=(bA ⟨3#8,0#8,0#64,1#64,0#64⟩++L).length) (hs1:SlR G 1 aN f1.h (bA ⟨3#8,0#8,0#64,1#64,0#64⟩++L)) (hl2:f2.n=(yb (aO 3 0)).length) (hs2:SlR G 1 aN f2.h (yb (aO 3 0))) (hK:RdNP G 6 0 (wa 64 kW)):Ct Tryz.prog 127 ([pt bx]:List Value).toArray G [.blk tr (cl [uv .u64 1#64,uv .u64 o1] 87),.blk bx (cl (Db.cells (eY dk tr root o ep held now)) 165),.blk dk (cl (bH bm room 5) 118),.blk bm (mO (([f1,f2]).map Fi.fe) 3)] (fun G2 μ' u=>∃ (bl:Nat) (v:Value) (hk9:Sh),v.oneCell'=true∧SlR G2 1 kF hk9 [aO 4 0,aO 3 0]∧μ'=[.blk tr (cl [uv .u64 1#64,uv .u64 o1] 87),.blk bx (cl (Db.cells (vQ dk tr root o ep held now 1 2 2#64)) 165),.blk dk (cl (bH bm room 5) 118),.blk bm (mO (([f1,f2]).map Fi.fe) 3),.blk bl (cl [v,.int .i64 ((0:Nat):Int)] 225),rS 16 Nd.cells v 249 [Nd.z]]∧u=.agg #[hk9.val 2,pt bl,uv .u64 1#64]):=by
 refine Ct.of Tryz.func127 rfl Tryz.ntmps127 rfl fun w0 hs0=>?_
 have hR1:=aTG
 have hrd:=aTD (root:=root) (h:=⟨3#8,0#8,0#64,1#64,0#64⟩) (by decide) hR1 hLL
 have hlM:(bA ⟨3#8,0#8,0#64,1#64,0#64⟩++L).length≤700:=by rw [List.length_append,fE]; omega
 have hF2:=aRY hm1 hm2
 refine .seq (aQ rfl rfl ?_)
 refine al rfl zJ ?_; intro b2
 refine .g (kc rfl zG aF (xH _) ?_)
 rintro _ G20 μ20 hG20 ⟨bl,vl,ol,rfl,rfl⟩
 have hK:=hK.mono hG20
 have hs1:=hs1.mono hG20
 have hs2:=hs2.mono hG20
 refine bR ([.slice none 0 0,.pointer (some ⟨bl,0,none⟩),.int .u64 0]) rfl .no aLW (.cons (.u rfl) rfl .nil) rfl (rfl) ?_
 refine al rfl zJ ?_; intro b3
 refine sw rfl (.u rfl) (.u rfl) rfl zI .here rfl (aEj rfl rfl rfl) ?_
 refine .g (kV rfl aBI (aB rfl (aB rfl aF)) (aAZ 4#8 0#64 _ (by decide)) ?_)
 refine .g (nC rfl rfl (fZ rfl nX rfl (lO rfl gU rfl mK rfl ?_)))
 refine .p (ka rfl (.inr rfl) aFy (aB rfl (aB rfl aF)) (dI iL iL) (cX fun G1 hle1 h1=>cX fun G2 hle2 h2=>aHK dk bm room 5 3 [f1,f2] G2 (h1.mono hle2) h2 (aO 4 0) f2 (yb (aO 3 0)) aEe (aPV hm1 hm2) hl2 (hs2.mono (hle1.trans hle2)) (by rw [iC,sz3]; decide)) ?_)
 rintro _ G29 μ29 hG29 ⟨ν1,rfl,ν2,rfl,v29,ov29,rfl,rfl⟩
 have hK:=hK.mono hG29
 have hs1:=hs1.mono hG29
 refine .p (eX rfl rfl rfl (eX rfl rfl rfl (.g (cP rfl rfl rfl rfl (.g (cD rfl (fun c1=>?_) (fun c1=>?_)))))))
 ·have c1k:=c1
  cases c1
 have c1k:=c1
 try simp only [aD,aH,aE] at c1
 refine .g (kV rfl mW (aB rfl aF) (nL _) ?_)
 refine .nil (.code (.seq ?_))
 refine kR aI (bF iL rfl (bF iL rfl (bF .here rfl (bF .here rfl (eT))))) ?_; intro GfR29 hR29 hleR29 evR29 hsR29; subst evR29
 have hK:=hK.mono hleR29
 have hs1:=hs1.mono hleR29
 refine .g (sB rfl .no aBa (.u rfl) (fun _=>hsR29.sc) ?_)
 refine kV rfl aL5 (aB rfl aF) ((by rw [pB]; exact aIr _)) ?_
 refine .p (eX rfl rfl rfl (eX rfl rfl rfl (eX rfl rfl rfl (aS rfl rfl (aS rfl rfl (aS rfl rfl (.nc (.seq (iV rfl rfl (mV rfl rfl (mV rfl rfl (mv rfl (.t rfl rfl) (.u rfl) (cp rfl (.t rfl rfl) (.s rfl) (.u rfl) rfl (bL rfl .no (.u rfl) (.s rfl) (kV rfl tX (aB rfl aF) (sT _ (by rfl) _) ?_)))))))))))))))
 refine .nil (.code (.seq ?_))
 refine Wk.jn (α:=Nat) (fun b10=>[(10,true,.pointer (some ⟨b10,0,none⟩)),(11,true,.int .i64 0)]) (fun b10=>[.blk b10 (cl (nK ⟨3#8,0#8,0#64,1#64,0#64⟩ (cM 1 2) dE 1#64 1 ((bA ⟨3#8,0#8,0#64,1#64,0#64⟩++L).length:Int) false) 300)]) (fun b10 Gl=>True) [(0,true,_),(2,true,_),(3,true,_),(4,true,_),(5,true,_),(8,true,_)] [_,_,_,_,_,_,_,_]
  (aA rfl (aA rfl (aA rfl (aA rfl (aA rfl (aA rfl eZ)))))) (mS .here rfl (mS .here rfl (mS .here rfl (mS .here rfl (mS .here rfl (mS .here rfl (mS .here rfl (mS .here rfl mN)))))))) ?_ ?_
 ·refine dX ⟨true,false⟩ aY (by kernel_rfl) ?_
  refine Wp.one 0 (by kernel_rfl) ?_
  refine mV rfl rfl (.nil (Wp.one 1 (by kernel_rfl) ?_))
  refine nC rfl rfl (.nil (Wp.one 2 (by kernel_rfl) ?_))
  refine fZ rfl aC8 rfl (.nil (Wp.one 4 (by kernel_rfl) ?_))
  refine mV rfl rfl (.nil (Wp.one 5 (by kernel_rfl) ?_))
  refine mV rfl rfl (.nil (Wp.one 6 (by kernel_rfl) ?_))
  refine sB rfl .no aBa (.u rfl) (fun _=>hsR29.sc) ?_
  refine .nil (Wp.b3 3 7 12 (by kernel_rfl) ?_ ?_ ?_)
  ·refine lA rfl .no dJ (.u rfl) (fun _=>RdN.part (n:=32) (cs':=ba 32 root) oR (rfl)) (fun _=>(bP _ _)) ?_
   refine .nil (Wp.b2 7 12 (by kernel_rfl) ?_ ?_)
   ·refine ka rfl (.inl rfl) aBH (aB rfl (aB rfl aF)) (fF oR .here .here) (cX fun G0 hle0 h0=>cX fun G1 hle1 h1=>cX fun G2 hle2 h2=>(by rw [pB]; exact zX bx (eY dk tr root o ep held now) bm room 5 3 [f1,f2] G2 ((h0.mono hle1).mono hle2) (h1.mono hle2) h2 hD (aO 3 0) f1 (bA ⟨3#8,0#8,0#64,1#64,0#64⟩++L) uY (aAG hm1) hl1 (hs1.mono ((hle0.trans hle1).trans hle2)) (by omega))) ?_
    rintro _ G65 μ65 hG65 ⟨ν0,rfl,ν1,rfl,ν2,rfl,v65,ov65,rfl,rfl⟩
    have hK:=hK.mono hG65
    have hs1:=hs1.mono hG65
    have hsR29:=hsR29.mono hG65
    refine .nil (Wp.b2 8 12 (by kernel_rfl) ?_ ?_)
    ·refine ka rfl (.inl rfl) wE (aB rfl (aB rfl aF)) (cO bE) (uU root (bA ⟨3#8,0#8,0#64,1#64,0#64⟩++L) ⟨3#8,0#8,0#64,1#64,0#64⟩ (gE 1#64 (cM 1 2) (cU 1 2)) (bA ⟨3#8,0#8,0#64,1#64,0#64⟩++L).length false 1 2 1#64 _ _ rJ rK (by decide) (by decide) hrd (by omega) rfl rfl (by omega) hK) ?_
     rintro _ G66 μ66 hG66 ⟨ν9,rfl,rfl,rfl⟩
     have hK:=hK.mono hG66
     have hs1:=hs1.mono hG66
     have hsR29:=hsR29.mono hG66
     refine .nil (Wp.one 9 (by kernel_rfl) ?_)
     refine mV rfl rfl (.nil (Wp.one 10 (by kernel_rfl) ?_))
     refine eX rfl rfl rfl (.nil (Wp.one 11 (by kernel_rfl) ?_))
     refine eX rfl rfl rfl (.nil (Wp.b1 12 (by kernel_rfl) ?_))
     refine al rfl uH ?_; intro b10
     refine .nil (Wp.b1 13 (by kernel_rfl) ?_)
     refine sw rfl (.u rfl) (.u rfl) rfl sE .here rfl (qV) ?_
     refine .nil (Wp.one 14 (by kernel_rfl) ?_)
     refine aS rfl rfl (.nil (Wp.last (by kernel_rfl) ?_))
     refine aU b10 ?_ ?_ ?_ ?_ ?_
     ·exact (aA rfl (aM rfl (aA rfl (aA rfl (aA rfl (aA rfl (aA rfl (aA rfl eZ))))))))
     ·exact (mS .here rfl (mS aI rfl (mS aI rfl (mS aI rfl (mS aI rfl (mS aI rfl (mS aI rfl (mS aI rfl (mS aC rfl mN)))))))))
     ·exact fL _
     ·exact (hG65).trans hG66
     trivial
    refine al rfl uH ?_; intro b10
    refine .nil (Wp.b1 8 (by kernel_rfl) ?_)
    refine ka rfl (.inl rfl) wE (aB rfl (aB rfl aF)) (cO dK) (uU root (bA ⟨3#8,0#8,0#64,1#64,0#64⟩++L) ⟨3#8,0#8,0#64,1#64,0#64⟩ (gE 1#64 (cM 1 2) (cU 1 2)) (bA ⟨3#8,0#8,0#64,1#64,0#64⟩++L).length false 1 2 1#64 _ _ rJ rK (by decide) (by decide) hrd (by omega) rfl rfl (by omega) hK) ?_
    rintro _ G66 μ66 hG66 ⟨ν9,rfl,rfl,rfl⟩
    have hK:=hK.mono hG66
    have hs1:=hs1.mono hG66
    have hsR29:=hsR29.mono hG66
    refine .nil (Wp.one 9 (by kernel_rfl) ?_)
    refine mV rfl rfl (.nil (Wp.one 10 (by kernel_rfl) ?_))
    refine eX rfl rfl rfl (.nil (Wp.one 11 (by kernel_rfl) ?_))
    refine eX rfl rfl rfl (.nil (Wp.b1 13 (by kernel_rfl) ?_))
    refine sw rfl (.u rfl) (.u rfl) rfl sE aC rfl (qV) ?_
    refine .nil (Wp.one 14 (by kernel_rfl) ?_)
    refine aS rfl rfl (.nil (Wp.last (by kernel_rfl) ?_))
    refine aU b10 ?_ ?_ ?_ ?_ ?_
    ·exact (aA rfl (aM rfl (aA rfl (aA rfl (aA rfl (aA rfl (aA rfl (aA rfl eZ))))))))
    ·exact (mS .here rfl (mS aI rfl (mS aI rfl (mS aI rfl (mS aI rfl (mS aI rfl (mS aI rfl (mS aI rfl (mS aC rfl mN)))))))))
    ·exact fL _
    ·exact (hG65).trans hG66
    trivial
   refine al rfl uH ?_; intro b10
   refine .nil (Wp.b1 7 (by kernel_rfl) ?_)
   refine ka rfl (.inl rfl) aBH (aB rfl (aB rfl aF)) (fF oS aC aC) (cX fun G0 hle0 h0=>cX fun G1 hle1 h1=>cX fun G2 hle2 h2=>(by rw [pB]; exact zX bx (eY dk tr root o ep held now) bm room 5 3 [f1,f2] G2 ((h0.mono hle1).mono hle2) (h1.mono hle2) h2 hD (aO 3 0) f1 (bA ⟨3#8,0#8,0#64,1#64,0#64⟩++L) uY (aAG hm1) hl1 (hs1.mono ((hle0.trans hle1).trans hle2)) (by omega))) ?_
   rintro _ G65 μ65 hG65 ⟨ν0,rfl,ν1,rfl,ν2,rfl,v65,ov65,rfl,rfl⟩
   have hK:=hK.mono hG65
   have hs1:=hs1.mono hG65
   have hsR29:=hsR29.mono hG65
   refine .nil (Wp.b1 8 (by kernel_rfl) ?_)
   refine ka rfl (.inl rfl) wE (aB rfl (aB rfl aF)) (cO bE) (uU root (bA ⟨3#8,0#8,0#64,1#64,0#64⟩++L) ⟨3#8,0#8,0#64,1#64,0#64⟩ (gE 1#64 (cM 1 2) (cU 1 2)) (bA ⟨3#8,0#8,0#64,1#64,0#64⟩++L).length false 1 2 1#64 _ _ rJ rK (by decide) (by decide) hrd (by omega) rfl rfl (by omega) hK) ?_
   rintro _ G66 μ66 hG66 ⟨ν9,rfl,rfl,rfl⟩
   have hK:=hK.mono hG66
   have hs1:=hs1.mono hG66
   have hsR29:=hsR29.mono hG66
   refine .nil (Wp.one 9 (by kernel_rfl) ?_)
   refine mV rfl rfl (.nil (Wp.one 10 (by kernel_rfl) ?_))
   refine eX rfl rfl rfl (.nil (Wp.one 11 (by kernel_rfl) ?_))
   refine eX rfl rfl rfl (.nil (Wp.b1 13 (by kernel_rfl) ?_))
   refine sw rfl (.u rfl) (.u rfl) rfl sE dK rfl (qV) ?_
   refine .nil (Wp.one 14 (by kernel_rfl) ?_)
   refine aS rfl rfl (.nil (Wp.last (by kernel_rfl) ?_))
   refine aU b10 ?_ ?_ ?_ ?_ ?_
   ·exact (aA rfl (aM rfl (aA rfl (aA rfl (aA rfl (aA rfl (aA rfl (aA rfl eZ))))))))
   ·exact (mS .here rfl (mS aI rfl (mS aI rfl (mS aI rfl (mS aI rfl (mS aI rfl (mS aI rfl (mS aI rfl (mS aC rfl mN)))))))))
   ·exact fL _
   ·exact (hG65).trans hG66
   trivial
  ·refine ka rfl (.inl rfl) aBH (aB rfl (aB rfl aF)) (fF oR .here .here) (cX fun G0 hle0 h0=>cX fun G1 hle1 h1=>cX fun G2 hle2 h2=>(by rw [pB]; exact zX bx (eY dk tr root o ep held now) bm room 5 3 [f1,f2] G2 ((h0.mono hle1).mono hle2) (h1.mono hle2) h2 hD (aO 3 0) f1 (bA ⟨3#8,0#8,0#64,1#64,0#64⟩++L) uY (aAG hm1) hl1 (hs1.mono ((hle0.trans hle1).trans hle2)) (by omega))) ?_
   rintro _ G65 μ65 hG65 ⟨ν0,rfl,ν1,rfl,ν2,rfl,v65,ov65,rfl,rfl⟩
   have hK:=hK.mono hG65
   have hs1:=hs1.mono hG65
   have hsR29:=hsR29.mono hG65
   refine .nil (Wp.one 3 (by kernel_rfl) ?_)
   refine lA rfl .no dJ (.u rfl) (fun _=>RdN.part (n:=32) (cs':=ba 32 root) .here (rfl)) (fun _=>(bP _ _)) ?_
   refine .nil (Wp.b2 8 12 (by kernel_rfl) ?_ ?_)
   ·refine ka rfl (.inl rfl) wE (aB rfl (aB rfl aF)) (cO bE) (uU root (bA ⟨3#8,0#8,0#64,1#64,0#64⟩++L) ⟨3#8,0#8,0#64,1#64,0#64⟩ (gE 1#64 (cM 1 2) (cU 1 2)) (bA ⟨3#8,0#8,0#64,1#64,0#64⟩++L).length false 1 2 1#64 _ _ rJ rK (by decide) (by decide) hrd (by omega) rfl rfl (by omega) hK) ?_
    rintro _ G66 μ66 hG66 ⟨ν9,rfl,rfl,rfl⟩
    have hK:=hK.mono hG66
    have hs1:=hs1.mono hG66
    have hsR29:=hsR29.mono hG66
    refine .nil (Wp.one 9 (by kernel_rfl) ?_)
    refine mV rfl rfl (.nil (Wp.one 10 (by kernel_rfl) ?_))
    refine eX rfl rfl rfl (.nil (Wp.one 11 (by kernel_rfl) ?_))
    refine eX rfl rfl rfl (.nil (Wp.b1 12 (by kernel_rfl) ?_))
    refine al rfl uH ?_; intro b10
    refine .nil (Wp.b1 13 (by kernel_rfl) ?_)
    refine sw rfl (.u rfl) (.u rfl) rfl sE .here rfl (qV) ?_
    refine .nil (Wp.one 14 (by kernel_rfl) ?_)
    refine aS rfl rfl (.nil (Wp.last (by kernel_rfl) ?_))
    refine aU b10 ?_ ?_ ?_ ?_ ?_
    ·exact (aA rfl (aM rfl (aA rfl (aA rfl (aA rfl (aA rfl (aA rfl (aA rfl eZ))))))))
    ·exact (mS .here rfl (mS aI rfl (mS aI rfl (mS aI rfl (mS aI rfl (mS aI rfl (mS aI rfl (mS aI rfl (mS aC rfl mN)))))))))
    ·exact fL _
    ·exact (hG65).trans hG66
    trivial
   refine al rfl uH ?_; intro b10
   refine .nil (Wp.b1 8 (by kernel_rfl) ?_)
   refine ka rfl (.inl rfl) wE (aB rfl (aB rfl aF)) (cO dK) (uU root (bA ⟨3#8,0#8,0#64,1#64,0#64⟩++L) ⟨3#8,0#8,0#64,1#64,0#64⟩ (gE 1#64 (cM 1 2) (cU 1 2)) (bA ⟨3#8,0#8,0#64,1#64,0#64⟩++L).length false 1 2 1#64 _ _ rJ rK (by decide) (by decide) hrd (by omega) rfl rfl (by omega) hK) ?_
   rintro _ G66 μ66 hG66 ⟨ν9,rfl,rfl,rfl⟩
   have hK:=hK.mono hG66
   have hs1:=hs1.mono hG66
   have hsR29:=hsR29.mono hG66
   refine .nil (Wp.one 9 (by kernel_rfl) ?_)
   refine mV rfl rfl (.nil (Wp.one 10 (by kernel_rfl) ?_))
   refine eX rfl rfl rfl (.nil (Wp.one 11 (by kernel_rfl) ?_))
   refine eX rfl rfl rfl (.nil (Wp.b1 13 (by kernel_rfl) ?_))
   refine sw rfl (.u rfl) (.u rfl) rfl sE aC rfl (qV) ?_
   refine .nil (Wp.one 14 (by kernel_rfl) ?_)
   refine aS rfl rfl (.nil (Wp.last (by kernel_rfl) ?_))
   refine aU b10 ?_ ?_ ?_ ?_ ?_
   ·exact (aA rfl (aM rfl (aA rfl (aA rfl (aA rfl (aA rfl (aA rfl (aA rfl eZ))))))))
   ·exact (mS .here rfl (mS aI rfl (mS aI rfl (mS aI rfl (mS aI rfl (mS aI rfl (mS aI rfl (mS aI rfl (mS aC rfl mN)))))))))
   ·exact fL _
   ·exact (hG65).trans hG66
   trivial
  refine al rfl uH ?_; intro b10
  refine .nil (Wp.b2 3 7 (by kernel_rfl) ?_ ?_)
  ·refine lA rfl .no dJ (.u rfl) (fun _=>RdN.part (n:=32) (cs':=ba 32 root) oS (rfl)) (fun _=>(bP _ _)) ?_
   refine .nil (Wp.b1 7 (by kernel_rfl) ?_)
   refine ka rfl (.inl rfl) aBH (aB rfl (aB rfl aF)) (fF oS aC aC) (cX fun G0 hle0 h0=>cX fun G1 hle1 h1=>cX fun G2 hle2 h2=>(by rw [pB]; exact zX bx (eY dk tr root o ep held now) bm room 5 3 [f1,f2] G2 ((h0.mono hle1).mono hle2) (h1.mono hle2) h2 hD (aO 3 0) f1 (bA ⟨3#8,0#8,0#64,1#64,0#64⟩++L) uY (aAG hm1) hl1 (hs1.mono ((hle0.trans hle1).trans hle2)) (by omega))) ?_
   rintro _ G65 μ65 hG65 ⟨ν0,rfl,ν1,rfl,ν2,rfl,v65,ov65,rfl,rfl⟩
   have hK:=hK.mono hG65
   have hs1:=hs1.mono hG65
   have hsR29:=hsR29.mono hG65
   refine .nil (Wp.b1 8 (by kernel_rfl) ?_)
   refine ka rfl (.inl rfl) wE (aB rfl (aB rfl aF)) (cO bE) (uU root (bA ⟨3#8,0#8,0#64,1#64,0#64⟩++L) ⟨3#8,0#8,0#64,1#64,0#64⟩ (gE 1#64 (cM 1 2) (cU 1 2)) (bA ⟨3#8,0#8,0#64,1#64,0#64⟩++L).length false 1 2 1#64 _ _ rJ rK (by decide) (by decide) hrd (by omega) rfl rfl (by omega) hK) ?_
   rintro _ G66 μ66 hG66 ⟨ν9,rfl,rfl,rfl⟩
   have hK:=hK.mono hG66
   have hs1:=hs1.mono hG66
   have hsR29:=hsR29.mono hG66
   refine .nil (Wp.one 9 (by kernel_rfl) ?_)
   refine mV rfl rfl (.nil (Wp.one 10 (by kernel_rfl) ?_))
   refine eX rfl rfl rfl (.nil (Wp.one 11 (by kernel_rfl) ?_))
   refine eX rfl rfl rfl (.nil (Wp.b1 13 (by kernel_rfl) ?_))
   refine sw rfl (.u rfl) (.u rfl) rfl sE dK rfl (qV) ?_
   refine .nil (Wp.one 14 (by kernel_rfl) ?_)
   refine aS rfl rfl (.nil (Wp.last (by kernel_rfl) ?_))
   refine aU b10 ?_ ?_ ?_ ?_ ?_
   ·exact (aA rfl (aM rfl (aA rfl (aA rfl (aA rfl (aA rfl (aA rfl (aA rfl eZ))))))))
   ·exact (mS .here rfl (mS aI rfl (mS aI rfl (mS aI rfl (mS aI rfl (mS aI rfl (mS aI rfl (mS aI rfl (mS aC rfl mN)))))))))
   ·exact fL _
   ·exact (hG65).trans hG66
   trivial
  refine ka rfl (.inl rfl) aBH (aB rfl (aB rfl aF)) (fF oS aC aC) (cX fun G0 hle0 h0=>cX fun G1 hle1 h1=>cX fun G2 hle2 h2=>(by rw [pB]; exact zX bx (eY dk tr root o ep held now) bm room 5 3 [f1,f2] G2 ((h0.mono hle1).mono hle2) (h1.mono hle2) h2 hD (aO 3 0) f1 (bA ⟨3#8,0#8,0#64,1#64,0#64⟩++L) uY (aAG hm1) hl1 (hs1.mono ((hle0.trans hle1).trans hle2)) (by omega))) ?_
  rintro _ G65 μ65 hG65 ⟨ν0,rfl,ν1,rfl,ν2,rfl,v65,ov65,rfl,rfl⟩
  have hK:=hK.mono hG65
  have hsR29:=hsR29.mono hG65
  refine .nil (Wp.one 3 (by kernel_rfl) ?_)
  refine lA rfl .no dJ (.u rfl) (fun _=>RdN.part (n:=32) (cs':=ba 32 root) .here (rfl)) (fun _=>(bP _ _)) ?_
  refine .nil (Wp.b1 8 (by kernel_rfl) ?_)
  refine ka rfl (.inl rfl) wE (aB rfl (aB rfl aF)) (cO bE) (uU root (bA ⟨3#8,0#8,0#64,1#64,0#64⟩++L) ⟨3#8,0#8,0#64,1#64,0#64⟩ (gE 1#64 (cM 1 2) (cU 1 2)) (bA ⟨3#8,0#8,0#64,1#64,0#64⟩++L).length false 1 2 1#64 _ _ rJ rK (by decide) (by decide) hrd (by omega) rfl rfl (by omega) hK) ?_
  rintro _ G66 μ66 hG66 ⟨ν9,rfl,rfl,rfl⟩
  have hsR29:=hsR29.mono hG66
  refine .nil (Wp.one 9 (by kernel_rfl) ?_)
  refine mV rfl rfl (.nil (Wp.one 10 (by kernel_rfl) ?_))
  refine eX rfl rfl rfl (.nil (Wp.one 11 (by kernel_rfl) ?_))
  refine eX rfl rfl rfl (.nil (Wp.b1 13 (by kernel_rfl) ?_))
  refine sw rfl (.u rfl) (.u rfl) rfl sE dK rfl (qV) ?_
  refine .nil (Wp.one 14 (by kernel_rfl) ?_)
  refine aS rfl rfl (.nil (Wp.last (by kernel_rfl) ?_))
  refine aU b10 ?_ ?_ ?_ ?_ ?_
  ·exact (aA rfl (aM rfl (aA rfl (aA rfl (aA rfl (aA rfl (aA rfl (aA rfl eZ))))))))
  ·exact (mS .here rfl (mS aI rfl (mS aI rfl (mS aI rfl (mS aI rfl (mS aI rfl (mS aI rfl (mS aI rfl (mS aC rfl mN)))))))))
  ·exact fL _
  ·exact (hG65).trans hG66
  trivial
 intro b10 Glj11 hGlj11 hFj11
 have hsR29:=hsR29.mono hGlj11
 refine .code (.seq ?_)
 refine dL .here (bF iL rfl (bF iL rfl (bF .here rfl (bF .here rfl (eT))))) ?_; intro Gfb10 hleb10 hbb10
 have hsR29:=hsR29.mono hleb10
 refine .g (cP rfl rfl rfl rfl (.p (fa rfl (.t rfl rfl) aFr (.u rfl) (ld rfl (.t rfl rfl) cJ (.s rfl) (fun hc=>(hbb10.rd (by rfl)).rd) ?_))))
 refine cp rfl (.t rfl rfl) (.s rfl) (.u rfl) rfl (bL rfl .no (.u rfl) (.s rfl) (.p (fa rfl (.t rfl rfl) aWb (.u rfl) (fa rfl (.t rfl rfl) yS (.s rfl) (ld rfl (.t rfl rfl) aZ (.s rfl) (fun hc=>(hbb10.rd (by rfl)).rd) ?_)))))
 refine mv rfl (.t rfl rfl) (.u rfl) (cp rfl (.t rfl rfl) (.s rfl) (.s rfl) rfl (bL rfl .no (.u rfl) (.s rfl) (kV rfl tX (aB rfl aF) (sT _ (by rfl) _) ?_)))
 refine .nil (.code (.seq (dX ⟨true,false⟩ aY (by kernel_rfl) ?_)))
 refine Wp.one 0 (by kernel_rfl) ?_
 refine mV rfl rfl (.nil (Wp.one 1 (by kernel_rfl) ?_))
 refine mV rfl rfl (.nil (Wp.one 2 (by kernel_rfl) ?_))
 refine mV rfl rfl (.nil (Wp.one 3 (by kernel_rfl) ?_))
 refine fA rfl yX rfl (.nil (Wp.one 4 (by kernel_rfl) ?_))
 refine lA rfl .no jV (.u rfl) (fun _=>(hbb10.rdn (m:=14) (cs':=(cM 1 2).cells dE) (aIf)).rd) (fun _=>(by first|exact qE|exact qL|rfl)) ?_
 refine .nil (Wp.one 5 (by kernel_rfl) ?_)
 refine fA rfl yX rfl (.nil (Wp.one 6 (by kernel_rfl) ?_))
 refine fA rfl aA7 rfl (.nil (Wp.one 8 (by kernel_rfl) ?_))
 refine fA rfl yX rfl (.nil (Wp.one 9 (by kernel_rfl) ?_))
 refine fA rfl aC3 rfl (.nil (Wp.one 11 (by kernel_rfl) ?_))
 refine fA rfl aFq rfl (.nil (Wp.one 13 (by kernel_rfl) ?_))
 refine nC rfl rfl (.nil (Wp.one 14 (by kernel_rfl) ?_))
 refine fZ rfl sA rfl (.nil (iE 7 (by kernel_rfl) ?_))
 refine lN rfl aZ rfl ((hbb10.rd (by rfl)).rd) ?_
 refine .nil ⟨⟨rfl,rfl⟩,?_⟩
 refine iE 10 (by kernel_rfl) ?_
 refine lN rfl aZ rfl ((hbb10.rd (by rfl)).rd) ?_
 refine .nil ⟨⟨rfl,rfl⟩,?_⟩
 refine iE 12 (by kernel_rfl) ?_
 refine lN rfl aZ rfl ((hbb10.rd (by rfl)).rd) ?_
 refine .nil ⟨⟨rfl,rfl⟩,?_⟩
 refine Wp.b1 15 (by kernel_rfl) ?_
 refine pR rfl (.u rfl) (.u rfl) rfl qJ oR (by show 42+14≤85; decide) (oB) (aFU _ (cM 1 2) dE) ?_
 refine .nil (Wp.one 16 (by kernel_rfl) ?_)
 refine nC rfl rfl (.nil (Wp.one 17 (by kernel_rfl) ?_))
 refine fZ rfl vX rfl (.nil (Wp.b1 18 (by kernel_rfl) ?_))
 refine s1 rfl (.u rfl) (.u rfl) rfl kB .here (by first|decide | (show _<85; decide) | (show _<3; decide)) (aFT _ 2#64) ?_
 refine .nil (Wp.one 19 (by kernel_rfl) ?_)
 refine nC rfl rfl (.nil (Wp.one 20 (by kernel_rfl) ?_))
 refine fZ rfl nY rfl (.nil (Wp.b1 21 (by kernel_rfl) ?_))
 refine s1 rfl (.u rfl) (.u rfl) rfl kB .here (by first|decide | (show _<85; decide) | (show _<3; decide)) (aFV _ 0#64) ?_
 refine .nil (Wp.one 22 (by kernel_rfl) ?_)
 refine fZ rfl aFo rfl (.nil (Wp.b1 23 (by kernel_rfl) ?_))
 refine s1 rfl (.u rfl) (.u rfl) rfl kB bE (by first|decide | (show _<85; decide) | (show _<3; decide)) (rfl) ?_
 refine .nil (Wp.last (by kernel_rfl) ?_)
 refine .g (sB rfl .no aBa (.u rfl) (fun _=>hsR29.sc) ?_)
 refine Go.Tan.bN rfl jZ sG (Evp.cons (.u rfl) (Evp.cons (.u rfl) Evp.nil)) rfl (by decide) (aSL) ?_; intro b107
 refine fZ rfl aFn rfl (s1 rfl (.u rfl) (.u rfl) rfl aX0 aC (by first|decide | (show _<85; decide) | (show _<3; decide)) (rfl) ?_)
 refine .g (fA rfl yX rfl (fA rfl pZ rfl (lA rfl .no vT (.u rfl) (fun _=>(hbb10.rdn (m:=5) (cs':=(List.range 5).map (fun _=>.slice none 0 0)) (rfl)).rd) (fun _=>rfl) ?_)))
 refine mV rfl rfl (.nc (.block ?_))
 refine aX (α:=Nat) (fun k=>[(112,true,.int .i64 (k:Int))]) (fun _=>[])
  (fun k Gl=>(k≤5)) (fun k=>5-k) 0 [(0,true,_),(2,true,_),(3,true,_),(10,true,_),(111,true,_)] [_,_,_,_,_,_,_,_,_]
  (aM rfl (aA rfl (aA rfl (aA rfl (aA rfl (aA rfl eZ))))))
  (mS .here rfl (mS .here rfl (mS .here rfl (mS .here rfl (mS .here rfl (mS .here rfl (mS .here rfl (mS .here rfl (mS .here rfl mN))))))))) ?_ ?_
 ·(try dsimp only)<;>(first|omega|rfl|assumption|(simp; done))
 intro k N0 Gl0 hN0 hGl0 hF0
 try dsimp only at hF0 hN0 ⊢
 have hk:=hF0
 refine .g (cP rfl rfl rfl rfl (.g (cD rfl (fun c2=>?_) (fun c2=>?_))))
 ·have c2k:=c2
  try simp only [aD,aH,aE] at c2
  refine .g (ix rfl .no rY gS (.u rfl) (.u rfl) (by omega) (by omega) (fun _=>aCL (by omega)) ?_)
  refine .g (lE rfl iZ rfl (mV rfl rfl (.nc (.block ?_))))
  refine aX (α:=Nat) (fun k2=>[(117,true,.int .i64 (k2:Int))]) (fun _=>[])
   (fun k2 Gl=>(k2=0)) (fun k2=>0) 0 [(0,true,_),(2,true,_),(3,true,_),(10,true,_),(111,true,_),(112,true,_),(115,true,_),(116,true,_)] [_,_,_,_,_,_,_,_,_]
   (aM rfl (aA rfl (aA rfl (aA rfl (aA rfl (aA rfl (aA rfl (aA rfl (aA rfl eZ)))))))))
   (mS .here rfl (mS .here rfl (mS .here rfl (mS .here rfl (mS .here rfl (mS .here rfl (mS .here rfl (mS .here rfl (mS .here rfl mN))))))))) ?_ ?_
  ·(try dsimp only)<;>(first|omega|rfl|assumption|(simp; done))
  intro k2 N1 Gl1 hN1 hGl1 hF1
  try dsimp only at hF1 hN1 ⊢
  have hk2:=hF1
  refine .g (cP rfl rfl rfl rfl (.g (cD rfl (fun c3=>?_) (fun c3=>?_))))
  ·have c3k:=c3
   subst hk2; cases c3
  have c3k:=c3
  try simp only [aD,aH,aE] at c3
  refine .g (aW (((k+1):Nat):Int) rfl rfl rfl rfl ?_)
  refine .g (aU (k+1) ?_ ?_ ?_ ?_ ?_)
  ·exact (aM rfl (aA rfl (aA rfl (aA rfl (aA rfl (aA rfl eZ))))))
  ·exact (mS .here rfl (mS .here rfl (mS .here rfl (mS .here rfl (mS .here rfl (mS .here rfl (mS .here rfl (mS .here rfl (mS .here rfl mN)))))))))
  ·first|omega|(dsimp only; omega)
  ·exact (hGl0).trans hGl1
  (try dsimp only)<;>(first|omega|rfl|assumption|(simp; done))
 have c2k:=c2
 try simp only [aD,aH,aE] at c2
 refine .g (ka rfl (.inr rfl) aWt (aB rfl aF) (fF aI aI aI) (aEX fun G2 hle h1 h2 h3=>aQy bx (vQ dk tr root o ep held now 1 2 2#64) bm room 5 3 [f1,f2] G2 h1 h2 h3 hD hF2) ?_)
 rintro _ G132 μ132 hG132 ⟨ν8,rfl,rfl,rfl⟩
 refine lE rfl aBb rfl (mV rfl rfl (.nc (.block ?_)))
 refine aX (α:=Nat) (fun k3=>[(134,true,.int .i64 (k3:Int))]) (fun _=>[])
  (fun k3 Gl=>(k3=0)) (fun k3=>0) 0 [(0,true,_),(2,true,_),(3,true,_),(10,true,_),(132,true,_),(133,true,_)] [_,_,_,_,_,_,_,_,_]
  (aM rfl (aA rfl (aA rfl (aA rfl (aA rfl (aA rfl (aA rfl eZ)))))))
  (mS .here rfl (mS .here rfl (mS .here rfl (mS .here rfl (mS .here rfl (mS .here rfl (mS .here rfl (mS .here rfl (mS .here rfl mN))))))))) ?_ ?_
 ·(try dsimp only)<;>(first|omega|rfl|assumption|(simp; done))
 intro k3 N2 Gl2 hN2 hGl2 hF2
 try dsimp only at hF2 hN2 ⊢
 have hk3:=hF2
 refine .g (cP rfl rfl rfl rfl (.g (cD rfl (fun c4=>?_) (fun c4=>?_))))
 ·have c4k:=c4
  subst hk3; cases c4
 have c4k:=c4
 try simp only [aD,aH,aE] at c4
 refine .g (nC rfl rfl (fZ rfl yT rfl (lO rfl pY rfl .here rfl ?_)))
 refine kp rfl .no aBJ (aB rfl aF) (Gp.add oS Gp.nil) (fun _ hle hq=>aAS tr 1#64 o1 _ ⟨bU _ _ _⟩) ?_
 refine aS rfl rfl (.nc (.block (.seq (dX ⟨true,false⟩ aY (by kernel_rfl) ?_))))
 refine Wp.one 0 (by kernel_rfl) ?_
 refine fZ rfl aFo rfl (.nil (Wp.one 1 (by kernel_rfl) ?_))
 refine lO rfl aZ rfl bE (by first|exact aV rfl|rfl) ?_
 refine .nil (Wp.one 2 (by kernel_rfl) ?_)
 refine mV rfl rfl (.nil (Wp.one 3 (by kernel_rfl) ?_))
 refine cP rfl rfl rfl rfl (.nil (Wp.one 4 (by kernel_rfl) ?_))
 refine mV rfl rfl (.nil (Wp.one 5 (by kernel_rfl) ?_))
 refine mv rfl (.f rfl rfl) (.u rfl) (.nil (Wp.one 6 (by kernel_rfl) ?_))
 refine nc rfl (.f rfl rfl) (.s rfl) (.nil (Wp.one 7 (by kernel_rfl) ?_))
 refine fz rfl (.f rfl rfl) nY (.s rfl) (.nil (Wp.one 8 (by kernel_rfl) ?_))
 refine ld rfl (.f rfl rfl) aZ (.s rfl) (fun hc=>Rd.own .here (by first|exact aV rfl|rfl)) ?_
 refine .nil (Wp.one 9 (by kernel_rfl) ?_)
 refine mv rfl (.f rfl rfl) (.u rfl) (.nil (Wp.one 10 (by kernel_rfl) ?_))
 refine nc rfl (.f rfl rfl) (.s rfl) (.nil (Wp.one 11 (by kernel_rfl) ?_))
 refine fz rfl (.f rfl rfl) sA (.s rfl) (.nil (Wp.one 12 (by kernel_rfl) ?_))
 refine fa rfl (.f rfl rfl) aC4 (.s rfl) (.nil (Wp.one 13 (by kernel_rfl) ?_))
 refine ld rfl (.f rfl rfl) aZ (.s rfl) (fun hc=>Rd.own .here (by first|exact aV rfl|rfl)) ?_
 refine .nil (Wp.one 14 (by kernel_rfl) ?_)
 refine cp rfl (.f rfl rfl) (.s rfl) (.s rfl) rfl (.nil (Wp.one 15 (by kernel_rfl) ?_))
 refine bZ rfl .no (.u rfl) (.s rfl) (.nil (Wp.one 16 (by kernel_rfl) ?_))
 refine aS rfl rfl (.nil (Wp.last (by kernel_rfl) ?_))
 refine .code (cD rfl (fun c5=>?_) (fun c5=>?_))
 ·have c5k:=c5
  cases c5
 have c5k:=c5
 try simp only [aD,aH,aE] at c5
 refine .g (fZ rfl aFo rfl (lO rfl aZ rfl bE (by first|exact aV rfl|rfl) ?_))
 refine .p (cP rfl rfl rfl rfl (.g (cD rfl (fun c6=>?_) (fun c6=>?_))))
 ·have c6k:=c6
  cases c6
 have c6k:=c6
 try simp only [aD,aH,aE] at c6
 refine .g (lB rfl aCw rfl bE ?_)
 refine sw rfl (.u rfl) (.u rfl) rfl zI oR rfl (aEj rfl rfl rfl) ?_
 refine .nil (.code (.ret ?_))
 refine aVL mK (bF oR rfl (bF aC rfl (bF aC rfl (bF aC rfl (eT))))) ?_; intro Gfb107 hleb107 hqb107; have hbb107:PB Gfb107 b107 _:=⟨hqb107⟩
 refine bD Tryz.results127 (.cell rfl (fun w hw=>bW aCw (RdN.own .here) ((by first|exact qE|exact qL|rfl)) hw) .nil) (mS oR rfl (mS aC rfl (mS aC rfl (mS aC rfl (mS aI rfl (mS aI rfl mN)))))) ?_
 rw [pB] at hqb107
 exact ⟨bl,vl,⟨some ⟨b107,0,none⟩,2⟩,ol,fD (xs:=[aO 4 0,aO 3 0]) hqb107 (fun _ _=>rfl) (Nat.le_refl 2),rfl,rfl⟩
end Go.Proofs.YtoifkgkandfeiaaGreatDoor
namespace Go.Tan
open Go.RowKit
def aBs (P:Program) (T e0 b8 b9 T8 T9:Nat) (rs:List ResultVar) (vs:List Value):List PanicEntry→aJ→PM→aG→Prop:=fun ch ρ G μ =>
 ch=[rQ T e0]∧∃ x y μ',μ.Perm (.blk b8 (cl [x] T8) :: .blk b9 (cl [y] T9) :: μ')∧Rs P ρ G (.blk b8 (cl [.pointer none] T8) :: .blk b9 (cl [.int .i64 (e0:Int)] T9) :: μ') rs vs
theorem aRQ {μ μ1 μ2:aG} {r1 r2:Res} (h1:MTake μ r1 μ1) (h2:MTake μ1 r2 μ2):μ.Perm (r1 :: r2 :: μ2):=h1.perm.trans (h2.perm.cons _)
theorem aO4 {P:Program} {T e0 b8 b9 T8 T9:Nat} {x y:Value} {rs:List ResultVar} {vs:List Value} {ch:List PanicEntry} {ρ ρ':aJ} {G:PM} {μ' μ₂ μ3 μ4:aG} (hd:ch=[rQ T e0]) (he:∀ i,cF ρ' i=cF ρ i) (hm:μ'.Perm μ₂)
  (t1:MTake μ₂ (.blk b8 (cl [x] T8)) μ3) (t2:MTake μ3 (.blk b9 (cl [y] T9)) μ4) (hR:Rs P ρ G (.blk b8 (cl [.pointer none] T8) :: .blk b9 (cl [.int .i64 (e0:Int)] T9) :: μ4) rs vs):aBs P T e0 b8 b9 T8 T9 rs vs ch ρ' G μ' :=
 ⟨hd,x,y,μ4,hm.trans (aRQ t1 t2),hR.congr he⟩
theorem aHR {X:Cx} {q1 q2:DQ} {T e0 b8 b9 T8 T9:Nat} {rs:List ResultVar} {vs:List Value} (hf1:aL X.P q1.f=true) (hf2:aL X.P q2.f=true) (hr:X.fn.results=rs.toArray) (h0:X.n.ds=[q2.d])
  (hc1:∀ w G y,Sat G [.blk b9 (cl [y] T9)] w→CallsD X.P q1.f (q1.args++q1.vc).toArray (.panicking [rQ T e0]) w (fun r u' w'=>(∃ v,r=.returned v)∧u'=.panicking [rR T e0]∧Tr G (keys [.blk b9 (cl [y] T9)]) w G [.blk b9 (cl [.int .i64 (e0:Int)] T9)] w'))
  (hc2:∀ w G x,Sat G [.blk b8 (cl [x] T8),.blk b9 (cl [.int .i64 (e0:Int)] T9)] w→CallsD X.P q2.f (q2.args++q2.vc).toArray .returning w (fun r u' w'=>(∃ v,r=.returned v)∧u'=.returning∧Tr G (keys [.blk b8 (cl [x] T8),.blk b9 (cl [.int .i64 (e0:Int)] T9)]) w G [.blk b8 (cl [.pointer none] T8),.blk b9 (cl [.int .i64 (e0:Int)] T9)] w'))
  (hp:∀ G',X.post G' [] (iB vs)) :
  ∀ ch ρ G μ a w,aBs X.P T e0 b8 b9 T8 T9 rs vs ch ρ G μ→Ag ⟨X.n.n,q1.d :: X.n.ds,aBs X.P T e0 b8 b9 T8 T9 rs vs⟩ ρ a→Tr X.G0 X.K0 X.w0 G μ w→Leaves X.P X.fn a.tmps (RR X.post X.die X.G0 X.K0 X.w0) a.defers (.panicking ch) w:=by
 rintro ch ρ G μ a w ⟨rfl,x,y,μ',hm,hR⟩ ha ht
 rw [ha.defers,h0]
 have ht1:Tr X.G0 X.K0 X.w0 G ([.blk b9 (cl [y] T9)]++(.blk b8 (cl [x] T8) :: μ')) w:=ht.perm (hm.trans (.swap ..))
 refine leaves_cons (by simp) (f:=q1.f) (args:=(q1.args++q1.vc).toArray) (by simp [invoke,xY hf1]) ((hc1 w G y ht1.sat.left).mono ?_)
 rintro r u' w' ⟨⟨v,rfl⟩,rfl,h2⟩
 have ht2:=ht1.step h2
 show Leaves X.P X.fn a.tmps _ [q2.d] (settle (.panicking [rR T e0])) _
 have hs:settle (.panicking [rR T e0])=.returning:=by simp [settle,rR]
 rw [hs]
 have ht3:Tr X.G0 X.K0 X.w0 G ([.blk b8 (cl [x] T8),.blk b9 (cl [.int .i64 (e0:Int)] T9)]++μ') w':=ht2.perm (.swap ..)
 refine leaves_cons (by simp) (f:=q2.f) (args:=(q2.args++q2.vc).toArray) (by simp [invoke,xY hf2]) ((hc2 w' G x ht3.sat.left).mono ?_)
 rintro r2 u2 w2 ⟨⟨v2,rfl⟩,rfl,h4⟩
 have ht4:=ht3.step h4
 show Leaves X.P X.fn a.tmps _ [] (settle .returning) _
 have hs2:settle .returning=.returning:=by simp [settle]
 rw [hs2]
 exact ⟨_,aEv (by rw [hr]; exact hR) ha ht4.sat,.inl ⟨_,G,[],rfl,mN.tr ht4,hp G⟩⟩
theorem aNT {X:Cx} {k:List KI} {ρ:aJ} {G:PM} {μ:aG} {id:Nat} {l:List Oper} (σ1:List Nat) (j:Nat) (q1 q2:DQ) (T e0 b8 b9 T8 T9:Nat) {rs:List ResultVar} (vs:List Value) (hf1:aL X.P q1.f=true) (hf2:aL X.P q2.f=true) (hr:X.fn.results=rs.toArray) (h0:X.n.ds=[q2.d])
  (hc1:∀ w G y,Sat G [.blk b9 (cl [y] T9)] w→CallsD X.P q1.f (q1.args++q1.vc).toArray (.panicking [rQ T e0]) w (fun r u' w'=>(∃ v,r=.returned v)∧u'=.panicking [rR T e0]∧Tr G (keys [.blk b9 (cl [y] T9)]) w G [.blk b9 (cl [.int .i64 (e0:Int)] T9)] w'))
  (hc2:∀ w G x,Sat G [.blk b8 (cl [x] T8),.blk b9 (cl [.int .i64 (e0:Int)] T9)] w→CallsD X.P q2.f (q2.args++q2.vc).toArray .returning w (fun r u' w'=>(∃ v,r=.returned v)∧u'=.returning∧Tr G (keys [.blk b8 (cl [x] T8),.blk b9 (cl [.int .i64 (e0:Int)] T9)]) w G [.blk b8 (cl [.pointer none] T8),.blk b9 (cl [.int .i64 (e0:Int)] T9)] w'))
  (hp:∀ G',X.post G' [] (iB vs)) (hσ:List.range l.length=σ1++[j]) (hds:iG X.n l=true)
  (h:Wo false ⟨false,false⟩ X.P X.n l (fun ρ G μ=>DefOp X.P X.n l j q1.d ρ∧We (X.dfs q1.d (aBs X.P T e0 b8 b9 T8 T9 rs vs) (aHR hf1 hf2 hr h0 hc1 hc2 hp)) .normal k ρ G μ) σ1 ρ G μ):Wk X (.region id l.toArray false) k ρ G μ :=
 Wk.defers σ1 j q1.d _ (aHR hf1 hf2 hr h0 hc1 hc2 hp) hσ hds h
end Go.Tan
namespace Go.Proofs.YtoifkgkandfeiaaGreatDoor
open Go.Tan Go.RowKit Go.Maps Go.Sort Go.Shelf
theorem aDZ:bJ Tryz.prog 24=some (3,1,8):=by kernel_rfl
theorem wI:(bJ Tryz.prog 24).isSome=true:=by kernel_rfl
theorem aLR:cT Tryz.prog 124 [0,1]=some ([.slice none 0 0,.int .i64 0],[(0,1),(1,1)]):=by kernel_rfl
theorem aOk (bd bm room done:Nat) (a:Int) (G:PM):Ct Tryz.prog 29 ([.pointer (some ⟨bd,0,none⟩),.int .i64 a]:List Value).toArray G [.blk bd (cl (bH bm room done) 118)] (fun _ μ' u=>μ'=[]∧u=.tuple #[]):=by
 refine Ct.of Tryz.func29 rfl Tryz.ntmps29 rfl fun w0 hs0=>?_
 refine .g (pn rfl .no iY (.u rfl) (.u rfl) ?_)
 refine mV rfl rfl (mv rfl (.t rfl rfl) (.u rfl) (nc rfl (.t rfl rfl) (.s rfl) (fz rfl (.t rfl rfl) vV (.s rfl) (ld rfl (.t rfl rfl) kX (.s rfl) (fun hc=>Rd.own .here rfl) ?_))))
 refine nt rfl (.t rfl rfl) (.s rfl) (bL rfl .no (.u rfl) (.s rfl) (.g (cD rfl (fun c1=>?_) (fun c1=>?_))))
 ·have c1k:=c1
  try simp only [aD,aH,aE] at c1
  refine .g (mA rfl .no (.u rfl) (.u rfl) ?_)
  refine nC rfl rfl (fZ rfl aA6 rfl (s1 rfl (.u rfl) (.u rfl) rfl lR .here (by first|(simp [bH,Fi.cells]; done)|decide) (rfl) ?_))
  refine .g (aK Tryz.results29 .nil ?_)
  exact ⟨rfl,rfl⟩
 have c1k:=c1
 try simp only [aD,aH,aE] at c1
 refine .g (aK Tryz.results29 .nil ?_)
 exact ⟨rfl,rfl⟩
theorem aOj (bd bm room done clk:Nat) (F:List Fi) (G:PM) (hD:DkR F clk) (hd9:done≤1000000000) (hr9:room≤1000000000) (hk:Sh) (keep:List Int) (hsk:SlR G 1 xA hk keep) (hkl:keep.length≤140737488355328) (hF:okF F):Ct Tryz.prog 31 ([.pointer (some ⟨bd,0,none⟩),hk.val keep.length]:List Value).toArray G [.blk bd (cl (bH bm room (done)) 118),.blk bm (mO ((F).map Fi.fe) (clk))] (fun _ μ' u=>μ'=[]∧u=.tuple #[]):=by
 refine Ct.of Tryz.func31 rfl Tryz.ntmps31 rfl fun w0 hs0=>?_
 refine .g (pe rfl .no iY (.u rfl) (.u rfl) ?_)
 refine .g (dM rfl rfl ?_)
 refine .g (ka rfl (.inr rfl) aDJ (aB rfl aF) (dI .here .here) (cX fun G1 hle1 h1=>cX fun G2 hle2 h2=>aIs bd bm room done clk F G2 (h1.mono hle2) h2 hD) ?_)
 rintro v10 G10 μ10 hG10 ⟨ν1,rfl,ν2,rfl,v,L10,hm10,hl10,rfl,rfl⟩
 have hsk:=hsk.mono hG10
 refine lr rfl .no wM (.u rfl) aI ?_
 refine mV rfl rfl (.nc (.block ?_))
 refine rN aI (fun _ _=>rfl) (bF .here rfl (bF .here rfl (eT))) ?_; intro GfRN hRN hleRN evRN hsRN; subst evRN
 have hsk:=hsk.mono hleRN
 refine aX (α:=Nat×List Fi) (fun gh=>[(12,true,.int .i64 (gh.1:Int))]) (fun gh=>[.blk bm (mO (gh.2.map Fi.fe) clk)])
  (fun gh Gl=>(gh.1≤L10.length)∧(gh.2.map Fi.nm=F.map Fi.nm)∧(okF gh.2)) (fun gh=>L10.length-gh.1) (0,F) [(0,true,_),(1,true,_),(10,true,_),(11,true,_)] [_]
  (aM rfl (aA rfl (aA rfl (aA rfl (aA rfl eZ)))))
  (mS aC rfl (mS .here rfl mN)) ?_ ?_
 ·refine ⟨?_,?_,?_⟩
  ·(try dsimp only)<;>(first|omega|rfl|assumption|(simp; done))
  ·(try dsimp only)<;>(rfl)
  (try dsimp only)<;>(exact hF)
 intro gh N0 Gl0 hN0 hGl0 hF0
 obtain ⟨k,Fk⟩:=gh; dsimp only at hF0 hN0 ⊢
 obtain ⟨hk,hnm,hok⟩:=hF0
 have hsk:=hsk.mono hGl0
 have hsRN:=hsRN.mono hGl0
 refine .g (cP rfl rfl rfl rfl (.g (cD rfl (fun c1=>?_) (fun c1=>?_))))
 ·have c1k:=c1
  try simp only [aD,aH,aE] at c1
  refine .skip (.code (.seq (.block (.seq (lF rfl rfl (mV rfl rfl (ih rfl .no jZ (.u rfl) (.u rfl) (by omega) (by omega) (fun _=>hsRN.nn (k:=k) (by first|omega|(simp only [Bool.and_eq_true,decide_eq_true_eq] at hc; omega)|(simp only [List.length_cons,List.length_nil]; omega))) ?_)))))))
  obtain ⟨y,ey⟩:=dY (k:=k) (xs:=L10) (by omega)
  have hy9:y∈Fk.map Fi.nm:=by rw [hnm]; exact hm10 y (List.mem_of_getElem? ey)
  obtain ⟨f,hf,hfm⟩:=aHq hy9
  obtain ⟨hf1,hf2,hf3⟩:=hok f hfm
  refine lN rfl cW rfl ((hsRN.at (by omega) ey 0 _ rfl).rd) ?_
  refine .g (nC rfl rfl (fZ rfl fX rfl (lO rfl fW rfl aC rfl ?_)))
  refine .p (lkS rfl .no gX sF (.u rfl) (.u rfl) (uX .here) (aAP hf) ?_)
  refine al rfl qK ?_; intro b6
  refine sw rfl (.u rfl) (.u rfl) rfl qI .here rfl (Fi.one _) ?_
  refine .g (lE rfl wI rfl (cP rfl rfl rfl rfl (.g (cD rfl (fun c2=>?_) (fun c2=>?_)))))
  ·have c2k:=c2
   try simp only [aD,aH,aE] at c2
   refine bO (mc:=⟨false,false⟩) [0,1,2,3,4,5,6,7,8,9,10,11,12,13,14,15,16] aY (by kernel_rfl) ?_
   refine fZ rfl tU rfl (lO rfl cJ rfl .here rfl ?_)
   refine mV rfl rfl (mV rfl rfl (ih rfl .no aDZ (.u rfl) (.u rfl) (by omega) (by omega) (fun _=>hsk.nn (k:=k) (by first|omega|(simp only [Bool.and_eq_true,decide_eq_true_eq] at hc; omega)|(simp only [List.length_cons,List.length_nil]; omega))) ?_))
   obtain ⟨kv,ekv⟩:=dY (k:=k) (xs:=keep) (by omega)
   refine lN rfl cJ rfl ((hsk.at (by omega) ekv 0 _ rfl).rd) ?_
   refine fZ rfl nW rfl (lO rfl dB rfl .here rfl ?_)
   refine lE rfl bV rfl (fZ rfl tU rfl (lO rfl cJ rfl .here rfl ?_))
   refine aR rfl rfl rfl rfl ?_
   refine mI rfl .no (.u rfl) (.u rfl) ?_
   refine mA rfl .no (.u rfl) (.u rfl) ?_
   obtain ⟨q,hq,hqn⟩:=aOU kv hf1
   refine iF ((q:Nat):Int) rfl .no (.u rfl) (.u rfl) rfl (fun _=>hq) (fun _=>eV (by omega) (by omega)) ?_
   refine fZ rfl tU rfl (s1 rfl (.u rfl) (.u rfl) rfl lR .here (by first|(simp [bH,Fi.cells]; done)|decide) (rfl) ?_)
   refine .g (fZ rfl nW rfl (lO rfl dB rfl .here rfl ?_))
   refine fZ rfl tU rfl (lO rfl cJ rfl .here rfl ?_)
   refine fZ rfl tU rfl (lO rfl cJ rfl .here rfl ?_)
   refine k3v _ rfl aP (.u rfl) (.u rfl) (.u rfl) (by omega) ?_; intro ob
   refine fZ rfl nW rfl (s1 rfl (.u rfl) (.u rfl) rfl kU .here (by first|(simp [bH,Fi.cells]; done)|decide) (rfl) ?_)
   refine .g (bO (mc:=⟨false,false⟩) [0,1,2,3,4,5,6] aY (by kernel_rfl) ?_)
   refine .p (nC rfl rfl (fZ rfl fX rfl (lO rfl fW rfl aI rfl ?_)))
   refine .p (lB rfl yL rfl .here ?_)
   refine muT rfl gX (.u rfl) (.u rfl) (.u rfl) aC (pI hf) ?_
   refine .g (aW (((k+1):Nat):Int) rfl rfl rfl rfl ?_)
   refine .g (aU (k+1,lD y ⟨ob,q⟩ q q Fk) ?_ ?_ ?_ ?_ ?_)
   ·exact (aM rfl (aA rfl (aA rfl (aA rfl (aA rfl eZ)))))
   ·exact (mS .here (by rw [← aCK (by rw [hf]; rfl)]; rfl) (mS aC rfl mN))
   ·first|omega|(dsimp only; omega)
   ·exact hGl0
   refine ⟨?_,?_,?_⟩
   ·(try dsimp only)<;>(first|omega|rfl|assumption|(simp; done))
   ·(try dsimp only)<;>(rw [aAK.1]; exact hnm)
   (try dsimp only)<;>(exact hok.put (Nat.le_refl _) (by omega))
  have c2k:=c2
  try simp only [aD,aH,aE] at c2
  refine .g (fZ rfl nW rfl (lO rfl dB rfl .here rfl ?_))
  refine fZ rfl tU rfl (lO rfl cJ rfl .here rfl ?_)
  refine fZ rfl tU rfl (lO rfl cJ rfl .here rfl ?_)
  refine k3v _ rfl aP (.u rfl) (.u rfl) (.u rfl) (by omega) ?_; intro ob
  refine fZ rfl nW rfl (s1 rfl (.u rfl) (.u rfl) rfl kU .here (by first|(simp [bH,Fi.cells]; done)|decide) (rfl) ?_)
  refine .g (bO (mc:=⟨false,false⟩) [0,1,2,3,4,5,6] aY (by kernel_rfl) ?_)
  refine .p (nC rfl rfl (fZ rfl fX rfl (lO rfl fW rfl aI rfl ?_)))
  refine .p (lB rfl yL rfl .here ?_)
  refine muT rfl gX (.u rfl) (.u rfl) (.u rfl) aC (pI hf) ?_
  refine .g (aW (((k+1):Nat):Int) rfl rfl rfl rfl ?_)
  refine .g (aU (k+1,lD y ⟨ob,f.safe⟩ f.safe f.safe Fk) ?_ ?_ ?_ ?_ ?_)
  ·exact (aM rfl (aA rfl (aA rfl (aA rfl (aA rfl eZ)))))
  ·exact (mS .here (by rw [← aCK (by rw [hf]; rfl)]; rfl) (mS aC rfl mN))
  ·first|omega|(dsimp only; omega)
  ·exact hGl0
  refine ⟨?_,?_,?_⟩
  ·(try dsimp only)<;>(first|omega|rfl|assumption|(simp; done))
  ·(try dsimp only)<;>(rw [aAK.1]; exact hnm)
  (try dsimp only)<;>(exact hok.put (Nat.le_refl _) (by omega))
 have c1k:=c1
 try simp only [aD,aH,aE] at c1
 refine .g (nC rfl rfl (fZ rfl vV rfl (s1 rfl (.u rfl) (.u rfl) rfl wN aC (by first|(simp [bH,Fi.cells]; done)|decide) (rfl) ?_)))
 refine nC rfl rfl (fZ rfl aA6 rfl (s1 rfl (.u rfl) (.u rfl) rfl lR .here (by first|(simp [bH,Fi.cells]; done)|decide) (rfl) ?_))
 refine .g (aK Tryz.results31 .nil ?_)
 exact ⟨rfl,rfl⟩
theorem aOo (bd bm room done clk:Nat) (F:List Fi) (G:PM) (hD:DkR F clk) (hd9:done≤1000000000) (hr9:room≤1000000000) (nm:ByteArray) (hb:Sh) (bs:List Y) (hsb:SlR G 1 aN hb bs) (hbl:bs.length≤140737488355328):Ct Tryz.prog 32 ([.pointer (some ⟨bd,0,none⟩),.string nm,hb.val bs.length]:List Value).toArray G [.blk bd (cl (bH bm room (done)) 118),.blk bm (mO ((F).map Fi.fe) (clk))] (fun _ μ' u=>μ'=[]∧u=.tuple #[]):=by
 refine Ct.of Tryz.func32 rfl Tryz.ntmps32 rfl fun w0 hs0=>?_
 refine .g (pn rfl .no iY (.u rfl) (.u rfl) ?_)
 refine mV rfl rfl (mv rfl (.t rfl rfl) (.u rfl) ?_)
 refine Go.Tan.b1g rfl (.t rfl rfl) jZ sG (.s rfl) rfl rfl (by decide) ?_; intro b10
 refine kp rfl (.t rfl rfl) wG (Eva.cons (.s rfl) aF) (Gp.add .here Gp.nil) (fun hc hle hq=>aEM ⟨some ⟨b10,0,none⟩,1⟩ [nm] _ (fD (xs:=[nm]) (bU _ _ _) (fun _ _=>rfl) (Nat.le_refl 1)) (by show 1≤_; omega)) ?_
 refine bL rfl .no (.u rfl) (.s rfl) (.g (cD rfl (fun c1=>?_) (fun c1=>?_)))
 ·have c1k:=c1
  try simp only [aD,aH,aE] at c1
  by_cases hq:(bK nm F).isSome=true
  ·refine bO (mc:=⟨false,false⟩) [0,1,2,3,4,5,7,8,6,9,10] aY (by kernel_rfl) ?_
   refine .p (nC rfl rfl (fZ rfl fX rfl (lO rfl fW rfl aC rfl ?_)))
   refine .p (lE rfl bV rfl (kc rfl aGB (aB rfl aF) (iM (aDz bs hb _ hsb (by omega))) ?_))
   rintro v19 G19 μ19 hG19 ⟨L19,ov19,eL19,rfl⟩
   have hsb:=hsb.mono hG19
   refine bR ([v19,.int .i64 ((bs.length:Nat):Int)]) rfl .no aLR (.cons (.u rfl) (sN ov19) (.cons (.u rfl) rfl .nil)) rfl (rfl) (muT rfl gX (.u rfl) (.u rfl) (.u rfl) bE (pI (Option.isSome_iff_exists.1 hq).choose_spec) ?_)
   refine .g (aK Tryz.results32 .nil ?_)
   exact ⟨rfl,rfl⟩
  refine bO (mc:=⟨false,false⟩) [0,1,2,3,4,5,7,8,6,9,10] aY (by kernel_rfl) ?_
  refine .p (nC rfl rfl (fZ rfl fX rfl (lO rfl fW rfl aC rfl ?_)))
  refine .p (lE rfl bV rfl (kc rfl aGB (aB rfl aF) (iM (aDz bs hb _ hsb (by omega))) ?_))
  rintro v19 G19 μ19 hG19 ⟨L19,ov19,eL19,rfl⟩
  refine bR ([v19,.int .i64 ((bs.length:Nat):Int)]) rfl .no aLR (.cons (.u rfl) (sN ov19) (.cons (.u rfl) rfl .nil)) rfl (rfl) (muS rfl gX (.u rfl) (.u rfl) (.u rfl) bE (aAQ (Option.not_isSome_iff_eq_none.1 hq)) ?_)
  refine .g (aK Tryz.results32 .nil ?_)
  exact ⟨rfl,rfl⟩
 have c1k:=c1
 try simp only [aD,aH,aE] at c1
 refine .g (aK Tryz.results32 .nil ?_)
 exact ⟨rfl,rfl⟩
end Go.Proofs.YtoifkgkandfeiaaGreatDoor
namespace Go.Proofs.YtoifkgkandfeiaaGreatDoor
open Go.Tan Go.RowKit Go.Maps Go.Sort Go.Shelf
theorem aVp:cT Tryz.prog 140 [0]=some ([.pointer none,.slice none 0 0],[(0,1)]):=by kernel_rfl
theorem oA:bJ Tryz.prog 138=some (142,3,40):=by kernel_rfl
theorem wH:(bJ Tryz.prog 138).isSome=true:=by kernel_rfl
theorem aGP:(Tryz.prog.info? 71).bind (·.zero)=some (.agg #[.int .u8 0,.string ByteArray.empty,.string ByteArray.empty]):=by kernel_rfl
theorem aGF:bJ Tryz.prog 274=some (22,1,24):=by kernel_rfl
theorem aGH:(bJ Tryz.prog 274).isSome=true:=by kernel_rfl
theorem yM:bT Tryz.prog 22=some none:=by kernel_rfl
theorem aFg:aT Tryz.prog 142 0=some 0:=by kernel_rfl
theorem aCv:bT Tryz.prog 142=some (some 3):=by kernel_rfl
theorem aWj:aL Tryz.prog 147=true:=by kernel_rfl
theorem oU:aT Tryz.prog 140 1=some 1:=by kernel_rfl
theorem rV:bT Tryz.prog 138=some none:=by kernel_rfl
theorem aWi:aL Tryz.prog 146=true:=by kernel_rfl
theorem aH3 (G:PM):Ct Tryz.prog 51 ([.pointer none]:List Value).toArray G [] (fun _ μ' u=>μ'=[]∧u=.pointer none):=by
 refine Ct.of Tryz.func51 rfl Tryz.ntmps51 rfl fun w0 hs0=>?_
 refine .g (hY rfl .no mX (.u rfl) (.u rfl) ?_)
 refine .g (gK rfl rfl ?_)
 refine .seq (aQ rfl rfl (aS rfl rfl (.nc (.ret (aK Tryz.results51 (.tmp rfl .nil) ?_)))))
 exact ⟨rfl,rfl⟩
theorem aPp (bq:Nat) (G:PM):Ct Tryz.prog 51 ([pt bq]:List Value).toArray G [] (fun _ μ' u=>∃ bg,μ'=[.blk bg (cl [pt bq,.slice none 0 0] 140)]∧u=pt bg):=by
 refine Ct.of Tryz.func51 rfl Tryz.ntmps51 rfl fun w0 hs0=>?_
 refine .g (pe rfl .no mX (.u rfl) (.u rfl) ?_)
 refine .g (dM rfl rfl ?_)
 refine .g (bR ([pt bq,.slice none 0 0]) rfl .no aVp (.cons (.u rfl) rfl .nil) rfl (rfl) ?_)
 refine bX rfl rfl rfl ?_; intro b7
 refine aS rfl rfl (.nc (.ret (bD Tryz.results51 (.tmp rfl .nil) (mS .here rfl mN) ?_)))
 exact ⟨b7,rfl,rfl⟩
theorem aOD (s:Sh) (n:Nat) (hn:n=0) (G:PM):Ct Tryz.prog 170 ([s.val n]:List Value).toArray G [] (fun _ μ' u=>∃ o,μ'=[]∧u=.slice o 0 0):=by
 subst hn
 refine Ct.of Tryz.func170 rfl Tryz.ntmps170 rfl fun w0 hs0=>?_
 refine .g (rI rfl .no wH (.u rfl) (.u rfl) ?_)
 refine .g (cD rfl (fun c1=>?_) (fun c1=>?_))
 ·have c1k:=c1
  try simp only [aD,aE] at c1
  refine .seq (aQ rfl rfl (aS rfl rfl (.nc (.ret (aK Tryz.results170 (.tmp rfl .nil) ?_)))))
  exact ⟨none,rfl,rfl⟩
 have c1k:=c1
 try simp only [aD,aE] at c1
 refine .skip (.code (.seq (dT rfl rfl ?_)))
 refine oF rfl oA ?_; intro b5
 refine .p (aNh rfl oA (.u rfl) (.u rfl) ?_)
 refine aS rfl rfl (.nc (.ret (aK Tryz.results170 (.tmp rfl .nil) ?_)))
 exact ⟨some _,rfl,rfl⟩
theorem aG9 (h:Sh) (l:List Opn) (G:PM) (hs:SlR G 3 Opn.cells h l) (h0:0<l.length) (hl:l.length≤1000):Ct Tryz.prog 95 ([h.val l.length]:List Value).toArray G [] (fun G' μ' u=>∃ s,μ'=[]∧u=s.val l.length∧SlR G' 3 Opn.cells s l):=by
 refine Ct.of Tryz.func95 rfl Tryz.ntmps95 rfl fun w0 hs0=>?_
 refine .g (rI rfl .no oV (.u rfl) (.u rfl) ?_)
 refine .g (cD rfl (fun c1=>?_) (fun c1=>?_))
 ·have c1k:=c1
  rw [hs.nn h0] at c1; cases c1
 have c1k:=c1
 try simp only [aD,aE] at c1
 refine .skip (.code (.seq (dT rfl rfl ?_)))
 refine oF rfl uB ?_; intro b5
 refine mV rfl rfl ?_
 refine apE (enc:=Opn.cells) rfl uB aGP rfl (.u rfl) (.u rfl) hs h0 (fun _ _=>rfl) (aJA l) (by omega) (by unfold maxLen; omega) ?_; intro v7 ov7
 refine aS rfl rfl (.nc (.ret ?_))
 refine aAu .here (fun _ _=>rfl) (by intro b hb; cases hb) ?_; intro GfR7 hR7 hleR7 evR7 hsR7; subst evR7
 refine aK Tryz.results95 (.tmp rfl .nil) ?_
 exact ⟨hR7,rfl,rfl,hsR7⟩
theorem aNw (h:Sh) (l:List Opn) (G:PM) (hs:SlR G 3 Opn.cells h l) (hl:l.length≤2) (hok:∀ o∈l,o.ok):Ct Tryz.prog 167 ([h.val l.length]:List Value).toArray G [] (fun _ μ' u=>μ'=[]∧u=.int .i64 ((8*l.length+mJ l:Nat):Int)):=by
 refine Ct.of Tryz.func167 rfl Tryz.ntmps167 rfl fun w0 hs0=>?_
 refine .g (lE rfl oV rfl (aW (((8*l.length):Nat):Int) rfl rfl rfl rfl ?_))
 refine .g (lE rfl oV rfl (mV rfl rfl (.nc (.block ?_))))
 refine aX (α:=Nat) (fun k=>[(3,true,.int .i64 ((8*l.length+mJ (l.take k):Nat):Int)),(11,true,.int .i64 (k:Int))]) (fun _=>[])
  (fun k Gl=>(k≤l.length)) (fun k=>l.length-k) 0 [(9,true,_),(10,true,_)] []
  (eJ rfl (by simp [mJ]) (aM rfl (aA rfl (aA rfl eZ))))
  mN ?_ ?_
 ·(try dsimp only)<;>(first|omega|rfl|assumption|(simp; done))
 intro k N0 Gl0 hN0 hGl0 hF0
 try dsimp only at hF0 hN0 ⊢
 have hk:=hF0
 have hs:=hs.mono hGl0
 have hz:=aKG (l:=l.take k) (fun o ho=>hok o (List.mem_of_mem_take ho)); have hz2:(l.take k).length≤k:=by rw [List.length_take]; omega
 refine .g (cP rfl rfl rfl rfl (.g (cD rfl (fun c1=>?_) (fun c1=>?_))))
 ·have c1k:=c1
  try simp only [aD,aE] at c1
  refine .skip (.code (.seq (.block (.seq (dT rfl rfl (ih rfl .no uB (.u rfl) (.u rfl) (by omega) (by omega) (fun _=>hs.nn (k:=k) (by first|omega|(simp only [Bool.and_eq_true,decide_eq_true_eq] at hc; omega)|(simp only [List.length_cons,List.length_nil]; omega))) ?_))))))
  obtain ⟨o,eo⟩:=dY (k:=k) (xs:=l) (by omega)
  have ho:=hok o (List.mem_of_getElem? eo)
  have hou:=ho.user; have hov:=ho.value
  refine lA rfl .no yP (.u rfl) (fun _=>(hs.at (by omega) eo).rd) (fun _=>Opn.len _) ?_
  refine al rfl aDR ?_; intro b5
  refine sw rfl (.u rfl) (.u rfl) rfl aDO .here rfl (Opn.one _) ?_
  refine .g (fZ rfl aFv rfl (lO rfl cW rfl .here (by first|exact aV rfl|rfl) ?_))
  refine ls rfl .no lU (.u rfl) (fZ rfl aFw rfl (lO rfl cW rfl .here (by first|exact aV rfl|rfl) ?_))
  refine ls rfl .no lU (.u rfl) (aW (((o.user.size+o.value.size):Nat):Int) rfl rfl rfl rfl ?_)
  refine iF (((8*l.length+mJ (l.take k)+(o.user.size+o.value.size)):Nat):Int) rfl .no (.u rfl) (.u rfl) rfl (by omega) (fun _=>eV (by omega) (by omega)) ?_
  refine .g (aW (((k+1):Nat):Int) rfl rfl rfl rfl ?_)
  refine .g (aU (k+1) ?_ ?_ ?_ ?_ ?_)
  ·exact (eJ rfl (congrArg (fun z:Nat=>Value.int .i64 (z:Int)) (by rw [aKH eo,Nat.add_assoc])) (aM rfl (aA rfl (aA rfl eZ))))
  ·exact mN
  ·first|omega|(dsimp only; omega)
  ·exact hGl0
  (try dsimp only)<;>(first|omega|rfl|assumption|(simp; done))
 have c1k:=c1
 try simp only [aD,aE] at c1
 refine .exit (.xcode (.xlp (.xblk (.code (.seq (bB rfl rfl (mV rfl rfl (aS rfl rfl (.nc (.ret (aK Tryz.results167 (.tmp rfl .nil) ?_)))))))))))
 obtain rfl:k=l.length:=by omega
 rw [List.take_length]
 exact ⟨rfl,rfl⟩
theorem aGv (h:Sh) (ws:List Wtg) (G:PM) (hs:SlR G 1 aD7 h ws) (hA:AllW G ws) (hw:ws.length≤1000) (h1:∀ w∈ws,w.ops.length≤10):Ct Tryz.prog 169 ([h.val ws.length]:List Value).toArray G [] (fun G' μ' u=>∃ s,μ'=[]∧u=s.val (jn ws).length∧SlR G' 3 Opn.cells s (jn ws)):=by
 refine Ct.of Tryz.func169 rfl Tryz.ntmps169 rfl fun w0 hs0=>?_
 refine .seq (aQ rfl rfl (aS rfl rfl (.nc (.seq (aQ rfl rfl (aS rfl rfl (.nc (.seq (.seq (rO 3 Opn.cells 71 (.g (lE rfl aGH rfl (mV rfl rfl (.nc (.block ?_)))))))))))))))
 refine aX (α:=Nat×Value) (fun gh=>[(3,true,gh.2),(8,true,.int .i64 (gh.1:Int))]) (fun gh=>[rS 3 Opn.cells gh.2 71 (jn (ws.take gh.1))])
  (fun gh Gl=>(gh.1≤ws.length)) (fun gh=>ws.length-gh.1) (0,.slice none 0 0) [(6,true,_),(7,true,_)] []
  (aA rfl (aM rfl (aA rfl (aA rfl eZ))))
  (mS .here rfl mN) ?_ ?_
 ·(try dsimp only)<;>(first|omega|rfl|assumption|(simp; done))
 intro gh N0 Gl0 hN0 hGl0 hF0
 obtain ⟨k,v⟩:=gh; dsimp only at hF0 hN0 ⊢
 have hk:=hF0
 have hs:=hs.mono hGl0
 have hA:=hA.mono hGl0
 refine .g (cP rfl rfl rfl rfl (.g (cD rfl (fun c1=>?_) (fun c1=>?_))))
 ·have c1k:=c1
  try simp only [aD,aE] at c1
  refine .skip (.code (.seq (.block (.seq (dP rfl rfl (ih rfl .no aGF (.u rfl) (.u rfl) (by omega) (by omega) (fun _=>hs.nn (k:=k) (by first|omega|(simp only [Bool.and_eq_true,decide_eq_true_eq] at hc; omega)|(simp only [List.length_cons,List.length_nil]; omega))) ?_))))))
  obtain ⟨w,ew⟩:=dY (k:=k) (xs:=ws) (by omega)
  have hwo:=hA w (List.mem_of_getElem? ew)
  have hw1:=h1 w (List.mem_of_getElem? ew)
  have hlt:(jn (ws.take k)).length≤10*k:=Nat.le_trans (aQH fun w hw=>h1 w (List.mem_of_mem_take hw)) (by rw [List.length_take]; omega)
  refine lN rfl yM rfl ((hs.at (by omega) ew 0 _ rfl).rd) ?_
  refine aS rfl rfl (.nc (dT rfl rfl (mV rfl rfl (mV rfl rfl ?_))))
  refine apL (xs:=(jn (ws.take k))) rfl uB aGP rfl (.u rfl) (.u rfl) .here hwo (fun _ _=>rfl) (aJA _) (by omega) (by unfold maxLen; omega) ?_; intro v14 ov14
  refine .g (aW (((k+1):Nat):Int) rfl rfl rfl rfl ?_)
  refine .g (aU (k+1,v14) ?_ ?_ ?_ ?_ ?_)
  ·exact (aA rfl (aM rfl (aA rfl (aA rfl eZ))))
  ·exact (mS .here (by rw [aQI ew]) mN)
  ·first|omega|(dsimp only; omega)
  ·exact hGl0
  (try dsimp only)<;>(first|omega|rfl|assumption|(simp; done))
 have c1k:=c1
 try simp only [aD,aE] at c1
 refine .exit (.xcode (.xlp (.xblk (.code (.seq (bB rfl rfl (mV rfl rfl (aS rfl rfl (.nc (.ret ?_))))))))))
 refine aAu .here (fun _ _=>rfl) (by intro b hb; cases hb) ?_; intro GfRO hRO hleRO evRO hsRO; subst evRO
 refine aK Tryz.results169 (.tmp rfl .nil) ?_
 obtain rfl:k=ws.length:=by omega
 rw [List.take_length] at hsRO ⊢
 exact ⟨hRO,rfl,rfl,hsRO⟩
theorem aSE (w:Wtg) (c bc:Nat) (G:PM) (hb:PB G bc (cl [.int .i64 ((c:Nat):Int)] 3)):Ct Tryz.prog 147 ([Value.agg w.cells.toArray,.pointer (some ⟨bc,0,none⟩)]:List Value).toArray G [] (fun _ μ' u=>μ'=[]∧u=.bool ((fun w=>decide ((w.c:Int)=((c:Nat):Int))) w)):=by
 refine Ct.of Tryz.func147 rfl Tryz.ntmps147 rfl fun w0 hs0=>?_
 refine .seq (bB rfl rfl ?_)
 refine bX rfl rfl rfl ?_; intro b2
 refine .g (fZ rfl aFg rfl (lO rfl cJ rfl .here rfl ?_))
 refine lN rfl cJ rfl ((hb.rd (rfl)).rd) ?_
 refine cP rfl rfl rfl rfl (aS rfl rfl (.nc (.ret (aK Tryz.results147 (.tmp rfl .nil) ?_))))
 exact ⟨rfl,rfl⟩
theorem aP6 (h:Sh) (l:List Wtg) (G:PM) (hs:SlR G 3 Wtg.cells h l) (hl:l.length≤100000000) (f:Nat) (hf:aL Tryz.prog f=true) (vc:List Value) (p:Wtg→Bool) (hc:∀ G',PM.le G G'→∀ m∈l,Ct Tryz.prog f ([Value.agg m.cells.toArray]++vc).toArray G' [] fun _ μ' u=>μ'=[]∧u=.bool (p m)):Ct Tryz.prog 146 ([h.val l.length,.func (.func f) #[] vc.toArray]:List Value).toArray G [] (fun _ μ' u=>μ'=[]∧u=.int .i64 (oH p l)):=by
 refine Ct.of Tryz.func146 rfl Tryz.ntmps146 rfl fun w0 hs0=>?_
 refine .g (lE rfl wH rfl (mV rfl rfl (.nc (.block ?_))))
 refine aX (α:=Nat) (fun k=>[(8,true,.int .i64 (k:Int))]) (fun _=>[])
  (fun k Gl=>(k≤l.length)∧(∀ j y,j<k→l[j]? = some y→p y=false)) (fun k=>l.length-k) 0 [(0,true,_),(1,true,_),(7,true,_)] []
  (aM rfl (aA rfl (aA rfl (aA rfl eZ))))
  mN ?_ ?_
 ·refine ⟨?_,?_⟩
  ·(try dsimp only)<;>(first|omega|rfl|assumption|(simp; done))
  (try dsimp only)<;>(exact fun j y h=>absurd h (Nat.not_lt_zero _))
 intro k N0 Gl0 hN0 hGl0 hF0
 try dsimp only at hF0 hN0 ⊢
 obtain ⟨hk,hno⟩:=hF0
 have hs:=hs.mono hGl0
 refine .g (cP rfl rfl rfl rfl (.g (cD rfl (fun c1=>?_) (fun c1=>?_))))
 ·have c1k:=c1
  try simp only [aD,aE] at c1
  refine .skip (.code (.seq (.block (.seq (bB rfl rfl (mV rfl rfl (aS rfl rfl (.nc (.seq (iV rfl rfl (mV rfl rfl (mV rfl rfl (mV rfl rfl (ih rfl .no oA (.u rfl) (.u rfl) (by omega) (by omega) (fun _=>hs.nn (k:=k) (by first|omega|(simp only [Bool.and_eq_true,decide_eq_true_eq] at hc; omega)|(simp only [List.length_cons,List.length_nil]; omega))) ?_))))))))))))))
  obtain ⟨x,ex⟩:=dY (k:=k) (xs:=l) (by omega)
  refine lA rfl .no aCv (.u rfl) (fun _=>(hs.at (by omega) ex).rd) (fun _=>Wtg.len _) ?_
  refine kf rfl .no (.u rfl) hf (aB rfl aF) (fun _=>hc _ hGl0 x (List.mem_of_getElem? ex)) ?_
  refine .g (cD rfl (fun c2=>?_) (fun c2=>?_))
  ·have c2k:=c2
   try simp only [aD,aE] at c2
   refine .seq (bB rfl rfl (mV rfl rfl (aS rfl rfl (.nc (.ret (aK Tryz.results146 (.tmp rfl .nil) ?_))))))
   exact ⟨rfl,aIE hno ex (by simpa using c2k)⟩
  have c2k:=c2
  try simp only [aD,aE] at c2
  refine .g (aW (((k+1):Nat):Int) rfl rfl rfl rfl ?_)
  refine .g (aU (k+1) ?_ ?_ ?_ ?_ ?_)
  ·exact (aM rfl (aA rfl (aA rfl (aA rfl eZ))))
  ·exact mN
  ·first|omega|(dsimp only; omega)
  ·exact hGl0
  refine ⟨?_,?_⟩
  ·(try dsimp only)<;>(first|omega|rfl|assumption|(simp; done))
  (try dsimp only)<;>(exact aIG hno ex (by simpa using c2k))
 have c1k:=c1
 try simp only [aD,aE] at c1
 refine .exit (.xcode (.xlp (.xblk (.code (.seq (aQ rfl rfl (aS rfl rfl (.nc (.ret (aK Tryz.results146 (.tmp rfl .nil) ?_))))))))))
 exact ⟨rfl,aIF hno (by omega)⟩
theorem aSH (bg:Nat) (z:Value) (h:Sh) (ws:List Wtg) (c:Nat) (G:PM) (hbg:PB G bg (cl [z,h.val ws.length] 140)) (hs:SlR G 3 Wtg.cells h ws) (hw:ws.length≤1000):Ct Tryz.prog 94 ([pt bg,.int .i64 ((c:Nat):Int)]:List Value).toArray G [] (fun _ μ' u=>μ'=[]∧u=.int .i64 (oH (fun w=>decide ((w.c:Int)=((c:Nat):Int))) ws)):=by
 refine Ct.of Tryz.func94 rfl Tryz.ntmps94 rfl fun w0 hs0=>?_
 refine .seq (bB rfl rfl ?_)
 refine bX rfl rfl rfl ?_; intro b3
 refine aS rfl rfl (.nc (.seq ?_))
 refine dL .here (by intro b hb; cases hb) ?_; intro Gfb3 hleb3 hbb3
 have hbg:=hbg.mono hleb3
 have hs:=hs.mono hleb3
 refine .g (nC rfl rfl (fA rfl oU rfl (lN rfl rV rfl ((hbg.rd (rfl)).rd) ?_)))
 refine mf (vf:=#[]) (vc:=[Value.pointer (some ⟨b3,0,none⟩)].toArray) rfl .no (fun a ha _=>by simp) (fun a ha _=>by simp [(Ev.u (c:=true) rfl:Ev _ true (.tmp 3) _).eval ha rfl]) ?_
 refine kv rfl .no aWi (aB rfl (aB rfl aF)) (fun _=>aP6 h ws _ hs (by omega) 147 aWj [.pointer (some ⟨b3,0,none⟩)] (fun w=>decide ((w.c:Int)=((c:Nat):Int))) (fun G2 hle m hm=>aSE m c b3 G2 (hbb3.mono hle))) ?_
 refine aS rfl rfl (.nc (.ret (aK Tryz.results94 (.tmp rfl .nil) ?_)))
 exact ⟨rfl,rfl⟩
end Go.Proofs.YtoifkgkandfeiaaGreatDoor
namespace Go.Proofs.YtoifkgkandfeiaaGreatDoor
open Go.Tan Go.RowKit Go.Maps Go.Sort Go.Shelf
theorem aBQ:jR Tryz.prog 75=true:=by kernel_rfl
theorem aXn:aL Tryz.prog 94=true:=by kernel_rfl
theorem aMZ:aL Tryz.prog 95=true:=by kernel_rfl
theorem aLS:cT Tryz.prog 142 [0,1,2]=some ([.int .i64 0,.slice none 0 0,.bool false],[(0,1),(1,1),(2,1)]):=by kernel_rfl
theorem aDS:(Tryz.prog.info? 142).bind (·.zero)=some (.agg #[.int .i64 0,.slice none 0 0,.bool false]):=by kernel_rfl
theorem aGI:cE Tryz.prog 138=some 1:=by kernel_rfl
theorem aUS (bg:Nat) (z v0:Value) (ws:List Wtg) (c:Nat) (h:Sh) (l:List Opn) (sy:Bool) (G:PM) (hs:SlR G 3 Opn.cells h l) (hl:l.length=1∨l.length=2) (hok:∀ o∈l,o.ok) (hc:c<8) (hw:ws.length≤100) (hno:oH (fun w=>decide ((w.c:Int)=((c:Nat):Int))) ws<0):Ct Tryz.prog 57 ([pt bg,.int .i64 ((c:Nat):Int),h.val l.length,.bool sy]:List Value).toArray G [.blk bg (cl [z,v0] 140),rS 3 Wtg.cells v0 142 (ws)] (fun G' μ' u=>∃ (v:Value) (s:Sh),v.oneCell'=true∧SlR G' 3 Opn.cells s l∧μ'=[.blk bg (cl [z,v] 140),rS 3 Wtg.cells v 142 (ws++[⟨c,s,l,sy⟩])]∧u=.int .i64 0):=by
 refine Ct.of Tryz.func57 rfl Tryz.ntmps57 rfl fun w0 hs0=>?_
 refine .g (pe rfl .no aBQ (.u rfl) (.u rfl) ?_)
 refine .g (cD rfl (fun c1=>?_) (fun c1=>?_))
 ·have c1k:=c1
  cases c1
 have c1k:=c1
 try simp only [aD,aH,aE] at c1
 refine .g (cP rfl rfl rfl rfl (mV rfl rfl (mv rfl (.f rfl rfl) (.u rfl) (cp rfl (.f rfl rfl) (.s rfl) (.u rfl) rfl (bZ rfl .no (.u rfl) (.s rfl) (mV rfl rfl (mv rfl (.f rfl rfl) (.u rfl) (kv rfl (.f rfl rfl) aMY (aB rfl (Eva.cons (.s rfl) aF)) (fun hc=>aGw h l _ hs hl hok) ?_))))))))
 refine nt rfl (.f rfl rfl) (.s rfl) (bZ rfl .no (.u rfl) (.s rfl) (.g (cD rfl (fun c2=>?_) (fun c2=>?_))))
 ·have c2k:=c2
  simp at c2; omega
 have c2k:=c2
 try simp only [aD,aH,aE] at c2
 refine .g (ka rfl (.inr rfl) aXn (aB rfl (aB rfl aF)) (dI .here .here) (aQs (fun _ _=>rfl) fun s G2 hle hv hs2 hb2=>by rw [hv] at hb2; exact aSH bg z s ws c G2 hb2 hs2 (by omega)) ?_)
 rintro _ G27 μ27 hG27 ⟨rfl,rfl⟩
 have hs:=hs.mono hG27
 refine cP rfl rfl rfl rfl (.g (cD rfl (fun c3=>?_) (fun c3=>?_)))
 ·have c3k:=c3
  exact absurd c3 (by simpa using hno)
 have c3k:=c3
 try simp only [aD,aH,aE] at c3
 refine .skip (.blk (.code (.seq (dX ⟨true,false⟩ aY (by kernel_rfl) ?_))))
 refine Wp.one 0 (by kernel_rfl) ?_
 refine mV rfl rfl (.nil (Wp.one 1 (by kernel_rfl) ?_))
 refine mV rfl rfl (.nil (Wp.one 2 (by kernel_rfl) ?_))
 refine nC rfl rfl (.nil (Wp.one 3 (by kernel_rfl) ?_))
 refine fZ rfl oU rfl (.nil (Wp.one 5 (by kernel_rfl) ?_))
 refine mV rfl rfl (.nil (Wp.one 6 (by kernel_rfl) ?_))
 refine mV rfl rfl (.nil (Wp.one 8 (by kernel_rfl) ?_))
 refine mV rfl rfl (.nil (Wp.b2 4 7 (by kernel_rfl) ?_ ?_))
 ·refine lO rfl rV rfl .here rfl ?_
  refine .nil (Wp.b1 7 (by kernel_rfl) ?_)
  refine kc rfl aMZ (aB rfl aF) (aG9 h l _ hs (by omega) (by omega)) ?_
  rintro _ G36 μ36 hG36 ⟨s36,rfl,rfl,hs36⟩
  have hs:=hs.mono hG36
  refine .nil (Wp.one 9 (by kernel_rfl) ?_)
  refine bR (Wtg.cells ⟨c,s36,l,sy⟩) rfl .no aLS (.cons (.u rfl) rfl (.cons (.u rfl) rfl (.cons (.u rfl) rfl .nil))) rfl (rfl) (.nil (Wp.b1 10 (by kernel_rfl) ?_))
  refine Go.Tan.b1 rfl oA aDS (.u rfl) rfl rfl (by decide) ?_; intro b39
  refine .nil (Wp.b1 11 (by kernel_rfl) ?_)
  refine oC (xs:=ws) (⟨c,s36,l,sy⟩) rfl oA aDS rfl (.u rfl) (.u rfl) aI .here (rfl) (Wtg.one _) (by omega) (by unfold maxLen; omega) ?_; intro v40 ov40
  refine .nil (Wp.one 12 (by kernel_rfl) ?_)
  refine nC rfl rfl (.nil (Wp.one 13 (by kernel_rfl) ?_))
  refine fZ rfl oU rfl (.nil (Wp.b1 14 (by kernel_rfl) ?_))
  refine oP rfl (.u rfl) (.u rfl) .here aGI aI (by first|decide|(simp only [cC,bP,cI]; omega)) (rfl) ?_
  refine .nil (Wp.last (by kernel_rfl) ?_)
  refine .code (.seq (aQ rfl rfl (aS rfl rfl (.nc (.ret (bD Tryz.results57 (.tmp rfl .nil) (mS .here rfl (mS .here rfl mN)) ?_))))))
  exact ⟨v40,s36,ov40,hs36,rfl,rfl⟩
 refine kc rfl aMZ (aB rfl aF) (aG9 h l _ hs (by omega) (by omega)) ?_
 rintro _ G36 μ36 hG36 ⟨s36,rfl,rfl,hs36⟩
 refine .nil (Wp.one 4 (by kernel_rfl) ?_)
 refine lO rfl rV rfl .here rfl ?_
 refine .nil (Wp.one 9 (by kernel_rfl) ?_)
 refine bR (Wtg.cells ⟨c,s36,l,sy⟩) rfl .no aLS (.cons (.u rfl) rfl (.cons (.u rfl) rfl (.cons (.u rfl) rfl .nil))) rfl (rfl) (.nil (Wp.b1 10 (by kernel_rfl) ?_))
 refine Go.Tan.b1 rfl oA aDS (.u rfl) rfl rfl (by decide) ?_; intro b39
 refine .nil (Wp.b1 11 (by kernel_rfl) ?_)
 refine oC (xs:=ws) (⟨c,s36,l,sy⟩) rfl oA aDS rfl (.u rfl) (.u rfl) aI .here (rfl) (Wtg.one _) (by omega) (by unfold maxLen; omega) ?_; intro v40 ov40
 refine .nil (Wp.one 12 (by kernel_rfl) ?_)
 refine nC rfl rfl (.nil (Wp.one 13 (by kernel_rfl) ?_))
 refine fZ rfl oU rfl (.nil (Wp.b1 14 (by kernel_rfl) ?_))
 refine oP rfl (.u rfl) (.u rfl) .here aGI aI (by first|decide|(simp only [cC,bP,cI]; omega)) (rfl) ?_
 refine .nil (Wp.last (by kernel_rfl) ?_)
 refine .code (.seq (aQ rfl rfl (aS rfl rfl (.nc (.ret (bD Tryz.results57 (.tmp rfl .nil) (mS .here rfl (mS .here rfl mN)) ?_))))))
 exact ⟨v40,s36,ov40,hs36,rfl,rfl⟩
end Go.Proofs.YtoifkgkandfeiaaGreatDoor
namespace Go.Proofs.YtoifkgkandfeiaaGreatDoor
open Go.Tan Go.RowKit Go.Maps Go.Sort Go.Shelf
theorem aGM:dV Tryz.prog 142=some ([.int .i64 0,.slice none 0 0,.bool false]):=by kernel_rfl
theorem aGJ:cE Tryz.prog 142=some 3:=by kernel_rfl
theorem aC1:aT Tryz.prog 142 1=some 1:=by kernel_rfl
theorem aWo:aL Tryz.prog 167=true:=by kernel_rfl
theorem aMy:(Tryz.prog.info? 22).bind (·.zero)=some (.slice none 0 0):=by kernel_rfl
theorem aWW:aT Tryz.prog 142 2=some 2:=by kernel_rfl
theorem aWV:aT Tryz.prog 140 0=some 0:=by kernel_rfl
theorem aL4:aL Tryz.prog 169=true:=by kernel_rfl
theorem aL3:aL Tryz.prog 168=true:=by kernel_rfl
theorem aWD:cT Tryz.prog 73 [0,1]=some ([.int .i64 0,.int .i64 0],[(0,1),(1,1)]):=by kernel_rfl
theorem aGG:bJ Tryz.prog 41=some (73,2,16):=by kernel_rfl
theorem aMz:(Tryz.prog.info? 73).bind (·.zero)=some (.agg #[.int .i64 0,.int .i64 0]):=by kernel_rfl
theorem aWp:aL Tryz.prog 170=true:=by kernel_rfl
set_option maxHeartbeats 1000000 in
theorem aPm (bg bx bm room bd bt held bn:Nat) (root:Nat→Y) (o:Opts) (v0:Value) (F:List Fi) (h:Sh) (ws:List Wtg) (G:PM) (hD:DkR F 3) (hnm:F.map Fi.nm=[aO 3 0,aO 4 0]) (hz:cA F≤2000) (hr:5000≤room) (hr9:room≤1000000000) (hmem:0<o.mem) (hs:SlR G 3 Wtg.cells h ws) (hA:AllW G ws) (hw:ws.length=1∨ws.length=2) (h1:∀ w∈ws,w.ops.length=1) (hsy:∀ w∈ws,w.sy=false) (hok:∀ o∈jn ws,o.ok) (hord:(jn ws).length=2→lt ((jn ws).getD 0 Opn.zero).user ((jn ws).getD 1 Opn.zero).user=true) (hK:RdNP G 6 0 (wa 64 kW)):Ct Tryz.prog 109 ([pt bg,.int .i64 100]:List Value).toArray G [.blk bg (cl [pt bx,h.val ws.length] 140),.blk bx (cl (Db.cells (iD bd bt root o 1#64 held bn)) 165),.blk bd (cl (bH bm room 5) 118),.blk bm (mO ((F).map Fi.fe) 3),.blk bn (cl [v0,.int .i64 ((0:Nat):Int)] 225),rS 16 Nd.cells v0 249 [Nd.z]] (fun _ μ' u=>∃ (oa:Option Addr) (v:Value) (bb m cap sz:Nat) (F4:List Fi),v.oneCell'=true∧m=(cK (cB 0 (jn ws)) (jn ws).length).length∧DkR F4 4∧F4.map Fi.nm=[aO 3 0,aO 4 0,aO 1 1]∧cA F4≤4000∧μ'=[.blk bg (cl [pt bx,.slice oa 0 0] 140),rS 2 aAA v 73 (ws.map Wtg.c),.blk bx (cl (Db.cells { iD bd bt root o 1#64 held bn with lg:=⟨⟨1#8,0#8,0#64,1#64,1#64⟩,1#64,false⟩,seq:=(0#64+BitVec.ofInt 64 (((jn ws).length:Nat):Int)) }) 165),.blk bd (cl (bH bm room 6) 118),.blk bm (mO ((F4).map Fi.fe) 4),.blk bn (cl [.slice (some ⟨bb,0,none⟩) m cap,.int .i64 ((sz:Nat):Int)] 225),rS 16 Nd.cells (.slice (some ⟨bb,0,none⟩) m cap) 249 (cK (cB 0 (jn ws)) (jn ws).length)]∧u=.tuple #[v,.int .i64 0]):=by
 refine Ct.of Tryz.func109 rfl Tryz.ntmps109 rfl fun w0 hs0=>?_
 refine .g (pe rfl .no aBQ (.u rfl) (.u rfl) ?_)
 refine .g (dM rfl rfl ?_)
 refine .g (nC rfl rfl (fZ rfl oU rfl (lO rfl rV rfl .here rfl ?_)))
 refine lE rfl wH rfl (cP rfl rfl rfl rfl (.g (cD rfl (fun c1=>?_) (fun c1=>?_))))
 ·have c1k:=c1
  rcases hw with e | e<;>rw [e] at c1<;>cases c1
 have c1k:=c1
 try simp only [aD,aH,aE] at c1
 refine .g (xK (100) (1048576) rfl .no (.u rfl) (.u rfl) (by omega) (by omega) ?_)
 refine mAn (0) ((min 100 1048576)) rfl .no (.u rfl) (.u rfl) (by omega) (by omega) ?_
 refine aS rfl rfl (aS rfl rfl (.nc (.seq (aQ rfl rfl (aS rfl rfl (.nc (.seq (rO 1 aD7 22 ?_))))))))
 refine .g (nC rfl rfl (fZ rfl oU rfl (lO rfl rV rfl aC rfl ?_)))
 refine lE rfl wH rfl (mV rfl rfl (.nc (.block ?_)))
 refine aX (α:=Nat×Int×Value) (fun gh=>[(6,true,.int .i64 gh.2.1),(7,true,.int .i64 ((gh.1:Nat):Int)),(8,true,gh.2.2),(9,true,.bool false),(33,true,.int .i64 (gh.1:Int))]) (fun gh=>[rS 1 aD7 gh.2.2 22 (ws.take gh.1)])
  (fun gh Gl=>(gh.1≤ws.length)∧(100-28*(gh.1:Int)≤gh.2.1∧gh.2.1≤100)) (fun gh=>ws.length-gh.1) (0,100,.slice none 0 0) [(0,true,_),(31,true,_),(32,true,_)] [_,_,_,_,_,_]
  (aM rfl (aM rfl (aA rfl (aA rfl (aM rfl (aA rfl (aA rfl (aA rfl eZ))))))))
  (mS .here rfl (mS .here rfl (mS .here rfl (mS .here rfl (mS .here rfl (mS .here rfl (mS .here rfl mN))))))) ?_ ?_
 ·refine ⟨?_,?_⟩
  ·(try dsimp only)<;>(first|omega|rfl|assumption|(simp; done))
  (try dsimp only)<;>(first|omega|rfl|assumption|(simp; done))
 intro gh N0 Gl0 hN0 hGl0 hF0
 obtain ⟨k,r,v⟩:=gh; dsimp only at hF0 hN0 ⊢
 obtain ⟨hk,hrr⟩:=hF0
 have hs:=hs.mono hGl0
 have hA:=hA.mono hGl0
 have hK:=hK.mono hGl0
 refine .g (cP rfl rfl rfl rfl (.g (cD rfl (fun c2=>?_) (fun c2=>?_))))
 ·have c2k:=c2
  try simp only [aD,aH,aE] at c2
  refine .skip (.code (.seq (.block (.seq (iV rfl rfl (mV rfl rfl (ih rfl .no oA (.u rfl) (.u rfl) (by omega) (by omega) (fun _=>hs.nn (k:=k) (by first|omega|(simp only [Bool.and_eq_true,decide_eq_true_eq] at hc; omega)|(simp only [List.length_cons,List.length_nil]; omega))) ?_)))))))
  obtain ⟨w,ew⟩:=dY (k:=k) (xs:=ws) (by omega)
  have hmw:=List.mem_of_getElem? ew
  have hwo:=hA w hmw; have hw1:=h1 w hmw; have hsw:=hsy w hmw
  have hokw:∀ o∈w.ops,o.ok:=fun o ho=>hok o (List.mem_flatMap.2 ⟨w,hmw,ho⟩)
  have hzw:=aKG hokw
  refine lA rfl .no aCv (.u rfl) (fun _=>(hs.at (by omega) ew).rd) (fun _=>Wtg.len _) ?_
  refine al rfl aGM ?_; intro b11
  refine .p (sw rfl (.u rfl) (.u rfl) rfl aGJ .here rfl (Wtg.one _) ?_)
  refine .g (fZ rfl aC1 rfl (lO rfl yM rfl .here (by first|exact aV rfl|rfl) ?_))
  refine kV rfl aWo (aB rfl aF) (aNw w.sh w.ops _ hwo (by omega) hokw) ?_
  refine .g (cP rfl rfl rfl rfl (mV rfl rfl (mv rfl (.t rfl rfl) (.u rfl) (mv rfl (.t rfl rfl) (.u rfl) (cp rfl (.t rfl rfl) (.s rfl) (.s rfl) rfl (mv rfl (.t rfl rfl) (.s rfl) (mv rfl (.fc rfl rfl) (.u rfl) (fz rfl (.fc rfl rfl) aC1 (.u rfl) (ld rfl (.fc rfl rfl) yM (.s rfl) (fun hc=>Rd.own .here (by first|exact aV rfl|rfl)) ?_)))))))))
  refine ln rfl (.fc rfl rfl) oV (.s rfl) (iF (((k+w.ops.length):Nat):Int) rfl (.fc rfl rfl) (.s rfl) (.s rfl) rfl (fun hc=>by omega) (fun hc=>eV (by omega) (by omega)) ?_)
  refine cp rfl (.fc rfl rfl) (.s rfl) (.u rfl) rfl (bZ rfl (.t rfl rfl) (.s rfl) (.s rfl) (bL rfl .no (.u rfl) (.s rfl) (.g (cD rfl (fun c3=>?_) (fun c3=>?_)))))
  ·have c3k:=c3
   simp at c3; omega
  have c3k:=c3
  try simp only [aD,aH,aE] at c3
  refine .g (aR rfl rfl rfl rfl ?_)
  refine .g (fZ rfl aC1 rfl (lO rfl yM rfl .here (by first|exact aV rfl|rfl) ?_))
  refine lE rfl oV rfl (aW (((k+1):Nat):Int) rfl rfl rfl rfl ?_)
  refine .g (fZ rfl aC1 rfl (lO rfl yM rfl .here (by first|exact aV rfl|rfl) ?_))
  refine Go.Tan.b1 rfl aGF aMy (.u rfl) rfl rfl (by decide) ?_; intro b67
  refine oC (xs:=(ws.take k)) (w) rfl aGF aMy rfl (.u rfl) (.u rfl) aI .here (rfl) (one1 rfl) (by rw [List.length_take]; omega) (by rw [List.length_take]; unfold maxLen; omega) ?_; intro v68 ov68
  refine .g (fz rfl (.f rfl rfl) aWW (.u rfl) (ld rfl (.f rfl rfl) kX (.s rfl) (fun hc=>Rd.own aI (by first|exact aV rfl|rfl)) ?_))
  refine bZ rfl .no (.u rfl) (.s rfl) (.g (aW (((k+1):Nat):Int) rfl rfl rfl rfl ?_))
  refine .g (aU (k+1,r-((8*w.ops.length+mJ w.ops:Nat):Int),v68) ?_ ?_ ?_ ?_ ?_)
  ·exact (aM rfl (aA rfl (aA rfl (eJ rfl (by rw [hsw]; rfl) (aM rfl (aA rfl (aA rfl (aA rfl eZ))))))))
  ·exact (mS .here (by rw [aFC ew]) (mS aI rfl (mS aI rfl (mS aI rfl (mS aI rfl (mS aI rfl (mS aI rfl mN)))))))
  ·first|omega|(dsimp only; omega)
  ·exact hGl0
  refine ⟨?_,?_⟩
  ·(try dsimp only)<;>(first|omega|rfl|assumption|(simp; done))
  (try dsimp only)<;>(first|omega|rfl|assumption|(simp; done))
 have c2k:=c2
 try simp only [aD,aH,aE] at c2
 refine .exit (.xcode (.xlp (.xblk (.code (.seq ?_)))))
 obtain rfl:k=ws.length:=by omega
 rw [List.take_length]
 refine rN .here (fun _ _=>rfl) (bF .here rfl (bF .here rfl (bF .here rfl (bF .here rfl (bF .here rfl (bF .here rfl (eT))))))) ?_; intro GfRP hRP hleRP evRP hsRP; subst evRP
 have hs:=hs.mono hleRP
 have hA:=hA.mono hleRP
 have hK:=hK.mono hleRP
 refine Wk.jn (α:=Nat×Nat×Nat×Nat×List Fi) (fun gh=>[(13,true,.int .i64 0)]) (fun gh=>[.blk bx (cl (Db.cells { iD bd bt root o 1#64 held bn with lg:=⟨⟨1#8,0#8,0#64,1#64,1#64⟩,1#64,false⟩,seq:=(0#64+BitVec.ofInt 64 (((jn ws).length:Nat):Int)) }) 165),.blk bd (cl (bH bm room 6) 118),.blk bm (mO ((gh.2.2.2.2).map Fi.fe) 4),.blk bn (cl [.slice (some ⟨gh.1,0,none⟩) gh.2.1 gh.2.2.1,.int .i64 ((gh.2.2.2.1:Nat):Int)] 225),rS 16 Nd.cells (.slice (some ⟨gh.1,0,none⟩) gh.2.1 gh.2.2.1) 249 (cK (cB 0 (jn ws)) (jn ws).length)]) (fun gh Gl=>(gh.2.1=(cK (cB 0 (jn ws)) (jn ws).length).length)∧(DkR gh.2.2.2.2 4)∧(gh.2.2.2.2.map Fi.nm=[aO 3 0,aO 4 0,aO 1 1])∧(cA gh.2.2.2.2≤4000)) [(0,true,_),(8,true,_)] [_]
  (aA rfl (aA rfl eZ)) (mS .here rfl mN) ?_ ?_
 ·refine dX ⟨true,false⟩ aY (by kernel_rfl) ?_
  refine Wp.one 0 (by kernel_rfl) ?_
  refine mV rfl rfl (.nil (Wp.one 1 (by kernel_rfl) ?_))
  refine nC rfl rfl (.nil (Wp.one 2 (by kernel_rfl) ?_))
  refine fZ rfl aWV rfl (.nil (Wp.one 4 (by kernel_rfl) ?_))
  refine mV rfl rfl (.nil (Wp.one 6 (by kernel_rfl) ?_))
  refine mV rfl rfl (.nil (Wp.b2 3 5 (by kernel_rfl) ?_ ?_))
  ·refine lO rfl lI rfl .here rfl ?_
   refine .nil (Wp.b1 5 (by kernel_rfl) ?_)
   refine kc rfl aL4 (aB rfl aF) (aGv hRP ws _ hsRP hA (by omega) (fun w hw=>by rw [h1 w hw]; decide)) ?_
   rintro _ G80 μ80 hG80 ⟨s80,rfl,rfl,hs80⟩
   have hs:=hs.mono hG80
   have hA:=hA.mono hG80
   have hK:=hK.mono hG80
   have hsRP:=hsRP.mono hG80
   refine .nil (Wp.b1 7 (by kernel_rfl) ?_)
   refine ka rfl (.inl rfl) aL3 (aB rfl (aB rfl (aB rfl aF))) (aEb aC aC aC aC aC) (aHL bx bm room bd bt held bn root o v0 F s80 (jn ws) _ hD hnm hz hr hr9 hmem hs80 (by rw [aIJ h1]; exact hw) hok hord hK) ?_
   rintro _ G82 μ82 hG82 ⟨bb,m,cap,sz,F4,hm4,hD4,hn4,hz4,rfl,rfl⟩
   have hs:=hs.mono hG82
   have hA:=hA.mono hG82
   have hK:=hK.mono hG82
   have hsRP:=hsRP.mono hG82
   have hs80:=hs80.mono hG82
   refine .nil (Wp.one 8 (by kernel_rfl) ?_)
   refine aS rfl rfl (.nil (Wp.last (by kernel_rfl) ?_))
   refine aU (bb,m,cap,sz,F4) ?_ ?_ ?_ ?_ ?_
   ·exact (aM rfl (aA rfl (aA rfl eZ)))
   ·exact (mS .here rfl (mS .here rfl (mS .here rfl (mS .here rfl (mS .here rfl (mS .here rfl mN))))))
   ·exact fL _
   ·exact (hG80).trans hG82
   refine ⟨?_,?_,?_,?_⟩
   ·(try dsimp only)<;>(exact hm4)
   ·(try dsimp only)<;>(exact hD4)
   ·(try dsimp only)<;>(exact hn4)
   (try dsimp only)<;>(exact hz4)
  refine kc rfl aL4 (aB rfl aF) (aGv hRP ws _ hsRP hA (by omega) (fun w hw=>by rw [h1 w hw]; decide)) ?_
  rintro _ G80 μ80 hG80 ⟨s80,rfl,rfl,hs80⟩
  have hs:=hs.mono hG80
  have hK:=hK.mono hG80
  refine .nil (Wp.one 3 (by kernel_rfl) ?_)
  refine lO rfl lI rfl .here rfl ?_
  refine .nil (Wp.b1 7 (by kernel_rfl) ?_)
  refine ka rfl (.inl rfl) aL3 (aB rfl (aB rfl (aB rfl aF))) (aEb aC aC aC aC aC) (aHL bx bm room bd bt held bn root o v0 F s80 (jn ws) _ hD hnm hz hr hr9 hmem hs80 (by rw [aIJ h1]; exact hw) hok hord hK) ?_
  rintro _ G82 μ82 hG82 ⟨bb,m,cap,sz,F4,hm4,hD4,hn4,hz4,rfl,rfl⟩
  have hs:=hs.mono hG82
  refine .nil (Wp.one 8 (by kernel_rfl) ?_)
  refine aS rfl rfl (.nil (Wp.last (by kernel_rfl) ?_))
  refine aU (bb,m,cap,sz,F4) ?_ ?_ ?_ ?_ ?_
  ·exact (aM rfl (aA rfl (aA rfl eZ)))
  ·exact (mS .here rfl (mS .here rfl (mS .here rfl (mS .here rfl (mS .here rfl (mS .here rfl mN))))))
  ·exact fL _
  ·exact (hG80).trans hG82
  refine ⟨?_,?_,?_,?_⟩
  ·(try dsimp only)<;>(exact hm4)
  ·(try dsimp only)<;>(exact hD4)
  ·(try dsimp only)<;>(exact hn4)
  (try dsimp only)<;>(exact hz4)
 intro gh Glj18 hGlj18 hFj18
 obtain ⟨bb,m,cap,sz,F4⟩:=gh; dsimp only at hFj18 ⊢
 obtain ⟨hm4,hD4,hn4,hz4⟩:=hFj18
 have hs:=hs.mono hGlj18
 refine .g (cP rfl rfl rfl rfl (.g (cD rfl (fun c4=>?_) (fun c4=>?_))))
 ·have c4k:=c4
  cases c4
 have c4k:=c4
 try simp only [aD,aH,aE] at c4
 refine .skip (.code (.seq (aQ rfl rfl (aS rfl rfl (.nc (.seq (.seq (rO 2 aAA 73 ?_))))))))
 refine .g (nC rfl rfl (fZ rfl oU rfl (lO rfl rV rfl iL rfl ?_)))
 refine .p (lE rfl aGH rfl (kE (ws.length) rfl .no oA hs (.u rfl) (.u rfl) (by omega) (by omega) ?_))
 intro h92 L92 eL92 lL92 hs92
 have lL92:=lL92 rfl
 refine lE rfl wH rfl (mV rfl rfl (.nc (.block ?_)))
 refine aX (α:=Nat×Value) (fun gh=>[(14,true,gh.2),(94,true,.int .i64 (gh.1:Int))]) (fun gh=>[rS 2 aAA gh.2 73 ((L92.take gh.1).map Wtg.c)])
  (fun gh Gl=>(gh.1≤L92.length)∧(gh.2.oneCell'=true)) (fun gh=>L92.length-gh.1) (0,.slice none 0 0) [(0,true,_),(8,true,_),(13,true,_),(92,true,_),(93,true,_)] [_,_,_,_,_,_]
  (aA rfl (aM rfl (aA rfl (aA rfl (aA rfl (aA rfl (aA rfl eZ)))))))
  (mS .here rfl (mS .here rfl (mS .here rfl (mS .here rfl (mS .here rfl (mS .here rfl (mS .here rfl mN))))))) ?_ ?_
 ·refine ⟨?_,?_⟩
  ·(try dsimp only)<;>(first|omega|rfl|assumption|(simp; done))
  (try dsimp only)<;>(first|omega|rfl|assumption|(simp; done))
 intro gh N1 Gl1 hN1 hGl1 hF1
 obtain ⟨k,v⟩:=gh; dsimp only at hF1 hN1 ⊢
 obtain ⟨hk2,ov⟩:=hF1
 have hs:=hs.mono hGl1
 have hs92:=hs92.mono hGl1
 refine .g (cP rfl rfl rfl rfl (.g (cD rfl (fun c5=>?_) (fun c5=>?_))))
 ·have c5k:=c5
  try simp only [aD,aH,aE] at c5
  refine .skip (.code (.seq (.block (.seq (dT rfl rfl (ih rfl .no oA (.u rfl) (.u rfl) (by omega) (by omega) (fun _=>hs92.nn (k:=k) (by first|omega|(simp only [Bool.and_eq_true,decide_eq_true_eq] at hc; omega)|(simp only [List.length_cons,List.length_nil]; omega))) ?_))))))
  obtain ⟨w,ew⟩:=dY (k:=k) (xs:=L92) (by omega)
  refine lA rfl .no aCv (.u rfl) (fun _=>(hs92.at (by omega) ew).rd) (fun _=>Wtg.len _) ?_
  refine al rfl aGM ?_; intro b16
  refine sw rfl (.u rfl) (.u rfl) rfl aGJ .here rfl (Wtg.one _) ?_
  refine .g (fZ rfl aFg rfl (lO rfl cJ rfl .here (by first|exact aV rfl|rfl) ?_))
  refine .p (bR (aAA w.c) rfl .no aWD (.cons (.u rfl) rfl (.cons (.u rfl) rfl .nil)) rfl (rfl) ?_)
  refine Go.Tan.b1 rfl aGG aMz (.u rfl) rfl rfl (by decide) ?_; intro b103
  refine oC (xs:=((L92.take k).map Wtg.c)) (w.c) rfl aGG aMz rfl (.u rfl) (.u rfl) aI .here (rfl) (vA rfl rfl) (by rw [List.length_map,List.length_take]; omega) (by rw [List.length_map,List.length_take]; unfold maxLen; omega) ?_; intro v104 ov104
  refine .g (aW (((k+1):Nat):Int) rfl rfl rfl rfl ?_)
  refine .g (aU (k+1,v104) ?_ ?_ ?_ ?_ ?_)
  ·exact (aA rfl (aM rfl (aA rfl (aA rfl (aA rfl (aA rfl (aA rfl eZ)))))))
  ·exact (mS .here (by rw [← aFC ew,List.map_append]; rfl) (mS aI rfl (mS aI rfl (mS aI rfl (mS aI rfl (mS aI rfl (mS aI rfl mN)))))))
  ·first|omega|(dsimp only; omega)
  ·exact hGl1
  refine ⟨?_,?_⟩
  ·(try dsimp only)<;>(first|omega|rfl|assumption|(simp; done))
  (try dsimp only)<;>(first|omega|rfl|assumption|(simp; done))
 have c5k:=c5
 try simp only [aD,aH,aE] at c5
 refine .g (nC rfl rfl (fZ rfl oU rfl (lO rfl rV rfl iL rfl ?_)))
 refine .p (lE rfl aGH rfl (kD (ws.length) rfl .no oA hs (.u rfl) (.u rfl) (by omega) (by omega) ?_))
 intro h113 L113 eL113 lL113 hs113
 have lL113:=lL113 rfl
 refine kc rfl aWp (aB rfl aF) (aOD h113 _ (by rw [eL113,List.length_drop]; omega) _) ?_
 rintro _ G114 μ114 hG114 ⟨oa,rfl,rfl⟩
 refine nC rfl rfl (fZ rfl oU rfl (s1 rfl (.u rfl) (.u rfl) rfl aGI iL (by first|decide | (show _<2; decide)) (rfl) ?_))
 refine .nil (.code (.seq (dP rfl rfl (mV rfl rfl (aS rfl rfl (aS rfl rfl (.nc (.ret (bD Tryz.results109 (.tmp rfl (.tmp rfl .nil)) (mS .here rfl (mS .here rfl (mS .here rfl (mS .here rfl (mS .here rfl (mS .here rfl (mS .here rfl mN))))))) ?_)))))))))
 have ek:(L92.take k).map Wtg.c=ws.map Wtg.c:=by rw [show k=L92.length by omega,List.take_length,eL92,List.take_length]
 rw [ek]
 exact ⟨oa,v,bb,m,cap,sz,F4,ov,hm4,hD4,hn4,hz4,rfl,rfl⟩
end Go.Proofs.YtoifkgkandfeiaaGreatDoor
namespace Go.Proofs.YtoifkgkandfeiaaGreatDoor
open Go.Tan Go.RowKit Go.Maps Go.Sort Go.Shelf
theorem uJ:aT Tryz.prog 77 0=some 0:=by kernel_rfl
theorem aDa:aT Tryz.prog 77 1=some 1:=by kernel_rfl
theorem aGR:aT Tryz.prog 77 2=some 2:=by kernel_rfl
theorem aGS:aT Tryz.prog 77 3=some 34:=by kernel_rfl
theorem aGV:aL Tryz.prog 50=true:=by kernel_rfl
theorem aGW:aL Tryz.prog 51=true:=by kernel_rfl
theorem lV:aT Tryz.prog 77 5=some 42:=by kernel_rfl
theorem oW:aT Tryz.prog 77 6=some 43:=by kernel_rfl
theorem aBc:cE Tryz.prog 75=some 1:=by kernel_rfl
theorem aGT:aL Tryz.prog 26=true:=by kernel_rfl
theorem aGU:aL Tryz.prog 27=true:=by kernel_rfl
theorem aGQ:cT Tryz.prog 77 [0,1,2,3,4]=some ([.pointer none,.pointer none,.int .u8 0,.int .u8 0,.int .u8 0,.int .u8 0,.int .u8 0,.int .u8 0,.int .u8 0,.int .u8 0,.int .u8 0,.int .u8 0,.int .u8 0,.int .u8 0,.int .u8 0,.int .u8 0,.int .u8 0,.int .u8 0,.int .u8 0,.int .u8 0,.int .u8 0,.int .u8 0,.int .u8 0,.int .u8 0,.int .u8 0,.int .u8 0,.int .u8 0,.int .u8 0,.int .u8 0,.int .u8 0,.int .u8 0,.int .u8 0,.int .u8 0,.int .u8 0,.int .i64 0,.int .i64 0,.int .i64 0,.int .i64 0,.int .i64 0,.int .i64 0,.int .i64 0,.int .i64 0,.pointer none,.pointer none],[(0,1),(1,1),(2,32),(34,7),(41,1)]):=by kernel_rfl
theorem aDb:aL Tryz.prog 28=true:=by kernel_rfl
theorem aUE (bm room dk tr:Nat) (root:Nat→Y) (o:Opts) (ep o1:BitVec 64) (G:PM):SrchP Tryz.prog 127 87 165 118 225 249 bm room dk tr 0 0 root o ep o1 0#64 0 0 0#64 [] [] G:=fun bx held now G1 hle =>
 (cX fun G2 l2 h2=>cX fun G3 l3 h3=>cX fun G4 l4 h4=>cX fun G5 l5 h5=>aJ1 bx (eY dk tr root o ep held now) bm room 0 0 [] G5 (((h3.mono l4).mono l5)) (h4.mono l5) h5 yK o1 ((((h2.mono l3).mono l4).mono l5)) rfl).mono fun G' μ' u h=>by
  obtain ⟨ν1,rfl,ν2,rfl,ν3,rfl,ν4,rfl,bl,v,ov,rfl,rfl⟩:=h
  exact ⟨bl,v,⟨none,0⟩,ov,SlR.nul,rfl,rfl⟩
theorem aUF (bm room dk tr:Nat) (root:Nat→Y) (o:Opts) (ep o1:BitVec 64) (F:List Fi) (clk dn:Nat) (G:PM) (hD:DkR F clk) (h:FirstF G root 1#64 0#64 0#64 F clk dn) (hK:RdNP G 6 0 (wa 64 kW)):SrchP Tryz.prog 127 87 165 118 225 249 bm room dk tr dn clk root o ep o1 1#64 1 2 2#64 F [aO 4 0,aO 3 0] G:=fun bx held now G1 hle=>by
 obtain ⟨rfl,rfl,f1,f2,L,rfl,a1,a2,a3,a4,a5,a6,a7,a8,a9,a10⟩:=h
 exact aTu bx bm room dk tr held now root o ep o1 f1 f2 L G1 hD a1 a2 a3 a4 a5 (a7.mono hle) a8 (a10.mono hle) (hK.mono hle)
theorem aEJ {G:PM} {root:Nat→Y} {F:List Fi} {clk dn:Nat} (h:FirstF G root 1#64 0#64 0#64 F clk dn):clk=3∧dn=5∧F.map Fi.nm=[aO 3 0,aO 4 0]∧cA F≤2000∧F.length=2∧okF F:=by
 obtain ⟨rfl,rfl,f1,f2,L,rfl,a1,a2,a3,a4,a5,a6,a7,a8,a9,a10⟩:=h
 have h1:f1.n≤700:=by rw [a5,List.length_append,fE]; omega
 have h2:f2.n≤20:=by rw [a8,iC]; show (aO 3 0).size≤20; rw [sz3]; decide
 refine ⟨rfl,rfl,by rw [List.map_cons,List.map_cons,List.map_nil,a1,a2]; rfl,by simp only [cA]; omega,rfl,fun f hf=>?_⟩
 rcases List.mem_cons.1 hf with rfl | hf
 ·exact ⟨by omega,by rw [a5]; exact a7.le,by omega⟩
 rw [List.mem_singleton.1 hf]; exact ⟨by omega,by rw [a8]; exact a10.le,by omega⟩
theorem aHz {F:List Fi} {nm:ByteArray} (h:F.map Fi.nm=[aO 3 0,aO 4 0]) (h1:aO 3 0≠nm) (h2:aO 4 0≠nm):bK nm F=none:=xB (by
 rw [h]
 intro e
 rcases List.mem_cons.1 e with e | e
 ·exact absurd e.symm h1
 ·exact absurd (List.mem_singleton.1 e).symm h2)
theorem aKs (bw:Nat) (most:Int) (bd bm room bt done clk:Nat) (root:Nat→Y) (o:Opts) (o1 mq:BitVec 64) (a0 b0:Int) (n0:BitVec 64) (F:List Fi) (K:List ByteArray) (G:PM) (hO:oN o=true) (ho1:o1.toNat≤1000) (hD:DkR F clk) (hgn:∀ f∈F,f.nm.size≠0) (hKl:K.length≤1000) (hall:∀ f∈F,f.nm∈K) (hn3:bK (aO 3 n0.toNat) F=none) (hn5:bK (aO 5 0) F=none) (hn0:n0=0#64∨n0=2#64) (hz:cA F≤2000) (hl9:F.length≤10) (hmk:mq.toNat≤900) (hd9:done≤80000000) (hr:5000≤room) (hr9:room≤1000000000) (hK:RdNP G 6 0 (wa 64 kW)) (hsr:SrchP Tryz.prog 127 87 165 118 225 249 bm room bd bt done clk root o (o1+1#64) (o1+1#64) mq a0 b0 n0 F K G):Ct Tryz.prog 28 ([.pointer (some ⟨bw,0,none⟩)]:List Value).toArray G [.blk bw (cl (cV bd bt root o most (.pointer none) (.pointer none)) 77),.blk bd (cl (bH bm room done) 118),.blk bm (mO (F.map Fi.fe) clk),.blk bt (cl [uv .u64 mq,uv .u64 o1] 87)] (fun G' μ' u=>∃ (bq held now bg:Nat) (v:Value) (F':List Fi) (clk' dn:Nat),v.oneCell'=true∧DkR F' clk'∧(F=[]→clk=0→done=0→FirstF G' root (o1+1#64) mq n0 F' clk' dn)∧μ'=[.blk bw (cl (cV bd bt root o most ((pt bq)) ((pt bg))) 77),.blk bg (cl [pt bq,.slice none 0 0] 140),.blk bq (cl (Db.cells (Db.g3 bd bt root o (o1+1#64) held now n0)) 165),.blk bd (cl (bH bm room dn) 118),.blk bm (mO (F'.map Fi.fe) clk'),.blk bt (cl [uv .u64 (mq+1#64),uv .u64 (o1+1#64)] 87),.blk now (cl [v,.int .i64 ((0:Nat):Int)] 225),rS 16 Nd.cells v 249 [Nd.z],.mp held .u64 (fun _=>none)]∧u=.int .i64 0):=by
 refine Ct.of Tryz.func28 rfl Tryz.ntmps28 rfl fun w0 hs0=>?_
 refine .seq (aQ rfl rfl (aS rfl rfl (.nc (.seq (dX ⟨true,false⟩ aY (by kernel_rfl) ?_)))))
 refine Wp.one 0 (by kernel_rfl) ?_
 refine mV rfl rfl (.nil (Wp.one 1 (by kernel_rfl) ?_))
 refine nC rfl rfl (.nil (Wp.one 2 (by kernel_rfl) ?_))
 refine fZ rfl uJ rfl (.nil (Wp.one 3 (by kernel_rfl) ?_))
 refine lO rfl gU rfl .here rfl ?_
 refine .nil (Wp.one 4 (by kernel_rfl) ?_)
 refine mV rfl rfl (.nil (Wp.one 5 (by kernel_rfl) ?_))
 refine nC rfl rfl (.nil (Wp.one 6 (by kernel_rfl) ?_))
 refine fZ rfl aDa rfl (.nil (Wp.one 7 (by kernel_rfl) ?_))
 refine lO rfl pY rfl .here rfl ?_
 refine .nil (Wp.one 8 (by kernel_rfl) ?_)
 refine mV rfl rfl (.nil (Wp.one 9 (by kernel_rfl) ?_))
 refine nC rfl rfl (.nil (Wp.one 10 (by kernel_rfl) ?_))
 refine fZ rfl aGR rfl (.nil (Wp.one 11 (by kernel_rfl) ?_))
 refine lA rfl .no dJ (.u rfl) (fun _=>RdN.part (n:=32) (cs':=ba 32 root) .here (rfl)) (fun _=>(bP _ _)) ?_
 refine .nil (Wp.one 12 (by kernel_rfl) ?_)
 refine mV rfl rfl (.nil (Wp.one 13 (by kernel_rfl) ?_))
 refine nC rfl rfl (.nil (Wp.one 14 (by kernel_rfl) ?_))
 refine fZ rfl aGS rfl (.nil (Wp.one 15 (by kernel_rfl) ?_))
 refine lA rfl .no mQ (.u rfl) (fun _=>RdN.part (n:=7) (cs':=o.cells) .here (rfl)) (fun _=>rfl) ?_
 refine .nil (Wp.b1 16 (by kernel_rfl) ?_)
 refine ka rfl (.inl rfl) aGV (aB rfl (aB rfl (aB rfl (aB rfl aF)))) (fF aC aC aC) (aOn bd bm room bt done clk root o o1 mq a0 b0 n0 F K _ hO ho1 hD hgn hKl hall hn3 hn5 hn0 hz hl9 hmk hd9 hr hr9 hK hsr) ?_
 rintro _ G22 μ22 hG22 ⟨bq,held,now,v,F2,clk2,dn2,ov,hD2,hl2,hfst,rfl,rfl⟩
 refine .nil (Wp.one 17 (by kernel_rfl) ?_)
 refine mV rfl rfl (.nil (Wp.one 18 (by kernel_rfl) ?_))
 refine eX rfl rfl rfl (.nil (Wp.one 19 (by kernel_rfl) ?_))
 refine eX rfl rfl rfl (.nil (Wp.one 20 (by kernel_rfl) ?_))
 refine aS rfl rfl (.nil (Wp.one 21 (by kernel_rfl) ?_))
 refine aS rfl rfl (.nil (Wp.last (by kernel_rfl) ?_))
 refine .g (kc rfl aGW (aB rfl aF) (aPp bq _) ?_)
 rintro _ G29 μ29 hG29 ⟨bg,rfl,rfl⟩
 have hfst:_→_→_→FirstF _ root _ mq n0 F2 clk2 dn2:=fun x1 x2 x3=>(hfst x1 x2 x3).mono hG29
 refine nC rfl rfl (fZ rfl lV rfl (s1 rfl (.u rfl) (.u rfl) rfl uG oS ((by rw [pT]; decide)) (aAs) ?_))
 refine nC rfl rfl (fZ rfl oW rfl (s1 rfl (.u rfl) (.u rfl) rfl aBc .here ((by rw [pT]; decide)) (aAt) ?_))
 refine .nil (.code (.seq (bB rfl rfl (mV rfl rfl (aS rfl rfl (.nc (.ret (bD Tryz.results28 (.tmp rfl .nil) (mS .here rfl (mS .here rfl (mS .here rfl (mS .here rfl (mS .here rfl (mS .here rfl (mS .here rfl (mS .here rfl (mS .here rfl mN))))))))) ?_))))))))
 exact ⟨bq,held,now,bg,v,F2,clk2,dn2,ov,hD2,hfst,rfl,rfl⟩
theorem aKr (room:Nat) (root:Nat→Y) (o:Opts) (most:Int) (G:PM) (hO:oN o=true) (hr:5000≤room) (hr9:room≤1000000000) (hK:RdNP G 6 0 (wa 64 kW)):Ct Tryz.prog 8 ([.int .i64 ((room:Nat):Int),.agg (ba 32 root).toArray,o.val,.int .i64 most]:List Value).toArray G [] (fun G' μ' u=>∃ (bd bm bt bw bq held now bg:Nat) (v:Value) (F':List Fi) (clk' dn:Nat),v.oneCell'=true∧DkR F' clk'∧FirstF G' root 1#64 0#64 0#64 F' clk' dn∧μ'=[.blk bw (cl (cV bd bt root o most ((pt bq)) ((pt bg))) 77),.blk bg (cl [pt bq,.slice none 0 0] 140),.blk bq (cl (Db.cells (Db.g3 bd bt root o 1#64 held now 0#64)) 165),.blk bd (cl (bH bm room dn) 118),.blk bm (mO (F'.map Fi.fe) clk'),.blk bt (cl [uv .u64 (0#64+1#64),uv .u64 1#64] 87),.blk now (cl [v,.int .i64 ((0:Nat):Int)] 225),rS 16 Nd.cells v 249 [Nd.z],.mp held .u64 (fun _=>none)]∧u=.tuple #[.pointer (some ⟨bw,0,none⟩),.int .i64 0]):=by
 refine Ct.of Tryz.func8 rfl Tryz.ntmps8 rfl fun w0 hs0=>?_
 refine .seq (dT rfl rfl ?_)
 refine bX rfl rfl rfl ?_; intro b5
 refine bX rfl rfl rfl ?_; intro b6
 refine aS rfl rfl (aS rfl rfl (.nc (.seq ?_)))
 refine dL aC (by intro b hb; cases hb) ?_; intro Gfb5 hleb5 hbb5
 have hK:=hK.mono hleb5
 refine dL .here (by intro b hb; cases hb) ?_; intro Gfb6 hleb6 hbb6
 have hK:=hK.mono hleb6
 have hbb5:=hbb5.mono hleb6
 refine dX ⟨true,false⟩ aY (by kernel_rfl) ?_
 refine Wp.one 0 (by kernel_rfl) ?_
 refine mV rfl rfl (.nil (Wp.one 5 (by kernel_rfl) ?_))
 refine mV rfl rfl (.nil (iE 3 (by kernel_rfl) ?_))
 refine lA rfl .no dJ (.u rfl) (fun _=>(hbb5.rdn (m:=32) (cs':=ba 32 root) (rfl)).rd) (fun _=>(bP _ _)) ?_
 refine .nil ⟨⟨rfl,rfl⟩,?_⟩
 refine iE 4 (by kernel_rfl) ?_
 refine lA rfl .no mQ (.u rfl) (fun _=>(hbb6.rdn (m:=7) (cs':=o.cells) (rfl)).rd) (fun _=>rfl) ?_
 refine .nil ⟨⟨rfl,rfl⟩,?_⟩
 refine Wp.b1 1 (by kernel_rfl) ?_
 refine kc rfl aGT (aB rfl aF) (aD3 room _ hr9) ?_
 rintro _ G13 μ13 hG13 ⟨bd,bm,rfl,rfl⟩
 have hK:=hK.mono hG13
 refine .nil (Wp.b1 2 (by kernel_rfl) ?_)
 refine kc rfl aGU aF (aFD _) ?_
 rintro _ G14 μ14 hG14 ⟨bt,rfl,rfl⟩
 have hK:=hK.mono hG14
 refine .nil (Wp.one 6 (by kernel_rfl) ?_)
 refine bR (cV bd bt root o most (.pointer none) (.pointer none)) rfl .no aGQ (.cons (.u rfl) rfl (.cons (.u rfl) rfl (.cons (.u rfl) rfl (.cons (.u rfl) rfl (.cons (.u rfl) rfl .nil))))) rfl (rfl) (.nil (Wp.b1 7 (by kernel_rfl) ?_))
 refine bX rfl rfl rfl ?_; intro b19
 refine .nil (Wp.one 8 (by kernel_rfl) ?_)
 refine aS rfl rfl (.nil (Wp.last (by kernel_rfl) ?_))
 refine .g (ka rfl (.inr rfl) aDb (aB rfl aF) (jF .here aC aC .here) (aKs b19 most bd bm room bt 0 0 root o 0#64 0#64 0 0 0#64 [] [] _ hO (by decide) yK (fun f hf=>absurd hf List.not_mem_nil) (Nat.zero_le _) (fun f hf=>absurd hf List.not_mem_nil) rfl rfl (.inl rfl) (Nat.zero_le _) (Nat.zero_le _) (by decide) (by decide) hr hr9 hK (aUE bm room bd bt root o _ _ _)) ?_)
 rintro _ G21 μ21 hG21 ⟨bq,held,now,bg,v,F2,clk2,dn2,ov,hD2,hfst,rfl,rfl⟩
 refine .g (cP rfl rfl rfl rfl (.g (cD rfl (fun c1=>?_) (fun c1=>?_))))
 ·have c1k:=c1
  cases c1
 have c1k:=c1
 try simp only [aD,aH,aE] at c1
 refine .skip (.code (.seq (dP rfl rfl (mV rfl rfl (aS rfl rfl (aS rfl rfl (.nc (.ret (bD Tryz.results8 (.tmp rfl (.tmp rfl .nil)) (mS .here rfl (mS .here rfl (mS .here rfl (mS .here rfl (mS .here rfl (mS .here rfl (mS .here rfl (mS .here rfl (mS .here rfl mN))))))))) ?_)))))))))
 exact ⟨bd,bm,bt,b19,bq,held,now,bg,v,F2,clk2,dn2,ov,hD2,(hfst rfl rfl rfl),rfl,rfl⟩
end Go.Proofs.YtoifkgkandfeiaaGreatDoor

