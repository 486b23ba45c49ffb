/- Lemmas and contracts of functions, joined. -/
import Derived.Test.YtbdnclpopappeaaGreatDoorMr5
set_option linter.unusedSimpArgs false
set_option linter.unusedVariables false
set_option linter.unusedSectionVars false
namespace Go.Proofs.YtbdnclpopappeaaGreatDoor
open Go.Tan Go.RowKit
theorem aSZ:fX Tryz.prog 142 []=some ([],[]):=by kernel_rfl
def uA:PanicEntry:={ v:=.iface 142 (.agg #[]),recovered:=false }
def aMI:PanicEntry:={ v:=.iface 142 (.agg #[]),recovered:=true }
theorem nJ (b:Bool) (G:PM):Cp Tryz.prog 67 ([.bool b]:List Value).toArray G [] (fun _ μ' u=>b=true∧μ'=[]∧u=.tuple #[]) (fun ch=>ch=[uA]∧b=false):=by
 refine Cp.of Tryz.func67 rfl Tryz.ntmps67 rfl fun w0 hs0=>?_
 refine .g (nt rfl .no (.u rfl) (.g (cD rfl (fun c1=>?_) (fun c1=>?_))))
 ·refine .g (dU [] rfl .no aSZ .nil rfl (rfl) ?_)
  refine .read (v:=.iface 142 (.agg #[])) rfl (.inr rfl) .no (fun _ a w ha _=>?_) ?_
  ·have h5:a.eval (.tmp 4)=.agg #[]:=ha.eval (c:=true) rfl rfl
   simp only [execOp,h5]
   unfold Instr.makeInterface
   simp [Sem.run_bind,run_underlying Tryz.underlying142]
  refine pnc rfl rfl (fun _ _ _ _=>⟨rfl,by simpa using c1⟩)
 refine .g (aP Tryz.results67 .nil ?_)
 exact ⟨by simpa using c1,rfl,rfl⟩
theorem aDX (root:Nat→Y) (h:Hd) (ha:Sh) (vr vi:Value) (b part:Nat) (xs:List Y) (hx:Sh) (G:PM) (hsa:SlR G 1 aL ha (aX h)) (hsx:SlR G 1 aL hx xs) (hK:RdNP G 1 0 (wa 64 kW)) (hlx:xs.length≤1000000) (hp:part≤1000000000):Cp Tryz.prog 94 ([.pointer (some ⟨b,0,none⟩),.int .i64 (part:Int),hx.val xs.length]:List Value).toArray G [.blk b (cl (dK (dE root (aX h)) (dF root (aX h)) (ha.val (aX h).length) vr vi) 98)] (fun G' μ' u=>∃ L h',gV root h part xs=some L∧μ'=[.blk b (cl (dK (dE root (aX h)) (dF root (aX h)) (ha.val (aX h).length) vr vi) 98)]∧u=Sh.val h' L.length∧SlR G' 1 aL h' L) (fun ch=>ch=[uA]∧(gV root h part xs=none)):=by
 refine Cp.of Tryz.func94 rfl Tryz.ntmps94 rfl fun w0 hs0=>?_
 refine .g (bG (mc:=⟨false,false⟩) [0,1,2,3,4,5,7,8,9,10,11,6,12,13,14,15,16,17] aV (by kernel_rfl) ?_)
 refine .p (nC rfl rfl (fZ rfl aKM rfl (lA rfl .no pM (.u rfl) (fun _=>RdN.part (n:=64) (cs':=ba 32 (dE root (aX h))++ba 32 (dF root (aX h))) .here (aEN)) (fun _=>(by first|exact qE|exact qL|rfl)) ?_)))
 refine .p (ci rfl .no rfl cW (.u rfl) ?_)
 refine .p (nC rfl rfl (fZ rfl aKN rfl (lN rfl bV rfl (Rd.own .here aEM) ?_)))
 refine .p (kV rfl aE1 (aB rfl aE) (aCH _ _) ?_)
 refine kc rfl aKU (aB rfl (aB rfl (aB rfl (aB rfl aE)))) (aFB (dE root (aX h)) (dF root (aX h)) (hZ (BitVec.ofInt 64 (part:Int))) (aX h) ha xs hx _ hsa hsx hK (by rw [mR]; decide) (by omega)) ?_
 rintro _ G22 μ22 hG22 ⟨v22,L22,e22,hO22,rfl,rfl⟩
 refine .p (eX rfl rfl rfl (eX rfl rfl rfl (.g (cP rfl rfl rfl rfl (lH rfl iI (aB rfl aE) (nJ _ _) (fun ch G9 ρ9 μ9 hle9 hd he hm=>⟨hd.1,aHY (o:=gV root h part xs) hO22 hd.2⟩) ?_)))))
 rintro _ G27 μ27 hG27 ⟨hq27,rfl,rfl⟩
 refine .nil (.code (.seq (bD rfl rfl (mV rfl rfl (aS rfl rfl (.nc (.ret ?_)))))))
 refine aBo .here (wF .here rfl (aA3)) ?_; intro GfR22 hR22 hleR22 evR22 hsR22; subst evR22
 refine We.fin Tryz.results94 (.tmp rfl .nil) (mS .here rfl mN) ?_
 exact ⟨L22,hR22,aHZ (o:=gV root h part xs) hO22 hq27,rfl,rfl,hsR22⟩
theorem aJh (root:Nat→Y) (h:Hd) (ps:List (RowT×Sh)) (ix:List Y) (ha hr hi:Sh) (b:Nat) (G:PM) (hR:RdrR G h ps ix ha hr hi) (hK:RdNP G 1 0 (wa 64 kW)) (i part:Nat) (p:RowT×Sh) (hp:ps[i]? = some p) (hpt:part≤1000000000):Cp Tryz.prog 56 ([.pointer (some ⟨b,0,none⟩),.int .i64 (i:Int),.int .i64 (part:Int)]:List Value).toArray G [.blk b (cl (dK (dE root (aX h)) (dF root (aX h)) (ha.val (aX h).length) (hr.val ps.length) (hi.val ix.length)) 98)] (fun G' μ' u=>∃ L h',dS root h p.1 part=some L∧μ'=[.blk b (cl (dK (dE root (aX h)) (dF root (aX h)) (ha.val (aX h).length) (hr.val ps.length) (hi.val ix.length)) 98)]∧u=Sh.val h' L.length∧SlR G' 1 aL h' L) (fun ch=>ch=[uA]∧(dS root h p.1 part=none)):=by
 refine Cp.of Tryz.func56 rfl Tryz.ntmps56 rfl fun w0 hs0=>?_
 have hpm:=List.mem_of_getElem? hp
 have hpe:=hR.each p hpm; have hsm:=hR.sm p hpm
 have hil:=(List.getElem?_eq_some_iff.1 hp).1; have hpl:=hR.len
 refine .g (nC rfl rfl (fZ rfl nB rfl (lN rfl qQ rfl (Rd.own .here kR) ?_)))
 refine mV rfl rfl (ih rfl .no nS (.u rfl) (.u rfl) (by omega) (by omega) (fun _=>hR.rows.nn (k:=i) (by first|omega|(simp only [Bool.and_eq_true,decide_eq_true_eq] at hc; omega)|(simp only [List.length_cons,List.length_nil]; omega))) ?_)
 refine lA rfl .no tF (.u rfl) (fun _=>(hR.rows.at (by omega) hp).rd) (fun _=>lW) ?_
 refine al rfl aAX ?_; intro b7
 refine sw rfl (.u rfl) (.u rfl) rfl aE2 .here rfl (aDt _) ?_
 refine .nil (.code (.seq (dP ⟨true,false⟩ aV (by kernel_rfl) ?_)))
 refine Wp.one 0 (by kernel_rfl) ?_
 refine fZ rfl qS rfl (.nil (Wp.one 1 (by kernel_rfl) ?_))
 refine lO rfl bV rfl .here (by first|exact aJ rfl|rfl) ?_
 refine .nil (Wp.one 3 (by kernel_rfl) ?_)
 refine fZ rfl qT rfl (.nil (Wp.b2 2 4 (by kernel_rfl) ?_ ?_))
 ·refine kV rfl xN (aB rfl aE) (wJ p.1.bytes p.2 _ hpe hK (by omega)) ?_
  refine .nil (Wp.one 4 (by kernel_rfl) ?_)
  refine lA rfl .no cH (.u rfl) (fun _=>RdN.part (n:=32) (cs':=ba 32 p.1.leaf) .here (aDs)) (fun _=>(by first|exact lW|exact aU _ _|rfl)) ?_
  refine .nil (Wp.one 5 (by kernel_rfl) ?_)
  refine yU rfl .no uZ (.u rfl) (.u rfl) ?_
  refine .nil (tS 6 (by kernel_rfl) (by kernel_rfl) ?_)
  refine lH rfl iI (aB rfl aE) (nJ _ _) (fun ch G9 ρ9 μ9 hle9 hd he hm=>⟨hd.1,aJe hd.2⟩) ?_
  rintro _ G21 μ21 hG21 ⟨hq21,rfl,rfl⟩
  have hR:=hR.mono hG21
  have hK:=hK.mono hG21
  have hpe:=hpe.mono hG21
  refine .nil (Wp.last (by kernel_rfl) ?_)
  refine .g (fZ rfl qS rfl (lO rfl bV rfl .here (by first|exact aJ rfl|rfl) ?_))
  refine wH rfl aAT (aB rfl (aB rfl (aB rfl aE))) (bQ aF) (aDX root h ha _ _ b part p.1.bytes p.2 _ hR.ad hpe hK hsm hpt) (fun ch G9 ρ9 μ9 hle9 hd he hm=>⟨hd.1,(aBp hq21).trans hd.2⟩) ?_
  rintro _ G26 μ26 hG26 ⟨L26,h26,hO26,rfl,rfl,hs26⟩
  have hR:=hR.mono hG26
  have hK:=hK.mono hG26
  have hpe:=hpe.mono hG26
  refine aS rfl rfl (.nc (.ret (We.fin Tryz.results56 (.tmp rfl .nil) (mS .here rfl mN) ?_)))
  exact ⟨L26,h26,(aBp hq21).trans hO26,rfl,rfl,hs26⟩
 refine lA rfl .no cH (.u rfl) (fun _=>RdN.part (n:=32) (cs':=ba 32 p.1.leaf) .here (aDs)) (fun _=>(by first|exact lW|exact aU _ _|rfl)) ?_
 refine .nil (Wp.b1 2 (by kernel_rfl) ?_)
 refine kV rfl xN (aB rfl aE) (wJ p.1.bytes p.2 _ hpe hK (by omega)) ?_
 refine .nil (Wp.one 5 (by kernel_rfl) ?_)
 refine yU rfl .no uZ (.u rfl) (.u rfl) ?_
 refine .nil (tS 6 (by kernel_rfl) (by kernel_rfl) ?_)
 refine lH rfl iI (aB rfl aE) (nJ _ _) (fun ch G9 ρ9 μ9 hle9 hd he hm=>⟨hd.1,aJe hd.2⟩) ?_
 rintro _ G21 μ21 hG21 ⟨hq21,rfl,rfl⟩
 have hR:=hR.mono hG21
 have hK:=hK.mono hG21
 have hpe:=hpe.mono hG21
 refine .nil (Wp.last (by kernel_rfl) ?_)
 refine .g (fZ rfl qS rfl (lO rfl bV rfl .here (by first|exact aJ rfl|rfl) ?_))
 refine wH rfl aAT (aB rfl (aB rfl (aB rfl aE))) (bQ aF) (aDX root h ha _ _ b part p.1.bytes p.2 _ hR.ad hpe hK hsm hpt) (fun ch G9 ρ9 μ9 hle9 hd he hm=>⟨hd.1,(aBp hq21).trans hd.2⟩) ?_
 rintro _ G26 μ26 hG26 ⟨L26,h26,hO26,rfl,rfl,hs26⟩
 refine aS rfl rfl (.nc (.ret (We.fin Tryz.results56 (.tmp rfl .nil) (mS .here rfl mN) ?_)))
 exact ⟨L26,h26,(aBp hq21).trans hO26,rfl,rfl,hs26⟩
theorem aM8 (root:Nat→Y) (h:Hd) (ps:List (RowT×Sh)) (ix:List Y) (ha hr hi:Sh) (b:Nat) (G:PM) (hR:RdrR G h ps ix ha hr hi) (hK:RdNP G 1 0 (wa 64 kW)) (i:Nat) (p:RowT×Sh) (hp:ps[i]? = some p):Cp Tryz.prog 59 ([.pointer (some ⟨b,0,none⟩),.int .i64 (i:Int)]:List Value).toArray G [.blk b (cl (dK (dE root (aX h)) (dF root (aX h)) (ha.val (aX h).length) (hr.val ps.length) (hi.val ix.length)) 98)] (fun G' μ' u=>∃ l h',hY root h (ps.map (·.1)) i=some l∧μ'=[.blk b (cl (dK (dE root (aX h)) (dF root (aX h)) (ha.val (aX h).length) (hr.val ps.length) (hi.val ix.length)) 98)]∧u=Sh.val h' l.length∧SlR G' 4 Ent.cells h' l) (fun ch=>ch=[uA]∧(hY root h (ps.map (·.1)) i=none)):=by
 refine Cp.of Tryz.func59 rfl Tryz.ntmps59 rfl fun w0 hs0=>?_
 have hpm:=List.mem_of_getElem? hp
 have hsm:=hR.sm p hpm
 have hil:=(List.getElem?_eq_some_iff.1 hp).1; have hpl:=hR.len
 refine .g (aW (((2+i):Nat):Int) rfl rfl rfl rfl ?_)
 refine wH rfl aB5 (aB rfl (aB rfl (aB rfl aE))) (bQ .here) (aJh root h ps ix ha hr hi b _ hR hK i (2+i) p hp (by omega)) (fun ch G9 ρ9 μ9 hle9 hd he hm=>⟨hd.1,aMy (sQ rfl hp) hd.2⟩) ?_
 rintro _ G12 μ12 hG12 ⟨y,h12,hwy,rfl,rfl,hs12⟩
 have hly:=wZ hwy
 refine kc rfl aKP (aB rfl aE) (aFZ y h12 _ hs12 (by omega)) ?_
 rintro _ G13 μ13 hG13 ⟨h13,l13,er13,hB13,rfl,rfl,hs13⟩
 refine .p (eX rfl rfl rfl (eX rfl rfl rfl (.g (cP rfl rfl rfl rfl (lH rfl iI (aB rfl aE) (nJ _ _) (fun ch G9 ρ9 μ9 hle9 hd he hm=>⟨hd.1,aMz (sQ rfl hp) hwy hB13 hd.2⟩) ?_)))))
 rintro _ G18 μ18 hG18 ⟨hq18,rfl,rfl⟩
 have hs13:=hs13.mono hG18
 refine .nil (.code (.seq (bD rfl rfl (mV rfl rfl (aS rfl rfl (.nc (.ret (We.fin Tryz.results59 (.tmp rfl .nil) (mS .here rfl mN) ?_))))))))
 exact ⟨l13,h13,aM0 (sQ rfl hp) hwy hB13 hq18,rfl,rfl,hs13⟩
theorem aRb {xs:List Y} {hx:Sh} {G:PM} {h:Hd} {er:Int} (hs:SlR G 1 aL hx xs) (hl:xs.length≤100000000000000) (e:gY xs=(h,er)):Ct Tryz.prog 91 ([hx.val xs.length]:List Value).toArray G [] (fun _ μ' u=>μ'=[]∧u=.tuple #[.agg h.cells.toArray,.int .i64 er]):=by
 have:=aFF xs hx G hs hl
 rw [e] at this
 exact this
set_option maxHeartbeats 4000000 in
theorem aFb (root:Nat→Y) (m:Meta) (xs:List Y) (hx:Sh) (G:PM) (hw:m.wf) (hs:SlR G 1 aL hx xs) (hK:RdNP G 1 0 (wa 64 kW)) (hl:xs.length≤1000000):Cp Tryz.prog 54 ([.agg (ba 32 root).toArray,m.val,hx.val xs.length]:List Value).toArray G [] (fun G' μ' u=>∃ (ix:List Y) (b:Nat) (ps:List (RowT×Sh)) (ha hr hi:Sh),dD root m xs=some (ps.map (·.1),ix)∧μ'=[.blk b (cl (dK (dE root (aX (bH m))) (dF root (aX (bH m))) (ha.val (aX (bH m)).length) (hr.val ps.length) (hi.val ix.length)) 98)]∧u=.pointer (some ⟨b,0,none⟩)∧RdrR G' (bH m) ps ix ha hr hi) (fun ch=>ch=[uA]∧(dD root m xs=none)):=by
 refine Cp.of Tryz.func54 rfl Tryz.ntmps54 rfl fun w0 hs0=>?_
 obtain ⟨h9,er9,hT9⟩ : ∃ h9 er9,gY xs=(h9,er9):=⟨_,_,rfl⟩
 refine .seq (eH rfl rfl ?_)
 refine bX rfl rfl rfl ?_; intro b3
 refine bX rfl rfl rfl ?_; intro b4
 refine .g (kV rfl aKt (aB rfl aE) (aRb hs (by omega) hT9) ?_)
 refine .p (eX rfl rfl rfl (eX rfl rfl rfl ?_))
 refine al rfl rC ?_; intro b7
 refine sw rfl (.u rfl) (.u rfl) rfl mK .here rfl (lS rfl rfl rfl rfl rfl) ?_
 refine aS rfl rfl (.nc (.seq ?_))
 refine fS aT (by intro b hb; cases hb) ?_; intro Gfb3 hleb3 hbb3
 have hs:=hs.mono hleb3
 have hK:=hK.mono hleb3
 refine fS aF (by intro b hb; cases hb) ?_; intro Gfb4 hleb4 hbb4
 have hs:=hs.mono hleb4
 have hK:=hK.mono hleb4
 have hbb3:=hbb3.mono hleb4
 refine fS .here (by intro b hb; cases hb) ?_; intro Gfb7 hleb7 hbb7
 have hs:=hs.mono hleb7
 have hK:=hK.mono hleb7
 have hbb3:=hbb3.mono hleb7
 have hbb4:=hbb4.mono hleb7
 refine dP ⟨true,false⟩ aV (by kernel_rfl) ?_
 refine Wp.one 0 (by kernel_rfl) ?_
 refine mV rfl rfl (.nil (Wp.one 1 (by kernel_rfl) ?_))
 refine lE rfl bK rfl (.nil (Wp.one 2 (by kernel_rfl) ?_))
 refine fA rfl aEk rfl (.nil (Wp.one 3 (by kernel_rfl) ?_))
 refine lN rfl dA rfl ((hbb4.rd (by rfl)).rd) ?_
 refine .nil (Wp.one 4 (by kernel_rfl) ?_)
 refine cP rfl rfl rfl rfl (.nil (Wp.one 5 (by kernel_rfl) ?_))
 refine mV rfl rfl (.nil (Wp.one 6 (by kernel_rfl) ?_))
 refine mv rfl (.t rfl rfl) (.u rfl) (.nil (Wp.one 7 (by kernel_rfl) ?_))
 refine cp rfl (.t rfl rfl) (.s rfl) (.u rfl) rfl (.nil (Wp.one 8 (by kernel_rfl) ?_))
 refine cC rfl .no (.u rfl) (.s rfl) (.nil (Wp.one 9 (by kernel_rfl) ?_))
 refine mV rfl rfl (.nil (Wp.one 11 (by kernel_rfl) ?_))
 refine lA rfl (.t rfl rfl) iU (.u rfl) (fun hc=>(hbb4.rdn (m:=40) (cs':=m.cells) ((by rw [List.drop_zero]; exact List.take_of_length_le (Nat.le_of_eq (Meta.len m))))).rd) (fun _=>(Meta.len _)) ?_
 refine .nil (Wp.pr 10 (by kernel_rfl) ?_)
 refine lA rfl (.t rfl rfl) fB (.u rfl) (fun hc=>(hbb7.rdn (m:=5) (cs':=h9.cells) (rfl)).rd) (fun _=>rfl) ?_
 refine .nil ⟨⟨rfl,rfl⟩,?_⟩
 refine Wp.b1 12 (by kernel_rfl) ?_
 refine kv rfl (.t rfl rfl) aKO (Eva.cons (.s rfl) aE) (fun hc=>aI2 m _ hw) ?_
 refine .nil (Wp.one 13 (by kernel_rfl) ?_)
 refine eqC (decide (h9=bH m)) rfl (.t rfl rfl) aEe (.s rfl) (.s rfl) (fun hc=>wA _) (fun hc=>wA _) (fun hc=>aC7) ?_
 refine .nil (Wp.one 14 (by kernel_rfl) ?_)
 refine cC rfl .no (.u rfl) (.s rfl) (.nil (Wp.one 15 (by kernel_rfl) ?_))
 refine mV rfl rfl (.nil (Wp.one 16 (by kernel_rfl) ?_))
 refine mv rfl (.t rfl rfl) (.u rfl) (.nil (Wp.one 17 (by kernel_rfl) ?_))
 refine ln rfl (.t rfl rfl) bK (.s rfl) (.nil (Wp.one 18 (by kernel_rfl) ?_))
 refine cp rfl (.t rfl rfl) (.s rfl) (.u rfl) rfl (.nil (Wp.one 19 (by kernel_rfl) ?_))
 refine cC rfl .no (.u rfl) (.s rfl) (.nil (tS 20 (by kernel_rfl) (by kernel_rfl) ?_))
 refine lH rfl iI (aB rfl aE) (nJ _ _) (fun ch G9 ρ9 μ9 hle9 hd he hm=>⟨hd.1,aFd hT9 hd.2⟩) ?_
 rintro _ G46 μ46 hG46 ⟨hq46,rfl,rfl⟩
 have hs:=hs.mono hG46
 have hK:=hK.mono hG46
 have hbb3:=hbb3.mono hG46
 have hbb4:=hbb4.mono hG46
 have hbb7:=hbb7.mono hG46
 refine .nil (Wp.last (by kernel_rfl) ?_)
 refine .code (.seq ?_)
 obtain ⟨⟨rfl,rfl⟩,hsz9,hlong⟩:=aFi hq46
 have hrl:=aBP hlong
 refine bG (mc:=⟨false,false⟩) [0,1,2,3,4,5,6,7,8,9,10,11,12] aV (by kernel_rfl) ?_
 refine .p (lE rfl bK rfl (aW (((xs.length-8):Nat):Int) rfl rfl rfl rfl ?_))
 refine kS (30) ((xs.length-8)) rfl .no aH hs (.u rfl) (.u rfl) (.u rfl) (by omega) (by omega) (by omega) (by omega) ?_
 intro h51 L51 eL51 lL51 hs51
 have lL51:=lL51 rfl
 refine .p (lE rfl bK rfl (aW (((xs.length-8):Nat):Int) rfl rfl rfl rfl ?_))
 refine kD ((xs.length-8)) rfl .no aH hs (.u rfl) (.u rfl) (by omega) (by omega) ?_
 intro h56 L56 eL56 lL56 hs56
 have lL56:=lL56 rfl
 refine kc rfl vF (aB rfl aE) (uV L56 h56 _ hs56 (by omega)) ?_
 rintro _ G57 μ57 hG57 ⟨b57,s57,rfl,rfl,hs57⟩
 have hK:=hK.mono hG57
 have hbb3:=hbb3.mono hG57
 have hbb4:=hbb4.mono hG57
 have hbb7:=hbb7.mono hG57
 have hs51:=hs51.mono hG57
 refine aS rfl rfl (aS rfl rfl (.nc (.seq ?_)))
 have hk8:(bU L56 8).toNat=jT xs:=by rw [eL56]; rfl
 have hk9:@BitVec.toNat IntKind.u64.bits (bU L56 8)=jT xs:=hk8
 have eR:L51=lV xs:=by rw [eL51,show xs.length-8-30=xs.length-38 by omega]; rfl
 refine .g (ka rfl (.inr rfl) pR (aB rfl (aB rfl aE)) (bQ .here) (wQ L56 s57 _ _ hs57 (by omega) (by omega)) ?_)
 rintro _ G59 μ59 hG59 ⟨s59,rfl,rfl,hs59⟩
 have hK:=hK.mono hG59
 have hbb3:=hbb3.mono hG59
 have hbb4:=hbb4.mono hG59
 have hbb7:=hbb7.mono hG59
 have hs51:=hs51.mono hG59
 refine .g (lE rfl bK rfl (cw rfl .no cW (.u rfl) (fun _=>eY (by omega) (by omega)) ?_))
 refine cP rfl rfl rfl rfl (lH rfl iI (aB rfl aE) (nJ _ _) (fun ch G9 ρ9 μ9 hle9 hd he hm=>⟨hd.1,aFe (by have q:=of_decide_eq_false hd.2; omega)⟩) ?_)
 rintro _ G65 μ65 hG65 ⟨hq65,rfl,rfl⟩
 have hK:=hK.mono hG65
 have hbb3:=hbb3.mono hG65
 have hbb4:=hbb4.mono hG65
 have hbb7:=hbb7.mono hG65
 have hs51:=hs51.mono hG65
 refine .nil (.code (.seq ?_))
 have hkk:jT xs≤xs.length-38:=by have q:=of_decide_eq_true hq65; omega
 refine .g (lE rfl bK rfl (.p (cw rfl .no jF (.u rfl) (fun _=>cB (by omega) (by omega)) ?_)))
 refine dR (((L51.length-(bU L56 8).toNat):Nat):Int) rfl .no (.u rfl) (.u rfl) rfl (by omega) (fun _=>cB (by omega) (by omega)) ?_
 refine aS rfl rfl (.nc (.seq (dP ⟨true,false⟩ aV (by kernel_rfl) ?_)))
 refine Wp.one 0 (by kernel_rfl) ?_
 refine lA rfl .no cH (.u rfl) (fun _=>(hbb3.rdn (m:=32) (cs':=_) (by first|exact iY|exact gE|exact iX)).rd) (fun _=>(aU _ _)) ?_
 refine .nil (Wp.one 1 (by kernel_rfl) ?_)
 refine lA rfl .no fB (.u rfl) (fun _=>(hbb7.rdn (m:=5) (cs':=(bH m).cells) (rfl)).rd) (fun _=>rfl) ?_
 refine .nil (Wp.one 5 (by kernel_rfl) ?_)
 refine mV rfl rfl (.nil (Wp.one 6 (by kernel_rfl) ?_))
 refine mV rfl rfl (.nil (Wp.one 7 (by kernel_rfl) ?_))
 refine kD ((L51.length-(bU L56 8).toNat)) rfl .no aH hs51 (.u rfl) (.u rfl) (by omega) (by omega) ?_
 intro h78 L78 eL78 lL78 hs78
 have lL78:=lL78 rfl
 refine .nil (Wp.pr 3 (by kernel_rfl) ?_)
 refine lA rfl .no fB (.u rfl) (fun _=>(hbb7.rdn (m:=5) (cs':=(bH m).cells) (rfl)).rd) (fun _=>rfl) ?_
 refine .nil ⟨⟨rfl,rfl⟩,?_⟩
 refine Wp.b1 2 (by kernel_rfl) ?_
 refine kV rfl aEw (aB rfl (aB rfl aE)) (aCG root (bH m) _ hK) ?_
 refine .nil (Wp.b1 4 (by kernel_rfl) ?_)
 refine kc rfl aAR (aB rfl aE) (Ct.frzB (zB (bH m) _)) ?_
 rintro _ G75 μ75 hG75 ⟨h75,L75,eL75,rfl,rfl,hs75⟩
 have hK:=hK.mono hG75
 have hbb4:=hbb4.mono hG75
 have hs51:=hs51.mono hG75
 have hs78:=hs78.mono hG75
 refine .nil (Wp.one 8 (by kernel_rfl) ?_)
 refine dU (dK (dE root (aX (bH m))) (dF root (aX (bH m))) (h75.val L75.length) (.slice none 0 0) (h78.val L78.length)) rfl .no aJ8 (.cons (.u rfl) rfl (.cons (.u rfl) rfl (.cons (.u rfl) rfl .nil))) rfl (rfl) (.nil (Wp.b1 9 (by kernel_rfl) ?_))
 refine bX rfl rfl rfl ?_; intro b80
 refine .nil (Wp.one 10 (by kernel_rfl) ?_)
 refine aS rfl rfl (.nil (Wp.last (by kernel_rfl) ?_))
 refine .code (.seq ?_)
 have hix:L78=(lV xs).drop (xs.length-38-jT xs):=by rw [eL78,eR,hk8,hrl]
 have e75:h75.val L75.length=h75.val (aX (bH m)).length:=by rw [eL75]
 rw [eL75] at hs75
 rw [e75]
 refine .g (kE ((L51.length-(bU L56 8).toNat)) rfl .no aH hs51 (.u rfl) (.u rfl) (by omega) (by omega) ?_)
 intro h83 L83 eL83 lL83 hs83
 have lL83:=lL83 rfl
 refine aS rfl rfl (.nc (.seq ?_))
 have hA9:L83=(lV xs).take (xs.length-38-jT xs):=by rw [eL83,eR,hk8,hrl]
 have hB9:=aCS (root:=root) hT9 hsz9 hlong hkk hix hA9
 refine .g (nC rfl rfl (fZ rfl aAP rfl (lN rfl bV rfl (Rd.own .here uX) ?_)))
 refine wH rfl aAT (aB rfl (aB rfl (aB rfl aE))) (bQ .here) (aDX root (bH m) h75 _ _ b80 0 L78 h78 _ hs75 hs78 hK (by omega) (by decide)) (fun ch G9 ρ9 μ9 hle9 hd he hm=>⟨hd.1,aL5 hB9 hd.2⟩) ?_
 rintro _ G89 μ89 hG89 ⟨y,h89,hy,rfl,rfl,hs89⟩
 have hyl:y.length+16≤1000000:=by have h1:=(aBd hy).2; omega
 have hK:=hK.mono hG89
 have hbb4:=hbb4.mono hG89
 have hs78:=hs78.mono hG89
 have hs75:=hs75.mono hG89
 have hs83:=hs83.mono hG89
 refine kc rfl vF (aB rfl aE) (uV y h89 _ hs89 (by omega)) ?_
 rintro _ G90 μ90 hG90 ⟨b90,s90,rfl,rfl,hs90⟩
 have hK:=hK.mono hG90
 have hbb4:=hbb4.mono hG90
 have hs78:=hs78.mono hG90
 have hs75:=hs75.mono hG90
 have hs83:=hs83.mono hG90
 refine .g (ka rfl (.inr rfl) pS (aB rfl aE) (bQ .here) (pI y 0 s90 b90 _ hs90 (by omega)) ?_)
 rintro _ G92 μ92 hG92 ⟨n92,L92,e92,s92,hN92,rfl,rfl,hs92⟩
 have lL92:=pJ hN92; have nL92:=iN hN92; simp only at lL92
 have hK:=hK.mono hG92
 have hbb4:=hbb4.mono hG92
 have hs78:=hs78.mono hG92
 have hs75:=hs75.mono hG92
 have hs83:=hs83.mono hG92
 refine aS rfl rfl (.nc (.seq ?_))
 have hBy:=aLv hB9 hy hN92
 refine .g (cP rfl rfl rfl rfl (mV rfl rfl (mv rfl (.t rfl rfl) (.u rfl) (kp rfl (.t rfl rfl) qY (Eva.cons (.s rfl) aE) (Gp.add .here Gp.nil) (fun hc hle hq=>qG L92 e92 s92 b90 _ RdNP.add) ?_))))
 refine cp rfl (.t rfl rfl) (.s rfl) (.u rfl) rfl (cC rfl .no (.u rfl) (.s rfl) (lH rfl iI (aB rfl aE) (nJ _ _) (fun ch G9 ρ9 μ9 hle9 hd he hm=>⟨hd.1,aL6 hBy hd.2⟩) ?_))
 rintro _ G100 μ100 hG100 ⟨hq100,rfl,rfl⟩
 have hK:=hK.mono hG100
 have hbb4:=hbb4.mono hG100
 have hs78:=hs78.mono hG100
 have hs75:=hs75.mono hG100
 have hs83:=hs83.mono hG100
 have hs92:=hs92.mono hG100
 refine .nil (.code (.seq ?_))
 obtain ⟨hn0,rfl⟩:=aL8 hq100
 obtain ⟨O,eO,hO⟩:=bgO hBy hn0
 refine aM rfl rfl (aS rfl rfl (.nc (.seq (.seq (kQ 32 (ba 32) 23 ?_)))))
 refine kQ 34 oJ 103 ?_
 refine aM rfl rfl (aS rfl rfl (.nc (.block ?_)))
 refine bE (α:=Nat×List Y×Sh×Value×List (RowT×Sh)×Value×List Dg×List Y×Sh) (fun gh=>[(9,true,gh.2.2.1.val gh.2.1.length),(16,true,gh.2.2.2.2.2.1),(17,true,.int .u64 (gh.1:Int))]) (fun gh=>[rS 34 oJ gh.2.2.2.1 103 gh.2.2.2.2.1,rS 32 (ba 32) gh.2.2.2.2.2.1 23 gh.2.2.2.2.2.2.1,.blk b90 (cl [Sh.val gh.2.2.2.2.2.2.2.2 gh.2.2.2.2.2.2.2.1.length,.int .i64 0] 175),.blk b80 (cl (dK (dE root (aX (bH m))) (dF root (aX (bH m))) (h75.val (aX (bH m)).length) gh.2.2.2.1 (h78.val L78.length)) 98)])
  (fun gh Gl=>(gh.1≤n92+1)∧(O=cS (n92+1-gh.1) (gh.2.2.2.2.1.map (·.1)) gh.2.1 gh.2.2.2.2.2.2.2.1)∧(gh.2.2.2.2.2.2.1=gh.2.2.2.2.1.map (fun p=>p.1.leaf))∧(gh.2.2.2.2.1.length=gh.1∧gh.2.2.2.2.1.length+gh.2.2.2.2.2.2.2.1.length≤y.length∧gh.2.1.length≤xs.length)∧(AllB Gl gh.2.2.2.2.1)∧(SlR Gl 1 aL gh.2.2.1 gh.2.1)∧(SlR Gl 1 aL gh.2.2.2.2.2.2.2.2 gh.2.2.2.2.2.2.2.1)) (fun gh=>n92+1-gh.1) (0,L83,h83,.slice none 0 0,[],.slice none 0 0,[],L92,s92) [(4,true,_),(13,true,_),(14,true,_),(15,true,_)] [_]
  (aA rfl (aA rfl (aA rfl (aA rfl (aA rfl (aA rfl (aA rfl eZ)))))))
  (mS .here rfl (mS .here rfl (mS .here rfl (mS .here rfl (mS .here rfl mN))))) ?_ ?_
 ·refine ⟨?_,?_,?_,?_,?_,?_,?_⟩
  ·(try dsimp only)<;>(first|omega|rfl|assumption|(simp; done))
  ·(try dsimp only)<;>(exact eO)
  ·(try dsimp only)<;>(first|omega|rfl|assumption|(simp; done))
  ·(try dsimp only)<;>(exact ⟨rfl,by simp only [List.length_nil]; omega,by omega⟩)
  ·(try dsimp only)<;>(exact AllB.nil)
  ·(try dsimp only)<;>(exact hs83)
  (try dsimp only)<;>(exact hs92)
 intro gh N0 Gl0 hN0 hGl0 hF0
 obtain ⟨k,A,hA,vr,acc,vl,D,R,sR⟩:=gh; dsimp only at hF0 hN0 ⊢
 obtain ⟨hk,hrows,eD,hlen,hall,hsA,hsR⟩:=hF0
 have hK:=hK.mono hGl0
 have hbb4:=hbb4.mono hGl0
 have hs78:=hs78.mono hGl0
 have hs75:=hs75.mono hGl0
 have lD:D.length=acc.length:=by rw [eD,List.length_map]
 refine .g (cP rfl rfl rfl rfl (.g (cD rfl (fun c1=>?_) (fun c1=>?_))))
 ·have c1k:=c1
  try simp only [aC,aI,aD] at c1
  refine .skip (.code (.seq (.block (.seq (aM rfl rfl ?_)))))
  refine al rfl aAX ?_; intro b18
  refine .g (cP rfl rfl rfl rfl (.g (cD rfl (fun c2=>?_) (fun c2=>?_))))
  ·have c2k:=c2
   try simp only [aC,aI,aD] at c2
   refine .g (ka rfl (.inr rfl) aKu (aB rfl (aB rfl aE)) (bQ bM) (aHz R 0 sR b90 _ hsR (by omega) 1024 (by decide)) ?_)
   rintro _ G110 μ110 hG110 ⟨M110,L110,e110,s110,hN110,rfl,rfl,hs110⟩
   have lL110:=aDi hN110; simp only at lL110
   have hK:=hK.mono hG110
   have hbb4:=hbb4.mono hG110
   have hs78:=hs78.mono hG110
   have hs75:=hs75.mono hG110
   have hall:=hall.mono hG110
   have hsA:=hsA.mono hG110
   have hsR:=hsR.mono hG110
   refine fZ rfl aEf rfl (s1 rfl (.u rfl) (.u rfl) rfl pT aF (show 0<34 by decide) (rfl) ?_)
   refine .g (ka rfl (.inr rfl) pS (aB rfl aE) (bQ aF) (pI L110 e110 s110 b90 _ hs110 (by omega)) ?_)
   rintro _ G113 μ113 hG113 ⟨n113,L113,e113,s113,hN113,rfl,rfl,hs113⟩
   have lL113:=pJ hN113; have nL113:=iN hN113; simp only at lL113
   have hK:=hK.mono hG113
   have hbb4:=hbb4.mono hG113
   have hs78:=hs78.mono hG113
   have hs75:=hs75.mono hG113
   have hall:=hall.mono hG113
   have hsA:=hsA.mono hG113
   have hsR:=hsR.mono hG113
   refine aS rfl rfl (.nc (.seq (.seq (aM rfl rfl (mV rfl rfl (.nc (.block ?_)))))))
   have hT3:=((aFh hrows (by omega)).strE hN110).numE hN113
   refine bE (α:=Nat×List Y×Int×Sh×(Nat→Y)×List Y) (fun gh=>[(114,true,.int .i64 (gh.1:Int))]) (fun gh=>[.blk b90 (cl [Sh.val gh.2.2.2.1 gh.2.1.length,.int .i64 gh.2.2.1] 175),.blk b18 (cl (qK M110 (.slice none 0 0) gh.2.2.2.2.1) 103)])
    (fun gh Gl=>(gh.1≤32)∧(gh.2.2.2.2.2.length=gh.1)∧(ByR ⟨L113,e113⟩ ⟨gh.2.1,gh.2.2.1⟩ false gh.2.2.2.2.2)∧(∀ i,gh.2.2.2.2.1 i=gh.2.2.2.2.2.getD i 0)∧(gh.2.1.length≤L113.length∧(gh.2.2.1=0→gh.2.1.length+gh.1≤L113.length))∧(SlR Gl 1 aL gh.2.2.2.1 gh.2.1)) (fun gh=>32-gh.1) (0,L113,e113,s113,(fun _=>0#8),[]) [(4,true,_),(9,true,_),(13,true,_),(14,true,_),(15,true,_),(16,true,_),(17,true,_),(18,true,_),(19,true,_)] [_,_,_,_]
    (aO rfl (aA rfl (aA rfl (aA rfl (aA rfl (aA rfl (aA rfl (aA rfl (aA rfl (aA rfl eZ))))))))))
    (mS .here rfl (mS .here (by first|rfl | (rw [tY]; rfl)) (mS .here rfl (mS .here rfl (mS .here rfl (mS .here rfl mN)))))) ?_ ?_
   ·refine ⟨?_,?_,?_,?_,?_,?_⟩
    ·(try dsimp only)<;>(first|omega|rfl|assumption|(simp; done))
    ·(try dsimp only)<;>(first|omega|rfl|assumption|(simp; done))
    ·(try dsimp only)<;>(exact ByR.zero)
    ·(try dsimp only)<;>(exact fun i=>by simp)
    ·(try dsimp only)<;>(exact ⟨Nat.le_refl _,fun _=>Nat.le_refl _⟩)
    (try dsimp only)<;>(exact hs113)
   intro gh N1 Gl1 hN1 hGl1 hF1
   obtain ⟨q,L,ee,s9,f,rt⟩:=gh; dsimp only at hF1 hN1 ⊢
   obtain ⟨hq,hrt,hB9,ef,lX,hsl⟩:=hF1
   have hK:=hK.mono hGl1
   have hbb4:=hbb4.mono hGl1
   have hs78:=hs78.mono hGl1
   have hs75:=hs75.mono hGl1
   have hall:=hall.mono hGl1
   have hsA:=hsA.mono hGl1
   have hsR:=hsR.mono hGl1
   have hs113:=hs113.mono hGl1
   refine .g (cP rfl rfl rfl rfl (.g (cD rfl (fun c3=>?_) (fun c3=>?_))))
   ·have c3k:=c3
    try simp only [aC,aI,aD] at c3
    refine .g (ka rfl (.inr rfl) pR (aB rfl (aB rfl aE)) (bQ .here) (zJ L ee s9 b90 _ hsl (by omega)) ?_)
    rintro _ G119 μ119 hG119 ⟨y119,L119,e119,s119,hN119,rfl,rfl,hs119⟩
    have lL119:=zL hN119; simp only at lL119
    have hK:=hK.mono hG119
    have hbb4:=hbb4.mono hG119
    have hs78:=hs78.mono hG119
    have hs75:=hs75.mono hG119
    have hall:=hall.mono hG119
    have hsA:=hsA.mono hG119
    have hsR:=hsR.mono hG119
    have hs113:=hs113.mono hG119
    have hsl:=hsl.mono hG119
    refine cu (k:=.u64) rfl .no rfl kU (.u rfl) ?_
    refine fZ rfl qT rfl (iW rfl gB rfl rfl ?_)
    refine s1 rfl (.u rfl) (.u rfl) rfl fW aF (by rw [kK]; omega) (aBa (k:=q) (by omega)) ?_
    refine .g (aW (((q+1):Nat):Int) rfl rfl rfl rfl ?_)
    refine .g (aZ (q+1,L119,e119,s119,bA f q ((y119.setWidth 64).setWidth 8),rt++[y119]) ?_ ?_ ?_ ?_ ?_)
    ·exact (aO rfl (aA rfl (aA rfl (aA rfl (aA rfl (aA rfl (aA rfl (aA rfl (aA rfl (aA rfl eZ))))))))))
    ·exact (mS aF rfl (mS .here rfl (mS .here rfl (mS .here rfl (mS .here rfl (mS .here rfl mN))))))
    ·first|omega|(dsimp only; omega)
    ·exact (hGl1).trans hG119
    refine ⟨?_,?_,?_,?_,?_,?_⟩
    ·(try dsimp only)<;>(first|omega|rfl|assumption|(simp; done))
    ·(try dsimp only)<;>(simp [hrt])
    ·(try dsimp only)<;>(exact hB9.step (by omega) hN119)
    ·(try dsimp only)<;>(exact zO hrt ef)
    ·(try dsimp only)<;>(have hbd:=aAo hN119; exact ⟨by omega,fun z=>by have:=hbd.2 z; have:=lX.2 this.1; omega⟩)
    (try dsimp only)<;>(exact hs119)
   have c3k:=c3
   try simp only [aC,aI,aD] at c3
   refine .exit (.xcode (.xlp (.xblk (.code (.seq ?_)))))
   have hg9:=aCW ef (hB9.all (by omega) hT3)
   simp only at hg9
   refine .g (kp rfl .no qY (aB rfl aE) (Gp.add .here Gp.nil) (fun _ hle hq=>qG L ee s9 b90 _ RdNP.add) ?_)
   refine cP rfl rfl rfl rfl (mV rfl rfl (mv rfl (.t rfl rfl) (.u rfl) (mv rfl (.t rfl rfl) (.u rfl) (ln rfl (.t rfl rfl) bK (.s rfl) (cw rfl (.t rfl rfl) cW (.s rfl) (fun hc=>eY (by (try simp only [Bool.and_eq_true,decide_eq_true_eq,Bool.not_eq_true',Bool.or_eq_false_iff,decide_eq_false_iff_not] at hc); omega) (by (try simp only [Bool.and_eq_true,decide_eq_true_eq,Bool.not_eq_true',Bool.or_eq_false_iff,decide_eq_false_iff_not] at hc); omega)) ?_)))))
   refine cp rfl (.t rfl rfl) (.s rfl) (.s rfl) rfl (cC rfl .no (.u rfl) (.s rfl) (lH rfl iI (aB rfl aE) (nJ _ _) (fun ch G9 ρ9 μ9 hle9 hd he hm=>⟨hd.1,aFf hO hg9.2 (by first|rfl|omega) hd.2⟩) ?_))
   rintro _ G134 μ134 hG134 ⟨hq134,rfl,rfl⟩
   have hK:=hK.mono hG134
   have hbb4:=hbb4.mono hG134
   have hs78:=hs78.mono hG134
   have hs75:=hs75.mono hG134
   have hall:=hall.mono hG134
   have hsA:=hsA.mono hG134
   have hsR:=hsR.mono hG134
   have hs113:=hs113.mono hG134
   have hsl:=hsl.mono hG134
   refine .nil (.code (.seq ?_))
   obtain ⟨rfl,hsz⟩:=aFj (by first|rfl|omega) hq134
   have hrw:=hg9.1 ⟨rfl,hsz⟩
   refine bG (mc:=⟨false,false⟩) [0,1,2,3,4,5,6,7,8] aV (by kernel_rfl) ?_
   refine .p (kE (n113) rfl .no aH hsA (.u rfl) (.u rfl) (by omega) (by omega) ?_)
   intro h137 L137 eL137 lL137 hs137
   have lL137:=lL137 rfl
   refine .p (kD (n113) rfl .no aH hsA (.u rfl) (.u rfl) (by omega) (by omega) ?_)
   intro h140 L140 eL140 lL140 hs140
   have lL140:=lL140 rfl
   refine fZ rfl qS rfl (s1 rfl (.u rfl) (.u rfl) rfl iE aF (by rw [kK]; decide) (rfl) ?_)
   refine aS rfl rfl (.nc (.seq (dP ⟨false,false⟩ aV (by kernel_rfl) ?_)))
   refine Wp.one 0 (by kernel_rfl) ?_
   refine mV rfl rfl (.nil (Wp.one 1 (by kernel_rfl) ?_))
   refine mV rfl rfl (.nil (Wp.one 2 (by kernel_rfl) ?_))
   refine nC rfl rfl (.nil (Wp.one 3 (by kernel_rfl) ?_))
   refine fZ rfl nB rfl (.nil (Wp.one 4 (by kernel_rfl) ?_))
   refine lN rfl qQ rfl (Rd.own fG kR) ?_
   refine .nil (Wp.one 5 (by kernel_rfl) ?_)
   refine lA rfl .no tF (.u rfl) (fun _=>RdN.own .here) (fun _=>kK) ?_
   refine .nil (Wp.b1 6 (by kernel_rfl) ?_)
   refine Go.Tan.b1 rfl nS tP (.u rfl) rfl rfl (by decide) ?_; intro b148
   refine .nil (Wp.b1 7 (by kernel_rfl) ?_)
   refine fK (xs:=acc) ((⟨_,L137,f⟩,h137)) rfl nS tP rfl (.u rfl) (.u rfl) bM .here (lW) (nK (pG rfl rfl) (dW _ _)) (by omega) (by unfold maxLen; omega) ?_; intro v149 ov149
   refine .nil (Wp.one 8 (by kernel_rfl) ?_)
   refine nC rfl rfl (.nil (Wp.one 9 (by kernel_rfl) ?_))
   refine fZ rfl nB rfl (.nil (Wp.b1 10 (by kernel_rfl) ?_))
   refine fR rfl (.u rfl) (.u rfl) .here aCA nP (by rw [xC]; decide) (aAD) ?_
   refine .nil (Wp.last (by kernel_rfl) ?_)
   refine .g (fZ rfl qT rfl (lA rfl .no cH (.u rfl) (fun _=>RdN.part (n:=32) (cs':=ba 32 f) bM (aBZ)) (fun _=>(by first|exact lW|exact kK|exact (gL _ _).trans (gL _ _).symm|exact gL _ _|exact aU _ _|exact Meta.len _|rfl)) ?_))
   refine Go.Tan.b1 rfl dM fJ (.u rfl) rfl rfl (by decide) ?_; intro b155
   refine fK (xs:=D) (f) rfl dM fJ rfl (.u rfl) (.u rfl) rU .here (aU _ _) (dW _ _) (by omega) (by unfold maxLen; omega) ?_; intro v156 ov156
   refine .g (ar rfl .no (.u rfl) (.u rfl) rfl (fun _=>eY (by omega) (by omega)) ?_)
   refine .g (aZ (k+1,L140,h140,v149,acc++[(⟨M110,L137,f⟩,h137)],v156,D++[f],L,s9) ?_ ?_ ?_ ?_ ?_)
   ·exact (aA rfl (aA rfl (fD rfl (congrArg (Value.int .u64) (by dsimp only; omega)) (aA rfl (aA rfl (aA rfl (aA rfl eZ)))))))
   ·exact (mS bM rfl (mS .here rfl (mS fG rfl (mS aF rfl (mS bM rfl mN)))))
   ·first|omega|(dsimp only; omega)
   ·exact ((((hGl0).trans hG110).trans hG113).trans hGl1).trans hG134
   refine ⟨?_,?_,?_,?_,?_,?_,?_⟩
   ·(try dsimp only)<;>(first|omega|rfl|assumption|(simp; done))
   ·(try dsimp only)<;>(rw [List.map_append,eL137,eL140]; exact hrw)
   ·(try dsimp only)<;>(rw [eD,List.map_append]; rfl)
   ·(try dsimp only)<;>(have:=lX.2 rfl; refine ⟨by rw [List.length_append]; simp; omega,by rw [List.length_append]; simp only [List.length_cons,List.length_nil]; omega,by omega⟩)
   ·(try dsimp only)<;>(exact hall.snoc hs137 (by show L137.length≤_; omega))
   ·(try dsimp only)<;>(exact hs140)
   (try dsimp only)<;>(exact hsl)
  have c2k:=c2
  try simp only [aC,aI,aD] at c2
  refine .g (ka rfl (.inr rfl) pS (aB rfl aE) (bQ bM) (pI R 0 sR b90 _ hsR (by omega)) ?_)
  rintro _ G113 μ113 hG113 ⟨n113,L113,e113,s113,hN113,rfl,rfl,hs113⟩
  have lL113:=pJ hN113; have nL113:=iN hN113; simp only at lL113
  have hK:=hK.mono hG113
  have hbb4:=hbb4.mono hG113
  have hs78:=hs78.mono hG113
  have hs75:=hs75.mono hG113
  have hall:=hall.mono hG113
  have hsA:=hsA.mono hG113
  refine aS rfl rfl (.nc (.seq (.seq (aM rfl rfl (mV rfl rfl (.nc (.block ?_)))))))
  have hT3:=(aFg hrows (by omega) (by omega)).numE hN113
  refine bE (α:=Nat×List Y×Int×Sh×(Nat→Y)×List Y) (fun gh=>[(114,true,.int .i64 (gh.1:Int))]) (fun gh=>[.blk b90 (cl [Sh.val gh.2.2.2.1 gh.2.1.length,.int .i64 gh.2.2.1] 175),.blk b18 (cl (qK [] (.slice none 0 0) gh.2.2.2.2.1) 103)])
   (fun gh Gl=>(gh.1≤32)∧(gh.2.2.2.2.2.length=gh.1)∧(ByR ⟨L113,e113⟩ ⟨gh.2.1,gh.2.2.1⟩ false gh.2.2.2.2.2)∧(∀ i,gh.2.2.2.2.1 i=gh.2.2.2.2.2.getD i 0)∧(gh.2.1.length≤L113.length∧(gh.2.2.1=0→gh.2.1.length+gh.1≤L113.length))∧(SlR Gl 1 aL gh.2.2.2.1 gh.2.1)) (fun gh=>32-gh.1) (0,L113,e113,s113,(fun _=>0#8),[]) [(4,true,_),(9,true,_),(13,true,_),(14,true,_),(15,true,_),(16,true,_),(17,true,_),(18,true,_),(19,true,_)] [_,_,_,_]
   (aO rfl (aA rfl (aA rfl (aA rfl (aA rfl (aA rfl (aA rfl (aA rfl (aA rfl (aA rfl eZ))))))))))
   (mS .here rfl (mS .here (by first|rfl | (rw [tY]; rfl)) (mS .here rfl (mS .here rfl (mS .here rfl (mS .here rfl mN)))))) ?_ ?_
  ·refine ⟨?_,?_,?_,?_,?_,?_⟩
   ·(try dsimp only)<;>(first|omega|rfl|assumption|(simp; done))
   ·(try dsimp only)<;>(first|omega|rfl|assumption|(simp; done))
   ·(try dsimp only)<;>(exact ByR.zero)
   ·(try dsimp only)<;>(exact fun i=>by simp)
   ·(try dsimp only)<;>(exact ⟨Nat.le_refl _,fun _=>Nat.le_refl _⟩)
   (try dsimp only)<;>(exact hs113)
  intro gh N2 Gl2 hN2 hGl2 hF2
  obtain ⟨q,L,ee,s9,f,rt⟩:=gh; dsimp only at hF2 hN2 ⊢
  obtain ⟨hq,hrt,hB9,ef,lX,hsl⟩:=hF2
  have hK:=hK.mono hGl2
  have hbb4:=hbb4.mono hGl2
  have hs78:=hs78.mono hGl2
  have hs75:=hs75.mono hGl2
  have hall:=hall.mono hGl2
  have hsA:=hsA.mono hGl2
  refine .g (cP rfl rfl rfl rfl (.g (cD rfl (fun c4=>?_) (fun c4=>?_))))
  ·have c4k:=c4
   try simp only [aC,aI,aD] at c4
   refine .g (ka rfl (.inr rfl) pR (aB rfl (aB rfl aE)) (bQ .here) (zJ L ee s9 b90 _ hsl (by omega)) ?_)
   rintro _ G119 μ119 hG119 ⟨y119,L119,e119,s119,hN119,rfl,rfl,hs119⟩
   have lL119:=zL hN119; simp only at lL119
   have hK:=hK.mono hG119
   have hbb4:=hbb4.mono hG119
   have hs78:=hs78.mono hG119
   have hs75:=hs75.mono hG119
   have hall:=hall.mono hG119
   have hsA:=hsA.mono hG119
   have hsl:=hsl.mono hG119
   refine cu (k:=.u64) rfl .no rfl kU (.u rfl) ?_
   refine fZ rfl qT rfl (iW rfl gB rfl rfl ?_)
   refine s1 rfl (.u rfl) (.u rfl) rfl fW aF (by rw [kK]; omega) (aBa (k:=q) (by omega)) ?_
   refine .g (aW (((q+1):Nat):Int) rfl rfl rfl rfl ?_)
   refine .g (aZ (q+1,L119,e119,s119,bA f q ((y119.setWidth 64).setWidth 8),rt++[y119]) ?_ ?_ ?_ ?_ ?_)
   ·exact (aO rfl (aA rfl (aA rfl (aA rfl (aA rfl (aA rfl (aA rfl (aA rfl (aA rfl (aA rfl eZ))))))))))
   ·exact (mS aF rfl (mS .here rfl (mS .here rfl (mS .here rfl (mS .here rfl (mS .here rfl mN))))))
   ·first|omega|(dsimp only; omega)
   ·exact (hGl2).trans hG119
   refine ⟨?_,?_,?_,?_,?_,?_⟩
   ·(try dsimp only)<;>(first|omega|rfl|assumption|(simp; done))
   ·(try dsimp only)<;>(simp [hrt])
   ·(try dsimp only)<;>(exact hB9.step (by omega) hN119)
   ·(try dsimp only)<;>(exact zO hrt ef)
   ·(try dsimp only)<;>(have hbd:=aAo hN119; exact ⟨by omega,fun z=>by have:=hbd.2 z; have:=lX.2 this.1; omega⟩)
   (try dsimp only)<;>(exact hs119)
  have c4k:=c4
  try simp only [aC,aI,aD] at c4
  refine .exit (.xcode (.xlp (.xblk (.code (.seq ?_)))))
  have hg9:=aCW ef (hB9.all (by omega) hT3)
  simp only at hg9
  refine .g (kp rfl .no qY (aB rfl aE) (Gp.add .here Gp.nil) (fun _ hle hq=>qG L ee s9 b90 _ RdNP.add) ?_)
  refine cP rfl rfl rfl rfl (mV rfl rfl (mv rfl (.t rfl rfl) (.u rfl) (mv rfl (.t rfl rfl) (.u rfl) (ln rfl (.t rfl rfl) bK (.s rfl) (cw rfl (.t rfl rfl) cW (.s rfl) (fun hc=>eY (by (try simp only [Bool.and_eq_true,decide_eq_true_eq,Bool.not_eq_true',Bool.or_eq_false_iff,decide_eq_false_iff_not] at hc); omega) (by (try simp only [Bool.and_eq_true,decide_eq_true_eq,Bool.not_eq_true',Bool.or_eq_false_iff,decide_eq_false_iff_not] at hc); omega)) ?_)))))
  refine cp rfl (.t rfl rfl) (.s rfl) (.s rfl) rfl (cC rfl .no (.u rfl) (.s rfl) (lH rfl iI (aB rfl aE) (nJ _ _) (fun ch G9 ρ9 μ9 hle9 hd he hm=>⟨hd.1,aFf hO hg9.2 (by first|rfl|omega) hd.2⟩) ?_))
  rintro _ G134 μ134 hG134 ⟨hq134,rfl,rfl⟩
  have hK:=hK.mono hG134
  have hbb4:=hbb4.mono hG134
  have hs78:=hs78.mono hG134
  have hs75:=hs75.mono hG134
  have hall:=hall.mono hG134
  have hsA:=hsA.mono hG134
  have hsl:=hsl.mono hG134
  refine .nil (.code (.seq ?_))
  obtain ⟨rfl,hsz⟩:=aFj (by first|rfl|omega) hq134
  have hrw:=hg9.1 ⟨rfl,hsz⟩
  refine bG (mc:=⟨false,false⟩) [0,1,2,3,4,5,6,7,8] aV (by kernel_rfl) ?_
  refine .p (kE (n113) rfl .no aH hsA (.u rfl) (.u rfl) (by omega) (by omega) ?_)
  intro h137 L137 eL137 lL137 hs137
  have lL137:=lL137 rfl
  refine .p (kD (n113) rfl .no aH hsA (.u rfl) (.u rfl) (by omega) (by omega) ?_)
  intro h140 L140 eL140 lL140 hs140
  have lL140:=lL140 rfl
  refine fZ rfl qS rfl (s1 rfl (.u rfl) (.u rfl) rfl iE aF (by rw [kK]; decide) (rfl) ?_)
  refine aS rfl rfl (.nc (.seq (dP ⟨false,false⟩ aV (by kernel_rfl) ?_)))
  refine Wp.one 0 (by kernel_rfl) ?_
  refine mV rfl rfl (.nil (Wp.one 1 (by kernel_rfl) ?_))
  refine mV rfl rfl (.nil (Wp.one 2 (by kernel_rfl) ?_))
  refine nC rfl rfl (.nil (Wp.one 3 (by kernel_rfl) ?_))
  refine fZ rfl nB rfl (.nil (Wp.one 4 (by kernel_rfl) ?_))
  refine lN rfl qQ rfl (Rd.own fG kR) ?_
  refine .nil (Wp.one 5 (by kernel_rfl) ?_)
  refine lA rfl .no tF (.u rfl) (fun _=>RdN.own .here) (fun _=>kK) ?_
  refine .nil (Wp.b1 6 (by kernel_rfl) ?_)
  refine Go.Tan.b1 rfl nS tP (.u rfl) rfl rfl (by decide) ?_; intro b148
  refine .nil (Wp.b1 7 (by kernel_rfl) ?_)
  refine fK (xs:=acc) ((⟨_,L137,f⟩,h137)) rfl nS tP rfl (.u rfl) (.u rfl) bM .here (lW) (nK (pG rfl rfl) (dW _ _)) (by omega) (by unfold maxLen; omega) ?_; intro v149 ov149
  refine .nil (Wp.one 8 (by kernel_rfl) ?_)
  refine nC rfl rfl (.nil (Wp.one 9 (by kernel_rfl) ?_))
  refine fZ rfl nB rfl (.nil (Wp.b1 10 (by kernel_rfl) ?_))
  refine fR rfl (.u rfl) (.u rfl) .here aCA nP (by rw [xC]; decide) (aAD) ?_
  refine .nil (Wp.last (by kernel_rfl) ?_)
  refine .g (fZ rfl qT rfl (lA rfl .no cH (.u rfl) (fun _=>RdN.part (n:=32) (cs':=ba 32 f) bM (aBZ)) (fun _=>(by first|exact lW|exact kK|exact (gL _ _).trans (gL _ _).symm|exact gL _ _|exact aU _ _|exact Meta.len _|rfl)) ?_))
  refine Go.Tan.b1 rfl dM fJ (.u rfl) rfl rfl (by decide) ?_; intro b155
  refine fK (xs:=D) (f) rfl dM fJ rfl (.u rfl) (.u rfl) rU .here (aU _ _) (dW _ _) (by omega) (by unfold maxLen; omega) ?_; intro v156 ov156
  refine .g (ar rfl .no (.u rfl) (.u rfl) rfl (fun _=>eY (by omega) (by omega)) ?_)
  refine .g (aZ (k+1,L140,h140,v149,acc++[(⟨[],L137,f⟩,h137)],v156,D++[f],L,s9) ?_ ?_ ?_ ?_ ?_)
  ·exact (aA rfl (aA rfl (fD rfl (congrArg (Value.int .u64) (by dsimp only; omega)) (aA rfl (aA rfl (aA rfl (aA rfl eZ)))))))
  ·exact (mS bM rfl (mS .here rfl (mS fG rfl (mS aF rfl (mS bM rfl mN)))))
  ·first|omega|(dsimp only; omega)
  ·exact (((hGl0).trans hG113).trans hGl2).trans hG134
  refine ⟨?_,?_,?_,?_,?_,?_,?_⟩
  ·(try dsimp only)<;>(first|omega|rfl|assumption|(simp; done))
  ·(try dsimp only)<;>(rw [List.map_append,eL137,eL140]; exact hrw)
  ·(try dsimp only)<;>(rw [eD,List.map_append]; rfl)
  ·(try dsimp only)<;>(have:=lX.2 rfl; refine ⟨by rw [List.length_append]; simp; omega,by rw [List.length_append]; simp only [List.length_cons,List.length_nil]; omega,by omega⟩)
  ·(try dsimp only)<;>(exact hall.snoc hs137 (by show L137.length≤_; omega))
  ·(try dsimp only)<;>(exact hs140)
  (try dsimp only)<;>(exact hsl)
 have c1k:=c1
 try simp only [aC,aI,aD] at c1
 refine .exit (.xcode (.xlp (.xblk (.code (.seq ?_)))))
 have hz9:n92+1-k=0:=by omega
 rw [hz9] at hrows
 rcases bge R A with ⟨eR0,eA0⟩ | ⟨eR0,eA0⟩ | eR0
 ·refine dP ⟨true,false⟩ aV (by kernel_rfl) ?_
  refine Wp.one 0 (by kernel_rfl) ?_
  refine mV rfl rfl (.nil (Wp.b1 1 (by kernel_rfl) ?_))
  refine kp rfl .no aB6 (aB rfl aE) (Gp.add aT Gp.nil) (fun _ hle hq=>aBL R 0 sR b90 _ RdNP.add) ?_
  refine .nil (Wp.one 2 (by kernel_rfl) ?_)
  refine cP rfl rfl rfl rfl (.nil (Wp.one 3 (by kernel_rfl) ?_))
  refine mV rfl rfl (mE true (by rw [eR0]; rfl) ?_)
  refine .nil (Wp.one 4 (by kernel_rfl) ?_)
  refine mv rfl (.t rfl rfl) (.u rfl) (.nil (Wp.one 5 (by kernel_rfl) ?_))
  refine ln rfl (.t rfl rfl) bK (.u rfl) (.nil (Wp.one 6 (by kernel_rfl) ?_))
  refine cp rfl (.t rfl rfl) (.u rfl) (.u rfl) rfl (.nil (Wp.one 7 (by kernel_rfl) ?_))
  refine cC rfl .no (.u rfl) (.u rfl) (.nil (Wp.one 8 (by kernel_rfl) ?_))
  refine mV rfl rfl (mE true (by rw [eA0]; rfl) ?_)
  refine .nil (Wp.one 9 (by kernel_rfl) ?_)
  refine mv rfl (.t rfl rfl) (.u rfl) (.nil (Wp.one 10 (by kernel_rfl) ?_))
  refine mv rfl (.t rfl rfl) (.u rfl) (.nil (Wp.one 11 (by kernel_rfl) ?_))
  refine nc rfl (.t rfl rfl) (.u rfl) (.nil (Wp.one 12 (by kernel_rfl) ?_))
  refine fz rfl (.t rfl rfl) aAP (.u rfl) (.nil (Wp.one 13 (by kernel_rfl) ?_))
  refine ld rfl (.t rfl rfl) bV (.u rfl) (fun _=>Rd.own bM uX) ?_
  refine .nil (Wp.one 18 (by kernel_rfl) ?_)
  refine fa rfl (.t rfl rfl) aEl (.u rfl) (.nil (Wp.pr 19 (by kernel_rfl) ?_))
  refine lA rfl (.t rfl rfl) cH (.u rfl) (fun _=>(hbb4.rdn (m:=32) (cs':=ba 32 (fun i=>BitVec.ofInt 8 (m.root i))) (aDq hw)).rd) (fun _=>(aU _ _)) (.nil ⟨⟨rfl,rfl⟩,?_⟩)
  refine Wp.b1 14 (by kernel_rfl) ?_
  refine kv rfl (.t rfl rfl) xN (aB rfl aE) (fun _=>wJ L78 h78 _ hs78 hK (by omega)) ?_
  refine .nil (Wp.b1 15 (by kernel_rfl) ?_)
  refine Go.Tan.b1g rfl (.t rfl rfl) dM fJ (.u rfl) rfl rfl (by decide) ?_; intro b172
  refine .nil (Wp.b1 16 (by kernel_rfl) ?_)
  refine aCM (xs:=D) ((dH L78)) rfl (.t rfl rfl) dM fJ rfl (.u rfl) (.u rfl) aT .here (aU _ _) (dW _ _) (by omega) (by unfold maxLen; omega) ?_; intro v173 ov173
  refine .nil (Wp.b1 17 (by kernel_rfl) ?_)
  refine kag rfl (.t rfl rfl) (.inl rfl) aEx (aB rfl aE) (bQ .here) (aI8 (D++[dH L78]) v173 _ hK (by rw [List.length_append,eD,List.length_map]; simp only [List.length_cons,List.length_nil]; omega)) ?_
  rintro _ G174 μ174 hG174 ⟨_,rfl,rfl,rfl⟩
  have hs78:=hs78.mono hG174
  have hs75:=hs75.mono hG174
  have hall:=hall.mono hG174
  refine .nil (Wp.one 20 (by kernel_rfl) ?_)
  refine yU rfl (.t rfl rfl) uZ (.u rfl) (.u rfl) ?_
  refine .nil (Wp.one 21 (by kernel_rfl) ?_)
  refine cC rfl .no (.u rfl) (.u rfl) (.nil (tS 22 (by kernel_rfl) (by kernel_rfl) ?_))
  refine lH rfl iI (aB rfl aE) (nJ _ _) (fun ch G9 ρ9 μ9 hle9 hd he hm=>⟨hd.1,aL7 hw hO (by rw [hrows,eR0,eA0]; exact aDz) eD hd.2⟩) ?_
  rintro _ G179 μ179 hG179 ⟨hq179,rfl,rfl⟩
  have hs78:=hs78.mono hG179
  have hs75:=hs75.mono hG179
  have hall:=hall.mono hG179
  refine .nil (Wp.last (by kernel_rfl) ?_)
  refine .code (.seq ?_)
  refine jC aT (fun _ _=>rfl) (by intro b hb; cases hb) ?_; intro GfRR hRR hleRR evRR hsRR; subst evRR
  have hs78:=hs78.mono hleRR
  have hs75:=hs75.mono hleRR
  have hall:=hall.mono hleRR
  refine bD rfl rfl (mV rfl rfl (aS rfl rfl (.nc (.ret (We.fin Tryz.results54 (.tmp rfl .nil) (mS bM rfl mN) ?_)))))
  exact ⟨L78,b80,acc,h75,hRR,h78,aL9 hw hO (by rw [hrows,eR0,eA0]; exact aDz) eD hq179,rfl,rfl,⟨hs75,hsRR,hall.each,hs78,hall.sm,by omega⟩⟩
 ·refine dP ⟨true,false⟩ aV (by kernel_rfl) ?_
  refine Wp.one 0 (by kernel_rfl) ?_
  refine mV rfl rfl (.nil (Wp.b1 1 (by kernel_rfl) ?_))
  refine kp rfl .no aB6 (aB rfl aE) (Gp.add aT Gp.nil) (fun _ hle hq=>aBL R 0 sR b90 _ RdNP.add) ?_
  refine .nil (Wp.one 2 (by kernel_rfl) ?_)
  refine cP rfl rfl rfl rfl (.nil (Wp.one 3 (by kernel_rfl) ?_))
  refine mV rfl rfl (mE true (by rw [eR0]; rfl) ?_)
  refine .nil (Wp.one 4 (by kernel_rfl) ?_)
  refine mv rfl (.t rfl rfl) (.u rfl) (.nil (Wp.one 5 (by kernel_rfl) ?_))
  refine ln rfl (.t rfl rfl) bK (.u rfl) (.nil (Wp.one 6 (by kernel_rfl) ?_))
  refine cp rfl (.t rfl rfl) (.u rfl) (.u rfl) rfl (.nil (Wp.one 7 (by kernel_rfl) ?_))
  refine cC rfl .no (.u rfl) (.u rfl) (.nil (Wp.one 8 (by kernel_rfl) ?_))
  refine mV rfl rfl (mE false (beq_eq_false_iff_ne.2 (fun q=>eA0 (List.eq_nil_of_length_eq_zero (by omega)))) ?_)
  refine .nil (Wp.one 9 (by kernel_rfl) ?_)
  refine gO (.bool false) rfl rfl (Gd.t (b:=false) rfl rfl) ?_
  refine .nil (Wp.one 10 (by kernel_rfl) ?_)
  refine gO (.bool false) rfl rfl (Gd.t (b:=false) rfl rfl) ?_
  refine .nil (Wp.one 11 (by kernel_rfl) ?_)
  refine gO (.bool false) rfl rfl (Gd.t (b:=false) rfl rfl) ?_
  refine .nil (Wp.one 12 (by kernel_rfl) ?_)
  refine gO (.bool false) rfl rfl (Gd.t (b:=false) rfl rfl) ?_
  refine .nil (Wp.one 13 (by kernel_rfl) ?_)
  refine oN (.bool false) rfl rfl (Gd.t (b:=false) rfl rfl) ?_
  refine .nil (Wp.one 18 (by kernel_rfl) ?_)
  refine gO (.bool false) rfl rfl (Gd.t (b:=false) rfl rfl) ?_
  refine .nil (Wp.pr 19 (by kernel_rfl) ?_)
  refine oN (.bool false) rfl rfl (Gd.t (b:=false) rfl rfl) ?_
  refine .nil ⟨⟨rfl,rfl⟩,?_⟩
  refine Wp.b1 14 (by kernel_rfl) ?_
  refine wW (.bool false) rfl rfl (Gd.t (b:=false) rfl rfl) ?_
  refine .nil (Wp.b1 15 (by kernel_rfl) ?_)
  refine skc (.bool false) rfl rfl (Gd.t (b:=false) rfl rfl) ?_
  refine .nil (Wp.b1 16 (by kernel_rfl) ?_)
  refine wW (.bool false) rfl rfl (Gd.t (b:=false) rfl rfl) ?_
  refine .nil (Wp.b1 17 (by kernel_rfl) ?_)
  refine wW (.bool false) rfl rfl (Gd.t (b:=false) rfl rfl) ?_
  refine .nil (Wp.one 20 (by kernel_rfl) ?_)
  refine gO (.bool false) rfl rfl (Gd.t (b:=false) rfl rfl) ?_
  refine .nil (Wp.one 21 (by kernel_rfl) ?_)
  refine cC rfl .no (.u rfl) (.s rfl) (.nil (tS 22 (by kernel_rfl) (by kernel_rfl) ?_))
  refine lH rfl iI (aB rfl aE) (nJ _ _) (fun ch G9 ρ9 μ9 hle9 hd he hm=>⟨hd.1,hO.trans (by rw [hrows,aBU (fun q=>eA0 q.2)]; rfl)⟩) ?_
  rintro _ G179 μ179 hG179 ⟨hq179,rfl,rfl⟩
  exact absurd hq179 (by simp)
 refine dP ⟨true,false⟩ aV (by kernel_rfl) ?_
 refine Wp.one 0 (by kernel_rfl) ?_
 refine mV rfl rfl (.nil (Wp.b1 1 (by kernel_rfl) ?_))
 refine kp rfl .no aB6 (aB rfl aE) (Gp.add aT Gp.nil) (fun _ hle hq=>aBL R 0 sR b90 _ RdNP.add) ?_
 refine .nil (Wp.one 2 (by kernel_rfl) ?_)
 refine cP rfl rfl rfl rfl (.nil (Wp.one 3 (by kernel_rfl) ?_))
 refine mV rfl rfl (mE false (aGP eR0) ?_)
 refine .nil (Wp.one 4 (by kernel_rfl) ?_)
 refine gO (.bool false) rfl rfl (Gd.t (b:=false) rfl rfl) ?_
 refine .nil (Wp.one 5 (by kernel_rfl) ?_)
 refine oN (.bool false) rfl rfl (Gd.t (b:=false) rfl rfl) ?_
 refine .nil (Wp.one 6 (by kernel_rfl) ?_)
 refine gO (.bool false) rfl rfl (Gd.t (b:=false) rfl rfl) ?_
 refine .nil (Wp.one 7 (by kernel_rfl) ?_)
 refine cC rfl .no (.u rfl) (.s rfl) (.nil (Wp.one 8 (by kernel_rfl) ?_))
 refine mV rfl rfl (.nil (Wp.one 9 (by kernel_rfl) ?_))
 refine gO (.bool false) rfl rfl (Gd.t (b:=false) rfl rfl) ?_
 refine .nil (Wp.one 10 (by kernel_rfl) ?_)
 refine gO (.bool false) rfl rfl (Gd.t (b:=false) rfl rfl) ?_
 refine .nil (Wp.one 11 (by kernel_rfl) ?_)
 refine gO (.bool false) rfl rfl (Gd.t (b:=false) rfl rfl) ?_
 refine .nil (Wp.one 12 (by kernel_rfl) ?_)
 refine gO (.bool false) rfl rfl (Gd.t (b:=false) rfl rfl) ?_
 refine .nil (Wp.one 13 (by kernel_rfl) ?_)
 refine oN (.bool false) rfl rfl (Gd.t (b:=false) rfl rfl) ?_
 refine .nil (Wp.one 18 (by kernel_rfl) ?_)
 refine gO (.bool false) rfl rfl (Gd.t (b:=false) rfl rfl) ?_
 refine .nil (Wp.pr 19 (by kernel_rfl) ?_)
 refine oN (.bool false) rfl rfl (Gd.t (b:=false) rfl rfl) ?_
 refine .nil ⟨⟨rfl,rfl⟩,?_⟩
 refine Wp.b1 14 (by kernel_rfl) ?_
 refine wW (.bool false) rfl rfl (Gd.t (b:=false) rfl rfl) ?_
 refine .nil (Wp.b1 15 (by kernel_rfl) ?_)
 refine skc (.bool false) rfl rfl (Gd.t (b:=false) rfl rfl) ?_
 refine .nil (Wp.b1 16 (by kernel_rfl) ?_)
 refine wW (.bool false) rfl rfl (Gd.t (b:=false) rfl rfl) ?_
 refine .nil (Wp.b1 17 (by kernel_rfl) ?_)
 refine wW (.bool false) rfl rfl (Gd.t (b:=false) rfl rfl) ?_
 refine .nil (Wp.one 20 (by kernel_rfl) ?_)
 refine gO (.bool false) rfl rfl (Gd.t (b:=false) rfl rfl) ?_
 refine .nil (Wp.one 21 (by kernel_rfl) ?_)
 refine cC rfl .no (.u rfl) (.s rfl) (.nil (tS 22 (by kernel_rfl) (by kernel_rfl) ?_))
 refine lH rfl iI (aB rfl aE) (nJ _ _) (fun ch G9 ρ9 μ9 hle9 hd he hm=>⟨hd.1,hO.trans (by rw [hrows,aBU (fun q=>eR0 q.1)]; rfl)⟩) ?_
 rintro _ G179 μ179 hG179 ⟨hq179,rfl,rfl⟩
 exact absurd hq179 (by simp)
theorem aFv (T b:Nat) (w:World) (x:Value) (hb:w.heap[b]? = some (cl [x] T)):CallsD Tryz.prog 53 #[.pointer (some ⟨b,0,none⟩)] (.panicking [uA]) w (fun e u' w'=>(∃ v,e=.returned v)∧u'=.panicking [aMI]∧w'=w.setRow b #[.int .i64 170]):=by
 refine callsD_of_wpS Tryz.func53 rfl fun c₀ cs hu=>(wpS_seq (wpS_region ?_))
 have hr:recoverD (c₀ :: cs)=some (.iface 142 (.agg #[]),{ c₀ with mode:=.panicking [{ v:=.iface 142 (.agg #[]),recovered:=true }] } :: cs):=by simp [recoverD,hu,uA]
 rw [show Tryz.f53.ntmps=11 from rfl]
 simp only [wpOpsS,List.range,List.range.loop,Array.size,List.length,List.getElem?_toArray,List.getElem?_cons_zero,List.getElem?_cons_succ,Region.wanted,if_true]
 have e1:∀ (ρ:Operand→Value) (d:Option Nat) (t:TypeId) (p:String) (af:Array Edge),(execOp ρ ⟨d,.call { callee:=.builtin .recover,args:=#[],argTypes:=#[] },t,p,af,none⟩).run Tryz.prog w=.ok .recover w:=fun ρ d t p af=>by
  simp [execOp,resolve,invoke,builtin]
 simp only [e1,hr]
 simp [execOp,Oper.upon,Exit.thenS,Act.put,Act.eval]
 refine wpS_of_wp ?_
 refine wp_seq (wp_region ?_)
 simp [wpOps,Region.wanted,execOp,Oper.wp,Oper.upon,Exit.then,Act.put,Act.eval,List.range,List.range.loop]
 refine .inl (wp_block (wp_seq (wp_region ?_)))
 have e2:(binOp .eql 20 (.iface 142 (.agg #[])) .nilIface).run Tryz.prog w=.ok (.bool false) w:=by
  have hu20:=aGz aKw
  obtain ⟨q,hq⟩:=hu20
  have e4:∀ d,(Op.equalIn (d+1) 20 (.iface 142 (.agg #[])) .nilIface).run Tryz.prog w=.ok false w:=fun d=>by
   unfold Op.equalIn
   simp only [Sem.run_bind,run_underlying hq,Result.andThen_ok,Sem.run_pure]
  obtain ⟨d,hd⟩ : ∃ d,Op.maxDepth=d+1:=Nat.exists_eq_succ_of_ne_zero (by decide)
  simp [binOp,Op.equal,hd,e4]
 have e3:(eqGuard .eql 20 (.tmp 4) (.const .nilIface) (.iface 142 (.agg #[])) .nilIface).run Tryz.prog w=.ok () w:=by unfold eqGuard; simp
 simp [wpOps,Region.wanted,execOp,Oper.wp,Oper.upon,Exit.then,Act.put,Act.eval,List.range,List.range.loop,e2,e3]
 refine .inl (.inl (wp_cond_false (by simp [Act.eval]) ?_))
 refine wp_seq (wp_region ?_)
 have e5:(Instr.typeAssert (.iface 142 (.agg #[])) 20 142 false).run Tryz.prog w=.ok (.agg #[]) w:=by
  unfold Instr.typeAssert
  simp only [Sem.run_bind,run_underlying Tryz.underlying142,Result.andThen_ok]
  simp
 simp [wpOps,Region.wanted,execOp,Oper.wp,Oper.upon,Exit.then,Act.put,Act.eval,List.range,List.range.loop,e5]
 refine .inl (.inl (wp_region ?_))
 have e6:(storeVar 37 ⟨b,0,none⟩ (.int .i64 170)).run Tryz.prog w=.ok () (w.setRow b #[.int .i64 170]):=by
  have:=run_storeCells_at Tryz.prog b 0 T [.int .i64 170] 0 #[x] w hb (by simp) (by simp [Value.oneCell'])
  have hz:dG Tryz.prog 37=some 1:=by kernel_rfl
  cases hi:Tryz.prog.info? 37 with
  | none=>simp [dG,hi] at hz
  | some inf =>
   simp only [dG,hi,Option.map_some,Option.some.injEq] at hz
   simp only [Nat.add_zero] at this
   simpa [storeVar,sizeOf,typeInfo,hi,hz,Value.cells] using this
 simp [wpOps,Region.wanted,execOp,Oper.wp,Oper.upon,Exit.then,Act.put,Act.eval,List.range,List.range.loop,Instr.storeAt,Instr.sureAddr,e6]
 refine .inl (.inl (.inl ?_))
 refine ⟨rfl,_,rfl,.tuple #[],?_,⟨_,rfl⟩,rfl,rfl⟩
 simp [results,Tryz.f53]
set_option maxHeartbeats 4000000 in
theorem aRL (root:Nat→Y) (m:Meta) (xs:List Y) (hx:Sh) (G:PM) (hw:m.wf) (hs:SlR G 1 aL hx xs) (hK:RdNP G 1 0 (wa 64 kW)) (hl:xs.length≤1000000):Ct Tryz.prog 14 ([.agg (ba 32 root).toArray,m.val,hx.val xs.length]:List Value).toArray G [] (fun G' μ' u=>∃ (h':Sh) (l:List Ent) (er:Int),xF (kB root m xs) l er∧μ'=[]∧u=.tuple #[h'.val l.length,.int .i64 er]∧SlR G' 4 Ent.cells h' l):=by
 refine Ct.of Tryz.func14 rfl Tryz.ntmps14 rfl fun w0 hs0=>?_
 refine .seq (gH rfl rfl ?_)
 refine bX rfl rfl rfl ?_; intro b3
 refine bX rfl rfl rfl ?_; intro b4
 refine aS rfl rfl ?_
 refine al rfl aE6 ?_; intro b7
 refine .nil (.code (.seq (aJi (kB root m xs=none) [.slice none 0 0,.int .i64 170] rfl rfl rfl tN Tryz.results14 (aFv 37 _) rfl (fun hD G'=>⟨⟨none,0⟩,[],170,.inr ⟨hD,rfl,rfl⟩,rfl,rfl,SlR.nul⟩) (.g (lA rfl .no cH (.u rfl) (fun _=>RdN.own aT) (fun _=>aU _ _) ?_)))))
 refine lA rfl .no iU (.u rfl) (fun _=>RdN.own aF) (fun _=>Meta.len _) ?_
 refine .p (lH rfl aE0 (aB rfl (aB rfl (aB rfl aE))) (aFb root m xs hx _ hw hs hK hl) (fun ch G9 ρ9 μ9 hle9 hd he hm=>yO ⟨hd.1,aFM hd.2⟩ he hm .here (.tmp rfl (.cell rfl (fun w hw=>oL gD (Rd.own .here rfl w hw)) .nil))) ?_)
 rintro _ G15 μ15 hG15 ⟨ix,b15,ps,ha15,hr15,hi15,hB15,rfl,rfl,hR15⟩
 have hpl:=hR15.len
 have h2r:=aCT hB15
 rw [List.length_map] at h2r
 have hK:=hK.mono hG15
 refine .g (nC rfl rfl (fZ rfl nB rfl (lN rfl qQ rfl (Rd.own .here kR) ?_)))
 refine lE rfl aB7 rfl (aW (((ps.length-1):Nat):Int) rfl rfl rfl rfl ?_)
 refine aS rfl rfl (.nc (.seq ?_))
 obtain ⟨pf,epf⟩:=dO (k:=ps.length-1) (xs:=ps) (by omega)
 have e9:(ps.map (·.1)).getD ((ps.map (·.1)).length-1) gG=pf.1:=by rw [List.length_map,sQ rfl epf]
 refine .g (wH rfl aB5 (aB rfl (aB rfl (aB rfl aE))) (bQ .here) (aJh root (bH m) ps ix ha15 hr15 hi15 b15 _ hR15 hK (ps.length-1) 1 pf epf (by decide)) (fun ch G9 ρ9 μ9 hle9 hd he hm=>yO ⟨hd.1,aFN hB15 (by rw [e9]; exact hd.2)⟩ he hm .here (.tmp rfl (.cell rfl (fun w hw=>oL gD (Rd.own .here rfl w hw)) .nil))) ?_)
 rintro _ G24 μ24 hG24 ⟨f,h24,hwf,rfl,rfl,hs24⟩
 have hK:=hK.mono hG24
 have hR15:=hR15.mono hG24
 refine .nil (.code (.seq (kQ 4 Ent.cells 47 ?_)))
 have hQ:=aFL hB15 (by rw [e9]; exact hwf)
 rw [List.length_map] at hQ
 refine aM rfl rfl (aS rfl rfl (.nc (.seq (.seq (bD rfl rfl (mV rfl rfl (mV rfl rfl (.nc (.block ?_)))))))))
 refine bE (α:=Nat×Value×List Ent) (fun gh=>[(10,true,gh.2.1),(26,true,.int .i64 (gh.1:Int))]) (fun gh=>[rS 4 Ent.cells gh.2.1 47 gh.2.2,.blk b15 (cl (dK (dE root (aX (bH m))) (dF root (aX (bH m))) (ha15.val (aX (bH m)).length) (hr15.val ps.length) (hi15.val ix.length)) 98)])
  (fun gh Gl=>(gh.1≤ps.length-1)∧(kB root m xs=(kY root (bH m) (ps.map (·.1)) (ps.length-1-gh.1) gh.1 gh.2.2).bind (pV m))∧(gh.2.2.length≤gh.1*1000000)) (fun gh=>ps.length-1-gh.1) (0,.slice none 0 0,[]) [(4,true,_),(6,true,_),(7,true,_),(8,true,_),(25,true,_)] [_,_,_]
  (aA rfl (aO rfl (aA rfl (aA rfl (aA rfl (aA rfl (aA rfl eZ)))))))
  (mS .here rfl (mS .here rfl (mS .here rfl (mS .here rfl (mS .here rfl mN))))) ?_ ?_
 ·refine ⟨?_,?_,?_⟩
  ·(try dsimp only)<;>(first|omega|rfl|assumption|(simp; done))
  ·(try dsimp only)<;>(exact hQ)
  (try dsimp only)<;>(exact Nat.zero_le _)
 intro gh N0 Gl0 hN0 hGl0 hF0
 obtain ⟨k,v,acc⟩:=gh; dsimp only at hF0 hN0 ⊢
 obtain ⟨hk,hG,hal⟩:=hF0
 have hK:=hK.mono hGl0
 have hR15:=hR15.mono hGl0
 refine .g (cP rfl rfl rfl rfl (.g (cD rfl (fun c1=>?_) (fun c1=>?_))))
 ·have c1k:=c1
  try simp only [aC,aI,aD] at c1
  refine .skip (.code (.seq (.block (.seq (bD rfl rfl (mV rfl rfl (aS rfl rfl (.nc ?_))))))))
  obtain ⟨hst1,hst2⟩:=aFT hG (by omega)
  obtain ⟨p,ep⟩:=dO (k:=k) (xs:=ps) (by omega)
  refine .g (wH rfl aKo (aB rfl (aB rfl aE)) (bQ aF) (aM8 root (bH m) ps ix ha15 hr15 hi15 b15 _ hR15 hK k p ep) (fun ch G9 ρ9 μ9 hle9 hd he hm=>yO ⟨hd.1,hst1 hd.2⟩ he hm aF (.tmp rfl (.cell rfl (fun w hw=>oL gD (Rd.own .here rfl w hw)) .nil))) ?_)
  rintro _ G32 μ32 hG32 ⟨lz9,h32,hel,rfl,rfl,hs32⟩
  obtain ⟨y9,hwy,hry⟩:=aAx hel
  rw [sQ rfl ep] at hwy
  have hll:=aDj hry; have hyl:=wZ hwy; have hps:=hR15.sm p (List.mem_of_getElem? ep)
  have hgn:=hst2 _ hel
  refine apL (xs:=acc) rfl dZ vJ rfl (.u rfl) (.u rfl) aF hs32 (fun _ _=>Ent.len _) (aGT) (by omega) (by unfold maxLen; omega) ?_; intro v33 ov33
  refine .g (aW (((k+1):Nat):Int) rfl rfl rfl rfl ?_)
  refine .g (aZ (k+1,v33,acc++lz9) ?_ ?_ ?_ ?_ ?_)
  ·exact (aA rfl (aO rfl (aA rfl (aA rfl (aA rfl (aA rfl (aA rfl eZ)))))))
  ·exact (mS .here rfl (mS .here rfl (mS .here rfl (mS .here rfl (mS .here rfl mN)))))
  ·first|omega|(dsimp only; omega)
  ·exact (hGl0).trans hG32
  refine ⟨?_,?_,?_⟩
  ·(try dsimp only)<;>(first|omega|rfl|assumption|(simp; done))
  ·(try dsimp only)<;>(exact hgn)
  (try dsimp only)<;>(rw [List.length_append]; omega)
 have c1k:=c1
 try simp only [aC,aI,aD] at c1
 refine .exit (.xcode (.xlp (.xblk (.code (.seq ?_)))))
 refine jC .here (fun _ _=>rfl) (by intro b hb; cases hb) ?_; intro GfRA hRA hleRA evRA hsRA; subst evRA
 have hE:=aFR (n:=ps.length-1) (k:=k) hG (by omega)
 refine dP ⟨true,false⟩ aV (by kernel_rfl) ?_
 refine Wp.one 0 (by kernel_rfl) ?_
 refine mV rfl rfl (.nil (Wp.b1 1 (by kernel_rfl) ?_))
 refine kV rfl aEv (aB rfl aE) (aDm hRA acc _ hsRA (by omega)) ?_
 refine .nil (Wp.one 2 (by kernel_rfl) ?_)
 refine mV rfl rfl (.nil (Wp.one 3 (by kernel_rfl) ?_))
 refine mv rfl (.t rfl rfl) (.u rfl) (.nil (Wp.one 4 (by kernel_rfl) ?_))
 refine ln rfl (.t rfl rfl) gJ (.s rfl) (.nil (Wp.one 5 (by kernel_rfl) ?_))
 refine fz rfl (.t rfl rfl) aKJ (.u rfl) (.nil (Wp.one 6 (by kernel_rfl) ?_))
 refine ld rfl (.t rfl rfl) dA (.s rfl) (fun hc=>Rd.own aT (by first|exact aJ rfl|rfl)) ?_
 refine .nil (Wp.one 7 (by kernel_rfl) ?_)
 refine cp rfl (.t rfl rfl) (.s rfl) (.s rfl) rfl (.nil (Wp.one 8 (by kernel_rfl) ?_))
 refine cC rfl .no (.u rfl) (.s rfl) (.nil (Wp.one 9 (by kernel_rfl) ?_))
 refine mV rfl rfl (.nil (Wp.one 10 (by kernel_rfl) ?_))
 refine mv rfl (.t rfl rfl) (.u rfl) (.nil (Wp.one 11 (by kernel_rfl) ?_))
 refine ln rfl (.t rfl rfl) gJ (.s rfl) (.nil (Wp.one 12 (by kernel_rfl) ?_))
 refine cp rfl (.t rfl rfl) (.s rfl) (.u rfl) rfl (.nil (Wp.one 13 (by kernel_rfl) ?_))
 refine mv rfl (.t rfl rfl) (.s rfl) (.nil (Wp.one 14 (by kernel_rfl) ?_))
 refine mv rfl (.fc rfl rfl) (.u rfl) (.nil (Wp.one 15 (by kernel_rfl) ?_))
 refine ih rfl (.fc rfl rfl) dZ (.s rfl) (.u rfl) (fun hc=>by (try simp only [Bool.and_eq_true,decide_eq_true_eq,Bool.not_eq_true',Bool.or_eq_false_iff,decide_eq_false_iff_not,beq_iff_eq,beq_eq_false_iff_ne,ne_eq] at hc); omega) (fun hc=>by (try simp only [Bool.and_eq_true,decide_eq_true_eq,Bool.not_eq_true',Bool.or_eq_false_iff,decide_eq_false_iff_not,beq_iff_eq,beq_eq_false_iff_ne,ne_eq] at hc); omega) (fun hc=>hsRA.nn (k:=0) (by first|omega|(simp only [Bool.and_eq_true,decide_eq_true_eq,Bool.not_eq_true',Bool.or_eq_false_iff,decide_eq_false_iff_not,beq_iff_eq,beq_eq_false_iff_ne,ne_eq] at hc; omega)|(simp only [List.length_cons,List.length_nil]; omega))) ?_
 refine .nil (Wp.one 16 (by kernel_rfl) ?_)
 refine fa rfl (.fc rfl rfl) fM (.s rfl) (.nil (Wp.one 17 (by kernel_rfl) ?_))
 refine ld rfl (.fc rfl rfl) cE (.s rfl) (fun hc=>(hsRA.at (by decide) (uH (z:=Ent.zero) (k:=0) (by (try simp only [Bool.and_eq_true,decide_eq_true_eq,Bool.not_eq_true',Bool.or_eq_false_iff,decide_eq_false_iff_not,beq_iff_eq,beq_eq_false_iff_ne,ne_eq] at hc); omega)) 0 _ rfl).rd) ?_
 refine .nil (Wp.one 18 (by kernel_rfl) ?_)
 refine fz rfl (.fc rfl rfl) aKK (.u rfl) (.nil (Wp.one 19 (by kernel_rfl) ?_))
 refine ld rfl (.fc rfl rfl) cE (.s rfl) (fun hc=>Rd.own aT (by first|exact aJ rfl|rfl)) ?_
 refine .nil (Wp.one 20 (by kernel_rfl) ?_)
 refine cs rfl (.fc rfl rfl) (.s rfl) (.s rfl) rfl (.nil (Wp.one 21 (by kernel_rfl) ?_))
 refine mv rfl (.fc rfl rfl) (.s rfl) (.nil (Wp.one 22 (by kernel_rfl) ?_))
 refine mv rfl (.tc rfl rfl) (.u rfl) (.nil (Wp.one 23 (by kernel_rfl) ?_))
 refine mv rfl (.tc rfl rfl) (.u rfl) (.nil (Wp.one 24 (by kernel_rfl) ?_))
 refine ln rfl (.tc rfl rfl) gJ (.s rfl) (.nil (Wp.one 25 (by kernel_rfl) ?_))
 refine ar rfl (.tc rfl rfl) (.s rfl) (.u rfl) rfl (fun hc=>cB (by (try simp only [Bool.and_eq_true,decide_eq_true_eq,Bool.not_eq_true',Bool.or_eq_false_iff,decide_eq_false_iff_not,beq_iff_eq,beq_eq_false_iff_ne,ne_eq] at hc); omega) (by (try simp only [Bool.and_eq_true,decide_eq_true_eq,Bool.not_eq_true',Bool.or_eq_false_iff,decide_eq_false_iff_not,beq_iff_eq,beq_eq_false_iff_ne,ne_eq] at hc); omega)) ?_
 refine .nil (Wp.one 26 (by kernel_rfl) ?_)
 refine ih rfl (.tc rfl rfl) dZ (.s rfl) (.s rfl) (fun hc=>by (try simp only [Bool.and_eq_true,decide_eq_true_eq,Bool.not_eq_true',Bool.or_eq_false_iff,decide_eq_false_iff_not,beq_iff_eq,beq_eq_false_iff_ne,ne_eq] at hc); omega) (fun hc=>by (try simp only [Bool.and_eq_true,decide_eq_true_eq,Bool.not_eq_true',Bool.or_eq_false_iff,decide_eq_false_iff_not,beq_iff_eq,beq_eq_false_iff_ne,ne_eq] at hc); omega) (fun hc=>hsRA.nn (k:=((((acc.length:Nat):Int)-(1:Int))).toNat) (by first|omega|(simp only [Bool.and_eq_true,decide_eq_true_eq,Bool.not_eq_true',Bool.or_eq_false_iff,decide_eq_false_iff_not,beq_iff_eq,beq_eq_false_iff_ne,ne_eq] at hc; omega)|(simp only [List.length_cons,List.length_nil]; omega))) ?_
 refine .nil (Wp.one 27 (by kernel_rfl) ?_)
 refine fa rfl (.tc rfl rfl) fM (.s rfl) (.nil (Wp.one 28 (by kernel_rfl) ?_))
 refine ld rfl (.tc rfl rfl) cE (.s rfl) (fun hc=>(hsRA.at (k:=acc.length-1) (by (try simp only [Bool.and_eq_true,decide_eq_true_eq,Bool.not_eq_true',Bool.or_eq_false_iff,decide_eq_false_iff_not,beq_iff_eq,beq_eq_false_iff_ne,ne_eq] at hc); omega) (uH (z:=Ent.zero) (k:=acc.length-1) (by (try simp only [Bool.and_eq_true,decide_eq_true_eq,Bool.not_eq_true',Bool.or_eq_false_iff,decide_eq_false_iff_not,beq_iff_eq,beq_eq_false_iff_ne,ne_eq] at hc); omega)) 0 _ rfl).rd) ?_
 refine .nil (Wp.one 29 (by kernel_rfl) ?_)
 refine fz rfl (.tc rfl rfl) aKL (.u rfl) (.nil (Wp.one 30 (by kernel_rfl) ?_))
 refine ld rfl (.tc rfl rfl) cE (.s rfl) (fun hc=>Rd.own aT (by first|exact aJ rfl|rfl)) ?_
 refine .nil (Wp.one 31 (by kernel_rfl) ?_)
 refine cs rfl (.tc rfl rfl) (.s rfl) (.s rfl) rfl (.nil (Wp.one 32 (by kernel_rfl) ?_))
 refine cC rfl (.fc rfl rfl) (.s rfl) (.s rfl) (.nil (Wp.one 33 (by kernel_rfl) ?_))
 refine cL rfl (.t rfl rfl) (.s rfl) (.s rfl) (.nil (Wp.one 34 (by kernel_rfl) ?_))
 refine cC rfl .no (.u rfl) (.s rfl) (.nil (tS 35 (by kernel_rfl) (by kernel_rfl) ?_))
 refine lH rfl iI (aB rfl aE) (nJ _ _) (fun ch G9 ρ9 μ9 hle9 hd he hm=>yO ⟨hd.1,aFS hE hd.2⟩ he hm aF (.tmp rfl (.cell rfl (fun w hw=>oL gD (Rd.own .here rfl w hw)) .nil))) ?_
 rintro _ G70 μ70 hG70 ⟨hq70,rfl,rfl⟩
 have hsRA:=hsRA.mono hG70
 refine .nil (Wp.last (by kernel_rfl) ?_)
 refine .g (s1 rfl (.u rfl) (.u rfl) rfl oS aF (by first|decide|(simp only [bO,aU,bJ]; omega)) (rfl) ?_)
 refine .nil (.code (.ret (vM tN rfl (fun w=>vR w _) Tryz.results14 (.tmp rfl (.cell rfl (fun w hw=>oL gD (Rd.own .here rfl w hw)) .nil)) mN ?_)))
 exact ⟨hRA,acc,0,.inl ⟨aFU hE hq70,rfl⟩,rfl,rfl,hsRA⟩
theorem aK6:aQ Tryz.prog 62=true:=by kernel_rfl
theorem aK7:aQ Tryz.prog 63=true:=by kernel_rfl
theorem aTm:aQ Tryz.prog 65=true:=by kernel_rfl
set_option maxHeartbeats 4000000 in
theorem aPM (root:Nat→Y) (m:Meta) (xs:List Y) (hx:Sh) (G:PM) (hw:m.wf) (hs:SlR G 1 aL hx xs) (hR:RdNP G 0 0 (wa 64 kW)) (hl:xs.length≤1000000):Ct Tryz.prog 15 ([.agg (ba 32 root).toArray,m.val,hx.val xs.length]:List Value).toArray G [] (fun G' μ' u=>∃ (h':Sh) (l:List Ent) (er:Int),xF (kB root m xs) l er∧l.length≤10000000000000∧μ'=[]∧u=.tuple #[h'.val l.length,.int .i64 er]∧SlR G' 4 Ent.cells h' l):=by
 refine Ct.of Tryz.func15 rfl Tryz.ntmps15 rfl fun w0 hs0=>?_
 refine .seq (gH rfl rfl ?_)
 refine bX rfl rfl rfl ?_; intro b3
 refine bX rfl rfl rfl ?_; intro b4
 refine aS rfl rfl (aS rfl rfl (.nc (.seq ?_)))
 refine fS aF (by intro b hb; cases hb) ?_; intro Gfb3 hleb3 hbb3
 have hs:=hs.mono hleb3
 have hR:=hR.mono hleb3
 refine fS .here (by intro b hb; cases hb) ?_; intro Gfb4 hleb4 hbb4
 have hs:=hs.mono hleb4
 have hR:=hR.mono hleb4
 have hbb3:=hbb3.mono hleb4
 refine .g (lA rfl .no cH (.u rfl) (fun _=>(hbb3.rdn (m:=32) (cs':=_) (by first|exact iY|exact gE|exact iX)).rd) (fun _=>(aU _ _)) ?_)
 refine lA rfl .no iU (.u rfl) (fun _=>(hbb4.rdn (m:=40) (cs':=m.cells) (rfl)).rd) (fun _=>(Meta.len _)) ?_
 refine .p (kc rfl aK6 (aB rfl (aB rfl (aB rfl aE))) (aHt root m xs hx _ hw hs hR hl) ?_)
 rintro _ G24 μ24 hG24 ⟨hq27,hb27,hz27,hd27,qs,bs,zs,ds,er27,hP27,hql,rfl,rfl,hsq,hsb,hsz,hsd⟩
 have hR:=hR.mono hG24
 have hbb3:=hbb3.mono hG24
 have hbb4:=hbb4.mono hG24
 refine .p (eX rfl rfl rfl (eX rfl rfl rfl (eX rfl rfl rfl ?_)))
 refine al rfl xR ?_; intro b9
 refine .p (sw rfl (.u rfl) (.u rfl) rfl nT .here rfl (lQ rfl rfl rfl) ?_)
 refine .g (cP rfl rfl rfl rfl (.g (cD rfl (fun c1=>?_) (fun c1=>?_))))
 ·have c1k:=c1
  try simp only [aC,aI,aD] at c1
  refine .seq (eH rfl rfl (mV rfl rfl (aS rfl rfl (aS rfl rfl (.nc (.ret (aP Tryz.results15 (.tmp rfl (.tmp rfl .nil)) ?_)))))))
  obtain ⟨rfl,hN,_⟩:=aO2 hP27 (by simpa using c1)
  exact ⟨⟨none,0⟩,[],170,.inr ⟨aFM hN,rfl,rfl⟩,Nat.zero_le _,rfl,rfl,SlR.nul⟩
 have c1k:=c1
 try simp only [aC,aI,aD] at c1
 refine .skip (.code (.seq ?_))
 obtain ⟨rows,ix,hB,h2r,hqs,hbs,hzs,hds⟩:=aO5 hP27 (by simpa using c1)
 have lql:qs.length=rows.length+1:=by have:=congrArg List.length hqs; simpa using this
 have lbl:bs.length=rows.length-1:=by rw [hbs,List.length_map,List.length_take]; omega
 have ldl:ds.length=rows.length:=by rw [hds,List.length_map]
 obtain ⟨xf,exf⟩:=dO (k:=bs.length) (xs:=rows) (by omega)
 have hsm:=aO4 hB
 have e9:rows.getD (rows.length-1) gG=xf:=by rw [← lbl]; exact aDu exf
 refine .g (fZ rfl aB1 rfl (lO rfl aEY rfl .here (by first|exact aJ rfl|rfl) ?_))
 refine lE rfl vG rfl (.g (bG (mc:=⟨false,false⟩) [0,1,2,3,4,5,6,7,8,9,10,11,12,13,14,15,16] aV (by kernel_rfl) ?_))
 refine lA rfl .no cH (.u rfl) (fun _=>(hbb3.rdn (m:=32) (cs':=_) (by first|exact iY|exact gE|exact iX)).rd) (fun _=>(aU _ _)) ?_
 refine lA rfl .no iU (.u rfl) (fun _=>(hbb4.rdn (m:=40) (cs':=m.cells) (rfl)).rd) (fun _=>(Meta.len _)) ?_
 refine mV rfl rfl (mV rfl rfl (ih rfl .no gP (.u rfl) (.u rfl) (by omega) (by omega) (fun _=>hsq.sl.nn (k:=bs.length) (by omega)) ?_))
 obtain ⟨p40,ep40⟩:=dO (k:=bs.length) (xs:=qs) (by omega)
 have hq40:=hsq.get ep40
 refine lN rfl bV rfl ((hsq.at (bs.length) (by omega) ep40).rd) ?_
 refine fZ rfl oQ rfl (lO rfl pN rfl .here (by first|exact aJ rfl|rfl) ?_)
 refine mV rfl rfl (ih rfl .no dM (.u rfl) (.u rfl) (by omega) (by omega) (fun _=>hsd.nn (k:=bs.length) (by first|omega|(simp only [Bool.and_eq_true,decide_eq_true_eq,Bool.not_eq_true',Bool.or_eq_false_iff,decide_eq_false_iff_not,beq_iff_eq,beq_eq_false_iff_ne,ne_eq] at hc; omega)|(simp only [List.length_cons,List.length_nil]; omega))) ?_)
 obtain ⟨d45,ed45⟩:=dO (k:=bs.length) (xs:=ds) (by omega)
 refine lA rfl .no cH (.u rfl) (fun _=>(hsd.at (by omega) ed45).rd) (fun _=>aU _ _) ?_
 have e1:=aHm hqs exf ep40; have e2:=aG8 hds exf ed45; have e3:=hsm xf (List.mem_of_getElem? exf)
 refine kc rfl aK7 (aB rfl (aB rfl (aB rfl (aB rfl (aB rfl aE))))) (aHu root m xf 1 p40.2 d45 p40.1 _ e1 e2 hw hq40 hR (by rw [e1]; omega) (by omega)) ?_
 rintro _ G46 μ46 hG46 ⟨h46,L46,ok46,hW46,rfl,rfl,hs46⟩
 have hl46:=hW46.len
 have hR:=hR.mono hG46
 have hbb3:=hbb3.mono hG46
 have hbb4:=hbb4.mono hG46
 have hsq:=hsq.mono hG46
 have hsd:=hsd.mono hG46
 refine .p (eX rfl rfl rfl (eX rfl rfl rfl (aS rfl rfl (aS rfl rfl (.nc (.seq (aM rfl rfl (aS rfl rfl (.nc (.seq (.seq (kQ 4 Ent.cells 47 (aM rfl rfl (aS rfl rfl (.nc (.block ?_))))))))))))))))
 refine bE (α:=Nat×Value×List Ent×Bool) (fun gh=>[(13,true,.bool gh.2.2.2),(14,true,gh.2.1),(15,true,.int .i64 (gh.1:Int))]) (fun gh=>[rS 4 Ent.cells gh.2.1 47 gh.2.2.1])
  (fun gh Gl=>(gh.1≤bs.length)∧(AlS root m rows (kB root m xs) bs.length gh.1 gh.2.2.1 gh.2.2.2)∧(gh.2.2.1.length≤gh.1*1000000)) (fun gh=>bs.length-gh.1) (0,.slice none 0 0,[],ok46) [(3,true,_),(4,true,_),(8,true,_),(9,true,_),(11,true,_)] [_]
  (aA rfl (aA rfl (aO rfl (aA rfl (aA rfl (aA rfl (aA rfl (aA rfl eZ))))))))
  (mS .here rfl (mS .here rfl mN)) ?_ ?_
 ·refine ⟨?_,?_,?_⟩
  ·(try dsimp only)<;>(first|omega|rfl|assumption|(simp; done))
  ·(try dsimp only)<;>(exact aJs hB (by omega) exf hW46)
  (try dsimp only)<;>(exact Nat.zero_le _)
 intro gh N0 Gl0 hN0 hGl0 hF0
 obtain ⟨k,v,acc,ok⟩:=gh; dsimp only at hF0 hN0 ⊢
 obtain ⟨hk,hS,hal⟩:=hF0
 have hR:=hR.mono hGl0
 have hbb3:=hbb3.mono hGl0
 have hbb4:=hbb4.mono hGl0
 have hsq:=hsq.mono hGl0
 have hsd:=hsd.mono hGl0
 refine .g (cP rfl rfl rfl rfl (mV rfl rfl (mv rfl (.t rfl rfl) (.u rfl) (cC rfl .no (.u rfl) (.s rfl) (.g (cD rfl (fun c2=>?_) (fun c2=>?_)))))))
 ·have c2k:=c2
  try simp only [aC,aI,aD] at c2
  refine .skip (.code (.seq (.block (.seq ?_))))
  obtain ⟨x9,ex9⟩:=dO (k:=k) (xs:=rows) (by omega)
  refine bG (mc:=⟨false,false⟩) [0,1,2,3,4,5,6,7,8,9,10,11,12,13,14,15,16,17,18] aV (by kernel_rfl) ?_
  refine lA rfl .no cH (.u rfl) (fun _=>(hbb3.rdn (m:=32) (cs':=_) (by first|exact iY|exact gE|exact iX)).rd) (fun _=>(aU _ _)) ?_
  refine lA rfl .no iU (.u rfl) (fun _=>(hbb4.rdn (m:=40) (cs':=m.cells) (rfl)).rd) (fun _=>(Meta.len _)) ?_
  refine mV rfl rfl (mV rfl rfl (ih rfl .no gP (.u rfl) (.u rfl) (by omega) (by omega) (fun _=>hsq.sl.nn (k:=k) (by omega)) ?_))
  obtain ⟨p63,ep63⟩:=dO (k:=k) (xs:=qs) (by omega)
  have hq63:=hsq.get ep63
  refine lN rfl bV rfl ((hsq.at (k) (by omega) ep63).rd) ?_
  refine fZ rfl oQ rfl (lO rfl pN rfl aF (by first|exact aJ rfl|rfl) ?_)
  refine mV rfl rfl (ih rfl .no dM (.u rfl) (.u rfl) (by omega) (by omega) (fun _=>hsd.nn (k:=k) (by first|omega|(simp only [Bool.and_eq_true,decide_eq_true_eq,Bool.not_eq_true',Bool.or_eq_false_iff,decide_eq_false_iff_not,beq_iff_eq,beq_eq_false_iff_ne,ne_eq] at hc; omega)|(simp only [List.length_cons,List.length_nil]; omega))) ?_)
  obtain ⟨d68,ed68⟩:=dO (k:=k) (xs:=ds) (by omega)
  refine lA rfl .no cH (.u rfl) (fun _=>(hsd.at (by omega) ed68).rd) (fun _=>aU _ _) ?_
  refine .p (aW (((2+k):Nat):Int) rfl rfl rfl rfl ?_)
  have e1:=aHm hqs ex9 ep63; have e2:=aG8 hds ex9 ed68; have e3:=hsm x9 (List.mem_of_getElem? ex9)
  refine kc rfl aK7 (aB rfl (aB rfl (aB rfl (aB rfl (aB rfl aE))))) (aHu root m x9 (2+k) p63.2 d68 p63.1 _ e1 e2 hw hq63 hR (by rw [e1]; omega) (by omega)) ?_
  rintro _ G71 μ71 hG71 ⟨h71,L71,ok71,hW71,rfl,rfl,hs71⟩
  have hl71:=hW71.len
  have hbb4:=hbb4.mono hG71
  refine .p (eX rfl rfl rfl (eX rfl rfl rfl (.g (kc rfl aTm (aB rfl aE) (aPK L71 h71 _ hs71 (by omega)) ?_))))
  rintro _ G76 μ76 hG76 ⟨h76,l76,er76,hR76,rfl,rfl,hs76⟩
  have hll76:=aPp hR76
  have hbb4:=hbb4.mono hG76
  refine .p (eX rfl rfl rfl (eX rfl rfl rfl (aS rfl rfl (aS rfl rfl (.nc (.seq (nO rfl rfl (mV rfl rfl (mV rfl rfl (mv rfl (.t rfl rfl) (.u rfl) (cp rfl (.t rfl rfl) (.s rfl) (.u rfl) rfl (cC rfl .no (.u rfl) (.s rfl) (aS rfl rfl (.nc (gH rfl rfl (mV rfl rfl (mV rfl rfl ?_)))))))))))))))))
  refine apL (xs:=acc) rfl dZ vJ rfl (.u rfl) (.u rfl) .here hs76 (fun _ _=>Ent.len _) (aGT) (by omega) (by unfold maxLen; omega) ?_; intro v86 ov86
  refine .g (aW (((k+1):Nat):Int) rfl rfl rfl rfl ?_)
  refine .g (aZ (k+1,v86,acc++l76,ok71&&(er76 == 0)) ?_ ?_ ?_ ?_ ?_)
  ·exact (aA rfl (aA rfl (aO rfl (aA rfl (aA rfl (aA rfl (aA rfl (aA rfl eZ))))))))
  ·exact (mS .here rfl (mS .here rfl mN))
  ·first|omega|(dsimp only; omega)
  ·exact ((hGl0).trans hG71).trans hG76
  refine ⟨?_,?_,?_⟩
  ·(try dsimp only)<;>(first|omega|rfl|assumption|(simp; done))
  ·(try dsimp only)<;>(exact hS.step (by omega) c2.2 ex9 hW71 hR76)
  (try dsimp only)<;>(rw [List.length_append]; omega)
 have c2k:=c2
 try simp only [aC,aI,aD] at c2
 refine .exit (.xcode (.xlp (.xblk (.code (.seq (.seq ?_))))))
 refine jC .here (fun _ _=>rfl) (by intro b hb; cases hb) ?_; intro GfRA hRA hleRA evRA hsRA; subst evRA
 have hbb4:=hbb4.mono hleRA
 have hF9:=hS.fin (k:=k) (fun q=>by rcases c2 with h | h; (omega); (rw [h] at q; exact absurd q.2 (by decide)))
 refine dP ⟨false,false⟩ aV (by kernel_rfl) ?_
 refine Wp.one 0 (by kernel_rfl) ?_
 refine mV rfl rfl (.nil (Wp.one 1 (by kernel_rfl) ?_))
 refine nt rfl .no (.u rfl) (.nil (Wp.one 2 (by kernel_rfl) ?_))
 refine mV rfl rfl (.nil (Wp.one 3 (by kernel_rfl) ?_))
 refine mv rfl (.f rfl rfl) (.u rfl) (.nil (Wp.b1 4 (by kernel_rfl) ?_))
 refine kv rfl (.f rfl rfl) aKm (Eva.cons (.s rfl) aE) (fun hc=>aHw hRA acc _ hsRA (by (try simp only [Bool.and_eq_true,decide_eq_true_eq,Bool.not_eq_true',Bool.or_eq_false_iff,decide_eq_false_iff_not,beq_iff_eq,beq_eq_false_iff_ne,ne_eq] at hc); omega)) ?_
 refine .nil (Wp.one 5 (by kernel_rfl) ?_)
 refine nt rfl (.f rfl rfl) (.s rfl) (.nil (Wp.one 6 (by kernel_rfl) ?_))
 refine cL rfl .no (.u rfl) (.s rfl) (.nil (Wp.one 7 (by kernel_rfl) ?_))
 refine mV rfl rfl (.nil (Wp.one 8 (by kernel_rfl) ?_))
 refine mv rfl (.f rfl rfl) (.u rfl) (.nil (Wp.one 9 (by kernel_rfl) ?_))
 refine ln rfl (.f rfl rfl) gJ (.s rfl) (.nil (Wp.one 10 (by kernel_rfl) ?_))
 refine fa rfl (.f rfl rfl) aKJ (.u rfl) (.nil (Wp.one 11 (by kernel_rfl) ?_))
 refine ld rfl (.f rfl rfl) dA (.s rfl) (fun hc=>(hbb4.rd (by rfl)).rd) ?_
 refine .nil (Wp.one 12 (by kernel_rfl) ?_)
 refine cp rfl (.f rfl rfl) (.s rfl) (.s rfl) rfl (.nil (Wp.one 13 (by kernel_rfl) ?_))
 refine cL rfl .no (.u rfl) (.s rfl) (.nil (Wp.one 14 (by kernel_rfl) ?_))
 refine mV rfl rfl (.nil (Wp.one 15 (by kernel_rfl) ?_))
 refine mv rfl (.f rfl rfl) (.u rfl) (.nil (Wp.one 16 (by kernel_rfl) ?_))
 refine ln rfl (.f rfl rfl) gJ (.s rfl) (.nil (Wp.one 17 (by kernel_rfl) ?_))
 refine cp rfl (.f rfl rfl) (.s rfl) (.u rfl) rfl (.nil (Wp.one 18 (by kernel_rfl) ?_))
 refine mv rfl (.f rfl rfl) (.s rfl) (.nil (Wp.one 19 (by kernel_rfl) ?_))
 refine mv rfl (.tc rfl rfl) (.u rfl) (.nil (Wp.one 20 (by kernel_rfl) ?_))
 refine ih rfl (.tc rfl rfl) dZ (.s rfl) (.u rfl) (fun hc=>by (try simp only [Bool.and_eq_true,decide_eq_true_eq,Bool.not_eq_true',Bool.or_eq_false_iff,decide_eq_false_iff_not,beq_iff_eq,beq_eq_false_iff_ne,ne_eq] at hc); omega) (fun hc=>by (try simp only [Bool.and_eq_true,decide_eq_true_eq,Bool.not_eq_true',Bool.or_eq_false_iff,decide_eq_false_iff_not,beq_iff_eq,beq_eq_false_iff_ne,ne_eq] at hc); omega) (fun hc=>hsRA.nn (k:=0) (by first|omega|(simp only [Bool.and_eq_true,decide_eq_true_eq,Bool.not_eq_true',Bool.or_eq_false_iff,decide_eq_false_iff_not,beq_iff_eq,beq_eq_false_iff_ne,ne_eq] at hc; omega)|(simp only [List.length_cons,List.length_nil]; omega))) ?_
 refine .nil (Wp.one 21 (by kernel_rfl) ?_)
 refine fa rfl (.tc rfl rfl) fM (.s rfl) (.nil (Wp.one 22 (by kernel_rfl) ?_))
 refine ld rfl (.tc rfl rfl) cE (.s rfl) (fun hc=>(hsRA.at (by decide) (uH (z:=Ent.zero) (k:=0) (by (try simp only [Bool.and_eq_true,decide_eq_true_eq,Bool.not_eq_true',Bool.or_eq_false_iff,decide_eq_false_iff_not,beq_iff_eq,beq_eq_false_iff_ne,ne_eq] at hc); omega)) 0 _ rfl).rd) ?_
 refine .nil (Wp.one 23 (by kernel_rfl) ?_)
 refine fa rfl (.tc rfl rfl) aKK (.u rfl) (.nil (Wp.one 24 (by kernel_rfl) ?_))
 refine ld rfl (.tc rfl rfl) cE (.s rfl) (fun hc=>(hbb4.rd (by rfl)).rd) ?_
 refine .nil (Wp.one 25 (by kernel_rfl) ?_)
 refine cs rfl (.tc rfl rfl) (.s rfl) (.s rfl) rfl (.nil (Wp.one 26 (by kernel_rfl) ?_))
 refine mv rfl (.tc rfl rfl) (.s rfl) (.nil (Wp.one 27 (by kernel_rfl) ?_))
 refine mv rfl (.fc rfl rfl) (.u rfl) (.nil (Wp.one 28 (by kernel_rfl) ?_))
 refine mv rfl (.fc rfl rfl) (.u rfl) (.nil (Wp.one 29 (by kernel_rfl) ?_))
 refine ln rfl (.fc rfl rfl) gJ (.s rfl) (.nil (Wp.one 30 (by kernel_rfl) ?_))
 refine dR (((acc.length-1):Nat):Int) rfl (.fc rfl rfl) (.s rfl) (.u rfl) rfl (fun hc=>by (try simp only [Bool.and_eq_true,decide_eq_true_eq,Bool.not_eq_true',Bool.or_eq_false_iff,decide_eq_false_iff_not,beq_iff_eq,beq_eq_false_iff_ne,ne_eq] at hc); omega) (fun hc=>cB (by (try simp only [Bool.and_eq_true,decide_eq_true_eq,Bool.not_eq_true',Bool.or_eq_false_iff,decide_eq_false_iff_not,beq_iff_eq,beq_eq_false_iff_ne,ne_eq] at hc); omega) (by (try simp only [Bool.and_eq_true,decide_eq_true_eq,Bool.not_eq_true',Bool.or_eq_false_iff,decide_eq_false_iff_not,beq_iff_eq,beq_eq_false_iff_ne,ne_eq] at hc); omega)) ?_
 refine .nil (Wp.one 31 (by kernel_rfl) ?_)
 refine ih rfl (.fc rfl rfl) dZ (.s rfl) (.s rfl) (fun hc=>by (try simp only [Bool.and_eq_true,decide_eq_true_eq,Bool.not_eq_true',Bool.or_eq_false_iff,decide_eq_false_iff_not,beq_iff_eq,beq_eq_false_iff_ne,ne_eq] at hc); omega) (fun hc=>by (try simp only [Bool.and_eq_true,decide_eq_true_eq,Bool.not_eq_true',Bool.or_eq_false_iff,decide_eq_false_iff_not,beq_iff_eq,beq_eq_false_iff_ne,ne_eq] at hc); omega) (fun hc=>hsRA.nn (k:=(acc.length-1)) (by first|omega|(simp only [Bool.and_eq_true,decide_eq_true_eq,Bool.not_eq_true',Bool.or_eq_false_iff,decide_eq_false_iff_not,beq_iff_eq,beq_eq_false_iff_ne,ne_eq] at hc; omega)|(simp only [List.length_cons,List.length_nil]; omega))) ?_
 refine .nil (Wp.one 32 (by kernel_rfl) ?_)
 refine fa rfl (.fc rfl rfl) fM (.s rfl) (.nil (Wp.one 33 (by kernel_rfl) ?_))
 refine ld rfl (.fc rfl rfl) cE (.s rfl) (fun hc=>(hsRA.at (k:=acc.length-1) (by (try simp only [Bool.and_eq_true,decide_eq_true_eq,Bool.not_eq_true',Bool.or_eq_false_iff,decide_eq_false_iff_not,beq_iff_eq,beq_eq_false_iff_ne,ne_eq] at hc); omega) (uH (z:=Ent.zero) (k:=acc.length-1) (by (try simp only [Bool.and_eq_true,decide_eq_true_eq,Bool.not_eq_true',Bool.or_eq_false_iff,decide_eq_false_iff_not,beq_iff_eq,beq_eq_false_iff_ne,ne_eq] at hc); omega)) 0 _ rfl).rd) ?_
 refine .nil (Wp.one 34 (by kernel_rfl) ?_)
 refine fa rfl (.fc rfl rfl) aKL (.u rfl) (.nil (Wp.one 35 (by kernel_rfl) ?_))
 refine ld rfl (.fc rfl rfl) cE (.s rfl) (fun hc=>(hbb4.rd (by rfl)).rd) ?_
 refine .nil (Wp.one 36 (by kernel_rfl) ?_)
 refine cs rfl (.fc rfl rfl) (.s rfl) (.s rfl) rfl (.nil (Wp.one 37 (by kernel_rfl) ?_))
 refine cL rfl (.tc rfl rfl) (.s rfl) (.s rfl) (.nil (Wp.one 38 (by kernel_rfl) ?_))
 refine cC rfl (.f rfl rfl) (.s rfl) (.s rfl) (.nil (Wp.one 39 (by kernel_rfl) ?_))
 refine cL rfl .no (.u rfl) (.s rfl) (.nil (Wp.last (by kernel_rfl) ?_))
 refine .code (cD rfl (fun c3=>?_) (fun c3=>?_))
 ·have c3k:=c3
  try simp only [aC,aI,aD] at c3
  refine .seq (bD rfl rfl (aS rfl rfl (aS rfl rfl (.nc (.ret (aP Tryz.results15 (.tmp rfl (.tmp rfl .nil)) ?_))))))
  exact ⟨⟨none,0⟩,[],170,.inr ⟨aPh hF9 c3k,rfl,rfl⟩,Nat.zero_le _,rfl,rfl,SlR.nul⟩
 have c3k:=c3
 try simp only [aC,aI,aD] at c3
 refine .skip (.code (.seq (eH rfl rfl (mV rfl rfl (aS rfl rfl (aS rfl rfl (.nc (.ret (aP Tryz.results15 (.tmp rfl (.tmp rfl .nil)) ?_)))))))))
 exact ⟨hRA,acc,0,.inl ⟨aPi hF9 c3k,rfl⟩,by omega,rfl,rfl,hsRA⟩
theorem aPN (root:Nat→Y) (m:Meta) (xs:List Y) (hx:Sh) (G:PM) (hw:m.wf) (hs:SlR G 1 aL hx xs) (hR:RdNP G 0 0 (wa 64 kW)) (hl:xs.length≤1000000):Ct Tryz.prog 17 ([.agg (ba 32 root).toArray,m.val,hx.val xs.length]:List Value).toArray G [] (fun G' μ' u=>∃ (h':Sh) (qs:List (Sh×List Y)) (er:Int),xW (sU root m xs) (qs.map (·.2)) er∧μ'=[]∧u=.tuple #[h'.val qs.length,.int .i64 er]∧SlP G' h' qs):=by
 refine Ct.of Tryz.func17 rfl Tryz.ntmps17 rfl fun w0 hs0=>?_
 refine .seq (gH rfl rfl ?_)
 refine bX rfl rfl rfl ?_; intro b3
 refine bX rfl rfl rfl ?_; intro b4
 refine .g (lA rfl .no cH (.u rfl) (fun _=>RdN.own aF) (fun _=>aU _ _) ?_)
 refine lA rfl .no iU (.u rfl) (fun _=>RdN.part (n:=40) (cs':=m.cells) .here (rfl)) (fun _=>(Meta.len _)) ?_
 refine .p (kc rfl aK6 (aB rfl (aB rfl (aB rfl aE))) (aHt root m xs hx _ hw hs hR hl) ?_)
 rintro _ G15 μ15 hG15 ⟨hq18,hb18,hz18,hd18,qs,bs,zs,ds,er18,hP18,hql,rfl,rfl,hsq,hsb,hsz,hsd⟩
 refine .p (eX rfl rfl rfl (eX rfl rfl rfl (eX rfl rfl rfl ?_)))
 refine al rfl xR ?_; intro b9
 refine .p (sw rfl (.u rfl) (.u rfl) rfl nT .here rfl (lQ rfl rfl rfl) ?_)
 refine aS rfl rfl (.nc (.seq (gH rfl rfl (mV rfl rfl (mV rfl rfl (aS rfl rfl (aS rfl rfl (.nc (.ret (aP Tryz.results17 (.tmp rfl (.tmp rfl .nil)) ?_))))))))))
 exact ⟨hq18,qs,er18,aO3 hP18,rfl,rfl,hsq⟩
theorem aQb (ha hb:Sh) (a b:List (Sh×List Y)) (G:PM) (hs:SlP G ha a) (hs2:SlP G hb b) (hl:a.length≤10000000):Ct Tryz.prog 19 ([ha.val a.length,hb.val b.length]:List Value).toArray G [] (fun _ μ' u=>μ'=[]∧u=.bool (B (a.map (·.2)=b.map (·.2)))):=by
 refine Ct.of Tryz.func19 rfl Tryz.ntmps19 rfl fun w0 hs0=>?_
 refine .g (lE rfl xP rfl (.p (lE rfl xP rfl (cP rfl rfl rfl rfl (.g (cD rfl (fun c1=>?_) (fun c1=>?_)))))))
 ·have c1k:=c1
  try simp only [aC,aD] at c1
  refine .seq (aM rfl rfl (aS rfl rfl (.nc (.ret (aP Tryz.results19 (.tmp rfl .nil) ?_)))))
  exact ⟨rfl,congrArg Value.bool (aQ2 (by omega)).symm⟩
 have c1k:=c1
 try simp only [aC,aD] at c1
 refine .g (lE rfl xP rfl (mV rfl rfl (.nc (.block ?_))))
 refine bE (α:=Nat) (fun k=>[(13,true,.int .i64 (k:Int))]) (fun _=>[])
  (fun k Gl=>(k≤a.length)∧(∀ j p q,j<k→a[j]? = some p→b[j]? = some q→p.2=q.2)) (fun k=>a.length-k) 0 [(0,true,_),(1,true,_),(12,true,_)] []
  (aO rfl (aA rfl (aA rfl (aA rfl eZ))))
  mN ?_ ?_
 ·refine ⟨?_,?_⟩
  ·(try dsimp only)<;>(first|omega|rfl|assumption|(simp; done))
  (try dsimp only)<;>(exact fun j p q h=>absurd h (Nat.not_lt_zero _))
 intro k N0 Gl0 hN0 hGl0 hF0
 try dsimp only at hF0 hN0 ⊢
 obtain ⟨hk,hn⟩:=hF0
 have hs:=hs.mono hGl0
 have hs2:=hs2.mono hGl0
 refine .g (cP rfl rfl rfl rfl (.g (cD rfl (fun c2=>?_) (fun c2=>?_))))
 ·have c2k:=c2
  try simp only [aC,aD] at c2
  refine .g (bG (mc:=⟨false,false⟩) [0,1,2,3,4,5,6,7,8,9,10] aV (by kernel_rfl) ?_)
  refine mV rfl rfl (mV rfl rfl (ih rfl .no gP (.u rfl) (.u rfl) (by omega) (by omega) (fun _=>hs.sl.nn (k:=k) (by omega)) ?_))
  obtain ⟨p19,ep19⟩:=dO (k:=k) (xs:=a) (by omega)
  have hq19:=hs.get ep19
  refine lN rfl bV rfl ((hs.at (k) (by omega) ep19).rd) ?_
  refine sB rfl .no jX (.u rfl) (fun _=>hq19.sc) ?_
  refine mV rfl rfl (mV rfl rfl (ih rfl .no gP (.u rfl) (.u rfl) (by omega) (by omega) (fun _=>hs2.sl.nn (k:=k) (by omega)) ?_))
  obtain ⟨p24,ep24⟩:=dO (k:=k) (xs:=b) (by omega)
  have hq24:=hs2.get ep24
  refine lN rfl bV rfl ((hs2.at (k) (by omega) ep24).rd) ?_
  refine sB rfl .no jX (.u rfl) (fun _=>hq24.sc) ?_
  refine cbn rfl .no (.u rfl) (.u rfl) ?_
  refine .g (cD rfl (fun c3=>?_) (fun c3=>?_))
  ·have c3k:=c3
   try simp only [aC,aD] at c3
   refine .seq (aM rfl rfl (aS rfl rfl (.nc (.ret (aP Tryz.results19 (.tmp rfl .nil) ?_)))))
   exact ⟨rfl,congrArg Value.bool (aQ3 ep19 ep24 (by simpa using c3k)).symm⟩
  have c3k:=c3
  try simp only [aC,aD] at c3
  refine .g (aW (((k+1):Nat):Int) rfl rfl rfl rfl ?_)
  refine .g (aZ (k+1) ?_ ?_ ?_ ?_ ?_)
  ·exact (aO rfl (aA rfl (aA rfl (aA rfl eZ))))
  ·exact mN
  ·first|omega|(dsimp only; omega)
  ·exact hGl0
  refine ⟨?_,?_⟩
  ·(try dsimp only)<;>(first|omega|rfl|assumption|(simp; done))
  (try dsimp only)<;>(exact aQ4 hn ep19 ep24 (by simpa using c3k))
 have c2k:=c2
 try simp only [aC,aD] at c2
 refine .exit (.xcode (.xlp (.xblk (.code (.seq (aM rfl rfl (aS rfl rfl (.nc (.ret (aP Tryz.results19 (.tmp rfl .nil) ?_))))))))))
 exact ⟨rfl,congrArg Value.bool (aQ5 (by omega) (by omega) hn).symm⟩
theorem aKq:aQ Tryz.prog 68=true:=by kernel_rfl
theorem aFz (xs:List Y) (h:Sh) (G:PM) (hs:SlR G 1 aL h xs) (hl:xs.length≤1000000000):Ct Tryz.prog 68 ([h.val xs.length]:List Value).toArray G [] (PR 5 (fun L=>L=xs)):=by
 refine Ct.of Tryz.func68 rfl Tryz.ntmps68 rfl fun w0 hs0=>?_
 refine .g (sn0 rfl .no bK (.u rfl) (.u rfl) ?_)
 refine .g (cD rfl (fun c1=>?_) (fun c1=>?_))
 ·have c1k:=c1
  try simp only [aC,aD] at c1
  refine .seq (aM rfl rfl (aS rfl rfl (.nc (.ret (jW 5 ?_)))))
  refine We.fin Tryz.results68 (.tmp rfl .nil) (mS .here rfl mN) ?_
  exact ⟨[],(aOO hs c1).symm,rfl⟩
 have c1k:=c1
 try simp only [aC,aD] at c1
 refine .skip (.code (.seq (gH rfl rfl ?_)))
 refine mM rfl aH ?_; intro b5
 refine .p (nW rfl aH aY (.u rfl) (.u rfl) .here hs.sc (by (try simp only [bJ,bB]); omega) ?_)
 intro v7 L7 _ ov7 eL7
 have lL7:L7.length=xs.length:=by rw [eL7]
 refine aS rfl rfl (.nc (.ret (We.fin Tryz.results68 (.tmp rfl .nil) (mS .here rfl mN) ?_)))
 exact ⟨L7,eL7,rfl⟩
set_option maxHeartbeats 4000000 in
theorem aRO (root:Nat→Y) (m:Meta) (xs:List Y) (hx:Sh) (G:PM) (hw:m.wf) (hs:SlR G 1 aL hx xs) (hK:RdNP G 1 0 (wa 64 kW)) (hl:xs.length≤1000000):Ct Tryz.prog 16 ([.agg (ba 32 root).toArray,m.val,hx.val xs.length]:List Value).toArray G [] (fun G' μ' u=>∃ (h':Sh) (qs:List (Sh×List Y)) (er:Int),xW (sU root m xs) (qs.map (·.2)) er∧μ'=[]∧u=.tuple #[h'.val qs.length,.int .i64 er]∧SlP G' h' qs∧qs.length≤1000000):=by
 refine Ct.of Tryz.func16 rfl Tryz.ntmps16 rfl fun w0 hs0=>?_
 refine .seq (gH rfl rfl ?_)
 refine bX rfl rfl rfl ?_; intro b3
 refine bX rfl rfl rfl ?_; intro b4
 refine aS rfl rfl ?_
 refine al rfl aE6 ?_; intro b7
 refine .nil (.code (.seq (aJi (sU root m xs=none) [.slice none 0 0,.int .i64 170] rfl rfl rfl tN Tryz.results16 (aFv 37 _) rfl (fun hD G'=>⟨⟨none,0⟩,[],170,.inr ⟨hD,rfl,rfl⟩,rfl,rfl,⟨SlR.nul,fun p hp=>absurd hp List.not_mem_nil⟩,by decide⟩) ?_)))
 refine .g (lA rfl .no cH (.u rfl) (fun _=>RdN.own aT) (fun _=>aU _ _) ?_)
 refine lA rfl .no iU (.u rfl) (fun _=>RdN.own aF) (fun _=>Meta.len _) ?_
 refine .p (lH rfl aE0 (aB rfl (aB rfl (aB rfl aE))) (aFb root m xs hx _ hw hs hK hl) (fun ch G9 ρ9 μ9 hle9 hd he hm=>yO ⟨hd.1,aHf hd.2⟩ he hm .here (.tmp rfl (.cell rfl (fun w hw=>oL gD (Rd.own .here rfl w hw)) .nil))) ?_)
 rintro _ G14 μ14 hG14 ⟨ix,b14,ps,ha14,hr14,hi14,hB14,rfl,rfl,hR14⟩
 have hpl:=hR14.len
 refine aS rfl rfl (.nc (.seq (.seq (kQ 1 uD 34 (.g (nC rfl rfl (fZ rfl nB rfl (lN rfl qQ rfl (Rd.own aF kR) ?_))))))))
 refine lE rfl aB7 rfl (mV rfl rfl (.nc (.block ?_)))
 refine bE (α:=Nat×Value×List (Sh×List Y)) (fun gh=>[(6,true,gh.2.1),(20,true,.int .i64 (gh.1:Int))]) (fun gh=>[rS 1 uD gh.2.1 34 gh.2.2,.blk b14 (cl (dK (dE root (aX (bH m))) (dF root (aX (bH m))) (ha14.val (aX (bH m)).length) (hr14.val ps.length) (hi14.val ix.length)) 98)])
  (fun gh Gl=>(gh.1≤ps.length)∧(gh.2.2.map (·.2)=(ps.take gh.1).map (·.1.bytes))∧(gh.2.2.length=gh.1)∧(AllS Gl gh.2.2)) (fun gh=>ps.length-gh.1) (0,.slice none 0 0,[]) [(7,true,_),(8,true,_),(18,true,_),(19,true,_)] [_,_,_]
  (aA rfl (aO rfl (aA rfl (aA rfl (aA rfl (aA rfl eZ))))))
  (mS .here rfl (mS .here rfl (mS .here rfl (mS .here rfl (mS .here rfl mN))))) ?_ ?_
 ·refine ⟨?_,?_,?_,?_⟩
  ·(try dsimp only)<;>(first|omega|rfl|assumption|(simp; done))
  ·(try dsimp only)<;>(rfl)
  ·(try dsimp only)<;>(rfl)
  (try dsimp only)<;>(exact AllS.nil)
 intro gh N0 Gl0 hN0 hGl0 hF0
 obtain ⟨k,vo,os⟩:=gh; dsimp only at hF0 hN0 ⊢
 obtain ⟨hk,hos,hlo,hAo⟩:=hF0
 have hR14:=hR14.mono hGl0
 refine .g (cP rfl rfl rfl rfl (.g (cD rfl (fun c1=>?_) (fun c1=>?_))))
 ·have c1k:=c1
  try simp only [aC,aI,aD] at c1
  refine .skip (.code (.seq (.block (.seq ?_))))
  obtain ⟨p,ep⟩:=dO (k:=k) (xs:=ps) (by omega)
  have hpm:=List.mem_of_getElem? ep
  have hpe:=hR14.each p hpm; have hsm:=hR14.sm p hpm
  refine gH rfl rfl (ih rfl .no nS (.u rfl) (.u rfl) (by omega) (by omega) (fun _=>hR14.rows.nn (k:=k) (by first|omega|(simp only [Bool.and_eq_true,decide_eq_true_eq,Bool.not_eq_true',Bool.or_eq_false_iff,decide_eq_false_iff_not,beq_iff_eq,beq_eq_false_iff_ne,ne_eq] at hc; omega)|(simp only [List.length_cons,List.length_nil]; omega))) ?_)
  refine lA rfl .no tF (.u rfl) (fun _=>(hR14.rows.at (by omega) ep).rd) (fun _=>lW) ?_
  refine al rfl aAX ?_; intro b10
  refine sw rfl (.u rfl) (.u rfl) rfl aE2 .here rfl (aDt _) ?_
  refine .g (fZ rfl qS rfl (lO rfl bV rfl .here (by first|exact aJ rfl|rfl) ?_))
  refine kc rfl aKq (aB rfl aE) (Ct.frzB (aFz p.1.bytes p.2 _ hpe (by omega))) ?_
  rintro _ G27 μ27 hG27 ⟨h27,L27,eL27,rfl,rfl,hs27⟩
  have hR14:=hR14.mono hG27
  have hAo:=hAo.mono hG27
  refine Go.Tan.b1 rfl gP jM (.u rfl) rfl rfl (by decide) ?_; intro b28
  refine fK (xs:=os) ((h27,L27)) rfl gP jM rfl (.u rfl) (.u rfl) aT .here (rfl) (mW rfl) (by omega) (by unfold maxLen; omega) ?_; intro v29 ov29
  refine .g (aW (((k+1):Nat):Int) rfl rfl rfl rfl ?_)
  refine .g (aZ (k+1,v29,os++[(h27,L27)]) ?_ ?_ ?_ ?_ ?_)
  ·exact (aA rfl (aO rfl (aA rfl (aA rfl (aA rfl (aA rfl eZ))))))
  ·exact (mS .here rfl (mS aT rfl (mS aT rfl (mS aT rfl (mS aT rfl mN)))))
  ·first|omega|(dsimp only; omega)
  ·exact (hGl0).trans hG27
  refine ⟨?_,?_,?_,?_⟩
  ·(try dsimp only)<;>(first|omega|rfl|assumption|(simp; done))
  ·(try dsimp only)<;>(rw [List.map_append,hos,List.take_add_one,ep,List.map_append,eL27]; rfl)
  ·(try dsimp only)<;>(simp [hlo])
  (try dsimp only)<;>(exact hAo.snoc hs27)
 have c1k:=c1
 try simp only [aC,aI,aD] at c1
 refine .g (nC rfl rfl (fZ rfl aAP rfl (lN rfl bV rfl (Rd.own aF uX) ?_)))
 refine kc rfl aKq (aB rfl aE) (Ct.frzB (aFz ix hi14 _ hR14.ix (by have:=aLu hB14; omega))) ?_
 rintro _ G36 μ36 hG36 ⟨h36,L36,eL36,rfl,rfl,hs36⟩
 have hAo:=hAo.mono hG36
 refine Go.Tan.b1 rfl gP jM (.u rfl) rfl rfl (by decide) ?_; intro b37
 refine fK (xs:=os) ((h36,L36)) rfl gP jM rfl (.u rfl) (.u rfl) aF .here (rfl) (mW rfl) (by omega) (by unfold maxLen; omega) ?_; intro v38 ov38
 refine .p (s1 rfl (.u rfl) (.u rfl) rfl oS bM (by first|decide|(simp only [bO,aU,bJ]; omega)) (rfl) ?_)
 refine .nil (.code (.ret ?_))
 refine aEJ aF (fun _ _=>rfl) (by intro b hb; cases hb) ?_; intro GfRO hRO hleRO evRO hsRO; subst evRO
 have hAo:=hAo.mono hleRO
 have hs36:=hs36.mono hleRO
 have hsRO:=SlP.of hsRO (hAo.snoc hs36)
 refine vM tN rfl (fun w=>vR w _) Tryz.results16 (.tmp rfl (.cell rfl (fun w hw=>oL gD (Rd.own .here rfl w hw)) .nil)) mN ?_
 exact ⟨hRO,os++[(h36,L36)],0,.inl ⟨by rw [aHe hB14,List.map_append,hos,List.take_of_length_le (by omega),eL36,List.map_map]; rfl,rfl⟩,rfl,rfl,hsRO,by rw [List.length_append,hlo,List.length_cons,List.length_nil]; omega⟩
theorem aTn:aQ Tryz.prog 6=true:=by kernel_rfl
theorem aAZ:cK Tryz.prog 43 2=some 72:=by kernel_rfl
theorem aCE:cK Tryz.prog 43 0=some 0:=by kernel_rfl
theorem aCF:cK Tryz.prog 43 1=some 32:=by kernel_rfl
theorem aS8:aQ Tryz.prog 14=true:=by kernel_rfl
theorem aTE:aQ Tryz.prog 15=true:=by kernel_rfl
theorem aTF:aQ Tryz.prog 16=true:=by kernel_rfl
theorem aTG:aQ Tryz.prog 17=true:=by kernel_rfl
theorem aTH:aQ Tryz.prog 18=true:=by kernel_rfl
theorem aTI:aQ Tryz.prog 19=true:=by kernel_rfl
set_option maxHeartbeats 2000000 in
theorem aLJ (root:Nat→Y) (m:Meta) (xs:List Y) (hx:Sh) (G:PM) (hw:m.wf) (hs:SlR G 1 aL hx xs) (hK:RdNP G 1 0 (wa 64 kW)) (hR:RdNP G 0 0 (wa 64 kW)):Ct Tryz.prog 5 ([.agg (rF root m (hx.val xs.length)).toArray]:List Value).toArray G [] (fun _ μ' u=>μ'=[]∧u=.bool true):=by
 refine Ct.of Tryz.func5 rfl Tryz.ntmps5 rfl fun w0 hs0=>?_
 refine .seq (bD rfl rfl ?_)
 refine bX rfl rfl rfl ?_; intro b1
 refine .g (kv rfl .no aTn aE (fun _=>aQx _ hK) ?_)
 refine .g (fZ rfl aAZ rfl (lN rfl bV rfl (Rd.own .here yF) ?_))
 refine lE rfl bK rfl (cP rfl rfl rfl rfl (.g (cD rfl (fun c1=>?_) (fun c1=>?_))))
 ·have c1k:=c1
  try simp only [aC,aI,aD] at c1
  refine .seq (bD rfl rfl (mV rfl rfl (aS rfl rfl (.nc (.ret (aP Tryz.results5 (.tmp rfl .nil) ?_))))))
  exact ⟨rfl,rfl⟩
 have c1k:=c1
 try simp only [aC,aI,aD] at c1
 refine .g (fZ rfl aCE rfl (lA rfl .no cH (.u rfl) (fun _=>RdN.part (n:=32) (cs':=ba 32 root) .here (gE)) (fun _=>(aU _ _)) ?_))
 refine fZ rfl aCF rfl (lA rfl .no iU (.u rfl) (fun _=>RdN.part (n:=40) (cs':=m.cells) .here (aAn)) (fun _=>(Meta.len _)) ?_)
 refine fZ rfl aAZ rfl (lN rfl bV rfl (Rd.own .here yF) ?_)
 refine kc rfl aS8 (aB rfl (aB rfl (aB rfl aE))) (aRL root m xs hx _ hw hs hK (by omega)) ?_
 rintro _ G25 μ25 hG25 ⟨h25,l25,er25,hA25,rfl,rfl,hs25⟩
 have hs:=hs.mono hG25
 have hK:=hK.mono hG25
 have hR:=hR.mono hG25
 refine .p (eX rfl rfl rfl (eX rfl rfl rfl (.g (fZ rfl aCE rfl (lA rfl .no cH (.u rfl) (fun _=>RdN.part (n:=32) (cs':=ba 32 root) .here (gE)) (fun _=>(aU _ _)) ?_)))))
 refine fZ rfl aCF rfl (lA rfl .no iU (.u rfl) (fun _=>RdN.part (n:=40) (cs':=m.cells) .here (aAn)) (fun _=>(Meta.len _)) ?_)
 refine fZ rfl aAZ rfl (lN rfl bV rfl (Rd.own .here yF) ?_)
 refine kc rfl aTE (aB rfl (aB rfl (aB rfl aE))) (aPM root m xs hx _ hw hs hR (by omega)) ?_
 rintro _ G35 μ35 hG35 ⟨h35,l35,er35,hA35,hll35,rfl,rfl,hs35⟩
 have hs:=hs.mono hG35
 have hK:=hK.mono hG35
 have hR:=hR.mono hG35
 have hs25:=hs25.mono hG35
 refine .p (eX rfl rfl rfl (eX rfl rfl rfl (.g (fZ rfl aCE rfl (lA rfl .no cH (.u rfl) (fun _=>RdN.part (n:=32) (cs':=ba 32 root) .here (gE)) (fun _=>(aU _ _)) ?_)))))
 refine fZ rfl aCF rfl (lA rfl .no iU (.u rfl) (fun _=>RdN.part (n:=40) (cs':=m.cells) .here (aAn)) (fun _=>(Meta.len _)) ?_)
 refine fZ rfl aAZ rfl (lN rfl bV rfl (Rd.own .here yF) ?_)
 refine kc rfl aTF (aB rfl (aB rfl (aB rfl aE))) (aRO root m xs hx _ hw hs hK (by omega)) ?_
 rintro _ G45 μ45 hG45 ⟨h45,qs45,er45,hP45,rfl,rfl,hs45,hql45⟩
 have hs:=hs.mono hG45
 have hR:=hR.mono hG45
 have hs25:=hs25.mono hG45
 have hs35:=hs35.mono hG45
 refine .p (eX rfl rfl rfl (eX rfl rfl rfl (.g (fZ rfl aCE rfl (lA rfl .no cH (.u rfl) (fun _=>RdN.part (n:=32) (cs':=ba 32 root) .here (gE)) (fun _=>(aU _ _)) ?_)))))
 refine fZ rfl aCF rfl (lA rfl .no iU (.u rfl) (fun _=>RdN.part (n:=40) (cs':=m.cells) .here (aAn)) (fun _=>(Meta.len _)) ?_)
 refine fZ rfl aAZ rfl (lN rfl bV rfl (Rd.own .here yF) ?_)
 refine kc rfl aTG (aB rfl (aB rfl (aB rfl aE))) (aPN root m xs hx _ hw hs hR (by omega)) ?_
 rintro _ G55 μ55 hG55 ⟨h55,qs55,er55,hP55,rfl,rfl,hs55⟩
 have hs25:=hs25.mono hG55
 have hs35:=hs35.mono hG55
 have hs45:=hs45.mono hG55
 refine .p (eX rfl rfl rfl (eX rfl rfl rfl (aS rfl rfl (aS rfl rfl (.nc (.seq ?_))))))
 obtain ⟨el9,ee9⟩:=aLV hA25 hA35
 obtain ⟨eq9,ef9⟩:=aOs hP45 hP55
 have hz9:=aFP hA25; have hz8:=aFP hA35
 refine kX [0,1,2,3,4,5,6,7,8,9,10,11,12,13,14,15,16,17,18,19,20,21] rfl rfl (mV rfl rfl (mV rfl rfl (mv rfl (.t rfl rfl) (.u rfl) (mv rfl (.t rfl rfl) (.u rfl) (kv rfl (.t rfl rfl) aTH (aB rfl (aB rfl aE)) (fun _=>aQa h25 h35 l25 l35 _ hs25 hs35 (by rw [el9]; exact hll35) hz9 hz8) ?_)))))
 refine mE true (mF el9) ?_
 refine cC rfl .no (.u rfl) (.u rfl) (mV rfl rfl (mv rfl (.t rfl rfl) (.u rfl) (mv rfl (.t rfl rfl) (.u rfl) (cp rfl (.t rfl rfl) (.u rfl) (.u rfl) rfl (mE true (beq_iff_eq.2 ee9) ?_)))))
 refine cC rfl .no (.u rfl) (.u rfl) (mV rfl rfl (mv rfl (.t rfl rfl) (.u rfl) (mv rfl (.t rfl rfl) (.u rfl) (kv rfl (.t rfl rfl) aTI (aB rfl (aB rfl aE)) (fun _=>aQb h45 h55 qs45 qs55 _ hs45 hs55 (by omega)) ?_))))
 refine mE true (mF eq9) ?_
 refine cC rfl .no (.u rfl) (.u rfl) (mV rfl rfl (mv rfl (.t rfl rfl) (.u rfl) (mv rfl (.t rfl rfl) (.u rfl) (cp rfl (.t rfl rfl) (.u rfl) (.u rfl) rfl (mE true (beq_iff_eq.2 ef9) ?_)))))
 refine cC rfl .no (.u rfl) (.u rfl) (aS rfl rfl (.nc (.ret (aP Tryz.results5 (.tmp rfl .nil) ?_))))
 exact ⟨rfl,rfl⟩
end Go.Proofs.YtbdnclpopappeaaGreatDoor
