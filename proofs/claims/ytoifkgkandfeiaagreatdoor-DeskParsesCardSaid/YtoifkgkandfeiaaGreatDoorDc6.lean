/- Lemmas and contracts of functions, joined. -/
import Derived.Test.YtoifkgkandfeiaaGreatDoorDc5
set_option linter.unusedSimpArgs false
set_option linter.unusedVariables false
set_option linter.unusedSectionVars false
namespace Go.Proofs.YtoifkgkandfeiaaGreatDoor
open Go.Tan Go.RowKit Go.Maps Go.Sort Go.Shelf
theorem aMq:nN Tryz.prog 75=true:=by kernel_rfl
theorem aY0:aJ Tryz.prog 94=true:=by kernel_rfl
theorem aMn:aJ Tryz.prog 95=true:=by kernel_rfl
theorem aLu:cX Tryz.prog 142 [0,1,2]=some ([.int .i64 0,.slice none 0 0,.bool false],[(0,1),(1,1),(2,1)]):=by kernel_rfl
theorem aDX:(Tryz.prog.info? 142).bind (·.zero)=some (.agg #[.int .i64 0,.slice none 0 0,.bool false]):=by kernel_rfl
theorem aGr:cI Tryz.prog 138=some 1:=by kernel_rfl
theorem aUf (bg:Nat) (z v0:Value) (ws:List Wtg) (c:Nat) (h:Sh) (l:List Opn) (sy:Bool) (G:PM) (hs:SlR G 3 Opn.cells h l) (hl:l.length=1∨l.length=2) (hok:∀ o∈l,o.ok) (hc:c<8) (hw:ws.length≤100) (hno:oJ (fun w=>decide ((w.c:Int)=((c:Nat):Int))) ws<0):Ct Tryz.prog 57 ([pt bg,.int .i64 ((c:Nat):Int),h.val l.length,.bool sy]:List Value).toArray G [.blk bg (cl [z,v0] 140),rS 3 Wtg.cells v0 142 (ws)] (fun G' μ' u=>∃ (v:Value) (s:Sh),v.oneCell'=true∧SlR G' 3 Opn.cells s l∧μ'=[.blk bg (cl [z,v] 140),rS 3 Wtg.cells v 142 (ws++[⟨c,s,l,sy⟩])]∧u=.int .i64 0):=by
 refine Ct.of Tryz.func57 rfl Tryz.ntmps57 rfl fun w0 hs0=>?_
 refine .g (pe rfl .no aMq (.u rfl) (.u rfl) ?_)
 refine .g (cD rfl (fun c1=>?_) (fun c1=>?_))
 ·have c1k:=c1
  cases c1
 have c1k:=c1
 try simp only [aD,aL,aE] at c1
 refine .g (cP rfl rfl rfl rfl (mV rfl rfl (mv rfl (.f rfl rfl) (.u rfl) (cp rfl (.f rfl rfl) (.s rfl) (.u rfl) rfl (cF rfl .no (.u rfl) (.s rfl) (mV rfl rfl (mv rfl (.f rfl rfl) (.u rfl) (kv rfl (.f rfl rfl) aMm (aB rfl (Eva.cons (.s rfl) aF)) (fun hc=>aHQ h l _ hs hl hok) ?_))))))))
 refine nt rfl (.f rfl rfl) (.s rfl) (cF rfl .no (.u rfl) (.s rfl) (.g (cD rfl (fun c2=>?_) (fun c2=>?_))))
 ·have c2k:=c2
  simp at c2; omega
 have c2k:=c2
 try simp only [aD,aL,aE] at c2
 refine .g (ka rfl (.inr rfl) aY0 (aB rfl (aB rfl aF)) (eI .here .here) (aQt (fun _ _=>rfl) fun s G2 hle hv hs2 hb2=>by rw [hv] at hb2; exact aSK bg z s ws c G2 hb2 hs2 (by omega)) ?_)
 rintro _ G27 μ27 hG27 ⟨rfl,rfl⟩
 have hs:=hs.mono hG27
 refine cP rfl rfl rfl rfl (.g (cD rfl (fun c3=>?_) (fun c3=>?_)))
 ·have c3k:=c3
  exact absurd c3 (by simpa using hno)
 have c3k:=c3
 try simp only [aD,aL,aE] at c3
 refine .skip (.blk (.code (.seq (eT ⟨true,false⟩ aY (by kernel_rfl) ?_))))
 refine Wp.one 0 (by kernel_rfl) ?_
 refine mV rfl rfl (.nil (Wp.one 1 (by kernel_rfl) ?_))
 refine mV rfl rfl (.nil (Wp.one 2 (by kernel_rfl) ?_))
 refine nC rfl rfl (.nil (Wp.one 3 (by kernel_rfl) ?_))
 refine fZ rfl rN rfl (.nil (Wp.one 5 (by kernel_rfl) ?_))
 refine mV rfl rfl (.nil (Wp.one 6 (by kernel_rfl) ?_))
 refine mV rfl rfl (.nil (Wp.one 8 (by kernel_rfl) ?_))
 refine mV rfl rfl (.nil (Wp.b2 4 7 (by kernel_rfl) ?_ ?_))
 ·refine lO rfl vY rfl .here rfl ?_
  refine .nil (Wp.b1 7 (by kernel_rfl) ?_)
  refine kc rfl aMn (aB rfl aF) (aHc h l _ hs (by omega) (by omega)) ?_
  rintro _ G36 μ36 hG36 ⟨s36,rfl,rfl,hs36⟩
  have hs:=hs.mono hG36
  refine .nil (Wp.one 9 (by kernel_rfl) ?_)
  refine dK (Wtg.cells ⟨c,s36,l,sy⟩) rfl .no aLu (.cons (.u rfl) rfl (.cons (.u rfl) rfl (.cons (.u rfl) rfl .nil))) rfl (rfl) (.nil (Wp.b1 10 (by kernel_rfl) ?_))
  refine Go.Tan.b1 rfl oY aDX (.u rfl) rfl rfl (by decide) ?_; intro b39
  refine .nil (Wp.b1 11 (by kernel_rfl) ?_)
  refine gZ (xs:=ws) (⟨c,s36,l,sy⟩) rfl oY aDX rfl (.u rfl) (.u rfl) aM .here (rfl) (Wtg.one _) (by omega) (by unfold maxLen; omega) ?_; intro v40 ov40
  refine .nil (Wp.one 12 (by kernel_rfl) ?_)
  refine nC rfl rfl (.nil (Wp.one 13 (by kernel_rfl) ?_))
  refine fZ rfl rN rfl (.nil (Wp.b1 14 (by kernel_rfl) ?_))
  refine iM rfl (.u rfl) (.u rfl) .here aGr aM (by first|decide|(simp only [bW,bR,cC]; omega)) (rfl) ?_
  refine .nil (Wp.last (by kernel_rfl) ?_)
  refine .code (.seq (aP rfl rfl (aS rfl rfl (.nc (.ret (We.fin Tryz.results57 (.tmp rfl .nil) (mS .here rfl (mS .here rfl mN)) ?_))))))
  exact ⟨v40,s36,ov40,hs36,rfl,rfl⟩
 refine kc rfl aMn (aB rfl aF) (aHc h l _ hs (by omega) (by omega)) ?_
 rintro _ G36 μ36 hG36 ⟨s36,rfl,rfl,hs36⟩
 refine .nil (Wp.one 4 (by kernel_rfl) ?_)
 refine lO rfl vY rfl .here rfl ?_
 refine .nil (Wp.one 9 (by kernel_rfl) ?_)
 refine dK (Wtg.cells ⟨c,s36,l,sy⟩) rfl .no aLu (.cons (.u rfl) rfl (.cons (.u rfl) rfl (.cons (.u rfl) rfl .nil))) rfl (rfl) (.nil (Wp.b1 10 (by kernel_rfl) ?_))
 refine Go.Tan.b1 rfl oY aDX (.u rfl) rfl rfl (by decide) ?_; intro b39
 refine .nil (Wp.b1 11 (by kernel_rfl) ?_)
 refine gZ (xs:=ws) (⟨c,s36,l,sy⟩) rfl oY aDX rfl (.u rfl) (.u rfl) aM .here (rfl) (Wtg.one _) (by omega) (by unfold maxLen; omega) ?_; intro v40 ov40
 refine .nil (Wp.one 12 (by kernel_rfl) ?_)
 refine nC rfl rfl (.nil (Wp.one 13 (by kernel_rfl) ?_))
 refine fZ rfl rN rfl (.nil (Wp.b1 14 (by kernel_rfl) ?_))
 refine iM rfl (.u rfl) (.u rfl) .here aGr aM (by first|decide|(simp only [bW,bR,cC]; omega)) (rfl) ?_
 refine .nil (Wp.last (by kernel_rfl) ?_)
 refine .code (.seq (aP rfl rfl (aS rfl rfl (.nc (.ret (We.fin Tryz.results57 (.tmp rfl .nil) (mS .here rfl (mS .here rfl mN)) ?_))))))
 exact ⟨v40,s36,ov40,hs36,rfl,rfl⟩
end Go.Proofs.YtoifkgkandfeiaaGreatDoor
namespace Go.Proofs.YtoifkgkandfeiaaGreatDoor
open Go.Tan Go.RowKit Go.Maps Go.Sort Go.Shelf
theorem aM8:dV Tryz.prog 142=some ([.int .i64 0,.slice none 0 0,.bool false]):=by kernel_rfl
theorem aMx:cI Tryz.prog 142=some 3:=by kernel_rfl
theorem aC9:aQ Tryz.prog 142 1=some 1:=by kernel_rfl
theorem aXh:aJ Tryz.prog 167=true:=by kernel_rfl
theorem aNB:(Tryz.prog.info? 22).bind (·.zero)=some (.slice none 0 0):=by kernel_rfl
theorem aW1:aQ Tryz.prog 142 2=some 2:=by kernel_rfl
theorem aW0:aQ Tryz.prog 140 0=some 0:=by kernel_rfl
theorem aMW:aJ Tryz.prog 169=true:=by kernel_rfl
theorem aMV:aJ Tryz.prog 168=true:=by kernel_rfl
theorem aWl:cX Tryz.prog 73 [0,1]=some ([.int .i64 0,.int .i64 0],[(0,1),(1,1)]):=by kernel_rfl
theorem aNC:(Tryz.prog.info? 73).bind (·.zero)=some (.agg #[.int .i64 0,.int .i64 0]):=by kernel_rfl
theorem aXi:aJ Tryz.prog 170=true:=by kernel_rfl
end Go.Proofs.YtoifkgkandfeiaaGreatDoor
namespace Go.Proofs.YtoifkgkandfeiaaGreatDoor
open Go.Tan Go.RowKit Go.Maps Go.Sort Go.Shelf
set_option maxHeartbeats 1000000 in
theorem aPj (bg bx bm room bd bt held bn:Nat) (root:Nat→Y) (o:Opts) (v0:Value) (F:List Fi) (h:Sh) (w:Wtg) (o1:BitVec 64) (G:PM) (hD:DkR F 3) (hnm:F.map Fi.nm=[bP 3 0,bP 4 0]) (hz:cR F≤2000) (hr:5000≤room) (hr9:room≤1000000000) (hmem:0<o.mem) (hs:SlR G 3 Wtg.cells h [w]) (hwo:SlR G 3 Opn.cells w.sh w.ops) (hw:w.ops.length=1∨w.ops.length=2) (hsy:w.sy=true) (hok:∀ o∈w.ops,o.ok) (hord:w.ops.length=2→lt (w.ops.getD 0 Opn.zero).user (w.ops.getD 1 Opn.zero).user=true) (hK:RdNP G 6 0 (wa 64 kW)):Ct Tryz.prog 109 ([pt bg,.int .i64 100]:List Value).toArray G [.blk bg (cl [pt bx,h.val 1] 140),.blk bx (cl (Db.cells (eH bd bt root o 1#64 held bn)) 165),.blk bd (cl (cS bm room 5) 118),.blk bm (mO ((F).map Fi.fe) 3),.blk bn (cl [v0,.int .i64 ((0:Nat):Int)] 225),rS 16 Nd.cells v0 249 [Nd.z],.blk bt (cl [uv .u64 1#64,uv .u64 o1] 87)] (fun _ μ' u=>∃ (oa:Option Addr) (v:Value) (bb m cap sz:Nat) (F4:List Fi) (nn:BitVec 64),v.oneCell'=true∧m=(cB (bT 0 w.ops) w.ops.length).length∧μ'=[.blk bg (cl [pt bx,.slice oa 0 0] 140),rS 2 aAE v 73 [w.c],.blk bx (cl (Db.cells { eH bd bt root o 1#64 held bn with lg:=⟨⟨1#8,0#8,0#64,1#64,1#64⟩,nn,true⟩,seq:=(0#64+BitVec.ofInt 64 ((w.ops.length:Nat):Int)) }) 165),.blk bd (cl (cS bm room 7) 118),.blk bm (mO ((F4).map Fi.fe) 4),.blk bn (cl [.slice (some ⟨bb,0,none⟩) m cap,.int .i64 ((sz:Nat):Int)] 225),rS 16 Nd.cells (.slice (some ⟨bb,0,none⟩) m cap) 249 (cB (bT 0 w.ops) w.ops.length),.blk bt (cl [uv .u64 2#64,uv .u64 o1] 87)]∧u=.tuple #[v,.int .i64 0]):=by
 refine Ct.of Tryz.func109 rfl Tryz.ntmps109 rfl fun w0 hs0=>?_
 obtain ⟨ws,ews⟩ : ∃ ws,ws=[w]:=⟨_,rfl⟩
 have hw1:ws.length=1:=by rw [ews]; rfl
 rw [← ews] at hs
 have ejn:jn ws=w.ops:=by rw [ews]; simp [jn]
 refine .g (pe rfl .no aMq (.u rfl) (.u rfl) ?_)
 refine .g (jE rfl rfl ?_)
 refine .g (nC rfl rfl (fZ rfl rN rfl (lO rfl vY rfl .here (show [pt bx,h.val 1][1]? = some (h.val ws.length) by rw [hw1]; rfl) ?_)))
 refine lE rfl aBK rfl (cP rfl rfl rfl rfl (.g (cD rfl (fun c1=>?_) (fun c1=>?_))))
 ·have c1k:=c1
  rw [hw1] at c1; cases c1
 have c1k:=c1
 try simp only [aD,aL,aE] at c1
 refine .g (xT (100) (1048576) rfl .no (.u rfl) (.u rfl) (by omega) (by omega) ?_)
 refine mAn (0) ((min 100 1048576)) rfl .no (.u rfl) (.u rfl) (by omega) (by omega) ?_
 refine aS rfl rfl (aS rfl rfl (.nc (.seq (aP rfl rfl (aS rfl rfl (.nc (.seq (mU 1 aEA 22 ?_))))))))
 refine .g (nC rfl rfl (fZ rfl rN rfl (lO rfl vY rfl aC (show [pt bx,h.val 1][1]? = some (h.val ws.length) by rw [hw1]; rfl) ?_)))
 refine lE rfl aBK rfl (mV rfl rfl (.nc (.block ?_)))
 refine aV (α:=Nat×Int×Value×Nat) (fun gh=>[(6,true,.int .i64 gh.2.1),(7,true,.int .i64 ((gh.2.2.2:Nat):Int)),(8,true,gh.2.2.1),(9,true,.bool (decide (0<gh.1))),(33,true,.int .i64 (gh.1:Int))]) (fun gh=>[rS 1 aEA gh.2.2.1 22 (ws.take gh.1)])
  (fun gh Gl=>(gh.1≤ws.length)∧(100-60*(gh.1:Int)≤gh.2.1∧gh.2.1≤100)∧(gh.2.2.2≤10*gh.1)) (fun gh=>ws.length-gh.1) (0,100,.slice none 0 0,0) [(0,true,_),(31,true,_),(32,true,_)] [_,_,_,_,_,_,_]
  (aO rfl (aO rfl (aA rfl (aA rfl (aO rfl (aA rfl (aA rfl (aA rfl eZ))))))))
  (mS .here rfl (mS .here rfl (mS .here rfl (mS .here rfl (mS .here rfl (mS .here rfl (mS .here rfl (mS .here rfl mN)))))))) ?_ ?_
 ·refine ⟨?_,?_,?_⟩
  ·(try dsimp only)<;>(first|omega|rfl|assumption|(simp; done))
  ·(try dsimp only)<;>(first|omega|rfl|assumption|(simp; done))
  (try dsimp only)<;>(first|omega|rfl|assumption|(simp; done))
 intro gh N0 Gl0 hN0 hGl0 hF0
 obtain ⟨k,r,v,c⟩:=gh; dsimp only at hF0 hN0 ⊢
 obtain ⟨hk,hrr,hcc⟩:=hF0
 have hs:=hs.mono hGl0
 have hwo:=hwo.mono hGl0
 have hK:=hK.mono hGl0
 refine .g (cP rfl rfl rfl rfl (.g (cD rfl (fun c2=>?_) (fun c2=>?_))))
 ·have c2k:=c2
  try simp only [aD,aL,aE] at c2
  refine .skip (.code (.seq (.block (.seq (gM rfl rfl (mV rfl rfl (ih rfl .no oY (.u rfl) (.u rfl) (by omega) (by omega) (fun _=>hs.nn (k:=k) (by first|omega|(simp only [Bool.and_eq_true,decide_eq_true_eq] at hc; omega)|(simp only [List.length_cons,List.length_nil]; omega))) ?_)))))))
  have hk0:k=0:=by omega
  have ew:ws[k]? = some w:=by rw [ews,hk0]; rfl
  have hzw:=aKj hok
  refine lA rfl .no aFw (.u rfl) (fun _=>(hs.at (by omega) ew).rd) (fun _=>Wtg.len _) ?_
  refine al rfl aM8 ?_; intro b11
  refine .p (sw rfl (.u rfl) (.u rfl) rfl aMx .here rfl (Wtg.one _) ?_)
  refine .g (fZ rfl aC9 rfl (lO rfl lF rfl .here (by first|exact aK rfl|rfl) ?_))
  refine kV rfl aXh (aB rfl aF) (aNz w.sh w.ops _ hwo (by omega) hok) ?_
  refine .g (cP rfl rfl rfl rfl (mV rfl rfl (mv rfl (.t rfl rfl) (.u rfl) (mv rfl (.t rfl rfl) (.u rfl) (cp rfl (.t rfl rfl) (.s rfl) (.s rfl) rfl (mv rfl (.t rfl rfl) (.s rfl) (mv rfl (.fc rfl rfl) (.u rfl) (fz rfl (.fc rfl rfl) aC9 (.u rfl) (ld rfl (.fc rfl rfl) lF (.s rfl) (fun hc=>Rd.own .here (by first|exact aK rfl|rfl)) ?_)))))))))
  refine ln rfl (.fc rfl rfl) lD (.s rfl) (hJ (((c+w.ops.length):Nat):Int) rfl (.fc rfl rfl) (.s rfl) (.s rfl) rfl (fun hc=>by omega) (fun hc=>eJ (by omega) (by omega)) ?_)
  refine cp rfl (.fc rfl rfl) (.s rfl) (.u rfl) rfl (cF rfl (.t rfl rfl) (.s rfl) (.s rfl) (cW rfl .no (.u rfl) (.s rfl) (.g (cD rfl (fun c3=>?_) (fun c3=>?_)))))
  ·have c3k:=c3
   simp [hk0] at c3
  have c3k:=c3
  try simp only [aD,aL,aE] at c3
  refine .g (aR rfl rfl rfl rfl ?_)
  refine .g (fZ rfl aC9 rfl (lO rfl lF rfl .here (by first|exact aK rfl|rfl) ?_))
  refine lE rfl lD rfl (aW (((c+w.ops.length):Nat):Int) rfl rfl rfl rfl ?_)
  refine .g (fZ rfl aC9 rfl (lO rfl lF rfl .here (by first|exact aK rfl|rfl) ?_))
  refine Go.Tan.b1 rfl aGo aNB (.u rfl) rfl rfl (by decide) ?_; intro b67
  refine gZ (xs:=(ws.take k)) (w) rfl aGo aNB rfl (.u rfl) (.u rfl) aM .here (rfl) (one1 rfl) (by rw [List.length_take]; omega) (by rw [List.length_take]; unfold maxLen; omega) ?_; intro v68 ov68
  refine .g (fz rfl (.f rfl rfl) aW1 (.u rfl) (ld rfl (.f rfl rfl) fG (.s rfl) (fun hc=>Rd.own aM (by first|exact aK rfl|rfl)) ?_))
  refine cF rfl .no (.u rfl) (.s rfl) (.g (aW (((k+1):Nat):Int) rfl rfl rfl rfl ?_))
  refine .g (aT (k+1,r-((8*w.ops.length+mT w.ops:Nat):Int),v68,c+w.ops.length) ?_ ?_ ?_ ?_ ?_)
  ·exact (aO rfl (aA rfl (aA rfl (dY rfl (by rw [hsy,hk0]; rfl) (aO rfl (aA rfl (aA rfl (aA rfl eZ))))))))
  ·exact (mS .here (by rw [aKs ew]) (mS aM rfl (mS aM rfl (mS aM rfl (mS aM rfl (mS aM rfl (mS aM rfl (mS aM rfl mN))))))))
  ·first|omega|(dsimp only; omega)
  ·exact hGl0
  refine ⟨?_,?_,?_⟩
  ·(try dsimp only)<;>(first|omega|rfl|assumption|(simp; done))
  ·(try dsimp only)<;>(first|omega|rfl|assumption|(simp; done))
  (try dsimp only)<;>(first|omega|rfl|assumption|(simp; done))
 have c2k:=c2
 try simp only [aD,aL,aE] at c2
 refine .exit (.xcode (.xlp (.xblk (.code (.seq ?_)))))
 obtain rfl:k=ws.length:=by omega
 have hsd:decide (0<ws.length)=true:=by rw [hw1]; rfl
 rw [List.take_length,hsd]
 refine aAu .here (fun _ _=>rfl) (cM .here rfl (cM .here rfl (cM .here rfl (cM .here rfl (cM .here rfl (cM .here rfl (cM .here rfl (jH)))))))) ?_; intro GfRP hRP hleRP evRP hsRP; subst evRP
 have hs:=hs.mono hleRP
 have hwo:=hwo.mono hleRP
 have hK:=hK.mono hleRP
 refine Wk.jn (α:=Nat×Nat×Nat×Nat×List Fi×BitVec 64) (fun gh=>[(13,true,.int .i64 0)]) (fun gh=>[.blk bx (cl (Db.cells { eH bd bt root o 1#64 held bn with lg:=⟨⟨1#8,0#8,0#64,1#64,1#64⟩,gh.2.2.2.2.2,true⟩,seq:=(0#64+BitVec.ofInt 64 ((w.ops.length:Nat):Int)) }) 165),.blk bd (cl (cS bm room 7) 118),.blk bm (mO ((gh.2.2.2.2.1).map Fi.fe) 4),.blk bn (cl [.slice (some ⟨gh.1,0,none⟩) gh.2.1 gh.2.2.1,.int .i64 ((gh.2.2.2.1:Nat):Int)] 225),rS 16 Nd.cells (.slice (some ⟨gh.1,0,none⟩) gh.2.1 gh.2.2.1) 249 (cB (bT 0 w.ops) w.ops.length),.blk bt (cl [uv .u64 2#64,uv .u64 o1] 87)]) (fun gh Gl=>(gh.2.1=(cB (bT 0 w.ops) w.ops.length).length)) [(0,true,_),(8,true,_)] [_]
  (aA rfl (aA rfl eZ)) (mS .here rfl mN) ?_ ?_
 ·refine eT ⟨true,false⟩ aY (by kernel_rfl) ?_
  refine Wp.one 0 (by kernel_rfl) ?_
  refine mV rfl rfl (.nil (Wp.one 1 (by kernel_rfl) ?_))
  refine nC rfl rfl (.nil (Wp.one 2 (by kernel_rfl) ?_))
  refine fZ rfl aW0 rfl (.nil (Wp.one 4 (by kernel_rfl) ?_))
  refine mV rfl rfl (.nil (Wp.one 6 (by kernel_rfl) ?_))
  refine mV rfl rfl (.nil (Wp.b2 3 5 (by kernel_rfl) ?_ ?_))
  ·refine lO rfl wB rfl .here rfl ?_
   refine .nil (Wp.b1 5 (by kernel_rfl) ?_)
   refine kc rfl aMW (aB rfl aF) (aHP hRP ws _ hsRP (by rw [ews]; intro x hx; rw [List.mem_singleton.1 hx]; exact hwo) (by omega) (by rw [ews]; intro x hx; rw [List.mem_singleton.1 hx]; omega)) ?_
   rintro _ G80 μ80 hG80 ⟨s80,rfl,rfl,hs80⟩
   rw [ejn] at hs80 ⊢
   have hs:=hs.mono hG80
   have hwo:=hwo.mono hG80
   have hK:=hK.mono hG80
   have hsRP:=hsRP.mono hG80
   refine .nil (Wp.b1 7 (by kernel_rfl) ?_)
   refine ka rfl (.inl rfl) aMV (aB rfl (aB rfl (aB rfl aF))) (aEx aC aC aC aC aC aC) (aHo bx bm room bd bt held bn root o v0 F s80 w.ops o1 _ hD hnm hz hr hr9 hmem hs80 hw hok hord hK) ?_
   rintro _ G82 μ82 hG82 ⟨bb,m,cap,sz,F4,nn,hm4,rfl,rfl⟩
   have hs:=hs.mono hG82
   have hwo:=hwo.mono hG82
   have hK:=hK.mono hG82
   have hsRP:=hsRP.mono hG82
   have hs80:=hs80.mono hG82
   refine .nil (Wp.one 8 (by kernel_rfl) ?_)
   refine aS rfl rfl (.nil (Wp.last (by kernel_rfl) ?_))
   refine aT (bb,m,cap,sz,F4,nn) ?_ ?_ ?_ ?_ ?_
   ·exact (aO rfl (aA rfl (aA rfl eZ)))
   ·exact (mS .here rfl (mS .here rfl (mS .here rfl (mS .here rfl (mS .here rfl (mS .here rfl (mS .here rfl mN)))))))
   ·exact jB _
   ·exact (hG80).trans hG82
   (try dsimp only)<;>(exact hm4)
  refine kc rfl aMW (aB rfl aF) (aHP hRP ws _ hsRP (by rw [ews]; intro x hx; rw [List.mem_singleton.1 hx]; exact hwo) (by omega) (by rw [ews]; intro x hx; rw [List.mem_singleton.1 hx]; omega)) ?_
  rintro _ G80 μ80 hG80 ⟨s80,rfl,rfl,hs80⟩
  rw [ejn] at hs80 ⊢
  have hs:=hs.mono hG80
  have hK:=hK.mono hG80
  refine .nil (Wp.one 3 (by kernel_rfl) ?_)
  refine lO rfl wB rfl .here rfl ?_
  refine .nil (Wp.b1 7 (by kernel_rfl) ?_)
  refine ka rfl (.inl rfl) aMV (aB rfl (aB rfl (aB rfl aF))) (aEx aC aC aC aC aC aC) (aHo bx bm room bd bt held bn root o v0 F s80 w.ops o1 _ hD hnm hz hr hr9 hmem hs80 hw hok hord hK) ?_
  rintro _ G82 μ82 hG82 ⟨bb,m,cap,sz,F4,nn,hm4,rfl,rfl⟩
  have hs:=hs.mono hG82
  refine .nil (Wp.one 8 (by kernel_rfl) ?_)
  refine aS rfl rfl (.nil (Wp.last (by kernel_rfl) ?_))
  refine aT (bb,m,cap,sz,F4,nn) ?_ ?_ ?_ ?_ ?_
  ·exact (aO rfl (aA rfl (aA rfl eZ)))
  ·exact (mS .here rfl (mS .here rfl (mS .here rfl (mS .here rfl (mS .here rfl (mS .here rfl (mS .here rfl mN)))))))
  ·exact jB _
  ·exact (hG80).trans hG82
  (try dsimp only)<;>(exact hm4)
 intro gh Glj18 hGlj18 hFj18
 obtain ⟨bb,m,cap,sz,F4,nn⟩:=gh; dsimp only at hFj18 ⊢
 have hm4:=hFj18
 have hs:=hs.mono hGlj18
 refine .g (cP rfl rfl rfl rfl (.g (cD rfl (fun c4=>?_) (fun c4=>?_))))
 ·have c4k:=c4
  cases c4
 have c4k:=c4
 try simp only [aD,aL,aE] at c4
 refine .skip (.code (.seq (aP rfl rfl (aS rfl rfl (.nc (.seq (.seq (mU 2 aAE 73 ?_))))))))
 refine .g (nC rfl rfl (fZ rfl rN rfl (lO rfl vY rfl vB (show [pt bx,h.val 1][1]? = some (h.val ws.length) by rw [hw1]; rfl) ?_)))
 refine .p (lE rfl aGq rfl (kE (ws.length) rfl .no oY hs (.u rfl) (.u rfl) (by omega) (by omega) ?_))
 intro h92 L92 eL92 lL92 hs92
 have lL92:=lL92 rfl
 refine lE rfl aBK rfl (mV rfl rfl (.nc (.block ?_)))
 refine aV (α:=Nat×Value) (fun gh=>[(14,true,gh.2),(94,true,.int .i64 (gh.1:Int))]) (fun gh=>[rS 2 aAE gh.2 73 ((L92.take gh.1).map Wtg.c)])
  (fun gh Gl=>(gh.1≤L92.length)∧(gh.2.oneCell'=true)) (fun gh=>L92.length-gh.1) (0,.slice none 0 0) [(0,true,_),(8,true,_),(13,true,_),(92,true,_),(93,true,_)] [_,_,_,_,_,_,_]
  (aA rfl (aO rfl (aA rfl (aA rfl (aA rfl (aA rfl (aA rfl eZ)))))))
  (mS .here rfl (mS .here rfl (mS .here rfl (mS .here rfl (mS .here rfl (mS .here rfl (mS .here rfl (mS .here rfl mN)))))))) ?_ ?_
 ·refine ⟨?_,?_⟩
  ·(try dsimp only)<;>(first|omega|rfl|assumption|(simp; done))
  (try dsimp only)<;>(first|omega|rfl|assumption|(simp; done))
 intro gh N1 Gl1 hN1 hGl1 hF1
 obtain ⟨k,v⟩:=gh; dsimp only at hF1 hN1 ⊢
 obtain ⟨hk2,ov⟩:=hF1
 have hs:=hs.mono hGl1
 have hs92:=hs92.mono hGl1
 refine .g (cP rfl rfl rfl rfl (.g (cD rfl (fun c5=>?_) (fun c5=>?_))))
 ·have c5k:=c5
  try simp only [aD,aL,aE] at c5
  refine .skip (.code (.seq (.block (.seq (dI rfl rfl (ih rfl .no oY (.u rfl) (.u rfl) (by omega) (by omega) (fun _=>hs92.nn (k:=k) (by first|omega|(simp only [Bool.and_eq_true,decide_eq_true_eq] at hc; omega)|(simp only [List.length_cons,List.length_nil]; omega))) ?_))))))
  obtain ⟨w,ew⟩:=dT (k:=k) (xs:=L92) (by omega)
  refine lA rfl .no aFw (.u rfl) (fun _=>(hs92.at (by omega) ew).rd) (fun _=>Wtg.len _) ?_
  refine al rfl aM8 ?_; intro b16
  refine sw rfl (.u rfl) (.u rfl) rfl aMx .here rfl (Wtg.one _) ?_
  refine .g (fZ rfl aL9 rfl (lO rfl bA rfl .here (by first|exact aK rfl|rfl) ?_))
  refine .p (dK (aAE w.c) rfl .no aWl (.cons (.u rfl) rfl (.cons (.u rfl) rfl .nil)) rfl (rfl) ?_)
  refine Go.Tan.b1 rfl aGy aNC (.u rfl) rfl rfl (by decide) ?_; intro b103
  refine gZ (xs:=((L92.take k).map Wtg.c)) (w.c) rfl aGy aNC rfl (.u rfl) (.u rfl) aM .here (rfl) (qV rfl rfl) (by rw [List.length_map,List.length_take]; omega) (by rw [List.length_map,List.length_take]; unfold maxLen; omega) ?_; intro v104 ov104
  refine .g (aW (((k+1):Nat):Int) rfl rfl rfl rfl ?_)
  refine .g (aT (k+1,v104) ?_ ?_ ?_ ?_ ?_)
  ·exact (aA rfl (aO rfl (aA rfl (aA rfl (aA rfl (aA rfl (aA rfl eZ)))))))
  ·exact (mS .here (by rw [← aKs ew,List.map_append]; rfl) (mS aM rfl (mS aM rfl (mS aM rfl (mS aM rfl (mS aM rfl (mS aM rfl (mS aM rfl mN))))))))
  ·first|omega|(dsimp only; omega)
  ·exact hGl1
  refine ⟨?_,?_⟩
  ·(try dsimp only)<;>(first|omega|rfl|assumption|(simp; done))
  (try dsimp only)<;>(first|omega|rfl|assumption|(simp; done))
 have c5k:=c5
 try simp only [aD,aL,aE] at c5
 refine .g (nC rfl rfl (fZ rfl rN rfl (lO rfl vY rfl vB (show [pt bx,h.val 1][1]? = some (h.val ws.length) by rw [hw1]; rfl) ?_)))
 refine .p (lE rfl aGq rfl (kD (ws.length) rfl .no oY hs (.u rfl) (.u rfl) (by omega) (by omega) ?_))
 intro h113 L113 eL113 lL113 hs113
 have lL113:=lL113 rfl
 refine kc rfl aXi (aB rfl aF) (aOG h113 _ (by rw [eL113,List.length_drop]; omega) _) ?_
 rintro _ G114 μ114 hG114 ⟨oa,rfl,rfl⟩
 refine nC rfl rfl (fZ rfl rN rfl (s1 rfl (.u rfl) (.u rfl) rfl aGr vB (by first|decide | (show _<2; decide)) (rfl) ?_))
 refine .nil (.code (.seq (dQ rfl rfl (mV rfl rfl (aS rfl rfl (aS rfl rfl (.nc (.ret (We.fin Tryz.results109 (.tmp rfl (.tmp rfl .nil)) (mS .here rfl (mS .here rfl (mS .here rfl (mS .here rfl (mS .here rfl (mS .here rfl (mS .here rfl (mS .here rfl mN)))))))) ?_)))))))))
 have ek:(L92.take k).map Wtg.c=[w.c]:=by rw [show k=L92.length by omega,List.take_length,eL92,List.take_length,ews]; rfl
 rw [ek]
 exact ⟨oa,v,bb,m,cap,sz,F4,nn,ov,hm4,rfl,rfl⟩
end Go.Proofs.YtoifkgkandfeiaaGreatDoor
namespace Go.Proofs.YtoifkgkandfeiaaGreatDoor
open Go.Tan Go.RowKit Go.Maps Go.Sort Go.Shelf
theorem aXL:aQ Tryz.prog 77 0=some 0:=by kernel_rfl
theorem aXM:aQ Tryz.prog 77 1=some 1:=by kernel_rfl
theorem aXN:aQ Tryz.prog 77 2=some 2:=by kernel_rfl
theorem aXO:aQ Tryz.prog 77 3=some 34:=by kernel_rfl
theorem aYk:aJ Tryz.prog 50=true:=by kernel_rfl
theorem aYl:aJ Tryz.prog 51=true:=by kernel_rfl
theorem aA9:aQ Tryz.prog 77 5=some 42:=by kernel_rfl
theorem aGQ:aQ Tryz.prog 77 6=some 43:=by kernel_rfl
theorem aZD:cI Tryz.prog 75=some 1:=by kernel_rfl
theorem aX9:aJ Tryz.prog 26=true:=by kernel_rfl
theorem aYB:aJ Tryz.prog 27=true:=by kernel_rfl
theorem aWm:cX Tryz.prog 77 [0,1,2,3,4]=some ([.pointer none,.pointer none,.int .u8 0,.int .u8 0,.int .u8 0,.int .u8 0,.int .u8 0,.int .u8 0,.int .u8 0,.int .u8 0,.int .u8 0,.int .u8 0,.int .u8 0,.int .u8 0,.int .u8 0,.int .u8 0,.int .u8 0,.int .u8 0,.int .u8 0,.int .u8 0,.int .u8 0,.int .u8 0,.int .u8 0,.int .u8 0,.int .u8 0,.int .u8 0,.int .u8 0,.int .u8 0,.int .u8 0,.int .u8 0,.int .u8 0,.int .u8 0,.int .u8 0,.int .u8 0,.int .i64 0,.int .i64 0,.int .i64 0,.int .i64 0,.int .i64 0,.int .i64 0,.int .i64 0,.int .i64 0,.pointer none,.pointer none],[(0,1),(1,1),(2,32),(34,7),(41,1)]):=by kernel_rfl
theorem aYE:aJ Tryz.prog 28=true:=by kernel_rfl
theorem aYr:aJ Tryz.prog 8=true:=by kernel_rfl
theorem aWN:cX Tryz.prog 115 [0]=some ([.pointer none],[(0,1)]):=by kernel_rfl
theorem aVX (bw:Nat) (bd bm room bt:Nat) (root:Nat→Y) (o:Opts) (most:Int) (G:PM) (hO:aAf o=true) (hr:5000≤room) (hr9:room≤1000000000) (hK:RdNP G 6 0 (wa 64 kW)):Ct Tryz.prog 28 ([.pointer (some ⟨bw,0,none⟩)]:List Value).toArray G [.blk bw (cl (gD bd bt root o most (.pointer none) (.pointer none)) 77),.blk bd (cl (cS bm room 0) 118),.blk bm (mO [] 0),.blk bt (cl [uv .u64 0#64,uv .u64 0#64] 87)] (fun _ μ' u=>∃ (bq held now bg:Nat) (v:Value) (F:List Fi),v.oneCell'=true∧DkR F 3∧F.map Fi.nm=[bP 3 0,bP 4 0]∧cR F≤2000∧μ'=[.blk bw (cl (gD bd bt root o most ((pt bq)) ((pt bg))) 77),.blk bg (cl [pt bq,.slice none 0 0] 140),.blk bq (cl (Db.cells (eH bd bt root o 1#64 held now)) 165),.blk bd (cl (cS bm room 5) 118),.blk bm (mO (F.map Fi.fe) 3),.blk bt (cl [uv .u64 1#64,uv .u64 1#64] 87),.blk now (cl [v,.int .i64 ((0:Nat):Int)] 225),rS 16 Nd.cells v 249 [Nd.z],.mp held .u64 (fun _=>none)]∧u=.int .i64 0):=by
 refine Ct.of Tryz.func28 rfl Tryz.ntmps28 rfl fun w0 hs0=>?_
 refine .seq (aP rfl rfl (aS rfl rfl (.nc (.seq (eT ⟨true,false⟩ aY (by kernel_rfl) ?_)))))
 refine Wp.one 0 (by kernel_rfl) ?_
 refine mV rfl rfl (.nil (Wp.one 1 (by kernel_rfl) ?_))
 refine nC rfl rfl (.nil (Wp.one 2 (by kernel_rfl) ?_))
 refine fZ rfl aXL rfl (.nil (Wp.one 3 (by kernel_rfl) ?_))
 refine lO rfl tK rfl .here rfl ?_
 refine .nil (Wp.one 4 (by kernel_rfl) ?_)
 refine mV rfl rfl (.nil (Wp.one 5 (by kernel_rfl) ?_))
 refine nC rfl rfl (.nil (Wp.one 6 (by kernel_rfl) ?_))
 refine fZ rfl aXM rfl (.nil (Wp.one 7 (by kernel_rfl) ?_))
 refine lO rfl yW rfl .here rfl ?_
 refine .nil (Wp.one 8 (by kernel_rfl) ?_)
 refine mV rfl rfl (.nil (Wp.one 9 (by kernel_rfl) ?_))
 refine nC rfl rfl (.nil (Wp.one 10 (by kernel_rfl) ?_))
 refine fZ rfl aXN rfl (.nil (Wp.one 11 (by kernel_rfl) ?_))
 refine lA rfl .no fF (.u rfl) (fun _=>RdN.part (n:=32) (cs':=ba 32 root) .here (rfl)) (fun _=>(bR _ _)) ?_
 refine .nil (Wp.one 12 (by kernel_rfl) ?_)
 refine mV rfl rfl (.nil (Wp.one 13 (by kernel_rfl) ?_))
 refine nC rfl rfl (.nil (Wp.one 14 (by kernel_rfl) ?_))
 refine fZ rfl aXO rfl (.nil (Wp.one 15 (by kernel_rfl) ?_))
 refine lA rfl .no yV (.u rfl) (fun _=>RdN.part (n:=7) (cs':=o.cells) .here (rfl)) (fun _=>rfl) ?_
 refine .nil (Wp.b1 16 (by kernel_rfl) ?_)
 refine ka rfl (.inl rfl) aYk (aB rfl (aB rfl (aB rfl (aB rfl aF)))) (jI aC aC aC) (aOh bd bm room bt root o _ hO hr hr9 hK) ?_
 rintro _ G22 μ22 hG22 ⟨bq,held,now,v,F,ov,hD,hn,hz,rfl,rfl⟩
 refine .nil (Wp.one 17 (by kernel_rfl) ?_)
 refine mV rfl rfl (.nil (Wp.one 18 (by kernel_rfl) ?_))
 refine eX rfl rfl rfl (.nil (Wp.one 19 (by kernel_rfl) ?_))
 refine eX rfl rfl rfl (.nil (Wp.one 20 (by kernel_rfl) ?_))
 refine aS rfl rfl (.nil (Wp.one 21 (by kernel_rfl) ?_))
 refine aS rfl rfl (.nil (Wp.last (by kernel_rfl) ?_))
 refine .g (kc rfl aYl (aB rfl aF) (aPk bq _) ?_)
 rintro _ G29 μ29 hG29 ⟨bg,rfl,rfl⟩
 refine nC rfl rfl (fZ rfl aA9 rfl (s1 rfl (.u rfl) (.u rfl) rfl aM1 rG ((by rw [aLF]; decide)) (aVd) ?_))
 refine nC rfl rfl (fZ rfl aGQ rfl (s1 rfl (.u rfl) (.u rfl) rfl aZD .here ((by rw [aLF]; decide)) (aVe) ?_))
 refine .nil (.code (.seq (bF rfl rfl (mV rfl rfl (aS rfl rfl (.nc (.ret (We.fin Tryz.results28 (.tmp rfl .nil) (mS .here rfl (mS .here rfl (mS .here rfl (mS .here rfl (mS .here rfl (mS .here rfl (mS .here rfl (mS .here rfl (mS .here rfl mN))))))))) ?_))))))))
 exact ⟨bq,held,now,bg,v,F,ov,hD,hn,hz,rfl,rfl⟩
theorem aVW (room:Nat) (root:Nat→Y) (o:Opts) (most:Int) (G:PM) (hO:aAf o=true) (hr:5000≤room) (hr9:room≤1000000000) (hK:RdNP G 6 0 (wa 64 kW)):Ct Tryz.prog 8 ([.int .i64 ((room:Nat):Int),.agg (ba 32 root).toArray,o.val,.int .i64 most]:List Value).toArray G [] (fun G' μ' u=>∃ (bd bm bt bw bq held now bg:Nat) (v:Value) (F:List Fi),v.oneCell'=true∧DkR F 3∧F.map Fi.nm=[bP 3 0,bP 4 0]∧cR F≤2000∧PB G' bw (cl (gD bd bt root o most ((pt bq)) ((pt bg))) 77)∧μ'=[.blk bg (cl [pt bq,.slice none 0 0] 140),.blk bq (cl (Db.cells (eH bd bt root o 1#64 held now)) 165),.blk bd (cl (cS bm room 5) 118),.blk bm (mO (F.map Fi.fe) 3),.blk bt (cl [uv .u64 1#64,uv .u64 1#64] 87),.blk now (cl [v,.int .i64 ((0:Nat):Int)] 225),rS 16 Nd.cells v 249 [Nd.z],.mp held .u64 (fun _=>none)]∧u=.tuple #[.pointer (some ⟨bw,0,none⟩),.int .i64 0]):=by
 refine Ct.of Tryz.func8 rfl Tryz.ntmps8 rfl fun w0 hs0=>?_
 refine .seq (dI rfl rfl ?_)
 refine bX rfl rfl rfl ?_; intro b5
 refine bX rfl rfl rfl ?_; intro b6
 refine aS rfl rfl (aS rfl rfl (.nc (.seq ?_)))
 refine fE aC (by intro b hb; cases hb) ?_; intro Gfb5 hleb5 hbb5
 have hK:=hK.mono hleb5
 refine fE .here (by intro b hb; cases hb) ?_; intro Gfb6 hleb6 hbb6
 have hK:=hK.mono hleb6
 have hbb5:=hbb5.mono hleb6
 refine eT ⟨true,false⟩ aY (by kernel_rfl) ?_
 refine Wp.one 0 (by kernel_rfl) ?_
 refine mV rfl rfl (.nil (Wp.one 5 (by kernel_rfl) ?_))
 refine mV rfl rfl (.nil (mH 3 (by kernel_rfl) ?_))
 refine lA rfl .no fF (.u rfl) (fun _=>(hbb5.rdn (m:=32) (cs':=ba 32 root) (rfl)).rd) (fun _=>(bR _ _)) ?_
 refine .nil ⟨⟨rfl,rfl⟩,?_⟩
 refine mH 4 (by kernel_rfl) ?_
 refine lA rfl .no yV (.u rfl) (fun _=>(hbb6.rdn (m:=7) (cs':=o.cells) (rfl)).rd) (fun _=>rfl) ?_
 refine .nil ⟨⟨rfl,rfl⟩,?_⟩
 refine Wp.b1 1 (by kernel_rfl) ?_
 refine kc rfl aX9 (aB rfl aF) (aPA room _ hr9) ?_
 rintro _ G13 μ13 hG13 ⟨bd,bm,rfl,rfl⟩
 have hK:=hK.mono hG13
 refine .nil (Wp.b1 2 (by kernel_rfl) ?_)
 refine kc rfl aYB aF (aUx _) ?_
 rintro _ G14 μ14 hG14 ⟨bt,rfl,rfl⟩
 have hK:=hK.mono hG14
 refine .nil (Wp.one 6 (by kernel_rfl) ?_)
 refine dK (gD bd bt root o most (.pointer none) (.pointer none)) rfl .no aWm (.cons (.u rfl) rfl (.cons (.u rfl) rfl (.cons (.u rfl) rfl (.cons (.u rfl) rfl (.cons (.u rfl) rfl .nil))))) rfl (rfl) (.nil (Wp.b1 7 (by kernel_rfl) ?_))
 refine bX rfl rfl rfl ?_; intro b19
 refine .nil (Wp.one 8 (by kernel_rfl) ?_)
 refine aS rfl rfl (.nil (Wp.last (by kernel_rfl) ?_))
 refine .g (ka rfl (.inr rfl) aYE (aB rfl aF) (uO .here aC aC .here) (aVX b19 bd bm room bt root o most _ hO hr hr9 hK) ?_)
 rintro _ G21 μ21 hG21 ⟨bq,held,now,bg,v,F,ov,hD,hn,hz,rfl,rfl⟩
 refine .g (cP rfl rfl rfl rfl (.g (cD rfl (fun c1=>?_) (fun c1=>?_))))
 ·have c1k:=c1
  cases c1
 have c1k:=c1
 try simp only [aD,aL,aE] at c1
 refine .skip (.code (.seq ?_))
 refine fE .here (by intro b hb; cases hb) ?_; intro Gfb19 hleb19 hbb19
 refine dQ rfl rfl (mV rfl rfl (aS rfl rfl (aS rfl rfl (.nc (.ret (We.fin Tryz.results8 (.tmp rfl (.tmp rfl .nil)) (mS .here rfl (mS .here rfl (mS .here rfl (mS .here rfl (mS .here rfl (mS .here rfl (mS .here rfl (mS .here rfl mN)))))))) ?_))))))
 exact ⟨bd,bm,bt,b19,bq,held,now,bg,v,F,ov,hD,hn,hz,hbb19,rfl,rfl⟩
theorem aO8 (room:Nat) (root:Nat→Y) (o:Opts) (most:Int) (G:PM) (hO:aAf o=true) (hr:5000≤room) (hr9:room≤1000000000) (hK:RdNP G 6 0 (wa 64 kW)):Ct Tryz.prog 23 ([.int .i64 ((room:Nat):Int),.agg (ba 32 root).toArray,o.val,.int .i64 most]:List Value).toArray G [] (fun G' μ' u=>∃ (bk:Nat),(∃ (bd bm bt bw bq held now bg:Nat) (v:Value) (F:List Fi),v.oneCell'=true∧DkR F 3∧F.map Fi.nm=[bP 3 0,bP 4 0]∧cR F≤2000∧PB G' bw (cl (gD bd bt root o most ((pt bq)) ((pt bg))) 77)∧PB G' bk (cl [.pointer (some ⟨bw,0,none⟩)] 115)∧μ'=[.blk bg (cl [pt bq,.slice none 0 0] 140),.blk bq (cl (Db.cells (eH bd bt root o 1#64 held now)) 165),.blk bd (cl (cS bm room 5) 118),.blk bm (mO (F.map Fi.fe) 3),.blk bt (cl [uv .u64 1#64,uv .u64 1#64] 87),.blk now (cl [v,.int .i64 ((0:Nat):Int)] 225),rS 16 Nd.cells v 249 [Nd.z],.mp held .u64 (fun _=>none)]∧u=.tuple #[.pointer (some ⟨bk,0,none⟩),.int .i64 0])):=by
 refine Ct.of Tryz.func23 rfl Tryz.ntmps23 rfl fun w0 hs0=>?_
 refine .seq (dI rfl rfl ?_)
 refine bX rfl rfl rfl ?_; intro b5
 refine bX rfl rfl rfl ?_; intro b6
 refine .g (lA rfl .no fF (.u rfl) (fun _=>RdN.part (n:=32) (cs':=ba 32 root) aC (rfl)) (fun _=>(bR _ _)) ?_)
 refine lA rfl .no yV (.u rfl) (fun _=>RdN.part (n:=7) (cs':=o.cells) .here (rfl)) (fun _=>rfl) ?_
 refine .p (kc rfl aYr (aB rfl (aB rfl (aB rfl (aB rfl aF)))) (aVW room root o most _ hO hr hr9 hK) ?_)
 rintro _ G17 μ17 hG17 ⟨bd,bm,bt,bw,bq,held,now,bg,v,F,ov,hD,hn,hz,hbw,rfl,rfl⟩
 refine .p (eX rfl rfl rfl (eX rfl rfl rfl (.g (cP rfl rfl rfl rfl (.g (cD rfl (fun c1=>?_) (fun c1=>?_)))))))
 ·have c1k:=c1
  cases c1
 have c1k:=c1
 try simp only [aD,aL,aE] at c1
 refine .g (bC rfl .no aWN (.cons (.u rfl) rfl .nil) rfl ?_)
 refine bX rfl rfl rfl ?_; intro b25
 refine aS rfl rfl (aS rfl rfl (.nc (.ret ?_)))
 refine aVh .here (by intro b hb; cases hb) ?_; intro Gfb25 hleb25 hqb25; have hbb25:PB Gfb25 b25 _:=⟨hqb25⟩
 have hbw:=hbw.mono hleb25
 refine We.fin Tryz.results23 (.tmp rfl (.tmp rfl .nil)) (mS .here rfl (mS .here rfl (mS .here rfl (mS .here rfl (mS .here rfl (mS .here rfl (mS .here rfl (mS .here rfl mN)))))))) ?_
 exact ⟨b25,bd,bm,bt,bw,bq,held,now,bg,v,F,ov,hD,hn,hz,hbw,hbb25,rfl,rfl⟩
end Go.Proofs.YtoifkgkandfeiaaGreatDoor
namespace Go.Proofs.YtoifkgkandfeiaaGreatDoor
open Go.Tan Go.RowKit Go.Maps Go.Sort Go.Shelf
theorem wT:dV Tryz.prog 43=some ([.int .i64 0,.int .u64 0,.string ByteArray.empty,.bool false,.slice none 0 0,.slice none 0 0]):=by kernel_rfl
theorem aLr:bY Tryz.prog 75=some none:=by kernel_rfl
theorem aYn:aJ Tryz.prog 57=true:=by kernel_rfl
theorem wR:cI Tryz.prog 43=some 6:=by kernel_rfl
theorem aGn:nN Tryz.prog 29=true:=by kernel_rfl
theorem aGY:aJ Tryz.prog 34=true:=by kernel_rfl
theorem aNu (bw bd bt bq bg:Nat) (root:Nat→Y) (o:Opts) (most:Int) (v0 vk vb:Value) (c:Nat) (h:Sh) (l:List Opn) (sy:Bool) (G:PM) (hbw:PB G bw (cl (gD bd bt root o most ((pt bq)) ((pt bg))) 77)) (hs:SlR G 3 Opn.cells h l) (hl:l.length=1∨l.length=2) (hok:∀ o∈l,o.ok) (hc:c<8) (hk9:vk.oneCell'=true) (hb9:vb.oneCell'=true):Ct Tryz.prog 34 ([.pointer (some ⟨bw,0,none⟩),.agg (EvD.cells (⟨1#8,((c:Nat):Int),l,sy,[],[],0#64,0,[],[],[]⟩ : EvD) (h.val l.length) vk vb).toArray]:List Value).toArray G [.blk bg (cl [pt bq,v0] 140),rS 3 Wtg.cells v0 142 []] (fun G' μ' u=>∃ (v:Value) (s:Sh),v.oneCell'=true∧SlR G' 3 Opn.cells s l∧μ'=[.blk bg (cl [pt bq,v] 140),rS 3 Wtg.cells v 142 [⟨c,s,l,sy⟩]]∧u=.agg (Rep.cells (Rep.zero) (.slice none 0 0) (.slice none 0 0)).toArray):=by
 refine Ct.of Tryz.func34 rfl Tryz.ntmps34 rfl fun w0 hs0=>?_
 refine .seq (bF rfl rfl ?_)
 refine bX rfl rfl rfl ?_; intro b3
 refine al rfl wT ?_; intro b4
 refine .g (fZ rfl eV rfl (lO rfl cZ rfl aC rfl ?_))
 refine .g (cP rfl rfl rfl rfl (.g (cD rfl (fun c1=>?_) (fun c1=>?_))))
 ·have c1k:=c1
  try simp only [aD,aL,aE] at c1
  refine eT ⟨true,false⟩ aY (by kernel_rfl) ?_
  refine Wp.one 0 (by kernel_rfl) ?_
  refine mV rfl rfl (.nil (Wp.one 1 (by kernel_rfl) ?_))
  refine nC rfl rfl (.nil (Wp.one 2 (by kernel_rfl) ?_))
  refine fA rfl aGQ rfl (.nil (Wp.one 3 (by kernel_rfl) ?_))
  refine lN rfl aLr rfl ((hbw.rd (aLG)).rd) ?_
  refine .nil (Wp.one 4 (by kernel_rfl) ?_)
  refine fZ rfl aA5 rfl (.nil (Wp.one 5 (by kernel_rfl) ?_))
  refine lO rfl bA rfl aC rfl ?_
  refine .nil (Wp.one 6 (by kernel_rfl) ?_)
  refine fZ rfl mD rfl (.nil (Wp.one 7 (by kernel_rfl) ?_))
  refine lO rfl lF rfl aC rfl ?_
  refine .nil (Wp.one 8 (by kernel_rfl) ?_)
  refine fZ rfl zF rfl (.nil (Wp.one 9 (by kernel_rfl) ?_))
  refine lO rfl fG rfl aC rfl ?_
  refine .nil (Wp.b1 10 (by kernel_rfl) ?_)
  refine ka rfl (.inl rfl) aYn (aB rfl (aB rfl (aB rfl (aB rfl aF)))) (eI aM aM) (aUf bg (pt bq) v0 [] c h l sy _ hs hl hok hc (by decide) aP9) ?_
  rintro _ G19 μ19 hG19 ⟨vS,sS,ovS,hsS,rfl,rfl⟩
  refine .nil (Wp.one 11 (by kernel_rfl) ?_)
  refine fZ rfl aA7 rfl (.nil (Wp.b1 12 (by kernel_rfl) ?_))
  refine s1 rfl (.u rfl) (.u rfl) rfl oC aM ((by show 0<6; decide)) (rfl) ?_
  refine .nil (Wp.last (by kernel_rfl) ?_)
  refine .g (lA rfl .no oV (.u rfl) (fun _=>RdN.part (n:=6) (cs':=Rep.cells Rep.zero (.slice none 0 0) (.slice none 0 0)) .here (rfl)) (fun _=>rfl) (sw rfl (.u rfl) (.u rfl) rfl wR .here rfl (Rep.one _ rfl rfl) ?_))
  refine .nil (.code (.ret (We.fin Tryz.results34 (.cell rfl (fun w hw=>bE oV (RdN.own .here) (rfl) hw) .nil) (mS aC rfl (mS aC rfl mN)) ?_)))
  exact ⟨vS,sS,ovS,hsS,rfl,rfl⟩
 have c1k:=c1
 exact Bool.noConfusion (id c1:true=false)
theorem aPD (bw bd bt bq bg:Nat) (root:Nat→Y) (o:Opts) (most:Int) (vk vb:Value) (c:Nat) (h:Sh) (l:List Opn) (sy:Bool) (G:PM) (hbw:PB G bw (cl (gD bd bt root o most ((pt bq)) ((pt bg))) 77)) (hs:SlR G 3 Opn.cells h l) (hl:l.length=1∨l.length=2) (hok:∀ o∈l,o.ok) (hc:c<8) (hk9:vk.oneCell'=true) (hb9:vb.oneCell'=true):Ct Tryz.prog 10 ([.pointer (some ⟨bw,0,none⟩),.agg (EvD.cells (⟨1#8,((c:Nat):Int),l,sy,[],[],0#64,0,[],[],[]⟩ : EvD) (h.val l.length) vk vb).toArray]:List Value).toArray G [.blk bg (cl [pt bq,.slice none 0 0] 140)] (fun G' μ' u=>∃ (h2 s:Sh),SlR G' 3 Wtg.cells h2 [⟨c,s,l,sy⟩]∧SlR G' 3 Opn.cells s l∧μ'=[.blk bg (cl [pt bq,h2.val 1] 140)]∧u=.agg (Rep.cells (Rep.zero) (.slice none 0 0) (.slice none 0 0)).toArray):=by
 refine Ct.of Tryz.func10 rfl Tryz.ntmps10 rfl fun w0 hs0=>?_
 refine .seq (bF rfl rfl ?_)
 refine bX rfl rfl rfl ?_; intro b3
 refine al rfl wT ?_; intro b4
 refine .g (pe rfl .no aGn (.u rfl) (.u rfl) ?_)
 refine .g (jE rfl rfl ?_)
 refine .g (fZ rfl eV rfl (lO rfl cZ rfl aC rfl ?_))
 refine .g (cP rfl rfl rfl rfl (.g (cD rfl (fun c1=>?_) (fun c1=>?_))))
 ·have c1k:=c1
  cases c1
 have c1k:=c1
 try simp only [aD,aL,aE] at c1
 refine .g (cP rfl rfl rfl rfl (.g (cD rfl (fun c2=>?_) (fun c2=>?_))))
 ·have c2k:=c2
  exact Bool.noConfusion (id c2:false=true)
 have c2k:=c2
 try simp only [aD,aL,aE] at c2
 refine .g (cP rfl rfl rfl rfl (.g (cD rfl (fun c3=>?_) (fun c3=>?_))))
 ·have c3k:=c3
  exact Bool.noConfusion (id c3:false=true)
 have c3k:=c3
 try simp only [aD,aL,aE] at c3
 refine .g (cP rfl rfl rfl rfl (.g (cD rfl (fun c4=>?_) (fun c4=>?_))))
 ·have c4k:=c4
  exact Bool.noConfusion (id c4:false=true)
 have c4k:=c4
 try simp only [aD,aL,aE] at c4
 refine .g (cP rfl rfl rfl rfl (.g (cD rfl (fun c5=>?_) (fun c5=>?_))))
 ·have c5k:=c5
  exact Bool.noConfusion (id c5:false=true)
 have c5k:=c5
 try simp only [aD,aL,aE] at c5
 refine .g (fZ rfl eV rfl (lO rfl cZ rfl aC rfl ?_))
 refine cP rfl rfl rfl rfl (.p (fz rfl (.f rfl rfl) eV (.u rfl) (ld rfl (.f rfl rfl) cZ (.s rfl) (fun hc=>Rd.own aC rfl) ?_)))
 refine cp rfl (.f rfl rfl) (.s rfl) (.u rfl) rfl (cF rfl .no (.u rfl) (.s rfl) (.g (cD rfl (fun c6=>?_) (fun c6=>?_))))
 ·have c6k:=c6
  exact Bool.noConfusion (id c6:false=true)
 have c6k:=c6
 try simp only [aD,aL,aE] at c6
 refine .g (nC rfl rfl (fA rfl aA9 rfl (lN rfl wB rfl ((hbw.rd (aCq)).rd) ?_)))
 refine pe rfl .no aBH (.u rfl) (.u rfl) ?_
 refine .g (cD rfl (fun c7=>?_) (fun c7=>?_))
 ·have c7k:=c7
  exact Bool.noConfusion (id c7:false=true)
 have c7k:=c7
 try simp only [aD,aL,aE] at c7
 refine .seq (mU 3 Wtg.cells 142 (.g (lA rfl .no bU (.u rfl) (fun _=>RdN.part (n:=11) (cs':=EvD.cells (⟨1#8,((c:Nat):Int),l,sy,[],[],0#64,0,[],[],[]⟩ : EvD) (h.val l.length) vk vb) aM (rfl)) (fun _=>rfl) (ka rfl (.inr rfl) aGY (aB rfl (aB rfl aF)) (eI bG .here) (aNu bw bd bt bq bg root o most (.slice none 0 0) vk vb c h l sy _ hbw hs hl hok hc hk9 hb9) ?_))))
 rintro _ G12 μ12 hG12 ⟨vS,sS,ovS,hsS,rfl,rfl⟩
 refine sw rfl (.u rfl) (.u rfl) rfl wR aM rfl (Rep.one _ rfl rfl) ?_
 refine .nil (.code (.ret ?_))
 refine oQ aM (fun _ _=>rfl) (cM aC rfl (jH)) ?_; intro GfRW hRW hleRW evRW hsRW; subst evRW
 have hsS:=hsS.mono hleRW
 refine We.fin Tryz.results10 (.cell rfl (fun w hw=>bE oV (RdN.own .here) (rfl) hw) .nil) (mS aC rfl mN) ?_
 exact ⟨hRW,sS,hsRW,hsS,rfl,rfl⟩
end Go.Proofs.YtoifkgkandfeiaaGreatDoor
namespace Go.Proofs.YtoifkgkandfeiaaGreatDoor
open Go.Tan Go.RowKit Go.Maps Go.Sort Go.Shelf
theorem aXP:aQ Tryz.prog 77 4=some 41:=by kernel_rfl
theorem aXR:aJ Tryz.prog 109=true:=by kernel_rfl
theorem aZA:cI Tryz.prog 41=some 1:=by kernel_rfl
theorem aYp:aJ Tryz.prog 62=true:=by kernel_rfl
set_option maxHeartbeats 1000000 in
theorem aS3 (bw bg bq bm room bd bt held bn:Nat) (root:Nat→Y) (o:Opts) (v0:Value) (F:List Fi) (h:Sh) (w:Wtg) (o1:BitVec 64) (G:PM) (hbw:PB G bw (cl (gD bd bt root o 100 (pt bq) (pt bg)) 77)) (hD:DkR F 3) (hnm:F.map Fi.nm=[bP 3 0,bP 4 0]) (hz:cR F≤2000) (hr:5000≤room) (hr9:room≤1000000000) (hmem:0<o.mem) (hs:SlR G 3 Wtg.cells h [w]) (hwo:SlR G 3 Opn.cells w.sh w.ops) (hw:w.ops.length=1∨w.ops.length=2) (hsy:w.sy=true) (hok:∀ o∈w.ops,o.ok) (hord:w.ops.length=2→lt (w.ops.getD 0 Opn.zero).user (w.ops.getD 1 Opn.zero).user=true) (hK:RdNP G 6 0 (wa 64 kW)):Ct Tryz.prog 62 ([.pointer (some ⟨bw,0,none⟩),.int .i64 0]:List Value).toArray G [.blk bg (cl [pt bq,h.val 1] 140),.blk bq (cl (Db.cells (eH bd bt root o 1#64 held bn)) 165),.blk bd (cl (cS bm room 5) 118),.blk bm (mO ((F).map Fi.fe) 3),.blk bn (cl [v0,.int .i64 ((0:Nat):Int)] 225),rS 16 Nd.cells v0 249 [Nd.z],.blk bt (cl [uv .u64 1#64,uv .u64 o1] 87)] (fun G' μ' u=>∃ (oa:Option Addr) (hd:Sh) (bb m cap sz:Nat) (F4:List Fi) (nn:BitVec 64),m=(cB (bT 0 w.ops) w.ops.length).length∧SlR G' 2 xI hd [((w.c:Int),(0:Int))]∧μ'=[.blk bg (cl [pt bq,.slice oa 0 0] 140),.blk bq (cl (Db.cells { eH bd bt root o 1#64 held bn with lg:=⟨⟨1#8,0#8,0#64,1#64,1#64⟩,nn,true⟩,seq:=(0#64+BitVec.ofInt 64 ((w.ops.length:Nat):Int)) }) 165),.blk bd (cl (cS bm room 7) 118),.blk bm (mO ((F4).map Fi.fe) 4),.blk bn (cl [.slice (some ⟨bb,0,none⟩) m cap,.int .i64 ((sz:Nat):Int)] 225),rS 16 Nd.cells (.slice (some ⟨bb,0,none⟩) m cap) 249 (cB (bT 0 w.ops) w.ops.length),.blk bt (cl [uv .u64 2#64,uv .u64 o1] 87)]∧u=.agg (Rep.cells (⟨0,0#64,⟨#[]⟩,false,[],[((w.c:Int),(0:Int))]⟩) (.slice none 0 0) (hd.val 1)).toArray):=by
 refine Ct.of Tryz.func62 rfl Tryz.ntmps62 rfl fun w0 hs0=>?_
 refine .seq (aP rfl rfl ?_)
 refine al rfl wT ?_; intro b4
 refine .g (anA rfl .no (.u rfl) (.u rfl) ?_)
 refine .g (cP rfl rfl rfl rfl (.g (cD rfl (fun c1=>?_) (fun c1=>?_))))
 ·have c1k:=c1
  try simp only [aD,aL,aE] at c1
  refine eT ⟨true,false⟩ aY (by kernel_rfl) ?_
  refine Wp.one 0 (by kernel_rfl) ?_
  refine mV rfl rfl (.nil (Wp.one 1 (by kernel_rfl) ?_))
  refine nC rfl rfl (.nil (Wp.one 2 (by kernel_rfl) ?_))
  refine fA rfl aGQ rfl (.nil (Wp.one 3 (by kernel_rfl) ?_))
  refine lN rfl aLr rfl ((hbw.rd (aLG)).rd) ?_
  refine .nil (Wp.one 4 (by kernel_rfl) ?_)
  refine mV rfl rfl (.nil (Wp.one 5 (by kernel_rfl) ?_))
  refine nC rfl rfl (.nil (Wp.one 6 (by kernel_rfl) ?_))
  refine fA rfl aXP rfl (.nil (Wp.one 7 (by kernel_rfl) ?_))
  refine lN rfl bA rfl ((hbw.rd (aVf)).rd) ?_
  refine .nil (Wp.b1 8 (by kernel_rfl) ?_)
  refine ka rfl (.inl rfl) aXR (aB rfl (aB rfl aF)) (aAW aC aC aC aC aC aC aC) (aPj bg bq bm room bd bt held bn root o v0 F h w o1 _ hD hnm hz hr hr9 hmem hs hwo hw hsy hok hord hK) ?_
  rintro _ G18 μ18 hG18 ⟨oa,vD,bb,m,cap,sz,F4,nn,oD,hm4,rfl,rfl⟩
  refine .nil (Wp.one 9 (by kernel_rfl) ?_)
  refine mV rfl rfl (.nil (Wp.one 10 (by kernel_rfl) ?_))
  refine eX rfl rfl rfl (.nil (Wp.one 11 (by kernel_rfl) ?_))
  refine eX rfl rfl rfl (.nil (Wp.one 12 (by kernel_rfl) ?_))
  refine fZ rfl aGM rfl (.nil (Wp.b1 13 (by kernel_rfl) ?_))
  refine iM rfl (.u rfl) (.u rfl) aC aZA rG ((by show 5<6; decide)) (rfl) ?_
  refine .nil (Wp.one 14 (by kernel_rfl) ?_)
  refine fZ rfl aA7 rfl (.nil (Wp.b1 15 (by kernel_rfl) ?_))
  refine s1 rfl (.u rfl) (.u rfl) rfl oC .here ((by show 0<6; decide)) (rfl) ?_
  refine .nil (Wp.last (by kernel_rfl) ?_)
  refine .blk (.code (.seq ?_))
  refine aVk aM (fun _ _=>rfl) ?_; intro GfRD hRD hleRD evRD hsRD; subst evRD
  have hsd:=SlR.dn hsRD
  refine .g (lA rfl .no oV (.u rfl) (fun _=>RdN.part (n:=6) (cs':=Rep.cells ⟨0,0#64,⟨#[]⟩,false,[],[((w.c:Int),(0:Int))]⟩ (.slice none 0 0) (hRD.val 1)) .here (rfl)) (fun _=>rfl) (sw rfl (.u rfl) (.u rfl) rfl wR .here rfl (Rep.one _ rfl rfl) ?_))
  refine .nil (.code (.ret (We.fin Tryz.results62 (.cell rfl (fun w hw=>bE oV (RdN.own .here) (rfl) hw) .nil) (mS aC rfl (mS aC rfl (mS aC rfl (mS aC rfl (mS aC rfl (mS aC rfl (mS aC rfl mN))))))) ?_)))
  exact ⟨oa,hRD,bb,m,cap,sz,F4,nn,hm4,hsd,rfl,rfl⟩
 have c1k:=c1
 exact Bool.noConfusion (id c1:true=false)
set_option maxHeartbeats 1000000 in
theorem aNt (bw bg bq bm room bd bt held bn:Nat) (root:Nat→Y) (o:Opts) (v0:Value) (F:List Fi) (h:Sh) (w:Wtg) (o1:BitVec 64) (G:PM) (hbw:PB G bw (cl (gD bd bt root o 100 (pt bq) (pt bg)) 77)) (hD:DkR F 3) (hnm:F.map Fi.nm=[bP 3 0,bP 4 0]) (hz:cR F≤2000) (hr:5000≤room) (hr9:room≤1000000000) (hmem:0<o.mem) (hs:SlR G 3 Wtg.cells h [w]) (hwo:SlR G 3 Opn.cells w.sh w.ops) (hw:w.ops.length=1∨w.ops.length=2) (hsy:w.sy=true) (hok:∀ o∈w.ops,o.ok) (hord:w.ops.length=2→lt (w.ops.getD 0 Opn.zero).user (w.ops.getD 1 Opn.zero).user=true) (hK:RdNP G 6 0 (wa 64 kW)) (vo vk vb:Value) (ho:vo.oneCell'=true) (hk9:vk.oneCell'=true) (hb9:vb.oneCell'=true):Ct Tryz.prog 34 ([.pointer (some ⟨bw,0,none⟩),.agg (EvD.cells (⟨6#8,0,[],false,[],[],0#64,0,[],[],[]⟩ : EvD) vo vk vb).toArray]:List Value).toArray G [.blk bg (cl [pt bq,h.val 1] 140),.blk bq (cl (Db.cells (eH bd bt root o 1#64 held bn)) 165),.blk bd (cl (cS bm room 5) 118),.blk bm (mO ((F).map Fi.fe) 3),.blk bn (cl [v0,.int .i64 ((0:Nat):Int)] 225),rS 16 Nd.cells v0 249 [Nd.z],.blk bt (cl [uv .u64 1#64,uv .u64 o1] 87)] (fun G' μ' u=>∃ (oa:Option Addr) (hd:Sh) (bb m cap sz:Nat) (F4:List Fi) (nn:BitVec 64),m=(cB (bT 0 w.ops) w.ops.length).length∧SlR G' 2 xI hd [((w.c:Int),(0:Int))]∧μ'=[.blk bg (cl [pt bq,.slice oa 0 0] 140),.blk bq (cl (Db.cells { eH bd bt root o 1#64 held bn with lg:=⟨⟨1#8,0#8,0#64,1#64,1#64⟩,nn,true⟩,seq:=(0#64+BitVec.ofInt 64 ((w.ops.length:Nat):Int)) }) 165),.blk bd (cl (cS bm room 7) 118),.blk bm (mO ((F4).map Fi.fe) 4),.blk bn (cl [.slice (some ⟨bb,0,none⟩) m cap,.int .i64 ((sz:Nat):Int)] 225),rS 16 Nd.cells (.slice (some ⟨bb,0,none⟩) m cap) 249 (cB (bT 0 w.ops) w.ops.length),.blk bt (cl [uv .u64 2#64,uv .u64 o1] 87)]∧u=.agg (Rep.cells (⟨0,0#64,⟨#[]⟩,false,[],[((w.c:Int),(0:Int))]⟩) (.slice none 0 0) (hd.val 1)).toArray):=by
 refine Ct.of Tryz.func34 rfl Tryz.ntmps34 rfl fun w0 hs0=>?_
 refine .seq (bF rfl rfl ?_)
 refine bX rfl rfl rfl ?_; intro b3
 refine al rfl wT ?_; intro b4
 refine .g (fZ rfl eV rfl (lO rfl cZ rfl aC rfl ?_))
 refine .g (cP rfl rfl rfl rfl (.g (cD rfl (fun c1=>?_) (fun c1=>?_))))
 ·have c1k:=c1
  exact Bool.noConfusion (id c1:false=true)
 have c1k:=c1
 try simp only [aD,aL,aE] at c1
 refine .g (cP rfl rfl rfl rfl (.g (cD rfl (fun c2=>?_) (fun c2=>?_))))
 ·have c2k:=c2
  exact Bool.noConfusion (id c2:false=true)
 have c2k:=c2
 try simp only [aD,aL,aE] at c2
 refine .g (cP rfl rfl rfl rfl (.g (cD rfl (fun c3=>?_) (fun c3=>?_))))
 ·have c3k:=c3
  exact Bool.noConfusion (id c3:false=true)
 have c3k:=c3
 try simp only [aD,aL,aE] at c3
 refine .g (cP rfl rfl rfl rfl (.g (cD rfl (fun c4=>?_) (fun c4=>?_))))
 ·have c4k:=c4
  exact Bool.noConfusion (id c4:false=true)
 have c4k:=c4
 try simp only [aD,aL,aE] at c4
 refine .g (cP rfl rfl rfl rfl (.g (cD rfl (fun c5=>?_) (fun c5=>?_))))
 ·have c5k:=c5
  exact Bool.noConfusion (id c5:false=true)
 have c5k:=c5
 try simp only [aD,aL,aE] at c5
 refine .g (cP rfl rfl rfl rfl (.g (cD rfl (fun c6=>?_) (fun c6=>?_))))
 ·have c6k:=c6
  try simp only [aD,aL,aE] at c6
  refine .g (fZ rfl tR rfl (lO rfl bA rfl aC rfl ?_))
  refine ka rfl (.inr rfl) aYp (aB rfl (aB rfl aF)) (aAW aM aM aM aM aM aM aM) (aS3 bw bg bq bm room bd bt held bn root o v0 F h w o1 _ hbw hD hnm hz hr hr9 hmem hs hwo hw hsy hok hord hK) ?_
  rintro _ G84 μ84 hG84 ⟨oa,hd,bb,m,cap,sz,F4,nn,hm4,hsd,rfl,rfl⟩
  refine sw rfl (.u rfl) (.u rfl) rfl wR vB rfl (Rep.one _ rfl rfl) ?_
  refine .nil (.code (.ret (We.fin Tryz.results34 (.cell rfl (fun w hw=>bE oV (RdN.own .here) (rfl) hw) .nil) (mS aC rfl (mS aC rfl (mS aC rfl (mS aC rfl (mS aC rfl (mS aC rfl (mS aC rfl mN))))))) ?_)))
  exact ⟨oa,hd,bb,m,cap,sz,F4,nn,hm4,hsd,rfl,rfl⟩
 have c6k:=c6
 exact Bool.noConfusion (id c6:true=false)
set_option maxHeartbeats 1000000 in
theorem aPC (bw bg bq bm room bd bt held bn:Nat) (root:Nat→Y) (o:Opts) (v0:Value) (F:List Fi) (h:Sh) (w:Wtg) (o1:BitVec 64) (G:PM) (hbw:PB G bw (cl (gD bd bt root o 100 (pt bq) (pt bg)) 77)) (hD:DkR F 3) (hnm:F.map Fi.nm=[bP 3 0,bP 4 0]) (hz:cR F≤2000) (hr:5000≤room) (hr9:room≤1000000000) (hmem:0<o.mem) (hs:SlR G 3 Wtg.cells h [w]) (hwo:SlR G 3 Opn.cells w.sh w.ops) (hw:w.ops.length=1∨w.ops.length=2) (hsy:w.sy=true) (hok:∀ o∈w.ops,o.ok) (hord:w.ops.length=2→lt (w.ops.getD 0 Opn.zero).user (w.ops.getD 1 Opn.zero).user=true) (hK:RdNP G 6 0 (wa 64 kW)) (vo vk vb:Value) (ho:vo.oneCell'=true) (hk9:vk.oneCell'=true) (hb9:vb.oneCell'=true):Ct Tryz.prog 10 ([.pointer (some ⟨bw,0,none⟩),.agg (EvD.cells (⟨6#8,0,[],false,[],[],0#64,0,[],[],[]⟩ : EvD) vo vk vb).toArray]:List Value).toArray G [.blk bg (cl [pt bq,h.val 1] 140),.blk bq (cl (Db.cells (eH bd bt root o 1#64 held bn)) 165),.blk bd (cl (cS bm room 5) 118),.blk bm (mO ((F).map Fi.fe) 3),.blk bn (cl [v0,.int .i64 ((0:Nat):Int)] 225),rS 16 Nd.cells v0 249 [Nd.z],.blk bt (cl [uv .u64 1#64,uv .u64 o1] 87)] (fun G' μ' u=>∃ (oa:Option Addr) (hd:Sh) (bb m cap sz:Nat) (F4:List Fi) (nn:BitVec 64),m=(cB (bT 0 w.ops) w.ops.length).length∧SlR G' 2 xI hd [((w.c:Int),(0:Int))]∧μ'=[.blk bg (cl [pt bq,.slice oa 0 0] 140),.blk bq (cl (Db.cells { eH bd bt root o 1#64 held bn with lg:=⟨⟨1#8,0#8,0#64,1#64,1#64⟩,nn,true⟩,seq:=(0#64+BitVec.ofInt 64 ((w.ops.length:Nat):Int)) }) 165),.blk bd (cl (cS bm room 7) 118),.blk bm (mO ((F4).map Fi.fe) 4),.blk bn (cl [.slice (some ⟨bb,0,none⟩) m cap,.int .i64 ((sz:Nat):Int)] 225),rS 16 Nd.cells (.slice (some ⟨bb,0,none⟩) m cap) 249 (cB (bT 0 w.ops) w.ops.length),.blk bt (cl [uv .u64 2#64,uv .u64 o1] 87)]∧u=.agg (Rep.cells (⟨0,0#64,⟨#[]⟩,false,[],[((w.c:Int),(0:Int))]⟩) (.slice none 0 0) (hd.val 1)).toArray):=by
 refine Ct.of Tryz.func10 rfl Tryz.ntmps10 rfl fun w0 hs0=>?_
 refine .seq (bF rfl rfl ?_)
 refine bX rfl rfl rfl ?_; intro b3
 refine al rfl wT ?_; intro b4
 refine .g (pe rfl .no aGn (.u rfl) (.u rfl) ?_)
 refine .g (jE rfl rfl ?_)
 refine .g (fZ rfl eV rfl (lO rfl cZ rfl aC rfl ?_))
 refine .g (cP rfl rfl rfl rfl (.g (cD rfl (fun c1=>?_) (fun c1=>?_))))
 ·have c1k:=c1
  cases c1
 have c1k:=c1
 try simp only [aD,aL,aE] at c1
 refine .g (cP rfl rfl rfl rfl (.g (cD rfl (fun c2=>?_) (fun c2=>?_))))
 ·have c2k:=c2
  exact Bool.noConfusion (id c2:false=true)
 have c2k:=c2
 try simp only [aD,aL,aE] at c2
 refine .g (cP rfl rfl rfl rfl (.g (cD rfl (fun c3=>?_) (fun c3=>?_))))
 ·have c3k:=c3
  exact Bool.noConfusion (id c3:false=true)
 have c3k:=c3
 try simp only [aD,aL,aE] at c3
 refine .g (cP rfl rfl rfl rfl (.g (cD rfl (fun c4=>?_) (fun c4=>?_))))
 ·have c4k:=c4
  exact Bool.noConfusion (id c4:false=true)
 have c4k:=c4
 try simp only [aD,aL,aE] at c4
 refine .g (cP rfl rfl rfl rfl (.g (cD rfl (fun c5=>?_) (fun c5=>?_))))
 ·have c5k:=c5
  exact Bool.noConfusion (id c5:false=true)
 have c5k:=c5
 try simp only [aD,aL,aE] at c5
 refine .g (fZ rfl eV rfl (lO rfl cZ rfl aC rfl ?_))
 refine cP rfl rfl rfl rfl (.p (fz rfl (.f rfl rfl) eV (.u rfl) (ld rfl (.f rfl rfl) cZ (.s rfl) (fun hc=>Rd.own aC rfl) ?_)))
 refine cp rfl (.f rfl rfl) (.s rfl) (.u rfl) rfl (cF rfl .no (.u rfl) (.s rfl) (.g (cD rfl (fun c6=>?_) (fun c6=>?_))))
 ·have c6k:=c6
  exact Bool.noConfusion (id c6:false=true)
 have c6k:=c6
 try simp only [aD,aL,aE] at c6
 refine .g (nC rfl rfl (fA rfl aA9 rfl (lN rfl wB rfl ((hbw.rd (aCq)).rd) ?_)))
 refine pe rfl .no aBH (.u rfl) (.u rfl) ?_
 refine .g (cD rfl (fun c7=>?_) (fun c7=>?_))
 ·have c7k:=c7
  exact Bool.noConfusion (id c7:false=true)
 have c7k:=c7
 try simp only [aD,aL,aE] at c7
 refine .g (lA rfl .no bU (.u rfl) (fun _=>RdN.part (n:=11) (cs':=EvD.cells (⟨6#8,0,[],false,[],[],0#64,0,[],[],[]⟩ : EvD) vo vk vb) aC (rfl)) (fun _=>rfl) (ka rfl (.inr rfl) aGY (aB rfl (aB rfl aF)) (aAW aM aM aM aM aM aM aM) (aNt bw bg bq bm room bd bt held bn root o v0 F h w o1 _ hbw hD hnm hz hr hr9 hmem hs hwo hw hsy hok hord hK vo vk vb ho hk9 hb9) ?_))
 rintro _ G12 μ12 hG12 ⟨oa,hd,bb,m,cap,sz,F4,nn,hm4,hsd,rfl,rfl⟩
 refine sw rfl (.u rfl) (.u rfl) rfl wR vB rfl (Rep.one _ rfl rfl) ?_
 refine .nil (.code (.ret (We.fin Tryz.results10 (.cell rfl (fun w hw=>bE oV (RdN.own .here) (rfl) hw) .nil) (mS aC rfl (mS aC rfl (mS aC rfl (mS aC rfl (mS aC rfl (mS aC rfl (mS aC rfl mN))))))) ?_)))
 exact ⟨oa,hd,bb,m,cap,sz,F4,nn,hm4,hsd,rfl,rfl⟩
end Go.Proofs.YtoifkgkandfeiaaGreatDoor

namespace Go.Proofs.YtoifkgkandfeiaaGreatDoor
open Go.Tan Go.RowKit Go.Maps Go.Sort Go.Shelf
theorem aY1:aJ Tryz.prog 97=true:=by kernel_rfl
theorem aY2:aJ Tryz.prog 98=true:=by kernel_rfl
theorem aY3:aJ Tryz.prog 99=true:=by kernel_rfl
theorem aQZ (bl:Nat) (h:Sh) (xs:List Nd) (sz:Value) (G:PM) (hbl:PB G bl (cl [h.val xs.length,sz] 225)) (hs:SlR G 16 Nd.cells h xs) (w:Nat→Nat) (us:ByteArray) (q:BitVec 64) (hW:WayN xs us q w) (e:Ent) (h0:0<cU xs (w 0) 0) (he:(xs.getD (cU xs (w 0) 0) Nd.z).1=e) (hu:e.user=us):Ct Tryz.prog 98 ([.pointer (some ⟨bl,0,none⟩),.string us,uv .u64 q]:List Value).toArray G [] (fun _ μ' u=>μ'=[]∧u=.tuple #[e.val,.bool true]):=by
 subst he
 refine Ct.of Tryz.func98 rfl Tryz.ntmps98 rfl fun w0 hs0=>?_
 have hnx:cU xs (w 0) 0<xs.length:=hW.inb _ (hW.lt 0 (by decide)) 0 (by decide)
 refine .seq (bF rfl rfl ?_)
 refine al rfl aDa ?_; intro b6
 refine .g (kV rfl aMU (aB rfl (aB rfl (aB rfl aF))) (aIO bl h xs sz _ hbl hs w us q hW) ?_)
 refine .g (cP rfl rfl rfl rfl (mV rfl rfl (mv rfl (.f rfl rfl) (.u rfl) (nc rfl (.f rfl rfl) (.s rfl) (fa rfl (.f rfl rfl) mC (.s rfl) (ld rfl (.f rfl rfl) mZ (.s rfl) (fun hc=>(hbl.rd (rfl)).rd) ?_))))))
 refine mv rfl (.f rfl rfl) (.u rfl) (ih rfl (.f rfl rfl) nB (.s rfl) (.s rfl) (by omega) (by omega) (fun _=>hs.nn (k:=cU xs (w 0) 0) hnx) ?_)
 refine fa rfl (.f rfl rfl) aGJ (.s rfl) (fa rfl (.f rfl rfl) mB (.s rfl) (ld rfl (.f rfl rfl) cQ (.s rfl) (fun hc=>((aDd hs (a:=cU xs (w 0) 0) hnx (by simp)) 0 _ rfl).rd) ?_))
 refine mv rfl (.f rfl rfl) (.u rfl) (cs rfl (.f rfl rfl) (.s rfl) (.s rfl) rfl (cF rfl .no (.u rfl) (.s rfl) (.g (cD rfl (fun c1=>?_) (fun c1=>?_)))))
 ·have c1k:=c1
  have h10:cU xs (w 0) 0≠0:=by omega
  have h9:((cU xs (w 0) 0:Nat):Int)≠0:=by omega
  rw [hu] at c1k
  simp [h9,h10] at c1k
 have c1k:=c1
 try simp only [aD,aE] at c1
 refine .g (nC rfl rfl (fA rfl mC rfl (lN rfl mZ rfl ((hbl.rd (rfl)).rd) ?_)))
 refine mV rfl rfl (ih rfl .no nB (.u rfl) (.u rfl) (by omega) (by omega) (fun _=>hs.nn (k:=cU xs (w 0) 0) hnx) ?_)
 refine fA rfl aGJ rfl (lA rfl .no mY (.u rfl) (fun _=>(aDd hs (a:=cU xs (w 0) 0) hnx (by simp)).rd) (fun _=>Ent.len _) ?_)
 refine sw rfl (.u rfl) (.u rfl) rfl tV .here rfl (Ent.one _) ?_
 refine aS rfl rfl (.nc (.ret (aN Tryz.results98 (.cell rfl (fun w hw=>bE mY (RdN.own .here) (Ent.len _) hw) (.tmp rfl .nil)) ?_)))
 exact ⟨rfl,rfl⟩
theorem aNs (bx:Nat) (d:Db) (G:PM) (hbx:PB G bx (cl d.cells 165)) (m:BitVec 64) (hm:d.seq.toNat≤m.toNat):Ct Tryz.prog 97 ([pt bx,uv .u64 m]:List Value).toArray G [] (fun _ μ' u=>μ'=[]∧u=.tuple #[uv .u64 d.seq,.bool true]):=by
 refine Ct.of Tryz.func97 rfl Tryz.ntmps97 rfl fun w0 hs0=>?_
 refine .g (nC rfl rfl (fA rfl tO rfl (lN rfl bI rfl ((hbx.rd (rfl)).rd) ?_)))
 refine cP rfl rfl rfl rfl (.g (cD rfl (fun c1=>?_) (fun c1=>?_)))
 ·have c1k:=c1
  try simp only [aD,aE] at c1
  refine .g (nC rfl rfl (fA rfl tO rfl (lN rfl bI rfl ((hbx.rd (rfl)).rd) ?_)))
  refine aS rfl rfl (aS rfl rfl (.nc (.ret (aN Tryz.results97 (.tmp rfl (.tmp rfl .nil)) ?_))))
  exact ⟨rfl,rfl⟩
 have c1k:=c1
 have h1:@BitVec.toNat IntKind.u64.bits m=m.toNat:=rfl; have h2:@BitVec.toNat IntKind.u64.bits d.seq=d.seq.toNat:=rfl; simp at c1; omega
theorem aOg (bx:Nat) (d:Db) (G:PM) (hbx:PB G bx (cl d.cells 165)) (us:ByteArray) (m:BitVec 64) (h:Sh) (xs:List Nd) (sz:Value) (w:Nat→Nat) (hbl:PB G d.now (cl [h.val xs.length,sz] 225)) (hs:SlR G 16 Nd.cells h xs) (hst:d.s.cells d.hd=(fU 1 2).cells fO) (hW:WayN xs us d.seq w) (e:Ent) (h0:0<cU xs (w 0) 0) (he:(xs.getD (cU xs (w 0) 0) Nd.z).1=e) (hu:e.user=us) (hk:e.kind=1#8) (hm:d.seq.toNat≤m.toNat):Ct Tryz.prog 58 ([pt bx,.string us,uv .u64 m]:List Value).toArray G [] (fun _ μ' u=>μ'=[]∧u=.tuple #[.string e.value,.bool true,.int .i64 0]):=by
 refine Ct.of Tryz.func58 rfl Tryz.ntmps58 rfl fun w0 hs0=>?_
 refine .seq (dQ rfl rfl (aS rfl rfl (aS rfl rfl ?_)))
 refine al rfl aBS ?_; intro b8
 refine .g (kV rfl aMo (aB rfl aF) (aK1 bx d _ hbx) ?_)
 refine .g (cP rfl rfl rfl rfl (.g (cD rfl (fun c1=>?_) (fun c1=>?_))))
 ·have c1k:=c1
  exact absurd c1 (by decide)
 have c1k:=c1
 try simp only [aD,aL,aE] at c1
 refine .skip (.code (.seq (Wk.defers [0] 1 (DQ.d ⟨89,[.pointer (some ⟨bx,0,none⟩),.pointer (some ⟨b8,0,none⟩)],[]⟩) (fun _ _ _ _=>False) (fun _ _ _ _ _ _ hq=>hq.elim) rfl rfl ?_)))
 refine mV rfl rfl (.nil ⟨DefOp.fn rfl (aB rfl (aB rfl aF)),?_⟩)
 refine .g (kV rfl aY1 (aB rfl (aB rfl aF)) (aNs bx d _ hbx m hm) ?_)
 refine .p (eX rfl rfl rfl (eX rfl rfl rfl (.g (nt rfl .no (.u rfl) (.g (cD rfl (fun c2=>?_) (fun c2=>?_)))))))
 ·have c2k:=c2
  cases c2
 have c2k:=c2
 try simp only [aD,aL,aE] at c2
 refine .g (nC rfl rfl (fA rfl aF9 rfl (lN rfl vZ rfl ((hbx.rd (rfl)).rd) ?_)))
 refine .p (kV rfl aY2 (aB rfl (aB rfl (aB rfl aF))) (aQZ d.now h xs sz _ hbl hs w us d.seq hW e h0 he hu) ?_)
 refine .p (eX rfl rfl rfl (eX rfl rfl rfl ?_))
 refine al rfl aDa ?_; intro b12
 refine sw rfl (.u rfl) (.u rfl) rfl tV .here rfl (Ent.one _) ?_
 refine .g (nt rfl .no (.u rfl) (.g (cD rfl (fun c3=>?_) (fun c3=>?_))))
 ·have c3k:=c3
  cases c3
 have c3k:=c3
 try simp only [aD,aL,aE] at c3
 refine .g (nC rfl rfl (fA rfl aDC rfl (lA rfl .no nV (.u rfl) (fun _=>(hbx.rdn (m:=14) (cs':=(fU 1 2).cells fO) (by rw [← hst]; rfl)).rd) (fun _=>State.len) ?_)))
 refine .p (kc rfl aY3 (aB rfl (aB rfl aF)) (aQ2 (fU 1 2) fO _ aFW (by simp [dO,fU]) us) ?_)
 rintro _ G60 μ60 hG60 ⟨rfl,h60,rfl,hs60⟩
 refine lE rfl mF rfl (mV rfl rfl (.nc (.block ?_)))
 refine aV (α:=Nat) (fun k=>[(13,true,.bool true),(62,true,.int .i64 (k:Int))]) (fun k=>[.blk b12 (cl e.cells 179)])
  (fun k Gl=>(k=0)) (fun k=>0) 0 [(0,true,_),(1,true,_),(8,true,_),(10,true,_),(12,true,_),(60,true,_),(61,true,_)] [_]
  (aA rfl (aO rfl (aA rfl (aA rfl (aA rfl (aA rfl (aA rfl (aA rfl (aA rfl eZ)))))))))
  (mS .here rfl (mS .here rfl mN)) ?_ ?_
 ·(try dsimp only)<;>(first|omega|rfl|assumption|(simp; done))
 intro k N0 Gl0 hN0 hGl0 hF0
 try dsimp only at hF0 hN0 ⊢
 have hk0:=hF0
 refine .g (cP rfl rfl rfl rfl (.g (cD rfl (fun c4=>?_) (fun c4=>?_))))
 ·have c4k:=c4
  have hL:(kJ (fU 1 2) us 5).length=0:=by simp [kJ,nL,fU]
  have h4:=of_decide_eq_true c4
  omega
 have c4k:=c4
 try simp only [aD,aL,aE] at c4
 refine .g (nt rfl .no (.u rfl) (.p (fz rfl (.f rfl rfl) aGA (.u rfl) (ld rfl (.f rfl rfl) cZ (.s rfl) (fun hc=>Rd.own .here (by first|exact aK rfl|rfl)) ?_))))
 refine cp rfl (.f rfl rfl) (.s rfl) (.u rfl) rfl (cF rfl .no (.u rfl) (.s rfl) (.g (cD rfl (fun c5=>?_) (fun c5=>?_))))
 ·have c5k:=c5
  rw [hk] at c5; exact absurd c5 (by decide)
 have c5k:=c5
 try simp only [aD,aL,aE] at c5
 refine .g (fZ rfl aDD rfl (lO rfl cQ rfl .here (by first|exact aK rfl|rfl) ?_))
 refine .p (s1 rfl (.u rfl) (.u rfl) rfl oC aC (by first|decide|(simp only [bW,bR,cC]; omega)) (rfl) ?_)
 refine .nil (.code (.ret (zV [⟨89,[.pointer (some ⟨bx,0,none⟩),.pointer (some ⟨b8,0,none⟩)],[]⟩] rfl (by intro q hq; rw [List.mem_singleton.1 hq]; exact ⟨aGk,fun w hw=>aEc w _ _⟩) Tryz.results58 (.tmp rfl (.tmp rfl (.cell rfl (fun w hw=>iZ lG (Rd.own .here rfl w hw)) .nil))) mN ?_)))
 exact ⟨rfl,rfl⟩
end Go.Proofs.YtoifkgkandfeiaaGreatDoor
namespace Go.Proofs.YtoifkgkandfeiaaGreatDoor
open Go.Tan Go.RowKit Go.Maps Go.Sort Go.Shelf
theorem aYo:aJ Tryz.prog 58=true:=by kernel_rfl
set_option maxHeartbeats 1000000 in
theorem aNr (bw bg bq bd bt held bn bb cap sz:Nat) (root:Nat→Y) (o:Opts) (nn:BitVec 64) (G:PM) (hbw:PB G bw (cl (gD bd bt root o 100 (pt bq) (pt bg)) 77)) (vo vk vb:Value) (ho:vo.oneCell'=true) (hk9:vk.oneCell'=true) (hb9:vb.oneCell'=true):Ct Tryz.prog 34 ([.pointer (some ⟨bw,0,none⟩),.agg (EvD.cells fW vo vk vb).toArray]:List Value).toArray G [.blk bq (cl (Db.cells { eH bd bt root o 1#64 held bn with lg:=⟨⟨1#8,0#8,0#64,1#64,1#64⟩,nn,true⟩,seq:=(0#64+BitVec.ofInt 64 (([bM,bO].length:Nat):Int)) }) 165),.blk bn (cl [.slice (some ⟨bb,0,none⟩) (cB (bT 0 [bM,bO]) [bM,bO].length).length cap,.int .i64 ((sz:Nat):Int)] 225),rS 16 Nd.cells (.slice (some ⟨bb,0,none⟩) (cB (bT 0 [bM,bO]) [bM,bO].length).length cap) 249 (cB (bT 0 [bM,bO]) [bM,bO].length)] (fun _ μ' u=>μ'=[.blk bq (cl (Db.cells { eH bd bt root o 1#64 held bn with lg:=⟨⟨1#8,0#8,0#64,1#64,1#64⟩,nn,true⟩,seq:=(0#64+BitVec.ofInt 64 (([bM,bO].length:Nat):Int)) }) 165),.blk bn (cl [.slice (some ⟨bb,0,none⟩) (cB (bT 0 [bM,bO]) [bM,bO].length).length cap,.int .i64 ((sz:Nat):Int)] 225),rS 16 Nd.cells (.slice (some ⟨bb,0,none⟩) (cB (bT 0 [bM,bO]) [bM,bO].length).length cap) 249 (cB (bT 0 [bM,bO]) [bM,bO].length)]∧u=.agg (Rep.cells (uS) (.slice none 0 0) (.slice none 0 0)).toArray):=by
 refine Ct.of Tryz.func34 rfl Tryz.ntmps34 rfl fun w0 hs0=>?_
 refine .seq (bF rfl rfl ?_)
 refine bX rfl rfl rfl ?_; intro b3
 refine al rfl wT ?_; intro b4
 refine .g (fZ rfl eV rfl (lO rfl cZ rfl aC rfl ?_))
 refine .g (cP rfl rfl rfl rfl (.g (cD rfl (fun c1=>?_) (fun c1=>?_))))
 ·have c1k:=c1
  exact Bool.noConfusion (id c1:false=true)
 have c1k:=c1
 try simp only [aD,aL,aE] at c1
 refine .g (cP rfl rfl rfl rfl (.g (cD rfl (fun c2=>?_) (fun c2=>?_))))
 ·have c2k:=c2
  try simp only [aD,aL,aE] at c2
  refine eT ⟨true,false⟩ aY (by kernel_rfl) ?_
  refine Wp.one 0 (by kernel_rfl) ?_
  refine mV rfl rfl (.nil (Wp.one 1 (by kernel_rfl) ?_))
  refine nC rfl rfl (.nil (Wp.one 2 (by kernel_rfl) ?_))
  refine fA rfl aA9 rfl (.nil (Wp.one 3 (by kernel_rfl) ?_))
  refine lN rfl wB rfl ((hbw.rd (aCq)).rd) ?_
  refine .nil (Wp.one 4 (by kernel_rfl) ?_)
  refine fZ rfl aA6 rfl (.nil (Wp.one 5 (by kernel_rfl) ?_))
  refine lO rfl cQ rfl aC rfl ?_
  refine .nil (Wp.one 6 (by kernel_rfl) ?_)
  refine fZ rfl tQ rfl (.nil (Wp.one 7 (by kernel_rfl) ?_))
  refine lO rfl bI rfl aC rfl ?_
  refine .nil (Wp.b1 8 (by kernel_rfl) ?_)
  refine ka rfl (.inl rfl) aYo (aB rfl (aB rfl (aB rfl aF))) (jI aM aM aM) (qP fun G1 hle1 h1=>aQs fun s G2 hle hv hs2 hb2=>by rw [hv] at hb2; exact aOg bq { eH bd bt root o 1#64 held bn with lg:=⟨⟨1#8,0#8,0#64,1#64,1#64⟩,nn,true⟩,seq:=(0#64+BitVec.ofInt 64 (([bM,bO].length:Nat):Int)) } G2 (h1.mono hle) (aG [97]) 18446744073709551615#64 s (cB (bT 0 [bM,bO]) [bM,bO].length) _ (fun _=>0) hb2 hs2 rfl (aCp (l:=[bM,bO]) (us:=aG [97]) (q:=(0#64+BitVec.ofInt 64 (([bM,bO].length:Nat):Int):BitVec 64)) rfl (by kernel_rfl) (by kernel_rfl)).1 (dX 1#64 bM) (by show 0<cU (cB (bT 0 [bM,bO]) 2) 0 0; rw [(aCp (l:=[bM,bO]) (us:=aG [97]) (q:=(0#64+BitVec.ofInt 64 (([bM,bO].length:Nat):Int):BitVec 64)) rfl (by kernel_rfl) (by kernel_rfl)).2.1]; decide) (by show (List.getD (cB (bT 0 [bM,bO]) 2) (cU (cB (bT 0 [bM,bO]) 2) 0 0) Nd.z).1=_; rw [(aCp (l:=[bM,bO]) (us:=aG [97]) (q:=(0#64+BitVec.ofInt 64 (([bM,bO].length:Nat):Int):BitVec 64)) rfl (by kernel_rfl) (by kernel_rfl)).2.1]; exact (aCp (l:=[bM,bO]) (us:=aG [97]) (q:=(0#64+BitVec.ofInt 64 (([bM,bO].length:Nat):Int):BitVec 64)) rfl (by kernel_rfl) (by kernel_rfl)).2.2) rfl rfl (by show (0#64+BitVec.ofInt 64 (([bM,bO].length:Nat):Int):BitVec 64).toNat≤(18446744073709551615#64:BitVec 64).toNat; decide)) ?_
  rintro _ G32 μ32 hG32 ⟨ν3,rfl,rfl,rfl⟩
  refine .nil (Wp.one 9 (by kernel_rfl) ?_)
  refine mV rfl rfl (.nil (Wp.one 10 (by kernel_rfl) ?_))
  refine eX rfl rfl rfl (.nil (Wp.one 11 (by kernel_rfl) ?_))
  refine eX rfl rfl rfl (.nil (Wp.one 12 (by kernel_rfl) ?_))
  refine eX rfl rfl rfl (.nil (Wp.one 13 (by kernel_rfl) ?_))
  refine fZ rfl aMJ rfl (.nil (Wp.b1 14 (by kernel_rfl) ?_))
  refine s1 rfl (.u rfl) (.u rfl) rfl rR bG ((by show 2<6; decide)) (rfl) ?_
  refine .nil (Wp.one 15 (by kernel_rfl) ?_)
  refine fZ rfl aGL rfl (.nil (Wp.b1 16 (by kernel_rfl) ?_))
  refine s1 rfl (.u rfl) (.u rfl) rfl wQ .here ((by show 3<6; decide)) (rfl) ?_
  refine .nil (Wp.one 17 (by kernel_rfl) ?_)
  refine fZ rfl aA7 rfl (.nil (Wp.b1 18 (by kernel_rfl) ?_))
  refine s1 rfl (.u rfl) (.u rfl) rfl oC .here ((by show 0<6; decide)) (rfl) ?_
  refine .nil (Wp.last (by kernel_rfl) ?_)
  refine .g (lA rfl .no oV (.u rfl) (fun _=>RdN.part (n:=6) (cs':=Rep.cells uS (.slice none 0 0) (.slice none 0 0)) .here (rfl)) (fun _=>rfl) (sw rfl (.u rfl) (.u rfl) rfl wR .here rfl (Rep.one _ rfl rfl) ?_))
  refine .nil (.code (.ret (We.fin Tryz.results34 (.cell rfl (fun w hw=>bE oV (RdN.own .here) (rfl) hw) .nil) (mS aC rfl (mS aC rfl (mS aC rfl mN))) ?_)))
  exact ⟨rfl,rfl⟩
 have c2k:=c2
 exact Bool.noConfusion (id c2:true=false)
theorem aPB (bw bg bq bd bt held bn bb cap sz:Nat) (root:Nat→Y) (o:Opts) (nn:BitVec 64) (G:PM) (hbw:PB G bw (cl (gD bd bt root o 100 (pt bq) (pt bg)) 77)) (vo vk vb:Value) (ho:vo.oneCell'=true) (hk9:vk.oneCell'=true) (hb9:vb.oneCell'=true):Ct Tryz.prog 10 ([.pointer (some ⟨bw,0,none⟩),.agg (EvD.cells fW vo vk vb).toArray]:List Value).toArray G [.blk bq (cl (Db.cells { eH bd bt root o 1#64 held bn with lg:=⟨⟨1#8,0#8,0#64,1#64,1#64⟩,nn,true⟩,seq:=(0#64+BitVec.ofInt 64 (([bM,bO].length:Nat):Int)) }) 165),.blk bn (cl [.slice (some ⟨bb,0,none⟩) (cB (bT 0 [bM,bO]) [bM,bO].length).length cap,.int .i64 ((sz:Nat):Int)] 225),rS 16 Nd.cells (.slice (some ⟨bb,0,none⟩) (cB (bT 0 [bM,bO]) [bM,bO].length).length cap) 249 (cB (bT 0 [bM,bO]) [bM,bO].length)] (fun _ μ' u=>μ'=[.blk bq (cl (Db.cells { eH bd bt root o 1#64 held bn with lg:=⟨⟨1#8,0#8,0#64,1#64,1#64⟩,nn,true⟩,seq:=(0#64+BitVec.ofInt 64 (([bM,bO].length:Nat):Int)) }) 165),.blk bn (cl [.slice (some ⟨bb,0,none⟩) (cB (bT 0 [bM,bO]) [bM,bO].length).length cap,.int .i64 ((sz:Nat):Int)] 225),rS 16 Nd.cells (.slice (some ⟨bb,0,none⟩) (cB (bT 0 [bM,bO]) [bM,bO].length).length cap) 249 (cB (bT 0 [bM,bO]) [bM,bO].length)]∧u=.agg (Rep.cells (uS) (.slice none 0 0) (.slice none 0 0)).toArray):=by
 refine Ct.of Tryz.func10 rfl Tryz.ntmps10 rfl fun w0 hs0=>?_
 refine .seq (bF rfl rfl ?_)
 refine bX rfl rfl rfl ?_; intro b3
 refine al rfl wT ?_; intro b4
 refine .g (pe rfl .no aGn (.u rfl) (.u rfl) ?_)
 refine .g (jE rfl rfl ?_)
 refine .g (fZ rfl eV rfl (lO rfl cZ rfl aC rfl ?_))
 refine .g (cP rfl rfl rfl rfl (.g (cD rfl (fun c1=>?_) (fun c1=>?_))))
 ·have c1k:=c1
  cases c1
 have c1k:=c1
 try simp only [aD,aL,aE] at c1
 refine .g (cP rfl rfl rfl rfl (.g (cD rfl (fun c2=>?_) (fun c2=>?_))))
 ·have c2k:=c2
  exact Bool.noConfusion (id c2:false=true)
 have c2k:=c2
 try simp only [aD,aL,aE] at c2
 refine .g (cP rfl rfl rfl rfl (.g (cD rfl (fun c3=>?_) (fun c3=>?_))))
 ·have c3k:=c3
  exact Bool.noConfusion (id c3:false=true)
 have c3k:=c3
 try simp only [aD,aL,aE] at c3
 refine .g (cP rfl rfl rfl rfl (.g (cD rfl (fun c4=>?_) (fun c4=>?_))))
 ·have c4k:=c4
  exact Bool.noConfusion (id c4:false=true)
 have c4k:=c4
 try simp only [aD,aL,aE] at c4
 refine .g (cP rfl rfl rfl rfl (.g (cD rfl (fun c5=>?_) (fun c5=>?_))))
 ·have c5k:=c5
  exact Bool.noConfusion (id c5:false=true)
 have c5k:=c5
 try simp only [aD,aL,aE] at c5
 refine .g (fZ rfl eV rfl (lO rfl cZ rfl aC rfl ?_))
 refine cP rfl rfl rfl rfl (.p (fz rfl (.f rfl rfl) eV (.u rfl) (ld rfl (.f rfl rfl) cZ (.s rfl) (fun hc=>Rd.own aC rfl) ?_)))
 refine cp rfl (.f rfl rfl) (.s rfl) (.u rfl) rfl (cF rfl .no (.u rfl) (.s rfl) (.g (cD rfl (fun c6=>?_) (fun c6=>?_))))
 ·have c6k:=c6
  exact Bool.noConfusion (id c6:false=true)
 have c6k:=c6
 try simp only [aD,aL,aE] at c6
 refine .g (nC rfl rfl (fA rfl aA9 rfl (lN rfl wB rfl ((hbw.rd (aCq)).rd) ?_)))
 refine pe rfl .no aBH (.u rfl) (.u rfl) ?_
 refine .g (cD rfl (fun c7=>?_) (fun c7=>?_))
 ·have c7k:=c7
  exact Bool.noConfusion (id c7:false=true)
 have c7k:=c7
 try simp only [aD,aL,aE] at c7
 refine .g (lA rfl .no bU (.u rfl) (fun _=>RdN.part (n:=11) (cs':=EvD.cells fW vo vk vb) aC (rfl)) (fun _=>rfl) (ka rfl (.inr rfl) aGY (aB rfl (aB rfl aF)) (jI aM aM aM) (aNr bw bg bq bd bt held bn bb cap sz root o nn _ hbw vo vk vb ho hk9 hb9) ?_))
 rintro _ G12 μ12 hG12 ⟨rfl,rfl⟩
 refine sw rfl (.u rfl) (.u rfl) rfl wR bG rfl (Rep.one _ rfl rfl) ?_
 refine .nil (.code (.ret (We.fin Tryz.results10 (.cell rfl (fun w hw=>bE oV (RdN.own .here) (rfl) hw) .nil) (mS aC rfl (mS aC rfl (mS aC rfl mN))) ?_)))
 exact ⟨rfl,rfl⟩
end Go.Proofs.YtoifkgkandfeiaaGreatDoor
namespace Go.Proofs.YtoifkgkandfeiaaGreatDoor
open Go.Tan Go.RowKit Go.Maps Go.Sort Go.Shelf
theorem aBI:nN Tryz.prog 64=true:=by kernel_rfl
theorem wL:aJ Tryz.prog 17=true:=by kernel_rfl
theorem aF3:aQ Tryz.prog 115 0=some 0:=by kernel_rfl
theorem aFz:bY Tryz.prog 29=some none:=by kernel_rfl
theorem aGS:aJ Tryz.prog 10=true:=by kernel_rfl
theorem aGW:aJ Tryz.prog 20=true:=by kernel_rfl
theorem aQx (bk bw bd bt bq bg:Nat) (root:Nat→Y) (o:Opts) (G:PM) (hbk:PB G bk (cl [.pointer (some ⟨bw,0,none⟩)] 115)) (hbw:PB G bw (cl (gD bd bt root o 100 (pt bq) (pt bg)) 77)) (hP:PwG Tryz.prog G):Ct Tryz.prog 25 ([.pointer (some ⟨bk,0,none⟩),.string (aG sW1)]:List Value).toArray G [.blk bg (cl [pt bq,.slice none 0 0] 140)] (fun G' μ' u=>∃ (h2 s:Sh),SlR G' 3 Wtg.cells h2 [⟨2,s,[bM,bO],true⟩]∧SlR G' 3 Opn.cells s [bM,bO]∧μ'=[.blk bg (cl [pt bq,h2.val 1] 140)]∧u=.string (aG [111,107])):=by
 refine Ct.of Tryz.func25 rfl Tryz.ntmps25 rfl fun w0 hs0=>?_
 refine .g (pe rfl .no aBI (.u rfl) (.u rfl) ?_)
 refine .g (jE rfl rfl ?_)
 refine .g (kc rfl wL (aB rfl aF) (yB sW1 _ (by decide) (by decide)) ?_)
 rintro _ G12 μ12 hG12 ⟨e1,hO,hK1,hB,i1,cd1,hp1,rfl,rfl,hsO,hsK,hsB⟩
 obtain ⟨rfl,rfl,rfl⟩:=aCV hp1 aJ7
 have hbk:=hbk.mono hG12
 have hbw:=hbw.mono hG12
 have hP:=hP.mono hG12
 refine .p (eX rfl rfl rfl (eX rfl rfl rfl (eX rfl rfl rfl ?_)))
 refine al rfl iP ?_; intro b5
 refine sw rfl (.u rfl) (.u rfl) rfl cN .here rfl (EvD.one _ rfl rfl rfl) ?_
 refine .g (cP rfl rfl rfl rfl (.g (cD rfl (fun c1=>?_) (fun c1=>?_))))
 ·have c1k:=c1
  try simp only [aD,aL,aE] at c1
  refine .seq ?_
  refine fE .here (cM .here rfl (jH)) ?_; intro Gfb5 hleb5 hbb5
  have hbk:=hbk.mono hleb5
  have hbw:=hbw.mono hleb5
  have hP:=hP.mono hleb5
  have hsO:=hsO.mono hleb5
  refine eT ⟨true,false⟩ aY (by kernel_rfl) ?_
  refine Wp.one 1 (by kernel_rfl) ?_
  refine mV rfl rfl (.nil (Wp.one 2 (by kernel_rfl) ?_))
  refine nC rfl rfl (.nil (Wp.one 3 (by kernel_rfl) ?_))
  refine fA rfl aF3 rfl (.nil (Wp.one 4 (by kernel_rfl) ?_))
  refine lN rfl aFz rfl ((hbk.rd (rfl)).rd) ?_
  refine .nil (Wp.one 5 (by kernel_rfl) ?_)
  refine lA rfl .no bU (.u rfl) (fun _=>(hbb5.rdn (m:=11) (cs':=EvD.cells iI (hO.val iI.ops.length) (hK1.val iI.keep.length) (hB.val iI.bytes.length)) (rfl)).rd) (fun _=>rfl) (.nil (mH 0 (by kernel_rfl) ?_))
  refine lA rfl .no bU (.u rfl) (fun _=>(hbb5.rdn (m:=11) (cs':=EvD.cells iI (hO.val iI.ops.length) (hK1.val iI.keep.length) (hB.val iI.bytes.length)) (rfl)).rd) (fun _=>rfl) (.nil ⟨⟨rfl,rfl⟩,?_⟩)
  refine Wp.b1 6 (by kernel_rfl) ?_
  refine ka rfl (.inl rfl) aGS (aB rfl (aB rfl aF)) (bK .here) (aPD bw bd bt bq bg root o 100 (hK1.val iI.keep.length) (hB.val iI.bytes.length) 2 hO [bM,bO] true _ hbw hsO (.inr rfl) aJj (by decide) rfl rfl) ?_
  rintro _ G25 μ25 hG25 ⟨h2,s2,hsW,hsS,rfl,rfl⟩
  have hP:=hP.mono hG25
  refine .nil (Wp.b1 7 (by kernel_rfl) ?_)
  refine kV rfl aGW (aB rfl (aB rfl aF)) (aFb iI (hO.val iI.ops.length) (hK1.val iI.keep.length) (hB.val iI.bytes.length) Rep.zero ⟨none,0⟩ ⟨none,0⟩ _ rfl rfl rfl SlR.nul SlR.nul aSN hP) ?_
  refine .nil (Wp.one 8 (by kernel_rfl) ?_)
  refine aS rfl rfl (.nil (Wp.last (by kernel_rfl) ?_))
  refine .code (.ret (We.fin Tryz.results25 (.tmp rfl .nil) (mS .here rfl mN) ?_))
  exact ⟨h2,s2,hsW,hsS,rfl,by show Value.string (aG (uZ iI.kind iI.n Rep.zero))=_; rw [txW]⟩
 have c1k:=c1
 exact Bool.noConfusion (id c1:true=false)
set_option maxHeartbeats 1000000 in
theorem aQw (bk bw bg bq bm room bd bt held bn:Nat) (root:Nat→Y) (o:Opts) (v0:Value) (F:List Fi) (h s:Sh) (G:PM) (hbk:PB G bk (cl [.pointer (some ⟨bw,0,none⟩)] 115)) (hbw:PB G bw (cl (gD bd bt root o 100 (pt bq) (pt bg)) 77)) (hP:PwG Tryz.prog G) (hD:DkR F 3) (hnm:F.map Fi.nm=[bP 3 0,bP 4 0]) (hz:cR F≤2000) (hr:5000≤room) (hr9:room≤1000000000) (hmem:0<o.mem) (hs:SlR G 3 Wtg.cells h [(⟨2,s,[bM,bO],true⟩ : Wtg)]) (hwo:SlR G 3 Opn.cells s [bM,bO]) (hK:RdNP G 6 0 (wa 64 kW)):Ct Tryz.prog 25 ([.pointer (some ⟨bk,0,none⟩),.string (aG sPk)]:List Value).toArray G [.blk bg (cl [pt bq,h.val 1] 140),.blk bq (cl (Db.cells (eH bd bt root o 1#64 held bn)) 165),.blk bd (cl (cS bm room 5) 118),.blk bm (mO ((F).map Fi.fe) 3),.blk bn (cl [v0,.int .i64 ((0:Nat):Int)] 225),rS 16 Nd.cells v0 249 [Nd.z],.blk bt (cl [uv .u64 1#64,uv .u64 1#64] 87)] (fun G' μ' u=>∃ (oa:Option Addr) (bb cap sz:Nat) (F4:List Fi) (nn:BitVec 64),μ'=[.blk bg (cl [pt bq,.slice oa 0 0] 140),.blk bq (cl (Db.cells { eH bd bt root o 1#64 held bn with lg:=⟨⟨1#8,0#8,0#64,1#64,1#64⟩,nn,true⟩,seq:=(0#64+BitVec.ofInt 64 (([bM,bO].length:Nat):Int)) }) 165),.blk bd (cl (cS bm room 7) 118),.blk bm (mO ((F4).map Fi.fe) 4),.blk bn (cl [.slice (some ⟨bb,0,none⟩) (cB (bT 0 [bM,bO]) [bM,bO].length).length cap,.int .i64 ((sz:Nat):Int)] 225),rS 16 Nd.cells (.slice (some ⟨bb,0,none⟩) (cB (bT 0 [bM,bO]) [bM,bO].length).length cap) 249 (cB (bT 0 [bM,bO]) [bM,bO].length),.blk bt (cl [uv .u64 2#64,uv .u64 1#64] 87)]∧u=.string (aG [100,111,110,101,32,50,58,48])):=by
 refine Ct.of Tryz.func25 rfl Tryz.ntmps25 rfl fun w0 hs0=>?_
 refine .g (pe rfl .no aBI (.u rfl) (.u rfl) ?_)
 refine .g (jE rfl rfl ?_)
 refine .g (kc rfl wL (aB rfl aF) (yB sPk _ (by decide) (by decide)) ?_)
 rintro _ G12 μ12 hG12 ⟨e1,hO,hK1,hB,i1,cd1,hp1,rfl,rfl,hsO,hsK,hsB⟩
 obtain ⟨rfl,rfl,rfl⟩:=aCV hp1 aTH
 have hbk:=hbk.mono hG12
 have hbw:=hbw.mono hG12
 have hP:=hP.mono hG12
 have hs:=hs.mono hG12
 have hwo:=hwo.mono hG12
 have hK:=hK.mono hG12
 refine .p (eX rfl rfl rfl (eX rfl rfl rfl (eX rfl rfl rfl ?_)))
 refine al rfl iP ?_; intro b5
 refine sw rfl (.u rfl) (.u rfl) rfl cN .here rfl (EvD.one _ rfl rfl rfl) ?_
 refine .g (cP rfl rfl rfl rfl (.g (cD rfl (fun c1=>?_) (fun c1=>?_))))
 ·have c1k:=c1
  try simp only [aD,aL,aE] at c1
  refine .seq ?_
  refine fE .here (cM .here rfl (cM .here rfl (cM .here rfl (cM .here rfl (cM .here rfl (cM .here rfl (cM .here rfl (jH)))))))) ?_; intro Gfb5 hleb5 hbb5
  have hbk:=hbk.mono hleb5
  have hbw:=hbw.mono hleb5
  have hP:=hP.mono hleb5
  have hs:=hs.mono hleb5
  have hwo:=hwo.mono hleb5
  have hK:=hK.mono hleb5
  refine eT ⟨true,false⟩ aY (by kernel_rfl) ?_
  refine Wp.one 1 (by kernel_rfl) ?_
  refine mV rfl rfl (.nil (Wp.one 2 (by kernel_rfl) ?_))
  refine nC rfl rfl (.nil (Wp.one 3 (by kernel_rfl) ?_))
  refine fA rfl aF3 rfl (.nil (Wp.one 4 (by kernel_rfl) ?_))
  refine lN rfl aFz rfl ((hbk.rd (rfl)).rd) ?_
  refine .nil (Wp.one 5 (by kernel_rfl) ?_)
  refine lA rfl .no bU (.u rfl) (fun _=>(hbb5.rdn (m:=11) (cs':=EvD.cells gH (hO.val gH.ops.length) (hK1.val gH.keep.length) (hB.val gH.bytes.length)) (rfl)).rd) (fun _=>rfl) (.nil (mH 0 (by kernel_rfl) ?_))
  refine lA rfl .no bU (.u rfl) (fun _=>(hbb5.rdn (m:=11) (cs':=EvD.cells gH (hO.val gH.ops.length) (hK1.val gH.keep.length) (hB.val gH.bytes.length)) (rfl)).rd) (fun _=>rfl) (.nil ⟨⟨rfl,rfl⟩,?_⟩)
  refine Wp.b1 6 (by kernel_rfl) ?_
  refine ka rfl (.inl rfl) aGS (aB rfl (aB rfl aF)) (aAW .here .here .here .here .here .here .here) (aPC bw bg bq bm room bd bt held bn root o v0 F h (⟨2,s,[bM,bO],true⟩ : Wtg) 1#64 _ hbw hD hnm hz hr hr9 hmem hs hwo (.inr rfl) rfl aJj (fun _=>aQ3) hK (hO.val gH.ops.length) (hK1.val gH.keep.length) (hB.val gH.bytes.length) rfl rfl rfl) ?_
  rintro _ G25 μ25 hG25 ⟨oa,hd,bb,m,cap,sz,F4,nn,hm4,hsd,rfl,rfl⟩
  have hP:=hP.mono hG25
  refine .nil (Wp.b1 7 (by kernel_rfl) ?_)
  refine kV rfl aGW (aB rfl (aB rfl aF)) (aFb gH (hO.val gH.ops.length) (hK1.val gH.keep.length) (hB.val gH.bytes.length) rPk ⟨none,0⟩ hd _ rfl rfl rfl SlR.nul hsd aSP hP) ?_
  refine .nil (Wp.one 8 (by kernel_rfl) ?_)
  refine aS rfl rfl (.nil (Wp.last (by kernel_rfl) ?_))
  refine .code (.ret (We.fin Tryz.results25 (.tmp rfl .nil) (mS .here rfl (mS .here rfl (mS .here rfl (mS .here rfl (mS .here rfl (mS .here rfl (mS .here rfl mN))))))) ?_))
  obtain rfl:m=(cB (bT 0 [bM,bO]) [bM,bO].length).length:=hm4
  exact ⟨oa,bb,cap,sz,F4,nn,rfl,by show Value.string (aG (uZ gH.kind gH.n rPk))=_; rw [txP]⟩
 have c1k:=c1
 exact Bool.noConfusion (id c1:true=false)
theorem aQv (bk bw bg bq bd bt held bn bb cap sz:Nat) (root:Nat→Y) (o:Opts) (nn:BitVec 64) (G:PM) (hbk:PB G bk (cl [.pointer (some ⟨bw,0,none⟩)] 115)) (hbw:PB G bw (cl (gD bd bt root o 100 (pt bq) (pt bg)) 77)) (hP:PwG Tryz.prog G):Ct Tryz.prog 25 ([.pointer (some ⟨bk,0,none⟩),.string (aG sGt)]:List Value).toArray G [.blk bq (cl (Db.cells { eH bd bt root o 1#64 held bn with lg:=⟨⟨1#8,0#8,0#64,1#64,1#64⟩,nn,true⟩,seq:=(0#64+BitVec.ofInt 64 (([bM,bO].length:Nat):Int)) }) 165),.blk bn (cl [.slice (some ⟨bb,0,none⟩) (cB (bT 0 [bM,bO]) [bM,bO].length).length cap,.int .i64 ((sz:Nat):Int)] 225),rS 16 Nd.cells (.slice (some ⟨bb,0,none⟩) (cB (bT 0 [bM,bO]) [bM,bO].length).length cap) 249 (cB (bT 0 [bM,bO]) [bM,bO].length)] (fun _ μ' u=>μ'=[.blk bq (cl (Db.cells { eH bd bt root o 1#64 held bn with lg:=⟨⟨1#8,0#8,0#64,1#64,1#64⟩,nn,true⟩,seq:=(0#64+BitVec.ofInt 64 (([bM,bO].length:Nat):Int)) }) 165),.blk bn (cl [.slice (some ⟨bb,0,none⟩) (cB (bT 0 [bM,bO]) [bM,bO].length).length cap,.int .i64 ((sz:Nat):Int)] 225),rS 16 Nd.cells (.slice (some ⟨bb,0,none⟩) (cB (bT 0 [bM,bO]) [bM,bO].length).length cap) 249 (cB (bT 0 [bM,bO]) [bM,bO].length)]∧u=.string (aG [61,120])):=by
 refine Ct.of Tryz.func25 rfl Tryz.ntmps25 rfl fun w0 hs0=>?_
 refine .g (pe rfl .no aBI (.u rfl) (.u rfl) ?_)
 refine .g (jE rfl rfl ?_)
 refine .g (kc rfl wL (aB rfl aF) (yB sGt _ (by decide) (by decide)) ?_)
 rintro _ G12 μ12 hG12 ⟨e1,hO,hK1,hB,i1,cd1,hp1,rfl,rfl,hsO,hsK,hsB⟩
 obtain ⟨rfl,rfl,rfl⟩:=aCV hp1 aTG
 have hbk:=hbk.mono hG12
 have hbw:=hbw.mono hG12
 have hP:=hP.mono hG12
 refine .p (eX rfl rfl rfl (eX rfl rfl rfl (eX rfl rfl rfl ?_)))
 refine al rfl iP ?_; intro b5
 refine sw rfl (.u rfl) (.u rfl) rfl cN .here rfl (EvD.one _ rfl rfl rfl) ?_
 refine .g (cP rfl rfl rfl rfl (.g (cD rfl (fun c1=>?_) (fun c1=>?_))))
 ·have c1k:=c1
  try simp only [aD,aL,aE] at c1
  refine .seq ?_
  refine fE .here (cM .here rfl (cM .here rfl (cM .here rfl (jH)))) ?_; intro Gfb5 hleb5 hbb5
  have hbk:=hbk.mono hleb5
  have hbw:=hbw.mono hleb5
  have hP:=hP.mono hleb5
  refine eT ⟨true,false⟩ aY (by kernel_rfl) ?_
  refine Wp.one 1 (by kernel_rfl) ?_
  refine mV rfl rfl (.nil (Wp.one 2 (by kernel_rfl) ?_))
  refine nC rfl rfl (.nil (Wp.one 3 (by kernel_rfl) ?_))
  refine fA rfl aF3 rfl (.nil (Wp.one 4 (by kernel_rfl) ?_))
  refine lN rfl aFz rfl ((hbk.rd (rfl)).rd) ?_
  refine .nil (Wp.one 5 (by kernel_rfl) ?_)
  refine lA rfl .no bU (.u rfl) (fun _=>(hbb5.rdn (m:=11) (cs':=EvD.cells fW (hO.val fW.ops.length) (hK1.val fW.keep.length) (hB.val fW.bytes.length)) (rfl)).rd) (fun _=>rfl) (.nil (mH 0 (by kernel_rfl) ?_))
  refine lA rfl .no bU (.u rfl) (fun _=>(hbb5.rdn (m:=11) (cs':=EvD.cells fW (hO.val fW.ops.length) (hK1.val fW.keep.length) (hB.val fW.bytes.length)) (rfl)).rd) (fun _=>rfl) (.nil ⟨⟨rfl,rfl⟩,?_⟩)
  refine Wp.b1 6 (by kernel_rfl) ?_
  refine ka rfl (.inl rfl) aGS (aB rfl (aB rfl aF)) (jI .here .here .here) (aPB bw bg bq bd bt held bn bb cap sz root o nn _ hbw (hO.val fW.ops.length) (hK1.val fW.keep.length) (hB.val fW.bytes.length) rfl rfl rfl) ?_
  rintro _ G25 μ25 hG25 ⟨rfl,rfl⟩
  have hP:=hP.mono hG25
  refine .nil (Wp.b1 7 (by kernel_rfl) ?_)
  refine kV rfl aGW (aB rfl (aB rfl aF)) (aFb fW (hO.val fW.ops.length) (hK1.val fW.keep.length) (hB.val fW.bytes.length) uS ⟨none,0⟩ ⟨none,0⟩ _ rfl rfl rfl SlR.nul SlR.nul aSO hP) ?_
  refine .nil (Wp.one 8 (by kernel_rfl) ?_)
  refine aS rfl rfl (.nil (Wp.last (by kernel_rfl) ?_))
  refine .code (.ret (We.fin Tryz.results25 (.tmp rfl .nil) (mS .here rfl (mS .here rfl (mS .here rfl mN))) ?_))
  exact ⟨rfl,by show Value.string (aG (uZ fW.kind fW.n uS))=_; rw [txG]⟩
 have c1k:=c1
 exact Bool.noConfusion (id c1:true=false)
theorem aQu (bk:Nat) (v:Value) (G:PM) (hbk:PB G bk (cl [v] 115)) (hP:PwG Tryz.prog G):Ct Tryz.prog 25 ([.pointer (some ⟨bk,0,none⟩),.string (aG sFo)]:List Value).toArray G [] (fun _ μ' u=>μ'=[]∧u=.string (aG [101,114,114,111,114,32,50,54,48,32,97,116,32,48])):=by
 refine Ct.of Tryz.func25 rfl Tryz.ntmps25 rfl fun w0 hs0=>?_
 refine .g (pe rfl .no aBI (.u rfl) (.u rfl) ?_)
 refine .g (jE rfl rfl ?_)
 refine .g (kc rfl wL (aB rfl aF) (yB sFo _ (by decide) (by decide)) ?_)
 rintro _ G12 μ12 hG12 ⟨e1,hO,hK1,hB,i1,cd1,hp1,rfl,rfl,hsO,hsK,hsB⟩
 obtain ⟨rfl,rfl,rfl⟩:=aJ6 hp1 aTE
 have hP:=hP.mono hG12
 refine .p (eX rfl rfl rfl (eX rfl rfl rfl (eX rfl rfl rfl ?_)))
 refine al rfl iP ?_; intro b5
 refine sw rfl (.u rfl) (.u rfl) rfl cN .here rfl (EvD.one _ rfl rfl rfl) ?_
 refine .g (cP rfl rfl rfl rfl (.g (cD rfl (fun c1=>?_) (fun c1=>?_))))
 ·have c1k:=c1
  exact Bool.noConfusion (id c1:false=true)
 have c1k:=c1
 try simp only [aD,aL,aE] at c1
 refine .g (cP rfl rfl rfl rfl (.g (cD rfl (fun c2=>?_) (fun c2=>?_))))
 ·have c2k:=c2
  try simp only [aD,aL,aE] at c2
  refine .g (kV rfl wN (aB rfl aF) (uJ 260 _ (by decide) (by decide) hP) ?_)
  refine lW (yH++Lib.itoa 260) rfl .no (.u rfl) (.u rfl) (rfl) (fun _=>by rw [dJ,aB7]; decide) ?_
  refine lW (yH++Lib.itoa 260++[32,97,116,32]) rfl .no (.u rfl) (.u rfl) (rfl) (fun _=>by rw [dJ,aB7]; decide) ?_
  refine .p (kV rfl wN (aB rfl aF) (uJ 0 _ (by decide) (by decide) hP) ?_)
  refine lW (yH++Lib.itoa 260++[32,97,116,32]++Lib.itoa 0) rfl .no (.u rfl) (.u rfl) (rfl) (fun _=>by rw [dJ,dJ,aB7,aEg]; decide) ?_
  refine aS rfl rfl (.nc (.ret (aN Tryz.results25 (.tmp rfl .nil) ?_)))
  exact ⟨rfl,by rw [aB7,aEg]; rfl⟩
 have c2k:=c2
 exact Bool.noConfusion (id c2:true=false)
end Go.Proofs.YtoifkgkandfeiaaGreatDoor
namespace Go.Proofs.YtoifkgkandfeiaaGreatDoor
open Go.Tan Go.RowKit Go.Maps Go.Sort Go.Shelf
theorem aZJ:dV Tryz.prog 38=some ([.int .i64 0,.int .i64 0,.int .i64 0,.int .i64 0,.int .i64 0,.int .i64 0,.int .i64 0]):=by kernel_rfl
theorem aWe:cX Tryz.prog 36 [0,1,2]=some ([.int .i64 0,.int .i64 0,.int .i64 0],[(0,1),(1,1),(2,1)]):=by kernel_rfl
theorem aWf:cX Tryz.prog 38 [0,1,2,3,4]=some ([.int .i64 0,.int .i64 0,.int .i64 0,.int .i64 0,.int .i64 0,.int .i64 0,.int .i64 0],[(0,1),(1,1),(2,1),(3,1),(4,3)]):=by kernel_rfl
theorem aY8:cI Tryz.prog 38=some 7:=by kernel_rfl
theorem aWd:cX Tryz.prog 34 []=some (ba 32 (fun _=>0#8),[]):=by kernel_rfl
theorem aX5:aJ Tryz.prog 24=true:=by kernel_rfl
theorem aXz:aJ Tryz.prog 23=true:=by kernel_rfl
theorem aDL:aJ Tryz.prog 25=true:=by kernel_rfl
theorem aL4:xJ Tryz.prog 4 71 ([.int .u8,.str,.str])=true:=by kernel_rfl
theorem aSk (G:PM):Ct Tryz.prog 24 ([V 100#8]:List Value).toArray G [] (fun _ μ' u=>μ'=[]∧u=(⟨101,150,2,1500,40,4,10⟩ : Opts).val):=by
 refine Ct.of Tryz.func24 rfl Tryz.ntmps24 rfl fun w0 hs0=>?_
 refine .seq (aP rfl rfl ?_)
 refine al rfl aZJ ?_; intro b2
 refine .nil (.code (.seq (gM rfl rfl (mV rfl rfl ?_))))
 refine cn (k:=.u8) rfl .no aDb (by decide) (.u rfl) ?_; intro m4 em4 lm4
 refine hJ ((101:Nat):Int) rfl .no (.u rfl) (.u rfl) rfl (fun _=>by rw [em4]; rfl) (fun _=>eJ (by omega) (by omega)) ?_
 refine dK ([.int .i64 40,.int .i64 4,.int .i64 10]) rfl .no aWe (.cons (.u rfl) rfl (.cons (.u rfl) rfl (.cons (.u rfl) rfl .nil))) rfl (rfl) (dK (Opts.cells (⟨101,150,2,1500,40,4,10⟩ : Opts)) rfl .no aWf (.cons (.u rfl) rfl (.cons (.u rfl) rfl (.cons (.u rfl) rfl (.cons (.u rfl) rfl (.cons (.u rfl) rfl .nil))))) rfl (rfl) (sW rfl rfl rfl rfl aY8 .here ?_))
 refine .nil (.code (.ret (aN Tryz.results24 (.cell rfl (fun w hw=>bE yV (RdN.own .here) ((by first|exact qE|exact qL|rfl)) hw) .nil) ?_)))
 exact ⟨rfl,rfl⟩
set_option maxHeartbeats 1000000 in
theorem aUC (G:PM) (hP:PwG Tryz.prog G) (hK:RdNP G 6 0 (wa 64 kW)):Ct Tryz.prog 16 ([]:List Value).toArray G [] (fun _ μ' u=>μ'=[]∧u=.bool true):=by
 refine Ct.of Tryz.func16 rfl Tryz.ntmps16 rfl fun w0 hs0=>?_
 refine .g (kc rfl wL (aB rfl aF) (yB sW1 _ (by decide) (by decide)) ?_)
 rintro _ G14 μ14 hG14 ⟨e1,hO,hK1,hB,i1,cd1,hp1,rfl,rfl,hsO,hsK,hsB⟩
 obtain ⟨rfl,rfl,rfl⟩:=aCV hp1 aJ7
 have hK:=hK.mono hG14
 have hP:=hP.mono hG14
 refine .p (eX rfl rfl rfl (eX rfl rfl rfl (eX rfl rfl rfl ?_)))
 refine al rfl iP ?_; intro b1
 refine sw rfl (.u rfl) (.u rfl) rfl cN .here rfl (EvD.one _ rfl rfl rfl) ?_
 refine .g (kc rfl wL (aB rfl aF) (yB sG0 _ (by decide) (by decide)) ?_)
 rintro _ G19 μ19 hG19 ⟨e2,hO2,hK2,hB2,i2,cd2,hp2,rfl,rfl,hsO2,hsK2,hsB2⟩
 obtain ⟨rfl,rfl,rfl⟩:=aJ6 hp2 aTF
 have hK:=hK.mono hG19
 have hP:=hP.mono hG19
 have hsO:=hsO.mono hG19
 refine .p (eX rfl rfl rfl (eX rfl rfl rfl (eX rfl rfl rfl ?_)))
 refine al rfl iP ?_; intro b4
 refine sw rfl (.u rfl) (.u rfl) rfl cN .here rfl (EvD.one _ rfl rfl rfl) ?_
 refine .g (dK (ba 32 (fun _=>0#8)) rfl .no aWd .nil rfl (rfl) ?_)
 refine kV rfl aX5 (aB rfl aF) (aSk _) ?_
 refine kc rfl aXz (aB rfl (aB rfl (aB rfl (aB rfl aF)))) (aO8 1048576 (fun _=>0#8) (⟨101,150,2,1500,40,4,10⟩ : Opts) 100 _ rfl (by decide) (by decide) hK) ?_
 rintro _ G26 μ26 hG26 ⟨bk,bd,bm,bt,bw,bq,held,now,bg,v,F,ov,hD,hn,hz,hbw,hbk,rfl,rfl⟩
 have hK:=hK.mono hG26
 have hP:=hP.mono hG26
 have hsO:=hsO.mono hG26
 refine .p (eX rfl rfl rfl (eX rfl rfl rfl (.g (cP rfl rfl rfl rfl (mV rfl rfl (mv rfl (.f rfl rfl) (.u rfl) (pe rfl (.f rfl rfl) aBI (.s rfl) (.u rfl) ?_)))))))
 refine cF rfl .no (.u rfl) (.s rfl) (.p (fz rfl (.f rfl rfl) mD (.u rfl) (ld rfl (.f rfl rfl) lF (.s rfl) (fun hc=>Rd.own (.there rG) rfl) ?_)))
 refine ln rfl (.f rfl rfl) lD (.s rfl) (cp rfl (.f rfl rfl) (.s rfl) (.u rfl) rfl (cF rfl .no (.u rfl) (.s rfl) (.g (cD rfl (fun c1=>?_) (fun c1=>?_)))))
 ·have c1k:=c1
  exact Bool.noConfusion (id c1:false=true)
 have c1k:=c1
 try simp only [aD,aL,aE] at c1
 refine .g (ka rfl (.inr rfl) aDL (aB rfl (aB rfl aF)) (bK .here) (aQx bk bw bd bt bq bg (fun _=>0#8) (⟨101,150,2,1500,40,4,10⟩ : Opts) _ hbk hbw hP) ?_)
 rintro _ G42 μ42 hG42 ⟨h2,s2,hsW,hsS,rfl,rfl⟩
 have hK:=hK.mono hG42
 have hP:=hP.mono hG42
 have hsO:=hsO.mono hG42
 have hbw:=hbw.mono hG42
 have hbk:=hbk.mono hG42
 refine .p (ka rfl (.inr rfl) aDL (aB rfl (aB rfl aF)) (aAW .here .here .here .here aC aC .here) (aQw bk bw bg bq bm 1048576 bd bt held now (fun _=>0#8) (⟨101,150,2,1500,40,4,10⟩ : Opts) v F h2 s2 _ hbk hbw hP hD hn hz (by decide) (by decide) (by decide) hsW hsS hK) ?_)
 rintro _ G44 μ44 hG44 ⟨oa,bb,cap,sz,F4,nn,rfl,rfl⟩
 have hP:=hP.mono hG44
 have hsO:=hsO.mono hG44
 have hbw:=hbw.mono hG44
 have hbk:=hbk.mono hG44
 refine .p (ka rfl (.inr rfl) aDL (aB rfl (aB rfl aF)) (jI aC bG bG) (aQv bk bw bg bq bd bt held now bb cap sz (fun _=>0#8) (⟨101,150,2,1500,40,4,10⟩ : Opts) nn _ hbk hbw hP) ?_)
 rintro _ G46 μ46 hG46 ⟨rfl,rfl⟩
 have hP:=hP.mono hG46
 have hsO:=hsO.mono hG46
 have hbk:=hbk.mono hG46
 refine .p (kV rfl aDL (aB rfl (aB rfl aF)) (aQu bk _ _ hbk hP) ?_)
 refine .g (cP rfl rfl rfl rfl (.p (fz rfl (.t rfl rfl) aA5 (.u rfl) (ld rfl (.t rfl rfl) bA (.s rfl) (fun hc=>Rd.own (.there rG) rfl) ?_))))
 refine cp rfl (.t rfl rfl) (.s rfl) (.u rfl) rfl (cW rfl .no (.u rfl) (.s rfl) (.p (fz rfl (.t rfl rfl) zF (.u rfl) (ld rfl (.t rfl rfl) fG (.s rfl) (fun hc=>Rd.own (.there rG) rfl) ?_))))
 refine cW rfl .no (.u rfl) (.s rfl) (.p (fz rfl (.t rfl rfl) mD (.u rfl) (ld rfl (.t rfl rfl) lF (.s rfl) (fun hc=>Rd.own (.there rG) rfl) ?_)))
 refine ih rfl (.t rfl rfl) gW (.s rfl) (.u rfl) (fun hc=>by omega) (fun hc=>by omega) (fun hc=>hsO.nn (k:=0) (by first|omega|(simp only [Bool.and_eq_true,decide_eq_true_eq] at hc; omega)|(simp only [List.length_cons,List.length_nil]; omega))) ?_
 refine lA rfl (.t rfl rfl) jX (.s rfl) (fun hc=>(hsO.at (k:=0) rfl rfl).rd) (fun _=>Opn.len _) ?_
 refine dK (Opn.cells bM) rfl (.t rfl rfl) aG3 (.cons (.u rfl) rfl (.cons (.u rfl) rfl (.cons (.u rfl) rfl .nil))) rfl (rfl) (eqC (true) rfl (.t rfl rfl) aL4 (.s rfl) (.s rfl) (fun hc=>.cons (.int (by decide) (by decide)) (.cons (.str (by decide)) (.cons (.str (by decide)) .nil))) (fun hc=>.cons (.int (by decide) (by decide)) (.cons (.str (by decide)) (.cons (.str (by decide)) .nil))) (fun hc=>⟨fun _=>rfl,fun _=>rfl⟩) ?_)
 refine cW rfl .no (.u rfl) (.s rfl) (mV rfl rfl (mv rfl (.t rfl rfl) (.u rfl) (cp rfl (.t rfl rfl) (.s rfl) (.u rfl) rfl (cW rfl .no (.u rfl) (.s rfl) (mV rfl rfl (mv rfl (.t rfl rfl) (.u rfl) (cp rfl (.t rfl rfl) (.s rfl) (.u rfl) rfl (cW rfl .no (.u rfl) (.s rfl) (mV rfl rfl (mv rfl (.t rfl rfl) (.u rfl) (cs rfl (.t rfl rfl) (.s rfl) (.u rfl) rfl (cW rfl .no (.u rfl) (.s rfl) (mV rfl rfl (mv rfl (.t rfl rfl) (.u rfl) (cs rfl (.t rfl rfl) (.s rfl) (.u rfl) rfl (cW rfl .no (.u rfl) (.s rfl) (mV rfl rfl (mv rfl (.t rfl rfl) (.u rfl) (cs rfl (.t rfl rfl) (.s rfl) (.u rfl) rfl (cW rfl .no (.u rfl) (.s rfl) (mV rfl rfl (mv rfl (.t rfl rfl) (.u rfl) (cs rfl (.t rfl rfl) (.s rfl) (.u rfl) rfl (cW rfl .no (.u rfl) (.s rfl) (aS rfl rfl (.nc (.ret (aN Tryz.results16 (.tmp rfl .nil) ?_))))))))))))))))))))))))))))
 exact ⟨rfl,by kernel_rfl⟩
end Go.Proofs.YtoifkgkandfeiaaGreatDoor
namespace Go.Proofs.YtoifkgkandfeiaaGreatDoor
open Go.Tan Go.RowKit Go.Maps Go.Sort Go.Shelf
theorem aWp:aDp Tryz.prog 4=true:=by kernel_rfl
theorem aGp:(bL Tryz.prog 24).isSome=true:=by kernel_rfl
theorem aYh:aJ Tryz.prog 42=true:=by kernel_rfl
theorem aTQ (l:List Opn) (h h2:Sh) (G:PM) (hs:SlR G 3 Opn.cells h l) (hs2:SlR G 3 Opn.cells h2 l) (hz:∀ o∈l,zS o) (hl:l.length≤1000001):Ct Tryz.prog 42 ([h.val l.length,h2.val l.length]:List Value).toArray G [] (fun _ μ' u=>μ'=[]∧u=.bool true):=by
 refine Ct.of Tryz.func42 rfl Tryz.ntmps42 rfl fun w0 hs0=>?_
 refine .g (lE rfl lD rfl (.p (lE rfl lD rfl (cP rfl rfl rfl rfl (.g (cD rfl (fun c1=>?_) (fun c1=>?_)))))))
 ·have c1k:=c1
  simp at c1
 have c1k:=c1
 try simp only [aD,aE] at c1
 refine .skip (.code (.seq (.seq (aP rfl rfl (aS rfl rfl (.nc (.block ?_)))))))
 refine aV (α:=Nat) (fun k=>[(5,true,.int .i64 ((k:Nat):Int))]) (fun _=>[])
  (fun k Gl=>(k≤l.length)) (fun k=>l.length-k) 0 [(0,true,_),(1,true,_)] []
  (aO rfl (aA rfl (aA rfl eZ)))
  mN ?_ ?_
 ·(try dsimp only)<;>(first|omega|rfl|assumption|(simp; done))
 intro k N0 Gl0 hN0 hGl0 hF0
 try dsimp only at hF0 hN0 ⊢
 have hk:=hF0
 have hs:=hs.mono hGl0
 have hs2:=hs2.mono hGl0
 refine .g (lE rfl lD rfl (cP rfl rfl rfl rfl (.g (cD rfl (fun c2=>?_) (fun c2=>?_)))))
 ·have c2k:=c2
  have c2:k<l.length:=Int.ofNat_lt.1 (of_decide_eq_true c2)
  obtain ⟨o,eo⟩:=dT (k:=k) (xs:=l) c2
  have hcf:=aSf (hz o (List.mem_of_getElem? eo))
  refine .g (bZ (mc:=⟨false,false⟩) [0,1,2,3,4,5,6,7,8] aY (by kernel_rfl) ?_)
  refine mV rfl rfl (mV rfl rfl (ih rfl .no gW (.u rfl) (.u rfl) (by omega) (by omega) (fun _=>hs.nn (k:=k) (by first|omega|(simp only [Bool.and_eq_true,decide_eq_true_eq] at hc; omega)|(simp only [List.length_cons,List.length_nil]; omega))) ?_))
  refine lA rfl .no jX (.u rfl) (fun _=>(hs.at (by omega) eo).rd) (fun _=>rfl) ?_
  refine mV rfl rfl (mV rfl rfl (ih rfl .no gW (.u rfl) (.u rfl) (by omega) (by omega) (fun _=>hs2.nn (k:=k) (by first|omega|(simp only [Bool.and_eq_true,decide_eq_true_eq] at hc; omega)|(simp only [List.length_cons,List.length_nil]; omega))) ?_))
  refine lA rfl .no jX (.u rfl) (fun _=>(hs2.at (by omega) eo).rd) (fun _=>rfl) ?_
  refine nqC (true) rfl .no aL4 (.u rfl) (.u rfl) (fun _=>hcf) (fun _=>hcf) (fun _=>⟨fun _=>rfl,fun _=>rfl⟩) ?_
  refine .g (cD rfl (fun c3=>?_) (fun c3=>?_))
  ·have c3k:=c3
   cases c3
  have c3k:=c3
  try simp only [aD,aE] at c3
  refine .g (aW (((k+1):Nat):Int) rfl rfl rfl rfl ?_)
  refine .g (aT (k+1) ?_ ?_ ?_ ?_ ?_)
  ·exact (aO rfl (aA rfl (aA rfl eZ)))
  ·exact mN
  ·first|omega|(dsimp only; omega)
  ·exact hGl0
  (try dsimp only)<;>(first|omega|rfl|assumption|(simp; done))
 have c2k:=c2
 have c2:=of_decide_eq_false c2
 refine .exit (.xcode (.xlp (.xblk (.code (.seq (aP rfl rfl (aS rfl rfl (.nc (.ret (aN Tryz.results42 (.tmp rfl .nil) ?_))))))))))
 exact ⟨rfl,rfl⟩
theorem aT5 (e:EvD) (hO hK hB hO2 hK2 hB2:Sh) (G:PM) (sO:SlR G 3 Opn.cells hO e.ops) (sK:SlR G 1 fY hK e.keep) (sY:SlR G 1 aU hB (yb (aG e.bytes))) (sO2:SlR G 3 Opn.cells hO2 e.ops) (sK2:SlR G 1 fY hK2 e.keep) (sY2:SlR G 1 aU hB2 (yb (aG e.bytes))) (hz:yT e):Ct Tryz.prog 19 ([.agg (EvD.cells e (hO.val e.ops.length) (hK.val e.keep.length) (hB.val (yb (aG e.bytes)).length)).toArray,.agg (EvD.cells e (hO2.val e.ops.length) (hK2.val e.keep.length) (hB2.val (yb (aG e.bytes)).length)).toArray]:List Value).toArray G [] (fun _ μ' u=>μ'=[]∧u=.bool true):=by
 refine Ct.of Tryz.func19 rfl Tryz.ntmps19 rfl fun w0 hs0=>?_
 have hkl:=hz.2.2
 have hbl:(yb (aG e.bytes)).length=e.bytes.length:=by rw [eQ]; rfl
 refine .seq (dQ rfl rfl ?_)
 refine bX rfl rfl rfl ?_; intro b2
 refine bX rfl rfl rfl ?_; intro b3
 refine .g (fZ rfl eV rfl (lO rfl cZ rfl aC (by first|exact aK rfl|rfl) ?_))
 refine fZ rfl eV rfl (lO rfl cZ rfl .here (by first|exact aK rfl|rfl) ?_)
 refine cP rfl rfl rfl rfl (.p (fz rfl (.f rfl rfl) aA5 (.u rfl) (ld rfl (.f rfl rfl) bA (.s rfl) (fun hc=>Rd.own aC (by first|exact aK rfl|rfl)) ?_)))
 refine fz rfl (.f rfl rfl) aA5 (.u rfl) (ld rfl (.f rfl rfl) bA (.s rfl) (fun hc=>Rd.own .here (by first|exact aK rfl|rfl)) ?_)
 refine cp rfl (.f rfl rfl) (.s rfl) (.s rfl) rfl (cF rfl .no (.u rfl) (.s rfl) (.p (fz rfl (.f rfl rfl) zF (.u rfl) (ld rfl (.f rfl rfl) fG (.s rfl) (fun hc=>Rd.own aC (by first|exact aK rfl|rfl)) ?_))))
 refine fz rfl (.f rfl rfl) zF (.u rfl) (ld rfl (.f rfl rfl) fG (.s rfl) (fun hc=>Rd.own .here (by first|exact aK rfl|rfl)) ?_)
 refine nb rfl (.f rfl rfl) aWp (.s rfl) (.s rfl) (cF rfl .no (.u rfl) (.s rfl) (.p (fz rfl (.f rfl rfl) aA6 (.u rfl) (ld rfl (.f rfl rfl) cQ (.s rfl) (fun hc=>Rd.own aC (by first|exact aK rfl|rfl)) ?_))))
 refine fz rfl (.f rfl rfl) aA6 (.u rfl) (ld rfl (.f rfl rfl) cQ (.s rfl) (fun hc=>Rd.own .here (by first|exact aK rfl|rfl)) ?_)
 refine cs rfl (.f rfl rfl) (.s rfl) (.s rfl) rfl (cF rfl .no (.u rfl) (.s rfl) (.p (fz rfl (.f rfl rfl) aDG (.u rfl) (ld rfl (.f rfl rfl) cQ (.s rfl) (fun hc=>Rd.own aC (by first|exact aK rfl|rfl)) ?_))))
 refine fz rfl (.f rfl rfl) aDG (.u rfl) (ld rfl (.f rfl rfl) cQ (.s rfl) (fun hc=>Rd.own .here (by first|exact aK rfl|rfl)) ?_)
 refine cs rfl (.f rfl rfl) (.s rfl) (.s rfl) rfl (cF rfl .no (.u rfl) (.s rfl) (.p (fz rfl (.f rfl rfl) tQ (.u rfl) (ld rfl (.f rfl rfl) bI (.s rfl) (fun hc=>Rd.own aC (by first|exact aK rfl|rfl)) ?_))))
 refine fz rfl (.f rfl rfl) tQ (.u rfl) (ld rfl (.f rfl rfl) bI (.s rfl) (fun hc=>Rd.own .here (by first|exact aK rfl|rfl)) ?_)
 refine cp rfl (.f rfl rfl) (.s rfl) (.s rfl) rfl (cF rfl .no (.u rfl) (.s rfl) (.p (fz rfl (.f rfl rfl) tR (.u rfl) (ld rfl (.f rfl rfl) bA (.s rfl) (fun hc=>Rd.own aC (by first|exact aK rfl|rfl)) ?_))))
 refine fz rfl (.f rfl rfl) tR (.u rfl) (ld rfl (.f rfl rfl) bA (.s rfl) (fun hc=>Rd.own .here (by first|exact aK rfl|rfl)) ?_)
 refine cp rfl (.f rfl rfl) (.s rfl) (.s rfl) rfl (cF rfl .no (.u rfl) (.s rfl) (.p (fz rfl (.f rfl rfl) aDH (.u rfl) (ld rfl (.f rfl rfl) cQ (.s rfl) (fun hc=>Rd.own aC (by first|exact aK rfl|rfl)) ?_))))
 refine fz rfl (.f rfl rfl) aDH (.u rfl) (ld rfl (.f rfl rfl) cQ (.s rfl) (fun hc=>Rd.own .here (by first|exact aK rfl|rfl)) ?_)
 refine cs rfl (.f rfl rfl) (.s rfl) (.s rfl) rfl (cF rfl .no (.u rfl) (.s rfl) (.p (fz rfl (.f rfl rfl) aDF (.u rfl) (ld rfl (.f rfl rfl) gQ (.s rfl) (fun hc=>Rd.own aC (by first|exact aK rfl|rfl)) ?_))))
 refine sB rfl (.f rfl rfl) aG1 (.s rfl) (fun hc=>sY.sc) ?_
 refine fz rfl (.f rfl rfl) aDF (.u rfl) (ld rfl (.f rfl rfl) gQ (.s rfl) (fun hc=>Rd.own .here (by first|exact aK rfl|rfl)) ?_)
 refine sB rfl (.f rfl rfl) aG1 (.s rfl) (fun hc=>sY2.sc) ?_
 refine cbn rfl (.f rfl rfl) (.s rfl) (.s rfl) ?_
 refine cF rfl .no (.u rfl) (.s rfl) (.p (fz rfl (.f rfl rfl) pY (.u rfl) (ld rfl (.f rfl rfl) qF (.s rfl) (fun hc=>Rd.own aC (by first|exact aK rfl|rfl)) ?_)))
 refine ln rfl (.f rfl rfl) aGp (.s rfl) (fz rfl (.f rfl rfl) pY (.u rfl) (ld rfl (.f rfl rfl) qF (.s rfl) (fun hc=>Rd.own .here (by first|exact aK rfl|rfl)) ?_))
 refine ln rfl (.f rfl rfl) aGp (.s rfl) (cp rfl (.f rfl rfl) (.s rfl) (.s rfl) rfl (cF rfl .no (.u rfl) (.s rfl) (.g (cD rfl (fun c1=>?_) (fun c1=>?_)))))
 ·have c1k:=c1
  simp at c1
 have c1k:=c1
 try simp only [aD,aE] at c1
 refine .g (fZ rfl pY rfl (lO rfl qF rfl aC (by first|exact aK rfl|rfl) ?_))
 refine lE rfl aGp rfl (mV rfl rfl (.nc (.block ?_)))
 refine aV (α:=Nat) (fun k=>[(81,true,.int .i64 ((k:Nat):Int))]) (fun _=>[])
  (fun k Gl=>(k≤e.keep.length)) (fun k=>e.keep.length-k) 0 [(2,true,_),(3,true,_),(80,true,_)] [_,_]
  (aO rfl (aA rfl (aA rfl (aA rfl eZ))))
  (mS .here rfl (mS .here rfl mN)) ?_ ?_
 ·(try dsimp only)<;>(first|omega|rfl|assumption|(simp; done))
 intro k N0 Gl0 hN0 hGl0 hF0
 try dsimp only at hF0 hN0 ⊢
 have hk:=hF0
 have sO:=sO.mono hGl0
 have sK:=sK.mono hGl0
 have sO2:=sO2.mono hGl0
 have sK2:=sK2.mono hGl0
 refine .g (cP rfl rfl rfl rfl (.g (cD rfl (fun c2=>?_) (fun c2=>?_))))
 ·have c2k:=c2
  have c2:k<e.keep.length:=Int.ofNat_lt.1 (of_decide_eq_true c2)
  obtain ⟨z,ek⟩:=dT (k:=k) (xs:=e.keep) c2
  refine .g (bZ (mc:=⟨false,false⟩) [0,1,2,3,4,5,6,7,8,9,10] aY (by kernel_rfl) ?_)
  refine fZ rfl pY rfl (lO rfl qF rfl aC (by first|exact aK rfl|rfl) ?_)
  refine mV rfl rfl (ih rfl .no oF (.u rfl) (.u rfl) (by omega) (by omega) (fun _=>sK.nn (k:=k) (by first|omega|(simp only [Bool.and_eq_true,decide_eq_true_eq] at hc; omega)|(simp only [List.length_cons,List.length_nil]; omega))) ?_)
  refine lN rfl bA rfl ((sK.at (k:=k) (by omega) ek 0 _ rfl).rd) ?_
  refine fZ rfl pY rfl (lO rfl qF rfl .here (by first|exact aK rfl|rfl) ?_)
  refine mV rfl rfl (ih rfl .no oF (.u rfl) (.u rfl) (by omega) (by omega) (fun _=>sK2.nn (k:=k) (by first|omega|(simp only [Bool.and_eq_true,decide_eq_true_eq] at hc; omega)|(simp only [List.length_cons,List.length_nil]; omega))) ?_)
  refine lN rfl bA rfl ((sK2.at (k:=k) (by omega) ek 0 _ rfl).rd) ?_
  refine cP rfl rfl rfl rfl (.g (cD rfl (fun c3=>?_) (fun c3=>?_)))
  ·have c3k:=c3
   simp at c3
  have c3k:=c3
  try simp only [aD,aE] at c3
  refine .g (aW (((k+1):Nat):Int) rfl rfl rfl rfl ?_)
  refine .g (aT (k+1) ?_ ?_ ?_ ?_ ?_)
  ·exact (aO rfl (aA rfl (aA rfl (aA rfl eZ))))
  ·exact (mS .here rfl (mS .here rfl mN))
  ·first|omega|(dsimp only; omega)
  ·exact hGl0
  (try dsimp only)<;>(first|omega|rfl|assumption|(simp; done))
 have c2k:=c2
 have c2:=of_decide_eq_false c2
 refine .g (fZ rfl mD rfl (lO rfl lF rfl aC (by first|exact aK rfl|rfl) ?_))
 refine fZ rfl mD rfl (lO rfl lF rfl .here (by first|exact aK rfl|rfl) ?_)
 refine kV rfl aYh (aB rfl (aB rfl aF)) (aTQ e.ops hO hO2 _ sO sO2 hz.1 hz.2.1) ?_
 refine aS rfl rfl (.nc (.ret (aN Tryz.results19 (.tmp rfl .nil) ?_)))
 exact ⟨rfl,rfl⟩
end Go.Proofs.YtoifkgkandfeiaaGreatDoor
namespace Go.Proofs.YtoifkgkandfeiaaGreatDoor
open Go.Tan Go.RowKit Go.Maps Go.Sort Go.Shelf
theorem aZU:aJ Tryz.prog 16=true:=by kernel_rfl
theorem aXk:aJ Tryz.prog 18=true:=by kernel_rfl
theorem aXm:aJ Tryz.prog 19=true:=by kernel_rfl
theorem aT4 (e:EvD) (hO hK hB hO2 hK2 hB2:Sh) (G:PM) (sO:SlR G 3 Opn.cells hO e.ops) (sK:SlR G 1 fY hK e.keep) (sY:SlR G 1 aU hB (yb (aG e.bytes))) (sO2:SlR G 3 Opn.cells hO2 e.ops) (sK2:SlR G 1 fY hK2 e.keep) (sY2:SlR G 1 aU hB2 (yb (aG e.bytes))) (hz:yT e):Ct Tryz.prog 19 ([.agg (EvD.cells e (hO.val e.ops.length) (hK.val e.keep.length) (hB.val e.bytes.length)).toArray,.agg (EvD.cells e (hO2.val e.ops.length) (hK2.val e.keep.length) (hB2.val e.bytes.length)).toArray]:List Value).toArray G [] (fun _ μ' u=>μ'=[]∧u=.bool true):=by
 have h:=aT5 e hO hK hB hO2 hK2 hB2 G sO sK sY sO2 sK2 sY2 hz
 rw [show (yb (aG e.bytes)).length=e.bytes.length from by rw [eQ]; rfl] at h
 exact h
theorem aOu (s:ByteArray) (G:PM) (hU:UtG G) (hP:PwG Tryz.prog G) (hK:RdNP G 6 0 (wa 64 kW)):Ct Tryz.prog 4 ([.string s]:List Value).toArray G [] (fun _ μ' u=>μ'=[]∧u=.bool true):=by
 refine Ct.of Tryz.func4 rfl Tryz.ntmps4 rfl fun w0 hs0=>?_
 obtain ⟨l,rfl⟩ : ∃ l,s=aG l:=⟨s.data.toList,by cases s; rfl⟩
 have hts:(aG l).size=l.length:=rfl
 refine .g (kv rfl .no aZU aF (fun _=>aUC _ hP hK) ?_)
 refine .g (ls rfl .no cE (.u rfl) (cP rfl rfl rfl rfl (.g (cD rfl (fun c1=>?_) (fun c1=>?_)))))
 ·have c1k:=c1
  try simp only [aD,aE] at c1
  refine .seq (bF rfl rfl (mV rfl rfl (aS rfl rfl (.nc (.ret (aN Tryz.results4 (.tmp rfl .nil) ?_))))))
  exact ⟨rfl,rfl⟩
 have c1k:=c1
 try simp only [aD,aE] at c1
 refine .g (kc rfl wL (aB rfl aF) (aSv l _ hU) ?_)
 rintro _ G17 μ17 hG17 ⟨e,hO,hK1,hB,i1,k1,hpr,rfl,rfl,hsO,hsK,hsB⟩
 refine .p (eX rfl rfl rfl (eX rfl rfl rfl (eX rfl rfl rfl ?_)))
 refine al rfl iP ?_; intro b4
 refine sw rfl (.u rfl) (.u rfl) rfl cN .here rfl (EvD.one _ rfl rfl rfl) ?_
 refine .g (kc rfl aXk (aB rfl aF) (aTS l _ (by omega)) ?_)
 rintro _ G23 μ23 hG23 ⟨e2,hO2,hK2,hB2,i2,k2,hpr2,rfl,rfl,hsO2,hsK2,hsB2⟩
 obtain ⟨rfl,rfl,rfl⟩:=hpr.det hpr2
 have hsO:=hsO.mono hG23
 have hsK:=hsK.mono hG23
 have hsB:=hsB.mono hG23
 refine .p (eX rfl rfl rfl (eX rfl rfl rfl (eX rfl rfl rfl ?_)))
 refine al rfl iP ?_; intro b7
 refine sw rfl (.u rfl) (.u rfl) rfl cN .here rfl (EvD.one _ rfl rfl rfl) ?_
 refine .g (lA rfl (.t rfl rfl) bU (.u rfl) (fun _=>RdN.part (n:=11) (cs':=EvD.cells e2 (hO.val e2.ops.length) (hK1.val e2.keep.length) (hB.val e2.bytes.length)) aC (rfl)) (fun _=>rfl) (lA rfl (.t rfl rfl) bU (.u rfl) (fun _=>RdN.part (n:=11) (cs':=EvD.cells e2 (hO2.val e2.ops.length) (hK2.val e2.keep.length) (hB2.val e2.bytes.length)) .here (rfl)) (fun _=>rfl) (kv rfl (.t rfl rfl) aXm (aB rfl (aB rfl aF)) (fun _=>aT4 e2 hO hK1 hB hO2 hK2 hB2 _ hsO hsK hsB hsO2 hsK2 hsB2 hpr2.opz) ?_)))
 refine cW rfl .no (.u rfl) (.u rfl) (mV rfl rfl (mv rfl (.t rfl rfl) (.u rfl) (mv rfl (.t rfl rfl) (.u rfl) (cp rfl (.t rfl rfl) (.u rfl) (.u rfl) rfl (aLJ true (beq_self_eq_true _) ?_)))))
 refine cW rfl .no (.u rfl) (.u rfl) (mV rfl rfl (mv rfl (.t rfl rfl) (.u rfl) (mv rfl (.t rfl rfl) (.u rfl) (cp rfl (.t rfl rfl) (.u rfl) (.u rfl) rfl (cW rfl .no (.u rfl) (.u rfl) (aS rfl rfl (.nc (.ret (aN Tryz.results4 (.tmp rfl .nil) ?_)))))))))
 exact ⟨rfl,by rw [beq_self_eq_true]; rfl⟩
end Go.Proofs.YtoifkgkandfeiaaGreatDoor
namespace Go.Proofs.YtoifkgkandfeiaaGreatDoor
open Go.Tan Go.RowKit Go.ChangeShapes Go.WideShapes Go.ChangeAt
namespace deskParses
def zArgs:Array Value:=#[.string ByteArray.empty]
theorem laid_met (os:Os):laidMet Tryz.prog Rows.deskParsesRow.laid ((aEj os).forCall (fun _ _=>0) ⟨#[],zArgs,[]⟩).memory :=
 laidMet_of_run' 8 (by kernel_rfl) (by kernel_rfl)
theorem reads (os:Os) {H:Type} (enc:TypeId×Value→H):∃ places,DataW.whole enc Tryz.prog ((aEj os).forCall (fun _ _=>0) ⟨#[],zArgs,[]⟩).memory Tryz.f4.params.toList Rows.deskParsesSpec.vars false zArgs.toList 8=some ([.lit (.string [])],[],places) :=
 ⟨[],by kernel_rfl⟩
set_option maxRecDepth 100000 in
set_option maxHeartbeats 1000000 in
theorem lifted (os:Os) (started:os.Started) (H:Type) (enc:TypeId×Value→H) (F:Stop.Interp) :
  ReturnsInHanded {} Tryz.checked os 4 .any ((OpenSpec.ofChange Rows.deskParsesSpec).preRow enc Tryz.prog Tryz.f4 Rows.deskParsesRow.domain false Rows.deskParsesRow.laid) (((OpenSpec.ofChange Rows.deskParsesSpec).at F).post enc Tryz.prog Tryz.f4 false true false false):=by
 obtain ⟨places,hx⟩:=reads os enc
 refine returnsInHanded_of_row (C:=Tryz.checked) (s:=OpenSpec.ofChange Rows.deskParsesSpec) aUs started (by kernel_rfl) Tryz.func4
  (witness_row_at (enc:=enc) (C:=Tryz.checked) false (aEj os) zArgs rfl (by kernel_rfl) (by kernel_rfl) (by kernel_rfl)
   (OpenSpec.preRow_of_cond 8 hx (by kernel_rfl) (fun k hk=>by cases hk) (by kernel_rfl) (laid_met os))) ?_
 intro W base args ds gs before hval0 hW _ hcond hwt0 hL _ _
 have hval:∀ (j:Nat) t v,Tryz.f4.params[j]? = some t→args[j]? = some v→Value.okWide Tryz.prog W .any base t v:=hval0
 have hW2:DataW.Whole enc Tryz.prog Tryz.f4.params.toList [] false W args.toList ds gs before:=hW
 have hwt:(DataW.weightsEach Tryz.prog (Tryz.f4.params.toList++[]) (ds++gs)).all (·≤reachBytes)=true:=hwt0
 have hW3:DataW.Whole enc Tryz.prog Tryz.f4.params.toList Rows.deskParsesSpec.vars false W args.toList ds gs before:=hW
 show Calls Tryz.prog 4 args W fun e W'=>∃ v,e=.returned v∧Rows.deskParsesSpec.post enc Tryz.prog Tryz.f4 false true false false W args v W'
 have hK:RdNP (fun b=>W.heap[b]?) 6 0 (wa 64 kW):=aUi hL
 have hP:PwG Tryz.prog (fun b=>W.heap[b]?):=pw6 hL
 have hU:UtG (fun b=>W.heap[b]?):=ut6 hL (by simp [Rows.deskParsesRow]) (by simp [Rows.deskParsesRow])
 obtain ⟨p,q,hA,hV,hq,hfz,hnd⟩:=hW2
 rw [Tryz.params4] at hA hval hwt
 obtain ⟨v0,vs0,d0,ds0,p0,q0,hargs,rfl,rfl,r0,rr⟩:=trodAll_cons hA
 obtain ⟨rfl,rfl,rfl⟩:=trodAll_nil rr
 obtain rfl:args = #[v0]:=by cases args; simp_all
 obtain ⟨rfl,rfl⟩:=trodVars_none hV
 refine aSJ aKq hW3 rfl ?_ rfl (by kernel_rfl) Tryz.underlying4 ?_
 ·rw [Tryz.params4]; exact (List.forall_mem_cons.2 ⟨⟨by kernel_rfl,of_decide_eq_true (by kernel_rfl)⟩,List.forall_mem_nil _⟩)
 obtain ⟨s,hs0,_⟩:=(aNO (i:=0) r0 hwt rfl rfl).str Tryz.underlying9
 obtain rfl:=aUd Tryz.underlying9 (hval 0 9 v0 rfl rfl) hs0 rfl
 exact aOu s _ hU hP hK
theorem c10:(Rows.deskParsesRow.inPlace == Tryz.prog.inPlace 4)=true:=by kernel_rfl
theorem c11:(Rows.deskParsesRow.unfollowed == Tryz.prog.unfollowed 4)=true:=by kernel_rfl
theorem c12:(Rows.deskParsesRow.recurses == Tryz.prog.recurses 4)=true:=by kernel_rfl
theorem c13:(Rows.deskParsesRow.named == Tryz.prog.varsNamed 4)=true:=by kernel_rfl
theorem closed:joinedFacts Tryz.prog 4 Tryz.f4 (OpenSpec.ofChange Rows.deskParsesSpec).bare Rows.deskParsesRow=true :=
 (tab (tab (tab (tab (tab (tab (tab (tab (tab (tab (tab (tab (tab (tab (tab (tab (tab (tab (tab (tab (tab (tab (tab (tab (tab (tab (tab (tab (tab (tab (tab (by kernel_rfl) aKq) aUt) (by kernel_rfl)) (by kernel_rfl)) (by kernel_rfl)) (by kernel_rfl)) (by kernel_rfl)) (by kernel_rfl)) c10) c11) c12) c13) (by kernel_rfl)) (by kernel_rfl)) (by kernel_rfl)) (by kernel_rfl)) (by kernel_rfl)) (by kernel_rfl)) (by kernel_rfl)) (by kernel_rfl)) (by kernel_rfl)) aUr) (by kernel_rfl)) aUq) aUp) (by kernel_rfl)) (by kernel_rfl)) (by kernel_rfl)) (by kernel_rfl)) (by kernel_rfl)) (by kernel_rfl))
theorem said:Rows.DeskParsesSaid :=
 OpenClaim.holds_of_cond 4 Tryz.f4 rfl rfl rfl rfl rfl rfl rfl ⟨rfl,rfl,rfl,rfl,rfl⟩ rfl rfl rfl rfl rfl (by kernel_rfl) Tryz.func4 closed
  (of_decide_eq_true (by kernel_rfl)) (by unfold Func.isWrapper; first|(rw [if_pos (by decide +kernel)]; kernel_rfl) | (rw [if_neg (by decide +kernel)]; exact ⟨rfl,rfl⟩))
  (fun os started H enc _ F=>by rw [OpenClaim.pre_eq_preRow]; exact lifted os started H enc F)
theorem plain (f:FuncId) (fn:Func) (hf:Tryz.pinned.checked.prog.funcNamed "tantalus/tantaluslaw26.DeskParses" = some f) (hfn:Tryz.pinned.checked.prog.funcs[f]? = some fn) :
  true=Tryz.pinned.checked.prog.looks []∧∀ (j:Nat) t,fn.params[j]? = some t→Tryz.pinned.checked.prog.wantsStandIn t=false:=by
 obtain rfl:f=4:=Option.some.inj ((show Tryz.prog.funcNamed "tantalus/tantaluslaw26.DeskParses" = some 4 by kernel_rfl).symm.trans hf) |>.symm
 obtain rfl:fn=Tryz.f4:=(Option.some.inj (Tryz.func4.symm.trans hfn)).symm
 refine ⟨by kernel_rfl,fun j t ht=>?_⟩
 rw [Tryz.params4] at ht
 have hm:t∈([9]:List Nat):=by have:=Array.mem_of_getElem? ht; simpa using this
 have hall:∀ t∈([9]:List Nat),Tryz.prog.wantsStandIn t=false:=by
  intro t ht
  simp only [List.mem_cons,List.not_mem_nil,or_false] at ht
  rcases ht with rfl
  kernel_rfl
 exact hall t hm
end deskParses
end Go.Proofs.YtoifkgkandfeiaaGreatDoor
