/- Lemmas and contracts of functions, joined. -/
import Derived.Test.YtdeobooblmjlfaaGreatDoorMa5
import Derived.Test.YtdeobooblmjlfaaGreatDoorCards
import Derived.Test.YtdeobooblmjlfaaGreatDoorTie
import Derived.OpenShut
import Derived.Deep.DeepHandedRow
import Derived.Deep.CondSized
import Derived.JoinedCond
set_option linter.unusedSimpArgs false
set_option linter.unusedVariables false
set_option linter.unusedSectionVars false
namespace Go.Tan
open Go.RowKit
theorem StN.zero:StN State.zero:=by
 have z:u64 0:=⟨by decide,by decide⟩
 exact ⟨z,z,z,z,fun _ _=>z⟩
theorem StL.zero:StL State.zero:=⟨by decide,fun i _ m hm=>absurd hm List.not_mem_nil⟩
theorem StN.cg {s s':State} (h:EqS s s') (k:StN s'):StN s:=⟨h.log▸k.log,h.next▸k.next,h.seq▸k.seq,h.least▸k.least,fun i hi=>by rw [h.gens]; exact k.gens i hi⟩
theorem StL.right {s:State} (h:fG s=true):StL s:=by
 have h1:=(vD h).few
 exact ⟨by omega,fun i hi m hm=>by have:=aP2 h hi m hm; omega⟩
theorem AppR.stN {s:State} {e:Edit} {X:State} {r:Int} (h:AppR s e X r) (hw:e.wf):StN X:=by
 rcases h with ⟨_,_,rfl⟩ | ⟨_,_,_,rfl⟩ | ⟨_,_,Y,h1,h2⟩
 ·exact StN.zero
 ·exact StN.zero
 ·obtain ⟨_,_,L1,L2,_,_,rfl⟩:=aBA h1
  exact StN.cg h2 ⟨hw.log,hw.next,hw.seq,hw.least,hw.gens⟩
theorem AppR.stL {s:State} {e:Edit} {X:State} {r:Int} (h:AppR s e X r):StL X:=by
 rcases h with ⟨_,_,rfl⟩ | ⟨_,_,_,rfl⟩ | ⟨h1,h2,Y,h3,h4⟩
 ·exact StL.zero
 ·exact StL.zero
 ·obtain ⟨_,h5,_⟩:=aBA h3
  exact StL.right (by rw [h4.right]; exact h5)
def eT (h:Hd) (s:State) (hd:Nat→Sh) (mark:BitVec 64) (n used:Int) (torn:Bool):List Value :=
 [V h.kind,V h.level,uv .u64 h.gen,uv .u64 h.epoch,uv .u64 h.num]++s.cells hd++[uv .u64 mark,.int .i64 n,.int .i64 used,.bool torn]
section
variable {h:Hd} {s s':State} {hd hd':Nat→Sh} {mark mark':BitVec 64} {n n' used used':Int} {torn torn':Bool}
theorem eU:(eT h s hd mark n used torn).length=23:=rfl
theorem kN:∀ u∈eT h s hd mark n used torn,u.oneCell'=true:=by
 intro u hu
 unfold eT at hu
 rcases List.mem_append.1 hu with hu | hu
 ·rcases List.mem_append.1 hu with hu | hu
  ·simp only [List.mem_cons,List.not_mem_nil,or_false] at hu
   rcases hu with rfl|rfl|rfl|rfl|rfl<;>rfl
  ·exact iT _ hu
 ·simp only [List.mem_cons,List.not_mem_nil,or_false] at hu
  rcases hu with rfl|rfl|rfl|rfl<;>rfl
theorem aHA:((eT h s hd mark n used torn).drop 0).take 5=[V h.kind,V h.level,uv .u64 h.gen,uv .u64 h.epoch,uv .u64 h.num]:=rfl
theorem aBe:((eT h s hd mark n used torn).drop 5).take 14=s.cells hd:=rfl
end
structure MnR (S:State) (m:Mn):Prop where
 eq:EqS S m.st
 right:fG S=true
theorem sX {a b:BitVec 64}:((a.toNat:Int)≤(b.toNat:Int))↔a≤b:=by rw [BitVec.le_def]; omega
theorem MnR.bad {S:State} {m:Mn} {p:List Y} {e:Edit} {X:State} {r:Int} (h:MnR S m) (h40:¬ p.length<40) (hd:iU (p.drop 40)=some e) (ha:AppR S e X r) (hr:r≠0):eW m p=none:=by
 rcases ha.cg h.eq with ⟨h1,_⟩ | ⟨_,h2,_⟩ | ⟨_,h1,_⟩
 ·rw [← h.eq.right,h.right] at h1; cases h1
 ·exact aRE h40 hd h2
 ·exact absurd h1 hr
theorem MnR.good {S:State} {m:Mn} {e:Edit} {X:State} (h:MnR S m) (ha:AppR S e X 0):∃ Z,fC m.st e=some Z∧EqS X Z∧fG X=true:=by
 obtain ⟨_,Z,h1,h2,_,h4⟩:=(ha.cg h.eq).right
 exact ⟨Z,h1,h2,h4⟩
theorem MnR.root {S:State} {m:Mn} {p:List Y} {e:Edit} {X:State} (h:MnR S m) (h40:¬ p.length<40) (hd:iU (p.drop 40)=some e) (ha:AppR S e X 0) (hr:¬ yl 32 (mG X)=(p.drop 8).take 32):eW m p=none:=by
 obtain ⟨Z,h1,h2,_⟩:=h.good ha
 exact aRJ h40 hd h1 (by rw [← aIP h2]; exact hr)
theorem MnR.next {S:State} {m:Mn} {p:List Y} {e:Edit} {X:State} (h:MnR S m) (h40:¬ p.length<40) (hd:iU (p.drop 40)=some e) (hm:¬ cE p 8≤m.mark) (ha:AppR S e X 0) (hr:yl 32 (mG X)=(p.drop 8).take 32) :
  ∃ m',eW m p=some m'∧MnR X m'∧m'.mark=cE p 8∧m'.n=m.n+1:=by
 obtain ⟨Z,h1,h2,h3⟩:=h.good ha
 exact ⟨_,aRH h40 hd hm h1 (by rw [← aIP h2]; exact hr),⟨h2,h3⟩,rfl,rfl⟩
theorem aJw {L:List Y} {n:Nat} (h:L.length=n):yl n (fun i=>L.getD i 0)=L:=by
 refine List.ext_getElem? fun i=>?_
 by_cases hi:i<n
 ·have:i<L.length:=by omega
  simp [yl,hi,this]
 rw [List.getElem?_eq_none (by rw [bK]; omega),List.getElem?_eq_none (by omega)]
theorem aI1 {m:Mn} {p:List Y} {e:Edit} {er:Int} (h40:¬ p.length<40) (hD:DecR (p.drop 40) e er) (h:er≠0∨cE p 8≤m.mark):eW m p=none:=by
 rcases h with h | h
 ·rcases hD with ⟨_,h2⟩ | ⟨h1,_,_⟩
  ·exact absurd h2 h
  ·exact aRG h40 h1
 ·exact aRI h40 h
theorem aBJ {p:List Y} {e:Edit} {er:Int} (hD:DecR p e er) (h:er=0):iU p=some e:=by
 rcases hD with ⟨h1,_⟩ | ⟨_,_,h2⟩
 ·exact h1
 ·rw [h] at h2; cases h2
theorem aRO {S:State} {m:Mn} {p L:List Y} {e:Edit} {X:State} {r:Int} (h:MnR S m) (h40:¬ p.length<40) (hd:iU (p.drop 40)=some e) (ha:AppR S e X r) (eL:L=(p.drop 8).take 32) (hc:r≠0∨¬ yl 32 (mG X)=yl 32 (fun i=>L.getD i 0)):eW m p=none:=by
 by_cases hr:r=0
 ·subst hr
  rcases hc with hc | hc
  ·exact absurd rfl hc
  ·rw [aJw (by rw [eL,List.length_take,List.length_drop]; omega),eL] at hc
   exact h.root h40 hd ha hc
 ·exact h.bad h40 hd ha hr
theorem aRP {S:State} {m:Mn} {p L:List Y} {e:Edit} {X:State} {r:Int} (h:MnR S m) (h40:¬ p.length<40) (hd:iU (p.drop 40)=some e) (hm:¬ cE p 8≤m.mark) (ha:AppR S e X r) (eL:L=(p.drop 8).take 32) (hr:r=0) (hc:yl 32 (mG X)=yl 32 (fun i=>L.getD i 0)) :
  ∃ m',eW m p=some m'∧MnR X m'∧m'.mark=cE p 8∧m'.n=m.n+1:=by
 subst hr
 rw [aJw (by rw [eL,List.length_take,List.length_drop]; omega),eL] at hc
 exact h.next h40 hd hm ha hc
theorem MnR.zero:MnR State.zero Mn.zero:=⟨EqS.refl _,aP4⟩
theorem aOT {enc mac nonce:Nat→Y} {ad s x:List Y} (h:oN enc mac nonce ad s=some x):x.length≤s.length:=by
 unfold oN at h
 split at h
 ·cases h
 ·split at h
  ·cases h; rw [aBI,List.length_take]; omega
  ·cases h
theorem aDx {op:Nat→List Y→Option (List Y)} {tot:Nat} (hop:∀ i s x,op i s=some x→x.length≤s.length):∀ (N:Nat) (r parts:List Y) (recs R:List (List Y)) (used u:Nat),r.length≤N→dT op tot r parts recs used=some (R,u) →
  (∀ x∈R,x∈recs∨x.length≤parts.length+r.length)∧R.length≤recs.length+r.length
 | N,r,parts,recs,R,used,u,hN,h=>by
  by_cases h7:r.length<7
  ·rw [aAF h7] at h; cases h; exact ⟨fun x hx=>.inl hx,by omega⟩
  by_cases hn:cH r=0∨128<cH r
  ·rw [aAE h7 hn] at h; cases h
  by_cases ht:r.length<7+cH r
  ·rw [aBq h7 hn ht] at h; cases h; exact ⟨fun x hx=>.inl hx,by omega⟩
  by_cases hf:dG (r.getD 6 0) ((r.drop 7).take (cH r))≠r.take 7∨eO (r.getD 6 0) (cH r) (!parts.isEmpty)=true
  ·rw [xD h7 hn ht hf] at h; cases h
  have lt:((r.drop 7).take (cH r)).length=cH r:=by rw [List.length_take,List.length_drop]; omega
  have ld:(r.drop (7+cH r)).length=r.length-(7+cH r):=List.length_drop
  obtain ⟨N',rfl⟩ : ∃ N',N=N'+1:=⟨N-1,by omega⟩
  by_cases hk:r.getD 6 0=1#8∨r.getD 6 0=4#8
  ·cases hx:op recs.length (parts++(r.drop 7).take (cH r)) with
   | none=>rw [aH5 h7 hn ht hf hk hx] at h; cases h
   | some x =>
    rw [aDw h7 hn ht hf hk hx] at h
    have hs:=hop _ _ _ hx
    rw [List.length_append,lt] at hs
    obtain ⟨h1,h2⟩:=aDx hop N' _ _ _ _ _ _ (by omega) h
    refine ⟨fun y hy=>?_,by rw [List.length_append,List.length_cons,List.length_nil,ld] at h2; omega⟩
    rcases h1 y hy with h3 | h3
    ·rcases List.mem_append.1 h3 with h4 | h4
     ·exact .inl h4
     rw [List.mem_singleton.1 h4]; exact .inr (by omega)
    rw [List.length_nil,ld] at h3; exact .inr (by omega)
  rw [aDu h7 hn ht hf hk] at h
  obtain ⟨h1,h2⟩:=aDx hop N' _ _ _ _ _ _ (by omega) h
  refine ⟨fun y hy=>?_,by rw [ld] at h2; omega⟩
  rcases h1 y hy with h3 | h3
  ·exact .inl h3
  rw [List.length_append,lt,ld] at h3; exact .inr (by omega)
theorem aIJ (root:Nat→Y) (xs:List Y):(∀ x∈(bW root xs).1.recs,x.length≤xs.length)∧(bW root xs).1.recs.length≤xs.length:=by
 by_cases h:xs.length<30
 ·rw [xH h]; exact ⟨fun x hx=>absurd hx List.not_mem_nil,Nat.zero_le _⟩
 by_cases he:(bY xs).2=0
 ·cases hb:sN root (bY xs).1 xs with
  | none=>rw [mE h he hb]; exact ⟨fun x hx=>absurd hx List.not_mem_nil,Nat.zero_le _⟩
  | some q =>
   obtain ⟨R,u⟩:=q
   rw [xI h he hb]
   obtain ⟨h1,h2⟩:=aDx (fun i s x hx=>aOT hx) xs.length _ _ _ _ _ _ (by rw [List.length_drop]; omega) hb
   rw [List.length_drop] at h1 h2
   refine ⟨fun x hx=>?_,by rw [List.length_nil] at h2; show R.length≤_; omega⟩
   rcases h1 x hx with h3 | h3
   ·cases h3
   rw [List.length_nil] at h3; omega
 rw [xG h he]; exact ⟨fun x hx=>absurd hx List.not_mem_nil,Nat.zero_le _⟩
structure ManV where
 hd:Hd
 m:Mn
 used:Nat
 torn:Bool
noncomputable def gU (root:Nat→Y) (xs:List Y):Option ManV :=
 if (bW root xs).2≠0∨30≤xs.length∧(bW root xs).1.hd.kind≠3#8 then none else (iC (bW root xs).1.recs Mn.zero).map fun m=>⟨(bW root xs).1.hd,m,(bW root xs).1.used,(bW root xs).1.torn⟩
theorem aBs {root:Nat→Y} {xs:List Y} (h:(bW root xs).2≠0∨30≤xs.length∧(bW root xs).1.hd.kind≠3#8):gU root xs=none:=by unfold gU; rw [if_pos h]
theorem xF {root:Nat→Y} {xs:List Y} (h:iC (bW root xs).1.recs Mn.zero=none):gU root xs=none:=by
 unfold gU; split
 ·rfl
 ·rw [h]; rfl
theorem aBt {root:Nat→Y} {xs:List Y} {m:Mn} (h:¬ ((bW root xs).2≠0∨30≤xs.length∧(bW root xs).1.hd.kind≠3#8)) (hs:iC (bW root xs).1.recs Mn.zero=some m):gU root xs=some ⟨(bW root xs).1.hd,m,(bW root xs).1.used,(bW root xs).1.torn⟩:=by
 unfold gU; rw [if_neg h,hs]; rfl
instance {h:Hd} {s:State} {hd:Nat→Sh} {mark:BitVec 64} {n used:Int} {torn:Bool}:QLen (eT h s hd mark n used torn) 23:=⟨eU⟩
end Go.Tan
namespace Go.Proofs.YtdeobooblmjlfaaGreatDoor
open Go.Tan Go.RowKit
theorem aTD:aU Tryz.prog 21=true:=by kernel_rfl
theorem aTE:aU Tryz.prog 22=true:=by kernel_rfl
theorem iQ:cO Tryz.prog 83 3=some 73:=by kernel_rfl
theorem aKO:cO Tryz.prog 83 0=some 0:=by kernel_rfl
theorem oB:cO Tryz.prog 83 2=some 65:=by kernel_rfl
theorem oA:cO Tryz.prog 56 1=some 5:=by kernel_rfl
theorem qX:dJ Tryz.prog 54=some none:=by kernel_rfl
theorem aKP:cO Tryz.prog 83 1=some 64:=by kernel_rfl
theorem aKq:aU Tryz.prog 76=true:=by kernel_rfl
theorem aEv:dL Tryz.prog 54=some 1:=by kernel_rfl
theorem aRi {A B:List Y} {k:Nat} (he:A.take k=B.take k) (h1:k<A.length) (h2:k<B.length) (h:A.getD k 0=B.getD k 0):A.take (k+1)=B.take (k+1):=by
 rw [List.take_succ_eq_append_getElem h1,List.take_succ_eq_append_getElem h2,he]
 have e1:A.getD k 0=A[k]:=by simp [h1]
 have e2:B.getD k 0=B[k]:=by simp [h2]
 rw [← e1,←e2,h]
theorem aLt {a b:Y} {A B:List Y} {k:Nat} (ha:A.getD k 0=a) (hb:B.getD k 0=b) (h:¬ (a.toNat:Int)=b.toNat):¬ A=B:=fun e=>h (by rw [← ha,←hb,e])
theorem aLu {a b:Y} (h:(a.toNat:Int)=b.toNat):a=b:=BitVec.eq_of_toNat_eq (by omega)
theorem aD5 (A B:List Y) (ha hb:Sh) (G:PM) (hsa:SlR G 1 aQ ha A) (hsb:SlR G 1 aQ hb B) (hl:A.length≤100000000000000):Ct Tryz.prog 30 ([ha.val A.length,hb.val B.length]:List Value).toArray G [] (fun _ μ' u=>μ'=[]∧u=.bool (decide (A=B))):=by
 refine Ct.of Tryz.func30 rfl Tryz.ntmps30 rfl fun w0 hs0=>?_
 refine .g (lE rfl bU rfl (.p (lE rfl bU rfl (cP rfl rfl rfl rfl (.g (cD rfl (fun c1=>?_) (fun c1=>?_)))))))
 ·have c1k:=c1
  try simp only [aC,aD] at c1
  refine .seq (aL rfl rfl (aS rfl rfl (.nc (.ret (aM Tryz.results30 (.tmp rfl .nil) ?_)))))
  exact ⟨rfl,congrArg Value.bool (decide_eq_false (fun e=>c1 (by rw [e]))).symm⟩
 have c1k:=c1
 try simp only [aC,aD] at c1
 refine .g (lE rfl bU rfl (mV rfl rfl (.nc (.block ?_))))
 refine aV (α:=Nat) (fun k=>[(13,true,.int .i64 (k:Int))]) (fun _=>[])
  (fun k Gl=>(k≤A.length)∧(A.take k=B.take k)) (fun k=>A.length-k) 0 [(0,true,_),(1,true,_),(12,true,_)] []
  (aK rfl (aA rfl (aA rfl (aA rfl eZ))))
  mN ?_ ?_
 ·refine ⟨?_,?_⟩
  ·(try dsimp only)<;>(first|omega|rfl|assumption|(simp; done))
  (try dsimp only)<;>(rfl)
 intro k N0 Gl0 hN0 hGl0 hF0
 try dsimp only at hF0 hN0 ⊢
 obtain ⟨hk,he⟩:=hF0
 have hsa:=hsa.mono hGl0
 have hsb:=hsb.mono hGl0
 refine .g (cP rfl rfl rfl rfl (.g (cD rfl (fun c2=>?_) (fun c2=>?_))))
 ·have c2k:=c2
  try simp only [aC,aD] at c2
  refine .g (bA (mc:=⟨false,false⟩) [0,1,2,3,4,5,6,7,8] aX (by kernel_rfl) ?_)
  refine mV rfl rfl (mV rfl rfl (ih rfl .no aI (.u rfl) (.u rfl) (by omega) (by omega) (fun _=>hsa.nn (k:=k) (by omega)) ?_))
  refine lN rfl aZ rfl ((hsa.yat (k) (by omega) (by omega)).rd) ?_
  refine mV rfl rfl (mV rfl rfl (ih rfl .no aI (.u rfl) (.u rfl) (by omega) (by omega) (fun _=>hsb.nn (k:=k) (by omega)) ?_))
  refine lN rfl aZ rfl ((hsb.yat (k) (by omega) (by omega)).rd) ?_
  refine cP rfl rfl rfl rfl (.g (cD rfl (fun c3=>?_) (fun c3=>?_)))
  ·have c3k:=c3
   try simp only [aC,aD] at c3
   refine .seq (aL rfl rfl (aS rfl rfl (.nc (.ret (aM Tryz.results30 (.tmp rfl .nil) ?_)))))
   exact ⟨rfl,congrArg Value.bool (decide_eq_false (aLt rfl rfl c3)).symm⟩
  have c3k:=c3
  try simp only [aC,aD] at c3
  refine .g (aW (((k+1):Nat):Int) rfl rfl rfl rfl ?_)
  refine .g (aP (k+1) ?_ ?_ ?_ ?_ ?_)
  ·exact (aK rfl (aA rfl (aA rfl (aA rfl eZ))))
  ·exact mN
  ·first|omega|(dsimp only; omega)
  ·exact hGl0
  refine ⟨?_,?_⟩
  ·(try dsimp only)<;>(first|omega|rfl|assumption|(simp; done))
  (try dsimp only)<;>(exact aRi he (by omega) (by omega) (aLu c3))
 have c2k:=c2
 try simp only [aC,aD] at c2
 refine .exit (.xcode (.xlp (.xblk (.code (.seq (aL rfl rfl (aS rfl rfl (.nc (.ret (aM Tryz.results30 (.tmp rfl .nil) ?_))))))))))
 exact ⟨rfl,congrArg Value.bool (decide_eq_true (by have h1:=he; rw [show k=A.length by omega,List.take_length,List.take_of_length_le (by omega)] at h1; exact h1)).symm⟩
theorem aBH {X A B L M:List Y} (h1:L=X.take 0++A++X.drop (0+A.length)) (h2:M=L.take (A.length*1)++B++L.drop (A.length*1+B.length)) (hX:X.length=A.length+B.length):M=A++B:=by
 rw [List.take_zero,List.nil_append,Nat.zero_add] at h1
 subst h1
 rw [h2,Nat.mul_one,List.take_left,List.drop_of_length_le (by rw [List.length_append,List.length_drop]; omega),List.append_nil]
theorem aHP {A B:List Y} (h:0<B.length) {P:Prop}:A++B=[]→P:=fun e=>by have:=congrArg List.length e; rw [List.length_append,List.length_nil] at this; omega
theorem aJS (root:Nat→Y) (h:Hd) (kind:Y) (p:List Y) (hp:Sh) (parts:List Y) (sp:Sh) (ps:List (Sh×List Y)) (vr:Value) (ha:Sh) (b:Nat) (used:Int) (G:PM) (hs:SlR G 1 aQ hp p) (hsq:SlR G 1 aQ sp parts) (h0:parts=[]→sp=⟨none,0⟩) (hA:AllS G ps) (hsa:SlR G 1 aQ ha (cC h)) (hK:RdNP G 1 0 (wa 64 kW)) (hp0:0<p.length) (hl:parts.length+p.length≤10000000000000) (hn:ps.length≤100000000):Ct Tryz.prog 32 ([.pointer (some ⟨b,0,none⟩),V kind,hp.val p.length]:List Value).toArray G [.blk b (cl (eK (gX root (cC h)) (gY root (cC h)) (ha.val (cC h).length) h vr used false (sp.val parts.length)) 83),rS 1 oH vr 24 ps] (fun G' μ' u=>(fN (jX root h) parts (ps.map (·.2)) kind p=none∧u=.bool false∧μ'=[])∨∃ Q ps' sQ vr',fN (jX root h) parts (ps.map (·.2)) kind p=some (Q,ps'.map (·.2))∧u=.bool true∧μ'=[.blk b (cl (eK (gX root (cC h)) (gY root (cC h)) (ha.val (cC h).length) h vr' used false (sQ.val Q.length)) 83),rS 1 oH vr' 24 ps']∧SlR G' 1 aQ sQ Q∧(Q=[]→sQ=⟨none,0⟩)∧AllS G' ps'∧ps'.length≤ps.length+1∧Q.length≤parts.length+p.length):=by
 refine Ct.of Tryz.func32 rfl Tryz.ntmps32 rfl fun w0 hs0=>?_
 have eo:=aF0 hsq h0
 have lh:=lD h
 refine .g (cP rfl rfl rfl rfl (.g (cD rfl (fun c1=>?_) (fun c1=>?_))))
 ·have c1k:=c1
  try simp only [aC,aG,aD] at c1
  refine .g (nC rfl rfl (fZ rfl iQ rfl (lN rfl cX rfl (Rd.own .here mD) ?_)))
  refine sn1 rfl .no bU (.u rfl) (.u rfl) ?_
  refine .g (cD rfl (fun c2=>?_) (fun c2=>?_))
  ·have c2k:=c2
   try simp only [aC,aG,aD] at c2
   refine .seq (aL rfl rfl (aS rfl rfl (.nc (.ret (aM Tryz.results32 (.tmp rfl .nil) ?_)))))
   exact .inl ⟨aRj ((fR (n:=1) (by decide)).1 c1) (eo.symm.trans c2),rfl,rfl⟩
  have c2k:=c2
  try simp only [aC,aG,aD] at c2
  refine .g (nt rfl .no (.u rfl) (mV rfl rfl (mv rfl (.t rfl rfl) (.u rfl) (ln rfl (.t rfl rfl) bU (.s rfl) (cp rfl (.t rfl rfl) (.s rfl) (.u rfl) rfl (bR rfl .no (.u rfl) (.s rfl) (.g (rJ rfl rfl ?_))))))))
  refine .g (nC rfl rfl (fZ rfl iQ rfl (lN rfl cX rfl (Rd.own .here mD) ?_)))
  refine lE rfl bU rfl (.p (lE rfl bU rfl (aW (((parts.length+p.length):Nat):Int) rfl rfl rfl rfl ?_)))
  refine wW ((parts.length+p.length)) ((parts.length+p.length)) rfl aI bF (.u rfl) (.u rfl) (by first|rfl|omega) (by first|rfl|omega) (by omega) (by omega) ?_; intro b45
  have lR45:(List.replicate ((parts.length+p.length)) (0#8:Y)).length=(parts.length+p.length):=List.length_replicate
  refine .g (nC rfl rfl (fZ rfl iQ rfl (lN rfl cX rfl (Rd.own aE mD) ?_)))
  refine sO rfl aI (.u rfl) (.u rfl) .here hsq.sc (by omega) (by omega) ?_; intro L52 eL52 lL52
  refine slr (parts.length) rfl aI (.u rfl) (.u rfl) (by omega) (by omega) (by omega) (by omega) ?_
  refine mV rfl rfl ?_
  refine sO rfl aI (.u rfl) (.u rfl) .here hs.sc (by omega) (by omega) ?_; intro L55 eL55 lL55
  refine .nil ?_
  have eL55':L55=parts++p:=aBH eL52 eL55 (by omega)
  refine .code (.seq ?_)
  refine iP .here (oK .here rfl (oK .here rfl (wR))) ?_; intro GfR45 hR45 hleR45 evR45 hsR45; try rw [ evR45]
  have hs:=hs.mono hleR45
  have hsq:=hsq.mono hleR45
  have hA:=hA.mono hleR45
  have hsa:=hsa.mono hleR45
  have hK:=hK.mono hleR45
  refine .g (nC rfl rfl (fZ rfl iQ rfl (s1 rfl (.u rfl) (.u rfl) rfl nH .here (by (try rw [nS]); decide) (xE) ?_)))
  refine .g (nt rfl .no (.u rfl) (.g (rJ rfl rfl ?_)))
  refine .g (bA (mc:=⟨false,false⟩) [0,1,2,3,4,5,6,7,8,9,10,12,13,14,15,16,17,18,19,11,20,21,22,23,24,25] aX (by kernel_rfl) ?_)
  refine .p (nC rfl rfl (fZ rfl aKO rfl (lA rfl .no qY (.u rfl) (fun _=>RdN.part (n:=64) (cs':=ba 32 (gX root (cC h))++ba 32 (gY root (cC h))) .here (aIC)) (fun _=>(by first|exact qE|exact qL|rfl)) ?_)))
  refine .p (nC rfl rfl (fZ rfl oB rfl (fA rfl oA rfl (lN rfl qX rfl (Rd.own .here aBr) ?_))))
  refine lr rfl .no sH (.u rfl) aE ?_
  refine ci rfl .no rfl gG (.u rfl) ?_
  refine .p (nC rfl rfl (fZ rfl aKP rfl (lN rfl cX rfl (Rd.own .here aIB) ?_)))
  refine .p (nC rfl rfl (fZ rfl iQ rfl (lN rfl cX rfl (Rd.own .here mD) ?_)))
  refine kV rfl aKp (aB rfl aF) (aE2 _ _) ?_
  refine kc rfl aKq (aB rfl (aB rfl (aB rfl (aB rfl aF)))) (aE5 (gX root (cC h)) (gY root (cC h)) _ (cC h) ha L55 hR45 _ hsa hsR45 hK (by omega) (by omega)) ?_
  rintro _ G83 μ83 hG83 ⟨v83,L83,e83,hO83,rfl,rfl⟩
  have hs:=hs.mono hG83
  have hsq:=hsq.mono hG83
  have hA:=hA.mono hG83
  have hsa:=hsa.mono hG83
  have hK:=hK.mono hG83
  have hsR45:=hsR45.mono hG83
  refine .p (eX rfl rfl rfl (eX rfl rfl rfl (aS rfl rfl (aS rfl rfl (.nc (.seq ?_))))))
  refine iP .here (oK .here rfl (oK .here rfl (wR))) ?_; intro GfR83 hR83 hleR83 evR83 hsR83; subst evR83
  have hs:=hs.mono hleR83
  have hsq:=hsq.mono hleR83
  have hA:=hA.mono hleR83
  have hsa:=hsa.mono hleR83
  have hK:=hK.mono hleR83
  have hsR45:=hsR45.mono hleR83
  refine .g (nC rfl rfl (fZ rfl iQ rfl (s1 rfl (.u rfl) (.u rfl) rfl nH .here (by (try rw [nS]); decide) (xE) ?_)))
  refine .g (nC rfl rfl (fZ rfl oB rfl (fA rfl oA rfl (lN rfl qX rfl (Rd.own .here aBr) ?_))))
  refine mV rfl rfl ?_
  refine Go.Tan.b1 rfl jB mR (.u rfl) rfl rfl (by decide) ?_; intro b96
  refine eC (xs:=ps) ((hR83,L83)) rfl jB mR rfl (.u rfl) (.u rfl) aN .here (rfl) (one1 rfl) (by omega) (by unfold maxLen; omega) ?_; intro v97 ov97
  refine nC rfl rfl (fZ rfl oB rfl (fA rfl oA rfl (dE rfl (.u rfl) (.u rfl) .here aEv aN (by (try rw [nS]); decide) (aIF) ?_)))
  refine .g (cP rfl rfl rfl rfl (aS rfl rfl (.nc (.ret ?_))))
  rcases hO83 with ⟨ho,rfl⟩ | ⟨ho,rfl,rfl⟩
  ·refine We.fin Tryz.results32 (.tmp rfl .nil) (mS .here rfl (mS .here rfl mN)) ?_
   refine .inr ⟨[],ps++[(hR83,L83)],⟨none,0⟩,v97,?_,rfl,rfl,SlR.nul,fun _=>rfl,aCE hA hsR83,by simp,by simp⟩
   rw [eL55'] at ho
   have ho':jX root h (ps.map (·.2)).length (parts++p)=some L83:=by rw [List.length_map]; exact ho
   rw [aB5 (.inl ⟨(fR (n:=1) (by decide)).1 c1,eo.symm.trans c2⟩),ho',List.map_append]; rfl
  refine aM Tryz.results32 (.tmp rfl .nil) ?_
  refine .inl ⟨?_,rfl,rfl⟩
  rw [eL55'] at ho
  have ho':jX root h (ps.map (·.2)).length (parts++p)=none:=by rw [List.length_map]; exact ho
  rw [aB5 (.inl ⟨(fR (n:=1) (by decide)).1 c1,eo.symm.trans c2⟩),ho']; rfl
 have c1k:=c1
 try simp only [aC,aG,aD] at c1
 refine .g (cP rfl rfl rfl rfl (.g (cD rfl (fun c3=>?_) (fun c3=>?_))))
 ·have c3k:=c3
  try simp only [aC,aG,aD] at c3
  refine .g (nC rfl rfl (fZ rfl iQ rfl (lN rfl cX rfl (Rd.own .here mD) ?_)))
  refine sn1 rfl .no bU (.u rfl) (.u rfl) ?_
  refine .g (cD rfl (fun c4=>?_) (fun c4=>?_))
  ·have c4k:=c4
   try simp only [aC,aG,aD] at c4
   refine .seq (aL rfl rfl (aS rfl rfl (.nc (.ret (aM Tryz.results32 (.tmp rfl .nil) ?_)))))
   exact .inl ⟨aJM ((fR (n:=2) (by decide)).1 c3) (.inl (eo.symm.trans c4)),rfl,rfl⟩
  have c4k:=c4
  try simp only [aC,aG,aD] at c4
  refine .g (nt rfl .no (.u rfl) (mV rfl rfl (mv rfl (.t rfl rfl) (.u rfl) (ln rfl (.t rfl rfl) bU (.s rfl) (cp rfl (.t rfl rfl) (.s rfl) (.u rfl) rfl (bR rfl .no (.u rfl) (.s rfl) (.g (cD rfl (fun c5=>?_) (fun c5=>?_)))))))))
  ·have c5k:=c5
   try simp only [aC,aG,aD] at c5
   refine .seq (aL rfl rfl (aS rfl rfl (.nc (.ret (aM Tryz.results32 (.tmp rfl .nil) ?_)))))
   exact .inl ⟨aJM ((fR (n:=2) (by decide)).1 c3) (.inr (by omega)),rfl,rfl⟩
  have c5k:=c5
  try simp only [aC,aG,aD] at c5
  refine .g (nC rfl rfl (fZ rfl iQ rfl (lN rfl cX rfl (Rd.own .here mD) ?_)))
  refine lE rfl bU rfl (.p (lE rfl bU rfl (aW (((parts.length+p.length):Nat):Int) rfl rfl rfl rfl ?_)))
  refine wW ((parts.length+p.length)) ((parts.length+p.length)) rfl aI bF (.u rfl) (.u rfl) (by first|rfl|omega) (by first|rfl|omega) (by omega) (by omega) ?_; intro b45
  have lR45:(List.replicate ((parts.length+p.length)) (0#8:Y)).length=(parts.length+p.length):=List.length_replicate
  refine .g (nC rfl rfl (fZ rfl iQ rfl (lN rfl cX rfl (Rd.own aE mD) ?_)))
  refine sO rfl aI (.u rfl) (.u rfl) .here hsq.sc (by omega) (by omega) ?_; intro L52 eL52 lL52
  refine slr (parts.length) rfl aI (.u rfl) (.u rfl) (by omega) (by omega) (by omega) (by omega) ?_
  refine mV rfl rfl ?_
  refine sO rfl aI (.u rfl) (.u rfl) .here hs.sc (by omega) (by omega) ?_; intro L55 eL55 lL55
  refine .nil ?_
  have eL55':L55=parts++p:=aBH eL52 eL55 (by omega)
  refine .code (.seq ?_)
  refine iP .here (oK .here rfl (oK .here rfl (wR))) ?_; intro GfR45 hR45 hleR45 evR45 hsR45; try rw [ evR45]
  have hs:=hs.mono hleR45
  have hsq:=hsq.mono hleR45
  have hA:=hA.mono hleR45
  have hsa:=hsa.mono hleR45
  have hK:=hK.mono hleR45
  refine .g (nC rfl rfl (fZ rfl iQ rfl (s1 rfl (.u rfl) (.u rfl) rfl nH .here (by (try rw [nS]); decide) (xE) ?_)))
  refine .g (nt rfl .no (.u rfl) (.g (jQ rfl rfl ?_)))
  refine .seq (aL rfl rfl (aS rfl rfl (.nc (.ret (We.fin Tryz.results32 (.tmp rfl .nil) (mS .here rfl (mS .here rfl mN)) ?_)))))
  have q5:¬ ((p.length:Int)<128):=by simpa using c5k
  exact .inr ⟨L55,ps,hR45,vr,by rw [aJN (.inl ⟨(fR (n:=2) (by decide)).1 c3,eo.symm.trans c4⟩) (by omega),eL55'],rfl,rfl,hsR45,fun e=>aHP hp0 (eL55'.symm.trans e),hA,by omega,by omega⟩
 have c3k:=c3
 try simp only [aC,aG,aD] at c3
 refine .g (cP rfl rfl rfl rfl (.g (cD rfl (fun c6=>?_) (fun c6=>?_))))
 ·have c6k:=c6
  try simp only [aC,aG,aD] at c6
  refine .g (nC rfl rfl (fZ rfl iQ rfl (lN rfl cX rfl (Rd.own .here mD) ?_)))
  refine xR rfl .no bU (.u rfl) (.u rfl) ?_
  refine .g (cD rfl (fun c7=>?_) (fun c7=>?_))
  ·have c7k:=c7
   try simp only [aC,aG,aD] at c7
   refine .seq (aL rfl rfl (aS rfl rfl (.nc (.ret (aM Tryz.results32 (.tmp rfl .nil) ?_)))))
   exact .inl ⟨aSN ((fR (n:=4) (by decide)).1 c6) (eo.symm.trans c7),rfl,rfl⟩
  have c7k:=c7
  try simp only [aC,aG,aD] at c7
  refine .g (nt rfl .no (.u rfl) (mV rfl rfl (mv rfl (.t rfl rfl) (.u rfl) (ln rfl (.t rfl rfl) bU (.s rfl) (cp rfl (.t rfl rfl) (.s rfl) (.u rfl) rfl (bR rfl .no (.u rfl) (.s rfl) (.g (rJ rfl rfl ?_))))))))
  refine .g (nC rfl rfl (fZ rfl iQ rfl (lN rfl cX rfl (Rd.own .here mD) ?_)))
  refine lE rfl bU rfl (.p (lE rfl bU rfl (aW (((parts.length+p.length):Nat):Int) rfl rfl rfl rfl ?_)))
  refine wW ((parts.length+p.length)) ((parts.length+p.length)) rfl aI bF (.u rfl) (.u rfl) (by first|rfl|omega) (by first|rfl|omega) (by omega) (by omega) ?_; intro b45
  have lR45:(List.replicate ((parts.length+p.length)) (0#8:Y)).length=(parts.length+p.length):=List.length_replicate
  refine .g (nC rfl rfl (fZ rfl iQ rfl (lN rfl cX rfl (Rd.own aE mD) ?_)))
  refine sO rfl aI (.u rfl) (.u rfl) .here hsq.sc (by omega) (by omega) ?_; intro L52 eL52 lL52
  refine slr (parts.length) rfl aI (.u rfl) (.u rfl) (by omega) (by omega) (by omega) (by omega) ?_
  refine mV rfl rfl ?_
  refine sO rfl aI (.u rfl) (.u rfl) .here hs.sc (by omega) (by omega) ?_; intro L55 eL55 lL55
  refine .nil ?_
  have eL55':L55=parts++p:=aBH eL52 eL55 (by omega)
  refine .code (.seq ?_)
  refine iP .here (oK .here rfl (oK .here rfl (wR))) ?_; intro GfR45 hR45 hleR45 evR45 hsR45; try rw [ evR45]
  have hs:=hs.mono hleR45
  have hsq:=hsq.mono hleR45
  have hA:=hA.mono hleR45
  have hsa:=hsa.mono hleR45
  have hK:=hK.mono hleR45
  refine .g (nC rfl rfl (fZ rfl iQ rfl (s1 rfl (.u rfl) (.u rfl) rfl nH .here (by (try rw [nS]); decide) (xE) ?_)))
  refine .g (nt rfl .no (.u rfl) (.g (rJ rfl rfl ?_)))
  refine .g (bA (mc:=⟨false,false⟩) [0,1,2,3,4,5,6,7,8,9,10,12,13,14,15,16,17,18,19,11,20,21,22,23,24,25] aX (by kernel_rfl) ?_)
  refine .p (nC rfl rfl (fZ rfl aKO rfl (lA rfl .no qY (.u rfl) (fun _=>RdN.part (n:=64) (cs':=ba 32 (gX root (cC h))++ba 32 (gY root (cC h))) .here (aIC)) (fun _=>(by first|exact qE|exact qL|rfl)) ?_)))
  refine .p (nC rfl rfl (fZ rfl oB rfl (fA rfl oA rfl (lN rfl qX rfl (Rd.own .here aBr) ?_))))
  refine lr rfl .no sH (.u rfl) aE ?_
  refine ci rfl .no rfl gG (.u rfl) ?_
  refine .p (nC rfl rfl (fZ rfl aKP rfl (lN rfl cX rfl (Rd.own .here aIB) ?_)))
  refine .p (nC rfl rfl (fZ rfl iQ rfl (lN rfl cX rfl (Rd.own .here mD) ?_)))
  refine kV rfl aKp (aB rfl aF) (aE2 _ _) ?_
  refine kc rfl aKq (aB rfl (aB rfl (aB rfl (aB rfl aF)))) (aE5 (gX root (cC h)) (gY root (cC h)) _ (cC h) ha L55 hR45 _ hsa hsR45 hK (by omega) (by omega)) ?_
  rintro _ G83 μ83 hG83 ⟨v83,L83,e83,hO83,rfl,rfl⟩
  have hs:=hs.mono hG83
  have hsq:=hsq.mono hG83
  have hA:=hA.mono hG83
  have hsR45:=hsR45.mono hG83
  refine .p (eX rfl rfl rfl (eX rfl rfl rfl (aS rfl rfl (aS rfl rfl (.nc (.seq ?_))))))
  refine iP .here (oK .here rfl (oK .here rfl (wR))) ?_; intro GfR83 hR83 hleR83 evR83 hsR83; subst evR83
  have hs:=hs.mono hleR83
  have hsq:=hsq.mono hleR83
  have hA:=hA.mono hleR83
  have hsR45:=hsR45.mono hleR83
  refine .g (nC rfl rfl (fZ rfl iQ rfl (s1 rfl (.u rfl) (.u rfl) rfl nH .here (by (try rw [nS]); decide) (xE) ?_)))
  refine .g (nC rfl rfl (fZ rfl oB rfl (fA rfl oA rfl (lN rfl qX rfl (Rd.own .here aBr) ?_))))
  refine mV rfl rfl ?_
  refine Go.Tan.b1 rfl jB mR (.u rfl) rfl rfl (by decide) ?_; intro b96
  refine eC (xs:=ps) ((hR83,L83)) rfl jB mR rfl (.u rfl) (.u rfl) aN .here (rfl) (one1 rfl) (by omega) (by unfold maxLen; omega) ?_; intro v97 ov97
  refine nC rfl rfl (fZ rfl oB rfl (fA rfl oA rfl (dE rfl (.u rfl) (.u rfl) .here aEv aN (by (try rw [nS]); decide) (aIF) ?_)))
  refine .g (cP rfl rfl rfl rfl (aS rfl rfl (.nc (.ret ?_))))
  rcases hO83 with ⟨ho,rfl⟩ | ⟨ho,rfl,rfl⟩
  ·refine We.fin Tryz.results32 (.tmp rfl .nil) (mS .here rfl (mS .here rfl mN)) ?_
   refine .inr ⟨[],ps++[(hR83,L83)],⟨none,0⟩,v97,?_,rfl,rfl,SlR.nul,fun _=>rfl,aCE hA hsR83,by simp,by simp⟩
   rw [eL55'] at ho
   have ho':jX root h (ps.map (·.2)).length (parts++p)=some L83:=by rw [List.length_map]; exact ho
   rw [aB5 (.inr ⟨(fR (n:=4) (by decide)).1 c6,eo.symm.trans c7⟩),ho',List.map_append]; rfl
  refine aM Tryz.results32 (.tmp rfl .nil) ?_
  refine .inl ⟨?_,rfl,rfl⟩
  rw [eL55'] at ho
  have ho':jX root h (ps.map (·.2)).length (parts++p)=none:=by rw [List.length_map]; exact ho
  rw [aB5 (.inr ⟨(fR (n:=4) (by decide)).1 c6,eo.symm.trans c7⟩),ho']; rfl
 have c6k:=c6
 try simp only [aC,aG,aD] at c6
 refine .g (cP rfl rfl rfl rfl (.g (cD rfl (fun c8=>?_) (fun c8=>?_))))
 ·have c8k:=c8
  try simp only [aC,aG,aD] at c8
  refine .g (nC rfl rfl (fZ rfl iQ rfl (lN rfl cX rfl (Rd.own .here mD) ?_)))
  refine xR rfl .no bU (.u rfl) (.u rfl) ?_
  refine .g (cD rfl (fun c9=>?_) (fun c9=>?_))
  ·have c9k:=c9
   try simp only [aC,aG,aD] at c9
   refine .seq (aL rfl rfl (aS rfl rfl (.nc (.ret (aM Tryz.results32 (.tmp rfl .nil) ?_)))))
   exact .inl ⟨aJR ((fR (n:=3) (by decide)).1 c8) (.inl (eo.symm.trans c9)),rfl,rfl⟩
  have c9k:=c9
  try simp only [aC,aG,aD] at c9
  refine .g (nt rfl .no (.u rfl) (mV rfl rfl (mv rfl (.t rfl rfl) (.u rfl) (ln rfl (.t rfl rfl) bU (.s rfl) (cp rfl (.t rfl rfl) (.s rfl) (.u rfl) rfl (bR rfl .no (.u rfl) (.s rfl) (.g (cD rfl (fun c10=>?_) (fun c10=>?_)))))))))
  ·have c10k:=c10
   try simp only [aC,aG,aD] at c10
   refine .seq (aL rfl rfl (aS rfl rfl (.nc (.ret (aM Tryz.results32 (.tmp rfl .nil) ?_)))))
   exact .inl ⟨aJR ((fR (n:=3) (by decide)).1 c8) (.inr (by omega)),rfl,rfl⟩
  have c10k:=c10
  try simp only [aC,aG,aD] at c10
  refine .g (nC rfl rfl (fZ rfl iQ rfl (lN rfl cX rfl (Rd.own .here mD) ?_)))
  refine lE rfl bU rfl (.p (lE rfl bU rfl (aW (((parts.length+p.length):Nat):Int) rfl rfl rfl rfl ?_)))
  refine wW ((parts.length+p.length)) ((parts.length+p.length)) rfl aI bF (.u rfl) (.u rfl) (by first|rfl|omega) (by first|rfl|omega) (by omega) (by omega) ?_; intro b45
  have lR45:(List.replicate ((parts.length+p.length)) (0#8:Y)).length=(parts.length+p.length):=List.length_replicate
  refine .g (nC rfl rfl (fZ rfl iQ rfl (lN rfl cX rfl (Rd.own aE mD) ?_)))
  refine sO rfl aI (.u rfl) (.u rfl) .here hsq.sc (by omega) (by omega) ?_; intro L52 eL52 lL52
  refine slr (parts.length) rfl aI (.u rfl) (.u rfl) (by omega) (by omega) (by omega) (by omega) ?_
  refine mV rfl rfl ?_
  refine sO rfl aI (.u rfl) (.u rfl) .here hs.sc (by omega) (by omega) ?_; intro L55 eL55 lL55
  refine .nil ?_
  have eL55':L55=parts++p:=aBH eL52 eL55 (by omega)
  refine .code (.seq ?_)
  refine iP .here (oK .here rfl (oK .here rfl (wR))) ?_; intro GfR45 hR45 hleR45 evR45 hsR45; try rw [ evR45]
  have hA:=hA.mono hleR45
  refine .g (nC rfl rfl (fZ rfl iQ rfl (s1 rfl (.u rfl) (.u rfl) rfl nH .here (by (try rw [nS]); decide) (xE) ?_)))
  refine .g (nt rfl .no (.u rfl) (.g (jQ rfl rfl ?_)))
  refine .seq (aL rfl rfl (aS rfl rfl (.nc (.ret (We.fin Tryz.results32 (.tmp rfl .nil) (mS .here rfl (mS .here rfl mN)) ?_)))))
  have q5:¬ ((p.length:Int)<128):=by simpa using c10k
  exact .inr ⟨L55,ps,hR45,vr,by rw [aJN (.inr ⟨(fR (n:=3) (by decide)).1 c8,eo.symm.trans c9⟩) (by omega),eL55'],rfl,rfl,hsR45,fun e=>aHP hp0 (eL55'.symm.trans e),hA,by omega,by omega⟩
 have c8k:=c8
 try simp only [aC,aG,aD] at c8
 refine .skip (.code (.exit (.xnot rfl (.xcode (.xnot rfl (.xcode (.xnot rfl (.xcode (.xnot rfl (.xcode (.xblk (.code (.seq (.seq (aL rfl rfl (aS rfl rfl (.nc (.ret (aM Tryz.results32 (.tmp rfl .nil) ?_)))))))))))))))))))
 exact .inl ⟨aRl (fun e=>c1 ((fR (n:=1) (by decide)).2 e)) (fun e=>c3 ((fR (n:=2) (by decide)).2 e)) (fun e=>c8 ((fR (n:=3) (by decide)).2 e)) (fun e=>c6 ((fR (n:=4) (by decide)).2 e)),rfl,rfl⟩
theorem aRk (root:Nat→Y) (h:Hd) (kind:Y) (p:List Y) (hp:Sh) (parts:List Y) (sp:Sh) (ps:List (Sh×List Y)) (vr:Value) (ha:Sh) (b:Nat) (used:Int) (G:PM) (hs:SlR G 1 aQ hp p) (hsq:SlR G 1 aQ sp parts) (h0:parts=[]→sp=⟨none,0⟩) (hA:AllS G ps) (hsa:SlR G 1 aQ ha (cC h)) (hK:RdNP G 1 0 (wa 64 kW)) (hp0:0<p.length) (hl:parts.length+p.length≤10000000000000) (hn:ps.length≤100000000) (hq:fN (jX root h) parts (ps.map (·.2)) kind p=none):Ct Tryz.prog 32 ([.pointer (some ⟨b,0,none⟩),V kind,hp.val p.length]:List Value).toArray G [.blk b (cl (eK (gX root (cC h)) (gY root (cC h)) (ha.val (cC h).length) h vr used false (sp.val parts.length)) 83),rS 1 oH vr 24 ps] (fun _ μ' u=>u=.bool false∧μ'=[]) :=
 (aJS root h kind p hp parts sp ps vr ha b used G hs hsq h0 hA hsa hK hp0 hl hn).mono fun G' μ' u hh=>by
  rcases hh with ⟨_,h1,h2⟩ | ⟨Q,ps',sQ,vr',h1,_⟩
  ·exact ⟨h1,h2⟩
  ·rw [hq] at h1; cases h1
theorem aRn (root:Nat→Y) (h:Hd) (kind:Y) (p:List Y) (hp:Sh) (parts:List Y) (sp:Sh) (ps:List (Sh×List Y)) (vr:Value) (ha:Sh) (b:Nat) (used:Int) (G:PM) (hs:SlR G 1 aQ hp p) (hsq:SlR G 1 aQ sp parts) (h0:parts=[]→sp=⟨none,0⟩) (hA:AllS G ps) (hsa:SlR G 1 aQ ha (cC h)) (hK:RdNP G 1 0 (wa 64 kW)) (hp0:0<p.length) (hl:parts.length+p.length≤10000000000000) (hn:ps.length≤100000000) {Q:List Y} {R:List (List Y)} (hq:fN (jX root h) parts (ps.map (·.2)) kind p=some (Q,R)):Ct Tryz.prog 32 ([.pointer (some ⟨b,0,none⟩),V kind,hp.val p.length]:List Value).toArray G [.blk b (cl (eK (gX root (cC h)) (gY root (cC h)) (ha.val (cC h).length) h vr used false (sp.val parts.length)) 83),rS 1 oH vr 24 ps]
  (fun G' μ' u=>∃ ps' sQ vr',R=ps'.map (·.2)∧u=.bool true∧μ'=[.blk b (cl (eK (gX root (cC h)) (gY root (cC h)) (ha.val (cC h).length) h vr' used false (sQ.val Q.length)) 83),rS 1 oH vr' 24 ps']∧SlR G' 1 aQ sQ Q∧(Q=[]→sQ=⟨none,0⟩)∧AllS G' ps'∧ps'.length≤ps.length+1∧Q.length≤parts.length+p.length) :=
 (aJS root h kind p hp parts sp ps vr ha b used G hs hsq h0 hA hsa hK hp0 hl hn).mono fun G' μ' u hh=>by
  rcases hh with ⟨h1,_⟩ | ⟨Q',ps',sQ,vr',h1,h2,h3,h4,h5,h6,h7,h8⟩
  ·rw [hq] at h1; cases h1
  ·rw [hq] at h1
   simp only [Option.some.injEq,Prod.mk.injEq] at h1
   obtain ⟨rfl,rfl⟩:=h1
   exact ⟨ps',sQ,vr',rfl,h2,h3,h4,h5,h6,h7,h8⟩
theorem aTz:dL Tryz.prog 83=some 74:=by kernel_rfl
theorem aKI:eS Tryz.prog 56 [0,2]=some ([V 0#8,V 0#8,uv .u64 0#64,uv .u64 0#64,uv .u64 0#64,.slice none 0 0,.int .i64 0,.bool false],[(0,5),(6,1)]):=by kernel_rfl
theorem aSh:eS Tryz.prog 83 [0,1,2]=some (ba 32 zF++ba 32 zF++[.slice none 0 0,V 0#8,V 0#8,uv .u64 0#64,uv .u64 0#64,uv .u64 0#64,.slice none 0 0,.int .i64 0,.bool false,.slice none 0 0],[(0,64),(64,1),(65,8)]):=by kernel_rfl
theorem aT3:iD Tryz.prog 83=some (ba 32 zF++ba 32 zF++[.slice none 0 0,V 0#8,V 0#8,uv .u64 0#64,uv .u64 0#64,uv .u64 0#64,.slice none 0 0,.int .i64 0,.bool false,.slice none 0 0]):=by kernel_rfl
theorem uB:cO Tryz.prog 56 2=some 6:=by kernel_rfl
theorem yM:cO Tryz.prog 56 3=some 7:=by kernel_rfl
theorem aEm:aU Tryz.prog 30=true:=by kernel_rfl
theorem aKj:aU Tryz.prog 32=true:=by kernel_rfl
theorem aBC {h h':Hd} {v v':Value} {u u':Int} {t t':Bool} (e1:h=h') (e2:v=v') (e3:u=u') (e4:t=t'):([V h.kind,V h.level,uv .u64 h.gen,uv .u64 h.epoch,uv .u64 h.num,v,.int .i64 u,.bool t]:List Value)=[V h'.kind,V h'.level,uv .u64 h'.gen,uv .u64 h'.epoch,uv .u64 h'.num,v',.int .i64 u',.bool t']:=by rw [e1,e2,e3,e4]
theorem three {α β γ:Type} [DecidableEq α] (A B:α) (o:Option (β×γ)):A≠B∨(A=B∧o=none)∨(A=B∧∃ Q R,o=some (Q,R)):=by
 by_cases h:A=B
 ·rcases o with _ | ⟨Q,R⟩
  ·exact .inr (.inl ⟨h,rfl⟩)
  ·exact .inr (.inr ⟨h,Q,R,rfl⟩)
 ·exact .inl h
theorem sh8 {m:Nat} (h:m<256):IntKind.i64.wrap ((m:Int)*2^(min (8:Int).toNat IntKind.i64.bits))=((256*m:Nat):Int):=by
 rw [show min (8:Int).toNat IntKind.i64.bits=8 from rfl,show (2:Int)^8=256 from rfl,bO (by omega) (by omega)]; omega
theorem aBp {op:Nat→List Y→Option (List Y)} {tot:Nat} {r parts p Q r':List Y} {recs R:List (List Y)} {used n u:Nat} {X:Option (List (List Y)×Nat)} (eB:X=dT op tot r parts recs used) (h:¬ r.length<7) (en:n=cH r) (hn:¬ (n=0∨128<n)) (ht:¬ r.length<7+n) (ep:p=(r.drop 7).take n) (hf:dG (r.getD 6 0) p=r.take 7)
  (hT:fN op parts recs (r.getD 6 0) p=some (Q,R)) (er:r'=r.drop (7+n)) (eu:u=if Q.isEmpty then tot-r'.length else used):X=dT op tot r' Q R u:=by
 rw [eB,vC h en hn ht ep hf,hT,er,eu,er]
theorem aR5 (root:Nat→Y) (xs:List Y) (hx:Sh) (G:PM) (hs:SlR G 1 aQ hx xs) (hK:RdNP G 1 0 (wa 64 kW)) (hm:xs.length≤100000000):Ct Tryz.prog 14 ([.agg (ba 32 root).toArray,hx.val xs.length]:List Value).toArray G [] (fun G' μ' u=>∃ s ps,SlP G' s ps∧ps.map (·.2)=(bW root xs).1.recs∧μ'=[]∧u=.tuple #[.agg ([V (bW root xs).1.hd.kind,V (bW root xs).1.hd.level,uv .u64 (bW root xs).1.hd.gen,uv .u64 (bW root xs).1.hd.epoch,uv .u64 (bW root xs).1.hd.num,(s.val ps.length),.int .i64 ((bW root xs).1.used:Int),.bool (bW root xs).1.torn]:List Value).toArray,.int .i64 (bW root xs).2]):=by
 refine Ct.of Tryz.func14 rfl Tryz.ntmps14 rfl fun w0 hs0=>?_
 refine .seq (dU rfl rfl ?_)
 refine bX rfl rfl rfl ?_; intro b2
 refine al rfl aAu ?_; intro b4
 refine .g (lE rfl bU rfl (cP rfl rfl rfl rfl (.g (cD rfl (fun c1=>?_) (fun c1=>?_)))))
 ·have c1k:=c1
  try simp only [aC,aG,aD] at c1
  refine .g (bC rfl .no aKJ (.cons (.u rfl) rfl .nil) rfl ?_)
  refine sw rfl (.u rfl) (.u rfl) rfl kF .here (by first|exact qE|exact qL|rfl) (jW rfl rfl rfl rfl rfl rfl rfl rfl) ?_
  refine aS rfl rfl (.nc (.ret (aM Tryz.results14 (.cell rfl (fun w hw=>bI jM (RdN.own .here) ((by first|exact qE|exact qL|rfl)) hw) (.tmp rfl .nil)) ?_)))
  refine ⟨⟨none,0⟩,[],pE,by rw [xH (by omega)]; rfl,rfl,?_⟩
  rw [xH (by omega)]; rfl
 have c1k:=c1
 try simp only [aC,aG,aD] at c1
 refine .g (kV rfl aTH (aB rfl aF) (aLJ xs hx _ hs (by omega)) ?_)
 refine .p (eX rfl rfl rfl (eX rfl rfl rfl ?_))
 refine al rfl yV ?_; intro b6
 refine sw rfl (.u rfl) (.u rfl) rfl qC .here (by first|exact qE|exact qL|rfl) (pR rfl rfl rfl rfl rfl) ?_
 refine .g (cP rfl rfl rfl rfl (.g (cD rfl (fun c2=>?_) (fun c2=>?_))))
 ·have c2k:=c2
  try simp only [aC,aG,aD] at c2
  refine .g (bC rfl .no sF .nil rfl ?_)
  refine .p (sw rfl (.u rfl) (.u rfl) rfl kF aE (by first|exact qE|exact qL|rfl) (jW rfl rfl rfl rfl rfl rfl rfl rfl) ?_)
  refine aS rfl rfl (.nc (.ret (aM Tryz.results14 (.cell rfl (fun w hw=>bI jM (RdN.own .here) ((by first|exact qE|exact qL|rfl)) hw) (.tmp rfl .nil)) ?_)))
  refine ⟨⟨none,0⟩,[],pE,by rw [xG (by omega) c2]; rfl,rfl,?_⟩
  rw [xG (by omega) c2]; rfl
 have c2k:=c2
 try simp only [aC,aG,aD] at c2
 refine .g (bA (mc:=⟨false,false⟩) [0,1,3,5,6,2,4,7,8,9] aX (by kernel_rfl) ?_)
 refine lB rfl dY rfl aN ?_
 refine lB rfl gO rfl .here ?_
 refine lB rfl gO rfl .here ?_
 refine lB rfl gO rfl .here ?_
 refine dK ([V (bY xs).1.kind,V (bY xs).1.level,uv .u64 (bY xs).1.gen,uv .u64 (bY xs).1.epoch,uv .u64 (bY xs).1.num,.slice none 0 0,.int .i64 30,.bool false]) rfl .no aKI (.cons (.u rfl) rfl (.cons (.u rfl) rfl .nil)) rfl (rfl) (kV rfl aTI (aB rfl (aB rfl aF)) (aK3 root (bY xs).1 _ hK) ?_)
 refine kc rfl aCS (aB rfl aF) (Ct.frzB (aBh (bY xs).1 _)) ?_
 rintro _ G29 μ29 hG29 ⟨h29,L29,eL29,rfl,rfl,hs29⟩
 have hs:=hs.mono hG29
 have hK:=hK.mono hG29
 refine dK (eK (gX root (cC (bY xs).1)) (gY root (cC (bY xs).1)) (h29.val L29.length) (bY xs).1 (.slice none 0 0) 30 false (.slice none 0 0)) rfl .no aSh (.cons (.u rfl) rfl (.cons (.u rfl) rfl (.cons (.u rfl) rfl .nil))) (aPf aII iK rfl) (aPe rfl iK _ _ rfl) ?_
 refine al rfl aT3 ?_; intro b8
 refine sw rfl (.u rfl) (.u rfl) rfl (by rw [nS]; exact aTz) .here (nS.trans aII.symm) (aPh rfl rfl rfl) ?_
 refine .nil ?_
 subst eL29
 have lh:=lD (bY xs).1
 refine .code (.seq (nW 1 oH 24 (.g (kD (30) rfl .no aI hs (.u rfl) (.u rfl) (by omega) (by omega) ?_))))
 intro h34 L34 eL34 lL34 hs34
 have lL34:=lL34 rfl
 refine aS rfl rfl (.nc (.seq (.block ?_)))
 refine aV (α:=List Y×Sh×List Y×Sh×List (Sh×List Y)×Value×Nat) (fun gh=>[(9,true,gh.2.1.val gh.1.length)]) (fun gh=>[rS 1 oH gh.2.2.2.2.2.1 24 gh.2.2.2.2.1,.blk b8 (cl (eK (gX root (cC (bY xs).1)) (gY root (cC (bY xs).1)) (h29.val (cC (bY xs).1).length) (bY xs).1 gh.2.2.2.2.2.1 (gh.2.2.2.2.2.2:Int) false (gh.2.2.2.1.val gh.2.2.1.length)) 83)])
  (fun gh Gl=>(SlR Gl 1 aQ gh.2.1 gh.1)∧(SlR Gl 1 aQ gh.2.2.2.1 gh.2.2.1)∧(AllS Gl gh.2.2.2.2.1)∧(gh.2.2.1=[]→gh.2.2.2.1=⟨none,0⟩)∧(sN root (bY xs).1 xs=dT (jX root (bY xs).1) xs.length gh.1 gh.2.2.1 (gh.2.2.2.2.1.map (·.2)) gh.2.2.2.2.2.2)∧(gh.2.2.2.2.1.length+gh.1.length≤xs.length)∧(gh.2.2.1.length+gh.1.length≤xs.length)) (fun gh=>gh.1.length) (L34,h34,[],⟨none,0⟩,[],.slice none 0 0,30) [(1,true,_),(4,true,_),(8,true,_)] [_,_,_]
  (aA rfl (aA rfl (aA rfl (aA rfl eZ))))
  (mS .here rfl (mS .here rfl (mS .here rfl (mS .here rfl (mS .here rfl mN))))) ?_ ?_
 ·refine ⟨?_,?_,?_,?_,?_,?_,?_⟩
  ·(try dsimp only)<;>(exact hs34)
  ·(try dsimp only)<;>(exact SlR.nul)
  ·(try dsimp only)<;>(exact AllS.nil)
  ·(try dsimp only)<;>(exact fun _=>rfl)
  ·(try dsimp only)<;>(rw [eL34]; rfl)
  ·(try dsimp only)<;>(simp; omega)
  (try dsimp only)<;>(simp; omega)
 intro gh N0 Gl0 hN0 hGl0 hF0
 obtain ⟨M,r,Q,sQ,ps,vr,used⟩:=gh; dsimp only at hF0 hN0 ⊢
 obtain ⟨hr,hq,hA,h0,eB,hps,hQ⟩:=hF0
 have hK:=hK.mono hGl0
 have hs29:=hs29.mono hGl0
 refine .g (lE rfl bU rfl (cP rfl rfl rfl rfl (.g (cD rfl (fun c3=>?_) (fun c3=>?_)))))
 ·have c3k:=c3
  try simp only [aC,aG,aD] at c3
  refine .g (bA (mc:=⟨false,false⟩) [0,1,2,3,4,5,6,7,8,9,10] aX (by kernel_rfl) ?_)
  refine mV rfl rfl (ih rfl .no aI (.u rfl) (.u rfl) (by omega) (by omega) (fun _=>hr.nn (k:=4) (by omega)) ?_)
  refine lN rfl aZ rfl ((hr.yat (4) (by omega) (by omega)).rd) ?_
  refine cn (k:=.u8) rfl .no vY (by decide) (.u rfl) ?_; intro m41 em41 lm41
  refine mV rfl rfl (ih rfl .no aI (.u rfl) (.u rfl) (by omega) (by omega) (fun _=>hr.nn (k:=5) (by omega)) ?_)
  refine lN rfl aZ rfl ((hr.yat (5) (by omega) (by omega)).rd) ?_
  refine cn (k:=.u8) rfl .no vY (by decide) (.u rfl) ?_; intro m45 em45 lm45
  refine sl rfl .no (.u rfl) (.u rfl) (fun _=>by decide) ?_
  have lm41:m41<256:=lm41
  have lm45:m45<256:=lm45
  refine aOX (m41) (m45) rfl .no (.u rfl) (.u rfl) (fun _=>rfl) (fun _=>sh8 lm45) (by omega) (by omega) ?_
  refine aS rfl rfl (.nil ?_)
  have en:m41+256*m45=cH M:=by rw [em41,em45]; rfl
  refine .g (cP rfl rfl rfl rfl (mV rfl rfl (mv rfl (.f rfl rfl) (.u rfl) (cp rfl (.f rfl rfl) (.s rfl) (.u rfl) rfl (cK rfl .no (.u rfl) (.s rfl) (.g (cD rfl (fun c4=>?_) (fun c4=>?_))))))))
  ·have c4k:=c4
   try simp only [aC,aG,aD] at c4
   refine .g (bC rfl .no sF .nil rfl ?_)
   refine sw rfl (.u rfl) (.u rfl) rfl kF bB (by first|exact qE|exact qL|rfl) (jW rfl rfl rfl rfl rfl rfl rfl rfl) ?_
   refine aS rfl rfl (.nc (.ret (aM Tryz.results14 (.cell rfl (fun w hw=>bI jM (RdN.own .here) ((by first|exact qE|exact qL|rfl)) hw) (.tmp rfl .nil)) ?_)))
   refine ⟨⟨none,0⟩,[],pE,by rw [mE (by omega) c2 (eB.trans (aAE (by omega) (by omega)))]; rfl,rfl,?_⟩
   rw [mE (by omega) c2 (eB.trans (aAE (by omega) (by omega)))]; rfl
  have c4k:=c4
  try simp only [aC,aG,aD] at c4
  refine .g (lE rfl bU rfl (.p (cQ (((7+(m41+256*m45)):Nat):Int) rfl .no (.u rfl) (.u rfl) rfl (by omega) (fun _=>bO (by omega) (by omega)) ?_)))
  refine cP rfl rfl rfl rfl (.g (cD rfl (fun c5=>?_) (fun c5=>?_)))
  ·have c5k:=c5
   try simp only [aC,aG,aD] at c5
   refine .exit (.xcode (.xnot rfl (.xlp (.xblk (.code (.seq ?_))))))
   refine mK .here (fun _ _=>rfl) (by intro b hb; cases hb) ?_; intro GfRR hRR hleRR evRR hsRR; subst evRR
   have hK:=hK.mono hleRR
   have hs29:=hs29.mono hleRR
   have hr:=hr.mono hleRR
   have hq:=hq.mono hleRR
   have hA:=hA.mono hleRR
   have hsRR:=SlP.of hsRR hA
   refine .g (fZ rfl oB rfl (fA rfl uB rfl (lN rfl dH rfl (Rd.own .here aIE) ?_)))
   refine .p (lE rfl bU rfl (cP rfl rfl rfl rfl (fZ rfl oB rfl (fA rfl yM rfl (s1 rfl (.u rfl) (.u rfl) rfl aA0 .here (by (try rw [nS]); decide) (aIG) ?_)))))
   refine .g (fZ rfl oB rfl (lA rfl .no jM (.u rfl) (fun _=>RdN.part (n:=8) (cs':=[V (bY xs).1.kind,V (bY xs).1.level,uv .u64 (bY xs).1.gen,uv .u64 (bY xs).1.epoch,uv .u64 (bY xs).1.num,(hRR.val ps.length),.int .i64 (used:Int),.bool (decide ((used:Int)<(xs.length:Int)))]) .here (aID)) (fun _=>rfl) (sw rfl (.u rfl) (.u rfl) rfl kF aN (by first|exact qE|exact qL|rfl) (jW rfl rfl rfl rfl rfl rfl rfl rfl) ?_)))
   refine aS rfl rfl (.nc (.ret (aM Tryz.results14 (.cell rfl (fun w hw=>bI jM (RdN.own .here) ((by first|exact qE|exact qL|rfl)) hw) (.tmp rfl .nil)) ?_)))
   have E:=xI (root:=root) (by omega) c2 (eB.trans (aBq (by omega) (by omega) (by omega)))
   refine ⟨hRR,ps,hsRR,by rw [E],rfl,?_⟩
   rw [E]
   exact congrArg (fun z=>Value.tuple #[.agg (List.toArray z),.int .i64 0]) (aBC rfl rfl rfl (by simp))
  have c5k:=c5
  try simp only [aC,aG,aD] at c5
  refine .g (cQ (((7+(m41+256*m45)):Nat):Int) rfl .no (.u rfl) (.u rfl) rfl (by omega) (fun _=>bO (by omega) (by omega)) ?_)
  refine kS (7) ((7+(m41+256*m45))) rfl .no aI hr (.u rfl) (.u rfl) (.u rfl) (by omega) (by omega) (by omega) (by omega) ?_
  intro h63 L63 eL63 lL63 hs63
  have lL63:=lL63 rfl
  refine aS rfl rfl (.nil ?_)
  have eP:L63=(M.drop 7).take (m41+256*m45):=by rw [eL63]; congr 1; omega
  refine .code (.seq (.seq ?_))
  rcases three (dG (M.getD 6 0) L63) (M.take 7) (fN (jX root (bY xs).1) Q (ps.map (·.2)) (M.getD 6 0) L63) with hf | ⟨hf,hT⟩ | ⟨hf,Q2,R2,hT⟩
  ·refine bA (mc:=⟨true,false⟩) [0,1,2,3,5,6,4,7,8,9,10,11,12,13,14,15,16] aX (by kernel_rfl) ?_
   refine mV rfl rfl (ih rfl .no aI (.u rfl) (.u rfl) (by omega) (by omega) (fun _=>hr.nn (k:=6) (by omega)) ?_)
   refine lN rfl aZ rfl ((hr.yat (6) (by omega) (by omega)).rd) ?_
   refine .p (kE (7) rfl .no aI hr (.u rfl) (.u rfl) (by omega) (by omega) ?_)
   intro h70 L70 eL70 lL70 hs70
   have lL70:=lL70 rfl
   refine kc rfl aEn (aB rfl (aB rfl aF)) (Ct.frzB (aEQ (M.getD 6 0) L63 h63 _ hs63 (by omega))) ?_
   rintro _ G68 μ68 hG68 ⟨h68,L68,eL68,rfl,rfl,hs68⟩
   have hK:=hK.mono hG68
   have hs29:=hs29.mono hG68
   have hr:=hr.mono hG68
   have hq:=hq.mono hG68
   have hA:=hA.mono hG68
   have hs63:=hs63.mono hG68
   have hs70:=hs70.mono hG68
   refine kV rfl aEm (aB rfl (aB rfl aF)) (aD5 L68 L70 h68 h70 _ hs68 hs70 (by rw [show L68=dG (M.getD 6 0) L63 from eL68,kY]; decide)) ?_
   refine fT false (decide_eq_false (by rw [eL68,eL70]; exact hf)) ?_
   refine nt rfl .no (.u rfl) (mV rfl rfl (eH (.bool false) rfl rfl (Gd.f (b:=true) rfl rfl) ?_))
   refine eH (.bool false) rfl rfl (Gd.f (b:=true) rfl rfl) ?_
   refine iB (.bool false) rfl rfl (Gd.f (b:=true) rfl rfl) ?_
   refine eH (.bool false) rfl rfl (Gd.f (b:=true) rfl rfl) ?_
   refine ska (.bool false) rfl rfl (Gd.f (b:=true) rfl rfl) ?_
   refine eH (.bool false) rfl rfl (Gd.f (b:=true) rfl rfl) ?_
   refine cK rfl .no (.u rfl) (.s rfl) (.g (jQ rfl rfl ?_))
   refine .g (bC rfl .no sF .nil rfl ?_)
   refine sw rfl (.u rfl) (.u rfl) rfl kF bB (by first|exact qE|exact qL|rfl) (jW rfl rfl rfl rfl rfl rfl rfl rfl) ?_
   refine aS rfl rfl (.nc (.ret (aM Tryz.results14 (.cell rfl (fun w hw=>bI jM (RdN.own .here) ((by first|exact qE|exact qL|rfl)) hw) (.tmp rfl .nil)) ?_)))
   refine ⟨⟨none,0⟩,[],pE,by rw [mE (by omega) c2 (eB.trans (xD (by omega) (by omega) (by omega) (.inl (by rw [← en,←eP]; exact hf))))]; rfl,rfl,?_⟩
   rw [mE (by omega) c2 (eB.trans (xD (by omega) (by omega) (by omega) (.inl (by rw [← en,←eP]; exact hf))))]; rfl
  ·refine bA (mc:=⟨true,false⟩) [0,1,2,3,5,6,4,7,8,9,10,11,12,13,14,15,16] aX (by kernel_rfl) ?_
   refine mV rfl rfl (ih rfl .no aI (.u rfl) (.u rfl) (by omega) (by omega) (fun _=>hr.nn (k:=6) (by omega)) ?_)
   refine lN rfl aZ rfl ((hr.yat (6) (by omega) (by omega)).rd) ?_
   refine .p (kE (7) rfl .no aI hr (.u rfl) (.u rfl) (by omega) (by omega) ?_)
   intro h70 L70 eL70 lL70 hs70
   have lL70:=lL70 rfl
   refine kc rfl aEn (aB rfl (aB rfl aF)) (Ct.frzB (aEQ (M.getD 6 0) L63 h63 _ hs63 (by omega))) ?_
   rintro _ G68 μ68 hG68 ⟨h68,L68,eL68,rfl,rfl,hs68⟩
   have hK:=hK.mono hG68
   have hs29:=hs29.mono hG68
   have hr:=hr.mono hG68
   have hq:=hq.mono hG68
   have hA:=hA.mono hG68
   have hs63:=hs63.mono hG68
   have hs70:=hs70.mono hG68
   refine kV rfl aEm (aB rfl (aB rfl aF)) (aD5 L68 L70 h68 h70 _ hs68 hs70 (by rw [show L68=dG (M.getD 6 0) L63 from eL68,kY]; decide)) ?_
   refine fT true (decide_eq_true (by rw [eL68,eL70]; exact hf)) ?_
   refine nt rfl .no (.u rfl) (mV rfl rfl (mv rfl (Gd.f (b:=false) rfl rfl) (.u rfl) (ih rfl (Gd.f (b:=false) rfl rfl) aI (.u rfl) (.u rfl) (by omega) (by omega) (fun _=>hr.nn (k:=6) (by omega)) ?_)))
   refine ld rfl (Gd.f (b:=false) rfl rfl) aZ (.u rfl) (fun _=>(hr.yat (6) (by omega) (by omega)).rd) ?_
   refine mv rfl (Gd.f (b:=false) rfl rfl) (.u rfl) (kag rfl (Gd.f (b:=false) rfl rfl) (.inl rfl) aKj (aB rfl (aB rfl (aB rfl aF))) (gT aE .here) (aRk root (bY xs).1 (M.getD 6 0) L63 h63 Q sQ ps vr h29 b8 (used:Int) _ hs63 hq h0 hA hs29 hK (by omega) (by omega) (by omega) hT) ?_)
   rintro _ G78 μ78 hG78 ⟨rfl,rfl⟩
   have hK:=hK.mono hG78
   have hs29:=hs29.mono hG78
   have hr:=hr.mono hG78
   have hq:=hq.mono hG78
   have hA:=hA.mono hG78
   have hs63:=hs63.mono hG78
   have hs70:=hs70.mono hG78
   have hs68:=hs68.mono hG78
   refine nt rfl (Gd.f (b:=false) rfl rfl) (.u rfl) (cK rfl .no (.u rfl) (.u rfl) (.g (jQ rfl rfl ?_)))
   refine .g (bC rfl .no sF .nil rfl ?_)
   refine sw rfl (.u rfl) (.u rfl) rfl kF aE (by first|exact qE|exact qL|rfl) (jW rfl rfl rfl rfl rfl rfl rfl rfl) ?_
   refine aS rfl rfl (.nc (.ret (aM Tryz.results14 (.cell rfl (fun w hw=>bI jM (RdN.own .here) ((by first|exact qE|exact qL|rfl)) hw) (.tmp rfl .nil)) ?_)))
   refine ⟨⟨none,0⟩,[],pE,by rw [mE (by omega) c2 (eB.trans ((vC (by omega) en (by omega) (by omega) eP hf).trans (by rw [hT])))]; rfl,rfl,?_⟩
   rw [mE (by omega) c2 (eB.trans ((vC (by omega) en (by omega) (by omega) eP hf).trans (by rw [hT])))]; rfl
  refine bA (mc:=⟨true,false⟩) [0,1,2,3,5,6,4,7,8,9,10,11,12,13,14,15,16] aX (by kernel_rfl) ?_
  refine mV rfl rfl (ih rfl .no aI (.u rfl) (.u rfl) (by omega) (by omega) (fun _=>hr.nn (k:=6) (by omega)) ?_)
  refine lN rfl aZ rfl ((hr.yat (6) (by omega) (by omega)).rd) ?_
  refine .p (kE (7) rfl .no aI hr (.u rfl) (.u rfl) (by omega) (by omega) ?_)
  intro h70 L70 eL70 lL70 hs70
  have lL70:=lL70 rfl
  refine kc rfl aEn (aB rfl (aB rfl aF)) (Ct.frzB (aEQ (M.getD 6 0) L63 h63 _ hs63 (by omega))) ?_
  rintro _ G68 μ68 hG68 ⟨h68,L68,eL68,rfl,rfl,hs68⟩
  have hK:=hK.mono hG68
  have hs29:=hs29.mono hG68
  have hr:=hr.mono hG68
  have hq:=hq.mono hG68
  have hA:=hA.mono hG68
  have hs63:=hs63.mono hG68
  have hs70:=hs70.mono hG68
  refine kV rfl aEm (aB rfl (aB rfl aF)) (aD5 L68 L70 h68 h70 _ hs68 hs70 (by rw [show L68=dG (M.getD 6 0) L63 from eL68,kY]; decide)) ?_
  refine fT true (decide_eq_true (by rw [eL68,eL70]; exact hf)) ?_
  refine nt rfl .no (.u rfl) (mV rfl rfl (mv rfl (Gd.f (b:=false) rfl rfl) (.u rfl) (ih rfl (Gd.f (b:=false) rfl rfl) aI (.u rfl) (.u rfl) (by omega) (by omega) (fun _=>hr.nn (k:=6) (by omega)) ?_)))
  refine ld rfl (Gd.f (b:=false) rfl rfl) aZ (.u rfl) (fun _=>(hr.yat (6) (by omega) (by omega)).rd) ?_
  refine mv rfl (Gd.f (b:=false) rfl rfl) (.u rfl) (kag rfl (Gd.f (b:=false) rfl rfl) (.inl rfl) aKj (aB rfl (aB rfl (aB rfl aF))) (gT aE .here) (aRn root (bY xs).1 (M.getD 6 0) L63 h63 Q sQ ps vr h29 b8 (used:Int) _ hs63 hq h0 hA hs29 hK (by omega) (by omega) (by omega) hT) ?_)
  rintro _ G78 μ78 hG78 ⟨ps2,sQ2,vr2,rfl,rfl,rfl,hq2,h02,hA2,ln2,lQ2⟩
  have hr:=hr.mono hG78
  have hA:=hA.mono hG78
  refine nt rfl (Gd.f (b:=false) rfl rfl) (.u rfl) (cK rfl .no (.u rfl) (.u rfl) (.g (rJ rfl rfl ?_)))
  refine .g (cQ (((7+(m41+256*m45)):Nat):Int) rfl .no (.u rfl) (.u rfl) rfl (by omega) (fun _=>bO (by omega) (by omega)) ?_)
  refine kD ((7+(m41+256*m45))) rfl .no aI hr (.u rfl) (.u rfl) (by omega) (by omega) ?_
  intro h85 L85 eL85 lL85 hs85
  have lL85:=lL85 rfl
  refine aS rfl rfl (.nil ?_)
  have eE:=aF0 hq2 h02
  refine .g (fZ rfl iQ rfl (lN rfl cX rfl (Rd.own .here mD) ?_))
  refine xR rfl .no bU (.u rfl) (.u rfl) ?_
  refine .g (cD rfl (fun c6=>?_) (fun c6=>?_))
  ·have c6k:=c6
   try simp only [aC,aG,aD] at c6
   refine .g (lE rfl bU rfl (.p (lE rfl bU rfl (aW (((xs.length-L85.length):Nat):Int) rfl rfl rfl rfl ?_))))
   refine fZ rfl oB rfl (fA rfl uB rfl (s1 rfl (.u rfl) (.u rfl) rfl jO .here (by (try rw [nS]); decide) (aPj) ?_))
   refine .g (aP (L85,h85,Q2,sQ2,ps2,vr2,xs.length-L85.length) ?_ ?_ ?_ ?_ ?_)
   ·exact (aA rfl (aA rfl (aA rfl (aA rfl eZ))))
   ·exact (mS aE rfl (mS .here rfl (mS .here rfl (mS .here rfl (mS .here rfl mN)))))
   ·first|omega|(dsimp only; omega)
   ·exact ((hGl0).trans hG68).trans hG78
   refine ⟨?_,?_,?_,?_,?_,?_,?_⟩
   ·(try dsimp only)<;>(exact hs85)
   ·(try dsimp only)<;>(exact hq2)
   ·(try dsimp only)<;>(exact hA2)
   ·(try dsimp only)<;>(exact h02)
   ·(try dsimp only)<;>(exact aBp eB (by omega) en (by omega) (by omega) eP hf hT eL85 (by rw [show Q2.isEmpty=true from eE.symm.trans c6]; rfl))
   ·(try dsimp only)<;>(first|omega|rfl|assumption|(simp; done))
   (try dsimp only)<;>(first|omega|rfl|assumption|(simp; done))
  have c6k:=c6
  try simp only [aC,aG,aD] at c6
  refine .g (aP (L85,h85,Q2,sQ2,ps2,vr2,used) ?_ ?_ ?_ ?_ ?_)
  ·exact (aA rfl (aA rfl (aA rfl (aA rfl eZ))))
  ·exact (mS aE rfl (mS .here rfl (mS .here rfl (mS .here rfl (mS .here rfl mN)))))
  ·first|omega|(dsimp only; omega)
  ·exact ((hGl0).trans hG68).trans hG78
  refine ⟨?_,?_,?_,?_,?_,?_,?_⟩
  ·(try dsimp only)<;>(exact hs85)
  ·(try dsimp only)<;>(exact hq2)
  ·(try dsimp only)<;>(exact hA2)
  ·(try dsimp only)<;>(exact h02)
  ·(try dsimp only)<;>(exact aBp eB (by omega) en (by omega) (by omega) eP hf hT eL85 (by rw [show Q2.isEmpty=false from eE.symm.trans c6]; rfl))
  ·(try dsimp only)<;>(first|omega|rfl|assumption|(simp; done))
  (try dsimp only)<;>(first|omega|rfl|assumption|(simp; done))
 have c3k:=c3
 try simp only [aC,aG,aD] at c3
 refine .exit (.xcode (.xlp (.xblk (.code (.seq ?_)))))
 refine mK .here (fun _ _=>rfl) (by intro b hb; cases hb) ?_; intro GfRR hRR hleRR evRR hsRR; subst evRR
 have hA:=hA.mono hleRR
 have hsRR:=SlP.of hsRR hA
 refine .g (fZ rfl oB rfl (fA rfl uB rfl (lN rfl dH rfl (Rd.own .here aIE) ?_)))
 refine .p (lE rfl bU rfl (cP rfl rfl rfl rfl (fZ rfl oB rfl (fA rfl yM rfl (s1 rfl (.u rfl) (.u rfl) rfl aA0 .here (by (try rw [nS]); decide) (aIG) ?_)))))
 refine .g (fZ rfl oB rfl (lA rfl .no jM (.u rfl) (fun _=>RdN.part (n:=8) (cs':=[V (bY xs).1.kind,V (bY xs).1.level,uv .u64 (bY xs).1.gen,uv .u64 (bY xs).1.epoch,uv .u64 (bY xs).1.num,(hRR.val ps.length),.int .i64 (used:Int),.bool (decide ((used:Int)<(xs.length:Int)))]) .here (aID)) (fun _=>rfl) (sw rfl (.u rfl) (.u rfl) rfl kF aN (by first|exact qE|exact qL|rfl) (jW rfl rfl rfl rfl rfl rfl rfl rfl) ?_)))
 refine aS rfl rfl (.nc (.ret (aM Tryz.results14 (.cell rfl (fun w hw=>bI jM (RdN.own .here) ((by first|exact qE|exact qL|rfl)) hw) (.tmp rfl .nil)) ?_)))
 have E:=xI (root:=root) (by omega) c2 (eB.trans (aAF (by omega)))
 refine ⟨hRR,ps,hsRR,by rw [E],rfl,?_⟩
 rw [E]
 exact congrArg (fun z=>Value.tuple #[.agg (List.toArray z),.int .i64 0]) (aBC rfl rfl rfl (by simp))
theorem aTJ:aU Tryz.prog 35=true:=by kernel_rfl
theorem vN:cO Tryz.prog 35 2=some 19:=by kernel_rfl
theorem yL:cO Tryz.prog 35 1=some 5:=by kernel_rfl
theorem aSV:wD Tryz.prog 23 32=true:=by kernel_rfl
theorem aAe:cO Tryz.prog 35 3=some 20:=by kernel_rfl
set_option maxHeartbeats 2000000 in
theorem aI2 (h:Hd) (S:State) (hS:Nat→Sh) (m:Mn) (used:Int) (torn:Bool) (bm:Nat) (p:List Y) (hp:Sh) (G:PM) (hs:SlR G 1 aQ hp p) (hSR:StR G S hS) (hM:MnR S m) (hl:p.length≤100000000) (hmn:m.n≤1000000000) (hK:RdNP G 1 0 (wa 64 kW)):Ct Tryz.prog 15 ([.pointer (some ⟨bm,0,none⟩),hp.val p.length]:List Value).toArray G [.blk bm (cl (eT h S hS m.mark (m.n:Int) used torn) 35)] (fun G' μ' u=>(eW m p=none∧μ'=[]∧u=.bool false)∨∃ m' X hX,eW m p=some m'∧MnR X m'∧m'.n=m.n+1∧μ'=[.blk bm (cl (eT h X hX m'.mark (m'.n:Int) used torn) 35)]∧u=.bool true∧StR G' X hX):=by
 refine Ct.of Tryz.func15 rfl Tryz.ntmps15 rfl fun w0 hs0=>?_
 refine .g (lE rfl bU rfl (cP rfl rfl rfl rfl (.g (cD rfl (fun c1=>?_) (fun c1=>?_)))))
 ·have c1k:=c1
  try simp only [aC,aG,aD] at c1
  refine .seq (aL rfl rfl (aS rfl rfl (.nc (.ret (aM Tryz.results15 (.tmp rfl .nil) ?_)))))
  exact .inl ⟨aIz (by omega),rfl,rfl⟩
 have c1k:=c1
 try simp only [aC,aG,aD] at c1
 refine .g (kc rfl aEo (aB rfl aF) (aJm p hp _ hs (by omega)) ?_)
 rintro _ G14 μ14 hG14 ⟨b14,s14,rfl,rfl,hs14⟩
 have hs:=hs.mono hG14
 have hSR:=hSR.mono hG14
 have hK:=hK.mono hG14
 refine .g (ka rfl (.inr rfl) aAj (aB rfl (aB rfl aF)) (bL .here) (aBo p s14 _ _ hs14 (by omega) (by omega)) ?_)
 rintro _ G16 μ16 hG16 ⟨s16,rfl,rfl,hs16⟩
 have hs:=hs.mono hG16
 have hSR:=hSR.mono hG16
 have hK:=hK.mono hG16
 refine .g (kD (40) rfl .no aI hs (.u rfl) (.u rfl) (by omega) (by omega) ?_)
 intro h19 L19 eL19 lL19 hs19
 have lL19:=lL19 rfl
 refine kc rfl aTJ (aB rfl aF) (aMU L19 h19 _ hs19 (by omega)) ?_
 rintro _ G20 μ20 hG20 ⟨e20,er20,ha20,hd20,hD20,rfl,rfl,hE20⟩
 have hs:=hs.mono hG20
 have hSR:=hSR.mono hG20
 have hK:=hK.mono hG20
 refine .p (eX rfl rfl rfl (eX rfl rfl rfl ?_))
 refine al rfl yX ?_; intro b7
 refine sw rfl (.u rfl) (.u rfl) rfl vV .here (by first|exact qE|exact qL|rfl) (aEY) ?_
 refine aS rfl rfl (.nil ?_)
 rw [eL19] at hD20
 refine .g (cP rfl rfl rfl rfl (mV rfl rfl (mv rfl (.f rfl rfl) (.u rfl) (mv rfl (.f rfl rfl) (.u rfl) (nc rfl (.f rfl rfl) (.s rfl) (fz rfl (.f rfl rfl) vN (.s rfl) (ld rfl (.f rfl rfl) bD (.s rfl) (fun hc=>Rd.own aN rfl) ?_)))))))
 refine cp rfl (.f rfl rfl) (.s rfl) (.s rfl) rfl (cK rfl .no (.u rfl) (.s rfl) (.g (cD rfl (fun c2=>?_) (fun c2=>?_))))
 ·have c2k:=c2
  try simp only [aC,aG,aD] at c2
  refine .seq (aL rfl rfl (aS rfl rfl (.nc (.ret (aM Tryz.results15 (.tmp rfl .nil) ?_)))))
  exact .inl ⟨aI1 (by omega) hD20 (c2.imp id sX.1),rfl,rfl⟩
 have c2k:=c2
 try simp only [aC,aG,aD] at c2
 refine .g (bA (mc:=⟨false,false⟩) [0,1,2,3,4,5,6,7,8,9,10,11] aX (by kernel_rfl) ?_)
 refine .p (nC rfl rfl (fZ rfl yL rfl (lA rfl .no eQ (.u rfl) (fun _=>RdN.part (n:=14) (cs':=S.cells hS) aN (aBe)) (fun _=>(by first|exact qE|exact qL|rfl)) ?_)))
 refine lB rfl oU rfl .here ?_
 refine kc rfl aTD (aB rfl (aB rfl aF)) (aLc S hS e20 ha20 hd20 _ hSR hE20) ?_
 rintro _ G39 μ39 hG39 ⟨X39,hX39,er39,hA39,rfl,rfl,hR39⟩
 have hs:=hs.mono hG39
 have hK:=hK.mono hG39
 have hE20:=hE20.mono hG39
 refine .p (eX rfl rfl rfl (eX rfl rfl rfl ?_))
 refine al rfl yW ?_; intro b9
 refine sw rfl (.u rfl) (.u rfl) rfl jC .here (by first|exact qE|exact qL|rfl) (iT) ?_
 refine .g (bA (mc:=⟨false,false⟩) [0,1,2,3,5,6,7,8,4,9,10] aX (by kernel_rfl) ?_)
 refine .p (cP rfl rfl rfl rfl (.p (lA rfl (.f rfl rfl) eQ (.u rfl) (fun _=>RdN.own .here) (fun _=>(by first|exact qE|exact qL|rfl)) ?_)))
 refine mv rfl (.f rfl rfl) (.u rfl) (kS (8) (40) rfl (.f rfl rfl) aI hs (.s rfl) (.u rfl) (.u rfl) (fun hc=>by omega) (fun hc=>by omega) (fun hc=>by omega) (fun hc=>by omega) ?_)
 intro h48 L48 eL48 lL48 hs48
 have lL48:L48.length=32:=by rw [eL48,List.length_take,List.length_drop]; omega
 refine spS rfl (.f rfl rfl) fU hs48 (.s rfl) (fun hc=>by omega) (by decide) ?_
 refine lA rfl (.f rfl rfl) dY (.s rfl) (fun hc=>(hs48.arr (m:=32) (by omega)).rd) (fun _=>bT _ _) ?_
 refine kv rfl (.f rfl rfl) aTE (Eva.cons (.s rfl) aF) (fun hc=>aNp X39 hX39 _ hR39 (hA39.stN hE20.wf) hA39.stL hK) ?_
 refine nqB rfl (.f rfl rfl) aSV (.s rfl) (.s rfl) ?_
 refine cK rfl .no (.u rfl) (.s rfl) (.g (cD rfl (fun c3=>?_) (fun c3=>?_)))
 ·have c3k:=c3
  try simp only [aC,aG,aD] at c3
  refine .seq (aL rfl rfl (aS rfl rfl (.nc (.ret (aM Tryz.results15 (.tmp rfl .nil) ?_)))))
  exact .inl ⟨aRO hM (by omega) (aBJ hD20 (by omega)) hA39 eL48 (by simpa using c3),rfl,rfl⟩
 have c3k:=c3
 try simp only [aC,aG,aD] at c3
 refine .g (lB rfl eQ rfl .here ?_)
 refine .p (nC rfl rfl (fZ rfl yL rfl (st rfl (.u rfl) (.u rfl) rfl jC bB (by show 5+14≤23; decide) (iT) ?_)))
 refine nC rfl rfl (fZ rfl vN rfl (s1 rfl (.u rfl) (.u rfl) rfl iS .here (by show 19<23; decide) (rfl) ?_))
 refine .g (nC rfl rfl (fZ rfl aAe rfl (lO rfl dH rfl .here rfl ?_)))
 refine aW (((m.n+1):Nat):Int) rfl rfl rfl rfl ?_
 refine nC rfl rfl (fZ rfl aAe rfl (s1 rfl (.u rfl) (.u rfl) rfl jO .here (by show 20<23; decide) (rfl) ?_))
 refine .nil (.code (.seq (aL rfl rfl (aS rfl rfl (.nc (.ret (We.fin Tryz.results15 (.tmp rfl .nil) (mS .here rfl mN) ?_)))))))
 obtain ⟨m2,q1,q2,q3,q4⟩:=aRP hM (by omega) (aBJ hD20 (by omega)) (fun q=>absurd (sX.2 q) (Int.not_le.2 c2.2)) hA39 eL48 (by omega) (by simpa using c3.2)
 refine .inr ⟨m2,X39,hX39,q1,q2,q4,?_,rfl,hR39⟩
 rw [q3,q4]; rfl
theorem sI:iD Tryz.prog 35=some ([.int .u8 0,.int .u8 0,.int .u64 0,.int .u64 0,.int .u64 0,.slice none 0 0,.slice none 0 0,.slice none 0 0,.slice none 0 0,.slice none 0 0,.int .u64 0,.int .u64 0,.int .u64 0,.int .u64 0,.int .u64 0,.int .u64 0,.int .u64 0,.int .u64 0,.int .u64 0,.int .u64 0,.int .i64 0,.int .i64 0,.bool false]):=by kernel_rfl
theorem aS5:aU Tryz.prog 14=true:=by kernel_rfl
theorem aCR:cO Tryz.prog 56 0=some 0:=by kernel_rfl
theorem tR:eS Tryz.prog 35 []=some ([.int .u8 0,.int .u8 0,.int .u64 0,.int .u64 0,.int .u64 0,.slice none 0 0,.slice none 0 0,.slice none 0 0,.slice none 0 0,.slice none 0 0,.int .u64 0,.int .u64 0,.int .u64 0,.int .u64 0,.int .u64 0,.int .u64 0,.int .u64 0,.int .u64 0,.int .u64 0,.int .u64 0,.int .i64 0,.int .i64 0,.bool false],[]):=by kernel_rfl
theorem kT:dL Tryz.prog 35=some 23:=by kernel_rfl
theorem nF:dJ Tryz.prog 35=some (some 23):=by kernel_rfl
theorem aSc:eS Tryz.prog 35 [0,4,5]=some ([.int .u8 0,.int .u8 0,.int .u64 0,.int .u64 0,.int .u64 0,.slice none 0 0,.slice none 0 0,.slice none 0 0,.slice none 0 0,.slice none 0 0,.int .u64 0,.int .u64 0,.int .u64 0,.int .u64 0,.int .u64 0,.int .u64 0,.int .u64 0,.int .u64 0,.int .u64 0,.int .u64 0,.int .i64 0,.int .i64 0,.bool false],[(0,5),(21,1),(22,1)]):=by kernel_rfl
theorem aKi:aU Tryz.prog 15=true:=by kernel_rfl
theorem aRQ (h:Hd) (S:State) (hS:Nat→Sh) (m:Mn) (used:Int) (torn:Bool) (bm:Nat) (p:List Y) (hp:Sh) (G:PM) (hs:SlR G 1 aQ hp p) (hSR:StR G S hS) (hM:MnR S m) (hl:p.length≤100000000) (hmn:m.n≤1000000000) (hK:RdNP G 1 0 (wa 64 kW)) (hq:eW m p=none):Ct Tryz.prog 15 ([.pointer (some ⟨bm,0,none⟩),hp.val p.length]:List Value).toArray G [.blk bm (cl (eT h S hS m.mark (m.n:Int) used torn) 35)] (fun _ μ' u=>μ'=[]∧u=.bool false) :=
 (aI2 h S hS m used torn bm p hp G hs hSR hM hl hmn hK).mono fun G' μ' u hh=>by
  rcases hh with ⟨_,h1,h2⟩ | ⟨m',X,hX,h1,_⟩
  ·exact ⟨h1,h2⟩
  ·rw [hq] at h1; cases h1
theorem aRS (h:Hd) (S:State) (hS:Nat→Sh) (m:Mn) (used:Int) (torn:Bool) (bm:Nat) (p:List Y) (hp:Sh) (G:PM) (hs:SlR G 1 aQ hp p) (hSR:StR G S hS) (hM:MnR S m) (hl:p.length≤100000000) (hmn:m.n≤1000000000) (hK:RdNP G 1 0 (wa 64 kW)) {m2:Mn} (hq:eW m p=some m2):Ct Tryz.prog 15 ([.pointer (some ⟨bm,0,none⟩),hp.val p.length]:List Value).toArray G [.blk bm (cl (eT h S hS m.mark (m.n:Int) used torn) 35)] (fun G' μ' u=>∃ X hX,MnR X m2∧m2.n=m.n+1∧μ'=[.blk bm (cl (eT h X hX m2.mark (m2.n:Int) used torn) 35)]∧u=.bool true∧StR G' X hX) :=
 (aI2 h S hS m used torn bm p hp G hs hSR hM hl hmn hK).mono fun G' μ' u hh=>by
  rcases hh with ⟨h1,_⟩ | ⟨m',X,hX,h1,h2,h3,h4⟩
  ·rw [hq] at h1; cases h1
  ·rw [hq] at h1; cases h1; exact ⟨X,hX,h2,h3,h4⟩
theorem aDT (root:Nat→Y) (xs:List Y) (hx:Sh) (G:PM) (hs:SlR G 1 aQ hx xs) (hK:RdNP G 1 0 (wa 64 kW)) (hm:xs.length≤100000000):Ct Tryz.prog 6 ([.agg (ba 32 root).toArray,hx.val xs.length]:List Value).toArray G [] (fun G' μ' u=>(gU root xs=none∧μ'=[]∧u=.tuple #[.agg (eT Hd.zero State.zero eJ 0#64 0 0 false).toArray,.int .i64 190])∨∃ v X hX,gU root xs=some v∧MnR X v.m∧μ'=[]∧u=.tuple #[.agg (eT v.hd X hX v.m.mark (v.m.n:Int) (v.used:Int) v.torn).toArray,.int .i64 0]∧StR G' X hX):=by
 refine Ct.of Tryz.func6 rfl Tryz.ntmps6 rfl fun w0 hs0=>?_
 refine .seq (dU rfl rfl ?_)
 refine bX rfl rfl rfl ?_; intro b2
 refine al rfl sI ?_; intro b4
 refine .g (lA rfl .no dY (.u rfl) (fun _=>RdN.own aE) (fun _=>(by first|exact eU|rfl)) ?_)
 refine .p (kc rfl aS5 (aB rfl (aB rfl aF)) (aR5 root xs hx _ hs hK hm) ?_)
 rintro _ G14 μ14 hG14 ⟨s14,ps14,hp14,ep14,rfl,rfl⟩
 have hfw:=aIJ root xs
 rw [← ep14] at hfw
 have hfl:=hfw.2; rw [List.length_map] at hfl
 have hK:=hK.mono hG14
 refine .p (eX rfl rfl rfl (eX rfl rfl rfl ?_))
 refine al rfl aAu ?_; intro b6
 refine sw rfl (.u rfl) (.u rfl) rfl kF .here (by first|exact eU|rfl) (jW rfl rfl rfl rfl rfl rfl rfl rfl) ?_
 refine .g (cP rfl rfl rfl rfl (mV rfl rfl (mv rfl (.f rfl rfl) (.u rfl) (ln rfl (.f rfl rfl) bU (.s rfl) (cp rfl (.f rfl rfl) (.s rfl) (.u rfl) rfl (mv rfl (.f rfl rfl) (.s rfl) (fz rfl (.tc rfl rfl) aCR (.u rfl) (fz rfl (.tc rfl rfl) tS (.s rfl) (ld rfl (.tc rfl rfl) aZ (.s rfl) (fun hc=>Rd.own .here rfl) ?_)))))))))
 refine cp rfl (.tc rfl rfl) (.s rfl) (.u rfl) rfl (bR rfl (.f rfl rfl) (.s rfl) (.s rfl) (cK rfl .no (.u rfl) (.s rfl) (.g (cD rfl (fun c1=>?_) (fun c1=>?_)))))
 ·have c1k:=c1
  try simp only [aC,aG,aD] at c1
  refine .g (dK (eT Hd.zero State.zero eJ 0#64 0 0 false) rfl .no tR .nil rfl (rfl) ?_)
  refine sw rfl (.u rfl) (.u rfl) rfl kT aE (by first|exact eU|rfl) (kN) ?_
  refine aS rfl rfl (.nc (.ret (aM Tryz.results6 (.cell rfl (fun w hw=>bI nF (RdN.own .here) (eU) hw) (.tmp rfl .nil)) ?_)))
  exact .inl ⟨aBs (c1.imp id (fun q=>⟨by omega,fun e=>q.2 (by rw [e]; rfl)⟩)),rfl,rfl⟩
 have c1k:=c1
 try simp only [aC,aG,aD] at c1
 refine .g (fZ rfl aCR rfl (lA rfl .no gO (.u rfl) (fun _=>RdN.part (n:=5) (cs':=[V (bW root xs).1.hd.kind,V (bW root xs).1.hd.level,uv .u64 (bW root xs).1.hd.gen,uv .u64 (bW root xs).1.hd.epoch,uv .u64 (bW root xs).1.hd.num]) .here (rfl)) (fun _=>rfl) ?_))
 refine fZ rfl uB rfl (lO rfl dH rfl .here (by first|exact aJ rfl|rfl) ?_)
 refine fZ rfl yM rfl (lO rfl qW rfl .here (by first|exact aJ rfl|rfl) ?_)
 refine dK (eT (bW root xs).1.hd State.zero eJ 0#64 0 ((bW root xs).1.used:Int) (bW root xs).1.torn) rfl .no aSc (.cons (.u rfl) rfl (.cons (.u rfl) rfl (.cons (.u rfl) rfl .nil))) rfl (rfl) ?_
 refine al rfl sI ?_; intro b8
 refine sw rfl (.u rfl) (.u rfl) rfl kT .here (by first|exact eU|rfl) (kN) ?_
 refine .g (fZ rfl oA rfl (lO rfl qX rfl aE rfl ?_))
 refine lE rfl sH rfl (mV rfl rfl (.nc (.block ?_)))
 refine aV (α:=Nat×Mn×State×(Nat→Sh)) (fun gh=>[(41,true,.int .i64 (gh.1:Int))]) (fun gh=>[.blk b8 (cl (eT (bW root xs).1.hd gh.2.2.1 gh.2.2.2 gh.2.1.mark (gh.2.1.n:Int) ((bW root xs).1.used:Int) (bW root xs).1.torn) 35)])
  (fun gh Gl=>(gh.1≤ps14.length)∧(iC ((ps14.map (·.2)).take gh.1) Mn.zero=some gh.2.1)∧(MnR gh.2.2.1 gh.2.1)∧(gh.2.1.n=gh.1)∧(StR Gl gh.2.2.1 gh.2.2.2)) (fun gh=>ps14.length-gh.1) (0,Mn.zero,State.zero,eJ) [(4,true,_),(8,true,_),(39,true,_),(40,true,_)] [_,_,_]
  (aK rfl (aA rfl (aA rfl (aA rfl (aA rfl eZ)))))
  (mS .here rfl (mS .here rfl (mS .here rfl (mS .here rfl mN)))) ?_ ?_
 ·refine ⟨?_,?_,?_,?_,?_⟩
  ·(try dsimp only)<;>(first|omega|rfl|assumption|(simp; done))
  ·(try dsimp only)<;>(rfl)
  ·(try dsimp only)<;>(exact MnR.zero)
  ·(try dsimp only)<;>(rfl)
  (try dsimp only)<;>(exact lH)
 intro gh N0 Gl0 hN0 hGl0 hF0
 obtain ⟨k,m,X,hX⟩:=gh; dsimp only at hF0 hN0 ⊢
 obtain ⟨hk,hq,hM,hmn,hXR⟩:=hF0
 have hK:=hK.mono hGl0
 have hp14:=hp14.mono hGl0
 refine .g (cP rfl rfl rfl rfl (.g (cD rfl (fun c2=>?_) (fun c2=>?_))))
 ·have c2k:=c2
  try simp only [aC,aG,aD] at c2
  refine .skip (.code (.seq (.block (.seq (dU rfl rfl (ih rfl .no jB (.u rfl) (.u rfl) (by omega) (by omega) (fun _=>hp14.sl.nn (k:=k) (by omega)) ?_))))))
  obtain ⟨p44,ep44⟩:=iJ (k:=k) (xs:=ps14) (by omega)
  have hq44:=hp14.get ep44
  refine lN rfl cX rfl ((hp14.at (k) (by omega) ep44).rd) ?_
  refine aS rfl rfl (.nc (.seq ?_))
  rcases hst:eW m p44.2 with _ | m2
  ·have hlp:=hfw.1 p44.2 (List.mem_of_getElem? (pL ep44))
   refine .g (ka rfl (.inr rfl) aKi (aB rfl (aB rfl aF)) (bL .here) (aRQ (bW root xs).1.hd X hX m (((bW root xs).1.used:Nat):Int) (bW root xs).1.torn b8 p44.2 p44.1 _ hq44 hXR hM (by omega) (by omega) hK hst) ?_)
   rintro _ G46 μ46 hG46 ⟨rfl,rfl⟩
   have hK:=hK.mono hG46
   have hXR:=hXR.mono hG46
   have hq44:=hq44.mono hG46
   refine nt rfl .no (.u rfl) (.g (jQ rfl rfl ?_))
   refine .g (dK (eT Hd.zero State.zero eJ 0#64 0 0 false) rfl .no tR .nil rfl (rfl) ?_)
   refine sw rfl (.u rfl) (.u rfl) rfl kT aE (by first|exact eU|rfl) (kN) ?_
   refine aS rfl rfl (.nc (.ret (aM Tryz.results6 (.cell rfl (fun w hw=>bI nF (RdN.own .here) (eU) hw) (.tmp rfl .nil)) ?_)))
   exact .inl ⟨xF (by rw [← ep14]; exact xT (k:=k+1) (by rw [tI (pL ep44),hq]; exact hst)),rfl,rfl⟩
  have hlp:=hfw.1 p44.2 (List.mem_of_getElem? (pL ep44))
  refine .g (ka rfl (.inr rfl) aKi (aB rfl (aB rfl aF)) (bL .here) (aRS (bW root xs).1.hd X hX m (((bW root xs).1.used:Nat):Int) (bW root xs).1.torn b8 p44.2 p44.1 _ hq44 hXR hM (by omega) (by omega) hK hst) ?_)
  rintro _ G46 μ46 hG46 ⟨X2,hX2,hM2,hn2,rfl,rfl,hR2⟩
  have hXR:=hXR.mono hG46
  refine nt rfl .no (.u rfl) (.g (rJ rfl rfl ?_))
  refine .g (aW (((k+1):Nat):Int) rfl rfl rfl rfl ?_)
  refine .g (aP (k+1,m2,X2,hX2) ?_ ?_ ?_ ?_ ?_)
  ·exact (aK rfl (aA rfl (aA rfl (aA rfl (aA rfl eZ)))))
  ·exact (mS .here rfl (mS .here rfl (mS .here rfl (mS .here rfl mN))))
  ·first|omega|(dsimp only; omega)
  ·exact (hGl0).trans hG46
  refine ⟨?_,?_,?_,?_,?_⟩
  ·(try dsimp only)<;>(first|omega|rfl|assumption|(simp; done))
  ·(try dsimp only)<;>(rw [tI (pL ep44),hq]; exact hst)
  ·(try dsimp only)<;>(exact hM2)
  ·(try dsimp only)<;>(omega)
  (try dsimp only)<;>(exact hR2)
 have c2k:=c2
 try simp only [aC,aG,aD] at c2
 refine .g (lA rfl .no nF (.u rfl) (fun _=>RdN.own .here) (fun _=>(by first|exact eU|rfl)) ?_)
 refine sw rfl (.u rfl) (.u rfl) rfl kT aN (by first|exact eU|rfl) (kN) ?_
 refine aS rfl rfl (.nc (.ret (aM Tryz.results6 (.cell rfl (fun w hw=>bI nF (RdN.own .here) (eU) hw) (.tmp rfl .nil)) ?_)))
 obtain rfl:k=ps14.length:=by omega
 rw [List.take_of_length_le (by rw [List.length_map]; exact Nat.le_refl _),ep14] at hq
 exact .inr ⟨_,X,hX,aBt (fun q=>by rcases q with q | q; (exact q c1.1); (rcases c1.2 with c | c; (omega); (exact q.2 (BitVec.eq_of_toNat_eq (by have:((bW root xs).1.hd.kind.toNat:Int)=3:=c; show _=3; omega))))) hq,hM,rfl,rfl,hXR⟩
end Go.Proofs.YtdeobooblmjlfaaGreatDoor
namespace Go.Tan
open Go.RowKit
theorem aPl {root:Nat→Y} {h:Hd} {R:List (List Y)} {m:Mn} (hk:h.kind=3#8) (hr:h.right=true) (hs:iC R Mn.zero=some m):gU root (fK root h R)=some ⟨h,m,(fK root h R).length,false⟩:=by
 have e:=aG0 (root:=root) (h:=h) R hr
 have:=aBt (root:=root) (xs:=fK root h R) (m:=m) (by rw [e]; rintro (q | q); (exact q rfl); (exact q.2 hk)) (by rw [e]; exact hs)
 rw [e] at this; exact this
theorem aPn {root:Nat→Y} {h:Hd} {R:List (List Y)} (hk:h.kind≠3#8∨h.right=false):gU root (fK root h R)=none:=by
 by_cases hr:h.right=true
 ·have e:=aG0 (root:=root) (h:=h) R hr
  refine aBs (.inr ⟨?_,by rw [e]; exact hk.resolve_right (by simp [hr])⟩)
  rw [fK,List.length_append,lD]; omega
 exact aBs (.inl (by rw [aNi R (by simpa using hr)]; decide))
theorem aPo {root:Nat→Y}:gU root []=some ⟨Hd.zero,Mn.zero,0,true⟩:=by
 have e:bW root []=(⟨Hd.zero,[],0,true⟩,0):=xH (by decide)
 have:=aBt (root:=root) (xs:=[]) (m:=Mn.zero) (by rw [e]; rintro (q | q); (exact q rfl); (exact absurd q.1 (by decide))) (by rw [e]; rfl)
 rw [e] at this; exact this
theorem aPm {root:Nat→Y} {h:Hd} (hk:h.kind=3#8) (hr:h.right=true):gU root (cC h)=some ⟨h,Mn.zero,30,false⟩:=by
 have:=aPl (root:=root) (R:=[]) hk hr rfl
 have e:fK root h []=cC h:=by simp [fK,fY]
 rw [e,lD] at this; exact this
theorem aPp {root:Nat→Y} {h:Hd} (hk:h.kind≠3#8):gU root (cC h)=none:=by
 have:=aPn (root:=root) (h:=h) (R:=[]) (.inl hk)
 have e:fK root h []=cC h:=by simp [fK,fY]
 rw [e] at this; exact this
end Go.Tan
namespace Go.Proofs.YtdeobooblmjlfaaGreatDoor
open Go.Tan Go.RowKit
theorem aEa:eS Tryz.prog 23 []=some (ba 32 (fun _=>0#8),[]):=by kernel_rfl
theorem aCV:aU Tryz.prog 6=true:=by kernel_rfl
theorem aKD:eS Tryz.prog 28 [0]=some ([V 0#8,V 0#8,uv .u64 0#64,uv .u64 0#64,uv .u64 0#64],[(0,1)]):=by kernel_rfl
theorem aCQ:cO Tryz.prog 35 5=some 22:=by kernel_rfl
theorem aEc:cO Tryz.prog 35 4=some 21:=by kernel_rfl
theorem aG8 (root:Nat→Y) (xs:List Y) (hx:Sh) (G:PM) (hs:SlR G 1 aQ hx xs) (hK:RdNP G 1 0 (wa 64 kW)) (hm:xs.length≤100000000) {v:ManV} (hv:gU root xs=some v):Ct Tryz.prog 6 ([.agg (ba 32 root).toArray,hx.val xs.length]:List Value).toArray G [] (fun G' μ' u=>∃ X hX,MnR X v.m∧μ'=[]∧u=.tuple #[.agg (eT v.hd X hX v.m.mark (v.m.n:Int) (v.used:Int) v.torn).toArray,.int .i64 0]∧StR G' X hX) :=
 (aDT root xs hx G hs hK hm).mono fun G' μ' u hh=>by
  rcases hh with ⟨h1,_⟩ | ⟨w,X,hX,h1,h2⟩
  ·rw [hv] at h1; cases h1
  ·rw [hv] at h1; cases h1; exact ⟨X,hX,h2⟩
theorem aNn (root:Nat→Y) (xs:List Y) (hx:Sh) (G:PM) (hs:SlR G 1 aQ hx xs) (hK:RdNP G 1 0 (wa 64 kW)) (hm:xs.length≤100000000) (hv:gU root xs=none):Ct Tryz.prog 6 ([.agg (ba 32 root).toArray,hx.val xs.length]:List Value).toArray G [] (fun _ μ' u=>μ'=[]∧u=.tuple #[.agg (eT Hd.zero State.zero eJ 0#64 0 0 false).toArray,.int .i64 190]) :=
 (aDT root xs hx G hs hK hm).mono fun G' μ' u hh=>by
  rcases hh with ⟨_,h2⟩ | ⟨w,X,hX,h1,h2⟩
  ·exact h2
  ·rw [hv] at h1; cases h1
theorem aQu (G:PM) (hK:RdNP G 1 0 (wa 64 kW)):Ct Tryz.prog 5 ([]:List Value).toArray G [] (fun _ μ' u=>μ'=[]∧u=.bool true):=by
 refine Ct.of Tryz.func5 rfl Tryz.ntmps5 rfl fun w0 hs0=>?_
 refine .g (dK (ba 32 zF) rfl .no aEa .nil rfl (rfl) ?_)
 refine kc rfl aCV (aB rfl (aB rfl aF)) (aG8 zF [] ⟨none,0⟩ _ SlR.nul hK (by simp) aPo) ?_
 rintro _ G9 μ9 hG9 ⟨X9,hX9,hM9,rfl,rfl,hR9⟩
 have hK:=hK.mono hG9
 refine .p (eX rfl rfl rfl (eX rfl rfl rfl ?_))
 refine al rfl sI ?_; intro b1
 refine sw rfl (.u rfl) (.u rfl) rfl kT .here (by first|exact eU|rfl) (kN) ?_
 refine .g (dK (ba 32 zF) rfl .no aEa .nil rfl (rfl) ?_)
 refine dK ([V 1#8,V 0#8,uv .u64 0#64,uv .u64 0#64,uv .u64 0#64]) rfl .no aKD (.cons (.u rfl) rfl .nil) rfl (rfl) ?_
 refine kc rfl aCS (aB rfl aF) (Ct.frzB (aBh ⟨1#8,0#8,0#64,0#64,0#64⟩ _)) ?_
 rintro _ G15 μ15 hG15 ⟨h15,L15,eL15,rfl,rfl,hs15⟩
 have hK:=hK.mono hG15
 refine kc rfl aCV (aB rfl (aB rfl aF)) (aNn zF L15 h15 _ hs15 hK (by rw [eL15,lD]; decide) (by rw [eL15]; exact aPp (by decide))) ?_
 rintro _ G16 μ16 hG16 ⟨rfl,rfl⟩
 have hK:=hK.mono hG16
 refine .p (eX rfl rfl rfl (eX rfl rfl rfl ?_))
 refine al rfl sI ?_; intro b3
 refine sw rfl (.u rfl) (.u rfl) rfl kT .here (by first|exact eU|rfl) (kN) ?_
 refine .g (dK (ba 32 zF) rfl .no aEa .nil rfl (rfl) ?_)
 refine dK ([V 3#8,V 0#8,uv .u64 0#64,uv .u64 0#64,uv .u64 0#64]) rfl .no aKD (.cons (.u rfl) rfl .nil) rfl (rfl) ?_
 refine kc rfl aCS (aB rfl aF) (Ct.frzB (aBh ⟨3#8,0#8,0#64,0#64,0#64⟩ _)) ?_
 rintro _ G22 μ22 hG22 ⟨h22,L22,eL22,rfl,rfl,hs22⟩
 have hK:=hK.mono hG22
 refine kc rfl aCV (aB rfl (aB rfl aF)) (aG8 zF L22 h22 _ hs22 hK (by rw [eL22,lD]; decide) (by rw [eL22]; exact aPm rfl rfl)) ?_
 rintro _ G23 μ23 hG23 ⟨X23,hX23,hM23,rfl,rfl,hR23⟩
 refine .p (eX rfl rfl rfl (eX rfl rfl rfl ?_))
 refine al rfl sI ?_; intro b5
 refine sw rfl (.u rfl) (.u rfl) rfl kT .here (by first|exact eU|rfl) (kN) ?_
 refine .g (cP rfl rfl rfl rfl (.p (fz rfl (.t rfl rfl) aCQ (.u rfl) (ld rfl (.t rfl rfl) qW (.s rfl) (fun hc=>Rd.own aN (by first|exact aJ rfl|rfl)) ?_))))
 refine bR rfl .no (.u rfl) (.s rfl) (.p (fz rfl (.t rfl rfl) aEc (.u rfl) (ld rfl (.t rfl rfl) dH (.s rfl) (fun hc=>Rd.own aN (by first|exact aJ rfl|rfl)) ?_)))
 refine cp rfl (.t rfl rfl) (.s rfl) (.u rfl) rfl (bR rfl .no (.u rfl) (.s rfl) (mV rfl rfl (mv rfl (.t rfl rfl) (.u rfl) (cp rfl (.t rfl rfl) (.s rfl) (.u rfl) rfl (bR rfl .no (.u rfl) (.s rfl) (mV rfl rfl (mv rfl (.t rfl rfl) (.u rfl) (cp rfl (.t rfl rfl) (.s rfl) (.u rfl) rfl (bR rfl .no (.u rfl) (.s rfl) (.p (fz rfl (.t rfl rfl) aAe (.u rfl) (ld rfl (.t rfl rfl) dH (.s rfl) (fun hc=>Rd.own .here (by first|exact aJ rfl|rfl)) ?_))))))))))))
 refine cp rfl (.t rfl rfl) (.s rfl) (.u rfl) rfl (bR rfl .no (.u rfl) (.s rfl) (.p (fz rfl (.t rfl rfl) aCQ (.u rfl) (ld rfl (.t rfl rfl) qW (.s rfl) (fun hc=>Rd.own .here (by first|exact aJ rfl|rfl)) ?_))))
 refine nt rfl (.t rfl rfl) (.s rfl) (bR rfl .no (.u rfl) (.s rfl) (aS rfl rfl (.nc (.ret (aM Tryz.results5 (.tmp rfl .nil) ?_)))))
 exact ⟨rfl,rfl⟩
set_option maxRecDepth 100000
theorem aKz:Tryz.prog.cellsOf 5=1:=by kernel_rfl
theorem aT6:Tryz.prog.cellsOf 23=32:=by kernel_rfl
theorem aKK:Tryz.prog.cellsOf 130=1:=by kernel_rfl
theorem aKL:Tryz.prog.cellsOf 202=64:=by kernel_rfl
section
variable {H:Type} {R:Nat} {enc:TypeId×Value→H} {W:World} {cs:List Value}
theorem aLd {t n e:Nat} {base:Nat} {v:Value} (ht:Tryz.prog.underlying t=some (.array n e)) (h:Value.okWide Tryz.prog W .any base t v) {l:List Value} (hl:v.cells.toList=l):v=.agg l.toArray:=by
 unfold Value.okWide at h
 rw [ht] at h
 obtain ⟨c,rfl,_⟩:=h
 rw [← hl]; rfl
theorem aOS {v u:Value} (h:v.cells.toList=[u]) (hu:u.oneCell'=true) (hn:∀ c,v≠.agg c):v=u:=by
 cases v<;>first|(exact absurd rfl (hn _))|(simp [Value.cells] at h; exact h)
theorem aQ0 {t e:TypeId} {base:Nat} {v u:Value} (ht:Tryz.prog.underlying t=some (.slice e)) (h:Value.okWide Tryz.prog W .any base t v) (hl:v.cells.toList=[u]) (hu:u.oneCell'=true):v=u:=by
 refine aOS hl hu fun c hc=>?_
 subst hc
 unfold Value.okWide at h
 rw [ht] at h
 simp [Cell.okWide,ht,Cell.ok] at h
end
theorem aRp:ownKnob Tryz.prog.godebug=none:=by kernel_rfl
theorem aRo:laidOutB Tryz.prog=true:=by kernel_rfl
theorem gC:Tryz.prog.globalNamed "tantalus/sha.constants" = some 1:=by kernel_rfl
theorem gCT:(Tryz.prog.globals[1]?).map (·.type)=some 202:=by kernel_rfl
theorem gR:Tryz.prog.globalNamed "tantalus/tantalusref03.K" = some 0:=by kernel_rfl
theorem gRT:(Tryz.prog.globals[0]?).map (·.type)=some 202:=by kernel_rfl
def aDJ:List Int:=[1116352408,1899447441,3049323471,3921009573,961987163,1508970993,2453635748,2870763221,3624381080,310598401,607225278,1426881987,1925078388,2162078206,2614888103,3248222580,3835390401,4022224774,264347078,604807628,770255983,1249150122,1555081692,1996064986,2554220882,2821834349,2952996808,3210313671,3336571891,3584528711,113926993,338241895,666307205,773529912,1294757372,1396182291,1695183700,1986661051,2177026350,2456956037,2730485921,2820302411,3259730800,3345764771,3516065817,3600352804,4094571909,275423344,430227734,506948616,659060556,883997877,958139571,1322822218,1537002063,1747873779,1955562222,2024104815,2227730452,2361852424,2428436474,2756734187,3204031479,3329325298]
theorem aGn:∀ j,j<64→aDJ.getD j 0=((kW j).toNat:Int):=by decide
theorem aRc {W:World} {rest:List (String×DataW Unit)} (h:laidMet Tryz.prog (("tantalus/sha.constants",Rows.laid_tantalus_sha_constants) :: rest) W):RdNP (fun b=>W.heap[b]?) 1 0 (wa 64 kW) :=
 aJH (Lib.tabIs_of_head (zs:=aDJ) (rest:=rest) gC gCT Tryz.underlying202 Tryz.underlying130 aKK aKL h) gC rfl aGn
theorem aRd {W:World} {x:String×DataW Unit} {rest:List (String×DataW Unit)} (h:laidMet Tryz.prog (x :: ("tantalus/tantalusref03.K",Rows.laid_tantalus_tantalusref03_K) :: rest) W):RdNP (fun b=>W.heap[b]?) 0 0 (wa 64 kW) :=
 aJH (Lib.tabIs_of_head (zs:=aDJ) (rest:=rest) gR gRT Tryz.underlying202 Tryz.underlying130 aKK aKL (aNa h)) gR rfl aGn
def aNV:Array Value:=#[.int .u32 1116352408,.int .u32 1899447441,.int .u32 3049323471,.int .u32 3921009573,.int .u32 961987163,.int .u32 1508970993,.int .u32 2453635748,.int .u32 2870763221,.int .u32 3624381080,.int .u32 310598401,.int .u32 607225278,.int .u32 1426881987,.int .u32 1925078388,.int .u32 2162078206,.int .u32 2614888103,.int .u32 3248222580,.int .u32 3835390401,.int .u32 4022224774,.int .u32 264347078,.int .u32 604807628,.int .u32 770255983,.int .u32 1249150122,.int .u32 1555081692,.int .u32 1996064986,.int .u32 2554220882,.int .u32 2821834349,.int .u32 2952996808,.int .u32 3210313671,.int .u32 3336571891,.int .u32 3584528711,.int .u32 113926993,.int .u32 338241895,.int .u32 666307205,.int .u32 773529912,.int .u32 1294757372,.int .u32 1396182291,.int .u32 1695183700,.int .u32 1986661051,.int .u32 2177026350,.int .u32 2456956037,.int .u32 2730485921,.int .u32 2820302411,.int .u32 3259730800,.int .u32 3345764771,.int .u32 3516065817,.int .u32 3600352804,.int .u32 4094571909,.int .u32 275423344,.int .u32 430227734,.int .u32 506948616,.int .u32 659060556,.int .u32 883997877,.int .u32 958139571,.int .u32 1322822218,.int .u32 1537002063,.int .u32 1747873779,.int .u32 1955562222,.int .u32 2024104815,.int .u32 2227730452,.int .u32 2361852424,.int .u32 2428436474,.int .u32 2756734187,.int .u32 3204031479,.int .u32 3329325298]
def aIq:Obj→Obj
 | .cells _ t frozen=>.cells aNV t frozen
 | o=>o
noncomputable def aDN (os:Os):World :=
 { World.holding Tryz.prog os ⟨#[], #[],[]⟩ with heap:=((World.holding Tryz.prog os ⟨#[], #[],[]⟩).heap.modify 0 aIq).modify 1 aIq }
set_option maxRecDepth 100000
theorem aSk:Tryz.prog.bytesOf 5=1:=by kernel_rfl
section
variable {H:Type} {M:Nat}
end
section
variable {H:Type} {R:Nat} {enc:TypeId×Value→H} {W:World} {cs:List Value}
end
theorem aKm:aU Tryz.prog 48=true:=by kernel_rfl
theorem aSa:eS Tryz.prog 33 [1,2,3,4,5]=some ((State.zero.cells eJ),[(5,1),(6,1),(7,1),(8,1),(9,5)]):=by kernel_rfl
theorem aTQ:aU Tryz.prog 49=true:=by kernel_rfl
theorem aTR:aU Tryz.prog 50=true:=by kernel_rfl
theorem aTG:aU Tryz.prog 27=true:=by kernel_rfl
theorem aSo:uK Tryz.prog 4 31 (aGQ)=true:=by kernel_rfl
theorem aSA (h:Sh) (l:List Meta) (g:Gone) (G:PM) (hs:SlR G 40 Meta.cells h l) (hl:l.length≤1000000):Ct Tryz.prog 49 ([h.val l.length,.int .u64 g.number]:List Value).toArray G [] (fun G' μ' u=>∃ (h':Sh) (L:List Meta) (ok:Bool),WithoutR g l L ok∧μ'=[]∧u=.tuple #[h'.val L.length,.bool ok]∧SlR G' 40 Meta.cells h' L):=by
 refine Ct.of Tryz.func49 rfl Tryz.ntmps49 rfl fun w0 hs0=>?_
 refine .seq (bJ rfl rfl (aS rfl rfl (aS rfl rfl (.nc (.seq (.seq (aL rfl rfl (aS rfl rfl (.nc (.block ?_))))))))))
 refine aV (α:=Nat) (fun k=>[(6,true,.int .i64 (k:Int))]) (fun _=>[])
  (fun k Gl=>(k≤l.length)∧(∀ j,j<k→fJ g (l.getD j Meta.zero)=false)) (fun k=>l.length-k) 0 [(0,true,_),(1,true,_)] []
  (aK rfl (aA rfl (aA rfl eZ)))
  mN ?_ ?_
 ·refine ⟨?_,?_⟩
  ·(try dsimp only)<;>(first|omega|rfl|assumption|(simp; done))
  (try dsimp only)<;>(exact fun j hj=>by omega)
 intro k N0 Gl0 hN0 hGl0 hF0
 try dsimp only at hF0 hN0 ⊢
 obtain ⟨hk,hno⟩:=hF0
 have hs:=hs.mono hGl0
 refine .g (lE rfl fH rfl (cP rfl rfl rfl rfl (.g (cD rfl (fun c1=>?_) (fun c1=>?_)))))
 ·have c1k:=c1
  try simp only [aC,aD] at c1
  refine .skip (.code (.seq (.block (.seq (rZ rfl rfl (mV rfl rfl (mV rfl rfl (ih rfl .no aY (.u rfl) (.u rfl) (by omega) (by omega) (fun _=>hs.nn (k:=k) (by first|omega|(simp only [Bool.and_eq_true,decide_eq_true_eq] at hc; omega)|(simp only [List.length_cons,List.length_nil]; omega))) ?_))))))))
  refine fA rfl iR rfl (lN rfl bD rfl ((hs.gat k (by omega) (by omega) 3 _ rfl).rd) ?_)
  refine .p (cP rfl rfl rfl rfl (.g (cD rfl (fun c2=>?_) (fun c2=>?_))))
  ·have c2k:=c2
   try simp only [aC,aD] at c2
   refine .seq (gL rfl rfl ?_)
   refine b0 rfl rfl aY ?_; intro v21
   refine .p (kE (k) rfl .no aY hs (.u rfl) (.u rfl) (by omega) (by omega) ?_)
   intro h24 L24 eL24 lL24 hs24
   have lL24:=lL24 rfl
   refine wB (xs:=([]:List Meta)) rfl aY cT rfl (.u rfl) (.u rfl) .here hs24 (fun _ _=>Meta.len _) (tB _) (by (try simp only [bM,List.length_take,List.length_drop]); omega) (by unfold maxLen; (try simp only [bM,List.length_take,List.length_drop]); omega) ?_; intro v25 ov25
   refine .g (aW (((k+1):Nat):Int) rfl rfl rfl rfl ?_)
   refine kD ((k+1)) rfl .no aY hs (.u rfl) (.u rfl) (by omega) (by omega) ?_
   intro h30 L30 eL30 lL30 hs30
   have lL30:=lL30 rfl
   refine wB (xs:=(([]:List Meta)++L24)) rfl aY cT rfl (.u rfl) (.u rfl) .here hs30 (fun _ _=>Meta.len _) (tB _) (by (try simp only [bM,List.length_take,List.length_drop]); omega) (by unfold maxLen; (try simp only [bM,List.length_take,List.length_drop]); omega) ?_; intro v31 ov31
   refine aS rfl rfl (.nc (.seq (dU rfl rfl (mV rfl rfl (aS rfl rfl (aS rfl rfl (.nc (.ret ?_))))))))
   refine aEP .here (fun _ _=>rfl) (by intro b hb; cases hb) ?_; intro GfR hR hleR evR hsR; subst evR
   refine aM Tryz.results49 (.tmp rfl (.tmp rfl .nil)) ?_
   obtain hh:=aGd (p:=fJ g) (l:=l) (by omega) hno c2k
   exact ⟨_,_,true,.inr ⟨rfl,k,(Value.int.inj hh).2.symm,by omega,by rw [eL24,eL30]; rfl⟩,rfl,rfl,hsR⟩
  have c2k:=c2
  try simp only [aC,aD] at c2
  refine .g (aW (((k+1):Nat):Int) rfl rfl rfl rfl ?_)
  refine .g (aP (k+1) ?_ ?_ ?_ ?_ ?_)
  ·exact (aK rfl (aA rfl (aA rfl eZ)))
  ·exact mN
  ·first|omega|(dsimp only; omega)
  ·exact hGl0
  refine ⟨?_,?_⟩
  ·(try dsimp only)<;>(first|omega|rfl|assumption|(simp; done))
  (try dsimp only)<;>(exact aGf hno c2k)
 have c1k:=c1
 try simp only [aC,aD] at c1
 refine .exit (.xcode (.xlp (.xblk (.code (.seq (bJ rfl rfl (aS rfl rfl (aS rfl rfl (.nc (.ret (aM Tryz.results49 (.tmp rfl (.tmp rfl .nil)) ?_)))))))))))
 obtain hh:=aGe (p:=fJ g) (l:=l) (by omega) hno
 exact ⟨⟨none,0⟩,[],false,.inl ⟨rfl,rfl,by rw [← (Value.int.inj hh).2]; decide⟩,rfl,rfl,SlR.nul⟩
theorem aOr (level:Int) (h:Sh) (l:List Meta) (m:Meta) (G:PM) (hs:SlR G 40 Meta.cells h l) (hl:l.length≤1000000) (h0:0≤level):Ct Tryz.prog 50 ([.int .i64 level,h.val l.length,m.val]:List Value).toArray G [] (fun G' μ' u=>∃ (h':Sh) (L:List Meta),L=kK (iX level) l m∧μ'=[]∧u=h'.val L.length∧SlR G' 40 Meta.cells h' L):=by
 refine Ct.of Tryz.func50 rfl Tryz.ntmps50 rfl fun w0 hs0=>?_
 refine .seq (bJ rfl rfl ?_)
 refine bX rfl rfl rfl ?_; intro b5
 refine aS rfl rfl (.nc (.seq (aL rfl rfl (aS rfl rfl (.nc (.seq (.block ?_)))))))
 refine aV (α:=Nat) (fun k=>[(7,true,.int .i64 (k:Int))]) (fun _=>[])
  (fun k Gl=>(k≤l.length)∧(∀ j,j<k→iX level m (l.getD j Meta.zero)=false)) (fun k=>l.length-k) 0 [(0,true,_),(1,true,_),(5,true,_)] [_]
  (aK rfl (aA rfl (aA rfl (aA rfl eZ))))
  (mS .here rfl mN) ?_ ?_
 ·refine ⟨?_,?_⟩
  ·(try dsimp only)<;>(first|omega|rfl|assumption|(simp; done))
  (try dsimp only)<;>(exact fun j hj=>by omega)
 intro k N0 Gl0 hN0 hGl0 hF0
 try dsimp only at hF0 hN0 ⊢
 obtain ⟨hk,hno⟩:=hF0
 have hs:=hs.mono hGl0
 refine .g (bA (mc:=⟨false,false⟩) [0,1,2,3,4,5,6,7,8,9,10,11,12,13,14,15,16,17,18,19,20,21,22,23,24,25,26,27,28,29,30,31] aX (by kernel_rfl) ?_)
 refine .p (lE rfl fH rfl (cP rfl rfl rfl rfl (mV rfl rfl (mv rfl (.t rfl rfl) (.u rfl) (cp rfl (.t rfl rfl) (.s rfl) (.u rfl) rfl (mv rfl (.t rfl rfl) (.s rfl) (mv rfl (.tc rfl rfl) (.u rfl) (mv rfl (.tc rfl rfl) (.u rfl) (ih rfl (.tc rfl rfl) aY (.s rfl) (.s rfl) (fun hc=>by (try simp only [Bool.and_eq_true,decide_eq_true_eq] at hc); omega) (fun hc=>by (try simp only [Bool.and_eq_true,decide_eq_true_eq] at hc); omega) (fun hc=>hs.nn (k:=k) (by first|omega|(simp only [Bool.and_eq_true,decide_eq_true_eq] at hc; omega)|(simp only [List.length_cons,List.length_nil]; omega))) ?_)))))))))
 refine fa rfl (.tc rfl rfl) iR (.s rfl) (ld rfl (.tc rfl rfl) bD (.s rfl) (fun hc=>(hs.gat k (by (try simp only [Bool.and_eq_true,decide_eq_true_eq] at hc); omega) (by (try simp only [Bool.and_eq_true,decide_eq_true_eq] at hc); omega) 3 _ rfl).rd) ?_)
 refine fz rfl (.tc rfl rfl) iR (.u rfl) (ld rfl (.tc rfl rfl) bD (.s rfl) (fun hc=>Rd.own .here (by first|exact aJ rfl|rfl)) ?_)
 refine cp rfl (.tc rfl rfl) (.s rfl) (.s rfl) rfl (bR rfl (.t rfl rfl) (.s rfl) (.s rfl) (mv rfl (.t rfl rfl) (.s rfl) (mv rfl (.fc rfl rfl) (.u rfl) (cp rfl (.fc rfl rfl) (.s rfl) (.u rfl) rfl (mv rfl (.fc rfl rfl) (.s rfl) (mv rfl (.tc rfl rfl) (.u rfl) (mv rfl (.tc rfl rfl) (.u rfl) (ih rfl (.tc rfl rfl) aY (.s rfl) (.s rfl) (fun hc=>by (try simp only [Bool.and_eq_true,decide_eq_true_eq] at hc); omega) (fun hc=>by (try simp only [Bool.and_eq_true,decide_eq_true_eq] at hc); omega) (fun hc=>hs.nn (k:=k) (by first|omega|(simp only [Bool.and_eq_true,decide_eq_true_eq] at hc; omega)|(simp only [List.length_cons,List.length_nil]; omega))) ?_))))))))
 refine fa rfl (.tc rfl rfl) mM (.s rfl) (ld rfl (.tc rfl rfl) iE (.s rfl) (fun hc=>(hs.gat k (by (try simp only [Bool.and_eq_true,decide_eq_true_eq] at hc); omega) (by (try simp only [Bool.and_eq_true,decide_eq_true_eq] at hc); omega) 6 _ rfl).rd) ?_)
 refine fz rfl (.tc rfl rfl) mM (.u rfl) (ld rfl (.tc rfl rfl) iE (.s rfl) (fun hc=>Rd.own .here (by first|exact aJ rfl|rfl)) ?_)
 refine cs rfl (.tc rfl rfl) (.s rfl) (.s rfl) rfl (bR rfl (.fc rfl rfl) (.s rfl) (.s rfl) (cK rfl (.t rfl rfl) (.s rfl) (.s rfl) (bR rfl .no (.u rfl) (.s rfl) (.g (cD rfl (fun c1=>?_) (fun c1=>?_))))))
 ·have c1k:=c1
  try simp only [aC,aG,aD] at c1
  refine .g (aW (((k+1):Nat):Int) rfl rfl rfl rfl ?_)
  refine .g (aP (k+1) ?_ ?_ ?_ ?_ ?_)
  ·exact (aK rfl (aA rfl (aA rfl (aA rfl eZ))))
  ·exact (mS .here rfl mN)
  ·first|omega|(dsimp only; omega)
  ·exact hGl0
  refine ⟨?_,?_⟩
  ·(try dsimp only)<;>(first|omega|rfl|assumption|(simp; done))
  (try dsimp only)<;>(exact fun j hj=>by (by_cases e:j=k; (subst e; have h9:=c1k; rw [aHo h0] at h9; simpa using (Bool.and_eq_true_iff.1 h9).2); exact hno j (by omega)))
 have c1k:=c1
 try simp only [aC,aG,aD] at c1
 refine .exit (.xcode (.xlp (.xblk (.code (.seq (gL rfl rfl ?_))))))
 refine b0 rfl rfl aY ?_; intro v43
 refine .p (kE (k) rfl .no aY hs (.u rfl) (.u rfl) (by omega) (by omega) ?_)
 intro h46 L46 eL46 lL46 hs46
 have lL46:=lL46 rfl
 refine wB (xs:=([]:List Meta)) rfl aY cT rfl (.u rfl) (.u rfl) .here hs46 (fun _ _=>Meta.len _) (tB _) (by (try simp only [bM,List.length_take,List.length_drop]); omega) (by unfold maxLen; (try simp only [bM,List.length_take,List.length_drop]); omega) ?_; intro v47 ov47
 refine .g (lA rfl .no dF (.u rfl) (fun _=>RdN.own aE) (fun _=>Meta.len _) ?_)
 refine Go.Tan.b1 rfl aY cT (.u rfl) rfl rfl (by decide) ?_; intro b50
 refine eC (xs:=(([]:List Meta)++L46)) (m) rfl aY cT rfl (.u rfl) (.u rfl) aE .here (Meta.len _) (Meta.one _) (by (try simp only [bM,List.length_take,List.length_drop]); omega) (by unfold maxLen; (try simp only [bM,List.length_take,List.length_drop]); omega) ?_; intro v51 ov51
 refine .g (kD (k) rfl .no aY hs (.u rfl) (.u rfl) (by omega) (by omega) ?_)
 intro h55 L55 eL55 lL55 hs55
 have lL55:=lL55 rfl
 refine wB (xs:=((([]:List Meta)++L46)++[m])) rfl aY cT rfl (.u rfl) (.u rfl) .here hs55 (fun _ _=>Meta.len _) (tB _) (by (try simp only [bM,List.length_take,List.length_drop]); omega) (by unfold maxLen; (try simp only [bM,List.length_take,List.length_drop]); omega) ?_; intro v56 ov56
 refine aS rfl rfl (.nc (.seq (bJ rfl rfl (mV rfl rfl (aS rfl rfl (.nc (.ret ?_)))))))
 refine aEP .here (fun _ _=>rfl) (by intro b hb; cases hb) ?_; intro GfR hR hleR evR hsR; subst evR
 refine aM Tryz.results50 (.tmp rfl .nil) ?_
 have hat:=aNM hk hno (by (by_cases e:k<l.length; (right; have h9:=c1k; rw [aHo h0,decide_eq_true (show (k:Int)<l.length by omega)] at h9; simpa using h9); left; omega))
 exact ⟨_,_,by rw [hat,eL46,eL55]; simp,rfl,rfl,hsR⟩
set_option maxHeartbeats 4000000 in
theorem aPa (s:State) (hd:Nat→Sh) (e:Edit) (ha he:Sh) (G:PM) (hs:StR G s hd) (hE:EdR G e ha he):Ct Tryz.prog 19 ([s.val hd,e.val ha he]:List Value).toArray G [] (fun G' μ' u=>∃ X hdX err,AppR s e X err∧μ'=[]∧u=.tuple #[State.val X hdX,.int .i64 err]∧StR G' X hdX):=by
 refine Ct.of Tryz.func19 rfl Tryz.ntmps19 rfl fun w0 hs0=>?_
 have hea:=hE.add; have hed:=hE.drop
 refine .seq (gK rfl rfl ?_)
 refine bX rfl rfl rfl ?_; intro b2
 refine bX rfl rfl rfl ?_; intro b3
 refine al rfl yW ?_; intro b4
 refine .g (lB rfl eQ rfl aN ?_)
 refine kV rfl aKm (aB rfl aF) (aHy s hd _ hs) ?_
 refine nt rfl .no (.u rfl) (.g (cD rfl (fun c1=>?_) (fun c1=>?_)))
 ·have c1k:=c1
  try simp only [aC,aG,aD] at c1
  refine .g (bC rfl .no oW .nil rfl ?_)
  refine sw rfl (.u rfl) (.u rfl) rfl jC .here (by first|exact qE|exact qL|rfl) (iT) ?_
  refine aS rfl rfl (.nc (.ret (aM Tryz.results19 (.cell rfl (fun w hw=>bI eQ (RdN.own .here) ((by first|exact qE|exact qL|rfl)) hw) (.tmp rfl .nil)) ?_)))
  exact ⟨State.zero,eJ,1,.inl ⟨by simpa using c1k,rfl,rfl⟩,rfl,rfl,lH⟩
 have c1k:=c1
 try simp only [aC,aG,aD] at c1
 refine .skip (.code (.seq ?_))
 have hri:fG s=true:=by simpa using c1k
 have hri':=vD hri
 have hfw:=hri'.few
 refine .g (fZ rfl vO rfl (lO rfl bD rfl aE (by first|exact aJ rfl|rfl) ?_))
 refine fZ rfl tT rfl (lO rfl bD rfl aN (by first|exact aJ rfl|rfl) ?_)
 refine cP rfl rfl rfl rfl (.p (fz rfl (.t rfl rfl) tX (.u rfl) (ld rfl (.t rfl rfl) bD (.s rfl) (fun hc=>Rd.own aE (by first|exact aJ rfl|rfl)) ?_)))
 refine fz rfl (.t rfl rfl) rE (.u rfl) (ld rfl (.t rfl rfl) bD (.s rfl) (fun hc=>Rd.own aN (by first|exact aJ rfl|rfl)) ?_)
 refine cp rfl (.t rfl rfl) (.s rfl) (.s rfl) rfl (bR rfl .no (.u rfl) (.s rfl) (.p (fz rfl (.t rfl rfl) tY (.u rfl) (ld rfl (.t rfl rfl) bD (.s rfl) (fun hc=>Rd.own aE (by first|exact aJ rfl|rfl)) ?_))))
 refine fz rfl (.t rfl rfl) tU (.u rfl) (ld rfl (.t rfl rfl) bD (.s rfl) (fun hc=>Rd.own aN (by first|exact aJ rfl|rfl)) ?_)
 refine cp rfl (.t rfl rfl) (.s rfl) (.s rfl) rfl (bR rfl .no (.u rfl) (.s rfl) (.p (fz rfl (.t rfl rfl) tZ (.u rfl) (ld rfl (.t rfl rfl) bD (.s rfl) (fun hc=>Rd.own aE (by first|exact aJ rfl|rfl)) ?_))))
 refine fz rfl (.t rfl rfl) yK (.u rfl) (ld rfl (.t rfl rfl) bD (.s rfl) (fun hc=>Rd.own aN (by first|exact aJ rfl|rfl)) ?_)
 refine cp rfl (.t rfl rfl) (.s rfl) (.s rfl) rfl (bR rfl .no (.u rfl) (.s rfl) (.p (fz rfl (.t rfl rfl) fW (.u rfl) (ld rfl (.t rfl rfl) cM (.s rfl) (fun hc=>Rd.own aE (by first|exact aJ rfl|rfl)) ?_))))
 refine ln rfl (.t rfl rfl) fH (.s rfl) (cp rfl (.t rfl rfl) (.s rfl) (.u rfl) rfl (bR rfl .no (.u rfl) (.s rfl) (.p (fz rfl (.t rfl rfl) kB (.u rfl) (ld rfl (.t rfl rfl) lP (.s rfl) (fun hc=>Rd.own aE (by first|exact aJ rfl|rfl)) ?_)))))
 refine ln rfl (.t rfl rfl) rH (.s rfl) (cp rfl (.t rfl rfl) (.s rfl) (.u rfl) rfl (bR rfl .no (.u rfl) (.s rfl) (.g (fZ rfl vO rfl (lO rfl bD rfl aE (by first|exact aJ rfl|rfl) ?_)))))
 refine fZ rfl tX rfl (lO rfl bD rfl aE (by first|exact aJ rfl|rfl) ?_)
 refine fZ rfl tY rfl (lO rfl bD rfl aE (by first|exact aJ rfl|rfl) ?_)
 refine fZ rfl tZ rfl (lO rfl bD rfl aE (by first|exact aJ rfl|rfl) ?_)
 refine fZ rfl uA rfl (lA rfl .no vX (.u rfl) (fun _=>RdN.part (n:=5) (cs':=(List.range 5).map (fun i=>.int .u64 (e.gens i))) aE (rfl)) (fun _=>rfl) (dK ((fF e (fun _=>[])).cells (fun _=>⟨none,0⟩)) rfl .no aSa (.cons (.u rfl) rfl (.cons (.u rfl) rfl (.cons (.u rfl) rfl (.cons (.u rfl) rfl (.cons (.u rfl) rfl .nil))))) rfl (rfl) ?_))
 refine al rfl yW ?_; intro b7
 refine sw rfl (.u rfl) (.u rfl) rfl jC .here (by first|exact qE|exact qL|rfl) (iT) ?_
 refine .nil (.code (.seq (.seq (aL rfl rfl (aS rfl rfl (.nc (.block ?_)))))))
 refine aV (α:=Nat×nK×bE×Bool) (fun gh=>[(6,true,.bool gh.2.2.2),(8,true,.int .i64 (gh.1:Int))]) (fun gh=>[.blk b7 (cl ((fF e gh.2.2.1).cells gh.2.1) 33)])
  (fun gh Gl=>(gh.1≤5)∧(gh.2.2.2=rW s e gh.1)∧(∀ i,i<gh.1→gh.2.2.1 i=s.lv i)∧(LvR Gl gh.2.1 gh.2.2.1 gh.1)) (fun gh=>5-gh.1) (0,fun _=>⟨none,0⟩,fun _=>[],aAA s e) [(2,true,_),(3,true,_),(4,true,_),(7,true,_)] [_,_,_]
  (aA rfl (aK rfl (aA rfl (aA rfl (aA rfl (aA rfl eZ))))))
  (mS .here rfl (mS .here rfl (mS .here rfl (mS .here rfl mN)))) ?_ ?_
 ·refine ⟨?_,?_,?_,?_⟩
  ·(try dsimp only)<;>(first|omega|rfl|assumption|(simp; done))
  ·(try dsimp only)<;>(rfl)
  ·(try dsimp only)<;>(exact fun i hi=>by omega)
  (try dsimp only)<;>(exact ⟨fun i hi=>by omega⟩)
 intro gh N0 Gl0 hN0 hGl0 hF0
 obtain ⟨k,sh,Lf,ok⟩:=gh; dsimp only at hF0 hN0 ⊢
 obtain ⟨hk,hok,hLf,hls⟩:=hF0
 have hs:=hs.mono hGl0
 have hea:=hea.mono hGl0
 have hed:=hed.mono hGl0
 refine .g (cP rfl rfl rfl rfl (.g (cD rfl (fun c2=>?_) (fun c2=>?_))))
 ·have c2k:=c2
  try simp only [aC,aG,aD] at c2
  refine .g (bA (mc:=⟨false,false⟩) [0,1,2,3,4,5,6,7,8,9,10,11,12] aX (by kernel_rfl) ?_)
  refine mV rfl rfl (mV rfl rfl (mv rfl (.t rfl rfl) (.u rfl) (fz rfl (.t rfl rfl) uA (.u rfl) (iA rfl (.t rfl rfl) rA (.s rfl) (.s rfl) (fun hc=>by (try simp only [Bool.and_eq_true,decide_eq_true_eq] at hc); omega) (fun hc=>by (try simp only [Bool.and_eq_true,decide_eq_true_eq] at hc); omega) ?_))))
  refine ld rfl (.t rfl rfl) bD (.s rfl) (fun hc=>Rd.own aN (e.cell_gen ha he (k:=k) (by (try simp only [Bool.and_eq_true,decide_eq_true_eq] at hc); omega))) ?_
  refine mv rfl (.t rfl rfl) (.u rfl) (fz rfl (.t rfl rfl) tV (.u rfl) (iA rfl (.t rfl rfl) rA (.s rfl) (.s rfl) (fun hc=>by (try simp only [Bool.and_eq_true,decide_eq_true_eq] at hc); omega) (fun hc=>by (try simp only [Bool.and_eq_true,decide_eq_true_eq] at hc); omega) ?_))
  refine ld rfl (.t rfl rfl) bD (.s rfl) (fun hc=>Rd.own bB (s.cell_gen hd (k:=k) (by (try simp only [Bool.and_eq_true,decide_eq_true_eq] at hc); omega))) ?_
  refine cp rfl (.t rfl rfl) (.s rfl) (.s rfl) rfl (bR rfl .no (.u rfl) (.s rfl) (aS rfl rfl (.nc ?_)))
  have hlv:=hs.lv k (by omega)
  have hlk:=rT s (i:=k) (by omega)
  refine aQC rfl rfl (mV rfl rfl ?_)
  refine b0 rfl rfl aY ?_; intro v85
  refine .p (fZ rfl dI rfl (iW rfl cS rfl rfl ?_))
  refine lO rfl cM rfl cJ (s.cell_lv hd (k:=k) (by omega)) ?_
  refine wB (xs:=([]:List Meta)) rfl aY cT rfl (.u rfl) (.u rfl) .here hlv (fun _ _=>Meta.len _) (tB _) (by (try simp only [bM,List.length_take,List.length_drop]); omega) (by unfold maxLen; (try simp only [bM,List.length_take,List.length_drop]); omega) ?_; intro v90 ov90
  refine fZ rfl dI rfl (iW rfl cS rfl rfl ?_)
  refine dE rfl (.u rfl) (.u rfl) .here dS aE (by show _<14; omega) (rfl) ?_
  refine .nil (.blk (.code ?_))
  refine mK aE (fun _ _=>rfl) (by intro b hb; cases hb) ?_; intro GfR hR hleR evR hsR; subst evR
  have hs:=hs.mono hleR
  have hea:=hea.mono hleR
  have hed:=hed.mono hleR
  have hls:=hls.mono hleR
  refine .g (aW (((k+1):Nat):Int) rfl rfl rfl rfl ?_)
  refine .g (aP (k+1,tN sh k hR,cW Lf k ([]++s.lv k),ok&&decide (e.gens k≥s.gens k)) ?_ ?_ ?_ ?_ ?_)
  ·exact (aA rfl (aK rfl (aA rfl (aA rfl (aA rfl (aA rfl eZ))))))
  ·exact (mS .here (by dsimp only; rw [aCq (k:=k) (by omega) (by omega)]) (mS .here rfl (mS .here rfl (mS .here rfl mN))))
  ·first|omega|(dsimp only; omega)
  ·exact (hGl0).trans hleR
  refine ⟨?_,?_,?_,?_⟩
  ·(try dsimp only)<;>(first|omega|rfl|assumption|(simp; done))
  ·(try dsimp only)<;>(rw [hok]; rfl)
  ·(try dsimp only)<;>(exact fun i hi=>by (by_cases e9:i=k; (subst e9; rw [pZ]; simp); rw [pY e9]; exact hLf i (by omega)))
  (try dsimp only)<;>(exact hls.next hsR)
 have c2k:=c2
 try simp only [aC,aG,aD] at c2
 refine .exit (.xcode (.xlp (.xblk (.code (.seq (.seq (aL rfl rfl (aS rfl rfl (.nc (.block ?_))))))))))
 obtain rfl:k=5:=by omega
 have hls:=hls.congr hLf
 rw [aLw hLf]
 refine aV (α:=Nat×nK×bE×Bool) (fun gh=>[(6,true,.bool gh.2.2.2),(9,true,.int .i64 (gh.1:Int))]) (fun gh=>[.blk b7 (cl ((fF e gh.2.2.1).cells gh.2.1) 33)])
  (fun gh Gl=>(gh.1≤e.drop.length)∧(RefT s e (cF dV (e.drop.take gh.1) s.lv) gh.2.2.1 gh.2.2.2)∧(∀ i,i<5→(gh.2.2.1 i).length≤1024)∧(∀ i,i<5→∀ m∈gh.2.2.1 i,m.wf)∧(LvR Gl gh.2.1 gh.2.2.1 5)) (fun gh=>e.drop.length-gh.1) (0,sh,s.lv,ok) [(3,true,_),(4,true,_),(7,true,_)] [_,_,_]
  (aA rfl (aK rfl (aA rfl (aA rfl (aA rfl eZ)))))
  (mS .here rfl (mS .here rfl (mS .here rfl (mS .here rfl mN)))) ?_ ?_
 ·refine ⟨?_,?_,?_,?_,?_⟩
  ·(try dsimp only)<;>(first|omega|rfl|assumption|(simp; done))
  ·(try dsimp only)<;>(exact aLE hok rfl)
  ·(try dsimp only)<;>(exact fun i hi=>by have:=rT s hi; omega)
  ·(try dsimp only)<;>(exact hs.wf)
  (try dsimp only)<;>(exact hls)
 intro gh N1 Gl1 hN1 hGl1 hF1
 obtain ⟨j,sh,Lf,ok⟩:=gh; dsimp only at hF1 hN1 ⊢
 obtain ⟨hj,hT,hLl,hlw,hls⟩:=hF1
 have hea:=hea.mono hGl1
 have hed:=hed.mono hGl1
 refine .g (fZ rfl kB rfl (lO rfl lP rfl aN (by first|exact aJ rfl|rfl) ?_))
 refine lE rfl rH rfl (cP rfl rfl rfl rfl (mV rfl rfl (mv rfl (.t rfl rfl) (.u rfl) (bR rfl .no (.u rfl) (.s rfl) (.g (cD rfl (fun c3=>?_) (fun c3=>?_)))))))
 ·have c3k:=c3
  try simp only [aC,aG,aD] at c3
  refine .skip (.code (.seq (.block (.seq (rZ rfl rfl ?_)))))
  obtain ⟨g,eg⟩:=iJ (k:=j) (xs:=e.drop) (by omega)
  have hwg:=(hE.wf.drop g (List.mem_of_getElem? eg)).level
  have hok1:=c3.2
  have hlb:=aLC (hok1▸hT)
  refine fZ rfl kB rfl (lO rfl lP rfl aN (by first|exact aJ rfl|rfl) ?_)
  refine mV rfl rfl (ih rfl .no pB (.u rfl) (.u rfl) (by omega) (by omega) (fun _=>hed.nn (k:=j) (by first|omega|(simp only [Bool.and_eq_true,decide_eq_true_eq] at hc; omega)|(simp only [List.length_cons,List.length_nil]; omega))) ?_)
  refine lA rfl .no aAZ (.u rfl) (fun _=>(hed.at (by omega) eg).rd) (fun _=>rfl) ?_
  refine al rfl aAv ?_; intro b10
  refine sw rfl (.u rfl) (.u rfl) rfl aAq .here rfl (uR) ?_
  refine .g (fZ rfl oY rfl (lO rfl aZ rfl .here (by first|exact aJ rfl|rfl) ?_))
  refine cP rfl rfl rfl rfl (.g (cD rfl (fun c4=>?_) (fun c4=>?_)))
  ·have c4k:=c4
   try simp only [aC,aG,aD] at c4
   refine .seq (bA (mc:=⟨false,false⟩) [0,1,2,3,4,5,6,7,8,9,10,11,12] aX (by kernel_rfl) ?_)
   refine fZ rfl oY rfl (lO rfl aZ rfl .here (by first|exact aJ rfl|rfl) ?_)
   refine fZ rfl dI rfl (iW rfl cS rfl rfl ?_)
   refine ld (v:=(sh g.level.toNat).val (Lf g.level.toNat).length) rfl .no cM (.u rfl) (fun _=>Rd.own aE (State.cell_lv (fF e Lf) sh (k:=g.level.toNat) (by omega))) ?_
   refine fZ rfl yJ rfl (lO rfl bD rfl .here (by first|exact aJ rfl|rfl) ?_)
   refine kc rfl aTQ (aB rfl (aB rfl aF)) (aSA (sh g.level.toNat) (Lf g.level.toNat) g _ (hls.lv _ (by omega)) (by have:=hLl _ (show g.level.toNat<5 by omega); omega)) ?_
   rintro _ G120 μ120 hG120 ⟨h120,L120,ok120,hW,rfl,rfl,hs120⟩
   have hea:=hea.mono hG120
   have hls:=hls.mono hG120
   refine .p (eX rfl rfl rfl (eX rfl rfl rfl (.g (fZ rfl oY rfl (lO rfl aZ rfl .here (by first|exact aJ rfl|rfl) ?_)))))
   refine .p (fZ rfl dI rfl (iW rfl cS rfl rfl ?_))
   refine s1 rfl (.u rfl) (.u rfl) rfl dS aE (by show _<14; omega) (rfl) ?_
   refine .g (aW (((j+1):Nat):Int) rfl rfl rfl rfl ?_)
   refine .g (aP (j+1,tN sh g.level.toNat h120,cW Lf g.level.toNat L120,ok120) ?_ ?_ ?_ ?_ ?_)
   ·exact (aA rfl (aK rfl (aA rfl (aA rfl (aA rfl eZ)))))
   ·exact (mS .here (by dsimp only; rw [aCq (k:=g.level.toNat) (by omega) (by omega)]) (mS aE rfl (mS aE rfl (mS aE rfl mN))))
   ·first|omega|(dsimp only; omega)
   ·exact (hGl1).trans hG120
   refine ⟨?_,?_,?_,?_,?_⟩
   ·(try dsimp only)<;>(first|omega|rfl|assumption|(simp; done))
   ·(try dsimp only)<;>(exact RefT.drop (hok1▸hT) eg (by omega) hW)
   ·(try dsimp only)<;>(exact aR2 hLl hW.len)
   ·(try dsimp only)<;>(exact aR4 hlw hW)
   (try dsimp only)<;>(exact hls.upd hs120)
  have c4k:=c4
  try simp only [aC,aG,aD] at c4
  refine .g (aW (((j+1):Nat):Int) rfl rfl rfl rfl ?_)
  refine .g (aP (j+1,sh,Lf,false) ?_ ?_ ?_ ?_ ?_)
  ·exact (cI rfl (congrArg Value.bool (by assumption)) (aK rfl (aA rfl (aA rfl (aA rfl eZ)))))
  ·exact (mS aE rfl (mS aE rfl (mS aE rfl (mS aE rfl mN))))
  ·first|omega|(dsimp only; omega)
  ·exact hGl1
  refine ⟨?_,?_,?_,?_,?_⟩
  ·(try dsimp only)<;>(first|omega|rfl|assumption|(simp; done))
  ·(try dsimp only)<;>(exact aLD (hok1▸hT) eg (by omega))
  ·(try dsimp only)<;>(exact hLl)
  ·(try dsimp only)<;>(exact hlw)
  (try dsimp only)<;>(exact hls)
 have c3k:=c3
 try simp only [aC,aG,aD] at c3
 refine .exit (.xcode (.xlp (.xblk (.code (.seq (.seq (aL rfl rfl (aS rfl rfl (.nc (.block ?_))))))))))
 have hT2:RefA s e 0 Lf ok:=by
  cases ok with
  | true =>
   obtain rfl:j=e.drop.length:=by (have:=c3k; simp at this; omega)
   rw [List.take_length] at hT; exact aLB hT
  | false=>exact ⟨.inr ⟨rfl,by rcases hT with ⟨h,_⟩ | ⟨_,h⟩; cases h; exact h⟩⟩
 refine aV (α:=Nat×nK×bE×Bool) (fun gh=>[(6,true,.bool gh.2.2.2),(13,true,.int .i64 (gh.1:Int))]) (fun gh=>[.blk b7 (cl ((fF e gh.2.2.1).cells gh.2.1) 33)])
  (fun gh Gl=>(gh.1≤e.add.length)∧(RefA s e gh.1 gh.2.2.1 gh.2.2.2)∧(∀ i,i<5→(gh.2.2.1 i).length≤1024+gh.1)∧(∀ i,i<5→∀ m∈gh.2.2.1 i,m.wf)∧(LvR Gl gh.2.1 gh.2.2.1 5)) (fun gh=>e.add.length-gh.1) (0,sh,Lf,ok) [(3,true,_),(4,true,_),(7,true,_)] [_,_,_]
  (aA rfl (aK rfl (aA rfl (aA rfl (aA rfl eZ)))))
  (mS .here rfl (mS .here rfl (mS .here rfl (mS .here rfl mN)))) ?_ ?_
 ·refine ⟨?_,?_,?_,?_,?_⟩
  ·(try dsimp only)<;>(first|omega|rfl|assumption|(simp; done))
  ·(try dsimp only)<;>(exact hT2)
  ·(try dsimp only)<;>(exact hLl)
  ·(try dsimp only)<;>(exact hlw)
  (try dsimp only)<;>(exact hls)
 intro gh N2 Gl2 hN2 hGl2 hF2
 obtain ⟨j,sh,Lf,ok⟩:=gh; dsimp only at hF2 hN2 ⊢
 obtain ⟨hj,hA,hLl,hlw,hls⟩:=hF2
 have hea:=hea.mono hGl2
 refine .g (fZ rfl fW rfl (lO rfl cM rfl aN (by first|exact aJ rfl|rfl) ?_))
 refine lE rfl fH rfl (cP rfl rfl rfl rfl (mV rfl rfl (mv rfl (.t rfl rfl) (.u rfl) (bR rfl .no (.u rfl) (.s rfl) (.g (cD rfl (fun c5=>?_) (fun c5=>?_)))))))
 ·have c5k:=c5
  try simp only [aC,aG,aD] at c5
  refine .skip (.code (.seq (.block (.seq (rZ rfl rfl ?_)))))
  obtain ⟨m,em⟩:=iJ (k:=j) (xs:=e.add) (by omega)
  have hwm:=(hE.wf.add m (List.mem_of_getElem? em)).level
  have hok1:=c5.2
  have hlb:=aE6 (hok1▸hA)
  refine fZ rfl fW rfl (lO rfl cM rfl aN (by first|exact aJ rfl|rfl) ?_)
  refine mV rfl rfl (ih rfl .no aY (.u rfl) (.u rfl) (by omega) (by omega) (fun _=>hea.nn (k:=j) (by first|omega|(simp only [Bool.and_eq_true,decide_eq_true_eq] at hc; omega)|(simp only [List.length_cons,List.length_nil]; omega))) ?_)
  refine lA rfl .no dF (.u rfl) (fun _=>(hea.at (by omega) em).rd) (fun _=>Meta.len _) ?_
  refine al rfl qD ?_; intro b14
  refine sw rfl (.u rfl) (.u rfl) rfl jP .here rfl (Meta.one _) ?_
  refine .g (fZ rfl gH rfl (lO rfl aZ rfl .here (by first|exact aJ rfl|rfl) ?_))
  refine cP rfl rfl rfl rfl (.g (cD rfl (fun c6=>?_) (fun c6=>?_)))
  ·have c6k:=c6
   try simp only [aC,aG,aD] at c6
   refine bA (mc:=⟨false,false⟩) [0,1,2,3,4,5,6,7,8,9,10,12,11,13,14] aX (by kernel_rfl) ?_
   refine fZ rfl gH rfl (lO rfl aZ rfl .here (by first|exact aJ rfl|rfl) ?_)
   refine fZ rfl gH rfl (lO rfl aZ rfl .here (by first|exact aJ rfl|rfl) ?_)
   refine cw rfl .no vY (.u rfl) (fun _=>bO (by omega) (by omega)) ?_
   refine fZ rfl gH rfl (lO rfl aZ rfl .here (by first|exact aJ rfl|rfl) ?_)
   refine fZ rfl dI rfl (iW rfl cS rfl rfl ?_)
   refine ld (v:=(sh m.level.toNat).val (Lf m.level.toNat).length) rfl .no cM (.u rfl) (fun _=>Rd.own aE (State.cell_lv (fF e Lf) sh (k:=m.level.toNat) (by omega))) ?_
   refine lA rfl .no dF (.u rfl) (fun _=>RdN.own .here) (fun _=>Meta.len _) ?_
   refine fZ rfl dI rfl (kc rfl aTR (aB rfl (aB rfl (aB rfl aF))) (aOr m.level (sh m.level.toNat) (Lf m.level.toNat) m _ (hls.lv _ (by omega)) (by have:=hLl _ (show m.level.toNat<5 by omega); omega) (by omega)) ?_)
   rintro _ G159 μ159 hG159 ⟨h159,L159,eL159,rfl,rfl,hs159⟩
   have hls:=hls.mono hG159
   refine iW rfl cS rfl rfl ?_
   refine s1 rfl (.u rfl) (.u rfl) rfl dS aE (by show _<14; omega) (rfl) ?_
   refine .g (aW (((j+1):Nat):Int) rfl rfl rfl rfl ?_)
   refine .g (aP (j+1,tN sh m.level.toNat h159,cW Lf m.level.toNat L159,true) ?_ ?_ ?_ ?_ ?_)
   ·exact (cI rfl (congrArg Value.bool (by assumption)) (aK rfl (aA rfl (aA rfl (aA rfl eZ)))))
   ·exact (mS .here (by dsimp only; rw [aCq (k:=m.level.toNat) (by omega) (by omega)]) (mS aE rfl (mS aE rfl (mS aE rfl mN))))
   ·first|omega|(dsimp only; omega)
   ·exact (hGl2).trans hG159
   refine ⟨?_,?_,?_,?_,?_⟩
   ·(try dsimp only)<;>(first|omega|rfl|assumption|(simp; done))
   ·(try dsimp only)<;>(rw [eL159]; exact RefA.add (hok1▸hA) em (by omega))
   ·(try dsimp only)<;>(rw [eL159]; exact aR1 hLl)
   ·(try dsimp only)<;>(rw [eL159]; exact aNS hlw (hE.wf.add m (List.mem_of_getElem? em)))
   (try dsimp only)<;>(exact hls.upd hs159)
  have c6k:=c6
  try simp only [aC,aG,aD] at c6
  refine .g (aW (((j+1):Nat):Int) rfl rfl rfl rfl ?_)
  refine .g (aP (j+1,sh,Lf,false) ?_ ?_ ?_ ?_ ?_)
  ·exact (cI rfl (congrArg Value.bool (by assumption)) (aK rfl (aA rfl (aA rfl (aA rfl eZ)))))
  ·exact (mS aE rfl (mS aE rfl (mS aE rfl (mS aE rfl mN))))
  ·first|omega|(dsimp only; omega)
  ·exact hGl2
  refine ⟨?_,?_,?_,?_,?_⟩
  ·(try dsimp only)<;>(first|omega|rfl|assumption|(simp; done))
  ·(try dsimp only)<;>(exact aLA (hok1▸hA) em (by omega))
  ·(try dsimp only)<;>(exact fun i hi=>by have:=hLl i hi; omega)
  ·(try dsimp only)<;>(exact hlw)
  (try dsimp only)<;>(exact hls)
 have c5k:=c5
 try simp only [aC,aG,aD] at c5
 refine .exit (.xcode (.xlp (.xblk (.code (.seq (.seq ?_))))))
 have hXR:ok=true→StR Gl2 (fF e Lf) sh:=fun h9=>aRD hls (fun i hi=>by have h1:=hLl i hi; have h2:=aE6 (h9▸hA); omega) hlw
 have hje:ok=true→e.add.length≤j:=fun h9=>by (have:=c5k; rw [h9] at this; simp at this; omega)
 have hml:∀ m∈e.add,0≤m.level:=fun m hm=>(hE.wf.add m hm).level.1
 refine .g (nt rfl .no (.u rfl) (.p (lA rfl (.f rfl rfl) eQ (.u rfl) (fun _=>RdN.own .here) (fun _=>(by first|exact qE|exact qL|rfl)) ?_)))
 refine kv rfl (.f rfl rfl) aKm (Eva.cons (.s rfl) aF) (fun hc=>aHy (fF e Lf) sh _ (hXR (by simpa using hc))) ?_
 refine nt rfl (.f rfl rfl) (.s rfl) (cK rfl .no (.u rfl) (.s rfl) (.g (cD rfl (fun c7=>?_) (fun c7=>?_))))
 ·have c7k:=c7
  try simp only [aC,aG,aD] at c7
  refine .g (bC rfl .no oW .nil rfl ?_)
  refine sw rfl (.u rfl) (.u rfl) rfl jC aE (by first|exact qE|exact qL|rfl) (iT) ?_
  refine aS rfl rfl (.nc (.ret (aM Tryz.results19 (.cell rfl (fun w hw=>bI eQ (RdN.own .here) ((by first|exact qE|exact qL|rfl)) hw) (.tmp rfl .nil)) ?_)))
  exact ⟨State.zero,eJ,180,.inr (.inl ⟨hri,aPt hri' hA hml hje c7k,rfl,rfl⟩),rfl,rfl,lH⟩
 have c7k:=c7
 try simp only [aC,aG,aD] at c7
 refine .g (lB rfl eQ rfl .here ?_)
 refine sw rfl (.u rfl) (.u rfl) rfl jC aE (by first|exact qE|exact qL|rfl) (iT) ?_
 refine aS rfl rfl (.nc (.ret (aM Tryz.results19 (.cell rfl (fun w hw=>bI eQ (RdN.own .here) ((by first|exact qE|exact qL|rfl)) hw) (.tmp rfl .nil)) ?_)))
 exact ⟨fF e Lf,sh,0,.inr (.inr ⟨hri,rfl,aPu hri' hA hml hje c7k⟩),rfl,rfl,hXR (by have:=c7k; simp at this; exact this.1)⟩
theorem aQi (a b:State) (ha hb:Nat→Sh) (G:PM) (hA:StR G a ha) (hB:StR G b hb) (ga:∀ i,i<5→u64 (a.gens i)) (gb:∀ i,i<5→u64 (b.gens i)) (hl:∀ i,i<5→(a.lv i).length≤100000000000):Ct Tryz.prog 12 ([a.val ha,b.val hb]:List Value).toArray G [] (fun _ μ' u=>μ'=[]∧u=.bool (xN a b)):=by
 refine Ct.of Tryz.func12 rfl Tryz.ntmps12 rfl fun w0 hs0=>?_
 refine .seq (dU rfl rfl ?_)
 refine bX rfl rfl rfl ?_; intro b2
 refine bX rfl rfl rfl ?_; intro b3
 refine aS rfl rfl (.nc (.seq (.seq (aL rfl rfl (aS rfl rfl (.nc (.block ?_)))))))
 refine aV (α:=Nat) (fun k=>[(5,true,.int .i64 (k:Int))]) (fun _=>[])
  (fun k Gl=>(k≤5)∧(∀ i,i<k→nB (a.lv i) (b.lv i)=true)) (fun k=>5-k) 0 [(2,true,_),(3,true,_)] [_,_]
  (aK rfl (aA rfl (aA rfl eZ)))
  (mS .here rfl (mS .here rfl mN)) ?_ ?_
 ·refine ⟨?_,?_⟩
  ·(try dsimp only)<;>(first|omega|rfl|assumption|(simp; done))
  (try dsimp only)<;>(exact fun i hi=>by omega)
 intro k N0 Gl0 hN0 hGl0 hF0
 try dsimp only at hF0 hN0 ⊢
 obtain ⟨hk,hq⟩:=hF0
 have hA:=hA.mono hGl0
 have hB:=hB.mono hGl0
 refine .g (cP rfl rfl rfl rfl (.g (cD rfl (fun c1=>?_) (fun c1=>?_))))
 ·have c1k:=c1
  try simp only [aC,aD] at c1
  refine .g (bA (mc:=⟨false,false⟩) [0,1,2,3,4,5,6,7,8,9] aX (by kernel_rfl) ?_)
  refine .p (fZ rfl dI rfl (iW rfl cS rfl rfl ?_))
  refine lO rfl cM rfl aE (a.cell_lv ha (k:=k) (by omega)) ?_
  refine .p (fZ rfl dI rfl (iW rfl cS rfl rfl ?_))
  refine lO rfl cM rfl .here (b.cell_lv hb (k:=k) (by omega)) ?_
  refine kV rfl aTG (aB rfl (aB rfl aF)) (aQf (ha k) (hb k) _ _ _ (hA.lv k (by omega)) (hB.lv k (by omega)) (hA.wf k (by omega)) (hB.wf k (by omega)) (hl k (by omega))) ?_
  refine nt rfl .no (.u rfl) (.g (cD rfl (fun c2=>?_) (fun c2=>?_)))
  ·have c2k:=c2
   try simp only [aC,aD] at c2
   refine .seq (aL rfl rfl (aS rfl rfl (.nc (.ret (aM Tryz.results12 (.tmp rfl .nil) ?_)))))
   exact ⟨rfl,congrArg Value.bool (aQg (i:=k) (by omega) (by simpa using c2k)).symm⟩
  have c2k:=c2
  try simp only [aC,aD] at c2
  refine .g (aW (((k+1):Nat):Int) rfl rfl rfl rfl ?_)
  refine .g (aP (k+1) ?_ ?_ ?_ ?_ ?_)
  ·exact (aK rfl (aA rfl (aA rfl eZ)))
  ·exact (mS .here rfl (mS .here rfl mN))
  ·first|omega|(dsimp only; omega)
  ·exact hGl0
  refine ⟨?_,?_⟩
  ·(try dsimp only)<;>(first|omega|rfl|assumption|(simp; done))
  (try dsimp only)<;>(exact fun i hi=>by (by_cases e9:i=k; (subst e9; simpa using c2k); exact hq i (by omega)))
 have c1k:=c1
 try simp only [aC,aD] at c1
 refine .g (fZ rfl tT rfl (lO rfl bD rfl aE (by first|exact aJ rfl|rfl) ?_))
 refine fZ rfl tT rfl (lO rfl bD rfl .here (by first|exact aJ rfl|rfl) ?_)
 refine cP rfl rfl rfl rfl (.p (fz rfl (.t rfl rfl) rE (.u rfl) (ld rfl (.t rfl rfl) bD (.s rfl) (fun hc=>Rd.own aE (by first|exact aJ rfl|rfl)) ?_)))
 refine fz rfl (.t rfl rfl) rE (.u rfl) (ld rfl (.t rfl rfl) bD (.s rfl) (fun hc=>Rd.own .here (by first|exact aJ rfl|rfl)) ?_)
 refine cp rfl (.t rfl rfl) (.s rfl) (.s rfl) rfl (bR rfl .no (.u rfl) (.s rfl) (.p (fz rfl (.t rfl rfl) tU (.u rfl) (ld rfl (.t rfl rfl) bD (.s rfl) (fun hc=>Rd.own aE (by first|exact aJ rfl|rfl)) ?_))))
 refine fz rfl (.t rfl rfl) tU (.u rfl) (ld rfl (.t rfl rfl) bD (.s rfl) (fun hc=>Rd.own .here (by first|exact aJ rfl|rfl)) ?_)
 refine cp rfl (.t rfl rfl) (.s rfl) (.s rfl) rfl (bR rfl .no (.u rfl) (.s rfl) (.p (fz rfl (.t rfl rfl) tV (.u rfl) (lA rfl (.t rfl rfl) vX (.s rfl) (fun _=>RdN.part (n:=5) (cs':=(List.range 5).map fun i=>Value.int .u64 (a.gens i)) aE (rfl)) (fun _=>rfl) (fz rfl (.t rfl rfl) tV (.u rfl) (lA rfl (.t rfl rfl) vX (.s rfl) (fun _=>RdN.part (n:=5) (cs':=(List.range 5).map fun i=>Value.int .u64 (b.gens i)) .here (rfl)) (fun _=>rfl) (eqC (zO a b) rfl (.t rfl rfl) aSo (.s rfl) (.s rfl) (fun hc=>aGR ga) (fun hc=>aGR gb) (fun hc=>aMk) ?_)))))))
 refine bR rfl .no (.u rfl) (.s rfl) (aS rfl rfl (.nc (.ret (aM Tryz.results12 (.tmp rfl .nil) ?_))))
 exact ⟨rfl,congrArg Value.bool (aIm (fun i hi=>hq i (by omega))).symm⟩
theorem aTS:aU Tryz.prog 52=true:=by kernel_rfl
theorem aTB:aU Tryz.prog 19=true:=by kernel_rfl
theorem aTC:aU Tryz.prog 20=true:=by kernel_rfl
theorem aPE (mark:BitVec 64) (s:State) (hd:Nat→Sh) (e:Edit) (ha he:Sh) (G:PM) (hs:StR G s hd) (hn:StN s) (hl:StL s) (hE:EdR G e ha he) (hla:e.add.length≤1000000) (hld:e.drop.length≤1000000) (hlm:(e.add.flatMap eF).length≤900000000000) (hR:RdNP G 0 0 (wa 64 kW)):Ct Tryz.prog 20 ([uv .u64 mark,s.val hd,e.val ha he]:List Value).toArray G [] (PR 5 (fun L=>L=pV mark s e)):=by
 refine Ct.of Tryz.func20 rfl Tryz.ntmps20 rfl fun w0 hs0=>?_
 have hen:=aBM hE.wf hla hld
 refine .seq (dU rfl rfl ?_)
 refine bX rfl rfl rfl ?_; intro b4
 refine bX rfl rfl rfl ?_; intro b5
 refine .g (kc rfl uC (aB rfl (aB rfl aF)) (jZ (sU mark 8 _ (by decide))) ?_)
 rintro v10 G10 μ10 hG10 ⟨L10,ov10,eL10,rfl⟩
 have hs:=hs.mono hG10
 have hE:=hE.mono hG10
 have hR:=hR.mono hG10
 refine .g (lB rfl eQ rfl aN ?_)
 refine kV rfl aTS (aB rfl aF) (aPF s hd _ hs hn hl hR) ?_
 refine al rfl fQ ?_; intro b8
 refine sw rfl (.u rfl) (.u rfl) rfl fB .here rfl (jR _ _) ?_
 refine .g (lG rfl .no fU (.u rfl) ?_)
 have lL10:L10.length=8:=by rw [eL10,fI]
 refine dC rfl aI bF (.u rfl) (.u rfl) aE (Sc.arr .here) (by (try simp only [bM,bK]); omega) ?_
 intro v15 L15 ov15 eL15
 have lL15:L15.length=L10.length+32:=by rw [eL15,List.length_append]; first|rfl | simp [bK]
 refine .g (lA rfl .no oU (.u rfl) (fun _=>RdN.part (n:=11) (cs':=e.cells ha he) aN (rfl)) (fun _=>(by first|exact qE|exact qL|rfl)) ?_)
 refine kc rfl aEr (aB rfl aF) (Ct.frzB (aDq e ha he _ hE hla hld (by omega))) ?_
 rintro _ G18 μ18 hG18 ⟨h18,L18,eL18,rfl,rfl,hs18⟩
 have lL18:L18.length=(kU e).length:=by rw [eL18]
 refine dC rfl aI bF (.u rfl) (.u rfl) .here hs18.sc (by (try simp only [bM,bK]); omega) ?_
 intro v19 L19 ov19 eL19
 have lL19:L19.length=L15.length+L18.length:=by rw [eL19,List.length_append]
 refine aS rfl rfl (.nc (.seq (bJ rfl rfl (mV rfl rfl (aS rfl rfl (.nc (.ret (We.fin Tryz.results20 (.tmp rfl .nil) (mS .here rfl mN) ?_))))))))
 exact ⟨_,by rw [eL19,eL15,eL10,eL18]; rfl,rfl⟩
end Go.Proofs.YtdeobooblmjlfaaGreatDoor
namespace Go.Tan
open Go.RowKit
theorem four (P Q R:Prop):P∨(¬P∧Q)∨(¬P∧¬Q∧R)∨(¬P∧¬Q∧¬R):=by by_cases h:P<;>by_cases k:Q<;>by_cases l:R<;>simp [h,k,l]
theorem aRN {m m':Mn} {p:List Y} (h:eW m p=some m'):∀ i,i<5→u64 (m'.st.gens i):=by
 unfold eW at h
 split at h
 ·cases h
 cases hd:iU (p.drop 40) with
 | none=>rw [hd] at h; cases h
 | some e =>
  rw [hd] at h; simp only [Option.bind_some] at h
  split at h
  ·cases h
  cases ha:fC m.st e with
  | none=>rw [ha] at h; cases h
  | some x =>
   rw [ha] at h; simp only [Option.bind_some] at h
   split at h
   ·cases h
    obtain ⟨_,_,L1,L2,_,_,rfl⟩:=aBA ha
    exact (wL hd).2.1.gens
   ·cases h
theorem aI4:∀ {ps:List (List Y)} {m m':Mn},(∀ i,i<5→u64 (m.st.gens i))→iC ps m=some m'→∀ i,i<5→u64 (m'.st.gens i)
 | [],m,m',h0,h=>by cases h; exact h0
 | p :: ps,m,m',h0,h=>by
  simp only [iC] at h
  cases hs:eW m p with
  | none=>rw [hs] at h; cases h
  | some x=>rw [hs] at h; exact aI4 (aRN hs) h
structure RdV where
 hd:Hd
 st:State
 mark:BitVec 64
 n:Nat
 used:Nat
 torn:Bool
 er:Int
noncomputable def tF (root:Nat→Y) (xs:List Y):RdV:=match gU root xs with
 | none=>⟨Hd.zero,State.zero,0#64,0,0,false,190⟩
 | some v=>⟨v.hd,v.m.st,v.m.mark,v.m.n,v.used,v.torn,0⟩
theorem aDs {root:Nat→Y} {xs:List Y} (h:gU root xs=none):tF root xs=⟨Hd.zero,State.zero,0#64,0,0,false,190⟩:=by unfold tF; rw [h]
theorem aDt {root:Nat→Y} {xs:List Y} {v:ManV} (h:gU root xs=some v):tF root xs=⟨v.hd,v.m.st,v.m.mark,v.m.n,v.used,v.torn,0⟩:=by unfold tF; rw [h]
structure RdS (r:RdV) (X:State):Prop where
 eq:EqS X r.st
 gens:∀ i,i<5→u64 (X.gens i)
 few:∀ i,i<5→(X.lv i).length≤100000000000
theorem RdS.none {root:Nat→Y} {xs:List Y} (h:gU root xs=.none):RdS (tF root xs) State.zero:=by
 rw [aDs h]; exact ⟨EqS.refl _,StW.zero,fun _ _=>Nat.zero_le _⟩
theorem RdS.some {root:Nat→Y} {xs:List Y} {v:ManV} {X:State} (h:gU root xs=.some v) (hM:MnR X v.m):RdS (tF root xs) X:=by
 rw [aDt h]
 refine ⟨hM.eq,?_,fun i hi=>by have h8:=rT X hi; have h9:=(vD hM.right).few; omega⟩
 rw [hM.eq.gens]
 unfold gU at h
 split at h
 ·cases h
 cases hs:iC (bW root xs).1.recs Mn.zero with
 | none=>rw [hs] at h; cases h
 | some m=>rw [hs] at h; cases h; exact aI4 StW.zero hs
theorem aMT {p:List Y} {e:Edit} {er:Int} (h:DecR p e er) (hp:p.length≤100000000):e.add.length≤1000000∧e.drop.length≤1000000∧(e.add.flatMap eF).length≤900000000000:=by
 have h1:=h.lens
 refine ⟨by omega,by omega,?_⟩
 rcases h with ⟨h2,_⟩ | ⟨_,rfl,_⟩
 ·have h3:(e.add.flatMap eF).length≤(kU e).length:=by unfold kU; simp only [List.length_append]; omega
  rw [(wL h2).1] at h3; omega
 exact Nat.zero_le _
theorem aB4 {S:State} {m:Mn} {p L:List Y} {e:Edit} {X:State} {er r:Int} (h:MnR S m) (h40:¬ p.length<40) (hD:DecR (p.drop 40) e er) (ha:AppR S e X r) (eL:L=pV (cE p 8) X e) (hc:er≠0∨r≠0∨cE p 8≤m.mark∨L≠p):eW m p=none:=by
 by_cases h1:er≠0∨cE p 8≤m.mark
 ·exact aI1 h40 hD h1
 have h0:er=0:=Classical.byContradiction fun q=>h1 (.inl q)
 have hd:=aBJ hD h0
 by_cases hr:r=0
 ·subst hr
  refine h.root h40 hd ha fun q=>?_
  rcases hc with hc | hc | hc | hc
  ·exact hc h0
  ·exact hc rfl
  ·exact h1 (.inr hc)
  exact hc (by rw [eL]; exact (aIM h40 hd).2 q)
 exact h.bad h40 hd ha hr
theorem aRR {S:State} {m:Mn} {p L:List Y} {e:Edit} {X:State} {er r:Int} (h:MnR S m) (h40:¬ p.length<40) (hD:DecR (p.drop 40) e er) (ha:AppR S e X r) (eL:L=pV (cE p 8) X e) (h0:er=0) (hr:r=0) (hm:¬ cE p 8≤m.mark) (hL:L=p) :
  ∃ m',eW m p=some m'∧MnR X m'∧m'.mark=cE p 8∧m'.n=m.n+1:=by
 subst hr
 have hd:=aBJ hD h0
 exact h.next h40 hd hm ha ((aIM h40 hd).1 (by rw [← eL]; exact hL))
end Go.Tan
namespace Go.Proofs.YtdeobooblmjlfaaGreatDoor
open Go.Tan Go.RowKit
theorem aT2:iD Tryz.prog 63=some ([.slice none 0 0,.int .i64 0,.int .i64 0]):=by kernel_rfl
theorem aTy:dL Tryz.prog 63=some 3:=by kernel_rfl
theorem aKr:aU Tryz.prog 81=true:=by kernel_rfl
theorem aBv (xs:List Y) (s:Sh) (a b:Nat) (G:PM) (hs:SlR G 1 aQ s xs) (h8:a+8≤xs.length) (hl:xs.length≤100000000000000):Ct Tryz.prog 17 ([.pointer (some ⟨b,0,none⟩),.int .i64 ((8:Nat):Int)]:List Value).toArray G [.blk b (cl [s.val xs.length,.int .i64 (a:Int),.int .i64 0] 63)] (fun _ μ' u=>μ'=[.blk b (cl [s.val xs.length,.int .i64 ((a+8:Nat):Int),.int .i64 0] 63)]∧u=uv .u64 (cE (xs.drop a) 8)):=by
 refine Ct.of Tryz.func17 rfl Tryz.ntmps17 rfl fun w0 hs0=>?_
 refine .g (nC rfl rfl (fZ rfl qF rfl (lO rfl lK rfl .here (by first|exact aJ rfl|rfl) ?_)))
 refine cP rfl rfl rfl rfl (.g (cD rfl (fun c1=>?_) (fun c1=>?_)))
 ·have c1k:=c1
  exact absurd c1 (by decide)
 have c1k:=c1
 try simp only [aC,aD] at c1
 refine .g (cP rfl rfl rfl rfl (mV rfl rfl (mv rfl (.f rfl rfl) (.u rfl) (cp rfl (.f rfl rfl) (.s rfl) (.u rfl) rfl (cK rfl .no (.u rfl) (.s rfl) (.g (cD rfl (fun c2=>?_) (fun c2=>?_))))))))
 ·have c2k:=c2
  exact absurd c2 (by decide)
 have c2k:=c2
 try simp only [aC,aD] at c2
 refine .g (bA (mc:=⟨false,false⟩) [0,1,2,3,4,5,6,7,8,9,10,11] aX (by kernel_rfl) ?_)
 refine .p (nC rfl rfl (fZ rfl pC rfl (lO rfl cX rfl .here (by first|exact aJ rfl|rfl) ?_)))
 refine lE rfl bU rfl (.p (nC rfl rfl (fZ rfl gS rfl (lO rfl dH rfl .here (by first|exact aJ rfl|rfl) ?_))))
 refine aW (((xs.length-a):Nat):Int) rfl rfl rfl rfl ?_
 refine cP rfl rfl rfl rfl (.g (cD rfl (fun c3=>?_) (fun c3=>?_)))
 ·have c3k:=c3
  try simp only [aC,aD] at c3
  exfalso; omega
 have c3k:=c3
 try simp only [aC,aD] at c3
 refine .g (aW ((7:Nat):Int) rfl rfl rfl rfl ?_)
 refine aS rfl rfl (.nc (.block ?_))
 refine aV (α:=Nat×BitVec 64) (fun gh=>[(5,true,uv .u64 gh.2),(6,true,.int .i64 ((gh.1:Int)-1))]) (fun _=>[])
  (fun gh Gl=>(gh.1≤8)∧(gh.2=xW (xs.drop a) (8-gh.1))) (fun gh=>gh.1) (8,0#64) [(0,true,_),(1,true,_)] [_]
  (aA rfl (aA rfl (aA rfl (aA rfl eZ))))
  (mS .here rfl mN) ?_ ?_
 ·refine ⟨?_,?_⟩
  ·(try dsimp only)<;>(first|omega|rfl|assumption|(simp; done))
  (try dsimp only)<;>(rfl)
 intro gh N0 Gl0 hN0 hGl0 hF0
 obtain ⟨j,m⟩:=gh; dsimp only at hF0 hN0 ⊢
 obtain ⟨hj,em⟩:=hF0
 have hs:=hs.mono hGl0
 refine .g (cP rfl rfl rfl rfl (.g (cD rfl (fun c4=>?_) (fun c4=>?_))))
 ·have c4k:=c4
  try simp only [aC,aD] at c4
  refine .g (bA (mc:=⟨false,false⟩) [0,1,2,3,4,5,6,7,8,9,10,11,12,13,14,15,16] aX (by kernel_rfl) ?_)
  refine .p (bw (k:=.u64) (b:=256#64) rfl .no rfl (.u rfl) (.u rfl) rfl (.p (nC rfl rfl (fZ rfl pC rfl (lO rfl cX rfl .here (by first|exact aJ rfl|rfl) ?_)))))
  refine .p (nC rfl rfl (fZ rfl gS rfl (lO rfl dH rfl .here (by first|exact aJ rfl|rfl) ?_)))
  refine .p (cQ (((a+(j-1)):Nat):Int) rfl .no (.u rfl) (.u rfl) rfl (by omega) (fun _=>bO (by omega) (by omega)) ?_)
  refine ih rfl .no aI (.u rfl) (.u rfl) (by omega) (by omega) (fun _=>hs.nn (k:=(a+(j-1))) (by omega)) ?_
  refine ld rfl .no aZ (.u rfl) (fun _=>(hs.yat ((a+(j-1))) (by omega) (by omega)).rd) ?_
  refine cu (k:=.u8) rfl .no rfl nZ (.u rfl) ?_
  refine bw (k:=.u64) rfl .no rfl (.u rfl) (.u rfl) rfl (.g (aR rfl rfl rfl rfl ?_))
  refine .g (aP (j-1,m*256#64+(xs.getD (a+(j-1)) 0).setWidth 64) ?_ ?_ ?_ ?_ ?_)
  ·exact (aA rfl (cI rfl (dA (by omega)) (aA rfl (aA rfl eZ))))
  ·exact (mS .here rfl mN)
  ·first|omega|(dsimp only; omega)
  ·exact hGl0
  refine ⟨?_,?_⟩
  ·(try dsimp only)<;>(first|omega|rfl|assumption|(simp; done))
  (try dsimp only)<;>(rw [show 8-(j-1)=(8-j)+1 by omega,xW,←em,kQ,show 7-(8-j)=j-1 by omega])
 have c4k:=c4
 try simp only [aC,aD] at c4
 refine .g (nC rfl rfl (fZ rfl gS rfl (lO rfl dH rfl .here (by first|exact aJ rfl|rfl) ?_)))
 refine .p (aW (((a+8):Nat):Int) rfl rfl rfl rfl ?_)
 refine nC rfl rfl (fZ rfl gS rfl (s1 rfl (.u rfl) (.u rfl) rfl jO .here (by first|decide|(simp only [bV,bT,bM]; omega)) (rfl) ?_))
 refine .nil (.code (.seq (bJ rfl rfl (mV rfl rfl (aS rfl rfl (.nc (.ret (We.fin Tryz.results17 (.tmp rfl .nil) (mS .here rfl mN) ?_))))))))
 obtain rfl:j=0:=by omega
 exact ⟨rfl,by rw [em,←aRt]; rfl⟩
theorem aPZ (xs:List Y) (h:Sh) (G:PM) (hs:SlR G 1 aQ h xs) (hl:xs.length≤100000000000000):Ct Tryz.prog 36 ([h.val xs.length]:List Value).toArray G [] (fun _ μ' u=>μ'=[]∧u=.tuple #[.agg (bY xs).1.cells.toArray,.int .i64 (bY xs).2]):=by
 refine Ct.of Tryz.func36 rfl Tryz.ntmps36 rfl fun w0 hs0=>?_
 refine .seq (bJ rfl rfl ?_)
 refine al rfl yV ?_; intro b2
 refine .g (lE rfl bU rfl (cP rfl rfl rfl rfl (.g (cD rfl (fun c1=>?_) (fun c1=>?_)))))
 ·have c1k:=c1
  try simp only [aC,aG,aD] at c1
  refine .g (bC rfl .no aAb .nil rfl ?_)
  refine sw rfl (.u rfl) (.u rfl) rfl qC .here (by first|exact qE|exact qL|rfl) (pR rfl rfl rfl rfl rfl) ?_
  refine aS rfl rfl (.nc (.ret (aM Tryz.results36 (.cell rfl (fun w hw=>bI gO (RdN.own .here) ((by first|exact qE|exact qL|rfl)) hw) (.tmp rfl .nil)) ?_)))
  exact ⟨rfl,by rw [aJT (by omega)]; rfl⟩
 have c1k:=c1
 try simp only [aC,aG,aD] at c1
 refine .g (kS (6) (30) rfl .no aI hs (.u rfl) (.u rfl) (.u rfl) (by omega) (by omega) (by omega) (by omega) ?_)
 intro h11 L11 eL11 lL11 hs11
 have lL11:=lL11 rfl
 refine dK ([h11.val L11.length,.int .i64 0,.int .i64 0]) rfl .no aEx (.cons (.u rfl) rfl .nil) rfl (rfl) ?_
 refine al rfl aT2 ?_; intro b4
 refine sw rfl (.u rfl) (.u rfl) rfl aTy .here (by first|exact qE|exact qL|rfl) (aOO rfl rfl rfl) ?_
 refine .g (bA (mc:=⟨false,false⟩) [0,1,2,3,4,5,6,7,8] aX (by kernel_rfl) ?_)
 refine mV rfl rfl (ih rfl .no aI (.u rfl) (.u rfl) (by omega) (by omega) (fun _=>hs.nn (k:=4) (by omega)) ?_)
 refine lN rfl aZ rfl ((hs.yat (4) (by omega) (by omega)).rd) ?_
 refine mV rfl rfl (ih rfl .no aI (.u rfl) (.u rfl) (by omega) (by omega) (fun _=>hs.nn (k:=5) (by omega)) ?_)
 refine lN rfl aZ rfl ((hs.yat (5) (by omega) (by omega)).rd) ?_
 refine dK ([V (xs.getD 4 0),V (xs.getD 5 0),uv .u64 0#64,uv .u64 0#64,uv .u64 0#64]) rfl .no aKE (.cons (.u rfl) rfl (.cons (.u rfl) rfl .nil)) rfl (rfl) ?_
 refine al rfl yV ?_; intro b5
 refine sw rfl (.u rfl) (.u rfl) rfl qC .here (by first|exact qE|exact qL|rfl) (pR rfl rfl rfl rfl rfl) ?_
 refine .g (ka rfl (.inr rfl) aAy (aB rfl (aB rfl aF)) (bL aE) (aBv L11 h11 0 _ _ hs11 (by omega) (by omega)) ?_)
 rintro _ G20 μ20 hG20 ⟨rfl,rfl⟩
 have hs:=hs.mono hG20
 have hs11:=hs11.mono hG20
 refine fZ rfl vM rfl (s1 rfl (.u rfl) (.u rfl) rfl iS aE (show 2<5 by decide) (rfl) ?_)
 refine .g (ka rfl (.inr rfl) aAy (aB rfl (aB rfl aF)) (bL aE) (aBv L11 h11 8 _ _ hs11 (by omega) (by omega)) ?_)
 rintro _ G22 μ22 hG22 ⟨rfl,rfl⟩
 have hs:=hs.mono hG22
 have hs11:=hs11.mono hG22
 refine fZ rfl aCO rfl (s1 rfl (.u rfl) (.u rfl) rfl iS aE (show 3<5 by decide) (rfl) ?_)
 refine .g (ka rfl (.inr rfl) aAy (aB rfl (aB rfl aF)) (bL aE) (aBv L11 h11 16 _ _ hs11 (by omega) (by omega)) ?_)
 rintro _ G24 μ24 hG24 ⟨rfl,rfl⟩
 have hs:=hs.mono hG24
 refine fZ rfl aCP rfl (s1 rfl (.u rfl) (.u rfl) rfl iS aE (show 4<5 by decide) (rfl) ?_)
 refine .nil (.code (.seq (.seq ?_)))
 by_cases hr:Hd.right ⟨xs.getD 4 0,xs.getD 5 0,cE (L11.drop 0) 8,cE (L11.drop 8) 8,cE (L11.drop 16) 8⟩=true
 ·refine bA (mc:=⟨false,false⟩) [0,1,2,3,4,7,8,9,5,6,10,11] aX (by kernel_rfl) ?_
  refine lB rfl gO rfl .here ?_
  refine kV rfl aKr (aB rfl aF) (aIO ⟨xs.getD 4 0,xs.getD 5 0,cE (L11.drop 0) 8,cE (L11.drop 8) 8,cE (L11.drop 16) 8⟩ _) ?_
  refine fT true (hr) ?_
  refine nt rfl .no (.u rfl) (.p (lA rfl (Gd.f (b:=false) rfl rfl) gO (.u rfl) (fun _=>RdN.own .here) (fun _=>(by first|exact qE|exact qL|rfl)) ?_))
  refine mv rfl (Gd.f (b:=false) rfl rfl) (.u rfl) (kE (30) rfl (Gd.f (b:=false) rfl rfl) aI hs (.u rfl) (.u rfl) (by omega) (by omega) ?_)
  intro h34 L34 eL34 lL34 hs34
  have lL34:=lL34 rfl
  refine sB rfl (Gd.f (b:=false) rfl rfl) mL (.u rfl) (fun _=>hs34.sc) ?_
  refine kcg rfl (Gd.f (b:=false) rfl rfl) aEq (aB rfl aF) (Ct.frzB (aD1 ⟨xs.getD 4 0,xs.getD 5 0,cE (L11.drop 0) 8,cE (L11.drop 8) 8,cE (L11.drop 16) 8⟩ _)) ?_
  rintro _ G31 μ31 hG31 ⟨h31,L31,eL31,rfl,rfl,hs31⟩
  refine sB rfl (Gd.f (b:=false) rfl rfl) mL (.u rfl) (fun _=>hs31.sc) ?_
  refine wG rfl (Gd.f (b:=false) rfl rfl) (.u rfl) (.u rfl) ?_
  refine cK rfl .no (.u rfl) (.u rfl) (.g (cD rfl (fun c2=>?_) (fun c2=>?_)))
  ·have c2k:=c2
   try simp only [aC,aG,aD] at c2
   refine .g (bC rfl .no aAb .nil rfl ?_)
   refine sw rfl (.u rfl) (.u rfl) rfl qC aN (by first|exact qE|exact qL|rfl) (pR rfl rfl rfl rfl rfl) ?_
   refine aS rfl rfl (.nc (.ret (aM Tryz.results36 (.cell rfl (fun w hw=>bI gO (RdN.own .here) ((by first|exact qE|exact qL|rfl)) hw) (.tmp rfl .nil)) ?_)))
   have c2k:¬ L31=L34:=by simpa using c2k
   rw [aBW eL11] at eL31
   exact ⟨rfl,by rw [aEF (by omega) (fun hq=>c2k (by rw [eL31,eL34]; exact (aGc (by omega)).2 hq.1))]; rfl⟩
  have c2k:=c2
  try simp only [aC,aG,aD] at c2
  refine .g (lB rfl gO rfl .here ?_)
  refine sw rfl (.u rfl) (.u rfl) rfl qC aN (by first|exact qE|exact qL|rfl) (pR rfl rfl rfl rfl rfl) ?_
  refine aS rfl rfl (.nc (.ret (aM Tryz.results36 (.cell rfl (fun w hw=>bI gO (RdN.own .here) ((by first|exact qE|exact qL|rfl)) hw) (.tmp rfl .nil)) ?_)))
  have c2k:L31=L34:=by simpa using c2k
  rw [aBW eL11] at eL31 hr
  exact ⟨rfl,by rw [aJO (by omega) ⟨(aGc (by omega)).1 (by rw [← eL31,←eL34]; exact c2k),hr⟩,←aBW eL11]; rfl⟩
 refine bA (mc:=⟨false,false⟩) [0,1,2,3,4,7,8,9,5,6,10,11] aX (by kernel_rfl) ?_
 refine lB rfl gO rfl .here ?_
 refine kV rfl aKr (aB rfl aF) (aIO ⟨xs.getD 4 0,xs.getD 5 0,cE (L11.drop 0) 8,cE (L11.drop 8) 8,cE (L11.drop 16) 8⟩ _) ?_
 refine fT false (by simpa using hr) ?_
 refine nt rfl .no (.u rfl) (mV rfl rfl (iB (.bool false) rfl rfl (Gd.f (b:=true) rfl rfl) ?_))
 refine eH (.bool false) rfl rfl (Gd.f (b:=true) rfl rfl) ?_
 refine eH (.bool false) rfl rfl (Gd.f (b:=true) rfl rfl) ?_
 refine iB (.bool false) rfl rfl (Gd.f (b:=true) rfl rfl) ?_
 refine xQ (.bool false) rfl rfl (Gd.f (b:=true) rfl rfl) ?_
 refine iB (.bool false) rfl rfl (Gd.f (b:=true) rfl rfl) ?_
 refine eH (.bool false) rfl rfl (Gd.f (b:=true) rfl rfl) ?_
 refine cK rfl .no (.u rfl) (.s rfl) (.g (jQ rfl rfl ?_))
 refine .g (bC rfl .no aAb .nil rfl ?_)
 refine sw rfl (.u rfl) (.u rfl) rfl qC aN (by first|exact qE|exact qL|rfl) (pR rfl rfl rfl rfl rfl) ?_
 refine aS rfl rfl (.nc (.ret (aM Tryz.results36 (.cell rfl (fun w hw=>bI gO (RdN.own .here) ((by first|exact qE|exact qL|rfl)) hw) (.tmp rfl .nil)) ?_)))
 rw [aBW eL11] at hr
 exact ⟨rfl,by rw [aEF (by omega) (fun hq=>hr hq.2)]; rfl⟩
theorem aJt (kind:Y) (n:Nat) (b:Bool) (G:PM):Ct Tryz.prog 39 ([V kind,.int .i64 (n:Int),.bool b]:List Value).toArray G [] (fun _ μ' u=>μ'=[]∧u=.bool (eO kind n b)):=by
 refine Ct.of Tryz.func39 rfl Tryz.ntmps39 rfl fun w0 hs0=>?_
 refine .g (cP rfl rfl rfl rfl (.g (cD rfl (fun c1=>?_) (fun c1=>?_))))
 ·have c1k:=c1
  try simp only [aC,aG,aD] at c1
  refine .seq (bJ rfl rfl (mV rfl rfl (aS rfl rfl (.nc (.ret (aM Tryz.results39 (.tmp rfl .nil) ?_))))))
  exact ⟨rfl,by rw [show eO kind n b=b by rw [(fR (n:=1) (by decide)).1 c1]; rfl]; rfl⟩
 have c1k:=c1
 try simp only [aC,aG,aD] at c1
 refine .g (cP rfl rfl rfl rfl (.g (cD rfl (fun c2=>?_) (fun c2=>?_))))
 ·have c2k:=c2
  try simp only [aC,aG,aD] at c2
  refine .seq (gL rfl rfl (mV rfl rfl (mV rfl rfl (mv rfl (.f rfl rfl) (.u rfl) (cp rfl (.f rfl rfl) (.s rfl) (.u rfl) rfl (cK rfl .no (.u rfl) (.s rfl) (aS rfl rfl (.nc (.ret (aM Tryz.results39 (.tmp rfl .nil) ?_))))))))))
  refine ⟨rfl,congrArg Value.bool ?_⟩
  rw [(fR (n:=2) (by decide)).1 c2,aFk]; simp [eO]
 have c2k:=c2
 try simp only [aC,aG,aD] at c2
 refine .g (cP rfl rfl rfl rfl (.g (cD rfl (fun c3=>?_) (fun c3=>?_))))
 ·have c3k:=c3
  try simp only [aC,aG,aD] at c3
  refine .g (nt rfl .no (.u rfl) (mV rfl rfl (mv rfl (.f rfl rfl) (.u rfl) (cp rfl (.f rfl rfl) (.s rfl) (.u rfl) rfl (cK rfl .no (.u rfl) (.s rfl) (aS rfl rfl (.nc (.ret (aM Tryz.results39 (.tmp rfl .nil) ?_)))))))))
  refine ⟨rfl,congrArg Value.bool ?_⟩
  rw [(fR (n:=3) (by decide)).1 c3,aFk]; simp [eO]
 have c3k:=c3
 try simp only [aC,aG,aD] at c3
 refine .g (cP rfl rfl rfl rfl (.g (cD rfl (fun c4=>?_) (fun c4=>?_))))
 ·have c4k:=c4
  try simp only [aC,aG,aD] at c4
  refine .g (nt rfl .no (.u rfl) (aS rfl rfl (.nc (.ret (aM Tryz.results39 (.tmp rfl .nil) ?_)))))
  exact ⟨rfl,by rw [show eO kind n b = !b by rw [(fR (n:=4) (by decide)).1 c4]; rfl]; rfl⟩
 have c4k:=c4
 try simp only [aC,aG,aD] at c4
 refine .skip (.blk (.code (.seq (aL rfl rfl (aS rfl rfl (.nc (.ret (aM Tryz.results39 (.tmp rfl .nil) ?_))))))))
 exact ⟨rfl,by rw [aSJ kind n b (fun e=>c1 ((fR (n:=1) (by decide)).2 e)) (fun e=>c2 ((fR (n:=2) (by decide)).2 e)) (fun e=>c3 ((fR (n:=3) (by decide)).2 e)) (fun e=>c4 ((fR (n:=4) (by decide)).2 e))]; rfl⟩
theorem aTK:aU Tryz.prog 36=true:=by kernel_rfl
theorem aKk:aU Tryz.prog 39=true:=by kernel_rfl
theorem aTM:aU Tryz.prog 40=true:=by kernel_rfl
theorem aOq (xs:List Y) (a:Nat):cH (xs.drop a)=(xs.getD (a+4) 0).toNat+256*(xs.getD (a+5) 0).toNat:=by unfold cH; rw [kQ,kQ]
theorem aRq {xs L:List Y} {a n:Nat} (e:L=(xs.drop (a+7)).take (a+7+n-(a+7))):L=((xs.drop a).drop 7).take n:=by rw [e,List.drop_drop]; congr 1; omega
theorem aER {xs L:List Y} {a n:Nat} (e:L=(xs.drop a).take (a+7+n-a)):L=(xs.drop a).take 7++((xs.drop a).drop 7).take n:=by rw [e,show a+7+n-a=7+n by omega,List.take_add]
theorem aDB {k:Y} {p A B L:List Y} (hA:A.length=7) (e1:L=A++B) (eB:B=p):dG k p++p=L↔dG k p=A:=by
 subst eB; subst e1
 constructor
 ·intro h; exact (List.append_inj h (by rw [kY,hA])).1
 ·intro h; rw [h]
theorem aFO {Q p:List Y} (h:0<p.length):(!(Q++p).isEmpty)=true:=by
 cases hq:Q++p with
 | nil=>have:=congrArg List.length hq; rw [List.length_append,List.length_nil] at this; omega
 | cons a l=>rfl
theorem aPX (root:Nat→Y) (xs:List Y) (hx:Sh) (G:PM) (hs:SlR G 1 aQ hx xs) (hR:RdNP G 0 0 (wa 64 kW)) (hm:xs.length≤100000000):Ct Tryz.prog 16 ([.agg (ba 32 root).toArray,hx.val xs.length]:List Value).toArray G [] (fun G' μ' u=>∃ s ps,SlP G' s ps∧ps.map (·.2)=(bW root xs).1.recs∧μ'=[]∧u=.tuple #[.agg ([V (bW root xs).1.hd.kind,V (bW root xs).1.hd.level,uv .u64 (bW root xs).1.hd.gen,uv .u64 (bW root xs).1.hd.epoch,uv .u64 (bW root xs).1.hd.num,(s.val ps.length),.int .i64 ((bW root xs).1.used:Int),.bool (bW root xs).1.torn]:List Value).toArray,.int .i64 (bW root xs).2]):=by
 refine Ct.of Tryz.func16 rfl Tryz.ntmps16 rfl fun w0 hs0=>?_
 refine .seq (dU rfl rfl ?_)
 refine bX rfl rfl rfl ?_; intro b2
 refine al rfl aAu ?_; intro b4
 refine .g (lE rfl bU rfl (cP rfl rfl rfl rfl (.g (cD rfl (fun c1=>?_) (fun c1=>?_)))))
 ·have c1k:=c1
  try simp only [aC,aG,aD] at c1
  refine .g (bC rfl .no aKJ (.cons (.u rfl) rfl .nil) rfl ?_)
  refine sw rfl (.u rfl) (.u rfl) rfl kF .here (by first|exact qE|exact qL|rfl) (jW rfl rfl rfl rfl rfl rfl rfl rfl) ?_
  refine aS rfl rfl (.nc (.ret (aM Tryz.results16 (.cell rfl (fun w hw=>bI jM (RdN.own .here) ((by first|exact qE|exact qL|rfl)) hw) (.tmp rfl .nil)) ?_)))
  refine ⟨⟨none,0⟩,[],pE,by rw [xH (by omega)]; rfl,rfl,?_⟩
  rw [xH (by omega)]; rfl
 have c1k:=c1
 try simp only [aC,aG,aD] at c1
 refine .g (kV rfl aTK (aB rfl aF) (aPZ xs hx _ hs (by omega)) ?_)
 refine .p (eX rfl rfl rfl (eX rfl rfl rfl ?_))
 refine al rfl yV ?_; intro b6
 refine sw rfl (.u rfl) (.u rfl) rfl qC .here (by first|exact qE|exact qL|rfl) (pR rfl rfl rfl rfl rfl) ?_
 refine .g (cP rfl rfl rfl rfl (.g (cD rfl (fun c2=>?_) (fun c2=>?_))))
 ·have c2k:=c2
  try simp only [aC,aG,aD] at c2
  refine .g (bC rfl .no sF .nil rfl ?_)
  refine .p (sw rfl (.u rfl) (.u rfl) rfl kF aE (by first|exact qE|exact qL|rfl) (jW rfl rfl rfl rfl rfl rfl rfl rfl) ?_)
  refine aS rfl rfl (.nc (.ret (aM Tryz.results16 (.cell rfl (fun w hw=>bI jM (RdN.own .here) ((by first|exact qE|exact qL|rfl)) hw) (.tmp rfl .nil)) ?_)))
  refine ⟨⟨none,0⟩,[],pE,by rw [xG (by omega) c2]; rfl,rfl,?_⟩
  rw [xG (by omega) c2]; rfl
 have c2k:=c2
 try simp only [aC,aG,aD] at c2
 refine .g (lB rfl dY rfl aN ?_)
 refine lB rfl gO rfl .here ?_
 refine kV rfl aTL (aB rfl (aB rfl aF)) (aPP root (bY xs).1 _ hR) ?_
 refine al rfl yY ?_; intro b8
 refine sw rfl (.u rfl) (.u rfl) rfl aAt .here (by first|exact qE|exact qL|rfl) (wQ _ _) ?_
 refine .g (lB rfl gO rfl aE ?_)
 refine dK ([V (bY xs).1.kind,V (bY xs).1.level,uv .u64 (bY xs).1.gen,uv .u64 (bY xs).1.epoch,uv .u64 (bY xs).1.num,.slice none 0 0,.int .i64 30,.bool false]) rfl .no aKI (.cons (.u rfl) rfl (.cons (.u rfl) rfl .nil)) rfl (rfl) ?_
 refine al rfl aAu ?_; intro b9
 refine sw rfl (.u rfl) (.u rfl) rfl kF .here (by first|exact qE|exact qL|rfl) (jW rfl rfl rfl rfl rfl rfl rfl rfl) ?_
 refine .nil (.code (.seq (aL rfl rfl (aS rfl rfl (.nc (.seq (aL rfl rfl (aS rfl rfl (.nc (.seq (sD 5 ?_)))))))))))
 refine nW 1 oH 24 (aL rfl rfl (aS rfl rfl (.nc (.seq (.block ?_)))))
 refine aV (α:=Nat×Value×List Y×List (Sh×List Y)×Value×Nat) (fun gh=>[(10,true,.int .i64 (gh.1:Int)),(11,true,gh.2.1),(12,true,.bool (!gh.2.2.1.isEmpty))]) (fun gh=>[rS 1 oH gh.2.2.2.2.1 24 gh.2.2.2.1,rB gh.2.1 5 gh.2.2.1,.blk b9 (cl ([V (bY xs).1.kind,V (bY xs).1.level,uv .u64 (bY xs).1.gen,uv .u64 (bY xs).1.epoch,uv .u64 (bY xs).1.num,gh.2.2.2.2.1,.int .i64 (gh.2.2.2.2.2:Int),.bool false]) 56)])
  (fun gh Gl=>(AllS Gl gh.2.2.2.1)∧(sN root (bY xs).1 xs=dT (jX root (bY xs).1) xs.length (xs.drop gh.1) gh.2.2.1 (gh.2.2.2.1.map (·.2)) gh.2.2.2.2.2)∧(gh.1≤xs.length)∧(gh.2.2.2.1.length≤gh.1)∧(gh.2.2.1.length≤gh.1)) (fun gh=>xs.length-gh.1) (30,.slice none 0 0,[],[],.slice none 0 0,30) [(1,true,_),(4,true,_),(6,true,_),(8,true,_),(9,true,_)] [_,_,_,_]
  (aK rfl (aA rfl (aA rfl (aA rfl (aA rfl (aA rfl (aA rfl (aA rfl eZ))))))))
  (mS .here rfl (mS .here rfl (mS .here rfl (mS .here rfl (mS .here rfl (mS .here rfl (mS .here rfl mN))))))) ?_ ?_
 ·refine ⟨?_,?_,?_,?_,?_⟩
  ·(try dsimp only)<;>(exact AllS.nil)
  ·(try dsimp only)<;>(rfl)
  ·(try dsimp only)<;>(first|omega|rfl|assumption|(simp; done))
  ·(try dsimp only)<;>(exact Nat.zero_le _)
  (try dsimp only)<;>(exact Nat.zero_le _)
 intro gh N0 Gl0 hN0 hGl0 hF0
 obtain ⟨a,v,Q,ps,vr,used⟩:=gh; dsimp only at hF0 hN0 ⊢
 obtain ⟨hA,eB,ha,hps,hQ⟩:=hF0
 have hs:=hs.mono hGl0
 have hR:=hR.mono hGl0
 refine .g (lE rfl bU rfl (.p (aW (((xs.length-a):Nat):Int) rfl rfl rfl rfl ?_)))
 refine cP rfl rfl rfl rfl (.g (cD rfl (fun c3=>?_) (fun c3=>?_)))
 ·have c3k:=c3
  try simp only [aC,aG,aD] at c3
  refine .g (bA (mc:=⟨false,false⟩) [0,1,2,3,4,5,6,7,8,9,10,11,12,13,14] aX (by kernel_rfl) ?_)
  refine .p (aW (((a+4):Nat):Int) rfl rfl rfl rfl ?_)
  refine ih rfl .no aI (.u rfl) (.u rfl) (by omega) (by omega) (fun _=>hs.nn (k:=(a+4)) (by omega)) ?_
  refine lN rfl aZ rfl ((hs.yat ((a+4)) (by omega) (by omega)).rd) ?_
  refine cn (k:=.u8) rfl .no vY (by decide) (.u rfl) ?_; intro m46 em46 lm46
  refine .p (aW (((a+5):Nat):Int) rfl rfl rfl rfl ?_)
  refine ih rfl .no aI (.u rfl) (.u rfl) (by omega) (by omega) (fun _=>hs.nn (k:=(a+5)) (by omega)) ?_
  refine lN rfl aZ rfl ((hs.yat ((a+5)) (by omega) (by omega)).rd) ?_
  refine cn (k:=.u8) rfl .no vY (by decide) (.u rfl) ?_; intro m52 em52 lm52
  have lm46:m46<256:=lm46
  have lm52:m52<256:=lm52
  refine aW (((256*m52):Nat):Int) rfl rfl rfl rfl ?_
  refine cQ (((m46+(256*m52)):Nat):Int) rfl .no (.u rfl) (.u rfl) rfl (by omega) (fun _=>bO (by omega) (by omega)) ?_
  refine aS rfl rfl (.nil ?_)
  have en:m46+256*m52=cH (xs.drop a):=by rw [aOq,em46,em52]; rfl
  refine .g (cP rfl rfl rfl rfl (mV rfl rfl (mv rfl (.f rfl rfl) (.u rfl) (cp rfl (.f rfl rfl) (.s rfl) (.u rfl) rfl (cK rfl .no (.u rfl) (.s rfl) (.g (cD rfl (fun c4=>?_) (fun c4=>?_))))))))
  ·have c4k:=c4
   try simp only [aC,aG,aD] at c4
   refine .g (bC rfl .no sF .nil rfl ?_)
   refine sw rfl (.u rfl) (.u rfl) rfl kF eI (by first|exact qE|exact qL|rfl) (jW rfl rfl rfl rfl rfl rfl rfl rfl) ?_
   refine aS rfl rfl (.nc (.ret (aM Tryz.results16 (.cell rfl (fun w hw=>bI jM (RdN.own .here) ((by first|exact qE|exact qL|rfl)) hw) (.tmp rfl .nil)) ?_)))
   refine ⟨⟨none,0⟩,[],pE,by rw [mE (by omega) c2 (eB.trans (aAE (by rw [List.length_drop]; omega) (by rw [← en]; omega)))]; rfl,rfl,?_⟩
   rw [mE (by omega) c2 (eB.trans (aAE (by rw [List.length_drop]; omega) (by rw [← en]; omega)))]; rfl
  have c4k:=c4
  try simp only [aC,aG,aD] at c4
  refine .g (lE rfl bU rfl (.p (aW (((xs.length-a):Nat):Int) rfl rfl rfl rfl ?_)))
  refine .p (cQ (((7+(m46+(256*m52))):Nat):Int) rfl .no (.u rfl) (.u rfl) rfl (by omega) (fun _=>bO (by omega) (by omega)) ?_)
  refine cP rfl rfl rfl rfl (.g (cD rfl (fun c5=>?_) (fun c5=>?_)))
  ·have c5k:=c5
   try simp only [aC,aG,aD] at c5
   refine .exit (.xcode (.xnot rfl (.xlp (.xblk (.code (.seq ?_))))))
   refine mK .here (fun _ _=>rfl) (by intro b hb; cases hb) ?_; intro GfRR hRR hleRR evRR hsRR; subst evRR
   have hs:=hs.mono hleRR
   have hR:=hR.mono hleRR
   have hA:=hA.mono hleRR
   have hsRR:=SlP.of hsRR hA
   refine .g (fZ rfl uB rfl (lO rfl dH rfl aE (by first|exact aJ rfl|rfl) ?_))
   refine .p (lE rfl bU rfl (cP rfl rfl rfl rfl (fZ rfl yM rfl (s1 rfl (.u rfl) (.u rfl) rfl aA0 aE (by show _<8; decide) (rfl) ?_))))
   refine .g (lB rfl jM rfl .here ?_)
   refine sw rfl (.u rfl) (.u rfl) rfl kF cJ (by first|exact qE|exact qL|rfl) (jW rfl rfl rfl rfl rfl rfl rfl rfl) ?_
   refine aS rfl rfl (.nc (.ret (aM Tryz.results16 (.cell rfl (fun w hw=>bI jM (RdN.own .here) ((by first|exact qE|exact qL|rfl)) hw) (.tmp rfl .nil)) ?_)))
   have E:=xI (root:=root) (by omega) c2 (eB.trans (aBq (by rw [List.length_drop]; omega) (by rw [← en]; omega) (by rw [← en,List.length_drop]; omega)))
   refine ⟨hRR,ps,hsRR,by rw [E],rfl,?_⟩
   rw [E]
   exact congrArg (fun z=>Value.tuple #[.agg (List.toArray z),.int .i64 0]) (aBC rfl rfl rfl (by simp))
  have c5k:=c5
  try simp only [aC,aG,aD] at c5
  refine .g (aW (((a+6):Nat):Int) rfl rfl rfl rfl ?_)
  refine ih rfl .no aI (.u rfl) (.u rfl) (by omega) (by omega) (fun _=>hs.nn (k:=(a+6)) (by omega)) ?_
  refine lN rfl aZ rfl ((hs.yat ((a+6)) (by omega) (by omega)).rd) ?_
  refine .g (aW (((a+7):Nat):Int) rfl rfl rfl rfl ?_)
  refine .p (aW (((a+7):Nat):Int) rfl rfl rfl rfl ?_)
  refine .p (cQ ((((a+7)+(m46+(256*m52))):Nat):Int) rfl .no (.u rfl) (.u rfl) rfl (by omega) (fun _=>bO (by omega) (by omega)) ?_)
  refine kS ((a+7)) (((a+7)+(m46+(256*m52)))) rfl .no aI hs (.u rfl) (.u rfl) (.u rfl) (by omega) (by omega) (by omega) (by omega) ?_
  intro h81 L81 eL81 lL81 hs81
  have lL81:=lL81 rfl
  refine aS rfl rfl (.nil ?_)
  have eP:=aRq eL81
  refine .code (.seq (.seq ?_))
  rcases aRr (dG (xs.getD (a+6) 0) L81) ((xs.drop a).take 7) (eO (xs.getD (a+6) 0) (m46+256*m52) (!Q.isEmpty)) with hf | ⟨hf,hw⟩ | ⟨hf,hw⟩
  ·refine bA (mc:=⟨false,false⟩) [0,1,4,5,6,7,8,9,10,11,2,3,12,13,14,15,16,17,18] aX (by kernel_rfl) ?_
   refine .p (aW (((a+7):Nat):Int) rfl rfl rfl rfl ?_)
   refine .p (cQ ((((a+7)+(m46+(256*m52))):Nat):Int) rfl .no (.u rfl) (.u rfl) rfl (by omega) (fun _=>bO (by omega) (by omega)) ?_)
   refine kS (a) (((a+7)+(m46+(256*m52)))) rfl .no aI hs (.u rfl) (.u rfl) (.u rfl) (by omega) (by omega) (by omega) (by omega) ?_
   intro h92 L92 eL92 lL92 hs92
   have lL92:=lL92 rfl
   refine sB rfl .no mL (.u rfl) (fun _=>hs92.sc) ?_
   refine kc rfl aEp (aB rfl (aB rfl aF)) (Ct.frzB (aDn (xs.getD (a+6) 0) L81 h81 _ hs81 (by omega))) ?_
   rintro _ G84 μ84 hG84 ⟨h84,L84,eL84,rfl,rfl,hs84⟩
   have hs:=hs.mono hG84
   have hR:=hR.mono hG84
   have hA:=hA.mono hG84
   have hs81:=hs81.mono hG84
   have hs92:=hs92.mono hG84
   refine sB rfl .no mL (.u rfl) (fun _=>hs84.sc) ?_
   refine wG rfl .no (.u rfl) (.u rfl) ?_
   refine fT true (by rw [eL84,Bool.not_eq_true',decide_eq_false_iff_not]; exact fun hq=>hf ((aDB (by rw [List.length_take,List.length_drop]; omega) (aER eL92) eP.symm).1 hq)) ?_
   refine mV rfl rfl (eH (.bool false) rfl rfl (Gd.f (b:=true) rfl rfl) ?_)
   refine eH (.bool false) rfl rfl (Gd.f (b:=true) rfl rfl) ?_
   refine eH (.bool false) rfl rfl (Gd.f (b:=true) rfl rfl) ?_
   refine xQ (.bool false) rfl rfl (Gd.f (b:=true) rfl rfl) ?_
   refine cK rfl .no (.u rfl) (.s rfl) (.g (jQ rfl rfl ?_))
   refine .g (bC rfl .no sF .nil rfl ?_)
   refine sw rfl (.u rfl) (.u rfl) rfl kF eI (by first|exact qE|exact qL|rfl) (jW rfl rfl rfl rfl rfl rfl rfl rfl) ?_
   refine aS rfl rfl (.nc (.ret (aM Tryz.results16 (.cell rfl (fun w hw=>bI jM (RdN.own .here) ((by first|exact qE|exact qL|rfl)) hw) (.tmp rfl .nil)) ?_)))
   refine ⟨⟨none,0⟩,[],pE,by rw [mE (by omega) c2 (eB.trans (xD (by rw [List.length_drop]; omega) (by rw [← en]; omega) (by rw [← en,List.length_drop]; omega) (.inl (by rw [← en,←eP,kQ]; exact hf))))]; rfl,rfl,?_⟩
   rw [mE (by omega) c2 (eB.trans (xD (by rw [List.length_drop]; omega) (by rw [← en]; omega) (by rw [← en,List.length_drop]; omega) (.inl (by rw [← en,←eP,kQ]; exact hf))))]; rfl
  ·refine bA (mc:=⟨false,false⟩) [0,1,4,5,6,7,8,9,10,11,2,3,12,13,14,15,16,17,18] aX (by kernel_rfl) ?_
   refine .p (aW (((a+7):Nat):Int) rfl rfl rfl rfl ?_)
   refine .p (cQ ((((a+7)+(m46+(256*m52))):Nat):Int) rfl .no (.u rfl) (.u rfl) rfl (by omega) (fun _=>bO (by omega) (by omega)) ?_)
   refine kS (a) (((a+7)+(m46+(256*m52)))) rfl .no aI hs (.u rfl) (.u rfl) (.u rfl) (by omega) (by omega) (by omega) (by omega) ?_
   intro h92 L92 eL92 lL92 hs92
   have lL92:=lL92 rfl
   refine sB rfl .no mL (.u rfl) (fun _=>hs92.sc) ?_
   refine kc rfl aEp (aB rfl (aB rfl aF)) (Ct.frzB (aDn (xs.getD (a+6) 0) L81 h81 _ hs81 (by omega))) ?_
   rintro _ G84 μ84 hG84 ⟨h84,L84,eL84,rfl,rfl,hs84⟩
   have hs:=hs.mono hG84
   have hR:=hR.mono hG84
   have hA:=hA.mono hG84
   have hs81:=hs81.mono hG84
   have hs92:=hs92.mono hG84
   refine sB rfl .no mL (.u rfl) (fun _=>hs84.sc) ?_
   refine wG rfl .no (.u rfl) (.u rfl) ?_
   refine fT false (by rw [eL84,Bool.not_eq_false',decide_eq_true_eq]; exact (aDB (by rw [List.length_take,List.length_drop]; omega) (aER eL92) eP.symm).2 hf) ?_
   refine mV rfl rfl (mv rfl (Gd.f (b:=false) rfl rfl) (.u rfl) (mv rfl (Gd.f (b:=false) rfl rfl) (.u rfl) (mv rfl (Gd.f (b:=false) rfl rfl) (.u rfl) (kv rfl (Gd.f (b:=false) rfl rfl) aKk (aB rfl (aB rfl (aB rfl aF))) (fun _=>aJt (xs.getD (a+6) 0) (m46+256*m52) (!Q.isEmpty) _) ?_))))
   refine fT true (hw) ?_
   refine cK rfl .no (.u rfl) (.u rfl) (.g (jQ rfl rfl ?_))
   refine .g (bC rfl .no sF .nil rfl ?_)
   refine sw rfl (.u rfl) (.u rfl) rfl kF eI (by first|exact qE|exact qL|rfl) (jW rfl rfl rfl rfl rfl rfl rfl rfl) ?_
   refine aS rfl rfl (.nc (.ret (aM Tryz.results16 (.cell rfl (fun w hw=>bI jM (RdN.own .here) ((by first|exact qE|exact qL|rfl)) hw) (.tmp rfl .nil)) ?_)))
   refine ⟨⟨none,0⟩,[],pE,by rw [mE (by omega) c2 (eB.trans ((vC (by rw [List.length_drop]; omega) en (by omega) (by rw [List.length_drop]; omega) eP (by rw [kQ]; exact hf)).trans (by rw [kQ,aJV (by omega) hw])))]; rfl,rfl,?_⟩
   rw [mE (by omega) c2 (eB.trans ((vC (by rw [List.length_drop]; omega) en (by omega) (by rw [List.length_drop]; omega) eP (by rw [kQ]; exact hf)).trans (by rw [kQ,aJV (by omega) hw])))]; rfl
  refine bA (mc:=⟨false,false⟩) [0,1,4,5,6,7,8,9,10,11,2,3,12,13,14,15,16,17,18] aX (by kernel_rfl) ?_
  refine .p (aW (((a+7):Nat):Int) rfl rfl rfl rfl ?_)
  refine .p (cQ ((((a+7)+(m46+(256*m52))):Nat):Int) rfl .no (.u rfl) (.u rfl) rfl (by omega) (fun _=>bO (by omega) (by omega)) ?_)
  refine kS (a) (((a+7)+(m46+(256*m52)))) rfl .no aI hs (.u rfl) (.u rfl) (.u rfl) (by omega) (by omega) (by omega) (by omega) ?_
  intro h92 L92 eL92 lL92 hs92
  have lL92:=lL92 rfl
  refine sB rfl .no mL (.u rfl) (fun _=>hs92.sc) ?_
  refine kc rfl aEp (aB rfl (aB rfl aF)) (Ct.frzB (aDn (xs.getD (a+6) 0) L81 h81 _ hs81 (by omega))) ?_
  rintro _ G84 μ84 hG84 ⟨h84,L84,eL84,rfl,rfl,hs84⟩
  have hR:=hR.mono hG84
  have hA:=hA.mono hG84
  have hs81:=hs81.mono hG84
  refine sB rfl .no mL (.u rfl) (fun _=>hs84.sc) ?_
  refine wG rfl .no (.u rfl) (.u rfl) ?_
  refine fT false (by rw [eL84,Bool.not_eq_false',decide_eq_true_eq]; exact (aDB (by rw [List.length_take,List.length_drop]; omega) (aER eL92) eP.symm).2 hf) ?_
  refine mV rfl rfl (mv rfl (Gd.f (b:=false) rfl rfl) (.u rfl) (mv rfl (Gd.f (b:=false) rfl rfl) (.u rfl) (mv rfl (Gd.f (b:=false) rfl rfl) (.u rfl) (kv rfl (Gd.f (b:=false) rfl rfl) aKk (aB rfl (aB rfl (aB rfl aF))) (fun _=>aJt (xs.getD (a+6) 0) (m46+256*m52) (!Q.isEmpty) _) ?_))))
  refine fT false (hw) ?_
  refine cK rfl .no (.u rfl) (.u rfl) (.g (rJ rfl rfl ?_))
  refine .g (aW (((a+7):Nat):Int) rfl rfl rfl rfl ?_)
  refine .p (cQ ((((a+7)+(m46+(256*m52))):Nat):Int) rfl .no (.u rfl) (.u rfl) rfl (by omega) (fun _=>bO (by omega) (by omega)) ?_)
  refine .g (dC rfl aI bF (.u rfl) (.u rfl) aE hs81.sc (by (try simp only [bM,bK]); omega) ?_)
  intro v108 L108 ov108 eL108
  have lL108:L108.length=Q.length+L81.length:=by rw [eL108,List.length_append]
  refine .g (cP rfl rfl rfl rfl (mV rfl rfl (mv rfl (.f rfl rfl) (.u rfl) (cp rfl (.f rfl rfl) (.s rfl) (.u rfl) rfl (cK rfl .no (.u rfl) (.s rfl) (.g (cD rfl (fun c6=>?_) (fun c6=>?_))))))))
  ·have c6k:=c6
   try simp only [aC,aG,aD] at c6
   have hk:(xs.getD (a+6) 0)=1#8∨(xs.getD (a+6) 0)=4#8:=c6.imp (fR (n:=1) (by decide)).1 (fR (n:=4) (by decide)).1
   refine .seq ?_
   refine iP .here (by first|(intro b hb; cases hb; done) | simp [keys,Res.keys]) ?_; intro GfRQ hRQ hleRQ evRQ hsRQ; subst evRQ
   have hR:=hR.mono hleRQ
   have hA:=hA.mono hleRQ
   refine bA (mc:=⟨false,false⟩) [0,1,2,3,4,6,8,5,7,9,10,11,12,13,14] aX (by kernel_rfl) ?_
   refine lB rfl qY rfl aN ?_
   refine fZ rfl oA rfl (lO rfl qX rfl aE (by first|exact aJ rfl|rfl) ?_)
   refine lr rfl .no sH (.u rfl) .here ?_
   refine ci rfl .no rfl gG (.u rfl) ?_
   refine lB rfl gO rfl bB ?_
   refine .p (kV rfl aTN (aB rfl aF) (aPU _ _) ?_)
   refine kc rfl aEq (aB rfl aF) (Ct.frzB (aD1 (bY xs).1 _)) ?_
   rintro _ G123 μ123 hG123 ⟨h123,L123,eL123,rfl,rfl,hs123⟩
   have hR:=hR.mono hG123
   have hA:=hA.mono hG123
   have hsRQ:=hsRQ.mono hG123
   refine kc rfl aTM (aB rfl (aB rfl (aB rfl (aB rfl aF)))) (aPV (gX root (cC (bY xs).1)) (gY root (cC (bY xs).1)) _ L123 h123 L108 hRQ _ hs123 hsRQ hR (by rw [eL123,lD]; decide) (by omega)) ?_
   rintro _ G125 μ125 hG125 ⟨v125,L125,e125,hO125,rfl,rfl⟩
   have hA:=hA.mono hG125
   refine .p (eX rfl rfl rfl (eX rfl rfl rfl (.g (cP rfl rfl rfl rfl (.g (cD rfl (fun c7=>?_) (fun c7=>?_)))))))
   ·have c7k:=c7
    try simp only [aC,aG,aD] at c7
    obtain ⟨ho,_,_⟩:=hO125.resolve_left (fun h=>c7 h.2)
    refine .g (bC rfl .no sF .nil rfl ?_)
    refine sw rfl (.u rfl) (.u rfl) rfl kF eI (by first|exact qE|exact qL|rfl) (jW rfl rfl rfl rfl rfl rfl rfl rfl) ?_
    refine aS rfl rfl (.nc (.ret (aM Tryz.results16 (.cell rfl (fun w hw=>bI jM (RdN.own .here) ((by first|exact qE|exact qL|rfl)) hw) (.tmp rfl .nil)) ?_)))
    refine ⟨⟨none,0⟩,[],pE,by rw [mE (by omega) c2 (eB.trans ((vC (by rw [List.length_drop]; omega) en (by omega) (by rw [List.length_drop]; omega) eP (by rw [kQ]; exact hf)).trans (by rw [kQ,aEG (by omega) hw hk,show jX root (bY xs).1 (ps.map (·.2)).length (Q++L81)=none by rw [List.length_map]; rw [eL123,eL108] at ho; exact ho]; rfl)))]; rfl,rfl,?_⟩
    rw [mE (by omega) c2 (eB.trans ((vC (by rw [List.length_drop]; omega) en (by omega) (by rw [List.length_drop]; omega) eP (by rw [kQ]; exact hf)).trans (by rw [kQ,aEG (by omega) hw hk,show jX root (bY xs).1 (ps.map (·.2)).length (Q++L81)=none by rw [List.length_map]; rw [eL123,eL108] at ho; exact ho]; rfl)))]; rfl
   have c7k:=c7
   try simp only [aC,aG,aD] at c7
   obtain ⟨ho,_⟩:=hO125.resolve_right (fun h=>by rw [h.2.2] at c7; cases c7)
   rw [eL123,eL108] at ho
   have ho2:jX root (bY xs).1 (ps.map (·.2)).length (Q++L81)=some L125:=by rw [List.length_map]; exact ho
   refine .skip (.code (.seq ?_))
   refine iP .here (by first|(intro b hb; cases hb; done) | simp [keys,Res.keys]) ?_; intro GfR125 hR125 hleR125 evR125 hsR125; subst evR125
   have hA:=hA.mono hleR125
   have take_some:fN (jX root (bY xs).1) Q (ps.map (·.2)) (xs.getD (a+6) 0) L81=some ([],(ps++[(hR125,L125)]).map (·.2)):=by rw [aEG (by omega) hw hk,ho2,List.map_append]; rfl
   refine .g (fZ rfl oA rfl (lO rfl qX rfl aE (by first|exact aJ rfl|rfl) ?_))
   refine mV rfl rfl ?_
   refine Go.Tan.b1 rfl jB mR (.u rfl) rfl rfl (by decide) ?_; intro b134
   refine eC (xs:=ps) ((hR125,L125)) rfl jB mR rfl (.u rfl) (.u rfl) aE .here (rfl) (one1 rfl) (by omega) (by unfold maxLen; omega) ?_; intro v135 ov135
   refine fZ rfl oA rfl (dE rfl (.u rfl) (.u rfl) .here aEv aN (by show _<8; decide) (rfl) ?_)
   refine .g (fZ rfl uB rfl (s1 rfl (.u rfl) (.u rfl) rfl jO .here (by show _<8; decide) (rfl) ?_))
   refine .nil (.code (.seq (aL rfl rfl (aS rfl rfl (.nc (sD 5 ?_))))))
   refine .g (aP (a+7+(m46+256*m52),.slice none 0 0,[],ps++[(hR125,L125)],v135,a+7+(m46+256*m52)) ?_ ?_ ?_ ?_ ?_)
   ·exact (aK rfl (aA rfl (aA rfl (aA rfl (aA rfl (aA rfl (aA rfl (aA rfl eZ))))))))
   ·exact (mS aN rfl (mS .here rfl (mS .here rfl (mS aE rfl (mS aE rfl (mS aE rfl (mS aE rfl mN)))))))
   ·first|omega|(dsimp only; omega)
   ·exact (((((hGl0).trans hG84).trans hleRQ).trans hG123).trans hG125).trans hleR125
   refine ⟨?_,?_,?_,?_,?_⟩
   ·(try dsimp only)<;>(exact aCE hA hsR125)
   ·(try dsimp only)<;>(exact aBp eB (by rw [List.length_drop]; omega) en (by omega) (by rw [List.length_drop]; omega) eP (by rw [kQ]; exact hf) (by rw [kQ]; exact take_some) (by rw [List.drop_drop]; congr 1; omega) (by simp; omega))
   ·(try dsimp only)<;>(first|omega|rfl|assumption|(simp; done))
   ·(try dsimp only)<;>(simp; omega)
   (try dsimp only)<;>(simp)
  have c6k:=c6
  try simp only [aC,aG,aD] at c6
  refine .g (aP (a+7+(m46+256*m52),v108,L108,ps,vr,used) ?_ ?_ ?_ ?_ ?_)
  ·exact (aK rfl (aA rfl (cI rfl (congrArg Value.bool (by rw [eL108]; exact (aFO (by omega)).symm)) (aA rfl (aA rfl (aA rfl (aA rfl (aA rfl eZ))))))))
  ·exact (mS aE rfl (mS .here rfl (mS .here rfl (mS .here rfl (mS .here rfl (mS .here rfl (mS .here rfl mN)))))))
  ·first|omega|(dsimp only; omega)
  ·exact (hGl0).trans hG84
  refine ⟨?_,?_,?_,?_,?_⟩
  ·(try dsimp only)<;>(exact hA)
  ·(try dsimp only)<;>(exact aBp eB (by rw [List.length_drop]; omega) en (by omega) (by rw [List.length_drop]; omega) eP (by rw [kQ]; exact hf) (by rw [kQ]; exact by rw [eL108]; exact aRm (by omega) hw (fun hk=>hk.elim (fun e=>c6.1 ((fR (n:=1) (by decide)).2 e)) (fun e=>c6.2 ((fR (n:=4) (by decide)).2 e)))) (by rw [List.drop_drop]; congr 1; omega) (by rw [eL108,show (Q++L81).isEmpty=false by have:=aFO (Q:=Q) (p:=L81) (by omega); simpa using this]; rfl))
  ·(try dsimp only)<;>(first|omega|rfl|assumption|(simp; done))
  ·(try dsimp only)<;>(first|omega|rfl|assumption|(simp; done))
  (try dsimp only)<;>(first|omega|rfl|assumption|(simp; done))
 have c3k:=c3
 try simp only [aC,aG,aD] at c3
 refine .exit (.xcode (.xlp (.xblk (.code (.seq ?_)))))
 refine mK .here (fun _ _=>rfl) (by intro b hb; cases hb) ?_; intro GfRR hRR hleRR evRR hsRR; subst evRR
 have hA:=hA.mono hleRR
 have hsRR:=SlP.of hsRR hA
 refine .g (fZ rfl uB rfl (lO rfl dH rfl aE (by first|exact aJ rfl|rfl) ?_))
 refine .p (lE rfl bU rfl (cP rfl rfl rfl rfl (fZ rfl yM rfl (s1 rfl (.u rfl) (.u rfl) rfl aA0 aE (by show _<8; decide) (rfl) ?_))))
 refine .g (lB rfl jM rfl .here ?_)
 refine sw rfl (.u rfl) (.u rfl) rfl kF cJ (by first|exact qE|exact qL|rfl) (jW rfl rfl rfl rfl rfl rfl rfl rfl) ?_
 refine aS rfl rfl (.nc (.ret (aM Tryz.results16 (.cell rfl (fun w hw=>bI jM (RdN.own .here) ((by first|exact qE|exact qL|rfl)) hw) (.tmp rfl .nil)) ?_)))
 have E:=xI (root:=root) (by omega) c2 (eB.trans (aAF (by rw [List.length_drop]; omega)))
 refine ⟨hRR,ps,hsRR,by rw [E],rfl,?_⟩
 rw [E]
 exact congrArg (fun z=>Value.tuple #[.agg (List.toArray z),.int .i64 0]) (aBC rfl rfl rfl (by simp))
theorem aS9:aU Tryz.prog 16=true:=by kernel_rfl
theorem aSd:eS Tryz.prog 35 [0,4,5,3]=some ([.int .u8 0,.int .u8 0,.int .u64 0,.int .u64 0,.int .u64 0,.slice none 0 0,.slice none 0 0,.slice none 0 0,.slice none 0 0,.slice none 0 0,.int .u64 0,.int .u64 0,.int .u64 0,.int .u64 0,.int .u64 0,.int .u64 0,.int .u64 0,.int .u64 0,.int .u64 0,.int .u64 0,.int .i64 0,.int .i64 0,.bool false],[(0,5),(21,1),(22,1),(20,1)]):=by kernel_rfl
theorem aTA:aU Tryz.prog 18=true:=by kernel_rfl
set_option maxHeartbeats 2000000 in
theorem aPC (root:Nat→Y) (xs:List Y) (hx:Sh) (G:PM) (hs:SlR G 1 aQ hx xs) (hR:RdNP G 0 0 (wa 64 kW)) (hm:xs.length≤100000000):Ct Tryz.prog 7 ([.agg (ba 32 root).toArray,hx.val xs.length]:List Value).toArray G [] (fun G' μ' u=>(gU root xs=none∧μ'=[]∧u=.tuple #[.agg (eT Hd.zero State.zero eJ 0#64 0 0 false).toArray,.int .i64 190])∨∃ v X hX,gU root xs=some v∧MnR X v.m∧μ'=[]∧u=.tuple #[.agg (eT v.hd X hX v.m.mark (v.m.n:Int) (v.used:Int) v.torn).toArray,.int .i64 0]∧StR G' X hX):=by
 refine Ct.of Tryz.func7 rfl Tryz.ntmps7 rfl fun w0 hs0=>?_
 refine .seq (dU rfl rfl ?_)
 refine bX rfl rfl rfl ?_; intro b2
 refine al rfl sI ?_; intro b4
 refine .g (lA rfl .no dY (.u rfl) (fun _=>RdN.own aE) (fun _=>(by first|exact State.len|exact Edit.len|exact eU|rfl)) ?_)
 refine .p (kc rfl aS9 (aB rfl (aB rfl aF)) (aPX root xs hx _ hs hR hm) ?_)
 rintro _ G20 μ20 hG20 ⟨s20,ps20,hp20,ep20,rfl,rfl⟩
 have hfw:=aIJ root xs
 rw [← ep20] at hfw
 have hfl:=hfw.2; rw [List.length_map] at hfl
 have hR:=hR.mono hG20
 refine .p (eX rfl rfl rfl (eX rfl rfl rfl ?_))
 refine al rfl aAu ?_; intro b6
 refine sw rfl (.u rfl) (.u rfl) rfl kF .here (by first|exact State.len|exact Edit.len|exact eU|rfl) (jW rfl rfl rfl rfl rfl rfl rfl rfl) ?_
 refine .g (cP rfl rfl rfl rfl (mV rfl rfl (mv rfl (.f rfl rfl) (.u rfl) (ln rfl (.f rfl rfl) bU (.s rfl) (cp rfl (.f rfl rfl) (.s rfl) (.u rfl) rfl (mv rfl (.f rfl rfl) (.s rfl) (fz rfl (.tc rfl rfl) aCR (.u rfl) (fz rfl (.tc rfl rfl) tS (.s rfl) (ld rfl (.tc rfl rfl) aZ (.s rfl) (fun hc=>Rd.own .here rfl) ?_)))))))))
 refine cp rfl (.tc rfl rfl) (.s rfl) (.u rfl) rfl (bR rfl (.f rfl rfl) (.s rfl) (.s rfl) (cK rfl .no (.u rfl) (.s rfl) (.g (cD rfl (fun c1=>?_) (fun c1=>?_)))))
 ·have c1k:=c1
  try simp only [aC,aG,aD] at c1
  refine .g (dK (eT Hd.zero State.zero eJ 0#64 0 0 false) rfl .no tR .nil rfl (rfl) ?_)
  refine sw rfl (.u rfl) (.u rfl) rfl kT aE (by first|exact State.len|exact Edit.len|exact eU|rfl) (kN) ?_
  refine aS rfl rfl (.nc (.ret (aM Tryz.results7 (.cell rfl (fun w hw=>bI nF (RdN.own .here) (eU) hw) (.tmp rfl .nil)) ?_)))
  exact .inl ⟨aBs (c1.imp id (fun q=>⟨by omega,fun e=>q.2 (by rw [e]; rfl)⟩)),rfl,rfl⟩
 have c1k:=c1
 try simp only [aC,aG,aD] at c1
 refine .g (fZ rfl aCR rfl (lA rfl .no gO (.u rfl) (fun _=>RdN.part (n:=5) (cs':=[V (bW root xs).1.hd.kind,V (bW root xs).1.hd.level,uv .u64 (bW root xs).1.hd.gen,uv .u64 (bW root xs).1.hd.epoch,uv .u64 (bW root xs).1.hd.num]) .here (rfl)) (fun _=>rfl) ?_))
 refine fZ rfl uB rfl (lO rfl dH rfl .here (by first|exact aJ rfl|rfl) ?_)
 refine fZ rfl yM rfl (lO rfl qW rfl .here (by first|exact aJ rfl|rfl) ?_)
 refine fZ rfl oA rfl (lO rfl qX rfl .here (by first|exact aJ rfl|rfl) ?_)
 refine lE rfl sH rfl (dK (eT (bW root xs).1.hd State.zero eJ 0#64 (ps20.length:Int) ((bW root xs).1.used:Int) (bW root xs).1.torn) rfl .no aSd (.cons (.u rfl) rfl (.cons (.u rfl) rfl (.cons (.u rfl) rfl (.cons (.u rfl) rfl .nil)))) rfl (rfl) ?_)
 refine al rfl sI ?_; intro b8
 refine sw rfl (.u rfl) (.u rfl) rfl kT .here (by first|exact State.len|exact Edit.len|exact eU|rfl) (kN) ?_
 refine .nil (.code (.seq (.seq (aL rfl rfl (aS rfl rfl (.nc (.block ?_)))))))
 refine aV (α:=Nat×Mn×State×(Nat→Sh)) (fun gh=>[(9,true,.int .i64 (gh.1:Int))]) (fun gh=>[.blk b8 (cl (eT (bW root xs).1.hd gh.2.2.1 gh.2.2.2 gh.2.1.mark (ps20.length:Int) ((bW root xs).1.used:Int) (bW root xs).1.torn) 35)])
  (fun gh Gl=>(gh.1≤ps20.length)∧(iC ((ps20.map (·.2)).take gh.1) Mn.zero=some gh.2.1)∧(MnR gh.2.2.1 gh.2.1)∧(gh.2.1.n=gh.1)∧(StR Gl gh.2.2.1 gh.2.2.2)) (fun gh=>ps20.length-gh.1) (0,Mn.zero,State.zero,eJ) [(4,true,_),(6,true,_),(8,true,_)] [_,_,_]
  (aK rfl (aA rfl (aA rfl (aA rfl eZ))))
  (mS .here rfl (mS .here rfl (mS .here rfl (mS .here rfl mN)))) ?_ ?_
 ·refine ⟨?_,?_,?_,?_,?_⟩
  ·(try dsimp only)<;>(first|omega|rfl|assumption|(simp; done))
  ·(try dsimp only)<;>(rfl)
  ·(try dsimp only)<;>(exact MnR.zero)
  ·(try dsimp only)<;>(rfl)
  (try dsimp only)<;>(exact lH)
 intro gh N0 Gl0 hN0 hGl0 hF0
 obtain ⟨k,m,X,hX⟩:=gh; dsimp only at hF0 hN0 ⊢
 obtain ⟨hk,hq,hM,hmn,hXR⟩:=hF0
 have hR:=hR.mono hGl0
 have hp20:=hp20.mono hGl0
 refine .g (fZ rfl oA rfl (lO rfl qX rfl aE (by first|exact aJ rfl|rfl) ?_))
 refine lE rfl sH rfl (cP rfl rfl rfl rfl (.g (cD rfl (fun c2=>?_) (fun c2=>?_))))
 ·have c2k:=c2
  try simp only [aC,aG,aD] at c2
  refine .g (fZ rfl oA rfl (lO rfl qX rfl aE (by first|exact aJ rfl|rfl) ?_))
  refine mV rfl rfl (ih rfl .no jB (.u rfl) (.u rfl) (by omega) (by omega) (fun _=>hp20.sl.nn (k:=k) (by omega)) ?_)
  obtain ⟨p58,ep58⟩:=iJ (k:=k) (xs:=ps20) (by omega)
  have hq58:=hp20.get ep58
  refine lN rfl cX rfl ((hp20.at (k) (by omega) ep58).rd) ?_
  refine aS rfl rfl (.nc (.seq (.seq ?_)))
  have hlp:=hfw.1 p58.2 (List.mem_of_getElem? (pL ep58))
  refine .g (lE rfl bU rfl (cP rfl rfl rfl rfl (.g (cD rfl (fun c3=>?_) (fun c3=>?_)))))
  ·have c3k:=c3
   try simp only [aC,aG,aD] at c3
   refine .g (dK (eT Hd.zero State.zero eJ 0#64 0 0 false) rfl .no tR .nil rfl (rfl) ?_)
   refine sw rfl (.u rfl) (.u rfl) rfl kT aN (by first|exact State.len|exact Edit.len|exact eU|rfl) (kN) ?_
   refine aS rfl rfl (.nc (.ret (aM Tryz.results7 (.cell rfl (fun w hw=>bI nF (RdN.own .here) (eU) hw) (.tmp rfl .nil)) ?_)))
   exact .inl ⟨xF (by rw [← ep20]; exact xT (k:=k+1) (by rw [tI (pL ep58),hq]; exact aIz (by omega))),rfl,rfl⟩
  have c3k:=c3
  try simp only [aC,aG,aD] at c3
  refine .g (dK ([p58.1.val p58.2.length,.int .i64 ((0:Nat):Int),.int .i64 0]) rfl .no aEx (.cons (.u rfl) rfl .nil) rfl (rfl) ?_)
  refine bX rfl rfl rfl ?_; intro b65
  refine .g (ka rfl (.inr rfl) aAy (aB rfl (aB rfl aF)) (bL .here) (aBv p58.2 p58.1 0 _ _ hq58 (by omega) (by omega)) ?_)
  rintro _ G67 μ67 hG67 ⟨rfl,rfl⟩
  have hR:=hR.mono hG67
  have hXR:=hXR.mono hG67
  have hq58:=hq58.mono hG67
  refine .g (kD (40) rfl .no aI hq58 (.u rfl) (.u rfl) (by omega) (by omega) ?_)
  intro h70 L70 eL70 lL70 hs70
  have lL70:=lL70 rfl
  refine kc rfl aTA (aB rfl aF) (aPi L70 h70 _ hs70 (by omega)) ?_
  rintro _ G71 μ71 hG71 ⟨e71,er71,ha71,hd71,hD71,rfl,rfl,hE71⟩
  have hR:=hR.mono hG71
  have hXR:=hXR.mono hG71
  have hq58:=hq58.mono hG71
  refine .p (eX rfl rfl rfl (eX rfl rfl rfl ?_))
  refine al rfl yX ?_; intro b13
  refine sw rfl (.u rfl) (.u rfl) rfl vV .here (by first|exact qE|exact qL|rfl) (aEY) ?_
  refine aS rfl rfl (.nil ?_)
  rw [eL70] at hD71
  have hl71:=aMT hD71 (by rw [List.length_drop]; omega)
  refine .g (fZ rfl yL rfl (lA rfl .no eQ (.u rfl) (fun _=>RdN.part (n:=14) (cs':=X.cells hX) aN (aBe)) (fun _=>(by first|exact qE|exact qL|rfl)) ?_))
  refine lB rfl oU rfl .here ?_
  refine kc rfl aTB (aB rfl (aB rfl aF)) (aPa X hX e71 ha71 hd71 _ hXR hE71) ?_
  rintro _ G78 μ78 hG78 ⟨X78,hX78,er78,hA78,rfl,rfl,hR78⟩
  have hR:=hR.mono hG78
  have hXR:=hXR.mono hG78
  have hq58:=hq58.mono hG78
  have hE71:=hE71.mono hG78
  refine .p (eX rfl rfl rfl (eX rfl rfl rfl ?_))
  refine al rfl yW ?_; intro b15
  refine sw rfl (.u rfl) (.u rfl) rfl jC .here (by first|exact State.len|exact Edit.len|exact eU|rfl) (iT) ?_
  refine aS rfl rfl (.nc (.seq (.seq ?_)))
  rcases four (er71≠0) (er78≠0) (cE p58.2 8≤m.mark) with h1 | ⟨h0,h1⟩ | ⟨h0,h00,h1⟩ | ⟨h0,h00,h1⟩
  ·refine bA (mc:=⟨false,false⟩) [0,1,2,3,4,5,6,7,8,9,10,11,12,13,14,15,18,19,16,17,20,21] aX (by kernel_rfl) ?_
   refine .p (cP rfl rfl rfl rfl (fT true (by first|exact bne_iff_ne.2 h1 | simpa using h1) ?_))
   refine mV rfl rfl (eH (.bool false) rfl rfl (Gd.f (b:=true) rfl rfl) ?_)
   refine eH (.bool false) rfl rfl (Gd.f (b:=true) rfl rfl) ?_
   refine cK rfl .no (.u rfl) (.s rfl) (mV rfl rfl (eH (.bool false) rfl rfl (Gd.f (b:=true) rfl rfl) ?_))
   refine eH (.bool false) rfl rfl (Gd.f (b:=true) rfl rfl) ?_
   refine iB (.bool false) rfl rfl (Gd.f (b:=true) rfl rfl) ?_
   refine eH (.bool false) rfl rfl (Gd.f (b:=true) rfl rfl) ?_
   refine cK rfl .no (.u rfl) (.s rfl) (mV rfl rfl (eH (.bool false) rfl rfl (Gd.f (b:=true) rfl rfl) ?_))
   refine iB (.bool false) rfl rfl (Gd.f (b:=true) rfl rfl) ?_
   refine iB (.bool false) rfl rfl (Gd.f (b:=true) rfl rfl) ?_
   refine eH (.bool false) rfl rfl (Gd.f (b:=true) rfl rfl) ?_
   refine iB (.bool false) rfl rfl (Gd.f (b:=true) rfl rfl) ?_
   refine xQ (.bool false) rfl rfl (Gd.f (b:=true) rfl rfl) ?_
   refine iB (.bool false) rfl rfl (Gd.f (b:=true) rfl rfl) ?_
   refine eH (.bool false) rfl rfl (Gd.f (b:=true) rfl rfl) ?_
   refine cK rfl .no (.u rfl) (.s rfl) (.g (jQ rfl rfl ?_))
   refine .g (dK (eT Hd.zero State.zero eJ 0#64 0 0 false) rfl .no tR .nil rfl (rfl) ?_)
   refine sw rfl (.u rfl) (.u rfl) rfl kT eI (by first|exact State.len|exact Edit.len|exact eU|rfl) (kN) ?_
   refine aS rfl rfl (.nc (.ret (aM Tryz.results7 (.cell rfl (fun w hw=>bI nF (RdN.own .here) (eU) hw) (.tmp rfl .nil)) ?_)))
   exact .inl ⟨xF (by rw [← ep20]; exact xT (k:=k+1) (by rw [tI (pL ep58),hq]; exact aB4 (L:=pV (cE p58.2 8) X78 e71) hM (by omega) hD71 hA78 rfl (.inl h1))),rfl,rfl⟩
  ·refine bA (mc:=⟨false,false⟩) [0,1,2,3,4,5,6,7,8,9,10,11,12,13,14,15,18,19,16,17,20,21] aX (by kernel_rfl) ?_
   refine .p (cP rfl rfl rfl rfl (fT false (by first|exact bne_iff_ne.2 h0 | simpa using h0) ?_))
   refine mV rfl rfl (mv rfl (Gd.f (b:=false) rfl rfl) (.u rfl) (cp rfl (Gd.f (b:=false) rfl rfl) (.u rfl) (.u rfl) rfl (fT true (by first|exact bne_iff_ne.2 h1 | simpa using h1) ?_)))
   refine cK rfl .no (.u rfl) (.u rfl) (mV rfl rfl (eH (.bool false) rfl rfl (Gd.f (b:=true) rfl rfl) ?_))
   refine eH (.bool false) rfl rfl (Gd.f (b:=true) rfl rfl) ?_
   refine iB (.bool false) rfl rfl (Gd.f (b:=true) rfl rfl) ?_
   refine eH (.bool false) rfl rfl (Gd.f (b:=true) rfl rfl) ?_
   refine cK rfl .no (.u rfl) (.s rfl) (mV rfl rfl (eH (.bool false) rfl rfl (Gd.f (b:=true) rfl rfl) ?_))
   refine iB (.bool false) rfl rfl (Gd.f (b:=true) rfl rfl) ?_
   refine iB (.bool false) rfl rfl (Gd.f (b:=true) rfl rfl) ?_
   refine eH (.bool false) rfl rfl (Gd.f (b:=true) rfl rfl) ?_
   refine iB (.bool false) rfl rfl (Gd.f (b:=true) rfl rfl) ?_
   refine xQ (.bool false) rfl rfl (Gd.f (b:=true) rfl rfl) ?_
   refine iB (.bool false) rfl rfl (Gd.f (b:=true) rfl rfl) ?_
   refine eH (.bool false) rfl rfl (Gd.f (b:=true) rfl rfl) ?_
   refine cK rfl .no (.u rfl) (.s rfl) (.g (jQ rfl rfl ?_))
   refine .g (dK (eT Hd.zero State.zero eJ 0#64 0 0 false) rfl .no tR .nil rfl (rfl) ?_)
   refine sw rfl (.u rfl) (.u rfl) rfl kT eI (by first|exact State.len|exact Edit.len|exact eU|rfl) (kN) ?_
   refine aS rfl rfl (.nc (.ret (aM Tryz.results7 (.cell rfl (fun w hw=>bI nF (RdN.own .here) (eU) hw) (.tmp rfl .nil)) ?_)))
   exact .inl ⟨xF (by rw [← ep20]; exact xT (k:=k+1) (by rw [tI (pL ep58),hq]; exact aB4 (L:=pV (cE p58.2 8) X78 e71) hM (by omega) hD71 hA78 rfl (.inr (.inl h1)))),rfl,rfl⟩
  ·refine bA (mc:=⟨false,false⟩) [0,1,2,3,4,5,6,7,8,9,10,11,12,13,14,15,18,19,16,17,20,21] aX (by kernel_rfl) ?_
   refine .p (cP rfl rfl rfl rfl (fT false (by first|exact bne_iff_ne.2 h0 | simpa using h0) ?_))
   refine mV rfl rfl (mv rfl (Gd.f (b:=false) rfl rfl) (.u rfl) (cp rfl (Gd.f (b:=false) rfl rfl) (.u rfl) (.u rfl) rfl (fT false (by first|exact bne_iff_ne.2 h00 | simpa using h00) ?_)))
   refine cK rfl .no (.u rfl) (.u rfl) (mV rfl rfl (mv rfl (Gd.f (b:=false) rfl rfl) (.u rfl) (fz rfl (Gd.f (b:=false) rfl rfl) vN (.u rfl) (ld rfl (Gd.f (b:=false) rfl rfl) bD (.u rfl) (fun _=>Rd.own bB rfl) ?_))))
   refine cp rfl (Gd.f (b:=false) rfl rfl) (.u rfl) (.u rfl) rfl (fT true (by first|exact decide_eq_true (sX.2 h1)|exact decide_eq_false (fun q=>h1 (sX.1 q)) | simpa [sX] using h1) ?_)
   refine cK rfl .no (.u rfl) (.u rfl) (mV rfl rfl (eH (.bool false) rfl rfl (Gd.f (b:=true) rfl rfl) ?_))
   refine iB (.bool false) rfl rfl (Gd.f (b:=true) rfl rfl) ?_
   refine iB (.bool false) rfl rfl (Gd.f (b:=true) rfl rfl) ?_
   refine eH (.bool false) rfl rfl (Gd.f (b:=true) rfl rfl) ?_
   refine iB (.bool false) rfl rfl (Gd.f (b:=true) rfl rfl) ?_
   refine xQ (.bool false) rfl rfl (Gd.f (b:=true) rfl rfl) ?_
   refine iB (.bool false) rfl rfl (Gd.f (b:=true) rfl rfl) ?_
   refine eH (.bool false) rfl rfl (Gd.f (b:=true) rfl rfl) ?_
   refine cK rfl .no (.u rfl) (.s rfl) (.g (jQ rfl rfl ?_))
   refine .g (dK (eT Hd.zero State.zero eJ 0#64 0 0 false) rfl .no tR .nil rfl (rfl) ?_)
   refine sw rfl (.u rfl) (.u rfl) rfl kT eI (by first|exact State.len|exact Edit.len|exact eU|rfl) (kN) ?_
   refine aS rfl rfl (.nc (.ret (aM Tryz.results7 (.cell rfl (fun w hw=>bI nF (RdN.own .here) (eU) hw) (.tmp rfl .nil)) ?_)))
   exact .inl ⟨xF (by rw [← ep20]; exact xT (k:=k+1) (by rw [tI (pL ep58),hq]; exact aB4 (L:=pV (cE p58.2 8) X78 e71) hM (by omega) hD71 hA78 rfl (.inr (.inr (.inl h1))))),rfl,rfl⟩
  refine bA (mc:=⟨false,false⟩) [0,1,2,3,4,5,6,7,8,9,10,11,12,13,14,15,18,19,16,17,20,21] aX (by kernel_rfl) ?_
  refine .p (cP rfl rfl rfl rfl (fT false (by first|exact bne_iff_ne.2 h0 | simpa using h0) ?_))
  refine mV rfl rfl (mv rfl (Gd.f (b:=false) rfl rfl) (.u rfl) (cp rfl (Gd.f (b:=false) rfl rfl) (.u rfl) (.u rfl) rfl (fT false (by first|exact bne_iff_ne.2 h00 | simpa using h00) ?_)))
  refine cK rfl .no (.u rfl) (.u rfl) (mV rfl rfl (mv rfl (Gd.f (b:=false) rfl rfl) (.u rfl) (fz rfl (Gd.f (b:=false) rfl rfl) vN (.u rfl) (ld rfl (Gd.f (b:=false) rfl rfl) bD (.u rfl) (fun _=>Rd.own bB rfl) ?_))))
  refine cp rfl (Gd.f (b:=false) rfl rfl) (.u rfl) (.u rfl) rfl (fT false (by first|exact decide_eq_true (sX.2 h1)|exact decide_eq_false (fun q=>h1 (sX.1 q)) | simpa [sX] using h1) ?_)
  refine cK rfl .no (.u rfl) (.u rfl) (mV rfl rfl (mv rfl (Gd.f (b:=false) rfl rfl) (.u rfl) (lA rfl (Gd.f (b:=false) rfl rfl) eQ (.u rfl) (fun _=>RdN.own .here) (fun _=>(by first|exact qE|exact qL|rfl)) ?_)))
  refine lA rfl (Gd.f (b:=false) rfl rfl) oU (.u rfl) (fun _=>RdN.own aE) (fun _=>(by first|exact qE|exact qL|rfl)) ?_
  refine mv rfl (Gd.f (b:=false) rfl rfl) (.u rfl) (sB rfl (Gd.f (b:=false) rfl rfl) mL (.u rfl) (fun _=>hq58.sc) ?_)
  refine kcg rfl (Gd.f (b:=false) rfl rfl) aTC (aB rfl (aB rfl (aB rfl aF))) (Ct.frzB (aPE (cE p58.2 8) X78 hX78 e71 ha71 hd71 _ hR78 (hA78.stN hE71.wf) hA78.stL hE71 hl71.1 hl71.2.1 hl71.2.2 hR)) ?_
  rintro _ G97 μ97 hG97 ⟨h97,L97,eL97,rfl,rfl,hs97⟩
  have hXR:=hXR.mono hG97
  have hR78:=hR78.mono hG97
  refine sB rfl (Gd.f (b:=false) rfl rfl) mL (.u rfl) (fun _=>hs97.sc) ?_
  refine wG rfl (Gd.f (b:=false) rfl rfl) (.u rfl) (.u rfl) ?_
  refine cK rfl .no (.u rfl) (.u rfl) (.g (cD rfl (fun c4=>?_) (fun c4=>?_)))
  ·have c4k:=c4
   try simp only [aC,aG,aD] at c4
   refine .g (dK (eT Hd.zero State.zero eJ 0#64 0 0 false) rfl .no tR .nil rfl (rfl) ?_)
   refine sw rfl (.u rfl) (.u rfl) rfl kT eI (by first|exact State.len|exact Edit.len|exact eU|rfl) (kN) ?_
   refine aS rfl rfl (.nc (.ret (aM Tryz.results7 (.cell rfl (fun w hw=>bI nF (RdN.own .here) (eU) hw) (.tmp rfl .nil)) ?_)))
   exact .inl ⟨xF (by rw [← ep20]; exact xT (k:=k+1) (by rw [tI (pL ep58),hq]; exact aB4 (L:=pV (cE p58.2 8) X78 e71) hM (by omega) hD71 hA78 rfl (.inr (.inr (.inr (by rw [← eL97]; simpa using c4)))))),rfl,rfl⟩
  have c4k:=c4
  try simp only [aC,aG,aD] at c4
  refine .skip (.code (.seq ?_))
  obtain ⟨m2,q1,q2,q3,q4⟩:=aRR hM (by omega) hD71 hA78 eL97 (by simpa using h0) (by simpa using h00) h1 (by simpa using c4)
  refine .g (lB rfl eQ rfl .here ?_)
  refine fZ rfl yL rfl (st rfl (.u rfl) (.u rfl) rfl jC bB (by show 5+14≤23; decide) (iT) ?_)
  refine .g (fZ rfl vN rfl (s1 rfl (.u rfl) (.u rfl) rfl iS .here (by show 19<23; decide) (rfl) ?_))
  refine .g (aW (((k+1):Nat):Int) rfl rfl rfl rfl ?_)
  refine .g (aP (k+1,m2,X78,hX78) ?_ ?_ ?_ ?_ ?_)
  ·exact (aK rfl (aA rfl (aA rfl (aA rfl eZ))))
  ·exact (mS .here (by rw [q3]; rfl) (mS bB rfl (mS bB rfl (mS bB rfl mN))))
  ·first|omega|(dsimp only; omega)
  ·exact ((((hGl0).trans hG67).trans hG71).trans hG78).trans hG97
  refine ⟨?_,?_,?_,?_,?_⟩
  ·(try dsimp only)<;>(first|omega|rfl|assumption|(simp; done))
  ·(try dsimp only)<;>(rw [tI (pL ep58),hq]; exact q1)
  ·(try dsimp only)<;>(exact q2)
  ·(try dsimp only)<;>(omega)
  (try dsimp only)<;>(exact hR78)
 have c2k:=c2
 try simp only [aC,aG,aD] at c2
 refine .g (lA rfl .no nF (.u rfl) (fun _=>RdN.own .here) (fun _=>(by first|exact State.len|exact Edit.len|exact eU|rfl)) ?_)
 refine sw rfl (.u rfl) (.u rfl) rfl kT aN (by first|exact State.len|exact Edit.len|exact eU|rfl) (kN) ?_
 refine aS rfl rfl (.nc (.ret (aM Tryz.results7 (.cell rfl (fun w hw=>bI nF (RdN.own .here) (eU) hw) (.tmp rfl .nil)) ?_)))
 obtain rfl:k=ps20.length:=by omega
 rw [List.take_of_length_le (by rw [List.length_map]; exact Nat.le_refl _),ep20] at hq
 exact .inr ⟨_,X,hX,aBt (fun q=>by rcases q with q | q; (exact q c1.1); (rcases c1.2 with c | c; (omega); (exact q.2 (BitVec.eq_of_toNat_eq (by have:((bW root xs).1.hd.kind.toNat:Int)=3:=c; show _=3; omega))))) hq,hM,rfl,by rw [hmn]; rfl,hXR⟩
theorem aT7:aU Tryz.prog 12=true:=by kernel_rfl
theorem aT8:aU Tryz.prog 5=true:=by kernel_rfl
theorem aKN:cO Tryz.prog 35 0=some 0:=by kernel_rfl
theorem aSn:uK Tryz.prog 4 28 ([.int .u8,.int .u8,.int .u64,.int .u64,.int .u64])=true:=by kernel_rfl
theorem aSj:aCn Tryz.prog 4=true:=by kernel_rfl
theorem aTY:aU Tryz.prog 7=true:=by kernel_rfl
theorem aTd:aU Tryz.prog 8=true:=by kernel_rfl
theorem aNo (root:Nat→Y) (xs:List Y) (hx:Sh) (G:PM) (hs:SlR G 1 aQ hx xs) (hK:RdNP G 1 0 (wa 64 kW)) (hm:xs.length≤100000000):Ct Tryz.prog 6 ([.agg (ba 32 root).toArray,hx.val xs.length]:List Value).toArray G [] (fun G' μ' u=>∃ r X hX,r=tF root xs∧RdS r X∧μ'=[]∧u=.tuple #[.agg (eT r.hd X hX r.mark (r.n:Int) (r.used:Int) r.torn).toArray,.int .i64 r.er]∧StR G' X hX) :=
 (aDT root xs hx G hs hK hm).mono fun G' μ' u hh=>by
  rcases hh with ⟨h1,h2,h3⟩ | ⟨v,X,hX,h1,h2,h3,h4,h5⟩
  ·exact ⟨_,State.zero,eJ,rfl,RdS.none h1,h2,by rw [h3,aDs h1]; rfl,lH⟩
  ·exact ⟨_,X,hX,rfl,RdS.some h1 h2,h3,by rw [h4,aDt h1],h5⟩
theorem aPD (root:Nat→Y) (xs:List Y) (hx:Sh) (G:PM) (hs:SlR G 1 aQ hx xs) (hR:RdNP G 0 0 (wa 64 kW)) (hm:xs.length≤100000000):Ct Tryz.prog 7 ([.agg (ba 32 root).toArray,hx.val xs.length]:List Value).toArray G [] (fun G' μ' u=>∃ r X hX,r=tF root xs∧RdS r X∧μ'=[]∧u=.tuple #[.agg (eT r.hd X hX r.mark (r.n:Int) (r.used:Int) r.torn).toArray,.int .i64 r.er]∧StR G' X hX) :=
 (aPC root xs hx G hs hR hm).mono fun G' μ' u hh=>by
  rcases hh with ⟨h1,h2,h3⟩ | ⟨v,X,hX,h1,h2,h3,h4,h5⟩
  ·exact ⟨_,State.zero,eJ,rfl,RdS.none h1,h2,by rw [h3,aDs h1]; rfl,lH⟩
  ·exact ⟨_,X,hX,rfl,RdS.some h1 h2,h3,by rw [h4,aDt h1],h5⟩
theorem aQa (r:RdV) (X Y:State) (hX hY:Nat→Sh) (G:PM) (hx:StR G X hX) (hy:StR G Y hY) (h1:RdS r X) (h2:RdS r Y):Ct Tryz.prog 8 ([.agg (eT r.hd X hX r.mark (r.n:Int) (r.used:Int) r.torn).toArray,.agg (eT r.hd Y hY r.mark (r.n:Int) (r.used:Int) r.torn).toArray]:List Value).toArray G [] (fun _ μ' u=>μ'=[]∧u=.bool true):=by
 refine Ct.of Tryz.func8 rfl Tryz.ntmps8 rfl fun w0 hs0=>?_
 refine .seq (dU rfl rfl ?_)
 refine bX rfl rfl rfl ?_; intro b2
 refine bX rfl rfl rfl ?_; intro b3
 refine .g (fZ rfl aKN rfl (lA rfl .no gO (.u rfl) (fun _=>RdN.part (n:=5) (cs':=[V r.hd.kind,V r.hd.level,uv .u64 r.hd.gen,uv .u64 r.hd.epoch,uv .u64 r.hd.num]) aE (aHA)) (fun _=>rfl) ?_))
 refine fZ rfl aKN rfl (lA rfl .no gO (.u rfl) (fun _=>RdN.part (n:=5) (cs':=[V r.hd.kind,V r.hd.level,uv .u64 r.hd.gen,uv .u64 r.hd.epoch,uv .u64 r.hd.num]) .here (aHA)) (fun _=>rfl) ?_)
 refine eqC (decide (r.hd=r.hd)) rfl .no aSn (.u rfl) (.u rfl) (fun _=>aGZ _) (fun _=>aGZ _) (fun _=>aNC) ?_
 refine fT true (decide_eq_true rfl) ?_
 refine .p (fz rfl (.t rfl rfl) yL (.u rfl) (lA rfl (.t rfl rfl) eQ (.u rfl) (fun _=>RdN.part (n:=14) (cs':=X.cells hX) aE (aBe)) (fun _=>(by first|exact qE|exact qL|rfl)) ?_))
 refine fz rfl (.t rfl rfl) yL (.u rfl) (lA rfl (.t rfl rfl) eQ (.u rfl) (fun _=>RdN.part (n:=14) (cs':=Y.cells hY) .here (aBe)) (fun _=>(by first|exact qE|exact qL|rfl)) ?_)
 refine kv rfl (.t rfl rfl) aT7 (aB rfl (aB rfl aF)) (fun _=>aQi X Y hX hY _ hx hy h1.gens h2.gens h1.few) ?_
 refine fT true (aQh (h1.eq.trans h2.eq.symm)) ?_
 refine bR rfl .no (.u rfl) (.u rfl) (.p (fz rfl (.t rfl rfl) vN (.u rfl) (ld rfl (.t rfl rfl) bD (.u rfl) (fun _=>Rd.own aE rfl) ?_)))
 refine fz rfl (.t rfl rfl) vN (.u rfl) (ld rfl (.t rfl rfl) bD (.u rfl) (fun _=>Rd.own .here rfl) ?_)
 refine cp rfl (.t rfl rfl) (.u rfl) (.u rfl) rfl (fT true (beq_self_eq_true _) ?_)
 refine bR rfl .no (.u rfl) (.u rfl) (.p (fz rfl (.t rfl rfl) aAe (.u rfl) (ld rfl (.t rfl rfl) dH (.u rfl) (fun _=>Rd.own aE rfl) ?_)))
 refine fz rfl (.t rfl rfl) aAe (.u rfl) (ld rfl (.t rfl rfl) dH (.u rfl) (fun _=>Rd.own .here rfl) ?_)
 refine cp rfl (.t rfl rfl) (.u rfl) (.u rfl) rfl (fT true (beq_self_eq_true _) ?_)
 refine bR rfl .no (.u rfl) (.u rfl) (.p (fz rfl (.t rfl rfl) aEc (.u rfl) (ld rfl (.t rfl rfl) dH (.u rfl) (fun _=>Rd.own aE rfl) ?_)))
 refine fz rfl (.t rfl rfl) aEc (.u rfl) (ld rfl (.t rfl rfl) dH (.u rfl) (fun _=>Rd.own .here rfl) ?_)
 refine cp rfl (.t rfl rfl) (.u rfl) (.u rfl) rfl (fT true (beq_self_eq_true _) ?_)
 refine bR rfl .no (.u rfl) (.u rfl) (.p (fz rfl (.t rfl rfl) aCQ (.u rfl) (ld rfl (.t rfl rfl) qW (.u rfl) (fun _=>Rd.own aE rfl) ?_)))
 refine fz rfl (.t rfl rfl) aCQ (.u rfl) (ld rfl (.t rfl rfl) qW (.u rfl) (fun _=>Rd.own .here rfl) ?_)
 refine eb rfl (.t rfl rfl) aSj (.u rfl) (.u rfl) (fT true (beq_self_eq_true _) ?_)
 refine bR rfl .no (.u rfl) (.u rfl) (aS rfl rfl (.nc (.ret (aM Tryz.results8 (.tmp rfl .nil) ?_))))
 exact ⟨rfl,rfl⟩
set_option maxHeartbeats 2000000 in
theorem aK4 (root:Nat→Y) (xs:List Y) (hx:Sh) (G:PM) (hs:SlR G 1 aQ hx xs) (hK:RdNP G 1 0 (wa 64 kW)) (hR:RdNP G 0 0 (wa 64 kW)):Ct Tryz.prog 3 ([.agg (ba 32 root).toArray,hx.val xs.length]:List Value).toArray G [] (fun _ μ' u=>μ'=[]∧u=.bool true):=by
 refine Ct.of Tryz.func3 rfl Tryz.ntmps3 rfl fun w0 hs0=>?_
 refine .seq (bJ rfl rfl ?_)
 refine bX rfl rfl rfl ?_; intro b2
 refine .g (kv rfl .no aT8 aF (fun _=>aQu _ hK) ?_)
 refine .g (lE rfl bU rfl (cP rfl rfl rfl rfl (.g (cD rfl (fun c1=>?_) (fun c1=>?_)))))
 ·have c1k:=c1
  try simp only [aC,aG,aD] at c1
  refine .seq (bJ rfl rfl (mV rfl rfl (aS rfl rfl (.nc (.ret (aM Tryz.results3 (.tmp rfl .nil) ?_))))))
  exact ⟨rfl,rfl⟩
 have c1k:=c1
 try simp only [aC,aG,aD] at c1
 refine .g (lA rfl .no dY (.u rfl) (fun _=>RdN.part (n:=32) (cs':=ba 32 root) .here (rfl)) (fun _=>(bT _ _)) ?_)
 refine .p (kc rfl aCV (aB rfl (aB rfl aF)) (aNo root xs hx _ hs hK (by omega)) ?_)
 rintro _ G18 μ18 hG18 ⟨r18,X18,hX18,er18,hS18,rfl,rfl,hRr18⟩
 have hs:=hs.mono hG18
 have hR:=hR.mono hG18
 refine .p (eX rfl rfl rfl (eX rfl rfl rfl ?_))
 refine al rfl sI ?_; intro b6
 refine sw rfl (.u rfl) (.u rfl) rfl kT .here (by first|exact qE|exact qL|rfl) (kN) ?_
 refine .g (lA rfl .no dY (.u rfl) (fun _=>RdN.part (n:=32) (cs':=ba 32 root) aE (rfl)) (fun _=>(bT _ _)) ?_)
 refine .p (kc rfl aTY (aB rfl (aB rfl aF)) (aPD root xs hx _ hs hR (by omega)) ?_)
 rintro _ G24 μ24 hG24 ⟨r24,X24,hX24,er24,hS24,rfl,rfl,hRr24⟩
 have hRr18:=hRr18.mono hG24
 refine .p (eX rfl rfl rfl (eX rfl rfl rfl ?_))
 refine al rfl sI ?_; intro b8
 refine sw rfl (.u rfl) (.u rfl) rfl kT .here (by first|exact qE|exact qL|rfl) (kN) ?_
 refine aS rfl rfl (.nil ?_)
 obtain rfl:r18=r24:=er18.trans er24.symm
 refine .g (lA rfl (.t rfl rfl) nF (.u rfl) (fun _=>RdN.own aE) (fun _=>(by first|exact qE|exact qL|rfl)) ?_)
 refine lA rfl (.t rfl rfl) nF (.u rfl) (fun _=>RdN.own .here) (fun _=>(by first|exact qE|exact qL|rfl)) ?_
 refine kv rfl (.t rfl rfl) aTd (aB rfl (aB rfl aF)) (fun _=>aQa r18 X18 X24 hX18 hX24 _ hRr18 hRr24 hS18 hS24) ?_
 refine bR rfl .no (.u rfl) (.u rfl) (mV rfl rfl (mv rfl (.t rfl rfl) (.u rfl) (mv rfl (.t rfl rfl) (.u rfl) (cp rfl (.t rfl rfl) (.u rfl) (.u rfl) rfl (fT true (beq_self_eq_true _) ?_)))))
 refine bR rfl .no (.u rfl) (.u rfl) (aS rfl rfl (.nc (.ret (aM Tryz.results3 (.tmp rfl .nil) ?_))))
 exact ⟨rfl,rfl⟩
end Go.Proofs.YtdeobooblmjlfaaGreatDoor
