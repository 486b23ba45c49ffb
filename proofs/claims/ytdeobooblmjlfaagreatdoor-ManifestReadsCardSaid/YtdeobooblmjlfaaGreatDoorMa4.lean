/- Lemmas and contracts of functions, joined. -/
import Derived.Test.YtdeobooblmjlfaaGreatDoorMa3
set_option linter.unusedSimpArgs false
set_option linter.unusedVariables false
set_option linter.unusedSectionVars false
namespace Go.Tan
open Go.RowKit
def aGQ:List CK:=List.replicate 5 (.int .u64)
theorem aMh {m:Meta} (h:m.wf):(eF m).length≤m.min.size+m.max.size+112:=by
 have l1:=h.level; have l2:=h.gen; have l3:=h.epoch; have l4:=h.number; have l7:=h.minL; have l8:=h.maxL
 have n1:=gZ (n:=m.level.toNat) (by omega); have n2:=gZ (n:=m.gen.toNat) (by omega); have n3:=gZ (n:=m.epoch.toNat) (by omega); have n4:=gZ (n:=m.number.toNat) (by omega)
 have n5:=gZ (aJb m.size); have n6:=gZ (aJb m.count)
 have y1:=nE m.min; have y2:=nE m.max
 have s1:=tK (xs:=yb m.min) (by omega); have s2:=tK (xs:=yb m.max) (by omega)
 unfold eF
 simp only [List.length_append,List.length_map,List.length_range]
 omega
theorem aBM {e:Edit} (h:e.wf) (ha:e.add.length≤1000000) (hd:e.drop.length≤1000000):(kU e).length≤(e.add.flatMap eF).length+20*e.drop.length+110:=by
 have l1:=h.log; have l2:=h.next; have l3:=h.seq; have l4:=h.least
 unfold u64 at l1 l2 l3 l4
 have n1:=gZ (n:=e.log.toNat) (by omega); have n2:=gZ (n:=e.next.toNat) (by omega); have n3:=gZ (n:=e.seq.toNat) (by omega); have n4:=gZ (n:=e.least.toNat) (by omega)
 have n5:=gZ (n:=e.add.length) (by omega); have n6:=gZ (n:=e.drop.length) (by omega)
 have g:((List.range 5).flatMap fun i=>bP (e.gens i).toNat).length≤10*5:=by
  have:=iZ (ns:=jT e) (uQ h)
  unfold fL jT at this
  rw [List.flatMap_map] at this
  simpa using this
 have d:=aBU h.drop
 unfold kU
 simp only [List.length_append]
 omega
theorem DecR.lens {xs:List Y} {e:Edit} {r:Int} (h:DecR xs e r):e.add.length≤1024∧e.drop.length≤1024:=by
 rcases h with ⟨h1,_⟩ | ⟨_,rfl,_⟩
 ·exact (wL h1).2.2
 ·exact ⟨by decide,by decide⟩
abbrev bE:=Nat→List Meta
def cW (L:bE) (k:Nat) (l:List Meta):bE:=fun i=>if i=k then l else L i
theorem pZ (L:bE) (k:Nat) (l:List Meta):cW L k l k=l:=by simp [cW]
theorem pY {L:bE} {k i:Nat} {l:List Meta} (h:i≠k):cW L k l i=L i:=by simp [cW,h]
def fJ (g:Gone) (m:Meta):Bool:=m.number == g.number
def dV (g:Gone) (L:bE):Option bE :=
 if g.level<5 then (if fD (fJ g) (L g.level.toNat)<0 then none else some (cW L g.level.toNat ((L g.level.toNat).take (fD (fJ g) (L g.level.toNat)).toNat++(L g.level.toNat).drop ((fD (fJ g) (L g.level.toNat)).toNat+1)))) else none
def fX (m:Meta) (L:bE):Option bE:=if m.level<5 then some (cW L m.level.toNat (L m.level.toNat++[m])) else none
def pJ (m:Meta) (L:bE):Option bE:=if m.level<5 then some (cW L m.level.toNat (kK (iX m.level) (L m.level.toNat) m)) else none
def cF {β:Type} (f:β→bE→Option bE):List β→bE→Option bE
 | [],L=>some L
 | b :: bs,L=>(f b L).bind (cF f bs)
theorem aGK {β:Type} {f:β→bE→Option bE}:∀ {bs:List β} {b:β} {L:bE},cF f (bs++[b]) L=(cF f bs L).bind (f b)
 | [],b,L=>by simp [cF]
 | c :: bs,b,L=>by
  simp only [List.cons_append,cF]
  cases f c L with
  | none=>rfl
  | some L1=>exact aGK
theorem aGL {β:Type} {f:β→bE→Option bE} {bs:List β} {k:Nat} {b:β} {L:bE} (h:bs[k]? = some b):cF f (bs.take (k+1)) L=(cF f (bs.take k) L).bind (f b):=by
 rw [List.take_add_one,h]; exact aGK
theorem aGJ {β:Type} {f:β→bE→Option bE}:∀ {bs cs:List β} {L:bE},cF f (bs++cs) L=(cF f bs L).bind (cF f cs)
 | [],cs,L=>rfl
 | b :: bs,cs,L=>by
  simp only [List.cons_append,cF]
  cases f b L with
  | none=>rfl
  | some L1=>exact aGJ
theorem aMs {β:Type} {f:β→bE→Option bE} {bs:List β} {k:Nat} {L:bE} (h:cF f (bs.take k) L=none):cF f bs L=none:=by
 rw [← List.take_append_drop k bs,aGJ,h]; rfl
def fF (e:Edit) (L:bE):State:=⟨L,e.log,e.next,e.seq,e.least,e.gens⟩
noncomputable def rK (X:State):Option State:=if fG X then some X else none
def jA (s:State) (e:Edit):Bool := !qH s e&&(decide ((e.add.length:Int)≤1024)&&decide ((e.drop.length:Int)≤1024))
def gN (L:bE):bE:=fun i=>jI (iX i) (L i)
noncomputable def fC (s:State) (e:Edit):Option State :=
 if jA s e then (cF dV e.drop s.lv).bind fun L1=>(cF fX e.add L1).bind fun L2=>rK (fF e (gN L2)) else none
structure EqS (X Y:State):Prop where
 lv:∀ i,i<5→X.lv i=Y.lv i
 log:X.log=Y.log
 next:X.next=Y.next
 seq:X.seq=Y.seq
 least:X.least=Y.least
 gens:X.gens=Y.gens
theorem EqS.refl (X:State):EqS X X:=⟨fun _ _=>rfl,rfl,rfl,rfl,rfl,rfl⟩
theorem EqS.tot {X Y:State} (h:EqS X Y):∀ n,n≤5→tot X n=tot Y n
 | 0,_=>rfl
 | n+1,hn=>by simp only [Go.Tan.tot,h.tot n (by omega),h.lv n (by omega)]
theorem EqS.all {X Y:State} (h:EqS X Y):∀ n,n≤5→bZ X n=bZ Y n
 | 0,_=>rfl
 | n+1,hn=>by simp only [bZ,h.all n (by omega),h.lv n (by omega)]
theorem EqS.good {X Y:State} (h:EqS X Y) (m:Meta):Go.Tan.good X m=Go.Tan.good Y m:=by unfold Go.Tan.good; rw [h.next,h.gens]
theorem EqS.right' {X Y:State} (h:EqS X Y) (hr:RightP X):RightP Y:=by
 refine ⟨h.seq▸hr.seq,h.least▸hr.least,by rw [← h.log,←h.next]; exact hr.log,by rw [← h.tot 5 (Nat.le_refl _)]; exact hr.few,fun i hi=>?_,?_⟩
 ·have:=hr.lv i hi
  rw [h.lv i hi] at this
  exact ⟨fun m hm=>⟨(this.1 m hm).1,by rw [← h.good]; exact (this.1 m hm).2⟩,this.2⟩
 rw [← h.all 5 (Nat.le_refl _)]; exact hr.apart
theorem EqS.symm {X Y:State} (h:EqS X Y):EqS Y X:=⟨fun i hi=>(h.lv i hi).symm,h.log.symm,h.next.symm,h.seq.symm,h.least.symm,h.gens.symm⟩
theorem EqS.right {X Y:State} (h:EqS X Y):fG X=fG Y:=by
 cases hx:fG X with
 | true=>exact (aBu (h.right' (vD hx))).symm
 | false =>
  cases hy:fG Y with
  | false=>rfl
  | true=>have:=aBu (h.symm.right' (vD hy)); rw [hx] at this; cases this
def AppR (s:State) (e:Edit) (X:State) (err:Int):Prop :=
 (fG s=false∧err=1∧X=State.zero)∨(fG s=true∧fC s e=none∧err=180∧X=State.zero)∨(fG s=true∧err=0∧∃ Y,fC s e=some Y∧EqS X Y)
theorem aFK {s:State} {e:Edit} (h:jA s e=false):fC s e=none:=by unfold fC; rw [h]; rfl
theorem sL {s:State} {e:Edit} (h:cF dV e.drop s.lv=none):fC s e=none:=by
 unfold fC; split
 ·rw [h]; rfl
 ·rfl
theorem aFJ {s:State} {e:Edit} {L1:bE} (h1:cF dV e.drop s.lv=some L1) (h:cF fX e.add L1=none):fC s e=none:=by
 unfold fC; split
 ·rw [h1]; simp only [Option.bind_some]; rw [h]; rfl
 ·rfl
theorem aCe {s:State} {e:Edit} {L1 L2:bE} (h0:jA s e=true) (h1:cF dV e.drop s.lv=some L1) (h2:cF fX e.add L1=some L2):fC s e=rK (fF e (gN L2)):=by
 unfold fC; rw [h0,h1]; simp only [if_true,Option.bind_some]; rw [h2]; rfl
theorem aFZ {X Y:State} (h:EqS X Y) (hx:fG X=true):rK Y=some Y:=by unfold rK; rw [← h.right,hx]; rfl
theorem aFa {X Y:State} (h:EqS X Y) (hx:fG X=false):rK Y=none:=by unfold rK; rw [← h.right,hx]; rfl
theorem qN {p:Meta→Bool} {l:List Meta} (h:¬ fD p l<0):(fD p l).toNat<l.length∧fD p l=((fD p l).toNat:Int):=by
 unfold fD at *
 cases hf:l.findIdx? p with
 | none=>rw [hf] at h; simp at h
 | some i =>
  rw [List.findIdx?_eq_some_iff_getElem] at hf
  simp; exact hf.1
theorem aMd {g:Gone} {L L':bE} (h:dV g L=some L'):∀ i,(L' i).Sublist (L i):=by
 unfold dV at h
 split at h
 ·split at h
  ·cases h
  ·simp only [Option.some.injEq] at h
   subst h
   intro i
   by_cases hi:i=g.level.toNat
   ·subst hi
    rw [pZ]
    have:=(List.Sublist.refl ((L g.level.toNat).take (fD (fJ g) (L g.level.toNat)).toNat)).append (List.drop_sublist_drop_left (L g.level.toNat) (Nat.le_succ (fD (fJ g) (L g.level.toNat)).toNat))
    rwa [List.take_append_drop] at this
   ·rw [pY hi]; exact List.Sublist.refl _
 ·cases h
theorem aBK:∀ {gs:List Gone} {L L':bE},cF dV gs L=some L'→∀ i,(L' i).Sublist (L i)
 | [],L,L',h,i=>by simp only [cF,Option.some.injEq] at h; subst h; exact List.Sublist.refl _
 | g :: gs,L,L',h,i=>by
  simp only [cF] at h
  cases hf:dV g L with
  | none=>rw [hf] at h; cases h
  | some L1=>rw [hf] at h; exact (aBK h i).trans (aMd hf i)
def uE (i:Nat) (m:Meta):Bool:=m.level.toNat == i
theorem aA6:∀ {ms:List Meta} {L L':bE},cF fX ms L=some L'→∀ i,L' i=L i++ms.filter (uE i)
 | [],L,L',h,i=>by simp only [cF,Option.some.injEq] at h; subst h; simp
 | m :: ms,L,L',h,i=>by
  simp only [cF] at h
  unfold fX at h
  split at h
  ·simp only [Option.bind_some] at h
   rw [aA6 h i]
   by_cases hi:i=m.level.toNat
   ·subst hi
    rw [pZ,List.filter_cons_of_pos (by simp [uE])]; simp
   ·rw [pY hi,List.filter_cons_of_neg (by simp [uE]; omega)]
  ·cases h
theorem aNj {m:Meta} (h:0≤m.level):iX m.level=iX (m.level.toNat:Int):=by rw [Int.toNat_of_nonneg h]
theorem aGg:∀ {ms:List Meta} {L L':bE},(∀ m∈ms,0≤m.level)→cF pJ ms L=some L'→∀ i,L' i=(ms.filter (uE i)).foldl (kK (iX (i:Int))) (L i)
 | [],L,L',_,h,i=>by simp only [cF,Option.some.injEq] at h; subst h; simp
 | m :: ms,L,L',h0,h,i=>by
  simp only [cF] at h
  unfold pJ at h
  split at h
  ·simp only [Option.bind_some] at h
   rw [aGg (fun x hx=>h0 x (List.mem_cons_of_mem _ hx)) h i]
   by_cases hi:i=m.level.toNat
   ·subst hi
    rw [pZ,List.filter_cons_of_pos (by simp [uE]),List.foldl_cons,aNj (h0 m (List.mem_cons_self ..))]
   ·rw [pY hi,List.filter_cons_of_neg (by simp [uE]; omega)]
  ·cases h
theorem aCd:∀ {ms:List Meta} {L L':bE},cF fX ms L=none↔cF pJ ms L'=none
 | [],L,L'=>by simp [cF]
 | m :: ms,L,L'=>by
  simp only [cF,fX,pJ]
  split
  ·simp only [Option.bind_some]; exact aCd
  ·simp
theorem aP3 {s:State} (hr:RightP s) {i:Nat} (hi:i<5):(s.lv i).Pairwise fun a b=>iX (i:Int) b a=false:=by
 have step:∀ (d a:Nat),a+d+1<(s.lv i).length→iX (i:Int) ((s.lv i).getD a Meta.zero) ((s.lv i).getD (a+d+1) Meta.zero)=true:=by
  intro d
  induction d with
  | zero =>
   intro a h
   have:=(hr.lv i hi).2 a h
   unfold iM at this
   unfold iX
   by_cases h0:i=0
   ·subst h0; simpa using this
   rw [if_neg (by omega)] at this ⊢
   exact aGt (aGX ((hr.lv i hi).1 _ (qM (k:=a) (by omega))).2) this
  | succ d ih =>
   intro a h
   have h1:=ih a (by omega)
   have h2:iX (i:Int) ((s.lv i).getD (a+d+1) Meta.zero) ((s.lv i).getD (a+(d+1)+1) Meta.zero)=true:=by
    have:=(hr.lv i hi).2 (a+d+1) (by omega)
    rw [show a+d+1+1=a+(d+1)+1 by omega] at this
    unfold iM at this
    unfold iX
    by_cases h0:i=0
    ·subst h0; simpa using this
    rw [if_neg (by omega)] at this ⊢
    exact aGt (aGX ((hr.lv i hi).1 _ (qM (k:=a+d+1) (by omega))).2) this
   exact (aBd i).tr h1 h2
 refine List.pairwise_iff_getElem.2 fun a b ha hb hab=>?_
 obtain ⟨d,rfl⟩ : ∃ d,b=a+d+1:=⟨b-a-1,by omega⟩
 have:=step d a hb
 have e1:(s.lv i).getD a Meta.zero=(s.lv i)[a]:=by simp [ha]
 have e2:(s.lv i).getD (a+d+1) Meta.zero=(s.lv i)[a+d+1]:=by simp [hb]
 rw [e1,e2] at this
 exact (aBd i).as this
theorem aNP {s:State} {gs:List Gone} {ms:List Meta} {L1 L2 L3:bE} (hr:RightP s) (h1:cF dV gs s.lv=some L1) (h2:cF fX ms L1=some L2) (hm:∀ m∈ms,0≤m.level) (h3:cF pJ ms L1=some L3) {i:Nat} (hi:i<5):L3 i=gN L2 i:=by
 rw [aGg hm h3 i]
 unfold gN
 rw [aA6 h2 i,aQ3,aQ5 (aBd i) ((aP3 hr hi).sublist (aBK h1 i))]
theorem aNO {ms:List Meta} {L1 L3:bE} (h3:cF pJ ms L1=some L3):∃ L2,cF fX ms L1=some L2:=by
 cases h:cF fX ms L1 with
 | some L2=>exact ⟨L2,rfl⟩
 | none=>rw [aCd (L':=L1)] at h; rw [h] at h3; cases h3
theorem pG {s:State} {gs:List Gone} {L:bE} (hr:RightP s) (h:cF dV gs s.lv=some L) {i:Nat} (hi:i<5):(L i).length≤1024:=by
 have h1:=(aBK h i).length_le
 have h2:=rT s hi
 have h3:=hr.few
 omega
theorem wA {ms:List Meta} {L L':bE} {N:Nat} (h:cF fX ms L=some L') {i:Nat} (hN:(L i).length≤N):(L' i).length≤N+ms.length:=by
 rw [aA6 h i,List.length_append]
 have:=List.length_filter_le (uE i) ms
 omega
theorem aMe {s:State} {gs:List Gone} {L:bE} (hw:∀ i,i<5→∀ m∈s.lv i,m.wf) (h:cF dV gs s.lv=some L):∀ i,i<5→∀ m∈L i,m.wf:=fun i hi m hm=>hw i hi m ((aBK h i).subset hm)
theorem aLO {ms:List Meta} {L L':bE} (hw:∀ i,i<5→∀ m∈L i,m.wf) (hm:∀ m∈ms,m.wf) (h:cF fX ms L=some L'):∀ i,i<5→∀ m∈L' i,m.wf:=by
 intro i hi m hx
 rw [aA6 h i] at hx
 rcases List.mem_append.1 hx with hx | hx
 ·exact hw i hi m hx
 ·exact hm m (List.mem_filter.1 hx).1
theorem aQ9 (L:bE) (i:Nat):(gN L i).length=(L i).length:=aQ4 _
theorem aRA {L:bE} {i:Nat} {m:Meta}:m∈gN L i↔m∈L i:=(aIu _).mem_iff
def xC (w0 w1 w2 w3 w4:Value) (e:Edit):List Value:=[w0,w1,w2,w3,w4,.int .u64 e.log,.int .u64 e.next,.int .u64 e.seq,.int .u64 e.least]++(List.range 5).map fun i=>.int .u64 (e.gens i)
def pk {α:Type} (k i:Nat) (a b:α):α:=if i<k then a else b
def hx5 (a b c d f:Sh):Nat→Sh:=fun i=>match i with | 0=>a | 1=>b | 2=>c | 3=>d | _=>f
theorem aRC {G:PM} {X:State} {a b c d f:Sh} (h0:SlR G 40 Meta.cells a (X.lv 0)) (h1:SlR G 40 Meta.cells b (X.lv 1)) (h2:SlR G 40 Meta.cells c (X.lv 2)) (h3:SlR G 40 Meta.cells d (X.lv 3)) (h4:SlR G 40 Meta.cells f (X.lv 4)) (hl:∀ i,i<5→(X.lv i).length≤1000000) (hw:∀ i,i<5→∀ m∈X.lv i,m.wf):StR G X (hx5 a b c d f):=by
 refine ⟨fun i hi=>?_,fun i hi=>?_,hw⟩
 ·match i,hi with
  | 0,_=>exact h0
  | 1,_=>exact h1
  | 2,_=>exact h2
  | 3,_=>exact h3
  | 4,_=>exact h4
 have:=hl i hi; omega
theorem aSO {a b c d f:Sh} {e:Edit} {L:bE}:xC (a.val (L 0).length) (b.val (L 1).length) (c.val (L 2).length) (d.val (L 3).length) (f.val (L 4).length) e=(fF e L).cells (hx5 a b c d f):=rfl
theorem aSP {w0 w1 w2 w3 w4:Value} {e:Edit} (h0:w0.oneCell'=true) (h1:w1.oneCell'=true) (h2:w2.oneCell'=true) (h3:w3.oneCell'=true) (h4:w4.oneCell'=true):∀ u∈xC w0 w1 w2 w3 w4 e,u.oneCell'=true:=by
 intro u hu
 simp only [xC,List.mem_append,List.mem_map,List.mem_cons,List.not_mem_nil,or_false] at hu
 rcases hu with (rfl|rfl|rfl|rfl|rfl|rfl|rfl|rfl|rfl) | ⟨i,_,rfl⟩<;>first|assumption|rfl
theorem zK {g:Gone} {L:bE} {q k:Nat} (h:g.level=(q:Int)) (h5:q<5) (hk:fD (fJ g) (L q)=(k:Int)):dV g L=some (cW L q ((L q).take k++(L q).drop (k+1))):=by
 unfold dV
 rw [h,if_pos (by omega),Int.toNat_natCast,hk,if_neg (by omega),Int.toNat_natCast]
theorem zL {g:Gone} {L:bE} {q:Nat} (h:g.level=(q:Int)) (hk:fD (fJ g) (L q)<0):dV g L=none:=by
 unfold dV
 split
 ·rw [h,Int.toNat_natCast,if_pos hk]
 ·rfl
theorem aFw {g:Gone} {L:bE} (h:5≤g.level):dV g L=none:=by unfold dV; rw [if_neg (by omega)]
theorem lT {m:Meta} {L:bE} {q:Nat} (h:m.level=(q:Int)) (h5:q<5):fX m L=some (cW L q (L q++[m])):=by
 unfold fX
 rw [h,if_pos (by omega),Int.toNat_natCast]
theorem aLN {m:Meta} {L:bE} (h:5≤m.level):fX m L=none:=by unfold fX; rw [if_neg (by omega)]
theorem gW {β:Type} {f:β→bE→Option bE} {bs:List β} {j:Nat} {b:β} {L0 L L':bE} (hb:bs[j]? = some b) (hL:cF f (bs.take j) L0=some L) (h:f b L=some L'):cF f (bs.take (j+1)) L0=some L':=by rw [aGL hb,hL]; exact h
theorem qK {β:Type} {f:β→bE→Option bE} {bs:List β} {j:Nat} {b:β} {L0 L:bE} (hb:bs[j]? = some b) (hL:cF f (bs.take j) L0=some L) (h:f b L=none):cF f bs L0=none:=aMs (k:=j+1) (by rw [aGL hb,hL]; exact h)
theorem aAO {M L2:bE} {k:Nat} (h:∀ i,M i=if i<k then gN L2 i else L2 i):∀ i,cW M k (jI (cG (jV (k:Int))) (M k)) i=if i<k+1 then gN L2 i else L2 i:=by
 intro i
 by_cases hi:i=k
 ·subst hi
  rw [pZ,if_pos (by omega),aG6,h i,if_neg (by omega)]; rfl
 ·rw [pY hi,h i]
  by_cases h2:i<k
  ·rw [if_pos h2,if_pos (by omega)]
  ·rw [if_neg h2,if_neg (by omega)]
theorem aLb {s:State} {e:Edit} (h:((decide ((e.add.length:Int) > 1024)||decide ((e.drop.length:Int) > 1024))||qH s e)=true):fC s e=none:=by
 refine aFK ?_
 unfold jA
 cases hb:qH s e with
 | true=>rfl
 | false =>
  rw [hb] at h
  simp only [Bool.or_false,Bool.or_eq_true,decide_eq_true_eq] at h
  simp only [Bool.not_false,Bool.true_and,Bool.and_eq_false_iff,decide_eq_false_iff_not]
  omega
theorem aON {s:State} {e:Edit} (h:((decide ((e.add.length:Int) > 1024)||decide ((e.drop.length:Int) > 1024))||qH s e)=false):jA s e=true∧e.add.length≤1024∧e.drop.length≤1024:=by
 simp only [Bool.or_eq_false_iff,decide_eq_false_iff_not] at h
 obtain ⟨⟨h1,h2⟩,h3⟩:=h
 refine ⟨?_,by omega,by omega⟩
 unfold jA
 rw [h3,decide_eq_true (by omega),decide_eq_true (by omega)]; rfl
abbrev nK:=Nat→Sh
def tN (S:nK) (k:Nat) (h:Sh):nK:=fun i=>if i=k then h else S i
structure LvR (G:PM) (S:nK) (L:bE) (n:Nat):Prop where
 lv:∀ i,i<n→SlR G 40 Meta.cells (S i) (L i)
theorem LvR.mono {G G':PM} {S:nK} {L:bE} {n:Nat} (h:LvR G S L n) (hle:PM.le G G'):LvR G' S L n:=⟨fun i hi=>(h.lv i hi).mono hle⟩
theorem LvR.upd {G:PM} {S:nK} {L:bE} {n k:Nat} {hh:Sh} {l:List Meta} (h:LvR G S L n) (hs:SlR G 40 Meta.cells hh l):LvR G (tN S k hh) (cW L k l) n:=⟨fun i hi=>by
 unfold tN cW
 by_cases e:i=k
 ·rw [if_pos e,if_pos e]; exact hs
 ·rw [if_neg e,if_neg e]; exact h.lv i hi⟩
theorem LvR.next {G:PM} {S:nK} {L:bE} {k:Nat} {hh:Sh} {l:List Meta} (h:LvR G S L k) (hs:SlR G 40 Meta.cells hh l):LvR G (tN S k hh) (cW L k l) (k+1):=⟨fun i hi=>by
 unfold tN cW
 by_cases e:i=k
 ·rw [if_pos e,if_pos e]; exact hs
 ·rw [if_neg e,if_neg e]; exact h.lv i (by omega)⟩
theorem aCq {e:Edit} {L:bE} {S:nK} {k q:Nat} {hh:Sh} {l:List Meta} (hk:k<5) (hq:q=k):((fF e L).cells S).set q (hh.val l.length)=(fF e (cW L k l)).cells (tN S k hh):=by
 subst hq
 match q,hk with
 | 0,_=>rfl | 1,_=>rfl | 2,_=>rfl | 3,_=>rfl | 4,_=>rfl
theorem aLw {e:Edit} {L L':bE} {S:nK} (h:∀ i,i<5→L i=L' i):(fF e L).cells S=(fF e L').cells S:=by
 unfold State.cells fF
 congr 2
 exact List.map_congr_left fun i hi=>by simp only [h i (List.mem_range.1 hi)]
theorem LvR.congr {G:PM} {S:nK} {L L':bE} {n:Nat} (h:LvR G S L n) (e:∀ i,i<n→L i=L' i):LvR G S L' n:=⟨fun i hi=>by rw [← e i hi]; exact h.lv i hi⟩
theorem Edit.cell_gen (e:Edit) (ha hd:Sh) {k:Nat} (h:k<5):(e.cells ha hd)[4+k*1]? = some (.int .u64 (e.gens k)):=by
 match k,h with
 | 0,_=>rfl | 1,_=>rfl | 2,_=>rfl | 3,_=>rfl | 4,_=>rfl
def aAA (s:State) (e:Edit):Bool:=((((decide (e.log≥s.log)&&decide (e.next≥s.next))&&decide (e.seq≥s.seq))&&decide (e.least≥s.least))&&decide ((e.add.length:Int)≤1024))&&decide ((e.drop.length:Int)≤1024)
def rW (s:State) (e:Edit):Nat→Bool
 | 0=>aAA s e
 | k+1=>rW s e k&&decide (e.gens k≥s.gens k)
theorem aDi {s:State} {e:Edit}:∀ {k:Nat},rW s e k=true↔aAA s e=true∧∀ i,i<k→¬ e.gens i<s.gens i
 | 0=>by simp [rW]
 | k+1=>by
  simp only [rW,Bool.and_eq_true,aDi (k:=k),decide_eq_true_eq]
  constructor
  ·rintro ⟨⟨h1,h2⟩,h3⟩
   exact ⟨h1,fun i hi=>by
    by_cases e:i=k
    ·subst e; omega
    ·exact h2 i (by omega)⟩
  ·rintro ⟨h1,h2⟩
   exact ⟨⟨h1,fun i hi=>h2 i (by omega)⟩,by have:=h2 k (by omega); omega⟩
theorem aOM {s:State} {e:Edit}:rW s e 5=jA s e:=by
 cases h:rW s e 5 with
 | true =>
  obtain ⟨h1,h2⟩:=aDi.1 h
  unfold aAA at h1
  simp only [Bool.and_eq_true,decide_eq_true_eq] at h1
  obtain ⟨⟨⟨⟨⟨a1,a2⟩,a3⟩,a4⟩,a5⟩,a6⟩:=h1
  unfold jA
  rw [aCi h2,decide_eq_true a5,decide_eq_true a6,decide_eq_false (by omega),decide_eq_false (by omega),decide_eq_false (by omega),decide_eq_false (by omega)]; rfl
 | false =>
  cases h':jA s e with
  | false=>rfl
  | true =>
   unfold jA at h'
   simp only [Bool.and_eq_true,Bool.not_eq_true',decide_eq_true_eq] at h'
   obtain ⟨b1,b2,b3⟩:=h'
   have hg:∀ i,i<5→¬ e.gens i<s.gens i:=fun i hi hc=>by rw [aFN hi hc] at b1; cases b1
   rw [aCi hg] at b1
   simp only [Bool.or_eq_false_iff,decide_eq_false_iff_not] at b1
   have:rW s e 5=true:=aDi.2 ⟨by
    unfold aAA
    simp only [Bool.and_eq_true,decide_eq_true_eq]
    omega,hg⟩
   rw [h] at this; cases this
theorem aNM {lt:Meta→Meta→Bool} {l:List Meta} {m:Meta} {k:Nat} (hk:k≤l.length) (h1:∀ j,j<k→lt m (l.getD j Meta.zero)=false) (h2:k=l.length∨lt m (l.getD k Meta.zero)=true):kK lt l m=l.take k++m :: l.drop k:=by
 have ht:l.takeWhile (fun x => !lt m x)=l.take k∧l.dropWhile (fun x => !lt m x)=l.drop k:=by
  clear hk
  induction l generalizing k with
  | nil=>simp
  | cons x l ih =>
   cases k with
   | zero =>
    rcases h2 with h2 | h2
    ·simp at h2
    ·have:lt m x=true:=by simpa using h2
     simp [List.takeWhile,List.dropWhile,this]
   | succ k =>
    have h0:lt m x=false:=by simpa using h1 0 (by omega)
    obtain ⟨a,b⟩:=ih (k:=k) (fun j hj=>by simpa using h1 (j+1) (by omega)) (by
     rcases h2 with h2 | h2
     ·left; simpa using h2
     ·right; simpa using h2)
    simp [List.takeWhile,List.dropWhile,h0,a,b]
 unfold kK
 rw [ht.1,ht.2]
theorem aHo {level:Int} {m x:Meta} (h0:0≤level):(((level == 0)&&decide (x.number≥m.number))||(decide (level > 0)&&(Op.bytesLess x.min.toList m.min.toList||x.min.toList == m.min.toList))) = !iX level m x:=by
 unfold iX
 by_cases h:level=0
 ·subst h
  simp only [beq_self_eq_true,Bool.true_and,if_true,show decide ((0:Int) > 0)=false from rfl,Bool.false_and,Bool.or_false]
  by_cases h2:x.number<m.number
  ·rw [decide_eq_true h2,decide_eq_false (by omega)]; rfl
  ·rw [decide_eq_false h2,decide_eq_true (by omega)]; rfl
 ·rw [if_neg h,show (level == 0)=false from by simpa using h,Bool.false_and,Bool.false_or,decide_eq_true (show level > 0 by omega),Bool.true_and]
  exact aBZ x.min m.min
theorem aNI {m:Meta} {L:bE} (h:m.level<5):pJ m L=some (cW L m.level.toNat (kK (iX m.level) (L m.level.toNat) m)):=by unfold pJ; rw [if_pos h]
theorem aNH {m:Meta} {L:bE} (h:5≤m.level):pJ m L=none:=by unfold pJ; rw [if_neg (by omega)]
theorem aMc {g:Gone} {L:bE} {k:Nat} (h:g.level<5) (hk:fD (fJ g) (L g.level.toNat)=(k:Int)):dV g L=some (cW L g.level.toNat ((L g.level.toNat).take k++(L g.level.toNat).drop (k+1))):=by
 unfold dV
 rw [if_pos h,hk,if_neg (by omega),Int.toNat_natCast]
theorem aMb {g:Gone} {L:bE} (hk:fD (fJ g) (L g.level.toNat)<0):dV g L=none:=by
 unfold dV
 split<;>first|rfl | rw [if_pos hk]
def WithoutR (g:Gone) (l L:List Meta) (ok:Bool):Prop:=(ok=false∧L=[]∧fD (fJ g) l<0)∨(ok=true∧∃ k:Nat,fD (fJ g) l=(k:Int)∧k<l.length∧L=l.take k++l.drop (k+1))
theorem WithoutR.len {g:Gone} {l L:List Meta} {ok:Bool} (h:WithoutR g l L ok):L.length≤l.length:=by
 rcases h with ⟨_,rfl,_⟩ | ⟨_,k,_,hk,rfl⟩
 ·simp
 ·simp; omega
def RefT (s:State) (e:Edit) (f:Option bE) (L:bE) (ok:Bool):Prop:=(ok=true∧jA s e=true∧f=some L)∨(ok=false∧fC s e=none)
theorem aLE {s:State} {e:Edit} {ok:Bool} {f:Option bE} {L:bE} (h:ok=rW s e 5) (hf:f=some L):RefT s e f L ok:=by
 rw [aOM] at h
 cases hk:jA s e with
 | true=>exact .inl ⟨by rw [h,hk],hk,hf⟩
 | false=>exact .inr ⟨by rw [h,hk],aFK hk⟩
theorem RefT.drop {s:State} {e:Edit} {g:Gone} {j:Nat} {L:bE} {l:List Meta} {ok:Bool} (h:RefT s e (cF dV (e.drop.take j) s.lv) L true) (eg:e.drop[j]? = some g) (h5:g.level<5) (hw:WithoutR g (L g.level.toNat) l ok):RefT s e (cF dV (e.drop.take (j+1)) s.lv) (cW L g.level.toNat l) ok:=by
 rcases h with ⟨_,h1,h2⟩ | ⟨h,_⟩
 ·rcases hw with ⟨rfl,_,hn⟩ | ⟨rfl,k,hk,_,rfl⟩
  ·exact .inr ⟨rfl,sL (qK eg h2 (aMb hn))⟩
  ·exact .inl ⟨rfl,h1,gW eg h2 (aMc h5 hk)⟩
 ·cases h
theorem aLD {s:State} {e:Edit} {g:Gone} {j:Nat} {L L':bE} {f:Option bE} (h:RefT s e (cF dV (e.drop.take j) s.lv) L true) (eg:e.drop[j]? = some g) (h5:5≤g.level):RefT s e f L' false:=by
 rcases h with ⟨_,h1,h2⟩ | ⟨h,_⟩
 ·exact .inr ⟨rfl,sL (qK eg h2 (aFw h5))⟩
 ·cases h
theorem aHd {s:State} {e:Edit} (h:jA s e=true):e.add.length≤1024∧e.drop.length≤1024:=by
 unfold jA at h
 simp only [Bool.and_eq_true,decide_eq_true_eq] at h
 omega
theorem aLC {s:State} {e:Edit} {f:Option bE} {L:bE} (h:RefT s e f L true):e.add.length≤1024∧e.drop.length≤1024:=by
 rcases h with ⟨_,h,_⟩ | ⟨h,_⟩
 ·exact aHd h
 ·cases h
structure RefA (s:State) (e:Edit) (j:Nat) (L:bE) (ok:Bool):Prop where
 out:(ok=true∧jA s e=true∧∃ L1,cF dV e.drop s.lv=some L1∧cF pJ (e.add.take j) L1=some L)∨(ok=false∧fC s e=none)
theorem aLB {s:State} {e:Edit} {L:bE} {ok:Bool} (h:RefT s e (cF dV e.drop s.lv) L ok):RefA s e 0 L ok:=by
 rcases h with ⟨rfl,h1,h2⟩ | ⟨rfl,h⟩
 ·exact ⟨.inl ⟨rfl,h1,L,h2,rfl⟩⟩
 ·exact ⟨.inr ⟨rfl,h⟩⟩
theorem aE6 {s:State} {e:Edit} {j:Nat} {L:bE} (h:RefA s e j L true):e.add.length≤1024∧e.drop.length≤1024:=by
 rcases h.out with ⟨_,h,_⟩ | ⟨h,_⟩
 ·exact aHd h
 ·cases h
theorem RefA.add {s:State} {e:Edit} {m:Meta} {j:Nat} {L:bE} (h:RefA s e j L true) (em:e.add[j]? = some m) (h5:m.level<5):RefA s e (j+1) (cW L m.level.toNat (kK (iX m.level) (L m.level.toNat) m)) true:=by
 rcases h.out with ⟨_,h1,L1,h2,h3⟩ | ⟨h,_⟩
 ·exact ⟨.inl ⟨rfl,h1,L1,h2,gW em h3 (aNI h5)⟩⟩
 ·cases h
theorem aLA {s:State} {e:Edit} {m:Meta} {j:Nat} {L L':bE} (h:RefA s e j L true) (em:e.add[j]? = some m) (h5:5≤m.level):RefA s e (j+1) L' false:=by
 rcases h.out with ⟨_,h1,L1,h2,h3⟩ | ⟨h,_⟩
 ·exact ⟨.inr ⟨rfl,aFJ h2 ((aCd (L':=L1)).2 (qK em h3 (aNH h5)))⟩⟩
 ·cases h
theorem RefA.end' {s:State} {e:Edit} {j:Nat} {L:bE} (h:RefA s e j L true) (hr:RightP s) (hm:∀ m∈e.add,0≤m.level) (hj:e.add.length≤j):∃ L1 L2,cF dV e.drop s.lv=some L1∧cF fX e.add L1=some L2∧fC s e=rK (fF e (gN L2))∧EqS (fF e L) (fF e (gN L2)):=by
 rcases h.out with ⟨_,h1,L1,h2,h3⟩ | ⟨h,_⟩
 ·rw [List.take_of_length_le hj] at h3
  obtain ⟨L2,h4⟩:=aNO h3
  exact ⟨L1,L2,h2,h4,aCe h1 h2 h4,fun i hi=>aNP hr h2 h4 hm h3 hi,rfl,rfl,rfl,rfl,rfl⟩
 ·cases h
theorem RefA.no {s:State} {e:Edit} {j:Nat} {L:bE} (h:RefA s e j L false):fC s e=none:=by
 rcases h.out with ⟨h,_⟩ | ⟨_,h⟩
 ·cases h
 ·exact h
theorem aR2 {Lf:bE} {q:Nat} {l:List Meta} {N:Nat} (h:∀ i,i<5→(Lf i).length≤N) (hl:l.length≤(Lf q).length):∀ i,i<5→(cW Lf q l i).length≤N:=by
 intro i hi
 by_cases e:i=q
 ·subst e; rw [pZ]; exact Nat.le_trans hl (h i hi)
 ·rw [pY e]; exact h i hi
theorem aR4 {Lf:bE} {g:Gone} {l:List Meta} {ok:Bool} (h:∀ i,i<5→∀ m∈Lf i,m.wf) (hw:WithoutR g (Lf g.level.toNat) l ok):∀ i,i<5→∀ m∈cW Lf g.level.toNat l i,m.wf:=by
 intro i hi m hm
 by_cases e:i=g.level.toNat
 ·subst e
  rw [pZ] at hm
  rcases hw with ⟨_,rfl,_⟩ | ⟨_,k,_,_,rfl⟩
  ·cases hm
  ·rcases List.mem_append.1 hm with hm | hm
   ·exact h _ hi m (List.mem_of_mem_take hm)
   ·exact h _ hi m (List.mem_of_mem_drop hm)
 ·rw [pY e] at hm; exact h i hi m hm
theorem aR1 {Lf:bE} {q:Nat} {N:Nat} {lt:Meta→Meta→Bool} {m:Meta} (h:∀ i,i<5→(Lf i).length≤N):∀ i,i<5→(cW Lf q (kK lt (Lf q) m) i).length≤N+1:=by
 intro i hi
 by_cases e:i=q
 ·subst e
  rw [pZ,(aDH _ _).length_eq,List.length_append]
  have:=h i hi
  simp; omega
 ·rw [pY e]; have:=h i hi; omega
theorem aNS {Lf:bE} {q:Nat} {lt:Meta→Meta→Bool} {m:Meta} (h:∀ i,i<5→∀ m∈Lf i,m.wf) (hm:m.wf):∀ i,i<5→∀ x∈cW Lf q (kK lt (Lf q) m) i,x.wf:=by
 intro i hi x hx
 by_cases e:i=q
 ·subst e
  rw [pZ,(aDH _ _).mem_iff,List.mem_append,List.mem_singleton] at hx
  rcases hx with hx|rfl
  ·exact h i hi x hx
  ·exact hm
 ·rw [pY e] at hx; exact h i hi x hx
theorem aRD {G:PM} {e:Edit} {L:bE} {S:nK} (h:LvR G S L 5) (hl:∀ i,i<5→(L i).length≤1000000) (hw:∀ i,i<5→∀ m∈L i,m.wf):StR G (fF e L) S:=⟨h.lv,fun i hi=>by have:=hl i hi; show (L i).length*112≤_; omega,hw⟩
theorem aPt {s:State} {e:Edit} {j:Nat} {L:bE} {ok:Bool} (hr:RightP s) (h:RefA s e j L ok) (hm:∀ m∈e.add,0≤m.level) (hj:ok=true→e.add.length≤j) (hc:(!ok || !fG (fF e L))=true):fC s e=none:=by
 cases ok with
 | false=>exact h.no
 | true =>
  obtain ⟨L1,L2,_,_,h3,h4⟩:=h.end' hr hm (hj rfl)
  rw [h3]
  exact aFa h4 (by simpa using hc)
theorem aPu {s:State} {e:Edit} {j:Nat} {L:bE} {ok:Bool} (hr:RightP s) (h:RefA s e j L ok) (hm:∀ m∈e.add,0≤m.level) (hj:ok=true→e.add.length≤j) (hc:(!ok || !fG (fF e L))=false):∃ Y,fC s e=some Y∧EqS (fF e L) Y:=by
 cases ok with
 | false=>cases hc
 | true =>
  obtain ⟨L1,L2,_,_,h3,h4⟩:=h.end' hr hm (hj rfl)
  exact ⟨_,by rw [h3]; exact aFZ h4 (by simpa using hc),h4⟩
noncomputable def zO (a b:State):Bool:=B (((List.range 5).map fun i=>Value.int .u64 (a.gens i))=(List.range 5).map fun i=>Value.int .u64 (b.gens i))
theorem aMk {a b:State}:zO a b=true↔((List.range 5).map fun i=>Value.int .u64 (a.gens i))=(List.range 5).map fun i=>Value.int .u64 (b.gens i):=yD
noncomputable def xN (a b:State):Bool:=B (∀ i,i<5→nB (a.lv i) (b.lv i)=true)&&((((a.log == b.log)&&(a.next == b.next))&&(a.seq == b.seq))&&zO a b)
theorem aQg {a b:State} {i:Nat} (hi:i<5) (h:nB (a.lv i) (b.lv i)=false):xN a b=false:=by
 unfold xN
 rw [show B (∀ i,i<5→nB (a.lv i) (b.lv i)=true)=false from aCF fun hc=>by have:=hc i hi; rw [h] at this; cases this]; rfl
theorem aIm {a b:State} (h:∀ i,i<5→nB (a.lv i) (b.lv i)=true):xN a b=((((a.log == b.log)&&(a.next == b.next))&&(a.seq == b.seq))&&zO a b):=by
 unfold xN
 rw [show B (∀ i,i<5→nB (a.lv i) (b.lv i)=true)=true from aCG h]; rfl
theorem aQh {a b:State} (h:EqS a b):xN a b=true:=by
 rw [aIm fun i hi=>by rw [h.lv i hi]; exact aQd _,h.log,h.next,h.seq,show zO a b=true from aCG (by rw [h.gens])]
 simp
theorem EqS.trans {X Y Z:State} (h:EqS X Y) (h':EqS Y Z):EqS X Z:=⟨fun i hi=>(h.lv i hi).trans (h'.lv i hi),h.log.trans h'.log,h.next.trans h'.next,h.seq.trans h'.seq,h.least.trans h'.least,h.gens.trans h'.gens⟩
def StW (s:State):Prop:=(u64 s.log∧u64 s.next∧u64 s.seq∧u64 s.least)∧∀ i,i<5→u64 (s.gens i)
theorem aGR {s:State} (h:∀ i,i<5→u64 (s.gens i)):Conf aGQ ((List.range 5).map fun i=>Value.int .u64 (s.gens i)):=by
 have:=aCH (k:=.int .u64) (f:=fun i=>Value.int .u64 (s.gens i)) (List.range 5) (fun i hi=>by
  have hr:=h i (List.mem_range.1 hi)
  unfold u64 at hr
  refine .int ?_ ?_
  all_goals (simp only [IntKind.min,IntKind.max,IntKind.bits,IntKind.signed]; simp; omega))
 rw [List.length_range] at this
 exact this
theorem StW.zero:∀ i,i<5→u64 (State.zero.gens i):=fun _ _=>⟨show (0:Int)≤0 by decide,show (0:Int)<18446744073709551616 by decide⟩
theorem aBA {s:State} {e:Edit} {Y:State} (h:fC s e=some Y):jA s e=true∧fG Y=true∧∃ L1 L2,cF dV e.drop s.lv=some L1∧cF fX e.add L1=some L2∧Y=fF e (gN L2):=by
 unfold fC at h
 split at h
 ·rename_i hk
  cases hd:cF dV e.drop s.lv with
  | none=>rw [hd] at h; cases h
  | some L1 =>
   rw [hd] at h
   simp only [Option.bind_some] at h
   cases ha:cF fX e.add L1 with
   | none=>rw [ha] at h; cases h
   | some L2 =>
    rw [ha] at h
    simp only [Option.bind_some] at h
    unfold rK at h
    split at h
    ·rename_i hr
     cases h
     exact ⟨hk,hr,L1,L2,rfl,ha,rfl⟩
    ·cases h
 ·cases h
def cH (r:List Y):Nat:=(r.getD 4 0).toNat+256*(r.getD 5 0).toNat
def eO (kind:Y) (n:Nat) (begun:Bool):Bool :=
 if kind=1#8 then begun else if kind=2#8 then begun||decide (n<128) else if kind=3#8 then !begun||decide (n<128) else if kind=4#8 then !begun else true
def dT (op:Nat→List Y→Option (List Y)) (tot:Nat) (r parts:List Y) (recs:List (List Y)) (used:Nat):Option (List (List Y)×Nat) :=
 if h7:r.length<7 then some (recs,used)
 else if cH r=0∨128<cH r then none
 else if h:r.length<7+cH r then some (recs,used)
 else if dG (r.getD 6 0) ((r.drop 7).take (cH r))≠r.take 7∨eO (r.getD 6 0) (cH r) (!parts.isEmpty)=true then none
 else if r.getD 6 0=1#8∨r.getD 6 0=4#8 then
  match op recs.length (parts++(r.drop 7).take (cH r)) with
  | none=>none
  | some x=>dT op tot (r.drop (7+cH r)) [] (recs++[x]) (tot-(r.drop (7+cH r)).length)
 else dT op tot (r.drop (7+cH r)) (parts++(r.drop 7).take (cH r)) recs used
termination_by r.length
decreasing_by all_goals (simp only [List.length_drop]; omega)
section
variable {op:Nat→List Y→Option (List Y)} {tot:Nat} {r parts:List Y} {recs:List (List Y)} {used:Nat}
theorem aAF (h:r.length<7):dT op tot r parts recs used=some (recs,used):=by rw [dT,dif_pos h]
theorem aAE (h:¬ r.length<7) (hn:cH r=0∨128<cH r):dT op tot r parts recs used=none:=by rw [dT,dif_neg h,if_pos hn]
theorem aBq (h:¬ r.length<7) (hn:¬ (cH r=0∨128<cH r)) (ht:r.length<7+cH r):dT op tot r parts recs used=some (recs,used):=by rw [dT,dif_neg h,if_neg hn,dif_pos ht]
theorem xD (h:¬ r.length<7) (hn:¬ (cH r=0∨128<cH r)) (ht:¬ r.length<7+cH r) (hf:dG (r.getD 6 0) ((r.drop 7).take (cH r))≠r.take 7∨eO (r.getD 6 0) (cH r) (!parts.isEmpty)=true):dT op tot r parts recs used=none:=by
 rw [dT,dif_neg h,if_neg hn,dif_neg ht,if_pos hf]
theorem aDu (h:¬ r.length<7) (hn:¬ (cH r=0∨128<cH r)) (ht:¬ r.length<7+cH r) (hf:¬ (dG (r.getD 6 0) ((r.drop 7).take (cH r))≠r.take 7∨eO (r.getD 6 0) (cH r) (!parts.isEmpty)=true)) (hk:¬ (r.getD 6 0=1#8∨r.getD 6 0=4#8)) :
  dT op tot r parts recs used=dT op tot (r.drop (7+cH r)) (parts++(r.drop 7).take (cH r)) recs used:=by
 conv=>lhs; rw [dT,dif_neg h,if_neg hn,dif_neg ht,if_neg hf,if_neg hk]
theorem aDw {x:List Y} (h:¬ r.length<7) (hn:¬ (cH r=0∨128<cH r)) (ht:¬ r.length<7+cH r) (hf:¬ (dG (r.getD 6 0) ((r.drop 7).take (cH r))≠r.take 7∨eO (r.getD 6 0) (cH r) (!parts.isEmpty)=true)) (hk:r.getD 6 0=1#8∨r.getD 6 0=4#8) (hx:op recs.length (parts++(r.drop 7).take (cH r))=some x) :
  dT op tot r parts recs used=dT op tot (r.drop (7+cH r)) [] (recs++[x]) (tot-(r.drop (7+cH r)).length):=by
 conv=>lhs; rw [dT,dif_neg h,if_neg hn,dif_neg ht,if_neg hf,if_pos hk,hx]
theorem aH5 (h:¬ r.length<7) (hn:¬ (cH r=0∨128<cH r)) (ht:¬ r.length<7+cH r) (hf:¬ (dG (r.getD 6 0) ((r.drop 7).take (cH r))≠r.take 7∨eO (r.getD 6 0) (cH r) (!parts.isEmpty)=true)) (hk:r.getD 6 0=1#8∨r.getD 6 0=4#8) (hx:op recs.length (parts++(r.drop 7).take (cH r))=none) :
  dT op tot r parts recs used=none:=by
 rw [dT,dif_neg h,if_neg hn,dif_neg ht,if_neg hf,if_pos hk,hx]
theorem aBP {n:BitVec 64} {m j:Nat} (h:j<m):(dO n m)[j]? = some ((n >>> (8*j)).setWidth 8):=by simp [dO,h]
theorem aMv (kind:Y) (p:List Y):(dG kind p)[4]? = some ((BitVec.ofInt 64 (p.length:Int)).setWidth 8):=by
 unfold dG
 rw [List.append_assoc,List.getElem?_append_right (by simp [fI]),fI,List.getElem?_append_left (by simp [fI]),aBP (by decide)]; simp
theorem aMw (kind:Y) (p:List Y):(dG kind p)[5]? = some ((BitVec.ofInt 64 (p.length:Int) >>> 8).setWidth 8):=by
 unfold dG
 rw [List.append_assoc,List.getElem?_append_right (by simp [fI]),fI,List.getElem?_append_left (by simp [fI]),aBP (by decide)]
theorem aMx (kind:Y) (p:List Y):(dG kind p)[6]? = some kind:=by
 unfold dG
 rw [List.getElem?_append_right (by simp [fI])]; simp [fI]
theorem aBT {xs:List Y} {j:Nat} {y:Y} (h:xs[j]? = some y):xs.getD j 0=y:=by rw [List.getD_eq_getElem?_getD,h]; rfl
theorem aHn {r:List Y} {kind:Y} {p:List Y} (h4:r[4]? = (dG kind p)[4]?) (h5:r[5]? = (dG kind p)[5]?) (hp:p.length≤128):cH r=p.length:=by
 unfold cH
 rw [aMv] at h4
 rw [aMw] at h5
 rw [aBT h4,aBT h5]
 have e:BitVec.ofInt 64 (p.length:Int)=BitVec.ofNat 64 p.length:=by simp
 rw [e]
 simp only [BitVec.toNat_setWidth,BitVec.toNat_ushiftRight,BitVec.toNat_ofNat,Nat.shiftRight_eq_div_pow]
 omega
theorem aHm {kind:Y} {p t:List Y} (hp:p.length≤128):cH (dG kind p++p++t)=p.length :=
 aHn (kind:=kind) (p:=p) (by rw [List.append_assoc,List.getElem?_append_left (by rw [kY]; decide)]) (by rw [List.append_assoc,List.getElem?_append_left (by rw [kY]; decide)]) hp
theorem aBY {kind:Y} {p t:List Y}:(dG kind p++p++t).getD 6 0=kind :=
 aBT (by rw [List.append_assoc,List.getElem?_append_left (by rw [kY]; decide),aMx])
theorem aJL {kind:Y} {p t:List Y}:(dG kind p++p++t).take 7=dG kind p:=by
 rw [List.append_assoc,List.take_left' (kY _ _)]
theorem aB7 {kind:Y} {p t:List Y}:((dG kind p++p++t).drop 7).take p.length=p:=by
 rw [List.append_assoc,List.drop_left' (kY _ _),List.take_left]
theorem aFx {kind:Y} {p t:List Y}:(dG kind p++p++t).drop (7+p.length)=t:=by
 rw [List.drop_left' (by rw [List.length_append,kY])]
theorem aGW {kind:Y} {p t:List Y} (hp:p.length≤128) (h0:0<p.length) (hw:eO kind p.length (!parts.isEmpty)=false) (hk:¬ (kind=1#8∨kind=4#8)) :
  dT op tot (dG kind p++p++t) parts recs used=dT op tot t (parts++p) recs used:=by
 have hN:=aHm (kind:=kind) (t:=t) hp
 have hl:(dG kind p++p++t).length=7+p.length+t.length:=by rw [List.length_append,List.length_append,kY]
 have h:=aDu (op:=op) (tot:=tot) (r:=dG kind p++p++t) (parts:=parts) (recs:=recs) (used:=used) (by omega) (by omega) (by omega) (by rw [aBY,hN,aB7,aJL,hw]; simp) (by rw [aBY]; exact hk)
 rw [hN,aB7,aFx] at h
 exact h
theorem aPs {kind:Y} {p t x:List Y} (hp:p.length≤128) (h0:0<p.length) (hw:eO kind p.length (!parts.isEmpty)=false) (hk:kind=1#8∨kind=4#8) (hx:op recs.length (parts++p)=some x) :
  dT op tot (dG kind p++p++t) parts recs used=dT op tot t [] (recs++[x]) (tot-t.length):=by
 have hN:=aHm (kind:=kind) (t:=t) hp
 have hl:(dG kind p++p++t).length=7+p.length+t.length:=by rw [List.length_append,List.length_append,kY]
 have h:=aDw (op:=op) (tot:=tot) (r:=dG kind p++p++t) (parts:=parts) (recs:=recs) (used:=used) (x:=x) (by omega) (by omega) (by omega) (by rw [aBY,hN,aB7,aJL,hw]; simp) (by rw [aBY]; exact hk) (by rw [hN,aB7]; exact hx)
 rw [hN,aFx] at h
 exact h
theorem aRu {kind:Y} {p:List Y} {k:Nat} (hp:p.length≤128) (h0:0<p.length) (hk:k<7+p.length):dT op tot ((dG kind p++p).take k) parts recs used=some (recs,used):=by
 have hl:((dG kind p++p).take k).length=k:=by rw [List.length_take,List.length_append,kY]; omega
 by_cases h7:k<7
 ·exact aAF (by omega)
 ·have hN:cH ((dG kind p++p).take k)=p.length:=aHn (kind:=kind) (p:=p)
   (by rw [List.getElem?_take,if_pos (by omega),List.getElem?_append_left (by rw [kY]; decide)]) (by rw [List.getElem?_take,if_pos (by omega),List.getElem?_append_left (by rw [kY]; decide)]) hp
  exact aBq (by omega) (by omega) (by omega)
end
def pT (s:List Y) (j:Nat):List Y:=dG (qO s.length j) ((s.drop (128*j)).take 128)++(s.drop (128*j)).take 128
def kP (s:List Y):Nat→Nat→List Y
 | _,0=>[]
 | j,m+1=>pT s j++kP s (j+1) m
theorem aHh (s:List Y):∀ (m j:Nat),aAB s j++kP s j m=aAB s (j+m)
 | 0,j=>by simp [kP]
 | m+1,j=>by
  have:=aHh s m (j+1)
  rw [show j+(m+1)=j+1+m by omega,←this,kP,pT,aAB]
  simp only [List.append_assoc]
theorem aIN (s:List Y):mF s=kP s 0 ((s.length+127) / 128):=by
 have:=aHh s ((s.length+127) / 128) 0
 rw [Nat.zero_add] at this
 unfold mF
 rw [← this]; rfl
theorem aCu (s:List Y) (j:Nat):((s.drop (128*j)).take 128).length=min 128 (s.length-128*j):=by rw [List.length_take,List.length_drop]
theorem aOl (s:List Y) (j:Nat):(pT s j).length=7+min 128 (s.length-128*j):=by rw [pT,List.length_append,kY,aCu]
theorem aCt (s:List Y) (j:Nat):s.take (128*j)++(s.drop (128*j)).take 128=s.take (128*(j+1)):=by
 rw [show 128*(j+1)=128*j+128 by omega,List.take_add]
theorem aCk {s:List Y} {j:Nat} (h:128*j<s.length):(!(s.take (128*j)).isEmpty)=decide (0<j):=by
 cases j with
 | zero=>simp
 | succ j =>
  have:(s.take (128*(j+1))).isEmpty=false:=by
   cases hq:s.take (128*(j+1)) with
   | nil =>
    have:=congrArg List.length hq
    rw [List.length_take,List.length_nil] at this
    omega
   | cons a l=>rfl
  rw [this]; simp
theorem aDy {n j m:Nat} (hj:128*j<n) (hm:m=min 128 (n-128*j)):eO (qO n j) m (decide (0<j))=false:=by
 unfold qO
 by_cases h0:j=0
 ·subst h0
  by_cases hn:n≤128
  ·rw [if_pos rfl,if_pos hn]; simp [eO]
  ·rw [if_pos rfl,if_neg hn]; simp [eO]; omega
 ·by_cases hn:n-128*j≤128
  ·rw [if_neg h0,if_pos hn]; simp [eO]; omega
  ·rw [if_neg h0,if_neg hn]; simp [eO]; omega
theorem aDM {n j:Nat}:(qO n j=1#8∨qO n j=4#8)↔n-128*j≤128:=by
 unfold qO
 by_cases h0:j=0
 ·subst h0
  by_cases hn:n≤128
  ·rw [if_pos rfl,if_pos hn]; simp; omega
  ·rw [if_pos rfl,if_neg hn]; simp; omega
 ·by_cases hn:n-128*j≤128
  ·rw [if_neg h0,if_pos hn]; simp; omega
  ·rw [if_neg h0,if_neg hn]; simp; omega
section
variable {op:Nat→List Y→Option (List Y)} {tot:Nat} {recs:List (List Y)} {used:Nat} {s:List Y}
theorem aIL {x t:List Y} (hx:op recs.length s=some x):∀ (m j:Nat),128*j<s.length→j+m=(s.length+127) / 128 →
  dT op tot (kP s j m++t) (s.take (128*j)) recs used=dT op tot t [] (recs++[x]) (tot-t.length)
 | 0,j,h1,h2=>by omega
 | m+1,j,h1,h2=>by
  have hl:=aCu s j
  rw [kP,pT,List.append_assoc]
  by_cases hk:s.length-128*j≤128
  ·have hm:m=0:=by omega
   subst hm
   have:=aPs (op:=op) (tot:=tot) (recs:=recs) (used:=used) (parts:=s.take (128*j)) (kind:=qO s.length j) (p:=(s.drop (128*j)).take 128) (t:=kP s (j+1) 0++t) (x:=x)
    (by omega) (by omega) (by rw [aCk h1]; exact aDy h1 hl) (aDM.2 hk) (by rw [aCt,List.take_of_length_le (by omega)]; exact hx)
   rw [this]
   rfl
  ·have:=aGW (op:=op) (tot:=tot) (recs:=recs) (used:=used) (parts:=s.take (128*j)) (kind:=qO s.length j) (p:=(s.drop (128*j)).take 128) (t:=kP s (j+1) m++t)
    (by omega) (by omega) (by rw [aCk h1]; exact aDy h1 hl) (fun h=>hk (aDM.1 h))
   rw [this,aCt]
   exact aIL hx m (j+1) (by omega) (by omega)
theorem aPq {x t:List Y} (h0:0<s.length) (hx:op recs.length s=some x):dT op tot (mF s++t) [] recs used=dT op tot t [] (recs++[x]) (tot-t.length):=by
 rw [aIN]
 have:=aIL (op:=op) (tot:=tot) (used:=used) (t:=t) hx ((s.length+127) / 128) 0 (by omega) (by omega)
 simpa using this
theorem aFj:∀ (m j k:Nat),128*j<s.length→j+m=(s.length+127) / 128→k<(kP s j m).length →
  dT op tot ((kP s j m).take k) (s.take (128*j)) recs used=some (recs,used)
 | 0,j,k,h1,h2,h3=>by simp [kP] at h3
 | m+1,j,k,h1,h2,h3=>by
  have hl:=aCu s j
  have hp:=aOl s j
  rw [kP,List.length_append] at h3
  rw [kP]
  by_cases hk:k<(pT s j).length
  ·rw [List.take_append_of_le_length (by omega),pT]
   exact aRu (by omega) (by omega) (by omega)
  have hm:¬ s.length-128*j≤128:=fun hc=>by
   have:m=0:=by omega
   subst this
   simp [kP] at h3; omega
  rw [List.take_append,List.take_of_length_le (by omega),pT]
  have:=aGW (op:=op) (tot:=tot) (recs:=recs) (used:=used) (parts:=s.take (128*j)) (kind:=qO s.length j) (p:=(s.drop (128*j)).take 128) (t:=(kP s (j+1) m).take (k-(pT s j).length))
   (by omega) (by omega) (by rw [aCk h1]; exact aDy h1 hl) (fun h=>hm (aDM.1 h))
  rw [pT] at this
  rw [this,aCt]
  refine aFj m (j+1) _ (by omega) (by omega) ?_
  rw [← pT]; omega
theorem aMO {k:Nat} (hk:k<(mF s).length):dT op tot ((mF s).take k) [] recs used=some (recs,used):=by
 rw [aIN] at hk ⊢
 have h0:0<s.length:=by
  by_cases h:s.length=0
  ·rw [h] at hk; simp [kP] at hk
  ·omega
 have:=aFj (op:=op) (tot:=tot) (recs:=recs) (used:=used) ((s.length+127) / 128) 0 k (by omega) (by omega) hk
 simpa using this
end
def fY (sl:Nat→List Y→List Y):Nat→List (List Y)→List Y
 | _,[]=>[]
 | i,p :: ps=>mF (sl i p)++fY sl (i+1) ps
theorem aFS (sl:Nat→List Y→List Y):∀ (ps qs:List (List Y)) (i:Nat),fY sl i (ps++qs)=fY sl i ps++fY sl (i+ps.length) qs
 | [],qs,i=>by simp [fY]
 | p :: ps,qs,i=>by
  rw [List.cons_append,fY,fY,aFS sl ps qs (i+1),List.append_assoc,List.length_cons,show i+1+ps.length=i+(ps.length+1) by omega]
def jS (sl:Nat→List Y→List Y) (i:Nat) (rs:List (List Y)) (n:Nat):Nat:=(fY sl i (rs.take n)).length
theorem zN (sl:Nat→List Y→List Y) (i:Nat) (rs:List (List Y)):jS sl i rs 0=0:=by simp [jS,fY]
theorem aBN (sl:Nat→List Y→List Y) (i:Nat) (p:List Y) (rs:List (List Y)) (n:Nat):jS sl i (p :: rs) (n+1)=(mF (sl i p)).length+jS sl (i+1) rs n:=by simp [jS,fY]
theorem aF3 (sl:Nat→List Y→List Y) (i:Nat) (rs:List (List Y)):jS sl i rs rs.length=(fY sl i rs).length:=by simp [jS]
theorem aMj (sl:Nat→List Y→List Y) (i:Nat) (rs:List (List Y)) {m n:Nat} (h:m≤n):jS sl i rs m≤jS sl i rs n:=by
 unfold jS
 have:rs.take n=rs.take m++(rs.take n).drop m:=by
  have:=List.take_append_drop m (rs.take n)
  rw [List.take_take,Nat.min_eq_left h] at this
  exact this.symm
 rw [this,aFS,List.length_append]; omega
theorem aIK {op:Nat→List Y→Option (List Y)} {sl:Nat→List Y→List Y} {tot:Nat}:∀ (rs:List (List Y)) (recs:List (List Y)) (base k i:Nat),(∀ j p,rs[j]? = some p→op (i+j) (sl (i+j) p)=some p∧0<(sl (i+j) p).length) →
  recs.length=i→k≤(fY sl i rs).length→tot=base+k →
  ∃ n,n≤rs.length∧jS sl i rs n≤k∧(n<rs.length→k<jS sl i rs (n+1))∧dT op tot ((fY sl i rs).take k) [] recs base=some (recs++rs.take n,base+jS sl i rs n)
 | [],recs,base,k,i,_,hi,hk,ht=>by
  refine ⟨0,Nat.le_refl _,by rw [zN]; exact Nat.zero_le _,fun h=>absurd h (by simp),?_⟩
  rw [zN]
  simp only [fY,List.take_nil]
  rw [aAF (by simp)]; simp
 | p :: rs,recs,base,k,i,ho,hi,hk,ht=>by
  obtain ⟨hop,hpos⟩:=ho 0 p rfl
  rw [Nat.add_zero] at hop hpos
  have hlen:(fY sl i (p :: rs)).length=(mF (sl i p)).length+(fY sl (i+1) rs).length:=by rw [fY,List.length_append]
  rw [fY]
  by_cases hlt:k<(mF (sl i p)).length
  ·refine ⟨0,Nat.zero_le _,by rw [zN]; exact Nat.zero_le _,fun _=>by rw [Nat.zero_add,aBN,zN]; exact hlt,?_⟩
   rw [List.take_append_of_le_length (by omega),aMO hlt,zN]; simp
  rw [List.take_append,List.take_of_length_le (by omega),aPq (x:=p) hpos (by rw [hi]; exact hop)]
  have hl2:((fY sl (i+1) rs).take (k-(mF (sl i p)).length)).length=k-(mF (sl i p)).length:=by rw [List.length_take]; omega
  rw [hl2]
  obtain ⟨n,h1,h2,h3,h4⟩:=aIK (op:=op) (sl:=sl) (tot:=tot) rs (recs++[p]) (base+(mF (sl i p)).length) (k-(mF (sl i p)).length) (i+1)
   (fun j q hq=>by have:=ho (j+1) q hq; rwa [show i+(j+1)=i+1+j by omega] at this) (by simp [hi]) (by omega) (by omega)
  refine ⟨n+1,by simp; omega,by rw [aBN]; omega,fun h=>?_,?_⟩
  ·have:=h3 (by simpa using h)
   rw [aBN]; omega
  rw [show tot-(k-(mF (sl i p)).length)=base+(mF (sl i p)).length by omega,h4,aBN]
  simp [List.append_assoc,Nat.add_assoc]
section
variable {op:Nat→List Y→Option (List Y)} {tot:Nat} {recs:List (List Y)} {used:Nat} {s:List Y}
end
structure LogV where
 hd:Hd
 recs:List (List Y)
 used:Nat
 torn:Bool
def jX (root:Nat→Y) (h:Hd) (i:Nat) (s:List Y):Option (List Y):=oN (gX root (cC h)) (gY root (cC h)) (mX (BitVec.ofInt 64 (i:Int))) (cC h) s
def mH (root:Nat→Y) (h:Hd) (i:Nat) (p:List Y):List Y:=tG (gX root (cC h)) (gY root (cC h)) (mX (BitVec.ofInt 64 (i:Int))) (cC h) p
def sN (root:Nat→Y) (h:Hd) (xs:List Y):Option (List (List Y)×Nat):=dT (jX root h) xs.length (xs.drop 30) [] [] 30
def bW (root:Nat→Y) (xs:List Y):LogV×Int :=
 if xs.length<30 then (⟨Hd.zero,[],0,true⟩,0)
 else if (bY xs).2≠0 then (⟨Hd.zero,[],0,false⟩,(bY xs).2)
 else match sN root (bY xs).1 xs with
  | none=>(⟨Hd.zero,[],0,false⟩,160)
  | some (recs,used)=>(⟨(bY xs).1,recs,used,decide (used<xs.length)⟩,0)
theorem xH {root:Nat→Y} {xs:List Y} (h:xs.length<30):bW root xs=(⟨Hd.zero,[],0,true⟩,0):=by unfold bW; rw [if_pos h]
theorem xG {root:Nat→Y} {xs:List Y} (h:¬ xs.length<30) (he:(bY xs).2≠0):bW root xs=(⟨Hd.zero,[],0,false⟩,(bY xs).2):=by unfold bW; rw [if_neg h,if_pos he]
theorem mE {root:Nat→Y} {xs:List Y} (h:¬ xs.length<30) (he:(bY xs).2=0) (hb:sN root (bY xs).1 xs=none):bW root xs=(⟨Hd.zero,[],0,false⟩,160):=by unfold bW; rw [if_neg h,if_neg (fun k=>k he),hb]
theorem xI {root:Nat→Y} {xs:List Y} {recs:List (List Y)} {used:Nat} (h:¬ xs.length<30) (he:(bY xs).2=0) (hb:sN root (bY xs).1 xs=some (recs,used)):bW root xs=(⟨(bY xs).1,recs,used,decide (used<xs.length)⟩,0):=by unfold bW; rw [if_neg h,if_neg (fun k=>k he),hb]
theorem aEK (n:BitVec 64) (t:List Y):cE (dO n 8++t) 8=n:=by
 have key:∀ k,k≤8→∀ i,i<64→(cE (dO n 8++t) k).getLsbD i=(decide (i<8*k)&&n.getLsbD i):=by
  intro k
  induction k with
  | zero=>intro _ i _; simp [cE]
  | succ k ih =>
   intro hk i hi
   have hg:(dO n 8++t).getD k 0=(n >>> (8*k)).setWidth 8:=aBT (by rw [List.getElem?_append_left (by rw [fI]; omega),aBP (by omega)])
   rw [cE,BitVec.getLsbD_or,ih (by omega) i hi,hg]
   simp only [BitVec.getLsbD_shiftLeft,BitVec.getLsbD_setWidth,BitVec.getLsbD_ushiftRight,hi,decide_true,Bool.true_and]
   by_cases h1:i<8*k
   ·simp [h1,show i<8*(k+1) by omega]
   ·by_cases h2:i<8*(k+1)
    ·simp [h1,h2,show i-8*k<8 by omega,show i-8*k<64 by omega,show 8*k+(i-8*k)=i by omega]
    ·simp [h1,h2,show ¬ i-8*k<8 by omega]
 apply BitVec.eq_of_getLsbD_eq
 intro i hi
 rw [key 8 (Nat.le_refl _) i hi]
 simp [hi]
theorem aNF (h:Hd) (t:List Y):kJ (cC h++t)=h:=by
 have e:cC h++t=[116#8,97#8,110#8,116#8,h.kind,h.level]++(dO h.gen 8++(dO h.epoch 8++(dO h.num 8++t))):=by simp [cC]
 have d6:(cC h++t).drop 6=dO h.gen 8++(dO h.epoch 8++(dO h.num 8++t)):=by rw [e]; rfl
 have d14:(cC h++t).drop 14=dO h.epoch 8++(dO h.num 8++t):=by
  rw [show 14=6+8 by rfl,←List.drop_drop,d6,List.drop_left' (fI _ _)]
 have d22:(cC h++t).drop 22=dO h.num 8++t:=by
  rw [show 22=14+8 by rfl,←List.drop_drop,d14,List.drop_left' (fI _ _)]
 unfold kJ
 rw [d6,d14,d22,aEK,aEK,aEK]
 rw [e]
 rfl
theorem aJP (h:Hd) (t:List Y):bY (cC h++t)=if h.right=true then (h,0) else (Hd.zero,70):=by
 have hl:¬ (cC h++t).length<30:=by rw [List.length_append,lD]; omega
 have h4:(cC h++t).take 4=[116#8,97#8,110#8,116#8]:=by simp [cC]
 unfold bY
 rw [if_neg hl,aNF,h4]
 simp
theorem aQk (root:Nat→Y) (h:Hd) (i:Nat) (p:List Y):jX root h i (mH root h i p)=some p∧0<(mH root h i p).length:=by
 refine ⟨aOU _ _ _ _ _,?_⟩
 rw [mH,aIo]; omega
def fK (root:Nat→Y) (h:Hd) (rs:List (List Y)):List Y:=cC h++fY (mH root h) 0 rs
theorem aNh {root:Nat→Y} {h:Hd} (rs:List (List Y)) {k:Nat} (hr:h.right=true) (h30:30≤k) (hk:k≤(fK root h rs).length) :
  ∃ n,n≤rs.length∧30+jS (mH root h) 0 rs n≤k∧(n<rs.length→k<30+jS (mH root h) 0 rs (n+1)) ∧
   bW root ((fK root h rs).take k)=(⟨h,rs.take n,30+jS (mH root h) 0 rs n,decide (30+jS (mH root h) 0 rs n<k)⟩,0):=by
 have hlen:(fK root h rs).length=30+(fY (mH root h) 0 rs).length:=by rw [fK,List.length_append,lD]
 have e:(fK root h rs).take k=cC h++(fY (mH root h) 0 rs).take (k-30):=by
  rw [fK,List.take_append,List.take_of_length_le (by rw [lD]; exact h30),lD]
 have hl:((fK root h rs).take k).length=k:=by rw [List.length_take]; omega
 obtain ⟨n,h1,h2,h3,h4⟩:=aIK (op:=jX root h) (sl:=mH root h) (tot:=k) rs [] 30 (k-30) 0 (fun j p _=>aQk root h _ p) rfl (by omega) (by omega)
 refine ⟨n,h1,by omega,fun hn=>by have:=h3 hn; omega,?_⟩
 have ht:bY ((fK root h rs).take k)=(h,0):=by rw [e,aJP,if_pos hr]
 have hb:sN root (bY ((fK root h rs).take k)).1 ((fK root h rs).take k)=some (rs.take n,30+jS (mH root h) 0 rs n):=by
  unfold sN
  rw [hl,ht,e,List.drop_left' (lD h)]
  simpa using h4
 rw [xI (by omega) (by rw [ht]) hb,ht,hl]
theorem aG0 {root:Nat→Y} {h:Hd} (rs:List (List Y)) (hr:h.right=true):bW root (fK root h rs)=(⟨h,rs,(fK root h rs).length,false⟩,0):=by
 have hlen:(fK root h rs).length=30+(fY (mH root h) 0 rs).length:=by rw [fK,List.length_append,lD]
 obtain ⟨n,h1,h2,h3,h4⟩:=aNh (root:=root) (h:=h) rs (k:=(fK root h rs).length) hr (by omega) (Nat.le_refl _)
 have hn:n=rs.length:=by
  rcases Nat.lt_or_ge n rs.length with hlt | hge
  ·have:=h3 hlt
   have:=aMj (mH root h) 0 rs (show n+1≤rs.length by omega)
   rw [aF3] at this
   omega
  ·omega
 rw [List.take_length,hn,List.take_length,aF3,←hlen] at h4
 rw [h4]; simp
theorem aNi {root:Nat→Y} {h:Hd} (rs:List (List Y)) (hr:h.right=false):bW root (fK root h rs)=(⟨Hd.zero,[],0,false⟩,70):=by
 have hlen:(fK root h rs).length=30+(fY (mH root h) 0 rs).length:=by rw [fK,List.length_append,lD]
 have ht:bY (fK root h rs)=(Hd.zero,70):=by rw [fK,aJP,hr]; rfl
 rw [xG (by omega) (by rw [ht]; decide),ht]
def eK (enc mac:Nat→Y) (va:Value) (h:Hd) (vr:Value) (used:Int) (torn:Bool) (vp:Value):List Value :=
 ba 32 enc++ba 32 mac++[va,V h.kind,V h.level,uv .u64 h.gen,uv .u64 h.epoch,uv .u64 h.num,vr,.int .i64 used,.bool torn,vp]
section
variable {enc mac:Nat→Y} {va vr vp v:Value} {h:Hd} {used u:Int} {torn b:Bool}
theorem nS:(eK enc mac va h vr used torn vp).length=74:=by simp [eK,bT]
theorem iK:(ba 32 enc++ba 32 mac).length=64:=aDL enc mac
theorem aIC:((eK enc mac va h vr used torn vp).drop 0).take 64=ba 32 enc++ba 32 mac:=by rw [eK,List.drop_zero,List.take_left' iK]
theorem aIB:(eK enc mac va h vr used torn vp)[64]? = some va:=by rw [eK,List.getElem?_append_right (by rw [iK]; decide),iK]; rfl
theorem aBr:(eK enc mac va h vr used torn vp)[70]? = some vr:=by rw [eK,List.getElem?_append_right (by rw [iK]; decide),iK]; rfl
theorem aIE:(eK enc mac va h vr used torn vp)[71]? = some (.int .i64 used):=by rw [eK,List.getElem?_append_right (by rw [iK]; decide),iK]; rfl
theorem mD:(eK enc mac va h vr used torn vp)[73]? = some vp:=by rw [eK,List.getElem?_append_right (by rw [iK]; decide),iK]; rfl
theorem aIF:(eK enc mac va h vr used torn vp).set 70 v=eK enc mac va h v used torn vp:=by rw [eK,List.set_append_right _ _ (by rw [iK]; decide),iK]; rfl
theorem aPj:(eK enc mac va h vr used torn vp).set 71 (.int .i64 u)=eK enc mac va h vr u torn vp:=by rw [eK,List.set_append_right _ _ (by rw [iK]; decide),iK]; rfl
theorem aIG:(eK enc mac va h vr used torn vp).set 72 (.bool b)=eK enc mac va h vr used b vp:=by rw [eK,List.set_append_right _ _ (by rw [iK]; decide),iK]; rfl
theorem xE:(eK enc mac va h vr used torn vp).set 73 v=eK enc mac va h vr used torn v:=by rw [eK,List.set_append_right _ _ (by rw [iK]; decide),iK]; rfl
theorem aID:((eK enc mac va h vr used torn vp).drop 65).take 8=[V h.kind,V h.level,uv .u64 h.gen,uv .u64 h.epoch,uv .u64 h.num,vr,.int .i64 used,.bool torn]:=by
 rw [eK,List.drop_append,List.drop_of_length_le (by rw [iK]; decide),iK]; rfl
theorem aPh (h1:va.oneCell'=true) (h2:vr.oneCell'=true) (h3:vp.oneCell'=true):∀ u∈eK enc mac va h vr used torn vp,u.oneCell'=true:=by
 intro u hu
 rcases List.mem_append.1 hu with hu | hu
 ·exact wQ _ _ u hu
 ·simp only [List.mem_cons,List.not_mem_nil,or_false] at hu
  rcases hu with rfl|rfl|rfl|rfl|rfl|rfl|rfl|rfl|rfl|rfl<;>first|assumption|rfl
end
theorem aPd {zs A B Z:List Value} {v w:Value} (hz:zs=A++(Z++[w])) (hA:A.length=64) (hZ:Z.length=9) (f g:Nat→Y) (hB:B.length=8):put (put (put zs 0 (ba 32 f++ba 32 g)) 64 [v]) 65 B=ba 32 f++ba 32 g++(v :: B++[w]):=by
 subst hz
 have h64:(ba 32 f++ba 32 g).length=64:=aDL f g
 have e1:put (A++(Z++[w])) 0 (ba 32 f++ba 32 g)=(ba 32 f++ba 32 g)++(Z++[w]):=by
  unfold put; rw [List.take_zero,List.nil_append,h64,Nat.zero_add,List.drop_left' hA]
 rw [e1]
 generalize hK:ba 32 f++ba 32 g=K at h64 ⊢
 obtain ⟨z,Z',rfl⟩ : ∃ z Z',Z=z :: Z':=by cases Z with | nil=>cases hZ | cons z Z'=>exact ⟨z,Z',rfl⟩
 have hZ':Z'.length=8:=by simpa using hZ
 have e2:put (K++(z :: Z'++[w])) 64 [v]=K++(v :: Z'++[w]):=by
  unfold put
  rw [List.take_left' h64,List.drop_append,List.drop_of_length_le (by omega),h64]
  simp
 rw [e2]
 have e3:put (K++(v :: Z'++[w])) 65 B=K++(v :: B++[w]):=by
  unfold put
  have hv:K++(v :: Z'++[w])=(K++[v])++(Z'++[w]):=by simp
  have h65:(K++[v]).length=65:=by simp [h64]
  rw [hv,List.take_left' h65,List.drop_append,List.drop_of_length_le (by omega),h65,hB,List.drop_left' (by omega)]
  simp
 exact e3
theorem aPe {zs A B:List Value} {v w z0 z1 z2 z3 z4 z5 z6 z7 z8:Value} (hz:zs=A++[z0,z1,z2,z3,z4,z5,z6,z7,z8,w]) (hA:A.length=64) (f g:Nat→Y) (hB:B.length=8):put (put (put zs 0 (ba 32 f++ba 32 g)) 64 [v]) 65 B=ba 32 f++ba 32 g++(v :: B++[w]) :=
 aPd (Z:=[z0,z1,z2,z3,z4,z5,z6,z7,z8]) hz hA rfl f g hB
theorem aPf {zs A B:List Value} {v:Value} (hz:zs.length=74) (hA:A.length=64) (hB:B.length=8):uF zs.length [(0,64),(64,1),(65,8)] [A,[v],B]=true:=by
 simp [uF,hz,hA,hB]
theorem aII {f g:Nat→Y} {z0 z1 z2 z3 z4 z5 z6 z7 z8 w:Value}:(ba 32 f++ba 32 g++[z0,z1,z2,z3,z4,z5,z6,z7,z8,w]).length=74:=by
 rw [List.length_append,aDL]; rfl
def fN (op:Nat→List Y→Option (List Y)) (parts:List Y) (recs:List (List Y)) (kind:Y) (p:List Y):Option (List Y×List (List Y)) :=
 if eO kind p.length (!parts.isEmpty)=true then none
 else if kind=1#8∨kind=4#8 then (op recs.length (parts++p)).map (fun x=>([],recs++[x]))
 else some (parts++p,recs)
theorem vC {op:Nat→List Y→Option (List Y)} {tot:Nat} {r parts p:List Y} {recs:List (List Y)} {used n:Nat} (h:¬ r.length<7) (en:n=cH r) (hn:¬ (n=0∨128<n)) (ht:¬ r.length<7+n) (ep:p=(r.drop 7).take n) (hf:dG (r.getD 6 0) p=r.take 7) :
  dT op tot r parts recs used=match fN op parts recs (r.getD 6 0) p with
   | none=>none
   | some (a,b)=>dT op tot (r.drop (7+n)) a b (if a.isEmpty then tot-(r.drop (7+n)).length else used):=by
 subst en; subst ep
 have hpl:((r.drop 7).take (cH r)).length=cH r:=by rw [List.length_take,List.length_drop]; omega
 unfold fN
 rw [hpl]
 by_cases hw:eO (r.getD 6 0) (cH r) (!parts.isEmpty)=true
 ·rw [if_pos hw,xD h hn ht (.inr hw)]
 ·rw [if_neg hw]
  have hc:¬ (dG (r.getD 6 0) ((r.drop 7).take (cH r))≠r.take 7∨eO (r.getD 6 0) (cH r) (!parts.isEmpty)=true):=by
   rintro (h1 | h1)
   ·exact h1 hf
   ·exact hw h1
  by_cases hk:r.getD 6 0=1#8∨r.getD 6 0=4#8
  ·rw [if_pos hk]
   cases hx:op recs.length (parts++(r.drop 7).take (cH r)) with
   | none=>rw [aH5 h hn ht hc hk hx]; rfl
   | some x=>rw [aDw h hn ht hc hk hx]; rfl
  ·rw [if_neg hk,aDu h hn ht hc hk]
   have:(parts++(r.drop 7).take (cH r)).isEmpty=false:=by
    cases hq:parts++(r.drop 7).take (cH r) with
    | nil =>
     have:=congrArg List.length hq
     rw [List.length_append,hpl,List.length_nil] at this
     omega
    | cons a l=>rfl
   simp only [this]
   rfl
theorem aF0 {G:PM} {s:Sh} {parts:List Y} (hs:SlR G 1 aQ s parts) (h0:parts=[]→s=⟨none,0⟩):s.oa.isNone=parts.isEmpty:=by
 cases parts with
 | nil=>rw [h0 rfl]; rfl
 | cons a l=>rw [hs.there (by simp)]; rfl
theorem aRj {op:Nat→List Y→Option (List Y)} {parts p:List Y} {recs:List (List Y)} {kind:Y} (hk:kind=1#8) (hb:parts.isEmpty=false):fN op parts recs kind p=none:=by
 subst hk; unfold fN eO; simp [hb]
theorem aJM {op:Nat→List Y→Option (List Y)} {parts p:List Y} {recs:List (List Y)} {kind:Y} (hk:kind=2#8) (hb:parts.isEmpty=false∨p.length<128):fN op parts recs kind p=none:=by
 subst hk; unfold fN eO; rcases hb with hb | hb<;>simp [hb]
theorem aJR {op:Nat→List Y→Option (List Y)} {parts p:List Y} {recs:List (List Y)} {kind:Y} (hk:kind=3#8) (hb:parts.isEmpty=true∨p.length<128):fN op parts recs kind p=none:=by
 subst hk; unfold fN eO; rcases hb with hb | hb<;>simp [hb]
theorem aSN {op:Nat→List Y→Option (List Y)} {parts p:List Y} {recs:List (List Y)} {kind:Y} (hk:kind=4#8) (hb:parts.isEmpty=true):fN op parts recs kind p=none:=by
 subst hk; unfold fN eO; simp [hb]
theorem aRl {op:Nat→List Y→Option (List Y)} {parts p:List Y} {recs:List (List Y)} {kind:Y} (h1:¬ kind=1#8) (h2:¬ kind=2#8) (h3:¬ kind=3#8) (h4:¬ kind=4#8):fN op parts recs kind p=none:=by
 unfold fN eO; simp [h1,h2,h3,h4]
theorem aJN {op:Nat→List Y→Option (List Y)} {parts p:List Y} {recs:List (List Y)} {kind:Y} (hk:kind=2#8∧parts.isEmpty=true∨kind=3#8∧parts.isEmpty=false) (hp:¬ p.length<128):fN op parts recs kind p=some (parts++p,recs):=by
 rcases hk with ⟨rfl,hb⟩ | ⟨rfl,hb⟩<;>(unfold fN eO; simp [hb,hp])
theorem aB5 {op:Nat→List Y→Option (List Y)} {parts p:List Y} {recs:List (List Y)} {kind:Y} (hk:kind=1#8∧parts.isEmpty=true∨kind=4#8∧parts.isEmpty=false):fN op parts recs kind p=(op recs.length (parts++p)).map (fun x=>([],recs++[x])):=by
 rcases hk with ⟨rfl,hb⟩ | ⟨rfl,hb⟩<;>(unfold fN eO; simp [hb])
theorem fR {x:Y} {n:Nat} (hn:n<256):((x.toNat:Int)=(n:Int))↔x=BitVec.ofNat 8 n:=by
 constructor
 ·intro h
  apply BitVec.eq_of_toNat_eq
  rw [BitVec.toNat_ofNat]; omega
 ·intro h; rw [h,BitVec.toNat_ofNat,Nat.mod_eq_of_lt (by omega)]
theorem aGa {a b:Hd} (h:a.kind=b.kind∧a.level=b.level∧a.gen=b.gen∧a.epoch=b.epoch∧a.num=b.num):a=b:=by
 obtain ⟨a1,a2,a3,a4,a5⟩:=a
 obtain ⟨b1,b2,b3,b4,b5⟩:=b
 obtain ⟨h1,h2,h3,h4,h5⟩:=h
 simp only at h1 h2 h3 h4 h5
 subst h1 h2 h3 h4 h5
 rfl
instance:DecidableEq Hd:=fun a b=>decidable_of_iff (a.kind=b.kind∧a.level=b.level∧a.gen=b.gen∧a.epoch=b.epoch∧a.num=b.num) ⟨aGa,fun h=>by subst h; exact ⟨rfl,rfl,rfl,rfl,rfl⟩⟩
theorem aAT {k:IntKind} {x y:BitVec k.bits} (h:uv k x=uv k y):x=y:=by
 simp only [uv,Value.int.injEq,true_and] at h
 exact BitVec.eq_of_toNat_eq (by omega)
theorem aNC {a b:Hd}:decide (a=b)=true↔[V a.kind,V a.level,uv .u64 a.gen,uv .u64 a.epoch,uv .u64 a.num]=[V b.kind,V b.level,uv .u64 b.gen,uv .u64 b.epoch,uv .u64 b.num]:=by
 rw [decide_eq_true_eq]
 constructor
 ·intro h; rw [h]
 ·intro h
  simp only [List.cons.injEq,and_true] at h
  exact aGa ⟨aAT (k:=.u8) h.1,aAT (k:=.u8) h.2.1,aAT (k:=.u64) h.2.2.1,aAT (k:=.u64) h.2.2.2.1,aAT (k:=.u64) h.2.2.2.2⟩
theorem aGZ (a:Hd):Conf [.int .u8,.int .u8,.int .u64,.int .u64,.int .u64] [V a.kind,V a.level,uv .u64 a.gen,uv .u64 a.epoch,uv .u64 a.num]:=.u8 (.u8 (.u64 (.u64 (.u64 .nil))))
theorem pL {ps:List (Sh×List Y)} {k:Nat} {p:Sh×List Y} (h:ps[k]? = some p):(ps.map (·.2))[k]? = some p.2:=by rw [List.getElem?_map,h]; rfl
def pN (ys:List Y):Nat→Nat
 | 0=>0
 | k+1=>pN ys k+(ys.getD k 0).toNat*256^k
theorem aN4 (ys:List Y) (k:Nat):pN ys k<256^k:=by
 induction k with
 | zero=>simp [pN]
 | succ k ih =>
  have:=(ys.getD k 0).isLt
  rw [pN,Nat.pow_succ]
  have h1:(ys.getD k 0).toNat*256^k≤255*256^k:=Nat.mul_le_mul_right _ (by omega)
  omega
theorem aEL (ys:List Y):∀ k,k≤8→(cE ys k).toNat=pN ys k
 | 0,_=>rfl
 | k+1,hk=>by
  have ih:=aEL ys k (by omega)
  have hlt:=aN4 ys k
  have hb:=(ys.getD k 0).isLt
  have e256:(256:Nat)^k=2^(8*k):=by rw [Nat.pow_mul]
  have hp:(2:Nat)^(8*k)*256≤2^64:=by
   have:(2:Nat)^(8*k)*256=2^(8*k+8):=by rw [Nat.pow_add]
   rw [this]; exact Nat.pow_le_pow_right (by decide) (by omega)
  have hs:((ys.getD k 0).setWidth 64 <<< (8*k)).toNat=2^(8*k)*(ys.getD k 0).toNat:=by
   rw [BitVec.toNat_shiftLeft,BitVec.toNat_setWidth,Nat.mod_eq_of_lt (a:=(ys.getD k 0).toNat) (by omega),Nat.shiftLeft_eq,Nat.mul_comm,Nat.mod_eq_of_lt]
   have:2^(8*k)*(ys.getD k 0).toNat≤2^(8*k)*255:=Nat.mul_le_mul_left _ (by omega)
   have:0<2^(8*k):=Nat.two_pow_pos _
   omega
  rw [cE,BitVec.toNat_or,ih,hs,pN,e256]
  have h1:=Nat.two_pow_add_eq_or_of_lt (i:=8*k) (b:=pN ys k) (by rw [← e256]; exact hlt) (ys.getD k 0).toNat
  rw [show pN ys k ||| 2^(8*k)*(ys.getD k 0).toNat=2^(8*k)*(ys.getD k 0).toNat ||| pN ys k from Nat.or_comm _ _,←h1,Nat.mul_comm]; omega
def xW (ys:List Y):Nat→BitVec 64
 | 0=>0
 | k+1=>xW ys k*256#64+(ys.getD (7-k) 0).setWidth 64
def tL (ys:List Y):Nat→Nat
 | 0=>0
 | k+1=>tL ys k*256+(ys.getD (7-k) 0).toNat
theorem aRs (ys:List Y) (k:Nat):tL ys k<256^k:=by
 induction k with
 | zero=>simp [tL]
 | succ k ih =>
  have:=(ys.getD (7-k) 0).isLt
  rw [tL,Nat.pow_succ]; omega
theorem aJX (ys:List Y):∀ k,k≤8→(xW ys k).toNat=tL ys k
 | 0,_=>rfl
 | k+1,hk=>by
  have ih:=aJX ys k (by omega)
  have hlt:=aRs ys (k+1)
  have hp:(256:Nat)^(k+1)≤256^8:=Nat.pow_le_pow_right (by decide) hk
  have hb:=(ys.getD (7-k) 0).isLt
  rw [tL] at hlt
  rw [xW,tL,BitVec.toNat_add,BitVec.toNat_mul,ih,BitVec.toNat_setWidth,BitVec.toNat_ofNat]
  have e8:(256:Nat)^8=2^64:=rfl
  rw [e8] at hp
  omega
theorem aRt (ys:List Y):xW ys 8=cE ys 8:=by
 apply BitVec.eq_of_toNat_eq
 rw [aJX ys 8 (by decide),aEL ys 8 (by decide)]
 simp only [tL,pN,Nat.reduceSub,Nat.reducePow]
 omega
theorem aBQ {ys:List Y} (h:8≤ys.length):dO (cE ys 8) 8=ys.take 8:=by
 refine List.ext_getElem? fun j=>?_
 by_cases hj:j<8
 ·rw [aBP hj,List.getElem?_take,if_pos hj]
  have hjl:j<ys.length:=by omega
  rw [List.getElem?_eq_getElem hjl]
  congr 1
  have e:ys[j]=ys.getD j 0:=by simp [hjl]
  rw [e]
  apply BitVec.eq_of_toNat_eq
  rw [BitVec.toNat_setWidth,BitVec.toNat_ushiftRight,aEL ys 8 (by decide),Nat.shiftRight_eq_div_pow]
  have b0:=(ys.getD 0 0).isLt; have b1:=(ys.getD 1 0).isLt; have b2:=(ys.getD 2 0).isLt; have b3:=(ys.getD 3 0).isLt
  have b4:=(ys.getD 4 0).isLt; have b5:=(ys.getD 5 0).isLt; have b6:=(ys.getD 6 0).isLt; have b7:=(ys.getD 7 0).isLt
  simp only [pN,Nat.reducePow]
  match j,hj with
  | 0,_=>simp only [Nat.reduceMul,Nat.reducePow]; omega
  | 1,_=>simp only [Nat.reduceMul,Nat.reducePow]; omega
  | 2,_=>simp only [Nat.reduceMul,Nat.reducePow]; omega
  | 3,_=>simp only [Nat.reduceMul,Nat.reducePow]; omega
  | 4,_=>simp only [Nat.reduceMul,Nat.reducePow]; omega
  | 5,_=>simp only [Nat.reduceMul,Nat.reducePow]; omega
  | 6,_=>simp only [Nat.reduceMul,Nat.reducePow]; omega
  | 7,_=>simp only [Nat.reduceMul,Nat.reducePow]; omega
 rw [List.getElem?_eq_none (by rw [fI]; omega),List.getElem?_eq_none (by rw [List.length_take]; omega)]
theorem aNG {xs:List Y} (h:30≤xs.length):cC (kJ xs)=[116#8,97#8,110#8,116#8]++(xs.drop 4).take 26:=by
 have e4:(xs.drop 4).take 26=[xs.getD 4 0,xs.getD 5 0]++(xs.drop 6).take 8++(xs.drop 14).take 8++(xs.drop 22).take 8:=by
  have a1:(xs.drop 4).take 26=(xs.drop 4).take 2++((xs.drop 6).take 8++((xs.drop 14).take 8++(xs.drop 22).take 8)):=by
   rw [show 26=2+(8+(8+8)) from rfl,List.take_add,List.take_add,List.take_add]
   simp only [List.drop_drop]
  have a2:(xs.drop 4).take 2=[xs.getD 4 0,xs.getD 5 0]:=by
   refine List.ext_getElem? fun j=>?_
   match j with
   | 0=>simp [List.getElem?_take,List.getElem?_drop,show 4<xs.length by omega]
   | 1=>simp [List.getElem?_take,List.getElem?_drop,show 5<xs.length by omega]
   | j+2=>simp [List.getElem?_take]; omega
  rw [a1,a2]; simp only [List.append_assoc]
 rw [e4]
 unfold cC kJ
 simp only
 rw [aBQ (by simp; omega),aBQ (by simp; omega),aBQ (by simp; omega)]
 simp only [List.append_assoc,List.cons_append,List.nil_append]
theorem aGc {xs:List Y} (h:30≤xs.length):cC (kJ xs)=xs.take 30↔xs.take 4=[116#8,97#8,110#8,116#8]:=by
 rw [aNG h]
 have e:xs.take 30=xs.take 4++(xs.drop 4).take 26:=by rw [show 30=4+26 from rfl,List.take_add]
 rw [e]
 constructor
 ·intro hh; exact (List.append_inj hh (by simp; omega)).1.symm
 ·intro hh; rw [hh]
theorem aBW {xs L:List Y} (e:L=(xs.drop 6).take (30-6)):(⟨xs.getD 4 0,xs.getD 5 0,cE (L.drop 0) 8,cE (L.drop 8) 8,cE (L.drop 16) 8⟩ : Hd)=kJ xs:=by
 rw [← aBV e,List.drop_drop]; rfl
theorem kQ (xs:List Y) (a i:Nat):(xs.drop a).getD i 0=xs.getD (a+i) 0:=by simp [List.getD_eq_getElem?_getD,List.getElem?_drop]
theorem aSJ (kind:Y) (n:Nat) (b:Bool) (h1:¬ kind=1#8) (h2:¬ kind=2#8) (h3:¬ kind=3#8) (h4:¬ kind=4#8):eO kind n b=true:=by unfold eO; simp [h1,h2,h3,h4]
theorem aFk (n:Nat):decide ((n:Int)<128)=decide (n<128):=decide_eq_decide.2 (by omega)
theorem aOO {a b c:Value} (h1:a.oneCell'=true) (h2:b.oneCell'=true) (h3:c.oneCell'=true):∀ u∈[a,b,c],u.oneCell'=true:=by
 intro u hu
 simp only [List.mem_cons,List.not_mem_nil,or_false] at hu
 rcases hu with rfl|rfl|rfl<;>assumption
theorem aRr {α:Type} [DecidableEq α] (A B:α) (b:Bool):A≠B∨(A=B∧b=true)∨(A=B∧b=false):=by
 by_cases h:A=B
 ·cases b
  ·exact .inr (.inr ⟨h,rfl⟩)
  ·exact .inr (.inl ⟨h,rfl⟩)
 ·exact .inl h
theorem aJV {op:Nat→List Y→Option (List Y)} {parts p:List Y} {recs:List (List Y)} {kind:Y} {n:Nat} (hn:n=p.length) (hw:eO kind n (!parts.isEmpty)=true):fN op parts recs kind p=none:=by
 subst hn; unfold fN; rw [if_pos hw]
theorem aEG {op:Nat→List Y→Option (List Y)} {parts p:List Y} {recs:List (List Y)} {kind:Y} {n:Nat} (hn:n=p.length) (hw:eO kind n (!parts.isEmpty)=false) (hk:kind=1#8∨kind=4#8):fN op parts recs kind p=(op recs.length (parts++p)).map (fun x=>([],recs++[x])):=by
 subst hn; unfold fN; rw [if_neg (by rw [hw]; decide),if_pos hk]
theorem aRm {op:Nat→List Y→Option (List Y)} {parts p:List Y} {recs:List (List Y)} {kind:Y} {n:Nat} (hn:n=p.length) (hw:eO kind n (!parts.isEmpty)=false) (hk:¬ (kind=1#8∨kind=4#8)):fN op parts recs kind p=some (parts++p,recs):=by
 subst hn; unfold fN; rw [if_neg (by rw [hw]; decide),if_neg hk]
def nO (s:State):Edit:=⟨s.log,s.next,s.seq,s.least,s.gens,[],[]⟩
def lY (m:Meta):Edit:=⟨0,0,0,0,fun _=>0,[m],[]⟩
def sY (e:Edit):Dg:=wT (kU e)
def sZ (s:State):List Dg:=sY (nO s) :: (bZ s 5).map fun m=>sY (lY m)
def mG (s:State):Dg:=fV (sZ s)
theorem aND {X Y:State} (h:EqS X Y):nO X=nO Y:=by unfold nO; rw [h.log,h.next,h.seq,h.least,h.gens]
theorem aIP {X Y:State} (h:EqS X Y):mG X=mG Y:=by
 unfold mG sZ; rw [aND h,h.all 5 (Nat.le_refl _)]
def pV (mark:BitVec 64) (x:State) (e:Edit):List Y:=dO mark 8++yl 32 (mG x)++kU e
theorem aPr (mark:BitVec 64) (x:State) (e:Edit):((pV mark x e).drop 8).take 32=yl 32 (mG x):=by
 unfold pV; rw [List.append_assoc,List.drop_left' (fI _ _),List.take_left' (bK _ _)]
structure Mn where
 st:State
 mark:BitVec 64
 n:Nat
def Mn.zero:Mn:=⟨State.zero,0#64,0⟩
noncomputable def eW (m:Mn) (p:List Y):Option Mn :=
 if p.length<40 then none else (iU (p.drop 40)).bind fun e=>if cE p 8≤m.mark then none else (fC m.st e).bind fun x =>
  if yl 32 (mG x)=(p.drop 8).take 32 then some ⟨x,cE p 8,m.n+1⟩ else none
noncomputable def iC:List (List Y)→Mn→Option Mn
 | [],m=>some m
 | p :: ps,m=>(eW m p).bind (iC ps)
theorem aI5:∀ {ps:List (List Y)} {p:List Y} {m:Mn},iC (ps++[p]) m=(iC ps m).bind fun x=>eW x p
 | [],p,m=>by simp [iC]
 | q :: ps,p,m=>by
  simp only [List.cons_append,iC]
  cases eW m q with
  | none=>rfl
  | some x=>exact aI5
theorem aI3:∀ {ps qs:List (List Y)} {m:Mn},iC (ps++qs) m=(iC ps m).bind (iC qs)
 | [],qs,m=>rfl
 | q :: ps,qs,m=>by
  simp only [List.cons_append,iC]
  cases eW m q with
  | none=>rfl
  | some x=>exact aI3
theorem tI {ps:List (List Y)} {k:Nat} {p:List Y} {m:Mn} (h:ps[k]? = some p):iC (ps.take (k+1)) m=(iC (ps.take k) m).bind fun x=>eW x p:=by
 rw [List.take_add_one,h]; exact aI5
theorem xT {ps:List (List Y)} {k:Nat} {m:Mn} (h:iC (ps.take k) m=none):iC ps m=none:=by
 rw [← List.take_append_drop k ps,aI3,h]; rfl
theorem aIM {p:List Y} {e:Edit} {x:State} (h40:¬ p.length<40) (hd:iU (p.drop 40)=some e):pV (cE p 8) x e=p↔yl 32 (mG x)=(p.drop 8).take 32:=by
 constructor
 ·intro h; rw [← aPr (cE p 8) x e,h]
 ·intro h
  unfold pV
  rw [aBQ (by omega),h,(wL hd).1,List.append_assoc]
  have e1:p.drop 40=(p.drop 8).drop 32:=by rw [List.drop_drop]
  rw [e1,List.take_append_drop,List.take_append_drop]
section
variable {m:Mn} {p:List Y} {e:Edit} {x:State}
theorem aIz (h:p.length<40):eW m p=none:=by unfold eW; rw [if_pos h]
theorem aRG (h:¬ p.length<40) (hd:iU (p.drop 40)=none):eW m p=none:=by unfold eW; rw [if_neg h,hd]; rfl
theorem aRI (h:¬ p.length<40) (hm:cE p 8≤m.mark):eW m p=none:=by
 unfold eW; rw [if_neg h]
 cases iU (p.drop 40) with
 | none=>rfl
 | some e=>simp only [Option.bind_some]; rw [if_pos hm]
theorem aRE (h:¬ p.length<40) (hd:iU (p.drop 40)=some e) (ha:fC m.st e=none):eW m p=none:=by
 unfold eW; rw [if_neg h,hd]; simp only [Option.bind_some]
 split
 ·rfl
 ·rw [ha]; rfl
theorem aRJ (h:¬ p.length<40) (hd:iU (p.drop 40)=some e) (ha:fC m.st e=some x) (hr:¬ yl 32 (mG x)=(p.drop 8).take 32):eW m p=none:=by
 unfold eW; rw [if_neg h,hd]; simp only [Option.bind_some]
 split
 ·rfl
 ·rw [ha]; simp only [Option.bind_some]; rw [if_neg hr]
theorem aRH (h:¬ p.length<40) (hd:iU (p.drop 40)=some e) (hm:¬ cE p 8≤m.mark) (ha:fC m.st e=some x) (hr:yl 32 (mG x)=(p.drop 8).take 32):eW m p=some ⟨x,cE p 8,m.n+1⟩:=by
 unfold eW; rw [if_neg h,hd]; simp only [Option.bind_some]
 rw [if_neg hm,ha]; simp only [Option.bind_some]; rw [if_pos hr]
end
def Lq (L L':bE):Prop:=∀ i,i<5→L i=L' i
inductive OptR:Option bE→Option bE→Prop
 | none:OptR none none
 | some {L L':bE} (h:Lq L L'):OptR (some L) (some L')
theorem Lq.upd {L L':bE} {k:Nat} {l:List Meta} (h:Lq L L'):Lq (cW L k l) (cW L' k l):=fun i hi=>by
 by_cases e:i=k
 ·subst e; rw [pZ,pZ]
 ·rw [pY e,pY e,h i hi]
theorem aMa {g:Gone} {L L':bE} (h:Lq L L'):OptR (dV g L) (dV g L'):=by
 unfold dV
 by_cases h5:g.level<5
 ·rw [if_pos h5,if_pos h5,h g.level.toNat (by omega)]
  split
  ·exact .none
  ·exact .some h.upd
 ·rw [if_neg h5,if_neg h5]; exact .none
theorem aLM {m:Meta} {L L':bE} (h:Lq L L'):OptR (fX m L) (fX m L'):=by
 unfold fX
 by_cases h5:m.level<5
 ·rw [if_pos h5,if_pos h5,h m.level.toNat (by omega)]; exact .some h.upd
 ·rw [if_neg h5,if_neg h5]; exact .none
theorem aDA {β:Type} {f:β→bE→Option bE} (hf:∀ b L L',Lq L L'→OptR (f b L) (f b L')):∀ {bs:List β} {L L':bE},Lq L L'→OptR (cF f bs L) (cF f bs L')
 | [],L,L',h=>.some h
 | b :: bs,L,L',h=>by
  simp only [cF]
  have:=hf b L L' h
  revert this
  generalize f b L=x
  generalize f b L'=y
  intro hxy
  cases hxy with
  | none=>exact .none
  | some h2=>exact aDA hf h2
theorem aOL {s s':State} {e:Edit} (h:EqS s s'):jA s e=jA s' e:=by
 unfold jA qH; rw [h.log,h.next,h.seq,h.least,h.gens]
theorem aN0 {e:Edit} {L L':bE} (h:Lq L L'):EqS (fF e L) (fF e L'):=⟨h,rfl,rfl,rfl,rfl,rfl⟩
theorem aQ8 {L L':bE} (h:Lq L L'):Lq (gN L) (gN L'):=fun i hi=>by unfold gN; rw [h i hi]
theorem aFL {s s':State} {e:Edit} (h:EqS s s'):(fC s e=none∧fC s' e=none)∨∃ Z Z',fC s e=some Z∧fC s' e=some Z'∧EqS Z Z':=by
 unfold fC
 rw [aOL h]
 by_cases hk:jA s' e=true
 ·rw [if_pos hk,if_pos hk]
  have h1:=aDA (f:=dV) (fun b L L' h=>aMa h) (bs:=e.drop) h.lv
  revert h1
  generalize cF dV e.drop s.lv=x
  generalize cF dV e.drop s'.lv=y
  intro h1
  cases h1 with
  | none=>exact .inl ⟨rfl,rfl⟩
  | @some L1 L1' h1 =>
   simp only [Option.bind_some]
   have h2:=aDA (f:=fX) (fun b L L' h=>aLM h) (bs:=e.add) h1
   revert h2
   generalize cF fX e.add L1=x
   generalize cF fX e.add L1'=y
   intro h2
   cases h2 with
   | none=>exact .inl ⟨rfl,rfl⟩
   | @some L2 L2' h2 =>
    simp only [Option.bind_some]
    have h3:=aN0 (e:=e) (aQ8 h2)
    unfold rK
    rw [h3.right]
    split
    ·exact .inr ⟨_,_,rfl,rfl,h3⟩
    ·exact .inl ⟨rfl,rfl⟩
 ·rw [if_neg hk,if_neg hk]; exact .inl ⟨rfl,rfl⟩
theorem AppR.cg {s s':State} {e:Edit} {X:State} {r:Int} (h:EqS s s') (ha:AppR s e X r):AppR s' e X r:=by
 rcases ha with ⟨h1,h2,h3⟩ | ⟨h1,h2,h3⟩ | ⟨h1,h2,Z,h3,h4⟩
 ·exact .inl ⟨by rw [← h.right]; exact h1,h2,h3⟩
 ·refine .inr (.inl ⟨by rw [← h.right]; exact h1,?_,h3⟩)
  rcases aFL (e:=e) h with ⟨_,q⟩ | ⟨Z,Z',q,_⟩
  ·exact q
  rw [h2] at q; cases q
 refine .inr (.inr ⟨by rw [← h.right]; exact h1,h2,?_⟩)
 rcases aFL (e:=e) h with ⟨q,_⟩ | ⟨W,Z',q,q',h5⟩
 ·rw [h3] at q; cases q
 rw [h3] at q; cases q; exact ⟨Z',q',h4.trans h5⟩
theorem AppR.right {s:State} {e:Edit} {X:State} (h:AppR s e X 0):fG s=true∧∃ Z,fC s e=some Z∧EqS X Z∧fG Z=true∧fG X=true:=by
 rcases h with ⟨_,h,_⟩ | ⟨_,_,h,_⟩ | ⟨h1,_,Z,h3,h4⟩
 ·cases h
 ·cases h
 ·obtain ⟨_,h5,_⟩:=aBA h3
  exact ⟨h1,Z,h3,h4,h5,by rw [h4.right]; exact h5⟩
theorem aP2 {s:State} (h:fG s=true) {i:Nat} (hi:i<5):∀ m∈s.lv i,m.min.size≤1024∧m.max.size≤1024:=by
 intro m hm
 have hg:=(((vD h).lv _ hi).1 m hm).2
 unfold good at hg
 simp only [Bool.and_eq_true,decide_eq_true_eq] at hg
 exact ⟨by omega,by omega⟩
theorem Tr.cutRow {G0 G:PM} {K0:List Nat} {w0 w:World} {μ:aH} {b E sz m cap q:Nat} {xs:List Value} (h:Tr G0 K0 w0 G (.row (.slice (some ⟨b,0,none⟩) m cap) E sz m xs :: μ) w) (hq:q≤m) :
  Tr G0 K0 w0 G (.row (.slice (some ⟨b,0,none⟩) q cap) E sz q (xs.take (q*sz)) :: μ) w:=by
 have hk:keys (.row (.slice (some ⟨b,0,none⟩) q cap) E sz q (xs.take (q*sz)) :: μ)=keys (.row (.slice (some ⟨b,0,none⟩) m cap) E sz m xs :: μ):=by simp [keys,Res.keys,Value.ownBlock]
 have hrow:w.ownsRow 0 E sz (.slice (some ⟨b,0,none⟩) m cap) m xs:=h.sat.own _ (List.mem_cons_self ..)
 refine { h with sat:=⟨h.sat.sub,fun r hr=>?_,by rw [hk]; exact h.sat.apart,by rw [hk]; exact h.sat.nodup⟩,mine:=by rw [hk]; exact h.mine }
 rcases List.mem_cons.1 hr with rfl | hr
 ·have hl:=hrow.1
  have hqs:q*sz≤m*sz:=Nat.mul_le_mul_right _ hq
  rcases hrow.2 with ⟨e,_⟩ | ⟨g,cap',cur,e,h0,hg,hnc,hcm,hcs,htake⟩
  ·cases e
  simp only [Value.slice.injEq,Option.some.injEq,Addr.mk.injEq,and_true,true_and] at e
  obtain ⟨rfl,rfl⟩:=e
  refine ⟨by rw [List.length_take,hl,Nat.min_eq_left hqs],.inr ⟨b,cap,cur,rfl,h0,hg,by omega,hcm,hcs,?_⟩⟩
  rw [← htake,List.take_take,Nat.min_eq_left hqs]
 exact h.sat.own r (List.mem_cons_of_mem _ hr)
theorem aSC {α:Type} {enc:α→List Value} {sz:Nat} {X:Cx} {cd:Code} {k:List KI} {ρ:aO} {G:PM} {μ μ':aH} {b cap E:Nat} {xs:List α} (A B:List α) (hsz:∀ x∈xs,(enc x).length=sz) (hm:MTake μ (rS sz enc (.slice (some ⟨b,0,none⟩) xs.length cap) E xs) μ') (e:xs=A++B)
  (h:Wk X cd k ρ G (rS sz enc (.slice (some ⟨b,0,none⟩) A.length cap) E A :: μ')):Wk X cd k ρ G μ :=
 ⟨fun a w ha ht=>h.out a w ha (by
  subst e
  have:=(ht.perm hm.perm).cutRow (q:=A.length) (by rw [List.length_append]; omega)
  rw [← aC9 hsz,List.take_left] at this
  exact this)⟩
section
variable {dr:Bool} {mc:Md} {P:Program} {n:Nat} {l:List Oper} {K:aO→PM→aH→Prop} {i:Nat} {σ:List Nat} {ρ:aO} {G:PM} {μ:aH}
variable {d t:Nat} {p:String} {af:Array Edge} {g:Option (Nat×Bool)} {c:Bool}
theorem aLW (A:Nat):BitVec.ofNat 64 A &&& BitVec.ofNat 64 1=BitVec.ofNat 64 (A%2):=by
 apply BitVec.eq_of_toNat_eq
 rw [BitVec.toNat_and,BitVec.toNat_ofNat,BitVec.toNat_ofNat,BitVec.toNat_ofNat,show 1%2^64=1 from rfl,Nat.and_one_is_mod]
 omega
theorem an1 {T T':TypeId} {x y:Operand} {a1 a2:Int} (A:Nat) (ho:nth l i=some ⟨some d,.binOp .and T x y T',t,p,af,g⟩) (hg:Gd l ρ g c) (hx:Ev ρ c x (.int .i64 a1)) (hy:Ev ρ c y (.int .i64 a2)) (e1:a1=A) (e2:a2=1)
  (h:Wo dr mc P n l K σ ((d,c,.int .i64 ((A%2:Nat):Int)) :: ρ) G μ):Wo dr mc P n l K (i :: σ) ρ G μ :=
 .pure ho (.inl rfl) hg (fun hc q w ha=>by
  subst e1; subst e2
  have hb:(binOp .and T (.int .i64 (A:Int)) (.int .i64 1)).run P w=.ok (.int .i64 ((A%2:Nat):Int)) w:=by
   have e1:BitVec.ofInt 64 (A:Int)=BitVec.ofNat 64 A:=by simp
   have e2:BitVec.ofInt 64 (1:Int)=BitVec.ofNat 64 1:=rfl
   have h4:IntKind.i64.wrap ((BitVec.ofNat 64 (A%2)).toNat:Int)=((A%2:Nat):Int):=by
    rw [BitVec.toNat_ofNat,Nat.mod_eq_of_lt (by omega)]
    exact bO (by omega) (by omega)
   have h5:(Op.intBits .and .i64 (A:Int) 1)=pure (.int .i64 (IntKind.i64.wrap ((BitVec.ofInt 64 (A:Int) &&& BitVec.ofInt 64 (1:Int)).toNat:Int))):=rfl
   have h6:binOp .and T (.int .i64 (A:Int)) (.int .i64 1)=Op.intBits .and .i64 (A:Int) 1:=rfl
   rw [h6,h5,e1,e2,aLW,h4]; rfl
  simp only [execOp,hx.eval ha hc,hy.eval ha hc,Sem.run_bind,kX,Result.andThen_ok,hb]; rfl) h
end
def eN (S:List (Nat×Dg)):List Dg:=(S.map (·.2)).reverse
theorem xU (a:Nat) (r:Dg) (S:List (Nat×Dg)):eN ((a,r) :: S)=eN S++[r]:=by simp [eN]
theorem tJ (S:List (Nat×Dg)):(eN S).length=S.length:=by simp [eN]
def zD:Dg:=fun _=>0#8
theorem aEC (a:Nat) (r:Dg) (S:List (Nat×Dg)):(eN ((a,r) :: S)).getD S.length zD=r:=by
 rw [xU,List.getD_eq_getElem?_getD,List.getElem?_append_right (by rw [tJ]; omega),tJ,Nat.sub_self]; rfl
def qJ (d:Dg) (L:List Dg):Nat→Dg
 | 0=>d
 | j+1=>qJ (nP (L.getD j zD) d) L j
theorem aC7:∀ (j:Nat) (d x:Dg) (L:List Dg),j≤L.length→qJ d (L++[x]) j=qJ d L j
 | 0,_,_,_,_=>rfl
 | j+1,d,x,L,h=>by
  have e:(L++[x]).getD j zD=L.getD j zD:=by rw [List.getD_eq_getElem?_getD,List.getElem?_append_left (by omega),←List.getD_eq_getElem?_getD]
  simp only [qJ,e]; exact aC7 j _ x L (by omega)
theorem aMo {j:Nat} {d:Dg} {L:List Dg} (h:0<j):qJ d L j=qJ (nP (L.getD (j-1) zD) d) L (j-1):=by
 obtain ⟨i,rfl⟩ : ∃ i,j=i+1:=⟨j-1,by omega⟩
 rfl
theorem aRU {S S3:List (Nat×Dg)} {a:Nat} {s:Dg} (h:S=(a,s) :: S3):(eN S).getD ((eN S).length-1) zD=s:=by
 subst h; rw [tJ]; exact aEC a s S3
theorem aF8:∀ (S:List (Nat×Dg)) (d:Dg),qJ d (eN S) S.length=zP d S
 | [],d=>rfl
 | (a,r) :: S,d=>by
  simp only [List.length_cons,qJ,zP,aEC]
  rw [xU,aC7 _ _ _ _ (by rw [tJ]; exact Nat.le_refl _),aF8 S]
theorem aRT {S:List (Nat×Dg)} {L:List Dg} (h:Stk S L) (h0:0<L.length):0<(eN S).length∧fV L=qJ ((eN S).getD ((eN S).length-1) zD) (eN S) ((eN S).length-1):=by
 rw [tJ]
 match S,h with
 | [],h=>cases h; cases h0
 | (a,r) :: S,h =>
  refine ⟨Nat.succ_pos _,?_⟩
  rw [h.done,←aF8 S r]
  have e:((a,r) :: S).length-1=S.length:=rfl
  rw [e,aEC,xU,aC7 _ _ _ _ (by rw [tJ]; exact Nat.le_refl _)]
theorem aOm {S:List (Nat×Dg)} {d:Dg} {a q:Nat} {l:List Dg} (h:Pend S d a l) (eq:q=l.length / 2^a) (he:q%2=0):∃ s S',S=(a,s) :: S'∧Pend S' (nP s d) (a+1) l∧q / 2=l.length / 2^(a+1):=by
 subst eq; exact h.even he
theorem aOo {S:List (Nat×Dg)} {d:Dg} {a q:Nat} {l:List Dg} (h:Pend S d a l) (eq:q=l.length / 2^a) (he:¬ q%2=0):Stk ((a,d) :: S) l:=by
 subst eq; exact h.odd (by omega)
theorem aOp {S:List (Nat×Dg)} {d:Dg} {a q:Nat} {l:List Dg} (h:Pend S d a l) (eq:q=l.length / 2^a):0<q:=by
 obtain ⟨L,seg,hS,hl,hr,he',hb⟩:=h.out
 subst eq
 exact Nat.div_pos (by rw [← he',List.length_append,hl]; omega) (Nat.pow_pos (by decide))
theorem aOn {S:List (Nat×Dg)} {d:Dg} {a:Nat} {l:List Dg} (h:Pend S d a l):S.length≤l.length:=by
 obtain ⟨L,seg,hS,hl,hr,he',hb⟩:=h.out
 have:=hS.short
 rw [← he',List.length_append]; omega
end Go.Tan
namespace Go.Proofs.YtdeobooblmjlfaaGreatDoor
open Go.Tan Go.RowKit
theorem aNb {G:PM} {b7 b9 T7 T9:Nat} {kind:Y} {h:Sh} {p:List Y} (hle:PM.le G ((G.add b7 (cl [V kind] T7)).add b9 (cl [.slice (some ⟨b7,0,none⟩) 1 1,h.val p.length] T9))) (hq:PM.le (G.add b7 (cl [V kind] T7)) ((G.add b7 (cl [V kind] T7)).add b9 (cl [.slice (some ⟨b7,0,none⟩) 1 1,h.val p.length] T9))) (hs:SlR G 1 aQ h p) (hK:RdNP G 1 0 (wa 64 kW)) (hl:p.length≤100000000000000) :
  Ct Tryz.prog 102 ([.slice (some ⟨b9,0,none⟩) 2 2]:List Value).toArray ((G.add b7 (cl [V kind] T7)).add b9 (cl [.slice (some ⟨b7,0,none⟩) 1 1,h.val p.length] T9)) [] (fun _ μ' u=>μ'=[]∧u=.agg (ba 32 (gM (kind :: p))).toArray):=by
 have h1:SlR (G.add b7 (cl [V kind] T7)) 1 aQ ⟨some ⟨b7,0,none⟩,1⟩ [kind]:=lR (T:=T7) (gI _ _ _) (fun _ _=>rfl) (by simp)
 have hP:SlP ((G.add b7 (cl [V kind] T7)).add b9 (cl [.slice (some ⟨b7,0,none⟩) 1 1,h.val p.length] T9)) ⟨some ⟨b9,0,none⟩,2⟩ [(⟨some ⟨b7,0,none⟩,1⟩,[kind]),(h,p)] :=
  ⟨lR (T:=T9) (gI _ _ _) (fun _ _=>rfl) (by simp),fun q hq'=>by
   rcases List.mem_cons.1 hq' with rfl | hq'
   ·exact h1.mono hq
   ·rw [List.mem_singleton.1 hq']; exact hs.mono hle⟩
 have hh:=aAM _ ⟨some ⟨b9,0,none⟩,2⟩ _ hP (hK.mono hle) (by simp [cV]; omega) (by simp)
 rw [show cV [((⟨some ⟨b7,0,none⟩,1⟩ : Sh),[kind]),(h,p)]=kind :: p by simp [cV]] at hh
 exact hh
theorem aMf {G:PM} {b7 b9 T7 T9:Nat} {kind:Y} (hle:PM.le G ((G.add b7 (cl [V kind] T7)).add b9 (cl [.slice (some ⟨b7,0,none⟩) 1 1] T9))) (hq:PM.le (G.add b7 (cl [V kind] T7)) ((G.add b7 (cl [V kind] T7)).add b9 (cl [.slice (some ⟨b7,0,none⟩) 1 1] T9))) (hK:RdNP G 1 0 (wa 64 kW)) :
  Ct Tryz.prog 102 ([.slice (some ⟨b9,0,none⟩) 1 1]:List Value).toArray ((G.add b7 (cl [V kind] T7)).add b9 (cl [.slice (some ⟨b7,0,none⟩) 1 1] T9)) [] (fun _ μ' u=>μ'=[]∧u=.agg (ba 32 (gM [kind])).toArray):=by
 have h1:SlR (G.add b7 (cl [V kind] T7)) 1 aQ ⟨some ⟨b7,0,none⟩,1⟩ [kind]:=lR (T:=T7) (gI _ _ _) (fun _ _=>rfl) (by simp)
 have hP:SlP ((G.add b7 (cl [V kind] T7)).add b9 (cl [.slice (some ⟨b7,0,none⟩) 1 1] T9)) ⟨some ⟨b9,0,none⟩,1⟩ [(⟨some ⟨b7,0,none⟩,1⟩,[kind])] :=
  ⟨lR (T:=T9) (gI _ _ _) (fun _ _=>rfl) (by simp),fun q hq'=>by rw [List.mem_singleton.1 hq']; exact h1.mono hq⟩
 have hh:=aAM _ ⟨some ⟨b9,0,none⟩,1⟩ _ hP (hK.mono hle) (by simp [cV]) (by simp)
 rw [show cV [((⟨some ⟨b7,0,none⟩,1⟩ : Sh),[kind])]=[kind] by simp [cV]] at hh
 exact hh
theorem aNU {G G2 G3 G5:PM} {b2 b3 b5 b8 T2 T3 T5 T8:Nat} {a b:Nat→Y} (e2:G2=G.add b2 (cl (ba 32 a) T2)) (e3:G3=G2.add b3 (cl (ba 32 b) T3)) (e5:G5=G3.add b5 (cl [V 1#8] T5))
  (hle:PM.le G (G5.add b8 (cl [.slice (some ⟨b5,0,none⟩) 1 1,.slice (some ⟨b2,0,none⟩) 32 32,.slice (some ⟨b3,0,none⟩) 32 32] T8))) (hq:PM.le G5 (G5.add b8 (cl [.slice (some ⟨b5,0,none⟩) 1 1,.slice (some ⟨b2,0,none⟩) 32 32,.slice (some ⟨b3,0,none⟩) 32 32] T8))∧PM.le G3 G5∧PM.le G2 G3∧PM.le G G2∧True) (hK:RdNP G 1 0 (wa 64 kW)) :
  Ct Tryz.prog 102 ([.slice (some ⟨b8,0,none⟩) 3 3]:List Value).toArray (G5.add b8 (cl [.slice (some ⟨b5,0,none⟩) 1 1,.slice (some ⟨b2,0,none⟩) 32 32,.slice (some ⟨b3,0,none⟩) 32 32] T8)) [] (fun _ μ' u=>μ'=[]∧u=.agg (ba 32 (nP a b)).toArray):=by
 have h1:SlR G5 1 aQ ⟨some ⟨b5,0,none⟩,1⟩ [1#8]:=by rw [e5]; exact lR (T:=T5) (gI _ _ _) (fun _ _=>rfl) (by simp)
 have h2:SlR G2 1 aQ ⟨some ⟨b2,0,none⟩,32⟩ (yl 32 a):=by rw [e2]; exact aCg
 have h3:SlR G3 1 aQ ⟨some ⟨b3,0,none⟩,32⟩ (yl 32 b):=by rw [e3]; exact aCg
 have l1:=bK 32 a
 have l2:=bK 32 b
 have hP:SlP (G5.add b8 (cl [.slice (some ⟨b5,0,none⟩) 1 1,.slice (some ⟨b2,0,none⟩) 32 32,.slice (some ⟨b3,0,none⟩) 32 32] T8)) ⟨some ⟨b8,0,none⟩,3⟩ [(⟨some ⟨b5,0,none⟩,1⟩,[1#8]),(⟨some ⟨b2,0,none⟩,32⟩,yl 32 a),(⟨some ⟨b3,0,none⟩,32⟩,yl 32 b)] :=
  ⟨lR (T:=T8) (by simp [oH,l1,l2,Sh.val]; exact gI _ _ _) (fun _ _=>rfl) (by simp),fun q hq'=>by
   simp only [List.mem_cons,List.not_mem_nil,or_false] at hq'
   rcases hq' with rfl|rfl|rfl
   ·exact h1.mono hq.1
   ·exact h2.mono (hq.2.2.1.trans (hq.2.1.trans hq.1))
   ·exact h3.mono (hq.2.1.trans hq.1)⟩
 have hh:=aAM _ ⟨some ⟨b8,0,none⟩,3⟩ _ hP (hK.mono hle) (by simp [cV,l1,l2]) (by simp)
 rw [show cV [((⟨some ⟨b5,0,none⟩,1⟩ : Sh),[1#8]),(⟨some ⟨b2,0,none⟩,32⟩,yl 32 a),(⟨some ⟨b3,0,none⟩,32⟩,yl 32 b)]=1#8 :: (yl 32 a++yl 32 b) by simp [cV]] at hh
 exact hh
theorem aNc (p:List Y) (h:Sh) (G:PM) (hs:SlR G 1 aQ h p) (hK:RdNP G 1 0 (wa 64 kW)) (hl:p.length≤100000000000000):Ct Tryz.prog 65 ([h.val p.length]:List Value).toArray G [] (fun _ μ' u=>μ'=[]∧u=.agg (ba 32 (wT p)).toArray):=by
 refine Ct.of Tryz.func65 rfl Tryz.ntmps65 rfl fun w0 hs0=>?_
 refine .seq (aL rfl rfl ?_)
 refine al rfl fQ ?_; intro b2
 refine .nil (.code (.seq (pW rfl rfl ?_)))
 refine Go.Tan.b1 rfl aI bF (.u rfl) rfl rfl (by decide) ?_; intro b3
 refine mV rfl rfl ?_
 refine Go.Tan.bN rfl jB mR (Evp.cons (.u rfl) (Evp.cons (.u rfl) Evp.nil)) rfl (by decide) (by simp [Value.oneCell',Sh.val]) ?_; intro b5
 refine kp rfl .no aAh (aB rfl aF) (Gp.add .here (Gp.add .here Gp.nil)) (fun _ hle hq=>aNb (kind:=0#8) hle hq.1 hs hK hl) ?_
 refine sW rfl rfl rfl rfl fB aN ?_
 refine .nil (.code (.ret (aM Tryz.results65 (.cell rfl (fun w hw=>bI dY (RdN.own .here) ((by first|exact qE|exact qL|rfl)) hw) .nil) ?_)))
 exact ⟨rfl,rfl⟩
theorem aGm (a b:Dg) (G:PM) (hK:RdNP G 1 0 (wa 64 kW)):Ct Tryz.prog 103 ([.agg (ba 32 a).toArray,.agg (ba 32 b).toArray]:List Value).toArray G [] (fun _ μ' u=>μ'=[]∧u=.agg (ba 32 (nP a b)).toArray):=by
 refine Ct.of Tryz.func103 rfl Tryz.ntmps103 rfl fun w0 hs0=>?_
 refine .seq (dU rfl rfl ?_)
 refine bX rfl rfl rfl ?_; intro b2
 refine bX rfl rfl rfl ?_; intro b3
 refine al rfl fQ ?_; intro b4
 refine .g (bA (mc:=⟨false,false⟩) [1,2,0,3,4,5] aX (by kernel_rfl) ?_)
 refine lG rfl .no fU (.u rfl) (lG rfl .no fU (.u rfl) ?_)
 refine Go.Tan.b1 rfl aI bF (.u rfl) rfl rfl (by decide) ?_; intro b5
 refine Go.Tan.bN rfl jB mR (Evp.cons (.u rfl) (Evp.cons (.u rfl) (Evp.cons (.u rfl) Evp.nil))) rfl (by decide) (by simp [Value.oneCell',Sh.val]) ?_; intro b8
 refine kp rfl .no aAh (aB rfl aF) (Gp.add .here (Gp.add .here (Gp.add aE (Gp.add aE Gp.nil)))) (fun _ hle hq=>aNU rfl rfl rfl hle hq hK) ?_
 refine sW rfl rfl rfl rfl fB aN ?_
 refine .nil (.code (.ret (aM Tryz.results103 (.cell rfl (fun w hw=>bI dY (RdN.own .here) ((by first|exact qE|exact qL|rfl)) hw) .nil) ?_)))
 exact ⟨rfl,rfl⟩
theorem mP:cL Tryz.prog 120=some (23,32,32):=by kernel_rfl
theorem sG:(cL Tryz.prog 120).isSome=true:=by kernel_rfl
theorem aKS:aU Tryz.prog 103=true:=by kernel_rfl
theorem vW:(Tryz.prog.info? 23).bind (·.zero)=some (.agg (ba 32 (fun _=>0#8)).toArray):=by kernel_rfl
theorem aQA (ds:List Dg) (h:Sh) (G:PM) (hs:SlR G 32 (ba 32) h ds) (hK:RdNP G 1 0 (wa 64 kW)) (hl:ds.length≤1000000):Ct Tryz.prog 66 ([h.val ds.length]:List Value).toArray G [] (fun _ μ' u=>μ'=[]∧u=.agg (ba 32 (fV ds)).toArray):=by
 refine Ct.of Tryz.func66 rfl Tryz.ntmps66 rfl fun w0 hs0=>?_
 refine .seq (aL rfl rfl ?_)
 refine al rfl fQ ?_; intro b2
 refine .g (lE rfl sG rfl (cP rfl rfl rfl rfl (.g (cD rfl (fun c1=>?_) (fun c1=>?_)))))
 ·have c1k:=c1
  try simp only [aC,aG,aD] at c1
  refine .seq (gK rfl rfl ?_)
  refine Go.Tan.b1 rfl aI bF (.u rfl) rfl rfl (by decide) ?_; intro b12
  refine Go.Tan.b1 rfl jB mR (.u rfl) rfl rfl (by decide) ?_; intro b13
  refine kp rfl .no aAh (aB rfl aF) (Gp.add .here (Gp.add .here Gp.nil)) (fun _ hle hq=>aMf (kind:=2#8) hle hq.1 hK) ?_
  refine sW rfl rfl rfl rfl fB aN ?_
  refine .nil (.code (.ret (aM Tryz.results66 (.cell rfl (fun w hw=>bI dY (RdN.own .here) ((by first|exact qE|exact qL|rfl)) hw) .nil) ?_)))
  obtain rfl:ds=[]:=List.eq_nil_of_length_eq_zero (by omega)
  exact ⟨rfl,by rw [aIR]; rfl⟩
 have c1k:=c1
 try simp only [aC,aG,aD] at c1
 refine .skip (.code (.seq (aL rfl rfl (aS rfl rfl (.nc (.seq (.seq (nW 32 (ba 32) 23 ?_))))))))
 refine .g (lE rfl sG rfl (mV rfl rfl (.nc (.block ?_))))
 refine aV (α:=Nat×List (Nat×Dg)×Value) (fun gh=>[(3,true,gh.2.2),(17,true,.int .i64 (gh.1:Int))]) (fun gh=>[rS 32 (ba 32) gh.2.2 23 (eN gh.2.1)])
  (fun gh Gl=>(gh.1≤ds.length)∧(Stk gh.2.1 (ds.take gh.1))) (fun gh=>ds.length-gh.1) (0,[],.slice none 0 0) [(2,true,_),(15,true,_),(16,true,_)] [_]
  (aA rfl (aK rfl (aA rfl (aA rfl (aA rfl eZ)))))
  (mS .here rfl (mS .here rfl mN)) ?_ ?_
 ·refine ⟨?_,?_⟩
  ·(try dsimp only)<;>(first|omega|rfl|assumption|(simp; done))
  (try dsimp only)<;>(exact Stk.nil)
 intro gh N0 Gl0 hN0 hGl0 hF0
 obtain ⟨k,S,v⟩:=gh; dsimp only at hF0 hN0 ⊢
 obtain ⟨hk,hS⟩:=hF0
 have hs:=hs.mono hGl0
 have hK:=hK.mono hGl0
 refine .g (cP rfl rfl rfl rfl (.g (cD rfl (fun c2=>?_) (fun c2=>?_))))
 ·have c2k:=c2
  try simp only [aC,aG,aD] at c2
  refine .skip (.code (.seq (.block (.seq (gL rfl rfl (mV rfl rfl ?_))))))
  obtain ⟨x,ex⟩:=iJ (k:=k) (xs:=ds) (by omega)
  refine ih rfl .no mP (.u rfl) (.u rfl) (by omega) (by omega) (fun _=>hs.nn (k:=k) (by first|omega|(simp only [Bool.and_eq_true,decide_eq_true_eq] at hc; omega)|(simp only [List.length_cons,List.length_nil]; omega))) ?_
  refine lA rfl .no dY (.u rfl) (fun _=>(hs.at (by omega) ex).rd) (fun _=>bT _ _) ?_
  refine al rfl fQ ?_; intro b5
  refine .p (sw rfl (.u rfl) (.u rfl) rfl fB .here rfl (jR _ _) ?_)
  refine .g (aW (((k+1):Nat):Int) rfl rfl rfl rfl ?_)
  refine aS rfl rfl (.nc (.block ?_))
  refine aV (α:=Nat×Nat×List (Nat×Dg)×Dg×Value) (fun gh=>[(3,true,gh.2.2.2.2),(6,true,.int .i64 (gh.1:Int))]) (fun gh=>[.blk b5 (cl (ba 32 gh.2.2.2.1) 23),rS 32 (ba 32) gh.2.2.2.2 23 (eN gh.2.2.1)])
   (fun gh Gl=>(Pend gh.2.2.1 gh.2.2.2.1 gh.2.1 (ds.take (k+1)))∧(gh.1=(ds.take (k+1)).length / 2^gh.2.1)∧(gh.1≤k+1)) (fun gh=>gh.1) (k+1,0,S,x,v) [(2,true,_),(5,true,_),(15,true,_),(16,true,_),(17,true,_)] [_]
   (aA rfl (aK rfl (aA rfl (aA rfl (aA rfl (aA rfl (aA rfl eZ)))))))
   (mS .here rfl (mS .here rfl (mS .here rfl mN))) ?_ ?_
  ·refine ⟨?_,?_,?_⟩
   ·(try dsimp only)<;>(rw [List.take_add_one,ex]; exact aK9 hS x)
   ·(try dsimp only)<;>(rw [Nat.pow_zero,Nat.div_one,List.length_take]; omega)
   (try dsimp only)<;>(first|omega|rfl|assumption|(simp; done))
  intro gh N1 Gl1 hN1 hGl1 hF1
  obtain ⟨q,a,S2,dd,v2⟩:=gh; dsimp only at hF1 hN1 ⊢
  obtain ⟨hP,eq,hqk⟩:=hF1
  have hK:=hK.mono hGl1
  have hq0:=aOp hP eq
  have hl2:=aOn hP
  rw [← tJ,List.length_take] at hl2
  refine .g (an1 q rfl .no (.u rfl) (.u rfl) rfl rfl ?_)
  refine cP rfl rfl rfl rfl (.g (cD rfl (fun c3=>?_) (fun c3=>?_)))
  ·have c3k:=c3
   try simp only [aC,aG,aD] at c3
   refine .skip (.code (.seq (.block (.seq ?_))))
   obtain ⟨s,S3,hS3,hP3,hq3⟩:=aOm hP eq (by omega)
   have hl3:(eN S2).length=(eN S3).length+1:=by rw [hS3,xU,List.length_append]; rfl
   refine nX aE (by omega) ?_; intro bbRS capRS evRS lcRS; subst evRS
   refine bA (mc:=⟨false,false⟩) [0,1,2,3,4,5,6,7,8] aX (by kernel_rfl) ?_
   refine .p (lr rfl .no sG (.u rfl) aE ?_)
   refine cQ ((((eN S2).length-1):Nat):Int) rfl .no (.u rfl) (.u rfl) rfl (by omega) (fun _=>bO (by omega) (by omega)) ?_
   refine ia rfl .no mP (.u rfl) (.u rfl) (by omega) (by omega) ?_
   refine lA rfl .no dY (.u rfl) (fun _=>iF aE (fun _ _=>bT _ _) (iI (z:=zD) (k:=((eN S2).length-1)) (by omega)) (by omega)) (fun _=>bT _ _) ?_
   refine lB rfl dY rfl .here ?_
   refine kV rfl aKS (aB rfl (aB rfl aF)) (aGm _ _ _ hK) ?_
   refine sw rfl (.u rfl) (.u rfl) rfl fB .here (by first|exact qE|exact qL|rfl) (jR _ _) ?_
   refine .g (lr rfl .no sG (.u rfl) aE ?_)
   refine aR rfl rfl rfl rfl ?_
   refine srh (eN S3).length rfl mP (.u rfl) (.u rfl) (by omega) (by omega) ?_
   refine aS rfl rfl (.nil (.blk (.code (aSC (eN S3) [s] (fun _ _=>bT _ _) aE (by rw [hS3,xU]) ?_))))
   refine .g (xS (q) rfl .no (.u rfl) (.u rfl) (by first|rfl|omega) rfl (by decide) ?_)
   refine .g (aP (q / 2,a+1,S3,nP ((eN S2).getD ((eN S2).length-1) zD) dd,.slice (some ⟨bbRS,0,none⟩) (eN S3).length capRS) ?_ ?_ ?_ ?_ ?_)
   ·exact (aA rfl (aK rfl (aA rfl (aA rfl (aA rfl (aA rfl (aA rfl eZ)))))))
   ·exact (mS aE rfl (mS .here rfl (mS .here rfl mN)))
   ·first|omega|(dsimp only; omega)
   ·exact hGl1
   refine ⟨?_,?_,?_⟩
   ·(try dsimp only)<;>(rw [aRU hS3]; exact hP3)
   ·(try dsimp only)<;>(exact hq3)
   (try dsimp only)<;>(first|omega|rfl|assumption|(simp; done))
  have c3k:=c3
  try simp only [aC,aG,aD] at c3
  refine .g (lB rfl dY rfl .here ?_)
  refine Go.Tan.b1 rfl mP vW (.u rfl) rfl rfl (by decide) ?_; intro b44
  refine eC (xs:=(eN S2)) (dd) rfl mP vW rfl (.u rfl) (.u rfl) aN .here (bT _ _) (jR _ _) (by omega) (by unfold maxLen; omega) ?_; intro v45 ov45
  refine .g (aW (((k+1):Nat):Int) rfl rfl rfl rfl ?_)
  refine .g (aP (k+1,(a,dd) :: S2,v45) ?_ ?_ ?_ ?_ ?_)
  ·exact (aA rfl (aK rfl (aA rfl (aA rfl (aA rfl eZ)))))
  ·exact (mS .here (by rw [xU]) (mS aN rfl mN))
  ·first|omega|(dsimp only; omega)
  ·exact (hGl0).trans hGl1
  refine ⟨?_,?_⟩
  ·(try dsimp only)<;>(first|omega|rfl|assumption|(simp; done))
  (try dsimp only)<;>(exact aOo hP eq (by omega))
 have c2k:=c2
 try simp only [aC,aG,aD] at c2
 refine .exit (.xcode (.xlp (.xblk (.code (.seq ?_)))))
 obtain rfl:k=ds.length:=by omega
 rw [List.take_length] at hS
 obtain ⟨hs0,hroot⟩:=aRT hS (by omega)
 have hsl:=hS.short
 rw [← tJ] at hsl
 refine nX .here (by omega) ?_; intro bbRS capRS evRS lcRS; subst evRS
 refine .g (lr rfl .no sG (.u rfl) .here ?_)
 refine cQ ((((eN S).length-1):Nat):Int) rfl .no (.u rfl) (.u rfl) rfl (by omega) (fun _=>bO (by omega) (by omega)) ?_
 refine ia rfl .no mP (.u rfl) (.u rfl) (by omega) (by omega) ?_
 refine lA rfl .no dY (.u rfl) (fun _=>iF .here (fun _ _=>bT _ _) (iI (z:=zD) (k:=((eN S).length-1)) (by omega)) (by omega)) (fun _=>bT _ _) ?_
 refine al rfl fQ ?_; intro b7
 refine sw rfl (.u rfl) (.u rfl) rfl fB .here rfl (jR _ _) ?_
 refine .g (lr rfl .no sG (.u rfl) aE ?_)
 refine aR rfl rfl rfl rfl ?_
 refine aS rfl rfl (.nc (.block ?_))
 refine aV (α:=Nat×Dg) (fun gh=>[(8,true,.int .i64 ((gh.1:Int)-1))]) (fun gh=>[.blk b7 (cl (ba 32 gh.2) 23)])
  (fun gh Gl=>(gh.1≤(eN S).length-1)∧(fV ds=qJ gh.2 (eN S) gh.1)) (fun gh=>gh.1) ((eN S).length-1,(eN S).getD ((eN S).length-1) zD) [(2,true,_),(3,true,_),(7,true,_)] [_,_]
  (cI rfl (dA (by omega)) (aA rfl (aA rfl (aA rfl eZ))))
  (mS .here rfl (mS .here rfl (mS .here rfl mN))) ?_ ?_
 ·refine ⟨?_,?_⟩
  ·(try dsimp only)<;>(first|omega|rfl|assumption|(simp; done))
  (try dsimp only)<;>(exact hroot)
 intro gh N2 Gl2 hN2 hGl2 hF2
 obtain ⟨j,d⟩:=gh; dsimp only at hF2 hN2 ⊢
 obtain ⟨hj,hd⟩:=hF2
 have hK:=hK.mono hGl2
 refine .g (cP rfl rfl rfl rfl (.g (cD rfl (fun c4=>?_) (fun c4=>?_))))
 ·have c4k:=c4
  try simp only [aC,aG,aD] at c4
  refine .g (bA (mc:=⟨false,false⟩) [0,1,2,3,4,5,6] aX (by kernel_rfl) ?_)
  refine .p (ia rfl .no mP (.u rfl) (.u rfl) (by omega) (by omega) ?_)
  refine lA rfl .no dY (.u rfl) (fun _=>iF aE (fun _ _=>bT _ _) (iI (z:=zD) (k:=(j-1)) (by omega)) (by omega)) (fun _=>bT _ _) ?_
  refine lB rfl dY rfl .here ?_
  refine kV rfl aKS (aB rfl (aB rfl aF)) (aGm _ _ _ hK) ?_
  refine sw rfl (.u rfl) (.u rfl) rfl fB .here (by first|exact qE|exact qL|rfl) (jR _ _) ?_
  refine .g (aR rfl rfl rfl rfl ?_)
  refine .g (aP (j-1,nP ((eN S).getD (j-1) zD) d) ?_ ?_ ?_ ?_ ?_)
  ·exact (cI rfl (dA (by omega)) (aA rfl (aA rfl (aA rfl eZ))))
  ·exact (mS .here rfl (mS .here rfl (mS .here rfl mN)))
  ·first|omega|(dsimp only; omega)
  ·exact hGl2
  refine ⟨?_,?_⟩
  ·(try dsimp only)<;>(first|omega|rfl|assumption|(simp; done))
  (try dsimp only)<;>(rw [hd,aMo (by omega)])
 have c4k:=c4
 try simp only [aC,aG,aD] at c4
 refine .g (lB rfl dY rfl .here ?_)
 refine sw rfl (.u rfl) (.u rfl) rfl fB aN rfl (jR _ _) ?_
 refine .nil (.code (.ret (aM Tryz.results66 (.cell rfl (fun w hw=>bI dY (RdN.own .here) ((by first|exact qE|exact qL|rfl)) hw) .nil) ?_)))
 obtain rfl:j=0:=by omega
 exact ⟨rfl,by rw [hd]; rfl⟩
end Go.Proofs.YtdeobooblmjlfaaGreatDoor
namespace Go.Tan
open Go.RowKit
section
variable {dr:Bool} {mc:Md} {P:Program} {n:Nat} {l:List Oper} {K:aO→PM→aH→Prop} {i:Nat} {σ:List Nat} {ρ:aO} {G:PM} {μ:aH}
variable {d t:Nat} {p:String} {af:Array Edge} {g:Option (Nat×Bool)} {c:Bool}
theorem kaf {f:FuncId} {fv:Operand} {xs:List Operand} {tys:Array TypeId} {vs vc:List Value} {μ₁ μ₂:aH} {post:PM→aH→Value→Prop} {dd:Option Nat} (ho:nth l i=some ⟨dd,.call { callee:=.value fv,args:=xs.toArray,argTypes:=tys },t,p,af,none⟩) (hm:mc.c=true∨dr=false) (hfv:Ev ρ true fv (.func (.func f) #[] vc.toArray)) (hf:aU P f=true)
  (hv:∀ a,Ag n ρ a→true=true→xs.map a.eval=vs) (hp:μ.Perm (μ₁++μ₂)) (hk:Ct P f (vs++vc).toArray G μ₁ post) (h:∀ v G' μ',PM.le G G'→post G' μ' v→Wo dr mc P n l K σ (dM ρ dd true v) G' (μ'++μ₂)):Wo dr mc P n l K (i :: σ) ρ G μ :=
 .act ho (by rcases hm with h|rfl<;>simp_all [cA]) .no hp (fun a w ha _=>.inr ⟨f,_,by
  have h1:=hv a ha rfl
  simp [execOp,resolve,Deferred.ofValue,hfv.eval ha rfl,invoke,aD4 hf]
  rw [← h1],hk⟩) h
end
theorem SlR.one1 {α:Type} {enc:α→List Value} {sz:Nat} {G:PM} {b:Nat} {x:α} {T:TypeId}:SlR (G.add b (cl (enc x) T)) sz enc ⟨some ⟨b,0,none⟩,1⟩ [x]:=by
 refine ⟨fun _=>rfl,Nat.le_refl _,fun i y hy j v hj=>?_⟩
 cases i with
 | succ i=>simp at hy
 | zero =>
  simp only [List.getElem?_cons_zero,Option.some.injEq] at hy
  subst hy
  rw [Nat.zero_mul,Nat.add_zero]
  exact RdP.blk (gI _ _ _) (by show (enc x)[0+j]? = _; rw [Nat.zero_add]; exact hj)
structure StN (s:State):Prop where
 log:u64 s.log
 next:u64 s.next
 seq:u64 s.seq
 least:u64 s.least
 gens:∀ i,i<5→u64 (s.gens i)
theorem aDG {s:State} (h:StN s):(nO s).wf:=⟨h.log,h.next,h.seq,h.least,h.gens,(fun m hm=>absurd hm List.not_mem_nil),(fun g hg=>absurd hg List.not_mem_nil)⟩
theorem aDk {m:Meta} (h:m.wf):(lY m).wf:=by
 have z:u64 0:=⟨by decide,by decide⟩
 refine ⟨z,z,z,z,fun _ _=>z,fun x hx=>?_,(fun g hg=>absurd hg List.not_mem_nil)⟩
 rw [show x=m from List.mem_singleton.1 hx]; exact h
theorem aDj {m:Meta} (h:m.wf):((lY m).add.flatMap eF).length≤m.min.size+m.max.size+112:=by
 show ([m].flatMap eF).length≤_
 rw [List.flatMap_cons,List.flatMap_nil,List.append_nil]; exact aMh h
theorem aOQ {m:Meta} (h:m.wf):(kU (lY m)).length≤m.min.size+m.max.size+222:=by
 have h1:=aBM (aDk h) (by show 1≤_; decide) (by show 0≤_; decide)
 have h2:=aDj h
 have h3:(lY m).drop.length=0:=rfl
 omega
theorem aNE {s:State} (h:StN s):(kU (nO s)).length≤110:=aBM (aDG h) (by show 0≤_; decide) (by show 0≤_; decide)
theorem aGb {s:State}:((nO s).add.flatMap eF).length≤10:=by show ([]:List Y).length≤_; decide
def jU (s:State) (k j:Nat):List Dg:=sY (nO s) :: ((bZ s k++(s.lv k).take j).map fun m=>sY (lY m))
theorem aGv (s:State):jU s 0 0=[]++[sY (nO s)]:=by simp [jU,bZ]
theorem aGy {s:State} {k j:Nat} {m:Meta} (h:(s.lv k)[j]? = some m):jU s k j++[sY (lY m)]=jU s k (j+1):=by
 unfold jU; rw [List.take_add_one,h]; simp
theorem aGx {s:State} {k j:Nat} (h:(s.lv k).length≤j):jU s k j=jU s (k+1) 0:=by
 unfold jU; rw [List.take_of_length_le h]; simp [bZ]
theorem aGw (s:State):jU s 5 0=sZ s:=by unfold jU sZ; simp
theorem aDO (s:State) (k j:Nat):((jU s k j).length:Int)≤1+tot s k+(s.lv k).length:=by
 have h1:=zC s k
 unfold jU
 simp only [List.length_cons,List.length_map,List.length_append,List.length_take]
 omega
theorem aJY {s:State} {k:Nat} (h:k<5):tot s k+(s.lv k).length≤tot s 5:=xX s (show k+1≤5 by omega)
theorem aNl (s:State) (hd:Nat→Sh) {k:Nat} {j:Int} (h:k<5) (e:j.toNat=k):((List.range 5).map fun i=>(hd i).val (s.lv i).length)[j.toNat]? = some ((hd k).val (s.lv k).length):=by
 rw [e]
 match k,h with
 | 0,_=>rfl | 1,_=>rfl | 2,_=>rfl | 3,_=>rfl | 4,_=>rfl
theorem aGu (s:State):((sZ s).length:Int)=1+tot s 5:=by
 have h1:=zC s 5
 unfold sZ
 simp only [List.length_cons,List.length_map]
 omega
theorem aSB {α:Type} {enc:α→List Value} {sz:Nat} {ρ:aO} {G:PM} {μ:aH} {X:Cx} {cd:Code} {k:List KI} {b E:Nat} {μ':aH} (x:α) (hm:MTake μ (.blk b (cl (enc x) E)) μ') (hl:(enc x).length=sz)
  (h:Wk X cd k ρ G (rS sz enc (.slice (some ⟨b,0,none⟩) 1 1) E [x] :: μ')):Wk X cd k ρ G μ :=
 ⟨fun a w ha ht=>by
  have e1 : [x].flatMap enc=enc x:=by simp
  refine h.out a w ha ?_
  show Tr _ _ _ _ (.row _ E sz [x].length ([x].flatMap enc) :: μ') w
  rw [e1]
  exact (ht.perm hm.perm).asRow (m:=1) (cap:=1) (sz:=sz) (by rw [hl,Nat.one_mul]) (Nat.le_refl _) (by unfold maxLen; omega) (by simp [hl]) (by rw [Nat.one_mul,←hl]; exact List.take_of_length_le (by simp))⟩
theorem aHi {k n f:Nat} (h1:1≤k) (h:k+k<n) (hf:n≤k+f):nR k n f=nR (k*2) n (f-1)∧n≤k*2+(f-1):=by
 obtain ⟨g,rfl⟩ : ∃ g,f=g+1:=⟨f-1,by omega⟩
 refine ⟨?_,by omega⟩
 rw [nR,if_pos h]; rfl
theorem aOj {k n f:Nat} (h:¬ k+k<n):nR k n f=k:=by
 cases f with
 | zero=>rfl
 | succ f=>rw [nR,if_neg h]
structure StL (s:State):Prop where
 few:tot s 5≤100000
 short:∀ i,i<5→∀ m∈s.lv i,m.min.size+m.max.size≤900000000000
end Go.Tan
namespace Go.Proofs.YtdeobooblmjlfaaGreatDoor
open Go.Tan Go.RowKit
theorem gH:cO Tryz.prog 98 0=some 0:=by kernel_rfl
theorem iR:cO Tryz.prog 98 3=some 3:=by kernel_rfl
theorem qA:cO Tryz.prog 98 7=some 7:=by kernel_rfl
theorem iE:dJ Tryz.prog 9=some none:=by kernel_rfl
theorem mM:cO Tryz.prog 98 6=some 6:=by kernel_rfl
theorem vT:xV Tryz.prog 9=true:=by kernel_rfl
theorem vR:cO Tryz.prog 98 5=some 5:=by kernel_rfl
theorem vQ:cO Tryz.prog 98 4=some 4:=by kernel_rfl
theorem rE:cO Tryz.prog 33 2=some 6:=by kernel_rfl
theorem vP:cO Tryz.prog 98 1=some 1:=by kernel_rfl
theorem tV:cO Tryz.prog 33 5=some 9:=by kernel_rfl
theorem rA:gP Tryz.prog 31=some (5,26,1):=by kernel_rfl
theorem dI:cO Tryz.prog 33 0=some 0:=by kernel_rfl
theorem cS:gP Tryz.prog 30=some (5,29,1):=by kernel_rfl
theorem cM:dJ Tryz.prog 29=some none:=by kernel_rfl
theorem aY:cL Tryz.prog 29=some (98,40,112):=by kernel_rfl
theorem fH:(cL Tryz.prog 29).isSome=true:=by kernel_rfl
theorem cT:(Tryz.prog.info? 98).bind (·.zero)=some (.agg (Meta.zero.cells).toArray):=by kernel_rfl
theorem aRL (a b:Meta) (G:PM) (h0:0≤a.level):Ct Tryz.prog 98 ([a.val,b.val]:List Value).toArray G [] (fun _ μ' u=>μ'=[]∧u=.bool (iM a.level a b)):=by
 refine Ct.of Tryz.func98 rfl Tryz.ntmps98 rfl fun w0 hs0=>?_
 refine .seq (dU rfl rfl ?_)
 refine bX rfl rfl rfl ?_; intro b2
 refine bX rfl rfl rfl ?_; intro b3
 refine .g (fZ rfl gH rfl (lO rfl aZ rfl aE rfl ?_))
 refine cP rfl rfl rfl rfl (.g (cD rfl (fun c1=>?_) (fun c1=>?_)))
 ·have c1k:=c1
  try simp only [aC] at c1
  refine .g (fZ rfl iR rfl (lO rfl bD rfl aE rfl ?_))
  refine fZ rfl iR rfl (lO rfl bD rfl .here rfl ?_)
  refine cP rfl rfl rfl rfl (aS rfl rfl (.nc (.ret (aM Tryz.results98 (.tmp rfl .nil) ?_))))
  exact ⟨rfl,congrArg Value.bool (by rw [← aI0 a b h0,if_pos c1k])⟩
 have c1k:=c1
 try simp only [aC] at c1
 refine .g (fZ rfl qA rfl (lO rfl iE rfl aE rfl ?_))
 refine fZ rfl mM rfl (lO rfl iE rfl .here rfl ?_)
 refine cs rfl .no (.u rfl) (.u rfl) rfl (aS rfl rfl (.nc (.ret (aM Tryz.results98 (.tmp rfl .nil) ?_))))
 exact ⟨rfl,congrArg Value.bool (by rw [← aI0 a b h0,if_neg (by rw [c1k]; simp)]; rfl)⟩
theorem aMq (s:State) (hd:Nat→Sh) (m:Meta) (b:Nat) (G:PM) (hp:RdNP G b 0 (s.cells hd)) (h0:0≤m.level):Ct Tryz.prog 97 ([.pointer (some ⟨b,0,none⟩),m.val]:List Value).toArray G [] (fun _ μ' u=>μ'=[]∧u=.bool (good s m)):=by
 refine Ct.of Tryz.func97 rfl Tryz.ntmps97 rfl fun w0 hs0=>?_
 refine .seq (bJ rfl rfl ?_)
 refine bX rfl rfl rfl ?_; intro b3
 refine .g (fZ rfl gH rfl (lO rfl aZ rfl .here rfl ?_))
 refine cP rfl rfl rfl rfl (.g (cD rfl (fun c1=>?_) (fun c1=>?_)))
 ·have c1k:=c1
  try simp only [aC] at c1
  refine .g (jQ rfl c1k ?_)
  refine .seq (aL rfl rfl (aS rfl rfl (.nc (.ret (aM Tryz.results97 (.tmp rfl .nil) ?_)))))
  exact ⟨rfl,by simp [fO,good]; omega⟩
 have c1k:=c1
 try simp only [aC] at c1
 refine .g (fZ rfl mM rfl (lO rfl iE rfl .here rfl ?_))
 refine fZ rfl qA rfl (lO rfl iE rfl .here rfl ?_)
 refine cs rfl .no (.u rfl) (.u rfl) rfl (.g (cD rfl (fun c2=>?_) (fun c2=>?_)))
 ·have c2k:=c2
  try simp only [aC] at c2
  refine .g (jQ rfl c2k ?_)
  refine .seq (aL rfl rfl (aS rfl rfl (.nc (.ret (aM Tryz.results97 (.tmp rfl .nil) ?_)))))
  exact ⟨rfl,by have h:le m.min m.max=false:=(by simpa [le] using c2k); simp [fO,good,h]⟩
 have c2k:=c2
 try simp only [aC] at c2
 refine .g (fZ rfl mM rfl (lO rfl iE rfl .here rfl ?_))
 refine ls rfl .no vT (.u rfl) (fZ rfl qA rfl (lO rfl iE rfl .here rfl ?_))
 refine ls rfl .no vT (.u rfl) (mA rfl .no (.u rfl) (.u rfl) ?_)
 refine cP rfl rfl rfl rfl (.g (cD rfl (fun c3=>?_) (fun c3=>?_)))
 ·have c3k:=c3
  try simp only [aC] at c3
  refine .g (jQ rfl c3k ?_)
  refine .seq (aL rfl rfl (aS rfl rfl (.nc (.ret (aM Tryz.results97 (.tmp rfl .nil) ?_)))))
  exact ⟨rfl,by simp [fO,good]; omega⟩
 have c3k:=c3
 try simp only [aC] at c3
 refine .g (fZ rfl vR rfl (lO rfl dH rfl .here rfl ?_))
 refine cP rfl rfl rfl rfl (.g (cD rfl (fun c4=>?_) (fun c4=>?_)))
 ·have c4k:=c4
  try simp only [aC] at c4
  refine .g (jQ rfl c4k ?_)
  refine .seq (aL rfl rfl (aS rfl rfl (.nc (.ret (aM Tryz.results97 (.tmp rfl .nil) ?_)))))
  exact ⟨rfl,by simp [fO,good]; omega⟩
 have c4k:=c4
 try simp only [aC] at c4
 refine .g (fZ rfl vQ rfl (lO rfl dH rfl .here rfl ?_))
 refine cP rfl rfl rfl rfl (.g (cD rfl (fun c5=>?_) (fun c5=>?_)))
 ·have c5k:=c5
  try simp only [aC] at c5
  refine .seq (aL rfl rfl (aS rfl rfl (.nc (.ret (aM Tryz.results97 (.tmp rfl .nil) ?_)))))
  exact ⟨rfl,by simp [fO,good]; omega⟩
 have c5k:=c5
 try simp only [aC] at c5
 refine .g (bA (mc:=⟨false,false⟩) [0,1,2,3,4,5,6,7,8,9,10,11,12,13,14,15,16,17,18,19] aX (by kernel_rfl) ?_)
 refine fZ rfl iR rfl (lO rfl bD rfl .here rfl ?_)
 refine .p (nC rfl rfl (fZ rfl rE rfl (lN rfl bD rfl ((hp.z rfl).rd) ?_)))
 refine cP rfl rfl rfl rfl (.p (fz rfl (.t rfl rfl) vP (.u rfl) (ld rfl (.t rfl rfl) bD (.s rfl) (fun _=>Rd.own .here rfl) ?_)))
 refine mv rfl (.t rfl rfl) (.u rfl) (fz rfl (.t rfl rfl) gH (.u rfl) (ld rfl (.t rfl rfl) aZ (.s rfl) (fun _=>Rd.own .here rfl) ?_))
 refine nc rfl (.t rfl rfl) (.s rfl) (fz rfl (.t rfl rfl) tV (.s rfl) (iA rfl (.t rfl rfl) rA (.s rfl) (.s rfl) (fun hc=>by omega) (fun hc=>by omega) ?_))
 refine ld rfl (.t rfl rfl) bD (.s rfl) (fun hc=>(hp.z (s.cell_gen hd (by omega))).rd) ?_
 refine cp rfl (.t rfl rfl) (.s rfl) (.s rfl) rfl (bR rfl .no (.u rfl) (.s rfl) (aS rfl rfl (.nc (.ret (aM Tryz.results97 (.tmp rfl .nil) ?_)))))
 exact ⟨rfl,aMp c1 c2k c3 c4 c5⟩
theorem aM5 (s:State) (hd:Nat→Sh) (G:PM) (hs:StR G s hd) (m:Meta) (h0:0≤m.level):Ct Tryz.prog 91 ([s.val hd,m.val]:List Value).toArray G [] (fun _ μ' u=>μ'=[]∧u=.bool (good s m)):=by
 refine Ct.of Tryz.func91 rfl Tryz.ntmps91 rfl fun w0 hs0=>?_
 refine .seq (dU rfl rfl ?_)
 refine bX rfl rfl rfl ?_; intro b2
 refine bX rfl rfl rfl ?_; intro b3
 refine .g (bA (mc:=⟨false,false⟩) [0,1,2,3,4,5,6,7,8,9,10,11,12,13,14,15,16,17,18,19,20,21,22,23,24,25,26,27,28,29,30,31,32,33,34,35,36,37,38,39,40,41,42,43,44,45,46,47,48,49] aX (by kernel_rfl) ?_)
 refine fZ rfl gH rfl (lO rfl aZ rfl .here rfl ?_)
 refine cP rfl rfl rfl rfl (.p (fz rfl (.t rfl rfl) mM (.u rfl) (ld rfl (.t rfl rfl) iE (.s rfl) (fun _=>Rd.own .here rfl) ?_)))
 refine fz rfl (.t rfl rfl) qA (.u rfl) (ld rfl (.t rfl rfl) iE (.s rfl) (fun _=>Rd.own .here rfl) ?_)
 refine cs rfl (.t rfl rfl) (.s rfl) (.s rfl) rfl (bR rfl .no (.u rfl) (.s rfl) (.p (fz rfl (.t rfl rfl) mM (.u rfl) (ld rfl (.t rfl rfl) iE (.s rfl) (fun _=>Rd.own .here rfl) ?_))))
 refine ls rfl (.t rfl rfl) vT (.s rfl) (cp rfl (.t rfl rfl) (.s rfl) (.u rfl) rfl (bR rfl .no (.u rfl) (.s rfl) (.p (fz rfl (.t rfl rfl) qA (.u rfl) (ld rfl (.t rfl rfl) iE (.s rfl) (fun _=>Rd.own .here rfl) ?_)))))
 refine ls rfl (.t rfl rfl) vT (.s rfl) (cp rfl (.t rfl rfl) (.s rfl) (.u rfl) rfl (bR rfl .no (.u rfl) (.s rfl) (.p (fz rfl (.t rfl rfl) vR (.u rfl) (ld rfl (.t rfl rfl) dH (.s rfl) (fun _=>Rd.own .here rfl) ?_)))))
 refine cp rfl (.t rfl rfl) (.s rfl) (.u rfl) rfl (bR rfl .no (.u rfl) (.s rfl) (.p (fz rfl (.t rfl rfl) vQ (.u rfl) (ld rfl (.t rfl rfl) dH (.s rfl) (fun _=>Rd.own .here rfl) ?_))))
 refine cp rfl (.t rfl rfl) (.s rfl) (.u rfl) rfl (bR rfl .no (.u rfl) (.s rfl) (.p (fz rfl (.t rfl rfl) iR (.u rfl) (ld rfl (.t rfl rfl) bD (.s rfl) (fun _=>Rd.own .here rfl) ?_))))
 refine fz rfl (.t rfl rfl) rE (.u rfl) (ld rfl (.t rfl rfl) bD (.s rfl) (fun _=>Rd.own aE rfl) ?_)
 refine cp rfl (.t rfl rfl) (.s rfl) (.s rfl) rfl (bR rfl .no (.u rfl) (.s rfl) (.p (fz rfl (.t rfl rfl) vP (.u rfl) (ld rfl (.t rfl rfl) bD (.s rfl) (fun _=>Rd.own .here rfl) ?_))))
 refine fz rfl (.t rfl rfl) gH (.u rfl) (ld rfl (.t rfl rfl) aZ (.s rfl) (fun _=>Rd.own .here rfl) ?_)
 refine fz rfl (.t rfl rfl) tV (.u rfl) (iA rfl (.t rfl rfl) rA (.s rfl) (.s rfl) (fun hc=>by omega) (fun hc=>by simp only [Bool.and_eq_true,decide_eq_true_eq] at hc; omega) ?_)
 refine ld rfl (.t rfl rfl) bD (.s rfl) (fun hc=>Rd.own aE (s.cell_gen hd (by simp only [Bool.and_eq_true,decide_eq_true_eq] at hc; omega))) ?_
 refine cp rfl (.t rfl rfl) (.s rfl) (.s rfl) rfl (bR rfl .no (.u rfl) (.s rfl) (aS rfl rfl (.nc (.ret (aM Tryz.results91 (.tmp rfl .nil) ?_)))))
 exact ⟨rfl,rfl⟩
theorem aNv (s:State) (hd:Nat→Sh) (G:PM) (hs:StR G s hd):Ct Tryz.prog 89 ([s.val hd]:List Value).toArray G [] (fun _ μ' u=>μ'=[]∧u=.bool (decide (1024<tot s 5))):=by
 refine Ct.of Tryz.func89 rfl Tryz.ntmps89 rfl fun w0 hs0=>?_
 refine .seq (bJ rfl rfl ?_)
 refine bX rfl rfl rfl ?_; intro b1
 refine aS rfl rfl (.nc (.seq (aL rfl rfl (aS rfl rfl (.nc (.seq (.seq (aL rfl rfl (aS rfl rfl (.nc (.block ?_)))))))))))
 refine aV (α:=Nat) (fun k=>[(3,true,.int .i64 (1024-tot s k)),(4,true,.int .i64 (k:Int))]) (fun _=>[])
  (fun k Gl=>k≤5∧tot s k≤1024) (fun k=>5-k) 0 [(1,true,_)] [.blk b1 _]
  (aA rfl (aA rfl (aA rfl eZ)))
  (mS .here rfl mN) ?_ ?_
 ·exact ⟨by omega,by simp [tot]⟩
 intro k N0 Gl0 hN0 hGl0 hF0
 try dsimp only at hF0 hN0 ⊢
 obtain ⟨hk,ht⟩:=hF0; have hn:=xY s k
 refine .g (cP rfl rfl rfl rfl (.g (cD rfl (fun c1=>?_) (fun c1=>?_))))
 ·have c1k:=c1
  try simp only [aC] at c1
  refine .g (fZ rfl dI rfl (iW rfl cS rfl rfl ?_))
  refine lO rfl cM rfl .here (s.cell_lv hd (k:=k) (by omega)) ?_
  refine lE rfl fH rfl (.p (cP rfl rfl rfl rfl (.g (cD rfl (fun c2=>?_) (fun c2=>?_)))))
  ·have c2k:=c2
   try simp only [aC] at c2
   refine .seq (aL rfl rfl (aS rfl rfl (.nc (.ret (aM Tryz.results89 (.tmp rfl .nil) ?_)))))
   exact ⟨rfl,by have:=xX s (show k+1≤5 by omega); rw [show tot s (k+1)=tot s k+(s.lv k).length from rfl] at this; simp only [fO,Value.bool.injEq]; symm; rw [decide_eq_true_eq]; omega⟩
  have c2k:=c2
  try simp only [aC] at c2
  refine .g (fZ rfl dI rfl (iW rfl cS rfl rfl ?_))
  refine lO rfl cM rfl .here (s.cell_lv hd (k:=k) (by omega)) ?_
  refine lE rfl fH rfl (aR rfl rfl rfl rfl ?_)
  refine .g (aR rfl rfl rfl rfl ?_)
  refine .g (aP (k+1) ?_ ?_ ?_ ?_ ?_)
  ·exact (cI rfl (congrArg _ (by simp only [tot]; omega)) (aA rfl (aA rfl eZ)))
  ·exact (mS .here rfl mN)
  ·first|omega|(dsimp only; omega)
  ·exact hGl0
  exact ⟨by omega,by simp only [tot]; omega⟩
 have c1k:=c1
 try simp only [aC] at c1
 refine .exit (.xcode (.xlp (.xblk (.code (.seq (aL rfl rfl (aS rfl rfl (.nc (.ret (aM Tryz.results89 (.tmp rfl .nil) ?_))))))))))
 exact ⟨rfl,by (obtain rfl:k=5:=by omega); simp only [fO,Value.bool.injEq]; symm; rw [decide_eq_false_iff_not]; omega⟩
theorem aOc (level:Int) (h:Sh) (l:List Meta) (G:PM) (hs:SlR G 40 Meta.cells h l) (h0:0≤level) (hl:l.length*112≤140737488351232):Ct Tryz.prog 90 ([.int .i64 level,h.val l.length]:List Value).toArray G [] (fun _ μ' u=>μ'=[]∧u=.bool (tE level l)):=by
 refine Ct.of Tryz.func90 rfl Tryz.ntmps90 rfl fun w0 hs0=>?_
 refine .seq (aL rfl rfl (aS rfl rfl (.nc (.seq (.seq (aL rfl rfl (aS rfl rfl (.nc (.block ?_)))))))))
 refine aV (α:=Nat) (fun k=>[(5,true,.int .i64 (k:Int))]) (fun _=>[])
  (fun k Gl=>1≤k∧(k≤l.length∨l.length=0∧k=1)∧∀ j,j+1<k→iM level (l.getD j Meta.zero) (l.getD (j+1) Meta.zero)=true) (fun k=>l.length-k) 1 [(0,true,_),(1,true,_)] []
  (aA rfl (aA rfl (aA rfl eZ)))
  mN ?_ ?_
 ·exact ⟨by omega,by omega,fun j hj=>by omega⟩
 intro k N0 Gl0 hN0 hGl0 hF0
 try dsimp only at hF0 hN0 ⊢
 obtain ⟨hk,hk2,hall⟩:=hF0
 refine .g (lE rfl fH rfl (cP rfl rfl rfl rfl (.g (cD rfl (fun c1=>?_) (fun c1=>?_)))))
 ·have c1k:=c1
  try simp only [aC] at c1
  refine .g (bA (mc:=⟨false,false⟩) [0,1,2,3,4,5,6,7,8,9,10,11,12,13,14,15,16,17,18,19,20,21,22,23,24,25,26,27,28,29,30,31,32,33] aX (by kernel_rfl) ?_)
  refine .p (cP rfl rfl rfl rfl (mV rfl rfl (mv rfl (.t rfl rfl) (.u rfl) (mv rfl (.t rfl rfl) (.u rfl) (ar rfl (.t rfl rfl) (.s rfl) (.u rfl) rfl (fun hc=>bO (by omega) (by omega)) ?_)))))
  refine ih rfl (.t rfl rfl) aY (.s rfl) (.s rfl) (fun hc=>by omega) (fun hc=>by omega) (fun hc=>hs.nn (k:=k) (by omega)) ?_
  refine fa rfl (.t rfl rfl) iR (.s rfl) (ld rfl (.t rfl rfl) bD (.s rfl) (fun hc=>((hs.mono hGl0).gat (k-1) (by omega) (by omega) 3 _ rfl).rd) ?_)
  refine mv rfl (.t rfl rfl) (.u rfl) (mv rfl (.t rfl rfl) (.u rfl) (ih rfl (.t rfl rfl) aY (.s rfl) (.s rfl) (fun hc=>by omega) (fun hc=>by omega) (fun hc=>hs.nn (k:=k) (by omega)) ?_))
  refine fa rfl (.t rfl rfl) iR (.s rfl) (ld rfl (.t rfl rfl) bD (.s rfl) (fun hc=>((hs.mono hGl0).gat k (by omega) (by omega) 3 _ rfl).rd) ?_)
  refine cp rfl (.t rfl rfl) (.s rfl) (.s rfl) rfl (bR rfl .no (.u rfl) (.s rfl) (mV rfl rfl (mv rfl (.f rfl rfl) (.u rfl) (cp rfl (.f rfl rfl) (.s rfl) (.u rfl) rfl (mv rfl (.f rfl rfl) (.s rfl) (mv rfl (.tc rfl rfl) (.u rfl) (mv rfl (.tc rfl rfl) (.u rfl) (ar rfl (.tc rfl rfl) (.s rfl) (.u rfl) rfl (fun hc=>bO (by omega) (by omega)) ?_))))))))
  refine ih rfl (.tc rfl rfl) aY (.s rfl) (.s rfl) (fun hc=>by omega) (fun hc=>by omega) (fun hc=>hs.nn (k:=k) (by omega)) ?_
  refine fa rfl (.tc rfl rfl) qA (.s rfl) (ld rfl (.tc rfl rfl) iE (.s rfl) (fun hc=>((hs.mono hGl0).gat (k-1) (by omega) (by omega) 7 _ rfl).rd) ?_)
  refine mv rfl (.tc rfl rfl) (.u rfl) (mv rfl (.tc rfl rfl) (.u rfl) (ih rfl (.tc rfl rfl) aY (.s rfl) (.s rfl) (fun hc=>by omega) (fun hc=>by omega) (fun hc=>hs.nn (k:=k) (by omega)) ?_))
  refine fa rfl (.tc rfl rfl) mM (.s rfl) (ld rfl (.tc rfl rfl) iE (.s rfl) (fun hc=>((hs.mono hGl0).gat k (by omega) (by omega) 6 _ rfl).rd) ?_)
  refine cs rfl (.tc rfl rfl) (.s rfl) (.s rfl) rfl (bR rfl (.f rfl rfl) (.s rfl) (.s rfl) (cK rfl .no (.u rfl) (.s rfl) (.g (cD rfl (fun c2=>?_) (fun c2=>?_)))))
  ·have c2k:=c2
   try simp only [aC] at c2
   refine .seq (aL rfl rfl (aS rfl rfl (.nc (.ret (aM Tryz.results90 (.tmp rfl .nil) ?_)))))
   exact ⟨rfl,aOZ hk (by omega) (by simpa using aJs h0 c2k)⟩
  have c2k:=c2
  try simp only [aC] at c2
  refine .g (aR rfl rfl rfl rfl ?_)
  refine .g (aP (k+1) ?_ ?_ ?_ ?_ ?_)
  ·exact (aA rfl (aA rfl (aA rfl eZ)))
  ·exact mN
  ·first|omega|(dsimp only; omega)
  ·exact hGl0
  exact ⟨by omega,by omega,aOa hall hk (by simpa using aJs h0 c2k)⟩
 have c1k:=c1
 try simp only [aC] at c1
 refine .exit (.xcode (.xlp (.xblk (.code (.seq (aL rfl rfl (aS rfl rfl (.nc (.ret (aM Tryz.results90 (.tmp rfl .nil) ?_))))))))))
 exact ⟨rfl,aOb (by omega) hall⟩
theorem aLT (s:State) (hd:Nat→Sh) (G:PM) (hs:StR G s hd) (hf:tot s 5≤1024):Ct Tryz.prog 92 ([s.val hd]:List Value).toArray G [] (fun G' μ' u=>μ'=[]∧∃ h:Sh,u=h.val (bZ s 5).length∧SlR G' 40 Meta.cells h (bZ s 5)):=by
 refine Ct.of Tryz.func92 rfl Tryz.ntmps92 rfl fun w0 hs0=>?_
 refine .seq (bJ rfl rfl ?_)
 refine bX rfl rfl rfl ?_; intro b1
 refine aS rfl rfl (.nc (.seq (aL rfl rfl (aS rfl rfl (.nc (.seq (.seq (aL rfl rfl (aS rfl rfl (.nc (.block (aAU 98 40 ?_))))))))))))
 refine aV (α:=Nat×Value) (fun gh=>[(3,true,gh.2),(4,true,.int .i64 (gh.1:Int))]) (fun gh=>[.row gh.2 98 40 (bZ s gh.1).length ((bZ s gh.1).flatMap Meta.cells)])
  (fun gh Gl=>gh.1≤5) (fun gh=>5-gh.1) (0,.slice none 0 0) [(1,true,_)] [.blk b1 _]
  (aA rfl (aA rfl (aA rfl eZ)))
  (mS .here rfl (mS .here rfl mN)) ?_ ?_
 ·show 0≤5; omega
 intro gh N0 Gl0 hN0 hGl0 hF0
 obtain ⟨k,v⟩:=gh; dsimp only at hF0 hN0 ⊢
 have hk:k≤5:=hF0; have hn:=xX s (show k≤5 by omega); have hal:=zC s k
 refine .g (cP rfl rfl rfl rfl (.g (cD rfl (fun c1=>?_) (fun c1=>?_))))
 ·have c1k:=c1
  try simp only [aC] at c1
  refine .skip (.code (.seq (.block (rZ rfl rfl ?_))))
  have hn1:=xX s (show k+1≤5 by omega); rw [show tot s (k+1)=tot s k+(s.lv k).length from rfl] at hn1
  refine .p (fZ rfl dI rfl (iW rfl cS rfl rfl ?_))
  refine lO rfl cM rfl aE (s.cell_lv hd (k:=k) (by omega)) ?_
  refine ap rfl aY cT rfl (.u rfl) (.u rfl) .here (uO (aDX _)) (fun h=>⟨_,_,(hs.lv k (by omega)).nn h,((hs.lv k (by omega)).mono hGl0 |>.flat (aDX _)).rd⟩) (tB _) (by omega) (by unfold maxLen; omega) ?_; intro v14
  refine .g (aR rfl rfl rfl rfl ?_)
  refine .g (aP (k+1,v14) ?_ ?_ ?_ ?_ ?_)
  ·exact (aA rfl (aA rfl (aA rfl eZ)))
  ·exact (mS .here (aLS s k _ _) (mS .here rfl mN))
  ·first|omega|(dsimp only; omega)
  ·exact hGl0
  show k+1≤5; omega
 have c1k:=c1
 try simp only [aC] at c1
 refine .exit (.xcode (.xlp (.xblk (.code (.seq (bJ rfl rfl (mV rfl rfl (aS rfl rfl (.nc (.ret (aR7 .here (fun b hb=>by cases hb) ?_)))))))))))
 intro Gf hh hlef hv hcap hnn hrd; subst hv
 refine aM Tryz.results92 (.tmp rfl .nil) ?_
 obtain rfl:k=5:=by omega
 exact ⟨rfl,hh,rfl,SlR.ofRow (aDX _) hcap hnn hrd⟩
theorem vY:jF Tryz.prog 5 3=some .i64:=by kernel_rfl
theorem tU:cO Tryz.prog 33 3=some 7:=by kernel_rfl
theorem yK:cO Tryz.prog 33 4=some 8:=by kernel_rfl
theorem tT:cO Tryz.prog 33 1=some 5:=by kernel_rfl
theorem eQ:dJ Tryz.prog 33=some (some 14):=by kernel_rfl
theorem aTk:aU Tryz.prog 89=true:=by kernel_rfl
theorem aTl:aU Tryz.prog 90=true:=by kernel_rfl
theorem dF:dJ Tryz.prog 98=some (some 40):=by kernel_rfl
theorem aTm:aU Tryz.prog 91=true:=by kernel_rfl
theorem aTn:aU Tryz.prog 92=true:=by kernel_rfl
theorem aCL:dJ Tryz.prog 30=some (some 5):=by kernel_rfl
theorem qD:iD Tryz.prog 98=some (Meta.zero.cells):=by kernel_rfl
theorem jP:dL Tryz.prog 98=some 40:=by kernel_rfl
theorem aEt:zY Tryz.prog 154=some (.u64,3):=by kernel_rfl
theorem aKy:(Tryz.prog.info? 3).bind (·.zero)=some (.int .i64 0):=by kernel_rfl
theorem aTq:aU Tryz.prog 97=true:=by kernel_rfl
theorem aTr:aU Tryz.prog 98=true:=by kernel_rfl
set_option maxHeartbeats 1000000 in
theorem aHy (s:State) (hd:Nat→Sh) (G:PM) (hs:StR G s hd):Ct Tryz.prog 48 ([s.val hd]:List Value).toArray G [] (fun _ μ' u=>μ'=[]∧u=.bool (fG s)):=by
 refine Ct.of Tryz.func48 rfl Tryz.ntmps48 rfl fun w0 hs0=>?_
 refine .seq (bJ rfl rfl ?_)
 refine bX rfl rfl rfl ?_; intro b1
 refine .g (fZ rfl tU rfl (lO rfl bD rfl .here rfl ?_))
 refine cP rfl rfl rfl rfl (.p (fz rfl (.f rfl rfl) yK (.u rfl) (ld rfl (.f rfl rfl) bD (.s rfl) (fun _=>Rd.own .here rfl) ?_)))
 refine cp rfl (.f rfl rfl) (.s rfl) (.u rfl) rfl (cK rfl .no (.u rfl) (.s rfl) (.p (fz rfl (.f rfl rfl) tT (.u rfl) (ld rfl (.f rfl rfl) bD (.s rfl) (fun _=>Rd.own .here rfl) ?_))))
 refine fz rfl (.f rfl rfl) rE (.u rfl) (ld rfl (.f rfl rfl) bD (.s rfl) (fun _=>Rd.own .here rfl) ?_)
 refine cp rfl (.f rfl rfl) (.s rfl) (.s rfl) rfl (cK rfl .no (.u rfl) (.s rfl) (.p (lA rfl (.f rfl rfl) eQ (.u rfl) (fun _=>RdN.own .here) (fun _=>rfl) ?_)))
 refine kv rfl (.f rfl rfl) aTk (Eva.cons (.s rfl) aF) (fun hc=>aNv _ _ _ (by assumption)) ?_
 refine cK rfl .no (.u rfl) (.s rfl) (.g (cD rfl (fun c1=>?_) (fun c1=>?_)))
 ·have c1k:=c1
  try simp only [aC] at c1
  refine .seq (aL rfl rfl (aS rfl rfl (.nc (.ret (aM Tryz.results48 (.tmp rfl .nil) ?_)))))
  exact ⟨rfl,uM (aQJ c1)⟩
 have c1k:=c1
 try simp only [aC] at c1
 refine .skip (.code (.seq (.seq (aL rfl rfl (aS rfl rfl (.nc (.block ?_)))))))
 refine aV (α:=Nat) (fun i=>[(3,true,.int .i64 (i:Int))]) (fun _=>[])
  (fun i Gl=>i≤5∧∀ j,j<i→sJ s j (s.lv j)) (fun i=>5-i) 0 [(1,true,_)] [.blk b1 _]
  (aA rfl (aA rfl eZ))
  (mS .here rfl mN) ?_ ?_
 ·exact ⟨by omega,fun j hj=>by omega⟩
 intro i N0 Gl0 hN0 hGl0 hF0
 try dsimp only at hF0 hN0 ⊢
 obtain ⟨hi,hall⟩:=hF0
 refine .g (cP rfl rfl rfl rfl (.g (cD rfl (fun c2=>?_) (fun c2=>?_))))
 ·have c2k:=c2
  try simp only [aC] at c2
  refine .skip (.code (.seq (.block (.seq (.seq (rZ rfl rfl ?_))))))
  have hli:=hs.len i (by omega)
  refine .p (fZ rfl dI rfl (iW rfl cS rfl rfl ?_))
  refine lO rfl cM rfl .here (s.cell_lv hd (k:=i) (by omega)) ?_
  refine kV rfl aTl (aB rfl (aB rfl aF)) (aOc _ _ _ _ ((hs.mono hGl0).lv i (by omega)) (by omega) hli) ?_
  refine nt rfl .no (.u rfl) (.g (cD rfl (fun c3=>?_) (fun c3=>?_)))
  ·have c3k:=c3
   try simp only [aC] at c3
   refine .seq (aL rfl rfl (aS rfl rfl (.nc (.ret (aM Tryz.results48 (.tmp rfl .nil) ?_)))))
   exact ⟨rfl,uM (aQM (by omega) c3)⟩
  have c3k:=c3
  try simp only [aC] at c3
  refine .skip (.code (.seq (aL rfl rfl (aS rfl rfl (.nc (.block ?_))))))
  refine aV (α:=Nat) (fun k=>[(4,true,.int .i64 (k:Int))]) (fun _=>[])
   (fun k Gl=>k≤(s.lv i).length∧∀ j,j<k→((s.lv i).getD j Meta.zero).level=i∧good s ((s.lv i).getD j Meta.zero)=true) (fun k=>(s.lv i).length-k) 0 [(1,true,_),(3,true,_)] [.blk b1 _]
   (aA rfl (aA rfl (aA rfl eZ)))
   (mS .here rfl mN) ?_ ?_
  ·exact ⟨by omega,fun j hj=>by omega⟩
  intro k N1 Gl1 hN1 hGl1 hF1
  try dsimp only at hF1 hN1 ⊢
  obtain ⟨hk,hgood⟩:=hF1
  refine .g (fZ rfl dI rfl (iW rfl cS rfl rfl ?_))
  refine lO rfl cM rfl .here (s.cell_lv hd (k:=i) (by omega)) ?_
  refine lE rfl fH rfl (cP rfl rfl rfl rfl (.g (cD rfl (fun c4=>?_) (fun c4=>?_))))
  ·have c4k:=c4
   try simp only [aC] at c4
   refine .g (bA (mc:=⟨false,false⟩) [0,1,2,3,4,5,6,7,8,9,10,11,12,13,14,15,16,17,18,19,20,21,22] aX (by kernel_rfl) ?_)
   have hwf:=(hs.wf i (by omega) _ (qM (k:=k) (by omega))).level
   refine .p (fZ rfl dI rfl (iW rfl cS rfl rfl ?_))
   refine lO rfl cM rfl .here (s.cell_lv hd (k:=i) (by omega)) ?_
   refine mV rfl rfl (ih rfl .no aY (.u rfl) (.u rfl) (by omega) (by omega) (fun _=>(hs.lv i (by omega)).nn (k:=k) (by omega)) ?_)
   refine fA rfl gH rfl (ld rfl .no aZ (.u rfl) (fun _=>((((hs.mono hGl0).mono hGl1).lv i (by omega)).gat k (by omega) (by omega) 0 _ rfl).rd) ?_)
   refine cw rfl .no vY (.u rfl) (fun _=>bO (by omega) (by omega)) ?_
   refine .p (cP rfl rfl rfl rfl (.p (lA rfl (.f rfl rfl) eQ (.u rfl) (fun _=>RdN.own .here) (fun _=>rfl) ?_)))
   refine mv rfl (.f rfl rfl) (.u rfl) (fz rfl (.f rfl rfl) dI (.u rfl) (iA rfl (.f rfl rfl) cS (.s rfl) (.s rfl) (fun hc=>by omega) (fun hc=>by omega) ?_))
   refine ld rfl (.f rfl rfl) cM (.s rfl) (fun hc=>Rd.own .here (s.cell_lv hd (k:=i) (by omega))) ?_
   refine mv rfl (.f rfl rfl) (.u rfl) (ih rfl (.f rfl rfl) aY (.s rfl) (.s rfl) (fun hc=>by omega) (fun hc=>by omega) (fun hc=>(hs.lv i (by omega)).nn (k:=k) (by omega)) ?_)
   refine lA rfl (.f rfl rfl) dF (.s rfl) (fun hc=>((((hs.mono hGl0).mono hGl1).lv i (by omega)).gat k (by omega) (by omega)).rd) (fun _=>rfl) ?_
   refine kv rfl (.f rfl rfl) aTm (Eva.cons (.s rfl) (Eva.cons (.s rfl) aF)) (fun hc=>aM5 _ _ _ ((hs.mono hGl0).mono hGl1) _ hwf.1) ?_
   refine nt rfl (.f rfl rfl) (.s rfl) (cK rfl .no (.u rfl) (.s rfl) (.g (cD rfl (fun c5=>?_) (fun c5=>?_))))
   ·have c5k:=c5
    try simp only [aC] at c5
    refine .seq (aL rfl rfl (aS rfl rfl (.nc (.ret (aM Tryz.results48 (.tmp rfl .nil) ?_)))))
    exact ⟨rfl,uM (aD3 (by omega) (by omega) c5)⟩
   have c5k:=c5
   try simp only [aC] at c5
   refine .g (aR rfl rfl rfl rfl ?_)
   refine .g (aP (k+1) ?_ ?_ ?_ ?_ ?_)
   ·exact (aA rfl (aA rfl (aA rfl eZ)))
   ·exact (mS .here rfl mN)
   ·first|omega|(dsimp only; omega)
   ·exact hGl1
   exact ⟨by omega,aM6 hgood c5⟩
  have c4k:=c4
  try simp only [aC] at c4
  refine .g (aR rfl rfl rfl rfl ?_)
  refine .g (aP (i+1) ?_ ?_ ?_ ?_ ?_)
  ·exact (aA rfl (aA rfl eZ))
  ·exact (mS .here rfl mN)
  ·first|omega|(dsimp only; omega)
  ·exact hGl0.trans hGl1
  exact ⟨by omega,aNk hall c3 (by omega) hgood⟩
 have c2k:=c2
 try simp only [aC] at c2
 refine .g (lB rfl eQ rfl .here ?_)
 refine kc rfl aTn (aB rfl aF) (aLT _ _ _ (hs.mono hGl0) c1.2) ?_
 rintro v Ga μa hGa ⟨rfl,ha,rfl,hsa⟩
 refine aS rfl rfl (.nc (.seq (.seq (aL rfl rfl ?_))))
 have hal:=zC s 5
 refine aS rfl rfl (.nc (.block ?_))
 refine aV (α:=Nat) (fun p=>[(6,true,.int .i64 (p:Int))]) (fun _=>[])
  (fun p Gl=>p≤(bZ s 5).length∧∀ a b,a<p→b<a→((bZ s 5).getD a Meta.zero).number≠((bZ s 5).getD b Meta.zero).number) (fun p=>(bZ s 5).length-p) 0 [(5,true,_)] [.blk b1 _]
  (aA rfl (aA rfl eZ))
  (mS .here rfl mN) ?_ ?_
 ·exact ⟨by omega,fun a b ha hb=>by omega⟩
 intro p N2 Gl2 hN2 hGl2 hF2
 try dsimp only at hF2 hN2 ⊢
 obtain ⟨hp,hpn⟩:=hF2
 refine .g (lE rfl fH rfl (cP rfl rfl rfl rfl (.g (cD rfl (fun c6=>?_) (fun c6=>?_)))))
 ·have c6k:=c6
  try simp only [aC] at c6
  refine .skip (.code (.seq (.block (.seq (aL rfl rfl (aS rfl rfl (.nc (.block ?_))))))))
  refine aV (α:=Nat) (fun q=>[(7,true,.int .i64 (q:Int))]) (fun _=>[])
   (fun q Gl=>q≤p∧∀ b,b<q→((bZ s 5).getD p Meta.zero).number≠((bZ s 5).getD b Meta.zero).number) (fun q=>p-q) 0 [(5,true,_),(6,true,_)] [.blk b1 _]
   (aA rfl (aA rfl (aA rfl eZ)))
   (mS .here rfl mN) ?_ ?_
  ·exact ⟨by omega,fun b hb=>by omega⟩
  intro q N3 Gl3 hN3 hGl3 hF3
  try dsimp only at hF3 hN3 ⊢
  obtain ⟨hq,hqn⟩:=hF3
  refine .g (cP rfl rfl rfl rfl (.g (cD rfl (fun c7=>?_) (fun c7=>?_))))
  ·have c7k:=c7
   try simp only [aC] at c7
   refine .g (bA (mc:=⟨false,false⟩) [0,1,2,3,4,5,6,7,8,9,10] aX (by kernel_rfl) ?_)
   refine mV rfl rfl (mV rfl rfl (ih rfl .no aY (.u rfl) (.u rfl) (by omega) (by omega) (fun _=>hsa.nn (k:=p) (by omega)) ?_))
   refine fA rfl iR rfl (lN rfl bD rfl ((((hsa.mono hGl2).mono hGl3).gat p (by omega) (by omega) 3 _ rfl).rd) ?_)
   refine mV rfl rfl (mV rfl rfl (ih rfl .no aY (.u rfl) (.u rfl) (by omega) (by omega) (fun _=>hsa.nn (k:=q) (by omega)) ?_))
   refine fA rfl iR rfl (lN rfl bD rfl ((((hsa.mono hGl2).mono hGl3).gat q (by omega) (by omega) 3 _ rfl).rd) ?_)
   refine cP rfl rfl rfl rfl (.g (cD rfl (fun c8=>?_) (fun c8=>?_)))
   ·have c8k:=c8
    try simp only [aC] at c8
    refine .seq (aL rfl rfl (aS rfl rfl (.nc (.ret (aM Tryz.results48 (.tmp rfl .nil) ?_)))))
    exact ⟨rfl,uM (aQL (by omega) (by omega) c8k)⟩
   have c8k:=c8
   try simp only [aC] at c8
   refine .g (aR rfl rfl rfl rfl ?_)
   refine .g (aP (q+1) ?_ ?_ ?_ ?_ ?_)
   ·exact (aA rfl (aA rfl (aA rfl eZ)))
   ·exact (mS .here rfl mN)
   ·first|omega|(dsimp only; omega)
   ·exact hGl3
   exact ⟨by omega,aOH hqn c8k⟩
  have c7k:=c7
  try simp only [aC] at c7
  refine .g (aR rfl rfl rfl rfl ?_)
  refine .g (aP (p+1) ?_ ?_ ?_ ?_ ?_)
  ·exact (aA rfl (aA rfl eZ))
  ·exact (mS .here rfl mN)
  ·first|omega|(dsimp only; omega)
  ·exact hGl2.trans hGl3
  exact ⟨by omega,aOG hpn (by omega) hqn⟩
 have c6k:=c6
 try simp only [aC] at c6
 refine .exit (.xcode (.xlp (.xblk (.code (.seq (aL rfl rfl (aS rfl rfl (.nc (.ret (aM Tryz.results48 (.tmp rfl .nil) ?_))))))))))
 exact ⟨rfl,aF9 (aQF c1 (by omega) hall (by omega) hpn)⟩
set_option maxHeartbeats 1000000 in
theorem aJg (s:State) (hd:Nat→Sh) (G:PM) (hs:StR G s hd):Ct Tryz.prog 54 ([s.val hd]:List Value).toArray G [] (fun _ μ' u=>μ'=[]∧u=.bool (fG s)):=by
 refine Ct.of Tryz.func54 rfl Tryz.ntmps54 rfl fun w0 hs0=>?_
 refine .seq (bJ rfl rfl ?_)
 refine bX rfl rfl rfl ?_; intro b1
 refine .g (fZ rfl tU rfl (lO rfl bD rfl .here rfl ?_))
 refine fZ rfl yK rfl (lO rfl bD rfl .here rfl ?_)
 refine mA rfl .no (.u rfl) (.u rfl) ?_
 refine cP rfl rfl rfl rfl (.p (fz rfl (.f rfl rfl) tT (.u rfl) (ld rfl (.f rfl rfl) bD (.s rfl) (fun _=>Rd.own .here rfl) ?_)))
 refine fz rfl (.f rfl rfl) rE (.u rfl) (ld rfl (.f rfl rfl) bD (.s rfl) (fun _=>Rd.own .here rfl) ?_)
 refine cp rfl (.f rfl rfl) (.s rfl) (.s rfl) rfl (cK rfl .no (.u rfl) (.s rfl) (.g (cD rfl (fun c1=>?_) (fun c1=>?_))))
 ·have c1k:=c1
  try simp only [aC] at c1
  refine .seq (aL rfl rfl (aS rfl rfl (.nc (.ret (aM Tryz.results54 (.tmp rfl .nil) ?_)))))
  exact ⟨rfl,uM (aQK c1)⟩
 have c1k:=c1
 try simp only [aC] at c1
 refine .skip (.code (.seq (bJ rfl rfl ?_)))
 refine mk rfl .u64 ?_; intro b22
 refine .g (fZ rfl dI rfl (lA rfl .no aCL (.u rfl) (fun _=>RdN.part (n:=5) aE rfl) (fun _=>rfl) ?_))
 refine mV rfl rfl (.nc (.block ?_))
 refine aV (α:=Nat) (fun i=>[(4,true,.int .i64 (1024-tot s i)),(25,true,.int .i64 (i:Int))]) (fun i=>[.mp b22 .u64 (nM (jG (bZ s i)))])
  (fun i Gl=>i≤5∧tot s i≤1024∧(∀ j,j<i→sJ s j (s.lv j))∧sE (bZ s i)) (fun i=>5-i) 0 [(1,true,_),(3,true,_),(24,true,_)] [.blk b1 _]
  (aA rfl (aA rfl (aA rfl (aA rfl (aA rfl eZ)))))
  (mS .here rfl (mS .here rfl mN)) ?_ ?_
 ·exact ⟨by omega,by simp [tot],fun j hj=>by omega,aMX⟩
 intro i N0 Gl0 hN0 hGl0 hF0
 try dsimp only at hF0 hN0 ⊢
 obtain ⟨hi,ht,hall,hdi⟩:=hF0
 refine .g (cP rfl rfl rfl rfl (.g (cD rfl (fun c2=>?_) (fun c2=>?_))))
 ·have c2k:=c2
  try simp only [aC] at c2
  refine .skip (.code (.seq (.block (.seq (gK rfl rfl ?_)))))
  have hli:=hs.len i (by omega); have htn:=xY s i
  refine .p (ix rfl .no cS cM (.u rfl) (.u rfl) (by omega) (by omega) (fun _=>(s.arr_lv hd (k:=i) (by omega))) ?_)
  refine .g (lE rfl fH rfl (.p (cP rfl rfl rfl rfl (.g (cD rfl (fun c3=>?_) (fun c3=>?_))))))
  ·have c3k:=c3
   try simp only [aC] at c3
   refine .seq (aL rfl rfl (aS rfl rfl (.nc (.ret (aM Tryz.results54 (.tmp rfl .nil) ?_)))))
   exact ⟨rfl,uM (aQI (by omega) c3)⟩
  have c3k:=c3
  try simp only [aC] at c3
  refine .g (lE rfl fH rfl (aR rfl rfl rfl rfl ?_))
  refine .g (lE rfl fH rfl (mV rfl rfl (.nc (.block ?_))))
  refine aV (α:=Nat) (fun k=>[(39,true,.int .i64 (k:Int))]) (fun k=>[.mp b22 .u64 (nM (jG (bZ s i++(s.lv i).take k)))])
   (fun k Gl=>Part s i k) (fun k=>(s.lv i).length-k) 0 [(1,true,_),(3,true,_),(4,true,_),(5,true,_),(6,true,_),(24,true,_),(25,true,_),(37,true,_),(38,true,_)] [.blk b1 _]
   (aA rfl (aA rfl (aA rfl (aA rfl (aA rfl (aA rfl (aA rfl (aA rfl (aA rfl (aA rfl eZ))))))))))
   (mS .here (aMC s i _) (mS .here rfl mN)) ?_ ?_
  ·exact Part.zero hdi
  intro k N1 Gl1 hN1 hGl1 hF1
  try dsimp only at hF1 hN1 ⊢
  have hP:Part s i k:=hF1; have hkl:=hP.le
  refine .g (cP rfl rfl rfl rfl (.g (cD rfl (fun c4=>?_) (fun c4=>?_))))
  ·have c4k:=c4
   try simp only [aC] at c4
   refine .skip (.code (.seq (.block (.seq (gL rfl rfl ?_)))))
   have hwf:=(hs.wf i (by omega) _ (qM (k:=k) (by omega))).level; have hcb:=aL4 (jG (bZ s i++(s.lv i).take k)) ((s.lv i).getD k Meta.zero).number
   refine mV rfl rfl (ih rfl .no aY (.u rfl) (.u rfl) (by omega) (by omega) (fun _=>(hs.lv i (by omega)).nn (k:=k) (by omega)) ?_)
   refine lA rfl .no dF (.u rfl) (fun _=>((((hs.mono hGl0).mono hGl1).lv i (by omega)).gat k (by omega) (by omega)).rd) (fun _=>rfl) ?_
   refine al rfl qD ?_; intro b8
   refine .p (sw rfl (.u rfl) (.u rfl) rfl jP .here rfl (Meta.one _) ?_)
   refine .g (fZ rfl iR rfl (lO rfl bD rfl .here rfl ?_))
   refine lk rfl .no aEt aKy (.u rfl) (.u rfl) aE (aL5 _ _) ?_
   refine aR rfl rfl rfl rfl ?_
   refine mu rfl aEt (.u rfl) (.u rfl) (.u rfl) aE ?_
   refine .g (bA (mc:=⟨false,false⟩) [0,1,2,3,4,5,6,7,8,9,10,11,12,13,14,15,16,17,18,19,20,21,22,23,24,25,26,27,28,29,30] aX (by kernel_rfl) ?_)
   refine fZ rfl gH rfl (lO rfl aZ rfl aE rfl ?_)
   refine cw rfl .no vY (.u rfl) (fun _=>bO (by omega) (by omega)) ?_
   refine .p (cP rfl rfl rfl rfl (.p (lA rfl (.f rfl rfl) dF (.u rfl) (fun _=>RdN.own aE) (fun _=>rfl) ?_)))
   refine kp rfl (.f rfl rfl) aTq (aB rfl (Eva.cons (.s rfl) aF)) (Gp.add aN Gp.nil) (fun hc hle hq=>aMq s hd _ b1 _ RdNP.add hwf.1) ?_
   refine nt rfl (.f rfl rfl) (.s rfl) (cK rfl .no (.u rfl) (.s rfl) (mV rfl rfl (mv rfl (.f rfl rfl) (.u rfl) (fz rfl (.f rfl rfl) iR (.u rfl) (ld rfl (.f rfl rfl) bD (.s rfl) (fun _=>Rd.own aE rfl) ?_)))))
   refine lk rfl (.f rfl rfl) aEt aKy (.s rfl) (.s rfl) .here (aMB _ _ _ _) ?_
   refine cp rfl (.f rfl rfl) (.s rfl) (.u rfl) rfl (cK rfl .no (.u rfl) (.s rfl) (mV rfl rfl (mv rfl (.f rfl rfl) (.u rfl) (cp rfl (.f rfl rfl) (.s rfl) (.u rfl) rfl (mv rfl (.f rfl rfl) (.s rfl) (mv rfl (.tc rfl rfl) (.u rfl) (mv rfl (.tc rfl rfl) (.u rfl) (ar rfl (.tc rfl rfl) (.s rfl) (.u rfl) rfl (fun hc=>bO (by omega) (by omega)) ?_))))))))
   refine ih rfl (.tc rfl rfl) aY (.s rfl) (.s rfl) (fun hc=>by simp only [Bool.and_eq_true,decide_eq_true_eq] at hc; omega) (fun hc=>by simp only [Bool.and_eq_true,decide_eq_true_eq] at hc; omega) (fun hc=>(hs.lv i (by omega)).nn (k:=k) (by omega)) ?_
   refine lA rfl (.tc rfl rfl) dF (.s rfl) (fun hc=>((((hs.mono hGl0).mono hGl1).lv i (by omega)).gat (k-1) (by simp only [Bool.and_eq_true,decide_eq_true_eq] at hc; omega) (by omega)).rd) (fun _=>rfl) ?_
   refine lA rfl (.tc rfl rfl) dF (.u rfl) (fun _=>RdN.own aE) (fun _=>rfl) ?_
   refine kv rfl (.tc rfl rfl) aTr (Eva.cons (.s rfl) (Eva.cons (.s rfl) aF)) (fun hc=>aRL _ _ _ (hs.wf i (by omega) _ (qM (by simp only [Bool.and_eq_true,decide_eq_true_eq] at hc; omega))).level.1) ?_
   refine nt rfl (.tc rfl rfl) (.s rfl) (bR rfl (.f rfl rfl) (.s rfl) (.s rfl) (cK rfl .no (.u rfl) (.s rfl) (.g (cD rfl (fun c5=>?_) (fun c5=>?_)))))
   ·have c5k:=c5
    try simp only [aC] at c5
    refine .seq (aL rfl rfl (aS rfl rfl (.nc (.ret (aM Tryz.results54 (.tmp rfl .nil) ?_)))))
    exact ⟨rfl,uM (aQN (by omega) (by omega) hP c5k)⟩
   have c5k:=c5
   try simp only [aC] at c5
   refine .g (aR rfl rfl rfl rfl ?_)
   refine mV rfl rfl (.nil ?_)
   have hst:=aQO (by omega) hP c5k
   refine aP (k+1) ?_ ?_ ?_ ?_ ?_
   ·exact (aA rfl (aA rfl (aA rfl (aA rfl (aA rfl (aA rfl (aA rfl (aA rfl (aA rfl (aA rfl eZ))))))))))
   ·exact (mS .here (aMA (by omega) hst.2) (mS aE rfl mN))
   ·first|omega|(dsimp only; omega)
   ·exact hGl1
   exact hst.1
  have c4k:=c4
  try simp only [aC] at c4
  refine .g (aR rfl rfl rfl rfl ?_)
  refine .g (aP (i+1) ?_ ?_ ?_ ?_ ?_)
  ·exact (cI rfl (congrArg _ (by rw [show tot s (i+1)=tot s i+(s.lv i).length from rfl]; omega)) (aA rfl (aA rfl (aA rfl (aA rfl eZ)))))
  ·exact (mS .here (aL7 (by omega)) (mS .here rfl mN))
  ·first|omega|(dsimp only; omega)
  ·exact hGl0.trans hGl1
  exact ⟨by omega,by rw [show tot s (i+1)=tot s i+(s.lv i).length from rfl]; omega,fun j hj=>(by by_cases e:j=i; (subst e; exact hP.lvOk (by omega)); exact hall j (by omega)),hP.next (by omega)⟩
 have c2k:=c2
 try simp only [aC] at c2
 refine .exit (.xcode (.xlp (.xblk (.code (.seq (aL rfl rfl (aS rfl rfl (.nc (.ret (aM Tryz.results54 (.tmp rfl .nil) ?_))))))))))
 exact ⟨rfl,aF9 (aQG c1 (by omega) ht hall hdi)⟩
theorem zT (h:Sh) (l:List Meta) (G:PM) (hs:SlR G 40 Meta.cells h l) (hl:l.length*112≤140737488351232) (f:Nat) (hf:aU Tryz.prog f=true) (vc:List Value) (p:Meta→Bool) (hc:∀ G',PM.le G G'→∀ m∈l,Ct Tryz.prog f ([m.val]++vc).toArray G' [] fun _ μ' u=>μ'=[]∧u=.bool (p m)):Ct Tryz.prog 57 ([h.val l.length,.func (.func f) #[] vc.toArray]:List Value).toArray G [] (fun _ μ' u=>μ'=[]∧u=.int .i64 (fD p l)):=by
 refine Ct.of Tryz.func57 rfl Tryz.ntmps57 rfl fun w0 hs0=>?_
 refine .g (lE rfl fH rfl (mV rfl rfl (.nc (.block ?_))))
 refine aV (α:=Nat) (fun k=>[(8,true,.int .i64 (k:Int))]) (fun _=>[])
  (fun k Gl=>k≤l.length∧∀ j,j<k→p (l.getD j Meta.zero)=false) (fun k=>l.length-k) 0 [(0,true,_),(1,true,_),(7,true,_)] []
  (aA rfl (aA rfl (aA rfl (aA rfl eZ))))
  mN ?_ ?_
 ·exact ⟨by omega,fun j hj=>by omega⟩
 intro k N0 Gl0 hN0 hGl0 hF0
 try dsimp only at hF0 hN0 ⊢
 obtain ⟨hk,hno⟩:=hF0
 refine .g (cP rfl rfl rfl rfl (.g (cD rfl (fun c1=>?_) (fun c1=>?_))))
 ·have c1k:=c1
  try simp only [aC] at c1
  refine .skip (.code (.seq (.block (.seq (bJ rfl rfl (mV rfl rfl (aS rfl rfl (.nc (.seq (gL rfl rfl (mV rfl rfl (mV rfl rfl (mV rfl rfl (ih rfl .no aY (.u rfl) (.u rfl) (by omega) (by omega) (fun _=>hs.nn (k:=k) (by omega)) ?_))))))))))))))
  refine lA rfl .no dF (.u rfl) (fun _=>((hs.mono hGl0).gat k (by omega) (by omega)).rd) (fun _=>rfl) ?_
  refine kf rfl .no (.u rfl) hf (aB rfl aF) (fun _=>hc _ hGl0 _ (qM (k:=k) (by omega))) ?_
  refine .g (cD rfl (fun c2=>?_) (fun c2=>?_))
  ·have c2k:=c2
   try simp only [aC] at c2
   refine .seq (bJ rfl rfl (mV rfl rfl (aS rfl rfl (.nc (.ret (aM Tryz.results57 (.tmp rfl .nil) ?_))))))
   exact ⟨rfl,aGd (by omega) hno c2k⟩
  have c2k:=c2
  try simp only [aC] at c2
  refine .g (aR rfl rfl rfl rfl ?_)
  refine .g (aP (k+1) ?_ ?_ ?_ ?_ ?_)
  ·exact (aA rfl (aA rfl (aA rfl (aA rfl eZ))))
  ·exact mN
  ·first|omega|(dsimp only; omega)
  ·exact hGl0
  exact ⟨by omega,aGf hno c2k⟩
 have c1k:=c1
 try simp only [aC] at c1
 refine .exit (.xcode (.xlp (.xblk (.code (.seq (aL rfl rfl (aS rfl rfl (.nc (.ret (aM Tryz.results57 (.tmp rfl .nil) ?_))))))))))
 exact ⟨rfl,aGe (by omega) hno⟩
theorem aKT:aU Tryz.prog 106=true:=by kernel_rfl
theorem aK7 (xs:List Y) (h:Sh) (G:PM) (hs:SlR G 1 aQ h xs) (n:BitVec 64) (hl:xs.length≤100000000000000):Ct Tryz.prog 106 ([h.val xs.length,uv .u64 n]:List Value).toArray G [] (PR 5 (fun L=>L=xs++bP n.toNat)):=by
 refine Ct.of Tryz.func106 rfl Tryz.ntmps106 rfl fun w0 hs0=>?_
 have ln:=gZ n.isLt
 refine .seq (aL rfl rfl (aS rfl rfl (.nc (.seq (gK rfl rfl ?_)))))
 refine oF rfl aI ?_; intro b6
 refine .p (oD rfl aI bF (.u rfl) (.u rfl) .here hs.sc (by (try simp only [bM,bK]); omega) ?_)
 intro v8 L8 _ ov8 eL8
 have lL8:L8.length=xs.length:=by rw [eL8]
 refine aS rfl rfl (.nc (.seq (.block ?_)))
 refine aV (α:=BitVec 64×Value×List Y) (fun gh=>[(1,true,uv .u64 gh.1),(5,true,gh.2.1)]) (fun gh=>[rB gh.2.1 5 gh.2.2])
  (fun gh Gl=>(gh.2.2++bP gh.1.toNat=xs++bP n.toNat)) (fun gh=>gh.1.toNat) (n,v8,L8) [] []
  (aA rfl (aA rfl eZ))
  (mS .here rfl mN) ?_ ?_
 ·(try dsimp only)<;>(rw [eL8])
 intro gh N0 Gl0 hN0 hGl0 hF0
 obtain ⟨m,v,L⟩:=gh; dsimp only at hF0 hN0 ⊢
 have eq:=hF0
 have tq:@BitVec.toNat IntKind.u64.bits m=m.toNat:=rfl
 have lq:=congrArg List.length eq
 simp only [List.length_append] at lq
 have lp:=aBj m.toNat
 refine .g (cP rfl rfl rfl rfl (.g (cD rfl (fun c1=>?_) (fun c1=>?_))))
 ·have c1k:=c1
  try simp only [aC,aG,aD] at c1
  refine .g (cu (k:=.u64) rfl .no rfl nY (.u rfl) ?_)
  refine bw (k:=.u8) (b:=128#8) rfl .no rfl (.u rfl) (.u rfl) rfl ?_
  refine Go.Tan.b1 rfl aI bF (.u rfl) rfl rfl (by decide) ?_; intro b17
  refine dC rfl aI bF (.u rfl) (.u rfl) aE (Sc.one .here) (by show _+1≤_; omega) ?_
  intro v18 L18 ov18 eL18
  have lL18:L18.length=L.length+1:=by rw [eL18,List.length_append]; first|rfl | simp [bK]
  refine .g (jH (k:=.u64) rfl .no (.u rfl) (.u rfl) (fun _=>by decide) ?_)
  refine .g (aP (m >>> 7,v18,L18) ?_ ?_ ?_ ?_ ?_)
  ·exact (aA rfl (aA rfl eZ))
  ·exact (mS .here rfl mN)
  ·(dsimp only; rw [aQv]; omega)
  ·exact hGl0
  (try dsimp only)<;>(rw [eL18,←eq,aOF (m:=m) (by omega),List.append_assoc]; rfl)
 have c1k:=c1
 try simp only [aC,aG,aD] at c1
 refine .g (cu (k:=.u64) rfl .no rfl nY (.u rfl) ?_)
 refine Go.Tan.b1 rfl aI bF (.u rfl) rfl rfl (by decide) ?_; intro b22
 refine dC rfl aI bF (.u rfl) (.u rfl) aE (Sc.one .here) (by show _+1≤_; omega) ?_
 intro v23 L23 ov23 eL23
 have lL23:L23.length=L.length+1:=by rw [eL23,List.length_append]; first|rfl | simp [bK]
 refine aS rfl rfl (.nc (.ret (We.fin Tryz.results106 (.tmp rfl .nil) (mS .here rfl mN) ?_)))
 exact ⟨L23,by rw [eL23,←eq,aOD (m:=m) (by omega)]; rfl,rfl⟩
theorem aE3 (xs:List Y) (h:Sh) (G:PM) (hs:SlR G 1 aQ h xs) (x:Int) (hx:u64 x) (hl:xs.length≤100000000000000):Ct Tryz.prog 106 ([h.val xs.length,.int .u64 x]:List Value).toArray G [] (PR 5 (fun L=>L=xs++bP x.toNat)):=by
 rw [uvI hx,←ofI hx]; exact aK7 xs h G hs _ hl
theorem aA3 (xs:List Y) (h:Sh) (G:PM) (hs:SlR G 1 aQ h xs) (s:ByteArray) (hl:xs.length+s.size≤100000000000000):Ct Tryz.prog 70 ([h.val xs.length,.string s]:List Value).toArray G [] (PR 5 (fun L=>L=xs++nD (yb s))):=by
 refine Ct.of Tryz.func70 rfl Tryz.ntmps70 rfl fun w0 hs0=>?_
 have ly:=nE s
 have ln:=gZ (n:=s.size) (by omega)
 refine .g (ls rfl .no vT (.u rfl) (cw rfl .no gG (.u rfl) (fun _=>eD (by omega) (by omega)) ?_))
 refine kc rfl aKT (aB rfl (aB rfl aF)) (jZ (aE3 xs h _ hs (s.size:Int) ⟨by omega,by omega⟩ (by omega))) ?_
 rintro v9 G9 μ9 hG9 ⟨L9,ov9,eL9,rfl⟩
 refine mV rfl rfl ?_
 have l9:L9.length=xs.length+(bP s.size).length:=by rw [eL9,List.length_append,Int.toNat_natCast]
 refine apT rfl aI vT bF (.u rfl) (.u rfl) .here (by (try simp only [List.length_append]); omega) ?_; intro v11 L11 ov11 eL11
 refine aS rfl rfl (.nc (.ret (We.fin Tryz.results70 (.tmp rfl .nil) (mS .here rfl mN) ?_)))
 exact ⟨L11,by rw [eL11,eL9,nD,ly,Int.toNat_natCast,List.append_assoc],rfl⟩
theorem aHZ (xs:List Y) (h:Sh) (G:PM) (hs:SlR G 1 aQ h xs) (hl:xs.length≤100000000000000):Ct Tryz.prog 111 ([h.val xs.length]:List Value).toArray G [] (fun _ μ' u=>∃ n k e,NumR xs n k e∧μ'=[]∧u=.tuple #[.int .u64 (n:Int),.int .i64 (k:Int),.int .i64 e]):=by
 refine Ct.of Tryz.func111 rfl Tryz.ntmps111 rfl fun w0 hs0=>?_
 refine .g (lE rfl bU rfl (mV rfl rfl (.nc (.block ?_))))
 refine aV (α:=Nat×BitVec 64) (fun gh=>[(5,true,uv .u64 gh.2),(10,true,.int .i64 (gh.1:Int))]) (fun _=>[])
  (fun gh Gl=>(gh.1≤xs.length)∧(gh.1≤9)∧(gh.2.toNat<128^gh.1)∧(dR xs=gA gh.1 gh.2.toNat (xs.drop gh.1))) (fun gh=>xs.length-gh.1) (0,0#64) [(8,true,_),(9,true,_)] []
  (aA rfl (aK rfl (aA rfl (aA rfl eZ))))
  mN ?_ ?_
 ·refine ⟨?_,?_,?_,?_⟩
  ·(try dsimp only)<;>(first|omega|rfl|assumption|(simp; done))
  ·(try dsimp only)<;>(first|omega|rfl|assumption|(simp; done))
  ·(try dsimp only)<;>(decide)
  (try dsimp only)<;>(rfl)
 intro gh N0 Gl0 hN0 hGl0 hF0
 obtain ⟨k,w⟩:=gh; dsimp only at hF0 hN0 ⊢
 obtain ⟨hk,h9,hw,e⟩:=hF0
 have hs:=hs.mono hGl0
 have tq:@BitVec.toNat IntKind.u8.bits (xs.getD k 0)=(xs.getD k 0).toNat:=rfl
 refine .g (cP rfl rfl rfl rfl (.g (cD rfl (fun c1=>?_) (fun c1=>?_))))
 ·have c1k:=c1
  try simp only [aC,aG,aD] at c1
  refine .skip (.code (.seq (.block (.seq (pW rfl rfl (mV rfl rfl (ih rfl .no aI (.u rfl) (.u rfl) (by omega) (by omega) (fun _=>hs.nn (k:=k) (by omega)) ?_)))))))
  refine lN rfl aZ rfl ((hs.yat (k) (by omega) (by omega)).rd) ?_
  refine .g (cP rfl rfl rfl rfl (mV rfl rfl (mv rfl (.t rfl rfl) (.u rfl) (cp rfl (.t rfl rfl) (.s rfl) (.u rfl) rfl (bR rfl .no (.u rfl) (.s rfl) (.g (cD rfl (fun c2=>?_) (fun c2=>?_))))))))
  ·have c2k:=c2
   try simp only [aC,aG,aD] at c2
   refine .seq (dU rfl rfl (aS rfl rfl (aS rfl rfl (aS rfl rfl (.nc (.ret (aM Tryz.results111 (.tmp rfl (.tmp rfl (.tmp rfl .nil))) ?_)))))))
   exact ⟨0,0,11,.of (aN7 e (by omega) (by omega) (by omega)),rfl,rfl⟩
  have c2k:=c2
  try simp only [aC,aG,aD] at c2
  refine .g (bw (k:=.u8) (b:=127#8) rfl .no rfl (.u rfl) (.u rfl) rfl (cu (k:=.u8) rfl .no rfl nZ (.u rfl) ?_))
  refine .p (aW (((7*k):Nat):Int) rfl rfl rfl rfl ?_)
  refine lw (k:=.u64) rfl .no rfl (.u rfl) (.u rfl) (by omega) ?_
  refine bw (k:=.u64) rfl .no rfl (.u rfl) (.u rfl) rfl (.g (cP rfl rfl rfl rfl (.g (cD rfl (fun c3=>?_) (fun c3=>?_)))))
  ·have c3k:=c3
   try simp only [aC,aG,aD] at c3
   refine .g (cP rfl rfl rfl rfl (mV rfl rfl (mv rfl (.t rfl rfl) (.u rfl) (cp rfl (.t rfl rfl) (.s rfl) (.u rfl) rfl (bR rfl .no (.u rfl) (.s rfl) (.g (cD rfl (fun c4=>?_) (fun c4=>?_))))))))
   ·have c4k:=c4
    try simp only [aC,aG,aD] at c4
    refine .seq (dU rfl rfl (aS rfl rfl (aS rfl rfl (aS rfl rfl (.nc (.ret (aM Tryz.results111 (.tmp rfl (.tmp rfl (.tmp rfl .nil))) ?_)))))))
    exact ⟨0,0,11,.of (aN9 e (by omega) (by omega) (by omega)),rfl,rfl⟩
   have c4k:=c4
   try simp only [aC,aG,aD] at c4
   refine .g (aW (((k+1):Nat):Int) rfl rfl rfl rfl ?_)
   refine aS rfl rfl (aS rfl rfl (aS rfl rfl (.nc (.ret (aM Tryz.results111 (.tmp rfl (.tmp rfl (.tmp rfl .nil))) ?_)))))
   exact ⟨_,_,0,.of (aN6 e hw h9 (by omega) (by omega) (by omega) (by omega)),rfl,rfl⟩
  have c3k:=c3
  try simp only [aC,aG,aD] at c3
  refine .g (aW (((k+1):Nat):Int) rfl rfl rfl rfl ?_)
  refine .g (aP (k+1,w ||| (xs.getD k 0 &&& 127#8).setWidth 64 <<< (7*k)) ?_ ?_ ?_ ?_ ?_)
  ·exact (aA rfl (aK rfl (aA rfl (aA rfl eZ))))
  ·exact mN
  ·first|omega|(dsimp only; omega)
  ·exact hGl0
  refine ⟨?_,?_,?_,?_⟩
  ·(try dsimp only)<;>(first|omega|rfl|assumption|(simp; done))
  ·(try dsimp only)<;>(exact (aDc e hw h9 (by omega) (by omega) (by omega)).2.2)
  ·(try dsimp only)<;>(exact (aDc e hw h9 (by omega) (by omega) (by omega)).2.1)
  (try dsimp only)<;>(exact (aDc e hw h9 (by omega) (by omega) (by omega)).1)
 have c1k:=c1
 try simp only [aC,aG,aD] at c1
 refine .exit (.xcode (.xlp (.xblk (.code (.seq (dU rfl rfl (aS rfl rfl (aS rfl rfl (aS rfl rfl (.nc (.ret (aM Tryz.results111 (.tmp rfl (.tmp rfl (.tmp rfl .nil))) ?_))))))))))))
 exact ⟨0,0,10,.of (aN8 e (by omega)),rfl,rfl⟩
theorem aKU:aU Tryz.prog 111=true:=by kernel_rfl
theorem yU:dL Tryz.prog 36=some 1:=by kernel_rfl
theorem yH:jF Tryz.prog 26 3=some .i64:=by kernel_rfl
theorem aEf:aU Tryz.prog 112=true:=by kernel_rfl
theorem aSv:aU Tryz.prog 114=true:=by kernel_rfl
theorem aLv (xs:List Y) (h:Sh) (G:PM) (hs:SlR G 1 aQ h xs) (hl:xs.length≤100000000000000):Ct Tryz.prog 33 ([h.val xs.length]:List Value).toArray G [] (fun G' μ' u=>∃ b s,μ'=[.blk b (cl [Sh.val s xs.length,.int .i64 0] 135)]∧u=.pointer (some ⟨b,0,none⟩)∧SlR G' 1 aQ s xs):=by
 refine Ct.of Tryz.func33 rfl Tryz.ntmps33 rfl fun w0 hs0=>?_
 refine .seq (aL rfl rfl (aS rfl rfl (.nc (.seq (gL rfl rfl ?_)))))
 refine oF rfl aI ?_; intro b3
 refine .p (oD rfl aI bF (.u rfl) (.u rfl) .here hs.sc (by (try simp only [bM,bK]); omega) ?_)
 intro v5 L5 _ ov5 eL5
 have lL5:L5.length=xs.length:=by rw [eL5]
 refine dK ([v5,.int .i64 0]) rfl .no aKB (.cons (.u rfl) (aBD ov5) .nil) rfl (rfl) ?_
 refine bX rfl rfl rfl ?_; intro b7
 refine aS rfl rfl (.nc (.ret ?_))
 refine aJn aE (by first|(intro b hb; cases hb; done) | simp [keys,Res.keys]) ?_; intro GfR5 hR5 hleR5 evR5 hsR5; subst evR5
 refine We.fin Tryz.results33 (.tmp rfl .nil) (mS .here rfl mN) ?_
 subst eL5
 exact ⟨b7,hR5,rfl,rfl,hsR5⟩
theorem vB (xs:List Y) (e:Int) (s:Sh) (b:Nat) (G:PM) (hs:SlR G 1 aQ s xs) (hl:xs.length≤100000000000000):Ct Tryz.prog 77 ([.pointer (some ⟨b,0,none⟩)]:List Value).toArray G [.blk b (cl [s.val xs.length,.int .i64 e] 135)] (fun G' μ' u=>∃ n L e' s',dD ⟨xs,e⟩=(n,⟨L,e'⟩)∧μ'=[.blk b (cl [Sh.val s' L.length,.int .i64 e'] 135)]∧u=.int .u64 (n:Int)∧SlR G' 1 aQ s' L):=by
 refine Ct.of Tryz.func77 rfl Tryz.ntmps77 rfl fun w0 hs0=>?_
 refine .g (pe rfl .no yT (.u rfl) (.u rfl) ?_)
 refine mV rfl rfl (mv rfl (Gd.f (b:=false) rfl rfl) (.u rfl) (nc rfl (Gd.f (b:=false) rfl rfl) (.u rfl) (fz rfl (Gd.f (b:=false) rfl rfl) rC (.u rfl) (ld rfl (Gd.f (b:=false) rfl rfl) lK (.u rfl) (fun _=>Rd.own .here (by first|exact aJ rfl|rfl)) ?_))))
 refine cp rfl (Gd.f (b:=false) rfl rfl) (.u rfl) (.u rfl) rfl (cK rfl .no (.u rfl) (.u rfl) (.g (cD rfl (fun c1=>?_) (fun c1=>?_))))
 ·have c1k:=c1
  try simp only [aC,aG,aD] at c1
  refine .seq (aL rfl rfl (aS rfl rfl (.nc (.ret (We.fin Tryz.results77 (.tmp rfl .nil) (mS .here rfl mN) ?_)))))
  exact ⟨0,xs,e,s,aH4 (by simpa using c1k),rfl,rfl,hs⟩
 have c1k:=c1
 try simp only [aC,aG,aD] at c1
 refine .g (nC rfl rfl (fZ rfl kR rfl (lO rfl cX rfl .here (by first|exact aJ rfl|rfl) ?_)))
 refine kc rfl aKU (aB rfl aF) (aHZ xs s _ hs hl) ?_
 rintro _ G20 μ20 hG20 ⟨n20,k20,e20,hN,rfl,rfl⟩
 have hNl:=hN.le; have hNt:=hN.lt
 have hs:=hs.mono hG20
 refine .p (eX rfl rfl rfl (eX rfl rfl rfl (eX rfl rfl rfl (.g (nC rfl rfl (fZ rfl rC rfl (s1 rfl (.u rfl) (.u rfl) rfl yU .here (by first|decide|(simp only [bV,bT,bM]; omega)) (rfl) ?_)))))))
 refine .g (nC rfl rfl (fZ rfl kR rfl (lO rfl cX rfl .here (by first|exact aJ rfl|rfl) ?_)))
 refine .p (kD (k20) rfl .no aI hs (.u rfl) (.u rfl) (by omega) (by omega) ?_)
 intro h34 L34 eL34 lL34 hs34
 have lL34:=lL34 rfl
 refine nC rfl rfl (fZ rfl kR rfl (s1 rfl (.u rfl) (.u rfl) rfl nH .here (show 0<2 by decide) (rfl) ?_))
 refine .nil (.code (.seq (bJ rfl rfl (mV rfl rfl (aS rfl rfl (.nc (.ret (We.fin Tryz.results77 (.tmp rfl .nil) (mS .here rfl mN) ?_))))))))
 exact ⟨n20,L34,e20,h34,aDv (by simpa using c1k) hN eL34,rfl,rfl,hs34⟩
theorem aHz (xs:List Y) (e:Int) (s:Sh) (b:Nat) (G:PM) (hs:SlR G 1 aQ s xs) (hl:xs.length≤100000000000000) (most:Nat) (hm:most≤100000000000000):Ct Tryz.prog 113 ([.pointer (some ⟨b,0,none⟩),.int .i64 (most:Int)]:List Value).toArray G [.blk b (cl [s.val xs.length,.int .i64 e] 135)] (fun G' μ' u=>∃ M L e' s',gD most ⟨xs,e⟩=(M,⟨L,e'⟩)∧μ'=[.blk b (cl [Sh.val s' L.length,.int .i64 e'] 135)]∧u=.string (cZ M)∧SlR G' 1 aQ s' L):=by
 refine Ct.of Tryz.func113 rfl Tryz.ntmps113 rfl fun w0 hs0=>?_
 refine .g (pe rfl .no yT (.u rfl) (.u rfl) ?_)
 refine mV rfl rfl (mv rfl (Gd.f (b:=false) rfl rfl) (.u rfl) (nc rfl (Gd.f (b:=false) rfl rfl) (.u rfl) (fz rfl (Gd.f (b:=false) rfl rfl) rC (.u rfl) (ld rfl (Gd.f (b:=false) rfl rfl) lK (.u rfl) (fun _=>Rd.own .here (by first|exact aJ rfl|rfl)) ?_))))
 refine cp rfl (Gd.f (b:=false) rfl rfl) (.u rfl) (.u rfl) rfl (cK rfl .no (.u rfl) (.u rfl) (.g (cD rfl (fun c1=>?_) (fun c1=>?_))))
 ·have c1k:=c1
  try simp only [aC,aG,aD] at c1
  refine .seq (aL rfl rfl (aS rfl rfl (.nc (.ret (We.fin Tryz.results113 (.tmp rfl .nil) (mS .here rfl mN) ?_)))))
  exact ⟨[],xs,e,s,aH6 (by simpa using c1k),rfl,rfl,hs⟩
 have c1k:=c1
 try simp only [aC,aG,aD] at c1
 refine .g (nC rfl rfl (fZ rfl kR rfl (lO rfl cX rfl .here (by first|exact aJ rfl|rfl) ?_)))
 refine kc rfl aKU (aB rfl aF) (aHZ xs s _ hs hl) ?_
 rintro _ G24 μ24 hG24 ⟨n20,k20,e20,hN,rfl,rfl⟩
 have hNl:=hN.le; have hNt:=hN.lt
 have hs:=hs.mono hG24
 refine .p (eX rfl rfl rfl (eX rfl rfl rfl (eX rfl rfl rfl (.g (cP rfl rfl rfl rfl (.g (cD rfl (fun c2=>?_) (fun c2=>?_))))))))
 ·have c2k:=c2
  try simp only [aC,aG,aD] at c2
  refine .g (nC rfl rfl (fZ rfl rC rfl (s1 rfl (.u rfl) (.u rfl) rfl yU .here (by first|decide|(simp only [bV,bT,bM]; omega)) (rfl) ?_)))
  refine .nil (.code (.seq (aL rfl rfl (aS rfl rfl (.nc (.ret (We.fin Tryz.results113 (.tmp rfl .nil) (mS .here rfl mN) ?_)))))))
  exact ⟨[],xs,e20,s,aH7 (by simpa using c1k) hN (by simpa using c2k),rfl,rfl,hs⟩
 have c2k:=c2
 try simp only [aC,aG,aD] at c2
 refine .g (mAn (0) (most) rfl .no (.u rfl) (.u rfl) (by omega) (by omega) ?_)
 refine cw rfl .no gG (.u rfl) (fun _=>eD (by omega) (by omega)) ?_
 refine cP rfl rfl rfl rfl (.g (cD rfl (fun c3=>?_) (fun c3=>?_)))
 ·have c3k:=c3
  try simp only [aC,aG,aD] at c3
  refine .g (nC rfl rfl (fZ rfl rC rfl (s1 rfl (.u rfl) (.u rfl) rfl yU .here (by first|decide|(simp only [bV,bT,bM]; omega)) (rfl) ?_)))
  refine .nil (.code (.seq (aL rfl rfl (aS rfl rfl (.nc (.ret (We.fin Tryz.results113 (.tmp rfl .nil) (mS .here rfl mN) ?_)))))))
  exact ⟨[],xs,4,s,aH8 (by simpa using c1k) hN (by simpa using c2k) (by omega),rfl,rfl,hs⟩
 have c3k:=c3
 try simp only [aC,aG,aD] at c3
 refine .g (nC rfl rfl (fZ rfl kR rfl (lO rfl cX rfl .here (by first|exact aJ rfl|rfl) ?_)))
 refine lE rfl bU rfl (.p (aR rfl rfl rfl rfl ?_))
 refine cw rfl .no gG (.u rfl) (fun _=>eD (by omega) (by omega)) ?_
 refine cP rfl rfl rfl rfl (.g (cD rfl (fun c4=>?_) (fun c4=>?_)))
 ·have c4k:=c4
  try simp only [aC,aG,aD] at c4
  refine .g (nC rfl rfl (fZ rfl rC rfl (s1 rfl (.u rfl) (.u rfl) rfl yU .here (by first|decide|(simp only [bV,bT,bM]; omega)) (rfl) ?_)))
  refine .nil (.code (.seq (aL rfl rfl (aS rfl rfl (.nc (.ret (We.fin Tryz.results113 (.tmp rfl .nil) (mS .here rfl mN) ?_)))))))
  exact ⟨[],xs,10,s,aIA (by simpa using c1k) hN (by simpa using c2k) (by omega) (by omega),rfl,rfl,hs⟩
 have c4k:=c4
 try simp only [aC,aG,aD] at c4
 refine .g (cw rfl .no yH (.u rfl) (fun _=>bO (by omega) (by omega)) ?_)
 refine aW (((k20+n20):Nat):Int) rfl rfl rfl rfl ?_
 refine .g (nC rfl rfl (fZ rfl kR rfl (lO rfl cX rfl .here (by first|exact aJ rfl|rfl) ?_)))
 refine .p (kS (k20) ((k20+n20)) rfl .no aI hs (.u rfl) (.u rfl) (.u rfl) (by omega) (by omega) (by omega) (by omega) ?_)
 intro h68 L68 eL68 lL68 hs68
 have lL68:=lL68 rfl
 refine sB rfl .no mL (.u rfl) (fun _=>hs68.sc) ?_
 refine .g (nC rfl rfl (fZ rfl kR rfl (lO rfl cX rfl .here (by first|exact aJ rfl|rfl) ?_)))
 refine .p (kD ((k20+n20)) rfl .no aI hs (.u rfl) (.u rfl) (by omega) (by omega) ?_)
 intro h76 L76 eL76 lL76 hs76
 have lL76:=lL76 rfl
 refine nC rfl rfl (fZ rfl kR rfl (s1 rfl (.u rfl) (.u rfl) rfl nH .here (by first|decide|(simp only [bV,bT,bM]; omega)) (rfl) ?_))
 refine .nil (.code (.seq (bJ rfl rfl (mV rfl rfl (aS rfl rfl (.nc (.ret (We.fin Tryz.results113 (.tmp rfl .nil) (mS .here rfl mN) ?_))))))))
 obtain rfl:e=0:=by simpa using c1k
 exact ⟨L68,L76,0,h76,aH9 rfl hN (by simpa using c2k) (by omega) (by omega) eL68 eL76,rfl,rfl,hs76⟩
theorem aPM (xs:List Y) (e:Int) (s:Sh) (b:Nat) (G:PM) (hs:SlR G 1 aQ s xs) (hl:xs.length≤100000000000000):Ct Tryz.prog 34 ([.pointer (some ⟨b,0,none⟩),.int .i64 ((1:Nat):Int)]:List Value).toArray G [.blk b (cl [s.val xs.length,.int .i64 e] 135)] (fun G' μ' u=>∃ y L e' s',mC ⟨xs,e⟩=(y,⟨L,e'⟩)∧μ'=[.blk b (cl [Sh.val s' L.length,.int .i64 e'] 135)]∧u=uv .u64 (y.setWidth 64)∧SlR G' 1 aQ s' L):=by
 refine Ct.of Tryz.func34 rfl Tryz.ntmps34 rfl fun w0 hs0=>?_
 refine .g (pe rfl .no yT (.u rfl) (.u rfl) ?_)
 refine mV rfl rfl (mv rfl (Gd.f (b:=false) rfl rfl) (.u rfl) (nc rfl (Gd.f (b:=false) rfl rfl) (.u rfl) (fz rfl (Gd.f (b:=false) rfl rfl) rC (.u rfl) (ld rfl (Gd.f (b:=false) rfl rfl) lK (.u rfl) (fun _=>Rd.own .here (by first|exact aJ rfl|rfl)) ?_))))
 refine cp rfl (Gd.f (b:=false) rfl rfl) (.u rfl) (.u rfl) rfl (cK rfl .no (.u rfl) (.u rfl) (.g (cD rfl (fun c1=>?_) (fun c1=>?_))))
 ·have c1k:=c1
  try simp only [aC,aG,aD] at c1
  refine .seq (aL rfl rfl (aS rfl rfl (.nc (.ret (We.fin Tryz.results34 (.tmp rfl .nil) (mS .here rfl mN) ?_)))))
  exact ⟨0,xs,e,s,aH1 (by simpa using c1k),rfl,rfl,hs⟩
 have c1k:=c1
 try simp only [aC,aG,aD] at c1
 refine .g (cP rfl rfl rfl rfl (mV rfl rfl (mv rfl (.f rfl rfl) (.u rfl) (cp rfl (.f rfl rfl) (.s rfl) (.u rfl) rfl (cK rfl .no (.u rfl) (.s rfl) (.g (cD rfl (fun c2=>?_) (fun c2=>?_))))))))
 ·have c2k:=c2
  exact absurd c2 (by decide)
 have c2k:=c2
 try simp only [aC,aG,aD] at c2
 refine .g (nC rfl rfl (fZ rfl kR rfl (lO rfl cX rfl .here (by first|exact aJ rfl|rfl) ?_)))
 refine lE rfl bU rfl (cP rfl rfl rfl rfl (.g (cD rfl (fun c3=>?_) (fun c3=>?_))))
 ·have c3k:=c3
  try simp only [aC,aG,aD] at c3
  refine .g (nC rfl rfl (fZ rfl rC rfl (s1 rfl (.u rfl) (.u rfl) rfl yU .here (by first|decide|(simp only [bV,bT,bM]; omega)) (rfl) ?_)))
  refine .nil (.code (.seq (aL rfl rfl (aS rfl rfl (.nc (.ret (We.fin Tryz.results34 (.tmp rfl .nil) (mS .here rfl mN) ?_)))))))
  exact ⟨0,xs,10,s,aH3 (by simpa using c1k) (by omega),rfl,rfl,hs⟩
 have c3k:=c3
 try simp only [aC,aG,aD] at c3
 refine .skip (.code (.seq (aL rfl rfl (aS rfl rfl (.nc (.seq (.seq (bJ rfl rfl (mV rfl rfl (mV rfl rfl (.nc (.block ?_))))))))))))
 refine aV (α:=Nat×BitVec 64) (fun gh=>[(5,true,uv .u64 gh.2),(36,true,.int .i64 (gh.1:Int))]) (fun _=>[])
  (fun gh Gl=>(gh.1≤1)∧(gh.2=if gh.1=0 then 0#64 else (xs.getD 0 0).setWidth 64)) (fun gh=>1-gh.1) (0,0#64) [(0,true,_),(1,true,_),(35,true,_)] [_]
  (aA rfl (aK rfl (aA rfl (aA rfl (aA rfl eZ)))))
  (mS .here rfl mN) ?_ ?_
 ·refine ⟨?_,?_⟩
  ·(try dsimp only)<;>(first|omega|rfl|assumption|(simp; done))
  (try dsimp only)<;>(rfl)
 intro gh N0 Gl0 hN0 hGl0 hF0
 obtain ⟨k,m⟩:=gh; dsimp only at hF0 hN0 ⊢
 obtain ⟨hk,em⟩:=hF0
 have hs:=hs.mono hGl0
 refine .g (cP rfl rfl rfl rfl (.g (cD rfl (fun c4=>?_) (fun c4=>?_))))
 ·have c4k:=c4
  try simp only [aC,aG,aD] at c4
  refine .g (nC rfl rfl (fZ rfl kR rfl (lO rfl cX rfl .here (by first|exact aJ rfl|rfl) ?_)))
  refine mV rfl rfl (ih rfl .no aI (.u rfl) (.u rfl) (by omega) (by omega) (fun _=>hs.nn (k:=k) (by omega)) ?_)
  refine lN rfl aZ rfl ((hs.yat (k) (by omega) (by omega)).rd) ?_
  refine cu (k:=.u8) rfl .no rfl nZ (.u rfl) ?_
  refine .p (aW (((8*k):Nat):Int) rfl rfl rfl rfl ?_)
  refine lw (k:=.u64) rfl .no rfl (.u rfl) (.u rfl) (by omega) ?_
  refine bw (k:=.u64) rfl .no rfl (.u rfl) (.u rfl) rfl (.g (aW (((k+1):Nat):Int) rfl rfl rfl rfl ?_))
  refine .g (aP (k+1,m ||| (xs.getD k 0).setWidth 64 <<< (8*k)) ?_ ?_ ?_ ?_ ?_)
  ·exact (aA rfl (aK rfl (aA rfl (aA rfl (aA rfl eZ)))))
  ·exact (mS .here rfl mN)
  ·first|omega|(dsimp only; omega)
  ·exact hGl0
  refine ⟨?_,?_⟩
  ·(try dsimp only)<;>(first|omega|rfl|assumption|(simp; done))
  (try dsimp only)<;>((obtain rfl:k=0:=by omega); rw [em,if_pos rfl]; simp)
 have c4k:=c4
 try simp only [aC,aG,aD] at c4
 refine .g (nC rfl rfl (fZ rfl kR rfl (lO rfl cX rfl .here (by first|exact aJ rfl|rfl) ?_)))
 refine .p (kD (1) rfl .no aI hs (.u rfl) (.u rfl) (by omega) (by omega) ?_)
 intro h59 L59 eL59 lL59 hs59
 have lL59:=lL59 rfl
 refine nC rfl rfl (fZ rfl kR rfl (s1 rfl (.u rfl) (.u rfl) rfl nH .here (by first|decide|(simp only [bV,bT,bM]; omega)) (rfl) ?_))
 refine .nil (.code (.seq (bJ rfl rfl (mV rfl rfl (aS rfl rfl (.nc (.ret (We.fin Tryz.results34 (.tmp rfl .nil) (mS .here rfl mN) ?_))))))))
 obtain rfl:k=1:=by omega
 obtain rfl:e=0:=by simpa using c1k
 exact ⟨_,L59,0,h59,aH2 rfl (by omega) eL59,rfl,by rw [em]; rfl,hs59⟩
theorem aDr (xs:List Y) (e:Int) (s:Sh) (b:Nat) (G:PM) (hp:RdNP G b 0 [s.val xs.length,.int .i64 e]):Ct Tryz.prog 112 ([.pointer (some ⟨b,0,none⟩)]:List Value).toArray G [] (fun _ μ' u=>μ'=[]∧u=.int .i64 e):=by
 refine Ct.of Tryz.func112 rfl Tryz.ntmps112 rfl fun w0 hs0=>?_
 refine .g (pe rfl .no yT (.u rfl) (.u rfl) ?_)
 refine .g (rJ rfl rfl ?_)
 refine .g (nC rfl rfl (fZ rfl rC rfl (lN rfl lK rfl ((hp.z rfl).rd) ?_)))
 refine aS rfl rfl (.nc (.ret (aM Tryz.results112 (.tmp rfl .nil) ?_)))
 exact ⟨rfl,rfl⟩
theorem aPR (xs:List Y) (e:Int) (s:Sh) (b:Nat) (G:PM) (hp:RdNP G b 0 [s.val xs.length,.int .i64 e]):Ct Tryz.prog 114 ([.pointer (some ⟨b,0,none⟩)]:List Value).toArray G [] (fun _ μ' u=>μ'=[]∧u=.int .i64 (xs.length:Int)):=by
 refine Ct.of Tryz.func114 rfl Tryz.ntmps114 rfl fun w0 hs0=>?_
 refine .g (pe rfl .no yT (.u rfl) (.u rfl) ?_)
 refine .g (rJ rfl rfl ?_)
 refine .g (nC rfl rfl (fZ rfl kR rfl (lN rfl cX rfl ((hp.z rfl).rd) ?_)))
 refine lE rfl bU rfl (aS rfl rfl (.nc (.ret (aM Tryz.results114 (.tmp rfl .nil) ?_))))
 exact ⟨rfl,rfl⟩
theorem aPK (xs:List Y) (e:Int) (s:Sh) (b:Nat) (G:PM) (hp:RdNP G b 0 [s.val xs.length,.int .i64 e]):Ct Tryz.prog 80 ([.pointer (some ⟨b,0,none⟩)]:List Value).toArray G [] (fun _ μ' u=>μ'=[]∧u=.int .i64 (rO xs e)):=by
 refine Ct.of Tryz.func80 rfl Tryz.ntmps80 rfl fun w0 hs0=>?_
 refine .g (kV rfl aEf (aB rfl aF) (aDr xs e s b _ hp) ?_)
 refine cP rfl rfl rfl rfl (mV rfl rfl (mv rfl (.t rfl rfl) (.u rfl) (kv rfl (.t rfl rfl) aSv (Eva.cons (.s rfl) aF) (fun hc=>aPR xs e s b _ hp) ?_)))
 refine cp rfl (.t rfl rfl) (.s rfl) (.u rfl) rfl (bR rfl .no (.u rfl) (.s rfl) (.g (cD rfl (fun c1=>?_) (fun c1=>?_))))
 ·have c1k:=c1
  try simp only [aC,aD] at c1
  refine .seq (aL rfl rfl (aS rfl rfl (.nc (.ret (aM Tryz.results80 (.tmp rfl .nil) ?_)))))
  exact ⟨rfl,congrArg (Value.int .i64) (by unfold rO; rw [if_pos (by simpa using c1k)])⟩
 have c1k:=c1
 try simp only [aC,aD] at c1
 refine .g (kV rfl aEf (aB rfl aF) (aDr xs e s b _ hp) ?_)
 refine aS rfl rfl (.nc (.ret (aM Tryz.results80 (.tmp rfl .nil) ?_)))
 exact ⟨rfl,congrArg (Value.int .i64) (by unfold rO; rw [if_neg (by simpa using c1k)])⟩
theorem qF:cO Tryz.prog 63 2=some 2:=by kernel_rfl
theorem gS:cO Tryz.prog 63 1=some 1:=by kernel_rfl
theorem pC:cO Tryz.prog 63 0=some 0:=by kernel_rfl
theorem aS4:aU Tryz.prog 138=true:=by kernel_rfl
theorem aKX:aU Tryz.prog 123=true:=by kernel_rfl
theorem aTt:sbT Tryz.prog 9 24=true:=by kernel_rfl
theorem yP:aU Tryz.prog 43=true:=by kernel_rfl
theorem mO:aU Tryz.prog 44=true:=by kernel_rfl
theorem aPN (n:BitVec 64) (G:PM):Ct Tryz.prog 138 ([uv .u64 n]:List Value).toArray G [] (fun _ μ' u=>μ'=[]∧u=.int .i64 ((bP n.toNat).length:Int)):=by
 refine Ct.of Tryz.func138 rfl Tryz.ntmps138 rfl fun w0 hs0=>?_
 have ln:=gZ n.isLt
 refine .seq (aL rfl rfl (aS rfl rfl (.nc (.seq (aL rfl rfl (aS rfl rfl (.nc (.seq (.block ?_)))))))))
 refine aV (α:=Nat×BitVec 64) (fun gh=>[(0,true,uv .u64 gh.2),(3,true,.int .i64 (gh.1:Int))]) (fun _=>[])
  (fun gh Gl=>(gh.1+(bP gh.2.toNat).length=1+(bP n.toNat).length)) (fun gh=>gh.2.toNat) (1,n) [] []
  (aA rfl (aK rfl eZ))
  mN ?_ ?_
 ·(try dsimp only)<;>(rfl)
 intro gh N0 Gl0 hN0 hGl0 hF0
 obtain ⟨k,m⟩:=gh; dsimp only at hF0 hN0 ⊢
 have e:=hF0
 have tq:@BitVec.toNat IntKind.u64.bits m=m.toNat:=rfl
 have lp:=aBj m.toNat
 refine .g (cP rfl rfl rfl rfl (.g (cD rfl (fun c1=>?_) (fun c1=>?_))))
 ·have c1k:=c1
  try simp only [aC,aG,aD] at c1
  refine .g (dw (k:=.u64) (b:=128#64) rfl .no rfl (.u rfl) (.u rfl) (fun _=>show (128#64:BitVec 64)≠0#64 by decide) ?_)
  refine .g (aW (((k+1):Nat):Int) rfl rfl rfl rfl ?_)
  refine .g (aP (k+1,m / 128#64) ?_ ?_ ?_ ?_ ?_)
  ·exact (aA rfl (aK rfl eZ))
  ·exact mN
  ·(dsimp only; rw [aFs]; omega)
  ·exact hGl0
  (try dsimp only)<;>(exact aM8 e (by omega))
 have c1k:=c1
 try simp only [aC,aG,aD] at c1
 refine .exit (.xcode (.xlp (.xblk (.code (.seq (bJ rfl rfl (mV rfl rfl (aS rfl rfl (.nc (.ret (aM Tryz.results138 (.tmp rfl .nil) ?_)))))))))))
 obtain rfl:=aM7 e (by omega)
 exact ⟨rfl,rfl⟩
theorem aQD (n:BitVec 64) (G:PM):Ct Tryz.prog 123 ([uv .u64 n]:List Value).toArray G [] (PR 5 (fun L=>L=bP n.toNat)):=by
 refine Ct.of Tryz.func123 rfl Tryz.ntmps123 rfl fun w0 hs0=>?_
 have ln:=gZ n.isLt
 refine .seq (aL rfl rfl (aS rfl rfl (.nc (.seq (aL rfl rfl (aS rfl rfl (.nc (.seq (sD 5 ?_)))))))))
 refine .g (kV rfl aS4 (aB rfl aF) (aPN n _) ?_)
 refine aS rfl rfl (.nc (.seq (.seq (aL rfl rfl (aS rfl rfl (.nc (.block ?_)))))))
 refine aV (α:=Nat×Value×List Y×BitVec 64) (fun gh=>[(0,true,uv .u64 gh.2.2.2),(3,true,gh.2.1),(5,true,.int .i64 (gh.1:Int))]) (fun gh=>[rB gh.2.1 5 gh.2.2.1])
  (fun gh Gl=>(gh.1≤(bP n.toNat).length)∧(gh.2.2.1=(bP n.toNat).take gh.1)∧(gh.2.2.2.toNat=n.toNat / 128^gh.1)) (fun gh=>(bP n.toNat).length-gh.1) (0,.slice none 0 0,[],n) [(4,true,_)] []
  (aA rfl (aA rfl (aK rfl (aA rfl eZ))))
  (mS .here rfl mN) ?_ ?_
 ·refine ⟨?_,?_,?_⟩
  ·(try dsimp only)<;>(first|omega|rfl|assumption|(simp; done))
  ·(try dsimp only)<;>(rfl)
  (try dsimp only)<;>(rw [Nat.pow_zero,Nat.div_one])
 intro gh N0 Gl0 hN0 hGl0 hF0
 obtain ⟨k,v,L,m⟩:=gh; dsimp only at hF0 hN0 ⊢
 obtain ⟨hk,eL,em⟩:=hF0
 have lL:L.length=k:=by rw [eL,List.length_take]; omega
 refine .g (cP rfl rfl rfl rfl (.g (cD rfl (fun c1=>?_) (fun c1=>?_))))
 ·have c1k:=c1
  try simp only [aC,aG,aD] at c1
  refine .g (mw (k:=.u64) (b:=128#64) rfl .no (.u rfl) (.u rfl) (fun _=>show (128#64:BitVec 64)≠0#64 by decide) ?_)
  refine cu (k:=.u64) rfl .no rfl nY (.u rfl) ?_
  refine .g (aW (((k+1):Nat):Int) rfl rfl rfl rfl ?_)
  refine .p (cP rfl rfl rfl rfl (.g (cD rfl (fun c2=>?_) (fun c2=>?_))))
  ·have c2k:=c2
   try simp only [aC,aG,aD] at c2
   refine .g (bw (k:=.u8) (b:=128#8) rfl .no rfl (.u rfl) (.u rfl) rfl (aS rfl rfl (.nc (.seq (pW rfl rfl (mV rfl rfl (mV rfl rfl ?_)))))))
   refine Go.Tan.b1 rfl aI bF (.u rfl) rfl rfl (by decide) ?_; intro b25
   refine dC rfl aI bF (.u rfl) (.u rfl) aE (Sc.one .here) (by show _+1≤_; omega) ?_
   intro v26 L26 ov26 eL26
   have lL26:L26.length=L.length+1:=by rw [eL26,List.length_append]; first|rfl | simp [bK]
   refine .g (dw (k:=.u64) (b:=128#64) rfl .no rfl (.u rfl) (.u rfl) (fun _=>show (128#64:BitVec 64)≠0#64 by decide) ?_)
   refine .g (aW (((k+1):Nat):Int) rfl rfl rfl rfl ?_)
   refine .g (aP (k+1,v26,L26,m / 128#64) ?_ ?_ ?_ ?_ ?_)
   ·exact (aA rfl (aA rfl (aK rfl (aA rfl eZ))))
   ·exact (mS .here rfl mN)
   ·first|omega|(dsimp only; omega)
   ·exact hGl0
   refine ⟨?_,?_,?_⟩
   ·(try dsimp only)<;>(first|omega|rfl|assumption|(simp; done))
   ·(try dsimp only)<;>(rw [eL26]; exact aOB eL em (by omega))
   (try dsimp only)<;>(exact aFt em)
  have c2k:=c2
  try simp only [aC,aG,aD] at c2
  refine .skip (.code (.seq (pW rfl rfl (mV rfl rfl (mV rfl rfl ?_)))))
  refine Go.Tan.b1 rfl aI bF (.u rfl) rfl rfl (by decide) ?_; intro b25
  refine dC rfl aI bF (.u rfl) (.u rfl) aE (Sc.one .here) (by show _+1≤_; omega) ?_
  intro v26 L26 ov26 eL26
  have lL26:L26.length=L.length+1:=by rw [eL26,List.length_append]; first|rfl | simp [bK]
  refine .g (dw (k:=.u64) (b:=128#64) rfl .no rfl (.u rfl) (.u rfl) (fun _=>show (128#64:BitVec 64)≠0#64 by decide) ?_)
  refine .g (aW (((k+1):Nat):Int) rfl rfl rfl rfl ?_)
  refine .g (aP (k+1,v26,L26,m / 128#64) ?_ ?_ ?_ ?_ ?_)
  ·exact (aA rfl (aA rfl (aK rfl (aA rfl eZ))))
  ·exact (mS .here rfl mN)
  ·first|omega|(dsimp only; omega)
  ·exact hGl0
  refine ⟨?_,?_,?_⟩
  ·(try dsimp only)<;>(first|omega|rfl|assumption|(simp; done))
  ·(try dsimp only)<;>(rw [eL26]; exact aOC eL em (by omega) (by omega))
  (try dsimp only)<;>(exact aFt em)
 have c1k:=c1
 try simp only [aC,aG,aD] at c1
 refine .exit (.xcode (.xlp (.xblk (.code (.seq (bJ rfl rfl (mV rfl rfl (aS rfl rfl (.nc (.ret (We.fin Tryz.results123 (.tmp rfl .nil) (mS .here rfl mN) ?_)))))))))))
 obtain rfl:k=(bP n.toNat).length:=by omega
 exact ⟨L,by rw [eL,List.take_length],rfl⟩
theorem aIY (x:Int) (hx:u64 x) (G:PM):Ct Tryz.prog 123 ([.int .u64 x]:List Value).toArray G [] (PR 5 (fun L=>L=bP x.toNat)):=by
 rw [uvI hx,←ofI hx]; exact aQD _ G
theorem aIa (s:ByteArray) (G:PM) (hl:s.size≤100000000000000):Ct Tryz.prog 124 ([.string s]:List Value).toArray G [] (PR 5 (fun L=>L=nD (yb s))):=by
 refine Ct.of Tryz.func124 rfl Tryz.ntmps124 rfl fun w0 hs0=>?_
 have ly:=nE s
 have ln:=gZ (n:=s.size) (by omega)
 refine .g (ls rfl .no vT (.u rfl) (cw rfl .no gG (.u rfl) (fun _=>eD (by omega) (by omega)) ?_))
 refine kc rfl aKX (aB rfl aF) (jZ (aIY (s.size:Int) ⟨by omega,by omega⟩ _)) ?_
 rintro v7 G7 μ7 hG7 ⟨L7,ov7,eL7,rfl⟩
 refine aS rfl rfl (.nc (.seq (pW rfl rfl (mV rfl rfl (mV rfl rfl ?_)))))
 refine cvS rfl rfl aTt (.u rfl) ?_; intro G10 h10 hG10 hs10
 have l7:L7.length=(bP s.size).length:=by rw [eL7,Int.toNat_natCast]
 refine dC rfl aI bF (.u rfl) (.u rfl) .here hs10.sc (by (try simp only [bM,bK]); omega) ?_
 intro v11 L11 ov11 eL11
 have lL11:L11.length=L7.length+(yb s).length:=by rw [eL11,List.length_append]
 refine aS rfl rfl (.nc (.seq (bJ rfl rfl (mV rfl rfl (aS rfl rfl (.nc (.ret (We.fin Tryz.results124 (.tmp rfl .nil) (mS .here rfl mN) ?_))))))))
 exact ⟨L11,by rw [eL11,eL7,nD,ly,Int.toNat_natCast],rfl⟩
theorem wM (v1 v2 v3:Value) (e':Int) (b:Nat) (G:PM):Ct Tryz.prog 43 ([.pointer (some ⟨b,0,none⟩),.int .i64 e']:List Value).toArray G [.blk b (cl [v1,v2,v3] 63)] (fun _ μ' u=>μ'=[.blk b (cl [v1,v2,.int .i64 e'] 63)]∧u=.tuple #[]):=by
 refine Ct.of Tryz.func43 rfl Tryz.ntmps43 rfl fun w0 hs0=>?_
 refine .g (nC rfl rfl (fZ rfl qF rfl (s1 rfl (.u rfl) (.u rfl) rfl yU .here (show 2<3 by decide) (rfl) ?_)))
 refine .g (We.fin Tryz.results43 .nil (mS .here rfl mN) ?_)
 exact ⟨rfl,rfl⟩
set_option maxHeartbeats 1000000 in
theorem mB (B:List Y) (I:Nat) (e:Int) (s:Sh) (b:Nat) (G:PM) (hs:SlR G 1 aQ s B) (hI:I≤B.length) (hl:B.length≤100000000000000):Ct Tryz.prog 44 ([.pointer (some ⟨b,0,none⟩)]:List Value).toArray G [.blk b (cl [Sh.val s B.length,.int .i64 (I:Int),.int .i64 e] 63)] (fun G' μ' u=>∃ n I' e',dD ⟨B.drop I,e⟩=(n,⟨B.drop I',e'⟩)∧I'≤B.length∧μ'=[.blk b (cl [Sh.val s B.length,.int .i64 (I':Int),.int .i64 e'] 63)]∧u=.int .u64 (n:Int)):=by
 refine Ct.of Tryz.func44 rfl Tryz.ntmps44 rfl fun w0 hs0=>?_
 refine .g (nC rfl rfl (fZ rfl qF rfl (lO rfl lK rfl .here (by first|exact aJ rfl|rfl) ?_)))
 refine cP rfl rfl rfl rfl (.g (cD rfl (fun c1=>?_) (fun c1=>?_)))
 ·have c1k:=c1
  try simp only [aC,aG,aD] at c1
  refine .seq (aL rfl rfl (aS rfl rfl (.nc (.ret (We.fin Tryz.results44 (.tmp rfl .nil) (mS .here rfl mN) ?_)))))
  exact ⟨0,I,e,aH4 (by simpa using c1k),hI,rfl,rfl⟩
 have c1k:=c1
 try simp only [aC,aG,aD] at c1
 refine .skip (.code (.seq (aL rfl rfl (aS rfl rfl (.nc (.seq (.block ?_)))))))
 refine aV (α:=Nat) (fun k=>[(3,true,.int .i64 (k:Int))]) (fun _=>[])
  (fun k Gl=>(I+k≤B.length)∧(k≤10)∧(Lead B I k)) (fun k=>B.length-k) 0 [(0,true,_)] [_]
  (aK rfl (aA rfl eZ))
  (mS .here rfl mN) ?_ ?_
 ·refine ⟨?_,?_,?_⟩
  ·(try dsimp only)<;>(first|omega|rfl|assumption|(simp; done))
  ·(try dsimp only)<;>(first|omega|rfl|assumption|(simp; done))
  (try dsimp only)<;>(exact Lead.zero)
 intro k N0 Gl0 hN0 hGl0 hF0
 try dsimp only at hF0 hN0 ⊢
 obtain ⟨hk,h10,hld⟩:=hF0
 have hs:=hs.mono hGl0
 have tq:@BitVec.toNat IntKind.u8.bits (B.getD (I+k) 0)=(B.getD (I+k) 0).toNat:=rfl
 refine .g (bA (mc:=⟨false,false⟩) [0,1,2,3,4,5,6,7,8,9,10,11,12,13,14,15,16,17,18,19,20,21,22,23,24,25,26,27,28,29,30] aX (by kernel_rfl) ?_)
 refine .p (nC rfl rfl (fZ rfl gS rfl (lO rfl dH rfl .here (by first|exact aJ rfl|rfl) ?_)))
 refine .p (aW (((I+k):Nat):Int) rfl rfl rfl rfl ?_)
 refine .p (nC rfl rfl (fZ rfl pC rfl (lO rfl cX rfl .here (by first|exact aJ rfl|rfl) ?_)))
 refine lE rfl bU rfl (cP rfl rfl rfl rfl (mV rfl rfl (mv rfl (.t rfl rfl) (.u rfl) (cp rfl (.t rfl rfl) (.s rfl) (.u rfl) rfl (bR rfl .no (.u rfl) (.s rfl) (mV rfl rfl (mv rfl (.t rfl rfl) (.u rfl) (nc rfl (.t rfl rfl) (.s rfl) (fz rfl (.t rfl rfl) pC (.s rfl) (ld rfl (.t rfl rfl) cX (.s rfl) (fun hc=>Rd.own .here (by first|exact aJ rfl|rfl)) ?_))))))))))
 refine mv rfl (.t rfl rfl) (.u rfl) (nc rfl (.t rfl rfl) (.s rfl) (fz rfl (.t rfl rfl) gS (.s rfl) (ld rfl (.t rfl rfl) dH (.s rfl) (fun hc=>Rd.own .here (by first|exact aJ rfl|rfl)) ?_)))
 refine mv rfl (.t rfl rfl) (.u rfl) (cQ (((I+k):Nat):Int) rfl (.t rfl rfl) (.s rfl) (.s rfl) rfl (fun hc=>by (try simp only [Bool.and_eq_true,decide_eq_true_eq] at hc); omega) (fun hc=>bO (by (try simp only [Bool.and_eq_true,decide_eq_true_eq] at hc); omega) (by (try simp only [Bool.and_eq_true,decide_eq_true_eq] at hc); omega)) ?_)
 refine ih rfl (.t rfl rfl) aI (.s rfl) (.s rfl) (fun hc=>by (try simp only [Bool.and_eq_true,decide_eq_true_eq] at hc); omega) (fun hc=>by (try simp only [Bool.and_eq_true,decide_eq_true_eq] at hc); omega) (fun hc=>hs.nn (k:=(I+k)) (by (try simp only [Bool.and_eq_true,decide_eq_true_eq] at hc); omega)) ?_
 refine ld rfl (.t rfl rfl) aZ (.s rfl) (fun hc=>(hs.yat ((I+k)) (by (try simp only [Bool.and_eq_true,decide_eq_true_eq] at hc); omega) (by (try simp only [Bool.and_eq_true,decide_eq_true_eq] at hc); omega)).rd) ?_
 refine cp rfl (.t rfl rfl) (.s rfl) (.u rfl) rfl (bR rfl .no (.u rfl) (.s rfl) (.g (cD rfl (fun c2=>?_) (fun c2=>?_))))
 ·have c2k:=c2
  try simp only [aC,aG,aD] at c2
  refine .g (aW (((k+1):Nat):Int) rfl rfl rfl rfl ?_)
  refine .g (aP (k+1) ?_ ?_ ?_ ?_ ?_)
  ·exact (aK rfl (aA rfl eZ))
  ·exact (mS .here rfl mN)
  ·first|omega|(dsimp only; omega)
  ·exact hGl0
  refine ⟨?_,?_,?_⟩
  ·(try dsimp only)<;>(first|omega|rfl|assumption|(simp; done))
  ·(try dsimp only)<;>(first|omega|rfl|assumption|(simp; done))
  (try dsimp only)<;>(exact hld.succ (by omega))
 have c2k:=c2
 try simp only [aC,aG,aD] at c2
 refine .g (cP rfl rfl rfl rfl (.g (cD rfl (fun c3=>?_) (fun c3=>?_))))
 ·have c3k:=c3
  try simp only [aC,aG,aD] at c3
  refine .g (ka rfl (.inr rfl) yP (aB rfl (aB rfl aF)) (bL .here) (wM _ _ _ 11 _ _) ?_)
  rintro _ G48 μ48 hG48 ⟨rfl,rfl⟩
  have hs:=hs.mono hG48
  refine .nil (.code (.seq (aL rfl rfl (aS rfl rfl (.nc (.ret (We.fin Tryz.results44 (.tmp rfl .nil) (mS .here rfl mN) ?_)))))))
  exact ⟨0,I,11,aD2 (by simpa using c1k) (aPw hld (by omega) hk),hI,rfl,rfl⟩
 have c3k:=c3
 try simp only [aC,aG,aD] at c3
 refine .g (bA (mc:=⟨false,false⟩) [0,1,2,3,4,5,6,7,8,9,10,11] aX (by kernel_rfl) ?_)
 refine .p (nC rfl rfl (fZ rfl gS rfl (lO rfl dH rfl .here (by first|exact aJ rfl|rfl) ?_)))
 refine .p (aW (((I+k):Nat):Int) rfl rfl rfl rfl ?_)
 refine .p (nC rfl rfl (fZ rfl pC rfl (lO rfl cX rfl .here (by first|exact aJ rfl|rfl) ?_)))
 refine lE rfl bU rfl (cP rfl rfl rfl rfl (.g (cD rfl (fun c4=>?_) (fun c4=>?_))))
 ·have c4k:=c4
  try simp only [aC,aG,aD] at c4
  refine .g (ka rfl (.inr rfl) yP (aB rfl (aB rfl aF)) (bL .here) (wM _ _ _ 10 _ _) ?_)
  rintro _ G62 μ62 hG62 ⟨rfl,rfl⟩
  have hs:=hs.mono hG62
  refine .nil (.code (.seq (aL rfl rfl (aS rfl rfl (.nc (.ret (We.fin Tryz.results44 (.tmp rfl .nil) (mS .here rfl mN) ?_)))))))
  exact ⟨0,I,10,aD2 (by simpa using c1k) (aPz hld (by omega) hk (by omega)),hI,rfl,rfl⟩
 have c4k:=c4
 try simp only [aC,aG,aD] at c4
 refine .g (bA (mc:=⟨false,false⟩) [0,1,2,3,4,5,6,7,8,9,10,11,12] aX (by kernel_rfl) ?_)
 refine .p (nC rfl rfl (fZ rfl pC rfl (lO rfl cX rfl .here (by first|exact aJ rfl|rfl) ?_)))
 refine .p (nC rfl rfl (fZ rfl gS rfl (lO rfl dH rfl .here (by first|exact aJ rfl|rfl) ?_)))
 refine .p (aW (((I+k):Nat):Int) rfl rfl rfl rfl ?_)
 refine ih rfl .no aI (.u rfl) (.u rfl) (by omega) (by omega) (fun _=>hs.nn (k:=(I+k)) (by omega)) ?_
 refine lN rfl aZ rfl ((hs.yat ((I+k)) (by omega) (by omega)).rd) ?_
 refine .g (cP rfl rfl rfl rfl (mV rfl rfl (mv rfl (.t rfl rfl) (.u rfl) (cp rfl (.t rfl rfl) (.s rfl) (.u rfl) rfl (bR rfl .no (.u rfl) (.s rfl) (mV rfl rfl (mv rfl (.f rfl rfl) (.u rfl) (cp rfl (.f rfl rfl) (.s rfl) (.u rfl) rfl (mv rfl (.f rfl rfl) (.s rfl) (mv rfl (.tc rfl rfl) (.u rfl) (cp rfl (.tc rfl rfl) (.s rfl) (.u rfl) rfl (bR rfl (.f rfl rfl) (.s rfl) (.s rfl) (cK rfl .no (.u rfl) (.s rfl) (.g (cD rfl (fun c5=>?_) (fun c5=>?_))))))))))))))))
 ·have c5k:=c5
  try simp only [aC,aG,aD] at c5
  refine .g (ka rfl (.inr rfl) yP (aB rfl (aB rfl aF)) (bL .here) (wM _ _ _ 11 _ _) ?_)
  rintro _ G90 μ90 hG90 ⟨rfl,rfl⟩
  have hs:=hs.mono hG90
  refine .nil (.code (.seq (aL rfl rfl (aS rfl rfl (.nc (.ret (We.fin Tryz.results44 (.tmp rfl .nil) (mS .here rfl mN) ?_)))))))
  exact ⟨0,I,11,aD2 (by simpa using c1k) (aPx hld (by omega) (by omega) (by omega) (by omega)),hI,rfl,rfl⟩
 have c5k:=c5
 try simp only [aC,aG,aD] at c5
 refine .g (cu (k:=.u8) rfl .no rfl nZ (.u rfl) ?_)
 refine .g (aR rfl rfl rfl rfl ?_)
 refine aS rfl rfl (.nc (.block ?_))
 have rk:=aPy hld (by omega) (by omega) (by omega) (by omega) (by omega)
 have rl:=(NumR.of rk).lt
 refine aV (α:=Nat×BitVec 64) (fun gh=>[(5,true,uv .u64 gh.2),(6,true,.int .i64 ((gh.1:Int)-1))]) (fun _=>[])
  (fun gh Gl=>(gh.1≤k)∧(gh.2.toNat*128^gh.1+nL B I gh.1=nL B I k+(B.getD (I+k) 0).toNat*128^k)) (fun gh=>gh.1) (k,(B.getD (I+k) 0).setWidth 64) [(0,true,_),(3,true,_)] [_]
  (aA rfl (aK rfl (aA rfl (aA rfl eZ))))
  (mS .here rfl mN) ?_ ?_
 ·refine ⟨?_,?_⟩
  ·(try dsimp only)<;>(first|omega|rfl|assumption|(simp; done))
  (try dsimp only)<;>(exact aLi rfl)
 intro gh N1 Gl1 hN1 hGl1 hF1
 obtain ⟨i,w⟩:=gh; dsimp only at hF1 hN1 ⊢
 obtain ⟨hi,ew⟩:=hF1
 have hs:=hs.mono hGl1
 refine .g (cP rfl rfl rfl rfl (.g (cD rfl (fun c6=>?_) (fun c6=>?_))))
 ·have c6k:=c6
  try simp only [aC,aG,aD] at c6
  refine .g (bA (mc:=⟨false,false⟩) [0,1,2,3,4,5,6,7,8,9,10,11,12,13,14,15,16,17] aX (by kernel_rfl) ?_)
  refine .p (bw (k:=.u64) (b:=128#64) rfl .no rfl (.u rfl) (.u rfl) rfl (.p (nC rfl rfl (fZ rfl pC rfl (lO rfl cX rfl .here (by first|exact aJ rfl|rfl) ?_)))))
  refine .p (nC rfl rfl (fZ rfl gS rfl (lO rfl dH rfl .here (by first|exact aJ rfl|rfl) ?_)))
  refine .p (cQ (((I+(i-1)):Nat):Int) rfl .no (.u rfl) (.u rfl) rfl (by omega) (fun _=>bO (by omega) (by omega)) ?_)
  refine ih rfl .no aI (.u rfl) (.u rfl) (by omega) (by omega) (fun _=>hs.nn (k:=(I+(i-1))) (by omega)) ?_
  refine ld rfl .no aZ (.u rfl) (fun _=>(hs.yat ((I+(i-1))) (by omega) (by omega)).rd) ?_
  refine bw (k:=.u8) (b:=128#8) rfl .no rfl (.u rfl) (.u rfl) rfl (cu (k:=.u8) rfl .no rfl nZ (.u rfl) ?_)
  refine bw (k:=.u64) rfl .no rfl (.u rfl) (.u rfl) rfl (.g (aR rfl rfl rfl rfl ?_))
  refine .g (aP (i-1,w*128#64+((B.getD (I+(i-1)) 0)-128#8).setWidth 64) ?_ ?_ ?_ ?_ ?_)
  ·exact (aA rfl (aK rfl (aA rfl (aA rfl eZ))))
  ·exact (mS .here rfl mN)
  ·(dsimp only; omega)
  ·exact hGl1
  refine ⟨?_,?_⟩
  ·(try dsimp only)<;>(first|omega|rfl|assumption|(simp; done))
  (try dsimp only)<;>((obtain ⟨j,rfl⟩ : ∃ j,i=j+1:=⟨i-1,by omega⟩); exact aLj ew rl (hld j (by omega)))
 have c6k:=c6
 try simp only [aC,aG,aD] at c6
 refine .g (nC rfl rfl (fZ rfl gS rfl (lO rfl dH rfl .here (by first|exact aJ rfl|rfl) ?_)))
 refine .p (aW (((I+k):Nat):Int) rfl rfl rfl rfl ?_)
 refine cQ ((((I+k)+1):Nat):Int) rfl .no (.u rfl) (.u rfl) rfl (by omega) (fun _=>bO (by omega) (by omega)) ?_
 refine nC rfl rfl (fZ rfl gS rfl (s1 rfl (.u rfl) (.u rfl) rfl jO .here (show 1<3 by decide) (rfl) ?_))
 refine .nil (.code (.seq (bJ rfl rfl (mV rfl rfl (aS rfl rfl (.nc (.ret (We.fin Tryz.results44 (.tmp rfl .nil) (mS .here rfl mN) ?_))))))))
 obtain rfl:i=0:=by omega
 obtain rfl:e=0:=by simpa using c1k
 exact ⟨w.toNat,I+k+1,0,aP6 rfl rk (aLh ew),by omega,rfl,rfl⟩
set_option maxHeartbeats 1000000 in
theorem aHu (B:List Y) (I:Nat) (e:Int) (s:Sh) (b:Nat) (G:PM) (hs:SlR G 1 aQ s B) (hI:I≤B.length) (hl:B.length≤100000000000000) (most:Nat) (hm:most≤100000000000000):Ct Tryz.prog 88 ([.pointer (some ⟨b,0,none⟩),.int .i64 (most:Int)]:List Value).toArray G [.blk b (cl [Sh.val s B.length,.int .i64 (I:Int),.int .i64 e] 63)] (fun G' μ' u=>∃ M I' e',gD most ⟨B.drop I,e⟩=(M,⟨B.drop I',e'⟩)∧I'≤B.length∧μ'=[.blk b (cl [Sh.val s B.length,.int .i64 (I':Int),.int .i64 e'] 63)]∧u=.string (cZ M)):=by
 refine Ct.of Tryz.func88 rfl Tryz.ntmps88 rfl fun w0 hs0=>?_
 refine .g (nC rfl rfl (fZ rfl qF rfl (lO rfl lK rfl .here (by first|exact aJ rfl|rfl) ?_)))
 refine cP rfl rfl rfl rfl (.g (cD rfl (fun c1=>?_) (fun c1=>?_)))
 ·have c1k:=c1
  try simp only [aC,aG,aD] at c1
  refine .seq (aL rfl rfl (aS rfl rfl (.nc (.ret (We.fin Tryz.results88 (.tmp rfl .nil) (mS .here rfl mN) ?_)))))
  exact ⟨[],I,e,aH6 (by simpa using c1k),hI,rfl,rfl⟩
 have c1k:=c1
 try simp only [aC,aG,aD] at c1
 refine .g (nC rfl rfl (fZ rfl gS rfl (lO rfl dH rfl .here (by first|exact aJ rfl|rfl) ?_)))
 refine .g (ka rfl (.inr rfl) mO (aB rfl aF) (bL .here) (mB B I e s b _ hs hI hl) ?_)
 rintro _ G18 μ18 hG18 ⟨n18,I',e',hN,hI',rfl,rfl⟩
 have hNt:=fM hN
 have hs:=hs.mono hG18
 refine .g (nC rfl rfl (fZ rfl qF rfl (lO rfl lK rfl .here (by first|exact aJ rfl|rfl) ?_)))
 refine cP rfl rfl rfl rfl (.g (cD rfl (fun c2=>?_) (fun c2=>?_)))
 ·have c2k:=c2
  try simp only [aC,aG,aD] at c2
  refine .seq (aL rfl rfl (aS rfl rfl (.nc (.ret (We.fin Tryz.results88 (.tmp rfl .nil) (mS .here rfl mN) ?_)))))
  exact ⟨[],I',e',aO7 (by simpa using c1k) hN (by simpa using c2k),hI',rfl,rfl⟩
 have c2k:=c2
 try simp only [aC,aG,aD] at c2
 refine .g (cP rfl rfl rfl rfl (.g (cD rfl (fun c3=>?_) (fun c3=>?_))))
 ·have c3k:=c3
  try simp only [aC,aD] at c3
  exfalso; omega
 have c3k:=c3
 try simp only [aC,aG,aD] at c3
 refine .g (cw rfl .no gG (.u rfl) (fun _=>eD (by omega) (by omega)) ?_)
 refine cP rfl rfl rfl rfl (.g (cD rfl (fun c4=>?_) (fun c4=>?_)))
 ·have c4k:=c4
  try simp only [aC,aG,aD] at c4
  refine .g (ka rfl (.inr rfl) yP (aB rfl (aB rfl aF)) (bL .here) (wM _ _ _ 4 _ _) ?_)
  rintro _ G31 μ31 hG31 ⟨rfl,rfl⟩
  have hs:=hs.mono hG31
  refine .g (nC rfl rfl (fZ rfl gS rfl (s1 rfl (.u rfl) (.u rfl) rfl jO .here (show 1<3 by decide) (rfl) ?_)))
  refine .nil (.code (.seq (aL rfl rfl (aS rfl rfl (.nc (.ret (We.fin Tryz.results88 (.tmp rfl .nil) (mS .here rfl mN) ?_)))))))
  exact ⟨[],I,4,aO8 (by simpa using c1k) hN (by simpa using c2k) (by omega),hI,rfl,rfl⟩
 have c4k:=c4
 try simp only [aC,aG,aD] at c4
 refine .g (bA (mc:=⟨false,false⟩) [0,1,2,3,4,5,6,7,8,9,10,11,12] aX (by kernel_rfl) ?_)
 refine .p (nC rfl rfl (fZ rfl pC rfl (lO rfl cX rfl .here (by first|exact aJ rfl|rfl) ?_)))
 refine lE rfl bU rfl (.p (nC rfl rfl (fZ rfl gS rfl (lO rfl dH rfl .here (by first|exact aJ rfl|rfl) ?_))))
 refine aR rfl rfl rfl rfl ?_
 refine cw rfl .no gG (.u rfl) (fun _=>eD (by omega) (by omega)) ?_
 refine cP rfl rfl rfl rfl (.g (cD rfl (fun c5=>?_) (fun c5=>?_)))
 ·have c5k:=c5
  try simp only [aC,aG,aD] at c5
  refine .g (ka rfl (.inr rfl) yP (aB rfl (aB rfl aF)) (bL .here) (wM _ _ _ 10 _ _) ?_)
  rintro _ G50 μ50 hG50 ⟨rfl,rfl⟩
  have hs:=hs.mono hG50
  refine .g (nC rfl rfl (fZ rfl gS rfl (s1 rfl (.u rfl) (.u rfl) rfl jO .here (show 1<3 by decide) (rfl) ?_)))
  refine .nil (.code (.seq (aL rfl rfl (aS rfl rfl (.nc (.ret (We.fin Tryz.results88 (.tmp rfl .nil) (mS .here rfl mN) ?_)))))))
  exact ⟨[],I,10,aPA (by simpa using c1k) hN (by simpa using c2k) hI' (by omega) (by omega),hI,rfl,rfl⟩
 have c5k:=c5
 try simp only [aC,aG,aD] at c5
 refine .g (bA (mc:=⟨false,false⟩) [0,1,2,3,4,5,6,7,8,9,10,11,12,13,14,15,16,17] aX (by kernel_rfl) ?_)
 refine .p (nC rfl rfl (fZ rfl pC rfl (lO rfl cX rfl .here (by first|exact aJ rfl|rfl) ?_)))
 refine .p (nC rfl rfl (fZ rfl gS rfl (lO rfl dH rfl .here (by first|exact aJ rfl|rfl) ?_)))
 refine .p (nC rfl rfl (fZ rfl gS rfl (lO rfl dH rfl .here (by first|exact aJ rfl|rfl) ?_)))
 refine .p (cw rfl .no yH (.u rfl) (fun _=>bO (by omega) (by omega)) ?_)
 refine aW (((I'+n18):Nat):Int) rfl rfl rfl rfl ?_
 refine kS (I') ((I'+n18)) rfl .no aI hs (.u rfl) (.u rfl) (.u rfl) (by omega) (by omega) (by omega) (by omega) ?_
 intro h70 L70 eL70 lL70 hs70
 have lL70:=lL70 rfl
 refine sB rfl .no mL (.u rfl) (fun _=>hs70.sc) ?_
 refine .g (nC rfl rfl (fZ rfl gS rfl (lO rfl dH rfl .here (by first|exact aJ rfl|rfl) ?_)))
 refine .p (cw rfl .no yH (.u rfl) (fun _=>bO (by omega) (by omega)) ?_)
 refine aW (((I'+n18):Nat):Int) rfl rfl rfl rfl ?_
 refine nC rfl rfl (fZ rfl gS rfl (s1 rfl (.u rfl) (.u rfl) rfl jO .here (show 1<3 by decide) (rfl) ?_))
 refine .nil (.code (.seq (bJ rfl rfl (mV rfl rfl (aS rfl rfl (.nc (.ret (We.fin Tryz.results88 (.tmp rfl .nil) (mS .here rfl mN) ?_))))))))
 obtain rfl:e=0:=by simpa using c1k
 obtain rfl:e'=0:=by simpa using c2k
 exact ⟨L70,I'+n18,0,aO9 hN hI' (by omega) (by omega) eL70,by omega,rfl,rfl⟩
theorem aO5 (B:List Y) (I:Nat) (e:Int) (s:Sh) (b:Nat) (G:PM) (hs:SlR G 1 aQ s B) (hI:I≤B.length) (hl:B.length≤100000000000000):Ct Tryz.prog 17 ([.pointer (some ⟨b,0,none⟩),.int .i64 ((1:Nat):Int)]:List Value).toArray G [.blk b (cl [Sh.val s B.length,.int .i64 (I:Int),.int .i64 e] 63)] (fun G' μ' u=>∃ y I' e',mC ⟨B.drop I,e⟩=(y,⟨B.drop I',e'⟩)∧I'≤B.length∧μ'=[.blk b (cl [Sh.val s B.length,.int .i64 (I':Int),.int .i64 e'] 63)]∧u=uv .u64 (y.setWidth 64)):=by
 refine Ct.of Tryz.func17 rfl Tryz.ntmps17 rfl fun w0 hs0=>?_
 refine .g (nC rfl rfl (fZ rfl qF rfl (lO rfl lK rfl .here (by first|exact aJ rfl|rfl) ?_)))
 refine cP rfl rfl rfl rfl (.g (cD rfl (fun c1=>?_) (fun c1=>?_)))
 ·have c1k:=c1
  try simp only [aC,aG,aD] at c1
  refine .seq (aL rfl rfl (aS rfl rfl (.nc (.ret (We.fin Tryz.results17 (.tmp rfl .nil) (mS .here rfl mN) ?_)))))
  exact ⟨0,I,e,aH1 (by simpa using c1k),hI,rfl,rfl⟩
 have c1k:=c1
 try simp only [aC,aG,aD] at c1
 refine .g (cP rfl rfl rfl rfl (mV rfl rfl (mv rfl (.f rfl rfl) (.u rfl) (cp rfl (.f rfl rfl) (.s rfl) (.u rfl) rfl (cK rfl .no (.u rfl) (.s rfl) (.g (cD rfl (fun c2=>?_) (fun c2=>?_))))))))
 ·have c2k:=c2
  exact absurd c2 (by decide)
 have c2k:=c2
 try simp only [aC,aG,aD] at c2
 refine .g (bA (mc:=⟨false,false⟩) [0,1,2,3,4,5,6,7,8,9,10,11] aX (by kernel_rfl) ?_)
 refine .p (nC rfl rfl (fZ rfl pC rfl (lO rfl cX rfl .here (by first|exact aJ rfl|rfl) ?_)))
 refine lE rfl bU rfl (.p (nC rfl rfl (fZ rfl gS rfl (lO rfl dH rfl .here (by first|exact aJ rfl|rfl) ?_))))
 refine aR rfl rfl rfl rfl ?_
 refine cP rfl rfl rfl rfl (.g (cD rfl (fun c3=>?_) (fun c3=>?_)))
 ·have c3k:=c3
  try simp only [aC,aG,aD] at c3
  refine .g (ka rfl (.inr rfl) yP (aB rfl (aB rfl aF)) (bL .here) (wM _ _ _ 10 _ _) ?_)
  rintro _ G33 μ33 hG33 ⟨rfl,rfl⟩
  have hs:=hs.mono hG33
  refine .nil (.code (.seq (aL rfl rfl (aS rfl rfl (.nc (.ret (We.fin Tryz.results17 (.tmp rfl .nil) (mS .here rfl mN) ?_)))))))
  exact ⟨0,I,10,aH3 (by simpa using c1k) (by simp only [List.length_drop]; omega),hI,rfl,rfl⟩
 have c3k:=c3
 try simp only [aC,aG,aD] at c3
 refine .g (aR rfl rfl rfl rfl ?_)
 refine aS rfl rfl (.nc (.block ?_))
 refine aV (α:=Nat×BitVec 64) (fun gh=>[(5,true,uv .u64 gh.2),(6,true,.int .i64 ((gh.1:Int)-1))]) (fun _=>[])
  (fun gh Gl=>(gh.1≤1)∧(gh.2=if gh.1=1 then 0#64 else (B.getD I 0).setWidth 64)) (fun gh=>gh.1) (1,0#64) [(0,true,_),(1,true,_)] [_]
  (aA rfl (aK rfl (aA rfl (aA rfl eZ))))
  (mS .here rfl mN) ?_ ?_
 ·refine ⟨?_,?_⟩
  ·(try dsimp only)<;>(first|omega|rfl|assumption|(simp; done))
  (try dsimp only)<;>(rfl)
 intro gh N0 Gl0 hN0 hGl0 hF0
 obtain ⟨i,m⟩:=gh; dsimp only at hF0 hN0 ⊢
 obtain ⟨hi,em⟩:=hF0
 have hs:=hs.mono hGl0
 refine .g (cP rfl rfl rfl rfl (.g (cD rfl (fun c4=>?_) (fun c4=>?_))))
 ·have c4k:=c4
  try simp only [aC,aG,aD] at c4
  refine .g (bA (mc:=⟨false,false⟩) [0,1,2,3,4,5,6,7,8,9,10,11,12,13,14,15,16] aX (by kernel_rfl) ?_)
  refine .p (bw (k:=.u64) (b:=256#64) rfl .no rfl (.u rfl) (.u rfl) rfl (.p (nC rfl rfl (fZ rfl pC rfl (lO rfl cX rfl .here (by first|exact aJ rfl|rfl) ?_)))))
  refine .p (nC rfl rfl (fZ rfl gS rfl (lO rfl dH rfl .here (by first|exact aJ rfl|rfl) ?_)))
  refine .p (cQ (((I+(i-1)):Nat):Int) rfl .no (.u rfl) (.u rfl) rfl (by omega) (fun _=>bO (by omega) (by omega)) ?_)
  refine ih rfl .no aI (.u rfl) (.u rfl) (by omega) (by omega) (fun _=>hs.nn (k:=(I+(i-1))) (by omega)) ?_
  refine ld rfl .no aZ (.u rfl) (fun _=>(hs.yat ((I+(i-1))) (by omega) (by omega)).rd) ?_
  refine cu (k:=.u8) rfl .no rfl nZ (.u rfl) ?_
  refine bw (k:=.u64) rfl .no rfl (.u rfl) (.u rfl) rfl (.g (aR rfl rfl rfl rfl ?_))
  refine .g (aP (i-1,m*256#64+(B.getD (I+(i-1)) 0).setWidth 64) ?_ ?_ ?_ ?_ ?_)
  ·exact (aA rfl (aK rfl (aA rfl (aA rfl eZ))))
  ·exact (mS .here rfl mN)
  ·(dsimp only; omega)
  ·exact hGl0
  refine ⟨?_,?_⟩
  ·(try dsimp only)<;>(first|omega|rfl|assumption|(simp; done))
  (try dsimp only)<;>((obtain rfl:i=1:=by omega); rw [em,if_pos rfl]; simp)
 have c4k:=c4
 try simp only [aC,aG,aD] at c4
 refine .g (nC rfl rfl (fZ rfl gS rfl (lO rfl dH rfl .here (by first|exact aJ rfl|rfl) ?_)))
 refine .p (aW (((I+1):Nat):Int) rfl rfl rfl rfl ?_)
 refine nC rfl rfl (fZ rfl gS rfl (s1 rfl (.u rfl) (.u rfl) rfl jO .here (show 1<3 by decide) (rfl) ?_))
 refine .nil (.code (.seq (bJ rfl rfl (mV rfl rfl (aS rfl rfl (.nc (.ret (We.fin Tryz.results17 (.tmp rfl .nil) (mS .here rfl mN) ?_))))))))
 obtain rfl:i=0:=by omega
 obtain rfl:e=0:=by simpa using c1k
 exact ⟨_,I+1,0,aH2 rfl (by simp only [List.length_drop]; omega) (by rw [List.drop_drop]),by omega,rfl,by rw [em,zM]; rfl⟩
theorem aO4 (B:List Y) (I:Nat) (e:Int) (s:Sh) (b:Nat) (G:PM) (hp:RdNP G b 0 [s.val B.length,.int .i64 (I:Int),.int .i64 e]):Ct Tryz.prog 47 ([.pointer (some ⟨b,0,none⟩)]:List Value).toArray G [] (fun _ μ' u=>μ'=[]∧u=.int .i64 (rO (B.drop I) e)):=by
 refine Ct.of Tryz.func47 rfl Tryz.ntmps47 rfl fun w0 hs0=>?_
 refine .g (bA (mc:=⟨false,false⟩) [0,1,2,3,4,5,6,7,8,9,10,11,12,13,14,15,16] aX (by kernel_rfl) ?_)
 refine .p (nC rfl rfl (fZ rfl qF rfl (lN rfl lK rfl ((hp.z rfl).rd) ?_)))
 refine cP rfl rfl rfl rfl (mV rfl rfl (mv rfl (.t rfl rfl) (.u rfl) (nc rfl (.t rfl rfl) (.s rfl) (fz rfl (.t rfl rfl) gS (.s rfl) (ld rfl (.t rfl rfl) dH (.s rfl) (fun hc=>(hp.z rfl).rd) ?_)))))
 refine mv rfl (.t rfl rfl) (.u rfl) (nc rfl (.t rfl rfl) (.s rfl) (fz rfl (.t rfl rfl) pC (.s rfl) (ld rfl (.t rfl rfl) cX (.s rfl) (fun hc=>(hp.z rfl).rd) ?_)))
 refine ln rfl (.t rfl rfl) bU (.s rfl) (cp rfl (.t rfl rfl) (.s rfl) (.s rfl) rfl (bR rfl .no (.u rfl) (.s rfl) (.g (cD rfl (fun c1=>?_) (fun c1=>?_)))))
 ·have c1k:=c1
  try simp only [aC,aD] at c1
  refine .seq (aL rfl rfl (aS rfl rfl (.nc (.ret (aM Tryz.results47 (.tmp rfl .nil) ?_)))))
  exact ⟨rfl,congrArg (Value.int .i64) (by unfold rO; rw [if_pos (by rw [List.length_drop]; simp at c1k; omega)])⟩
 have c1k:=c1
 try simp only [aC,aD] at c1
 refine .g (nC rfl rfl (fZ rfl qF rfl (lN rfl lK rfl ((hp.z rfl).rd) ?_)))
 refine aS rfl rfl (.nc (.ret (aM Tryz.results47 (.tmp rfl .nil) ?_)))
 exact ⟨rfl,congrArg (Value.int .i64) (by unfold rO; rw [if_neg (by rw [List.length_drop]; simp at c1k; omega)])⟩
theorem lQ:cL Tryz.prog 126=some (26,1,8):=by kernel_rfl
theorem aKw:(cL Tryz.prog 126).isSome=true:=by kernel_rfl
theorem pQ (xs:List Y) (h:Sh) (ns:List Int) (hn:Sh) (G:PM) (hs:SlR G 1 aQ h xs) (hsn:SlR G 1 nN hn ns) (hu:∀ x∈ns,u64 x) (hl:xs.length+10*ns.length≤100000000000000):Ct Tryz.prog 69 ([h.val xs.length,hn.val ns.length]:List Value).toArray G [] (fun G' μ' u=>∃ (s:Sh) (L:List Y),L=xs++fL ns∧μ'=[]∧u=s.val L.length∧SlR G' 1 aQ s L):=by
 refine Ct.of Tryz.func69 rfl Tryz.ntmps69 rfl fun w0 hs0=>?_
 refine .g (lE rfl aKw rfl (mV rfl rfl (.nc (.block ?_))))
 refine aV (α:=Nat×Sh×List Y) (fun gh=>[(0,true,gh.2.1.val gh.2.2.length),(9,true,.int .i64 (gh.1:Int))]) (fun _=>[])
  (fun gh Gl=>(gh.1≤ns.length)∧(gh.2.2=xs++fL (ns.take gh.1))∧(SlR Gl 1 aQ gh.2.1 gh.2.2)) (fun gh=>ns.length-gh.1) (0,h,xs) [(7,true,_),(8,true,_)] []
  (aA rfl (aK rfl (aA rfl (aA rfl eZ))))
  mN ?_ ?_
 ·refine ⟨?_,?_,?_⟩
  ·(try dsimp only)<;>(first|omega|rfl|assumption|(simp; done))
  ·(try dsimp only)<;>(simp [fL])
  (try dsimp only)<;>(exact hs)
 intro gh N0 Gl0 hN0 hGl0 hF0
 obtain ⟨k,h0,L⟩:=gh; dsimp only at hF0 hN0 ⊢
 obtain ⟨hk,eL,hsl⟩:=hF0
 have hsn:=hsn.mono hGl0
 have lt:=aHb hu k
 have lL:L.length=xs.length+(fL (ns.take k)).length:=by rw [eL,List.length_append]
 refine .g (cP rfl rfl rfl rfl (.g (cD rfl (fun c1=>?_) (fun c1=>?_))))
 ·have c1k:=c1
  try simp only [aC,aD] at c1
  refine .skip (.code (.seq (.block (.seq (dU rfl rfl (ih rfl .no lQ (.u rfl) (.u rfl) (by omega) (by omega) (fun _=>hsn.nn (k:=k) (by first|omega|(simp only [Bool.and_eq_true,decide_eq_true_eq] at hc; omega)|(simp only [List.length_cons,List.length_nil]; omega))) ?_))))))
  obtain ⟨x12,ex12⟩:=iJ (k:=k) (xs:=ns) (by omega)
  refine lN rfl bD rfl ((hsn.u1 k (by omega) ex12).rd) ?_
  refine .g (kc rfl aKT (aB rfl (aB rfl aF)) (Ct.frzB (aE3 L h0 _ hsl x12 (hu x12 (List.mem_of_getElem? ex12)) (by omega))) ?_)
  rintro _ G15 μ15 hG15 ⟨h15,L15,eL15,rfl,rfl,hs15⟩
  have hsl:=hsl.mono hG15
  refine .g (aW (((k+1):Nat):Int) rfl rfl rfl rfl ?_)
  refine .g (aP (k+1,h15,L15) ?_ ?_ ?_ ?_ ?_)
  ·exact (aA rfl (aK rfl (aA rfl (aA rfl eZ))))
  ·exact mN
  ·first|omega|(dsimp only; omega)
  ·exact (hGl0).trans hG15
  refine ⟨?_,?_,?_⟩
  ·(try dsimp only)<;>(first|omega|rfl|assumption|(simp; done))
  ·(try dsimp only)<;>(rw [eL15,eL,aHa ex12,List.append_assoc])
  (try dsimp only)<;>(exact hs15)
 have c1k:=c1
 try simp only [aC,aD] at c1
 refine .exit (.xcode (.xlp (.xblk (.code (.seq (bJ rfl rfl (mV rfl rfl (aS rfl rfl (.nc (.ret (aM Tryz.results69 (.tmp rfl .nil) ?_)))))))))))
 obtain rfl:k=ns.length:=by omega
 rw [List.take_length] at eL
 exact ⟨h0,L,eL,rfl,rfl,hsl⟩
theorem aA0:dL Tryz.prog 4=some 1:=by kernel_rfl
theorem oZ:cO Tryz.prog 138 0=some 0:=by kernel_rfl
theorem oV:dJ Tryz.prog 88=some none:=by kernel_rfl
theorem vS:aU Tryz.prog 77=true:=by kernel_rfl
theorem aAc:cO Tryz.prog 138 1=some 1:=by kernel_rfl
theorem qW:dJ Tryz.prog 4=some none:=by kernel_rfl
theorem xZ (xs:List Y) (e:Int) (bad:Bool) (s:Sh) (br b:Nat) (G:PM) (hs:SlR G 1 aQ s xs) (hl:xs.length≤100000000000000) (most:Nat):Ct Tryz.prog 78 ([.pointer (some ⟨br,0,none⟩),.int .u64 (most:Int)]:List Value).toArray G [.blk br (cl [.pointer (some ⟨b,0,none⟩),.bool bad] 138),.blk b (cl [Sh.val s xs.length,.int .i64 e] 135)] (fun G' μ' u=>∃ n L e' s' bad',dD ⟨xs,e⟩=(n,⟨L,e'⟩)∧bad'=(bad||(decide (most<n) || !decide (e'=0)))∧μ'=[.blk br (cl [.pointer (some ⟨b,0,none⟩),.bool bad'] 138),.blk b (cl [Sh.val s' L.length,.int .i64 e'] 135)]∧u=.int .u64 (n:Int)∧SlR G' 1 aQ s' L):=by
 refine Ct.of Tryz.func78 rfl Tryz.ntmps78 rfl fun w0 hs0=>?_
 refine .g (nC rfl rfl (fZ rfl oZ rfl (lO rfl oV rfl .here (by first|exact aJ rfl|rfl) ?_)))
 refine ka rfl (.inr rfl) vS (aB rfl aF) (bL aE) (vB xs e s b _ hs hl) ?_
 rintro _ G10 μ10 hG10 ⟨n10,L10,e10,s10,hN,rfl,rfl,hs10⟩
 refine .g (nC rfl rfl (fZ rfl aAc rfl (lO rfl qW rfl aE (by first|exact aJ rfl|rfl) ?_)))
 refine mV rfl rfl (mv rfl (.f rfl rfl) (.u rfl) (mv rfl (.f rfl rfl) (.u rfl) (cp rfl (.f rfl rfl) (.s rfl) (.s rfl) rfl (cK rfl .no (.u rfl) (.s rfl) (mV rfl rfl (mv rfl (.f rfl rfl) (.u rfl) (nc rfl (.f rfl rfl) (.s rfl) (fz rfl (.f rfl rfl) oZ (.s rfl) (ld rfl (.f rfl rfl) oV (.s rfl) (fun hc=>Rd.own aE (by first|exact aJ rfl|rfl)) ?_)))))))))
 refine kp rfl (.f rfl rfl) aEf (Eva.cons (.s rfl) aF) (Gp.add .here Gp.nil) (fun hc hle hq=>aDr L10 e10 s10 b _ RdNP.add) ?_
 refine cp rfl (.f rfl rfl) (.s rfl) (.u rfl) rfl (cK rfl .no (.u rfl) (.s rfl) (nC rfl rfl (fZ rfl aAc rfl (s1 rfl (.u rfl) (.u rfl) rfl aA0 aE (show 1<2 by decide) (rfl) ?_))))
 refine .nil (.code (.seq (bJ rfl rfl (mV rfl rfl (aS rfl rfl (.nc (.ret (We.fin Tryz.results78 (.tmp rfl .nil) (mS .here rfl (mS .here rfl mN)) ?_))))))))
 exact ⟨n10,L10,e10,s10,_,hN,aRy,rfl,rfl,hs10⟩
theorem yQ:aU Tryz.prog 78=true:=by kernel_rfl
theorem aSi:eS Tryz.prog 98 [0]=some (Meta.zero.cells,[(0,1)]):=by kernel_rfl
theorem aAf:cO Tryz.prog 98 2=some 2:=by kernel_rfl
theorem aKV:aU Tryz.prog 113=true:=by kernel_rfl
theorem aCX:dL Tryz.prog 9=some 1:=by kernel_rfl
theorem aAg:cO Tryz.prog 98 8=some 8:=by kernel_rfl
set_option maxHeartbeats 1000000 in
theorem wU (xs:List Y) (e:Int) (bad:Bool) (s:Sh) (br b:Nat) (G:PM) (hs:SlR G 1 aQ s xs) (hl:xs.length≤100000000000000):Ct Tryz.prog 79 ([.pointer (some ⟨br,0,none⟩)]:List Value).toArray G [.blk br (cl [.pointer (some ⟨b,0,none⟩),.bool bad] 138),.blk b (cl [Sh.val s xs.length,.int .i64 e] 135)] (fun G' μ' u=>∃ m L e' s' bad',aA1 ⟨xs,e⟩ ⟨L,e'⟩ bad bad' m∧L.length≤xs.length∧μ'=[.blk br (cl [.pointer (some ⟨b,0,none⟩),.bool bad'] 138),.blk b (cl [Sh.val s' L.length,.int .i64 e'] 135)]∧u=Meta.val m∧SlR G' 1 aQ s' L):=by
 refine Ct.of Tryz.func79 rfl Tryz.ntmps79 rfl fun w0 hs0=>?_
 refine .seq (aL rfl rfl ?_)
 refine al rfl qD ?_; intro b2
 refine .g (ka rfl (.inr rfl) yQ (aB rfl (aB rfl aF)) (gT aE aE) (xZ xs e bad s br b _ hs (by omega) 255) ?_)
 rintro _ G6 μ6 hG6 ⟨n6,L6,e6,s6,bad6,hN6,hb6,rfl,rfl,hs6⟩
 have lL6:=oP hN6; have nL6:=fM hN6; simp only at lL6
 refine cv rfl .no nY (.u rfl) (dK (([.int .u8 (IntKind.u8.wrap (n6:Int)),.int .u64 0,.int .u64 0,.int .u64 0,.int .i64 0,.int .i64 0,.string ByteArray.empty,.string ByteArray.empty]++ba 32 (fun _=>0#8))) rfl .no aSi (.cons (.u rfl) rfl .nil) rfl (rfl) ?_)
 refine al rfl qD ?_; intro b3
 refine sw rfl (.u rfl) (.u rfl) rfl jP .here (by first|exact qE|exact qL|rfl) (aBg rfl rfl rfl rfl rfl rfl rfl rfl) ?_
 refine .g (nC rfl rfl (fZ rfl oZ rfl (lO rfl oV rfl aE (by first|exact aJ rfl|rfl) ?_)))
 refine ka rfl (.inr rfl) vS (aB rfl aF) (bL aN) (vB L6 e6 s6 b _ hs6 (by omega)) ?_
 rintro _ G13 μ13 hG13 ⟨n13,L13,e13,s13,hN13,rfl,rfl,hs13⟩
 have lL13:=oP hN13; have nL13:=fM hN13; simp only at lL13
 refine fZ rfl vP rfl (s1 rfl (.u rfl) (.u rfl) rfl iS aE (show 1<40 by decide) (rfl) ?_)
 refine .g (nC rfl rfl (fZ rfl oZ rfl (lO rfl oV rfl aN (by first|exact aJ rfl|rfl) ?_)))
 refine ka rfl (.inr rfl) vS (aB rfl aF) (bL aE) (vB L13 e13 s13 b _ hs13 (by omega)) ?_
 rintro _ G19 μ19 hG19 ⟨n19,L19,e19,s19,hN19,rfl,rfl,hs19⟩
 have lL19:=oP hN19; have nL19:=fM hN19; simp only at lL19
 refine fZ rfl aAf rfl (s1 rfl (.u rfl) (.u rfl) rfl iS aE (show 2<40 by decide) (rfl) ?_)
 refine .g (nC rfl rfl (fZ rfl oZ rfl (lO rfl oV rfl aN (by first|exact aJ rfl|rfl) ?_)))
 refine ka rfl (.inr rfl) vS (aB rfl aF) (bL aE) (vB L19 e19 s19 b _ hs19 (by omega)) ?_
 rintro _ G25 μ25 hG25 ⟨n25,L25,e25,s25,hN25,rfl,rfl,hs25⟩
 have lL25:=oP hN25; have nL25:=fM hN25; simp only at lL25
 refine fZ rfl iR rfl (s1 rfl (.u rfl) (.u rfl) rfl iS aE (show 3<40 by decide) (rfl) ?_)
 refine .g (ka rfl (.inr rfl) yQ (aB rfl (aB rfl aF)) (gT aN aE) (xZ L25 e25 bad6 s25 br b _ hs25 (by omega) 9223372036854775807) ?_)
 rintro _ G28 μ28 hG28 ⟨n28,L28,e28,s28,bad28,hN28,hb28,rfl,rfl,hs28⟩
 have lL28:=oP hN28; have nL28:=fM hN28; simp only at lL28
 refine cv rfl .no yH (.u rfl) (fZ rfl vQ rfl (s1 rfl (.u rfl) (.u rfl) rfl jO aN (show 4<40 by decide) (rfl) ?_))
 refine .g (ka rfl (.inr rfl) yQ (aB rfl (aB rfl aF)) (gT aE aE) (xZ L28 e28 bad28 s28 br b _ hs28 (by omega) 9223372036854775807) ?_)
 rintro _ G32 μ32 hG32 ⟨n32,L32,e32,s32,bad32,hN32,hb32,rfl,rfl,hs32⟩
 have lL32:=oP hN32; have nL32:=fM hN32; simp only at lL32
 refine cv rfl .no yH (.u rfl) (fZ rfl vR rfl (s1 rfl (.u rfl) (.u rfl) rfl jO aN (show 5<40 by decide) (rfl) ?_))
 refine .g (nC rfl rfl (fZ rfl oZ rfl (lO rfl oV rfl aE (by first|exact aJ rfl|rfl) ?_)))
 refine ka rfl (.inr rfl) aKV (aB rfl (aB rfl aF)) (bL aN) (aHz L32 e32 s32 b _ hs32 (by omega) 1024 (by decide)) ?_
 rintro _ G39 μ39 hG39 ⟨M39,L39,e39,s39,hN39,rfl,rfl,hs39⟩
 have lL39:=aIH hN39; simp only at lL39
 refine fZ rfl mM rfl (s1 rfl (.u rfl) (.u rfl) rfl aCX aE (show 6<40 by decide) (rfl) ?_)
 refine .g (nC rfl rfl (fZ rfl oZ rfl (lO rfl oV rfl aN (by first|exact aJ rfl|rfl) ?_)))
 refine ka rfl (.inr rfl) aKV (aB rfl (aB rfl aF)) (bL aE) (aHz L39 e39 s39 b _ hs39 (by omega) 1024 (by decide)) ?_
 rintro _ G45 μ45 hG45 ⟨M45,L45,e45,s45,hN45,rfl,rfl,hs45⟩
 have lL45:=aIH hN45; simp only at lL45
 refine fZ rfl qA rfl (s1 rfl (.u rfl) (.u rfl) rfl aCX aE (show 7<40 by decide) (rfl) ?_)
 refine .nil (.code (.seq (.seq (aL rfl rfl (mV rfl rfl (.nc (.block ?_)))))))
 refine aV (α:=Nat×List Y×Int×Sh×(Nat→Y)×List Y) (fun gh=>[(47,true,.int .i64 (gh.1:Int))]) (fun gh=>[.blk b3 (cl ([.int .u8 (IntKind.u8.wrap (n6:Int)),.int .u64 (n13:Int),.int .u64 (n19:Int),.int .u64 (n25:Int),.int .i64 (IntKind.i64.wrap (n28:Int)),.int .i64 (IntKind.i64.wrap (n32:Int)),.string (cZ M39),.string (cZ M45)]++ba 32 gh.2.2.2.2.1) 98),.blk b (cl [Sh.val gh.2.2.2.1 gh.2.1.length,.int .i64 gh.2.2.1] 135)])
  (fun gh Gl=>(gh.1≤32)∧(gh.2.2.2.2.2.length=gh.1)∧(ByR ⟨L45,e45⟩ ⟨gh.2.1,gh.2.2.1⟩ bad32 gh.2.2.2.2.2)∧(∀ i,gh.2.2.2.2.1 i=gh.2.2.2.2.2.getD i 0)∧(gh.2.1.length≤100000000000000)∧(gh.2.1.length≤xs.length)∧(SlR Gl 1 aQ gh.2.2.2.1 gh.2.1)) (fun gh=>32-gh.1) (0,L45,e45,s45,(fun _=>0#8),[]) [(0,true,_),(2,true,_),(3,true,_)] [_,_]
  (aK rfl (aA rfl (aA rfl (aA rfl eZ))))
  (mS .here rfl (mS .here rfl (mS .here rfl (mS .here rfl mN)))) ?_ ?_
 ·refine ⟨?_,?_,?_,?_,?_,?_,?_⟩
  ·(try dsimp only)<;>(first|omega|rfl|assumption|(simp; done))
  ·(try dsimp only)<;>(first|omega|rfl|assumption|(simp; done))
  ·(try dsimp only)<;>(exact ByR.zero)
  ·(try dsimp only)<;>(exact fun i=>by simp)
  ·(try dsimp only)<;>(first|omega|rfl|assumption|(simp; done))
  ·(try dsimp only)<;>(first|omega|rfl|assumption|(simp; done))
  (try dsimp only)<;>(exact hs45)
 intro gh N0 Gl0 hN0 hGl0 hF0
 obtain ⟨k,L,ee,s9,f,rt⟩:=gh; dsimp only at hF0 hN0 ⊢
 obtain ⟨hk,hr,hB,ef,lL,lX,hsl⟩:=hF0
 refine .g (cP rfl rfl rfl rfl (.g (cD rfl (fun c1=>?_) (fun c1=>?_))))
 ·have c1k:=c1
  try simp only [aC,aG,aD] at c1
  refine .g (nC rfl rfl (fZ rfl oZ rfl (lO rfl oV rfl aN (by first|exact aJ rfl|rfl) ?_)))
  refine ka rfl (.inr rfl) aAj (aB rfl (aB rfl aF)) (bL aE) (aPM L ee s9 b _ hsl lL) ?_
  rintro _ G55 μ55 hG55 ⟨y55,L55,e55,s55,hN55,rfl,rfl,hs55⟩
  have lL55:=aPg hN55; simp only at lL55
  have hsl:=hsl.mono hG55
  refine cu (k:=.u64) rfl .no rfl nY (.u rfl) ?_
  refine fZ rfl aAg rfl (iW rfl fU rfl rfl ?_)
  refine s1 rfl (.u rfl) (.u rfl) rfl gQ aE (by show _<40; omega) (aHL (k:=k) (by omega)) ?_
  refine .g (aW (((k+1):Nat):Int) rfl rfl rfl rfl ?_)
  refine .g (aP (k+1,L55,e55,s55,upd f k ((y55.setWidth 64).setWidth 8),rt++[y55]) ?_ ?_ ?_ ?_ ?_)
  ·exact (aK rfl (aA rfl (aA rfl (aA rfl eZ))))
  ·exact (mS .here rfl (mS .here rfl (mS .here rfl (mS .here rfl mN))))
  ·first|omega|(dsimp only; omega)
  ·exact (hGl0).trans hG55
  refine ⟨?_,?_,?_,?_,?_,?_,?_⟩
  ·(try dsimp only)<;>(first|omega|rfl|assumption|(simp; done))
  ·(try dsimp only)<;>(simp [hr])
  ·(try dsimp only)<;>(exact hB.step (by omega) hN55)
  ·(try dsimp only)<;>(exact aIb hr ef)
  ·(try dsimp only)<;>(first|omega|rfl|assumption|(simp; done))
  ·(try dsimp only)<;>(first|omega|rfl|assumption|(simp; done))
  (try dsimp only)<;>(exact hs55)
 have c1k:=c1
 try simp only [aC,aG,aD] at c1
 refine .g (lB rfl dF rfl .here ?_)
 refine sw rfl (.u rfl) (.u rfl) rfl jP bB (by first|exact qE|exact qL|rfl) (aBg rfl rfl rfl rfl rfl rfl rfl rfl) ?_
 refine .nil (.code (.ret (We.fin Tryz.results79 (.cell rfl (fun w hw=>bI dF (RdN.own .here) ((by first|exact qE|exact qL|rfl)) hw) .nil) (mS bB rfl (mS aN rfl mN)) ?_)))
 obtain rfl:k=32:=by omega
 exact ⟨_,L,ee,s9,bad32,aNx hN6 hb6 yB hN13 hN19 hN25 hN28 hb28 yA hN32 hb32 yA hN39 hN45 hB hr (funext fun i=>by rw [← ef i]; rfl),lX,rfl,rfl,hsl⟩
theorem aKv:cL Tryz.prog 140=some (139,1,8):=by kernel_rfl
theorem yX:iD Tryz.prog 45=some (fE (fun _=>0)++[.slice none 0 0,.slice none 0 0]):=by kernel_rfl
theorem aSX:eS Tryz.prog 138 [0]=some ([.pointer none,.bool false],[(0,1)]):=by kernel_rfl
theorem vO:cO Tryz.prog 45 0=some 0:=by kernel_rfl
theorem tX:cO Tryz.prog 45 1=some 1:=by kernel_rfl
theorem tY:cO Tryz.prog 45 2=some 2:=by kernel_rfl
theorem tZ:cO Tryz.prog 45 3=some 3:=by kernel_rfl
theorem aT5:(Tryz.prog.info? 139).bind (·.zero)=some (.pointer none):=by kernel_rfl
theorem aTu:(cL Tryz.prog 140).isSome=true:=by kernel_rfl
theorem aSR:dJ Tryz.prog 139=some none:=by kernel_rfl
theorem uA:cO Tryz.prog 45 4=some 4:=by kernel_rfl
theorem fW:cO Tryz.prog 45 5=some 9:=by kernel_rfl
theorem yR:aU Tryz.prog 79=true:=by kernel_rfl
theorem dS:dL Tryz.prog 29=some 1:=by kernel_rfl
theorem aSW:eS Tryz.prog 104 [0]=some ([.int .u8 0,.int .u64 0],[(0,1)]):=by kernel_rfl
theorem aAv:iD Tryz.prog 104=some ([.int .u8 0,.int .u64 0]):=by kernel_rfl
theorem aAq:dL Tryz.prog 104=some 2:=by kernel_rfl
theorem yJ:cO Tryz.prog 104 1=some 1:=by kernel_rfl
theorem kB:cO Tryz.prog 45 6=some 10:=by kernel_rfl
theorem lP:dJ Tryz.prog 43=some none:=by kernel_rfl
theorem aAZ:dJ Tryz.prog 104=some (some 2):=by kernel_rfl
theorem pB:cL Tryz.prog 43=some (104,2,16):=by kernel_rfl
theorem yZ:(Tryz.prog.info? 104).bind (·.zero)=some (.agg #[.int .u8 0,.int .u64 0]):=by kernel_rfl
theorem aEu:dL Tryz.prog 43=some 1:=by kernel_rfl
theorem aTe:aU Tryz.prog 80=true:=by kernel_rfl
theorem aKF:eS Tryz.prog 45 []=some (fE (fun _=>0)++[.slice none 0 0,.slice none 0 0],[]):=by kernel_rfl
theorem vV:dL Tryz.prog 45=some 11:=by kernel_rfl
theorem oU:dJ Tryz.prog 45=some (some 11):=by kernel_rfl
set_option maxHeartbeats 2000000 in
theorem aMU (xs:List Y) (h:Sh) (G:PM) (hs:SlR G 1 aQ h xs) (hl:xs.length≤100000000000000):Ct Tryz.prog 35 ([h.val xs.length]:List Value).toArray G [] (fun G' μ' u=>∃ e err ha hd,DecR xs e err∧μ'=[]∧u=.tuple #[Edit.val e ha hd,.int .i64 err]∧EdR G' e ha hd):=by
 refine Ct.of Tryz.func35 rfl Tryz.ntmps35 rfl fun w0 hs0=>?_
 refine .seq (bJ rfl rfl ?_)
 refine al rfl yX ?_; intro b2
 refine .g (kc rfl aEo (aB rfl aF) (aLv xs h _ hs hl) ?_)
 rintro _ G13 μ13 hG13 ⟨b13,s13,rfl,rfl,hs13⟩
 refine dK ([.pointer (some ⟨b13,0,none⟩),.bool false]) rfl .no aSX (.cons (.u rfl) rfl .nil) rfl (rfl) ?_
 refine bX rfl rfl rfl ?_; intro b15
 refine aS rfl rfl (.nc (.seq (aL rfl rfl ?_)))
 refine al rfl yX ?_; intro b5
 refine .g (fZ rfl vO rfl (fZ rfl tX rfl (fZ rfl tY rfl (fZ rfl tZ rfl ?_))))
 refine Go.Tan.bN rfl aKv aT5 (Evp.cons (.u rfl) (Evp.cons (.u rfl) (Evp.cons (.u rfl) (Evp.cons (.u rfl) Evp.nil)))) rfl (by decide) (by simp [Value.oneCell',Sh.val]) ?_; intro b20
 refine lE rfl aTu rfl (mV rfl rfl (.nc (.block ?_)))
 refine aV (α:=Nat×List Y×Int×Sh×(Nat→Int)×List Nat) (fun gh=>[(22,true,.int .i64 (gh.1:Int))]) (fun gh=>[.blk b5 (cl (fE gh.2.2.2.2.1++[.slice none 0 0,.slice none 0 0]) 45),.blk b13 (cl [Sh.val gh.2.2.2.1 gh.2.1.length,.int .i64 gh.2.2.1] 135)])
  (fun gh Gl=>(gh.1≤4)∧(gh.2.2.2.2.2.length=gh.1)∧(RpR (fun α=>@fS α) 9 ⟨xs,0⟩ ⟨gh.2.1,gh.2.2.1⟩ false false gh.2.2.2.2.2)∧(∀ i,gh.2.2.2.2.1 i=((gh.2.2.2.2.2.getD i 0:Nat):Int))∧(gh.2.1.length≤xs.length)∧(SlR Gl 1 aQ gh.2.2.2.1 gh.2.1)) (fun gh=>4-gh.1) (0,xs,0,s13,(fun _=>0),[]) [(2,true,_),(4,true,_),(5,true,_),(20,true,_),(21,true,_)] [_,_,_]
  (aK rfl (aA rfl (aA rfl (aA rfl (aA rfl (aA rfl eZ))))))
  (mS aE rfl (mS aN rfl (mS .here rfl (mS .here rfl (mS .here rfl mN))))) ?_ ?_
 ·refine ⟨?_,?_,?_,?_,?_,?_⟩
  ·(try dsimp only)<;>(first|omega|rfl|assumption|(simp; done))
  ·(try dsimp only)<;>(first|omega|rfl|assumption|(simp; done))
  ·(try dsimp only)<;>(exact RpR.zero)
  ·(try dsimp only)<;>(exact fun i=>by simp)
  ·(try dsimp only)<;>(first|omega|rfl|assumption|(simp; done))
  (try dsimp only)<;>(exact hs13)
 intro gh N0 Gl0 hN0 hGl0 hF0
 obtain ⟨k,L,ee,s9,g,rt⟩:=gh; dsimp only at hF0 hN0 ⊢
 obtain ⟨hk,hr,hR,eg,lL,hsl⟩:=hF0
 refine .g (cP rfl rfl rfl rfl (.g (cD rfl (fun c1=>?_) (fun c1=>?_))))
 ·have c1k:=c1
  try simp only [aC,aG,aD] at c1
  refine .g (ia rfl .no aKv (.u rfl) (.u rfl) (by omega) (by omega) ?_)
  refine ld (v:=.pointer (some ⟨b5,k,none⟩)) rfl .no aSR (.u rfl) (fun _=>Rd.own aN (aMt rfl (by omega))) ?_
  refine .g (nC rfl rfl (fZ rfl oZ rfl (lO rfl oV rfl bB (by first|exact aJ rfl|rfl) ?_)))
  refine ka rfl (.inr rfl) vS (aB rfl aF) (bL aE) (vB L ee s9 b13 _ hsl (by omega)) ?_
  rintro _ G31 μ31 hG31 ⟨n31,L31,e31,s31,hN31,rfl,rfl,hs31⟩
  have lL31:=oP hN31; have nL31:=fM hN31; simp only at lL31
  have hsl:=hsl.mono hG31
  refine nC rfl rfl (s1 rfl (.u rfl) (.u rfl) rfl iS aE (by first|decide|(simp only [List.length_append,gJ,List.length_cons,List.length_nil]; omega)) (wX (k:=k) rfl (by omega)) ?_)
  refine .g (aW (((k+1):Nat):Int) rfl rfl rfl rfl ?_)
  refine .g (aP (k+1,L31,e31,s31,upd g k (n31:Int),rt++[n31]) ?_ ?_ ?_ ?_ ?_)
  ·exact (aK rfl (aA rfl (aA rfl (aA rfl (aA rfl (aA rfl eZ))))))
  ·exact (mS .here rfl (mS .here rfl (mS .here rfl (mS .here rfl (mS .here rfl mN)))))
  ·first|omega|(dsimp only; omega)
  ·exact (hGl0).trans hG31
  refine ⟨?_,?_,?_,?_,?_,?_⟩
  ·(try dsimp only)<;>(first|omega|rfl|assumption|(simp; done))
  ·(try dsimp only)<;>(simp [hr])
  ·(try dsimp only)<;>(exact hR.step (by omega) (fun α O k h=>h.numE hN31))
  ·(try dsimp only)<;>(exact uS hr eg)
  ·(try dsimp only)<;>(first|omega|rfl|assumption|(simp; done))
  (try dsimp only)<;>(exact hs31)
 have c1k:=c1
 try simp only [aC,aG,aD] at c1
 refine .exit (.xcode (.xlp (.xblk (.code (.seq (.seq (aL rfl rfl (mV rfl rfl (.nc (.block ?_))))))))))
 refine aV (α:=Nat×List Y×Int×Sh×(Nat→Int)×List Nat) (fun gh=>[(34,true,.int .i64 (gh.1:Int))]) (fun gh=>[.blk b5 (cl (fE gh.2.2.2.2.1++[.slice none 0 0,.slice none 0 0]) 45),.blk b13 (cl [Sh.val gh.2.2.2.1 gh.2.1.length,.int .i64 gh.2.2.1] 135)])
  (fun gh Gl=>(gh.1≤5)∧(gh.2.2.2.2.2.length=4+gh.1)∧(RpR (fun α=>@fS α) 9 ⟨xs,0⟩ ⟨gh.2.1,gh.2.2.1⟩ false false gh.2.2.2.2.2)∧(∀ i,gh.2.2.2.2.1 i=((gh.2.2.2.2.2.getD i 0:Nat):Int))∧(gh.2.1.length≤xs.length)∧(SlR Gl 1 aQ gh.2.2.2.1 gh.2.1)) (fun gh=>5-gh.1) (0,L,ee,s9,g,rt) [(2,true,_),(4,true,_),(5,true,_)] [_,_,_]
  (aK rfl (aA rfl (aA rfl (aA rfl eZ))))
  (mS .here rfl (mS .here rfl (mS .here rfl (mS .here rfl (mS .here rfl mN))))) ?_ ?_
 ·refine ⟨?_,?_,?_,?_,?_,?_⟩
  ·(try dsimp only)<;>(first|omega|rfl|assumption|(simp; done))
  ·(try dsimp only)<;>(first|omega|rfl|assumption|(simp; done))
  ·(try dsimp only)<;>(exact hR)
  ·(try dsimp only)<;>(exact eg)
  ·(try dsimp only)<;>(first|omega|rfl|assumption|(simp; done))
  (try dsimp only)<;>(exact hsl)
 intro gh N1 Gl1 hN1 hGl1 hF1
 obtain ⟨k2,L2,e2,s2,g2,rt2⟩:=gh; dsimp only at hF1 hN1 ⊢
 obtain ⟨hk2,hr2,hR2,eg2,lL2,hsl2⟩:=hF1
 refine .g (cP rfl rfl rfl rfl (.g (cD rfl (fun c2=>?_) (fun c2=>?_))))
 ·have c2k:=c2
  try simp only [aC,aG,aD] at c2
  refine .g (nC rfl rfl (fZ rfl oZ rfl (lO rfl oV rfl bB (by first|exact aJ rfl|rfl) ?_)))
  refine ka rfl (.inr rfl) vS (aB rfl aF) (bL aE) (vB L2 e2 s2 b13 _ hsl2 (by omega)) ?_
  rintro _ G42 μ42 hG42 ⟨n42,L42,e42,s42,hN42,rfl,rfl,hs42⟩
  have lL42:=oP hN42; have nL42:=fM hN42; simp only at lL42
  have hsl2:=hsl2.mono hG42
  refine fZ rfl uA rfl (iW rfl rA rfl rfl ?_)
  refine s1 rfl (.u rfl) (.u rfl) rfl iS aE (by first|decide|(simp only [List.length_append,gJ,List.length_cons,List.length_nil]; omega)) (wX (k:=4+k2) (by omega) (by omega)) ?_
  refine .g (aW (((k2+1):Nat):Int) rfl rfl rfl rfl ?_)
  refine .g (aP (k2+1,L42,e42,s42,upd g2 (4+k2) (n42:Int),rt2++[n42]) ?_ ?_ ?_ ?_ ?_)
  ·exact (aK rfl (aA rfl (aA rfl (aA rfl eZ))))
  ·exact (mS .here rfl (mS .here rfl (mS .here rfl (mS .here rfl (mS .here rfl mN)))))
  ·first|omega|(dsimp only; omega)
  ·exact (hGl1).trans hG42
  refine ⟨?_,?_,?_,?_,?_,?_⟩
  ·(try dsimp only)<;>(first|omega|rfl|assumption|(simp; done))
  ·(try dsimp only)<;>(simp [hr2]; omega)
  ·(try dsimp only)<;>(exact hR2.step (by omega) (fun α O k h=>h.numE hN42))
  ·(try dsimp only)<;>(exact uS hr2 eg2)
  ·(try dsimp only)<;>(first|omega|rfl|assumption|(simp; done))
  (try dsimp only)<;>(exact hs42)
 have c2k:=c2
 try simp only [aC,aG,aD] at c2
 refine .exit (.xcode (.xlp (.xblk (.code (.seq (.seq (nW 40 Meta.cells 98 (.g (ka rfl (.inr rfl) yQ (aB rfl (aB rfl aF)) (gT cJ aN) (xZ L2 e2 false s2 b15 b13 _ hsl2 (by omega) 1024) ?_)))))))))
 rintro _ G47 μ47 hG47 ⟨n47,L47,e47,s47,bad47,hN47,hb47,rfl,rfl,hs47⟩
 have lL47:=oP hN47; have nL47:=fM hN47; simp only at lL47
 refine aS rfl rfl (.nc (.block ?_))
 have hT1:=aFm (aFl hR2 (by omega)) hN47 hb47
 refine aV (α:=Nat×Value×List Y×Int×Sh×Bool×List Meta) (fun gh=>[(9,true,.int .u64 (gh.1:Int))]) (fun gh=>[.blk b15 (cl [.pointer (some ⟨b13,0,none⟩),.bool gh.2.2.2.2.2.1] 138),.blk b13 (cl [Sh.val gh.2.2.2.2.1 gh.2.2.1.length,.int .i64 gh.2.2.2.1] 135),rS 40 Meta.cells gh.2.1 98 gh.2.2.2.2.2.2,.blk b5 (cl (fE g2++[gh.2.1,.slice none 0 0]) 45)])
  (fun gh Gl=>(gh.1+gh.2.2.2.2.2.2.length=n47)∧(RpR (fun α=>@oO α) n47 ⟨L47,e47⟩ ⟨gh.2.2.1,gh.2.2.2.1⟩ bad47 gh.2.2.2.2.2.1 gh.2.2.2.2.2.2)∧(gh.2.2.2.2.2.1=false→n47≤1024)∧(gh.2.2.1.length≤xs.length)∧(SlR Gl 1 aQ gh.2.2.2.2.1 gh.2.2.1)) (fun gh=>gh.1) (n47,.slice none 0 0,L47,e47,s47,bad47,[]) [(2,true,_),(4,true,_),(5,true,_)] [_,_]
  (aA rfl (aA rfl (aA rfl (aA rfl eZ))))
  (mS .here rfl (mS .here rfl (mS .here rfl (mS .here rfl (mS .here rfl (mS .here rfl mN)))))) ?_ ?_
 ·refine ⟨?_,?_,?_,?_,?_⟩
  ·(try dsimp only)<;>(first|omega|rfl|assumption|(simp; done))
  ·(try dsimp only)<;>(exact RpR.zero)
  ·(try dsimp only)<;>(exact fun h=>aEN hb47 h)
  ·(try dsimp only)<;>(first|omega|rfl|assumption|(simp; done))
  (try dsimp only)<;>(exact hs47)
 intro gh N2 Gl2 hN2 hGl2 hF2
 obtain ⟨n,va,L3,e3,s3,bad3,add⟩:=gh; dsimp only at hF2 hN2 ⊢
 obtain ⟨hn3,hR3,hbd,lL3,hsl3⟩:=hF2
 refine .g (cP rfl rfl rfl rfl (mV rfl rfl (mv rfl (.t rfl rfl) (.u rfl) (nc rfl (.t rfl rfl) (.s rfl) (fz rfl (.t rfl rfl) aAc (.s rfl) (ld rfl (.t rfl rfl) qW (.s rfl) (fun hc=>Rd.own .here (by first|exact aJ rfl|rfl)) ?_))))))
 refine nt rfl (.t rfl rfl) (.s rfl) (bR rfl .no (.u rfl) (.s rfl) (.g (cD rfl (fun c3=>?_) (fun c3=>?_))))
 ·have c3k:=c3
  try simp only [aC,aG,aD] at c3
  refine .skip (.code (.seq (.block (aCc aX rfl ?_))))
  refine WoT.n2 0 2 (by kernel_rfl) ?_ ?_
  ·refine fZ rfl fW rfl (.nil (WoT.n2 1 2 (by kernel_rfl) ?_ ?_))
   ·refine lN rfl cM rfl (Rd.own bB pO) ?_
    refine .nil (WoT.n1 2 (by kernel_rfl) ?_)
    refine mV rfl rfl (.nil (WoT.n1 3 (by kernel_rfl) ?_))
    refine ka rfl (.inr rfl) yR (aB rfl aF) (gT .here .here) (wU L3 e3 bad3 s3 b15 b13 _ hsl3 (by omega)) ?_
    rintro _ G62 μ62 hG62 ⟨m62,L62,e62,s62,bad62,hM62,lL62,rfl,rfl,hs62⟩
    have hsl3:=hsl3.mono hG62
    refine .nil (WoT.n1 4 (by kernel_rfl) ?_)
    refine Go.Tan.b1 rfl aY cT (.u rfl) rfl rfl (by decide) ?_; intro b63
    refine .nil (WoT.n1 5 (by kernel_rfl) ?_)
    refine eC (xs:=add) (m62) rfl aY cT rfl (.u rfl) (.u rfl) bB .here (Meta.len _) (Meta.one _) (by have:=hbd c3.2; omega) (by have:=hbd c3.2; unfold maxLen; omega) ?_; intro v64 ov64
    refine .nil (WoT.n1 6 (by kernel_rfl) ?_)
    refine fZ rfl fW rfl (.nil (WoT.n1 7 (by kernel_rfl) ?_))
    refine dE rfl (.u rfl) (.u rfl) .here dS cJ (by first|decide|(simp only [List.length_append,gJ,List.length_cons,List.length_nil]; omega)) (pP) ?_
    refine .nil (WoT.last (by kernel_rfl) ?_)
    refine .g (ar rfl .no (.u rfl) (.u rfl) rfl (fun _=>eD (by omega) (by omega)) ?_)
    refine .g (aP (n-1,v64,L62,e62,s62,bad62,add++[m62]) ?_ ?_ ?_ ?_ ?_)
    ·exact (cI rfl (dA (by omega)) (aA rfl (aA rfl (aA rfl eZ))))
    ·exact (mS bB rfl (mS bB rfl (mS aE rfl (mS .here rfl (mS aE rfl (mS aE rfl mN))))))
    ·first|omega|(dsimp only; omega)
    ·exact (hGl2).trans hG62
    refine ⟨?_,?_,?_,?_,?_⟩
    ·(try dsimp only)<;>(rw [List.length_append]; show _+(_+1)=_; omega)
    ·(try dsimp only)<;>(exact hR3.step (by omega) hM62)
    ·(try dsimp only)<;>(exact fun _=>hbd c3.2)
    ·(try dsimp only)<;>(first|omega|rfl|assumption|(simp; done))
    (try dsimp only)<;>(exact hs62)
   refine mV rfl rfl (.nil (WoT.n2 1 3 (by kernel_rfl) ?_ ?_))
   ·refine lN rfl cM rfl (Rd.own bB pO) ?_
    refine .nil (WoT.n1 3 (by kernel_rfl) ?_)
    refine ka rfl (.inr rfl) yR (aB rfl aF) (gT .here .here) (wU L3 e3 bad3 s3 b15 b13 _ hsl3 (by omega)) ?_
    rintro _ G62 μ62 hG62 ⟨m62,L62,e62,s62,bad62,hM62,lL62,rfl,rfl,hs62⟩
    have hsl3:=hsl3.mono hG62
    refine .nil (WoT.n1 4 (by kernel_rfl) ?_)
    refine Go.Tan.b1 rfl aY cT (.u rfl) rfl rfl (by decide) ?_; intro b63
    refine .nil (WoT.n1 5 (by kernel_rfl) ?_)
    refine eC (xs:=add) (m62) rfl aY cT rfl (.u rfl) (.u rfl) bB .here (Meta.len _) (Meta.one _) (by have:=hbd c3.2; omega) (by have:=hbd c3.2; unfold maxLen; omega) ?_; intro v64 ov64
    refine .nil (WoT.n1 6 (by kernel_rfl) ?_)
    refine fZ rfl fW rfl (.nil (WoT.n1 7 (by kernel_rfl) ?_))
    refine dE rfl (.u rfl) (.u rfl) .here dS cJ (by first|decide|(simp only [List.length_append,gJ,List.length_cons,List.length_nil]; omega)) (pP) ?_
    refine .nil (WoT.last (by kernel_rfl) ?_)
    refine .g (ar rfl .no (.u rfl) (.u rfl) rfl (fun _=>eD (by omega) (by omega)) ?_)
    refine .g (aP (n-1,v64,L62,e62,s62,bad62,add++[m62]) ?_ ?_ ?_ ?_ ?_)
    ·exact (cI rfl (dA (by omega)) (aA rfl (aA rfl (aA rfl eZ))))
    ·exact (mS bB rfl (mS bB rfl (mS aE rfl (mS .here rfl (mS aE rfl (mS aE rfl mN))))))
    ·first|omega|(dsimp only; omega)
    ·exact (hGl2).trans hG62
    refine ⟨?_,?_,?_,?_,?_⟩
    ·(try dsimp only)<;>(rw [List.length_append]; show _+(_+1)=_; omega)
    ·(try dsimp only)<;>(exact hR3.step (by omega) hM62)
    ·(try dsimp only)<;>(exact fun _=>hbd c3.2)
    ·(try dsimp only)<;>(first|omega|rfl|assumption|(simp; done))
    (try dsimp only)<;>(exact hs62)
   refine ka rfl (.inr rfl) yR (aB rfl aF) (gT .here .here) (wU L3 e3 bad3 s3 b15 b13 _ hsl3 (by omega)) ?_
   rintro _ G62 μ62 hG62 ⟨m62,L62,e62,s62,bad62,hM62,lL62,rfl,rfl,hs62⟩
   have hsl3:=hsl3.mono hG62
   refine .nil (WoT.n2 1 4 (by kernel_rfl) ?_ ?_)
   ·refine lN rfl cM rfl (Rd.own bB pO) ?_
    refine .nil (WoT.n1 4 (by kernel_rfl) ?_)
    refine Go.Tan.b1 rfl aY cT (.u rfl) rfl rfl (by decide) ?_; intro b63
    refine .nil (WoT.n1 5 (by kernel_rfl) ?_)
    refine eC (xs:=add) (m62) rfl aY cT rfl (.u rfl) (.u rfl) bB .here (Meta.len _) (Meta.one _) (by have:=hbd c3.2; omega) (by have:=hbd c3.2; unfold maxLen; omega) ?_; intro v64 ov64
    refine .nil (WoT.n1 6 (by kernel_rfl) ?_)
    refine fZ rfl fW rfl (.nil (WoT.n1 7 (by kernel_rfl) ?_))
    refine dE rfl (.u rfl) (.u rfl) .here dS cJ (by first|decide|(simp only [List.length_append,gJ,List.length_cons,List.length_nil]; omega)) (pP) ?_
    refine .nil (WoT.last (by kernel_rfl) ?_)
    refine .g (ar rfl .no (.u rfl) (.u rfl) rfl (fun _=>eD (by omega) (by omega)) ?_)
    refine .g (aP (n-1,v64,L62,e62,s62,bad62,add++[m62]) ?_ ?_ ?_ ?_ ?_)
    ·exact (cI rfl (dA (by omega)) (aA rfl (aA rfl (aA rfl eZ))))
    ·exact (mS bB rfl (mS bB rfl (mS aE rfl (mS .here rfl (mS aE rfl (mS aE rfl mN))))))
    ·first|omega|(dsimp only; omega)
    ·exact (hGl2).trans hG62
    refine ⟨?_,?_,?_,?_,?_⟩
    ·(try dsimp only)<;>(rw [List.length_append]; show _+(_+1)=_; omega)
    ·(try dsimp only)<;>(exact hR3.step (by omega) hM62)
    ·(try dsimp only)<;>(exact fun _=>hbd c3.2)
    ·(try dsimp only)<;>(first|omega|rfl|assumption|(simp; done))
    (try dsimp only)<;>(exact hs62)
   refine Go.Tan.b1 rfl aY cT (.u rfl) rfl rfl (by decide) ?_; intro b63
   refine .nil (WoT.n1 1 (by kernel_rfl) ?_)
   refine lN rfl cM rfl (Rd.own cJ pO) ?_
   refine .nil (WoT.n1 5 (by kernel_rfl) ?_)
   refine eC (xs:=add) (m62) rfl aY cT rfl (.u rfl) (.u rfl) bB .here (Meta.len _) (Meta.one _) (by have:=hbd c3.2; omega) (by have:=hbd c3.2; unfold maxLen; omega) ?_; intro v64 ov64
   refine .nil (WoT.n1 6 (by kernel_rfl) ?_)
   refine fZ rfl fW rfl (.nil (WoT.n1 7 (by kernel_rfl) ?_))
   refine dE rfl (.u rfl) (.u rfl) .here dS cJ (by first|decide|(simp only [List.length_append,gJ,List.length_cons,List.length_nil]; omega)) (pP) ?_
   refine .nil (WoT.last (by kernel_rfl) ?_)
   refine .g (ar rfl .no (.u rfl) (.u rfl) rfl (fun _=>eD (by omega) (by omega)) ?_)
   refine .g (aP (n-1,v64,L62,e62,s62,bad62,add++[m62]) ?_ ?_ ?_ ?_ ?_)
   ·exact (cI rfl (dA (by omega)) (aA rfl (aA rfl (aA rfl eZ))))
   ·exact (mS bB rfl (mS bB rfl (mS aE rfl (mS .here rfl (mS aE rfl (mS aE rfl mN))))))
   ·first|omega|(dsimp only; omega)
   ·exact (hGl2).trans hG62
   refine ⟨?_,?_,?_,?_,?_⟩
   ·(try dsimp only)<;>(rw [List.length_append]; show _+(_+1)=_; omega)
   ·(try dsimp only)<;>(exact hR3.step (by omega) hM62)
   ·(try dsimp only)<;>(exact fun _=>hbd c3.2)
   ·(try dsimp only)<;>(first|omega|rfl|assumption|(simp; done))
   (try dsimp only)<;>(exact hs62)
  refine mV rfl rfl (.nil (WoT.n2 0 3 (by kernel_rfl) ?_ ?_))
  ·refine fZ rfl fW rfl (.nil (WoT.n2 1 3 (by kernel_rfl) ?_ ?_))
   ·refine lN rfl cM rfl (Rd.own bB pO) ?_
    refine .nil (WoT.n1 3 (by kernel_rfl) ?_)
    refine ka rfl (.inr rfl) yR (aB rfl aF) (gT .here .here) (wU L3 e3 bad3 s3 b15 b13 _ hsl3 (by omega)) ?_
    rintro _ G62 μ62 hG62 ⟨m62,L62,e62,s62,bad62,hM62,lL62,rfl,rfl,hs62⟩
    have hsl3:=hsl3.mono hG62
    refine .nil (WoT.n1 4 (by kernel_rfl) ?_)
    refine Go.Tan.b1 rfl aY cT (.u rfl) rfl rfl (by decide) ?_; intro b63
    refine .nil (WoT.n1 5 (by kernel_rfl) ?_)
    refine eC (xs:=add) (m62) rfl aY cT rfl (.u rfl) (.u rfl) bB .here (Meta.len _) (Meta.one _) (by have:=hbd c3.2; omega) (by have:=hbd c3.2; unfold maxLen; omega) ?_; intro v64 ov64
    refine .nil (WoT.n1 6 (by kernel_rfl) ?_)
    refine fZ rfl fW rfl (.nil (WoT.n1 7 (by kernel_rfl) ?_))
    refine dE rfl (.u rfl) (.u rfl) .here dS cJ (by first|decide|(simp only [List.length_append,gJ,List.length_cons,List.length_nil]; omega)) (pP) ?_
    refine .nil (WoT.last (by kernel_rfl) ?_)
    refine .g (ar rfl .no (.u rfl) (.u rfl) rfl (fun _=>eD (by omega) (by omega)) ?_)
    refine .g (aP (n-1,v64,L62,e62,s62,bad62,add++[m62]) ?_ ?_ ?_ ?_ ?_)
    ·exact (cI rfl (dA (by omega)) (aA rfl (aA rfl (aA rfl eZ))))
    ·exact (mS bB rfl (mS bB rfl (mS aE rfl (mS .here rfl (mS aE rfl (mS aE rfl mN))))))
    ·first|omega|(dsimp only; omega)
    ·exact (hGl2).trans hG62
    refine ⟨?_,?_,?_,?_,?_⟩
    ·(try dsimp only)<;>(rw [List.length_append]; show _+(_+1)=_; omega)
    ·(try dsimp only)<;>(exact hR3.step (by omega) hM62)
    ·(try dsimp only)<;>(exact fun _=>hbd c3.2)
    ·(try dsimp only)<;>(first|omega|rfl|assumption|(simp; done))
    (try dsimp only)<;>(exact hs62)
   refine ka rfl (.inr rfl) yR (aB rfl aF) (gT .here .here) (wU L3 e3 bad3 s3 b15 b13 _ hsl3 (by omega)) ?_
   rintro _ G62 μ62 hG62 ⟨m62,L62,e62,s62,bad62,hM62,lL62,rfl,rfl,hs62⟩
   have hsl3:=hsl3.mono hG62
   refine .nil (WoT.n2 1 4 (by kernel_rfl) ?_ ?_)
   ·refine lN rfl cM rfl (Rd.own bB pO) ?_
    refine .nil (WoT.n1 4 (by kernel_rfl) ?_)
    refine Go.Tan.b1 rfl aY cT (.u rfl) rfl rfl (by decide) ?_; intro b63
    refine .nil (WoT.n1 5 (by kernel_rfl) ?_)
    refine eC (xs:=add) (m62) rfl aY cT rfl (.u rfl) (.u rfl) bB .here (Meta.len _) (Meta.one _) (by have:=hbd c3.2; omega) (by have:=hbd c3.2; unfold maxLen; omega) ?_; intro v64 ov64
    refine .nil (WoT.n1 6 (by kernel_rfl) ?_)
    refine fZ rfl fW rfl (.nil (WoT.n1 7 (by kernel_rfl) ?_))
    refine dE rfl (.u rfl) (.u rfl) .here dS cJ (by first|decide|(simp only [List.length_append,gJ,List.length_cons,List.length_nil]; omega)) (pP) ?_
    refine .nil (WoT.last (by kernel_rfl) ?_)
    refine .g (ar rfl .no (.u rfl) (.u rfl) rfl (fun _=>eD (by omega) (by omega)) ?_)
    refine .g (aP (n-1,v64,L62,e62,s62,bad62,add++[m62]) ?_ ?_ ?_ ?_ ?_)
    ·exact (cI rfl (dA (by omega)) (aA rfl (aA rfl (aA rfl eZ))))
    ·exact (mS bB rfl (mS bB rfl (mS aE rfl (mS .here rfl (mS aE rfl (mS aE rfl mN))))))
    ·first|omega|(dsimp only; omega)
    ·exact (hGl2).trans hG62
    refine ⟨?_,?_,?_,?_,?_⟩
    ·(try dsimp only)<;>(rw [List.length_append]; show _+(_+1)=_; omega)
    ·(try dsimp only)<;>(exact hR3.step (by omega) hM62)
    ·(try dsimp only)<;>(exact fun _=>hbd c3.2)
    ·(try dsimp only)<;>(first|omega|rfl|assumption|(simp; done))
    (try dsimp only)<;>(exact hs62)
   refine Go.Tan.b1 rfl aY cT (.u rfl) rfl rfl (by decide) ?_; intro b63
   refine .nil (WoT.n1 1 (by kernel_rfl) ?_)
   refine lN rfl cM rfl (Rd.own cJ pO) ?_
   refine .nil (WoT.n1 5 (by kernel_rfl) ?_)
   refine eC (xs:=add) (m62) rfl aY cT rfl (.u rfl) (.u rfl) bB .here (Meta.len _) (Meta.one _) (by have:=hbd c3.2; omega) (by have:=hbd c3.2; unfold maxLen; omega) ?_; intro v64 ov64
   refine .nil (WoT.n1 6 (by kernel_rfl) ?_)
   refine fZ rfl fW rfl (.nil (WoT.n1 7 (by kernel_rfl) ?_))
   refine dE rfl (.u rfl) (.u rfl) .here dS cJ (by first|decide|(simp only [List.length_append,gJ,List.length_cons,List.length_nil]; omega)) (pP) ?_
   refine .nil (WoT.last (by kernel_rfl) ?_)
   refine .g (ar rfl .no (.u rfl) (.u rfl) rfl (fun _=>eD (by omega) (by omega)) ?_)
   refine .g (aP (n-1,v64,L62,e62,s62,bad62,add++[m62]) ?_ ?_ ?_ ?_ ?_)
   ·exact (cI rfl (dA (by omega)) (aA rfl (aA rfl (aA rfl eZ))))
   ·exact (mS bB rfl (mS bB rfl (mS aE rfl (mS .here rfl (mS aE rfl (mS aE rfl mN))))))
   ·first|omega|(dsimp only; omega)
   ·exact (hGl2).trans hG62
   refine ⟨?_,?_,?_,?_,?_⟩
   ·(try dsimp only)<;>(rw [List.length_append]; show _+(_+1)=_; omega)
   ·(try dsimp only)<;>(exact hR3.step (by omega) hM62)
   ·(try dsimp only)<;>(exact fun _=>hbd c3.2)
   ·(try dsimp only)<;>(first|omega|rfl|assumption|(simp; done))
   (try dsimp only)<;>(exact hs62)
  refine ka rfl (.inr rfl) yR (aB rfl aF) (gT .here .here) (wU L3 e3 bad3 s3 b15 b13 _ hsl3 (by omega)) ?_
  rintro _ G62 μ62 hG62 ⟨m62,L62,e62,s62,bad62,hM62,lL62,rfl,rfl,hs62⟩
  have hsl3:=hsl3.mono hG62
  refine .nil (WoT.n2 0 4 (by kernel_rfl) ?_ ?_)
  ·refine fZ rfl fW rfl (.nil (WoT.n2 1 4 (by kernel_rfl) ?_ ?_))
   ·refine lN rfl cM rfl (Rd.own bB pO) ?_
    refine .nil (WoT.n1 4 (by kernel_rfl) ?_)
    refine Go.Tan.b1 rfl aY cT (.u rfl) rfl rfl (by decide) ?_; intro b63
    refine .nil (WoT.n1 5 (by kernel_rfl) ?_)
    refine eC (xs:=add) (m62) rfl aY cT rfl (.u rfl) (.u rfl) bB .here (Meta.len _) (Meta.one _) (by have:=hbd c3.2; omega) (by have:=hbd c3.2; unfold maxLen; omega) ?_; intro v64 ov64
    refine .nil (WoT.n1 6 (by kernel_rfl) ?_)
    refine fZ rfl fW rfl (.nil (WoT.n1 7 (by kernel_rfl) ?_))
    refine dE rfl (.u rfl) (.u rfl) .here dS cJ (by first|decide|(simp only [List.length_append,gJ,List.length_cons,List.length_nil]; omega)) (pP) ?_
    refine .nil (WoT.last (by kernel_rfl) ?_)
    refine .g (ar rfl .no (.u rfl) (.u rfl) rfl (fun _=>eD (by omega) (by omega)) ?_)
    refine .g (aP (n-1,v64,L62,e62,s62,bad62,add++[m62]) ?_ ?_ ?_ ?_ ?_)
    ·exact (cI rfl (dA (by omega)) (aA rfl (aA rfl (aA rfl eZ))))
    ·exact (mS bB rfl (mS bB rfl (mS aE rfl (mS .here rfl (mS aE rfl (mS aE rfl mN))))))
    ·first|omega|(dsimp only; omega)
    ·exact (hGl2).trans hG62
    refine ⟨?_,?_,?_,?_,?_⟩
    ·(try dsimp only)<;>(rw [List.length_append]; show _+(_+1)=_; omega)
    ·(try dsimp only)<;>(exact hR3.step (by omega) hM62)
    ·(try dsimp only)<;>(exact fun _=>hbd c3.2)
    ·(try dsimp only)<;>(first|omega|rfl|assumption|(simp; done))
    (try dsimp only)<;>(exact hs62)
   refine Go.Tan.b1 rfl aY cT (.u rfl) rfl rfl (by decide) ?_; intro b63
   refine .nil (WoT.n1 1 (by kernel_rfl) ?_)
   refine lN rfl cM rfl (Rd.own cJ pO) ?_
   refine .nil (WoT.n1 5 (by kernel_rfl) ?_)
   refine eC (xs:=add) (m62) rfl aY cT rfl (.u rfl) (.u rfl) bB .here (Meta.len _) (Meta.one _) (by have:=hbd c3.2; omega) (by have:=hbd c3.2; unfold maxLen; omega) ?_; intro v64 ov64
   refine .nil (WoT.n1 6 (by kernel_rfl) ?_)
   refine fZ rfl fW rfl (.nil (WoT.n1 7 (by kernel_rfl) ?_))
   refine dE rfl (.u rfl) (.u rfl) .here dS cJ (by first|decide|(simp only [List.length_append,gJ,List.length_cons,List.length_nil]; omega)) (pP) ?_
   refine .nil (WoT.last (by kernel_rfl) ?_)
   refine .g (ar rfl .no (.u rfl) (.u rfl) rfl (fun _=>eD (by omega) (by omega)) ?_)
   refine .g (aP (n-1,v64,L62,e62,s62,bad62,add++[m62]) ?_ ?_ ?_ ?_ ?_)
   ·exact (cI rfl (dA (by omega)) (aA rfl (aA rfl (aA rfl eZ))))
   ·exact (mS bB rfl (mS bB rfl (mS aE rfl (mS .here rfl (mS aE rfl (mS aE rfl mN))))))
   ·first|omega|(dsimp only; omega)
   ·exact (hGl2).trans hG62
   refine ⟨?_,?_,?_,?_,?_⟩
   ·(try dsimp only)<;>(rw [List.length_append]; show _+(_+1)=_; omega)
   ·(try dsimp only)<;>(exact hR3.step (by omega) hM62)
   ·(try dsimp only)<;>(exact fun _=>hbd c3.2)
   ·(try dsimp only)<;>(first|omega|rfl|assumption|(simp; done))
   (try dsimp only)<;>(exact hs62)
  refine Go.Tan.b1 rfl aY cT (.u rfl) rfl rfl (by decide) ?_; intro b63
  refine .nil (WoT.n1 0 (by kernel_rfl) ?_)
  refine fZ rfl fW rfl (.nil (WoT.n1 1 (by kernel_rfl) ?_))
  refine lN rfl cM rfl (Rd.own cJ pO) ?_
  refine .nil (WoT.n1 5 (by kernel_rfl) ?_)
  refine eC (xs:=add) (m62) rfl aY cT rfl (.u rfl) (.u rfl) bB .here (Meta.len _) (Meta.one _) (by have:=hbd c3.2; omega) (by have:=hbd c3.2; unfold maxLen; omega) ?_; intro v64 ov64
  refine .nil (WoT.n1 6 (by kernel_rfl) ?_)
  refine fZ rfl fW rfl (.nil (WoT.n1 7 (by kernel_rfl) ?_))
  refine dE rfl (.u rfl) (.u rfl) .here dS cJ (by first|decide|(simp only [List.length_append,gJ,List.length_cons,List.length_nil]; omega)) (pP) ?_
  refine .nil (WoT.last (by kernel_rfl) ?_)
  refine .g (ar rfl .no (.u rfl) (.u rfl) rfl (fun _=>eD (by omega) (by omega)) ?_)
  refine .g (aP (n-1,v64,L62,e62,s62,bad62,add++[m62]) ?_ ?_ ?_ ?_ ?_)
  ·exact (cI rfl (dA (by omega)) (aA rfl (aA rfl (aA rfl eZ))))
  ·exact (mS bB rfl (mS bB rfl (mS aE rfl (mS .here rfl (mS aE rfl (mS aE rfl mN))))))
  ·first|omega|(dsimp only; omega)
  ·exact (hGl2).trans hG62
  refine ⟨?_,?_,?_,?_,?_⟩
  ·(try dsimp only)<;>(rw [List.length_append]; show _+(_+1)=_; omega)
  ·(try dsimp only)<;>(exact hR3.step (by omega) hM62)
  ·(try dsimp only)<;>(exact fun _=>hbd c3.2)
  ·(try dsimp only)<;>(first|omega|rfl|assumption|(simp; done))
  (try dsimp only)<;>(exact hs62)
 have c3k:=c3
 try simp only [aC,aG,aD] at c3
 refine .exit (.xcode (.xlp (.xblk (.code (.seq (.seq ?_))))))
 have hT2:=aFn hT1 hR3 hn3 (by first|exact c3.imp (fun h=>by omega) (fun h=>h) | (rcases c3 with c3 | c3; (exact .inl (by omega)); (exact .inr (by simpa using c3))))
 refine nW 2 Gone.cells 104 (.g (ka rfl (.inr rfl) yQ (aB rfl (aB rfl aF)) (gT aE aE) (xZ L3 e3 bad3 s3 b15 b13 _ hsl3 (by omega) 1024) ?_))
 rintro _ G67 μ67 hG67 ⟨n67,L67,e67,s67,bad67,hN67,hb67,rfl,rfl,hs67⟩
 have lL67:=oP hN67; have nL67:=fM hN67; simp only at lL67
 refine aS rfl rfl (.nc (.block ?_))
 have hT3:=aMR hT2 hN67 hb67
 refine aV (α:=Nat×Value×List Y×Int×Sh×Bool×List Gone) (fun gh=>[(10,true,.int .u64 (gh.1:Int))]) (fun gh=>[.blk b15 (cl [.pointer (some ⟨b13,0,none⟩),.bool gh.2.2.2.2.2.1] 138),.blk b13 (cl [Sh.val gh.2.2.2.2.1 gh.2.2.1.length,.int .i64 gh.2.2.2.1] 135),rS 2 Gone.cells gh.2.1 104 gh.2.2.2.2.2.2,.blk b5 (cl (fE g2++[va,gh.2.1]) 45)])
  (fun gh Gl=>(gh.1+gh.2.2.2.2.2.2.length=n67)∧(RpR (fun α=>@mZ α) n67 ⟨L67,e67⟩ ⟨gh.2.2.1,gh.2.2.2.1⟩ bad67 gh.2.2.2.2.2.1 gh.2.2.2.2.2.2)∧(gh.2.2.2.2.2.1=false→n67≤1024)∧(gh.2.2.1.length≤xs.length)∧(SlR Gl 1 aQ gh.2.2.2.2.1 gh.2.2.1)) (fun gh=>gh.1) (n67,.slice none 0 0,L67,e67,s67,bad67,[]) [(2,true,_),(4,true,_),(5,true,_)] [_,_,_]
  (aA rfl (aA rfl (aA rfl (aA rfl eZ))))
  (mS .here rfl (mS .here rfl (mS .here rfl (mS aE rfl (mS .here rfl (mS .here rfl (mS .here rfl mN))))))) ?_ ?_
 ·refine ⟨?_,?_,?_,?_,?_⟩
  ·(try dsimp only)<;>(first|omega|rfl|assumption|(simp; done))
  ·(try dsimp only)<;>(exact RpR.zero)
  ·(try dsimp only)<;>(exact fun h=>aEN hb67 h)
  ·(try dsimp only)<;>(first|omega|rfl|assumption|(simp; done))
  (try dsimp only)<;>(exact hs67)
 intro gh N3 Gl3 hN3 hGl3 hF3
 obtain ⟨q,vd,L4,e4,s4,bad4,dr⟩:=gh; dsimp only at hF3 hN3 ⊢
 obtain ⟨hn4,hR4,hbd4,lL4,hsl4⟩:=hF3
 refine .g (cP rfl rfl rfl rfl (mV rfl rfl (mv rfl (.t rfl rfl) (.u rfl) (nc rfl (.t rfl rfl) (.s rfl) (fz rfl (.t rfl rfl) aAc (.s rfl) (ld rfl (.t rfl rfl) qW (.s rfl) (fun hc=>Rd.own .here (by first|exact aJ rfl|rfl)) ?_))))))
 refine nt rfl (.t rfl rfl) (.s rfl) (bR rfl .no (.u rfl) (.s rfl) (.g (cD rfl (fun c4=>?_) (fun c4=>?_))))
 ·have c4k:=c4
  try simp only [aC,aG,aD] at c4
  refine .g (ka rfl (.inr rfl) yQ (aB rfl (aB rfl aF)) (gT .here .here) (xZ L4 e4 bad4 s4 b15 b13 _ hsl4 (by omega) 255) ?_)
  rintro _ G80 μ80 hG80 ⟨n80,L80,e80,s80,bad80,hN80,hb80,rfl,rfl,hs80⟩
  have lL80:=oP hN80; have nL80:=fM hN80; simp only at lL80
  refine cv rfl .no nY (.u rfl) (dK ([.int .u8 (IntKind.u8.wrap (n80:Int)),.int .u64 0]) rfl .no aSW (.cons (.u rfl) rfl .nil) rfl (rfl) ?_)
  refine al rfl aAv ?_; intro b11
  refine sw rfl (.u rfl) (.u rfl) rfl aAq .here (by first|exact dQ|exact dQ.trans dQ.symm|rfl) (uY rfl rfl) ?_
  refine .g (nC rfl rfl (fZ rfl oZ rfl (lO rfl oV rfl aE (by first|exact aJ rfl|rfl) ?_)))
  refine ka rfl (.inr rfl) vS (aB rfl aF) (bL aN) (vB L80 e80 s80 b13 _ hs80 (by omega)) ?_
  rintro _ G87 μ87 hG87 ⟨n87,L87,e87,s87,hN87,rfl,rfl,hs87⟩
  have lL87:=oP hN87; have nL87:=fM hN87; simp only at lL87
  refine fZ rfl yJ rfl (s1 rfl (.u rfl) (.u rfl) rfl iS aE (by first|decide|(simp only [List.length_append,gJ,List.length_cons,List.length_nil]; omega)) (rfl) ?_)
  refine .g (fZ rfl kB rfl (lN rfl lP rfl (Rd.own cJ aDZ) ?_))
  refine lA rfl .no aAZ (.u rfl) (fun _=>RdN.own .here) (fun _=>(by first|exact dQ|exact dQ.trans dQ.symm|rfl)) ?_
  refine Go.Tan.b1 rfl pB yZ (.u rfl) rfl rfl (by decide) ?_; intro b92
  refine eC (xs:=dr) ((⟨IntKind.u8.wrap (n80:Int),(n87:Int)⟩ : Gone)) rfl pB yZ rfl (.u rfl) (.u rfl) cJ .here (rfl) (uR) (by have:=hbd4 c4.2; omega) (by have:=hbd4 c4.2; unfold maxLen; omega) ?_; intro v93 ov93
  refine fZ rfl kB rfl (dE rfl (.u rfl) (.u rfl) .here aEu eI (by first|decide|(simp only [List.length_append,gJ,List.length_cons,List.length_nil]; omega)) (aDa) ?_)
  refine .g (ar rfl .no (.u rfl) (.u rfl) rfl (fun _=>eD (by omega) (by omega)) ?_)
  refine .g (aP (q-1,v93,L87,e87,s87,bad80,dr++[⟨IntKind.u8.wrap (n80:Int),(n87:Int)⟩]) ?_ ?_ ?_ ?_ ?_)
  ·exact (cI rfl (dA (by omega)) (aA rfl (aA rfl (aA rfl eZ))))
  ·exact (mS eI rfl (mS cJ rfl (mS aE rfl (mS .here rfl (mS aN rfl (mS aN rfl (mS aN rfl mN)))))))
  ·first|omega|(dsimp only; omega)
  ·exact ((hGl3).trans hG80).trans hG87
  refine ⟨?_,?_,?_,?_,?_⟩
  ·(try dsimp only)<;>(rw [List.length_append]; show _+(_+1)=_; omega)
  ·(try dsimp only)<;>(exact hR4.step (by omega) (aDF hN80 hb80 yB hN87))
  ·(try dsimp only)<;>(exact fun _=>hbd4 c4.2)
  ·(try dsimp only)<;>(first|omega|rfl|assumption|(simp; done))
  (try dsimp only)<;>(exact hs87)
 have c4k:=c4
 try simp only [aC,aG,aD] at c4
 refine .exit (.xcode (.xlp (.xblk (.code (.seq (.seq ?_))))))
 have hT4:=aFo hT3 hR4 hn4 (by first|exact c4.imp (fun h=>by omega) (fun h=>h) | (rcases c4 with c4 | c4; (exact .inl (by omega)); (exact .inr (by simpa using c4))))
 refine .g (nC rfl rfl (fZ rfl aAc rfl (lO rfl qW rfl .here (by first|exact aJ rfl|rfl) ?_)))
 refine mV rfl rfl (mv rfl (.f rfl rfl) (.u rfl) (nc rfl (.f rfl rfl) (.s rfl) (fz rfl (.f rfl rfl) oZ (.s rfl) (ld rfl (.f rfl rfl) oV (.s rfl) (fun hc=>Rd.own .here (by first|exact aJ rfl|rfl)) ?_))))
 refine kp rfl (.f rfl rfl) aTe (Eva.cons (.s rfl) aF) (Gp.add aE Gp.nil) (fun hc hle hq=>aPK L4 e4 s4 b13 _ RdNP.add) ?_
 refine cp rfl (.f rfl rfl) (.s rfl) (.u rfl) rfl (cK rfl .no (.u rfl) (.s rfl) (.g (cD rfl (fun c5=>?_) (fun c5=>?_))))
 ·have c5k:=c5
  try simp only [aC,aG,aD] at c5
  refine .g (bC rfl .no aKF .nil rfl ?_)
  refine sw rfl (.u rfl) (.u rfl) rfl vV jJ (by first|exact dQ|exact dQ.trans dQ.symm|rfl) (zZ rfl rfl) ?_
  refine aS rfl rfl (.nc (.ret (aM Tryz.results35 (.cell rfl (fun w hw=>bI oU (RdN.own .here) ((by first|exact dQ|exact dQ.trans dQ.symm|rfl)) hw) (.tmp rfl .nil)) ?_)))
  exact ⟨Edit.zero,180,⟨none,0⟩,⟨none,0⟩,.inr ⟨aFp hT4 (by first|exact c5.imp id id | simpa using c5k),rfl,rfl⟩,rfl,rfl,EdR.zero⟩
 have c5k:=c5
 try simp only [aC,aG,aD] at c5
 refine .skip (.code (.seq ?_))
 refine mK cJ (fun _ _=>rfl) (by intro b hb; cases hb) ?_; intro GfRA hRA hleRA evRA hsRA; subst evRA
 refine mK aN (fun _ _=>rfl) (by intro b hb; cases hb) ?_; intro GfRD hRD hleRD evRD hsRD; subst evRD
 have hsRA:=hsRA.mono hleRD
 refine .g (lA rfl .no oU (.u rfl) (fun _=>RdN.own aN) (fun _=>(by first|exact dQ|exact dQ.trans dQ.symm|rfl)) ?_)
 refine sw rfl (.u rfl) (.u rfl) rfl vV cJ (by first|exact dQ|exact dQ.trans dQ.symm|rfl) (zZ rfl rfl) ?_
 refine aS rfl rfl (.nc (.ret (aM Tryz.results35 (.cell rfl (fun w hw=>bI oU (RdN.own .here) ((by first|exact dQ|exact dQ.trans dQ.symm|rfl)) hw) (.tmp rfl .nil)) ?_)))
 have hO:=aFq hT4 (by simpa using c5.1) (by simpa using c5.2)
 exact ⟨_,0,hRA,hRD,.inl ⟨hO,rfl⟩,rfl,by rw [Edit.val,←aFz eg2]; rfl,⟨hsRA,hsRD,(wL hO).2.1⟩⟩
theorem aSp:uK Tryz.prog 4 98 (aHF)=true:=by kernel_rfl
theorem aQf (ha hb:Sh) (a b:List Meta) (G:PM) (hsa:SlR G 40 Meta.cells ha a) (hsb:SlR G 40 Meta.cells hb b) (hwa:∀ m∈a,m.wf) (hwb:∀ m∈b,m.wf) (hla:a.length≤100000000000):Ct Tryz.prog 27 ([ha.val a.length,hb.val b.length]:List Value).toArray G [] (fun _ μ' u=>μ'=[]∧u=.bool (nB a b)):=by
 refine Ct.of Tryz.func27 rfl Tryz.ntmps27 rfl fun w0 hs0=>?_
 refine .g (lE rfl fH rfl (.p (lE rfl fH rfl (cP rfl rfl rfl rfl (.g (cD rfl (fun c1=>?_) (fun c1=>?_)))))))
 ·have c1k:=c1
  try simp only [aC,aD] at c1
  refine .seq (aL rfl rfl (aS rfl rfl (.nc (.ret (aM Tryz.results27 (.tmp rfl .nil) ?_)))))
  exact ⟨rfl,congrArg Value.bool (aQb (by simp at c1k; omega)).symm⟩
 have c1k:=c1
 try simp only [aC,aD] at c1
 refine .skip (.code (.seq (.seq (aL rfl rfl (aS rfl rfl (.nc (.block ?_)))))))
 refine aV (α:=Nat) (fun k=>[(5,true,.int .i64 (k:Int))]) (fun _=>[])
  (fun k Gl=>(k≤a.length)∧(∀ j,j<k→uJ (a.getD j Meta.zero) (b.getD j Meta.zero)=true)) (fun k=>a.length-k) 0 [(0,true,_),(1,true,_)] []
  (aK rfl (aA rfl (aA rfl eZ)))
  mN ?_ ?_
 ·refine ⟨?_,?_⟩
  ·(try dsimp only)<;>(first|omega|rfl|assumption|(simp; done))
  (try dsimp only)<;>(exact fun j hj=>by omega)
 intro k N0 Gl0 hN0 hGl0 hF0
 try dsimp only at hF0 hN0 ⊢
 obtain ⟨hk,hq⟩:=hF0
 have hsa:=hsa.mono hGl0
 have hsb:=hsb.mono hGl0
 refine .g (lE rfl fH rfl (cP rfl rfl rfl rfl (.g (cD rfl (fun c2=>?_) (fun c2=>?_)))))
 ·have c2k:=c2
  try simp only [aC,aD] at c2
  refine .g (bA (mc:=⟨false,false⟩) [0,1,2,3,4,5,6,7,8] aX (by kernel_rfl) ?_)
  refine mV rfl rfl (mV rfl rfl (ih rfl .no aY (.u rfl) (.u rfl) (by omega) (by omega) (fun _=>hsa.nn (k:=k) (by first|omega|(simp only [Bool.and_eq_true,decide_eq_true_eq] at hc; omega)|(simp only [List.length_cons,List.length_nil]; omega))) ?_))
  refine lA rfl .no dF (.u rfl) (fun _=>(hsa.gat k (by omega) (by omega)).rd) (fun _=>Meta.len _) ?_
  refine mV rfl rfl (mV rfl rfl (ih rfl .no aY (.u rfl) (.u rfl) (by omega) (by omega) (fun _=>hsb.nn (k:=k) (by first|omega|(simp only [Bool.and_eq_true,decide_eq_true_eq] at hc; omega)|(simp only [List.length_cons,List.length_nil]; omega))) ?_))
  refine lA rfl .no dF (.u rfl) (fun _=>(hsb.gat k (by omega) (by omega)).rd) (fun _=>Meta.len _) ?_
  refine nqC (uJ (a.getD k Meta.zero) (b.getD k Meta.zero)) rfl .no aSp (.u rfl) (.u rfl) (fun _=>aHH (hwa _ (qM (by omega)))) (fun _=>aHH (hwb _ (qM (by omega)))) (fun _=>aC4) ?_
  refine .g (cD rfl (fun c3=>?_) (fun c3=>?_))
  ·have c3k:=c3
   try simp only [aC,aD] at c3
   refine .seq (aL rfl rfl (aS rfl rfl (.nc (.ret (aM Tryz.results27 (.tmp rfl .nil) ?_)))))
   exact ⟨rfl,congrArg Value.bool (aQc (k:=k) (by omega) (by simp at c1k; omega) (by simpa using c3k)).symm⟩
  have c3k:=c3
  try simp only [aC,aD] at c3
  refine .g (aW (((k+1):Nat):Int) rfl rfl rfl rfl ?_)
  refine .g (aP (k+1) ?_ ?_ ?_ ?_ ?_)
  ·exact (aK rfl (aA rfl (aA rfl eZ)))
  ·exact mN
  ·first|omega|(dsimp only; omega)
  ·exact hGl0
  refine ⟨?_,?_⟩
  ·(try dsimp only)<;>(first|omega|rfl|assumption|(simp; done))
  (try dsimp only)<;>(exact fun j hj=>by (by_cases e:j=k; (subst e; simpa using c3k); exact hq j (by omega)))
 have c2k:=c2
 try simp only [aC,aD] at c2
 refine .exit (.xcode (.xlp (.xblk (.code (.seq (aL rfl rfl (aS rfl rfl (.nc (.ret (aM Tryz.results27 (.tmp rfl .nil) ?_))))))))))
 exact ⟨rfl,congrArg Value.bool (aQe (by simp at c1k; omega) (fun j hj=>hq j (by omega))).symm⟩
theorem wY (ns:List Int) (hn:Sh) (G:PM) (hsn:SlR G 1 nN hn ns) (hu:∀ x∈ns,u64 x) (hl:10*ns.length≤100000000000000):Ct Tryz.prog 95 ([hn.val ns.length]:List Value).toArray G [] (PR 5 (fun L=>L=fL ns)):=by
 refine Ct.of Tryz.func95 rfl Tryz.ntmps95 rfl fun w0 hs0=>?_
 refine .seq (aL rfl rfl (aS rfl rfl (.nc (.seq (aL rfl rfl (aS rfl rfl (.nc (.seq (.seq (sD 5 ?_))))))))))
 refine aL rfl rfl (aS rfl rfl (.nc (.block ?_)))
 refine aV (α:=Nat×Value×List Y) (fun gh=>[(3,true,gh.2.1),(4,true,.int .i64 (gh.1:Int))]) (fun gh=>[rB gh.2.1 5 gh.2.2])
  (fun gh Gl=>(gh.1≤ns.length)∧(gh.2.2=fL (ns.take gh.1))) (fun gh=>ns.length-gh.1) (0,.slice none 0 0,[]) [(0,true,_)] []
  (aA rfl (aK rfl (aA rfl eZ)))
  (mS .here rfl mN) ?_ ?_
 ·refine ⟨?_,?_⟩
  ·(try dsimp only)<;>(first|omega|rfl|assumption|(simp; done))
  (try dsimp only)<;>(rfl)
 intro gh N0 Gl0 hN0 hGl0 hF0
 obtain ⟨k,v,L⟩:=gh; dsimp only at hF0 hN0 ⊢
 obtain ⟨hk,eL⟩:=hF0
 have hsn:=hsn.mono hGl0
 have lt:=aHb hu k
 have lL:L.length=(fL (ns.take k)).length:=by rw [eL]
 refine .g (lE rfl aKw rfl (cP rfl rfl rfl rfl (.g (cD rfl (fun c1=>?_) (fun c1=>?_)))))
 ·have c1k:=c1
  try simp only [aC,aD] at c1
  refine .skip (.code (.seq (.block (xL rfl rfl (mV rfl rfl (mV rfl rfl (mV rfl rfl (ih rfl .no lQ (.u rfl) (.u rfl) (by omega) (by omega) (fun _=>hsn.nn (k:=k) (by first|omega|(simp only [Bool.and_eq_true,decide_eq_true_eq] at hc; omega)|(simp only [List.length_cons,List.length_nil]; omega))) ?_))))))))
  obtain ⟨x15,ex15⟩:=iJ (k:=k) (xs:=ns) (by omega)
  refine lN rfl bD rfl ((hsn.u1 k (by omega) ex15).rd) ?_
  refine kc rfl aKX (aB rfl aF) (Ct.frzB (aIY x15 (hu x15 (List.mem_of_getElem? ex15)) _)) ?_
  rintro _ G16 μ16 hG16 ⟨h16,L16,eL16,rfl,rfl,hs16⟩
  have l16:L16.length≤10:=by rw [eL16]; exact gZ (by have:=hu x15 (List.mem_of_getElem? ex15); unfold u64 at this; omega)
  refine dC rfl aI bF (.u rfl) (.u rfl) .here hs16.sc (by (try simp only [bM,bK]); omega) ?_
  intro v17 L17 ov17 eL17
  have lL17:L17.length=L.length+L16.length:=by rw [eL17,List.length_append]
  refine .g (aW (((k+1):Nat):Int) rfl rfl rfl rfl ?_)
  refine .g (aP (k+1,v17,L17) ?_ ?_ ?_ ?_ ?_)
  ·exact (aA rfl (aK rfl (aA rfl eZ)))
  ·exact (mS .here rfl mN)
  ·first|omega|(dsimp only; omega)
  ·exact (hGl0).trans hG16
  refine ⟨?_,?_⟩
  ·(try dsimp only)<;>(first|omega|rfl|assumption|(simp; done))
  (try dsimp only)<;>(rw [eL17,eL16,eL,aHa ex15])
 have c1k:=c1
 try simp only [aC,aD] at c1
 refine .exit (.xcode (.xlp (.xblk (.code (.seq (bJ rfl rfl (mV rfl rfl (aS rfl rfl (.nc (.ret (We.fin Tryz.results95 (.tmp rfl .nil) (mS .here rfl mN) ?_)))))))))))
 obtain rfl:k=ns.length:=by omega
 rw [List.take_length] at eL
 exact ⟨L,eL,rfl⟩
end Go.Proofs.YtdeobooblmjlfaaGreatDoor
