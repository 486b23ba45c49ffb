/- Lemmas and contracts of functions, joined. -/
import Derived.Test.YtoifkgkandfeiaaGreatDoorWk2
import Derived.Laws.RangeAny
import Derived.Lib.ItoaMem
import Derived.Lib.Join
import Derived.Lib.UnsafeStr
import Derived.Lib.Builder
import Derived.Sort.Row
import Derived.Below
import Derived.Lib.ItoaNum
import Derived.KernelRfl
import Derived.Test.YtoifkgkandfeiaaGreatDoorCards
import Derived.Test.YtoifkgkandfeiaaGreatDoorTie
import Derived.OpenShut
import Derived.Deep.DeepHandedRow
import Derived.Deep.CondSized
import Derived.JoinedCond
import Derived.Test.YtoifkgkandfeiaaGreatDoorRows
set_option linter.unusedSimpArgs false
set_option linter.unusedVariables false
set_option linter.unusedSectionVars false
namespace Go.Tan
open Go.RowKit
def pH (s:ByteArray) (p:Nat):Array Value:=if p<s.size then #[.bool true,.int .i64 (p:Int),.int .i32 ((Utf8.decode s p).1:Int)] else #[.bool false]
def xF (s:ByteArray) (p:Nat):Value:=.tuple (pH s p)
theorem aQD (s:ByteArray) (p:Nat):(pH s p).toList[0]? = some (.bool (decide (p<s.size))):=by
 unfold pH
 by_cases h:p<s.size
 ·rw [if_pos h,decide_eq_true h]; rfl
 ·rw [if_neg h,decide_eq_false h]; rfl
theorem aQE {s:ByteArray} {p:Nat} (h:p<s.size):(pH s p).toList[2]? = some (.int .i32 ((Utf8.decode s p).1:Int)):=by
 unfold pH
 rw [if_pos h]; rfl
def qU (s:ByteArray) (p:Nat):Nat:=if p<s.size then p+(Utf8.decode s p).2 else p
section
variable {dr:Bool} {mc:Md} {P:Program} {n:Fm} {l:List Oper} {K:aJ→PM→aG→Prop} {i:Nat} {σ:List Nat} {ρ:aJ} {G:PM} {μ:aG}
variable {d t:Nat} {p:String} {af:Array Edge}
theorem rgT {T:TypeId} {x:Operand} {s:ByteArray} (ho:nth l i=some ⟨some d,.range T x,t,p,af,none⟩) (hT:pS P T=true) (hx:Ev ρ true x (.string s))
  (h:∀ bi,Wo dr mc P n l K σ ((d,true,.pointer (some ⟨bi,0,none⟩)) :: ρ) G (.blk bi (.stringIter s 0) :: μ)):Wo dr mc P n l K (i :: σ) ρ G μ:=by
 refine .act (μ₁:=[]) (μ₂:=μ) (post:=fun G' μ' v=>∃ bi,G'=G∧μ'=[.blk bi (.stringIter s 0)]∧v=.pointer (some ⟨bi,0,none⟩)) ho (.inl rfl) .no (.refl _) (fun a w ha hs=>.inl ?_) ?_
 ·have h1:P.underlying T=some .string:=by unfold pS at hT; split at hT<;>first|assumption | cases hT
  have h0:Tr G (keys []) w G (.blk w.heap.size (.stringIter s 0) :: []) (w.alloc (.stringIter s 0)):=(eQ (Sat.left (μ:=[]) hs)).alloc _
  exact ⟨.pointer (some ⟨w.heap.size,0,none⟩),w.alloc (.stringIter s 0),G,[_],.inl (by simp [execOp,hx.eval ha rfl,Instr.range,Sem.run_bind,run_underlying h1]),h0,w.heap.size,rfl,rfl,rfl⟩
 rintro v G' μ'' _ ⟨b,rfl,rfl,rfl⟩
 exact h b
theorem aSD {bi:Nat} {x:Operand} {s:ByteArray} {q:Nat} {μ1:aG} (ho:nth l i=some ⟨some d,.next x true,t,p,af,none⟩) (hx:Ev ρ true x (.pointer (some ⟨bi,0,none⟩))) (hm:MTake μ (.blk bi (.stringIter s q)) μ1)
  (h:Wo dr mc P n l K σ ((d,true,xF s q) :: ρ) G (.blk bi (.stringIter s (qU s q)) :: μ1)):Wo dr mc P n l K (i :: σ) ρ G μ:=by
 refine .act (μ₁:=[.blk bi (.stringIter s q)]) (μ₂:=μ1) (post:=fun G' μ' v=>G'=G∧μ'=[.blk bi (.stringIter s (qU s q))]∧v=xF s q) ho (.inl rfl) .no hm.perm (fun a w ha hs=>.inl ?_) ?_
 ·have hi:w.heap[bi]? = some (.stringIter s q):=hs.left.own (.blk bi _) (List.mem_singleton.2 rfl)
  have hgi:(getObj bi).run P w=.ok (.stringIter s q) w:=by simp [getObj,Sem.run,hi]
  have htr:Tr G (keys [.blk bi (.stringIter s q)]) w G [.blk bi (.stringIter s q)] w:=eQ hs.left
  by_cases hq:q<s.size
  ·have hset:(setObj bi (.stringIter s (q+(Utf8.decode s q).2))).run P w=.ok () { w with heap:=w.heap.setIfInBounds bi (.stringIter s (q+(Utf8.decode s q).2)) }:=by simp [setObj,Sem.run,hi]
   refine ⟨xF s q,{ w with heap:=w.heap.setIfInBounds bi (.stringIter s (qU s q)) },G,[.blk bi (.stringIter s (qU s q))],.inl ?_,htr.setT (by simp [keys,Res.keys]),rfl,rfl,rfl⟩
   unfold xF pH qU
   rw [if_pos hq,if_pos hq]
   simp [execOp,hx.eval ha rfl,Instr.next,Sem.run_bind,hgi,hq,hset,goInt]
  refine ⟨xF s q,w,G,[.blk bi (.stringIter s (qU s q))],.inl ?_,by unfold qU; rw [if_neg hq]; exact htr,rfl,rfl,rfl⟩
  unfold xF pH
  rw [if_neg hq]
  simp [execOp,hx.eval ha rfl,Instr.next,Sem.run_bind,hgi,hq]
 rintro v G' μ'' _ ⟨rfl,rfl,rfl⟩
 exact h
end
theorem aH0 {nm:ByteArray} {f:Fi}:∀ {F:List Fi},bK nm F=none→f.nm=nm→tC nm (F++[f])=F++[{ f with safe:=f.n }]
 | [],_,e=>by rw [List.nil_append,tC,if_pos e]; rfl
 | g :: r,h,e=>by
  rw [List.cons_append,tC]
  rw [bK] at h
  by_cases q:g.nm=nm
  ·rw [if_pos q] at h; cases h
  ·rw [if_neg q] at h; rw [if_neg q,aH0 h e]; rfl
def jQ (s:ByteArray):Bool:=decide (s.size≠0)&&decide (s.size≤100)
theorem aPv {s:ByteArray} (h:jQ s=true):eH s:=by
 unfold jQ at h
 simp only [Bool.and_eq_true,decide_eq_true_eq] at h
 exact h
theorem aPu {s:ByteArray} (h:eH s):jQ s=true:=by
 unfold jQ; rw [decide_eq_true h.1,decide_eq_true h.2]; rfl
theorem aIA {s:ByteArray}:(s.toList == (⟨#[]⟩ : ByteArray).toList||decide ((s.size:Int) > 100)) = !jQ s:=by
 by_cases h0:s.size=0
 ·have:(s.toList == (⟨#[]⟩ : ByteArray).toList)=true:=by
   have h1:s=⟨#[]⟩:=by
    cases s with
    | mk d=>rw [Array.eq_empty_of_size_eq_zero (xs:=d) h0]
   rw [h1]; simp
  rw [this]; unfold jQ; rw [h0]; rfl
 ·rw [aKC h0]
  unfold jQ
  rw [decide_eq_true h0,Bool.true_and,Bool.false_or]
  by_cases h1:s.size≤100
  ·rw [decide_eq_true h1,decide_eq_false (by omega)]; rfl
  ·rw [decide_eq_false h1,decide_eq_true (by omega)]; rfl
theorem aNZ {l:List ByteArray} {k:Nat} {x:ByteArray} (h:l[k]? = some x) (ha:(l.take k).all jQ=true) (hx:jQ x=true):(l.take (k+1)).all jQ=true:=by
 rw [List.take_add_one,h]
 simp only [List.all_append,ha,Option.toList,List.all_cons,List.all_nil,hx]; rfl
theorem aNY {l:List ByteArray} {k:Nat} {x:ByteArray} (h:l[k]? = some x) (hx:jQ x=false):l.all jQ=false :=
 List.all_eq_false.2 ⟨x,List.mem_of_getElem? h,by rw [hx]; decide⟩
def lD (nm:ByteArray) (h:Sh) (n safe:Nat):List Fi→List Fi
 | []=>[]
 | g :: r=>if g.nm=nm then ⟨nm,h,n,safe,g.born⟩ :: r else g :: lD nm h n safe r
theorem aCK {nm:ByteArray} {h:Sh} {n safe:Nat}:∀ {F:List Fi},(bK nm F).isSome=true→oK nm (.agg [h.val n,.int .i64 (safe:Int)].toArray) (F.map Fi.fe)=(lD nm h n safe F).map Fi.fe
 | [],h=>by cases h
 | g :: r,hs=>by
  rw [List.map_cons,oK,lD]
  rw [bK] at hs
  by_cases q:g.nm=nm
  ·rw [if_pos q,if_pos (show g.fe.1=nm from q)]; rw [← q]; rfl
  ·rw [if_neg q] at hs; rw [if_neg q,if_neg (show ¬ g.fe.1=nm from q),aCK hs]; rfl
theorem aAK {nm:ByteArray} {h:Sh} {n safe:Nat}:∀ {F:List Fi},(lD nm h n safe F).map Fi.nm=F.map Fi.nm∧(lD nm h n safe F).map Fi.born=F.map Fi.born∧cA (lD nm h n safe F)≤cA F+n
 | []=>⟨rfl,rfl,Nat.zero_le _⟩
 | g :: r=>by
  rw [lD]
  by_cases q:g.nm=nm
  ·rw [if_pos q]
   refine ⟨by rw [List.map_cons,List.map_cons,q],rfl,?_⟩
   simp only [cA]; omega
  rw [if_neg q]
  obtain ⟨h1,h2,h3⟩:=aAK (nm:=nm) (h:=h) (n:=n) (safe:=safe) (F:=r)
  refine ⟨by rw [List.map_cons,List.map_cons,h1],by rw [List.map_cons,List.map_cons,h2],?_⟩
  simp only [cA]; omega
theorem aIj {α β:Type} {f:α→β} {a b:List α} (h:a.map f=b.map f):a.length=b.length:=by
 have:=congrArg List.length h; simpa using this
theorem DkR.put {F:List Fi} {clk:Nat} {nm:ByteArray} {h:Sh} {n safe:Nat} (hD:DkR F clk) (hz:cA F+n≤1000000000):DkR (lD nm h n safe F) clk:=by
 obtain ⟨h1,h2,h3⟩:=aAK (nm:=nm) (h:=h) (n:=n) (safe:=safe) (F:=F)
 refine ⟨by rw [h2]; exact hD.nd,by rw [h1]; exact hD.un,fun f hf=>?_,by rw [aIj h1]; exact hD.cnt,fun f hf=>?_,by omega⟩
 ·have:f.nm∈F.map Fi.nm:=by rw [← h1]; exact List.mem_map.2 ⟨f,hf,rfl⟩
  obtain ⟨g,hg,e⟩:=List.mem_map.1 this
  rw [← e]; exact hD.gn g hg
 have:f.born∈F.map Fi.born:=by rw [← h2]; exact List.mem_map.2 ⟨f,hf,rfl⟩
 obtain ⟨g,hg,e⟩:=List.mem_map.1 this
 rw [← e]; exact hD.old g hg
theorem aHl {nm:ByteArray} {f:Fi}:∀ {F:List Fi},bK nm F=some f→(dN nm F).length+1≤F.length
 | [],h=>by cases h
 | g :: r,h=>by
  rw [bK] at h; rw [dN]
  by_cases q:g.nm=nm
  ·rw [if_pos q]; exact Nat.le_refl _
  ·rw [if_neg q] at h ⊢
   have:=aHl (F:=r) h
   simp only [List.length_cons]; omega
section
variable {P:Program} {n:Fm} {l:List Oper} {K K':aJ→PM→aG→Prop} {mc:Md}
theorem Sat.nil {G:PM} {w:World} (h:∀ b o,G b=some o→w.heap[b]? = some o):Sat G [] w:=⟨h,by simp,by simp [keys],by simp [keys]⟩
theorem aNU {j:Nat} {ρ:aJ} {G:PM} {μ:aG} {oi oj:Oper} {c:Bool} {v:Value} (hK:jL K) (hoj:nth l j=some oj) (hap:Apart l oi oj) (hd:iH n oi.dst)
  (H:Wo true mc P n l K [j] (cS ρ oi.dst c v) G μ):Wo true mc P n l (fun ρ' G' μ'=>PM.le G G'∧(∃ c' v',ρ'=cS ρ oj.dst c' v')∧K (cS ρ' oi.dst c v) G' μ') [j] ρ G μ:=by
 have h0:∀ {ρ G μ},Wo true mc P n l K [] ρ G μ→K ρ G μ:=fun h=>by cases h with | nil h=>exact h
 have sw:∀ {c':Bool} {v':Value} {G':PM} {μ':aG},Wo true mc P n l K [] (cS (cS ρ oi.dst c v) oj.dst c' v') G' μ'→K (cS (cS ρ oj.dst c' v') oi.dst c v) G' μ':=fun h=>hK.1 _ _ _ _ (kJ hap.dd) (h0 h)
 cases H with
 | @pure _ _ _ _ _ o cj vj ho hk hg hr h =>
  obtain rfl:oj=o:=Option.some.inj (hoj.symm.trans ho)
  refine .pure hoj hk (nD hap.ij hg) (fun hc a w ha=>lC hd hap.sj hap.ij (Φ:=fun s=>s.run P w=.ok (.value vj) w) (fun a ha=>hr hc a w ha) a ha) (.nil ⟨PM.le.refl G,⟨_,_,rfl⟩,sw h⟩)
 | @read _ _ _ _ _ o cj vj ho hk hg hr h =>
  obtain rfl:oj=o:=Option.some.inj (hoj.symm.trans ho)
  refine .read hoj hk (nD hap.ij hg) (fun hc a w ha hs=>lC hd hap.sj hap.ij (Φ:=fun s=>s.run P w=.ok (.value vj) w) (fun a ha=>hr hc a w ha hs) a ha) (.nil ⟨PM.le.refl G,⟨_,_,rfl⟩,sw h⟩)
 | @make _ _ _ _ _ o ob mkv ho hk hg hr h =>
  obtain rfl:oj=o:=Option.some.inj (hoj.symm.trans ho)
  exact .make hoj hk hg hr fun b=>.nil ⟨PM.le.refl G,⟨_,_,rfl⟩,sw (h b)⟩
 | @box _ _ _ _ _ o ob mkv ho hk hg hr h =>
  obtain rfl:oj=o:=Option.some.inj (hoj.symm.trans ho)
  exact .box hoj hk (nD hap.ij hg) (fun a w ha=>lC hd hap.sj hap.ij (Φ:=fun s=>s.run P w=.ok (.value (mkv w.heap.size)) (w.alloc ob)) (fun a ha=>hr a w ha) a ha) fun b=>.nil ⟨PM.le.refl G,⟨_,_,rfl⟩,sw (h b)⟩
 | @callv _ _ _ _ _ o cj f args vj Gp ho hk hg hr hf h =>
  obtain rfl:oj=o:=Option.some.inj (hoj.symm.trans ho)
  exact .callv hoj hk (nD hap.ij hg) (fun hc a w ha=>lC hd hap.sj hap.ij (Φ:=fun s=>s.run P w=.ok (.enter f args) w) (fun a ha=>hr hc a w ha) a ha) hf (.nil ⟨PM.le.refl G,⟨_,_,rfl⟩,sw h⟩)
 | @call _ _ _ _ _ o f args post ho hk hg hr hf h =>
  obtain rfl:oj=o:=Option.some.inj (hoj.symm.trans ho)
  exact .call hoj hk (nD hap.ij hg) (fun a w ha=>lC hd hap.sj hap.ij (Φ:=fun s=>s.run P w=.ok (.enter f args) w) (fun a ha=>hr a w ha) a ha) hf fun v' G' μ' hle hp=>.nil ⟨hle,⟨_,_,rfl⟩,sw (h v' G' μ' hle hp)⟩
 | callg hdf _ _ _ _ _=>cases hdf
 | callp hdf _ _ _ _ _ _ _=>cases hdf
 | pan hdf _ _ _ _=>cases hdf
 | @fresh _ _ _ _ _ o μ₁ μ₂ post ho hk hg hp hr hw h =>
  obtain rfl:oj=o:=Option.some.inj (hoj.symm.trans ho)
  exact .fresh hoj hk hg hp (fun a w ha hs=>lC hd hap.sj hap.ij (Φ:=fun s=>∃ v w' G' μa μb,s.run P w=.ok (.value v) w'∧Tr G (keys μ₁) w G' (μa++μb) w'∧post G' μa μb v) (fun a ha=>hr a w ha hs) a ha) hw fun v' G' μa μb hle hq=>.nil ⟨hle,⟨_,_,rfl⟩,sw (h v' G' μa μb hle hq)⟩
 | @act _ _ _ _ _ o μ₁ μ₂ post ho hk hg hp hr h =>
  obtain rfl:oj=o:=Option.some.inj (hoj.symm.trans ho)
  exact .act hoj hk (nD hap.ij hg) hp (fun a w ha hs=>lC hd hap.sj hap.ij (Φ:=fun s=>(∃ v w' G' μ',(s.run P w=.ok (.value v) w'∨s.run P w=.ok .skip w'∧v=undef)∧Tr G (keys μ₁) w G' μ' w'∧post G' μ' v) ∨
    (∃ f args,s.run P w=.ok (.enter f args) w∧Ct P f args G μ₁ post)) (fun a ha=>hr a w ha hs) a ha) fun v' G' μ' hle hq=>.nil ⟨hle,⟨_,_,rfl⟩,sw (h v' G' μ' hle hq)⟩
def pM (mc:Md) (l:List Oper) (listed:Array Bool) (i:Nat):Bool :=
 (cG l listed).contains i&&match nth l i with
 | some oi=>(bI mc oi.op == .read)&&(List.range l.length).all fun j=>listed.getD j true||j == i||match nth l j with
  | some oj=>pC l l.length j i||oi.apart l.toArray oj
  | none=>false
 | none=>false
def PRd (P:Program) (n:Fm) (l:List Oper) (o:Oper) (c:Bool) (v:Value) (ρ:aJ) (G:PM):Prop :=
 Gd l ρ o.guard c∧(c=true→∀ a w,Ag n ρ a→(∀ b u,G b=some u→w.heap[b]? = some u)→(execOp a.eval o).run P w=.ok (.value v) w)
def aCB (l:List Oper) (j:Nat):Bool:=(List.range l.length).all fun i=>i == j||pC l l.length j i
def Wp (mc:Md) (P:Program) (n:Fm) (l:List Oper) (K:aJ→PM→aG→Prop):Nat→Array Bool→aJ→PM→aG→Prop
 | 0,listed,ρ,G,μ=>cG l listed=[]∧K ρ G μ
 | m+1,listed,ρ,G,μ=>(∃ i,mD mc l listed i=true∧Wo true mc P n l (fun ρ' G' μ'=>Wp mc P n l K m (listed.setIfInBounds i true) ρ' G' μ') [i] ρ G μ) ∨
   (cG l listed≠[]∧∀ j∈cG l listed,Wo true mc P n l (fun ρ' G' μ'=>Wp mc P n l K m (listed.setIfInBounds j true) ρ' G' μ') [j] ρ G μ) ∨
   (∃ i o c v,pM mc l listed i=true∧nth l i=some o∧PRd P n l o c v ρ G∧Wp mc P n l K m (listed.setIfInBounds i true) (cS ρ o.dst c v) G μ) ∨
   (∃ j,cG l listed=[j]∧aCB l j=true∧Wo false mc P n l (fun ρ' G' μ'=>Wp mc P n l K m (listed.setIfInBounds j true) ρ' G' μ') [j] ρ G μ)
theorem PRd.congr {o:Oper} {c:Bool} {v:Value} {ρ ρ':aJ} {G:PM} (h:PRd P n l o c v ρ G) (e:∀ i,cF ρ i=cF ρ' i):PRd P n l o c v ρ' G :=
 ⟨h.1.congr fun _ t _ _ _=>e t,fun hc a w ha hs=>h.2 hc a w (ha.congr e) hs⟩
theorem oY (hK:jL K):∀ (m:Nat) (listed:Array Bool),jL (fun ρ G μ=>Wp mc P n l K m listed ρ G μ)
 | 0,listed=>⟨fun ρ ρ' G μ e h=>⟨h.1,hK.1 _ _ _ _ e h.2⟩,fun ρ G μ μ' p h=>⟨h.1,hK.2 _ _ _ _ p h.2⟩⟩
 | m+1,listed=>by
  refine ⟨fun ρ ρ' G μ e h=>?_,fun ρ G μ μ' p h=>?_⟩
  ·rcases h with ⟨i,h1,h2⟩ | ⟨h1,h2⟩ | ⟨i,o,c,v,h1,h2,h3,h4⟩ | ⟨j,h1,h2,h3⟩
   ·exact .inl ⟨i,h1,h2.congr (oY hK m _) e⟩
   ·exact .inr (.inl ⟨h1,fun j hj=>(h2 j hj).congr (oY hK m _) e⟩)
   ·exact .inr (.inr (.inl ⟨i,o,c,v,h1,h2,h3.congr e,(oY hK m _).1 _ _ _ _ (oI e _ _ _) h4⟩))
   exact .inr (.inr (.inr ⟨j,h1,h2,h3.congr (oY hK m _) e⟩))
  rcases h with ⟨i,h1,h2⟩ | ⟨h1,h2⟩ | ⟨i,o,c,v,h1,h2,h3,h4⟩ | ⟨j,h1,h2,h3⟩
  ·exact .inl ⟨i,h1,h2.perm (oY hK m _) p⟩
  ·exact .inr (.inl ⟨h1,fun j hj=>(h2 j hj).perm (oY hK m _) p⟩)
  ·exact .inr (.inr (.inl ⟨i,o,c,v,h1,h2,h3,(oY hK m _).2 _ _ _ _ p h4⟩))
  exact .inr (.inr (.inr ⟨j,h1,h2,h3.perm (oY hK m _) p⟩))
theorem aSK {listed:Array Bool} {i j:Nat} (hne:i≠j) (h:pM mc l listed i=true):pM mc l (listed.setIfInBounds j true) i=true:=by
 unfold pM at h ⊢
 simp only [Bool.and_eq_true] at h ⊢
 obtain ⟨h1,h2⟩:=h
 refine ⟨by simpa using tM (by simpa using h1) hne,?_⟩
 cases hi:nth l i with
 | none=>rw [hi] at h2; cases h2
 | some oi =>
  simp only [hi,Bool.and_eq_true] at h2 ⊢
  refine ⟨h2.1,List.all_eq_true.2 fun k hk=>?_⟩
  have h3:=List.all_eq_true.1 h2.2 k hk
  by_cases e:j=k
  ·subst e
   have:(listed.setIfInBounds j true).getD j true=true:=by
    rcases Nat.lt_or_ge j listed.size with h' | h'<;>simp [h']
   rw [this]; rfl
  rw [getD_set_ne true e]; exact h3
theorem aIR {listed:Array Bool} {i j:Nat} (hc:Closed l listed) (hi:listed.getD i true=false) (hil:i<l.length) (hj:j∈cG l listed) (hne:i≠j) (h:aCB l j=true):False:=by
 have h1:=List.all_eq_true.1 h i (List.mem_range.2 hil)
 rw [aAa hc hi hj] at h1
 simp [hne] at h1
theorem Wp.front (hK:jL K) (hs:Region.noSelect l.toArray=true) (hmk:∀ j oj,nth l j=some oj→bI mc oj.op=.make→sH P oj) (hds:∀ j oj,nth l j=some oj→iH n oj.dst) :
  ∀ (m:Nat) (listed:Array Bool) (j:Nat) (ρ:aJ) (G:PM) (μ:aG),nS listed=m+1→Closed l listed→j∈cG l listed→Wp mc P n l K (m+1) listed ρ G μ→Wo true mc P n l (fun ρ' G' μ'=>Wp mc P n l K m (listed.setIfInBounds j true) ρ' G' μ') [j] ρ G μ∨(aCB l j=true∧Wo false mc P n l (fun ρ' G' μ'=>Wp mc P n l K m (listed.setIfInBounds j true) ρ' G' μ') [j] ρ G μ)
 | m,listed,j,ρ,G,μ,hu,hcl,hj,H=>by
  rcases H with ⟨i,h1,h2⟩ | ⟨_,h2⟩ | ⟨i,oi,c,v,h1,hoi,h2,h3⟩ | ⟨j',h1,h2,h3⟩
  ·by_cases e:j=i
   ·subst e; exact .inl h2
   have hi:i∈cG l listed:=by unfold mD at h1; simp only [Bool.and_eq_true] at h1; simpa using h1.1
   have hj':=tM hj e
   have hiun:=(iK.1 hi).1
   have hjun:=(iK.1 hj).1
   have hu1:=yF hiun
   have hjun':(listed.setIfInBounds i true).getD j true=false:=by rw [getD_set_ne true (Ne.symm e)]; exact hjun
   have hp:=aFG hjun'
   obtain ⟨m',rfl⟩ : ∃ m',m=m'+1:=⟨m-1,by omega⟩
   obtain ⟨_,oi,hoi,_⟩:=iK.1 hi
   have hil:i<l.length:=by
    have:=(iT l i).trans hoi
    exact (by simpa using (Array.getElem?_eq_some_iff.1 this).1)
   obtain ⟨_,oj,hoj,_⟩:=iK.1 hj
   have h3:Wo true mc P n l (fun ρ' G' μ'=>Wp mc P n l K m' ((listed.setIfInBounds i true).setIfInBounds j true) ρ' G' μ') (i :: [j]) ρ G μ :=
    h2.bind1 fun ρ' G' μ' h=>(Wp.front hK hs hmk hds m' (listed.setIfInBounds i true) j ρ' G' μ' (by omega) (hcl.set hi) hj' h).resolve_right fun hl=>aIR hcl hiun hil hj (fun q=>e q.symm) hl.1
   have hnoe:=aAa hcl hiun hj l.length
   have hjl:j<l.length:=by
    have:=(iT l j).trans hoj
    exact (by simpa using (Array.getElem?_eq_some_iff.1 this).1)
   have h1':=h1
   unfold mD at h1'
   simp only [Bool.and_eq_true,hoi] at h1'
   obtain ⟨_,hki,hall⟩:=h1'
   have h4:=List.all_eq_true.1 hall j (List.mem_range.2 hjl)
   simp only [hjun,hoj,hnoe,Bool.false_or,Bool.or_eq_true,beq_iff_eq,e,false_or,Bool.and_eq_true,bne_iff_ne] at h4
   simp only [Bool.or_eq_true,beq_iff_eq] at hki
   have hkk:bI mc oi.op=.pure∨(bI mc oi.op=.read∧bI mc oj.op≠.act)∨bI mc oj.op=.make:=by
    rcases hki with h5 | h5
    ·exact .inl h5
    rcases h4.2 with h6 | h6
    ·exact .inl h6
    exact .inr (.inl ⟨h5,h6⟩)
   have h5:=Wo.swap (oY hK m' _) rfl hoi hoj (wR hs hoi hoj h4.1) hds (hmk j oj hoj) hkk h3
   refine .inl (h5.cut1.bind1 fun ρ' G' μ' h=>.nil (.inl ⟨i,aI8 (Ne.symm e) h1,?_⟩))
   rw [Array.setIfInBounds_comm _ _ e]
   exact h
  ·exact .inl (h2 j hj)
  ·by_cases e:j=i
   ·subst e
    have hkr:bI mc oi.op=.read:=by
     unfold pM at h1; simp only [Bool.and_eq_true,hoi,beq_iff_eq] at h1; exact h1.2.1
    exact .inl (.read hoi (.inl hkr) h2.1 (fun hc a w ha hs=>h2.2 hc a w ha hs.sub) (.nil h3))
   have hi:i∈cG l listed:=by unfold pM at h1; simp only [Bool.and_eq_true] at h1; simpa using h1.1
   have hj':=tM hj e
   have hiun:=(iK.1 hi).1
   have hjun:=(iK.1 hj).1
   have hu1:=yF hiun
   have hjun':(listed.setIfInBounds i true).getD j true=false:=by rw [getD_set_ne true (Ne.symm e)]; exact hjun
   have hp:=aFG hjun'
   obtain ⟨m',rfl⟩ : ∃ m',m=m'+1:=⟨m-1,by omega⟩
   obtain ⟨_,oj,hoj,_⟩:=iK.1 hj
   have hnoe:=aAa hcl hiun hj l.length
   have hjl:j<l.length:=by
    have:=(iT l j).trans hoj
    exact (by simpa using (Array.getElem?_eq_some_iff.1 this).1)
   have h1':=h1
   unfold pM at h1'
   simp only [Bool.and_eq_true,hoi] at h1'
   obtain ⟨_,_,hall⟩:=h1'
   have h4:=List.all_eq_true.1 hall j (List.mem_range.2 hjl)
   simp only [hjun,hoj,hnoe,Bool.false_or,Bool.or_eq_true,beq_iff_eq,e,false_or] at h4
   have hap:=wR hs hoi hoj h4
   have hil:i<l.length:=by
    have:=(iT l i).trans hoi
    exact (by simpa using (Array.getElem?_eq_some_iff.1 this).1)
   have h5:=(Wp.front hK hs hmk hds m' (listed.setIfInBounds i true) j _ G μ (by omega) (hcl.set hi) hj' h3).resolve_right fun hl=>aIR hcl hiun hil hj (fun q=>e q.symm) hl.1
   refine .inl ((aNU (oY hK m' _) hoj hap (hds i oi hoi) h5).bind1 fun ρ' G' μ' ⟨hle,⟨c',v',hρ⟩,h⟩=>.nil (.inr (.inr (.inl ⟨i,oi,c,v,aSK (Ne.symm e) h1,hoi,?_,?_⟩))))
   ·subst hρ
    refine ⟨uP hap.ji h2.1,fun hc a w ha hs=>?_⟩
    exact tD (hds j oj hoj) hap.si hap.ji (Φ:=fun s=>s.run P w=.ok (.value v) w) (fun a ha=>h2.2 hc a w ha (fun b u hb=>hs b u (hle b u hb))) a ha
   rw [Array.setIfInBounds_comm _ _ e]
   exact h
  rw [h1] at hj
  obtain rfl:=List.mem_singleton.1 hj
  exact .inr ⟨h2,h3⟩
theorem Wp.any {Q:Exit→Act→World→Prop} {G0:PM} {K0:List Nat} {w0:World} (hK:jL K) (hs:Region.noSelect l.toArray=true) (hmk:∀ j oj,nth l j=some oj→bI mc oj.op=.make→sH P oj) (hds:∀ j oj,nth l j=some oj→iH n oj.dst)
  (hQ:∀ ρ G μ,K ρ G μ→∀ a w,Ag n ρ a→Tr G0 K0 w0 G μ w→Q .normal a w) (hD:∀ ch ρ G μ a w,n.die ch ρ G μ→Ag n ρ a→Tr G0 K0 w0 G μ w→Q (.panic ch) a w) :
  ∀ (m:Nat) (listed:Array Bool) (ρ:aJ) (G:PM) (μ:aG) (a:Act) (w:World),nS listed=m→Closed l listed→Wp mc P n l K m listed ρ G μ→Ag n ρ a→Tr G0 K0 w0 G μ w→wpAny P .any l.toArray Q m listed a w
 | 0,listed,ρ,G,μ,a,w,_,_,H,ha,ht=>⟨H.1,hQ _ _ _ H.2 a w ha ht⟩
 | m+1,listed,ρ,G,μ,a,w,hu,hcl,H,ha,ht=>by
  refine ⟨fun h0=>?_,fun j hj=>?_⟩
  ·rcases H with ⟨i,h1,_⟩ | ⟨h1,_⟩ | ⟨i,oi,c,v,h1,_⟩ | ⟨j',h1,_⟩
   ·have hi:i∈cG l listed:=by unfold mD at h1; simp only [Bool.and_eq_true] at h1; simpa using h1.1
    unfold cG at hi
    rw [h0] at hi; cases hi
   ·exact absurd h0 h1
   ·have hi:i∈cG l listed:=by unfold pM at h1; simp only [Bool.and_eq_true] at h1; simpa using h1.1
    unfold cG at hi
    rw [h0] at hi; cases hi
   unfold cG at h1
   rw [h0] at h1; cases h1
  have hj':j∈cG l listed:=hj
  have hu1:=yF (iK.1 hj').1
  obtain ⟨o,ho,h⟩ : ∃ o,nth l j=some o∧if Region.wanted o (yielded l.toArray a.tmps) then o.wp P a w (wpAny P .any l.toArray Q m (listed.setIfInBounds j true)) Q else wpAny P .any l.toArray Q m (listed.setIfInBounds j true) (a.put o.dst undef) w:=by
   rcases Wp.front hK hs hmk hds m listed j ρ G μ hu hcl hj' H with hh | ⟨_,hh⟩
   ·exact hh.head ha ht (next:=wpAny P .any l.toArray Q m (listed.setIfInBounds j true)) (Q:=Q) hds (fun hdr'=>by cases hdr')
     (fun ρ' G' μ' a' w' H' ha' ht'=>by cases H' with | nil h=>exact Wp.any hK hs hmk hds hQ hD m _ ρ' G' μ' a' w' (by omega) (hcl.set hj') h ha' ht')
   exact hh.head ha ht (next:=wpAny P .any l.toArray Q m (listed.setIfInBounds j true)) (Q:=Q) hds (fun _=>hD)
    (fun ρ' G' μ' a' w' H' ha' ht'=>by cases H' with | nil h=>exact Wp.any hK hs hmk hds hQ hD m _ ρ' G' μ' a' w' (by omega) (hcl.set hj') h ha' ht')
  simp only [wpOp,iT,ho]
  split
  ·rename_i hw; rw [if_pos hw] at h; exact .inl h
  rename_i hw; rw [if_neg hw] at h; exact h
theorem dX {X:Cx} {k:List KI} {id:Nat} {ρ:aJ} {G:PM} {μ:aG} (mc:Md) (hm:X.P.follows .mixedOrders=true) (hok:aCJ X.P X.n.n l=true)
  (h:Wp mc X.P X.n l (fun ρ G μ=>We X .normal k ρ G μ) l.length (Array.replicate l.length false) ρ G μ):Wk X (.region id l.toArray true) k ρ G μ:=by
 simp only [aCJ,Bool.and_eq_true] at hok
 obtain ⟨⟨h1,h2⟩,h3⟩:=hok
 refine ⟨fun a w ha ht=>wp_region_any hm ?_⟩
 have hu:nS (Array.replicate l.length false)=l.length:=by simp [nS]
 have:=Wp.any (Q:=fO X k) (aDj .normal) h1 (fun j oj hj hk=>aEZ hk (List.all_eq_true.1 h3 oj (xM hj)))
  (fun j oj hj=>by
   have:=List.all_eq_true.1 h2 oj (xM hj)
   cases hd:oj.dst with
   | none=>trivial
   | some d=>rw [hd] at this; show d<X.n.n; exact of_decide_eq_true this) (fun _ _ _ h a w ha ht=>h.out a w ha ht) (uK X k) l.length _ ρ G μ a _ hu (Closed.none l.length) h ha ht.drew
 simpa using this
variable {ρ:aJ} {G:PM} {μ:aG} {m:Nat} {listed:Array Bool}
theorem Wp.last (hr:cG l listed=[]) (h:K ρ G μ):Wp mc P n l K 0 listed ρ G μ:=⟨hr,h⟩
theorem Wp.one (i:Nat) (hc:mD mc l listed i=true) (h:Wo true mc P n l (fun ρ' G' μ'=>Wp mc P n l K m (listed.setIfInBounds i true) ρ' G' μ') [i] ρ G μ):Wp mc P n l K (m+1) listed ρ G μ:=.inl ⟨i,hc,h⟩
theorem iE (i:Nat) (hc:pM mc l listed i=true) (h:Wo true mc P n l (fun ρ' G' μ'=>(G'=G∧μ'=[])∧Wp mc P n l K m (listed.setIfInBounds i true) ρ' G μ) [i] ρ G []):Wp mc P n l K (m+1) listed ρ G μ:=by
 have h1:=hc
 unfold pM at h1
 simp only [Bool.and_eq_true] at h1
 cases hoi:nth l i with
 | none=>rw [hoi] at h1; cases h1.2
 | some oi =>
  have hkr:bI mc oi.op=.read:=by simp only [hoi,Bool.and_eq_true,beq_iff_eq] at h1; exact h1.2.1
  cases h with
  | @read _ _ _ _ _ o c v ho hk hg hr h =>
   obtain rfl:oi=o:=Option.some.inj (hoi.symm.trans ho)
   cases h with
   | nil h=>exact .inr (.inr (.inl ⟨i,oi,c,v,hc,hoi,⟨hg,fun hc' a w ha hs=>hr hc' a w ha (Sat.nil hs)⟩,h.2⟩))
  | @pure _ _ _ _ _ o cj vj ho hk _ _ _=>obtain rfl:oi=o:=Option.some.inj (hoi.symm.trans ho); rcases hk with hk | hk<;>simp_all
  | @make _ _ _ _ _ o _ _ ho hk _ _ _=>obtain rfl:oi=o:=Option.some.inj (hoi.symm.trans ho); rcases hk with hk | hk<;>simp_all
  | @box _ _ _ _ _ o _ _ ho hk _ _ _=>obtain rfl:oi=o:=Option.some.inj (hoi.symm.trans ho); rcases hk with hk | hk<;>simp_all
  | @callv _ _ _ _ _ o cj f args vj Gp ho hk _ _ _ _=>obtain rfl:oi=o:=Option.some.inj (hoi.symm.trans ho); rcases hk with hk | hk | hk<;>simp_all
  | @call _ _ _ _ _ o f args post ho hk _ _ _ _=>obtain rfl:oi=o:=Option.some.inj (hoi.symm.trans ho); rcases hk with hk | hk | hk<;>simp_all
  | callg hdf _ _ _ _ _=>cases hdf
  | callp hdf _ _ _ _ _ _ _=>cases hdf
  | pan hdf _ _ _ _=>cases hdf
  | @fresh _ _ _ _ _ o μ₁ μ₂ post ho hk _ _ _ _ _=>obtain rfl:oi=o:=Option.some.inj (hoi.symm.trans ho); rcases hk with hk | hk<;>simp_all
  | @act _ _ _ _ _ o μ₁ μ₂ post ho hk _ _ _ _=>obtain rfl:oi=o:=Option.some.inj (hoi.symm.trans ho); rcases hk with hk | hk<;>simp_all
theorem Wp.b1 (j:Nat) (hr:cG l listed=[j]) (h:Wo true mc P n l (fun ρ' G' μ'=>Wp mc P n l K m (listed.setIfInBounds j true) ρ' G' μ') [j] ρ G μ):Wp mc P n l K (m+1) listed ρ G μ :=
 .inr (.inl ⟨by rw [hr]; simp,fun j' hj'=>by rw [hr] at hj'; obtain rfl:=List.mem_singleton.1 hj'; exact h⟩)
theorem aGk (j:Nat) (hr:cG l listed=[j]) (hl:aCB l j=true) (h:Wo false mc P n l (fun ρ' G' μ'=>Wp mc P n l K m (listed.setIfInBounds j true) ρ' G' μ') [j] ρ G μ):Wp mc P n l K (m+1) listed ρ G μ :=
 .inr (.inr (.inr ⟨j,hr,hl,h⟩))
theorem Wp.b2 (j j2:Nat) (hr:cG l listed=[j,j2]) (h:Wo true mc P n l (fun ρ' G' μ'=>Wp mc P n l K m (listed.setIfInBounds j true) ρ' G' μ') [j] ρ G μ)
  (h2:Wo true mc P n l (fun ρ' G' μ'=>Wp mc P n l K m (listed.setIfInBounds j2 true) ρ' G' μ') [j2] ρ G μ):Wp mc P n l K (m+1) listed ρ G μ :=
 .inr (.inl ⟨by rw [hr]; simp,fun j' hj'=>by
  rw [hr] at hj'
  rcases List.mem_cons.1 hj' with rfl | hj'
  ·exact h
  ·obtain rfl:=List.mem_singleton.1 hj'; exact h2⟩)
theorem Wp.b3 (j j2 j3:Nat) (hr:cG l listed=[j,j2,j3]) (h:Wo true mc P n l (fun ρ' G' μ'=>Wp mc P n l K m (listed.setIfInBounds j true) ρ' G' μ') [j] ρ G μ)
  (h2:Wo true mc P n l (fun ρ' G' μ'=>Wp mc P n l K m (listed.setIfInBounds j2 true) ρ' G' μ') [j2] ρ G μ) (h3:Wo true mc P n l (fun ρ' G' μ'=>Wp mc P n l K m (listed.setIfInBounds j3 true) ρ' G' μ') [j3] ρ G μ):Wp mc P n l K (m+1) listed ρ G μ :=
 .inr (.inl ⟨by rw [hr]; simp,fun j' hj'=>by
  rw [hr] at hj'
  rcases List.mem_cons.1 hj' with rfl | hj'
  ·exact h
  ·rcases List.mem_cons.1 hj' with rfl | hj'
   ·exact h2
   ·obtain rfl:=List.mem_singleton.1 hj'; exact h3⟩)
end
def nK (h:Hd) (s:State) (hd:Nat→Sh) (mark:BitVec 64) (n used:Int) (torn:Bool):List Value :=
 [V h.kind,V h.level,uv .u64 h.gen,uv .u64 h.epoch,uv .u64 h.num]++s.cells hd++[uv .u64 mark,.int .i64 n,.int .i64 used,.bool torn]
section
variable {h:Hd} {s s':State} {hd hd':Nat→Sh} {mark mark':BitVec 64} {n n' used used':Int} {torn torn':Bool}
theorem uV:(nK h s hd mark n used torn).length=23:=rfl
theorem qV:∀ u∈nK h s hd mark n used torn,u.oneCell'=true:=by
 intro u hu
 unfold nK at hu
 rcases List.mem_append.1 hu with hu | hu
 ·rcases List.mem_append.1 hu with hu | hu
  ·simp only [List.mem_cons,List.not_mem_nil,or_false] at hu
   rcases hu with rfl|rfl|rfl|rfl|rfl<;>rfl
  ·exact oB _ hu
 ·simp only [List.mem_cons,List.not_mem_nil,or_false] at hu
  rcases hu with rfl|rfl|rfl|rfl<;>rfl
theorem aIf:((nK h s hd mark n used torn).drop 5).take 14=s.cells hd:=rfl
end
theorem leU {a b:BitVec 64}:((a.toNat:Int)≤(b.toNat:Int))↔a≤b:=by rw [BitVec.le_def]; omega
theorem aVc {L:List Y} {n:Nat} (h:L.length=n):yl n (fun i=>L.getD i 0)=L:=by
 refine List.ext_getElem? fun i=>?_
 by_cases hi:i<n
 ·have:i<L.length:=by omega
  simp [yl,hi,this]
 rw [List.getElem?_eq_none (by rw [cR]; omega),List.getElem?_eq_none (by omega)]
instance {h:Hd} {s:State} {hd:Nat→Sh} {mark:BitVec 64} {n used:Int} {torn:Bool}:QLen (nK h s hd mark n used torn) 23:=⟨uV⟩
theorem aTK {p:List Y} {mark:BitVec 64} {X:State} {e:Edit} (hp:p=gE mark X e):fC p 8=mark:=by
 rw [hp]; unfold gE; rw [List.append_assoc]; exact aCl _ _
theorem aTD {root:Nat→Y} {h:Hd} {p L:List Y} {e:Int} (hr:h.right=true) (hp:p.length≤400) (hl:(L,e)=mC root h 0#64 p):fV root (bA h++L)=(⟨h,[p],(bA h++L).length,false⟩,0):=by
 unfold mC at hl
 rw [if_pos (by omega)] at hl
 have h1:=(Prod.mk.inj hl).1
 have h2:bA h++L=jE root h [p]:=by
  unfold jE fI fI
  rw [h1,List.append_nil]; rfl
 rw [h2]
 exact aQw [p] hr
theorem toList_inj {a b:ByteArray} (h:(a.toList == b.toList)=true):a=b:=aDu (by simpa using h)
section
variable {e:Ent}
theorem eR1 (h:1024<(e.user.size:Int)):jS e=false:=by unfold jS; rw [decide_eq_false (by omega)]; rfl
theorem eR2 (h:65536<(e.value.size:Int)):jS e=false:=by unfold jS; rw [decide_eq_false (p:=(e.value.size:Int)≤65536) (by omega)]; simp
theorem zZ (h:72057594037927935<(e.seq.toNat:Int)):jS e=false:=by unfold jS; rw [decide_eq_false (p:=e.seq.toNat≤72057594037927935) (by omega)]; simp
theorem eR4 (h1:(e.user.size:Int)≤1024) (h2:(e.value.size:Int)≤65536) (h3:(e.seq.toNat:Int)≤72057594037927935) (h4:(e.kind.toNat:Int)=0):jS e=(e.value.toList == (⟨#[]⟩ : ByteArray).toList):=by
 have hk:e.kind=0#8:=BitVec.eq_of_toNat_eq (by show _=0; omega)
 unfold jS
 rw [decide_eq_true h1,decide_eq_true h2,decide_eq_true (p:=e.seq.toNat≤72057594037927935) (by omega),if_pos hk,show (⟨#[]⟩ : ByteArray).toList=[] by rw [ByteArray.toList_eq]]; rfl
theorem eR5 (h1:(e.user.size:Int)≤1024) (h2:(e.value.size:Int)≤65536) (h3:(e.seq.toNat:Int)≤72057594037927935) (h4:¬ (e.kind.toNat:Int)=0):jS e=((e.kind.toNat:Int) == 1):=by
 have hk:¬ e.kind=0#8:=fun q=>h4 (by rw [q]; rfl)
 unfold jS
 rw [decide_eq_true h1,decide_eq_true h2,decide_eq_true (p:=e.seq.toNat≤72057594037927935) (by omega),if_neg hk]
 show decide (e.kind=1#8)=decide ((e.kind.toNat:Int)=1)
 exact decide_eq_decide.2 ⟨fun q=>by rw [q]; rfl,fun q=>BitVec.eq_of_toNat_eq (by show _=1; omega)⟩
end
section
variable {α:Type} {p:α→Bool} {l:List α} {k:Nat} {x:α}
def oH (p:α→Bool) (l:List α):Int:=match l.findIdx? p with | some i=>(i:Int) | none => -1
theorem aIG (h:∀ j y,j<k→l[j]? = some y→p y=false) (hx:l[k]? = some x) (hp:p x=false):∀ j y,j<k+1→l[j]? = some y→p y=false:=fun j y hj hy=>by
 by_cases e:j=k
 ·subst e; rw [hx] at hy; cases hy; exact hp
 ·exact h j y (by omega) hy
theorem aIE (h:∀ j y,j<k→l[j]? = some y→p y=false) (hx:l[k]? = some x) (hp:p x=true):iB [.int .i64 (k:Int)]=.int .i64 (oH p l):=by
 have hk:k<l.length:=(List.getElem?_eq_some_iff.1 hx).1
 have:l.findIdx? p=some k:=by
  rw [List.findIdx?_eq_some_iff_getElem]
  refine ⟨hk,?_,fun j hj=>?_⟩
  ·rw [List.getElem?_eq_getElem hk] at hx; cases hx; exact hp
  rw [h j _ hj (List.getElem?_eq_getElem (by omega))]; simp
 unfold oH; rw [this]; rfl
theorem aIF (h:∀ j y,j<k→l[j]? = some y→p y=false) (hk:l.length≤k):iB [.int .i64 (-1)]=.int .i64 (oH p l):=by
 have:l.findIdx? p=none:=by
  rw [List.findIdx?_eq_none_iff]
  intro y hy
  obtain ⟨i,hi,rfl⟩:=List.getElem_of_mem hy
  exact h i _ (by omega) (List.getElem?_eq_getElem hi)
 unfold oH; rw [this]; rfl
theorem aP8:decide (oH p l≥0)=l.any p:=by
 unfold oH
 cases h:l.findIdx? p with
 | none =>
  rw [List.findIdx?_eq_none_iff] at h
  have:l.any p=false:=by rw [List.any_eq_false]; intro x hx; rw [h x hx]; simp
  rw [this]; rfl
 | some i =>
  rw [List.findIdx?_eq_some_iff_getElem] at h
  obtain ⟨hi,hp,_⟩:=h
  have:l.any p=true:=List.any_eq_true.2 ⟨_,List.getElem_mem hi,hp⟩
  rw [this]; exact decide_eq_true (Int.natCast_nonneg i)
end
section
variable {l:List Ent} {k:Nat} {x y:Ent}
theorem aJi:((!le x.user y.user)||(x.user.toList == y.user.toList&&decide ((x.seq.toNat:Int)≤(y.seq.toNat:Int)))) = !oZ x y:=by
 rw [aQd,Bool.not_not]
 unfold oZ
 rcases aIc x.user y.user with h | h | h
 ·have hne:(x.user.toList == y.user.toList)=false:=by
   cases hq:(x.user.toList == y.user.toList) with
   | false=>rfl
   | true=>rw [toList_inj hq,xJ] at h; cases h
  rw [h,aCG h,hne]; rfl
 ·rw [h,xJ,beq_self_eq_true]
  simp only [Bool.false_or,Bool.true_and]
  by_cases q:y.seq.toNat<x.seq.toNat
  ·rw [decide_eq_true q,decide_eq_false (by omega)]; rfl
  ·rw [decide_eq_false q,decide_eq_true (by omega)]; rfl
 ·have hne:(x.user.toList == y.user.toList)=false:=by
   cases hq:(x.user.toList == y.user.toList) with
   | false=>rfl
   | true=>rw [toList_inj hq,xJ] at h; cases h
  rw [h,aCG h,hne]; rfl
theorem aCX (hx:l[k]? = some x):l.getD k Ent.zero=x:=by rw [List.getD_eq_getElem?_getD,hx]; rfl
theorem aJk (hk:1≤k) (h:∀ j,j+1<k→oZ (l.getD j Ent.zero) (l.getD (j+1) Ent.zero)=true) (hx:l[k-1]? = some x) (hy:l[k]? = some y) (c:((!le x.user y.user)||(x.user.toList == y.user.toList&&decide ((x.seq.toNat:Int)≤(y.seq.toNat:Int))))=false) :
  ∀ j,j+1<k+1→oZ (l.getD j Ent.zero) (l.getD (j+1) Ent.zero)=true:=fun j hj=>by
 by_cases e:j+1=k
 ·have e2:j=k-1:=by omega
  subst e2
  rw [e,aCX hx,aCX hy]
  rw [aJi] at c
  cases h:oZ x y with
  | true=>rfl
  | false=>rw [h] at c; cases c
 ·exact h j (by omega)
theorem aJj (hk:1≤k) (hx:l[k-1]? = some x) (hy:l[k]? = some y) (c:((!le x.user y.user)||(x.user.toList == y.user.toList&&decide ((x.seq.toNat:Int)≤(y.seq.toNat:Int))))=true):aAh l=false:=by
 have hlt:k<l.length:=(List.getElem?_eq_some_iff.1 hy).1
 refine aTS (i:=k-1) (by omega) ?_
 rw [show k-1+1=k by omega,aCX hx,aCX hy]
 rw [aJi] at c
 cases h:oZ x y with
 | true=>rw [h] at c; cases c
 | false=>rfl
theorem aTN (hk:l.length≤k∨l.length=0) (h:∀ j,j+1<k→oZ (l.getD j Ent.zero) (l.getD (j+1) Ent.zero)=true):aAh l=true:=aCs fun i hi=>h i (by omega)
end
def kF (s:ByteArray):List Value:=[.string s]
def oG (ep n c:BitVec 64):Fl:=⟨⟨3#8,0#8,0#64,ep,n⟩,c,false⟩
def xC (ep n:BitVec 64):Fl:=⟨⟨1#8,0#8,0#64,ep,n⟩,0#64,false⟩
def nI (n:BitVec 64):Int:=((n.toNat:Nat):Int)
def vQ (dk tr:Nat) (root:Nat→Y) (o:Opts) (ep:BitVec 64) (held now:Nat) (a0 b0:Int) (n0:BitVec 64):Db:={ eY dk tr root o ep held now with s:=cM a0 b0,next:=n0 }
def Db.g1 (dk tr:Nat) (root:Nat→Y) (o:Opts) (ep:BitVec 64) (held now:Nat) (a0 b0:Int) (n0:BitVec 64):Db:={ eY dk tr root o ep held now with s:=cM a0 b0,next:=n0+1#64,mn:=oG ep n0 0#64 }
def Db.g2 (dk tr:Nat) (root:Nat→Y) (o:Opts) (ep:BitVec 64) (held now:Nat) (a0 b0:Int) (n0:BitVec 64):Db:={ eY dk tr root o ep held now with s:=cM a0 b0,next:=n0+1#64+1#64,mn:=oG ep n0 0#64,lg:=xC ep (n0+1#64) }
def Db.g3 (dk tr:Nat) (root:Nat→Y) (o:Opts) (ep:BitVec 64) (held now:Nat) (n0:BitVec 64):Db:={ eY dk tr root o ep held now with s:=cM (nI (n0+1#64)) (nI (n0+1#64+1#64)),next:=n0+1#64+1#64,mn:=oG ep n0 1#64,lg:=xC ep (n0+1#64) }
theorem aKc (n:BitVec 64):u64 (nI n):=⟨by unfold nI; omega,by have:=n.isLt; unfold nI; omega⟩
theorem n02 {n0:BitVec 64} (h:n0=0#64∨n0=2#64):n0.toNat<3∧(n0+1#64).toNat<4∧nI (n0+1#64)≤nI (n0+1#64+1#64):=by
 rcases h with rfl|rfl<;>exact ⟨by decide,by decide,by decide⟩
theorem aAo {n0:BitVec 64} (h:n0=0#64∨n0=2#64):(aO 3 n0.toNat).size=15:=by
 rcases h with rfl|rfl
 ·exact sz3
 ·show (aO 3 2).size=15; kernel_rfl
theorem aRv {n0:BitVec 64} (h:n0=0#64∨n0=2#64):eH (aO 3 n0.toNat):=⟨by rw [aAo h]; decide,by rw [aAo h]; decide⟩
theorem aIz {n0:BitVec 64} (h:n0=0#64∨n0=2#64):aO 5 0≠aO 3 n0.toNat:=tI sz5 (aAo h) (by decide)
theorem aRs {n0:BitVec 64} (h:n0=0#64∨n0=2#64):aO 4 0≠aO 3 n0.toNat:=tI sz4 (aAo h) (by decide)
theorem aRt:aO 4 0≠aO 5 0:=tI sz4 sz5 (by decide)
def FirstF (G:PM) (root:Nat→Y) (ep mk n0:BitVec 64) (F:List Fi) (clk dn:Nat):Prop :=
 clk=3∧dn=5∧∃ (f1 f2:Fi) (L:List Y),F=[f1,f2]∧f1.nm=aO 3 n0.toNat∧f2.nm=aO 4 0∧(L,(0:Int))=mC root ⟨3#8,0#8,0#64,ep,n0⟩ 0#64 (gE (mk+1#64) (cM (nI (n0+1#64)) (nI (n0+1#64+1#64))) (cU (nI (n0+1#64)) (nI (n0+1#64+1#64))))∧L.length≤600 ∧
  f1.n=(bA ⟨3#8,0#8,0#64,ep,n0⟩++L).length∧f1.safe=f1.n∧SlR G 1 aN f1.h (bA ⟨3#8,0#8,0#64,ep,n0⟩++L)∧f2.n=(yb (aO 3 n0.toNat)).length∧f2.safe=f2.n∧SlR G 1 aN f2.h (yb (aO 3 n0.toNat))
theorem FirstF.mono {G G':PM} {root:Nat→Y} {ep mk n0:BitVec 64} {F:List Fi} {clk dn:Nat} (h:FirstF G root ep mk n0 F clk dn) (hle:PM.le G G'):FirstF G' root ep mk n0 F clk dn:=by
 obtain ⟨h1,h2,f1,f2,L,a,b,c,d,e,f,g,s1,i,j,s2⟩:=h
 exact ⟨h1,h2,f1,f2,L,a,b,c,d,e,f,g,s1.mono hle,i,j,s2.mono hle⟩
theorem aPa {f1 f2:Fi} {F3:List Fi} {clk3:Nat} {n0:BitVec 64} (hn:n0=0#64∨n0=2#64) (h1:f1.nm=aO 3 n0.toNat) (h2:f2.nm=aO 5 0) (h:bK (aO 4 0) (dN (aO 5 0) ([f1]++[f2]))=none→F3=dN (aO 5 0) ([f1]++[f2])++[{ f2 with nm:=aO 4 0,born:=2 }]∧clk3=3) :
  F3=[f1,{ f2 with nm:=aO 4 0,born:=2 }]∧clk3=3:=by
 have e1:dN (aO 5 0) ([f1]++[f2])=[f1]:=by
  show dN (aO 5 0) [f1,f2]=[f1]
  rw [dN,if_neg (by rw [h1]; exact fun e=>aIz hn e.symm),dN,if_pos h2]
 rw [e1] at h
 have e2:bK (aO 4 0) [f1]=none:=by rw [bK,if_neg (by rw [h1]; exact fun e=>aRs hn e.symm)]; rfl
 exact h e2
theorem aHX {a b:Int}:((cU a b).cells ⟨none,0⟩ ⟨none,0⟩).set 9 (.slice none 0 0)=(cU a b).cells ⟨none,0⟩ ⟨none,0⟩:=rfl
theorem aPJ {a b:Int} {n:BitVec 64}:((cU a b).cells ⟨none,0⟩ ⟨none,0⟩).set 1 (uv .u64 n)=(cU a (nI n)).cells ⟨none,0⟩ ⟨none,0⟩:=rfl
theorem aEj {a b c:Value} (h1:a.oneCell'=true) (h2:b.oneCell'=true) (h3:c.oneCell'=true):∀ u∈[a,b,c],u.oneCell'=true:=by
 intro u hu
 simp only [List.mem_cons,List.not_mem_nil,or_false] at hu
 rcases hu with rfl|rfl|rfl<;>assumption
theorem aHo {nm:ByteArray} {f:Fi}:∀ {F:List Fi},bK nm F=none→f.nm≠nm→bK nm (F++[f])=none
 | [],_,e=>by rw [List.nil_append,bK,if_neg e]; rfl
 | g :: r,h,e=>by
  rw [List.cons_append,bK]
  rw [bK] at h
  by_cases q:g.nm=nm
  ·rw [if_pos q] at h; cases h
  ·rw [if_neg q] at h ⊢; exact aHo h e
theorem aRZ {F F3:List Fi} {f1 f2:Fi} {n:Nat} (h:∀ x∈F3.map Fi.nm,x=aO 4 0∨x∈(F++[f1]++[f2]).map Fi.nm) (hg:∀ f∈F,f.nm.size≠0) (h1:f1.nm=aO 3 n) (h2:f2.nm=aO 5 0) (hs:(aO 3 n).size=15):∀ f∈F3,f.nm.size≠0:=fun f hf=>by
 rcases h f.nm (List.mem_map.2 ⟨f,hf,rfl⟩) with e | e
 ·rw [e,sz4]; decide
 ·rw [List.map_append,List.map_append] at e
  rcases List.mem_append.1 e with e | e
  ·rcases List.mem_append.1 e with e | e
   ·obtain ⟨g,hg9,e9⟩:=List.mem_map.1 e
    rw [← e9]; exact hg g hg9
   ·rw [List.mem_singleton.1 e,h1,hs]; decide
  ·rw [List.mem_singleton.1 e,h2,sz5]; decide
theorem aPZ {F3:List Fi} {f1 f2:Fi} {n:Nat} (e3:F3=[f1,{ f2 with nm:=aO 4 0,born:=2 }]) (h1:f1.nm=aO 3 n):∀ f∈F3,f.nm∈[aO 4 0,aO 3 n]:=by
 rw [e3]
 intro f hf
 rcases List.mem_cons.1 hf with rfl | hf
 ·rw [h1]; exact List.mem_cons_of_mem _ (List.mem_cons_self ..)
 ·rw [List.mem_singleton.1 hf]; exact List.mem_cons_self ..
def SrchP (P:Program) (f:FuncId) (TR TD TK TL TN:Nat) (bm room dk tr done clk:Nat) (root:Nat→Y) (o:Opts) (ep o1 mk:BitVec 64) (a0 b0:Int) (n0:BitVec 64) (F:List Fi) (K:List ByteArray) (G:PM):Prop :=
 ∀ (bx held now:Nat) (G1:PM),PM.le G G1→Ct P f ([pt bx]:List Value).toArray G1 [.blk tr (cl [uv .u64 mk,uv .u64 o1] TR),.blk bx (cl (Db.cells (eY dk tr root o ep held now)) TD),.blk dk (cl (bH bm room done) TK),.blk bm (mO (F.map Fi.fe) clk)]
  (fun G2 μ' u=>∃ (bl:Nat) (v:Value) (hk9:Sh),v.oneCell'=true∧SlR G2 1 kF hk9 K∧μ'=[.blk tr (cl [uv .u64 mk,uv .u64 o1] TR),.blk bx (cl (Db.cells (vQ dk tr root o ep held now a0 b0 n0)) TD),.blk dk (cl (bH bm room done) TK),.blk bm (mO (F.map Fi.fe) clk),.blk bl (cl [v,.int .i64 ((0:Nat):Int)] TL),rS 16 Nd.cells v TN [Nd.z]]∧u=.agg #[hk9.val K.length,pt bl,uv .u64 mk])
theorem SrchP.mono {P:Program} {f:FuncId} {TR TD TK TL TN bm room dk tr done clk:Nat} {root:Nat→Y} {o:Opts} {ep o1 mk:BitVec 64} {a0 b0:Int} {n0:BitVec 64} {F:List Fi} {K:List ByteArray} {G G':PM} (h:SrchP P f TR TD TK TL TN bm room dk tr done clk root o ep o1 mk a0 b0 n0 F K G) (hle:PM.le G G'):SrchP P f TR TD TK TL TN bm room dk tr done clk root o ep o1 mk a0 b0 n0 F K G' :=
 fun bx held now G1 h1=>h bx held now G1 (hle.trans h1)
def z6:List UInt8:=[48,48,48,48,48,48]
def uS:List UInt8:=[109,97,110,105,102,101,115,116,45,48,48,48,48,48,48]
def aCA:List UInt8:=[109,97,110,105,102,101,115,116,45]
theorem aRd:aO 3 0=eK uS:=by kernel_rfl
theorem aUu:Lib.trimPrefix uS aCA=z6:=by kernel_rfl
theorem aPy:Lib.hasPrefix uS aCA=true:=by kernel_rfl
theorem aK9 {k:Nat} (h:k<6):(Utf8.decode (eK z6) k).1=48∧qU (eK z6) k=k+1:=by
 have hs:k<(eK z6).size:=h
 have h48:((eK z6)[k]'hs).toNat=48:=by
  match k,h with
  | 0,_=>rfl | 1,_=>rfl | 2,_=>rfl | 3,_=>rfl | 4,_=>rfl | 5,_=>rfl
 have he:=decode_ascii (eK z6) k hs (by rw [h48]; decide)
 refine ⟨by rw [he]; exact h48,?_⟩
 unfold qU
 rw [if_pos hs,he]
theorem aVd {k:Nat} (h:k<6):(pH (eK z6) k).toList[2]? = some (.int .i32 48):=by
 have e:=aQE (s:=eK z6) (p:=k) h
 rw [(aK9 h).1] at e
 exact e
theorem aRB:((eK uS).toList == (⟨#[99,117,114,114,101,110,116]⟩ : ByteArray).toList)=false:=by rw [aKZ]; kernel_rfl
theorem aRD:((eK uS).toList == (⟨#[99,117,114,114,101,110,116,46,116,109,112]⟩ : ByteArray).toList)=false:=by rw [aKZ]; kernel_rfl
theorem aQv {nm:ByteArray} {F:List Fi} {f:Fi} (h:bK nm F=some f):(fJ nm (F.map Fi.fe)).isSome=true:=by rw [pI h]; rfl
theorem aRa {G:PM} {h:Sh} {xs:List Y} (hs:SlR G 1 aN h xs) (c:h.oa.isNone=true):xs=[]:=by
 cases xs with
 | nil=>rfl
 | cons x r =>
  have:=hs.there (by simp)
  rw [this] at c; cases c
theorem aAG {f1 f2:Fi} (h1:f1.nm=aO 3 0):bK (aO 3 0) [f1,f2]=some f1:=by rw [bK,if_pos h1]
theorem aPV {f1 f2:Fi} (h1:f1.nm=aO 3 0) (h2:f2.nm=aO 4 0):bK (aO 4 0) [f1,f2]=some f2:=by
 rw [bK,if_neg (by rw [h1]; exact tI sz3 sz4 (by decide)),bK,if_pos h2]
theorem aRY {f1 f2:Fi} (h1:f1.nm=aO 3 0) (h2:f2.nm=aO 4 0):∀ f∈[f1,f2],f.nm=aO 3 0∨f.nm=aO 4 0:=by
 intro f hf
 rcases List.mem_cons.1 hf with rfl | hf
 ·exact .inl h1
 ·rw [List.mem_singleton.1 hf]; exact .inr h2
theorem aTG:(gE 1#64 (cM 1 2) (cU 1 2)).length≤400:=by
 rw [aJg]
 have hen:=aD6 (aBv rJ rK) (by show 0≤_; decide) (by show 0≤_; decide)
 have he0:(List.flatMap eF (cU 1 2).add).length=0:=rfl
 have hd0_:(cU 1 2).drop.length=0:=rfl
 omega
theorem aSL {a b:ByteArray}:∀ u∈[Value.string a,Value.string b],u.oneCell'=true:=by
 intro u hu
 simp only [List.mem_cons,List.not_mem_nil,or_false] at hu
 rcases hu with rfl|rfl<;>rfl
section
variable {dr:Bool} {mc:Md} {P:Program} {n:Fm} {l:List Oper} {K:aJ→PM→aG→Prop} {i:Nat} {σ:List Nat} {ρ:aJ} {G:PM} {μ:aG}
variable {d t:Nat} {p:String} {af:Array Edge} {g:Option (Nat×Bool)} {c:Bool}
theorem apB {T E b m:Nat} {x y:Operand} {u:Value} {cs:List Value} (xs:List Y) {ys:List Y} {μ':aG} (ho:nth l i=some ⟨some d,.call { callee:=.builtin .append,args:=#[x,y],argTypes:=#[T,T] },t,p,af,none⟩)
  (hT:bJ P T=some (E,1,1)) (hz:(P.info? E).bind (·.zero)=some (.int .u8 0)) (hx:Ev ρ true x (.slice (some ⟨b,0,none⟩) m m)) (hc:cs=xs.map V) (hl:xs.length=m) (hy:Ev ρ true y u) (hm:MTake μ (.blk b (cl cs E)) μ') (hs:Sc G μ u ys) (hb:xs.length+ys.length≤140737488355328)
  (h:∀ v' L,v'.oneCell'=true→L=xs++ys→Wo dr mc P n l K σ ((d,true,v') :: ρ) G (rB v' E L :: μ')) (hmc:mc.a=false∨dr=false:=by first|exact .inl rfl|exact .inr rfl):Wo dr mc P n l K (i :: σ) ρ G μ:=by
 subst hl; subst hc
 obtain ⟨oa,cap,rfl,hr⟩:=hs.ex
 refine .act (μ₁:=[.blk b (cl (xs.map V) E)]) (μ₂:=μ') (post:=fun G' μ' v'=>G'=G∧v'.oneCell'=true∧μ'=[rB v' E (xs++ys)]) ho (by rcases hmc with h | h<;>simp [bI,h]) .no hm.perm (fun a w ha hs=>.inl ?_) ?_
 ·have hrow:Tr G (keys [.blk b (cl (xs.map V) E)]) w G [rB (.slice (some ⟨b,0,none⟩) xs.length xs.length) E xs] w :=
   (eQ hs.left).asRow (sz:=1) (by simp) (Nat.le_refl _) (by unfold maxLen; omega) (by simp) (by rw [Nat.mul_one]; exact List.take_of_length_le (by simp))
  obtain ⟨v',w',hrun,ht⟩:=xX (ty:=t) (cp:=cap) (news:=ys.map V) (k:=ys.length) (oa:=oa) hT hz rfl hrow.sat (by simp) (fun hk=>by
   obtain ⟨b,o,h1,h2⟩:=hr hk
   exact ⟨b,o,h1,fun j u hj=>h2 j u hj w (hs.perm hm.perm.symm)⟩) (aAd ys) (by omega) (by unfold maxLen; omega)
  refine ⟨v',w',G,[rB v' E (xs++ys)],.inl (by simp [execOp,resolve,invoke,builtin,hx.eval ha rfl,hy.eval ha rfl,hrun]),?_,rfl,ht.sat.rowOne,rfl⟩
  simp only [rB,List.length_append,List.map_append]
  have:keys [rB (.slice (some ⟨b,0,none⟩) xs.length xs.length) E xs]=keys [.blk b (cl (xs.map V) E)]:=by simp [keys,Res.keys,Value.ownBlock]
  rw [← this]; exact ht
 rintro v' G' μ'' _ ⟨rfl,h1,rfl⟩
 exact h v' _ h1 rfl
theorem k00 {T e sz by':Nat} {x y z:Operand} (ho:nth l i=some ⟨some d,.slice T x none (some y) (some z),t,p,af,none⟩) (hT:bJ P T=some (e,sz,by')) (hx:Ev ρ true x (.slice none 0 0)) (hy:Ev ρ true y (.int .i64 0)) (hz:Ev ρ true z (.int .i64 0))
  (h:Wo dr mc P n l K σ ((d,true,.slice none 0 0) :: ρ) G μ):Wo dr mc P n l K (i :: σ) ρ G μ:=by
 obtain ⟨hu',inf,hi',hs1,hb1⟩:=fG hT
 refine .pure (v:=.slice none 0 0) ho (.inl rfl) .no (fun hc a w ha=>?_) h
 simp [execOp,hx.eval ha rfl,hy.eval ha rfl,hz.eval ha rfl,Instr.sliceAt,run_underlying hu',Instr.slice,Instr.sliceBounds,Instr.sliceBound,asIntOf,sizeOf,typeInfo,hi']
end
def EvD.cells (e:EvD) (vo vk vb:Value):List Value:=[V e.kind,.int .i64 e.client,vo,.bool e.sync,.string (eK e.lo),.string (eK e.hi),uv .u64 e.moment,.int .i64 e.n,vk,.string (eK e.name),vb]
def xA (n:Int):List Value:=[.int .i64 n]
theorem oL {l:List Value} (h:l.all (fun u=>u.oneCell')=true):∀ u∈l,u.oneCell'=true:=List.all_eq_true.1 h
def bts (s:ByteArray):List UInt8:=s.data.toList
structure Rep where
 err:Int
 n:BitVec 64
 value:ByteArray
 is:Bool
 pairs:List (ByteArray×ByteArray)
 dones:List (Int×Int)
def Rep.cells (r:Rep) (vp vd:Value):List Value:=[.int .i64 r.err,uv .u64 r.n,.string r.value,.bool r.is,vp,vd]
theorem Rep.one (r:Rep) {vp vd:Value} (h1:vp.oneCell'=true) (h2:vd.oneCell'=true):∀ u∈r.cells vp vd,u.oneCell'=true:=oL (by
 unfold Rep.cells
 simp only [List.all_cons,List.all_nil,h1,h2]
 rfl)
def Rep.zero:Rep:=⟨0,0#64,⟨#[]⟩,false,[],[]⟩
def aAB (d:Int×Int):List Value:=[.int .i64 d.1,.int .i64 d.2]
theorem aNf (n:Int):IntKind.i64.wrap ((BitVec.ofInt 64 n &&& BitVec.ofInt 64 1).toNat:Int)=n%2:=by
 have h:((BitVec.ofInt 64 n &&& BitVec.ofInt 64 1).toNat:Int)=n%2:=by
  have h1:(BitVec.ofInt 64 1).toNat=1:=rfl
  rw [BitVec.toNat_and,BitVec.toNat_ofInt,h1,Nat.and_one_is_mod]
  omega
 rw [h]; exact eV (by omega) (by omega)
section
variable {dr:Bool} {mc:Md} {P:Program} {n:Fm} {l:List Oper} {K:aJ→PM→aG→Prop} {i:Nat} {σ:List Nat} {ρ:aJ} {G:PM} {μ:aG}
variable {d t:Nat} {p:String} {af:Array Edge} {g:Option (Nat×Bool)} {c:Bool}
theorem anA {T T':TypeId} {x y:Operand} {a:Int} (ho:nth l i=some ⟨some d,.binOp .and T x y T',t,p,af,g⟩) (hg:Gd l ρ g c) (hx:Ev ρ c x (.int .i64 a)) (hy:Ev ρ c y (.int .i64 1))
  (h:Wo dr mc P n l K σ ((d,c,.int .i64 (a%2)) :: ρ) G μ):Wo dr mc P n l K (i :: σ) ρ G μ :=
 .pure ho (.inl rfl) hg (fun hc q w ha=>by
  have h5:(Op.intBits .and .i64 a 1)=pure (.int .i64 (IntKind.i64.wrap ((BitVec.ofInt 64 a &&& BitVec.ofInt 64 1).toNat:Int))):=rfl
  have h6:binOp .and T (.int .i64 a) (.int .i64 1)=Op.intBits .and .i64 a 1:=rfl
  have hb:(binOp .and T (.int .i64 a) (.int .i64 1)).run P w=.ok (.int .i64 (a%2)) w:=by rw [h6,h5,aNf]; rfl
  simp only [execOp,hx.eval ha hc,hy.eval ha hc,Sem.run_bind,jD,Result.andThen_ok,hb]; rfl) h
end
theorem aCC {P:Program} {fn:Func} {tmps:Array Value} {R:Ending→World→Prop} (hR:∀ e w,¬ R e w):∀ (ds:List Deferred) (u:FrameMode) (w:World),¬ Leaves P fn tmps R ds u w
 | [],u,w,h=>by
  cases u with
  | run=>exact h
  | returning=>obtain ⟨v,_,h⟩:=h; exact hR _ _ h
  | panicking ch=>exact hR _ _ h
 | d :: ds,u,w,h=>by
  obtain ⟨_,fv,cap,f,args,_,_,hc⟩:=h
  obtain ⟨e,u',w',fr,h,_⟩:=hc { (default:Frame) with mode:=u } [] rfl
  cases e with
  | returned v=>exact aCC hR ds _ _ h
  | panicked ch=>exact aCC hR ds _ _ h
  | outgrown=>exact hR _ _ h
theorem aK6 {P:Program} {fn:Func} {n:Nat} {G G1:PM} {K0:List Nat} {w0 w:World} {c:Code} {ρ:aJ} {μ:aG} {I:Act→World→Prop} {a:Act} {Q:Exit→Act→World→Prop}
  (h:Wk (cx0 P fn n G K0 w0 (fun _ _ _=>False) (fun _=>False)) c [.lp I] ρ G1 μ) (ha:Ag (tB n fun _=>False) ρ a) (ht:Tr G K0 w0 G1 μ w) (hq:∀ a w,I a w→Q .normal a w):c.wp P Q a w:=by
 refine wp_mono (h.out a w ha ht) fun e a' w' he=>?_
 have hR:∀ e w,¬ RR (fun _ _ _=>False) (fun _=>False) G K0 w0 e w:=by
  rintro e w (⟨_,_,_,_,_,h⟩ | ⟨_,_,_,_,h⟩)<;>exact h
 cases e with
 | normal=>exact hq _ _ he
 | ret=>exact (aCC hR _ _ _ he).elim
 | panic ch=>exact (aCC hR _ _ _ he).elim
 | outgrown=>exact (hR _ _ he).elim
 | exit id=>exact he.elim
 | goto l=>exact he.elim
def flP (P:Program) (T f:Nat):Option Nat :=
 match P.underlying T with
 | some (.struct fs)=>match fs[f]? with
  | some fl=>match P.underlying fl.type with
   | some (.struct _) | some (.array _ _)=>none
   | some _=>some fl.offset
   | none=>none
  | none=>none
 | _=>none
section
variable {dr:Bool} {mc:Md} {P:Program} {n:Fm} {l:List Oper} {K:aJ→PM→aG→Prop} {i:Nat} {σ:List Nat} {ρ:aJ} {G:PM} {μ:aG}
variable {d t:Nat} {p:String} {af:Array Edge} {g:Option (Nat×Bool)} {c:Bool}
theorem fdV {T f o:Nat} {x:Operand} {cs:Array Value} {v:Value} (ho:nth l i=some ⟨some d,.field T x f,t,p,af,g⟩) (hg:Gd l ρ g c) (hF:flP P T f=some o) (hx:Ev ρ c x (.agg cs)) (hv:c=true→cs[o]? = some v)
  (h:Wo dr mc P n l K σ ((d,c,v) :: ρ) G μ):Wo dr mc P n l K (i :: σ) ρ G μ :=
 .pure ho (.inl rfl) hg (fun hc a w ha=>by
  unfold flP at hF
  have hv':=hv hc
  split at hF
  ·rename_i fs hu
   split at hF
   ·rename_i fl hfl
    split at hF
    ·cases hF
    ·cases hF
    ·rename_i q hn1 hn2 hq
     simp only [Option.some.injEq] at hF
     subst hF
     have hA:(isAgg fl.type).run P w=.ok false w:=by
      unfold isAgg
      simp only [Sem.run_bind,run_underlying hq,Result.andThen_ok]
      first
       |rfl
       | (split<;>first|rfl|exact absurd hq (hn1 _)|exact absurd hq (hn2 _ _))
     simp [execOp,hx.eval ha hc,Instr.field,run_underlying hu,hfl,part,hA,hv',asAgg]
    ·cases hF
   ·cases hF
  ·cases hF) h
end
structure Wtg where
 c:Nat
 sh:Sh
 ops:List Opn
 sy:Bool
def Wtg.cells (w:Wtg):List Value:=[.int .i64 (w.c:Int),w.sh.val w.ops.length,.bool w.sy]
theorem Wtg.len (w:Wtg):w.cells.length=3:=rfl
theorem Wtg.one (w:Wtg):∀ u∈w.cells,u.oneCell'=true:=by
 intro u hu
 simp only [Wtg.cells,List.mem_cons,List.not_mem_nil,or_false] at hu
 rcases hu with rfl|rfl|rfl<;>rfl
def AllW (G:PM) (ws:List Wtg):Prop:=∀ w,w∈ws→SlR G 3 Opn.cells w.sh w.ops
theorem AllW.mono {G G':PM} {ws:List Wtg} (h:AllW G ws) (hle:PM.le G G'):AllW G' ws:=fun w hw=>(h w hw).mono hle
def aAA (c:Nat):List Value:=[.int .i64 (c:Int),.int .i64 0]
def aD7 (w:Wtg):List Value:=[w.sh.val w.ops.length]
def jn (ws:List Wtg):List Opn:=ws.flatMap Wtg.ops
theorem aQI {ws:List Wtg} {k:Nat} {w:Wtg} (h:ws[k]? = some w):jn (ws.take k)++w.ops=jn (ws.take (k+1)):=by
 rw [List.take_add_one,h]; simp [jn]
theorem aIJ {ws:List Wtg} (h1:∀ w∈ws,w.ops.length=1):(jn ws).length=ws.length:=by
 induction ws with
 | nil=>rfl
 | cons a r ih =>
  have:=ih fun w hw=>h1 w (List.mem_cons_of_mem _ hw)
  have h2:=h1 a (List.mem_cons_self ..)
  simp only [jn,List.flatMap_cons,List.length_append,List.length_cons] at this ⊢
  omega
def mJ:List Opn→Nat
 | []=>0
 | o :: r=>o.user.size+o.value.size+mJ r
theorem aKH:∀ {l:List Opn} {k:Nat} {o:Opn},l[k]? = some o→mJ (l.take (k+1))=mJ (l.take k)+(o.user.size+o.value.size)
 | [],_,_,h=>by simp at h
 | x :: r,0,o,h=>by simp only [List.getElem?_cons_zero,Option.some.injEq] at h; subst h; simp [mJ]
 | x :: r,k+1,o,h=>by
  rw [List.getElem?_cons_succ] at h
  rw [List.take_succ_cons,List.take_succ_cons,mJ,mJ,aKH h]; omega
theorem aKG {l:List Opn} (h:∀ o∈l,o.ok):mJ l≤20*l.length:=by
 induction l with
 | nil=>exact Nat.le_refl _
 | cons a r ih =>
  have:=ih fun o ho=>h o (List.mem_cons_of_mem _ ho)
  have h2:=h a (List.mem_cons_self ..)
  have h3:=h2.user; have h4:=h2.value
  rw [mJ,List.length_cons]; omega
section
variable {P:Program} {f:FuncId} {args:Array Value} {G:PM} {μ:aG}
theorem aQs {α:Type} {enc:α→List Value} {sz bl T E:Nat} {v z:Value} {xs:List α} {r:Value} (hsz:∀ x∈xs,(enc x).length=sz)
  (h:∀ (s:Sh) (G2:PM),PM.le G G2→v=s.val xs.length→SlR G2 sz enc s xs→PB G2 bl (cl [z,v] T)→Ct P f args G2 μ (fun _ μ' u=>μ'=μ∧u=r)) :
  Ct P f args G (.blk bl (cl [z,v] T) :: rS sz enc v E xs :: μ) (fun _ μ' u=>μ'=.blk bl (cl [z,v] T) :: rS sz enc v E xs :: μ∧u=r) :=
 (cX (Q:=fun ν u=>ν=rS sz enc v E xs :: μ∧u=r) fun G1 hle1 h1=>(aCt (Q:=fun ν u=>ν=μ∧u=r) hsz fun s G2 hle hv hs=>h s G2 (hle1.trans hle) hv hs (h1.mono hle)).mono
  fun G' μ' u ⟨ν,h2,h3,h4⟩=>⟨by rw [h2,h3],h4⟩).mono fun G' μ' u ⟨ν,h2,h3,h4⟩=>⟨by rw [h2,h3],h4⟩
end
section
variable {dr:Bool} {mc:Md} {P:Program} {n:Fm} {l:List Oper} {K:aJ→PM→aG→Prop} {i:Nat} {σ:List Nat} {ρ:aJ} {G:PM} {μ:aG}
variable {d t:Nat} {p:String} {af:Array Edge}
theorem apE {α:Type} {enc:α→List Value} {sz T E by':Nat} {x y:Operand} {z:Value} {a0:Addr} {s:Sh} {ys:List α} (ho:nth l i=some ⟨some d,.call { callee:=.builtin .append,args:=#[x,y],argTypes:=#[T,T] },t,p,af,none⟩)
  (hT:bJ P T=some (E,sz,by')) (hz:(P.info? E).bind (·.zero)=some z) (hzs:z.cells.size=sz) (hx:Ev ρ true x (.slice (some a0) 0 0)) (hy:Ev ρ true y (s.val ys.length)) (hs:SlR G sz enc s ys) (h0:0<ys.length) (hsz:∀ u∈ys,(enc u).length=sz) (h1:∀ u∈ys.flatMap enc,u.oneCell'=true) (hb:ys.length*by'≤140737488355328) (h63:ys.length≤maxLen)
  (h:∀ v',v'.oneCell'=true→Wo dr mc P n l K σ ((d,true,v') :: ρ) G (rS sz enc v' E ys :: μ)) (hmc:mc.a=false∨dr=false:=by first|exact .inl rfl|exact .inr rfl):Wo dr mc P n l K (i :: σ) ρ G μ:=by
 refine .act (μ₁:=[]) (μ₂:=μ) (post:=fun G' μ' v'=>G'=G∧v'.oneCell'=true∧μ'=[rS sz enc v' E ys]) ho (by rcases hmc with h | h<;>simp [bI,h]) .no (.refl _) (fun a w ha hs0=>.inl ?_) ?_
 ·have hsμ:Sat G μ w:=by simpa using hs0
  obtain ⟨hu,inf,hi,rfl,rfl⟩:=fG hT
  have hz':=hz
  rw [hi] at hz'
  simp only [Option.bind_some] at hz'
  have hne:=hs.nn h0
  have hfl:=xD hsz
  have hnews:∀ j u,(ys.flatMap enc)[j]? = some u→w.cell? ((⟨s.b,s.o,none⟩ : Addr).add j)=some u:=fun j u hj=>by rw [jB]; exact (SlR.flat hsz hs j u hj) w hsμ.sub
  unfold maxLen at h63
  have hrun:=run_append_grow (P:=P) w T t E inf _ hu hi hz' a0 0 0 [] (by simp) (fun j v h=>by simp at h) ⟨s.b,s.o,none⟩ ys.length s.cap (ys.flatMap enc) hfl hnews (by omega) (by omega) (growslice_fits (by omega) (by simpa using hb))
  simp only [Nat.zero_add] at hrun
  have h2:=((eQ (Sat.left (μ:=[]) hs0)).drew).alloc (.cells (([]:List Value).toArray++(ys.flatMap enc).toArray++Builtin.zeroCells z.cells (grownCap w ys.length 0 E-ys.length)) E)
  have hge:=grownCap_ge w ys.length 0 E
  have h3:=h2.asRow (m:=ys.length) (cap:=grownCap w ys.length 0 E) (sz:=inf.size) (xs:=ys.flatMap enc) hfl hge (grownCap_le_maxLen w ys.length 0 E (by unfold maxLen; omega)) (by
   simp only [Array.size_append,List.size_toArray,size_zeroCells,hfl,List.length_nil,hzs]
   have:=Nat.add_mul ys.length (grownCap w ys.length 0 E-ys.length) inf.size
   rw [show ys.length+(grownCap w ys.length 0 E-ys.length)=grownCap w ys.length 0 E by omega] at this
   omega) (by rw [Array.toList_append,Array.toList_append]; exact List.take_left' (by simp [hfl]))
  refine ⟨_,_,G,_,.inl (by simp [execOp,resolve,invoke,builtin,hx.eval ha rfl,hy.eval ha rfl,Sh.val,hne,hrun]; rfl),h3,rfl,rfl,?_⟩
  simp [rS]
 rintro v' G' μ'' _ ⟨rfl,h1,rfl⟩
 exact h v' h1
theorem aNh {T E sz by' c:Nat} {x y:Operand} {o1 o2:Option Addr} (ho:nth l i=some ⟨some d,.call { callee:=.builtin .append,args:=#[x,y],argTypes:=#[T,T] },t,p,af,none⟩)
  (hT:bJ P T=some (E,sz,by')) (hx:Ev ρ true x (.slice o1 0 0)) (hy:Ev ρ true y (.slice o2 0 c))
  (h:Wo dr mc P n l K σ ((d,true,.slice o1 0 0) :: ρ) G μ) (hmc:mc.a=false∨dr=false:=by first|exact .inl rfl|exact .inr rfl):Wo dr mc P n l K (i :: σ) ρ G μ:=by
 obtain ⟨hu,inf,hi,rfl,rfl⟩:=fG hT
 refine .act (μ₁:=[]) (μ₂:=μ) (post:=fun G' μ' v'=>G'=G∧v'=.slice o1 0 0∧μ'=[]) ho (by rcases hmc with h | h<;>simp [bI,h]) .no (.refl _) (fun a w ha hs0=>.inl ?_) ?_
 ·refine ⟨.slice o1 0 0,w,G,[],.inl ?_,eQ (Sat.left (μ:=[]) hs0),rfl,rfl,rfl⟩
  cases o1<;>cases o2<;>simp [execOp,resolve,invoke,builtin,hx.eval ha rfl,hy.eval ha rfl,Builtin.append_,run_underlying hu,sizeOf,typeInfo,hi,Builtin.lenOf,Builtin.firstCells,loadCells,loadCellsFrom,storeCells]
 rintro v' G' μ'' _ ⟨rfl,rfl,rfl⟩
 exact h
end
theorem aJw {P:Program} {T:TypeId} (hT:jR P T=true) (w:World):(Op.equal T (.pointer none) (.pointer none)).run P w=.ok true w:=by
 unfold jR at hT
 split at hT
 ·rename_i e hu
  unfold Op.equal
  rw [show Op.maxDepth=9999+1 from rfl,Op.equalIn]
  simp [run_underlying hu]
 ·cases hT
section
variable {dr:Bool} {mc:Md} {P:Program} {n:Fm} {l:List Oper} {K:aJ→PM→aG→Prop} {i:Nat} {σ:List Nat} {ρ:aJ} {G:PM} {μ:aG}
variable {d t:Nat} {p:String} {af:Array Edge} {g:Option (Nat×Bool)} {c:Bool}
theorem pn0 {T T':TypeId} {x y:Operand} (ho:nth l i=some ⟨some d,.binOp .neq T x y T',t,p,af,g⟩) (hg:Gd l ρ g c) (hT:jR P T=true) (hx:Ev ρ c x (.pointer none)) (hy:Ev ρ c y (.pointer none)) (h:Wo dr mc P n l K σ ((d,c,.bool false) :: ρ) G μ):Wo dr mc P n l K (i :: σ) ρ G μ :=
 .pure ho (.inl rfl) hg (fun hc q w ha=>by
  have hq:(eqGuard .neq T x y (.pointer none) (.pointer none)).run P w=.ok () w:=by unfold eqGuard; simp
  simp [execOp,hx.eval ha hc,hy.eval ha hc,hq,binOp,aJw hT]) h
theorem hY {T T':TypeId} {x y:Operand} (ho:nth l i=some ⟨some d,.binOp .eql T x y T',t,p,af,g⟩) (hg:Gd l ρ g c) (hT:jR P T=true) (hx:Ev ρ c x (.pointer none)) (hy:Ev ρ c y (.pointer none)) (h:Wo dr mc P n l K σ ((d,c,.bool true) :: ρ) G μ):Wo dr mc P n l K (i :: σ) ρ G μ :=
 .pure ho (.inl rfl) hg (fun hc q w ha=>by
  have hq:(eqGuard .eql T x y (.pointer none) (.pointer none)).run P w=.ok () w:=by unfold eqGuard; simp
  simp [execOp,hx.eval ha hc,hy.eval ha hc,hq,binOp,aJw hT]) h
end
theorem aFC {α:Type} {xs:List α} {k:Nat} {x:α} (h:xs[k]? = some x):xs.take k++[x]=xs.take (k+1):=by
 rw [List.take_add_one,h]; rfl
theorem aQH {ws:List Wtg} (h1:∀ w∈ws,w.ops.length≤10):(jn ws).length≤10*ws.length:=by
 induction ws with
 | nil=>exact Nat.le_refl _
 | cons a r ih =>
  have:=ih fun w hw=>h1 w (List.mem_cons_of_mem _ hw)
  have h2:=h1 a (List.mem_cons_self ..)
  simp only [jn,List.flatMap_cons,List.length_append,List.length_cons] at this ⊢
  omega
theorem aP7 {α:Type} {p:α→Bool}:oH p []<0:=by show (-1:Int)<0; decide
theorem aEc {μ μ1 μ2 μ3 μ4 μ5 μ6 μ7:aG} {r1 r2 r3 r4 r5 r6 r7:Res} (h1:MTake μ r1 μ1) (h2:MTake μ1 r2 μ2) (h3:MTake μ2 r3 μ3) (h4:MTake μ3 r4 μ4) (h5:MTake μ4 r5 μ5) (h6:MTake μ5 r6 μ6) (h7:MTake μ6 r7 μ7):μ.Perm ([r1,r2,r3,r4,r5,r6,r7]++μ7):=h1.perm.trans ((aIq h2 h3 h4 h5 h6 h7).cons _)
theorem aQr {P:Program} {G:PM} {f:FuncId} {args:Array Value} {bl T E:Nat} {v sz:Value} {xs:List Nd} {r:Value}
  (h:∀ (s:Sh) (G2:PM),PM.le G G2→v=s.val xs.length→SlR G2 16 Nd.cells s xs→PB G2 bl (cl [v,sz] T)→Ct P f args G2 [] (fun _ μ' u=>μ'=[]∧u=r)) :
  Ct P f args G [.blk bl (cl [v,sz] T),rS 16 Nd.cells v E xs] (fun _ μ' u=>μ'=[.blk bl (cl [v,sz] T),rS 16 Nd.cells v E xs]∧u=r) :=
 (cX (Q:=fun ν u=>ν=[rS 16 Nd.cells v E xs]∧u=r) fun G1 hle1 h1=>(aCt (Q:=fun ν u=>ν=[]∧u=r) (fun x _=>Nd.len x) fun s G2 hle hv hs=>h s G2 (hle1.trans hle) hv hs (h1.mono hle)).mono
  fun G' μ' u ⟨ν,h2,h3,h4⟩=>⟨by rw [h2,h3],h4⟩).mono fun G' μ' u ⟨ν,h2,h3,h4⟩=>⟨by rw [h2,h3],h4⟩
theorem aVG {es:List Ent} {e:Ent} {us:ByteArray} {q:BitVec 64} (h:es[0]? = some e) (ha:pA e us q=false):WayN (cK es 1) us q (fun _=>0):=by
 rw [aCF h]
 have n0:∀ k,cY [(Ent.zero,fun j=>if j=0 then 1 else 0),(e,fun j=>if j=0 then 0 else 0)] 0 k=if k=0 then 1 else 0:=fun _=>rfl
 have n1:∀ k,cY [(Ent.zero,fun j=>if j=0 then 1 else 0),(e,fun j=>if j=0 then 0 else 0)] 1 k=0:=fun k=>by show (if k=0 then 0 else 0)=0; split<;>rfl
 refine ⟨rfl,fun k _=>by simp,fun k _=>.inl ⟨rfl,?_⟩,fun a hl k _=>?_⟩
 ·by_cases hk:k=0
  ·subst hk; exact .inr (by rw [n0]; exact ha)
  exact .inl (by rw [n0,if_neg hk])
 have:a=0∨a=1:=by simp at hl; omega
 rcases this with rfl|rfl
 ·rw [n0]; split<;>simp
 rw [n1]; simp
theorem nx1 {es:List Ent} {e:Ent} (h:es[0]? = some e):cY (cK es 1) 0 0=1∧((cK es 1).getD 1 Nd.z).1=e:=by rw [aCF h]; exact ⟨rfl,rfl⟩
def cV (bd bt:Nat) (root:Nat→Y) (o:Opts) (most:Int) (x y:Value):List Value:=[pt bd,pt bt]++(ba 32 root++(o.cells++[.int .i64 most,x,y]))
section
variable {bd bt:Nat} {root:Nat→Y} {o:Opts} {most:Int} {x y z:Value}
theorem pT:(cV bd bt root o most x y).length=44:=rfl
theorem aAs:(cV bd bt root o most x y).set 42 z=cV bd bt root o most z y:=rfl
theorem aAt:(cV bd bt root o most x y).set 43 z=cV bd bt root o most x z:=rfl
theorem aVK:(cV bd bt root o most x y)[41]? = some (.int .i64 most):=rfl
theorem rM:(cV bd bt root o most x y)[42]? = some x:=rfl
theorem yH:(cV bd bt root o most x y)[43]? = some y:=rfl
end
theorem Tr.freeze0 {G0 G:PM} {K0:List Nat} {w0 w:World} {μ:aG} {b:Nat} {o:Obj} (h:Tr G0 K0 w0 G (.blk b o :: μ) w):Tr G0 K0 w0 (G.add b o) μ w:=by
 have hbo:w.heap[b]? = some o:=h.sat.own _ (List.mem_cons_self ..)
 have hk:keys (.blk b o :: μ)=b :: keys μ:=by simp [keys,Res.keys]
 have hnd:=h.sat.nodup
 rw [hk] at hnd
 have hGb:G b=none:=h.sat.apart b (by rw [hk]; exact List.mem_cons_self ..)
 have hw0:=h.mine b (by rw [hk]; exact List.mem_cons_self ..)
 refine ⟨⟨?_,fun r hr=>h.sat.own r (List.mem_cons_of_mem _ hr),?_,(List.nodup_cons.1 hnd).2⟩,h.os,h.tape,h.output,h.size,?_,fun c hc=>h.mine c (by rw [hk]; exact List.mem_cons_of_mem _ hc),?_⟩
 ·intro c u hc
  unfold PM.add at hc
  split at hc
  ·rename_i e; subst e; cases hc; exact hbo
  exact h.sat.sub c u hc
 ·intro c hc
  unfold PM.add
  rw [if_neg (fun (e:c=b)=>(List.nodup_cons.1 hnd).1 (e▸hc))]
  exact h.sat.apart c (by rw [hk]; exact List.mem_cons_of_mem _ hc)
 ·intro c hc hK
  have:=h.old c hc hK
  refine ⟨this.1,?_⟩
  unfold PM.add
  rw [if_neg (fun e=>by subst e; rcases hw0 with q | q; exact hK q; omega)]
  exact this.2
 intro c u hK hc
 exact PM.le_add hGb c u (h.le c u hK hc)
theorem Tr.freezeRow0 {G0 G:PM} {μ:aG} {K0:List Nat} {w0 w:World} {E sz m:Nat} {v:Value} {xs:List Value} (h:Tr G0 K0 w0 G (.row v E sz m xs :: μ) w) :
  ∃ G' s,PM.le G G'∧v=Sh.val s m∧m≤s.cap∧(m≠0→s.oa=some ⟨s.b,s.o,none⟩)∧RdNP G' s.b s.o xs∧Tr G0 K0 w0 G' μ w:=by
 have hrow:w.ownsRow 0 E sz v m xs:=h.sat.own _ (List.mem_cons_self ..)
 have hnd:=h.sat.nodup
 rcases hrow.2 with ⟨rfl,rfl⟩ | ⟨g,cap,cur,rfl,_,hg,hnc,hcm,hcs,htake⟩
 ·have hx:xs=[]:=List.eq_nil_of_length_eq_zero (by simpa using hrow.1)
  subst hx
  exact ⟨G,⟨none,0⟩,PM.le.refl G,rfl,Nat.le_refl _,fun h=>absurd rfl h,fun j v hj=>by simp at hj,Tr.left (ν:=[.row (.slice none 0 0) E sz 0 []]) (h.perm (List.perm_append_comm (l₁:=[Res.row (.slice none 0 0) E sz 0 []])))⟩
 have hk:keys (.row (.slice (some ⟨g,0,none⟩) m cap) E sz m xs :: μ)=g :: keys μ:=by simp [keys,Res.keys,Value.ownBlock]
 have hk':keys (.blk g (.cells cur E (0,0)) :: μ)=g :: keys μ:=by simp [keys,Res.keys]
 rw [hk] at hnd
 have hb:Tr G0 K0 w0 G (.blk g (.cells cur E (0,0)) :: μ) w:=by
  refine { h with sat:=⟨h.sat.sub,fun r hr=>?_,by rw [hk',←hk]; exact h.sat.apart,by rw [hk']; exact hnd⟩,mine:=by rw [hk',←hk]; exact h.mine }
  rcases List.mem_cons.1 hr with rfl | hr
  ·exact hg
  exact h.sat.own r (List.mem_cons_of_mem _ hr)
 have hGg:G g=none:=h.sat.apart g (by rw [hk]; exact List.mem_cons_self ..)
 refine ⟨G.add g (.cells cur E (0,0)),⟨some ⟨g,0,none⟩,cap⟩,PM.le_add hGg,rfl,hnc,fun _=>rfl,fun j u hj=>?_,hb.freeze0⟩
 intro w' hs'
 have h1:=hs' g _ (bU G g _)
 show w'.cell? ⟨g,0+j,none⟩=some u
 rw [Nat.zero_add,cell_of_row w' g j cur E (0,0) h1]
 rw [← htake,List.getElem?_take] at hj
 split at hj
 ·simpa using hj
 cases hj
theorem Tr.frzS0 {α:Type} {enc:α→List Value} {sz:Nat} {G0 G:PM} {μ:aG} {K0:List Nat} {w0 w:World} {E:Nat} {v:Value} {xs:List α} (hsz:∀ x∈xs,(enc x).length=sz) (h:Tr G0 K0 w0 G (rS sz enc v E xs :: μ) w) :
  ∃ G' s,PM.le G G'∧v=Sh.val s xs.length∧SlR G' sz enc s xs∧Tr G0 K0 w0 G' μ w:=by
 obtain ⟨G',s,h1,h2,h3,h4,h5,h6⟩:=h.freezeRow0
 exact ⟨G',s,h1,h2,SlR.ofRow hsz h3 h4 h5,h6⟩
theorem aVO {α:Type} {enc:α→List Value} {sz:Nat} {X:Cx} {cd:Code} {k:List KI} {ρ:aJ} {G:PM} {μ:aG} {E:Nat} {v:Value} {xs:List α} {μ':aG} (hm:MTake μ (rS sz enc v E xs) μ') (hsz:∀ x∈xs,(enc x).length=sz) (h:∀ G' s,PM.le G G'→v=Sh.val s xs.length→SlR G' sz enc s xs→Wk X cd k ρ G' μ'):Wk X cd k ρ G μ :=
 ⟨fun a w ha ht=>by
  obtain ⟨G',s,h1,h2,h3,h4⟩:=(ht.perm hm.perm).frzS0 hsz
  exact (h G' s h1 h2 h3).out a w ha h4⟩
theorem SlR.dn {G:PM} {h:Sh} {xs:List Nat} (s:SlR G 2 aAA h xs):SlR G 2 aAB h (xs.map fun c:Nat=>((c:Int),(0:Int))):=by
 refine ⟨fun hne=>s.there fun e=>hne (by rw [e]; rfl),by rw [List.length_map]; exact s.le,fun i x hx=>?_⟩
 rw [List.getElem?_map] at hx
 cases e:xs[i]? with
 | none=>rw [e] at hx; cases hx
 | some c =>
  rw [e] at hx
  cases hx
  exact s.rd i c e
section
variable {dr:Bool} {mc:Md} {P:Program} {n:Fm} {l:List Oper} {K:aJ→PM→aG→Prop} {i:Nat} {σ:List Nat} {ρ:aJ} {G:PM} {μ:aG}
variable {d t:Nat} {p:String} {af:Array Edge}
theorem k3v {T e sz by':Nat} {x y z:Operand} {oa:Option Addr} {m cap:Nat} (q:Nat) (ho:nth l i=some ⟨some d,.slice T x none (some y) (some z),t,p,af,none⟩) (hT:bJ P T=some (e,sz,by')) (hx:Ev ρ true x (.slice oa m cap)) (hy:Ev ρ true y (.int .i64 (q:Int))) (hz:Ev ρ true z (.int .i64 (q:Int))) (hq:q≤cap)
  (h:∀ ob,Wo dr mc P n l K σ ((d,true,.slice ob q q) :: ρ) G μ):Wo dr mc P n l K (i :: σ) ρ G μ:=by
 obtain ⟨hu',inf,hi',hs1,hb1⟩:=fG hT
 refine .pure (v:=.slice (if q=0 then oa else oa.map (·.add (0*inf.size))) q q) ho (.inl rfl) .no (fun hc a w ha=>?_) (h _)
 simp [execOp,hx.eval ha rfl,hy.eval ha rfl,hz.eval ha rfl,Instr.sliceAt,run_underlying hu',Instr.slice,Instr.sliceBounds,Instr.sliceBound,asIntOf,sizeOf,typeInfo,hi',hq]
end
def okF (F:List Fi):Prop:=∀ f∈F,f.safe≤f.n∧f.n≤f.h.cap∧f.n≤1000000000
theorem aHy {nm:ByteArray} {h:Sh} {n safe:Nat}:∀ {F:List Fi} {f:Fi},f∈lD nm h n safe F→f∈F∨(f.h=h∧f.n=n∧f.safe=safe)
 | [],f,hf=>by cases hf
 | g :: r,f,hf=>by
  rw [lD] at hf
  split at hf
  ·rcases List.mem_cons.1 hf with rfl | hf
   ·exact .inr ⟨rfl,rfl,rfl⟩
   ·exact .inl (List.mem_cons_of_mem _ hf)
  ·rcases List.mem_cons.1 hf with rfl | hf
   ·exact .inl (List.mem_cons_self ..)
   ·rcases aHy hf with h1 | h1
    ·exact .inl (List.mem_cons_of_mem _ h1)
    ·exact .inr h1
theorem okF.put {F:List Fi} {nm:ByteArray} {h:Sh} {n:Nat} (hF:okF F) (hc:n≤h.cap) (h9:n≤1000000000):okF (lD nm h n n F):=fun f hf=>by
 rcases aHy hf with h1 | ⟨h1,h2,h3⟩
 ·exact hF f h1
 ·rw [h1,h2,h3]; exact ⟨Nat.le_refl _,hc,h9⟩
theorem aHq {y:ByteArray}:∀ {F:List Fi},y∈F.map Fi.nm→∃ f,bK y F=some f∧f∈F
 | [],h=>by cases h
 | g :: r,h=>by
  rw [bK]
  by_cases e:g.nm=y
  ·rw [if_pos e]; exact ⟨g,rfl,List.mem_cons_self ..⟩
  ·rw [if_neg e]
   rw [List.map_cons] at h
   rcases List.mem_cons.1 h with h | h
   ·exact absurd h.symm e
   ·obtain ⟨f,h1,h2⟩:=aHq h
    exact ⟨f,h1,List.mem_cons_of_mem _ h2⟩
theorem aOU (kv:Int) {s n:Nat} (h:s≤n):∃ q:Nat,(s:Int)+(if (if ((n:Int)-(s:Int))<kv then ((n:Int)-(s:Int)) else kv) > 0 then (if ((n:Int)-(s:Int))<kv then ((n:Int)-(s:Int)) else kv) else 0)=(q:Int)∧q≤n :=
 ⟨((s:Int)+(if (if ((n:Int)-(s:Int))<kv then ((n:Int)-(s:Int)) else kv) > 0 then (if ((n:Int)-(s:Int))<kv then ((n:Int)-(s:Int)) else kv) else 0)).toNat,by repeat' split<;>omega,by repeat' split<;>omega⟩
def clK (k:Y):Bool:=decide (1≤k.toNat)&&decide (k.toNat≤7)||decide (k.toNat=11)
theorem wW {k:Y} (h:clK k=true):(1≤k.toNat∧k.toNat≤7)∨k.toNat=11:=by
 unfold clK at h
 simpa using h
def oX:Opn:=⟨1#8,⟨#[97]⟩,⟨#[120]⟩⟩
theorem okX:∀ o∈[oX],o.ok:=fun o ho=>by rw [List.mem_singleton.1 ho]; exact ⟨.inl rfl,by decide,by decide⟩
theorem esX:(cB 0 [oX])[0]? = some (fS 1#64 oX):=rfl
def eP:EvD:=⟨6#8,0,[],false,[],[],0#64,0,[],[],[]⟩
def eG:EvD:=⟨2#8,0,[],false,[97],[],9#64,0,[],[],[]⟩
def rP:Rep:=⟨0,0#64,⟨#[]⟩,false,[],[((2:Int),(0:Int))]⟩
def rG:Rep:=⟨0,0#64,⟨#[120]⟩,true,[],[]⟩
theorem aIt {F:List Fi} (h:F.map Fi.nm=[aO 3 0,aO 4 0]):∀ f∈F,f.nm=aO 3 0∨f.nm=aO 4 0:=fun f hf=>by
 have:f.nm∈F.map Fi.nm:=List.mem_map.2 ⟨f,hf,rfl⟩
 rw [h] at this
 rcases List.mem_cons.1 this with e | e
 ·exact .inl e
 ·exact .inr (List.mem_singleton.1 e)
theorem aRq:((aO 3 0).data.toList == (aO 3 2).data.toList)=false:=by kernel_rfl
theorem aRp:aO 3 0≠aO 3 (2#64:BitVec 64).toNat:=fun e=>by
 have h:=aRq
 rw [show aO 3 2=aO 3 0 from e.symm] at h
 simp at h
theorem aRr:aO 4 0≠aO 3 (2#64:BitVec 64).toNat:=tI sz4 (by show (aO 3 2).size=15; kernel_rfl) (by decide)
theorem aRu:aO 3 0≠aO 5 0:=tI sz3 sz5 (by decide)
def aBw (c:Nat):List Value:=[.int .i64 (c:Int)]
end Go.Tan
namespace Go.Proofs.YtoifkgkandfeiaaGreatDoor
open Go.Tan Go.RowKit
set_option maxRecDepth 100000
theorem aWO:Tryz.prog.cellsOf 344=1:=by kernel_rfl
theorem aWQ:Tryz.prog.cellsOf 511=64:=by kernel_rfl
theorem aLa:Tryz.prog.cellsOf 71=3:=by kernel_rfl
theorem aFc:Tryz.prog.cellsOf 5=1:=by kernel_rfl
theorem aA5:Tryz.prog.cellsOf 9=1:=by kernel_rfl
theorem aWN:Tryz.prog.cellsOf 27=11:=by kernel_rfl
theorem aFb:Tryz.prog.cellsOf 3=1:=by kernel_rfl
theorem aWJ:Tryz.prog.cellsOf 22=1:=by kernel_rfl
theorem aWI:Tryz.prog.bytesOf 71=40:=by kernel_rfl
theorem aWP:Tryz.prog.cellsOf 4=1:=by kernel_rfl
theorem aWK:Tryz.prog.cellsOf 23=1:=by kernel_rfl
theorem aWL:Tryz.prog.cellsOf 24=1:=by kernel_rfl
theorem aWG:Tryz.prog.bytesOf 3=8:=by kernel_rfl
theorem aWM:Tryz.prog.cellsOf 25=1:=by kernel_rfl
theorem aWH:Tryz.prog.bytesOf 5=1:=by kernel_rfl
theorem gC:Tryz.prog.globalNamed "tantalus/sha.constants" = some 6:=by kernel_rfl
theorem gCT:(Tryz.prog.globals[6]?).map (·.type)=some 511:=by kernel_rfl
def aIM:List Int:=[1116352408,1899447441,3049323471,3921009573,961987163,1508970993,2453635748,2870763221,3624381080,310598401,607225278,1426881987,1925078388,2162078206,2614888103,3248222580,3835390401,4022224774,264347078,604807628,770255983,1249150122,1555081692,1996064986,2554220882,2821834349,2952996808,3210313671,3336571891,3584528711,113926993,338241895,666307205,773529912,1294757372,1396182291,1695183700,1986661051,2177026350,2456956037,2730485921,2820302411,3259730800,3345764771,3516065817,3600352804,4094571909,275423344,430227734,506948616,659060556,883997877,958139571,1322822218,1537002063,1747873779,1955562222,2024104815,2227730452,2361852424,2428436474,2756734187,3204031479,3329325298]
theorem aQM:∀ j,j<64→aIM.getD j 0=((kW j).toNat:Int):=by decide
theorem aUW {W:World} {rest:List (String×DataW Unit)} (h:laidMet Tryz.prog (("tantalus/sha.constants",Rows.laid_tantalus_sha_constants) :: rest) W):RdNP (fun b=>W.heap[b]?) 6 0 (wa 64 kW) :=
 aUX (Lib.tabIs_of_head (zs:=aIM) (rest:=rest) gC gCT Tryz.underlying511 Tryz.underlying344 aWO aWQ h) gC rfl aQM
def aQL:Array Value:=#[.int .u32 1116352408,.int .u32 1899447441,.int .u32 3049323471,.int .u32 3921009573,.int .u32 961987163,.int .u32 1508970993,.int .u32 2453635748,.int .u32 2870763221,.int .u32 3624381080,.int .u32 310598401,.int .u32 607225278,.int .u32 1426881987,.int .u32 1925078388,.int .u32 2162078206,.int .u32 2614888103,.int .u32 3248222580,.int .u32 3835390401,.int .u32 4022224774,.int .u32 264347078,.int .u32 604807628,.int .u32 770255983,.int .u32 1249150122,.int .u32 1555081692,.int .u32 1996064986,.int .u32 2554220882,.int .u32 2821834349,.int .u32 2952996808,.int .u32 3210313671,.int .u32 3336571891,.int .u32 3584528711,.int .u32 113926993,.int .u32 338241895,.int .u32 666307205,.int .u32 773529912,.int .u32 1294757372,.int .u32 1396182291,.int .u32 1695183700,.int .u32 1986661051,.int .u32 2177026350,.int .u32 2456956037,.int .u32 2730485921,.int .u32 2820302411,.int .u32 3259730800,.int .u32 3345764771,.int .u32 3516065817,.int .u32 3600352804,.int .u32 4094571909,.int .u32 275423344,.int .u32 430227734,.int .u32 506948616,.int .u32 659060556,.int .u32 883997877,.int .u32 958139571,.int .u32 1322822218,.int .u32 1537002063,.int .u32 1747873779,.int .u32 1955562222,.int .u32 2024104815,.int .u32 2227730452,.int .u32 2361852424,.int .u32 2428436474,.int .u32 2756734187,.int .u32 3204031479,.int .u32 3329325298]
def setO:Obj→Obj
 | .cells _ t frozen=>.cells aQL t frozen
 | o=>o
noncomputable def aEU (os:Os):World :=
 { World.holding Tryz.prog os ⟨#[], #[],[]⟩ with heap:=(World.holding Tryz.prog os ⟨#[], #[],[]⟩).heap.modify 6 setO }
theorem aUB {cs:List Value} (hl:cs.length=3) {a0 a1 a2:Value} (h0:(cs.drop 0).take 1=[a0]) (h1:(cs.drop 1).take 1=[a1]) (h2:(cs.drop 2).take 1=[a2]):cs=[a0,a1,a2]:=by
 match cs,hl with
 | [q0,q1,q2],_=>simp at h0 h1 h2; rw [h0,h1,h2]
theorem aUA {cs:List Value} (hl:cs.length=11) {a0 a1 a2 a3 a4 a5 a6 a7 a8 a9 a10:Value} (h0:(cs.drop 0).take 1=[a0]) (h1:(cs.drop 1).take 1=[a1]) (h2:(cs.drop 2).take 1=[a2]) (h3:(cs.drop 3).take 1=[a3]) (h4:(cs.drop 4).take 1=[a4]) (h5:(cs.drop 5).take 1=[a5]) (h6:(cs.drop 6).take 1=[a6]) (h7:(cs.drop 7).take 1=[a7]) (h8:(cs.drop 8).take 1=[a8]) (h9:(cs.drop 9).take 1=[a9]) (h10:(cs.drop 10).take 1=[a10]):cs=[a0,a1,a2,a3,a4,a5,a6,a7,a8,a9,a10]:=by
 match cs,hl with
 | [q0,q1,q2,q3,q4,q5,q6,q7,q8,q9,q10],_=>simp at h0 h1 h2 h3 h4 h5 h6 h7 h8 h9 h10; rw [h0,h1,h2,h3,h4,h5,h6,h7,h8,h9,h10]
section
variable {H:Type} {R:Nat} {enc:TypeId×Value→H} {W:World} {cs:List Value}
theorem aST (h:Rg R enc Tryz.prog W 71 cs):∃ o:Opn,cs=o.cells∧True:=by
 have hl:=h.len Tryz.underlying71
 rw [aLa] at hl
 obtain ⟨a,ha⟩:=(h.fld Tryz.underlying71 0 5 0 rfl aFc).uw rfl Tryz.underlying5
 obtain ⟨b,hb,_⟩:=(h.fld Tryz.underlying71 1 9 1 rfl aA5).str Tryz.underlying9
 obtain ⟨c,hc,_⟩:=(h.fld Tryz.underlying71 2 9 2 rfl aA5).str Tryz.underlying9
 exact ⟨⟨a,b,c⟩,aUB hl ha hb hc,trivial⟩
theorem aPS (hR:R≤140737488351232) (h:Rg R enc Tryz.prog W 27 cs):∃ (e:EvD) (vo:Value) (hk hb:Sh) (keep:List Int) (bs:List Y),cs=EvD.cells e vo (hk.val keep.length) (hb.val bs.length)∧vo.oneCell'=true∧SlR (fun b=>W.heap[b]?) 1 xA hk keep∧keep.length≤140737488355328∧SlR (fun b=>W.heap[b]?) 1 aN hb bs∧bs.length≤140737488355328:=by
 have hl:=h.len Tryz.underlying27
 rw [aWN] at hl
 obtain ⟨a0,h0⟩:=(h.fld Tryz.underlying27 0 5 0 rfl aFc).uw rfl Tryz.underlying5
 obtain ⟨a1,h1,_⟩:=(h.fld Tryz.underlying27 1 3 1 rfl aFb).int Tryz.underlying3
 obtain ⟨h2d,l2,h2,_⟩:=(h.fld Tryz.underlying27 2 22 2 rfl aWJ).sl Opn.cells (fun _=>True) Tryz.underlying22 aLa (by decide) aWI (fun cs' h'=>aST h')
 obtain ⟨a3,h3⟩:=(h.fld Tryz.underlying27 3 4 3 rfl aWP).bool Tryz.underlying4
 obtain ⟨a4,h4,_⟩:=(h.fld Tryz.underlying27 4 9 4 rfl aA5).str Tryz.underlying9
 obtain ⟨a5,h5,_⟩:=(h.fld Tryz.underlying27 5 9 5 rfl aA5).str Tryz.underlying9
 obtain ⟨a6,h6⟩:=(h.fld Tryz.underlying27 6 23 6 rfl aWK).uw rfl Tryz.underlying23
 obtain ⟨a7,h7,_⟩:=(h.fld Tryz.underlying27 7 3 7 rfl aFb).int Tryz.underlying3
 obtain ⟨hk,keep,h8,s8,c8,_⟩:=(h.fld Tryz.underlying27 8 24 8 rfl aWL).sl xA (fun _=>True) Tryz.underlying24 aFb (by decide) aWG (fun cs' h'=>by obtain ⟨n,hn,_⟩:=h'.int Tryz.underlying3; exact ⟨n,hn,trivial⟩)
 obtain ⟨a9,h9,_⟩:=(h.fld Tryz.underlying27 9 9 9 rfl aA5).str Tryz.underlying9
 obtain ⟨hb,bs,h10,s10,c10,l10⟩:=(h.fld Tryz.underlying27 10 25 10 rfl aWM).bsl Tryz.underlying25 Tryz.underlying5 aFc aWH
 have hk8:=s8.le
 exact ⟨⟨a0,a1,[],a3,bts a4,bts a5,a6,a7,[],bts a9,[]⟩,_,hk,hb,keep,bs,aUA hl h0 h1 h2 h3 h4 h5 h6 h7 h8 h9 h10,rfl,s8,by omega,s10,by omega⟩
theorem aNX {t:TypeId} {fs:Array Field} {base:Nat} {v:Value} (ht:Tryz.prog.underlying t=some (.struct fs)) (h:Value.okWide Tryz.prog W .any base t v) {l:List Value} (hl:v.cells.toList=l):v=.agg l.toArray:=by
 unfold Value.okWide at h
 rw [ht] at h
 obtain ⟨c,rfl,_⟩:=h
 rw [← hl]; rfl
end
theorem aUq:ownKnob Tryz.prog.godebug=none:=by kernel_rfl
theorem aKU:laidOutB Tryz.prog=true:=by kernel_rfl
theorem aUr:mapsRowed Tryz.prog=true:=by kernel_rfl
theorem aUp:(Rows.worldClosedRow.plainKeys == Tryz.prog.plainKeys)=true:=by kernel_rfl
theorem aUo:Tryz.prog.stopsHeard=true:=by kernel_rfl
theorem aUn:Tryz.prog.mayEnter=true:=by kernel_rfl
theorem eI {a b:Bool} (h:a=true) (k:b=true):(a&&b)=true:=by rw [h,k]; rfl
theorem aFd:jO Tryz.prog 3 206=some .u64:=by kernel_rfl
theorem zA:aL Tryz.prog 228=true:=by kernel_rfl
theorem xW (x:W) (k:Int) (G:PM):Ct Tryz.prog 228 ([U x,.int .i64 k]:List Value).toArray G [] (fun _ μ' u=>μ'=[]∧u=U (aJq x k)):=by
 refine Ct.of Tryz.func228 rfl Tryz.ntmps228 rfl fun w0 hs0=>?_
 refine .g (ci rfl .no rfl aFd (.u rfl) ?_)
 refine bw (k:=.u64) (b:=31#64) rfl .no rfl (.u rfl) (.u rfl) rfl (.g (lw (k:=.u32) rfl .no rfl (.u rfl) (.u rfl) (fun _=>Int.natCast_nonneg _) ?_))
 refine .p (bw (k:=.u64) (a:=32#64) rfl .no rfl (.u rfl) (.u rfl) rfl (oO (k:=.u32) rfl .no (.u rfl) (.u rfl) (fun _=>Int.natCast_nonneg _) ?_))
 refine bw (k:=.u32) rfl .no rfl (.u rfl) (.u rfl) rfl (aS rfl rfl (.nc (.ret (aK Tryz.results228 (.tmp rfl .nil) ?_))))
 exact ⟨rfl,rfl⟩
theorem aAU (a b c d:W) (G:PM):Ct Tryz.prog 392 ([U a,U b,U c,U d]:List Value).toArray G [] (fun _ μ' u=>μ'=[]∧u=aRI (xN a b c d)):=by
 refine Ct.of Tryz.func392 rfl Tryz.ntmps392 rfl fun w0 hs0=>?_
 refine .g (bw (k:=.u32) rfl .no rfl (.u rfl) (.u rfl) rfl (.g (bw (k:=.u32) rfl .no rfl (.u rfl) (.u rfl) rfl (kV rfl zA (aB rfl (aB rfl aF)) (xW _ _ _) ?_))))
 refine .g (bw (k:=.u32) rfl .no rfl (.u rfl) (.u rfl) rfl (.g (bw (k:=.u32) rfl .no rfl (.u rfl) (.u rfl) rfl (kV rfl zA (aB rfl (aB rfl aF)) (xW _ _ _) ?_))))
 refine .g (bw (k:=.u32) rfl .no rfl (.u rfl) (.u rfl) rfl (.g (bw (k:=.u32) rfl .no rfl (.u rfl) (.u rfl) rfl (kV rfl zA (aB rfl (aB rfl aF)) (xW _ _ _) ?_))))
 refine .g (bw (k:=.u32) rfl .no rfl (.u rfl) (.u rfl) rfl (.g (bw (k:=.u32) rfl .no rfl (.u rfl) (.u rfl) rfl (kV rfl zA (aB rfl (aB rfl aF)) (xW _ _ _) ?_))))
 refine aS rfl rfl (.nc (.seq (rq8 rfl rfl (mV rfl rfl (mV rfl rfl (mV rfl rfl (mV rfl rfl (aS rfl rfl (aS rfl rfl (aS rfl rfl (aS rfl rfl (.nc (.ret (aK Tryz.results392 (.tmp rfl (.tmp rfl (.tmp rfl (.tmp rfl .nil)))) ?_))))))))))))))
 exact ⟨rfl,rfl⟩
theorem aMe:bJ Tryz.prog 505=some (344,1,4):=by kernel_rfl
theorem aXt:(bJ Tryz.prog 505).isSome=true:=by kernel_rfl
theorem aY:Tryz.prog.follows .mixedOrders=true:=by kernel_rfl
theorem dF:bT Tryz.prog 344=some none:=by kernel_rfl
theorem aP:bJ Tryz.prog 25=some (5,1,1):=by kernel_rfl
theorem bM:bT Tryz.prog 5=some none:=by kernel_rfl
theorem aFe:jO Tryz.prog 5 344=some .u32:=by kernel_rfl
theorem fM:cE Tryz.prog 344=some 1:=by kernel_rfl
theorem wL:dV Tryz.prog 470=some (ba 64 (fun _=>0#8)):=by kernel_rfl
theorem aWA:cT Tryz.prog 503 [0,1,2,3]=some ([.int .u32 0,.int .u32 0,.int .u32 0,.int .u32 0,.int .u32 0,.int .u32 0,.int .u32 0,.int .u32 0,.int .u32 0,.int .u32 0,.int .u32 0,.int .u32 0,.int .u32 0,.int .u32 0,.int .u32 0,.int .u32 0],[(0,1),(1,1),(2,1),(3,1)]):=by kernel_rfl
theorem aMx:dV Tryz.prog 503=some ([.int .u32 0,.int .u32 0,.int .u32 0,.int .u32 0,.int .u32 0,.int .u32 0,.int .u32 0,.int .u32 0,.int .u32 0,.int .u32 0,.int .u32 0,.int .u32 0,.int .u32 0,.int .u32 0,.int .u32 0,.int .u32 0]):=by kernel_rfl
theorem aMo:cE Tryz.prog 503=some 16:=by kernel_rfl
theorem cZ:fH Tryz.prog 503=some (16,344,1):=by kernel_rfl
theorem aCx:fH Tryz.prog 33=some (32,5,1):=by kernel_rfl
theorem aMQ:aL Tryz.prog 391=true:=by kernel_rfl
theorem aVm:fH Tryz.prog 404=some (12,5,1):=by kernel_rfl
theorem aVj:bT Tryz.prog 503=some (some 16):=by kernel_rfl
theorem aBO:aL Tryz.prog 392=true:=by kernel_rfl
theorem aLc:jO Tryz.prog 344 5=some .u8:=by kernel_rfl
theorem jW:fH Tryz.prog 470=some (64,5,1):=by kernel_rfl
theorem mZ:cE Tryz.prog 5=some 1:=by kernel_rfl
theorem fR:bT Tryz.prog 470=some (some 64):=by kernel_rfl
theorem jY:cE Tryz.prog 470=some 64:=by kernel_rfl
theorem aK5 (y:Nat→W) (f:Nat→Y) (m bt bk off n cap kn:Nat) (T T2:TypeId) (G:PM) (hm:off+n≤m) (hk4:4*n≤kn) (hn:n≤1000):Ct Tryz.prog 391 ([(Sh.mk (some ⟨bt,off,none⟩) cap).val n,(Sh.mk (some ⟨bk,0,none⟩) kn).val kn]:List Value).toArray G ([.blk bt (cl (wa m y) T),.blk bk (cl (ba kn f) T2)]:aG) (fun G' μ' u=>μ'=[.blk bt (cl (wa m (kQ y f off n)) T),.blk bk (cl (ba kn f) T2)]∧u=.tuple #[]):=by
 refine Ct.of Tryz.func391 rfl Tryz.ntmps391 rfl fun w0 hs0=>?_
 refine .g (lE rfl aXt rfl (mV rfl rfl (.nc (.block ?_))))
 refine aX (α:=Nat) (fun i=>[(8,true,.int .i64 (i:Int))]) (fun i=>[.blk bt (cl (wa m (kQ y f off i)) T)])
  (fun i Gl=>i≤n) (fun i=>n-i) 0 [(0,true,_),(1,true,_),(7,true,_)] [.blk bk _]
  (aA rfl (aA rfl (aA rfl (aA rfl eZ))))
  (mS .here rfl (mS .here rfl mN)) ?_ ?_
 ·show 0≤n; omega
 intro i N0 Gl0 hN0 hGl0 hF0
 try dsimp only at hF0 hN0 ⊢
 have hi:i≤n:=hF0
 refine .g (cP rfl rfl rfl rfl (.g (cD rfl (fun c1=>?_) (fun c1=>?_))))
 ·have c1k:=c1
  try simp only [aD] at c1
  refine .skip (.code (.seq (.block (.seq (bB rfl rfl (mV rfl rfl (aS rfl rfl (.nc (.seq (aQ rfl rfl (aS rfl rfl (.nc (.block ?_)))))))))))))
  refine aX (α:=Nat) (fun c=>[(5,true,.int .i64 (3-(c:Int)))]) (fun c=>[.blk bt (cl (wa m (bG (kQ y f off i) (off+i) (oQ (kQ y f off i (off+i)) f i c))) T)])
   (fun c Gl=>c≤4) (fun c=>4-c) 0 [(0,true,_),(1,true,_),(4,true,_),(7,true,_),(8,true,_)] [.blk bk _]
   (aA rfl (aA rfl (aA rfl (aA rfl (aA rfl (aA rfl eZ))))))
   (mS .here aVU (mS .here rfl mN)) ?_ ?_
  ·show 0≤4; omega
  intro c N1 Gl1 hN1 hGl1 hF1
  try dsimp only at hF1 hN1 ⊢
  have hc:c≤4:=hF1
  refine .g (cP rfl rfl rfl rfl (.g (cD rfl (fun c2=>?_) (fun c2=>?_))))
  ·have c2k:=c2
   try simp only [aD] at c2
   refine .g (bO (mc:=⟨false,false⟩) [0,1,2,3,4,5,6,7,8,9,10,11,12,13,14,15,16,17] aY (by kernel_rfl) ?_)
   refine mV rfl rfl (mV rfl rfl (mV rfl rfl (mV rfl rfl (ih rfl .no aMe (.u rfl) (.u rfl) (by omega) (by omega) (fun _=>rfl) ?_))))
   refine lO rfl dF rfl .here (dA (off+i) (by show off+_*1=off+i; omega) (by omega)) ?_
   refine lw (k:=.u32) rfl .no rfl (.u rfl) (.u rfl) (fun _=>by decide) ?_
   refine .p (aR rfl rfl rfl rfl ?_)
   refine .p (aR rfl rfl rfl rfl ?_)
   refine ih rfl .no aP (.u rfl) (.u rfl) (by omega) (by omega) (fun _=>rfl) ?_
   refine lO rfl bM rfl aC (gA (4*i+(3-c)) (by show 0+_*1=_; omega) (by omega)) ?_
   refine cu (k:=.u8) rfl .no rfl aFe (.u rfl) ?_
   refine bw (k:=.u32) rfl .no rfl (.u rfl) (.u rfl) rfl (ih rfl .no aMe (.u rfl) (.u rfl) (by omega) (by omega) (fun _=>rfl) ?_)
   refine s1 rfl (.u rfl) (.u rfl) rfl fM .here (by rw [cC]; show off+_*1<m; omega) (dR (off+i) (by show off+_*1=off+i; omega)) ?_
   refine .g (aR rfl rfl rfl rfl ?_)
   refine .g (aU (c+1) ?_ ?_ ?_ ?_ ?_)
   ·exact (eJ rfl (congrArg _ (by omega)) (aA rfl (aA rfl (aA rfl (aA rfl (aA rfl eZ))))))
   ·exact (mS .here (aVV (by rw [yG]; rfl)) (mS .here rfl mN))
   ·first|omega|(dsimp only; omega)
   ·exact hGl1
   show c+1≤4; omega
  have c2k:=c2
  try simp only [aD] at c2
  refine .g (aR rfl rfl rfl rfl ?_)
  refine .g (aU (i+1) ?_ ?_ ?_ ?_ ?_)
  ·exact (aA rfl (aA rfl (aA rfl (aA rfl eZ))))
  ·exact (mS .here (aVT (by omega)) (mS .here rfl mN))
  ·first|omega|(dsimp only; omega)
  ·exact hGl0.trans hGl1
  show i+1≤n; omega
 have c1k:=c1
 try simp only [aD] at c1
 refine .g (bD Tryz.results391 .nil (mS .here rfl (mS .here rfl mN)) ?_)
 obtain rfl:i=n:=by omega
 exact ⟨rfl,rfl⟩
theorem aLC (key nonce:Nat→Y) (count:W) (G:PM):Ct Tryz.prog 380 ([.agg (ba 32 key).toArray,.agg (ba 12 nonce).toArray,U count]:List Value).toArray G [] (fun _ μ' u=>μ'=[]∧u=.agg (ba 64 (qQ key nonce count)).toArray):=by
 refine Ct.of Tryz.func380 rfl Tryz.ntmps380 rfl fun w0 hs0=>?_
 refine .seq (dP rfl rfl ?_)
 refine bX rfl rfl rfl ?_; intro b3
 refine bX rfl rfl rfl ?_; intro b4
 refine al rfl wL ?_; intro b6
 refine .g (bC rfl .no aWA (.cons (.u rfl) rfl (.cons (.u rfl) rfl (.cons (.u rfl) rfl (.cons (.u rfl) rfl .nil)))) rfl ?_)
 refine al rfl aMx ?_; intro b7
 refine sw rfl (.u rfl) (.u rfl) rfl aMo .here rfl (by decide) ?_
 refine .g (bO (mc:=⟨true,false⟩) [0,1,2] aY (by kernel_rfl) ?_)
 refine sab rfl .no cZ (.u rfl) (.u rfl) (.u rfl) (fun _=>by decide) (fun _=>by decide) (fun _=>by decide) (fun _=>by decide) ?_
 refine pQ rfl .no aCx (.u rfl) (ka rfl (.inl rfl) aMQ (aB rfl (aB rfl aF)) (aKO .here aI) (aK5 (x0) key 16 b7 b3 4 8 12 32 503 33 _ (by decide) (by decide) (by decide)) ?_)
 rintro u G2 μ2 hG2 ⟨rfl,rfl⟩
 simp only [cS,List.cons_append,List.nil_append,aE4,aE5]
 refine .g (iW rfl cZ rfl rfl ?_)
 refine s1 rfl (.u rfl) (.u rfl) rfl fM .here (by rw [cC]; decide) (dR 12 rfl) ?_
 refine .g (bO (mc:=⟨true,false⟩) [0,1,2] aY (by kernel_rfl) ?_)
 refine sal rfl .no cZ (.u rfl) (.u rfl) (fun _=>by decide) (fun _=>by decide) ?_
 refine pQ rfl .no aVm (.u rfl) (ka rfl (.inl rfl) aMQ (aB rfl (aB rfl aF)) (aKO .here aI) (aK5 (bG (x1 key 8) 12 count) nonce 16 b7 b4 13 3 3 12 503 404 _ (by decide) (by decide) (by decide)) ?_)
 rintro u G2 μ2 hG2 ⟨rfl,rfl⟩
 simp only [cS,List.cons_append,List.nil_append,aE4,aE5]
 refine .g (lB rfl aVj rfl .here ?_)
 refine al rfl aMx ?_; intro b8
 refine sw rfl (.u rfl) (.u rfl) rfl aMo .here rfl (tO _ _) ?_
 refine .nil (.code (.seq (.seq (aQ rfl rfl (mV rfl rfl (.nc (.block ?_)))))))
 refine aX (α:=Nat) (fun r=>[(24,true,.int .i64 (r:Int))]) (fun r=>[.blk b8 (cl (wa 16 (vG (x2 key nonce count 3) r)) 503)])
  (fun r Gl=>r≤10) (fun r=>10-r) 0 [(6,true,_),(7,true,_),(8,true,_)] [.blk b7 _,.blk b4 _,.blk b3 _,.blk b6 _]
  (aA rfl (aA rfl (aA rfl (aA rfl eZ))))
  (mS .here rfl (mS .here rfl (mS .here rfl (mS .here rfl (mS .here rfl mN))))) ?_ ?_
 ·show 0≤10; omega
 intro r N0 Gl0 hN0 hGl0 hF0
 try dsimp only at hF0 hN0 ⊢
 have hr:r≤10:=hF0
 refine .g (cP rfl rfl rfl rfl (.g (cD rfl (fun c1=>?_) (fun c1=>?_))))
 ·have c1k:=c1
  try simp only [aD] at c1
  refine .skip (.code (.seq (.block (.seq (.seq (aQ rfl rfl (mV rfl rfl (.nc (.block ?_)))))))))
  refine aX (α:=Nat) (fun q=>[(26,true,.int .i64 (q:Int))]) (fun q=>[.blk b8 (cl (wa 16 (aBo (vG (x2 key nonce count 3) r) q)) 503)])
   (fun q Gl=>q≤4) (fun q=>4-q) 0 [(6,true,_),(7,true,_),(8,true,_),(24,true,_)] [.blk b7 _,.blk b4 _,.blk b3 _,.blk b6 _]
   (aA rfl (aA rfl (aA rfl (aA rfl (aA rfl eZ)))))
   (mS .here rfl (mS .here rfl (mS .here rfl (mS .here rfl (mS .here rfl mN))))) ?_ ?_
  ·show 0≤4; omega
  intro q N1 Gl1 hN1 hGl1 hF1
  try dsimp only at hF1 hN1 ⊢
  have hq:q≤4:=hF1
  refine .g (cP rfl rfl rfl rfl (.g (cD rfl (fun c2=>?_) (fun c2=>?_))))
  ·have c2k:=c2
   try simp only [aD] at c2
   refine .g (bO (mc:=⟨false,false⟩) [0,1,2,3,4,5,6,7,8,9,10,11,12,13,14,15,16,17,18,19,20,21,22,23,24,25,26,27,28,29,30,31,32,33,34,35] aY (by kernel_rfl) ?_)
   refine .p (aR rfl rfl rfl rfl ?_)
   refine .p (aR rfl rfl rfl rfl ?_)
   refine .p (aR rfl rfl rfl rfl ?_)
   refine .p (iW rfl cZ rfl rfl ?_)
   refine lO rfl dF rfl .here (dA q (by omega) (by omega)) ?_
   refine .p (aR rfl rfl rfl rfl ?_)
   refine iW rfl cZ rfl rfl ?_
   refine lO rfl dF rfl .here (dA (4+q) (by omega) (by omega)) ?_
   refine .p (aR rfl rfl rfl rfl ?_)
   refine iW rfl cZ rfl rfl ?_
   refine lO rfl dF rfl .here (dA (8+q) (by omega) (by omega)) ?_
   refine .p (aR rfl rfl rfl rfl ?_)
   refine iW rfl cZ rfl rfl ?_
   refine lO rfl dF rfl .here (dA (12+q) (by omega) (by omega)) ?_
   refine kV rfl aBO (aB rfl (aB rfl (aB rfl (aB rfl aF)))) (aAU _ _ _ _ _) ?_
   refine .p (eX rfl rfl rfl (eX rfl rfl rfl (eX rfl rfl rfl (eX rfl rfl rfl (iW rfl cZ rfl rfl ?_)))))
   refine s1 rfl (.u rfl) (.u rfl) rfl fM .here (by rw [cC]; omega) (dR q (by omega)) ?_
   refine iW rfl cZ rfl rfl ?_
   refine s1 rfl (.u rfl) (.u rfl) rfl fM .here (by rw [cC]; omega) (dR (4+q) (by omega)) ?_
   refine iW rfl cZ rfl rfl ?_
   refine s1 rfl (.u rfl) (.u rfl) rfl fM .here (by rw [cC]; omega) (dR (8+q) (by omega)) ?_
   refine iW rfl cZ rfl rfl ?_
   refine s1 rfl (.u rfl) (.u rfl) rfl fM .here (by rw [cC]; omega) (dR (12+q) (by omega)) ?_
   refine .g (aR rfl rfl rfl rfl ?_)
   refine .g (aU (q+1) ?_ ?_ ?_ ?_ ?_)
   ·exact (aA rfl (aA rfl (aA rfl (aA rfl (aA rfl eZ)))))
   ·exact (mS .here rfl (mS .here rfl (mS .here rfl (mS .here rfl (mS .here rfl mN)))))
   ·first|omega|(dsimp only; omega)
   ·exact hGl1
   show q+1≤4; omega
  have c2k:=c2
  try simp only [aD] at c2
  refine .exit (.xcode (.xlp (.xblk (.code (.seq (Wk.rg [0,1,2,3,4,5,6,7,8,9,10,11,12,13,14,15,16,17,18,19,20,21] rfl rfl ?_))))))
  obtain rfl:q=4:=by omega
  simp only [aHB (vG (x2 key nonce count 3) r) 4 (Nat.le_refl 4)]
  refine iW rfl cZ rfl rfl ?_
  refine lO rfl dF rfl .here (dA 0 rfl (by decide)) ?_
  refine iW rfl cZ rfl rfl ?_
  refine lO rfl dF rfl .here (dA 5 rfl (by decide)) ?_
  refine iW rfl cZ rfl rfl ?_
  refine lO rfl dF rfl .here (dA 10 rfl (by decide)) ?_
  refine iW rfl cZ rfl rfl ?_
  refine lO rfl dF rfl .here (dA 15 rfl (by decide)) ?_
  refine kV rfl aBO (aB rfl (aB rfl (aB rfl (aB rfl aF)))) (aAU _ _ _ _ _) ?_
  refine .p (eX rfl rfl rfl (eX rfl rfl rfl (eX rfl rfl rfl (eX rfl rfl rfl (iW rfl cZ rfl rfl ?_)))))
  refine s1 rfl (.u rfl) (.u rfl) rfl fM .here (by rw [cC]; decide) (dR 0 rfl) ?_
  refine iW rfl cZ rfl rfl ?_
  refine s1 rfl (.u rfl) (.u rfl) rfl fM .here (by rw [cC]; decide) (dR 5 rfl) ?_
  refine iW rfl cZ rfl rfl ?_
  refine s1 rfl (.u rfl) (.u rfl) rfl fM .here (by rw [cC]; decide) (dR 10 rfl) ?_
  refine iW rfl cZ rfl rfl ?_
  refine s1 rfl (.u rfl) (.u rfl) rfl fM .here (by rw [cC]; decide) (dR 15 rfl) ?_
  refine .g (iW rfl cZ rfl rfl ?_)
  refine lO rfl dF rfl .here (dA 1 rfl (by decide)) ?_
  refine iW rfl cZ rfl rfl ?_
  refine lO rfl dF rfl .here (dA 6 rfl (by decide)) ?_
  refine iW rfl cZ rfl rfl ?_
  refine lO rfl dF rfl .here (dA 11 rfl (by decide)) ?_
  refine iW rfl cZ rfl rfl ?_
  refine lO rfl dF rfl .here (dA 12 rfl (by decide)) ?_
  refine kV rfl aBO (aB rfl (aB rfl (aB rfl (aB rfl aF)))) (aAU _ _ _ _ _) ?_
  refine .p (eX rfl rfl rfl (eX rfl rfl rfl (eX rfl rfl rfl (eX rfl rfl rfl (iW rfl cZ rfl rfl ?_)))))
  refine s1 rfl (.u rfl) (.u rfl) rfl fM .here (by rw [cC]; decide) (dR 1 rfl) ?_
  refine iW rfl cZ rfl rfl ?_
  refine s1 rfl (.u rfl) (.u rfl) rfl fM .here (by rw [cC]; decide) (dR 6 rfl) ?_
  refine iW rfl cZ rfl rfl ?_
  refine s1 rfl (.u rfl) (.u rfl) rfl fM .here (by rw [cC]; decide) (dR 11 rfl) ?_
  refine iW rfl cZ rfl rfl ?_
  refine s1 rfl (.u rfl) (.u rfl) rfl fM .here (by rw [cC]; decide) (dR 12 rfl) ?_
  refine .g (iW rfl cZ rfl rfl ?_)
  refine lO rfl dF rfl .here (dA 2 rfl (by decide)) ?_
  refine iW rfl cZ rfl rfl ?_
  refine lO rfl dF rfl .here (dA 7 rfl (by decide)) ?_
  refine iW rfl cZ rfl rfl ?_
  refine lO rfl dF rfl .here (dA 8 rfl (by decide)) ?_
  refine iW rfl cZ rfl rfl ?_
  refine lO rfl dF rfl .here (dA 13 rfl (by decide)) ?_
  refine kV rfl aBO (aB rfl (aB rfl (aB rfl (aB rfl aF)))) (aAU _ _ _ _ _) ?_
  refine .p (eX rfl rfl rfl (eX rfl rfl rfl (eX rfl rfl rfl (eX rfl rfl rfl (iW rfl cZ rfl rfl ?_)))))
  refine s1 rfl (.u rfl) (.u rfl) rfl fM .here (by rw [cC]; decide) (dR 2 rfl) ?_
  refine iW rfl cZ rfl rfl ?_
  refine s1 rfl (.u rfl) (.u rfl) rfl fM .here (by rw [cC]; decide) (dR 7 rfl) ?_
  refine iW rfl cZ rfl rfl ?_
  refine s1 rfl (.u rfl) (.u rfl) rfl fM .here (by rw [cC]; decide) (dR 8 rfl) ?_
  refine iW rfl cZ rfl rfl ?_
  refine s1 rfl (.u rfl) (.u rfl) rfl fM .here (by rw [cC]; decide) (dR 13 rfl) ?_
  refine .g (iW rfl cZ rfl rfl ?_)
  refine lO rfl dF rfl .here (dA 3 rfl (by decide)) ?_
  refine iW rfl cZ rfl rfl ?_
  refine lO rfl dF rfl .here (dA 4 rfl (by decide)) ?_
  refine iW rfl cZ rfl rfl ?_
  refine lO rfl dF rfl .here (dA 9 rfl (by decide)) ?_
  refine iW rfl cZ rfl rfl ?_
  refine lO rfl dF rfl .here (dA 14 rfl (by decide)) ?_
  refine kV rfl aBO (aB rfl (aB rfl (aB rfl (aB rfl aF)))) (aAU _ _ _ _ _) ?_
  refine .p (eX rfl rfl rfl (eX rfl rfl rfl (eX rfl rfl rfl (eX rfl rfl rfl (iW rfl cZ rfl rfl ?_)))))
  refine s1 rfl (.u rfl) (.u rfl) rfl fM .here (by rw [cC]; decide) (dR 3 rfl) ?_
  refine iW rfl cZ rfl rfl ?_
  refine s1 rfl (.u rfl) (.u rfl) rfl fM .here (by rw [cC]; decide) (dR 4 rfl) ?_
  refine iW rfl cZ rfl rfl ?_
  refine s1 rfl (.u rfl) (.u rfl) rfl fM .here (by rw [cC]; decide) (dR 9 rfl) ?_
  refine iW rfl cZ rfl rfl ?_
  refine s1 rfl (.u rfl) (.u rfl) rfl fM .here (by rw [cC]; decide) (dR 14 rfl) ?_
  refine .g (aR rfl rfl rfl rfl ?_)
  refine .g (aU (r+1) ?_ ?_ ?_ ?_ ?_)
  ·exact (aA rfl (aA rfl (aA rfl (aA rfl eZ))))
  ·exact (mS .here (congrArg (fun z=>Res.blk b8 (cl (wa 16 z) 503)) (aO3 (zV (vG (x2 key nonce count 3) r) 4))) (mS .here rfl (mS .here rfl (mS .here rfl (mS .here rfl mN)))))
  ·first|omega|(dsimp only; omega)
  ·exact hGl0.trans hGl1
  show r+1≤10; omega
 have c1k:=c1
 try simp only [aD] at c1
 refine .exit (.xcode (.xlp (.xblk (.code (.seq (aQ rfl rfl ?_))))))
 obtain rfl:r=10:=by omega
 refine al rfl wL ?_; intro b10
 refine .nil (.code (.seq (.seq (aQ rfl rfl (mV rfl rfl (.nc (.block ?_)))))))
 refine aX (α:=Nat) (fun i=>[(135,true,.int .i64 (i:Int))]) (fun i=>[.blk b10 (cl (ba 64 (gP (qQ key nonce count) (4*i))) 470)])
  (fun i Gl=>i≤16) (fun i=>16-i) 0 [(6,true,_),(7,true,_),(8,true,_),(10,true,_)] [.blk b8 _,.blk b7 _,.blk b4 _,.blk b3 _,.blk b6 _]
  (aA rfl (aA rfl (aA rfl (aA rfl (aA rfl eZ)))))
  (mS .here rfl (mS .here rfl (mS .here rfl (mS .here rfl (mS .here rfl (mS .here rfl mN)))))) ?_ ?_
 ·show 0≤16; omega
 intro i N2 Gl2 hN2 hGl2 hF2
 try dsimp only at hF2 hN2 ⊢
 have hi:i≤16:=hF2
 refine .g (cP rfl rfl rfl rfl (.g (cD rfl (fun c3=>?_) (fun c3=>?_))))
 ·have c3k:=c3
  try simp only [aD] at c3
  refine .g (bO (mc:=⟨false,false⟩) [0,1,2,3,4,5,6,7] aY (by kernel_rfl) ?_)
  refine .p (iW rfl cZ rfl rfl ?_)
  refine lO rfl dF rfl aC (dA i (by omega) (by omega)) ?_
  refine .p (iW rfl cZ rfl rfl ?_)
  refine lO rfl dF rfl aI (dA i (by omega) (by omega)) ?_
  refine bw (k:=.u32) rfl .no rfl (.u rfl) (.u rfl) rfl (aS rfl rfl (.nc (.seq (aQ rfl rfl (mV rfl rfl (.nc (.block ?_)))))))
  refine aX (α:=Nat) (fun c=>[(12,true,U (zU key nonce count i >>> (8*c))),(145,true,.int .i64 (c:Int))]) (fun c=>[.blk b10 (cl (ba 64 (gP (qQ key nonce count) (4*i+c))) 470)])
   (fun c Gl=>c≤4) (fun c=>4-c) 0 [(6,true,_),(7,true,_),(8,true,_),(10,true,_),(11,true,_),(135,true,_)] [.blk b8 _,.blk b7 _,.blk b4 _,.blk b3 _,.blk b6 _]
   (eJ rfl aT2 (aA rfl (aA rfl (aA rfl (aA rfl (aA rfl (aA rfl (aA rfl eZ))))))))
   (mS .here rfl (mS .here rfl (mS .here rfl (mS .here rfl (mS .here rfl (mS .here rfl mN)))))) ?_ ?_
  ·show 0≤4; omega
  intro c N3 Gl3 hN3 hGl3 hF3
  try dsimp only at hF3 hN3 ⊢
  have hc:c≤4:=hF3
  refine .g (cP rfl rfl rfl rfl (.g (cD rfl (fun c4=>?_) (fun c4=>?_))))
  ·have c4k:=c4
   try simp only [aD] at c4
   refine .g (aR rfl rfl rfl rfl ?_)
   refine .p (aR rfl rfl rfl rfl ?_)
   refine .p (cu (k:=.u32) rfl .no rfl aLc (.u rfl) ?_)
   refine iW rfl jW rfl rfl ?_
   refine s1 rfl (.u rfl) (.u rfl) rfl mZ .here (by rw [bP]; omega) (kY (4*i+c) (by omega)) ?_
   refine .g (oO (k:=.u32) rfl .no (.u rfl) (.u rfl) (fun _=>by decide) ?_)
   refine .g (aR rfl rfl rfl rfl ?_)
   refine .g (aU (c+1) ?_ ?_ ?_ ?_ ?_)
   ·exact (eJ rfl aT1 (aA rfl (aA rfl (aA rfl (aA rfl (aA rfl (aA rfl (aA rfl eZ))))))))
   ·exact (mS .here (aSY (by omega)) (mS .here rfl (mS .here rfl (mS .here rfl (mS .here rfl (mS .here rfl mN))))))
   ·first|omega|(dsimp only; omega)
   ·exact hGl3
   show c+1≤4; omega
  have c4k:=c4
  try simp only [aD] at c4
  refine .g (aR rfl rfl rfl rfl ?_)
  refine mV rfl rfl (.nil ?_)
  obtain rfl:c=4:=by omega
  refine aU (i+1) ?_ ?_ ?_ ?_ ?_
  ·exact (aA rfl (aA rfl (aA rfl (aA rfl (aA rfl eZ)))))
  ·exact (mS .here rfl (mS .here rfl (mS .here rfl (mS .here rfl (mS .here rfl (mS .here rfl mN))))))
  ·first|omega|(dsimp only; omega)
  ·exact hGl2.trans hGl3
  show i+1≤16; omega
 have c3k:=c3
 try simp only [aD] at c3
 refine .g (lB rfl fR rfl .here ?_)
 refine sw rfl (.u rfl) (.u rfl) rfl jY mK rfl (lX _ _) ?_
 refine .nil (.code (.ret (aK Tryz.results380 (.cell rfl (fun w hw=>bW fR (RdN.own .here) rfl hw) .nil) ?_)))
 obtain rfl:i=16:=by omega
 exact ⟨rfl,by rw [jC (fun i hi=>(kN (qQ key nonce count) hi).symm)]; rfl⟩
theorem aX2:dV Tryz.prog 511=some (wa 64 (fun _=>0#32)):=by kernel_rfl
theorem bV:(bJ Tryz.prog 25).isSome=true:=by kernel_rfl
theorem rZ:fH Tryz.prog 511=some (64,344,1):=by kernel_rfl
theorem qG:aL Tryz.prog 396=true:=by kernel_rfl
theorem nZ:aT Tryz.prog 463 0=some 0:=by kernel_rfl
theorem nV:fH Tryz.prog 461=some (8,344,1):=by kernel_rfl
theorem aLZ:cT Tryz.prog 461 [0,1,2,3,4,5,6,7]=some ([.int .u32 0,.int .u32 0,.int .u32 0,.int .u32 0,.int .u32 0,.int .u32 0,.int .u32 0,.int .u32 0],[(0,1),(1,1),(2,1),(3,1),(4,1),(5,1),(6,1),(7,1)]):=by kernel_rfl
theorem pO (x:W) (k:Nat) (G:PM) (hk:k∈[2,6,7,11,13,17,18,19,22,25]):Ct Tryz.prog 396 ([U x,.int .i64 (k:Int)]:List Value).toArray G [] (fun _ μ' u=>μ'=[]∧u=U (nP x k)):=by
 refine Ct.of Tryz.func396 rfl Tryz.ntmps396 rfl fun w0 hs0=>?_
 have hk2:k≤31:=by simp only [List.mem_cons,List.not_mem_nil,or_false] at hk; omega
 refine .g (ng rfl .no (.u rfl) (fun _=>eV (by omega) (by omega)) ?_)
 refine kV rfl zA (aB rfl (aB rfl aF)) (xW _ _ _) ?_
 refine aS rfl rfl (.nc (.ret (aK Tryz.results396 (.tmp rfl .nil) ?_)))
 exact ⟨rfl,by rw [← aTY hk]; rfl⟩
set_option maxHeartbeats 1000000 in
theorem aDq (s:Nat→W) (xs:List Y) (h:Sh) (vp nn:Value) (bs:Nat) (G:PM) (hs:SlR G 1 aN h xs) (hK:RdNP G 6 0 (wa 64 kW)) (hl:64≤xs.length):Ct Tryz.prog 383 ([.pointer (some ⟨bs,0,none⟩),h.val xs.length]:List Value).toArray G [.blk bs (cl (wa 8 s++[vp,nn]) 463)] (fun _ μ' u=>μ'=[.blk bs (cl (wa 8 (rE s (fun i=>xs.getD i 0))++[vp,nn]) 463)]∧u=.tuple #[]):=by
 refine Ct.of Tryz.func383 rfl Tryz.ntmps383 rfl fun w0 hs0=>?_
 refine .seq (aQ rfl rfl ?_)
 refine al rfl aX2 ?_; intro b4
 refine .nil (.code (.seq (.seq (aQ rfl rfl (mV rfl rfl (.nc (.block ?_)))))))
 refine aX (α:=Nat×(Nat→W)) (fun gh=>[(24,true,.int .i64 (gh.1:Int))]) (fun gh=>[.blk b4 (cl (wa 64 gh.2) 511)])
  (fun gh Gl=>(gh.1≤16)∧(gh.2=nT (fun i=>xs.getD i 0) gh.1)) (fun gh=>16-gh.1) (0,fun _=>0#32) [(0,true,_),(1,true,_),(4,true,_)] [_]
  (aM rfl (aA rfl (aA rfl (aA rfl eZ))))
  (mS .here rfl (mS .here rfl mN)) ?_ ?_
 ·refine ⟨?_,?_⟩
  ·(try dsimp only)<;>(first|omega|rfl|assumption|(simp; done))
  (try dsimp only)<;>(first|omega|rfl|assumption|(simp; done))
 intro gh N0 Gl0 hN0 hGl0 hF0
 obtain ⟨k,y⟩:=gh; dsimp only at hF0 hN0 ⊢
 obtain ⟨hk,ey⟩:=hF0
 have hs:=hs.mono hGl0
 have hK:=hK.mono hGl0
 refine .g (cP rfl rfl rfl rfl (.g (cD rfl (fun c1=>?_) (fun c1=>?_))))
 ·have c1k:=c1
  try simp only [aD,aE] at c1
  refine .g (aW (((4*k):Nat):Int) rfl rfl rfl rfl ?_)
  refine .p (aW (((4*k):Nat):Int) rfl rfl rfl rfl ?_)
  refine iF ((((4*k)+4):Nat):Int) rfl .no (.u rfl) (.u rfl) rfl (by omega) (fun _=>eV (by omega) (by omega)) ?_
  refine kS ((4*k)) (((4*k)+4)) rfl .no aP hs (.u rfl) (.u rfl) (.u rfl) (by omega) (by omega) (by omega) (by omega) ?_
  intro h33 L33 eL33 lL33 hs33
  have lL33:=lL33 rfl
  refine lE rfl bV rfl (mV rfl rfl (.nc (.block ?_)))
  refine aX (α:=Nat×(Nat→W)) (fun gh=>[(35,true,.int .i64 (gh.1:Int))]) (fun gh=>[.blk b4 (cl (wa 64 gh.2) 511)])
   (fun gh Gl=>(gh.1≤4)∧(gh.2=bG y k (shB (fun i=>xs.getD i 0) k gh.1))) (fun gh=>4-gh.1) (0,y) [(0,true,_),(1,true,_),(4,true,_),(5,true,_),(24,true,_),(33,true,_),(34,true,_)] [_]
   (aM rfl (aA rfl (aA rfl (aA rfl (aA rfl (aA rfl (aA rfl (aA rfl eZ))))))))
   (mS .here rfl (mS .here rfl mN)) ?_ ?_
  ·refine ⟨?_,?_⟩
   ·(try dsimp only)<;>(first|omega|rfl|assumption|(simp; done))
   (try dsimp only)<;>(rw [ey]; exact (aUz _ (Nat.le_refl k)).symm)
  intro gh N1 Gl1 hN1 hGl1 hF1
  obtain ⟨c,y2⟩:=gh; dsimp only at hF1 hN1 ⊢
  obtain ⟨hc,ey2⟩:=hF1
  have hK:=hK.mono hGl1
  have hs33:=hs33.mono hGl1
  refine .g (cP rfl rfl rfl rfl (.g (cD rfl (fun c2=>?_) (fun c2=>?_))))
  ·have c2k:=c2
   try simp only [aD,aE] at c2
   refine .skip (.code (.seq (.block (.seq (dP rfl rfl (ih rfl .no aP (.u rfl) (.u rfl) (by omega) (by omega) (fun _=>hs33.nn (k:=c) (by omega)) ?_))))))
   refine lN rfl bM rfl ((hs33.yat (c) (by omega) (by omega)).rd) ?_
   refine .g (iW rfl rZ rfl rfl ?_)
   refine lO rfl dF rfl .here (by first|exact dA (k) (by omega) (by omega)|exact gA (k) (by omega) (by omega)|exact gR (k) (by omega) (by omega)|rfl) ?_
   refine lw (k:=.u32) rfl .no rfl (.u rfl) (.u rfl) (fun _=>by decide) ?_
   refine .p (cu (k:=.u8) rfl .no rfl aFe (.u rfl) ?_)
   refine bw (k:=.u32) rfl .no rfl (.u rfl) (.u rfl) rfl (iW rfl rZ rfl rfl ?_)
   refine s1 rfl (.u rfl) (.u rfl) rfl fM .here (by first|decide|(simp only [cC,bP,cI]; omega)) (by first|exact dR (k) (by omega)|exact kY (k) (by omega)|exact rL (k) (by omega) (by omega)|rfl) ?_
   refine .g (aW (((c+1):Nat):Int) rfl rfl rfl rfl ?_)
   refine .g (aU (c+1,bG y2 k (y2 k <<< Int.toNat 8 ||| BitVec.setWidth 32 (L33.getD c 0))) ?_ ?_ ?_ ?_ ?_)
   ·exact (aM rfl (aA rfl (aA rfl (aA rfl (aA rfl (aA rfl (aA rfl (aA rfl eZ))))))))
   ·exact (mS .here rfl (mS .here rfl mN))
   ·first|omega|(dsimp only; omega)
   ·exact hGl1
   refine ⟨?_,?_⟩
   ·(try dsimp only)<;>(first|omega|rfl|assumption|(simp; done))
   (try dsimp only)<;>(rw [ey2,yG,aFH,shB,eL33,aPr (by omega)]; rfl)
  have c2k:=c2
  try simp only [aD,aE] at c2
  refine .g (aW (((k+1):Nat):Int) rfl rfl rfl rfl ?_)
  refine .g (aU (k+1,y2) ?_ ?_ ?_ ?_ ?_)
  ·exact (aM rfl (aA rfl (aA rfl (aA rfl eZ))))
  ·exact (mS .here rfl (mS .here rfl mN))
  ·first|omega|(dsimp only; omega)
  ·exact (hGl0).trans hGl1
  refine ⟨?_,?_⟩
  ·(try dsimp only)<;>(first|omega|rfl|assumption|(simp; done))
  (try dsimp only)<;>(obtain rfl:c=4:=(by omega); rw [ey2,ey,aTx]; rfl)
 have c1k:=c1
 try simp only [aD,aE] at c1
 refine .exit (.xcode (.xlp (.xblk (.code (.seq (.seq ?_))))))
 obtain rfl:k=16:=by omega
 refine aQ rfl rfl (aS rfl rfl (.nc (.block ?_)))
 refine aX (α:=Nat×(Nat→W)) (fun gh=>[(8,true,.int .i64 ((16+gh.1:Nat):Int))]) (fun gh=>[.blk b4 (cl (wa 64 gh.2) 511)])
  (fun gh Gl=>(gh.1≤48)∧(gh.2=nQ (fun i=>xs.getD i 0) gh.1)) (fun gh=>48-gh.1) (0,_) [(0,true,_),(4,true,_)] [_]
  (aM rfl (aA rfl (aA rfl eZ)))
  (mS .here rfl (mS .here rfl mN)) ?_ ?_
 ·refine ⟨?_,?_⟩
  ·(try dsimp only)<;>(first|omega|rfl|assumption|(simp; done))
  (try dsimp only)<;>(first|omega|rfl|assumption|(simp; done))
 intro gh N2 Gl2 hN2 hGl2 hF2
 obtain ⟨k1,y⟩:=gh; dsimp only at hF2 hN2 ⊢
 obtain ⟨hk1,ey⟩:=hF2
 have hK:=hK.mono hGl2
 refine .g (cP rfl rfl rfl rfl (.g (cD rfl (fun c3=>?_) (fun c3=>?_))))
 ·have c3k:=c3
  try simp only [aD,aE] at c3
  refine .g (bO (mc:=⟨false,false⟩) [0,1,2,3,4,5,6,7,8,9] aY (by kernel_rfl) ?_)
  refine .p (aW (((1+k1):Nat):Int) rfl rfl rfl rfl ?_)
  refine iW rfl rZ rfl rfl ?_
  refine lO rfl dF rfl .here (by first|exact dA ((1+k1)) (by omega) (by omega)|exact gA ((1+k1)) (by omega) (by omega)|exact gR ((1+k1)) (by omega) (by omega)|rfl) ?_
  refine .p (aW (((14+k1):Nat):Int) rfl rfl rfl rfl ?_)
  refine iW rfl rZ rfl rfl ?_
  refine lO rfl dF rfl .here (by first|exact dA ((14+k1)) (by omega) (by omega)|exact gA ((14+k1)) (by omega) (by omega)|exact gR ((14+k1)) (by omega) (by omega)|rfl) ?_
  refine .g (bO (mc:=⟨false,false⟩) [0,1,2,3,4,5,6,7,8,9,10,12,15,16,19,21,24,25,11,13,14,17,18,20,22,23,26,27,28,29] aY (by kernel_rfl) ?_)
  refine .p (aW ((k1:Nat):Int) rfl rfl rfl rfl ?_)
  refine iW rfl rZ rfl rfl ?_
  refine lO rfl dF rfl .here (by first|exact dA (k1) (by omega) (by omega)|exact gA (k1) (by omega) (by omega)|exact gR (k1) (by omega) (by omega)|rfl) ?_
  refine .p (aW (((9+k1):Nat):Int) rfl rfl rfl rfl ?_)
  refine iW rfl rZ rfl rfl ?_
  refine lO rfl dF rfl .here (by first|exact dA ((9+k1)) (by omega) (by omega)|exact gA ((9+k1)) (by omega) (by omega)|exact gR ((9+k1)) (by omega) (by omega)|rfl) ?_
  refine bw (k:=.u32) rfl .no rfl (.u rfl) (.u rfl) rfl (.p (oO (k:=.u32) rfl .no (.u rfl) (.u rfl) (fun _=>by decide) ?_))
  refine .p (oO (k:=.u32) rfl .no (.u rfl) (.u rfl) (fun _=>by decide) ?_)
  refine kV rfl qG (aB rfl (aB rfl aF)) (pO _ 7 _ (by decide)) ?_
  refine kV rfl qG (aB rfl (aB rfl aF)) (pO _ 18 _ (by decide)) ?_
  refine bw (k:=.u32) rfl .no rfl (.u rfl) (.u rfl) rfl (bw (k:=.u32) rfl .no rfl (.u rfl) (.u rfl) rfl (bw (k:=.u32) rfl .no rfl (.u rfl) (.u rfl) rfl (kV rfl qG (aB rfl (aB rfl aF)) (pO _ 17 _ (by decide)) ?_)))
  refine kV rfl qG (aB rfl (aB rfl aF)) (pO _ 19 _ (by decide)) ?_
  refine bw (k:=.u32) rfl .no rfl (.u rfl) (.u rfl) rfl (bw (k:=.u32) rfl .no rfl (.u rfl) (.u rfl) rfl (bw (k:=.u32) rfl .no rfl (.u rfl) (.u rfl) rfl (iW rfl rZ rfl rfl ?_)))
  refine s1 rfl (.u rfl) (.u rfl) rfl fM .here (by first|decide|(simp only [cC,bP,cI]; omega)) (by first|exact dR (((16+k1:Nat))) (by omega)|exact kY (((16+k1:Nat))) (by omega)|exact rL (((16+k1:Nat))) (by omega) (by omega)|rfl) ?_
  refine .g (iF (((((16+k1:Nat))+1):Nat):Int) rfl .no (.u rfl) (.u rfl) rfl (by omega) (fun _=>eV (by omega) (by omega)) ?_)
  refine .g (aU (k1+1,_) (aM rfl (aA rfl (aA rfl eZ))) (mS .here rfl (mS .here rfl mN)) ?_ ?_ ?_)
  ·first|omega|(dsimp only; omega)
  ·exact hGl2
  refine ⟨?_,?_⟩
  ·(try dsimp only)<;>(first|omega|rfl|assumption|(simp; done))
  (try dsimp only)<;>(rw [ey]; rfl)
 have c3k:=c3
 try simp only [aD,aE] at c3
 refine .exit (.xcode (.xlp (.xblk (.code (.seq ?_)))))
 obtain rfl:k1=48:=by omega
 refine bO (mc:=⟨false,false⟩) [0,1,2,3,4,5,6,7,8,9,10,11,12,13,14,15,16,17,18,19,20,21,22,23,24,25,26,27,28,29,30,31,32,33,34,35,36,37,38,39,40,41,42,43,44,45,46,47] aY (by kernel_rfl) ?_
 refine .p (nC rfl rfl (fZ rfl nZ rfl (iW rfl nV rfl rfl ?_)))
 refine lO rfl dF rfl aC (by first|exact dA (0) (by omega) (by omega)|exact gA (0) (by omega) (by omega)|exact gR (0) (by omega) (by omega)|rfl) ?_
 refine .p (nC rfl rfl (fZ rfl nZ rfl (iW rfl nV rfl rfl ?_)))
 refine lO rfl dF rfl aC (by first|exact dA (1) (by omega) (by omega)|exact gA (1) (by omega) (by omega)|exact gR (1) (by omega) (by omega)|rfl) ?_
 refine .p (nC rfl rfl (fZ rfl nZ rfl (iW rfl nV rfl rfl ?_)))
 refine lO rfl dF rfl aC (by first|exact dA (2) (by omega) (by omega)|exact gA (2) (by omega) (by omega)|exact gR (2) (by omega) (by omega)|rfl) ?_
 refine .p (nC rfl rfl (fZ rfl nZ rfl (iW rfl nV rfl rfl ?_)))
 refine lO rfl dF rfl aC (by first|exact dA (3) (by omega) (by omega)|exact gA (3) (by omega) (by omega)|exact gR (3) (by omega) (by omega)|rfl) ?_
 refine .p (nC rfl rfl (fZ rfl nZ rfl (iW rfl nV rfl rfl ?_)))
 refine lO rfl dF rfl aC (by first|exact dA (4) (by omega) (by omega)|exact gA (4) (by omega) (by omega)|exact gR (4) (by omega) (by omega)|rfl) ?_
 refine .p (nC rfl rfl (fZ rfl nZ rfl (iW rfl nV rfl rfl ?_)))
 refine lO rfl dF rfl aC (by first|exact dA (5) (by omega) (by omega)|exact gA (5) (by omega) (by omega)|exact gR (5) (by omega) (by omega)|rfl) ?_
 refine .p (nC rfl rfl (fZ rfl nZ rfl (iW rfl nV rfl rfl ?_)))
 refine lO rfl dF rfl aC (by first|exact dA (6) (by omega) (by omega)|exact gA (6) (by omega) (by omega)|exact gR (6) (by omega) (by omega)|rfl) ?_
 refine .p (nC rfl rfl (fZ rfl nZ rfl (iW rfl nV rfl rfl ?_)))
 refine lO rfl dF rfl aC (by first|exact dA (7) (by omega) (by omega)|exact gA (7) (by omega) (by omega)|exact gR (7) (by omega) (by omega)|rfl) ?_
 refine aS rfl rfl (aS rfl rfl (aS rfl rfl (aS rfl rfl (aS rfl rfl (aS rfl rfl (aS rfl rfl (aS rfl rfl (.nc (.seq (.seq (aQ rfl rfl (mV rfl rfl (.nc (.block ?_))))))))))))))
 refine aX (α:=Nat×(Nat→W)) (fun gh=>[(11,true,U (gh.2 0)),(12,true,U (gh.2 1)),(13,true,U (gh.2 2)),(14,true,U (gh.2 3)),(15,true,U (gh.2 4)),(16,true,U (gh.2 5)),(17,true,U (gh.2 6)),(18,true,U (gh.2 7)),(131,true,.int .i64 (gh.1:Int))]) (fun _=>[])
  (fun gh Gl=>(gh.1≤64)∧(gh.2=aCZ y s gh.1)) (fun gh=>64-gh.1) (0,s) [(0,true,_),(4,true,_)] [_,_]
  (aA rfl (aA rfl (aA rfl (aA rfl (aA rfl (aA rfl (aA rfl (aA rfl (aM rfl (aA rfl (aA rfl eZ)))))))))))
  (mS .here rfl (mS .here rfl mN)) ?_ ?_
 ·refine ⟨?_,?_⟩
  ·(try dsimp only)<;>(first|omega|rfl|assumption|(simp; done))
  (try dsimp only)<;>(first|omega|rfl|assumption|(simp; done))
 intro gh N3 Gl3 hN3 hGl3 hF3
 obtain ⟨k2,x⟩:=gh; dsimp only at hF3 hN3 ⊢
 obtain ⟨hk2,ex⟩:=hF3
 have hK:=hK.mono hGl3
 refine .g (cP rfl rfl rfl rfl (.g (cD rfl (fun c4=>?_) (fun c4=>?_))))
 ·have c4k:=c4
  try simp only [aD,aE] at c4
  refine .g (bO (mc:=⟨false,false⟩) [0,1,3,6,10,11,12,13,14,15,16,18,19,20,22,23,24,2,4,5,7,8,9,17,21,25,26] aY (by kernel_rfl) ?_)
  refine .p (bw (k:=.u32) rfl .no rfl (.u rfl) (.u rfl) rfl (bw (k:=.u32) rfl .no rfl (.u rfl) (.u rfl) rfl (bw (k:=.u32) rfl .no rfl (.u rfl) (.u rfl) rfl (.p (iW rfl rZ rfl rfl ?_)))))
  refine lN rfl dF rfl ((hK.wat (k2) (by omega) (by omega)).rd) ?_
  refine .p (iW rfl rZ rfl rfl ?_)
  refine lO rfl dF rfl .here (by first|exact dA (k2) (by omega) (by omega)|exact gA (k2) (by omega) (by omega)|exact gR (k2) (by omega) (by omega)|rfl) ?_
  refine kV rfl qG (aB rfl (aB rfl aF)) (pO _ 6 _ (by decide)) ?_
  refine kV rfl qG (aB rfl (aB rfl aF)) (pO _ 11 _ (by decide)) ?_
  refine bw (k:=.u32) rfl .no rfl (.u rfl) (.u rfl) rfl (kV rfl qG (aB rfl (aB rfl aF)) (pO _ 25 _ (by decide)) ?_)
  refine bw (k:=.u32) rfl .no rfl (.u rfl) (.u rfl) rfl (bw (k:=.u32) rfl .no rfl (.u rfl) (.u rfl) rfl (bw (k:=.u32) rfl .no rfl (.u rfl) (.u rfl) rfl (bw (k:=.u32) rfl .no rfl (.u rfl) (.u rfl) rfl (bw (k:=.u32) rfl .no rfl (.u rfl) (.u rfl) rfl (.g (kV rfl qG (aB rfl (aB rfl aF)) (pO _ 2 _ (by decide)) ?_))))))
  refine .p (kV rfl qG (aB rfl (aB rfl aF)) (pO _ 13 _ (by decide)) ?_)
  refine bw (k:=.u32) rfl .no rfl (.u rfl) (.u rfl) rfl (.p (kV rfl qG (aB rfl (aB rfl aF)) (pO _ 22 _ (by decide)) ?_))
  refine bw (k:=.u32) rfl .no rfl (.u rfl) (.u rfl) rfl (.p (bw (k:=.u32) rfl .no rfl (.u rfl) (.u rfl) rfl (.p (bw (k:=.u32) rfl .no rfl (.u rfl) (.u rfl) rfl (bw (k:=.u32) rfl .no rfl (.u rfl) (.u rfl) rfl (bw (k:=.u32) rfl .no rfl (.u rfl) (.u rfl) rfl (bw (k:=.u32) rfl .no rfl (.u rfl) (.u rfl) rfl (.g (bw (k:=.u32) rfl .no rfl (.u rfl) (.u rfl) rfl (.p (bw (k:=.u32) rfl .no rfl (.u rfl) (.u rfl) rfl (.g (aW (((k2+1):Nat):Int) rfl rfl rfl rfl ?_)))))))))))))
  refine .g (aU (k2+1,aJo x (kW k2) (y k2)) ?_ ?_ ?_ ?_ ?_)
  ·exact (aA rfl (aA rfl (aA rfl (aA rfl (aA rfl (aA rfl (aA rfl (aA rfl (aM rfl (aA rfl (aA rfl eZ)))))))))))
  ·exact (mS .here rfl (mS .here rfl mN))
  ·first|omega|(dsimp only; omega)
  ·exact hGl3
  refine ⟨?_,?_⟩
  ·(try dsimp only)<;>(first|omega|rfl|assumption|(simp; done))
  (try dsimp only)<;>(rw [ex]; rfl)
 have c4k:=c4
 try simp only [aD,aE] at c4
 refine .exit (.xcode (.xlp (.xblk (.code (.seq ?_)))))
 obtain rfl:k2=64:=by omega
 refine .g (bR (wa 8 x) rfl .no aLZ (.cons (.u rfl) rfl (.cons (.u rfl) rfl (.cons (.u rfl) rfl (.cons (.u rfl) rfl (.cons (.u rfl) rfl (.cons (.u rfl) rfl (.cons (.u rfl) rfl (.cons (.u rfl) rfl .nil)))))))) rfl (by simp [qN,put,wa,List.range_succ]) ?_)
 refine mV rfl rfl (.nc (.block ?_))
 refine aX (α:=Nat×(Nat→W)) (fun gh=>[(200,true,.int .i64 (gh.1:Int))]) (fun gh=>[.blk bs (cl (wa 8 gh.2++[vp,nn]) 463)])
  (fun gh Gl=>(gh.1≤8)∧(gh.2=fun i=>if i<gh.1 then s i+x i else s i)) (fun gh=>8-gh.1) (0,s) [(0,true,_),(199,true,_)] [_]
  (aM rfl (aA rfl (aA rfl eZ)))
  (mS aC rfl (mS .here rfl mN)) ?_ ?_
 ·refine ⟨?_,?_⟩
  ·(try dsimp only)<;>(first|omega|rfl|assumption|(simp; done))
  (try dsimp only)<;>(funext i; simp)
 intro gh N4 Gl4 hN4 hGl4 hF4
 obtain ⟨k3,z⟩:=gh; dsimp only at hF4 hN4 ⊢
 obtain ⟨hk3,ez⟩:=hF4
 refine .g (cP rfl rfl rfl rfl (.g (cD rfl (fun c5=>?_) (fun c5=>?_))))
 ·have c5k:=c5
  try simp only [aD,aE] at c5
  refine .g (ix rfl .no nV dF (.u rfl) (.u rfl) (by omega) (by omega) (fun _=>aAr (n:=8) (y:=x) (j:=k3) (by omega)) ?_)
  refine .g (bO (mc:=⟨false,false⟩) [0,1,2,3,4,5,6,7,8,9,10,11] aY (by kernel_rfl) ?_)
  refine .p (nC rfl rfl (fZ rfl nZ rfl (iW rfl nV rfl rfl ?_)))
  refine lO rfl dF rfl .here (by first|exact dA (k3) (by omega) (by omega)|exact gA (k3) (by omega) (by omega)|exact gR (k3) (by omega) (by omega)|rfl) ?_
  refine .p (bw (k:=.u32) rfl .no rfl (.u rfl) (.u rfl) rfl (nC rfl rfl (fZ rfl nZ rfl (iW rfl nV rfl rfl ?_))))
  refine s1 rfl (.u rfl) (.u rfl) rfl fM .here (by first|decide|(simp only [cC,bP,cI]; omega)) (by first|exact dR (k3) (by omega)|exact kY (k3) (by omega)|exact rL (k3) (by omega) (by omega)|rfl) ?_
  refine .g (aW (((k3+1):Nat):Int) rfl rfl rfl rfl ?_)
  refine .g (aU (k3+1,_) (aM rfl (aA rfl (aA rfl eZ))) (mS .here rfl (mS .here rfl mN)) ?_ ?_ ?_)
  ·first|omega|(dsimp only; omega)
  ·exact hGl4
  refine ⟨?_,?_⟩
  ·(try dsimp only)<;>(first|omega|rfl|assumption|(simp; done))
  (try dsimp only)<;>(rw [ez]; exact aUy)
 have c5k:=c5
 try simp only [aD,aE] at c5
 refine .g (bD Tryz.results383 .nil (mS .here rfl mN) ?_)
 obtain rfl:k3=8:=by omega
 refine ⟨?_,rfl⟩
 rw [ez,ex,ey,aVC (f:=fun i=>if i<8 then s i+aCZ (nQ (fun i=>xs.getD i 0) 48) s 64 i else s i) (f':=rE s (fun i=>xs.getD i 0)) (fun i hi=>by rw [if_pos hi]; rfl)]
theorem aBE:aT Tryz.prog 463 2=some 9:=by kernel_rfl
theorem cJ:bT Tryz.prog 3=some none:=by kernel_rfl
theorem lR:cE Tryz.prog 3=some 1:=by kernel_rfl
theorem qC:aT Tryz.prog 463 1=some 8:=by kernel_rfl
theorem dB:bT Tryz.prog 25=some none:=by kernel_rfl
theorem bY:(Tryz.prog.info? 5).bind (·.zero)=some (.int .u8 0):=by kernel_rfl
theorem kU:cE Tryz.prog 25=some 1:=by kernel_rfl
theorem aGA:aL Tryz.prog 383=true:=by kernel_rfl
theorem aN1 (s:Nat→W) (xs:List Y) (v vp nn:Value) (bs:Nat) (G:PM) (hK:RdNP G 6 0 (wa 64 kW)) (hl:64≤xs.length):Ct Tryz.prog 383 ([.pointer (some ⟨bs,0,none⟩),v]:List Value).toArray G [rB v 5 xs,.blk bs (cl (wa 8 s++[vp,nn]) 463)] (fun _ μ' u=>∃ ν,μ'=rB v 5 xs :: ν∧ν=[.blk bs (cl (wa 8 (rE s (fun i=>xs.getD i 0))++[vp,nn]) 463)]∧u=.tuple #[]) :=
 yJ (fun h G2 hle hv hs=>by subst hv; exact aDq s xs h vp nn bs G2 hs (hK.mono hle) hl)
theorem aAm {y:Nat→W} {a b v:Value}:(wa 8 y++[a,b]).set 8 v=wa 8 y++[v,b]:=aKw rfl
theorem aAn {y:Nat→W} {a b v:Value}:(wa 8 y++[a,b]).set 9 v=wa 8 y++[a,v]:=aKw rfl
theorem aE9 {zs:List Y} {j m b T:Nat} {vp:Value} (hj:zs.length / 64=j) (hm:m=zs.length):Res.blk b (cl (wa 8 (fK zs j)++[vp,.int .i64 (m:Int)]) T)=.blk b (cl (gQ zs vp) T):=by
 subst hj; subst hm; rfl
theorem aJN {zs L:List Y} {j b T:Nat} {vq nn:Value} (eL:L=zs.drop (64*j)) (h:64≤L.length):Res.blk b (cl (wa 8 (rE (fK zs j) (fun i=>L.getD i 0))++[vq,nn]) T)=.blk b (cl (wa 8 (fK zs (j+1))++[vq,nn]) T):=by
 rw [fK,aE6 (b':=zT zs j)]
 intro i hi
 rw [eL,zT]; simp [List.getD_eq_getElem?_getD,List.getElem?_drop]
theorem aSv {xs ys L:List Y} {b T k:Nat} {vq nn:Value} (eL:L=dW xs++ys.take k) (hk:k=min (64-(dW xs).length) ys.length) (h:64≤L.length):Res.blk b (cl (wa 8 (rE (fK xs (xs.length / 64)) (fun i=>L.getD i 0))++[vq,nn]) T)=.blk b (cl (wa 8 (fK (xs++ys) (xs.length / 64+1))++[vq,nn]) T):=by
 have hr:=xU xs
 rw [eL,List.length_append,List.length_take] at h
 rw [fK,aE8 (by omega),aE6 (b':=zT (xs++ys) (xs.length / 64))]
 intro i hi
 rw [eL,zT]
 simp only [List.getD_eq_getElem?_getD,List.getElem?_append,List.getElem?_take,hr]
 by_cases h1:i<xs.length%64
 ·simp [h1,dW,show 64*(xs.length / 64)+i<xs.length by omega]
 ·rw [if_neg h1,if_pos (by omega),if_neg (by omega)]
  congr 2; omega
theorem aSx {xs ys L:List Y} (eL:L=dW xs++ys.take (min (64-(dW xs).length) ys.length)) (h:L.length<64):L=dW (xs++ys)∧(xs++ys).length / 64=xs.length / 64∧fK (xs++ys) (xs.length / 64)=fK xs (xs.length / 64):=by
 have hr:=xU xs
 rw [eL,List.length_append,List.length_take] at h
 have e:(xs++ys).length / 64=xs.length / 64:=by rw [List.length_append]; omega
 refine ⟨?_,e,aE8 (by omega)⟩
 have h5:min (64-(dW xs).length) ys.length=ys.length:=by omega
 rw [eL,h5,List.take_length,dW,dW,e,List.drop_append_of_le_length (by omega)]
theorem aSt {xs ys:List Y} (h:64≤(dW xs).length+ys.length):ys.drop (min (64-(dW xs).length) ys.length)=(xs++ys).drop (64*(xs.length / 64+1)):=by
 have hr:=xU xs
 rw [List.drop_append,List.drop_of_length_le (show xs.length≤64*(xs.length / 64+1) by omega),List.nil_append]
 congr 1; omega
theorem aSu {xs ys:List Y} (h:(dW xs).length=0):ys=(xs++ys).drop (64*(xs.length / 64)):=by
 have hr:=xU xs
 rw [show 64*(xs.length / 64)=xs.length by omega,List.drop_left]
theorem aSy {xs ys:List Y} {b T:Nat} {vq nn:Value} (h:(dW xs).length=0):Res.blk b (cl (wa 8 (fK xs (xs.length / 64))++[vq,nn]) T)=.blk b (cl (wa 8 (fK (xs++ys) (xs.length / 64))++[vq,nn]) T):=by
 rw [aE8 (by omega)]
theorem aEo (xs ys:List Y) (h:Sh) (vp:Value) (bs:Nat) (G:PM) (hs:SlR G 1 aN h ys) (hK:RdNP G 6 0 (wa 64 kW)) (hl:xs.length+ys.length≤4611686018427387904):Ct Tryz.prog 351 ([.pointer (some ⟨bs,0,none⟩),h.val ys.length]:List Value).toArray G [.blk bs (cl (gQ xs vp) 463),rB vp 5 (dW xs)] (fun _ μ' u=>∃ vp',μ'=[.blk bs (cl (gQ (xs++ys) vp') 463),rB vp' 5 (dW (xs++ys))]∧u=.tuple #[]):=by
 refine Ct.of Tryz.func351 rfl Tryz.ntmps351 rfl fun w0 hs0=>?_
 have hr:=xU xs
 refine .g (nC rfl rfl (fZ rfl aBE rfl (lO rfl cJ rfl .here (by first|exact aV rfl|rfl) ?_)))
 refine .p (lE rfl bV rfl (aW (((xs.length+ys.length):Nat):Int) rfl rfl rfl rfl ?_))
 refine nC rfl rfl (fZ rfl aBE rfl (s1 rfl (.u rfl) (.u rfl) rfl lR .here (by first|decide|(simp only [gQ,cC,bP,cI]; omega)) (by first|exact aAm|exact aAn) ?_))
 refine .g (nC rfl rfl (fZ rfl qC rfl (lO rfl dB rfl .here (by first|exact aV rfl|rfl) ?_)))
 refine lr rfl .no bV (.u rfl) aC ?_
 refine cP rfl rfl rfl rfl (.g (cD rfl (fun c1=>?_) (fun c1=>?_)))
 ·have c1k:=c1
  try simp only [aD,aE] at c1
  refine .g (nC rfl rfl (fZ rfl qC rfl (lO rfl dB rfl .here (by first|exact aV rfl|rfl) ?_)))
  refine lr rfl .no bV (.u rfl) aC ?_
  refine iF (((64-(dW xs).length):Nat):Int) rfl .no (.u rfl) (.u rfl) rfl (by omega) (fun _=>eV (by omega) (by omega)) ?_
  refine .p (lE rfl bV rfl (xK ((64-(dW xs).length)) (ys.length) rfl .no (.u rfl) (.u rfl) (by omega) (by omega) ?_))
  refine .g (bO (mc:=⟨false,false⟩) [0,1,2,3,4,5,6,7,8,9,10,11] aY (by kernel_rfl) ?_)
  refine .p (nC rfl rfl (fZ rfl qC rfl (lO rfl dB rfl .here (by first|exact aV rfl|rfl) ?_)))
  refine .p (kE ((min (64-(dW xs).length) ys.length)) rfl .no aP hs (.u rfl) (.u rfl) (by omega) (by omega) ?_)
  intro h36 L36 eL36 lL36 hs36
  have lL36:=lL36 rfl
  refine eN rfl aP bY (.u rfl) (.u rfl) aC hs36.sc (by (try simp only [cI,cR]); omega) ?_
  intro v37 L37 ov37 eL37
  have lL37:L37.length=(dW xs).length+L36.length:=by rw [eL37,List.length_append]
  refine nC rfl rfl (fZ rfl qC rfl (oP rfl (.u rfl) (.u rfl) .here kU aC (by first|decide|(simp only [gQ,cC,bP,cI]; omega)) (by first|exact aAm|exact aAn) ?_))
  refine .g (kD ((min (64-(dW xs).length) ys.length)) rfl .no aP hs (.u rfl) (.u rfl) (by omega) (by omega) ?_)
  intro h42 L42 eL42 lL42 hs42
  have lL42:=lL42 rfl
  refine .g (nC rfl rfl (fZ rfl qC rfl (lO rfl dB rfl .here (by first|exact aV rfl|rfl) ?_)))
  refine lr rfl .no bV (.u rfl) aC ?_
  refine cP rfl rfl rfl rfl (.g (cD rfl (fun c2=>?_) (fun c2=>?_)))
  ·have c2k:=c2
   try simp only [aD,aE] at c2
   refine .ret (bD Tryz.results351 .nil (mS .here rfl (mS .here rfl mN)) ?_)
   obtain ⟨e1,e2,e3⟩:=aSx (eL37.trans (by rw [eL36])) (by omega)
   exact ⟨v37,by rw [← e1,←e3,aE9 e2 (by simp)],rfl⟩
  have c2k:=c2
  try simp only [aD,aE] at c2
  refine .g (nC rfl rfl (fZ rfl qC rfl (lO rfl dB rfl .here (by first|exact aV rfl|rfl) ?_)))
  refine ka rfl (.inr rfl) aGA (aB rfl (aB rfl aF)) (dI aC .here) (aN1 _ L37 _ _ _ _ _ hK (by omega)) ?_
  rintro _ G54 μ54 hG54 ⟨_,rfl,rfl,rfl⟩
  have hs:=hs.mono hG54
  have hK:=hK.mono hG54
  have hs42:=hs42.mono hG54
  refine .g (nC rfl rfl (fZ rfl qC rfl (s1 rfl (.u rfl) (.u rfl) rfl kU aC (by first|decide|(simp only [gQ,cC,bP,cI]; omega)) (by first|exact aAm|exact aAn) ?_)))
  refine .nil (vM 5 ?_)
  refine .code (.seq (.block ?_))
  refine aX (α:=Nat×Sh×List Y×Value) (fun gh=>[(1,true,gh.2.1.val gh.2.2.1.length)]) (fun gh=>[.blk bs (cl (wa 8 (fK (xs++ys) gh.1)++[gh.2.2.2,.int .i64 ((xs.length+ys.length:Nat):Int)]) 463)])
   (fun gh Gl=>(64*gh.1≤xs.length+ys.length)∧(gh.2.2.1=(xs++ys).drop (64*gh.1))∧(SlR Gl 1 aN gh.2.1 gh.2.2.1)) (fun gh=>gh.2.2.1.length) (xs.length / 64+1,_,_,_) [(0,true,_)] [_]
   (aA rfl (aA rfl eZ))
   (mS aC (aSv (eL37.trans (by rw [eL36])) rfl (by omega)) (mS .here rfl mN)) ?_ ?_
  ·refine ⟨?_,?_,?_⟩
   ·(try dsimp only)<;>(omega)
   ·(try dsimp only)<;>(rw [eL42]; exact aSt (by omega))
   (try dsimp only)<;>(exact hs42)
  intro gh N0 Gl0 hN0 hGl0 hF0
  obtain ⟨j,h',L,vq⟩:=gh; dsimp only at hF0 hN0 ⊢
  obtain ⟨hj,eL,hL⟩:=hF0
  have hs:=hs.mono hGl0
  have hK:=hK.mono hGl0
  have lL:L.length=xs.length+ys.length-64*j:=by rw [eL]; simp
  refine .g (lE rfl bV rfl (cP rfl rfl rfl rfl (.g (cD rfl (fun c3=>?_) (fun c3=>?_)))))
  ·have c3k:=c3
   try simp only [aD,aE] at c3
   refine .g (ka rfl (.inr rfl) aGA (aB rfl (aB rfl aF)) (cO .here) (aDq _ L h' _ _ _ _ hL hK (by omega)) ?_)
   rintro _ G65 μ65 hG65 ⟨rfl,rfl⟩
   have hs:=hs.mono hG65
   have hK:=hK.mono hG65
   have hL:=hL.mono hG65
   refine .g (kD (64) rfl .no aP hL (.u rfl) (.u rfl) (by omega) (by omega) ?_)
   intro h62 L62 eL62 lL62 hs62
   have lL62:=lL62 rfl
   refine .g (aU (j+1,h62,L62,vq) ?_ ?_ ?_ ?_ ?_)
   ·exact (aA rfl (aA rfl eZ))
   ·exact (mS .here (aJN eL (by omega)) (mS .here rfl mN))
   ·first|omega|(dsimp only; omega)
   ·exact (hGl0).trans hG65
   refine ⟨?_,?_,?_⟩
   ·(try dsimp only)<;>(omega)
   ·(try dsimp only)<;>(rw [eL62,eL,List.drop_drop]; congr 1)
   (try dsimp only)<;>(exact hs62)
  have c3k:=c3
  try simp only [aD,aE] at c3
  refine .exit (.xcode (.xlp (.xblk (.code (rq7 rfl rfl (mV rfl rfl ?_))))))
  refine oF rfl aP ?_; intro b67
  refine .p (qM rfl aP bY (.u rfl) (.u rfl) .here hL.sc (by (try simp only [cI,cR]); omega) ?_)
  intro v69 L69 _ ov69 eL69
  have lL69:L69.length=L.length:=by rw [eL69]
  refine nC rfl rfl (fZ rfl qC rfl (oP rfl (.u rfl) (.u rfl) .here kU aC (by first|decide|(simp only [gQ,cC,bP,cI]; omega)) (by first|exact aAm|exact aAn) ?_))
  refine .g (bD Tryz.results351 .nil (mS .here rfl (mS .here rfl mN)) ?_)
  have ej:(xs++ys).length / 64=j:=by rw [List.length_append]; omega
  exact ⟨v69,by rw [aE9 ej (by simp),eL69,eL,dW,ej],rfl⟩
 have c1k:=c1
 try simp only [aD,aE] at c1
 refine .skip (.code (.seq (.block ?_)))
 refine aX (α:=Nat×Sh×List Y×Value) (fun gh=>[(1,true,gh.2.1.val gh.2.2.1.length)]) (fun gh=>[.blk bs (cl (wa 8 (fK (xs++ys) gh.1)++[gh.2.2.2,.int .i64 ((xs.length+ys.length:Nat):Int)]) 463)])
  (fun gh Gl=>(64*gh.1≤xs.length+ys.length)∧(gh.2.2.1=(xs++ys).drop (64*gh.1))∧(SlR Gl 1 aN gh.2.1 gh.2.2.1)) (fun gh=>gh.2.2.1.length) (xs.length / 64,_,_,_) [(0,true,_)] [_]
  (aA rfl (aA rfl eZ))
  (mS .here (aSy (by omega)) (mS .here rfl mN)) ?_ ?_
 ·refine ⟨?_,?_,?_⟩
  ·(try dsimp only)<;>(omega)
  ·(try dsimp only)<;>(exact aSu (by omega))
  (try dsimp only)<;>(exact hs)
 intro gh N1 Gl1 hN1 hGl1 hF1
 obtain ⟨j,h',L,vq⟩:=gh; dsimp only at hF1 hN1 ⊢
 obtain ⟨hj,eL,hL⟩:=hF1
 have hK:=hK.mono hGl1
 have lL:L.length=xs.length+ys.length-64*j:=by rw [eL]; simp
 refine .g (lE rfl bV rfl (cP rfl rfl rfl rfl (.g (cD rfl (fun c4=>?_) (fun c4=>?_)))))
 ·have c4k:=c4
  try simp only [aD,aE] at c4
  refine .g (ka rfl (.inr rfl) aGA (aB rfl (aB rfl aF)) (cO .here) (aDq _ L h' _ _ _ _ hL hK (by omega)) ?_)
  rintro _ G65 μ65 hG65 ⟨rfl,rfl⟩
  have hL:=hL.mono hG65
  refine .g (kD (64) rfl .no aP hL (.u rfl) (.u rfl) (by omega) (by omega) ?_)
  intro h62 L62 eL62 lL62 hs62
  have lL62:=lL62 rfl
  refine .g (aU (j+1,h62,L62,vq) ?_ ?_ ?_ ?_ ?_)
  ·exact (aA rfl (aA rfl eZ))
  ·exact (mS .here (aJN eL (by omega)) (mS .here rfl mN))
  ·first|omega|(dsimp only; omega)
  ·exact (hGl1).trans hG65
  refine ⟨?_,?_,?_⟩
  ·(try dsimp only)<;>(omega)
  ·(try dsimp only)<;>(rw [eL62,eL,List.drop_drop]; congr 1)
  (try dsimp only)<;>(exact hs62)
 have c4k:=c4
 try simp only [aD,aE] at c4
 refine .exit (.xcode (.xlp (.xblk (.code (rq7 rfl rfl (mV rfl rfl ?_))))))
 refine oF rfl aP ?_; intro b67
 refine .p (qM rfl aP bY (.u rfl) (.u rfl) .here hL.sc (by (try simp only [cI,cR]); omega) ?_)
 intro v69 L69 _ ov69 eL69
 have lL69:L69.length=L.length:=by rw [eL69]
 refine nC rfl rfl (fZ rfl qC rfl (oP rfl (.u rfl) (.u rfl) .here kU aC (by first|decide|(simp only [gQ,cC,bP,cI]; omega)) (by first|exact aAm|exact aAn) ?_))
 refine .g (bD Tryz.results351 .nil (mS .here rfl (mS .here rfl mN)) ?_)
 have ej:(xs++ys).length / 64=j:=by rw [List.length_append]; omega
 exact ⟨v69,by rw [aE9 ej (by simp),eL69,eL,dW,ej],rfl⟩
theorem aDQ:dV Tryz.prog 463=some ([.int .u32 0,.int .u32 0,.int .u32 0,.int .u32 0,.int .u32 0,.int .u32 0,.int .u32 0,.int .u32 0,.slice none 0 0,.int .i64 0]):=by kernel_rfl
theorem aV8:cT Tryz.prog 463 [0]=some ([.int .u32 0,.int .u32 0,.int .u32 0,.int .u32 0,.int .u32 0,.int .u32 0,.int .u32 0,.int .u32 0,.slice none 0 0,.int .i64 0],[(0,8)]):=by kernel_rfl
theorem aBW:cE Tryz.prog 463=some 10:=by kernel_rfl
theorem aVi:bT Tryz.prog 463=some (some 10):=by kernel_rfl
theorem aF7:aL Tryz.prog 350=true:=by kernel_rfl
theorem aMa:jR Tryz.prog 498=true:=by kernel_rfl
theorem aF8:aL Tryz.prog 351=true:=by kernel_rfl
theorem jK:dV Tryz.prog 34=some (ba 32 (fun _=>0#8)):=by kernel_rfl
theorem aVh:bT Tryz.prog 461=some (some 8):=by kernel_rfl
theorem aV9:cT Tryz.prog 463 [0,1,2]=some ([.int .u32 0,.int .u32 0,.int .u32 0,.int .u32 0,.int .u32 0,.int .u32 0,.int .u32 0,.int .u32 0,.slice none 0 0,.int .i64 0],[(0,8),(8,1),(9,1)]):=by kernel_rfl
theorem gV:jO Tryz.prog 3 23=some .u64:=by kernel_rfl
theorem vU:jO Tryz.prog 23 5=some .u8:=by kernel_rfl
theorem mR:fH Tryz.prog 34=some (32,5,1):=by kernel_rfl
theorem dJ:bT Tryz.prog 34=some (some 32):=by kernel_rfl
theorem iO:cE Tryz.prog 34=some 32:=by kernel_rfl
theorem aDn (G:PM):Ct Tryz.prog 350 ([]:List Value).toArray G [] (fun _ μ' u=>μ'=[]∧u=.agg (gQ [] (.slice none 0 0)).toArray):=by
 refine Ct.of Tryz.func350 rfl Tryz.ntmps350 rfl fun w0 hs0=>?_
 refine .seq (aQ rfl rfl ?_)
 refine al rfl aDQ ?_; intro b0
 refine .g (bR (wa 8 ivW) rfl .no aLZ (.cons (.u rfl) rfl (.cons (.u rfl) rfl (.cons (.u rfl) rfl (.cons (.u rfl) rfl (.cons (.u rfl) rfl (.cons (.u rfl) rfl (.cons (.u rfl) rfl (.cons (.u rfl) rfl .nil)))))))) rfl (by rfl) ?_)
 refine bR (gQ [] (.slice none 0 0)) rfl .no aV8 (.cons (.u rfl) rfl .nil) rfl (by rfl) ?_
 refine sw rfl (.u rfl) (.u rfl) rfl aBW .here (by rfl) (vB (tO _ _) (vA rfl rfl)) ?_
 refine .nil (.code (.ret (aK Tryz.results350 (.cell rfl (fun w hw=>bW aVi (RdN.own .here) ((by rfl)) hw) .nil) ?_)))
 exact ⟨rfl,rfl⟩
theorem aNH (G:PM):Ct Tryz.prog 394 ([]:List Value).toArray G [] (fun _ μ' u=>∃ b,μ'=[.blk b (cl (gQ [] (.slice none 0 0)) 463),rB (.slice none 0 0) 5 (dW [])]∧u=.pointer (some ⟨b,0,none⟩)):=by
 refine Ct.of Tryz.func394 rfl Tryz.ntmps394 rfl fun w0 hs0=>?_
 refine .g (kv rfl .no aF7 aF (fun _=>aDn _) ?_)
 refine al rfl aDQ ?_; intro b1
 refine sw rfl (.u rfl) (.u rfl) rfl aBW .here (by rfl) (vB (tO _ _) (vA rfl rfl)) ?_
 refine .nil (.code (.seq (aQ rfl rfl (aS rfl rfl (.nil (vM 5 ?_))))))
 refine .code (.ret (bD Tryz.results394 (.tmp rfl .nil) (mS aC rfl (mS .here rfl mN)) ?_))
 exact ⟨_,rfl,rfl⟩
theorem aGl (xs ys:List Y) (h:Sh) (vp:Value) (bs:Nat) (G:PM) (hs:SlR G 1 aN h ys) (hK:RdNP G 6 0 (wa 64 kW)) (hl:xs.length+ys.length≤4611686018427387904):Ct Tryz.prog 395 ([.pointer (some ⟨bs,0,none⟩),h.val ys.length]:List Value).toArray G [.blk bs (cl (gQ xs vp) 463),rB vp 5 (dW xs)] (fun _ μ' u=>∃ vp',μ'=[.blk bs (cl (gQ (xs++ys) vp') 463),rB vp' 5 (dW (xs++ys))]∧u=.tuple #[]):=by
 refine Ct.of Tryz.func395 rfl Tryz.ntmps395 rfl fun w0 hs0=>?_
 refine .g (pn rfl .no aMa (.u rfl) (.u rfl) ?_)
 refine .g (gK rfl rfl ?_)
 refine .g (ka rfl (.inr rfl) aF8 (aB rfl (aB rfl aF)) (dI .here .here) (aEo _ _ _ _ _ _ hs hK hl) ?_)
 rintro _ G8 μ8 hG8 ⟨vq,rfl,rfl⟩
 refine .g (bD Tryz.results395 .nil (mS .here rfl (mS .here rfl mN)) ?_)
 exact ⟨vq,rfl,rfl⟩
theorem aUL {xs:List Y} {vp:Value}:((gQ xs vp).drop 0).take 8=wa 8 (fK xs (xs.length / 64)):=by
 rw [List.drop_zero,gQ,List.take_append_of_le_length (by rw [cC]; exact Nat.le_refl _),List.take_of_length_le (by rw [cC]; exact Nat.le_refl _)]
theorem aUK {zs:List Value} {xs:List Y} {v:Value} (h:zs.length=10):qN zs [(0,8),(8,1),(9,1)] [wa 8 (fK xs (xs.length / 64)),[v],[.int .i64 (xs.length:Int)]]=gQ xs v:=by
 match zs,h with
 | [a,b,c,d,e,f,g,h,i,j],_=>rfl
theorem aQp {n q:Nat} (h:q<8):aEW n q=((BitVec.ofInt 64 (n:Int)*8#64) >>> (56-8*(q:Int)).toNat).setWidth 8:=by
 rw [show (56-8*(q:Int)).toNat=56-8*q by omega]; rfl
theorem aGd (xs:List Y) (vp:Value) (bs:Nat) (G:PM) (hK:RdNP G 6 0 (wa 64 kW)) (hl:xs.length≤1152921504606846976):Ct Tryz.prog 352 ([.pointer (some ⟨bs,0,none⟩)]:List Value).toArray G [.blk bs (cl (gQ xs vp) 463),rB vp 5 (dW xs)] (fun _ μ' u=>μ'=[.blk bs (cl (gQ xs vp) 463),rB vp 5 (dW xs)]∧u=.agg (ba 32 (lH xs)).toArray):=by
 refine Ct.of Tryz.func352 rfl Tryz.ntmps352 rfl fun w0 hs0=>?_
 have hr:=xU xs
 have hz:pU xs.length=(119-xs.length%64)%64:=rfl
 refine .seq (aQ rfl rfl ?_)
 refine al rfl jK ?_; intro b2
 refine .g (kv rfl .no aF7 aF (fun _=>aDn _) ?_)
 refine al rfl aDQ ?_; intro b3
 refine sw rfl (.u rfl) (.u rfl) rfl aBW .here (by rfl) (vB (tO _ _) (vA rfl rfl)) ?_
 refine .g (pn rfl .no aMa (.u rfl) (.u rfl) ?_)
 refine .g (gK rfl rfl ?_)
 refine tQ bE ?_; intro sRP bbRP evRP lcRP oaRP; subst evRP
 refine bO (mc:=⟨false,true⟩) [0,1,2,3,5,6,7,8,10,11,12,13,4,9,14,15] aY (by kernel_rfl) ?_
 refine .p (nC rfl rfl (fZ rfl nZ rfl (lA rfl .no aVh (.u rfl) (fun _=>RdN.part (n:=8) (cs':=wa 8 (fK xs (xs.length / 64))) aI (aUL)) (fun _=>(by first|exact qE|exact qL|rfl)) ?_)))
 refine .p (nC rfl rfl (fZ rfl qC rfl (lO rfl dB rfl aI (by first|exact aV rfl|rfl) ?_)))
 refine .p (nC rfl rfl (fZ rfl aBE rfl (lO rfl cJ rfl aI (by first|exact aV rfl|rfl) ?_)))
 refine oF rfl aP ?_; intro b16
 refine qM rfl aP bY (.u rfl) (.u rfl) .here (sJ dK oaRP) (by (try simp only [cI,cR]); omega) ?_
 intro v21 L21 _ ov21 eL21
 have lL21:L21.length=(dW xs).length:=by rw [eL21]
 refine bR (gQ xs v21) rfl .no aV9 (.cons (.u rfl) rfl (.cons (.u rfl) (sN ov21) (.cons (.u rfl) rfl .nil))) rfl (aUK rfl) ?_
 refine sw rfl (.u rfl) (.u rfl) rfl aBW aC (by rfl) (vB (tO _ _) (vA ov21 rfl)) ?_
 refine .nil (.code (.seq ?_))
 subst eL21
 refine .g (fZ rfl aBE rfl (lO rfl cJ rfl .here (by first|exact aV rfl|rfl) ?_))
 refine ci rfl .no rfl gV (.u rfl) ?_
 refine bw (k:=.u64) (b:=8#64) rfl .no rfl (.u rfl) (.u rfl) rfl (aS rfl rfl (.nc (.seq (bB rfl rfl ?_))))
 refine xO (1) (72) rfl aP bY (.u rfl) (.u rfl) (by first|rfl|omega) (by first|rfl|omega) (by omega) (by omega) ?_; intro b31
 have lR31:(List.replicate (1) (0#8:Y)).length=1:=List.length_replicate
 refine .g (ia rfl .no aP (.u rfl) (.u rfl) (by omega) (by omega) ?_)
 refine s1r (z:=128#8) rfl (.u rfl) (.u rfl) mZ .here (by omega) ?_; intro Ls6_2 eLs6_2 lLs6_2
 refine .nil (.code (.seq (.block ?_)))
 refine aX (α:=Nat×Value×List Y) (fun gh=>[(5,true,gh.2.1)]) (fun gh=>[rB gh.2.1 5 gh.2.2])
  (fun gh Gl=>(gh.1≤pU xs.length)∧(gh.2.2=128#8 :: List.replicate gh.1 0#8)) (fun gh=>pU xs.length-gh.1) (0,_,_) [(2,true,_),(3,true,_),(4,true,_)] [_,_,_,_,_]
  (aA rfl (aA rfl (aA rfl (aA rfl eZ))))
  (mS .here rfl (mS .here rfl (mS .here rfl (mS .here rfl (mS .here rfl (mS .here rfl mN)))))) ?_ ?_
 ·refine ⟨?_,?_⟩
  ·(try dsimp only)<;>(exact Nat.zero_le _)
  (try dsimp only)<;>(rw [eLs6_2]; rfl)
 intro gh N0 Gl0 hN0 hGl0 hF0
 obtain ⟨j,v,L⟩:=gh; dsimp only at hF0 hN0 ⊢
 obtain ⟨hj,eL⟩:=hF0
 have hK:=hK.mono hGl0
 have lL:L.length=j+1:=by rw [eL]; simp
 have hz:pU xs.length=(119-xs.length%64)%64:=rfl
 refine .g (fZ rfl aBE rfl (lO rfl cJ rfl aC (by first|exact aV rfl|rfl) ?_))
 refine .p (lr rfl .no bV (.u rfl) .here ?_)
 refine aW (((xs.length+L.length):Nat):Int) rfl rfl rfl rfl ?_
 refine rmn ((xs.length+L.length)) (64) rfl .no (.u rfl) (.u rfl) (by omega) (by omega) (fun _=>by first|decide|omega) ?_
 refine cP rfl rfl rfl rfl (.g (cD rfl (fun c1=>?_) (fun c1=>?_)))
 ·have c1k:=c1
  try simp only [aD,aE] at c1
  refine .skip (.code (.block (dT rfl rfl (mV rfl rfl ?_))))
  refine Go.Tan.b1 rfl aP bY (.u rfl) rfl rfl (by decide) ?_; intro b42
  refine eN rfl aP bY (.u rfl) (.u rfl) aC (Sc.one (y:=0#8) .here) (by show _+1≤_; omega) ?_
  intro v43 L43 ov43 eL43
  have lL43:L43.length=L.length+1:=by rw [eL43,List.length_append]; first|rfl | simp [cR]
  refine .g (aU (j+1,v43,L43) ?_ ?_ ?_ ?_ ?_)
  ·exact (aA rfl (aA rfl (aA rfl (aA rfl eZ))))
  ·exact (mS .here rfl (mS aC rfl (mS aC rfl (mS aC rfl (mS aC rfl (mS aC rfl mN))))))
  ·(try dsimp only); omega
  ·exact hGl0
  refine ⟨?_,?_⟩
  ·(try dsimp only)<;>(omega)
  (try dsimp only)<;>(rw [eL43,eL,List.cons_append,←List.replicate_succ'])
 have c1k:=c1
 try simp only [aD,aE] at c1
 refine .exit (.xcode (.xlp (.xblk (.code (.seq (.seq (aQ rfl rfl (aS rfl rfl (.nc (.block ?_))))))))))
 refine aX (α:=Nat×Value×List Y) (fun gh=>[(5,true,gh.2.1),(6,true,.int .i64 (56-8*(gh.1:Int)))]) (fun gh=>[rB gh.2.1 5 gh.2.2])
  (fun gh Gl=>(gh.1≤8)∧(gh.2.2=(128#8 :: List.replicate (pU xs.length) 0#8)++tF xs.length gh.1)) (fun gh=>8-gh.1) (0,_,_) [(2,true,_),(3,true,_),(4,true,_)] [_,_,_,_,_]
  (aA rfl (aM rfl (aA rfl (aA rfl (aA rfl eZ)))))
  (mS .here rfl (mS .here rfl (mS .here rfl (mS .here rfl (mS .here rfl (mS .here rfl mN)))))) ?_ ?_
 ·refine ⟨?_,?_⟩
  ·(try dsimp only)<;>(first|omega|rfl|assumption|(simp; done))
  (try dsimp only)<;>(rw [eL,show j=pU xs.length by omega]; simp [tF])
 intro gh N1 Gl1 hN1 hGl1 hF1
 obtain ⟨q,v,L⟩:=gh; dsimp only at hF1 hN1 ⊢
 obtain ⟨hq,eL⟩:=hF1
 have hK:=hK.mono hGl1
 have lL:L.length=pU xs.length+1+q:=by rw [eL]; simp [aIU]; omega
 refine .g (cP rfl rfl rfl rfl (.g (cD rfl (fun c2=>?_) (fun c2=>?_))))
 ·have c2k:=c2
  try simp only [aD,aE] at c2
  refine .g (oO (k:=.u64) rfl .no (.u rfl) (.u rfl) (by omega) ?_)
  refine cu (k:=.u64) rfl .no rfl vU (.u rfl) ?_
  refine Go.Tan.b1 rfl aP bY (.u rfl) rfl rfl (by decide) ?_; intro b53
  refine eN rfl aP bY (.u rfl) (.u rfl) aC (Sc.one .here) (by show _+1≤_; omega) ?_
  intro v54 L54 ov54 eL54
  have lL54:L54.length=L.length+1:=by rw [eL54,List.length_append]; first|rfl | simp [cR]
  refine .g (aR rfl rfl rfl rfl ?_)
  refine .g (aU (q+1,v54,L54) ?_ ?_ ?_ ?_ ?_)
  ·exact (aA rfl (aM rfl (aA rfl (aA rfl (aA rfl eZ)))))
  ·exact (mS .here rfl (mS aC rfl (mS aC rfl (mS aC rfl (mS aC rfl (mS aC rfl mN))))))
  ·first|omega|(dsimp only; omega)
  ·exact hGl1
  refine ⟨?_,?_⟩
  ·(try dsimp only)<;>(first|omega|rfl|assumption|(simp; done))
  (try dsimp only)<;>(rw [eL54,eL,aQo,←List.append_assoc,aQp (by omega)]; rfl)
 have c2k:=c2
 try simp only [aD,aE] at c2
 refine .exit (.xcode (.xlp (.xblk (.code (.seq ?_)))))
 have e8:L=aAp xs.length:=by rw [eL,show q=8 by omega]; rfl
 subst e8
 have lt:=aUa xs.length
 have hz:pU xs.length=(119-xs.length%64)%64:=rfl
 refine kR .here (aQQ (mS bE rfl (mS bE rfl mN))) ?_; intro GfR31 hR31 hleR31 evR31 hsR31; subst evR31
 have hK:=hK.mono hleR31
 refine .g (ka rfl (.inr rfl) aF8 (aB rfl (aB rfl aF)) (dI .here .here) (aEo xs (aAp xs.length) _ _ _ _ hsR31 hK (by omega)) ?_)
 rintro _ G56 μ56 hG56 ⟨vq,rfl,rfl⟩
 refine .nil (.code (.seq (aQ rfl rfl ?_)))
 refine al rfl jK ?_; intro b7
 refine .nil (.code (.seq (.seq (aQ rfl rfl (mV rfl rfl (.nc (.block ?_)))))))
 refine aX (α:=Nat×(Nat→Y)) (fun gh=>[(57,true,.int .i64 (gh.1:Int))]) (fun gh=>[.blk b7 (cl (ba 32 gh.2) 34)])
  (fun gh Gl=>(gh.1≤32)∧(gh.2=gP (lH xs) gh.1)) (fun gh=>32-gh.1) (0,fun _=>0#8) [(2,true,_),(3,true,_),(7,true,_)] [_,_,_,_,_]
  (aM rfl (aA rfl (aA rfl (aA rfl eZ))))
  (mS .here rfl (mS .here rfl (mS .here rfl (mS .here rfl (mS .here rfl (mS .here rfl mN)))))) ?_ ?_
 ·refine ⟨?_,?_⟩
  ·(try dsimp only)<;>(first|omega|rfl|assumption|(simp; done))
  (try dsimp only)<;>(first|omega|rfl|assumption|(simp; done))
 intro gh N2 Gl2 hN2 hGl2 hF2
 obtain ⟨i,f⟩:=gh; dsimp only at hF2 hN2 ⊢
 obtain ⟨hi,ef⟩:=hF2
 refine .g (cP rfl rfl rfl rfl (.g (cD rfl (fun c3=>?_) (fun c3=>?_))))
 ·have c3k:=c3
  try simp only [aD,aE] at c3
  refine .g (qun (i) (4) rfl .no (.u rfl) (.u rfl) (by omega) (by omega) (fun _=>by first|decide|omega) (by omega) ?_)
  refine fZ rfl nZ rfl (iW rfl nV rfl rfl ?_)
  refine lO rfl dF rfl aC (by first|exact dA ((i / 4)) (by omega) (by omega)|exact gA ((i / 4)) (by omega) (by omega)|exact gR ((i / 4)) (by omega) (by omega)|rfl) ?_
  refine .p (rmn (i) (4) rfl .no (.u rfl) (.u rfl) (by omega) (by omega) (fun _=>by first|decide|omega) ?_)
  refine iF (((8*(i%4)):Nat):Int) rfl .no (.u rfl) (.u rfl) rfl (by omega) (fun _=>eV (by omega) (by omega)) ?_
  refine iF (((24-8*(i%4)):Nat):Int) rfl .no (.u rfl) (.u rfl) rfl (by omega) (fun _=>eV (by omega) (by omega)) ?_
  refine oO (k:=.u32) rfl .no (.u rfl) (.u rfl) (by omega) ?_
  refine cu (k:=.u32) rfl .no rfl aLc (.u rfl) ?_
  refine iW rfl mR rfl rfl ?_
  refine s1 rfl (.u rfl) (.u rfl) rfl mZ .here (by first|decide|(simp only [cC,bP,cI]; omega)) (by first|exact dR (i) (by omega)|exact kY (i) (by omega)|exact rL (i) (by omega) (by omega)|rfl) ?_
  refine .g (aW (((i+1):Nat):Int) rfl rfl rfl rfl ?_)
  refine .g (aU (i+1,bG f i (lH xs i)) ?_ ?_ ?_ ?_ ?_)
  ·exact (aM rfl (aA rfl (aA rfl (aA rfl eZ))))
  ·exact (mS .here rfl (mS .here rfl (mS .here rfl (mS .here rfl (mS .here rfl (mS .here rfl mN))))))
  ·first|omega|(dsimp only; omega)
  ·exact hGl2
  refine ⟨?_,?_⟩
  ·(try dsimp only)<;>(first|omega|rfl|assumption|(simp; done))
  (try dsimp only)<;>(rw [ef]; rfl)
 have c3k:=c3
 try simp only [aD,aE] at c3
 refine .g (lB rfl dJ rfl .here ?_)
 refine sW rfl rfl rfl rfl iO bE ?_
 refine .nil (.code (.ret (bD Tryz.results352 (.cell rfl (fun w hw=>bW dJ (RdN.own .here) ((by first|exact qE|exact qL|rfl)) hw) .nil) (mS dK rfl (mS dK rfl mN)) ?_)))
 obtain rfl:i=32:=by omega
 exact ⟨rfl,by rw [ef,jC (fun i hi=>(kN (lH xs) hi).symm)]; rfl⟩
theorem aA2:bT Tryz.prog 33=some (some 32):=by kernel_rfl
theorem aVg:bT Tryz.prog 404=some (some 12):=by kernel_rfl
theorem aXi:aL Tryz.prog 380=true:=by kernel_rfl
theorem iN:bJ Tryz.prog 351=some (25,1,24):=by kernel_rfl
theorem uC:(bJ Tryz.prog 351).isSome=true:=by kernel_rfl
theorem aMN:aL Tryz.prog 352=true:=by kernel_rfl
theorem vR (xs:List Y) (h:Sh) (n:BitVec 64) (many:Nat) (G:PM) (hs:SlR G 1 aN h xs) (hl:xs.length≤140737488351232) (hm:many≤8):Ct Tryz.prog 207 ([h.val xs.length,uv .u64 n,.int .i64 (many:Int)]:List Value).toArray G [] (PR 5 (fun L=>L=xs++dQ n many)):=by
 refine Ct.of Tryz.func207 rfl Tryz.ntmps207 rfl fun w0 hs0=>?_
 refine .seq (aQ rfl rfl (aS rfl rfl (.nc (.seq (dT rfl rfl ?_)))))
 refine oF rfl aP ?_; intro b8
 refine .p (qM rfl aP bY (.u rfl) (.u rfl) .here hs.sc (by (try simp only [cI,cR]); omega) ?_)
 intro v10 L10 _ ov10 eL10
 have lL10:L10.length=xs.length:=by rw [eL10]
 refine .g (xK (many) (8) rfl .no (.u rfl) (.u rfl) (by omega) (by omega) ?_)
 refine mAn (0) ((min many 8)) rfl .no (.u rfl) (.u rfl) (by omega) (by omega) ?_
 refine mV rfl rfl (.nc (.block ?_))
 refine aX (α:=Nat×Value×List Y×BitVec 64) (fun gh=>[(1,true,uv .u64 gh.2.2.2),(7,true,gh.2.1),(14,true,.int .i64 (gh.1:Int))]) (fun gh=>[rB gh.2.1 5 gh.2.2.1])
  (fun gh Gl=>(gh.1≤many)∧(gh.2.2.1=xs++dQ n gh.1)∧(gh.2.2.2=n >>> (8*gh.1))) (fun gh=>many-gh.1) (0,_,_,n) [(13,true,_)] []
  (aA rfl (aA rfl (aM rfl (aA rfl eZ))))
  (mS .here rfl mN) ?_ ?_
 ·refine ⟨?_,?_,?_⟩
  ·(try dsimp only)<;>(first|omega|rfl|assumption|(simp; done))
  ·(try dsimp only)<;>(rw [eL10]; simp [dQ])
  (try dsimp only)<;>(simp)
 intro gh N0 Gl0 hN0 hGl0 hF0
 obtain ⟨k,v,L,m⟩:=gh; dsimp only at hF0 hN0 ⊢
 obtain ⟨hk,eL,em⟩:=hF0
 have lL:L.length=xs.length+k:=by rw [eL]; simp [fP]
 refine .g (cP rfl rfl rfl rfl (.g (cD rfl (fun c1=>?_) (fun c1=>?_))))
 ·have c1k:=c1
  try simp only [aD,aE] at c1
  refine .g (cu (k:=.u64) rfl .no rfl vU (.u rfl) ?_)
  refine Go.Tan.b1 rfl aP bY (.u rfl) rfl rfl (by decide) ?_; intro b19
  refine eN rfl aP bY (.u rfl) (.u rfl) aC (Sc.one .here) (by show _+1≤_; omega) ?_
  intro v20 L20 ov20 eL20
  have lL20:L20.length=L.length+1:=by rw [eL20,List.length_append]; first|rfl | simp [cR]
  refine .g (oO (k:=.u64) rfl .no (.u rfl) (.u rfl) (fun _=>by decide) ?_)
  refine .g (aW (((k+1):Nat):Int) rfl rfl rfl rfl ?_)
  refine .g (aU (k+1,v20,L20,m >>> 8) ?_ ?_ ?_ ?_ ?_)
  ·exact (aA rfl (aA rfl (aM rfl (aA rfl eZ))))
  ·exact (mS .here rfl mN)
  ·first|omega|(dsimp only; omega)
  ·exact hGl0
  refine ⟨?_,?_,?_⟩
  ·(try dsimp only)<;>(first|omega|rfl|assumption|(simp; done))
  ·(try dsimp only)<;>(rw [eL20,eL,em,aPd,List.append_assoc]; rfl)
  (try dsimp only)<;>(rw [em,←BitVec.shiftRight_add]; rfl)
 have c1k:=c1
 try simp only [aD,aE] at c1
 refine .exit (.xcode (.xlp (.xblk (.code (.seq (bB rfl rfl (mV rfl rfl (aS rfl rfl (.nc (.ret (bD Tryz.results207 (.tmp rfl .nil) (mS .here rfl mN) ?_)))))))))))
 obtain rfl:k=many:=by omega
 exact ⟨L,eL,rfl⟩
theorem aFR (key nonce:Nat→Y) (count:W) (h:Sh) (xs:List Y) (G:PM) (hs:SlR G 1 aN h xs) (hl:xs.length≤140737488351232):Ct Tryz.prog 340 ([.agg (ba 32 key).toArray,.agg (ba 12 nonce).toArray,U count,h.val xs.length]:List Value).toArray G [] (PR 5 (fun L=>L=jN key nonce count xs)):=by
 refine Ct.of Tryz.func340 rfl Tryz.ntmps340 rfl fun w0 hs0=>?_
 refine .seq (dP rfl rfl ?_)
 refine bX rfl rfl rfl ?_; intro b4
 refine bX rfl rfl rfl ?_; intro b5
 refine aS rfl rfl (.nc (.seq (dT rfl rfl ?_)))
 refine oF rfl aP ?_; intro b14
 refine .p (qM rfl aP bY (.u rfl) (.u rfl) .here hs.sc (by (try simp only [cI,cR]); omega) ?_)
 intro v16 L16 _ ov16 eL16
 have lL16:L16.length=xs.length:=by rw [eL16]
 refine aS rfl rfl (.nc (.seq (.seq ?_)))
 refine tQ .here ?_; intro sR16 bbR16 evR16 lcR16 oaR16; subst evR16
 obtain rfl:=eL16.symm
 refine bB rfl rfl (mV rfl rfl (aS rfl rfl (.nc (.block ?_))))
 refine aX (α:=Nat×Sh×List Y) (fun gh=>[(2,true,U (count+BitVec.ofNat 32 gh.1)),(10,true,gh.2.1.val (xs.length-64*gh.1))]) (fun gh=>[rB (sR16.val xs.length) 5 gh.2.2])
  (fun gh Gl=>(gh.2.2.length=xs.length)∧(gh.2.2=kZ key nonce count xs (64*gh.1))∧(64*gh.1<xs.length→gh.2.1.oa=some ⟨bbR16,64*gh.1,none⟩)∧(xs.length-64*gh.1≤gh.2.1.cap)) (fun gh=>xs.length-64*gh.1) (0,sR16,xs) [(4,true,_),(5,true,_),(9,true,_)] [_,_]
  (eJ rfl (by simp) (aA rfl (aA rfl (aA rfl (aA rfl eZ)))))
  (mS .here rfl (mS .here rfl (mS .here rfl mN))) ?_ ?_
 ·refine ⟨?_,?_,?_,?_⟩
  ·(try dsimp only)<;>(rfl)
  ·(try dsimp only)<;>(exact (aOS _ _ _ _).symm)
  ·(try dsimp only)<;>(exact oaR16)
  (try dsimp only)<;>(exact lcR16)
 intro gh N0 Gl0 hN0 hGl0 hF0
 obtain ⟨j,r,L⟩:=gh; dsimp only at hF0 hN0 ⊢
 obtain ⟨lL,eL,hr,hrc⟩:=hF0
 refine .g (lE rfl bV rfl (cP rfl rfl rfl rfl (.g (cD rfl (fun c1=>?_) (fun c1=>?_)))))
 ·have c1k:=c1
  try simp only [aD,aE] at c1
  refine .skip (.code (.seq (.block (.seq ?_))))
  have hlt:64*j<xs.length:=by omega
  have e1:=oaR16 (by omega)
  have e2:=hr hlt
  obtain ⟨so,sc⟩:=sR16
  obtain ⟨ro,rc⟩:=r
  simp only at e1 e2
  subst e1; subst e2
  refine .g (lB rfl aA2 rfl aI ?_)
  refine lB rfl aVg rfl aC ?_
  refine .p (kV rfl aXi (aB rfl (aB rfl (aB rfl aF))) (aLC _ _ _ _) ?_)
  refine al rfl wL ?_; intro b11
  refine sw rfl (.u rfl) (.u rfl) rfl jY .here (by first|exact qE|exact qL|rfl) (lX _ _) ?_
  refine .g (lE rfl bV rfl (xK ((xs.length-64*j)) (64) rfl .no (.u rfl) (.u rfl) (by omega) (by omega) ?_))
  refine aS rfl rfl (.nc (.seq (.seq (bB rfl rfl (mV rfl rfl (mV rfl rfl (.nc (.block ?_))))))))
  refine aX (α:=Nat×List Y) (fun gh=>[(31,true,.int .i64 (gh.1:Int))]) (fun gh=>[rB (Sh.val ⟨some ⟨bbR16,0,none⟩,sc⟩ xs.length) 5 gh.2])
   (fun gh Gl=>(gh.1≤min (xs.length-64*j) 64)∧(gh.2=kZ key nonce count xs (64*j+gh.1))) (fun gh=>64-gh.1) (0,L) [(2,true,_),(4,true,_),(5,true,_),(9,true,_),(10,true,_),(11,true,_),(12,true,_),(30,true,_)] [_,_,_]
   (aM rfl (aA rfl (aA rfl (aA rfl (aA rfl (aA rfl (aA rfl (aA rfl (aA rfl eZ)))))))))
   (mS aC rfl (mS .here rfl (mS .here rfl (mS .here rfl mN)))) ?_ ?_
  ·refine ⟨?_,?_⟩
   ·(try dsimp only)<;>(exact Nat.zero_le _)
   (try dsimp only)<;>(rw [eL]; rfl)
  intro gh N1 Gl1 hN1 hGl1 hF1
  obtain ⟨i,L2⟩:=gh; dsimp only at hF1 hN1 ⊢
  obtain ⟨hi,eL2⟩:=hF1
  have lL2:L2.length=xs.length:=by rw [eL2,aHF]
  refine .g (cP rfl rfl rfl rfl (.g (cD rfl (fun c2=>?_) (fun c2=>?_))))
  ·have c2k:=c2
   try simp only [aD,aE] at c2
   refine .g (bO (mc:=⟨false,false⟩) [0,1,2,3,4,5,6,7,8,9] aY (by kernel_rfl) ?_)
   refine mV rfl rfl (mV rfl rfl (ih rfl .no aP (.u rfl) (.u rfl) (by omega) (by omega) (fun _=>rfl) ?_))
   refine lN rfl bM rfl (Rd.row .here (aRF (o:=64*j) (64*j+i) (by omega) (by omega))) ?_
   refine .p (iW rfl jW rfl rfl ?_)
   refine lO rfl bM rfl aC (by first|exact dA (i) (by omega) (by omega)|exact gA (i) (by omega) (by omega)|exact gR (i) (by omega) (by omega)|rfl) ?_
   refine bw (k:=.u8) rfl .no rfl (.u rfl) (.u rfl) rfl (ih rfl .no aP (.u rfl) (.u rfl) (by omega) (by omega) (fun _=>rfl) ?_)
   refine s1r rfl (.u rfl) (.u rfl) mZ .here (by show 64*j+_*1<_; omega) ?_; intro L9 eL9 lL9
   refine .g (aW (((i+1):Nat):Int) rfl rfl rfl rfl ?_)
   refine .g (aU (i+1,L9) ?_ ?_ ?_ ?_ ?_)
   ·exact (aM rfl (aA rfl (aA rfl (aA rfl (aA rfl (aA rfl (aA rfl (aA rfl (aA rfl eZ)))))))))
   ·exact (mS .here rfl (mS .here rfl (mS .here rfl (mS .here rfl mN))))
   ·first|omega|(dsimp only; omega)
   ·exact hGl1
   refine ⟨?_,?_⟩
   ·(try dsimp only)<;>(omega)
   (try dsimp only)<;>(rw [eL9,eL2,show (Sh.o ⟨some ⟨bbR16,64*j,none⟩,rc⟩+(i:Int).toNat*1)=64*j+i from (by show 64*j+_*1=_; omega)]; exact aOR (xs:=xs) (j:=j) (i:=i) (by omega) (by omega))
  have c2k:=c2
  try simp only [aD,aE] at c2
  refine .g (sd rfl .no aP (.u rfl) (.u rfl) (by omega) (by omega) ?_)
  refine .g (bw (k:=.u32) (b:=1#32) rfl .no rfl (.u rfl) (.u rfl) rfl (.g (aU (j+1,Sh.cut ⟨some ⟨bbR16,64*j,none⟩,rc⟩ (min (xs.length-64*j) 64) 1,L2) ?_ ?_ ?_ ?_ ?_)))
  ·exact (eJ rfl (by show U (count+BitVec.ofNat 32 j+1#32)=U (count+BitVec.ofNat 32 (j+1)); rw [BitVec.add_assoc,←BitVec.ofNat_add]) (eJ rfl (congrArg (Sh.val _) (by omega)) (aA rfl (aA rfl (aA rfl eZ)))))
  ·exact (mS .here (by rfl) (mS aC rfl (mS aC rfl mN)))
  ·first|omega|(dsimp only; omega)
  ·exact (hGl0).trans hGl1
  refine ⟨?_,?_,?_,?_⟩
  ·(try dsimp only)<;>(rw [eL2,aHF])
  ·(try dsimp only)<;>(rw [eL2]; exact aOT (by omega))
  ·(try dsimp only)<;>(intro h3; have hrc2:xs.length-64*j≤rc:=hrc; exact aOd (by omega) (by omega))
  (try dsimp only)<;>(show _≤rc-_; have hrc2:xs.length-64*j≤rc:=hrc; omega)
 have c1k:=c1
 try simp only [aD,aE] at c1
 refine .exit (.xcode (.xlp (.xblk (.code (.seq (bB rfl rfl (mV rfl rfl (aS rfl rfl (.nc (.ret (bD Tryz.results340 (.tmp rfl .nil) (mS .here rfl mN) ?_)))))))))))
 exact ⟨L,by rw [eL,aOQ (by omega)],rfl⟩
theorem aAk (ps:List (Sh×List Y)) (h:Sh) (G:PM) (hs:SlP G h ps) (hK:RdNP G 6 0 (wa 64 kW)) (hl:(cN ps).length≤1152921504606846976) (hn:ps.length≤1000):Ct Tryz.prog 311 ([h.val ps.length]:List Value).toArray G [] (fun _ μ' u=>μ'=[]∧u=.agg (ba 32 (lH (cN ps))).toArray):=by
 refine Ct.of Tryz.func311 rfl Tryz.ntmps311 rfl fun w0 hs0=>?_
 refine .seq (aQ rfl rfl ?_)
 refine al rfl jK ?_; intro b2
 refine .g (kv rfl .no aF7 aF (fun _=>aDn _) ?_)
 refine al rfl aDQ ?_; intro b3
 refine sw rfl (.u rfl) (.u rfl) rfl aBW .here (by rfl) (vB (tO _ _) (vA rfl rfl)) ?_
 refine .nil (vM 5 ?_)
 refine .g (lE rfl uC rfl (mV rfl rfl (.nc (.block ?_))))
 refine aX (α:=Nat×Value) (fun gh=>[(9,true,.int .i64 (gh.1:Int))]) (fun gh=>[rB gh.2 5 (dW (cN (ps.take gh.1))),.blk b3 (cl (gQ (cN (ps.take gh.1)) gh.2) 463)])
  (fun gh Gl=>(gh.1≤ps.length)) (fun gh=>ps.length-gh.1) (0,.slice none 0 0) [(2,true,_),(3,true,_),(7,true,_),(8,true,_)] [_]
  (aM rfl (aA rfl (aA rfl (aA rfl (aA rfl eZ)))))
  (mS .here (by simp [dW,cN]) (mS .here rfl (mS .here rfl mN))) ?_ ?_
 ·(try dsimp only)<;>(first|omega|rfl|assumption|(simp; done))
 intro gh N0 Gl0 hN0 hGl0 hF0
 obtain ⟨k,vq⟩:=gh; dsimp only at hF0 hN0 ⊢
 have hk:=hF0
 have hs:=hs.mono hGl0
 have hK:=hK.mono hGl0
 refine .g (cP rfl rfl rfl rfl (.g (cD rfl (fun c1=>?_) (fun c1=>?_))))
 ·have c1k:=c1
  try simp only [aD,aE] at c1
  refine .skip (.code (.seq (.block (.seq (dP rfl rfl (ih rfl .no iN (.u rfl) (.u rfl) (by omega) (by omega) (fun _=>hs.sl.nn (k:=k) (by omega)) ?_))))))
  obtain ⟨p12,ep12⟩:=dY (k:=k) (xs:=ps) (by omega)
  have hq12:=hs.get ep12
  refine lN rfl dB rfl ((hs.at (k) (by omega) ep12).rd) ?_
  refine .g (ka rfl (.inr rfl) aF8 (aB rfl (aB rfl aF)) (dI aC .here) (aEo (cN (ps.take k)) p12.2 _ _ _ _ hq12 hK (by have:=aDv ep12; omega)) ?_)
  rintro _ G14 μ14 hG14 ⟨vq',rfl,rfl⟩
  have hK:=hK.mono hG14
  refine .g (aW (((k+1):Nat):Int) rfl rfl rfl rfl ?_)
  refine .g (aU (k+1,vq') ?_ ?_ ?_ ?_ ?_)
  ·exact (aM rfl (aA rfl (aA rfl (aA rfl (aA rfl eZ)))))
  ·exact (mS aC (by rw [wV ep12]) (mS .here (by rw [wV ep12]) (mS .here rfl mN)))
  ·first|omega|(dsimp only; omega)
  ·exact (hGl0).trans hG14
  (try dsimp only)<;>(first|omega|rfl|assumption|(simp; done))
 have c1k:=c1
 try simp only [aD,aE] at c1
 refine .exit (.xcode (.xlp (.xblk (.code (.seq ?_)))))
 obtain rfl:k=ps.length:=by omega
 rw [List.take_length]
 refine .g (ka rfl (.inr rfl) aMN (aB rfl aF) (dI aC .here) (aGd (cN ps) _ _ _ hK hl) ?_)
 rintro _ G16 μ16 hG16 ⟨rfl,rfl⟩
 refine sW rfl rfl rfl rfl iO aI ?_
 refine .nil (.code (.ret (aK Tryz.results311 (.cell rfl (fun w hw=>bW dJ (RdN.own .here) ((by first|exact qE|exact qL|rfl)) hw) .nil) ?_)))
 exact ⟨rfl,rfl⟩
theorem lT:(Tryz.prog.info? 25).bind (·.zero)=some (.slice none 0 0):=by kernel_rfl
theorem aBN:aL Tryz.prog 311=true:=by kernel_rfl
theorem SlP.one {G:PM} {b T:Nat} {h1:Sh} {L1:List Y} (hle:PM.le G (G.add b (cl [h1.val L1.length] T))) (hs:SlR G 1 aN h1 L1):SlP (G.add b (cl [h1.val L1.length] T)) ⟨some ⟨b,0,none⟩,1⟩ [(h1,L1)] :=
 ⟨fD (T:=T) (bU _ _ _) (fun _ _=>rfl) (by simp),fun p hp=>by rw [List.mem_singleton.1 hp]; exact hs.mono hle⟩
theorem aNO {G:PM} {b T:Nat} {h1 h2:Sh} {L1 L2:List Y} (hle:PM.le G (G.add b (cl [h1.val L1.length,h2.val L2.length] T))) (hs:SlR G 1 aN h1 L1) (hs2:SlR G 1 aN h2 L2):SlP (G.add b (cl [h1.val L1.length,h2.val L2.length] T)) ⟨some ⟨b,0,none⟩,2⟩ [(h1,L1),(h2,L2)] :=
 ⟨fD (T:=T) (bU _ _ _) (fun _ _=>rfl) (by simp),fun p hp=>by
  rcases List.mem_cons.1 hp with rfl | hp
  ·exact hs.mono hle
  ·rw [List.mem_singleton.1 hp]; exact hs2.mono hle⟩
theorem SlP.four {G:PM} {b T:Nat} {h1 h2 h3 h4:Sh} {L1 L2 L3 L4:List Y} (hle:PM.le G (G.add b (cl [h1.val L1.length,h2.val L2.length,h3.val L3.length,h4.val L4.length] T))) (hs:SlR G 1 aN h1 L1) (hs2:SlR G 1 aN h2 L2) (hs3:SlR G 1 aN h3 L3) (hs4:SlR G 1 aN h4 L4) :
  SlP (G.add b (cl [h1.val L1.length,h2.val L2.length,h3.val L3.length,h4.val L4.length] T)) ⟨some ⟨b,0,none⟩,4⟩ [(h1,L1),(h2,L2),(h3,L3),(h4,L4)] :=
 ⟨fD (T:=T) (bU _ _ _) (fun _ _=>rfl) (by simp),fun p hp=>by
  simp only [List.mem_cons,List.not_mem_nil,or_false] at hp
  rcases hp with rfl|rfl|rfl|rfl
  ·exact hs.mono hle
  ·exact hs2.mono hle
  ·exact hs3.mono hle
  ·exact hs4.mono hle⟩
theorem aUT {G:PM} {b T:Nat} {h1:Sh} {L1:List Y} (hle:PM.le G (G.add b (cl [h1.val L1.length] T))) (hs:SlR G 1 aN h1 L1) (hK:RdNP G 6 0 (wa 64 kW)) (hl:L1.length≤1152921504606846976):Ct Tryz.prog 311 ([.slice (some ⟨b,0,none⟩) 1 1]:List Value).toArray (G.add b (cl [h1.val L1.length] T)) [] (fun _ μ' u=>μ'=[]∧u=.agg (ba 32 (lH L1)).toArray):=by
 have h:=aAk [(h1,L1)] ⟨some ⟨b,0,none⟩,1⟩ _ (SlP.one hle hs) (hK.mono hle) (by simpa [cN] using hl) (by simp)
 rw [show cN [(h1,L1)]=L1 by simp [cN]] at h
 exact h
theorem aUU {G:PM} {b T:Nat} {h1 h2:Sh} {L1 L2:List Y} (hle:PM.le G (G.add b (cl [h1.val L1.length,h2.val L2.length] T))) (hs:SlR G 1 aN h1 L1) (hs2:SlR G 1 aN h2 L2) (hK:RdNP G 6 0 (wa 64 kW)) (hl:L1.length+L2.length≤1152921504606846976):Ct Tryz.prog 311 ([.slice (some ⟨b,0,none⟩) 2 2]:List Value).toArray (G.add b (cl [h1.val L1.length,h2.val L2.length] T)) [] (fun _ μ' u=>μ'=[]∧u=.agg (ba 32 (lH (L1++L2))).toArray):=by
 have h:=aAk [(h1,L1),(h2,L2)] ⟨some ⟨b,0,none⟩,2⟩ _ (aNO hle hs hs2) (hK.mono hle) (by simpa [cN] using hl) (by simp)
 rw [show cN [(h1,L1),(h2,L2)]=L1++L2 by simp [cN]] at h
 exact h
theorem aCR {f g:Nat→Y} {k:Nat} {a b:Y} (ef:f=gP g k) (h:b=g k):bG (bG f k a) k b=gP g (k+1):=by
 rw [aFH,ef,h]; rfl
theorem aAe {f g:Nat→Y} {k:Nat} {a:Y} (ef:f=gP g k) (h:a=g k):bG f k a=gP g (k+1):=by
 rw [ef,h]; rfl
theorem aSc (key:List Y) (h:Sh) (G:PM) (hs:SlR G 1 aN h key) (hK:RdNP G 6 0 (wa 64 kW)) (hl:key.length≤140737488351232):Ct Tryz.prog 393 ([h.val key.length]:List Value).toArray G [] (fun _ μ' u=>μ'=[]∧u=.tuple #[.agg (ba 64 (eU key 54#8)).toArray,.agg (ba 64 (eU key 92#8)).toArray]):=by
 refine Ct.of Tryz.func393 rfl Tryz.ntmps393 rfl fun w0 hs0=>?_
 refine .seq (bB rfl rfl ?_)
 refine al rfl wL ?_; intro b2
 refine al rfl wL ?_; intro b3
 refine .g (lE rfl bV rfl (cP rfl rfl rfl rfl (.g (cD rfl (fun c1=>?_) (fun c1=>?_)))))
 ·have c1k:=c1
  try simp only [aD,aE] at c1
  have ek1:uR key=aE7 key:=by unfold uR; rw [if_pos (by omega)]
  refine .seq (lF rfl rfl (mV rfl rfl ?_))
  refine Go.Tan.b1 rfl iN lT (.u rfl) rfl rfl (by decide) ?_; intro b10
  refine kp rfl .no aBN (aB rfl aF) (Gp.add .here Gp.nil) (fun _ hle hq=>aUT hle hs hK (by omega)) ?_
  refine al rfl jK ?_; intro b4
  refine sW rfl rfl rfl rfl iO .here ?_
  refine .nil (.code ?_)
  refine dL .here (by intro b hb; cases hb) ?_; intro Gfb4 hleb4 hbb4
  have hs:=hs.mono hleb4
  refine bB rfl rfl ?_
  refine kA rfl .no mR (.u rfl) hbb4 (by first|exact qO|exact oE|exact app_r) ?_; intro h12 L12 eL12 lL12 hs12
  refine aS rfl rfl (.nil ?_)
  have ek1:uR key=L12:=by rw [ek1,eL12]; rfl
  refine .code (.seq (.seq ?_))
  skip
  refine aQ rfl rfl (mV rfl rfl (.nc (.block ?_)))
  refine aX (α:=Nat×(Nat→Y)×(Nat→Y)) (fun gh=>[(13,true,.int .i64 (gh.1:Int))]) (fun gh=>[.blk b3 (cl (ba 64 gh.2.2) 470),.blk b2 (cl (ba 64 gh.2.1) 470)])
   (fun gh Gl=>(gh.1≤64)∧(gh.2.1=gP (eU key 54#8) gh.1)∧(gh.2.2=gP (eU key 92#8) gh.1)) (fun gh=>64-gh.1) (0,fun _=>0#8,fun _=>0#8) [(0,true,_),(2,true,_),(3,true,_)] [_]
   (aM rfl (aA rfl (aA rfl (aA rfl eZ))))
   (mS aC rfl (mS aC rfl (mS .here rfl mN))) ?_ ?_
  ·refine ⟨?_,?_,?_⟩
   ·(try dsimp only)<;>(first|omega|rfl|assumption|(simp; done))
   ·(try dsimp only)<;>(first|omega|rfl|assumption|(simp; done))
   (try dsimp only)<;>(first|omega|rfl|assumption|(simp; done))
  intro gh N0 Gl0 hN0 hGl0 hF0
  obtain ⟨k,f,f2⟩:=gh; dsimp only at hF0 hN0 ⊢
  obtain ⟨hk,ef,ef2⟩:=hF0
  have hs:=hs.mono hGl0
  have hs12:=hs12.mono hGl0
  refine .g (cP rfl rfl rfl rfl (.g (cD rfl (fun c2=>?_) (fun c2=>?_))))
  ·have c2k:=c2
   try simp only [aD,aE] at c2
   refine .g (iW rfl jW rfl rfl ?_)
   refine s1 rfl (.u rfl) (.u rfl) rfl mZ aC (by first|decide|(simp only [cC,bP,cI]; omega)) (by first|exact kY (z:=54#8) (k) (by omega)|exact dR (z:=54#32) (k) (by omega)|rfl) ?_
   refine iW rfl jW rfl rfl ?_
   refine s1 rfl (.u rfl) (.u rfl) rfl mZ aC (by first|decide|(simp only [cC,bP,cI]; omega)) (by first|exact kY (z:=92#8) (k) (by omega)|exact dR (z:=92#32) (k) (by omega)|rfl) ?_
   refine .g (lE rfl bV rfl (cP rfl rfl rfl rfl (.g (cD rfl (fun c3=>?_) (fun c3=>?_)))))
   ·have c3k:=c3
    try simp only [aD,aE] at c3
    refine .seq (bO (mc:=⟨false,false⟩) [0,1,2,3,4,5,6,7,8,9] aY (by kernel_rfl) ?_)
    refine .p (iW rfl jW rfl rfl ?_)
    refine lO rfl bM rfl aC (by first|exact dA (k) (by omega) (by omega)|exact gA (k) (by omega) (by omega)|exact gR (k) (by omega) (by omega)|rfl) ?_
    refine mV rfl rfl (mV rfl rfl (ih rfl .no aP (.u rfl) (.u rfl) (by omega) (by omega) (fun _=>hs12.nn (k:=k) (by omega)) ?_))
    refine lN rfl bM rfl ((hs12.yat (k) (by omega) (by omega)).rd) ?_
    refine bw (k:=.u8) rfl .no rfl (.u rfl) (.u rfl) rfl (iW rfl jW rfl rfl ?_)
    refine s1 rfl (.u rfl) (.u rfl) rfl mZ aC (by first|decide|(simp only [cC,bP,cI]; omega)) (by first|exact dR (k) (by omega)|exact kY (k) (by omega)|exact rL (k) (by omega) (by omega)|rfl) ?_
    refine .g (bO (mc:=⟨false,false⟩) [0,1,2,3,4,5,6,7,8,9] aY (by kernel_rfl) ?_)
    refine .p (iW rfl jW rfl rfl ?_)
    refine lO rfl bM rfl aC (by first|exact dA (k) (by omega) (by omega)|exact gA (k) (by omega) (by omega)|exact gR (k) (by omega) (by omega)|rfl) ?_
    refine mV rfl rfl (mV rfl rfl (ih rfl .no aP (.u rfl) (.u rfl) (by omega) (by omega) (fun _=>hs12.nn (k:=k) (by omega)) ?_))
    refine lN rfl bM rfl ((hs12.yat (k) (by omega) (by omega)).rd) ?_
    refine bw (k:=.u8) rfl .no rfl (.u rfl) (.u rfl) rfl (iW rfl jW rfl rfl ?_)
    refine s1 rfl (.u rfl) (.u rfl) rfl mZ aC (by first|decide|(simp only [cC,bP,cI]; omega)) (by first|exact dR (k) (by omega)|exact kY (k) (by omega)|exact rL (k) (by omega) (by omega)|rfl) ?_
    refine .g (aW (((k+1):Nat):Int) rfl rfl rfl rfl ?_)
    refine .g (aU (k+1,bG (bG f k 54#8) k (bG f k 54#8 k ^^^ L12.getD k 0),bG (bG f2 k 92#8) k (bG f2 k 92#8 k ^^^ L12.getD k 0)) ?_ ?_ ?_ ?_ ?_)
    ·exact (aM rfl (aA rfl (aA rfl (aA rfl eZ))))
    ·exact (mS .here rfl (mS .here rfl (mS .here rfl mN)))
    ·first|omega|(dsimp only; omega)
    ·exact hGl0
    refine ⟨?_,?_,?_⟩
    ·(try dsimp only)<;>(first|omega|rfl|assumption|(simp; done))
    ·(try dsimp only)<;>(exact aCR ef (by rw [yG,eU,ek1,if_pos (by omega)]))
    (try dsimp only)<;>(exact aCR ef2 (by rw [yG,eU,ek1,if_pos (by omega)]))
   have c3k:=c3
   try simp only [aD,aE] at c3
   refine .g (aW (((k+1):Nat):Int) rfl rfl rfl rfl ?_)
   refine .g (aU (k+1,bG f k 54#8,bG f2 k 92#8) ?_ ?_ ?_ ?_ ?_)
   ·exact (aM rfl (aA rfl (aA rfl (aA rfl eZ))))
   ·exact (mS .here rfl (mS .here rfl (mS .here rfl mN)))
   ·first|omega|(dsimp only; omega)
   ·exact hGl0
   refine ⟨?_,?_,?_⟩
   ·(try dsimp only)<;>(first|omega|rfl|assumption|(simp; done))
   ·(try dsimp only)<;>(exact aAe ef (by rw [eU,ek1,if_neg (by omega)]))
   (try dsimp only)<;>(exact aAe ef2 (by rw [eU,ek1,if_neg (by omega)]))
  have c2k:=c2
  try simp only [aD,aE] at c2
  refine .exit (.xcode (.xlp (.xblk (.code (.seq (aGj aY rfl ?_))))))
  refine WoT.n2 0 1 (by kernel_rfl) ?_ ?_
  ·refine lB rfl fR rfl aC ?_
   refine .nil (WoT.n2 1 2 (by kernel_rfl) ?_ ?_)
   ·refine lB rfl fR rfl .here ?_
    refine .nil (WoT.n1 2 (by kernel_rfl) ?_)
    refine sW rfl rfl rfl rfl jY aC ?_
    refine .nil (WoT.n1 3 (by kernel_rfl) ?_)
    refine sW rfl rfl rfl rfl jY aC ?_
    refine .nil (WoT.last (by kernel_rfl) ?_)
    refine .code (.ret (aK Tryz.results393 (.cell rfl (fun w hw=>bW fR (RdN.own aC) ((by first|exact qE|exact qL|rfl)) hw) (.cell rfl (fun w hw=>bW fR (RdN.own .here) ((by first|exact qE|exact qL|rfl)) hw) .nil)) ?_))
    obtain rfl:k=64:=by omega
    exact ⟨rfl,by rw [ef,ef2,jC (fun i hi=>kN (eU key 54#8) hi),jC (fun i hi=>kN (eU key 92#8) hi)]; rfl⟩
   refine sW rfl rfl rfl rfl jY aC ?_
   refine .nil (WoT.n1 1 (by kernel_rfl) ?_)
   refine lB rfl fR rfl aC ?_
   refine .nil (WoT.n1 3 (by kernel_rfl) ?_)
   refine sW rfl rfl rfl rfl jY aC ?_
   refine .nil (WoT.last (by kernel_rfl) ?_)
   refine .code (.ret (aK Tryz.results393 (.cell rfl (fun w hw=>bW fR (RdN.own aC) ((by first|exact qE|exact qL|rfl)) hw) (.cell rfl (fun w hw=>bW fR (RdN.own .here) ((by first|exact qE|exact qL|rfl)) hw) .nil)) ?_))
   obtain rfl:k=64:=by omega
   exact ⟨rfl,by rw [ef,ef2,jC (fun i hi=>kN (eU key 54#8) hi),jC (fun i hi=>kN (eU key 92#8) hi)]; rfl⟩
  refine lB rfl fR rfl .here ?_
  refine .nil (WoT.n1 0 (by kernel_rfl) ?_)
  refine lB rfl fR rfl aC ?_
  refine .nil (WoT.n1 2 (by kernel_rfl) ?_)
  refine sW rfl rfl rfl rfl jY aC ?_
  refine .nil (WoT.n1 3 (by kernel_rfl) ?_)
  refine sW rfl rfl rfl rfl jY aC ?_
  refine .nil (WoT.last (by kernel_rfl) ?_)
  refine .code (.ret (aK Tryz.results393 (.cell rfl (fun w hw=>bW fR (RdN.own aC) ((by first|exact qE|exact qL|rfl)) hw) (.cell rfl (fun w hw=>bW fR (RdN.own .here) ((by first|exact qE|exact qL|rfl)) hw) .nil)) ?_))
  obtain rfl:k=64:=by omega
  exact ⟨rfl,by rw [ef,ef2,jC (fun i hi=>kN (eU key 54#8) hi),jC (fun i hi=>kN (eU key 92#8) hi)]; rfl⟩
 have c1k:=c1
 try simp only [aD,aE] at c1
 have ek2:uR key=key:=by unfold uR; rw [if_neg (by omega)]
 refine .skip (.code (.seq (.seq ?_)))
 skip
 refine aQ rfl rfl (mV rfl rfl (.nc (.block ?_)))
 refine aX (α:=Nat×(Nat→Y)×(Nat→Y)) (fun gh=>[(13,true,.int .i64 (gh.1:Int))]) (fun gh=>[.blk b3 (cl (ba 64 gh.2.2) 470),.blk b2 (cl (ba 64 gh.2.1) 470)])
  (fun gh Gl=>(gh.1≤64)∧(gh.2.1=gP (eU key 54#8) gh.1)∧(gh.2.2=gP (eU key 92#8) gh.1)) (fun gh=>64-gh.1) (0,fun _=>0#8,fun _=>0#8) [(0,true,_),(2,true,_),(3,true,_)] []
  (aM rfl (aA rfl (aA rfl (aA rfl eZ))))
  (mS .here rfl (mS .here rfl mN)) ?_ ?_
 ·refine ⟨?_,?_,?_⟩
  ·(try dsimp only)<;>(first|omega|rfl|assumption|(simp; done))
  ·(try dsimp only)<;>(first|omega|rfl|assumption|(simp; done))
  (try dsimp only)<;>(first|omega|rfl|assumption|(simp; done))
 intro gh N1 Gl1 hN1 hGl1 hF1
 obtain ⟨k,f,f2⟩:=gh; dsimp only at hF1 hN1 ⊢
 obtain ⟨hk,ef,ef2⟩:=hF1
 have hs:=hs.mono hGl1
 refine .g (cP rfl rfl rfl rfl (.g (cD rfl (fun c4=>?_) (fun c4=>?_))))
 ·have c4k:=c4
  try simp only [aD,aE] at c4
  refine .g (iW rfl jW rfl rfl ?_)
  refine s1 rfl (.u rfl) (.u rfl) rfl mZ aC (by first|decide|(simp only [cC,bP,cI]; omega)) (by first|exact kY (z:=54#8) (k) (by omega)|exact dR (z:=54#32) (k) (by omega)|rfl) ?_
  refine iW rfl jW rfl rfl ?_
  refine s1 rfl (.u rfl) (.u rfl) rfl mZ aC (by first|decide|(simp only [cC,bP,cI]; omega)) (by first|exact kY (z:=92#8) (k) (by omega)|exact dR (z:=92#32) (k) (by omega)|rfl) ?_
  refine .g (lE rfl bV rfl (cP rfl rfl rfl rfl (.g (cD rfl (fun c5=>?_) (fun c5=>?_)))))
  ·have c5k:=c5
   try simp only [aD,aE] at c5
   refine .seq (bO (mc:=⟨false,false⟩) [0,1,2,3,4,5,6,7,8,9] aY (by kernel_rfl) ?_)
   refine .p (iW rfl jW rfl rfl ?_)
   refine lO rfl bM rfl aC (by first|exact dA (k) (by omega) (by omega)|exact gA (k) (by omega) (by omega)|exact gR (k) (by omega) (by omega)|rfl) ?_
   refine mV rfl rfl (mV rfl rfl (ih rfl .no aP (.u rfl) (.u rfl) (by omega) (by omega) (fun _=>hs.nn (k:=k) (by omega)) ?_))
   refine lN rfl bM rfl ((hs.yat (k) (by omega) (by omega)).rd) ?_
   refine bw (k:=.u8) rfl .no rfl (.u rfl) (.u rfl) rfl (iW rfl jW rfl rfl ?_)
   refine s1 rfl (.u rfl) (.u rfl) rfl mZ aC (by first|decide|(simp only [cC,bP,cI]; omega)) (by first|exact dR (k) (by omega)|exact kY (k) (by omega)|exact rL (k) (by omega) (by omega)|rfl) ?_
   refine .g (bO (mc:=⟨false,false⟩) [0,1,2,3,4,5,6,7,8,9] aY (by kernel_rfl) ?_)
   refine .p (iW rfl jW rfl rfl ?_)
   refine lO rfl bM rfl aC (by first|exact dA (k) (by omega) (by omega)|exact gA (k) (by omega) (by omega)|exact gR (k) (by omega) (by omega)|rfl) ?_
   refine mV rfl rfl (mV rfl rfl (ih rfl .no aP (.u rfl) (.u rfl) (by omega) (by omega) (fun _=>hs.nn (k:=k) (by omega)) ?_))
   refine lN rfl bM rfl ((hs.yat (k) (by omega) (by omega)).rd) ?_
   refine bw (k:=.u8) rfl .no rfl (.u rfl) (.u rfl) rfl (iW rfl jW rfl rfl ?_)
   refine s1 rfl (.u rfl) (.u rfl) rfl mZ aC (by first|decide|(simp only [cC,bP,cI]; omega)) (by first|exact dR (k) (by omega)|exact kY (k) (by omega)|exact rL (k) (by omega) (by omega)|rfl) ?_
   refine .g (aW (((k+1):Nat):Int) rfl rfl rfl rfl ?_)
   refine .g (aU (k+1,bG (bG f k 54#8) k (bG f k 54#8 k ^^^ key.getD k 0),bG (bG f2 k 92#8) k (bG f2 k 92#8 k ^^^ key.getD k 0)) ?_ ?_ ?_ ?_ ?_)
   ·exact (aM rfl (aA rfl (aA rfl (aA rfl eZ))))
   ·exact (mS .here rfl (mS .here rfl mN))
   ·first|omega|(dsimp only; omega)
   ·exact hGl1
   refine ⟨?_,?_,?_⟩
   ·(try dsimp only)<;>(first|omega|rfl|assumption|(simp; done))
   ·(try dsimp only)<;>(exact aCR ef (by rw [yG,eU,ek2,if_pos (by omega)]))
   (try dsimp only)<;>(exact aCR ef2 (by rw [yG,eU,ek2,if_pos (by omega)]))
  have c5k:=c5
  try simp only [aD,aE] at c5
  refine .g (aW (((k+1):Nat):Int) rfl rfl rfl rfl ?_)
  refine .g (aU (k+1,bG f k 54#8,bG f2 k 92#8) ?_ ?_ ?_ ?_ ?_)
  ·exact (aM rfl (aA rfl (aA rfl (aA rfl eZ))))
  ·exact (mS .here rfl (mS .here rfl mN))
  ·first|omega|(dsimp only; omega)
  ·exact hGl1
  refine ⟨?_,?_,?_⟩
  ·(try dsimp only)<;>(first|omega|rfl|assumption|(simp; done))
  ·(try dsimp only)<;>(exact aAe ef (by rw [eU,ek2,if_neg (by omega)]))
  (try dsimp only)<;>(exact aAe ef2 (by rw [eU,ek2,if_neg (by omega)]))
 have c4k:=c4
 try simp only [aD,aE] at c4
 refine .exit (.xcode (.xlp (.xblk (.code (.seq (aGj aY rfl ?_))))))
 refine WoT.n2 0 1 (by kernel_rfl) ?_ ?_
 ·refine lB rfl fR rfl aC ?_
  refine .nil (WoT.n2 1 2 (by kernel_rfl) ?_ ?_)
  ·refine lB rfl fR rfl .here ?_
   refine .nil (WoT.n1 2 (by kernel_rfl) ?_)
   refine sW rfl rfl rfl rfl jY aC ?_
   refine .nil (WoT.n1 3 (by kernel_rfl) ?_)
   refine sW rfl rfl rfl rfl jY aC ?_
   refine .nil (WoT.last (by kernel_rfl) ?_)
   refine .code (.ret (aK Tryz.results393 (.cell rfl (fun w hw=>bW fR (RdN.own aC) ((by first|exact qE|exact qL|rfl)) hw) (.cell rfl (fun w hw=>bW fR (RdN.own .here) ((by first|exact qE|exact qL|rfl)) hw) .nil)) ?_))
   obtain rfl:k=64:=by omega
   exact ⟨rfl,by rw [ef,ef2,jC (fun i hi=>kN (eU key 54#8) hi),jC (fun i hi=>kN (eU key 92#8) hi)]; rfl⟩
  refine sW rfl rfl rfl rfl jY aC ?_
  refine .nil (WoT.n1 1 (by kernel_rfl) ?_)
  refine lB rfl fR rfl aC ?_
  refine .nil (WoT.n1 3 (by kernel_rfl) ?_)
  refine sW rfl rfl rfl rfl jY aC ?_
  refine .nil (WoT.last (by kernel_rfl) ?_)
  refine .code (.ret (aK Tryz.results393 (.cell rfl (fun w hw=>bW fR (RdN.own aC) ((by first|exact qE|exact qL|rfl)) hw) (.cell rfl (fun w hw=>bW fR (RdN.own .here) ((by first|exact qE|exact qL|rfl)) hw) .nil)) ?_))
  obtain rfl:k=64:=by omega
  exact ⟨rfl,by rw [ef,ef2,jC (fun i hi=>kN (eU key 54#8) hi),jC (fun i hi=>kN (eU key 92#8) hi)]; rfl⟩
 refine lB rfl fR rfl .here ?_
 refine .nil (WoT.n1 0 (by kernel_rfl) ?_)
 refine lB rfl fR rfl aC ?_
 refine .nil (WoT.n1 2 (by kernel_rfl) ?_)
 refine sW rfl rfl rfl rfl jY aC ?_
 refine .nil (WoT.n1 3 (by kernel_rfl) ?_)
 refine sW rfl rfl rfl rfl jY aC ?_
 refine .nil (WoT.last (by kernel_rfl) ?_)
 refine .code (.ret (aK Tryz.results393 (.cell rfl (fun w hw=>bW fR (RdN.own aC) ((by first|exact qE|exact qL|rfl)) hw) (.cell rfl (fun w hw=>bW fR (RdN.own .here) ((by first|exact qE|exact qL|rfl)) hw) .nil)) ?_))
 obtain rfl:k=64:=by omega
 exact ⟨rfl,by rw [ef,ef2,jC (fun i hi=>kN (eU key 54#8) hi),jC (fun i hi=>kN (eU key 92#8) hi)]; rfl⟩
theorem aXj:aL Tryz.prog 393=true:=by kernel_rfl
theorem aXk:aL Tryz.prog 394=true:=by kernel_rfl
theorem aMR:aL Tryz.prog 395=true:=by kernel_rfl
theorem aMt:dV Tryz.prog 451=some (ba 16 (fun _=>0#8)):=by kernel_rfl
theorem aWa:aT Tryz.prog 254 1=some 32:=by kernel_rfl
theorem aLQ:fH Tryz.prog 405=some (12,5,1):=by kernel_rfl
theorem yZ:aL Tryz.prog 207=true:=by kernel_rfl
theorem aF9:aL Tryz.prog 381=true:=by kernel_rfl
theorem aFa:fH Tryz.prog 451=some (16,5,1):=by kernel_rfl
theorem aFY:bT Tryz.prog 451=some (some 16):=by kernel_rfl
theorem aMn:cE Tryz.prog 451=some 16:=by kernel_rfl
theorem aLl:aT Tryz.prog 254 0=some 0:=by kernel_rfl
theorem yO:bT Tryz.prog 405=some (some 12):=by kernel_rfl
theorem aML:aL Tryz.prog 340=true:=by kernel_rfl
theorem yN:bT Tryz.prog 254=some (some 64):=by kernel_rfl
theorem aMM:aL Tryz.prog 341=true:=by kernel_rfl
theorem aVn:wS Tryz.prog 451 16=true:=by kernel_rfl
theorem aEY (key:List Y) (hk:Sh) (ps:List (Sh×List Y)) (h:Sh) (G:PM) (hsk:SlR G 1 aN hk key) (hs:SlP G h ps) (hK:RdNP G 6 0 (wa 64 kW)) (hlk:key.length≤140737488351232) (hl:(cN ps).length≤1000000000000000) (hn:ps.length≤1000):Ct Tryz.prog 381 ([hk.val key.length,h.val ps.length]:List Value).toArray G [] (fun _ μ' u=>μ'=[]∧u=.agg (ba 32 (tG key (cN ps))).toArray):=by
 refine Ct.of Tryz.func381 rfl Tryz.ntmps381 rfl fun w0 hs0=>?_
 refine .seq (aQ rfl rfl ?_)
 refine al rfl jK ?_; intro b4
 refine .g (kV rfl aXj (aB rfl aF) (aSc key hk _ hsk hK hlk) ?_)
 refine .p (eX rfl rfl rfl (eX rfl rfl rfl ?_))
 refine al rfl wL ?_; intro b5
 refine al rfl wL ?_; intro b6
 refine sW rfl rfl rfl rfl jY aC ?_
 refine sW rfl rfl rfl rfl jY aC ?_
 refine .nil (.code (.seq ?_))
 refine dL aC (by intro b hb; cases hb) ?_; intro Gfb5 hleb5 hbb5
 have hs:=hs.mono hleb5
 have hK:=hK.mono hleb5
 refine dL .here (by intro b hb; cases hb) ?_; intro Gfb6 hleb6 hbb6
 have hs:=hs.mono hleb6
 have hK:=hK.mono hleb6
 have hbb5:=hbb5.mono hleb6
 refine .g (kc rfl aXk aF (aNH _) ?_)
 rintro _ G16 μ16 hG16 ⟨b16,rfl,rfl⟩
 have hs:=hs.mono hG16
 have hK:=hK.mono hG16
 have hbb5:=hbb5.mono hG16
 have hbb6:=hbb6.mono hG16
 refine aS rfl rfl (.nc (.seq (dP rfl rfl (mV rfl rfl ?_))))
 refine kA rfl .no jW (.u rfl) hbb5 (by first|exact qO|exact oE|exact app_r) ?_; intro h18 L18 eL18 lL18 hs18
 refine ka rfl (.inr rfl) aMR (aB rfl (aB rfl aF)) (dI .here .here) (aGl [] L18 _ _ _ _ hs18 hK (by simp; omega)) ?_
 rintro _ G19 μ19 hG19 ⟨vq0,rfl,rfl⟩
 have hs:=hs.mono hG19
 have hK:=hK.mono hG19
 have hbb6:=hbb6.mono hG19
 refine .g (lE rfl uC rfl (mV rfl rfl (.nc (.block ?_))))
 refine aX (α:=Nat×Value) (fun gh=>[(22,true,.int .i64 (gh.1:Int))]) (fun gh=>[.blk b16 (cl (gQ (L18++cN (ps.take gh.1)) gh.2) 463),rB gh.2 5 (dW (L18++cN (ps.take gh.1)))])
  (fun gh Gl=>(gh.1≤ps.length)) (fun gh=>ps.length-gh.1) (0,vq0) [(4,true,_),(6,true,_),(7,true,_),(20,true,_),(21,true,_)] [_]
  (aM rfl (aA rfl (aA rfl (aA rfl (aA rfl (aA rfl eZ))))))
  (mS .here (by simp [cN]) (mS .here (by simp [cN]) (mS .here rfl mN))) ?_ ?_
 ·(try dsimp only)<;>(first|omega|rfl|assumption|(simp; done))
 intro gh N0 Gl0 hN0 hGl0 hF0
 obtain ⟨k,vq⟩:=gh; dsimp only at hF0 hN0 ⊢
 have hk:=hF0
 have hs:=hs.mono hGl0
 have hK:=hK.mono hGl0
 have hbb6:=hbb6.mono hGl0
 refine .g (cP rfl rfl rfl rfl (.g (cD rfl (fun c1=>?_) (fun c1=>?_))))
 ·have c1k:=c1
  try simp only [aD,aE] at c1
  refine .skip (.code (.seq (.block (.seq (dP rfl rfl (ih rfl .no iN (.u rfl) (.u rfl) (by omega) (by omega) (fun _=>hs.sl.nn (k:=k) (by omega)) ?_))))))
  obtain ⟨p25,ep25⟩:=dY (k:=k) (xs:=ps) (by omega)
  have hq25:=hs.get ep25
  refine lN rfl dB rfl ((hs.at (k) (by omega) ep25).rd) ?_
  refine .g (ka rfl (.inr rfl) aMR (aB rfl (aB rfl aF)) (dI .here .here) (aGl (L18++cN (ps.take k)) p25.2 _ _ _ _ hq25 hK (by have:=aDv ep25; rw [List.length_append]; omega)) ?_)
  rintro _ G28 μ28 hG28 ⟨vq',rfl,rfl⟩
  have hK:=hK.mono hG28
  have hbb6:=hbb6.mono hG28
  refine .g (aW (((k+1):Nat):Int) rfl rfl rfl rfl ?_)
  refine .g (aU (k+1,vq') ?_ ?_ ?_ ?_ ?_)
  ·exact (aM rfl (aA rfl (aA rfl (aA rfl (aA rfl (aA rfl eZ))))))
  ·exact (mS .here (by rw [wV ep25,List.append_assoc]) (mS .here (by rw [wV ep25,List.append_assoc]) (mS .here rfl mN)))
  ·first|omega|(dsimp only; omega)
  ·exact (hGl0).trans hG28
  (try dsimp only)<;>(first|omega|rfl|assumption|(simp; done))
 have c1k:=c1
 try simp only [aD,aE] at c1
 refine .exit (.xcode (.xlp (.xblk (.code (.seq ?_)))))
 obtain rfl:k=ps.length:=by omega
 rw [List.take_length]
 refine .g (ka rfl (.inr rfl) aMN (aB rfl aF) (dI .here .here) (aGd (L18++cN ps) _ _ _ hK (by rw [List.length_append]; omega)) ?_)
 rintro _ G31 μ31 hG31 ⟨rfl,rfl⟩
 have hK:=hK.mono hG31
 have hbb6:=hbb6.mono hG31
 refine al rfl jK ?_; intro b10
 refine sW rfl rfl rfl rfl iO .here ?_
 refine .nil (.code (.seq ?_))
 refine dL .here (by intro b hb; cases hb) ?_; intro Gfb10 hleb10 hbb10
 have hK:=hK.mono hleb10
 have hbb6:=hbb6.mono hleb10
 refine bO (mc:=⟨false,false⟩) [0,1,2,3,4] aY (by kernel_rfl) ?_
 refine kA rfl .no jW (.u rfl) hbb6 (by first|exact qO|exact oE|exact app_r) ?_; intro h32 L32 eL32 lL32 hs32
 refine kA rfl .no mR (.u rfl) hbb10 (by first|exact qO|exact oE|exact app_r) ?_; intro h33 L33 eL33 lL33 hs33
 refine Go.Tan.bN rfl iN lT (Evp.cons (.u rfl) (Evp.cons (.u rfl) Evp.nil)) rfl (by decide) (by simp [Value.oneCell',Sh.val]) ?_; intro b34
 refine kp rfl .no aBN (aB rfl aF) (Gp.add .here Gp.nil) (fun _ hle hq=>aUU hle hs32 hs33 hK (by omega)) ?_
 refine sW rfl rfl rfl rfl iO bE ?_
 refine .nil (.code (.ret (aK Tryz.results381 (.cell rfl (fun w hw=>bW dJ (RdN.own .here) ((by first|exact qE|exact qL|rfl)) hw) .nil) ?_)))
 exact ⟨rfl,by rw [eL32,eL33,eL18]; rfl⟩
theorem aQ8 {G:PM} {b T:Nat} {hk h1 h2 h3 h4:Sh} {key L1 L2 L3 L4:List Y} (hle:PM.le G (G.add b (cl [h1.val L1.length,h2.val L2.length,h3.val L3.length,h4.val L4.length] T))) (hsk:SlR G 1 aN hk key) (hs:SlR G 1 aN h1 L1) (hs2:SlR G 1 aN h2 L2) (hs3:SlR G 1 aN h3 L3) (hs4:SlR G 1 aN h4 L4) (hK:RdNP G 6 0 (wa 64 kW)) (hlk:key.length≤140737488351232) (hl:L1.length+L2.length+L3.length+L4.length≤1000000000000000) :
  Ct Tryz.prog 381 ([hk.val key.length,.slice (some ⟨b,0,none⟩) 4 4]:List Value).toArray (G.add b (cl [h1.val L1.length,h2.val L2.length,h3.val L3.length,h4.val L4.length] T)) [] (fun _ μ' u=>μ'=[]∧u=.agg (ba 32 (tG key (L1++L2++L3++L4))).toArray):=by
 have h:=aEY key hk [(h1,L1),(h2,L2),(h3,L3),(h4,L4)] ⟨some ⟨b,0,none⟩,4⟩ _ (hsk.mono hle) (SlP.four hle hs hs2 hs3 hs4) (hK.mono hle) hlk (by simp [cN]; omega) (by simp)
 rw [show cN [(h1,L1),(h2,L2),(h3,L3),(h4,L4)]=L1++L2++L3++L4 by simp [cN]] at h
 exact h
theorem aGe (enc mac nonce:Nat→Y) (ad:List Y) (ha:Sh) (xs:List Y) (hx:Sh) (G:PM) (hsa:SlR G 1 aN ha ad) (hsx:SlR G 1 aN hx xs) (hK:RdNP G 6 0 (wa 64 kW)) (hla:ad.length≤140737488351232) (hl:xs.length≤140737488355328):Ct Tryz.prog 341 ([.agg (ba 32 enc++ba 32 mac).toArray,.agg (ba 12 nonce).toArray,ha.val ad.length,hx.val xs.length]:List Value).toArray G [] (fun _ μ' u=>μ'=[]∧u=.agg (ba 16 (vK mac nonce ad xs)).toArray):=by
 refine Ct.of Tryz.func341 rfl Tryz.ntmps341 rfl fun w0 hs0=>?_
 refine .seq (dP rfl rfl ?_)
 refine bX rfl rfl rfl ?_; intro b4
 refine bX rfl rfl rfl ?_; intro b5
 refine al rfl aMt ?_; intro b8
 refine .nil (.code (.seq ?_))
 refine dL aI (by intro b hb; cases hb) ?_; intro Gfb4 hleb4 hbb4
 have hsa:=hsa.mono hleb4
 have hsx:=hsx.mono hleb4
 have hK:=hK.mono hleb4
 refine dL aC (by intro b hb; cases hb) ?_; intro Gfb5 hleb5 hbb5
 have hsa:=hsa.mono hleb5
 have hsx:=hsx.mono hleb5
 have hK:=hK.mono hleb5
 have hbb4:=hbb4.mono hleb5
 refine bO (mc:=⟨false,false⟩) [0,1,2,3,4,6,7,8,5,9,10,11,12] aY (by kernel_rfl) ?_
 refine fA rfl aWa rfl ?_
 refine kA rfl .no aCx (.u rfl) hbb4 (by first|exact qO|exact oE|exact app_r) ?_; intro h11 L11 eL11 lL11 hs11
 refine .p (lE rfl bV rfl (ci rfl .no rfl gV (.u rfl) ?_))
 refine mV rfl rfl ?_
 refine kA rfl .no aLQ (.u rfl) hbb5 (by first|exact qO|exact oE|exact app_r) ?_; intro h17 L17 eL17 lL17 hs17
 refine .p (kc rfl yZ (aB rfl (aB rfl (aB rfl aF))) (Ct.frzB (vR [] ⟨none,0⟩ _ 8 _ SlR.nul (by simp) (by decide))) ?_)
 rintro _ G15 μ15 hG15 ⟨h15,L15,eL15,rfl,rfl,hs15⟩
 have hsa:=hsa.mono hG15
 have hsx:=hsx.mono hG15
 have hK:=hK.mono hG15
 have hs11:=hs11.mono hG15
 have hs17:=hs17.mono hG15
 refine Go.Tan.bN rfl iN lT (Evp.cons (.u rfl) (Evp.cons (.u rfl) (Evp.cons (.u rfl) (Evp.cons (.u rfl) Evp.nil)))) rfl (by decide) (by simp [Value.oneCell',Sh.val]) ?_; intro b19
 have lL15:L15.length=8:=by rw [eL15,List.nil_append]; exact fP _ 8
 refine kp rfl .no aF9 (aB rfl (aB rfl aF)) (Gp.add .here Gp.nil) (fun _ hle hq=>aQ8 hle hs11 hs15 hsa hs17 hsx hK (by omega) (by omega)) ?_
 refine al rfl jK ?_; intro b9
 refine sW rfl rfl rfl rfl iO .here ?_
 refine .g (sah rfl .no mR (.u rfl) (.u rfl) (fun _=>by first|decide|omega) (fun _=>by first|decide|omega) ?_)
 refine sp rfl .no aFa (.u rfl) (fun _=>by first|decide|omega) ?_
 refine lA rfl .no aFY (.u rfl) (fun _=>RdN.part (n:=16) (cs':=ba 16 _) .here (aGz (by decide))) (fun _=>(by first|exact qE|exact qL|rfl)) ?_
 refine sW rfl rfl rfl rfl aMn aI ?_
 refine .nil (.code (.ret (aK Tryz.results341 (.cell rfl (fun w hw=>bW aFY (RdN.own .here) ((by first|exact qE|exact qL|rfl)) hw) .nil) ?_)))
 exact ⟨rfl,by rw [eL11,eL15,eL17]; rfl⟩
theorem aUZ (enc mac nonce:Nat→Y) (ad:List Y) (ha:Sh) (xs:List Y) (v:Value) (G:PM) (hsa:SlR G 1 aN ha ad) (hK:RdNP G 6 0 (wa 64 kW)) (hla:ad.length≤140737488351232) (hl:xs.length≤140737488355328):Ct Tryz.prog 341 ([.agg (ba 32 enc++ba 32 mac).toArray,.agg (ba 12 nonce).toArray,ha.val ad.length,v]:List Value).toArray G [rB v 5 xs] (fun _ μ' u=>∃ ν,μ'=rB v 5 xs :: ν∧ν=[]∧u=.agg (ba 16 (vK mac nonce ad xs)).toArray) :=
 yJ (fun hx G2 hle hv hs=>by subst hv; exact aGe enc mac nonce ad ha xs hx G2 (hsa.mono hle) hs (hK.mono hle) hla hl)
theorem aNM (enc mac nonce:Nat→Y) (ad:List Y) (ha:Sh) (xs:List Y) (hx:Sh) (G:PM) (hsa:SlR G 1 aN ha ad) (hsx:SlR G 1 aN hx xs) (hK:RdNP G 6 0 (wa 64 kW)) (hla:ad.length≤140737488351232) (hl:xs.length≤140737488351232):Ct Tryz.prog 292 ([.agg (ba 32 enc++ba 32 mac).toArray,.agg (ba 12 nonce).toArray,ha.val ad.length,hx.val xs.length]:List Value).toArray G [] (PR 5 (fun L=>L=mH enc mac nonce ad xs)):=by
 refine Ct.of Tryz.func292 rfl Tryz.ntmps292 rfl fun w0 hs0=>?_
 have lc:=wX enc nonce 1#32 xs
 refine .seq (dP rfl rfl ?_)
 refine bX rfl rfl rfl ?_; intro b4
 refine bX rfl rfl rfl ?_; intro b5
 refine .g (fZ rfl aLl rfl (lA rfl .no aA2 (.u rfl) (fun _=>RdN.part (n:=32) (cs':=ba 32 enc) aC (oE)) (fun _=>(by first|exact qE|exact qL|rfl)) ?_))
 refine lB rfl yO rfl .here ?_
 refine .p (kc rfl aML (aB rfl (aB rfl (aB rfl (aB rfl aF)))) (iM (aFR enc nonce 1#32 hx xs _ hsx hl)) ?_)
 rintro v15 G15 μ15 hG15 ⟨L15,ov15,eL15,rfl⟩
 have hsa:=hsa.mono hG15
 have hK:=hK.mono hG15
 refine aS rfl rfl (.nc (.seq (rq7 rfl rfl ?_)))
 have lL15:L15.length=xs.length:=by rw [eL15,wX]
 refine lB rfl yN rfl aI ?_
 refine lB rfl yO rfl aC ?_
 refine .p (ka rfl (.inr rfl) aMM (aB rfl (aB rfl (aB rfl (aB rfl aF)))) (cO .here) (aUZ enc mac nonce ad ha L15 _ _ hsa hK hla (by rw [eL15,wX]; omega)) ?_)
 rintro _ G20 μ20 hG20 ⟨_,rfl,rfl,rfl⟩
 refine al rfl aMt ?_; intro b10
 refine sW rfl rfl rfl rfl aMn .here ?_
 refine .g (pQ rfl .no aFa (.u rfl) (eN rfl aP bY (.u rfl) (.u rfl) aC (Sc.arr .here) (by (try simp only [cI,cR]); omega) ?_))
 intro v23 L23 ov23 eL23
 have lL23:L23.length=L15.length+16:=by rw [eL23,List.length_append]; first|rfl | simp [cR]
 refine aS rfl rfl (.nc (.ret (bD Tryz.results292 (.tmp rfl .nil) (mS .here rfl mN) ?_)))
 exact ⟨L23,by rw [eL23,eL15]; rfl,rfl⟩
theorem aGb (enc mac nonce:Nat→Y) (ad:List Y) (ha:Sh) (xs:List Y) (hx:Sh) (G:PM) (hsa:SlR G 1 aN ha ad) (hsx:SlR G 1 aN hx xs) (hK:RdNP G 6 0 (wa 64 kW)) (hla:ad.length≤140737488351232) (hl:xs.length≤140737488351248):Ct Tryz.prog 308 ([.agg (ba 32 enc++ba 32 mac).toArray,.agg (ba 12 nonce).toArray,ha.val ad.length,hx.val xs.length]:List Value).toArray G [] (fun _ μ' u=>∃ v L e,aNI (rA enc mac nonce ad xs) L e∧μ'=[rB v 5 L]∧u=.tuple #[v,.int .i64 e]):=by
 refine Ct.of Tryz.func308 rfl Tryz.ntmps308 rfl fun w0 hs0=>?_
 refine .seq (dT rfl rfl ?_)
 refine bX rfl rfl rfl ?_; intro b4
 refine bX rfl rfl rfl ?_; intro b5
 refine .g (lE rfl bV rfl (aR rfl rfl rfl rfl ?_))
 refine .g (cP rfl rfl rfl rfl (.g (cD rfl (fun c1=>?_) (fun c1=>?_))))
 ·have c1k:=c1
  try simp only [aD,aE] at c1
  refine .seq (bB rfl rfl (aS rfl rfl (aS rfl rfl (.nc (.ret (vM 5 ?_))))))
  refine bD Tryz.results308 (.tmp rfl (.tmp rfl .nil)) (mS .here rfl mN) ?_
  rw [aSR (by omega)]; exact ⟨_,[],60,.inr ⟨rfl,rfl,rfl⟩,rfl,rfl⟩
 have c1k:=c1
 try simp only [aD,aE] at c1
 refine .g (kE ((xs.length-16)) rfl .no aP hsx (.u rfl) (.u rfl) (by omega) (by omega) ?_)
 intro h19 L19 eL19 lL19 hs19
 have lL19:=lL19 rfl
 refine .g (bO (mc:=⟨false,false⟩) [0,1,2,3,5,6,7,8,9,4,10] aY (by kernel_rfl) ?_)
 refine lB rfl yN rfl aC ?_
 refine lB rfl yO rfl .here ?_
 refine .p (kD ((xs.length-16)) rfl .no aP hsx (.u rfl) (.u rfl) (by omega) (by omega) ?_)
 intro h27 L27 eL27 lL27 hs27
 have lL27:=lL27 rfl
 refine spS rfl .no aFa hs27 (.u rfl) (by omega) (by decide) ?_
 refine lA rfl .no aFY (.u rfl) (fun _=>(hs27.arr (m:=16) (by omega)).rd) (fun _=>bP _ _) ?_
 refine kV rfl aMM (aB rfl (aB rfl (aB rfl (aB rfl aF)))) (aGe enc mac nonce ad ha L19 h19 _ hsa hs19 hK hla (by omega)) ?_
 refine nqB rfl .no aVn (.u rfl) (.u rfl) ?_
 refine .g (cD rfl (fun c2=>?_) (fun c2=>?_))
 ·have c2k:=c2
  try simp only [aD,aE] at c2
  refine .seq (bB rfl rfl (aS rfl rfl (aS rfl rfl (.nc (.ret (vM 5 ?_))))))
  refine bD Tryz.results308 (.tmp rfl (.tmp rfl .nil)) (mS .here rfl mN) ?_
  rw [aSP (by omega) (by rw [← eL19,←eL27,←aCr L27,show L27.length=16 by omega]; exact c2)]; exact ⟨_,[],60,.inr ⟨rfl,rfl,rfl⟩,rfl,rfl⟩
 have c2k:=c2
 try simp only [aD,aE] at c2
 refine .g (fZ rfl aLl rfl (lA rfl .no aA2 (.u rfl) (fun _=>RdN.part (n:=32) (cs':=ba 32 enc) aC (oE)) (fun _=>(by first|exact qE|exact qL|rfl)) ?_))
 refine lB rfl yO rfl .here ?_
 refine .p (kc rfl aML (aB rfl (aB rfl (aB rfl (aB rfl aF)))) (iM (aFR enc nonce 1#32 h19 L19 _ hs19 (by omega))) ?_)
 rintro v35 G35 μ35 hG35 ⟨L35,ov35,eL35,rfl⟩
 refine aS rfl rfl (aS rfl rfl (.nc (.ret (bD Tryz.results308 (.tmp rfl (.tmp rfl .nil)) (mS .here rfl mN) ?_))))
 rw [aI9 (by omega) (by rw [← eL19,←eL27,←aCr L27,show L27.length=16 by omega]; exact c2),←eL19]; exact ⟨v35,L35,0,.inl ⟨by rw [eL35],rfl⟩,rfl,rfl⟩
theorem aLb:csT Tryz.prog 25=true:=by kernel_rfl
def zF:Nat→Y:=fun _=>0#8
theorem aMO:aL Tryz.prog 353=true:=by kernel_rfl
theorem aXR:aL Tryz.prog 313=true:=by kernel_rfl
theorem aW1:aL Tryz.prog 227=true:=by kernel_rfl
theorem aXc:aL Tryz.prog 342=true:=by kernel_rfl
theorem aWS:jO Tryz.prog 344 23=some .u64:=by kernel_rfl
theorem aIx (x:W) (G:PM):Ct Tryz.prog 353 ([U x]:List Value).toArray G [] (fun _ μ' u=>μ'=[]∧u=U (pG 4 x)):=by
 refine Ct.of Tryz.func353 rfl Tryz.ntmps353 rfl fun w0 hs0=>?_
 refine .seq (aQ rfl rfl (aS rfl rfl (.nc (.seq (.seq (aQ rfl rfl (mV rfl rfl (.nc (.block ?_)))))))))
 refine aX (α:=Nat×W) (fun gh=>[(0,true,U gh.2),(3,true,.int .i64 (gh.1:Int))]) (fun _=>[])
  (fun gh Gl=>(gh.1≤4)∧(gh.2=pG gh.1 x)) (fun gh=>4-gh.1) (0,x) [] []
  (aA rfl (aM rfl eZ))
  mN ?_ ?_
 ·refine ⟨?_,?_⟩
  ·(try dsimp only)<;>(first|omega|rfl|assumption|(simp; done))
  (try dsimp only)<;>(first|omega|rfl|assumption|(simp; done))
 intro gh N0 Gl0 hN0 hGl0 hF0
 obtain ⟨k,y⟩:=gh; dsimp only at hF0 hN0 ⊢
 obtain ⟨hk,ey⟩:=hF0
 refine .g (cP rfl rfl rfl rfl (.g (cD rfl (fun c1=>?_) (fun c1=>?_))))
 ·have c1k:=c1
  try simp only [aD,aE] at c1
  refine .g (oO (k:=.u32) rfl .no (.u rfl) (.u rfl) (fun _=>by decide) ?_)
  refine .p (bw (k:=.u32) (b:=1#32) rfl .no rfl (.u rfl) (.u rfl) rfl (nw (k:=.u32) rfl .no rfl (.u rfl) ?_))
  refine bw (k:=.u32) (a:=2197175160#32) rfl .no rfl (.u rfl) (.u rfl) rfl (bw (k:=.u32) rfl .no rfl (.u rfl) (.u rfl) rfl (.g (aW (((k+1):Nat):Int) rfl rfl rfl rfl ?_)))
  refine .g (aU (k+1,aIC y) ?_ ?_ ?_ ?_ ?_)
  ·exact (aA rfl (aM rfl eZ))
  ·exact mN
  ·first|omega|(dsimp only; omega)
  ·exact hGl0
  refine ⟨?_,?_⟩
  ·(try dsimp only)<;>(first|omega|rfl|assumption|(simp; done))
  (try dsimp only)<;>(rw [ey]; rfl)
 have c1k:=c1
 try simp only [aD,aE] at c1
 refine .exit (.xcode (.xlp (.xblk (.code (.seq (bB rfl rfl (mV rfl rfl (aS rfl rfl (.nc (.ret (aK Tryz.results353 (.tmp rfl .nil) ?_)))))))))))
 obtain rfl:k=4:=by omega
 exact ⟨rfl,by rw [ey]; rfl⟩
theorem aOW (sum:W) (xs:List Y) (h:Sh) (G:PM) (hs:SlR G 1 aN h xs) (hl:xs.length≤9000000000000000000):Ct Tryz.prog 313 ([U sum,h.val xs.length]:List Value).toArray G [] (fun _ μ' u=>μ'=[]∧u=U (lZ sum xs)):=by
 refine Ct.of Tryz.func313 rfl Tryz.ntmps313 rfl fun w0 hs0=>?_
 refine .g (xw (k:=.u32) rfl .no rfl (.u rfl) ?_)
 refine .g (lE rfl bV rfl (mV rfl rfl (.nc (.block ?_))))
 refine aX (α:=Nat×W) (fun gh=>[(5,true,U gh.2),(12,true,.int .i64 (gh.1:Int))]) (fun _=>[])
  (fun gh Gl=>(gh.1≤xs.length)∧(gh.2=(xs.take gh.1).foldl zW (~~~sum))) (fun gh=>xs.length-gh.1) (0, ~~~sum) [(10,true,_),(11,true,_)] []
  (aA rfl (aM rfl (aA rfl (aA rfl eZ))))
  mN ?_ ?_
 ·refine ⟨?_,?_⟩
  ·(try dsimp only)<;>(first|omega|rfl|assumption|(simp; done))
  (try dsimp only)<;>(first|omega|rfl|assumption|(simp; done))
 intro gh N0 Gl0 hN0 hGl0 hF0
 obtain ⟨k,x⟩:=gh; dsimp only at hF0 hN0 ⊢
 obtain ⟨hk,ex⟩:=hF0
 have hs:=hs.mono hGl0
 refine .g (cP rfl rfl rfl rfl (.g (cD rfl (fun c1=>?_) (fun c1=>?_))))
 ·have c1k:=c1
  try simp only [aD,aE] at c1
  refine .skip (.code (.seq (.block (.seq (dP rfl rfl (ih rfl .no aP (.u rfl) (.u rfl) (by omega) (by omega) (fun _=>hs.nn (k:=k) (by omega)) ?_))))))
  refine lN rfl bM rfl ((hs.yat (k) (by omega) (by omega)).rd) ?_
  refine .g (cu (k:=.u8) rfl .no rfl aFe (.u rfl) ?_)
  refine bw (k:=.u32) rfl .no rfl (.u rfl) (.u rfl) rfl (kV rfl aMO (aB rfl aF) (aIx _ _) ?_)
  refine kV rfl aMO (aB rfl aF) (aIx _ _) ?_
  refine .g (aW (((k+1):Nat):Int) rfl rfl rfl rfl ?_)
  refine .g (aU (k+1,pG 4 (pG 4 (x ^^^ (xs.getD k 0).setWidth 32))) ?_ ?_ ?_ ?_ ?_)
  ·exact (aA rfl (aM rfl (aA rfl (aA rfl eZ))))
  ·exact mN
  ·first|omega|(dsimp only; omega)
  ·exact hGl0
  refine ⟨?_,?_⟩
  ·(try dsimp only)<;>(first|omega|rfl|assumption|(simp; done))
  (try dsimp only)<;>(rw [aPe (by omega),←ex,aPx]; rfl)
 have c1k:=c1
 try simp only [aD,aE] at c1
 refine .g (xw (k:=.u32) rfl .no rfl (.u rfl) ?_)
 refine aS rfl rfl (.nc (.ret (aK Tryz.results313 (.tmp rfl .nil) ?_)))
 obtain rfl:k=xs.length:=by omega
 exact ⟨rfl,by rw [ex,List.take_length]; rfl⟩
theorem aOX (ps:List (Sh×List Y)) (h:Sh) (G:PM) (hs:SlP G h ps) (hl:(cN ps).length≤9000000000000000000) (hn:ps.length≤1000):Ct Tryz.prog 227 ([h.val ps.length]:List Value).toArray G [] (fun _ μ' u=>μ'=[]∧u=U (lZ 0#32 (cN ps))):=by
 refine Ct.of Tryz.func227 rfl Tryz.ntmps227 rfl fun w0 hs0=>?_
 refine .g (lE rfl uC rfl (mV rfl rfl (.nc (.block ?_))))
 refine aX (α:=Nat×W) (fun gh=>[(3,true,U gh.2),(8,true,.int .i64 (gh.1:Int))]) (fun _=>[])
  (fun gh Gl=>(gh.1≤ps.length)∧(gh.2=lZ 0#32 (cN (ps.take gh.1)))) (fun gh=>ps.length-gh.1) (0,0#32) [(6,true,_),(7,true,_)] []
  (aA rfl (aM rfl (aA rfl (aA rfl eZ))))
  mN ?_ ?_
 ·refine ⟨?_,?_⟩
  ·(try dsimp only)<;>(first|omega|rfl|assumption|(simp; done))
  (try dsimp only)<;>(simp [cN,aOZ])
 intro gh N0 Gl0 hN0 hGl0 hF0
 obtain ⟨k,x⟩:=gh; dsimp only at hF0 hN0 ⊢
 obtain ⟨hk,ex⟩:=hF0
 have hs:=hs.mono hGl0
 refine .g (cP rfl rfl rfl rfl (.g (cD rfl (fun c1=>?_) (fun c1=>?_))))
 ·have c1k:=c1
  try simp only [aD,aE] at c1
  refine .skip (.code (.seq (.block (.seq (dP rfl rfl (ih rfl .no iN (.u rfl) (.u rfl) (by omega) (by omega) (fun _=>hs.sl.nn (k:=k) (by omega)) ?_))))))
  obtain ⟨p11,ep11⟩:=dY (k:=k) (xs:=ps) (by omega)
  have hq11:=hs.get ep11
  refine lN rfl dB rfl ((hs.at (k) (by omega) ep11).rd) ?_
  refine .g (kV rfl aXR (aB rfl (aB rfl aF)) (aOW _ p11.2 _ _ hq11 (by have:=aDv ep11; omega)) ?_)
  refine .g (aW (((k+1):Nat):Int) rfl rfl rfl rfl ?_)
  refine .g (aU (k+1,lZ x p11.2) ?_ ?_ ?_ ?_ ?_)
  ·exact (aA rfl (aM rfl (aA rfl (aA rfl eZ))))
  ·exact mN
  ·first|omega|(dsimp only; omega)
  ·exact hGl0
  refine ⟨?_,?_⟩
  ·(try dsimp only)<;>(first|omega|rfl|assumption|(simp; done))
  (try dsimp only)<;>(rw [ex,aOY,wV ep11])
 have c1k:=c1
 try simp only [aD,aE] at c1
 refine .exit (.xcode (.xlp (.xblk (.code (.seq (bB rfl rfl (mV rfl rfl (aS rfl rfl (.nc (.ret (aK Tryz.results227 (.tmp rfl .nil) ?_)))))))))))
 obtain rfl:k=ps.length:=by omega
 exact ⟨rfl,by rw [ex,List.take_length]; rfl⟩
theorem aNG (x:W) (G:PM):Ct Tryz.prog 342 ([U x]:List Value).toArray G [] (fun _ μ' u=>μ'=[]∧u=U (aEa x)):=by
 refine Ct.of Tryz.func342 rfl Tryz.ntmps342 rfl fun w0 hs0=>?_
 refine .g (kV rfl zA (aB rfl (aB rfl aF)) (xW _ 17 _) ?_)
 refine bw (k:=.u32) (b:=2726488792#32) rfl .no rfl (.u rfl) (.u rfl) rfl (aS rfl rfl (.nc (.ret (aK Tryz.results342 (.tmp rfl .nil) ?_))))
 exact ⟨rfl,rfl⟩
theorem aOV {G:PM} {b7 b9 T7 T9:Nat} {kind:Y} {h:Sh} {p:List Y} (hle:PM.le G ((G.add b7 (cl [V kind] T7)).add b9 (cl [.slice (some ⟨b7,0,none⟩) 1 1,h.val p.length] T9))) (hq:PM.le (G.add b7 (cl [V kind] T7)) ((G.add b7 (cl [V kind] T7)).add b9 (cl [.slice (some ⟨b7,0,none⟩) 1 1,h.val p.length] T9))) (hs:SlR G 1 aN h p) (hl:p.length≤1000000000000000) :
  Ct Tryz.prog 227 ([.slice (some ⟨b9,0,none⟩) 2 2]:List Value).toArray ((G.add b7 (cl [V kind] T7)).add b9 (cl [.slice (some ⟨b7,0,none⟩) 1 1,h.val p.length] T9)) [] (fun _ μ' u=>μ'=[]∧u=U (lZ 0#32 ([kind]++p))):=by
 have h1:SlR (G.add b7 (cl [V kind] T7)) 1 aN ⟨some ⟨b7,0,none⟩,1⟩ [kind]:=fD (T:=T7) (bU _ _ _) (fun _ _=>rfl) (by simp)
 have hP:SlP ((G.add b7 (cl [V kind] T7)).add b9 (cl [.slice (some ⟨b7,0,none⟩) 1 1,h.val p.length] T9)) ⟨some ⟨b9,0,none⟩,2⟩ [(⟨some ⟨b7,0,none⟩,1⟩,[kind]),(h,p)] :=
  ⟨fD (T:=T9) (bU _ _ _) (fun _ _=>rfl) (by simp),fun q hq'=>by
   rcases List.mem_cons.1 hq' with rfl | hq'
   ·exact h1.mono hq
   ·rw [List.mem_singleton.1 hq']; exact hs.mono hle⟩
 have hh:=aOX _ ⟨some ⟨b9,0,none⟩,2⟩ _ hP (by simp [cN]; omega) (by simp)
 rw [show cN [((⟨some ⟨b7,0,none⟩,1⟩ : Sh),[kind]),(h,p)]=[kind]++p by simp [cN]] at hh
 exact hh
theorem vN (kind:Y) (p:List Y) (h:Sh) (G:PM) (hs:SlR G 1 aN h p) (hl:p.length≤1000000000000000):Ct Tryz.prog 294 ([V kind,h.val p.length]:List Value).toArray G [] (PR 5 (fun L=>L=dQ ((aEa (lZ 0#32 ([kind]++p))).setWidth 64) 4++dQ (BitVec.ofInt 64 (p.length:Int)) 2++[kind])):=by
 refine Ct.of Tryz.func294 rfl Tryz.ntmps294 rfl fun w0 hs0=>?_
 refine .seq (aQ rfl rfl (aS rfl rfl (.nc (.seq (rq7 rfl rfl (mV rfl rfl ?_))))))
 refine Go.Tan.b1 rfl aP bY (.u rfl) rfl rfl (by decide) ?_; intro b7
 refine mV rfl rfl ?_
 refine Go.Tan.bN rfl iN lT (Evp.cons (.u rfl) (Evp.cons (.u rfl) Evp.nil)) rfl (by decide) (by simp [Value.oneCell',Sh.val]) ?_; intro b9
 refine kp rfl .no aW1 (aB rfl aF) (Gp.add .here (Gp.add .here Gp.nil)) (fun _ hle hq=>aOV hle hq.1 hs hl) ?_
 refine kV rfl aXc (aB rfl aF) (aNG _ _) ?_
 refine .g (cu (k:=.u32) rfl .no rfl aWS (.u rfl) ?_)
 refine kc rfl yZ (aB rfl (aB rfl (aB rfl aF))) (Ct.frzB (vR [] ⟨none,0⟩ _ 4 _ SlR.nul (by simp) (by decide))) ?_
 rintro _ G14 μ14 hG14 ⟨h14,L14,eL14,rfl,rfl,hs14⟩
 refine .p (lE rfl bV rfl (ci rfl .no rfl gV (.u rfl) ?_))
 refine kc rfl yZ (aB rfl (aB rfl (aB rfl aF))) (iM (vR L14 h14 _ 2 _ hs14 (by have:=fx0 eL14; omega) (by decide))) ?_
 rintro v18 G18 μ18 hG18 ⟨L18,ov18,eL18,rfl⟩
 refine mV rfl rfl ?_
 refine Go.Tan.b1 rfl aP bY (.u rfl) rfl rfl (by decide) ?_; intro b20
 have lL18:L18.length=6:=by have:=fx0 eL14; have:=fx2 eL18; omega
 refine eN rfl aP bY (.u rfl) (.u rfl) aC (Sc.one .here) (by show _+1≤_; omega) ?_
 intro v21 L21 ov21 eL21
 have lL21:L21.length=L18.length+1:=by rw [eL21,List.length_append]; first|rfl | simp [cR]
 refine aS rfl rfl (.nc (.ret (bD Tryz.results294 (.tmp rfl .nil) (mS .here rfl mN) ?_)))
 exact ⟨L21,by rw [eL21,eL18,eL14]; rfl,rfl⟩
theorem aC5:aT Tryz.prog 161 0=some 0:=by kernel_rfl
theorem aC6:aT Tryz.prog 161 1=some 1:=by kernel_rfl
theorem aC7:aT Tryz.prog 161 2=some 2:=by kernel_rfl
theorem aZ:bT Tryz.prog 23=some none:=by kernel_rfl
theorem aMs:dV Tryz.prog 405=some (ba 12 (fun _=>0#8)):=by kernel_rfl
theorem aXx:cE Tryz.prog 405=some 12:=by kernel_rfl
theorem aLf:aT Tryz.prog 161 3=some 3:=by kernel_rfl
theorem yS:aT Tryz.prog 161 4=some 4:=by kernel_rfl
theorem aV3:cT Tryz.prog 326 [0,1,2]=some ([.int .u64 0,.int .u64 0,.int .u64 0],[(0,1),(1,1),(2,1)]):=by kernel_rfl
theorem aVl:fH Tryz.prog 326=some (3,23,1):=by kernel_rfl
theorem aRX (h:Hd) (G:PM):Ct Tryz.prog 268 ([.agg ([V h.kind,V h.level,uv .u64 h.gen,uv .u64 h.epoch,uv .u64 h.num]:List Value).toArray]:List Value).toArray G [] (fun _ μ' u=>μ'=[]∧u=.bool h.right):=by
 refine Ct.of Tryz.func268 rfl Tryz.ntmps268 rfl fun w0 hs0=>?_
 refine .seq (bB rfl rfl ?_)
 refine bX rfl rfl rfl ?_; intro b1
 refine .g (fZ rfl aC5 rfl (lO rfl bM rfl .here (by first|exact aV rfl|rfl) ?_))
 refine .g (cP rfl rfl rfl rfl (.g (cD rfl (fun c1=>?_) (fun c1=>?_))))
 ·have c1k:=c1
  try simp only [aD,aE] at c1
  refine .g (fZ rfl aC6 rfl (lO rfl bM rfl .here (by first|exact aV rfl|rfl) ?_))
  refine cP rfl rfl rfl rfl (aS rfl rfl (.nc (.ret (aK Tryz.results268 (.tmp rfl .nil) ?_))))
  exact ⟨rfl,congrArg Value.bool (aNC c1).symm⟩
 have c1k:=c1
 try simp only [aD,aE] at c1
 refine .g (cP rfl rfl rfl rfl (.g (cD rfl (fun c2=>?_) (fun c2=>?_))))
 ·have c2k:=c2
  try simp only [aD,aE] at c2
  refine .g (gK rfl c2k ?_)
  refine .g (fZ rfl aC6 rfl (lO rfl bM rfl .here (by first|exact aV rfl|rfl) ?_))
  refine cP rfl rfl rfl rfl (.p (fz rfl (.t rfl rfl) aC7 (.u rfl) (ld rfl (.t rfl rfl) aZ (.s rfl) (fun hc=>Rd.own .here (by first|exact aV rfl|rfl)) ?_)))
  refine cp rfl (.t rfl rfl) (.s rfl) (.u rfl) rfl (bL rfl .no (.u rfl) (.s rfl) (aS rfl rfl (.nc (.ret (aK Tryz.results268 (.tmp rfl .nil) ?_)))))
  exact ⟨rfl,congrArg Value.bool (aNB c2).symm⟩
 have c2k:=c2
 try simp only [aD,aE] at c2
 refine .g (cP rfl rfl rfl rfl (.g (cD rfl (fun c3=>?_) (fun c3=>?_))))
 ·have c3k:=c3
  try simp only [aD,aE] at c3
  refine .g (fZ rfl aC6 rfl (lO rfl bM rfl .here (by first|exact aV rfl|rfl) ?_))
  refine cP rfl rfl rfl rfl (.p (fz rfl (.t rfl rfl) aC7 (.u rfl) (ld rfl (.t rfl rfl) aZ (.s rfl) (fun hc=>Rd.own .here (by first|exact aV rfl|rfl)) ?_)))
  refine cp rfl (.t rfl rfl) (.s rfl) (.u rfl) rfl (bL rfl .no (.u rfl) (.s rfl) (aS rfl rfl (.nc (.ret (aK Tryz.results268 (.tmp rfl .nil) ?_)))))
  exact ⟨rfl,congrArg Value.bool (aND c3).symm⟩
 have c3k:=c3
 try simp only [aD,aE] at c3
 refine .skip (.blk (.code (.seq (aQ rfl rfl (aS rfl rfl (.nc (.ret (aK Tryz.results268 (.tmp rfl .nil) ?_))))))))
 exact ⟨rfl,congrArg Value.bool (aNA c2 c1 c3).symm⟩
theorem aDg (n:BitVec 64) (G:PM):Ct Tryz.prog 293 ([uv .u64 n]:List Value).toArray G [] (fun _ μ' u=>μ'=[]∧u=.agg (ba 12 (kK n)).toArray):=by
 refine Ct.of Tryz.func293 rfl Tryz.ntmps293 rfl fun w0 hs0=>?_
 refine .seq (aQ rfl rfl ?_)
 refine al rfl aMs ?_; intro b2
 refine .nil (.code (.seq (aQ rfl rfl ?_)))
 refine al rfl aMs ?_; intro b3
 refine .nil (.code (.seq (.seq (aQ rfl rfl (mV rfl rfl (.nc (.block ?_)))))))
 refine aX (α:=Nat×(Nat→Y)) (fun gh=>[(5,true,.int .i64 (gh.1:Int))]) (fun gh=>[.blk b3 (cl (ba 12 gh.2) 405)])
  (fun gh Gl=>(gh.1≤8)∧(gh.2=gP (kK n) gh.1)) (fun gh=>8-gh.1) (0,fun _=>0#8) [(0,true,_),(2,true,_),(3,true,_)] [_]
  (aM rfl (aA rfl (aA rfl (aA rfl eZ))))
  (mS .here rfl (mS .here rfl mN)) ?_ ?_
 ·refine ⟨?_,?_⟩
  ·(try dsimp only)<;>(first|omega|rfl|assumption|(simp; done))
  (try dsimp only)<;>(first|omega|rfl|assumption|(simp; done))
 intro gh N0 Gl0 hN0 hGl0 hF0
 obtain ⟨k,f⟩:=gh; dsimp only at hF0 hN0 ⊢
 obtain ⟨hk,ef⟩:=hF0
 refine .g (cP rfl rfl rfl rfl (.g (cD rfl (fun c1=>?_) (fun c1=>?_))))
 ·have c1k:=c1
  try simp only [aD,aE] at c1
  refine .g (aW (((8*k):Nat):Int) rfl rfl rfl rfl ?_)
  refine oO (k:=.u64) rfl .no (.u rfl) (.u rfl) (by omega) ?_
  refine cu (k:=.u64) rfl .no rfl vU (.u rfl) ?_
  refine iW rfl aLQ rfl rfl ?_
  refine s1 rfl (.u rfl) (.u rfl) rfl mZ .here (by first|decide|(simp only [cC,bP,cI]; omega)) (by first|exact dR (k) (by omega)|exact kY (k) (by omega)|exact rL (k) (by omega) (by omega)|rfl) ?_
  refine .g (aW (((k+1):Nat):Int) rfl rfl rfl rfl ?_)
  refine .g (aU (k+1,bG f k ((n >>> (8*k)).setWidth 8)) ?_ ?_ ?_ ?_ ?_)
  ·exact (aM rfl (aA rfl (aA rfl (aA rfl eZ))))
  ·exact (mS .here rfl (mS .here rfl mN))
  ·first|omega|(dsimp only; omega)
  ·exact hGl0
  refine ⟨?_,?_⟩
  ·(try dsimp only)<;>(first|omega|rfl|assumption|(simp; done))
  (try dsimp only)<;>(exact aAe ef (by unfold kK; rw [if_pos (by omega)]))
 have c1k:=c1
 try simp only [aD,aE] at c1
 refine .g (lB rfl yO rfl .here ?_)
 refine sW rfl rfl rfl rfl aXx aC ?_
 refine .nil (.code (.ret (aK Tryz.results293 (.cell rfl (fun w hw=>bW yO (RdN.own .here) ((by first|exact qE|exact qL|rfl)) hw) .nil) ?_)))
 obtain rfl:k=8:=by omega
 exact ⟨rfl,by rw [ef,jC (fun i hi=>aRw n hi)]; rfl⟩
theorem tH (h:Hd) (G:PM):Ct Tryz.prog 138 ([.agg ([V h.kind,V h.level,uv .u64 h.gen,uv .u64 h.epoch,uv .u64 h.num]:List Value).toArray]:List Value).toArray G [] (PR 5 (fun L=>L=bA h)):=by
 refine Ct.of Tryz.func138 rfl Tryz.ntmps138 rfl fun w0 hs0=>?_
 refine .seq (bB rfl rfl ?_)
 refine bX rfl rfl rfl ?_; intro b1
 refine aS rfl rfl (.nc (.seq (rq9 rfl rfl ?_)))
 refine Go.Tan.bN rfl aP bY (Evp.cons (.u rfl) (Evp.cons (.u rfl) (Evp.cons (.u rfl) (Evp.cons (.u rfl) Evp.nil)))) rfl (by decide) (by simp [Value.oneCell',Sh.val]) ?_; intro b6
 refine mkS [116#8,97#8,110#8,116#8] rfl rfl aLb (.u rfl) .here rfl rfl (by decide) ?_; intro G7 hG7 hs7
 refine fZ rfl aC5 rfl (lO rfl bM rfl .here (by first|exact aV rfl|rfl) ?_)
 refine fZ rfl aC6 rfl (lO rfl bM rfl .here (by first|exact aV rfl|rfl) ?_)
 refine Go.Tan.bN rfl aP bY (Evp.cons (.u rfl) (Evp.cons (.u rfl) Evp.nil)) rfl (by decide) (vA rfl rfl) ?_; intro b12
 refine apF (.inr rfl) rfl aP bY (.u rfl) (.u rfl) hs7 rfl (Sc.blk (ys:=[h.kind,h.level]) .here rfl rfl) (by (try simp only [List.length_cons,List.length_nil]); omega) (by (try simp only [List.length_cons,List.length_nil]); omega) (by (try simp only [List.length_cons,List.length_nil]); omega) ?_; intro v13 L13 ov13 eL13
 have lL13:L13.length=[116#8,97#8,110#8,116#8].length+2:=by rw [eL13,List.length_append]; first|rfl | simp [cR]
 refine .g (fZ rfl aC7 rfl (lO rfl aZ rfl aI (by first|exact aV rfl|rfl) ?_))
 refine fZ rfl aLf rfl (lO rfl aZ rfl aI (by first|exact aV rfl|rfl) ?_)
 refine fZ rfl yS rfl (lO rfl aZ rfl aI (by first|exact aV rfl|rfl) ?_)
 refine bC rfl .no aV3 (.cons (.u rfl) rfl (.cons (.u rfl) rfl (.cons (.u rfl) rfl .nil))) rfl ?_
 refine mV rfl rfl (.nc (.block ?_))
 refine aX (α:=Nat×Value×List Y) (fun gh=>[(3,true,gh.2.1),(21,true,.int .i64 (gh.1:Int))]) (fun gh=>[rB gh.2.1 5 gh.2.2])
  (fun gh Gl=>(gh.1≤3)∧(gh.2.2=h.some gh.1)) (fun gh=>3-gh.1) (0,_,_) [(20,true,_)] [_,_]
  (aA rfl (aM rfl (aA rfl eZ)))
  (mS .here rfl (mS .here rfl (mS .here rfl mN))) ?_ ?_
 ·refine ⟨?_,?_⟩
  ·(try dsimp only)<;>(first|omega|rfl|assumption|(simp; done))
  (try dsimp only)<;>(rw [eL13]; rfl)
 intro gh N0 Gl0 hN0 hGl0 hF0
 obtain ⟨k,v,L⟩:=gh; dsimp only at hF0 hN0 ⊢
 obtain ⟨hk,eL⟩:=hF0
 have lL:L.length=6+8*k:=by rw [eL,Hd.some_len]
 refine .g (cP rfl rfl rfl rfl (.g (cD rfl (fun c1=>?_) (fun c1=>?_))))
 ·have c1k:=c1
  try simp only [aD,aE] at c1
  refine .g (ix rfl .no aVl aZ (.u rfl) (.u rfl) (by omega) (by omega) (fun _=>aNF (by omega)) ?_)
  refine aS rfl rfl (.nc ?_)
  refine kR .here (by first|(intro b hb; cases hb; done) | simp [keys,Res.keys]) ?_; intro GfR13 hR13 hleR13 evR13 hsR13; subst evR13
  refine .g (kc rfl yZ (aB rfl (aB rfl (aB rfl aF))) (iM (vR L _ _ 8 _ hsR13 (by omega) (by decide))) ?_)
  rintro v26 G26 μ26 hG26 ⟨L26,ov26,eL26,rfl⟩
  refine .g (aW (((k+1):Nat):Int) rfl rfl rfl rfl ?_)
  refine .g (aU (k+1,v26,L26) ?_ ?_ ?_ ?_ ?_)
  ·exact (aA rfl (aM rfl (aA rfl eZ)))
  ·exact (mS .here rfl (mS .here rfl (mS .here rfl mN)))
  ·first|omega|(dsimp only; omega)
  ·exact ((hGl0).trans hleR13).trans hG26
  refine ⟨?_,?_⟩
  ·(try dsimp only)<;>(first|omega|rfl|assumption|(simp; done))
  (try dsimp only)<;>(rw [eL26,eL,zO]; rfl)
 have c1k:=c1
 try simp only [aD,aE] at c1
 refine .exit (.xcode (.xlp (.xblk (.code (.seq (bB rfl rfl (mV rfl rfl (aS rfl rfl (.nc (.ret (bD Tryz.results138 (.tmp rfl .nil) (mS .here rfl mN) ?_)))))))))))
 obtain rfl:k=3:=by omega
 exact ⟨L,by rw [eL,aNE],rfl⟩
theorem aQ6 {G:PM} {b T:Nat} {hk h1:Sh} {key L1:List Y} (hle:PM.le G (G.add b (cl [h1.val L1.length] T))) (hsk:SlR G 1 aN hk key) (hs:SlR G 1 aN h1 L1) (hK:RdNP G 6 0 (wa 64 kW)) (hlk:key.length≤140737488351232) (hl:L1.length≤1000000000000000) :
  Ct Tryz.prog 381 ([hk.val key.length,.slice (some ⟨b,0,none⟩) 1 1]:List Value).toArray (G.add b (cl [h1.val L1.length] T)) [] (fun _ μ' u=>μ'=[]∧u=.agg (ba 32 (tG key L1)).toArray):=by
 have h:=aEY key hk [(h1,L1)] ⟨some ⟨b,0,none⟩,1⟩ _ (hsk.mono hle) (SlP.one hle hs) (hK.mono hle) hlk (by simpa [cN] using hl) (by simp)
 rw [show cN [(h1,L1)]=L1 by simp [cN]] at h
 exact h
theorem aLJ (salt:List Y) (hk:Sh) (xs:List Y) (h:Sh) (G:PM) (hsk:SlR G 1 aN hk salt) (hs:SlR G 1 aN h xs) (hK:RdNP G 6 0 (wa 64 kW)) (hlk:salt.length≤140737488351232) (hl:xs.length≤1000000000000000):Ct Tryz.prog 348 ([hk.val salt.length,h.val xs.length]:List Value).toArray G [] (fun _ μ' u=>μ'=[]∧u=.agg (ba 32 (tG salt xs)).toArray):=by
 refine Ct.of Tryz.func348 rfl Tryz.ntmps348 rfl fun w0 hs0=>?_
 refine .seq (aQ rfl rfl ?_)
 refine al rfl jK ?_; intro b4
 refine .nil (.code (.seq (lF rfl rfl (mV rfl rfl (mV rfl rfl ?_)))))
 refine Go.Tan.b1 rfl iN lT (.u rfl) rfl rfl (by decide) ?_; intro b7
 refine kp rfl .no aF9 (aB rfl (aB rfl aF)) (Gp.add .here Gp.nil) (fun _ hle hq=>aQ6 hle hsk hs hK hlk hl) ?_
 refine sW rfl rfl rfl rfl iO aC ?_
 refine .nil (.code (.ret (aK Tryz.results348 (.cell rfl (fun w hw=>bW dJ (RdN.own .here) ((by first|exact qE|exact qL|rfl)) hw) .nil) ?_)))
 exact ⟨rfl,rfl⟩
theorem SlP.three {G:PM} {b T:Nat} {h1 h2 h3:Sh} {L1 L2 L3:List Y} (hle:PM.le G (G.add b (cl [h1.val L1.length,h2.val L2.length,h3.val L3.length] T))) (hs:SlR G 1 aN h1 L1) (hs2:SlR G 1 aN h2 L2) (hs3:SlR G 1 aN h3 L3) :
  SlP (G.add b (cl [h1.val L1.length,h2.val L2.length,h3.val L3.length] T)) ⟨some ⟨b,0,none⟩,3⟩ [(h1,L1),(h2,L2),(h3,L3)] :=
 ⟨fD (T:=T) (bU _ _ _) (fun _ _=>rfl) (by simp),fun p hp=>by
  simp only [List.mem_cons,List.not_mem_nil,or_false] at hp
  rcases hp with rfl|rfl|rfl
  ·exact hs.mono hle
  ·exact hs2.mono hle
  ·exact hs3.mono hle⟩
theorem aQ7 {G:PM} {b c T T' E lo:Nat} {hk hu s:Sh} {key use L:List Y} {y:Y} (hsk:SlR G 1 aN hk key) (hsu:SlR G 1 aN hu use) (hK:RdNP G 6 0 (wa 64 kW)) (hlo:lo≤L.length) (hlk:key.length≤140737488351232) (hl:L.length+use.length≤100000000000000) :
  Ct Tryz.prog 381 ([hk.val key.length,.slice (some ⟨c,0,none⟩) 3 3]:List Value).toArray G [rB (s.val L.length) E L,.blk b (cl [V y] T),.blk c (cl [(s.cut lo 1).val (L.length-lo),hu.val use.length,.slice (some ⟨b,0,none⟩) 1 1] T')]
   (fun _ μ' u=>∃ ν,μ'=rB (s.val L.length) E L :: ν∧∃ ν2,ν=.blk b (cl [V y] T) :: ν2∧∃ ν3,ν2=.blk c (cl [(s.cut lo 1).val (L.length-lo),hu.val use.length,.slice (some ⟨b,0,none⟩) 1 1] T') :: ν3∧ν3=[]∧u=.agg (ba 32 (tG key (L.drop lo++use++[y]))).toArray) :=
 yJ (fun s' G2 hle hv hs=>aFS (fun h1=>aFS (fun h2=>by
  obtain rfl:=aNN hv
  have e1:SlR G2 1 aN (s.cut lo 1) (L.drop lo):=by
   have:=hs.cutn (lo:=lo) (m:=L.length-lo) (by omega)
   rwa [List.take_of_length_le (by simp)] at this
  have e2:SlR (G2.add b (cl [V y] T)) 1 aN ⟨some ⟨b,0,none⟩,1⟩ [y]:=fD (T:=T) (bU _ _ _) (fun _ _=>rfl) (by simp)
  have e3:L.length-lo=(L.drop lo).length:=by simp
  rw [e3] at h2 ⊢
  have hP:=SlP.three (h1:=s.cut lo 1) (h2:=hu) (h3:=⟨some ⟨b,0,none⟩,1⟩) h2 (e1.mono h1) ((hsu.mono hle).mono h1) e2
  have h:=aEY key hk _ ⟨some ⟨c,0,none⟩,3⟩ _ (((hsk.mono hle).mono h1).mono h2) hP (((hK.mono hle).mono h1).mono h2) hlk (by simp [cN]; omega) (by simp)
  rw [show cN [((s.cut lo 1),L.drop lo),(hu,use),((⟨some ⟨b,0,none⟩,1⟩ : Sh),[y])]=L.drop lo++use++[y] by simp [cN]] at h
  exact h)))
theorem aLI (key:List Y) (hk:Sh) (use:List Y) (hu:Sh) (G:PM) (hsk:SlR G 1 aN hk key) (hsu:SlR G 1 aN hu use) (hK:RdNP G 6 0 (wa 64 kW)) (hlk:key.length≤1000) (hl:use.length≤1000000):Ct Tryz.prog 349 ([hk.val key.length,hu.val use.length,.int .i64 ((64:Nat):Int)]:List Value).toArray G [] (fun G' μ' u=>∃ s L,L=sU key use 2∧μ'=[]∧u=.tuple #[s.val L.length,.int .i64 0]∧SlR G' 1 aN s L):=by
 refine Ct.of Tryz.func349 rfl Tryz.ntmps349 rfl fun w0 hs0=>?_
 refine .g (cP rfl rfl rfl rfl (mV rfl rfl (mv rfl (.f rfl rfl) (.u rfl) (cp rfl (.f rfl rfl) (.s rfl) (.u rfl) rfl (bZ rfl .no (.u rfl) (.s rfl) (.g (cD rfl (fun c1=>?_) (fun c1=>?_))))))))
 ·have c1k:=c1
  exact absurd c1 (by decide)
 have c1k:=c1
 try simp only [aD,aE] at c1
 refine .g (aW (((64+32):Nat):Int) rfl rfl rfl rfl ?_)
 refine xO (0) ((64+32)) rfl aP bY (.u rfl) (.u rfl) (by first|rfl|omega) (by first|rfl|omega) (by omega) (by omega) ?_; intro b19
 have lR19:(List.replicate (0) (0#8:Y)).length=0:=List.length_replicate
 refine aS rfl rfl (.nc (.seq (.seq (aQ rfl rfl (aS rfl rfl (.nc (.block ?_)))))))
 refine aX (α:=Nat×Value×List Y) (fun gh=>[(8,true,gh.2.1),(9,true,V (BitVec.ofNat 8 (gh.1+1)))]) (fun gh=>[rB gh.2.1 5 gh.2.2])
  (fun gh Gl=>(gh.1≤2)∧(gh.2.2=sU key use gh.1)) (fun gh=>2-gh.1) (0,_,_) [(0,true,_),(1,true,_),(2,true,_)] []
  (aA rfl (aA rfl (aA rfl (aA rfl (aA rfl eZ)))))
  (mS .here rfl mN) ?_ ?_
 ·refine ⟨?_,?_⟩
  ·(try dsimp only)<;>(first|omega|rfl|assumption|(simp; done))
  (try dsimp only)<;>(rfl)
 intro gh N0 Gl0 hN0 hGl0 hF0
 obtain ⟨j,v,L⟩:=gh; dsimp only at hF0 hN0 ⊢
 obtain ⟨hj,eL⟩:=hF0
 have hsk:=hsk.mono hGl0
 have hsu:=hsu.mono hGl0
 have hK:=hK.mono hGl0
 have lL:L.length=32*j:=by rw [eL,aB2]
 refine .g (lr rfl .no bV (.u rfl) .here ?_)
 refine .p (cP rfl rfl rfl rfl (.g (cD rfl (fun c2=>?_) (fun c2=>?_))))
 ·have c2k:=c2
  try simp only [aD,aE] at c2
  refine .skip (.code (.seq (.block (.seq ?_))))
  refine tQ .here ?_; intro sR19 bbR19 evR19 lcR19 oaR19; subst evR19
  refine .g (lr rfl .no bV (.u rfl) .here ?_)
  refine aR rfl rfl rfl rfl ?_
  refine mAq ((32*j-32:Nat):Int) rfl (.u rfl) (.u rfl) (by split<;>omega) ?_
  refine sd rfl .no aP (.u rfl) (.u rfl) (by omega) (by omega) ?_
  refine mV rfl rfl (mV rfl rfl ?_)
  refine Go.Tan.b1 rfl aP bY (.u rfl) rfl rfl (by decide) ?_; intro b35
  refine Go.Tan.bN rfl iN lT (Evp.cons (.u rfl) (Evp.cons (.u rfl) (Evp.cons (.u rfl) Evp.nil))) rfl (by decide) (by simp [Value.oneCell',Sh.val]) ?_; intro b36
  refine ka rfl (.inr rfl) aF9 (aB rfl (aB rfl aF)) (fF aI aC .here) (aQ7 (lo:=32*j-32) hsk hsu hK (by omega) (by omega) (by omega)) ?_
  rintro _ G37 μ37 hG37 ⟨_,rfl,_,rfl,_,rfl,rfl,rfl⟩
  refine al rfl jK ?_; intro b10
  refine sW rfl rfl rfl rfl iO .here ?_
  refine .g (pQ rfl .no mR (.u rfl) (eN rfl aP bY (.u rfl) (.u rfl) aC (Sc.arr .here) (by (try simp only [cI,cR]); omega) ?_))
  intro v40 L40 ov40 eL40
  have lL40:L40.length=L.length+32:=by rw [eL40,List.length_append]; first|rfl | simp [cR]
  refine .g (bw (k:=.u8) (b:=1#8) rfl .no rfl (.u rfl) (.u rfl) rfl (.g (aU (j+1,v40,L40) ?_ ?_ ?_ ?_ ?_)))
  ·exact (aA rfl (eJ rfl (by show V (BitVec.ofNat 8 (j+1)+1#8)=_; rw [← BitVec.ofNat_add]) (aA rfl (aA rfl (aA rfl eZ)))))
  ·exact (mS .here rfl mN)
  ·first|omega|(dsimp only; omega)
  ·exact (hGl0).trans hG37
  refine ⟨?_,?_⟩
  ·(try dsimp only)<;>(first|omega|rfl|assumption|(simp; done))
  (try dsimp only)<;>(rw [eL40,eL,aPU]; rfl)
 have c2k:=c2
 try simp only [aD,aE] at c2
 refine .exit (.xcode (.xlp (.xblk (.code (.seq ?_)))))
 refine kR .here (by first|(intro b hb; cases hb; done) | simp [keys,Res.keys]) ?_; intro GfR19 hR19 hleR19 evR19 hsR19; subst evR19
 refine iV rfl rfl (mV rfl rfl (mV rfl rfl (mV rfl rfl ?_)))
 refine kM 64 rfl aP hsR19 (.u rfl) (.u rfl) (.u rfl) (by omega) ?_; intro h44 L44 eL44 lL44 hs44
 refine aS rfl rfl (aS rfl rfl (.nc (.ret (aK Tryz.results349 (.tmp rfl (.tmp rfl .nil)) ?_))))
 obtain rfl:j=2:=by omega
 exact ⟨h44,L44,by rw [eL44,eL]; exact List.take_of_length_le (by rw [aB2]; omega),rfl,rfl,hs44⟩
theorem aMq:dV Tryz.prog 254=some (ba 32 (fun _=>0#8)++ba 32 (fun _=>0#8)):=by kernel_rfl
theorem aXd:aL Tryz.prog 348=true:=by kernel_rfl
theorem aXe:aL Tryz.prog 349=true:=by kernel_rfl
theorem aVy:cT Tryz.prog 254 [0,1]=some (ba 32 (fun _=>0#8)++ba 32 (fun _=>0#8),[(0,32),(32,32)]):=by kernel_rfl
theorem aMj:cE Tryz.prog 254=some 64:=by kernel_rfl
theorem gT:bT Tryz.prog 161=some (some 5):=by kernel_rfl
theorem uA:aL Tryz.prog 138=true:=by kernel_rfl
theorem aXN:aL Tryz.prog 307=true:=by kernel_rfl
theorem aLH (root:Nat→Y) (use:List Y) (hu:Sh) (G:PM) (hsu:SlR G 1 aN hu use) (hK:RdNP G 6 0 (wa 64 kW)) (hl:use.length≤1000000):Ct Tryz.prog 307 ([.agg (ba 32 root).toArray,hu.val use.length]:List Value).toArray G [] (fun _ μ' u=>μ'=[]∧u=.agg (ba 32 (fT root use)++ba 32 (fU root use)).toArray):=by
 refine Ct.of Tryz.func307 rfl Tryz.ntmps307 rfl fun w0 hs0=>?_
 refine .seq (bB rfl rfl ?_)
 refine bX rfl rfl rfl ?_; intro b2
 refine al rfl aMq ?_; intro b4
 refine .nil (.code (.seq ?_))
 refine dL aC (by intro b hb; cases hb) ?_; intro Gfb2 hleb2 hbb2
 have hsu:=hsu.mono hleb2
 have hK:=hK.mono hleb2
 refine iV rfl rfl ?_
 refine Go.Tan.bN rfl aP bY (Evp.cons (.u rfl) (Evp.cons (.u rfl) (Evp.cons (.u rfl) (Evp.cons (.u rfl) (Evp.cons (.u rfl) (Evp.cons (.u rfl) (Evp.cons (.u rfl) (Evp.cons (.u rfl) Evp.nil)))))))) rfl (by decide) (by simp [Value.oneCell',Sh.val]) ?_; intro b8
 refine mkS aE2 rfl rfl aLb (.u rfl) .here rfl rfl (by decide) ?_; intro G9 hG9 hs9
 have hsu:=hsu.mono hG9
 have hK:=hK.mono hG9
 have hbb2:=hbb2.mono hG9
 refine kA rfl .no mR (.u rfl) hbb2 (by first|exact qO|exact oE|exact app_r) ?_; intro h10 L10 eL10 lL10 hs10
 refine kV rfl aXd (aB rfl (aB rfl aF)) (aLJ aE2 _ L10 h10 _ hs9 hs10 hK (by decide) (by omega)) ?_
 refine al rfl jK ?_; intro b5
 refine sW rfl rfl rfl rfl iO .here ?_
 refine .nil (.code (.seq ?_))
 refine dL .here (by intro b hb; cases hb) ?_; intro Gfb5 hleb5 hbb5
 have hsu:=hsu.mono hleb5
 have hK:=hK.mono hleb5
 refine rq8 rfl rfl ?_
 refine kA rfl .no mR (.u rfl) hbb5 (by first|exact qO|exact oE|exact app_r) ?_; intro h13 L13 eL13 lL13 hs13
 refine .p (kc rfl aXe (aB rfl (aB rfl (aB rfl aF))) (aLI L13 h13 use hu _ hs13 hsu hK (by omega) hl) ?_)
 rintro _ G15 μ15 hG15 ⟨h15,L15,eL15,rfl,rfl,hs15⟩
 refine .p (eX rfl rfl rfl (eX rfl rfl rfl (aS rfl rfl ?_)))
 have lL15:L15.length=64:=by rw [eL15,aB2]
 refine .g (bO (mc:=⟨false,false⟩) [0,1,2,3,4,5,6,7,8,9] aY (by kernel_rfl) ?_)
 refine .p (kE (32) rfl .no aP hs15 (.u rfl) (.u rfl) (by omega) (by omega) ?_)
 intro h19 L19 eL19 lL19 hs19
 have lL19:=lL19 rfl
 refine spS rfl .no aCx hs19 (.u rfl) (by omega) (by decide) ?_
 refine lA rfl .no aA2 (.u rfl) (fun _=>(hs19.arr (m:=32) (by omega)).rd) (fun _=>bP _ _) ?_
 refine .p (kD (32) rfl .no aP hs15 (.u rfl) (.u rfl) (by omega) (by omega) ?_)
 intro h23 L23 eL23 lL23 hs23
 have lL23:=lL23 rfl
 refine spS rfl .no aCx hs23 (.u rfl) (by omega) (by decide) ?_
 refine lA rfl .no aA2 (.u rfl) (fun _=>(hs23.arr (m:=32) (by omega)).rd) (fun _=>bP _ _) ?_
 refine bR (ba 32 (fun i=>L19.getD i 0)++ba 32 (fun i=>L23.getD i 0)) rfl .no aVy (.cons (.u rfl) rfl (.cons (.u rfl) rfl .nil)) rfl (aQP (by decide) _ _) ?_
 refine sw rfl (.u rfl) (.u rfl) rfl aMj .here (by first|exact qE|exact qL|rfl) (aER _ _) ?_
 refine .nil (.code (.ret (aK Tryz.results307 (.cell rfl (fun w hw=>bW yN (RdN.own .here) ((by first|exact qE|exact qL|rfl)) hw) .nil) ?_)))
 have e:L15=wY root use:=by rw [eL15,eL13,eL10]; rfl
 exact ⟨rfl,congrArg (fun z=>Value.agg (List.toArray z)) (aQN e eL19 eL23)⟩
theorem aGX (root:Nat→Y) (h:Hd) (G:PM) (hK:RdNP G 6 0 (wa 64 kW)):Ct Tryz.prog 219 ([.agg (ba 32 root).toArray,.agg ([V h.kind,V h.level,uv .u64 h.gen,uv .u64 h.epoch,uv .u64 h.num]:List Value).toArray]:List Value).toArray G [] (fun _ μ' u=>μ'=[]∧u=.agg (ba 32 (fT root (bA h))++ba 32 (fU root (bA h))).toArray):=by
 refine Ct.of Tryz.func219 rfl Tryz.ntmps219 rfl fun w0 hs0=>?_
 refine .seq (dP rfl rfl ?_)
 refine bX rfl rfl rfl ?_; intro b2
 refine bX rfl rfl rfl ?_; intro b3
 refine al rfl aMq ?_; intro b4
 refine .g (bO (mc:=⟨false,false⟩) [0,1,2,3,4] aY (by kernel_rfl) ?_)
 refine lB rfl dJ rfl aI ?_
 refine lB rfl gT rfl aC ?_
 refine kc rfl uA (aB rfl aF) (Ct.frzB (tH h _)) ?_
 rintro _ G7 μ7 hG7 ⟨h7,L7,eL7,rfl,rfl,hs7⟩
 have hK:=hK.mono hG7
 refine kV rfl aXN (aB rfl (aB rfl aF)) (aLH root L7 h7 _ hs7 hK (by rw [eL7,fE]; decide)) ?_
 refine sw rfl (.u rfl) (.u rfl) rfl aMj .here (by first|exact qE|exact qL|rfl) (aER _ _) ?_
 refine .nil (.code (.ret (aK Tryz.results219 (.cell rfl (fun w hw=>bW yN (RdN.own .here) ((by first|exact qE|exact qL|rfl)) hw) .nil) ?_)))
 subst eL7
 exact ⟨rfl,rfl⟩
theorem aMD:aL Tryz.prog 219=true:=by kernel_rfl
theorem aF4:aL Tryz.prog 293=true:=by kernel_rfl
theorem aXL:aL Tryz.prog 292=true:=by kernel_rfl
theorem wF:aL Tryz.prog 294=true:=by kernel_rfl
theorem aKo (root:Nat→Y) (h:Hd) (n:BitVec 64) (p:List Y) (hp:Sh) (G:PM) (hs:SlR G 1 aN hp p) (hK:RdNP G 6 0 (wa 64 kW)):Ct Tryz.prog 206 ([.agg (ba 32 root).toArray,.agg ([V h.kind,V h.level,uv .u64 h.gen,uv .u64 h.epoch,uv .u64 h.num]:List Value).toArray,uv .u64 n,hp.val p.length]:List Value).toArray G [] (fun _ μ' u=>∃ v L e,(L,e)=mC root h n p∧μ'=[rB v 5 L]∧u=.tuple #[v,.int .i64 e]):=by
 refine Ct.of Tryz.func206 rfl Tryz.ntmps206 rfl fun w0 hs0=>?_
 refine .seq (dT rfl rfl ?_)
 refine bX rfl rfl rfl ?_; intro b4
 refine bX rfl rfl rfl ?_; intro b5
 refine .g (lE rfl bV rfl (cP rfl rfl rfl rfl (.g (cD rfl (fun c1=>?_) (fun c1=>?_)))))
 ·have c1k:=c1
  try simp only [aD,aH,aE] at c1
  refine .seq (bB rfl rfl (aS rfl rfl (aS rfl rfl (.nc (.ret (vM 5 ?_))))))
  refine bD Tryz.results206 (.tmp rfl (.tmp rfl .nil)) (mS .here rfl mN) ?_
  exact ⟨_,[],4,aQb (by omega),rfl,rfl⟩
 have c1k:=c1
 try simp only [aD,aH,aE] at c1
 refine .g (bO (mc:=⟨false,false⟩) [0,1,3,5,7,2,4,6,8,9] aY (by kernel_rfl) ?_)
 refine lB rfl dJ rfl aC ?_
 refine lB rfl gT rfl .here ?_
 refine .p (lB rfl gT rfl .here ?_)
 refine .p (kV rfl aMD (aB rfl (aB rfl aF)) (aGX root h _ hK) ?_)
 refine kV rfl aF4 (aB rfl aF) (aDg _ _) ?_
 refine kc rfl uA (aB rfl aF) (Ct.frzB (tH h _)) ?_
 rintro _ G25 μ25 hG25 ⟨h25,L25,eL25,rfl,rfl,hs25⟩
 have hs:=hs.mono hG25
 have hK:=hK.mono hG25
 refine kc rfl aXL (aB rfl (aB rfl (aB rfl (aB rfl aF)))) (iM (aNM (fT root (bA h)) (fU root (bA h)) (kK n) L25 h25 p hp _ hs25 hs hK (by rw [eL25,fE]; decide) (by omega))) ?_
 rintro v27 G27 μ27 hG27 ⟨L27,ov27,eL27,rfl⟩
 refine aS rfl rfl (.nil ?_)
 have lL27:L27.length=p.length+16:=by rw [eL27,aCb]
 refine .code (.seq ?_)
 refine kR .here (by first|(intro b hb; cases hb; done) | simp [keys,Res.keys]) ?_; intro GfR27 hR27 hleR27 evR27 hsR27; subst evR27
 refine aQ rfl rfl (aS rfl rfl (.nc (.seq (.seq (aFL 5 ?_)))))
 refine aQ rfl rfl (aS rfl rfl (.nc (.block ?_)))
 refine aX (α:=Nat×Sh×List Y×Value×List Y) (fun gh=>[(10,true,gh.2.1.val gh.2.2.1.length),(11,true,gh.2.2.2.1),(12,true,.bool (decide (gh.1=0)))]) (fun gh=>[rB gh.2.2.2.1 5 gh.2.2.2.2])
  (fun gh Gl=>(SlR Gl 1 aN gh.2.1 gh.2.2.1)∧(gh.2.2.1=L27.drop (128*gh.1))∧(gh.2.2.2.2=nN L27 gh.1)∧(128*gh.1≤L27.length+127)) (fun gh=>gh.2.2.1.length) (0,_,_,.slice none 0 0,[]) [] [_,_]
  (aA rfl (aA rfl (aA rfl eZ)))
  (mS .here rfl (mS .here rfl (mS .here rfl mN))) ?_ ?_
 ·refine ⟨?_,?_,?_,?_⟩
  ·(try dsimp only)<;>(exact hsR27)
  ·(try dsimp only)<;>(rfl)
  ·(try dsimp only)<;>(rfl)
  (try dsimp only)<;>(first|omega|rfl|assumption|(simp; done))
 intro gh N0 Gl0 hN0 hGl0 hF0
 obtain ⟨j,r,M,v,O⟩:=gh; dsimp only at hF0 hN0 ⊢
 obtain ⟨hr,eM,eO,hj⟩:=hF0
 have lM:M.length=L27.length-128*j:=by rw [eM]; simp
 have lO9:=aJB L27 j
 rw [← eO] at lO9
 refine .g (lE rfl bV rfl (cP rfl rfl rfl rfl (.g (cD rfl (fun c2=>?_) (fun c2=>?_)))))
 ·have c2k:=c2
  try simp only [aD,aH,aE] at c2
  refine .g (lE rfl bV rfl (xK (M.length) (128) rfl .no (.u rfl) (.u rfl) (by omega) (by omega) ?_))
  refine .g (lE rfl bV rfl (cP rfl rfl rfl rfl (aS rfl rfl (.nc (.block (.seq (lF rfl rfl (mV rfl rfl (mV rfl rfl (mv rfl (.t rfl rfl) (.u rfl) (bL rfl .no (.u rfl) (.s rfl) (.g (cD rfl (fun c3=>?_) (fun c3=>?_))))))))))))))
  ·have c3k:=c3
   try simp only [aD,aH,aE] at c3
   refine .g (bO (mc:=⟨false,false⟩) [0,1,2,3,4,7,8,9,5,6,10,11] aY (by kernel_rfl) ?_)
   refine .p (kE ((min M.length 128)) rfl .no aP hr (.u rfl) (.u rfl) (by omega) (by omega) ?_)
   intro h51 L51 eL51 lL51 hs51
   have lL51:=lL51 rfl
   refine .p (kE ((min M.length 128)) rfl .no aP hr (.u rfl) (.u rfl) (by omega) (by omega) ?_)
   intro h56 L56 eL56 lL56 hs56
   have lL56:=lL56 rfl
   refine kc rfl wF (aB rfl (aB rfl aF)) (Ct.frzB (vN 1#8 L51 h51 _ hs51 (by omega))) ?_
   rintro _ G52 μ52 hG52 ⟨h52,L52,eL52,rfl,rfl,hs52⟩
   have hr:=hr.mono hG52
   have hs51:=hs51.mono hG52
   have hs56:=hs56.mono hG52
   have lL52:L52.length=7:=by rw [eL52]; exact gY _ _
   refine eN rfl aP bY (.u rfl) (.u rfl) .here hs52.sc (by (try simp only [cI,cR]); omega) ?_
   intro v53 L53 ov53 eL53
   have lL53:L53.length=O.length+L52.length:=by rw [eL53,List.length_append]
   refine eN rfl aP bY (.u rfl) (.u rfl) .here hs56.sc (by (try simp only [cI,cR]); omega) ?_
   intro v57 L57 ov57 eL57
   have lL57:L57.length=L53.length+L56.length:=by rw [eL57,List.length_append]
   refine .g (kD ((min M.length 128)) rfl .no aP hr (.u rfl) (.u rfl) (by omega) (by omega) ?_)
   intro h60 L60 eL60 lL60 hs60
   have lL60:=lL60 rfl
   refine .g (aU (j+1,h60,L60,v57,L57) ?_ ?_ ?_ ?_ ?_)
   ·exact (aA rfl (aA rfl (eJ rfl (by simp) eZ)))
   ·exact (mS .here rfl (mS .here rfl (mS .here rfl mN)))
   ·first|omega|(dsimp only; omega)
   ·exact (hGl0).trans hG52
   refine ⟨?_,?_,?_,?_⟩
   ·(try dsimp only)<;>(exact hs60)
   ·(try dsimp only)<;>(rw [eL60,eM]; exact aBu)
   ·(try dsimp only)<;>(exact aCW eO eM eL51 eL56 eL52 eL53 eL57 (aQS (by omega) (by omega)))
   (try dsimp only)<;>(first|omega|rfl|assumption|(simp; done))
  have c3k:=c3
  try simp only [aD,aH,aE] at c3
  refine .g (cD rfl (fun c4=>?_) (fun c4=>?_))
  ·have c4k:=c4
   try simp only [aD,aH,aE] at c4
   refine .g (bO (mc:=⟨false,false⟩) [0,1,2,3,4,7,8,9,5,6,10,11] aY (by kernel_rfl) ?_)
   refine .p (kE ((min M.length 128)) rfl .no aP hr (.u rfl) (.u rfl) (by omega) (by omega) ?_)
   intro h51 L51 eL51 lL51 hs51
   have lL51:=lL51 rfl
   refine .p (kE ((min M.length 128)) rfl .no aP hr (.u rfl) (.u rfl) (by omega) (by omega) ?_)
   intro h56 L56 eL56 lL56 hs56
   have lL56:=lL56 rfl
   refine kc rfl wF (aB rfl (aB rfl aF)) (Ct.frzB (vN 2#8 L51 h51 _ hs51 (by omega))) ?_
   rintro _ G52 μ52 hG52 ⟨h52,L52,eL52,rfl,rfl,hs52⟩
   have hr:=hr.mono hG52
   have hs51:=hs51.mono hG52
   have hs56:=hs56.mono hG52
   have lL52:L52.length=7:=by rw [eL52]; exact gY _ _
   refine eN rfl aP bY (.u rfl) (.u rfl) .here hs52.sc (by (try simp only [cI,cR]); omega) ?_
   intro v53 L53 ov53 eL53
   have lL53:L53.length=O.length+L52.length:=by rw [eL53,List.length_append]
   refine eN rfl aP bY (.u rfl) (.u rfl) .here hs56.sc (by (try simp only [cI,cR]); omega) ?_
   intro v57 L57 ov57 eL57
   have lL57:L57.length=L53.length+L56.length:=by rw [eL57,List.length_append]
   refine .g (kD ((min M.length 128)) rfl .no aP hr (.u rfl) (.u rfl) (by omega) (by omega) ?_)
   intro h60 L60 eL60 lL60 hs60
   have lL60:=lL60 rfl
   refine .g (aU (j+1,h60,L60,v57,L57) ?_ ?_ ?_ ?_ ?_)
   ·exact (aA rfl (aA rfl (eJ rfl (by simp) eZ)))
   ·exact (mS .here rfl (mS .here rfl (mS .here rfl mN)))
   ·first|omega|(dsimp only; omega)
   ·exact (hGl0).trans hG52
   refine ⟨?_,?_,?_,?_⟩
   ·(try dsimp only)<;>(exact hs60)
   ·(try dsimp only)<;>(rw [eL60,eM]; exact aBu)
   ·(try dsimp only)<;>(exact aCW eO eM eL51 eL56 eL52 eL53 eL57 (aQR (by omega) (by omega)))
   (try dsimp only)<;>(first|omega|rfl|assumption|(simp; done))
  have c4k:=c4
  try simp only [aD,aH,aE] at c4
  refine .g (cD rfl (fun c5=>?_) (fun c5=>?_))
  ·have c5k:=c5
   try simp only [aD,aH,aE] at c5
   refine .g (bO (mc:=⟨false,false⟩) [0,1,2,3,4,7,8,9,5,6,10,11] aY (by kernel_rfl) ?_)
   refine .p (kE ((min M.length 128)) rfl .no aP hr (.u rfl) (.u rfl) (by omega) (by omega) ?_)
   intro h51 L51 eL51 lL51 hs51
   have lL51:=lL51 rfl
   refine .p (kE ((min M.length 128)) rfl .no aP hr (.u rfl) (.u rfl) (by omega) (by omega) ?_)
   intro h56 L56 eL56 lL56 hs56
   have lL56:=lL56 rfl
   refine kc rfl wF (aB rfl (aB rfl aF)) (Ct.frzB (vN 4#8 L51 h51 _ hs51 (by omega))) ?_
   rintro _ G52 μ52 hG52 ⟨h52,L52,eL52,rfl,rfl,hs52⟩
   have hr:=hr.mono hG52
   have hs51:=hs51.mono hG52
   have hs56:=hs56.mono hG52
   have lL52:L52.length=7:=by rw [eL52]; exact gY _ _
   refine eN rfl aP bY (.u rfl) (.u rfl) .here hs52.sc (by (try simp only [cI,cR]); omega) ?_
   intro v53 L53 ov53 eL53
   have lL53:L53.length=O.length+L52.length:=by rw [eL53,List.length_append]
   refine eN rfl aP bY (.u rfl) (.u rfl) .here hs56.sc (by (try simp only [cI,cR]); omega) ?_
   intro v57 L57 ov57 eL57
   have lL57:L57.length=L53.length+L56.length:=by rw [eL57,List.length_append]
   refine .g (kD ((min M.length 128)) rfl .no aP hr (.u rfl) (.u rfl) (by omega) (by omega) ?_)
   intro h60 L60 eL60 lL60 hs60
   have lL60:=lL60 rfl
   refine .g (aU (j+1,h60,L60,v57,L57) ?_ ?_ ?_ ?_ ?_)
   ·exact (aA rfl (aA rfl (eJ rfl (by simp) eZ)))
   ·exact (mS .here rfl (mS .here rfl (mS .here rfl mN)))
   ·first|omega|(dsimp only; omega)
   ·exact (hGl0).trans hG52
   refine ⟨?_,?_,?_,?_⟩
   ·(try dsimp only)<;>(exact hs60)
   ·(try dsimp only)<;>(rw [eL60,eM]; exact aBu)
   ·(try dsimp only)<;>(exact aCW eO eM eL51 eL56 eL52 eL53 eL57 (aQT (by omega) (by omega)))
   (try dsimp only)<;>(first|omega|rfl|assumption|(simp; done))
  have c5k:=c5
  try simp only [aD,aH,aE] at c5
  refine .g (bO (mc:=⟨false,false⟩) [0,1,2,3,4,7,8,9,5,6,10,11] aY (by kernel_rfl) ?_)
  refine .p (kE ((min M.length 128)) rfl .no aP hr (.u rfl) (.u rfl) (by omega) (by omega) ?_)
  intro h51 L51 eL51 lL51 hs51
  have lL51:=lL51 rfl
  refine .p (kE ((min M.length 128)) rfl .no aP hr (.u rfl) (.u rfl) (by omega) (by omega) ?_)
  intro h56 L56 eL56 lL56 hs56
  have lL56:=lL56 rfl
  refine kc rfl wF (aB rfl (aB rfl aF)) (Ct.frzB (vN 3#8 L51 h51 _ hs51 (by omega))) ?_
  rintro _ G52 μ52 hG52 ⟨h52,L52,eL52,rfl,rfl,hs52⟩
  have hr:=hr.mono hG52
  have hs56:=hs56.mono hG52
  have lL52:L52.length=7:=by rw [eL52]; exact gY _ _
  refine eN rfl aP bY (.u rfl) (.u rfl) .here hs52.sc (by (try simp only [cI,cR]); omega) ?_
  intro v53 L53 ov53 eL53
  have lL53:L53.length=O.length+L52.length:=by rw [eL53,List.length_append]
  refine eN rfl aP bY (.u rfl) (.u rfl) .here hs56.sc (by (try simp only [cI,cR]); omega) ?_
  intro v57 L57 ov57 eL57
  have lL57:L57.length=L53.length+L56.length:=by rw [eL57,List.length_append]
  refine .g (kD ((min M.length 128)) rfl .no aP hr (.u rfl) (.u rfl) (by omega) (by omega) ?_)
  intro h60 L60 eL60 lL60 hs60
  have lL60:=lL60 rfl
  refine .g (aU (j+1,h60,L60,v57,L57) ?_ ?_ ?_ ?_ ?_)
  ·exact (aA rfl (aA rfl (eJ rfl (by simp) eZ)))
  ·exact (mS .here rfl (mS .here rfl (mS .here rfl mN)))
  ·first|omega|(dsimp only; omega)
  ·exact (hGl0).trans hG52
  refine ⟨?_,?_,?_,?_⟩
  ·(try dsimp only)<;>(exact hs60)
  ·(try dsimp only)<;>(rw [eL60,eM]; exact aBu)
  ·(try dsimp only)<;>(exact aCW eO eM eL51 eL56 eL52 eL53 eL57 (aQU (by omega) (by omega)))
  (try dsimp only)<;>(first|omega|rfl|assumption|(simp; done))
 have c2k:=c2
 try simp only [aD,aH,aE] at c2
 refine .exit (.xcode (.xlp (.xblk (.code (.seq (dP rfl rfl (mV rfl rfl (aS rfl rfl (aS rfl rfl (.nc (.ret (bD Tryz.results206 (.tmp rfl (.tmp rfl .nil)) (mS .here rfl mN) ?_))))))))))))
 exact ⟨v,O,0,aQa (by omega) (by rw [eL27,eL25]) eO (by omega),rfl,rfl⟩
theorem aBa:bsT Tryz.prog 25 9=true:=by kernel_rfl
theorem aD1 (n:BitVec 64) (G:PM) (hn:n.toNat<10):Ct Tryz.prog 160 ([uv .u64 n]:List Value).toArray G [] (fun _ μ' u=>μ'=[]∧u=.string (dH (rH n.toNat))):=by
 refine Ct.of Tryz.func160 rfl Tryz.ntmps160 rfl fun w0 hs0=>?_
 refine .seq (aQ rfl rfl (aS rfl rfl (.nc (.seq (aFL 5 ?_)))))
 refine aQ rfl rfl (aS rfl rfl (.nc (.seq (.block ?_))))
 refine aX (α:=Nat×Value) (fun gh=>[(0,true,uv .u64 (pD n gh.1)),(3,true,gh.2)]) (fun gh=>[rB gh.2 5 (wZ n.toNat gh.1)])
  (fun gh Gl=>(gh.1≤6)) (fun gh=>6-gh.1) (0,.slice none 0 0) [] []
  (aA rfl (aA rfl eZ))
  (mS .here rfl mN) ?_ ?_
 ·(try dsimp only)<;>(first|omega|rfl|assumption|(simp; done))
 intro gh N0 Gl0 hN0 hGl0 hF0
 obtain ⟨k,v⟩:=gh; dsimp only at hF0 hN0 ⊢
 have hk:=hF0
 have hl:=aO0 (d:=n.toNat) hk; have hz:k=0∨@BitVec.toNat IntKind.u64.bits (pD n k)=0:=(Nat.eq_zero_or_pos k).imp id aOz
 refine .g (cP rfl rfl rfl rfl (mV rfl rfl (mv rfl (.f rfl rfl) (.u rfl) (lr rfl (.f rfl rfl) bV (.s rfl) .here ?_))))
 refine cp rfl (.f rfl rfl) (.s rfl) (.u rfl) rfl (bZ rfl .no (.u rfl) (.s rfl) (.g (cD rfl (fun c1=>?_) (fun c1=>?_))))
 ·have c1k:=c1
  try simp only [aD,aH,aE] at c1
  refine .skip (.code (.seq (.block ?_)))
  refine tQ .here ?_; intro sRB bbRB evRB lcRB oaRB; subst evRB
  refine .g (mw (k:=.u64) (b:=10#64) rfl .no (.u rfl) (.u rfl) (fun _=>show (10#64:BitVec 64)≠0#64 by decide) ?_)
  refine bw (k:=.u64) (a:=48#64) rfl .no rfl (.u rfl) (.u rfl) rfl (cu (k:=.u64) rfl .no rfl vU (.u rfl) ?_)
  refine Go.Tan.b1 rfl aP bY (.u rfl) rfl rfl (by decide) ?_; intro b17
  refine mV rfl rfl ?_
  refine apB [_] rfl aP bY (.u rfl) rfl rfl (.u rfl) .here (sJ aC oaRB) (by show 1+(wZ n.toNat k).length≤_; omega) ?_; intro v19 L19 ov19 eL19
  refine .g (dw (k:=.u64) (b:=10#64) rfl .no rfl (.u rfl) (.u rfl) (fun _=>show (10#64:BitVec 64)≠0#64 by decide) ?_)
  refine aS rfl rfl (.nil ?_)
  have hk6:k<6:=by omega
  refine aU (k+1,v19) ?_ ?_ ?_ ?_ ?_
  ·exact (eJ rfl (congrArg (uv .u64) (aOy hn)) (aA rfl eZ))
  ·exact (mS .here (congrArg (rB v19 5) (eL19.trans (aO1 hn hk6))) mN)
  ·first|omega|(dsimp only; omega)
  ·exact hGl0
  (try dsimp only)<;>(first|omega|rfl|assumption|(simp; done))
 have c1k:=c1
 try simp only [aD,aH,aE] at c1
 refine .exit (.xcode (.xlp (.xblk (.code (.seq ?_)))))
 refine tQ .here ?_; intro sRB bbRB evRB lcRB oaRB; subst evRB
 refine .g (sB rfl .no aBa (.u rfl) (fun _=>(sJ .here oaRB)) ?_)
 refine aS rfl rfl (.nc (.ret (aK Tryz.results160 (.tmp rfl .nil) ?_)))
 obtain rfl:k=6:=by omega
 exact ⟨rfl,rfl⟩
theorem wM:(bJ Tryz.prog 97).isSome=true:=by kernel_rfl
theorem jZ:bJ Tryz.prog 97=some (9,1,16):=by kernel_rfl
theorem cW:bT Tryz.prog 9=some none:=by kernel_rfl
theorem lU:pS Tryz.prog 9=true:=by kernel_rfl
theorem sG:(Tryz.prog.info? 9).bind (·.zero)=some (.string ByteArray.empty):=by kernel_rfl
theorem kX:bT Tryz.prog 4=some none:=by kernel_rfl
theorem aFz:aL Tryz.prog 160=true:=by kernel_rfl
theorem iY:jR Tryz.prog 48=true:=by kernel_rfl
theorem wG:aL Tryz.prog 53=true:=by kernel_rfl
theorem aA6:aT Tryz.prog 118 3=some 3:=by kernel_rfl
theorem vV:aT Tryz.prog 118 2=some 2:=by kernel_rfl
theorem fX:aT Tryz.prog 118 0=some 0:=by kernel_rfl
theorem fW:bT Tryz.prog 116=some none:=by kernel_rfl
theorem gX:pL Tryz.prog 116=some 124:=by kernel_rfl
theorem sF:(Tryz.prog.info? 124).bind (·.zero)=some (.agg #[.slice none 0 0,.int .i64 0]):=by kernel_rfl
theorem qK:dV Tryz.prog 124=some ([.slice none 0 0,.int .i64 0]):=by kernel_rfl
theorem qI:cE Tryz.prog 124=some 2:=by kernel_rfl
theorem aLe:aT Tryz.prog 118 4=some 4:=by kernel_rfl
theorem nW:aT Tryz.prog 124 0=some 0:=by kernel_rfl
theorem aAZ (k:Y) (n:BitVec 64) (G:PM) (hn:n.toNat<10):Ct Tryz.prog 102 ([V k,uv .u64 n]:List Value).toArray G [] (fun _ μ' u=>μ'=[]∧u=.string (aO k.toNat n.toNat)):=by
 refine Ct.of Tryz.func102 rfl Tryz.ntmps102 rfl fun w0 hs0=>?_
 have hk8:@BitVec.toNat IntKind.u8.bits k = @BitVec.toNat 8 k:=rfl
 refine .g (cP rfl rfl rfl rfl (.g (cD rfl (fun c1=>?_) (fun c1=>?_))))
 ·have c1k:=c1
  try simp only [aD,aE] at c1
  refine .g (kV rfl aFz (aB rfl aF) (aD1 n _ hn) ?_)
  refine sP rfl .no (.u rfl) (.u rfl) (fun _=>by rw [aDs]; show 6+4≤9223372036854775807; omega) ?_
  refine aS rfl rfl (.nc (.ret (aK Tryz.results102 (.tmp rfl .nil) ?_)))
  exact ⟨rfl,congrArg Value.string (aRg (by omega))⟩
 have c1k:=c1
 try simp only [aD,aE] at c1
 refine .g (cP rfl rfl rfl rfl (.g (cD rfl (fun c2=>?_) (fun c2=>?_))))
 ·have c2k:=c2
  try simp only [aD,aE] at c2
  refine .g (kV rfl aFz (aB rfl aF) (aD1 n _ hn) ?_)
  refine sP rfl .no (.u rfl) (.u rfl) (fun _=>by rw [aDs]; show 6+4≤9223372036854775807; omega) ?_
  refine aS rfl rfl (.nc (.ret (aK Tryz.results102 (.tmp rfl .nil) ?_)))
  exact ⟨rfl,congrArg Value.string (aRh (by omega))⟩
 have c2k:=c2
 try simp only [aD,aE] at c2
 refine .g (cP rfl rfl rfl rfl (.g (cD rfl (fun c3=>?_) (fun c3=>?_))))
 ·have c3k:=c3
  try simp only [aD,aE] at c3
  refine .g (kV rfl aFz (aB rfl aF) (aD1 n _ hn) ?_)
  refine sP rfl .no (.u rfl) (.u rfl) (fun _=>by rw [aDs]; show 9+6≤9223372036854775807; omega) ?_
  refine aS rfl rfl (.nc (.ret (aK Tryz.results102 (.tmp rfl .nil) ?_)))
  exact ⟨rfl,congrArg Value.string (aRi (by omega))⟩
 have c3k:=c3
 try simp only [aD,aE] at c3
 refine .g (cP rfl rfl rfl rfl (.g (cD rfl (fun c4=>?_) (fun c4=>?_))))
 ·have c4k:=c4
  try simp only [aD,aE] at c4
  refine .seq (aQ rfl rfl (aS rfl rfl (.nc (.ret (aK Tryz.results102 (.tmp rfl .nil) ?_)))))
  exact ⟨rfl,congrArg Value.string (aRj (by omega))⟩
 have c4k:=c4
 try simp only [aD,aE] at c4
 refine .g (cP rfl rfl rfl rfl (.g (cD rfl (fun c5=>?_) (fun c5=>?_))))
 ·have c5k:=c5
  try simp only [aD,aE] at c5
  refine .seq (aQ rfl rfl (aS rfl rfl (.nc (.ret (aK Tryz.results102 (.tmp rfl .nil) ?_)))))
  exact ⟨rfl,congrArg Value.string (aRk (by omega))⟩
 have c5k:=c5
 try simp only [aD,aE] at c5
 refine .skip (.blk (.code (.seq (aQ rfl rfl (aS rfl rfl (.nc (.ret (aK Tryz.results102 (.tmp rfl .nil) ?_))))))))
 exact ⟨rfl,congrArg Value.string (aRf (by omega) (by omega) (by omega) (by omega) (by omega))⟩
theorem aB8 (h:Sh) (l:List ByteArray) (G:PM) (hs:SlR G 1 kF h l) (hl:l.length≤1000000) (hg:∀ s∈l,eH s):Ct Tryz.prog 53 ([h.val l.length]:List Value).toArray G [] (fun _ μ' u=>μ'=[]∧u=.bool true):=by
 refine Ct.of Tryz.func53 rfl Tryz.ntmps53 rfl fun w0 hs0=>?_
 refine .g (lE rfl wM rfl (mV rfl rfl (.nc (.block ?_))))
 refine aX (α:=Nat) (fun k=>[(7,true,.int .i64 (k:Int))]) (fun _=>[])
  (fun k Gl=>(k≤l.length)) (fun k=>l.length-k) 0 [(5,true,_),(6,true,_)] []
  (aM rfl (aA rfl (aA rfl eZ)))
  mN ?_ ?_
 ·(try dsimp only)<;>(first|omega|rfl|assumption|(simp; done))
 intro k N0 Gl0 hN0 hGl0 hF0
 try dsimp only at hF0 hN0 ⊢
 have hk:=hF0
 have hs:=hs.mono hGl0
 refine .g (cP rfl rfl rfl rfl (.g (cD rfl (fun c1=>?_) (fun c1=>?_))))
 ·have c1k:=c1
  try simp only [aD,aH,aE] at c1
  refine .skip (.code (.seq (.block (.seq (dP rfl rfl (ih rfl .no jZ (.u rfl) (.u rfl) (by omega) (by omega) (fun _=>hs.nn (k:=k) (by first|omega|(simp only [Bool.and_eq_true,decide_eq_true_eq] at hc; omega)|(simp only [List.length_cons,List.length_nil]; omega))) ?_))))))
  obtain ⟨x,ex⟩:=dY (k:=k) (xs:=l) (by omega)
  have hx:=hg x (List.mem_of_getElem? ex)
  refine lN rfl cW rfl ((hs.at (by omega) ex 0 _ rfl).rd) (.g (cs rfl .no (.u rfl) (.u rfl) rfl (mV rfl rfl (mv rfl (.f rfl rfl) (.u rfl) (ls rfl (.f rfl rfl) lU (.s rfl) (cp rfl (.f rfl rfl) (.s rfl) (.u rfl) rfl (bZ rfl .no (.u rfl) (.s rfl) (.g (cD rfl (fun c2=>?_) (fun c2=>?_))))))))))
  ·have c2k:=c2
   rw [aKC hx.1] at c2; have hx2:=hx.2; simp at c2; omega
  have c2k:=c2
  try simp only [aD,aH,aE] at c2
  refine .g (aW (((k+1):Nat):Int) rfl rfl rfl rfl ?_)
  refine .g (aU (k+1) ?_ ?_ ?_ ?_ ?_)
  ·exact (aM rfl (aA rfl (aA rfl eZ)))
  ·exact mN
  ·first|omega|(dsimp only; omega)
  ·exact hGl0
  (try dsimp only)<;>(first|omega|rfl|assumption|(simp; done))
 have c1k:=c1
 try simp only [aD,aH,aE] at c1
 refine .exit (.xcode (.xlp (.xblk (.code (.seq (aQ rfl rfl (aS rfl rfl (.nc (.ret (aK Tryz.results53 (.tmp rfl .nil) ?_))))))))))
 exact ⟨rfl,rfl⟩
theorem aAg (bd bm room done clk:Nat) (F:List Fi) (G:PM) (hD:DkR F clk) (hd9:done≤1000000000) (hr9:room≤1000000000) (nm:ByteArray) (there:Bool) (h:Sh) (l:List ByteArray) (hs:SlR G 1 kF h l) (hl:l.length≤1000000) (hg:∀ s∈l,eH s) (hn:eH nm) (ht:there=true→(bK nm F).isSome=true):Ct Tryz.prog 55 ([.pointer (some ⟨bd,0,none⟩),.string nm,.bool there,h.val l.length]:List Value).toArray G [.blk bd (cl (bH bm room (done)) 118),.blk bm (mO ((F).map Fi.fe) (clk))] (fun _ μ' u=>μ'=[.blk bd (cl (bH bm room (done)) 118),.blk bm (mO ((F).map Fi.fe) (clk))]∧u=.int .i64 0):=by
 refine Ct.of Tryz.func55 rfl Tryz.ntmps55 rfl fun w0 hs0=>?_
 refine .g (pe rfl .no iY (.u rfl) (.u rfl) ?_)
 refine .g (dM rfl rfl ?_)
 refine .skip (.code (.seq (.seq (rq9 rfl rfl (mV rfl rfl ?_)))))
 refine Go.Tan.b1 rfl jZ sG (.u rfl) rfl rfl (by decide) ?_; intro b14
 refine kp rfl .no wG (aB rfl aF) (Gp.add .here Gp.nil) (fun _ hle hq=>aB8 ⟨some ⟨b14,0,none⟩,1⟩ [nm] _ (fD (xs:=[nm]) (bU _ _ _) (fun _ _=>rfl) (Nat.le_refl 1)) (by show 1≤_; omega) (fun s hs=>by rw [List.mem_singleton.1 hs]; exact hn)) ?_
 refine nt rfl .no (.u rfl) (mV rfl rfl (mv rfl (.f rfl rfl) (.u rfl) (kv rfl (.f rfl rfl) wG (Eva.cons (.s rfl) aF) (fun hc=>aB8 h l _ hs hl hg) ?_)))
 refine nt rfl (.f rfl rfl) (.s rfl) (bZ rfl .no (.u rfl) (.s rfl) (.g (cD rfl (fun c1=>?_) (fun c1=>?_))))
 ·have c1k:=c1
  cases c1
 have c1k:=c1
 try simp only [aD,aH,aE] at c1
 refine .g (nC rfl rfl (fZ rfl aA6 rfl (lO rfl cJ rfl aC rfl ?_)))
 refine cP rfl rfl rfl rfl (.g (cD rfl (fun c2=>?_) (fun c2=>?_)))
 ·have c2k:=c2
  cases c2
 have c2k:=c2
 try simp only [aD,aH,aE] at c2
 refine .g (nC rfl rfl (fZ rfl vV rfl (lO rfl kX rfl aC rfl ?_)))
 refine .g (cD rfl (fun c3=>?_) (fun c3=>?_))
 ·have c3k:=c3
  cases c3
 have c3k:=c3
 try simp only [aD,aH,aE] at c3
 refine .g (nC rfl rfl (fZ rfl fX rfl (lO rfl fW rfl aC (by first|exact aV rfl|rfl) ?_)))
 refine .p (aCD rfl .no gX sF (.u rfl) (.u rfl) (uX aI) (aIW) (aIV) ?_)
 refine .p (eX rfl rfl rfl (eX rfl rfl rfl ?_))
 refine al rfl qK ?_; intro b9
 refine sw rfl (.u rfl) (.u rfl) rfl qI .here rfl (Fi.one _) ?_
 refine aS rfl rfl (.nc (.seq (lF rfl rfl (mV rfl rfl (mV rfl rfl (mv rfl (.t rfl rfl) (.u rfl) (nt rfl (.t rfl rfl) (.s rfl) (bL rfl .no (.u rfl) (.s rfl) (.g (cD rfl (fun c4=>?_) (fun c4=>?_)))))))))))
 ·have c4k:=c4
  exact absurd c4 (by cases there<;>simp_all)
 have c4k:=c4
 try simp only [aD,aH,aE] at c4
 refine .skip (.code (.seq (aQ rfl rfl (aS rfl rfl (.nc (.ret (bD Tryz.results55 (.tmp rfl .nil) (mS aI rfl (mS aI rfl mN)) ?_)))))))
 exact ⟨rfl,rfl⟩
theorem zY (bd bm room done:Nat) (G:PM) (hd9:done≤2000000000):Ct Tryz.prog 56 ([.pointer (some ⟨bd,0,none⟩)]:List Value).toArray G [.blk bd (cl (bH bm room done) 118)] (fun _ μ' u=>μ'=[.blk bd (cl (bH bm room (done+1)) 118)]∧u=.int .i64 0):=by
 refine Ct.of Tryz.func56 rfl Tryz.ntmps56 rfl fun w0 hs0=>?_
 refine .g (nC rfl rfl (fZ rfl aLe rfl (lO rfl cJ rfl .here rfl ?_)))
 refine aW (((done+1):Nat):Int) rfl rfl rfl rfl ?_
 refine nC rfl rfl (fZ rfl aLe rfl (s1 rfl (.u rfl) (.u rfl) rfl lR .here (by first|(simp [bH,Fi.cells]; done)|decide) (rfl) ?_))
 refine .g (nC rfl rfl (fZ rfl aA6 rfl (lO rfl cJ rfl .here rfl ?_)))
 refine cP rfl rfl rfl rfl (.g (cD rfl (fun c1=>?_) (fun c1=>?_)))
 ·have c1k:=c1
  cases c1
 have c1k:=c1
 try simp only [aD,aH,aE] at c1
 refine .skip (.code (.seq (aQ rfl rfl (aS rfl rfl (.nc (.ret (bD Tryz.results56 (.tmp rfl .nil) (mS .here rfl mN) ?_)))))))
 exact ⟨rfl,rfl⟩
theorem aJ4 (bd bm room done clk:Nat) (F:List Fi) (G:PM) (hD:DkR F clk) (hbd:PB G bd (cl (bH bm room done) 118)) (hbm:PB G bm (mO (F.map Fi.fe) clk)):Ct Tryz.prog 247 ([.pointer (some ⟨bd,0,none⟩)]:List Value).toArray G [] (fun _ μ' u=>μ'=[]∧u=.int .i64 ((cA F:Nat):Int)):=by
 refine Ct.of Tryz.func247 rfl Tryz.ntmps247 rfl fun w0 hs0=>?_
 refine .g (pn rfl .no iY (.u rfl) (.u rfl) ?_)
 refine .g (gK rfl rfl ?_)
 refine .g (nC rfl rfl (fA rfl fX rfl (lN rfl fW rfl ((hbd.rd (rfl)).rd) ?_)))
 refine rgS rfl gX (.u rfl) (aAR hbm.h) ?_; intro b12
 refine .nil (.code (.block ?_))
 refine aX (α:=List Nat×Nat) (fun gh=>[(3,true,.int .i64 ((jT gh.1 F:Nat):Int))]) (fun gh=>[.blk b12 (iR bm clk gh.2 gh.1)])
  (fun gh Gl=>(gh.2=clk)) (fun gh=>nH gh.1 F) ([],clk) [(12,true,_)] []
  (eJ rfl (by rw [aKK]; rfl) (aA rfl eZ))
  (mS .here rfl mN) ?_ ?_
 ·(try dsimp only)<;>(first|omega|rfl|assumption|(simp; done))
 intro gh N0 Gl0 hN0 hGl0 hF0
 obtain ⟨seen,last⟩:=gh; dsimp only at hF0 hN0 ⊢
 have hl:=hF0
 have hbm:=hbm.mono hGl0
 have hsz:=aFB (seen:=seen) (F:=F); have hfw:=hD.few; have hlst:∀ e∈F.map Fi.fe,e.2.2<last:=by rw [hl]; exact hD.oldE
 refine .seq (bB rfl rfl ?_)
 refine nxS rfl (.u rfl) .here (aAR hbm.h) hD.oldE hlst ?_; intro o13 ho13
 refine ex rfl .no (.u rfl) (aSC o13) (.g (cD rfl (fun c1=>?_) (fun c1=>?_)))
 ·have c1k:=c1
  obtain ⟨e6,rfl⟩:=Option.isSome_iff_exists.1 c1
  obtain ⟨f6,hf6,rfl,hn6,hm6⟩:=aKJ hD.nd ho13
  have hle6:=aFB (seen:=seen++[f6.born]) (F:=F)
  refine .g (etS rfl (.u rfl) .here (aAR hbm.h) (aHn hD.nd hf6) ?_)
  refine eX rfl rfl rfl ?_
  refine al rfl qK ?_; intro b5
  refine sw rfl (.u rfl) (.u rfl) rfl qI .here rfl (Fi.one _) ?_
  refine .g (fZ rfl nW rfl (lO rfl dB rfl .here rfl ?_))
  refine lE rfl bV rfl (aW (((jT seen F+f6.n):Nat):Int) rfl rfl rfl rfl ?_)
  refine .g (aU (seen++[f6.born],clk) ?_ ?_ ?_ ?_ ?_)
  ·exact (eJ rfl (by rw [hn6]) (aA rfl eZ))
  ·exact (mS aC rfl mN)
  ·have h7:nH (seen++[f6.born]) F+1=nH seen F:=hm6; show nH (seen++[f6.born]) F<N0; omega
  ·exact hGl0
  (try dsimp only)<;>(first|omega|rfl|assumption|(simp; done))
 have c1k:=c1
 have:o13=none:=by cases o13<;>simp_all
 subst this
 have hE:=aKI ho13
 refine .exit (.xcode (.xlp (.xblk (.code (.seq (bB rfl rfl (mV rfl rfl (aS rfl rfl (.nc (.ret (aK Tryz.results247 (.tmp rfl .nil) ?_)))))))))))
 exact ⟨rfl,by rw [hE]; rfl⟩
theorem zC:aL Tryz.prog 55=true:=by kernel_rfl
theorem aLd:aT Tryz.prog 118 1=some 1:=by kernel_rfl
theorem aMF:aL Tryz.prog 247=true:=by kernel_rfl
theorem yL:bT Tryz.prog 124=some (some 2):=by kernel_rfl
theorem aBP:aL Tryz.prog 56=true:=by kernel_rfl
theorem tU:aT Tryz.prog 124 1=some 1:=by kernel_rfl
theorem aHH (bd bm room done clk:Nat) (F:List Fi) (G:PM) (hD:DkR F clk) (hd9:done≤1000000000) (hr9:room≤1000000000) (nm:ByteArray) (h:Sh) (xs:List Y) (hs:SlR G 1 aN h xs) (hn:eH nm) (hab:bK nm F=none) (hx:xs.length≤1000000000) (hfit:xs.length+cA F≤room):Ct Tryz.prog 175 ([.pointer (some ⟨bd,0,none⟩),.string nm,h.val xs.length]:List Value).toArray G [.blk bd (cl (bH bm room (done)) 118),.blk bm (mO ((F).map Fi.fe) (clk))] (fun G' μ' u=>∃ f:Fi,f.nm=nm∧f.n=xs.length∧f.safe=0∧f.born=clk∧SlR G' 1 aN f.h xs∧μ'=[.blk bd (cl (bH bm room (done+1)) 118),.blk bm (mO ((F++[f]).map Fi.fe) (clk+1))]∧u=.int .i64 0):=by
 refine Ct.of Tryz.func175 rfl Tryz.ntmps175 rfl fun w0 hs0=>?_
 have hfw:=hD.few
 refine .g (ka rfl (.inr rfl) zC (aB rfl (aB rfl (aB rfl (aB rfl aF)))) (dI .here .here) (aAg bd bm room done clk F _ hD hd9 hr9 nm false ⟨none,0⟩ [] SlR.nul (Nat.zero_le _) (fun s hs=>absurd hs List.not_mem_nil) hn (fun h=>absurd h (by decide))) ?_)
 rintro _ G11 μ11 hG11 ⟨rfl,rfl⟩
 have hs:=hs.mono hG11
 refine .g (cP rfl rfl rfl rfl (.g (cD rfl (fun c1=>?_) (fun c1=>?_))))
 ·have c1k:=c1
  exact absurd c1 (by decide)
 have c1k:=c1
 try simp only [aD,aH,aE] at c1
 refine .g (bO (mc:=⟨false,false⟩) [0,1,2,3,4,5,6,7,8,9] aY (by kernel_rfl) ?_)
 refine .p (lE rfl bV rfl (.p (nC rfl rfl (fZ rfl aLd rfl (lO rfl cJ rfl .here rfl ?_)))))
 refine .p (kp rfl .no aMF (aB rfl aF) (Gp.add aC (Gp.add .here Gp.nil)) (fun _ hle hq=>aJ4 bd bm room done clk F _ hD ⟨hq.1 _ _ (bU _ _ _)⟩ ⟨bU _ _ _⟩) ?_)
 refine aR rfl rfl rfl rfl ?_
 refine cP rfl rfl rfl rfl (.g (cD rfl (fun c2=>?_) (fun c2=>?_)))
 ·have c2k:=c2
  simp only [decide_eq_true_eq] at c2; omega
 have c2k:=c2
 try simp only [aD,aH,aE] at c2
 refine .g (nC rfl rfl (fZ rfl fX rfl (lO rfl fW rfl .here rfl ?_)))
 refine .p (lkS rfl .no gX sF (.u rfl) (.u rfl) (uX aC) (aIX hab) ?_)
 refine al rfl qK ?_; intro b8
 refine sw rfl (.u rfl) (.u rfl) rfl qI .here rfl (by simp [Value.oneCell']) ?_
 refine .nil (.code (.seq (aFL 5 ?_)))
 refine .g (fZ rfl nW rfl (lO rfl dB rfl aC rfl ?_))
 refine fZ rfl nW rfl (lO rfl dB rfl aC rfl ?_)
 refine lE rfl bV rfl (fZ rfl nW rfl (lO rfl dB rfl aC rfl ?_))
 refine lE rfl bV rfl (k00 rfl aP (.u rfl) (.u rfl) (.u rfl) ?_)
 refine .p (eN rfl aP bY (.u rfl) (.u rfl) .here hs.sc (by (try simp only [cI,cR]); omega) ?_)
 intro v41 L41 ov41 eL41
 have lL41:L41.length=([]:List Y).length+xs.length:=by rw [eL41,List.length_append]
 refine fZ rfl nW rfl (oP rfl (.u rfl) (.u rfl) .here kU aC (by first|(simp [bH,Fi.cells]; done)|decide) (rfl) ?_)
 refine .nil (.code (.seq ?_))
 refine kR aC (bF aC rfl (bF aC rfl (eT))) ?_; intro GfRN hRN hleRN evRN hsRN; subst evRN
 refine bO (mc:=⟨false,false⟩) [0,1,2,3,4,5,6] aY (by kernel_rfl) ?_
 refine .p (nC rfl rfl (fZ rfl fX rfl (lO rfl fW rfl aC rfl ?_)))
 refine .p (lB rfl yL rfl .here ?_)
 refine muS rfl gX (.u rfl) (.u rfl) (.u rfl) aI (aAQ hab) ?_
 refine .g (ka rfl (.inr rfl) aBP (aB rfl aF) (cO aI) (zY bd bm room done _ (by omega)) ?_)
 rintro _ G50 μ50 hG50 ⟨rfl,rfl⟩
 have hsRN:=hsRN.mono hG50
 refine aS rfl rfl (.nc (.ret (bD Tryz.results175 (.tmp rfl .nil) (mS .here rfl (mS .here rfl mN)) ?_)))
 exact ⟨⟨nm,hRN,xs.length,0,clk⟩,rfl,rfl,rfl,rfl,by rw [show xs=L41 by rw [eL41]; rfl]; exact hsRN,by rw [← aHm]; simp only [Fi.fe,Fi.val,Fi.cells,←show L41.length=xs.length by rw [eL41]; rfl]; rfl,rfl⟩
theorem aHI (bd bm room done clk:Nat) (F:List Fi) (G:PM) (hD:DkR F clk) (hd9:done≤1000000000) (hr9:room≤1000000000) (nm:ByteArray) (h:Sh) (xs:List Y) (hs:SlR G 1 aN h xs) (hn:eH nm) (hab:bK nm F=none) (hx:xs.length≤1000000000) (hfit:xs.length+cA F≤room):Ct Tryz.prog 175 ([.pointer (some ⟨bd,0,none⟩),.string nm,h.val xs.length]:List Value).toArray G [.blk bd (cl (bH bm room (done)) 118),.blk bm (mO ((F).map Fi.fe) (clk))] (fun _ μ' u=>∃ f:Fi,f.nm=nm∧f.n=xs.length∧f.safe=0∧f.born=clk∧μ'=[.blk bd (cl (bH bm room (done+1)) 118),.blk bm (mO ((F++[f]).map Fi.fe) (clk+1))]∧u=.int .i64 0) :=
 (aHH bd bm room done clk F G hD hd9 hr9 nm h xs hs hn hab hx hfit).mono fun _ _ _ ⟨f,a1,a2,a3,a4,_,a5⟩=>⟨f,a1,a2,a3,a4,a5⟩
theorem aOt (bd bm room done clk:Nat) (F:List Fi) (G:PM) (hD:DkR F clk) (hd9:done≤1000000000) (hr9:room≤1000000000) (nm:ByteArray) (f:Fi) (hn:eH nm) (hf:bK nm F=some f):Ct Tryz.prog 246 ([.pointer (some ⟨bd,0,none⟩),.string nm]:List Value).toArray G [.blk bd (cl (bH bm room (done)) 118),.blk bm (mO ((F).map Fi.fe) (clk))] (fun _ μ' u=>μ'=[.blk bd (cl (bH bm room (done+1)) 118),.blk bm (mO ((tC nm F).map Fi.fe) (clk))]∧u=.int .i64 0):=by
 refine Ct.of Tryz.func246 rfl Tryz.ntmps246 rfl fun w0 hs0=>?_
 refine .g (ka rfl (.inr rfl) zC (aB rfl (aB rfl (aB rfl (aB rfl aF)))) (dI .here .here) (aAg bd bm room done clk F _ hD hd9 hr9 nm true ⟨none,0⟩ [] SlR.nul (Nat.zero_le _) (fun s hs=>absurd hs List.not_mem_nil) hn (fun _=>by rw [hf]; rfl)) ?_)
 rintro _ G9 μ9 hG9 ⟨rfl,rfl⟩
 refine .g (cP rfl rfl rfl rfl (.g (cD rfl (fun c1=>?_) (fun c1=>?_))))
 ·have c1k:=c1
  exact absurd c1 (by decide)
 have c1k:=c1
 try simp only [aD,aH,aE] at c1
 refine .g (nC rfl rfl (fZ rfl fX rfl (lO rfl fW rfl .here rfl ?_)))
 refine .p (lkS rfl .no gX sF (.u rfl) (.u rfl) (uX aC) (aAP hf) ?_)
 refine al rfl qK ?_; intro b6
 refine sw rfl (.u rfl) (.u rfl) rfl qI .here rfl (Fi.one _) ?_
 refine .g (fZ rfl nW rfl (lO rfl dB rfl .here rfl ?_))
 refine lE rfl bV rfl (fZ rfl tU rfl (s1 rfl (.u rfl) (.u rfl) rfl lR .here (by first|(simp [bH,Fi.cells]; done)|decide) (rfl) ?_))
 refine .g (bO (mc:=⟨false,false⟩) [0,1,2,3,4,5,6] aY (by kernel_rfl) ?_)
 refine .p (nC rfl rfl (fZ rfl fX rfl (lO rfl fW rfl aC rfl ?_)))
 refine .p (lB rfl yL rfl .here ?_)
 refine muT rfl gX (.u rfl) (.u rfl) (.u rfl) aI (pI hf) ?_
 refine .g (ka rfl (.inr rfl) aBP (aB rfl aF) (cO aI) (zY bd bm room done _ (by omega)) ?_)
 rintro _ G30 μ30 hG30 ⟨rfl,rfl⟩
 refine aS rfl rfl (.nc (.ret (bD Tryz.results246 (.tmp rfl .nil) (mS .here rfl (mS .here rfl mN)) ?_)))
 exact ⟨by rw [← aIp hf]; rfl,rfl⟩
theorem aOs (bd bm room done clk:Nat) (F:List Fi) (G:PM) (hD:DkR F clk) (hd9:done≤1000000000) (hr9:room≤1000000000) (nm to:ByteArray) (f:Fi) (hn:eH nm) (hn2:eH to) (hf:bK nm F=some f) (hab:bK to (dN nm F)=none):Ct Tryz.prog 139 ([.pointer (some ⟨bd,0,none⟩),.string nm,.string to]:List Value).toArray G [.blk bd (cl (bH bm room (done)) 118),.blk bm (mO ((F).map Fi.fe) (clk))] (fun _ μ' u=>μ'=[.blk bd (cl (bH bm room (done+1)) 118),.blk bm (mO ((dN nm F++[{ f with nm:=to,born:=clk }]).map Fi.fe) (clk+1))]∧u=.int .i64 0):=by
 refine Ct.of Tryz.func139 rfl Tryz.ntmps139 rfl fun w0 hs0=>?_
 refine .seq (aQ rfl rfl (aS rfl rfl (.nc (.seq (.seq (iV rfl rfl (mV rfl rfl (mV rfl rfl (mV rfl rfl ?_)))))))))
 refine Go.Tan.b1 rfl jZ sG (.u rfl) rfl rfl (by decide) ?_; intro b12
 refine ka rfl (.inr rfl) zC (aB rfl (aB rfl (aB rfl (aB rfl aF)))) (fF .here .here .here) (pV fun _=>aAg bd bm room done clk F _ hD hd9 hr9 nm true ⟨some ⟨b12,0,none⟩,1⟩ [to] (fD (xs:=[to]) (bU _ _ _) (fun _ _=>rfl) (Nat.le_refl 1)) (by show 1≤_; omega) (fun s hs=>by rw [List.mem_singleton.1 hs]; exact hn2) hn (fun _=>by rw [hf]; rfl)) ?_
 rintro _ G13 μ13 hG13 ⟨rfl,rfl⟩
 refine .g (cP rfl rfl rfl rfl (.g (cD rfl (fun c1=>?_) (fun c1=>?_))))
 ·have c1k:=c1
  exact absurd c1 (by decide)
 have c1k:=c1
 try simp only [aD,aH,aE] at c1
 refine .g (nC rfl rfl (fZ rfl fX rfl (lO rfl fW rfl .here rfl ?_)))
 refine .p (lkS rfl .no gX sF (.u rfl) (.u rfl) (uX aC) (aAP hf) ?_)
 refine al rfl qK ?_; intro b8
 refine sw rfl (.u rfl) (.u rfl) rfl qI .here rfl (Fi.one _) ?_
 refine .g (nC rfl rfl (fZ rfl fX rfl (lO rfl fW rfl aC rfl ?_)))
 refine .p (dlS rfl gX (.u rfl) (.u rfl) aI (pI hf) ?_)
 refine .g (bO (mc:=⟨false,false⟩) [0,1,2,3,4,5,6] aY (by kernel_rfl) ?_)
 refine .p (nC rfl rfl (fZ rfl fX rfl (lO rfl fW rfl aI rfl ?_)))
 refine .p (lB rfl yL rfl aC ?_)
 refine muS rfl gX (.u rfl) (.u rfl) (.u rfl) .here (by rw [xL]; exact aAQ hab) ?_
 refine .g (ka rfl (.inr rfl) aBP (aB rfl aF) (cO aI) (zY bd bm room done _ (by omega)) ?_)
 rintro _ G35 μ35 hG35 ⟨rfl,rfl⟩
 refine aS rfl rfl (.nc (.ret (bD Tryz.results139 (.tmp rfl .nil) (mS .here rfl (mS .here rfl mN)) ?_)))
 exact ⟨by rw [← aHm,←xL]; rfl,rfl⟩
theorem kB:cE Tryz.prog 23=some 1:=by kernel_rfl
theorem aWF:cT Tryz.prog 87 []=some ([.int .u64 0,.int .u64 0],[]):=by kernel_rfl
theorem sC:jR Tryz.prog 50=true:=by kernel_rfl
theorem qD:aT Tryz.prog 87 0=some 0:=by kernel_rfl
theorem aLs:aT Tryz.prog 85 0=some 0:=by kernel_rfl
theorem yY:aT Tryz.prog 85 1=some 1:=by kernel_rfl
theorem aWE:cT Tryz.prog 85 [0,1]=some ([.int .u64 0,.int .u64 0],[(0,1),(1,1)]):=by kernel_rfl
theorem aX6:dV Tryz.prog 85=some ([.int .u64 0,.int .u64 0]):=by kernel_rfl
theorem aMp:cE Tryz.prog 85=some 2:=by kernel_rfl
theorem aFZ:bT Tryz.prog 85=some (some 2):=by kernel_rfl
theorem aWU:eqT Tryz.prog 2 85 ([.int .u64,.int .u64])=true:=by kernel_rfl
theorem aVo:cT Tryz.prog 118 [0,1,3]=some ([.map none,.int .i64 0,.bool false,.int .i64 0,.int .i64 0],[(0,1),(1,1),(3,1)]):=by kernel_rfl
theorem nL (G:PM):Ct Tryz.prog 135 ([.int .i64 0]:List Value).toArray G [] (fun _ μ' u=>μ'=[]∧u=.tuple #[]):=by
 refine Ct.of Tryz.func135 rfl Tryz.ntmps135 rfl fun w0 hs0=>?_
 refine .g (cP rfl rfl rfl rfl (.g (cD rfl (fun c1=>?_) (fun c1=>?_))))
 ·have c1k:=c1
  exact absurd c1 (by decide)
 have c1k:=c1
 try simp only [aD,aE] at c1
 refine .g (aK Tryz.results135 .nil ?_)
 exact ⟨rfl,rfl⟩
theorem sT (b:Bool) (hb:b=true) (G:PM):Ct Tryz.prog 103 ([.bool b]:List Value).toArray G [] (fun _ μ' u=>μ'=[]∧u=.tuple #[]):=by
 subst hb
 refine Ct.of Tryz.func103 rfl Tryz.ntmps103 rfl fun w0 hs0=>?_
 refine .g (nt rfl .no (.u rfl) (.g (cD rfl (fun c1=>?_) (fun c1=>?_))))
 ·have c1k:=c1
  exact absurd c1 (by decide)
 have c1k:=c1
 try simp only [aD,aE] at c1
 refine .g (aK Tryz.results103 .nil ?_)
 exact ⟨rfl,rfl⟩
theorem aFD (G:PM):Ct Tryz.prog 27 ([]:List Value).toArray G [] (fun _ μ' u=>∃ bt,μ'=[.blk bt (cl [uv .u64 (0),uv .u64 (0)] 87)]∧u=.pointer (some ⟨bt,0,none⟩)):=by
 refine Ct.of Tryz.func27 rfl Tryz.ntmps27 rfl fun w0 hs0=>?_
 refine .g (bC rfl .no aWF .nil rfl ?_)
 refine bX rfl rfl rfl ?_; intro b2
 refine aS rfl rfl (.nc (.ret (bD Tryz.results27 (.tmp rfl .nil) (mS .here rfl mN) ?_)))
 exact ⟨b2,rfl,rfl⟩
theorem aAS (bt:Nat) (m o:BitVec 64) (G:PM) (hbt:PB G bt (cl [uv .u64 m,uv .u64 o] 87)):Ct Tryz.prog 134 ([.pointer (some ⟨bt,0,none⟩)]:List Value).toArray G [] (fun _ μ' u=>μ'=[]∧u=uv .u64 m):=by
 refine Ct.of Tryz.func134 rfl Tryz.ntmps134 rfl fun w0 hs0=>?_
 refine .g (pe rfl .no sC (.u rfl) (.u rfl) ?_)
 refine .g (dM rfl rfl ?_)
 refine .g (nC rfl rfl (fA rfl qD rfl (fA rfl aLs rfl (lN rfl aZ rfl ((hbt.rd (by rfl)).rd) ?_))))
 refine aS rfl rfl (.nc (.ret (aK Tryz.results134 (.tmp rfl .nil) ?_)))
 exact ⟨rfl,rfl⟩
theorem aRG (bt:Nat) (m o:BitVec 64) (G:PM) (hm:m.toNat≤1000000):Ct Tryz.prog 209 ([.pointer (some ⟨bt,0,none⟩),uv .u64 (m+1#64)]:List Value).toArray G [.blk bt (cl [uv .u64 (m),uv .u64 (o)] 87)] (fun _ μ' u=>μ'=[.blk bt (cl [uv .u64 (m+1#64),uv .u64 (o)] 87)]∧u=.int .i64 0):=by
 refine Ct.of Tryz.func209 rfl Tryz.ntmps209 rfl fun w0 hs0=>?_
 have hm1:@BitVec.toNat IntKind.u64.bits (m+1#64) = @BitVec.toNat 64 m+1:=by show (m+1#64).toNat=_; rw [BitVec.toNat_add]; show (m.toNat+1)%2^64=_; omega
 have hm3:@BitVec.toNat 64 (m+1#64) = @BitVec.toNat 64 m+1:=hm1
 refine .g (pe rfl .no sC (.u rfl) (.u rfl) ?_)
 refine .g (dM rfl rfl ?_)
 refine .g (nC rfl rfl (fZ rfl qD rfl (fZ rfl yY rfl (lO rfl aZ rfl .here (by first|exact aV rfl|rfl) ?_))))
 refine bC rfl .no aWE (.cons (.u rfl) rfl (.cons (.u rfl) rfl .nil)) rfl ?_
 refine al rfl aX6 ?_; intro b5
 refine sw rfl (.u rfl) (.u rfl) rfl aMp .here rfl (aKh _ _) ?_
 refine .g (bO (mc:=⟨false,false⟩) [0,1,2,3,4,5,6,7,8,9,10,11,12,13,14,15,16,17,18,19] aY (by kernel_rfl) ?_)
 refine .p (cP rfl rfl rfl rfl (.p (lA rfl (.f rfl rfl) aFZ (.u rfl) (fun _=>RdN.own .here) (fun _=>(by first|exact qE|exact qL|rfl)) ?_)))
 refine mv rfl (.f rfl rfl) (.u rfl) (nc rfl (.f rfl rfl) (.s rfl) (fz rfl (.f rfl rfl) qD (.s rfl) (lA rfl (.f rfl rfl) aFZ (.s rfl) (fun _=>RdN.own aC) (fun _=>(by first|exact qE|exact qL|rfl)) ?_)))
 refine eqC (false) rfl (.f rfl rfl) aWU (.s rfl) (.s rfl) (fun hc=>.u64 (.u64 .nil)) (fun hc=>.u64 (.u64 .nil)) (fun hc=>⟨fun h=>absurd h (by decide),fun h=>by have:=aRM h; omega⟩) ?_
 refine bZ rfl .no (.u rfl) (.s rfl) (mV rfl rfl (mv rfl (.f rfl rfl) (.u rfl) (bw (k:=.u64) (b:=1#64) rfl (.f rfl rfl) rfl (.s rfl) (.u rfl) rfl (mv rfl (.f rfl rfl) (.u rfl) (nc rfl (.f rfl rfl) (.s rfl) (fz rfl (.f rfl rfl) qD (.s rfl) (fz rfl (.f rfl rfl) aLs (.s rfl) (ld rfl (.f rfl rfl) aZ (.s rfl) (fun hc=>Rd.own aC (by first|exact aV rfl|rfl)) ?_))))))))
 refine cp rfl (.f rfl rfl) (.s rfl) (.s rfl) rfl (bZ rfl .no (.u rfl) (.s rfl) (.g (cD rfl (fun c1=>?_) (fun c1=>?_))))
 ·have c1k:=c1
  exact (aRN hm c1).elim
 have c1k:=c1
 try simp only [aD,aH,aE] at c1
 refine .g (lB rfl aFZ rfl .here ?_)
 refine nC rfl rfl (fZ rfl qD rfl (sw rfl (.u rfl) (.u rfl) rfl aMp aC rfl (aKh _ _) ?_))
 refine .nil (.code (.seq (aQ rfl rfl (aS rfl rfl (.nc (.ret (bD Tryz.results209 (.tmp rfl .nil) (mS .here rfl mN) ?_)))))))
 exact ⟨rfl,rfl⟩
theorem aKX (bt:Nat) (m o:BitVec 64) (G:PM) (ho:o.toNat≤1000000):Ct Tryz.prog 86 ([.pointer (some ⟨bt,0,none⟩)]:List Value).toArray G [.blk bt (cl [uv .u64 (m),uv .u64 (o)] 87)] (fun _ μ' u=>μ'=[.blk bt (cl [uv .u64 (m),uv .u64 (o+1#64)] 87)]∧u=.tuple #[uv .u64 (o+1#64),.int .i64 0]):=by
 refine Ct.of Tryz.func86 rfl Tryz.ntmps86 rfl fun w0 hs0=>?_
 have ho1:@BitVec.toNat IntKind.u64.bits o = @BitVec.toNat 64 o:=rfl
 refine .g (pe rfl .no sC (.u rfl) (.u rfl) ?_)
 refine .g (dM rfl rfl ?_)
 refine .g (nC rfl rfl (fZ rfl qD rfl (fZ rfl yY rfl (lO rfl aZ rfl .here (by first|exact aV rfl|rfl) ?_))))
 refine cP rfl rfl rfl rfl (.g (cD rfl (fun c1=>?_) (fun c1=>?_)))
 ·have c1k:=c1
  have:=of_decide_eq_true c1; omega
 have c1k:=c1
 try simp only [aD,aH,aE] at c1
 refine .g (nC rfl rfl (fZ rfl qD rfl (fZ rfl yY rfl (lO rfl aZ rfl .here (by first|exact aV rfl|rfl) ?_))))
 refine bw (k:=.u64) (b:=1#64) rfl .no rfl (.u rfl) (.u rfl) rfl (nC rfl rfl (fZ rfl qD rfl (fZ rfl yY rfl (s1 rfl (.u rfl) (.u rfl) rfl kB .here (by first|decide|(simp only [cC,bP,cI]; omega)) (rfl) ?_))))
 refine .g (nC rfl rfl (fZ rfl qD rfl (fZ rfl yY rfl (lO rfl aZ rfl .here (by first|exact aV rfl|rfl) ?_))))
 refine aS rfl rfl (aS rfl rfl (.nc (.ret (bD Tryz.results86 (.tmp rfl (.tmp rfl .nil)) (mS .here rfl mN) ?_))))
 exact ⟨rfl,rfl⟩
theorem aD3 (room:Nat) (G:PM) (hr:room≤1000000000):Ct Tryz.prog 26 ([.int .i64 ((room:Nat):Int)]:List Value).toArray G [] (fun _ μ' u=>∃ bd bm,μ'=[.blk bd (cl (bH bm room 0) 118),.blk bm (mO [] 0)]∧u=.pointer (some ⟨bd,0,none⟩)):=by
 refine Ct.of Tryz.func26 rfl Tryz.ntmps26 rfl fun w0 hs0=>?_
 refine .seq (aQ rfl rfl (aS rfl rfl (.nc (.seq (iV rfl rfl ?_)))))
 refine mkM rfl ?_; intro b3
 refine .p (mAn 0 room rfl .no (.u rfl) (.u rfl) (fun _=>rfl) (fun _=>rfl) ?_)
 refine bC rfl .no aVo (.cons (.u rfl) rfl (.cons (.u rfl) rfl (.cons (.u rfl) rfl .nil))) rfl ?_
 refine bX rfl rfl rfl ?_; intro b7
 refine aS rfl rfl (.nc (.ret (bD Tryz.results26 (.tmp rfl .nil) (mS .here rfl (mS .here rfl mN)) ?_)))
 exact ⟨b7,b3,by rw [show max 0 room=room by omega]; rfl,rfl⟩
theorem aHP (bd bm room done clk:Nat) (F:List Fi) (G:PM) (hbd:PB G bd (cl (bH bm room done) 118)):Ct Tryz.prog 85 ([.pointer (some ⟨bd,0,none⟩)]:List Value).toArray G [] (fun _ μ' u=>μ'=[]∧u=.bool false):=by
 refine Ct.of Tryz.func85 rfl Tryz.ntmps85 rfl fun w0 hs0=>?_
 refine .g (pn rfl .no iY (.u rfl) (.u rfl) ?_)
 refine mV rfl rfl (mv rfl (.t rfl rfl) (.u rfl) (nc rfl (.t rfl rfl) (.s rfl) (fa rfl (.t rfl rfl) vV (.s rfl) (ld rfl (.t rfl rfl) kX (.s rfl) (fun hc=>(hbd.rd (rfl)).rd) ?_))))
 refine bL rfl .no (.u rfl) (.s rfl) (aS rfl rfl (.nc (.ret (aK Tryz.results85 (.tmp rfl .nil) ?_))))
 exact ⟨rfl,rfl⟩
theorem aOp (bd bm room done clk:Nat) (F:List Fi) (G:PM) (hbd:PB G bd (cl (bH bm room done) 118)) (hbm:PB G bm (mO (F.map Fi.fe) clk)) (nm:ByteArray) (hn:eH nm) (hab:bK nm F=none):Ct Tryz.prog 159 ([.pointer (some ⟨bd,0,none⟩),.string nm]:List Value).toArray G [] (fun _ μ' u=>μ'=[]∧u=.tuple #[.slice none 0 0,.int .i64 2]):=by
 refine Ct.of Tryz.func159 rfl Tryz.ntmps159 rfl fun w0 hs0=>?_
 refine .g (pe rfl .no iY (.u rfl) (.u rfl) ?_)
 refine .g (cD rfl (fun c1=>?_) (fun c1=>?_))
 ·have c1k:=c1
  cases c1
 have c1k:=c1
 try simp only [aD,aE] at c1
 refine .seq (lF rfl rfl (mV rfl rfl ?_))
 refine Go.Tan.b1 rfl jZ sG (.u rfl) rfl rfl (by decide) ?_; intro b13
 refine kp rfl .no wG (aB rfl aF) (Gp.add .here Gp.nil) (fun _ hle hq=>aB8 ⟨some ⟨b13,0,none⟩,1⟩ [nm] _ (fD (xs:=[nm]) (bU _ _ _) (fun _ _=>rfl) (Nat.le_refl 1)) (by show 1≤_; omega) (fun s hs=>by rw [List.mem_singleton.1 hs]; exact hn)) ?_
 refine nt rfl .no (.u rfl) (.g (cD rfl (fun c2=>?_) (fun c2=>?_)))
 ·have c2k:=c2
  exact absurd c2 (by decide)
 have c2k:=c2
 try simp only [aD,aE] at c2
 refine .g (nC rfl rfl (fA rfl vV rfl (lN rfl kX rfl ((hbd.rd (rfl)).rd) ?_)))
 refine .g (cD rfl (fun c3=>?_) (fun c3=>?_))
 ·have c3k:=c3
  cases c3
 have c3k:=c3
 try simp only [aD,aE] at c3
 refine .g (nC rfl rfl (fA rfl fX rfl (lN rfl fW rfl ((hbd.rd (rfl)).rd) ?_)))
 refine .p (aCD rfl .no gX sF (.u rfl) (.u rfl) (aAR hbm.h) (aIX hab) (aQu hab) ?_)
 refine .p (eX rfl rfl rfl (eX rfl rfl rfl ?_))
 refine al rfl qK ?_; intro b6
 refine sw rfl (.u rfl) (.u rfl) rfl qI .here rfl (by simp [Value.oneCell']) ?_
 refine .g (nt rfl .no (.u rfl) (.g (cD rfl (fun c4=>?_) (fun c4=>?_))))
 ·have c4k:=c4
  try simp only [aD,aE] at c4
  refine .seq (bB rfl rfl (aS rfl rfl (aS rfl rfl (.nc (.ret (aK Tryz.results159 (.tmp rfl (.tmp rfl .nil)) ?_))))))
  exact ⟨rfl,rfl⟩
 have c4k:=c4
 cases c4
end Go.Proofs.YtoifkgkandfeiaaGreatDoor

