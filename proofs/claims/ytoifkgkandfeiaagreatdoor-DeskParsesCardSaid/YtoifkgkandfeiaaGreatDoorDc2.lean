/- Lemmas and contracts of functions, joined. -/
import Derived.Test.YtoifkgkandfeiaaGreatDoorDc1
import Derived.Laws.CopyRow
import Derived.Lib.AppendStr
import Derived.Laws.IdiomStrings
import Derived.Control
import Derived.Lib.IndexMore
import Derived.Deep.Draws
import Derived.Sort.Grow
import Derived.Lib.IndexBytes
import Derived.Laws.RangeAny
import Derived.Lib.ItoaMem
import Derived.Lib.Join
import Derived.Lib.UnsafeStr
import Derived.Lib.Builder
import Derived.Sort.Row
import Derived.Below
import Derived.Lib.ItoaNum
set_option linter.unusedSimpArgs false
set_option linter.unusedVariables false
set_option linter.unusedSectionVars false
namespace Go.Tan
open Go.RowKit
section
variable {dr:Bool} {mc:Md} {P:Program} {n:Fm} {l:List Oper} {K:aI→PM→aH→Prop} {i:Nat} {σ:List Nat} {ρ:aI} {G:PM} {μ:aH}
variable {d t:Nat} {p:String} {af:Array Edge} {g:Option (Nat×Bool)} {c:Bool}
theorem apF {T E b o m cap:Nat} {x y:Operand} {u:Value} {xs ys:List Y} (hdf:mc.a=false∨dr=false) (ho:nth l i=some ⟨some d,.call { callee:=.builtin .append,args:=#[x,y],argTypes:=#[T,T] },t,p,af,none⟩)
  (hT:bL P T=some (E,1,1)) (hz:(P.info? E).bind (·.zero)=some (.int .u8 0)) (hx:Ev ρ true x (.slice (some ⟨b,o,none⟩) m cap)) (hy:Ev ρ true y u) (hold:SlR G 1 aU ⟨some ⟨b,o,none⟩,cap⟩ xs) (hm:xs.length=m) (hs:Sc G μ u ys) (h0:0<ys.length) (hg:cap<m+ys.length) (hb:xs.length+ys.length≤140737488355328)
  (h:∀ v' L,v'.oneCell'=true→L=xs++ys→Wo dr mc P n l K σ ((d,true,v') :: ρ) G (rB v' E L :: μ)):Wo dr mc P n l K (i :: σ) ρ G μ:=by
 subst hm
 obtain ⟨oa,cp,rfl,hr⟩:=hs.ex
 clear hs
 obtain ⟨b2,o2,rfl,hrd⟩:=hr h0
 refine .act (μ₁:=[]) (μ₂:=μ) (post:=fun G' μ' v'=>G'=G∧v'.oneCell'=true∧μ'=[rB v' E (xs++ys)]) ho (by rcases hdf with h | h<;>simp [bH,h]) .no (.refl _) (fun a w ha hs=>.inl ?_) ?_
 ·obtain ⟨hu,inf,hi,hs1,hb1⟩:=fQ hT
  have hz':=hz
  rw [hi] at hz'
  simp only [Option.bind_some] at hz'
  have hnews:∀ j u,(ys.map V)[j]? = some u→w.cell? ((⟨b2,o2,none⟩ : Addr).add j)=some u:=fun j u hj=>by rw [kC]; exact hrd j u hj w hs
  have holds:∀ j u,(xs.map V)[j]? = some u→w.cell? ((⟨b,o,none⟩ : Addr).add j)=some u:=fun j u hj=>by
   rw [kC]
   have h1:=SlR.flat (enc:=aU) (fun _ _=>rfl) hold
   rw [sC] at h1
   exact h1 j u hj w hs.sub
  have hrun:=run_append_grow (P:=P) w T t E inf _ hu hi hz' ⟨b,o,none⟩ xs.length cap (xs.map V) (by rw [hs1]; simp) holds ⟨b2,o2,none⟩ ys.length cp (ys.map V) (by rw [hs1]; simp) hnews (by omega) (by omega) (growslice_fits (by omega) (by rw [hb1]; omega))
  have h2:=((eK (Sat.left (μ:=[]) hs)).drew).alloc (.cells ((xs.map V).toArray++(ys.map V).toArray++Builtin.zeroCells (Value.int .u8 0).cells (grownCap w (xs.length+ys.length) cap E-(xs.length+ys.length))) E)
  have hge:=grownCap_ge w (xs.length+ys.length) cap E
  have h3:=h2.asRow (m:=xs.length+ys.length) (cap:=grownCap w (xs.length+ys.length) cap E) (sz:=1) (xs:=(xs++ys).map V) (by simp) hge (grownCap_le_maxLen w (xs.length+ys.length) cap E (by unfold maxLen; omega)) (by
   simp only [Array.size_append,List.size_toArray,size_zeroCells,List.length_map]
   have:(Value.int .u8 0).cells.size=1:=rfl
   rw [this]; omega) (by rw [Array.toList_append,Array.toList_append,List.map_append]; exact List.take_left' (by simp))
  refine ⟨_,_,G,_,.inl (by simp [execOp,resolve,invoke,builtin,hx.eval ha rfl,hy.eval ha rfl,hrun]; rfl),h3,rfl,rfl,?_⟩
  simp [rB]
 rintro v' G' μ'' _ ⟨rfl,h1,rfl⟩
 exact h v' _ h1 rfl
theorem kM {α:Type} {enc:α→List Value} {T e sz by':Nat} {x y z:Operand} {s:Sh} {xs:List α} (hi:Nat) (ho:nth l i=some ⟨some d,.slice T x none (some y) (some z),t,p,af,none⟩) (hT:bL P T=some (e,sz,by')) (hs:SlR G sz enc s xs)
  (hx:Ev ρ true x (s.val xs.length)) (hy:Ev ρ true y (.int .i64 hi)) (hz:Ev ρ true z (.int .i64 hi)) (h1:hi≤xs.length)
  (h:∀ s' L,L=xs.take hi→L.length=hi→SlR G sz enc s' L→Wo dr mc P n l K σ ((d,true,s'.val L.length) :: ρ) G μ):Wo dr mc P n l K (i :: σ) ρ G μ:=by
 have hl:(xs.take hi).length=hi:=by simp; omega
 have htake:SlR G sz enc ⟨s.oa,hi⟩ (xs.take hi):=by
  refine ⟨fun hne=>hs.there (fun e=>hne (by rw [e]; simp)),by rw [hl]; exact Nat.le_refl _,fun j u hj=>?_⟩
  rw [List.getElem?_take] at hj
  split at hj
  ·exact hs.rd j u hj
  cases hj
 have h2:=h _ _ rfl hl htake
 rw [hl] at h2
 refine .pure ho (.inl rfl) .no (fun hc a w ha=>?_) h2
 obtain ⟨hu,inf,hi',rfl,rfl⟩:=fQ hT
 have hx':=hx.eval ha hc
 simp only [Sh.val] at hx'
 have e3:=hs.le
 have hid:∀ oa:Option Addr,oa.map (fun a=>a.add 0)=oa:=fun oa=>by cases oa<;>simp [aBa]
 have e4:hi≤s.cap:=by omega
 simp [execOp,hx',hy.eval ha hc,hz.eval ha hc,Instr.sliceAt,run_underlying hu,Instr.slice,Instr.sliceBounds,Instr.sliceBound,asIntOf,e4,sizeOf,typeInfo,hi',Sh.val,hid]
theorem mAq {T T':TypeId} {x y:Operand} {k:IntKind} {a1 a2:Int} (q:Int) (ho:nth l i=some ⟨some d,.call { callee:=.builtin .max,args:=#[x,y],argTypes:=#[T,T'] },t,p,af,none⟩) (hx:Ev ρ true x (.int k a1)) (hy:Ev ρ true y (.int k a2)) (he:(if a2 > a1 then a2 else a1)=q)
  (h:Wo dr mc P n l K σ ((d,true,.int k q) :: ρ) G μ):Wo dr mc P n l K (i :: σ) ρ G μ:=mA ho .no hx hy (by rw [he]; exact h)
theorem aFr {f:FuncId} {args:Array Value} {b:Nat} {o:Obj} {Q:aH→Value→Prop} (h:PM.le G (G.add b o)→Ct P f args (G.add b o) μ (fun _ μ' u=>Q μ' u)):Ct P f args G (.blk b o :: μ) (fun _ μ' u=>∃ ν,μ'=.blk b o :: ν∧Q ν u):=by
 intro w hs
 exact rJ (h (PM.le_add (hs.apart b (by simp [keys,Res.keys])))) w hs
theorem aNQ {s s':Sh} {m:Nat} (h:s.val m=s'.val m):s=s':=by
 cases s; cases s'; simp only [Sh.val,Value.slice.injEq,true_and] at h; rw [h.1,h.2]
end
section
variable {dr:Bool} {mc:Md} {P:Program} {n:Fm} {l:List Oper} {K:aI→PM→aH→Prop} {i:Nat} {σ:List Nat} {ρ:aI} {G:PM} {μ:aH}
variable {d t:Nat} {p:String} {af:Array Edge} {g:Option (Nat×Bool)} {c:Bool}
theorem aTv {T m:Nat} {s:Sh} (hT:(bL P T).isSome=true) (w:World):(Op.equal T (s.val m) (.slice none 0 0)).run P w=.ok s.oa.isNone w:=by
 unfold bL at hT
 split at hT
 ·rename_i e hu
  unfold Op.equal
  rw [show Op.maxDepth=9999+1 from rfl,Op.equalIn]
  obtain ⟨oa,cap⟩:=s
  cases oa<;>simp [run_underlying hu,Sh.val]
 ·cases hT
theorem sn0 {T T' m:Nat} {x y:Operand} {s:Sh} (ho:nth l i=some ⟨some d,.binOp .eql T x y T',t,p,af,g⟩) (hg:Gd l ρ g c) (hT:(bL P T).isSome=true) (hx:Ev ρ c x (s.val m)) (hy:Ev ρ c y (.slice none 0 0)) (h:Wo dr mc P n l K σ ((d,c,.bool s.oa.isNone) :: ρ) G μ):Wo dr mc P n l K (i :: σ) ρ G μ :=
 .pure ho (.inl rfl) hg (fun hc q w ha=>by
  have hq:(eqGuard .eql T x y (s.val m) (.slice none 0 0)).run P w=.ok () w:=by unfold eqGuard; simp [Sh.val]
  have hb:(binOp .eql T (s.val m) (.slice none 0 0)).run P w=.ok (.bool s.oa.isNone) w:=by
   have:=aTv (P:=P) (s:=s) (m:=m) hT w
   simp only [Sh.val] at this ⊢
   simp [binOp,this]
  simp [execOp,hx.eval ha hc,hy.eval ha hc,hq,hb]) h
theorem cM {r r':Res} {μ1 ν:aH} (h:MTake μ r' μ1) (e:r'.keys=r.keys) (hs:∀ b∈keys ν,b∈keys μ1):∀ b∈keys (r :: ν),b∈keys μ:=by
 intro b hb
 have h1:b∈r.keys++keys ν:=by simpa [keys] using hb
 refine (xP h.perm).mem_iff.2 ?_
 show b∈keys (r' :: μ1)
 have h2:b∈r'.keys++keys μ1:=by
  rcases List.mem_append.1 h1 with h1 | h1
  ·exact List.mem_append_left _ (by rw [e]; exact h1)
  exact List.mem_append_right _ (hs b h1)
 simpa [keys] using h2
theorem jH:∀ b∈keys [],b∈keys μ:=fun b hb=>by cases hb
abbrev rS {α:Type} (sz:Nat) (enc:α→List Value) (v:Value) (E:Nat) (xs:List α):Res:=.row v E sz xs.length (xs.flatMap enc)
theorem aNo {α:Type} {enc:α→List Value} {sz T E by' b cp:Nat} {x y:Operand} {v z:Value} {xs:List α} {μ' μ2:aH} (a:α) (ho:nth l i=some ⟨some d,.call { callee:=.builtin .append,args:=#[x,y],argTypes:=#[T,T] },t,p,af,g⟩) (hg:Gd l ρ g true)
  (hT:bL P T=some (E,sz,by')) (hz:(P.info? E).bind (·.zero)=some z) (hzs:z.cells.size=sz) (hx:Ev ρ true x v) (hy:Ev ρ true y (.slice (some ⟨b,0,none⟩) 1 cp)) (hm:MTake μ (rS sz enc v E xs) μ') (hb:MTake μ (.blk b (cl (enc a) E)) μ2) (ha:(enc a).length=sz) (h1:∀ u∈enc a,u.oneCell'=true) (hl:(xs.length+1)*by'≤140737488355328) (hl2:xs.length+1≤maxLen)
  (h:∀ v',v'.oneCell'=true→Wo dr mc P n l K σ ((d,true,v') :: ρ) G (rS sz enc v' E (xs++[a]) :: μ')) (hmc:mc.a=false∨dr=false:=by first|exact .inl rfl|exact .inr rfl):Wo dr mc P n l K (i :: σ) ρ G μ:=by
 refine .act (μ₁:=[rS sz enc v E xs]) (μ₂:=μ') (post:=fun G' μ' v'=>G'=G∧v'.oneCell'=true∧μ'=[rS sz enc v' E (xs++[a])]) ho (by rcases hmc with h | h<;>simp [bH,h]) hg hm.perm (fun q w hq hs=>.inl ?_) ?_
 ·obtain ⟨v',w',hrun,ht⟩:=yG (ty:=t) (cp:=cp) (news:=enc a) (k:=1) (oa:=some ⟨b,0,none⟩) hT hz hzs hs.left (by rw [ha]; omega) (fun _=>⟨b,0,rfl,fun j u hj=>(RdN.own hb) j u hj w (hs.perm hm.perm.symm)⟩) h1 hl hl2
  refine ⟨v',w',G,[rS sz enc v' E (xs++[a])],.inl (by simp [execOp,resolve,invoke,builtin,hx.eval hq rfl,hy.eval hq rfl,hrun]),?_,rfl,ht.sat.rowOne,rfl⟩
  simp only [rS,List.length_append,List.flatMap_append,List.flatMap_cons,List.flatMap_nil,List.append_nil]; exact ht
 rintro v' G' μ'' _ ⟨rfl,h1,rfl⟩
 exact h v' h1
theorem gZ {α:Type} {enc:α→List Value} {sz T E by' b cp:Nat} {x y:Operand} {v z:Value} {xs:List α} {μ' μ2:aH} (a:α) (ho:nth l i=some ⟨some d,.call { callee:=.builtin .append,args:=#[x,y],argTypes:=#[T,T] },t,p,af,none⟩)
  (hT:bL P T=some (E,sz,by')) (hz:(P.info? E).bind (·.zero)=some z) (hzs:z.cells.size=sz) (hx:Ev ρ true x v) (hy:Ev ρ true y (.slice (some ⟨b,0,none⟩) 1 cp)) (hm:MTake μ (rS sz enc v E xs) μ') (hb:MTake μ (.blk b (cl (enc a) E)) μ2) (ha:(enc a).length=sz) (h1:∀ u∈enc a,u.oneCell'=true) (hl:(xs.length+1)*by'≤140737488355328) (hl2:xs.length+1≤maxLen)
  (h:∀ v',v'.oneCell'=true→Wo dr mc P n l K σ ((d,true,v') :: ρ) G (rS sz enc v' E (xs++[a]) :: μ')) (hmc:mc.a=false∨dr=false:=by first|exact .inl rfl|exact .inr rfl):Wo dr mc P n l K (i :: σ) ρ G μ:=aNo a ho .no hT hz hzs hx hy hm hb ha h1 hl hl2 h hmc
theorem Tr.frzS {α:Type} {enc:α→List Value} {sz:Nat} {G0:PM} {K0:List Nat} {w0 w:World} {E:Nat} {v:Value} {xs:List α} (hsz:∀ x∈xs,(enc x).length=sz) (h:Tr G0 K0 w0 G (rS sz enc v E xs :: μ) w) (hK:∀ b∈K0,b∈keys μ) :
  ∃ G' s,PM.le G G'∧v=Sh.val s xs.length∧SlR G' sz enc s xs∧Tr G0 K0 w0 G' μ w:=by
 obtain ⟨G',s,h1,h2,h3,h4,h5,h6⟩:=h.freezeRow hK
 exact ⟨G',s,h1,h2,SlR.ofRow hsz h3 h4 h5,h6⟩
theorem oQ {α:Type} {enc:α→List Value} {sz:Nat} {X:Cx} {e:Exit} {k:List KI} {E:Nat} {v:Value} {xs:List α} {μ':aH} (hm:MTake μ (rS sz enc v E xs) μ') (hsz:∀ x∈xs,(enc x).length=sz) (hK:∀ b∈X.K0,b∈keys μ') (h:∀ G' s,PM.le G G'→v=Sh.val s xs.length→SlR G' sz enc s xs→We X e k ρ G' μ'):We X e k ρ G μ :=
 ⟨fun a w ha ht=>by
  obtain ⟨G',s,h1,h2,h3,h4⟩:=(ht.perm hm.perm).frzS hsz hK
  exact (h G' s h1 h2 h3).out a w ha h4⟩
theorem aAu {α:Type} {enc:α→List Value} {sz:Nat} {X:Cx} {cd:Code} {k:List KI} {E:Nat} {v:Value} {xs:List α} {μ':aH} (hm:MTake μ (rS sz enc v E xs) μ') (hsz:∀ x∈xs,(enc x).length=sz) (hK:∀ b∈X.K0,b∈keys μ') (h:∀ G' s,PM.le G G'→v=Sh.val s xs.length→SlR G' sz enc s xs→Wk X cd k ρ G' μ'):Wk X cd k ρ G μ :=
 ⟨fun a w ha ht=>by
  obtain ⟨G',s,h1,h2,h3,h4⟩:=(ht.perm hm.perm).frzS hsz hK
  exact (h G' s h1 h2 h3).out a w ha h4⟩
theorem mU {α:Type} (sz:Nat) (enc:α→List Value) {X:Cx} {cd:Code} {k:List KI} (E:Nat) (h:Wk X cd k ρ G (rS sz enc (.slice none 0 0) E [] :: μ)):Wk X cd k ρ G μ:=aCu E sz h
structure AllS (G:PM) (ps:List (Sh×List Y)):Prop where
 all:∀ p∈ps,SlR G 1 aU p.1 p.2
theorem AllS.mono {G G':PM} {ps:List (Sh×List Y)} (h:AllS G ps) (hle:PM.le G G'):AllS G' ps:=⟨fun p hp=>(h.all p hp).mono hle⟩
theorem AllS.nil {G:PM}:AllS G []:=⟨fun p hp=>by cases hp⟩
theorem aFo {G:PM} {ps:List (Sh×List Y)} {s:Sh} {L:List Y} (h:AllS G ps) (hs:SlR G 1 aU s L):AllS G (ps++[(s,L)]):=⟨fun p hp=>by
 rcases List.mem_append.1 hp with hp | hp
 ·exact h.all p hp
 ·rw [List.mem_singleton.1 hp]; exact hs⟩
theorem SlP.of {G:PM} {s:Sh} {ps:List (Sh×List Y)} (h:SlR G 1 aBw s ps) (hA:AllS G ps):SlP G s ps:=⟨h,hA.all⟩
theorem apL {α:Type} {enc:α→List Value} {sz T E by':Nat} {x y:Operand} {v z:Value} {s:Sh} {xs ys:List α} {μ':aH} (ho:nth l i=some ⟨some d,.call { callee:=.builtin .append,args:=#[x,y],argTypes:=#[T,T] },t,p,af,none⟩)
  (hT:bL P T=some (E,sz,by')) (hz:(P.info? E).bind (·.zero)=some z) (hzs:z.cells.size=sz) (hx:Ev ρ true x v) (hy:Ev ρ true y (s.val ys.length)) (hm:MTake μ (rS sz enc v E xs) μ') (hs:SlR G sz enc s ys) (hsz:∀ a∈ys,(enc a).length=sz) (h1:∀ u∈ys.flatMap enc,u.oneCell'=true) (hl:(xs.length+ys.length)*by'≤140737488355328) (hl2:xs.length+ys.length≤maxLen)
  (h:∀ v',v'.oneCell'=true→Wo dr mc P n l K σ ((d,true,v') :: ρ) G (rS sz enc v' E (xs++ys) :: μ')) (hmc:mc.a=false∨dr=false:=by first|exact .inl rfl|exact .inr rfl):Wo dr mc P n l K (i :: σ) ρ G μ:=by
 refine .act (μ₁:=[rS sz enc v E xs]) (μ₂:=μ') (post:=fun G' μ' v'=>G'=G∧v'.oneCell'=true∧μ'=[rS sz enc v' E (xs++ys)]) ho (by rcases hmc with h | h<;>simp [bH,h]) .no hm.perm (fun q w hq hs'=>.inl ?_) ?_
 ·obtain ⟨v',w',hrun,ht⟩:=yG (ty:=t) (cp:=s.cap) (news:=ys.flatMap enc) (k:=ys.length) (oa:=s.oa) hT hz hzs hs'.left (uG hsz) (fun h0=>⟨s.b,s.o,hs.nn h0,fun j u hj=>((SlR.flat hsz hs).rd (μ:=μ)) j u hj w (hs'.perm hm.perm.symm)⟩) h1 hl hl2
  refine ⟨v',w',G,[rS sz enc v' E (xs++ys)],.inl ?_,?_,rfl,ht.sat.rowOne,rfl⟩
  ·have hy':=hy.eval hq rfl
   simp only [Sh.val] at hy'
   simp [execOp,resolve,invoke,builtin,hx.eval hq rfl,hy',hrun]
  simp only [rS,List.length_append,List.flatMap_append]; exact ht
 rintro v' G' μ'' _ ⟨rfl,h1,rfl⟩
 exact h v' h1
end
theorem aDl (a b:ByteArray):(a == b)=decide (a=b):=by
 rcases a with ⟨a⟩; rcases b with ⟨b⟩
 show (a == b)=_
 by_cases h:a=b
 ·subst h; simp
 ·rw [decide_eq_false (fun q=>h (by cases q; rfl))]
  exact beq_eq_false_iff_ne.2 h
abbrev FE:=ByteArray×Value×Nat
def mE (e:FE):MapEntry:=⟨.string e.1,e.2.1,e.2.2⟩
def mO (es:List FE) (clk:Nat):Obj:=.map (es.map mE).toArray clk
def fT (k:ByteArray):List FE→Option Value
 | []=>none
 | e :: r=>if e.1=k then some e.2.1 else fT k r
def qU (k:ByteArray) (v:Value):List FE→List FE
 | []=>[]
 | e :: r=>if e.1=k then (e.1,v,e.2.2) :: r else e :: qU k v r
def qT (k:ByteArray):List FE→List FE
 | []=>[]
 | e :: r=>if e.1=k then r else e :: qT k r
def nF (k:ByteArray):List FE→Nat→Option (Nat×Value)
 | [],_=>none
 | e :: r,i=>if e.1=k then some (i,e.2.1) else nF k r (i+1)
theorem aAI {k:ByteArray}:∀ (es:List FE) (i:Nat),Instr.findNow .string (.string k) (es.map mE) i=some (nF k es i)
 | [],i=>rfl
 | e :: es,i=>by
  rw [List.map_cons,Instr.findNow,nF]
  by_cases h:e.1=k
  ·rw [if_pos h]; simp only [Instr.sameNow,mE,h,aDl,decide_true]
  ·rw [if_neg h]
   have:(k == e.1)=false:=by rw [aDl]; exact decide_eq_false fun q=>h q.symm
   simp only [Instr.sameNow,mE,this]
   exact aAI es (i+1)
theorem aB1 {k:ByteArray}:∀ {es:List FE} {i:Nat},nF k es i=none→fT k es=none
 | [],_,_=>rfl
 | e :: es,i,h=>by
  unfold nF at h; unfold fT
  split at h
  ·cases h
  ·rename_i q; rw [if_neg q]; exact aB1 h
theorem aAJ {k:ByteArray} {j:Nat} {v:Value}:∀ {es:List FE} {i:Nat},nF k es i=some (j,v)→i≤j∧fT k es=some v∧(∃ e,es[j-i]? = some e∧e.1=k) ∧
  (∀ u,((es.map mE).modify (j-i) fun e=>{ e with key:=.string k,val:=u })=(qU k u es).map mE)∧((es.map mE).eraseIdx (j-i)=(qT k es).map mE)
 | e :: es,i,h=>by
  unfold nF at h
  split at h
  ·rename_i q
   simp only [Option.some.injEq,Prod.mk.injEq] at h
   obtain ⟨rfl,rfl⟩:=h
   refine ⟨Nat.le_refl _,by rw [fT,if_pos q],⟨e,by simp,q⟩,fun u=>?_,?_⟩
   ·rw [Nat.sub_self,qU,if_pos q]
    simp [mE,q]
   rw [Nat.sub_self,qT,if_pos q]; simp
  rename_i q
  obtain ⟨h1,h2,⟨e',h3,h4⟩,h5,h6⟩:=aAJ h
  have hj:j-i=(j-(i+1))+1:=by omega
  refine ⟨by omega,by rw [fT,if_neg q]; exact h2,⟨e',by rw [hj]; simpa using h3,h4⟩,fun u=>?_,?_⟩
  ·rw [hj,qU,if_neg q,List.map_cons,List.map_cons,List.modify_succ_cons,h5 u]
  rw [hj,qT,if_neg q,List.map_cons,List.map_cons,List.eraseIdx_cons_succ,h6]
def pO (P:Program) (T:TypeId):Option TypeId :=
 match P.underlying T with
 | some (.map k e)=>match P.underlying k with
  | some .string=>some e
  | _=>none
 | _=>none
theorem aAV {P:Program} {T e:TypeId} (h:pO P T=some e):∃ k,P.underlying T=some (.map k e)∧P.underlying k=some .string:=by
 unfold pO at h
 split at h
 ·rename_i k e' hu
  split at h
  ·rename_i hk
   simp only [Option.some.injEq] at h
   subst h
   exact ⟨k,hu,hk⟩
  ·cases h
 ·cases h
theorem aBi {P:Program} {T:TypeId} (hT:P.underlying T=some .string) (e:Bool) (n:Nat) (k:ByteArray) (w:World):(Instr.checkKey e (n+1) T (.string k)).run P w=.ok () w:=by
 rw [Instr.checkKey]; simp [run_underlying hT]
theorem aBY {G:PM} {w:World} {b:Nat} {o o':Obj} (hs:Sat G [.blk b o] w):Tr G (keys [.blk b o]) w G [.blk b o'] { w with heap:=w.heap.setIfInBounds b o' }:=by
 have h3:w.heap[b]? = some o:=hs.own (.blk b o) (List.mem_singleton.2 rfl)
 have hlt:b<w.heap.size:=(Array.getElem?_eq_some_iff.1 h3).1
 have hG:G b=none:=hs.apart b (by simp [keys,Res.keys])
 refine ⟨⟨fun c o hc=>?_,fun r hr=>?_,fun c hc=>?_,by simp [keys,Res.keys]⟩,rfl,rfl,rfl,by simp,fun c _ hc=>⟨?_,rfl⟩,fun c hc=>.inl hc,fun _ _ _ h=>h⟩
 ·show (w.heap.setIfInBounds b _)[c]? = _
  rw [Array.getElem?_setIfInBounds_ne (fun e=>by subst e; rw [hG] at hc; cases hc)]
  exact hs.sub c o hc
 ·rw [List.mem_singleton.1 hr]
  show (w.heap.setIfInBounds b _)[b]? = _
  simp [hlt]
 ·simp only [keys,Res.keys,List.flatMap_cons,List.flatMap_nil,List.append_nil,List.mem_singleton] at hc
  rw [hc]; exact hG
 show (w.heap.setIfInBounds b _)[c]? = _
 rw [Array.getElem?_setIfInBounds_ne (fun e=>by subst e; exact hc (by simp [keys,Res.keys]))]
theorem Tr.setT {G0 G:PM} {K0:List Nat} {w0 w:World} {b:Nat} {o o':Obj} (ht:Tr G0 K0 w0 G [.blk b o] w) (hb:b∈K0):Tr G0 K0 w0 G [.blk b o'] { w with heap:=w.heap.setIfInBounds b o' }:=by
 have h1:=aBY (o':=o') ht.sat
 refine ⟨h1.sat,h1.os.trans ht.os,h1.tape.trans ht.tape,h1.output.trans ht.output,Nat.le_trans ht.size h1.size,fun c hc hn=>?_,ht.mine,ht.le⟩
 have h2:=ht.old c hc hn
 refine ⟨?_,h2.2⟩
 rw [← h2.1]
 show (w.heap.setIfInBounds b _)[c]? = _
 rw [Array.getElem?_setIfInBounds_ne (fun e=>by subst e; exact hn hb)]
def NxR (es:List FE) (seen:List Nat):Option FE→Prop
 | none=>∀ e∈es,e.2.2∈seen
 | some e=>e∈es∧¬ e.2.2∈seen
def nxT:Option FE→Array Value
 | none=>#[.bool false]
 | some e=>#[.bool true,.string e.1,e.2.1]
def xZ (o:Option FE):Value:=.tuple (nxT o)
theorem aSD (o:Option FE):(nxT o).toList[0]? = some (.bool o.isSome):=by cases o<;>rfl
def iU (bm since last:Nat) (seen:List Nat):Obj:=.mapIter (some bm) since seen.toArray last
def nxI (bm since last clk:Nat) (seen:List Nat):Option FE→Obj
 | none=>iU bm since last seen
 | some e=>iU bm since clk (seen++[e.2.2])
theorem aTu {P:Program} {n:Nat} (hn:0<n) (w:World):∃ j w',(choose (.mapNext n)).run P w=.ok j w'∧j<n∧(w'=w∨w' = { w with drawn:=w.drawn+1 }):=by
 by_cases hf:(Question.mapNext n).forced=true
 ·exact ⟨0,w,by simp [choose,Sem.run,hf],hn,.inl rfl⟩
 ·exact ⟨(Question.mapNext n).cut (w.tape w.drawn (.mapNext n)),{ w with drawn:=w.drawn+1 },by simp [choose,Sem.run,hf],Nat.mod_lt _ hn,.inr rfl⟩
section
variable {dr:Bool} {mc:Md} {P:Program} {n:Fm} {l:List Oper} {K:aI→PM→aH→Prop} {i:Nat} {σ:List Nat} {ρ:aI} {G:PM} {μ:aH}
variable {d t:Nat} {p:String} {af:Array Edge} {g:Option (Nat×Bool)} {c:Bool}
theorem mkM {T:TypeId} (ho:nth l i=some ⟨some d,.makeMap T none,t,p,af,none⟩) (h:∀ b,Wo dr mc P n l K σ ((d,true,.map (some b)) :: ρ) G (.blk b (mO [] 0) :: μ)):Wo dr mc P n l K (i :: σ) ρ G μ:=by
 refine .act (μ₁:=[]) (μ₂:=μ) (post:=fun G' μ' v=>∃ b,G'=G∧μ'=[.blk b (mO [] 0)]∧v=.map (some b)) ho (.inl rfl) .no (.refl _) (fun a w ha hs=>.inl ?_) ?_
 ·have h0:Tr G (keys []) w G (.blk w.heap.size (.map #[] 0) :: []) (w.alloc (.map #[] 0)):=(eK (Sat.left (μ:=[]) hs)).alloc _
  exact ⟨.map (some w.heap.size),w.alloc (.map #[] 0),G,[.blk w.heap.size (mO [] 0)],.inl (by simp [execOp,Instr.makeMap]),h0,w.heap.size,rfl,rfl,rfl⟩
 rintro v G' μ'' _ ⟨b,rfl,rfl,rfl⟩
 exact h b
theorem aKT {T e b clk:Nat} {es:List FE} {k:ByteArray} {z:Value} {w:World} {ok:Bool} (hT:pO P T=some e) (hz:(P.info? e).bind (·.zero)=some z) (h3:w.heap[b]? = some (mO es clk)) :
  (Instr.lookup T (.map (some b)) (.string k) ok).run P w=.ok (if ok then .tuple #[(fT k es).getD z,.bool (fT k es).isSome] else (fT k es).getD z) w:=by
 obtain ⟨kt,h1,h2⟩:=aAV hT
 have hzv:(zeroValue e).run P w=.ok z w:=by
  cases hi:P.info? e with
  | none=>rw [hi] at hz; cases hz
  | some inf =>
   rw [hi] at hz
   simp only [Option.bind_some] at hz
   simp [zeroValue,typeInfo,hi,hz]
 have hgo:(getObj b).run P w=.ok (.map (es.map mE).toArray clk) w:=by simp [getObj,Sem.run,h3,mO]
 have h6:=aAI (k:=k) es 0
 simp only [Instr.lookup,Sem.run_bind,run_underlying h1,Result.andThen_ok,hgo,Sem.run_pure,aBi h2,Instr.findKey,run_underlying h2,h6]
 cases hf:nF k es 0 with
 | none=>rw [aB1 hf]; cases ok<;>simp [hzv]
 | some jv =>
  obtain ⟨j,v⟩:=jv
  rw [(aAJ hf).2.1]; cases ok<;>simp
theorem lkS {T e b clk:Nat} {x y:Operand} {es:List FE} {k:ByteArray} {z:Value} (ho:nth l i=some ⟨some d,.lookup T x y false,t,p,af,g⟩) (hg:Gd l ρ g c) (hT:pO P T=some e) (hz:(P.info? e).bind (·.zero)=some z) (hx:Ev ρ c x (.map (some b))) (hy:Ev ρ c y (.string k))
  (hmap:∀ w,Sat G μ w→w.heap[b]? = some (mO es clk)) {v:Value} (hv:(fT k es).getD z=v) (h:Wo dr mc P n l K σ ((d,c,v) :: ρ) G μ):Wo dr mc P n l K (i :: σ) ρ G μ :=
 .read ho (.inl rfl) hg (fun hc a w ha hs=>by
  have h3:w.heap[b]? = some (mO es clk):=hmap w hs
  simp [execOp,hx.eval ha hc,hy.eval ha hc,aKT (ok:=false) hT hz h3,hv]) h
theorem aIz {T e b clk:Nat} {x y:Operand} {es:List FE} {k:ByteArray} {z:Value} (ho:nth l i=some ⟨some d,.lookup T x y true,t,p,af,g⟩) (hg:Gd l ρ g c) (hT:pO P T=some e) (hz:(P.info? e).bind (·.zero)=some z) (hx:Ev ρ c x (.map (some b))) (hy:Ev ρ c y (.string k))
  (hmap:∀ w,Sat G μ w→w.heap[b]? = some (mO es clk)) {v:Value} {q:Bool} (hv:(fT k es).getD z=v) (hq:(fT k es).isSome=q) (h:Wo dr mc P n l K σ ((d,c,.tuple #[v,.bool q]) :: ρ) G μ):Wo dr mc P n l K (i :: σ) ρ G μ :=
 .read ho (.inl rfl) hg (fun hc a w ha hs=>by
  have h3:w.heap[b]? = some (mO es clk):=hmap w hs
  simp [execOp,hx.eval ha hc,hy.eval ha hc,aKT (ok:=true) hT hz h3,hv,hq]) h
theorem muS {T e b clk:Nat} {x y z:Operand} {es:List FE} {k:ByteArray} {v:Value} {μ':aH} (ho:nth l i=some ⟨none,.mapUpdate T x y z,t,p,af,none⟩) (hT:pO P T=some e) (hx:Ev ρ true x (.map (some b))) (hy:Ev ρ true y (.string k)) (hz:Ev ρ true z v)
  (hm:MTake μ (.blk b (mO es clk)) μ') (hn:fT k es=none) (h:Wo dr mc P n l K σ ρ G (.blk b (mO (es++[(k,v,clk)]) (clk+1)) :: μ')):Wo dr mc P n l K (i :: σ) ρ G μ:=by
 refine .act (μ₁:=[.blk b (mO es clk)]) (μ₂:=μ') (post:=fun G' μ' u=>G'=G∧μ'=[.blk b (mO (es++[(k,v,clk)]) (clk+1))]∧u=undef) ho (.inl rfl) .no hm.perm (fun a w ha hs=>.inl ?_) ?_
 ·have h3:w.heap[b]? = some (mO es clk):=hs.left.own (.blk b (mO es clk)) (List.mem_singleton.2 rfl)
  obtain ⟨kt,h1,h2⟩:=aAV hT
  have hgo:(getObj b).run P w=.ok (.map (es.map mE).toArray clk) w:=by simp [getObj,Sem.run,h3,mO]
  have hset:∀ o,(setObj b o).run P w=.ok () { w with heap:=w.heap.setIfInBounds b o }:=fun o=>by simp [setObj,Sem.run,h3,mO]
  have h6:=aAI (k:=k) es 0
  have h7:nF k es 0=none:=by
   cases hf:nF k es 0 with
   | none=>rfl
   | some jv=>rw [(aAJ (j:=jv.1) (v:=jv.2) hf).2.1] at hn; cases hn
  refine ⟨undef,_,G,_,.inr ⟨?_,rfl⟩,aBY hs.left,rfl,rfl,rfl⟩
  simp only [execOp,hx.eval ha rfl,hy.eval ha rfl,hz.eval ha rfl,Instr.mapUpdate,Sem.run_bind,run_underlying h1,Result.andThen_ok,hgo,Sem.run_pure,aBi h2,Instr.findKey,run_underlying h2,h6,h7,hset]
  simp [mO,mE]
 rintro u G' μ'' _ ⟨rfl,rfl,rfl⟩
 exact h
theorem muT {T e b clk:Nat} {x y z:Operand} {es:List FE} {k:ByteArray} {v v0:Value} {μ':aH} (ho:nth l i=some ⟨none,.mapUpdate T x y z,t,p,af,none⟩) (hT:pO P T=some e) (hx:Ev ρ true x (.map (some b))) (hy:Ev ρ true y (.string k)) (hz:Ev ρ true z v)
  (hm:MTake μ (.blk b (mO es clk)) μ') (hn:fT k es=some v0) (h:Wo dr mc P n l K σ ρ G (.blk b (mO (qU k v es) clk) :: μ')):Wo dr mc P n l K (i :: σ) ρ G μ:=by
 refine .act (μ₁:=[.blk b (mO es clk)]) (μ₂:=μ') (post:=fun G' μ' u=>G'=G∧μ'=[.blk b (mO (qU k v es) clk)]∧u=undef) ho (.inl rfl) .no hm.perm (fun a w ha hs=>.inl ?_) ?_
 ·have h3:w.heap[b]? = some (mO es clk):=hs.left.own (.blk b (mO es clk)) (List.mem_singleton.2 rfl)
  obtain ⟨kt,h1,h2⟩:=aAV hT
  have hgo:(getObj b).run P w=.ok (.map (es.map mE).toArray clk) w:=by simp [getObj,Sem.run,h3,mO]
  have hset:∀ o,(setObj b o).run P w=.ok () { w with heap:=w.heap.setIfInBounds b o }:=fun o=>by simp [setObj,Sem.run,h3,mO]
  have h6:=aAI (k:=k) es 0
  cases hf:nF k es 0 with
  | none=>rw [aB1 hf] at hn; cases hn
  | some jv =>
   obtain ⟨j,v1⟩:=jv
   obtain ⟨_,_,⟨e',he1,he2⟩,hm2,_⟩:=aAJ hf
   rw [Nat.sub_zero] at hm2 he1
   have he3:((es.map mE).toArray)[j]? = some (mE e'):=by simp [he1]
   have hsb:Instr.sameBits 10000 (.string k) (.string k)=true:=by rw [Instr.sameBits,aDl]; exact decide_eq_true rfl
   refine ⟨undef,_,G,_,.inr ⟨?_,rfl⟩,aBY hs.left,rfl,rfl,rfl⟩
   simp only [execOp,hx.eval ha rfl,hy.eval ha rfl,hz.eval ha rfl,Instr.mapUpdate,Sem.run_bind,run_underlying h1,Result.andThen_ok,hgo,Sem.run_pure,aBi h2,Instr.findKey,run_underlying h2,h6,hf,hset,he3,Option.map_some,Option.getD_some,Instr.keyThatStays]
   have hk:(mE e').key=.string k:=by rw [mE,he2]
   rw [hk,hsb]
   simp only [if_true,Sem.run_pure,Result.andThen_ok,hset]
   have:(es.map mE).toArray.modify j (fun e=>{ e with key:=.string k,val:=v })=((qU k v es).map mE).toArray:=by rw [← hm2 v]; simp
   rw [this]; rfl
 rintro u G' μ'' _ ⟨rfl,rfl,rfl⟩
 exact h
theorem dlS {dd:Option Nat} {T e b clk:Nat} {x y:Operand} {es:List FE} {k:ByteArray} {v0:Value} {μ':aH} {T2:TypeId} (ho:nth l i=some ⟨dd,.call { callee:=.builtin .delete,args:=#[x,y],argTypes:=#[T,T2] },t,p,af,none⟩) (hT:pO P T=some e) (hx:Ev ρ true x (.map (some b))) (hy:Ev ρ true y (.string k))
  (hm:MTake μ (.blk b (mO es clk)) μ') (hn:fT k es=some v0) (h:Wo dr mc P n l K σ (cT ρ dd true (.tuple #[])) G (.blk b (mO (qT k es) clk) :: μ')):Wo dr mc P n l K (i :: σ) ρ G μ:=by
 refine .act (μ₁:=[.blk b (mO es clk)]) (μ₂:=μ') (post:=fun G' μ' u=>G'=G∧μ'=[.blk b (mO (qT k es) clk)]∧u=.tuple #[]) ho (.inl rfl) .no hm.perm (fun a w ha hs=>.inl ?_) ?_
 ·have h3:w.heap[b]? = some (mO es clk):=hs.left.own (.blk b (mO es clk)) (List.mem_singleton.2 rfl)
  obtain ⟨kt,h1,h2⟩:=aAV hT
  have hgo:(getObj b).run P w=.ok (.map (es.map mE).toArray clk) w:=by simp [getObj,Sem.run,h3,mO]
  have hset:∀ o,(setObj b o).run P w=.ok () { w with heap:=w.heap.setIfInBounds b o }:=fun o=>by simp [setObj,Sem.run,h3,mO]
  have h6:=aAI (k:=k) es 0
  cases hf:nF k es 0 with
  | none=>rw [aB1 hf] at hn; cases hn
  | some jv =>
   obtain ⟨j,v1⟩:=jv
   obtain ⟨_,_,⟨e',he1,he2⟩,_,hm2⟩:=aAJ hf
   rw [Nat.sub_zero] at hm2
   have he:((es.map mE).toArray.eraseIdxIfInBounds j)=((qT k es).map mE).toArray:=by
    rw [← hm2]; simp
   refine ⟨.tuple #[],_,G,_,.inl ?_,aBY hs.left,rfl,rfl,rfl⟩
   simp [execOp,resolve,invoke,builtin,hx.eval ha rfl,hy.eval ha rfl,Builtin.delete_,Sem.run_bind,run_underlying h1,hgo,aBi h2,Instr.findKey,run_underlying h2,h6,hf,hset,he,mO]
   rw [hm2]
 rintro u G' μ'' _ ⟨rfl,rfl,rfl⟩
 exact h
theorem aCI {b clk:Nat} {es:List FE} {μ':aH} (hm:MTake μ (.blk b (mO es clk)) μ'):∀ w,Sat G μ w→w.heap[b]? = some (mO es clk):=fun w hs=>hs.own (.blk b (mO es clk)) (hm.perm.mem_iff.2 (List.mem_cons_self ..))
theorem aCJ {b clk:Nat} {es:List FE} (h:G b=some (mO es clk)):∀ w,Sat G μ w→w.heap[b]? = some (mO es clk):=fun w hs=>hs.sub _ _ h
theorem rgS {T b clk:Nat} {x:Operand} {es:List FE} {e:TypeId} (ho:nth l i=some ⟨some d,.range T x,t,p,af,none⟩) (hT:pO P T=some e) (hx:Ev ρ true x (.map (some b))) (hmap:∀ w,Sat G μ w→w.heap[b]? = some (mO es clk))
  (h:∀ bi,Wo dr mc P n l K σ ((d,true,.pointer (some ⟨bi,0,none⟩)) :: ρ) G (.blk bi (iU b clk clk []) :: μ)):Wo dr mc P n l K (i :: σ) ρ G μ:=by
 refine .act (μ₁:=[]) (μ₂:=μ) (post:=fun G' μ' v=>∃ bi,G'=G∧μ'=[.blk bi (iU b clk clk [])]∧v=.pointer (some ⟨bi,0,none⟩)) ho (.inl rfl) .no (.refl _) (fun a w ha hs=>.inl ?_) ?_
 ·have hsμ:Sat G μ w:=by simpa using hs
  have h3:w.heap[b]? = some (mO es clk):=hmap w hsμ
  obtain ⟨kt,h1,h2⟩:=aAV hT
  have hgo:(getObj b).run P w=.ok (.map (es.map mE).toArray clk) w:=by simp [getObj,Sem.run,h3,mO]
  have h0:Tr G (keys []) w G (.blk w.heap.size (.mapIter (some b) clk #[] clk) :: []) (w.alloc (.mapIter (some b) clk #[] clk)):=(eK (Sat.left (μ:=[]) hs)).alloc _
  exact ⟨.pointer (some ⟨w.heap.size,0,none⟩),w.alloc (.mapIter (some b) clk #[] clk),G,[_],.inl (by simp [execOp,hx.eval ha rfl,Instr.range,Sem.run_bind,run_underlying h1,hgo]),h0,w.heap.size,rfl,rfl,rfl⟩
 rintro v G' μ'' _ ⟨b,rfl,rfl,rfl⟩
 exact h b
theorem nxS {bi bm since last clk:Nat} {x:Operand} {es:List FE} {seen:List Nat} {μ1:aH} (ho:nth l i=some ⟨some d,.next x false,t,p,af,none⟩) (hx:Ev ρ true x (.pointer (some ⟨bi,0,none⟩))) (hm:MTake μ (.blk bi (iU bm since last seen)) μ1) (hmap:∀ w,Sat G μ w→w.heap[bm]? = some (mO es clk)) (hold:∀ e∈es,e.2.2<since) (hlast:∀ e∈es,e.2.2<last)
  (h:∀ o:Option FE,NxR es seen o→Wo dr mc P n l K σ ((d,true,xZ o) :: ρ) G (.blk bi (nxI bm since last clk seen o) :: μ1)):Wo dr mc P n l K (i :: σ) ρ G μ:=by
 refine .act (μ₁:=[.blk bi (iU bm since last seen)]) (μ₂:=μ1) (post:=fun G' μ' v=>∃ o,NxR es seen o∧G'=G∧μ'=[.blk bi (nxI bm since last clk seen o)]∧v=xZ o) ho (.inl rfl) .no hm.perm (fun a w ha hs=>.inl ?_) ?_
 ·have hi:w.heap[bi]? = some (iU bm since last seen):=hs.left.own (.blk bi _) (List.mem_singleton.2 rfl)
  have hb:w.heap[bm]? = some (mO es clk):=hmap w (hs.perm hm.perm.symm)
  have hgo:(getObj bm).run P w=.ok (.map (es.map mE).toArray clk) w:=by simp [getObj,Sem.run,hb,mO]
  have hgi:(getObj bi).run P w=.ok (.mapIter (some bm) since seen.toArray last) w:=by simp [getObj,Sem.run,hi,iU]
  have c0:((!seen.toArray.isEmpty && !(es.map mE).toArray.isEmpty)&&(es.map mE).toArray.all (fun e=>decide (e.born≥last)))=false:=by
   cases es with
   | nil=>simp
   | cons e es =>
    have:¬ e.2.2≥last:=by have:=hlast e (List.mem_cons_self ..); omega
    simp [mE,this]
  have e1:((es.map mE).toArray.filter fun e => !seen.toArray.contains e.born)=((es.filter fun e => !seen.contains e.2.2).map mE).toArray:=by
   simp only [List.filter_toArray,List.filter_map,Function.comp_def,mE,List.contains_toArray]
  have e2:(((es.filter fun e => !seen.contains e.2.2).map mE).toArray.filter fun e=>decide (e.born<since))=((es.filter fun e => !seen.contains e.2.2).map mE).toArray:=by
   rw [Array.filter_eq_self.2]
   intro m hm'
   obtain ⟨e,he,rfl⟩:=List.mem_map.1 (List.mem_toArray.1 hm')
   exact decide_eq_true (hold e (List.mem_filter.1 he).1)
  have e3:(((es.filter fun e => !seen.contains e.2.2).map mE).toArray.filter fun e=>decide (e.born≥since)) = #[]:=by
   rw [Array.filter_eq_empty_iff]
   intro m hm'
   obtain ⟨e,he,rfl⟩:=List.mem_map.1 (List.mem_toArray.1 hm')
   have:=hold e (List.mem_filter.1 he).1
   simp [mE]; omega
  generalize hL:(es.filter fun e => !seen.contains e.2.2)=left at e1 e2 e3
  obtain ⟨C,hC⟩ : ∃ C:List (Option MapEntry),C=if left=[] then [none] else left.map fun e=>some (mE e):=⟨_,rfl⟩
  have e4:((if ((left.map mE).toArray).isEmpty then #[none] else #[])++((left.map mE).toArray++#[]).map some:Array (Option MapEntry))=C.toArray:=by
   rw [hC]
   cases left with
   | nil=>simp
   | cons e r=>simp
  have hC0:0<C.toArray.size:=by
   rw [hC]
   split
   ·simp
   rename_i q; simpa using List.length_pos_iff.2 q
  obtain ⟨j,w',hch,hj,hw'⟩:=aTu (P:=P) hC0 w
  have htr:Tr G (keys [.blk bi (iU bm since last seen)]) w G [.blk bi (iU bm since last seen)] w':=by
   rcases hw' with rfl|rfl
   ·exact eK hs.left
   exact (eK hs.left).drew
  have hi':w'.heap[bi]? = some (iU bm since last seen):=htr.sat.own (.blk bi _) (List.mem_singleton.2 rfl)
  have hset:∀ o,(setObj bi o).run P w'=.ok () { w' with heap:=w'.heap.setIfInBounds bi o }:=fun o=>by simp [setObj,Sem.run,hi',iU]
  by_cases hl:left=[]
  ·have hCj:C.toArray[j]? = some none:=by
    rw [hC,if_pos hl] at hj ⊢
    simp only [List.size_toArray,List.length_cons,List.length_nil,Nat.zero_add] at hj
    obtain rfl:j=0:=by omega
    rfl
   refine ⟨xZ none,w',G,[.blk bi (nxI bm since last clk seen none)],.inl ?_,htr,none,fun e he=>?_,rfl,rfl,rfl⟩
   ·simp only [execOp,hx.eval ha rfl,Instr.next,Sem.run_bind,hgi,hgo,Result.andThen_ok,c0,e1,e2,e3,e4,Bool.false_eq_true,if_false,hch,hCj,Sem.run_pure,xZ,nxT]
    try rfl
   have:¬ e∈es.filter fun e => !seen.contains e.2.2:=by rw [hL,hl]; simp
   simpa [List.mem_filter,he] using this
  obtain ⟨e,he⟩ : ∃ e,left[j]? = some e:=by
   rw [hC,if_neg hl] at hj
   exact ⟨_,List.getElem?_eq_getElem (by simpa using hj)⟩
  have hm':e∈es.filter fun e => !seen.contains e.2.2:=by rw [hL]; exact List.mem_of_getElem? he
  have hCj:C.toArray[j]? = some (some (mE e)):=by rw [hC,if_neg hl]; simp [he]
  refine ⟨xZ (some e),{ w' with heap:=w'.heap.setIfInBounds bi (iU bm since clk (seen++[e.2.2])) },G,[.blk bi (nxI bm since last clk seen (some e))],.inl ?_,htr.setT (by simp [keys,Res.keys]),some e,?_,rfl,rfl,rfl⟩
  ·have h6:=hset (.mapIter (some bm) since (seen.toArray.push e.2.2) clk)
   simp only [execOp,hx.eval ha rfl,Instr.next,Sem.run_bind,hgi,hgo,Result.andThen_ok,c0,e1,e2,e3,e4,Bool.false_eq_true,if_false,hch,hCj,mE,h6,Sem.run_pure,xZ,nxT]
   simp [iU]
  have:=List.mem_filter.1 hm'
  exact ⟨this.1,by simpa using this.2⟩
 rintro v G' μ'' _ ⟨o,h1,rfl,rfl,rfl⟩
 exact h o h1
theorem etS {bi bm since clk stamp:Nat} {x:Operand} {es:List FE} {seen:List Nat} {e:FE} {μ1:aH} (ho:nth l i=some ⟨some d,.entry x,t,p,af,none⟩) (hx:Ev ρ true x (.pointer (some ⟨bi,0,none⟩))) (hm:MTake μ (.blk bi (iU bm since clk (seen++[stamp]))) μ1) (hmap:∀ w,Sat G μ w→w.heap[bm]? = some (mO es clk))
  (hf:es.find? (fun e=>e.2.2 == stamp)=some e) (h:Wo dr mc P n l K σ ((d,true,.tuple #[.string e.1,e.2.1]) :: ρ) G μ):Wo dr mc P n l K (i :: σ) ρ G μ:=by
 refine .act (μ₁:=[]) (μ₂:=μ) (post:=fun G' μ' v=>G'=G∧μ'=[]∧v=.tuple #[.string e.1,e.2.1]) ho (.inl rfl) .no (.refl _) (fun a w ha hs0=>.inl ?_) ?_
 ·have hs:Sat G μ w:=by simpa using hs0
  have hi:w.heap[bi]? = some (iU bm since clk (seen++[stamp])):=hs.own (.blk bi _) (hm.perm.mem_iff.2 (List.mem_cons_self ..))
  have hb:w.heap[bm]? = some (mO es clk):=hmap w hs
  have hgo:(getObj bm).run P w=.ok (.map (es.map mE).toArray clk) w:=by simp [getObj,Sem.run,hb,mO]
  have hgi:(getObj bi).run P w=.ok (.mapIter (some bm) since (seen++[stamp]).toArray clk) w:=by simp [getObj,Sem.run,hi,iU]
  have hfe:((es.map mE).toArray.find? fun e=>e.born == stamp)=some (mE e):=by
   rw [List.find?_toArray,List.find?_map]
   have:((fun e:MapEntry=>e.born == stamp) ∘ mE)=fun e:FE=>e.2.2 == stamp:=rfl
   rw [this,hf]; rfl
  refine ⟨.tuple #[.string e.1,e.2.1],w,G,[],.inl ?_,eK (Sat.left (μ:=[]) hs0),rfl,rfl,rfl⟩
  have hbk:(seen++[stamp]).toArray.back? = some stamp:=by simp
  simp only [execOp,hx.eval ha rfl,Instr.entry,Sem.run_bind,hgi,Result.andThen_ok,hbk,hgo]
  simp [hfe,mE]
 rintro v G' μ'' _ ⟨rfl,rfl,rfl⟩
 exact h
end
inductive CK where
 | int (k:IntKind)
 | str
 | bool
 deriving DecidableEq
def kI:Value→Lit
 | .int k n=>.int k n
 | .string s=>.string s.data.toList
 | .bool b=>.bool b
 | _=>.bool false
inductive CkOk:CK→Value→Prop where
 | int {k:IntKind} {n:Int} (h1:k.min≤n) (h2:n≤k.max):CkOk (.int k) (.int k n)
 | str {s:ByteArray} (h:s.size≤maxLen):CkOk .str (.string s)
 | bool {b:Bool}:CkOk .bool (.bool b)
inductive Conf:List CK→List Value→Prop where
 | nil:Conf [] []
 | cons {k v ks cs} (h:CkOk k v) (r:Conf ks cs):Conf (k :: ks) (v :: cs)
theorem CkOk.u {k:IntKind} (hk:k.signed=false) (x:BitVec k.bits):CkOk (.int k) (uv k x):=by
 have:=x.isLt
 refine .int ?_ ?_
 ·rw [aRL hk]; omega
 rw [aRG hk]
 have h2:((2^k.bits:Nat):Int)=(2:Int)^k.bits:=by simp
 omega
theorem Conf.len {ks:List CK} {cs:List Value} (h:Conf ks cs):cs.length=ks.length:=by
 induction h with
 | nil=>rfl
 | cons _ _ ih=>simp [ih]
theorem Conf.split {ks ks':List CK}:∀ {cs:List Value},Conf (ks++ks') cs→Conf ks (cs.take ks.length)∧Conf ks' (cs.drop ks.length):=by
 induction ks with
 | nil=>intro cs h; exact ⟨by simpa using Conf.nil,by simpa using h⟩
 | cons k ks ih =>
  intro cs h
  cases h with
  | cons h1 r =>
   obtain ⟨h2,h3⟩:=ih r
   exact ⟨.cons h1 h2,h3⟩
theorem Conf.inj {ks:List CK} {cs cs':List Value} (h:Conf ks cs) (h':Conf ks cs') (e:cs.map kI=cs'.map kI):cs=cs':=by
 induction h generalizing cs' with
 | nil=>cases h'; rfl
 | cons h1 _ ih =>
  cases h' with
  | cons h2 r2 =>
   simp only [List.map_cons,List.cons.injEq] at e
   rw [ih r2 e.2]
   congr 1
   cases h1 with
   | int _ _=>cases h2 with | int _ _=>have:=e.1; simp only [kI,Lit.int.injEq,true_and] at this; rw [this]
   | @str s1 _=>cases h2 with
    | @str s2 _ =>
     have:=e.1
     simp only [kI,Lit.string.injEq] at this
     have h3:s1.data=s2.data:=by
      have:=congrArg List.toArray this
      simpa using this
     obtain ⟨d1⟩:=s1
     obtain ⟨d2⟩:=s2
     simp only at h3
     rw [h3]
   | bool=>cases h2 with | bool=>have:=e.1; simp only [kI,Lit.bool.injEq] at this; rw [this]
def yJ (P:Program) (f:TypeId→Option (List CK)):Nat→List Field→Option (List CK)
 | _,[]=>some []
 | o,fl :: r=>match f fl.type with
  | some ks=>if fl.offset=o∧P.cellsOf fl.type=ks.length then (yJ P f (o+ks.length) r).map (ks++·) else none
  | none=>none
def rE (P:Program):Nat→TypeId→Option (List CK)
 | 0,_=>none
 | d+1,t=>match P.underlying t with
  | some (.int k)=>some [.int k]
  | some .string=>some [.str]
  | some .bool=>some [.bool]
  | some (.array n e)=>match rE P d e with
   | some ks=>if P.cellsOf e=ks.length∧P.cellsOf t=n*ks.length then some (List.replicate n ks).flatten else none
   | none=>none
  | some (.struct fs)=>match yJ P (rE P d) 0 fs.toList with
   | some ks=>if P.cellsOf t=ks.length∧fs.all (·.name != "_")=true then some ks else none
   | none=>none
  | _=>none
theorem aHf {ks:List CK}:∀ {n:Nat} {cs:List Value},Conf (List.replicate n ks).flatten cs→∀ i,i<n→Conf ks ((cs.drop (i*ks.length)).take ks.length)
 | 0,_,_,i,hi=>by omega
 | n+1,cs,h,i,hi=>by
  rw [List.replicate_succ,List.flatten_cons] at h
  obtain ⟨h1,h2⟩:=h.split
  cases i with
  | zero=>simpa using h1
  | succ i =>
   have:=aHf h2 i (by omega)
   rw [List.drop_drop] at this
   rwa [Nat.succ_mul,Nat.add_comm]
theorem aHb {α:Type} {f:Value→α} {L:Nat}:∀ {n:Nat} {cs:List Value},cs.length=n*L→((List.range n).map fun i=>((cs.drop (i*L)).take L).map f).flatten=cs.map f
 | 0,cs,h=>by
  obtain rfl:cs=[]:=List.eq_nil_of_length_eq_zero (by simpa using h)
  rfl
 | n+1,cs,h=>by
  rw [List.range_succ_eq_map,List.map_cons,List.flatten_cons,List.map_map,Nat.zero_mul,List.drop_zero]
  have h2:=aHb (f:=f) (L:=L) (n:=n) (cs:=cs.drop L) (by rw [List.length_drop,h,Nat.succ_mul]; omega)
  have e:(List.map ((fun i=>List.map f (List.take L (List.drop (i*L) cs))) ∘ Nat.succ) (List.range n))=(List.range n).map fun i=>(((cs.drop L).drop (i*L)).take L).map f:=by
   apply List.map_congr_left
   intro i _
   simp only [Function.comp,List.drop_drop,Nat.succ_mul,Nat.add_comm]
  rw [e,h2,←List.map_append,List.take_append_drop]
theorem aJC {α β:Type} {f:α→Option β} {g:α→β}:∀ {l:List α},(∀ x∈l,f x=some (g x))→l.mapM f=some (l.map g)
 | [],_=>by simp
 | x :: l,h=>by simp [List.mapM_cons,h x (List.mem_cons_self ..),aJC (l:=l) fun z hz=>h z (List.mem_cons_of_mem _ hz)]
section
variable {P:Program}
theorem aHe {d:Nat} (ih:∀ t ks cs,rE P d t=some ks→Conf ks cs→P.keyLits d t cs=some (cs.map kI)):∀ (fs:List Field) (o:Nat) (ks:List CK) (cs:List Value),yJ P (rE P d) o fs=some ks→Conf ks (cs.drop o) →
  ∃ r,fs.mapM (fun f=>P.keyLits d f.type ((cs.drop f.offset).take (P.cellsOf f.type)))=some r∧r.flatten=(cs.drop o).map kI
 | [],o,ks,cs,h,hc=>by
  simp only [yJ,Option.some.injEq] at h
  subst h
  have:=hc.len
  exact ⟨[],by simp,by rw [List.eq_nil_of_length_eq_zero this]; rfl⟩
 | fl :: r,o,ks,cs,h,hc=>by
  simp only [yJ] at h
  split at h
  ·rename_i ks1 h1
   split at h
   ·rename_i h2
    cases h3:yJ P (rE P d) (o+ks1.length) r with
    | none=>rw [h3] at h; cases h
    | some ks2 =>
     rw [h3] at h
     simp only [Option.map_some,Option.some.injEq] at h
     subst h
     obtain ⟨c1,c2⟩:=hc.split
     rw [List.drop_drop] at c2
     obtain ⟨rr,hr1,hr2⟩:=aHe ih r (o+ks1.length) ks2 cs h3 c2
     have hk:=ih fl.type ks1 _ h1 c1
     refine ⟨((cs.drop o).take ks1.length).map kI :: rr,?_,?_⟩
     ·rw [List.mapM_cons,h2.1,h2.2,hk,hr1]; rfl
     rw [List.flatten_cons,hr2,←List.map_append,←List.drop_drop,List.take_append_drop]
   cases h
  cases h
theorem aBl:∀ (d:Nat) (t:TypeId) (ks:List CK) (cs:List Value),rE P d t=some ks→Conf ks cs→P.keyLits d t cs=some (cs.map kI)
 | 0,_,_,_,h,_=>by cases h
 | d+1,t,ks,cs,h,hc=>by
  simp only [rE] at h
  unfold Program.keyLits
  split at h
  ·rename_i k hu
   simp only [Option.some.injEq] at h
   subst h
   cases hc with
   | cons h1 r=>cases r; cases h1 with | int a b=>simp [hu,Lit.wf,a,b,kI]
  ·rename_i hu
   simp only [Option.some.injEq] at h
   subst h
   cases hc with
   | cons h1 r=>cases r; cases h1 with | str a=>simp [hu,a,kI]
  ·rename_i hu
   simp only [Option.some.injEq] at h
   subst h
   cases hc with
   | cons h1 r=>cases r; cases h1 with | bool=>simp [hu,kI]
  ·rename_i n e hu
   split at h
   ·rename_i ks1 h1
    split at h
    ·rename_i h2
     simp only [Option.some.injEq] at h
     subst h
     have hl:cs.length=n*ks1.length:=by
      rw [hc.len]; simp
     have hm:=aJC (l:=List.range n) (f:=fun i=>P.keyLits d e ((cs.drop (i*P.cellsOf e)).take (P.cellsOf e))) (g:=fun i=>((cs.drop (i*ks1.length)).take ks1.length).map kI)
      (fun i hi=>by rw [h2.1]; exact aBl d e ks1 _ h1 (aHf hc i (List.mem_range.1 hi)))
     rw [hu]
     simp only [hl,h2.2,if_true,hm,Option.map_some,aHb hl]
    ·cases h
   ·cases h
  ·rename_i fs hu
   split at h
   ·rename_i ks1 h1
    split at h
    ·rename_i h2
     simp only [Option.some.injEq] at h
     subst h
     obtain ⟨r,hr1,hr2⟩:=aHe (aBl d) fs.toList 0 ks1 cs h1 (by simpa using hc)
     rw [hu]
     simp only [hc.len,h2.1,h2.2,and_self,if_true,hr1,Option.map_some,hr2,List.drop_zero]
    ·cases h
   ·cases h
  ·cases h
def xJ (P:Program) (m:Nat) (T:TypeId) (ks:List CK):Bool :=
 (match rE P m T with | some k=>k == ks | none=>false)&&P.keyTypeAt m T && !P.eqGuardType P.depth T&&Nat.ble m 10000&&(match P.underlying T with | some (.struct _) | some (.array _ _)=>Nat.beq (P.cellsOf T) ks.length | _=>false)
theorem aKQ {T m:Nat} {ks:List CK} {cs cs':List Value} {r:Bool} (hT:xJ P m T ks=true) (h1:Conf ks cs) (h2:Conf ks cs') (hr:r=true↔cs=cs') (w:World) :
  (Op.equal T (.agg cs.toArray) (.agg cs'.toArray)).run P w=.ok r w∧P.eqGuardType P.depth T=false:=by
 simp only [xJ,Bool.and_eq_true,Bool.not_eq_true'] at hT
 obtain ⟨⟨⟨⟨hs,hk⟩,hg⟩,hm⟩,hf⟩:=hT
 have hs':rE P m T=some ks:=by
  split at hs
  ·rename_i k hk'; rw [hk',beq_iff_eq.1 hs]
  ·cases hs
 have hm:=Nat.le_of_ble_eq_true hm
 have hform:∀ cs:List Value,Conf ks cs→(Value.agg cs.toArray).formed P T=true:=by
  intro cs hc
  have hl:=hc.len
  simp only [Value.formed]
  split at hf<;>rename_i hu<;>first|(rw [hu]; have:=Nat.eq_of_beq_eq_true hf; simp [this,hl]) | cases hf
 obtain ⟨r',hr',hiff⟩:=run_equalIn_deep (10000-m) m T hk w m m (.agg cs.toArray) (.agg cs'.toArray) (cs.map kI) (cs'.map kI) (hform _ h1) (hform _ h2) (by simpa [Value.cells] using aBl m T ks cs hs' h1) (by simpa [Value.cells] using aBl m T ks cs' hs' h2)
 rw [show 10000-m+m=10000 by omega] at hr'
 have e:r'=r:=by
  have h3:r'=true↔r=true:=by
   rw [hiff,hr]
   exact ⟨fun e=>h1.inj h2 e,fun e=>by rw [e]⟩
  cases r<;>cases r'<;>simp_all
 subst e
 exact ⟨hr',hg⟩
variable {dr:Bool} {mc:Md} {n:Fm} {l:List Oper} {K:aI→PM→aH→Prop} {i:Nat} {σ:List Nat} {ρ:aI} {G:PM} {μ:aH}
variable {d t:Nat} {p:String} {af:Array Edge} {g:Option (Nat×Bool)} {c:Bool}
theorem eqC {T T' m:Nat} {x y:Operand} {ks:List CK} {cs cs':List Value} (r:Bool) (ho:nth l i=some ⟨some d,.binOp .eql T x y T',t,p,af,g⟩) (hg:Gd l ρ g c) (hT:xJ P m T ks=true) (hx:Ev ρ c x (.agg cs.toArray)) (hy:Ev ρ c y (.agg cs'.toArray))
  (h1:c=true→Conf ks cs) (h2:c=true→Conf ks cs') (hr:c=true→(r=true↔cs=cs')) (h:Wo dr mc P n l K σ ((d,c,.bool r) :: ρ) G μ):Wo dr mc P n l K (i :: σ) ρ G μ :=
 .pure ho (.inl rfl) hg (fun hc a w ha=>by
  obtain ⟨h3,h4⟩:=aKQ hT (h1 hc) (h2 hc) (hr hc) w
  simp [execOp,hx.eval ha hc,hy.eval ha hc,aID h4,binOp,h3]) h
theorem nqC {T T' m:Nat} {x y:Operand} {ks:List CK} {cs cs':List Value} (r:Bool) (ho:nth l i=some ⟨some d,.binOp .neq T x y T',t,p,af,g⟩) (hg:Gd l ρ g c) (hT:xJ P m T ks=true) (hx:Ev ρ c x (.agg cs.toArray)) (hy:Ev ρ c y (.agg cs'.toArray))
  (h1:c=true→Conf ks cs) (h2:c=true→Conf ks cs') (hr:c=true→(r=true↔cs=cs')) (h:Wo dr mc P n l K σ ((d,c,.bool (!r)) :: ρ) G μ):Wo dr mc P n l K (i :: σ) ρ G μ :=
 .pure ho (.inl rfl) hg (fun hc a w ha=>by
  obtain ⟨h3,h4⟩:=aKQ hT (h1 hc) (h2 hc) (hr hc) w
  simp [execOp,hx.eval ha hc,hy.eval ha hc,aID h4,binOp,h3]) h
theorem nb {T T':TypeId} {x y:Operand} {b1 b2:Bool} (ho:nth l i=some ⟨some d,.binOp .neq T x y T',t,p,af,g⟩) (hg:Gd l ρ g c) (hT:aDp P T=true) (hx:Ev ρ c x (.bool b1)) (hy:Ev ρ c y (.bool b2))
  (h:Wo dr mc P n l K σ ((d,c,.bool (!(b1 == b2))) :: ρ) G μ):Wo dr mc P n l K (i :: σ) ρ G μ :=
 .pure ho (.inl rfl) hg (fun hc a w ha=>by
  unfold aDp at hT
  split at hT
  ·rename_i hu
   have h1:∀ w,(Op.equalIn (9999+1) T (.bool b1) (.bool b2)).run P w=.ok (b1 == b2) w:=fun w=>by
    rw [Op.equalIn]; simp only [Sem.run_bind,run_underlying hu,Result.andThen_ok,Sem.run_pure]
   have h2:(eqGuard .neq T x y (.bool b1) (.bool b2)).run P w=.ok () w:=by unfold eqGuard; simp
   simp only [execOp,hx.eval ha hc,hy.eval ha hc,Sem.run_bind,h2,Result.andThen_ok,binOp,Op.equal,Op.maxDepth]
   rw [show (10000:Nat)=9999+1 from rfl,h1]
   rfl
  ·cases hT) h
end
theorem Conf.u64 {y:BitVec 64} {ks:List CK} {cs:List Value} (h:Conf ks cs):Conf (.int .u64 :: ks) (uv .u64 y :: cs):=.cons (CkOk.u (k:=.u64) rfl y) h
end Go.Tan
namespace Go.Tan
open Go.RowKit Go.Lib
def yb (s:ByteArray):List Y:=s.toList.map fun x=>BitVec.ofNat 8 x.toNat
theorem uC (s:ByteArray):cA (yb s)=s:=by
 have h:(cA (yb s)).data.toList=s.data.toList:=by
  rw [qK,yb,ByteArray.toList_eq,List.map_map]
  conv=>rhs; rw [← List.map_id s.data.toList]
  refine List.map_congr_left fun x _=>?_
  simp only [Function.comp,id]
  have:=x.toNat_lt
  rw [BitVec.toNat_ofNat,Nat.mod_eq_of_lt (by omega)]
  simp
 have h2:(cA (yb s)).data=s.data:=by
  have:=congrArg List.toArray h
  simpa using this
 obtain ⟨d⟩:=s
 cases hb:cA (yb ⟨d⟩) with
 | mk d'=>rw [hb] at h2; simp only at h2; rw [h2]
theorem aV5 (xs:List Y):yb (cA xs)=xs:=aHa (uC _)
theorem eQ (s:ByteArray):(yb s).length=s.size:=by rw [yb,List.length_map,ByteArray.toList_eq]; simp
theorem aLW (s:ByteArray):(yb s).map V=strCells s:=by
 unfold yb strCells
 rw [List.map_map,ByteArray.toList_eq]
 refine List.map_congr_left fun x _=>?_
 have:=x.toNat_lt
 have e:(BitVec.ofNat 8 x.toNat).toNat=x.toNat:=by rw [BitVec.toNat_ofNat,Nat.mod_eq_of_lt (by omega)]
 show Value.int .u8 (((BitVec.ofNat 8 x.toNat).toNat:Nat):Int)=_
 rw [e]
section
variable {dr:Bool} {mc:Md} {P:Program} {n:Fm} {l:List Oper} {K:aI→PM→aH→Prop} {i:Nat} {σ:List Nat} {ρ:aI} {G:PM} {μ:aH}
variable {d t:Nat} {p:String} {af:Array Edge} {g:Option (Nat×Bool)} {c:Bool}
theorem aTs {T U E ty:Nat} {v:Value} {xs:List Y} {s:ByteArray} {w:World} (hT:bL P T=some (E,1,1)) (hU:jU P U=true) (hz:(P.info? E).bind (·.zero)=some (.int .u8 0)) (hs:Sat G [rB v E xs] w) (hb:xs.length+s.size≤140737488355328) :
  ∃ v' w',(Builtin.append_ #[T,U] ty #[v,.string s]).run P w=.ok v' w'∧Tr G (keys [rB v E xs]) w G [rB v' E (xs++yb s)] w':=by
 obtain ⟨hu,inf,hi,hs1,hb1⟩:=fQ hT
 have hu2:P.underlying U=some .string:=by
  unfold jU at hU
  split at hU
  ·assumption
  cases hU
 rw [hi] at hz
 simp only [Option.bind_some] at hz
 have hown:w.ownsRow 0 E 1 v xs.length (xs.map V):=hs.own _ (List.mem_singleton.2 rfl)
 have hbegin:=eK hs
 have hyl:=eQ s
 have hyc:=aLW s
 have hml:(xs.map V).length=xs.length:=List.length_map ..
 have hsl:(strCells s).length=s.size:=strCells_length s
 have hmm:maxLen=9223372036854775807:=rfl
 have eR:rB v E (xs++yb s)=.row v E 1 (xs.length+s.size) (xs.map V++strCells s):=by simp only [rB,List.length_append,List.map_append,hyl,hyc]
 have hlen:(xs.map V++strCells s).length=(xs.length+s.size)*1:=by rw [List.length_append,hml,hsl]; omega
 by_cases hk:s.size=0
 ·have hn:strCells s=[]:=List.eq_nil_of_length_eq_zero (by rw [hsl]; exact hk)
  have hy0:yb s=[]:=List.eq_nil_of_length_eq_zero (by rw [hyl]; exact hk)
  refine ⟨v,w,?_,by rw [hy0,List.append_nil]; exact hbegin⟩
  have hf:=run_firstCells_string (P:=P) w 1 s
  rw [hk,hn] at hf
  rcases hown.2 with ⟨rfl,hm⟩ | ⟨g,cap,cur,rfl,_,hg,hnc,_,_,_⟩
  ·simp [Builtin.append_,run_underlying hu,run_underlying hu2,sizeOf,typeInfo,hi,hs1,Builtin.lenOf,hk,hf]
  simp [Builtin.append_,run_underlying hu,run_underlying hu2,sizeOf,typeInfo,hi,hs1,Builtin.lenOf,hk,hf,hnc,storeCells]
 have fresh:∀ (old:Nat),Tr G (keys [rB v E xs]) w G [.row (.slice (some ⟨w.heap.size,0,none⟩) (xs.length+s.size) (grownCap w (xs.length+s.size) old E)) E 1 (xs.length+s.size) (xs.map V++strCells s)]
   (w.drew.alloc (.cells ((xs.map V).toArray++(strCells s).toArray++Builtin.zeroCells (Value.int .u8 0).cells (grownCap w (xs.length+s.size) old E-(xs.length+s.size))) E)):=by
  intro old
  have h2:=(hbegin.drew).alloc (.cells ((xs.map V).toArray++(strCells s).toArray++Builtin.zeroCells (Value.int .u8 0).cells (grownCap w (xs.length+s.size) old E-(xs.length+s.size))) E)
  have h3:Tr G (keys [rB v E xs]) w G [.blk w.heap.size (.cells ((xs.map V).toArray++(strCells s).toArray++Builtin.zeroCells (Value.int .u8 0).cells (grownCap w (xs.length+s.size) old E-(xs.length+s.size))) E)] _:=Tr.left (ν:=[rB v E xs]) h2
  have hge:=grownCap_ge w (xs.length+s.size) old E
  refine h3.asRow hlen hge (grownCap_le_maxLen w (xs.length+s.size) old E (by rw [hmm]; omega)) ?_ ?_
  ·have hz1:(Value.int IntKind.u8 0).cells.size=1:=rfl
   simp only [Array.size_append,List.size_toArray,size_zeroCells,hz1,hml,hsl]
   omega
  simp only [Array.toList_append,List.append_assoc]
  rw [← List.append_assoc,←hlen]
  exact List.take_left
 rcases hown.2 with ⟨rfl,hm⟩ | ⟨g,cap,cur,rfl,_,hg,hnc,hcm,hcs,htake⟩
 ·have hx:xs=[]:=List.eq_nil_of_length_eq_zero hm
  subst hx
  have hrun:=run_append_nil_string (P:=P) w T U ty E inf (.int .u8 0) hu hu2 hi hz s (by omega) (by omega) (by rw [hb1]; simp only [List.length_nil] at hb; omega)
  have hf:=fresh 0
  have e1:(s.data.map fun b=>Value.int .u8 b.toNat)=(strCells s).toArray:=by
   apply Array.ext'
   simp [strCells]
  rw [e1] at hrun
  simp only [List.length_nil,Nat.zero_add,List.map_nil,List.nil_append,Array.empty_append] at hf
  refine ⟨_,_,hrun,?_⟩
  have eR2:∀ u,rB u E ([]++yb s)=.row u E 1 s.size (strCells s):=fun u=>by simp only [rB,List.nil_append,hyl,hyc]
  rw [eR2]; exact hf
 by_cases hroom:xs.length+s.size≤cap
 ·simp only [Nat.mul_one] at hcs htake
  have hrun:=run_append_room_string (P:=P) w T U ty E inf hu hu2 hi hs1 g xs.length cap cur hg s hroom (by omega)
  have hsat:Sat G [.blk g (.cells cur E (0,0))] w:=⟨hs.sub,fun r hr=>by rw [List.mem_singleton.1 hr]; exact hg,fun c hc=>hs.apart c (by simpa [keys,Res.keys,Value.ownBlock] using hc),by simp [keys,Res.keys]⟩
  refine ⟨_,_,hrun,?_⟩
  have h2:=aBX (cs':=(cur.toList.take xs.length++strCells s++cur.toList.drop (xs.length+s.size)).toArray) hsat
  have h3:=h2.asRow (m:=xs.length+s.size) (cap:=cap) (sz:=1) (xs:=xs.map V++strCells s) hlen hroom hcm ?_ ?_
  ·have eR3:∀ u,rB u E (xs++yb s)=.row u E 1 (xs.length+s.size) (xs.map V++strCells s):=fun u=>by simp only [rB,List.length_append,List.map_append,hyl,hyc]
   rw [eR3]
   simpa [keys,Res.keys,Value.ownBlock] using h3
  ·simp only [List.size_toArray,qlB,Array.length_toList,hsl]
   omega
  rw [htake,←hlen]
  exact List.take_left
 have holds:∀ j u,(xs.map V)[j]? = some u→w.cell? ((⟨g,0,none⟩ : Addr).add j)=some u:=hown.cells (g:=g) rfl
 have hrun:=run_append_grow_string (P:=P) w T U ty E inf (.int .u8 0) hu hu2 hi hz ⟨g,0,none⟩ xs.length cap (xs.map V) (by rw [hml,hs1]; omega) holds s (by omega) (by omega) (growslice_fits (by omega) (by rw [hb1]; omega))
 have eR3:∀ u,rB u E (xs++yb s)=.row u E 1 (xs.length+s.size) (xs.map V++strCells s):=fun u=>by simp only [rB,List.length_append,List.map_append,hyl,hyc]
 refine ⟨_,_,hrun,?_⟩
 rw [eR3]; exact fresh cap
theorem apT {T U E:Nat} {x y:Operand} {v:Value} {s:ByteArray} {xs:List Y} {μ':aH} (ho:nth l i=some ⟨some d,.call { callee:=.builtin .append,args:=#[x,y],argTypes:=#[T,U] },t,p,af,none⟩)
  (hT:bL P T=some (E,1,1)) (hU:jU P U=true) (hz:(P.info? E).bind (·.zero)=some (.int .u8 0)) (hx:Ev ρ true x v) (hy:Ev ρ true y (.string s)) (hm:MTake μ (rB v E xs) μ') (hb:xs.length+s.size≤140737488355328)
  (h:∀ v' L,v'.oneCell'=true→L=xs++yb s→Wo dr mc P n l K σ ((d,true,v') :: ρ) G (rB v' E L :: μ')) (hmc:mc.a=false∨dr=false:=by first|exact .inl rfl|exact .inr rfl):Wo dr mc P n l K (i :: σ) ρ G μ:=by
 refine .act (μ₁:=[rB v E xs]) (μ₂:=μ') (post:=fun G' μ' v'=>G'=G∧v'.oneCell'=true∧μ'=[rB v' E (xs++yb s)]) ho (by rcases hmc with h | h<;>simp [bH,h]) .no hm.perm (fun a w ha hs=>.inl ?_) ?_
 ·obtain ⟨v',w',hrun,ht⟩:=aTs (ty:=t) (s:=s) hT hU hz hs.left hb
  exact ⟨v',w',G,[rB v' E (xs++yb s)],.inl (by simp [execOp,resolve,invoke,builtin,hx.eval ha rfl,hy.eval ha rfl,hrun]),ht,rfl,ht.sat.rowOne,rfl⟩
 rintro v' G' μ'' _ ⟨rfl,h1,rfl⟩
 exact h v' _ h1 rfl
def sbT (P:Program) (S D:TypeId):Bool:=match P.underlying S,P.underlying D with
 | some .string,some (.slice e)=>match P.underlying e with | some (.int .u8)=>true | _=>false
 | _,_=>false
theorem cvS {S D:TypeId} {x:Operand} {s:ByteArray} (hdf:dr=false) (ho:nth l i=some ⟨some d,.convert S D x,t,p,af,none⟩) (hS:sbT P S D=true) (hx:Ev ρ true x (.string s))
  (h:∀ G' s',PM.le G G'→SlR G' 1 aU s' (yb s)→Wo dr mc P n l K σ ((d,true,s'.val (yb s).length) :: ρ) G' μ):Wo dr mc P n l K (i :: σ) ρ G μ:=by
 refine .act (μ₁:=[]) (μ₂:=μ) (post:=fun G' μ' v=>μ'=[]∧∃ s',v=s'.val (yb s).length∧SlR G' 1 aU s' (yb s)) ho (.inr hdf) .no (.refl _) (fun a w ha hs=>.inl ?_) ?_
 ·unfold sbT at hS
  split at hS
  ·rename_i e h1 h2
   split at hS
   ·rename_i h3
    have hrun:=run_bytes_of_string (P:=P) w S D e s h1 h2 h3
    have hge:=grownCap_ge w s.size 0 e
    have h0:Tr G (keys []) w G [] w:=eK (Sat.left (μ:=[]) hs)
    have h4:=(h0.drew).alloc (.cells (bytesRow s (grownCap w s.size 0 e)) e ((bytesRow s (grownCap w s.size 0 e)).size,(bytesRow s (grownCap w s.size 0 e)).size+1))
    have h5:=h4.freeze (by simp [keys])
    refine ⟨.slice (some ⟨w.heap.size,0,none⟩) s.size (grownCap w s.size 0 e),_,_,[],.inl (by simp [execOp,hx.eval ha rfl,hrun]),h5,rfl,⟨some ⟨w.heap.size,0,none⟩,grownCap w s.size 0 e⟩,by rw [eQ]; rfl,?_⟩
    refine SlR.ofRow (fun _ _=>rfl) (by rw [eQ]; exact hge) (fun _=>rfl) (fun j v hj=>?_)
    rw [sC,aLW] at hj
    show RdP _ ⟨w.heap.size,0+j,none⟩ v
    rw [Nat.zero_add]
    refine RdP.blk (cs:=(bytesRow s (grownCap w s.size 0 e)).toList) (by rw [Array.toArray_toList]; exact cH _ _ _) ?_
    have hlt:j<(strCells s).length:=(List.getElem?_eq_some_iff.1 hj).1
    unfold bytesRow
    rw [Array.toList_append,List.getElem?_append_left (by simpa [strCells] using hlt)]
    simpa [strCells] using hj
   cases hS
  cases hS
 rintro v G' μ'' hle ⟨rfl,s',rfl,hs'⟩
 exact h G' s' hle hs'
theorem aIR {α:Type} {enc:α→List Value} {sz:Nat}:∀ {xs:List α} {k:Nat} {x:α},(∀ y∈xs,(enc y).length=sz)→xs[k]? = some x→((xs.flatMap enc).drop (k*sz)).take sz=enc x
 | y :: ys,0,x,hsz,hx=>by
  simp only [List.getElem?_cons_zero,Option.some.injEq] at hx
  subst hx
  rw [Nat.zero_mul,List.drop_zero,List.flatMap_cons,List.take_left' (hsz y (List.mem_cons_self ..))]
 | y :: ys,k+1,x,hsz,hx=>by
  rw [List.flatMap_cons,Nat.succ_mul,Nat.add_comm,←List.drop_drop,List.drop_left' (hsz y (List.mem_cons_self ..))]
  exact aIR (fun z hz=>hsz z (List.mem_cons_of_mem _ hz)) (by simpa using hx)
 | [],_,_,_,hx=>by simp at hx
theorem aDf {α:Type} {enc:α→List Value} {sz b m cap E k:Nat} {xs:List α} {x:α} {μ':aH} (h:MTake μ (rS sz enc (.slice (some ⟨b,0,none⟩) m cap) E xs) μ') (hsz:∀ y∈xs,(enc y).length=sz) (hx:xs[k]? = some x) {q:Nat} (hq:q=k*sz):RdN G μ b q (enc x):=by
 subst hq
 intro j v hj
 refine Rd.row h ?_
 rw [← aIR hsz hx,List.getElem?_take] at hj
 split at hj
 ·rw [List.getElem?_drop] at hj; exact hj
 cases hj
end
theorem aV6 (s:ByteArray):s.data.toList=(yb s).map fun y=>UInt8.ofNat y.toNat:=by
 conv=>lhs; rw [← uC s]
 exact qK _
theorem aDs {s:ByteArray} {xs:List Y} (h:s.data.toList=xs.map fun y=>UInt8.ofNat y.toNat):s=cA xs :=
 ByteArray.ext (Array.toList_inj.1 (by rw [h,qK]))
theorem aN6 (xs ys:List Y):cA xs++cA ys=cA (xs++ys):=aDs (by rw [ByteArray.data_append,Array.toList_append,qK,qK,List.map_append])
theorem aDr (xs:List Y) (lo hi:Nat):(cA xs).extract lo hi=cA ((xs.take hi).drop lo):=aDs (by
 rw [ByteArray.data_extract,Array.toList_extract,qK,List.extract_eq_take_drop,←List.map_drop,←List.map_take,List.drop_take])
theorem aOA {s:ByteArray} {j:Nat} (h:j<s.size):s[j]? = some (UInt8.ofNat ((yb s).getD j 0).toNat):=by
 have h1:s[j]? = s.data.toList[j]?:=by
  rw [getElem?_pos s j h,List.getElem?_eq_getElem (show j<s.data.toList.length by simpa using h)]; rfl
 have h2:j<(yb s).length:=by rw [eQ]; exact h
 rw [h1,aV6,List.getElem?_map,List.getElem?_eq_getElem h2]
 simp [h2]
section
variable {dr:Bool} {mc:Md} {P:Program} {n:Fm} {l:List Oper} {K:aI→PM→aH→Prop} {i:Nat} {σ:List Nat} {ρ:aI} {G:PM} {μ:aH}
variable {d t:Nat} {p:String} {af:Array Edge} {g:Option (Nat×Bool)} {c:Bool}
theorem sI {T:TypeId} {x y:Operand} {k:IntKind} {a:Int} {s:ByteArray} (j:Nat) (ho:nth l i=some ⟨some d,.index T x y,t,p,af,g⟩) (hg:Gd l ρ g c) (hT:jU P T=true) (hx:Ev ρ c x (.string s)) (hy:Ev ρ c y (.int k a)) (ha:c=true→a=j) (h1:c=true→j<s.size)
  (h:Wo dr mc P n l K σ ((d,c,V ((yb s).getD j 0)) :: ρ) G μ):Wo dr mc P n l K (i :: σ) ρ G μ :=
 .pure ho (.inl rfl) hg (fun hc a' w hag=>by
  obtain rfl:=ha hc
  have hu:P.underlying T=some .string:=by unfold jU at hT; split at hT<;>first|assumption | cases hT
  have hy':((yb s).getD j 0).toNat<256:=((yb s).getD j 0).isLt
  simp only [execOp,hx.eval hag hc,hy.eval hag hc,Instr.index,asIntOf,Sem.run_bind,Sem.run_pure,Result.andThen_ok,run_underlying hu]
  rw [if_pos (Int.natCast_nonneg j),Int.toNat_natCast,aOA (h1 hc)]
  dsimp only
  rw [show (UInt8.ofNat ((yb s).getD j 0).toNat).toNat=((yb s).getD j 0).toNat by simp only [UInt8.toNat_ofNat']; exact Nat.mod_eq_of_lt hy']
  rfl) h
theorem aCd {P:Program} {k:IntKind} {a m:Nat} {code:BoundsCode} (h:a≤m) (w:World):(Instr.sliceBound (.int k (a:Int)) m code).run P w=.ok a w:=by
 simp [Instr.sliceBound,asIntOf,h]
theorem sS {T:TypeId} {x y z:Operand} {k k':IntKind} {a b:Int} {s:ByteArray} (lo hi:Nat) (ho:nth l i=some ⟨some d,.slice T x (some y) (some z) none,t,p,af,g⟩) (hg:Gd l ρ g c) (hT:jU P T=true) (hx:Ev ρ c x (.string s)) (hy:Ev ρ c y (.int k a)) (hz:Ev ρ c z (.int k' b)) (ha:c=true→a=lo) (hb:c=true→b=hi) (h1:c=true→lo≤hi) (h2:c=true→hi≤s.size)
  (h:Wo dr mc P n l K σ ((d,c,.string (cA (((yb s).take hi).drop lo))) :: ρ) G μ):Wo dr mc P n l K (i :: σ) ρ G μ :=
 .pure ho (.inl rfl) hg (fun hc a' w hag=>by
  obtain rfl:=ha hc; obtain rfl:=hb hc
  have hu:P.underlying T=some .string:=by unfold jU at hT; split at hT<;>first|assumption | cases hT
  rw [← aDr,uC]
  simp [execOp,hx.eval hag hc,hy.eval hag hc,hz.eval hag hc,Instr.sliceAt,Instr.slice,Instr.sliceBounds,run_underlying hu,aCd (h1 hc),aCd (h2 hc)]) h
theorem sD {T:TypeId} {x y:Operand} {k:IntKind} {a:Int} {s:ByteArray} (lo:Nat) (ho:nth l i=some ⟨some d,.slice T x (some y) none none,t,p,af,g⟩) (hg:Gd l ρ g c) (hT:jU P T=true) (hx:Ev ρ c x (.string s)) (hy:Ev ρ c y (.int k a)) (ha:c=true→a=lo) (h1:c=true→lo≤s.size)
  (h:Wo dr mc P n l K σ ((d,c,.string (cA ((yb s).drop lo))) :: ρ) G μ):Wo dr mc P n l K (i :: σ) ρ G μ :=
 .pure ho (.inl rfl) hg (fun hc a' w hag=>by
  obtain rfl:=ha hc
  have hu:P.underlying T=some .string:=by unfold jU at hT; split at hT<;>first|assumption | cases hT
  have he:cA ((yb s).drop lo)=s.extract lo s.size:=by
   conv=>rhs; rw [← uC s]
   rw [aDr,aBg,List.take_length]
  rw [he]
  simp [execOp,hx.eval hag hc,hy.eval hag hc,Instr.sliceAt,Instr.slice,Instr.sliceBounds,run_underlying hu,aCd (h1 hc)]) h
theorem sE {T:TypeId} {x y:Operand} {k:IntKind} {a:Int} {s:ByteArray} (hi:Nat) (ho:nth l i=some ⟨some d,.slice T x none (some y) none,t,p,af,g⟩) (hg:Gd l ρ g c) (hT:jU P T=true) (hx:Ev ρ c x (.string s)) (hy:Ev ρ c y (.int k a)) (ha:c=true→a=hi) (h1:c=true→hi≤s.size)
  (h:Wo dr mc P n l K σ ((d,c,.string (cA ((yb s).take hi))) :: ρ) G μ):Wo dr mc P n l K (i :: σ) ρ G μ :=
 .pure ho (.inl rfl) hg (fun hc a' w hag=>by
  obtain rfl:=ha hc
  have hu:P.underlying T=some .string:=by unfold jU at hT; split at hT<;>first|assumption | cases hT
  have he:cA ((yb s).take hi)=s.extract 0 hi:=by
   conv=>rhs; rw [← uC s]
   rw [aDr,List.drop_zero]
  rw [he]
  simp [execOp,hx.eval hag hc,hy.eval hag hc,Instr.sliceAt,Instr.slice,Instr.sliceBounds,run_underlying hu,aCd (h1 hc)]) h
theorem sP {T T':TypeId} {x y:Operand} {s1 s2:ByteArray} (ho:nth l i=some ⟨some d,.binOp .add T x y T',t,p,af,g⟩) (hg:Gd l ρ g c) (hx:Ev ρ c x (.string s1)) (hy:Ev ρ c y (.string s2)) (hl:c=true→s1.size+s2.size≤9223372036854775807)
  (h:Wo dr mc P n l K σ ((d,c,.string (cA (yb s1++yb s2))) :: ρ) G μ):Wo dr mc P n l K (i :: σ) ρ G μ :=
 .pure ho (.inl rfl) hg (fun hc a' w hag=>by
  have hl':¬ (((s1.size+s2.size:Nat):Int) > IntKind.i64.max):=by
   have:=hl hc
   simp only [IntKind.max,IntKind.bits,IntKind.signed]; simp; omega
  rw [← aN6,uC,uC]
  have:(eqGuard .add T x y (.string s1) (.string s2)).run P w=.ok () w:=by unfold eqGuard; simp
  simp only [execOp,hx.eval hag hc,hy.eval hag hc]
  simp only [Sem.run_bind,this,Result.andThen_ok,binOp,Op.stringOp,if_neg hl',Sem.run_pure]) h
end
structure Fi where
 nm:ByteArray
 h:Sh
 n:Nat
 safe:Nat
 born:Nat
def Fi.cells (f:Fi):List Value:=[f.h.val f.n,.int .i64 (f.safe:Int)]
def Fi.val (f:Fi):Value:=.agg f.cells.toArray
def Fi.z:Fi:=⟨ByteArray.empty,⟨none,0⟩,0,0,0⟩
theorem Fi.one (f:Fi):∀ u∈f.cells,u.oneCell'=true:=by
 intro u hu
 simp only [Fi.cells,List.mem_cons,List.not_mem_nil,or_false] at hu
 rcases hu with rfl|rfl<;>rfl
def Fi.fe (f:Fi):FE:=(f.nm,f.val,f.born)
def cR:List Fi→Nat
 | []=>0
 | f :: r=>f.n+cR r
def jV (seen:List Nat):List Fi→Nat
 | []=>0
 | f :: r=>(if f.born∈seen then f.n else 0)+jV seen r
def nI (seen:List Nat):List Fi→Nat
 | []=>0
 | f :: r=>(if f.born∈seen then 0 else 1)+nI seen r
theorem aFZ {seen:List Nat}:∀ {F:List Fi},jV seen F≤cR F
 | []=>Nat.le_refl _
 | f :: r=>by
  have:=aFZ (seen:=seen) (F:=r)
  simp only [jV,cR]; split<;>omega
theorem aKn:∀ {F:List Fi},jV [] F=0
 | []=>rfl
 | f :: r=>by simp [jV,aKn (F:=r)]
theorem aKo {seen:List Nat} {b:Nat}:∀ {F:List Fi},(∀ f∈F,f.born≠b)→jV (seen++[b]) F=jV seen F∧nI (seen++[b]) F=nI seen F
 | [],_=>⟨rfl,rfl⟩
 | f :: r,h=>by
  have h1:=aKo (seen:=seen) (b:=b) (F:=r) fun g hg=>h g (List.mem_cons_of_mem _ hg)
  have h2:f.born≠b:=h f (List.mem_cons_self ..)
  have h3:f.born∈seen++[b]↔f.born∈seen:=by simp [h2]
  simp only [jV,nI,h1.1,h1.2]
  by_cases q:f.born∈seen
  ·rw [if_pos (h3.2 q),if_pos q,if_pos (h3.2 q),if_pos q]; exact ⟨rfl,rfl⟩
  ·rw [if_neg (fun z=>q (h3.1 z)),if_neg q,if_neg (fun z=>q (h3.1 z)),if_neg q]; exact ⟨rfl,rfl⟩
theorem aKm {seen:List Nat} {e:FE}:∀ {F:List Fi},(F.map Fi.born).Nodup→NxR (F.map Fi.fe) seen (some e)→∃ f∈F,e=f.fe∧jV (seen++[f.born]) F=jV seen F+f.n∧nI (seen++[f.born]) F+1=nI seen F
 | [],_,h=>by cases h.1
 | f :: r,hd,h=>by
  rw [List.map_cons,List.nodup_cons] at hd
  obtain ⟨h1,h2⟩:=h
  rw [List.map_cons] at h1
  rcases List.mem_cons.1 h1 with rfl | h1
  ·refine ⟨f,List.mem_cons_self ..,rfl,?_⟩
   have h4:=aKo (seen:=seen) (b:=f.born) (F:=r) fun g hg hb=>hd.1 (List.mem_map.2 ⟨g,hg,hb⟩)
   have h5:¬ f.born∈seen:=h2
   simp only [jV,nI,h4.1,h4.2]
   rw [if_pos (by simp),if_neg h5,if_pos (by simp),if_neg h5]
   omega
  obtain ⟨g,hg,rfl,h5,h6⟩:=aKm hd.2 ⟨h1,h2⟩
  refine ⟨g,List.mem_cons_of_mem _ hg,rfl,?_⟩
  have h7:f.born≠g.born:=fun z=>hd.1 (List.mem_map.2 ⟨g,hg,z.symm⟩)
  have h3:f.born∈seen++[g.born]↔f.born∈seen:=by simp [h7]
  simp only [jV,nI,h5]
  by_cases q:f.born∈seen
  ·rw [if_pos (h3.2 q),if_pos q,if_pos (h3.2 q),if_pos q]; omega
  rw [if_neg (fun z=>q (h3.1 z)),if_neg q,if_neg (fun z=>q (h3.1 z)),if_neg q]; omega
theorem aKl {seen:List Nat}:∀ {F:List Fi},NxR (F.map Fi.fe) seen none→jV seen F=cR F
 | [],_=>rfl
 | f :: r,h=>by
  simp only [jV,cR]
  have h0:f.born∈seen:=h f.fe (by simp)
  rw [if_pos h0,aKl fun e he=>h e (by rw [List.map_cons]; exact List.mem_cons_of_mem _ he)]
theorem aIJ:∀ {F:List Fi} {f:Fi},(F.map Fi.born).Nodup→f∈F→(F.map Fi.fe).find? (fun e=>e.2.2 == f.born)=some f.fe
 | [],_,_,h=>by cases h
 | g :: r,f,hd,h=>by
  rw [List.map_cons,List.nodup_cons] at hd
  rw [List.map_cons]
  rcases List.mem_cons.1 h with rfl | h
  ·rw [List.find?_cons_of_pos (by simp [Fi.fe])]
  ·have:g.born≠f.born:=fun z=>hd.1 (List.mem_map.2 ⟨f,h,z.symm⟩)
   rw [List.find?_cons_of_neg (by simpa [Fi.fe] using this)]
   exact aIJ hd.2 h
structure DkR (F:List Fi) (clk:Nat):Prop where
 nd:(F.map Fi.born).Nodup
 un:(F.map Fi.nm).Nodup
 gn:∀ f∈F,f.nm.size≤100
 cnt:F.length≤1000
 old:∀ f∈F,f.born<clk
 few:cR F≤1000000000
theorem DkR.oldE {F:List Fi} {clk:Nat} (h:DkR F clk):∀ e∈F.map Fi.fe,e.2.2<clk:=fun e he=>by
 obtain ⟨f,hf,rfl⟩:=List.mem_map.1 he; exact h.old f hf
def cV (nm:ByteArray):List Fi→Option Fi
 | []=>none
 | f :: r=>if f.nm=nm then some f else cV nm r
def iT (nm:ByteArray):List Fi→List Fi
 | []=>[]
 | f :: r=>if f.nm=nm then { f with safe:=f.n } :: r else f :: iT nm r
def gI (nm:ByteArray):List Fi→List Fi
 | []=>[]
 | f :: r=>if f.nm=nm then r else f :: gI nm r
theorem aAS {nm:ByteArray}:∀ {F:List Fi},fT nm (F.map Fi.fe)=(cV nm F).map Fi.val
 | []=>rfl
 | f :: r=>by
  rw [List.map_cons,fT,cV]
  by_cases h:f.nm=nm
  ·rw [if_pos h,if_pos (show f.fe.1=nm from h)]; rfl
  ·rw [if_neg h,if_neg (show ¬ f.fe.1=nm from h)]; exact aAS
theorem aQ0 {nm:ByteArray} {F:List Fi}:(fT nm (F.map Fi.fe)).getD (.agg #[.slice none 0 0,.int .i64 0])=((cV nm F).getD Fi.z).val:=by
 rw [aAS]; cases cV nm F<;>rfl
theorem aQz {nm:ByteArray} {F:List Fi}:(fT nm (F.map Fi.fe)).isSome=(cV nm F).isSome:=by
 rw [aAS]; cases cV nm F<;>rfl
theorem aCE {nm:ByteArray} {F:List Fi} (h:cV nm F=none):fT nm (F.map Fi.fe)=none:=by rw [aAS,h]; rfl
theorem aEp {nm:ByteArray} {F:List Fi} {f:Fi} (h:cV nm F=some f):fT nm (F.map Fi.fe)=some f.val:=by rw [aAS,h]; rfl
theorem aI1 {nm:ByteArray} {F:List Fi} (h:cV nm F=none):(fT nm (F.map Fi.fe)).getD (.agg #[.slice none 0 0,.int .i64 0])=.agg [.slice none 0 0,.int .i64 0].toArray:=by rw [aCE h]; rfl
theorem aI0 {nm:ByteArray} {F:List Fi} {f:Fi} (h:cV nm F=some f):(fT nm (F.map Fi.fe)).getD (.agg #[.slice none 0 0,.int .i64 0])=.agg f.cells.toArray:=by rw [aEp h]; rfl
theorem aQy {nm:ByteArray} {F:List Fi} (h:cV nm F=none):(fT nm (F.map Fi.fe)).isSome=false:=by rw [aCE h]; rfl
theorem aJK {nm:ByteArray} {f:Fi}:∀ {F:List Fi},cV nm F=some f→qU nm (.agg [f.h.val f.n,.int .i64 (f.n:Int)].toArray) (F.map Fi.fe)=(iT nm F).map Fi.fe
 | [],h=>by cases h
 | g :: r,h=>by
  rw [List.map_cons,qU,iT]
  rw [cV] at h
  by_cases q:g.nm=nm
  ·rw [if_pos q] at h; rw [if_pos q,if_pos (show g.fe.1=nm from q)]
   cases h; rfl
  ·rw [if_neg q] at h; rw [if_neg q,if_neg (show ¬ g.fe.1=nm from q),aJK h]; rfl
theorem aEv {nm:ByteArray}:∀ {F:List Fi},qT nm (F.map Fi.fe)=(gI nm F).map Fi.fe
 | []=>rfl
 | g :: r=>by
  rw [List.map_cons,qT,gI]
  by_cases q:g.nm=nm
  ·rw [if_pos q,if_pos (show g.fe.1=nm from q)]
  ·rw [if_neg q,if_neg (show ¬ g.fe.1=nm from q),aEv]; rfl
theorem xL {nm:ByteArray}:∀ {F:List Fi},cR (iT nm F)=cR F∧(iT nm F).map Fi.born=F.map Fi.born
 | []=>⟨rfl,rfl⟩
 | g :: r=>by
  rw [iT]
  by_cases q:g.nm=nm
  ·rw [if_pos q]; exact ⟨rfl,rfl⟩
  ·rw [if_neg q]; exact ⟨by simp only [cR,(xL (F:=r)).1],by simp only [List.map_cons,(xL (F:=r)).2]⟩
theorem aAM {nm:ByteArray}:∀ {F:List Fi},(iT nm F).map Fi.nm=F.map Fi.nm
 | []=>rfl
 | g :: r=>by
  rw [iT]
  by_cases q:g.nm=nm
  ·rw [if_pos q]; rfl
  ·rw [if_neg q,List.map_cons,List.map_cons,aAM]
theorem aIL {nm:ByteArray}:∀ {F:List Fi},cV nm F=none→∀ f∈F,f.nm≠nm
 | [],_,_,h=>by cases h
 | g :: r,h,f,hf=>by
  rw [cV] at h
  by_cases q:g.nm=nm
  ·rw [if_pos q] at h; cases h
  ·rw [if_neg q] at h
   rcases List.mem_cons.1 hf with rfl | hf
   ·exact q
   ·exact aIL h f hf
theorem aAH {nm:ByteArray}:∀ {F:List Fi},((gI nm F).map Fi.nm).Sublist (F.map Fi.nm)∧(gI nm F).length≤F.length
 | []=>⟨.slnil,Nat.le_refl _⟩
 | g :: r=>by
  rw [gI]
  by_cases q:g.nm=nm
  ·rw [if_pos q]; exact ⟨List.sublist_cons_self ..,by simp⟩
  ·rw [if_neg q,List.map_cons,List.map_cons]; exact ⟨(aAH (F:=r)).1.cons_cons _,by have:=(aAH (nm:=nm) (F:=r)).2; simp only [List.length_cons]; omega⟩
theorem xK {nm:ByteArray} {f:Fi}:∀ {F:List Fi},cV nm F=some f→cR (gI nm F)+f.n=cR F∧((F.map Fi.born).Nodup→((gI nm F).map Fi.born).Nodup)∧(∀ g∈gI nm F,g∈F)
 | [],h=>by cases h
 | g :: r,h=>by
  rw [cV] at h; rw [gI]
  by_cases q:g.nm=nm
  ·rw [if_pos q] at h ⊢
   cases h
   exact ⟨by simp only [cR]; omega,fun hd=>(List.nodup_cons.1 hd).2,fun x hx=>List.mem_cons_of_mem _ hx⟩
  rw [if_neg q] at h ⊢
  obtain ⟨h1,h2,h3⟩:=xK h
  refine ⟨by simp only [cR]; omega,fun hd=>?_,fun x hx=>?_⟩
  ·rw [List.map_cons,List.nodup_cons] at hd ⊢
   refine ⟨fun hm=>hd.1 ?_,h2 hd.2⟩
   obtain ⟨y,hy,e⟩:=List.mem_map.1 hm
   exact List.mem_map.2 ⟨y,h3 y hy,e⟩
  rcases List.mem_cons.1 hx with rfl | hx
  ·exact List.mem_cons_self ..
  exact List.mem_cons_of_mem _ (h3 x hx)
theorem aCi:∀ {F H:List Fi},cR (F++H)=cR F+cR H
 | [],H=>by simp [cR]
 | f :: r,H=>by simp only [List.cons_append,cR,aCi (F:=r)]; omega
theorem aII {F:List Fi} {f:Fi}:F.map Fi.fe++[f.fe]=(F++[f]).map Fi.fe:=by simp
theorem DkR.app {F:List Fi} {clk:Nat} {f:Fi} (h:DkR F clk) (hb:f.born=clk) (hs:cR F+f.n≤1000000000) (hn:cV f.nm F=none) (hg:f.nm.size≤100) (hc:F.length<1000):DkR (F++[f]) (clk+1):=by
 refine ⟨?_,?_,fun x hx=>?_,by simp; omega,fun x hx=>?_,by rw [aCi]; simp only [cR]; omega⟩
 ·rw [List.map_append]
  refine List.nodup_append.2 ⟨h.nd,by simp,fun a ha b hb'=>?_⟩
  obtain ⟨y,hy,rfl⟩:=List.mem_map.1 ha
  simp only [List.map_cons,List.map_nil,List.mem_singleton] at hb'
  have:=h.old y hy
  omega
 ·rw [List.map_append]
  refine List.nodup_append.2 ⟨h.un,by simp,fun a ha b hb'=>?_⟩
  obtain ⟨y,hy,rfl⟩:=List.mem_map.1 ha
  simp only [List.map_cons,List.map_nil,List.mem_singleton] at hb'
  rw [hb']
  exact aIL hn y hy
 ·rcases List.mem_append.1 hx with hx | hx
  ·exact h.gn x hx
  rw [List.mem_singleton.1 hx]; exact hg
 rcases List.mem_append.1 hx with hx | hx
 ·have:=h.old x hx; omega
 rw [List.mem_singleton.1 hx,hb]; omega
theorem aPd {nm:ByteArray} {F:List Fi} {clk:Nat} (h:∀ f∈F,f.born<clk):∀ f∈iT nm F,f.born<clk:=fun f hf=>by
 have:f.born∈(iT nm F).map Fi.born:=List.mem_map.2 ⟨f,hf,rfl⟩
 rw [xL.2] at this
 obtain ⟨g,hg,e⟩:=List.mem_map.1 this
 rw [← e]; exact h g hg
theorem DkR.sy {F:List Fi} {clk:Nat} {nm:ByteArray} (h:DkR F clk):DkR (iT nm F) clk :=
 ⟨by rw [xL.2]; exact h.nd,by rw [aAM]; exact h.un,fun f hf=>by
   have:f.nm∈(iT nm F).map Fi.nm:=List.mem_map.2 ⟨f,hf,rfl⟩
   rw [aAM] at this
   obtain ⟨g,hg,e⟩:=List.mem_map.1 this
   rw [← e]; exact h.gn g hg,by have:=congrArg List.length (aAM (nm:=nm) (F:=F)); simp only [List.length_map] at this; rw [this]; exact h.cnt,aPd h.old,by rw [xL.1]; exact h.few⟩
theorem DkR.del {F:List Fi} {clk:Nat} {nm:ByteArray} {f:Fi} (h:DkR F clk) (hf:cV nm F=some f):DkR (gI nm F) clk :=
 ⟨(xK hf).2.1 h.nd,h.un.sublist aAH.1,fun g hg=>h.gn g ((xK hf).2.2 g hg),Nat.le_trans aAH.2 h.cnt,fun g hg=>h.old g ((xK hf).2.2 g hg),by have:=(xK hf).1; have:=h.few; omega⟩
theorem aB0 {nm:ByteArray} {f:Fi}:∀ {F:List Fi},cV nm F=none→f.nm=nm→cV nm (F++[f])=some f
 | [],_,e=>by rw [List.nil_append,cV,if_pos e]
 | g :: r,h,e=>by
  rw [List.cons_append,cV]
  rw [cV] at h
  by_cases q:g.nm=nm
  ·rw [if_pos q] at h; cases h
  ·rw [if_neg q] at h ⊢; exact aB0 h e
def cS (bm:Nat) (room done:Nat):List Value:=[.map (some bm),.int .i64 (room:Int),.bool false,.int .i64 (-1),.int .i64 (done:Int)]
theorem aK2 (a b:BitVec 64):∀ u∈[uv .u64 a,uv .u64 b],u.oneCell'=true:=by
 intro u hu
 simp only [List.mem_cons,List.not_mem_nil,or_false] at hu
 rcases hu with rfl|rfl<;>rfl
theorem aRQ {m:BitVec 64} (hm:m.toNat≤1000000) (h:(((m+1#64).toNat:Int) == 0||false||((m+1#64-1#64).toNat:Int) != (m.toNat:Int))=true):False:=by
 have h2:m+1#64-1#64=m:=BitVec.add_sub_cancel m 1#64
 have h3:(m+1#64).toNat=m.toNat+1:=by rw [BitVec.toNat_add]; show (m.toNat+1)%2^64=_; omega
 rw [h2,h3] at h
 simp at h
 omega
theorem aRP {a b c d:BitVec 64} (h : [uv .u64 a,uv .u64 b]=[uv .u64 c,uv .u64 d]):a.toNat=c.toNat:=by
 have h1:=(List.cons.inj h).1
 unfold uv at h1
 have h2:=(Value.int.inj h1).2
 exact Int.ofNat_inj.1 h2
def rF (d:Nat):List Y:=[48#8,48#8,48#8,48#8,48#8,BitVec.ofNat 8 (48+d)]
def xG (d k:Nat):List Y:=(rF d).drop (6-k)
def pG (n:BitVec 64) (k:Nat):BitVec 64:=if k=0 then n else 0#64
theorem aOx {d k:Nat} (h:k≤6):(xG d k).length=k:=by simp [xG,rF]; omega
theorem aOw {n:BitVec 64} {k:Nat} (h:1≤k):(pG n k).toNat=0:=by unfold pG; rw [if_neg (by omega)]; rfl
theorem aOy {n:BitVec 64} {k:Nat} (hn:n.toNat<10) (hk:k<6) : [(48#64+pG n k%10#64).setWidth 8]++xG n.toNat k=xG n.toNat (k+1):=by
 match k,hk with
 | 0,_ =>
  have h1:(48#64+pG n 0%10#64).setWidth 8=BitVec.ofNat 8 (48+n.toNat):=by
   apply BitVec.eq_of_toNat_eq
   have h2:(pG n 0%10#64).toNat=n.toNat:=by show (n%10#64).toNat=_; rw [BitVec.toNat_umod]; exact Nat.mod_eq_of_lt hn
   simp only [BitVec.toNat_setWidth,BitVec.toNat_add,h2,BitVec.toNat_ofNat]
   omega
  rw [h1]; rfl
 | 1,_=>rfl
 | 2,_=>rfl
 | 3,_=>rfl
 | 4,_=>rfl
 | 5,_=>rfl
theorem aOv {n:BitVec 64} {k:Nat} (hn:n.toNat<10):pG n k / 10#64=pG n (k+1):=by
 unfold pG
 by_cases h:k=0
 ·rw [if_pos h,if_neg (by omega)]
  apply BitVec.eq_of_toNat_eq
  rw [BitVec.toNat_udiv]; exact Nat.div_eq_of_lt hn
 ·rw [if_neg h,if_neg (by omega)]; rfl
def aRq (d:Nat):ByteArray:=cA (yb (cA (rF d))++yb ⟨#[46,116,97,98]⟩)
def aRo (d:Nat):ByteArray:=cA (yb (cA (rF d))++yb ⟨#[46,108,111,103]⟩)
def aRp (d:Nat):ByteArray:=cA (yb ⟨#[109,97,110,105,102,101,115,116,45]⟩++yb (cA (rF d)))
def aRh:ByteArray:=⟨#[99,117,114,114,101,110,116]⟩
def aRr:ByteArray:=⟨#[99,117,114,114,101,110,116,46,116,109,112]⟩
def bP (k d:Nat):ByteArray:=if k=1 then aRo d else if k=2 then aRq d else if k=3 then aRp d else if k=4 then aRh else if k=5 then aRr else ⟨#[]⟩
theorem aRj {k:Nat} {d:Nat} (h:k=1):cA (yb (cA (rF d))++yb ⟨#[46,108,111,103]⟩)=bP k d:=by subst h; rfl
theorem aRk {k:Nat} {d:Nat} (h:k=2):cA (yb (cA (rF d))++yb ⟨#[46,116,97,98]⟩)=bP k d:=by subst h; rfl
theorem aRl {k:Nat} {d:Nat} (h:k=3):cA (yb ⟨#[109,97,110,105,102,101,115,116,45]⟩++yb (cA (rF d)))=bP k d:=by subst h; rfl
theorem aRm {k:Nat} {d:Nat} (h:k=4):(⟨#[99,117,114,114,101,110,116]⟩ : ByteArray)=bP k d:=by subst h; rfl
theorem aRn {k:Nat} {d:Nat} (h:k=5):(⟨#[99,117,114,114,101,110,116,46,116,109,112]⟩ : ByteArray)=bP k d:=by subst h; rfl
theorem aRi {k:Nat} {d:Nat} (h1:k≠1) (h2:k≠2) (h3:k≠3) (h4:k≠4) (h5:k≠5):(⟨#[]⟩ : ByteArray)=bP k d:=by
 unfold bP; rw [if_neg h1,if_neg h2,if_neg h3,if_neg h4,if_neg h5]
theorem aUc {s:ByteArray} (h:s.size≠0):(s.toList == (⟨#[]⟩ : ByteArray).toList)=false:=by
 refine beq_eq_false_iff_ne.2 fun e=>h ?_
 have h1:=eQ s
 unfold yb at h1
 rw [e] at h1
 have h2:=eQ ⟨#[]⟩
 unfold yb at h2
 rw [← h1,h2]; rfl
def jG (s:ByteArray):Prop:=s.size≠0∧s.size≤100
theorem aJV:jG (bP 4 0):=⟨by decide,by decide⟩
theorem aJW:jG (bP 5 0):=⟨by decide,by decide⟩
def aS9:W:=2197175160#32
def aIc (x:W):W:=x >>> 1 ^^^ (aS9 &&& -(x &&& 1#32))
def pJ:Nat→W→W
 | 0,x=>x
 | n+1,x=>aIc (pJ n x)
theorem aPr (m n:Nat) (x:W):pJ m (pJ n x)=pJ (m+n) x:=by
 induction m with
 | zero=>rw [Nat.zero_add]; rfl
 | succ m ih=>rw [pJ,ih,Nat.succ_add]; rfl
def aAC (x:W) (c:Y):W:=pJ 8 (x ^^^ c.setWidth 32)
def mJ (sum:W) (xs:List Y):W := ~~~(xs.foldl aAC (~~~sum))
theorem aOb (sum:W) (xs ys:List Y):mJ (mJ sum xs) ys=mJ sum (xs++ys):=by
 unfold mJ; rw [BitVec.not_not,List.foldl_append]
theorem aOc (sum:W):mJ sum []=sum:=by simp [mJ]
theorem aPZ {xs:List Y} {k:Nat} {x:W} (h:k<xs.length):(xs.take (k+1)).foldl aAC x=aAC ((xs.take k).foldl aAC x) (xs.getD k 0):=by
 rw [List.take_succ_eq_append_getElem h,List.foldl_append]; simp [h]
def aEu (x:W):W:=rA x 17+2726488792#32
theorem fx0 {L:List Y} {n:BitVec 64} {m:Nat} (e:L=[]++hY n m):L.length=m:=by rw [e,List.nil_append,oG]
theorem fx2 {L A:List Y} {n:BitVec 64} {m:Nat} (e:L=A++hY n m):L.length=A.length+m:=by rw [e,List.length_append,oG]
structure Hd where
 kind:Y
 level:Y
 gen:BitVec 64
 epoch:BitVec 64
 num:BitVec 64
 deriving DecidableEq
def Hd.cells (h:Hd):List Value:=[V h.kind,V h.level,uv .u64 h.gen,uv .u64 h.epoch,uv .u64 h.num]
def Hd.zero:Hd:=⟨0,0,0,0,0⟩
def Hd.three (h:Hd) (k:Nat):BitVec 64:=if k=0 then h.gen else if k=1 then h.epoch else h.num
def Hd.some (h:Hd) (k:Nat):List Y:=[116#8,97#8,110#8,116#8,h.kind,h.level]++(List.range k).flatMap (fun i=>hY (h.three i) 8)
theorem zR (h:Hd) (k:Nat):h.some (k+1)=h.some k++hY (h.three k) 8:=by
 unfold Hd.some; rw [List.range_succ,List.flatMap_append,←List.append_assoc]; simp
theorem aNG {h:Hd} {k:Nat} (hk:k<3) : [uv .u64 h.gen,uv .u64 h.epoch,uv .u64 h.num][k]? = Option.some (uv .u64 (h.three k)):=by
 match k,hk with
 | 0,_=>rfl
 | 1,_=>rfl
 | 2,_=>rfl
def gR (h:Hd):List Y:=[116#8,97#8,110#8,116#8,h.kind,h.level]++hY h.gen 8++hY h.epoch 8++hY h.num 8
theorem aNF (h:Hd):h.some 3=gR h:=by rw [zR,zR,zR]; simp [Hd.some,gR,Hd.three]
theorem Hd.some_len (h:Hd) (k:Nat):(h.some k).length=6+8*k:=by
 induction k with
 | zero=>rfl
 | succ k ih=>rw [zR,List.length_append,ih,oG]; omega
theorem oI (h:Hd):(gR h).length=30:=by simp [gR,oG]
def aVG (xs:List Y):Nat→BitVec 64
 | 0=>0
 | k+1=>aVG xs k ||| (xs.getD k 0).setWidth 64 <<< (8*k)
def mM (n:BitVec 64):Nat→Y:=fun i=>if i<8 then (n >>> (8*i)).setWidth 8 else 0#8
theorem aRu (n:BitVec 64) {i:Nat} (h:i<12):gT (mM n) 8 i=mM n i:=by
 by_cases h8:i<8
 ·exact kQ _ h8
 ·have:∀ k,k≤i→gT (mM n) k i=0#8:=fun k=>by
   induction k with
   | zero=>intro _; rfl
   | succ k ih=>intro hk; show bJ (gT (mM n) k) k _ i=_; unfold bJ; rw [if_neg (by omega)]; exact ih (by omega)
  rw [this 8 (by omega)]; unfold mM; rw [if_neg h8]
def aBy (key use:List Y):Nat→List Y
 | 0=>[]
 | k+1=>shaL' key (aBy key use k) use k
where shaL' (key last use:List Y) (k:Nat):List Y:=yl 32 (sQ key (last++use++[BitVec.ofNat 8 (k+1)]))
def rZ (key use:List Y):Nat→List Y
 | 0=>[]
 | k+1=>rZ key use k++aBy key use (k+1)
theorem aPQ (key use:List Y) (k:Nat):(aBy key use (k+1)).length=32:=cY _ _
theorem aBz (key use:List Y) (k:Nat):(rZ key use k).length=32*k:=by
 induction k with
 | zero=>rfl
 | succ k ih=>rw [rZ,List.length_append,ih,aPQ]; omega
theorem aPR (key use:List Y) (k:Nat):(rZ key use k).drop (32*k-32)=aBy key use k:=by
 cases k with
 | zero=>rfl
 | succ k=>rw [rZ]; exact List.drop_left' (by rw [aBz]; omega)
def aFN:List Y:=[116#8,97#8,110#8,116#8,97#8,108#8,117#8,115#8]
def xF (root:Nat→Y) (use:List Y):List Y:=rZ (yl 32 (sQ aFN (yl 32 root))) use 2
def pK (root:Nat→Y) (use:List Y):Nat→Y:=fun i=>(xF root use).getD i 0
def pL (root:Nat→Y) (use:List Y):Nat→Y:=fun i=>(xF root use).getD (32+i) 0
theorem aQO {root:Nat→Y} {use L A B:List Y} (e:L=xF root use) (eA:A=L.take 32) (eB:B=L.drop 32) :
  ba 32 (fun i=>A.getD i 0)++ba 32 (fun i=>B.getD i 0)=ba 32 (pK root use)++ba 32 (pL root use):=by
 subst e eA eB
 have e1:ba 32 (fun i=>((xF root use).take 32).getD i 0)=ba 32 (pK root use):=jF fun i hi=>by simp only [pK,List.getD_eq_getElem?_getD,List.getElem?_take,if_pos hi]
 have e2:ba 32 (fun i=>((xF root use).drop 32).getD i 0)=ba 32 (pL root use):=jF fun i _=>by simp only [pL,List.getD_eq_getElem?_getD,List.getElem?_drop]
 rw [e1,e2]
theorem aQQ {zs:List Value} (hz:zs.length=64) (f g:Nat→Y):put (put zs 0 (ba 32 f)) 32 (ba 32 g)=ba 32 f++ba 32 g:=by
 have e1:put zs 0 (ba 32 f)=ba 32 f++zs.drop 32:=by unfold put; rw [List.take_zero,List.nil_append,bR]
 rw [e1]
 unfold put
 rw [List.take_left' (bR _ _),bR,List.drop_of_length_le (by rw [List.length_append,bR,List.length_drop,hz]; exact Nat.le_refl _),List.append_nil]
theorem aZW (f g:Nat→Y):(ba 32 f++ba 32 g).length=64:=by rw [List.length_append,bR,bR]
theorem aIs (f g:Nat→Y):∀ u∈ba 32 f++ba 32 g,u.oneCell'=true:=qX (kF _ _) (kF _ _)
def dH (n:Nat):List Y:=if h:n<128 then [BitVec.ofNat 8 n] else BitVec.ofNat 8 (n%128+128) :: dH (n / 128)
termination_by n
decreasing_by omega
theorem aE0 {n:Nat} (h:n<128):dH n=[BitVec.ofNat 8 n]:=by rw [dH,dif_pos h]
theorem aEz {n:Nat} (h:¬ n<128):dH n=BitVec.ofNat 8 (n%128+128) :: dH (n / 128):=by rw [dH,dif_neg h]
theorem aR5 (n:Nat):0<(dH n).length:=by
 by_cases h:n<128
 ·rw [aE0 h]; simp
 ·rw [aEz h]; simp
theorem aJZ:∀ (k n:Nat),n<128^k→0<k→(dH n).length≤k
 | 0,_,_,h=>by omega
 | k+1,n,h,_=>by
  by_cases hn:n<128
  ·rw [aE0 hn]; simp
  ·rw [aEz hn]
   by_cases hk:k=0
   ·subst hk; omega
   ·have:=aJZ k (n / 128) (by rw [Nat.pow_succ] at h; omega) (by omega)
    simp; omega
theorem iD {n:Nat} (h:n<18446744073709551616):(dH n).length≤10:=aJZ 10 n (by omega) (by decide)
structure Rd' where
 rest:List Y
 bad:Int
def nQ (xs:List Y):List Y:=dH xs.length++xs
noncomputable def B (p:Prop):Bool:=@decide p (Classical.propDecidable p)
theorem aFq {p:Prop}:B p=true↔p:=by unfold B; exact @decide_eq_true_iff p (Classical.propDecidable p)
theorem aCx {p:Prop} (h:p):B p=true:=aFq.2 h
theorem aFp {p:Prop} (h:¬ p):B p=false:=by
 cases hb:B p with
 | false=>rfl
 | true=>exact absurd (aFq.1 hb) h
structure Opts where
 mem:Int
 table:Int
 zero:Int
 base:Int
 block:Int
 every:Int
 bits:Int
def Opts.cells (o:Opts):List Value:=[.int .i64 o.mem,.int .i64 o.table,.int .i64 o.zero,.int .i64 o.base,.int .i64 o.block,.int .i64 o.every,.int .i64 o.bits]
def Opts.val (o:Opts):Value:=.agg o.cells.toArray
def tE (n m:Int):Bool:=decide (0<n)&&decide (n≤m)
def aAf (o:Opts):Bool :=
 tE o.mem 1048576&&tE o.table 1048576&&tE o.block 262144&&tE o.zero 64&&tE o.base 1073741824&&tE o.every 1024&&tE o.bits 64
structure Meta where
 level:Int
 gen:Int
 epoch:Int
 number:Int
 size:Int
 count:Int
 min:ByteArray
 max:ByteArray
 root:Nat→Int
def Meta.cells (m:Meta):List Value :=
 [.int .u8 m.level,.int .u64 m.gen,.int .u64 m.epoch,.int .u64 m.number,.int .i64 m.size,.int .i64 m.count,.string m.min,.string m.max]++(List.range 32).map fun i=>.int .u8 (m.root i)
def Meta.val (m:Meta):Value:=.agg m.cells.toArray
def Meta.zero:Meta:=⟨0,0,0,0,0,0,ByteArray.empty,ByteArray.empty,fun _=>0⟩
theorem Meta.len (m:Meta):m.cells.length=40:=rfl
theorem Meta.one (m:Meta):∀ u∈m.cells,u.oneCell'=true:=by
 intro u hu
 simp only [Meta.cells,List.mem_append,List.mem_cons,List.not_mem_nil,or_false,List.mem_map] at hu
 rcases hu with (rfl|rfl|rfl|rfl|rfl|rfl|rfl|rfl) | ⟨i,_,rfl⟩<;>rfl
structure Meta.wf (m:Meta):Prop where
 level:0≤m.level∧m.level<256
 number:0≤m.number∧m.number<18446744073709551616
 size : -9223372036854775808≤m.size∧m.size≤9223372036854775807
 minL:m.min.size≤9223372036854775807
 maxL:m.max.size≤9223372036854775807
 gen:0≤m.gen∧m.gen≤18446744073709551615
 epoch:0≤m.epoch∧m.epoch≤18446744073709551615
 count : -9223372036854775808≤m.count∧m.count≤9223372036854775807
 root:∀ j,j<32→0≤m.root j∧m.root j≤255
structure State where
 lv:Nat→List Meta
 log:Int
 next:Int
 seq:Int
 least:Int
 gens:Nat→Int
def State.cells (s:State) (hd:Nat→Sh):List Value :=
 (List.range 5).map (fun i=>(hd i).val (s.lv i).length)++[.int .u64 s.log,.int .u64 s.next,.int .u64 s.seq,.int .u64 s.least]++(List.range 5).map fun i=>.int .u64 (s.gens i)
def State.val (s:State) (hd:Nat→Sh):Value:=.agg (s.cells hd).toArray
theorem State.cell_lv (s:State) (hd:Nat→Sh) {k:Nat} (h:k<5):(s.cells hd)[0+k*1]? = some ((hd k).val (s.lv k).length):=by
 match k,h with
 | 0,_=>rfl | 1,_=>rfl | 2,_=>rfl | 3,_=>rfl | 4,_=>rfl
theorem State.cell_gen (s:State) (hd:Nat→Sh) {k:Nat} (h:k<5):(s.cells hd)[9+k*1]? = some (.int .u64 (s.gens k)):=by
 match k,h with
 | 0,_=>rfl | 1,_=>rfl | 2,_=>rfl | 3,_=>rfl | 4,_=>rfl
structure StR (G:PM) (s:State) (hd:Nat→Sh):Prop where
 lv:∀ i,i<5→SlR G 40 Meta.cells (hd i) (s.lv i)
 len:∀ i,i<5→(s.lv i).length*112≤140737488351232
 wf:∀ i,i<5→∀ m∈s.lv i,m.wf
theorem StR.mono {G G':PM} {s:State} {hd:Nat→Sh} (h:StR G s hd) (hle:PM.le G G'):StR G' s hd:=⟨fun i hi=>(h.lv i hi).mono hle,h.len,h.wf⟩
theorem SlR.get {G:PM} {h:Sh} {xs:List Meta} (s:SlR G 40 Meta.cells h xs) {k:Nat} (hk:k<xs.length):RdNP G h.b (h.o+k*40) (xs.getD k Meta.zero).cells :=
 s.rd k _ (by simp [hk])
theorem SlR.gat {G:PM} {h:Sh} {xs:List Meta} (s:SlR G 40 Meta.cells h xs) {j:Int} (k:Nat) (hj:j.toNat=k) (hk:k<xs.length):RdNP G h.b (h.o+j.toNat*40) (xs.getD k Meta.zero).cells:=by
 rw [hj]; exact s.get hk
theorem aB6 {xs:List Meta} {k:Nat} (h:k<xs.length):xs.getD k Meta.zero∈xs:=by simp [h]
def lt (a b:ByteArray):Bool:=Op.bytesLess a.toList b.toList
def le (a b:ByteArray):Bool:=Op.bytesLess a.toList b.toList||a.toList == b.toList
def good (s:State) (m:Meta):Bool :=
 decide (m.level<5)&&le m.min m.max&&decide ((m.min.size:Int)≤1024)&&decide ((m.max.size:Int)≤1024)&&decide (m.count≥1)&&decide (m.size≥1)&&decide (m.number<s.next)&&decide (m.gen≤s.gens m.level.toNat)
def sV (level:Int) (a b:Meta):Bool:=if level=0 then decide (b.number<a.number) else lt a.max b.min
theorem aKe (a b:Meta) (h0:0≤a.level):(if (a.level == 0)=true then decide (a.number > b.number) else lt a.max b.min)=sV a.level a b:=by
 unfold sV
 by_cases h:a.level=0
 ·simp [h]
 ·simp [h]
theorem aPW {s:State} {m:Meta} (h1:m.level<5) (h2:(!(Op.bytesLess m.min.toList m.max.toList||m.min.toList == m.max.toList))=false)
  (h3:(if ((m.max.size:Nat):Int) > ((m.min.size:Nat):Int) then ((m.max.size:Nat):Int) else ((m.min.size:Nat):Int))≤1024) (h4:1≤m.count) (h5:1≤m.size) :
  gO [.bool (decide (m.number<s.next)&&decide (m.gen≤s.gens m.level.toNat))]=.bool (good s m):=by
 have h2':le m.min m.max=true:=by unfold le; cases h:(Op.bytesLess m.min.toList m.max.toList||m.min.toList == m.max.toList)<;>simp_all
 have h6:((m.min.size:Nat):Int)≤1024∧((m.max.size:Nat):Int)≤1024:=by split at h3<;>omega
 simp only [gO,good,h2',decide_eq_true h1,decide_eq_true h6.1,decide_eq_true h6.2,decide_eq_true (show m.count≥1 from h4),decide_eq_true (show m.size≥1 from h5),Bool.true_and]
def dO (s:State):Nat→Int
 | 0=>0
 | n+1=>dO s n+(s.lv n).length
theorem aFc (s:State):∀ n,0≤dO s n
 | 0=>Int.le_refl _
 | n+1=>by have:=aFc s n; simp only [dO]; omega
theorem aCj (s:State):∀ {n m:Nat},n≤m→dO s n≤dO s m:=by
 intro n m h
 induction h with
 | refl=>exact Int.le_refl _
 | step _ ih=>simp only [dO]; omega
def iK (l:List Meta):List Int:=l.map (·.number)
def dD (s:State):Nat→List Meta
 | 0=>[]
 | n+1=>dD s n++s.lv n
theorem aDh (s:State):∀ n,((dD s n).length:Int)=dO s n
 | 0=>rfl
 | n+1=>by simp only [dD,dO,List.length_append,←aDh s n]; omega
def aBT (s:State) (i:Nat) (l:List Meta):Prop :=
 (∀ m∈l,m.level=i∧good s m=true)∧∀ j,j+1<l.length→sV i (l.getD j Meta.zero) (l.getD (j+1) Meta.zero)=true
structure RightP (s:State):Prop where
 seq:s.seq≤72057594037927935
 least:s.least≤72057594037927935
 log:s.log≤s.next
 few:dO s 5≤1024
 lv:∀ i,i<5→aBT s i (s.lv i)
 apart:∀ a b,a<(dD s 5).length→b<a→((dD s 5).getD a Meta.zero).number≠((dD s 5).getD b Meta.zero).number
noncomputable def uT (s:State):Bool:=B (RightP s)
theorem aFC {s:State} (h:RightP s):uT s=true:=aCx h
theorem aTb {s:State} (h:¬ RightP s):uT s=false:=aFp h
theorem aCL (l:List Meta):∀ x∈l,x.cells.length=40:=fun x _=>x.len
theorem aRH (l:List Meta):∀ u∈l.flatMap Meta.cells,u.oneCell'=true:=fun u hu=>by
 obtain ⟨m,_,hm⟩:=List.mem_flatMap.1 hu
 exact m.one u hm
theorem aET {s:State} (h:¬ RightP s):gO [.bool false]=.bool (uT s):=by rw [aTb h]; rfl
theorem aPV {s:State} (h:RightP s):gO [.bool true]=.bool (uT s):=by rw [aFC h]; rfl
theorem aKN {s:State} {i k:Nat} (hi:i<5) (hk:k<(s.lv i).length) (h:(((s.lv i).getD k Meta.zero).level != (i:Int))=true∨good s ((s.lv i).getD k Meta.zero)=false):¬ RightP s:=by
 intro hr
 have:=(hr.lv i hi).1 _ (aB6 hk)
 rcases h with h | h
 ·rw [this.1] at h; simp at h
 ·rw [this.2] at h; cases h
theorem State.arr_lv (s:State) (hd:Nat→Sh) {k:Nat} (h:k<5):(((s.cells hd).drop 0).take 5)[k]? = some ((hd k).val (s.lv k).length):=by
 match k,h with
 | 0,_=>rfl | 1,_=>rfl | 2,_=>rfl | 3,_=>rfl | 4,_=>rfl
theorem RdNP.add {G:PM} {b:Nat} {cs:List Value} {T:TypeId}:RdNP (G.add b (cl cs T)) b 0 cs:=fun j v hj=>by
 rw [Nat.zero_add]; exact RdP.blk (cH G b _) hj
def cnt (L:List Int) (x:Int):Int:=if x∈L then 1 else 0
def mI (L:List Int) (x:Int):Option Value:=if x∈L then some (.int .i64 1) else none
theorem aOI (L:List Int) (x:Int):(mI L x).getD (.int .i64 0)=.int .i64 (cnt L x):=by unfold mI cnt; split<;>rfl
theorem aOH (L:List Int) (x:Int):0≤cnt L x∧cnt L x≤1:=by unfold cnt; split<;>omega
theorem aOO (m:Int→Option Value) (x:Int) (u z:Value):((fun j=>if j=x then some u else m j) x).getD z=u:=by simp
theorem aOM {L:List Int} {x:Int} (h:x∉L):(fun j=>if j=x then some (Value.int .i64 (cnt L x+1)) else mI L j)=mI (L++[x]):=by
 funext j
 unfold mI cnt
 by_cases hj:j=x
 ·subst hj; simp [h]
 ·simp [hj]
theorem aOL {L:List Int} {x:Int} (h:cnt L x+1≤1):x∉L:=by intro hm; simp [cnt,hm] at h
theorem aOJ {L:List Int} {x:Int} (h:1<cnt L x+1):x∈L:=by
 by_cases hm:x∈L
 ·exact hm
 ·simp [cnt,hm] at h
def rK (l:List Meta):Prop:=∀ a b,a<l.length→b<a→(l.getD a Meta.zero).number≠(l.getD b Meta.zero).number
theorem aB5 {l r:List Meta} {k:Nat} (h:k<l.length):(l++r).getD k Meta.zero=l.getD k Meta.zero:=by
 simp [List.getElem?_append_left h]
theorem aIY {l r:List Meta} {m:Meta}:(l++m :: r).getD l.length Meta.zero=m:=by simp
theorem aO6:rK []:=fun a b h=>by simp at h
theorem aO7 {l:List Meta} {m:Meta} (h:rK l) (hm:m.number∉iK l):rK (l++[m]):=by
 intro a b ha hb
 simp only [List.length_append,List.length_singleton] at ha
 by_cases e:a=l.length
 ·subst e
  rw [aIY,aB5 hb]
  intro e
  exact hm (List.mem_map.2 ⟨_,aB6 hb,e.symm⟩)
 ·rw [aB5 (by omega),aB5 (by omega)]
  exact h a b (by omega) hb
theorem aHK (s:State) {i:Nat}:∀ {n:Nat},i<n→∃ r,dD s n=dD s i++s.lv i++r
 | 0,h=>by omega
 | n+1,h=>by
  by_cases e:i=n
  ·subst e; exact ⟨[],by simp [dD]⟩
  ·obtain ⟨r,hr⟩:=aHK s (i:=i) (n:=n) (by omega)
   exact ⟨r++s.lv n,by simp [dD,hr]⟩
theorem aAq {l:List Meta} {k:Nat} (h:k<l.length):l.take (k+1)=l.take k++[l.getD k Meta.zero]:=by
 rw [List.take_succ_eq_append_getElem h]; simp [h]
theorem aTn {s:State} {i k:Nat} (hi:i<5) (hk:k<(s.lv i).length) (h:((s.lv i).getD k Meta.zero).number∈iK (dD s i++(s.lv i).take k)):¬ RightP s:=by
 intro hr
 obtain ⟨r,hr5⟩:=aHK s hi
 have hsplit:dD s 5=(dD s i++(s.lv i).take k)++((s.lv i).getD k Meta.zero) :: ((s.lv i).drop (k+1)++r):=by
  rw [hr5]
  have:s.lv i=(s.lv i).take k++(s.lv i).getD k Meta.zero :: (s.lv i).drop (k+1):=by
   have h1:=List.take_append_drop (k+1) (s.lv i)
   rw [aAq hk] at h1
   simpa using h1.symm
  generalize hm:(s.lv i).getD k Meta.zero=m at this
  rw [show dD s i++s.lv i++r=dD s i++(s.lv i)++r from rfl]
  conv=>lhs; rw [this]
  simp
 obtain ⟨m,hm,hmn⟩:=List.mem_map.1 h
 obtain ⟨b,hb,rfl⟩:=List.getElem_of_mem hm
 have:=hr.apart (dD s i++(s.lv i).take k).length b (by rw [hsplit]; simp) hb
 rw [hsplit,aIY,aB5 hb] at this
 apply this
 rw [← hmn,List.getD_eq_getElem?_getD,List.getElem?_eq_getElem hb]
 rfl
theorem aOP (s:State) (i b:Nat):Res.mp b .u64 (mI (iK (dD s i)))=Res.mp b .u64 (mI (iK (dD s i++(s.lv i).take 0))):=by simp
theorem aOK {s:State} {i k b:Nat} (h:(s.lv i).length≤k):Res.mp b .u64 (mI (iK (dD s i++(s.lv i).take k)))=Res.mp b .u64 (mI (iK (dD s (i+1)))):=by
 rw [List.take_of_length_le h]; rfl
theorem aON {s:State} {i k b:Nat} (hk:k<(s.lv i).length) (h:((s.lv i).getD k Meta.zero).number∉iK (dD s i++(s.lv i).take k)) :
  Res.mp b .u64 (fun j=>if j=((s.lv i).getD k Meta.zero).number then some (Value.int .i64 (cnt (iK (dD s i++(s.lv i).take k)) ((s.lv i).getD k Meta.zero).number+1)) else mI (iK (dD s i++(s.lv i).take k)) j) =
   Res.mp b .u64 (mI (iK (dD s i++(s.lv i).take (k+1)))):=by
 rw [aOM h,aAq hk]
 simp [iK]
structure Part (s:State) (i k:Nat):Prop where
 le:k≤(s.lv i).length
 good:∀ j,j<k→((s.lv i).getD j Meta.zero).level=i∧good s ((s.lv i).getD j Meta.zero)=true
 pair:∀ j,j+1<k→sV i ((s.lv i).getD j Meta.zero) ((s.lv i).getD (j+1) Meta.zero)=true
 dist:rK (dD s i++(s.lv i).take k)
theorem Part.zero {s:State} {i:Nat} (h:rK (dD s i)):Part s i 0:=⟨Nat.zero_le _,fun j hj=>by omega,fun j hj=>by omega,by simpa using h⟩
theorem Part.step {s:State} {i k:Nat} (h:Part s i k) (hk:k<(s.lv i).length) (h1:((s.lv i).getD k Meta.zero).level=i∧Go.Tan.good s ((s.lv i).getD k Meta.zero)=true)
  (h2:((s.lv i).getD k Meta.zero).number∉iK (dD s i++(s.lv i).take k)) (h3:0<k→sV i ((s.lv i).getD (k-1) Meta.zero) ((s.lv i).getD k Meta.zero)=true):Part s i (k+1):=by
 refine ⟨by omega,fun j hj=>?_,fun j hj=>?_,?_⟩
 ·by_cases e:j=k
  ·subst e; exact h1
  exact h.good j (by omega)
 ·by_cases e:j+1=k
  ·subst e; have:=h3 (by omega); simpa using this
  exact h.pair j (by omega)
 rw [aAq hk,←List.append_assoc]; exact aO7 h.dist h2
theorem Part.lvOk {s:State} {i k:Nat} (h:Part s i k) (hk:(s.lv i).length≤k):aBT s i (s.lv i) :=
 ⟨fun m hm=>by
  obtain ⟨q,hq,rfl⟩:=List.getElem_of_mem hm
  have:=h.good q (by omega)
  simpa [hq] using this,fun j hj=>h.pair j (by omega)⟩
theorem Part.next {s:State} {i k:Nat} (h:Part s i k) (hk:(s.lv i).length≤k):rK (dD s (i+1)):=by
 have:=h.dist; rw [List.take_of_length_le hk] at this; exact this
theorem aTo {s:State} {i:Nat} (hi:i<5) (h:1024-dO s i<(s.lv i).length):¬ RightP s:=by
 intro hr
 have h1:=aCj s (show i+1≤5 by omega)
 rw [show dO s (i+1)=dO s i+(s.lv i).length from rfl] at h1
 have:=hr.few
 omega
theorem aTp {s:State} (h:72057594037927935<(if s.least > s.seq then s.least else s.seq)∨s.next<s.log):¬ RightP s:=by
 intro hr
 have h1:=hr.seq; have h2:=hr.least; have h3:=hr.log
 rcases h with h | h
 ·split at h<;>omega
 ·omega
theorem aTm {s:State} {i:Nat} (h1:(if s.least > s.seq then s.least else s.seq)≤72057594037927935∧s.log≤s.next) (hi:i=5) (ht:dO s i≤1024) (hall:∀ j,j<i→aBT s j (s.lv j)) (hd:rK (dD s i)):RightP s:=by
 subst hi
 refine ⟨?_,?_,h1.2,ht,hall,hd⟩
 ·have:=h1.1; split at this<;>omega
 have:=h1.1; split at this<;>omega
theorem aTq {s:State} {i k:Nat} (hi:i<5) (hk:k<(s.lv i).length) (hp:Part s i k)
  (h:((((s.lv i).getD k Meta.zero).level != (i:Int)) || !good s ((s.lv i).getD k Meta.zero)||decide (cnt (iK (dD s i++(s.lv i).take k)) ((s.lv i).getD k Meta.zero).number+1 > 1) ||
   (decide ((k:Int) > 0) && !sV ((s.lv i).getD (k-1) Meta.zero).level ((s.lv i).getD (k-1) Meta.zero) ((s.lv i).getD k Meta.zero)))=true):¬ RightP s:=by
 simp only [Bool.or_eq_true,Bool.and_eq_true,decide_eq_true_eq,Bool.not_eq_true'] at h
 rcases h with ((h | h) | h) | ⟨h1,h2⟩
 ·exact aKN hi hk (.inl h)
 ·exact aKN hi hk (.inr h)
 ·exact aTn hi hk (aOJ (by omega))
 ·intro hr
  have h3:=(hr.lv i hi).2 (k-1) (by omega)
  rw [show k-1+1=k by omega] at h3
  rw [(hp.good (k-1) (by omega)).1,h3] at h2
  cases h2
theorem aTr {s:State} {i k:Nat} (hk:k<(s.lv i).length) (hp:Part s i k)
  (h:((((s.lv i).getD k Meta.zero).level != (i:Int)) || !good s ((s.lv i).getD k Meta.zero)||decide (cnt (iK (dD s i++(s.lv i).take k)) ((s.lv i).getD k Meta.zero).number+1 > 1) ||
   (decide ((k:Int) > 0) && !sV ((s.lv i).getD (k-1) Meta.zero).level ((s.lv i).getD (k-1) Meta.zero) ((s.lv i).getD k Meta.zero)))=false) :
  Part s i (k+1)∧((s.lv i).getD k Meta.zero).number∉iK (dD s i++(s.lv i).take k):=by
 simp only [Bool.or_eq_false_iff,Bool.and_eq_false_iff,decide_eq_false_iff_not,Bool.not_eq_false',bne_eq_false_iff_eq] at h
 obtain ⟨⟨⟨h1,h2⟩,h3⟩,h4⟩:=h
 have hn:=aOL (show cnt (iK (dD s i++(s.lv i).take k)) ((s.lv i).getD k Meta.zero).number+1≤1 by omega)
 refine ⟨hp.step hk ⟨h1,h2⟩ hn fun h0=>?_,hn⟩
 rcases h4 with h4 | h4
 ·omega
 rw [(hp.good (k-1) (by omega)).1] at h4; exact h4
def aSr:Int→List Meta→Bool
 | _,[]=>false
 | r,m :: ms=>if m.size > r then true else aSr (r-m.size) ms
def kR (lo hi:ByteArray) (m:Meta):Bool := !lt m.max lo&&le m.min hi
def nL (s:State) (level:Int) (lo hi:ByteArray):List Meta:=if 0≤level∧level<5 then (s.lv level.toNat).filter (kR lo hi) else []
theorem aJt {s:State} {level:Int} {lo hi:ByteArray} (h:0≤level∧level<5):nL s level lo hi=(s.lv level.toNat).filter (kR lo hi):=by rw [nL,if_pos h]
theorem aJu {s:State} {level:Int} {lo hi:ByteArray} (h:level<0∨5≤level):nL s level lo hi=[]:=by rw [nL,if_neg (by omega)]
theorem aPS (l:List Meta) (p:Meta→Bool) (k:Nat):((l.take k).filter p).length≤l.length:=Nat.le_trans (List.length_filter_le _ _) (by simp only [List.length_take]; omega)
theorem aSq {l:List Meta} {lo hi:ByteArray} {k E:Nat} {v:Value} (hk:k<l.length) (h:kR lo hi (l.getD k Meta.zero)=true) :
  Res.row v E 40 (((l.take k).filter (kR lo hi)).length+1) (((l.take k).filter (kR lo hi)).flatMap Meta.cells++(l.getD k Meta.zero).cells)=Res.row v E 40 ((l.take (k+1)).filter (kR lo hi)).length (((l.take (k+1)).filter (kR lo hi)).flatMap Meta.cells):=by
 generalize hm:l.getD k Meta.zero=m at h ⊢
 rw [aAq hk,hm,List.filter_append,List.filter_cons_of_pos h]
 simp
theorem aSp {l:List Meta} {lo hi:ByteArray} {k E:Nat} {v:Value} (hk:k<l.length) (h:kR lo hi (l.getD k Meta.zero)=false) :
  Res.row v E 40 ((l.take k).filter (kR lo hi)).length (((l.take k).filter (kR lo hi)).flatMap Meta.cells)=Res.row v E 40 ((l.take (k+1)).filter (kR lo hi)).length (((l.take (k+1)).filter (kR lo hi)).flatMap Meta.cells):=by
 generalize hm:l.getD k Meta.zero=m at h
 rw [aAq hk,hm,List.filter_append,List.filter_cons_of_neg (by simp [h])]
 simp
def State.zero:State:=⟨fun _=>[],0,0,0,0,fun _=>0⟩
def fO:Nat→Sh:=fun _=>⟨none,0⟩
def sG (b:Nat):Nat→Sh:=fun | 0=>⟨some ⟨b,0,none⟩,1⟩ | _=>⟨none,0⟩
theorem aUX {G:PM}:StR G State.zero fO:=⟨fun _ _=>SlR.nul,fun _ _=>Nat.zero_le _,fun _ _ m hm=>nomatch hm⟩
theorem aTd:uT State.zero=true:=by
 refine aFC ⟨by decide,by decide,by decide,by decide,fun i _=>⟨fun m hm=>(nomatch hm),fun j hj=>absurd hj (Nat.not_lt_zero _)⟩,fun a b ha=>absurd ha (Nat.not_lt_zero _)⟩
structure Gone where
 level:Int
 number:Int
def Gone.cells (g:Gone):List Value:=[.int .u8 g.level,.int .u64 g.number]
structure Gone.wf (g:Gone):Prop where
 level:0≤g.level∧g.level<256
 number:0≤g.number∧g.number<18446744073709551616
structure Edit where
 log:Int
 next:Int
 seq:Int
 least:Int
 gens:Nat→Int
 add:List Meta
 drop:List Gone
def Edit.cells (e:Edit) (ha hd:Sh):List Value :=
 [.int .u64 e.log,.int .u64 e.next,.int .u64 e.seq,.int .u64 e.least]++(List.range 5).map (fun i=>.int .u64 (e.gens i))++[ha.val e.add.length,hd.val e.drop.length]
def Edit.val (e:Edit) (ha hd:Sh):Value:=.agg (e.cells ha hd).toArray
def u64 (x:Int):Prop:=0≤x∧x<18446744073709551616
structure Edit.wf (e:Edit):Prop where
 log:u64 e.log
 next:u64 e.next
 seq:u64 e.seq
 least:u64 e.least
 gens:∀ i,i<5→u64 (e.gens i)
 add:∀ m∈e.add,m.wf
 drop:∀ g∈e.drop,g.wf
structure EdR (G:PM) (e:Edit) (ha hd:Sh):Prop where
 add:SlR G 40 Meta.cells ha e.add
 drop:SlR G 2 Gone.cells hd e.drop
 wf:e.wf
theorem EdR.mono {G G':PM} {e:Edit} {ha hd:Sh} (h:EdR G e ha hd) (hle:PM.le G G'):EdR G' e ha hd:=⟨h.add.mono hle,h.drop.mono hle,h.wf⟩
def yO (x:Int):Nat:=(x%18446744073709551616).toNat
theorem aKw (x:Int):yO x<18446744073709551616:=by unfold yO; omega
def fX (m:Meta):List Y :=
 dH m.level.toNat++dH m.gen.toNat++dH m.epoch.toNat++dH m.number.toNat++dH (yO m.size)++dH (yO m.count)++nQ (yb m.min)++nQ (yb m.max)++(List.range 32).map fun i=>BitVec.ofInt 8 (m.root i)
def kG (g:Gone):List Y:=dH g.level.toNat++dH g.number.toNat
def fH (l:List Int):List Y:=l.flatMap fun x=>dH x.toNat
def uF (e:Edit):List Y :=
 dH e.log.toNat++dH e.next.toNat++dH e.seq.toNat++dH e.least.toNat++((List.range 5).flatMap fun i=>dH (e.gens i).toNat)++dH e.add.length++e.add.flatMap fX++dH e.drop.length++e.drop.flatMap kG
theorem aSl (x:Y):(x ||| 128#8).toNat=x.toNat%128+128:=by
 have h:=x.isLt
 have hd:∀ y:Y,(y ||| 128#8).toNat=y.toNat%128+128:=by decide
 exact hd x
theorem aR4 {m:BitVec 64} (h:¬ m.toNat<128):dH m.toNat=(m.setWidth 8 ||| 128#8) :: dH (m >>> 7).toNat:=by
 rw [aEz h]
 have e1:BitVec.ofNat 8 (m.toNat%128+128)=m.setWidth 8 ||| 128#8:=by
  apply BitVec.eq_of_toNat_eq
  rw [aSl,BitVec.toNat_ofNat,BitVec.toNat_setWidth]
  omega
 have e2:(m >>> 7).toNat=m.toNat / 128:=by rw [BitVec.toNat_ushiftRight,Nat.shiftRight_eq_div_pow]
 rw [e1,e2]
theorem aR3 {m:BitVec 64} (h:m.toNat<128):dH m.toNat=[m.setWidth 8]:=by
 rw [aE0 h]
 rfl
theorem aUD (m:BitVec 64):(m >>> 7).toNat=m.toNat / 128:=by rw [BitVec.toNat_ushiftRight,Nat.shiftRight_eq_div_pow]
theorem uvI {x:Int} (h:u64 x):Value.int .u64 x=uv .u64 (BitVec.ofInt 64 x):=by
 unfold u64 at h
 show Value.int .u64 x=Value.int .u64 (((BitVec.ofInt 64 x).toNat:Nat):Int)
 congr 1
 rw [BitVec.toNat_ofInt]
 omega
theorem ofI {x:Int} (h:u64 x):(BitVec.ofInt 64 x).toNat=x.toNat:=by
 unfold u64 at h
 rw [BitVec.toNat_ofInt]; omega
section
variable {P:Program} {G:PM} {μ:aH}
theorem tI {f:FuncId} {args:Array Value} {b:Nat} {o:Obj} {post:PM→aH→Value→Prop} (h:PM.le G (G.add b o)→Ct P f args (G.add b o) μ post):Ct P f args G (.blk b o :: μ) post:=by
 intro w hs
 have hk:keys (.blk b o :: μ)=b :: keys μ:=by simp [keys,Res.keys]
 have hnd:=hs.nodup
 rw [hk] at hnd
 have hbμ:=(List.nodup_cons.1 hnd).1
 have hbo:w.heap[b]? = some o:=hs.own _ (List.mem_cons_self ..)
 have hs2:Sat (G.add b o) μ w:=by
  refine ⟨fun c u hc=>?_,fun r hr=>hs.own r (List.mem_cons_of_mem _ hr),fun c hc=>?_,(List.nodup_cons.1 hnd).2⟩
  ·unfold PM.add at hc
   split at hc
   ·rename_i e; subst e; cases hc; exact hbo
   exact hs.sub c u hc
  unfold PM.add
  rw [if_neg (fun (e:c=b)=>hbμ (e▸hc))]
  exact hs.apart c (by rw [hk]; exact List.mem_cons_of_mem _ hc)
 refine (h (PM.le_add (hs.apart b (by simp [keys,Res.keys]))) w hs2).mono ?_
 rintro e w' ⟨v,G',μ',rfl,ht,hQ⟩
 refine ⟨v,G',μ',rfl,⟨ht.sat,ht.os,ht.tape,ht.output,ht.size,fun c hc hK=>?_,fun c hc=>?_,fun c u hK hc=>?_⟩,hQ⟩
 ·rw [hk] at hK
  have hne:c≠b:=fun e=>hK (by rw [e]; exact List.mem_cons_self ..)
  have h1:=ht.old c hc (fun hm=>hK (List.mem_cons_of_mem _ hm))
  refine ⟨h1.1,?_⟩
  rw [h1.2]
  unfold PM.add
  rw [if_neg hne]
 ·rw [hk]
  rcases ht.mine c hc with h1 | h1
  ·exact .inl (List.mem_cons_of_mem _ h1)
  exact .inr h1
 rw [hk] at hK
 have hne:c≠b:=fun e=>hK (by rw [e]; exact List.mem_cons_self ..)
 exact ht.le c u (fun hm=>hK (List.mem_cons_of_mem _ hm)) (by unfold PM.add; rw [if_neg hne]; exact hc)
end
def nE (x:Int):List Value:=[.int .u64 x]
theorem aH7:∀ ns:List Int,ns.flatMap nE=ns.map (Value.int .u64)
 | []=>rfl
 | x :: ns=>by rw [List.flatMap_cons,aH7 ns]; rfl
theorem SlR.u1 {G:PM} {s:Sh} {xs:List Int} (h:SlR G 1 nE s xs) {j:Int} (k:Nat) {x:Int} (hj:j.toNat=k) (hx:xs[k]? = some x):RdP G ⟨s.b,s.o+j.toNat*1,none⟩ (.int .u64 x):=by
 have:=(h.nth k hj hx) 0 _ rfl
 simpa using this
theorem SlR.part {G:PM} {b o cap:Nat} {ns:List Int} {cs:List Value} (hp:RdNP G b 0 cs) (hc:(cs.drop o).take ns.length=ns.flatMap nE) (h:ns.length≤cap):SlR G 1 nE ⟨some ⟨b,o,none⟩,cap⟩ ns:=by
 refine ⟨fun _=>rfl,h,fun i x hx j v hj=>?_⟩
 have h0:j=0∧v=.int .u64 x:=by
  cases j with
  | zero=>simp [nE] at hj; exact ⟨rfl,hj.symm⟩
  | succ j=>simp [nE] at hj
 obtain ⟨rfl,rfl⟩:=h0
 have hi:i<ns.length:=by
  rcases Nat.lt_or_ge i ns.length with h | h
  ·exact h
  rw [List.getElem?_eq_none h] at hx; cases hx
 have hg:cs[o+i]? = some (.int .u64 x):=by
  have:=congrArg (fun l=>l[i]?) hc
  simp only [aH7,List.getElem?_map,hx,List.getElem?_take,if_pos hi,List.getElem?_drop] at this
  exact this
 have:=hp (o+i) (.int .u64 x) hg
 simpa [Sh.b,Sh.o] using this
theorem aR9 {ns:List Int} {k:Nat} {x:Int} (h:ns[k]? = some x):fH (ns.take (k+1))=fH (ns.take k)++dH x.toNat:=by
 rw [List.take_add_one,h]; simp [fH]
theorem lU:∀ {ns:List Int},(∀ x∈ns,u64 x)→(fH ns).length≤10*ns.length
 | [],_=>by simp [fH]
 | x :: ns,h=>by
  have h1:=h x (List.mem_cons_self ..)
  unfold u64 at h1
  have h2:=iD (n:=x.toNat) (by omega)
  have h3:=lU (ns:=ns) (fun y hy=>h y (List.mem_cons_of_mem _ hy))
  have:fH (x :: ns)=dH x.toNat++fH ns:=by simp [fH]
  rw [this,List.length_append,List.length_cons]; omega
theorem aSA {ns:List Int} (h:∀ x∈ns,u64 x) (k:Nat):(fH (ns.take k)).length≤10*ns.length:=by
 have h1:=lU (ns:=ns.take k) (fun x hx=>h x (List.mem_of_mem_take hx))
 rw [List.length_take] at h1; omega
def kJ (s:State) (u:ByteArray):Nat→List Meta
 | 0=>[]
 | n+1=>kJ s u n++nL s (n:Int) u u
theorem aJv (s:State) (k:Nat) (u:ByteArray):(nL s (k:Int) u u).length≤(s.lv k).length:=by
 unfold nL
 split
 ·exact List.length_filter_le _ _
 ·simp
theorem aI3 (s:State) (u:ByteArray):∀ n,((kJ s u n).length:Int)≤dO s n
 | 0=>by simp [kJ,dO]
 | n+1=>by
  have h1:=aI3 s u n
  have h2:=aJv s n u
  simp only [kJ,dO,List.length_append]; omega
theorem aQ1 (s:State) (u:ByteArray) (k:Nat) (v:Value) (E:Nat):Res.row v E 40 ((kJ s u k).length+(nL s (k:Int) u u).length) ((kJ s u k).flatMap Meta.cells++(nL s (k:Int) u u).flatMap Meta.cells)=Res.row v E 40 (kJ s u (k+1)).length ((kJ s u (k+1)).flatMap Meta.cells):=by
 simp only [kJ,List.length_append,List.flatMap_append]
def sT (g:Nat→Int):List Value:=(List.range 9).map fun i=>.int .u64 (g i)
theorem aJT (g:Nat→Int):(sT g).length=9:=by simp [sT]
instance {g:Nat→Int}:QLen (sT g) 9:=⟨aJT g⟩
theorem aZX {g:Nat→Int} {a b:Value}:(sT g++[a,b]).length=11:=by rw [List.length_append,aJT]; rfl
theorem aIa {g:Gone}:∀ u∈g.cells,u.oneCell'=true:=by
 intro u hu
 simp only [Gone.cells,List.mem_cons,List.not_mem_nil,or_false] at hu
 rcases hu with rfl|rfl<;>rfl
section
variable {P:Program} {n:Fm} {l:List Oper} {K K':aI→PM→aH→Prop} {dr:Bool} {mc:Md}
theorem Wo.bind1 {i:Nat} {σ:List Nat} {ρ:aI} {G:PM} {μ:aH} (hm:∀ ρ G μ,K ρ G μ→Wo dr mc P n l K' σ ρ G μ) (H:Wo dr mc P n l K [i] ρ G μ):Wo dr mc P n l K' (i :: σ) ρ G μ:=by
 have h0:∀ {ρ G μ},Wo dr mc P n l K [] ρ G μ→Wo dr mc P n l K' σ ρ G μ:=fun h=>by cases h with | nil h=>exact hm _ _ _ h
 cases H with
 | pure ho hk hg hr h=>exact .pure ho hk hg hr (h0 h)
 | read ho hk hg hr h=>exact .read ho hk hg hr (h0 h)
 | make ho hk hg hr h=>exact .make ho hk hg hr fun b=>h0 (h b)
 | box ho hk hg hr h=>exact .box ho hk hg hr fun b=>h0 (h b)
 | callv ho hk hg hr hf h=>exact .callv ho hk hg hr hf (h0 h)
 | call ho hk hg hr hf h=>exact .call ho hk hg hr hf fun v G' μ' a b=>h0 (h v G' μ' a b)
 | callg hd ho hg hr hf h=>exact .callg hd ho hg hr hf fun v G' μ' a b=>h0 (h v G' μ' a b)
 | callp hd ho hg hp hr hf hx h=>exact .callp hd ho hg hp hr hf hx fun v G' μ' a b=>h0 (h v G' μ' a b)
 | pan hd ho hg hr hx=>exact .pan hd ho hg hr hx
 | fresh ho hk hg hp hr hw h=>exact .fresh ho hk hg hp hr hw fun v G' μa μb a b=>h0 (h v G' μa μb a b)
 | act ho hk hg hp hr h=>exact .act ho hk hg hp hr fun v G' μ' a b=>h0 (h v G' μ' a b)
theorem Wo.cut1 {j:Nat} {σ:List Nat} {ρ:aI} {G:PM} {μ:aH} (H:Wo dr mc P n l K (j :: σ) ρ G μ):Wo dr mc P n l (fun ρ G μ=>Wo dr mc P n l K σ ρ G μ) [j] ρ G μ:=by
 cases H with
 | pure ho hk hg hr h=>exact .pure ho hk hg hr (.nil h)
 | read ho hk hg hr h=>exact .read ho hk hg hr (.nil h)
 | make ho hk hg hr h=>exact .make ho hk hg hr fun b=>.nil (h b)
 | box ho hk hg hr h=>exact .box ho hk hg hr fun b=>.nil (h b)
 | callv ho hk hg hr hf h=>exact .callv ho hk hg hr hf (.nil h)
 | call ho hk hg hr hf h=>exact .call ho hk hg hr hf fun v G' μ' a b=>.nil (h v G' μ' a b)
 | callg hd ho hg hr hf h=>exact .callg hd ho hg hr hf fun v G' μ' a b=>.nil (h v G' μ' a b)
 | callp hd ho hg hp hr hf hx h=>exact .callp hd ho hg hp hr hf hx fun v G' μ' a b=>.nil (h v G' μ' a b)
 | pan hd ho hg hr hx=>exact .pan hd ho hg hr hx
 | fresh ho hk hg hp hr hw h=>exact .fresh ho hk hg hp hr hw fun v G' μa μb a b=>.nil (h v G' μa μb a b)
 | act ho hk hg hp hr h=>exact .act ho hk hg hp hr fun v G' μ' a b=>.nil (h v G' μ' a b)
def mQ (mc:Md) (l:List Oper) (listed:Array Bool) (i:Nat):Bool :=
 (cL l listed).contains i&&match nth l i with
 | some oi=>(bH mc oi.op == .pure||bH mc oi.op == .read)&&(List.range l.length).all fun j=>listed.getD j true||j == i||match nth l j with
  | some oj=>pF l l.length j i||(oi.apart l.toArray oj&&(bH mc oi.op == .pure||bH mc oj.op != .act))
  | none=>false
 | none=>false
def Wt (mc:Md) (P:Program) (n:Fm) (l:List Oper) (K:aI→PM→aH→Prop):Nat→Array Bool→aI→PM→aH→Prop
 | 0,listed,ρ,G,μ=>cL l listed=[]∧K ρ G μ
 | m+1,listed,ρ,G,μ=>(∃ i,mQ mc l listed i=true∧Wo true mc P n l (fun ρ' G' μ'=>Wt mc P n l K m (listed.setIfInBounds i true) ρ' G' μ') [i] ρ G μ) ∨
   (cL l listed≠[]∧∀ j∈cL l listed,Wo true mc P n l (fun ρ' G' μ'=>Wt mc P n l K m (listed.setIfInBounds j true) ρ' G' μ') [j] ρ G μ)
theorem zW (hK:jO K):∀ (m:Nat) (listed:Array Bool),jO (fun ρ G μ=>Wt mc P n l K m listed ρ G μ)
 | 0,listed=>⟨fun ρ ρ' G μ e h=>⟨h.1,hK.1 _ _ _ _ e h.2⟩,fun ρ G μ μ' p h=>⟨h.1,hK.2 _ _ _ _ p h.2⟩⟩
 | m+1,listed=>by
  refine ⟨fun ρ ρ' G μ e h=>?_,fun ρ G μ μ' p h=>?_⟩
  ·rcases h with ⟨i,h1,h2⟩ | ⟨h1,h2⟩
   ·exact .inl ⟨i,h1,h2.congr (zW hK m _) e⟩
   exact .inr ⟨h1,fun j hj=>(h2 j hj).congr (zW hK m _) e⟩
  rcases h with ⟨i,h1,h2⟩ | ⟨h1,h2⟩
  ·exact .inl ⟨i,h1,h2.perm (zW hK m _) p⟩
  exact .inr ⟨h1,fun j hj=>(h2 j hj).perm (zW hK m _) p⟩
def nR (listed:Array Bool):Nat:=listed.toList.count false
theorem yQ {listed:Array Bool} {i:Nat} (h:listed.getD i true=false):nR (listed.setIfInBounds i true)+1=nR listed:=by
 rcases Nat.lt_or_ge i listed.size with h' | h'
 ·have h2:listed.toList[i]'(by simpa using h')=false:=by simpa [h'] using h
  unfold nR
  rw [Array.toList_setIfInBounds,List.count_set (by simpa using h')]
  have hp:0<listed.toList.count false:=List.count_pos_iff.2 (by rw [← h2]; exact List.getElem_mem _)
  rw [if_pos (by rw [h2]; rfl),if_neg (by decide)]
  omega
 ·simp [h'] at h
theorem aFh {listed:Array Bool} {i:Nat} (h:listed.getD i true=false):0<nR listed:=by
 have:=yQ h; omega
theorem aJk {listed:Array Bool} {i j:Nat} (hne:i≠j) (h:mQ mc l listed i=true):mQ mc l (listed.setIfInBounds j true) i=true:=by
 unfold mQ at h ⊢
 simp only [Bool.and_eq_true] at h ⊢
 obtain ⟨h1,h2⟩:=h
 refine ⟨by simpa using tB (by simpa using h1) hne,?_⟩
 cases hi:nth l i with
 | none=>rw [hi] at h2; cases h2
 | some oi =>
  simp only [hi,Bool.and_eq_true] at h2 ⊢
  refine ⟨h2.1,List.all_eq_true.2 fun k hk=>?_⟩
  have h3:=List.all_eq_true.1 h2.2 k hk
  by_cases e:j=k
  ·subst e
   have:(listed.setIfInBounds j true).getD j true=true:=by
    rcases Nat.lt_or_ge j listed.size with h' | h'<;>simp [h']
   rw [this]; rfl
  rw [getD_set_ne true e]; exact h3
theorem Wt.front (hK:jO K) (hs:Region.noSelect l.toArray=true) (hmk:∀ j oj,nth l j=some oj→bH mc oj.op=.make→rV P oj) (hds:∀ j oj,nth l j=some oj→iH n oj.dst) :
  ∀ (m:Nat) (listed:Array Bool) (j:Nat) (ρ:aI) (G:PM) (μ:aH),nR listed=m+1→Closed l listed→j∈cL l listed→Wt mc P n l K (m+1) listed ρ G μ→Wo true mc P n l (fun ρ' G' μ'=>Wt mc P n l K m (listed.setIfInBounds j true) ρ' G' μ') [j] ρ G μ
 | m,listed,j,ρ,G,μ,hu,hcl,hj,H=>by
  rcases H with ⟨i,h1,h2⟩ | ⟨_,h2⟩
  ·by_cases e:j=i
   ·subst e; exact h2
   have hi:i∈cL l listed:=by unfold mQ at h1; simp only [Bool.and_eq_true] at h1; simpa using h1.1
   have hj':=tB hj e
   have hiun:=(iL.1 hi).1
   have hjun:=(iL.1 hj).1
   have hu1:=yQ hiun
   have hjun':(listed.setIfInBounds i true).getD j true=false:=by rw [getD_set_ne true (Ne.symm e)]; exact hjun
   have hp:=aFh hjun'
   obtain ⟨m',rfl⟩ : ∃ m',m=m'+1:=⟨m-1,by omega⟩
   obtain ⟨_,oi,hoi,_⟩:=iL.1 hi
   obtain ⟨_,oj,hoj,_⟩:=iL.1 hj
   have h3:Wo true mc P n l (fun ρ' G' μ'=>Wt mc P n l K m' ((listed.setIfInBounds i true).setIfInBounds j true) ρ' G' μ') (i :: [j]) ρ G μ :=
    h2.bind1 fun ρ' G' μ' h=>Wt.front hK hs hmk hds m' (listed.setIfInBounds i true) j ρ' G' μ' (by omega) (hcl.set hi) hj' h
   have hnoe:=aAa hcl hiun hj l.length
   have hjl:j<l.length:=by
    have:=(iV l j).trans hoj
    exact (by simpa using (Array.getElem?_eq_some_iff.1 this).1)
   have h1':=h1
   unfold mQ at h1'
   simp only [Bool.and_eq_true,hoi] at h1'
   obtain ⟨_,hki,hall⟩:=h1'
   have h4:=List.all_eq_true.1 hall j (List.mem_range.2 hjl)
   simp only [hjun,hoj,hnoe,Bool.false_or,Bool.or_eq_true,beq_iff_eq,e,false_or,Bool.and_eq_true,bne_iff_ne] at h4
   simp only [Bool.or_eq_true,beq_iff_eq] at hki
   have hkk:bH mc oi.op=.pure∨(bH mc oi.op=.read∧bH mc oj.op≠.act)∨bH mc oj.op=.make:=by
    rcases hki with h5 | h5
    ·exact .inl h5
    rcases h4.2 with h6 | h6
    ·exact .inl h6
    exact .inr (.inl ⟨h5,h6⟩)
   have h5:=Wo.swap (zW hK m' _) rfl hoi hoj (xA hs hoi hoj h4.1) hds (hmk j oj hoj) hkk h3
   refine h5.cut1.bind1 fun ρ' G' μ' h=>.nil (.inl ⟨i,aJk (Ne.symm e) h1,?_⟩)
   rw [Array.setIfInBounds_comm _ _ e]
   exact h
  exact h2 j hj
theorem Wt.any {Q:Exit→Act→World→Prop} {G0:PM} {K0:List Nat} {w0:World} (hK:jO K) (hs:Region.noSelect l.toArray=true) (hmk:∀ j oj,nth l j=some oj→bH mc oj.op=.make→rV P oj) (hds:∀ j oj,nth l j=some oj→iH n oj.dst)
  (hQ:∀ ρ G μ,K ρ G μ→∀ a w,Ag n ρ a→Tr G0 K0 w0 G μ w→Q .normal a w) :
  ∀ (m:Nat) (listed:Array Bool) (ρ:aI) (G:PM) (μ:aH) (a:Act) (w:World),nR listed=m→Closed l listed→Wt mc P n l K m listed ρ G μ→Ag n ρ a→Tr G0 K0 w0 G μ w→wpAny P .any l.toArray Q m listed a w
 | 0,listed,ρ,G,μ,a,w,_,_,H,ha,ht=>⟨H.1,hQ _ _ _ H.2 a w ha ht⟩
 | m+1,listed,ρ,G,μ,a,w,hu,hcl,H,ha,ht=>by
  refine ⟨fun h0=>?_,fun j hj=>?_⟩
  ·rcases H with ⟨i,h1,_⟩ | ⟨h1,_⟩
   ·have hi:i∈cL l listed:=by unfold mQ at h1; simp only [Bool.and_eq_true] at h1; simpa using h1.1
    unfold cL at hi
    rw [h0] at hi; cases hi
   exact absurd h0 h1
  have hj':j∈cL l listed:=hj
  have hu1:=yQ (iL.1 hj').1
  obtain ⟨o,ho,h⟩:=(Wt.front hK hs hmk hds m listed j ρ G μ hu hcl hj' H).head ha ht (next:=wpAny P .any l.toArray Q m (listed.setIfInBounds j true)) (Q:=Q) hds (fun hdr'=>by first|(rw [hdr] at hdr'; cases hdr') | cases hdr')
   (fun ρ' G' μ' a' w' H' ha' ht'=>by cases H' with | nil h=>exact Wt.any hK hs hmk hds hQ m _ ρ' G' μ' a' w' (by omega) (hcl.set hj') h ha' ht')
  simp only [wpOp,iV,ho]
  split
  ·rename_i hw; rw [if_pos hw] at h; exact .inl h
  rename_i hw; rw [if_neg hw] at h; exact h
def aCM (P:Program) (n:Nat) (l:List Oper):Bool:=Region.noSelect l.toArray&&(l.all fun o=>match o.dst with | some d=>decide (d<n) | none=>true)&&aHL P l
theorem Wk.mix {X:Cx} {k:List KI} {id:Nat} {ρ:aI} {G:PM} {μ:aH} (mc:Md) (hm:X.P.follows .mixedOrders=true) (hok:aCM X.P X.n.n l=true)
  (h:Wt mc X.P X.n l (fun ρ G μ=>We X .normal k ρ G μ) l.length (Array.replicate l.length false) ρ G μ):Wk X (.region id l.toArray true) k ρ G μ:=by
 simp only [aCM,Bool.and_eq_true] at hok
 obtain ⟨⟨h1,h2⟩,h3⟩:=hok
 refine ⟨fun a w ha ht=>wp_region_any hm ?_⟩
 have hu:nR (Array.replicate l.length false)=l.length:=by simp [nR]
 have:=Wt.any (Q:=fS X k) (aDg .normal) h1 (fun j oj hj hk=>aEt hk (List.all_eq_true.1 h3 oj (xU hj)))
  (fun j oj hj=>by
   have:=List.all_eq_true.1 h2 oj (xU hj)
   cases hd:oj.dst with
   | none=>trivial
   | some d=>rw [hd] at this; show d<X.n.n; exact of_decide_eq_true this) (fun _ _ _ h a w ha ht=>h.out a w ha ht) l.length _ ρ G μ a _ hu (Closed.none l.length) h ha ht.drew
 simpa using this
variable {ρ:aI} {G:PM} {μ:aH} {m:Nat} {listed:Array Bool}
theorem Wt.last (hr:cL l listed=[]) (h:K ρ G μ):Wt mc P n l K 0 listed ρ G μ:=⟨hr,h⟩
theorem Wt.one (i:Nat) (hc:mQ mc l listed i=true) (h:Wo true mc P n l (fun ρ' G' μ'=>Wt mc P n l K m (listed.setIfInBounds i true) ρ' G' μ') [i] ρ G μ):Wt mc P n l K (m+1) listed ρ G μ:=.inl ⟨i,hc,h⟩
theorem Wt.b1 (j:Nat) (hr:cL l listed=[j]) (h:Wo true mc P n l (fun ρ' G' μ'=>Wt mc P n l K m (listed.setIfInBounds j true) ρ' G' μ') [j] ρ G μ):Wt mc P n l K (m+1) listed ρ G μ :=
 .inr ⟨by rw [hr]; simp,fun j' hj'=>by rw [hr] at hj'; obtain rfl:=List.mem_singleton.1 hj'; exact h⟩
theorem Wt.b2 (j j2:Nat) (hr:cL l listed=[j,j2]) (h:Wo true mc P n l (fun ρ' G' μ'=>Wt mc P n l K m (listed.setIfInBounds j true) ρ' G' μ') [j] ρ G μ)
  (h2:Wo true mc P n l (fun ρ' G' μ'=>Wt mc P n l K m (listed.setIfInBounds j2 true) ρ' G' μ') [j2] ρ G μ):Wt mc P n l K (m+1) listed ρ G μ :=
 .inr ⟨by rw [hr]; simp,fun j' hj'=>by
  rw [hr] at hj'
  rcases List.mem_cons.1 hj' with rfl | hj'
  ·exact h
  ·obtain rfl:=List.mem_singleton.1 hj'; exact h2⟩
end
section
variable {dr:Bool} {mc:Md} {P:Program} {n:Fm} {l:List Oper} {K:aI→PM→aH→Prop} {i:Nat} {σ:List Nat} {ρ:aI} {G:PM} {μ:aH}
variable {d t:Nat} {p:String} {af:Array Edge} {g:Option (Nat×Bool)} {c:Bool}
theorem bSf {T E sz by' len:Nat} {ps:List (Nat×Operand)} {vs:List (Nat×Value)} {cs:List Value} (ho:nth l i=some ⟨some d,.buildSlice T len ps.toArray,t,p,af,none⟩) (hT:bL P T=some (E,sz,by')) (hv:∀ a,Ag n ρ a→true=true→ps.map (fun q=>(q.1,a.eval q.2))=vs) (hb:rY P T len vs=some cs)
  (h:∀ b G',PM.le G G'→PB G' b (cl cs E)→Wo dr mc P n l K σ ((d,true,.slice (some ⟨b,0,none⟩) len len) :: ρ) G' μ):Wo dr mc P n l K (i :: σ) ρ G μ:=by
 refine .fresh (μ₁:=[]) (μ₂:=μ) (post:=fun G' μa μb v=>μa=[]∧μb=[]∧∃ b,v=.slice (some ⟨b,0,none⟩) len len∧PB G' b (cl cs E)) ho (.inl rfl) rfl (List.Perm.refl _) (fun a w ha hs=>?_) ?_ ?_
 ·have hrun:(execOp a.eval ⟨some d,.buildSlice T len ps.toArray,t,p,af,none⟩).run P w=.ok (.value (.slice (some ⟨w.heap.size,0,none⟩) len len)) (w.alloc (cl cs E)):=by
   obtain ⟨hu,inf,hi,hs1,_⟩:=fQ hT
   have h1:=hv a ha rfl
   simp only [rY,hu,hi] at hb
   cases hz:inf.zero with
   | none=>rw [hz] at hb; cases hb
   | some z =>
    rw [hz] at hb
    simp only at hb
    split at hb
    ·cases hb
    rename_i hle
    simp only [not_or] at hle
    obtain ⟨hle,h0⟩:=hle
    cases hf:Instr.fill (fun j=>some (j*inf.size,inf.size)) ((Array.range (len*inf.size)).map (z.cells[·%z.cells.size]!)) vs with
    | none=>rw [hf] at hb; cases hb
    | some r =>
     rw [hf] at hb
     simp only [Option.map_some,Option.some.injEq] at hb
     subst hb
     simp [execOp,Instr.buildSlice,run_underlying hu,sizeOf,typeInfo,hi,h0,hle,zeroValue,hz,hf,h1,newRow,cl]
  have hs0:Sat G [] w:=⟨hs.sub,by simp,by simp [keys],by simp [keys]⟩
  have ht:=((eK hs0).alloc (cl cs E)).freeze (by simp [keys])
  exact ⟨_,_,_,[],[],hrun,ht,rfl,rfl,_,rfl,⟨cH _ _ _⟩⟩
 ·rintro v G' μa μb ⟨rfl,rfl,_⟩
  exact ⟨(fun w _ r hr=>by cases hr),(fun b hb=>by cases hb),by simp [keys]⟩
 rintro v G' μa μb hle ⟨rfl,rfl,b,rfl,hb⟩
 have:=h b G' hle hb
 simp only [List.nil_append,List.append_nil]
 exact this
theorem PB.slq {b cap:Nat} {ns:List Int} {T:TypeId} (h:PB G b (cl (ns.map (Value.int .u64)) T)) (hc:ns.length≤cap):SlR G 1 nE ⟨some ⟨b,0,none⟩,cap⟩ ns:=by
 refine ⟨fun _=>rfl,hc,fun i x hx j v hj=>?_⟩
 have h0:j=0∧v=.int .u64 x:=by
  cases j with
  | zero=>simp [nE] at hj; exact ⟨rfl,hj.symm⟩
  | succ j=>simp [nE] at hj
 obtain ⟨rfl,rfl⟩:=h0
 have:=h.rd (o:=i) (v:=.int .u64 x) (by rw [List.getElem?_map,hx]; rfl)
 simpa [Sh.b,Sh.o] using this
theorem bQ {T E by' len:Nat} {ps:List (Nat×Operand)} {us:List Value} {z:Value} (ns:List Int) (ho:nth l i=some ⟨some d,.buildSlice T len ps.toArray,t,p,af,none⟩) (hT:bL P T=some (E,1,by')) (hz:(P.info? E).bind (·.zero)=some z) (hv:∀ a,Ag n ρ a→true=true→ps.map (fun q=>(q.1,a.eval q.2))=lV 0 us) (hus:us=ns.map (Value.int .u64)) (hl:ns.length=len) (h0:0<len∧len≤16777216)
  (h:∀ G' s,PM.le G G'→SlR G' 1 nE s ns→Wo dr mc P n l K σ ((d,true,s.val ns.length) :: ρ) G' μ):Wo dr mc P n l K (i :: σ) ρ G μ:=by
 subst hus
 refine bSf (vs:=lV 0 (ns.map (Value.int .u64))) (cs:=ns.map (Value.int .u64)) ho hT hv ?_ (fun b G' hle hb=>?_)
 ·obtain ⟨hu,inf,hi,hs1,_⟩:=fQ hT
  rw [hi] at hz
  simp only [Option.bind_some] at hz
  simp only [rY,hu,hi,hz,hs1]
  rw [if_neg (by omega)]
  generalize ha:(Array.range (len*1)).map (z.cells[·%z.cells.size]!)=arr
  have hs:arr.toList.length=len:=by rw [← ha]; simp
  have h2:=aEQ (ns.map (Value.int .u64)) 0 arr.toList (fun u hu=>by obtain ⟨x,_,rfl⟩:=List.mem_map.1 hu; rfl) (by rw [List.length_map]; omega)
  simp only [Array.toArray_toList] at h2
  rw [h2]
  have h3:arr.toList.drop (0+(ns.map (Value.int .u64)).length)=[]:=List.drop_of_length_le (by rw [List.length_map]; omega)
  rw [h3]
  simp
 have:=h G' ⟨some ⟨b,0,none⟩,len⟩ hle (hb.slq (by omega))
 rw [Sh.val,hl] at this
 exact this
end
theorem q1 {a:Int} (h:u64 a):∀ x∈[a],u64 x:=by intro x hx; rw [List.mem_singleton.1 hx]; exact h
theorem q2 {a b:Int} (h:u64 a) (h2:u64 b):∀ x∈[a,b],u64 x:=by
 intro x hx; simp only [List.mem_cons,List.not_mem_nil,or_false] at hx; rcases hx with rfl|rfl<;>assumption
theorem q4 {a b c d:Int} (h:u64 a) (h2:u64 b) (h3:u64 c) (h4:u64 d):∀ x∈[a,b,c,d],u64 x:=by
 intro x hx; simp only [List.mem_cons,List.not_mem_nil,or_false] at hx; rcases hx with rfl|rfl|rfl|rfl<;>assumption
theorem q6 {a b c d e f:Int} (h:u64 a) (h2:u64 b) (h3:u64 c) (h4:u64 d) (h5:u64 e) (h6:u64 f):∀ x∈[a,b,c,d,e,f],u64 x:=by
 intro x hx; simp only [List.mem_cons,List.not_mem_nil,or_false] at hx; rcases hx with rfl|rfl|rfl|rfl|rfl|rfl<;>assumption
theorem tD {n:Nat} (h:n<18446744073709551616):u64 (n:Int):=⟨by omega,by omega⟩
theorem aVq (x:Int):(IntKind.u64.wrap x).toNat=yO x:=by
 unfold yO IntKind.wrap
 simp [IntKind.signed,IntKind.bits]
theorem aKy (x:Int):u64 (IntKind.u64.wrap x):=by
 unfold u64 IntKind.wrap
 simp [IntKind.signed,IntKind.bits]; omega
theorem aKx {m:Meta} (h:m.wf):∀ x∈[m.level,m.gen,m.epoch,m.number,IntKind.u64.wrap m.size,IntKind.u64.wrap m.count],u64 x:=by
 have l1:=h.level; have l2:=h.gen; have l3:=h.epoch; have l4:=h.number
 exact q6 ⟨by omega,by omega⟩ ⟨by omega,by omega⟩ ⟨by omega,by omega⟩ ⟨by omega,by omega⟩ (aKy _) (aKy _)
def lS (e:Edit):List Int:=(List.range 5).map e.gens
theorem aAN {e:Edit} (h:e.wf):∀ x∈lS e,u64 x:=by
 intro x hx
 obtain ⟨i,hi,rfl⟩:=List.mem_map.1 hx
 exact h.gens i (List.mem_range.1 hi)
theorem aPn {G:PM} {e:Edit} {ha hd:Sh} {b:Nat} {T:TypeId} (h:PB G b (cl (e.cells ha hd) T)):SlR G 1 nE ⟨some ⟨b,4,none⟩,5⟩ (lS e):=by
 refine SlR.part (cs:=e.cells ha hd) (fun j v hj=>?_) rfl (Nat.le_refl 5)
 have:=h.rd hj
 simpa using this
theorem aJD {m:Meta} (h:m.wf):(m.cells.drop 8).take 32=ba 32 (fun i=>BitVec.ofInt 8 (m.root i)):=by
 have e:m.cells.drop 8=(List.range 32).map fun i=>.int .u8 (m.root i):=rfl
 rw [e,List.take_of_length_le (by simp)]
 unfold ba
 refine List.map_congr_left fun i hi=>?_
 have hr:=h.root i (List.mem_range.1 hi)
 show Value.int .u8 (m.root i)=V (BitVec.ofInt 8 (m.root i))
 have e2:(((BitVec.ofInt 8 (m.root i)).toNat:Nat):Int)=m.root i:=by rw [BitVec.toNat_ofInt]; omega
 show Value.int .u8 (m.root i)=Value.int .u8 (((BitVec.ofInt 8 (m.root i)).toNat:Nat):Int)
 rw [e2]
theorem aE2:fH []=[]:=rfl
theorem aE1 (x:Int) (ns:List Int):fH (x :: ns)=dH x.toNat++fH ns:=by simp [fH]
theorem aH4 (m:Meta) (A:List Y):A++fH [m.level,m.gen,m.epoch,m.number,IntKind.u64.wrap m.size,IntKind.u64.wrap m.count]++nQ (yb m.min)++nQ (yb m.max)++yl 32 (fun i=>BitVec.ofInt 8 (m.root i))=A++fX m:=by
 unfold fX
 simp only [aE1,aE2,aVq,List.append_assoc,List.append_nil]
 rfl
theorem aH3 (g:Gone) (A:List Y):A++fH [g.level,g.number]=A++kG g:=by
 unfold kG
 simp only [aE1,aE2,List.append_nil]
theorem aH1 (e:Edit):fH [e.log,e.next,e.seq,e.least]++fH (lS e)++fH [(e.add.length:Int)]++e.add.flatMap fX++fH [(e.drop.length:Int)]++e.drop.flatMap kG=uF e:=by
 have h:fH (lS e)=(List.range 5).flatMap fun i=>dH (e.gens i).toNat:=by unfold fH lS; rw [List.flatMap_map]
 unfold uF
 rw [h]
 simp only [aE1,aE2,List.append_assoc,List.append_nil,Int.toNat_natCast]
theorem aAK {α β:Type} {f:α→List β} {xs:List α} {k:Nat} {x:α} (h:xs[k]? = some x):(xs.take (k+1)).flatMap f=(xs.take k).flatMap f++f x:=by
 rw [List.take_add_one,h]; simp
theorem aB2 {α β:Type} {f:α→List β} {xs:List α} {k:Nat} {x:α} (h:xs[k]? = some x):((xs.take k).flatMap f).length+(f x).length≤(xs.flatMap f).length:=by
 have h1:xs.flatMap f=(xs.take (k+1)).flatMap f++(xs.drop (k+1)).flatMap f:=by rw [← List.flatMap_append,List.take_append_drop]
 rw [h1,aAK h]; simp only [List.length_append]; omega
theorem aB3 {α β:Type} {f:α→List β} {xs:List α} (k:Nat):((xs.take k).flatMap f).length≤(xs.flatMap f).length:=by
 have h1:xs.flatMap f=(xs.take k).flatMap f++(xs.drop k).flatMap f:=by rw [← List.flatMap_append,List.take_append_drop]
 rw [h1]; simp only [List.length_append]; omega
theorem yN {xs:List Y} (h:xs.length<18446744073709551616):(nQ xs).length≤xs.length+10:=by
 have:=iD h
 unfold nQ; rw [List.length_append]; omega
theorem aKf (xs:List Y):xs.length≤(nQ xs).length:=by unfold nQ; rw [List.length_append]; omega
theorem aH5 (m:Meta):m.min.size+m.max.size≤(fX m).length:=by
 have h1:=aKf (yb m.min); have h2:=aKf (yb m.max)
 rw [eQ] at h1 h2
 unfold fX
 simp only [List.length_append]; omega
theorem aPK {g:Gone} (h:g.wf):(kG g).length≤20:=by
 have h1:=h.level; have h2:=h.number
 have n1:=iD (n:=g.level.toNat) (by omega); have n2:=iD (n:=g.number.toNat) (by omega)
 unfold kG; rw [List.length_append]; omega
theorem aEa {gs:List Gone} (h:∀ g∈gs,g.wf):(gs.flatMap kG).length≤20*gs.length:=by
 induction gs with
 | nil=>simp
 | cons g gs ih =>
  have h1:=aPK (h g (List.mem_cons_self ..))
  have h2:=ih fun x hx=>h x (List.mem_cons_of_mem _ hx)
  rw [List.flatMap_cons,List.length_append,List.length_cons]; omega
def xB (s:State) (e:Edit):Bool:=((List.range 5).any fun i=>decide (e.gens i<s.gens i))||(((decide (e.log<s.log)||decide (e.next<s.next))||decide (e.seq<s.seq))||decide (e.least<s.least))
theorem aN2 {s:State} {e:Edit} {i:Nat} (hi:i<5) (h:e.gens i<s.gens i):xB s e=true:=by
 unfold xB
 rw [List.any_eq_true.2 ⟨i,List.mem_range.2 hi,by simpa using h⟩]; rfl
theorem aHW {s:State} {e:Edit} (h:∀ i,i<5→¬ e.gens i<s.gens i):xB s e=(((decide (e.log<s.log)||decide (e.next<s.next))||decide (e.seq<s.seq))||decide (e.least<s.least)):=by
 unfold xB
 rw [show ((List.range 5).any fun i=>decide (e.gens i<s.gens i))=false from List.any_eq_false.2 (fun i hi=>by simpa using h i (List.mem_range.1 hi)),Bool.false_or]
theorem State.len {s:State} {hd:Nat→Sh}:(s.cells hd).length=14:=by simp [State.cells]
theorem wW {s:State} {hd:Nat→Sh}:∀ u∈s.cells hd,u.oneCell'=true:=by
 intro u hu
 simp only [State.cells,List.mem_append,List.mem_map,List.mem_cons,List.not_mem_nil,or_false] at hu
 rcases hu with (⟨i,_,rfl⟩ | (rfl|rfl|rfl|rfl)) | ⟨i,_,rfl⟩<;>rfl
theorem Edit.len {e:Edit} {ha hd:Sh}:(e.cells ha hd).length=11:=by simp [Edit.cells]
theorem aLi {e:Edit} {ha hd:Sh}:∀ u∈e.cells ha hd,u.oneCell'=true:=by
 intro u hu
 simp only [Edit.cells,List.mem_append,List.mem_map,List.mem_cons,List.not_mem_nil,or_false] at hu
 rcases hu with ((rfl|rfl|rfl|rfl) | ⟨i,_,rfl⟩) | (rfl|rfl)<;>rfl
theorem aPm {e:Edit} {j:Int} {k:Nat} (hj:j.toNat=k) (h:k<5):((List.range 5).map (fun i=>Value.int .u64 (e.gens i)))[j.toNat]? = some (.int .u64 (e.gens k)):=by
 subst hj
 simp [h]
instance {s:State} {hd:Nat→Sh}:QLen (s.cells hd) 14:=⟨State.len⟩
instance {e:Edit} {ha hd:Sh}:QLen (e.cells ha hd) 11:=⟨Edit.len⟩
theorem aCk {a b:UInt8}:(a<b)↔a.toNat<b.toNat:=UInt8.lt_iff_toNat_lt
theorem aHX:∀ (x:List UInt8),Op.bytesLess x x=false
 | []=>rfl
 | a :: x=>by
  have h:¬ a<a:=by rw [aCk]; omega
  simp [Op.bytesLess,h,aHX x]
theorem aHY:∀ {x y z:List UInt8},Op.bytesLess x y=true→Op.bytesLess y z=true→Op.bytesLess x z=true
 | [],[],_,h,_=>by simp [Op.bytesLess] at h
 | [],_ :: _,[],_,h=>by simp [Op.bytesLess] at h
 | [],_ :: _,_ :: _,_,_=>by simp [Op.bytesLess]
 | _ :: _,[],_,h,_=>by simp [Op.bytesLess] at h
 | _ :: _,_ :: _,[],_,h=>by simp [Op.bytesLess] at h
 | a :: x,b :: y,c :: z,h,h'=>by
  simp only [Op.bytesLess,Bool.or_eq_true,Bool.and_eq_true,decide_eq_true_eq,beq_iff_eq] at h h' ⊢
  rcases h with h | ⟨rfl,h⟩
  ·rcases h' with h' | ⟨rfl,_⟩
   ·left; rw [aCk] at *; omega
   ·exact .inl h
  ·rcases h' with h' | ⟨rfl,h'⟩
   ·exact .inl h'
   ·exact .inr ⟨rfl,aHY h h'⟩
theorem aHZ:∀ (x y:List UInt8),Op.bytesLess x y=true∨x=y∨Op.bytesLess y x=true
 | [],[]=>.inr (.inl rfl)
 | [],_ :: _=>.inl (by simp [Op.bytesLess])
 | _ :: _,[]=>.inr (.inr (by simp [Op.bytesLess]))
 | a :: x,b :: y=>by
  simp only [Op.bytesLess,Bool.or_eq_true,Bool.and_eq_true,decide_eq_true_eq,beq_iff_eq,List.cons.injEq]
  have hab:a.toNat<b.toNat∨a=b∨b.toNat<a.toNat:=by
   rcases Nat.lt_trichotomy a.toNat b.toNat with h | h | h
   ·exact .inl h
   ·exact .inr (.inl (UInt8.toNat_inj.1 h))
   ·exact .inr (.inr h)
  rcases hab with h|rfl | h
  ·exact .inl (.inl (aCk.2 h))
  ·rcases aHZ x y with h|rfl | h
   ·exact .inl (.inr ⟨rfl,h⟩)
   ·exact .inr (.inl ⟨rfl,rfl⟩)
   ·exact .inr (.inr (.inr ⟨rfl,h⟩))
  ·exact .inr (.inr (.inl (aCk.2 h)))
theorem aDu {a b:ByteArray} (h:a.toList=b.toList):a=b:=by
 rw [ByteArray.toList_eq,ByteArray.toList_eq] at h
 cases a with | mk a=>cases b with | mk b =>
 congr 1
 exact Array.toList_inj.1 h
theorem xS (a:ByteArray):lt a a=false:=aHX _
theorem aQ4 {a b c:ByteArray} (h:lt a b=true) (h':lt b c=true):lt a c=true:=aHY h h'
theorem aI8 (a b:ByteArray):lt a b=true∨a=b∨lt b a=true:=by
 rcases aHZ a.toList b.toList with h | h | h
 ·exact .inl h
 ·exact .inr (.inl (aDu h))
 ·exact .inr (.inr h)
theorem aCF {a b:ByteArray} (h:lt a b=true):lt b a=false:=by
 cases h':lt b a with
 | false=>rfl
 | true=>have:=aQ4 h h'; rw [xS] at this; cases this
theorem aQe (a b:ByteArray):le a b = !lt b a:=by
 have e:le a b=(lt a b||a.toList == b.toList):=rfl
 rw [e]
 rcases aI8 a b with h|rfl | h
 ·rw [h,aCF h]; rfl
 ·rw [xS]; simp
 ·rw [h,aCF h]
  have hne:(a.toList == b.toList)=false:=by
   rw [beq_eq_false_iff_ne]
   intro e
   rw [aDu e,xS] at h; cases h
  rw [hne]; rfl
structure Ent where
 user:ByteArray
 seq:BitVec 64
 kind:Y
 value:ByteArray
def Ent.cells (e:Ent):List Value:=[.string e.user,uv .u64 e.seq,V e.kind,.string e.value]
def Ent.val (e:Ent):Value:=.agg e.cells.toArray
def Ent.zero:Ent:=⟨ByteArray.empty,0,0,ByteArray.empty⟩
theorem Ent.len (e:Ent):e.cells.length=4:=rfl
theorem Ent.one (e:Ent):∀ u∈e.cells,u.oneCell'=true:=by
 intro u hu
 simp only [Ent.cells,List.mem_cons,List.not_mem_nil,or_false] at hu
 rcases hu with rfl|rfl|rfl|rfl<;>rfl
def jT (e:Ent):Bool:=(decide ((e.user.size:Int)≤1024)&&decide ((e.value.size:Int)≤65536))&&decide (e.seq.toNat≤72057594037927935)&&(if e.kind=0#8 then e.value.toList == [] else decide (e.kind=1#8))
def pC (a b:Ent):Bool:=lt a.user b.user||(a.user.toList == b.user.toList&&decide (b.seq.toNat<a.seq.toNat))
noncomputable def aAg (l:List Ent):Bool:=B (∀ i,i+1<l.length→pC (l.getD i Ent.zero) (l.getD (i+1) Ent.zero)=true)
theorem aTe {l:List Ent} {i:Nat} (h:i+1<l.length) (ha:pC (l.getD i Ent.zero) (l.getD (i+1) Ent.zero)=false):aAg l=false:=aFp fun hB=>by rw [hB i h] at ha; cases ha
theorem aIT {α:Type} {enc:α→List Value} {sz:Nat}:∀ {xs:List α} {q:Nat},(∀ y∈xs,(enc y).length=sz)→(xs.take q).flatMap enc=(xs.flatMap enc).take (q*sz)
 | [],q,_=>by simp
 | x :: xs,0,_=>by simp
 | x :: xs,q+1,h=>by
  have hx:=h x (List.mem_cons_self ..)
  rw [List.take_succ_cons,List.flatMap_cons,List.flatMap_cons,show (q+1)*sz=(enc x).length+q*sz by rw [hx,Nat.succ_mul]; omega,List.take_length_add_append,aIT (fun y hy=>h y (List.mem_cons_of_mem _ hy))]
section
variable {dr:Bool} {mc:Md} {P:Program} {n:Fm} {l:List Oper} {K:aI→PM→aH→Prop} {i:Nat} {σ:List Nat} {ρ:aI} {G:PM} {μ:aH}
variable {d t:Nat} {p:String} {af:Array Edge} {g:Option (Nat×Bool)} {c:Bool}
theorem sr1 {T T':TypeId} {x y:Operand} {k k':IntKind} {a1 a2:Int} (A:Nat) (ho:nth l i=some ⟨some d,.binOp .shr T x y T',t,p,af,g⟩) (hg:Gd l ρ g c) (hx:Ev ρ c x (.int k a1)) (hy:Ev ρ c y (.int k' a2)) (e1:a1=A) (e2:a2=1) (hk:1≤k.bits)
  (h:Wo dr mc P n l K σ ((d,c,.int k ((A / 2:Nat):Int)) :: ρ) G μ):Wo dr mc P n l K (i :: σ) ρ G μ:=by
 subst e1; subst e2
 refine sr ho hg hx hy (fun _=>by decide) ?_
 have e:(A:Int).fdiv (2^(min (1:Int).toNat k.bits))=((A / 2:Nat):Int):=by
  have:min (1:Int).toNat k.bits=1:=by show min 1 k.bits=1; omega
  rw [this,Int.pow_one,Int.fdiv_eq_ediv_of_nonneg _ (by decide)]
  rfl
 rw [e]; exact h
theorem srh {T e sz by':Nat} {x z:Operand} {b m cap:Nat} {k:IntKind} {hi:Int} (q:Nat) (ho:nth l i=some ⟨some d,.slice T x none (some z) none,t,p,af,none⟩) (hT:bL P T=some (e,sz,by')) (hx:Ev ρ true x (.slice (some ⟨b,0,none⟩) m cap)) (hz:Ev ρ true z (.int k hi))
  (hq:hi=q) (h1:q≤cap) (h:Wo dr mc P n l K σ ((d,true,.slice (some ⟨b,0,none⟩) q cap) :: ρ) G μ):Wo dr mc P n l K (i :: σ) ρ G μ:=by
 subst hq
 exact se (s:=⟨some ⟨b,0,none⟩,cap⟩) (m:=m) ho .no hT hx hz (by omega) (fun _=>by show (q:Int)≤cap; omega) (by rw [Int.toNat_natCast]; exact h)
end
theorem aCz {α:Type} {enc:α→List Value} {sz:Nat} {P:Program} {G:PM} {μ:aH} {f:FuncId} {args:Array Value} {E:Nat} {v:Value} {xs:List α} {Q:aH→Value→Prop} (hsz:∀ x∈xs,(enc x).length=sz)
  (h:∀ (s:Sh) (G2:PM),PM.le G G2→v=s.val xs.length→SlR G2 sz enc s xs→Ct P f args G2 μ (fun _ μ' u=>Q μ' u)):Ct P f args G (rS sz enc v E xs :: μ) (fun _ μ' u=>∃ ν,μ'=rS sz enc v E xs :: ν∧Q ν u):=by
 intro w hs
 have hrow:w.ownsRow 0 E sz v xs.length (xs.flatMap enc):=hs.own _ (List.mem_cons_self ..)
 have hnd:=hs.nodup
 rcases hrow.2 with ⟨rfl,h0⟩ | ⟨g,cap,cur,rfl,_,hg,hnc,hcm,hcs,htake⟩
 ·have hx:xs=[]:=List.eq_nil_of_length_eq_zero h0
  subst hx
  have hk:keys (rS sz enc (.slice none 0 0) E ([]:List α) :: μ)=keys μ:=by simp [keys,Res.keys,Value.ownBlock]
  have hs2:Sat G μ w:=⟨hs.sub,fun r hr=>hs.own r (List.mem_cons_of_mem _ hr),by rw [← hk]; exact hs.apart,by rw [← hk]; exact hs.nodup⟩
  refine (h ⟨none,0⟩ G (PM.le.refl G) rfl SlR.nul w hs2).mono ?_
  rintro e w' ⟨u,G',μ',rfl,ht,hQ⟩
  refine ⟨u,G',_,rfl,?_,μ',rfl,hQ⟩
  rw [hk]; exact ht.nilRow
 have hk:keys (rS sz enc (.slice (some ⟨g,0,none⟩) xs.length cap) E xs :: μ)=keys (.blk g (.cells cur E (0,0)) :: μ):=by simp [keys,Res.keys,Value.ownBlock]
 have hs2:Sat G (.blk g (.cells cur E (0,0)) :: μ) w:=by
  refine ⟨hs.sub,fun r hr=>?_,by rw [← hk]; exact hs.apart,by rw [← hk]; exact hs.nodup⟩
  rcases List.mem_cons.1 hr with rfl | hr
  ·exact hg
  exact hs.own r (List.mem_cons_of_mem _ hr)
 have hGg:G g=none:=hs2.apart g (by simp [keys,Res.keys])
 have hsl:SlR (G.add g (.cells cur E (0,0))) sz enc ⟨some ⟨g,0,none⟩,cap⟩ xs:=by
  refine SlR.ofRow hsz hnc (fun _=>rfl) ?_
  intro j u hj w' hs'
  show w'.cell? ⟨g,0+j,none⟩=some u
  rw [Nat.zero_add,cell_of_row w' g j cur E (0,0) (hs' g _ (cH G g _))]
  rw [← htake,List.getElem?_take] at hj
  split at hj
  ·simpa using hj
  cases hj
 refine (rJ (h ⟨some ⟨g,0,none⟩,cap⟩ _ (PM.le_add hGg) rfl hsl) w hs2).mono ?_
 rintro e w' ⟨u,G',μ',rfl,ht,ν,rfl,hQ⟩
 refine ⟨u,G',_,rfl,?_,ν,rfl,hQ⟩
 rw [hk]
 exact ht.asRow (uG hsz) hnc hcm hcs htake
abbrev Nd:=Ent×(Nat→Nat)
def Nd.cells (x:Nd):List Value:=x.1.cells++(List.range 12).map fun k=>.int .i64 (x.2 k:Int)
def Nd.z:Nd:=(Ent.zero,fun _=>0)
theorem Nd.len (x:Nd):x.cells.length=16:=rfl
theorem Nd.one (x:Nd):∀ u∈x.cells,u.oneCell'=true:=by
 intro u hu
 rcases List.mem_append.1 hu with h | h
 ·exact x.1.one u h
 ·obtain ⟨k,_,rfl⟩:=List.mem_map.1 h; rfl
def cU (xs:List Nd) (a k:Nat):Nat:=(xs.getD a Nd.z).2 k
def pD (e:Ent) (u:ByteArray) (q:BitVec 64):Bool:=lt e.user u||(e.user.toList == u.toList&&decide (q.toNat<e.seq.toNat))
def uY (xs:List Nd) (u:ByteArray) (q:BitVec 64) (a k:Nat):Prop:=cU xs a k=0∨pD (xs.getD (cU xs a k) Nd.z).1 u q=false
structure WayN (xs:List Nd) (u:ByteArray) (q:BitVec 64) (w:Nat→Nat):Prop where
 top:w 12=0
 lt:∀ k,k≤12→w k<xs.length
 step:∀ k,k<12→(w k=w (k+1)∧uY xs u q (w (k+1)) k)∨(w k=cU xs (w (k+1)) k∧0<cU xs (w (k+1)) k∧pD (xs.getD (cU xs (w (k+1)) k) Nd.z).1 u q=true∧uY xs u q (w k) k)
 inb:∀ a,a<xs.length→∀ k,k<12→cU xs a k<xs.length
def xX (x:Nd) (k v:Nat):Nd:=(x.1,fun j=>if j=k then v else x.2 j)
def xR (last:Nat→Nat) (fresh:Nat) (xs:List Nd) (k:Nat):List Nd:=xs.set fresh (xX (xs.getD fresh Nd.z) k (cU xs (last k) k))
def aI2 (last:Nat→Nat) (fresh:Nat) (ys:List Nd) (k:Nat):List Nd:=ys.set (last k) (xX (ys.getD (last k) Nd.z) k fresh)
def nJ (last:Nat→Nat) (fresh:Nat) (xs:List Nd):Nat→List Nd
 | 0=>xs
 | k+1=>aI2 last fresh (xR last fresh (nJ last fresh xs k) k) k
theorem pN {last:Nat→Nat} {fresh:Nat} {xs:List Nd}:∀ {k:Nat},(nJ last fresh xs k).length=xs.length
 | 0=>rfl
 | k+1=>by simp only [nJ,xR,aI2,List.length_set]; exact pN
theorem aIS {α:Type} {enc:α→List Value} {sz q:Nat} {v:Value} {u:α}:∀ {xs:List α} {k:Nat} {x:α},(∀ y∈xs,(enc y).length=sz)→xs[k]? = some x→enc u=(enc x).set q v→q<sz→(xs.set k u).flatMap enc=(xs.flatMap enc).set (k*sz+q) v
 | [],k,x,_,h,_,_=>by simp at h
 | y :: r,0,x,hs,h,hu,hq=>by
  simp only [List.getElem?_cons_zero,Option.some.injEq] at h
  subst h
  have hl:=hs y (List.mem_cons_self ..)
  rw [List.set_cons_zero,List.flatMap_cons,List.flatMap_cons,hu,Nat.zero_mul,Nat.zero_add,List.set_append_left _ _ (by omega)]
 | y :: r,k+1,x,hs,h,hu,hq=>by
  rw [List.getElem?_cons_succ] at h
  have hl:=hs y (List.mem_cons_self ..)
  rw [List.set_cons_succ,List.flatMap_cons,List.flatMap_cons,aIS (fun z hz=>hs z (List.mem_cons_of_mem _ hz)) h hu hq,List.set_append_right _ _ (by rw [hl,Nat.succ_mul]; omega)]
  congr 2
  rw [hl,Nat.succ_mul]; omega
section
variable {dr:Bool} {mc:Md} {P:Program} {n:Fm} {l:List Oper} {K:aI→PM→aH→Prop} {i:Nat} {σ:List Nat} {ρ:aI} {G:PM} {μ:aH}
variable {t:Nat} {p:String} {af:Array Edge}
theorem stE {α:Type} {enc:α→List Value} {T E sz m cap b o k q:Nat} {x y:Operand} {v:Value} {xs:List α} {u e:α} {μ':aH} (ho:nth l i=some ⟨none,.store T x y,t,p,af,none⟩) (hx:Ev ρ true x (.pointer (some ⟨b,o,none⟩))) (hy:Ev ρ true y v) (hz:cI P T=some 1)
  (hm:MTake μ (rS sz enc (.slice (some ⟨b,0,none⟩) m cap) E xs) μ') (hsz:∀ y∈xs,(enc y).length=sz) (he:xs[k]? = some e) (hu:enc u=(enc e).set q v) (hq:o=k*sz+q) (hqs:q<sz) (h1:v.oneCell'=true)
  (h:Wo dr mc P n l K σ ρ G (rS sz enc (.slice (some ⟨b,0,none⟩) m cap) E (xs.set k u) :: μ')):Wo dr mc P n l K (i :: σ) ρ G μ:=by
 subst hq
 have hk:k<xs.length:=(List.getElem?_eq_some_iff.1 he).1
 refine .act (μ₁:=[rS sz enc (.slice (some ⟨b,0,none⟩) m cap) E xs]) (μ₂:=μ') (post:=fun G' μ' v=>G'=G∧μ'=[rS sz enc (.slice (some ⟨b,0,none⟩) m cap) E (xs.set k u)]∧v=undef) ho (.inl rfl) .no hm.perm (fun a w ha hs=>.inl ?_) ?_
 ·have hs':=hs.left
  have hrow:w.ownsRow 0 E sz (.slice (some ⟨b,0,none⟩) m cap) xs.length (xs.flatMap enc):=hs'.own _ (List.mem_singleton.2 rfl)
  have hfl:=uG hsz
  rcases hrow.2 with ⟨e,_⟩ | ⟨g,cap',cur,e,_,hg,hnc,hcm,hcs,htake⟩
  ·cases e
  simp only [Value.slice.injEq,Option.some.injEq,Addr.mk.injEq,and_true,true_and] at e
  obtain ⟨rfl,rfl,rfl⟩:=e
  have hkey:keys [rS sz enc (.slice (some ⟨b,0,none⟩) xs.length cap) E xs]=[b]:=by simp [keys,Res.keys,Value.ownBlock]
  have hsat:Sat G [.blk b (.cells cur E (0,0))] w:=⟨hs'.sub,fun r hr=>by rw [List.mem_singleton.1 hr]; exact hg,fun c hc=>hs'.apart c (by simpa [keys,Res.keys,Value.ownBlock] using hc),by simp [keys,Res.keys]⟩
  have hin:k*sz+sz≤xs.length*sz:=by rw [← Nat.succ_mul]; exact Nat.mul_le_mul_right _ hk
  have hcap:xs.length*sz≤cap*sz:=Nat.mul_le_mul_right _ hnc
  have hst:=run_storeCells_at P b (k*sz+q) E [v] 0 cur w hg (by simp; omega) (fun c hc=>by rw [List.mem_singleton.1 hc]; exact h1)
  simp only [Nat.add_zero,List.length_singleton] at hst
  have hlen:k*sz+q<cur.toList.length:=by simp; omega
  have hset:cur.toList.take (k*sz+q)++[v]++cur.toList.drop (k*sz+q+1)=cur.toList.set (k*sz+q) v:=by
   rw [List.set_eq_take_append_cons_drop,if_pos hlen]; simp
  have hfs:=aIS hsz he hu hqs
  have h2:=(aBX (cs':=(cur.toList.take (k*sz+q)++[v]++cur.toList.drop (k*sz+q+1)).toArray) hsat).asRow (m:=xs.length) (cap:=cap) (sz:=sz) (xs:=(xs.set k u).flatMap enc) (by rw [hfs,List.length_set,hfl]) hnc hcm (by rw [hset]; simp; exact hcs) (by
   rw [hset,hfs,←htake]
   simp [List.take_set])
  refine ⟨undef,_,G,_,.inr ⟨?_,rfl⟩,by rw [hkey]; exact h2,rfl,by simp [rS],rfl⟩
  cases hi:P.info? T with
  | none=>simp [cI,hi] at hz
  | some inf =>
   simp only [cI,hi,Option.map_some,Option.some.injEq] at hz
   simp only [execOp,hx.eval ha rfl,hy.eval ha rfl]
   simp [Instr.storeAt,Instr.sureAddr,storeVar,aBh h1,sizeOf,typeInfo,hi,hz,hst]
 rintro v' G' μ'' _ ⟨rfl,rfl,rfl⟩
 exact h
end
theorem aJM {xs:List Nd} {a k p:Nat} (ha:a<xs.length) (hk:k<12) (hp:p=a*16+4+k*1):(xs.flatMap Nd.cells)[p]? = some (.int .i64 (cU xs a k:Int)):=by
 subst hp
 obtain ⟨x,hx⟩ : ∃ x,xs[a]? = some x:=⟨_,List.getElem?_eq_getElem ha⟩
 have hfl:∀ {ys:List Nd} {a:Nat} {x:Nd},ys[a]? = some x→∀ j,j<16→(ys.flatMap Nd.cells)[a*16+j]? = (x.cells)[j]?:=by
  intro ys
  induction ys with
  | nil=>intro a x h; simp at h
  | cons y r ih =>
   intro a x h j hj
   rw [List.flatMap_cons]
   cases a with
   | zero =>
    simp only [List.getElem?_cons_zero,Option.some.injEq] at h
    subst h
    rw [Nat.zero_mul,Nat.zero_add,List.getElem?_append_left (by rw [Nd.len]; exact hj)]
   | succ a =>
    rw [List.getElem?_cons_succ] at h
    rw [List.getElem?_append_right (by rw [Nd.len]; omega),Nd.len,show (a+1)*16+j-16=a*16+j by omega]
    exact ih h j hj
 have h1:=hfl hx (4+k) (by omega)
 rw [show a*16+4+k*1=a*16+(4+k) by omega,h1]
 have h2:xs.getD a Nd.z=x:=by rw [List.getD_eq_getElem?_getD,hx]; rfl
 unfold cU
 rw [h2]
 show (x.1.cells++(List.range 12).map fun k=>Value.int .i64 (x.2 k:Int))[4+k]? = _
 rw [List.getElem?_append_right (by rw [Ent.len]; omega),Ent.len,show 4+k-4=k by omega,List.getElem?_map,List.getElem?_range hk]
 rfl
theorem aJY {x:Nd} {k v:Nat} (hk:k<12):Nd.cells (xX x k v)=(Nd.cells x).set (4+k) (.int .i64 (v:Int)):=by
 unfold Nd.cells xX
 rw [List.set_append_right _ _ (by rw [Ent.len]; omega),Ent.len,show 4+k-4=k by omega]
 congr 1
 refine List.ext_getElem? fun j=>?_
 rw [List.getElem?_set,List.getElem?_map,List.getElem?_map,List.length_map,List.length_range]
 by_cases hj:j<12
 ·rw [List.getElem?_range hj]
  by_cases h:j=k
  ·subst h; rw [if_pos rfl,if_pos hj]; simp
  rw [if_neg (fun e=>h e.symm)]; simp [h]
 rw [List.getElem?_eq_none (by simp; omega)]
 rw [if_neg (by omega)]
 rfl
def wA (w:Nat→Nat):List Value:=(List.range 12).map fun j=>.int .i64 (w j:Int)
theorem oP {w:Nat→Nat}:(wA w).length=12:=by simp [wA]
theorem aLA (w:Nat→Nat):∀ u∈wA w,u.oneCell'=true:=fun u hu=>by
 obtain ⟨k,_,rfl⟩:=List.mem_map.1 hu; rfl
theorem aCo {w:Nat→Nat} {k p:Nat} (hk:k<12) (hp:p=k):(wA w)[p]? = some (.int .i64 (w k:Int)):=by
 subst hp
 rw [wA,List.getElem?_map,List.getElem?_range hk]; rfl
theorem aVT {w w':Nat→Nat} {k p:Nat} {v:Value} (hk:k<12) (hp:p=k) (hv:v=.int .i64 (w' k:Int)) (ho:∀ j,j≠k→w' j=w j):(wA w).set p v=wA w':=by
 subst hp; subst hv
 refine List.ext_getElem? fun j=>?_
 rw [wA,wA,List.getElem?_set,List.getElem?_map,List.getElem?_map,List.length_map,List.length_range]
 by_cases hj:j<12
 ·rw [List.getElem?_range hj]
  by_cases h:p=j
  ·subst h; rw [if_pos rfl,if_pos hj]; rfl
  rw [if_neg h]; show some (Value.int .i64 (w j:Int))=some (Value.int .i64 (w' j:Int)); rw [ho j (fun e=>h e.symm)]
 rw [List.getElem?_eq_none (by simp; omega)]
 rw [if_neg (by omega)]
 rfl
def wK (w:Nat→Nat) (k:Nat):Nat→Nat:=fun j=>if j<k then 0 else w j
theorem aVU {w:Nat→Nat}:wA (wK w 0)=wA w:=by unfold wK; simp
def wq (w:Nat→Nat) (j q:Nat):Nat:=if q=0 then w (j+1) else w j
theorem aVc {xs:List Nd} {u:ByteArray} {q:BitVec 64} {w:Nat→Nat} {j p:Nat} (hW:WayN xs u q w) (hj:j<12) (hp:p=0∨p=1∧uY xs u q (w j) j)
  (h:(decide (((cU xs (wq w j p) j:Nat):Int) > 0)&&pD (xs.getD (cU xs (wq w j p) j) Nd.z).1 u q)=true):p=0∧uY xs u q (w j) j∧w j=cU xs (w (j+1)) j:=by
 simp only [Bool.and_eq_true,decide_eq_true_eq] at h
 have hno:∀ a,wq w j p=a→¬ uY xs u q a j:=fun a e hs=>by
  subst e
  rcases hs with hs | hs
  ·rw [hs] at h; simp at h
  ·rw [h.2] at hs; cases hs
 rcases hp with rfl | ⟨rfl,hs⟩
 ·rcases hW.step j hj with ⟨_,h2⟩ | ⟨h1,h2,h3,h4⟩
  ·exact absurd h2 (hno _ rfl)
  ·exact ⟨rfl,h4,h1⟩
 ·exact absurd hs (hno _ rfl)
theorem aVb {xs:List Nd} {u:ByteArray} {q:BitVec 64} {w:Nat→Nat} {j p:Nat} (hW:WayN xs u q w) (hj:j<12) (hp:p=0∨p=1∧uY xs u q (w j) j)
  (h:(decide (((cU xs (wq w j p) j:Nat):Int) > 0)&&pD (xs.getD (cU xs (wq w j p) j) Nd.z).1 u q)=false):wq w j p=w j:=by
 rcases hp with rfl | ⟨rfl,_⟩
 ·rcases hW.step j hj with ⟨h1,_⟩ | ⟨h1,h2,h3,h4⟩
  ·exact h1.symm
  ·exfalso
   have e:wq w j 0=w (j+1):=rfl
   rw [e,h3,Bool.and_true,decide_eq_false_iff_not] at h
   omega
 ·rfl
theorem aDe {G:PM} {h:Sh} {xs:List Nd} (hs:SlR G 16 Nd.cells h xs) {a k p:Nat} (ha:a<xs.length) (hk:k<12) (hp:p=h.o+(a*16+4+k*1)):RdP G ⟨h.b,p,none⟩ (.int .i64 (cU xs a k:Int)):=by
 subst hp
 exact SlR.flat (fun x _=>Nd.len x) hs _ _ (aJM ha hk rfl)
theorem aDd {G:PM} {h:Sh} {xs:List Nd} (hs:SlR G 16 Nd.cells h xs) {a p:Nat} (ha:a<xs.length) (hp:p=h.o+a*16):RdNP G h.b p (xs.getD a Nd.z).1.cells:=by
 subst hp
 obtain ⟨x,hx⟩ : ∃ x,xs[a]? = some x:=⟨_,List.getElem?_eq_getElem ha⟩
 have h2:xs.getD a Nd.z=x:=by rw [List.getD_eq_getElem?_getD,hx]; rfl
 rw [h2]
 have h3:=hs.at (j:=(a:Int)) (k:=a) (by simp) hx
 rw [show ((a:Int)).toNat=a by simp] at h3
 intro j v hj
 refine h3 j v ?_
 unfold Nd.cells
 rw [List.getElem?_append_left (List.getElem?_eq_some_iff.1 hj).1]; exact hj
theorem aG4 {G:PM} {μ μ':aH} {xs:List Nd} {b m cap E a k p:Nat} (h:MTake μ (rS 16 Nd.cells (.slice (some ⟨b,0,none⟩) m cap) E xs) μ') (ha:a<xs.length) (hk:k<12) (hp:p=a*16+4+k*1):Rd G μ ⟨b,p,none⟩ (.int .i64 (cU xs a k:Int)):=Rd.row h (aJM ha hk hp)
theorem aEr {w:Nat→Nat} {f k:Nat} {xs:List Nd}:(xR w f xs k).length=xs.length:=by simp [xR]
theorem aTa {e:Ent} (h:jT e=true):e.user.size≤1024∧e.value.size≤65536:=by
 simp only [jT,Bool.and_eq_true,decide_eq_true_eq] at h
 omega
theorem aIZ {xs:List Nd} {a:Nat} (h:a<xs.length):xs[a]? = some (xs.getD a Nd.z):=by
 rw [List.getD_eq_getElem?_getD,List.getElem?_eq_getElem h]; rfl
theorem aQr {P:Program} {G:PM} {f:FuncId} {args:Array Value} {bl T E:Nat} {v sz:Value} {xs:List Nd} {r:Value}
  (h:∀ (s:Sh) (G2:PM),v=s.val xs.length→SlR G2 16 Nd.cells s xs→PB G2 bl (cl [v,sz] T)→Ct P f args G2 [] (fun _ μ' u=>μ'=[]∧u=r)) :
  Ct P f args G [.blk bl (cl [v,sz] T),rS 16 Nd.cells v E xs] (fun _ μ' u=>μ'=[.blk bl (cl [v,sz] T),rS 16 Nd.cells v E xs]∧u=r):=by
 have h1:Ct P f args (G.add bl (cl [v,sz] T)) [rS 16 Nd.cells v E xs] (fun _ μ' u=>μ'=[rS 16 Nd.cells v E xs]∧u=r) :=
  (aCz (Q:=fun ν u=>ν=[]∧u=r) (fun x _=>Nd.len x) fun s G2 hle hv hs=>h s G2 hv hs ⟨hle _ _ (cH _ _ _)⟩).mono
   fun G' μ' u ⟨ν,h2,h3,h4⟩=>⟨by rw [h2,h3],h4⟩
 exact (rJ (Q:=fun μ' u=>μ'=[rS 16 Nd.cells v E xs]∧u=r) h1).mono fun G' μ' u ⟨ν,h2,h3,h4⟩=>⟨by rw [h2,h3],h4⟩
section
variable {dr:Bool} {mc:Md} {P:Program} {n:Fm} {l:List Oper} {K:aI→PM→aH→Prop} {i:Nat} {σ:List Nat} {ρ:aI} {G:PM} {μ:aH}
variable {d t:Nat} {p:String} {af:Array Edge}
theorem aRN {α:Type} {enc:α→List Value} {T E sz by':Nat} {x y:Operand} {z:Value} (u:α) (ho:nth l i=some ⟨some d,.makeSlice T x y,t,p,af,none⟩) (hT:bL P T=some (E,sz,by')) (hz:(P.info? E).bind (·.zero)=some z) (hx:Ev ρ true x (.int .i64 1)) (hy:Ev ρ true y (.int .i64 1)) (hu:z.cells=(enc u).toArray) (hs:(enc u).length=sz) (hb:by'≤1000000)
  (h:∀ b,Wo dr mc P n l K σ ((d,true,.slice (some ⟨b,0,none⟩) 1 1) :: ρ) G (rS sz enc (.slice (some ⟨b,0,none⟩) 1 1) E [u] :: μ)):Wo dr mc P n l K (i :: σ) ρ G μ:=by
 refine .act (μ₁:=[]) (μ₂:=μ) (post:=fun G' μ' v=>∃ b,G'=G∧v=.slice (some ⟨b,0,none⟩) 1 1∧μ'=[rS sz enc (.slice (some ⟨b,0,none⟩) 1 1) E [u]]) ho (.inl rfl) .no (.refl _) (fun q w hq hs0=>.inl ?_) ?_
 ·obtain ⟨hu',inf,hi,hs1,hb1⟩:=fQ hT
  rw [hi] at hz
  simp only [Option.bind_some] at hz
  have hrun:=run_make (P:=P) w T E inf _ hu' hi hz .i64 .i64 1 1 (by omega) (by omega) (by rw [hb1]; simp; omega) (by omega)
  simp at hrun
  have h0:Tr G (keys []) w G [.blk w.heap.size (.cells (madeCells z.cells inf.size) E (0,0))] _:=(eK (Sat.left (μ:=[]) hs0)).alloc _
  have hmc:(madeCells z.cells inf.size).toList=enc u:=by
   rw [hs1,hu,←hs]
   unfold madeCells
   refine List.ext_getElem? fun j=>?_
   by_cases hj:j<(enc u).length
   ·simp [hj,Nat.mod_eq_of_lt hj]
   simp [hj]
  refine ⟨_,_,G,_,.inl (by simp [execOp,hx.eval hq rfl,hy.eval hq rfl,hrun]),h0.asRow (m:=1) (cap:=1) (sz:=sz) (xs:=enc u) (by rw [hs,Nat.one_mul]) (Nat.le_refl _) (by unfold maxLen; omega) (by rw [← Array.length_toList,hmc,hs,Nat.one_mul]) ?_,w.heap.size,rfl,rfl,by simp [rS]⟩
  rw [hmc,Nat.one_mul,←hs]; simp
 rintro v G' μ'' _ ⟨b,rfl,rfl,rfl⟩
 exact h b
end
def aB4 (kind:Y) (p:List Y):List Y:=hY ((aEu (mJ 0#32 ([kind]++p))).setWidth 64) 4++hY (BitVec.ofInt 64 (p.length:Int)) 2++[kind]
def pM (n j:Nat):Y:=if j=0 then (if n≤128 then 1#8 else 2#8) else if n-128*j≤128 then 4#8 else 3#8
def qY (s:List Y):Nat→List Y
 | 0=>[]
 | j+1=>qY s j++aB4 (pM s.length j) ((s.drop (128*j)).take 128)++(s.drop (128*j)).take 128
def aKC (s:List Y):List Y:=qY s ((s.length+127) / 128)
theorem aUo (M:List Y):M.take (min M.length 128)=M.take 128:=by
 by_cases h:M.length≤128
 ·rw [Nat.min_eq_left h,List.take_length,List.take_of_length_le h]
 ·rw [Nat.min_eq_right (by omega)]
theorem aCY {S M O A B C D E:List Y} {j:Nat} {kind:Y} (eO:O=qY S j) (eM:M=S.drop (128*j)) (eA:A=M.take (min M.length 128)) (eB:B=M.take (min M.length 128)) (eC:C=aB4 kind A) (eD:D=O++C) (eE:E=D++B) (hk:kind=pM S.length j):E=qY S (j+1):=by
 rw [eE,eD,eC,eA,eB,aUo,eO,eM,hk]; rfl
theorem aBv {S:List Y} {j:Nat}:(S.drop (128*j)).drop (min (S.drop (128*j)).length 128)=S.drop (128*(j+1)):=by
 rw [List.drop_drop]
 by_cases h:(S.drop (128*j)).length≤128
 ·rw [Nat.min_eq_left h]
  rw [List.length_drop] at h ⊢
  rw [List.drop_of_length_le (by omega),List.drop_of_length_le (by omega)]
 ·rw [Nat.min_eq_right (by omega)]; congr 1
theorem aAL (kind:Y) (p:List Y):(aB4 kind p).length=7:=by simp [aB4,oG]
theorem aJs (S:List Y) (j:Nat):(qY S j).length≤135*j:=by
 induction j with
 | zero=>exact Nat.zero_le _
 | succ j ih=>rw [qY,List.length_append,List.length_append,aAL,List.length_take]; omega
theorem aQU {n j:Nat} (h:j=0) (hn:n≤128):1#8=pM n j:=by unfold pM; rw [if_pos h,if_pos hn]
theorem aQT {n j:Nat} (h:j=0) (hn:¬ n≤128):2#8=pM n j:=by unfold pM; rw [if_pos h,if_neg hn]
theorem aQV {n j:Nat} (h:¬ j=0) (hn:n-128*j≤128):4#8=pM n j:=by unfold pM; rw [if_neg h,if_pos hn]
theorem aQW {n j:Nat} (h:¬ j=0) (hn:¬ n-128*j≤128):3#8=pM n j:=by unfold pM; rw [if_neg h,if_neg hn]
def sJ (root:Nat→Y) (h:Hd) (n:BitVec 64) (p:List Y):List Y×Int:=if p.length≤4194304 then (aKC (uX (pK root (gR h)) (pL root (gR h)) (mM n) (gR h) p),0) else ([],4)
theorem aQd {root:Nat→Y} {h:Hd} {n:BitVec 64} {p:List Y} (c:¬ p.length≤4194304):([],4)=sJ root h n p:=by unfold sJ; rw [if_neg c]
theorem aQc {root:Nat→Y} {h:Hd} {n:BitVec 64} {p S O:List Y} {j:Nat} (c:p.length≤4194304) (eS:S=uX (pK root (gR h)) (pL root (gR h)) (mM n) (gR h) p) (eO:O=qY S j) (hj:j=(S.length+127) / 128):(O,0)=sJ root h n p:=by
 unfold sJ; rw [if_pos c,eO,hj,eS]; rfl
abbrev Dg:=Nat→Y
def aEl (xs:List Y):Dg:=lX (0#8 :: xs)
def nH (a b:Dg):Dg:=lX (1#8 :: (yl 32 a++yl 32 b))
def aH0:Dg:=lX [2#8]
def uP (k n:Nat):Nat→Nat
 | 0=>k
 | f+1=>if k+k<n then uP (k*2) n f else k
def pS (n:Nat):Nat:=uP 1 n n
theorem aJ1:∀ (f k n:Nat),0<k→n≤k*2^f→k<n→(∃ a,k=2^a)→(∃ b,uP k n f=2^b)∧uP k n f<n∧n≤uP k n f+uP k n f
 | 0,k,n,h0,hn,hk,ha=>by rw [Nat.pow_zero,Nat.mul_one] at hn; omega
 | f+1,k,n,h0,hn,hk,⟨a,ha⟩=>by
  unfold uP
  split
  ·rename_i h
   refine aJ1 f (k*2) n (by omega) ?_ (by omega) ⟨a+1,by rw [ha,Nat.pow_succ]⟩
   rw [Nat.pow_succ,Nat.mul_comm (2^f) 2,←Nat.mul_assoc] at hn; exact hn
  exact ⟨⟨a,ha⟩,hk,by omega⟩
theorem aE5 {n:Nat} (h:2≤n):(∃ b,pS n=2^b)∧pS n<n∧n≤pS n+pS n :=
 aJ1 n 1 n (by decide) (by rw [Nat.one_mul]; exact Nat.le_of_lt (Nat.lt_two_pow_self)) (by omega) ⟨0,rfl⟩
theorem aSx {n:Nat} (h:2≤n):0<pS n:=by have:=(aE5 h).2.2; omega
theorem aTB {a b n:Nat} (h1:2^a<n) (h2:n≤2^a+2^a) (h3:2^b<n) (h4:n≤2^b+2^b):a=b:=by
 rcases Nat.lt_trichotomy a b with h | h | h
 ·have:=Nat.pow_le_pow_right (n:=2) (by decide) (show a+1≤b by omega)
  rw [Nat.pow_succ] at this; omega
 ·exact h
 ·have:=Nat.pow_le_pow_right (n:=2) (by decide) (show b+1≤a by omega)
  rw [Nat.pow_succ] at this; omega
theorem aSw {a m:Nat} (h0:0<m) (hm:m≤2^a):pS (2^a+m)=2^a:=by
 have hp:0<2^a:=Nat.pow_pos (by decide)
 obtain ⟨⟨b,hb⟩,h1,h2⟩:=aE5 (n:=2^a+m) (by omega)
 rw [hb] at h1 h2 ⊢
 rw [aTB h1 h2 (show 2^a<2^a+m by omega) (by omega)]
def gL (l:List Dg):Dg :=
 match l with
 | []=>aH0
 | [d]=>d
 | a :: b :: r=>nH (gL ((a :: b :: r).take (pS (r.length+2)))) (gL ((a :: b :: r).drop (pS (r.length+2))))
termination_by l.length
decreasing_by
 ·have:=aE5 (n:=r.length+2) (by omega)
  simp only [List.length_take,List.length_cons]; omega
 ·have:=aSx (n:=r.length+2) (by omega)
  simp only [List.length_drop,List.length_cons]; omega
theorem aTh:gL []=aH0:=by rw [gL]
theorem aTj (d:Dg):gL [d]=d:=by rw [gL]
theorem aTk {l:List Dg} (h:2≤l.length):gL l=nH (gL (l.take (pS l.length))) (gL (l.drop (pS l.length))):=by
 match l,h with
 | a :: b :: r,_=>rw [gL]; rfl
theorem aKL {s t:List Dg} {a:Nat} (hs:s.length=2^a) (h0:0<t.length) (ht:t.length≤2^a):gL (s++t)=nH (gL s) (gL t):=by
 have hp:0<2^a:=Nat.pow_pos (by decide)
 have hl:(s++t).length=2^a+t.length:=by rw [List.length_append,hs]
 rw [aTk (by omega),hl,aSw h0 ht,←hs,List.take_left,List.drop_left]
inductive Stk:List (Nat×Dg)→List Dg→Prop
 | nil:Stk [] []
 | cons {a:Nat} {r:Dg} {S:List (Nat×Dg)} {L seg:List Dg} (hS:Stk S L) (hl:seg.length=2^a) (hr:gL seg=r) (hlt:∀ b s S',S=(b,s) :: S'→a<b):Stk ((a,r) :: S) (L++seg)
def finD (d:Dg):List (Nat×Dg)→Dg
 | []=>d
 | p :: S=>finD (nH p.2 d) S
theorem Stk.root:∀ {S:List (Nat×Dg)} {L T:List Dg},Stk S L→0<T.length→(∀ b s S',S=(b,s) :: S'→T.length≤2^b)→gL (L++T)=finD (gL T) S
 | [],L,T,h,h0,_=>by cases h; rfl
 | (a,r) :: S,L,T,h,h0,hb=>by
  cases h with
  | @cons _ _ _ L seg hS hl hr hlt =>
   rw [List.append_assoc,Stk.root hS (by rw [List.length_append]; omega) (fun b s S' e=>by
    have h1:=hlt b s S' e
    have h2:=hb a r S rfl
    have h3:=Nat.pow_le_pow_right (n:=2) (by decide) (show a+1≤b by omega)
    rw [Nat.pow_succ] at h3
    rw [List.length_append,hl]; omega),aKL hl h0 (hb a r S rfl),hr]
   rfl
theorem Stk.done {a:Nat} {r:Dg} {S:List (Nat×Dg)} {L:List Dg} (h:Stk ((a,r) :: S) L):gL L=finD r S:=by
 cases h with
 | @cons _ _ _ L seg hS hl hr hlt =>
  have hp:0<2^a:=Nat.pow_pos (by decide)
  rw [Stk.root hS (by omega) (fun b s S' e=>by rw [hl]; exact Nat.pow_le_pow_right (by decide) (Nat.le_of_lt (hlt b s S' e))),hr]
theorem aJ5 (a d t:Nat):2^(a+1+d)*t+2^a=2^a*(2*(2^d*t)+1):=by
 rw [Nat.pow_add,Nat.pow_succ,Nat.mul_add,Nat.mul_one]
 simp only [Nat.mul_assoc]
theorem Stk.len:∀ {S:List (Nat×Dg)} {L:List Dg} {a:Nat} {r:Dg},Stk ((a,r) :: S) L→∃ m,L.length=2^a*(2*m+1)
 | [],L,a,r,h=>by
  cases h with
  | @cons _ _ _ L seg hS hl hr hlt=>cases hS; exact ⟨0,by simpa using hl⟩
 | (b,s) :: S,L,a,r,h=>by
  cases h with
  | @cons _ _ _ L seg hS hl hr hlt =>
   obtain ⟨m,hm⟩:=Stk.len hS
   have hab:=hlt b s S rfl
   obtain ⟨d,rfl⟩ : ∃ d,b=a+1+d:=⟨b-a-1,by omega⟩
   refine ⟨2^d*(2*m+1),?_⟩
   rw [List.length_append,hm,hl,aJ5]
structure Pend (S:List (Nat×Dg)) (d:Dg) (a:Nat) (l:List Dg):Prop where
 out:∃ L seg,Stk S L∧seg.length=2^a∧gL seg=d∧L++seg=l∧∀ b s S',S=(b,s) :: S'→a≤b
theorem aNM {S:List (Nat×Dg)} {L:List Dg} (h:Stk S L) (d:Dg):Pend S d 0 (L++[d]):=⟨L,[d],h,rfl,aTj d,rfl,fun _ _ _ _=>Nat.zero_le _⟩
theorem Pend.even {S:List (Nat×Dg)} {d:Dg} {a:Nat} {l:List Dg} (h:Pend S d a l) (he:(l.length / 2^a)%2=0):∃ s S',S=(a,s) :: S'∧Pend S' (nH s d) (a+1) l∧l.length / 2^a / 2=l.length / 2^(a+1):=by
 obtain ⟨L,seg,hS,hl,hr,he',hb⟩:=h.out
 have hp:0<2^a:=Nat.pow_pos (by decide)
 have hdiv:l.length / 2^a / 2=l.length / 2^(a+1):=by rw [Nat.div_div_eq_div_mul,Nat.pow_succ]
 have hlen:l.length=L.length+2^a:=by rw [← he',List.length_append,hl]
 match S,hS,hb with
 | [],hS,hb =>
  cases hS
  rw [List.length_nil,Nat.zero_add] at hlen
  rw [hlen,Nat.div_self hp] at he; cases he
 | (b,s) :: S',hS,hb =>
  obtain ⟨m,hm⟩:=hS.len
  have hab:=hb b s S' rfl
  by_cases e:a=b
  ·subst e
   refine ⟨s,S',rfl,?_,hdiv⟩
   cases hS with
   | @cons _ _ _ L0 seg0 hS0 hl0 hr0 hlt =>
    refine ⟨L0,seg0++seg,hS0,by rw [List.length_append,hl0,hl,Nat.pow_succ]; omega,?_,by rw [← List.append_assoc]; exact he',fun b s S'' e=>hlt b s S'' e⟩
    rw [aKL hl0 (by omega) (by omega),hr0,hr]
  exfalso
  obtain ⟨d',rfl⟩ : ∃ d',b=a+1+d':=⟨b-a-1,by omega⟩
  have h3:l.length=2^a*(2*(2^d'*(2*m+1))+1):=by
   rw [hlen,hm,aJ5]
  rw [h3,Nat.mul_div_cancel_left _ hp] at he
  omega
theorem Pend.odd {S:List (Nat×Dg)} {d:Dg} {a:Nat} {l:List Dg} (h:Pend S d a l) (he:(l.length / 2^a)%2=1):Stk ((a,d) :: S) l:=by
 obtain ⟨L,seg,hS,hl,hr,he',hb⟩:=h.out
 have hp:0<2^a:=Nat.pow_pos (by decide)
 subst he'
 refine .cons hS hl hr fun b s S' e=>?_
 have hab:=hb b s S' e
 rcases Nat.lt_or_eq_of_le hab with h1 | h1
 ·exact h1
 exfalso
 subst e; subst h1
 obtain ⟨m,hm⟩:=hS.len
 rw [List.length_append,hl,hm,show 2^a*(2*m+1)+2^a=2^a*(2*m+2) by rw [Nat.mul_add,Nat.mul_one,Nat.mul_add]; omega,Nat.mul_div_cancel_left _ hp] at he
 omega
theorem Stk.short:∀ {S:List (Nat×Dg)} {L:List Dg},Stk S L→S.length≤L.length
 | [],_,_=>Nat.zero_le _
 | (a,r) :: S,L,h=>by
  cases h with
  | @cons _ _ _ L seg hS hl hr hlt =>
   have:=Stk.short hS
   have hp:0<2^a:=Nat.pow_pos (by decide)
   rw [List.length_append,List.length_cons]; omega
section
variable {α:Type}
theorem aEY {l:List α} {k:Nat} {z:α} (h:k<l.length):l[k]? = some (l.getD k z):=by simp [h]
end
abbrev TM:=Meta×Nat
def z0:TM:=(Meta.zero,0)
def ms (T:List TM):List Meta:=T.map (·.1)
theorem aPL {m:Meta} (h:m.wf):(fX m).length≤m.min.size+m.max.size+112:=by
 have l1:=h.level; have l2:=h.gen; have l3:=h.epoch; have l4:=h.number; have l7:=h.minL; have l8:=h.maxL
 have n1:=iD (n:=m.level.toNat) (by omega); have n2:=iD (n:=m.gen.toNat) (by omega); have n3:=iD (n:=m.epoch.toNat) (by omega); have n4:=iD (n:=m.number.toNat) (by omega)
 have n5:=iD (aKw m.size); have n6:=iD (aKw m.count)
 have y1:=eQ m.min; have y2:=eQ m.max
 have s1:=yN (xs:=yb m.min) (by omega); have s2:=yN (xs:=yb m.max) (by omega)
 unfold fX
 simp only [List.length_append,List.length_map,List.length_range]
 omega
theorem aH2 {e:Edit} (h:e.wf) (ha:e.add.length≤1000000) (hd:e.drop.length≤1000000):(uF e).length≤(e.add.flatMap fX).length+20*e.drop.length+110:=by
 have l1:=h.log; have l2:=h.next; have l3:=h.seq; have l4:=h.least
 unfold u64 at l1 l2 l3 l4
 have n1:=iD (n:=e.log.toNat) (by omega); have n2:=iD (n:=e.next.toNat) (by omega); have n3:=iD (n:=e.seq.toNat) (by omega); have n4:=iD (n:=e.least.toNat) (by omega)
 have n5:=iD (n:=e.add.length) (by omega); have n6:=iD (n:=e.drop.length) (by omega)
 have g:((List.range 5).flatMap fun i=>dH (e.gens i).toNat).length≤10*5:=by
  have:=lU (ns:=lS e) (aAN h)
  unfold fH lS at this
  rw [List.flatMap_map] at this
  simpa using this
 have d:=aEa h.drop
 unfold uF
 simp only [List.length_append]
 omega
theorem aPt {a b:Hd} (h:a.kind=b.kind∧a.level=b.level∧a.gen=b.gen∧a.epoch=b.epoch∧a.num=b.num):a=b:=by
 obtain ⟨a1,a2,a3,a4,a5⟩:=a
 obtain ⟨b1,b2,b3,b4,b5⟩:=b
 obtain ⟨h1,h2,h3,h4,h5⟩:=h
 simp only at h1 h2 h3 h4 h5
 subst h1 h2 h3 h4 h5
 rfl
instance:DecidableEq Hd:=fun a b=>decidable_of_iff (a.kind=b.kind∧a.level=b.level∧a.gen=b.gen∧a.epoch=b.epoch∧a.num=b.num) ⟨aPt,fun h=>by subst h; exact ⟨rfl,rfl,rfl,rfl,rfl⟩⟩
def uI (s:State):Edit:=⟨s.log,s.next,s.seq,s.least,s.gens,[],[]⟩
def qW (m:Meta):Edit:=⟨0,0,0,0,fun _=>0,[m],[]⟩
def sL (e:Edit):Dg:=aEl (uF e)
def xQ (s:State):List Dg:=sL (uI s) :: (dD s 5).map fun m=>sL (qW m)
def aTg (s:State):Dg:=gL (xQ s)
structure Mn where
 st:State
 mark:BitVec 64
 n:Nat
theorem Tr.cutRow {G0 G:PM} {K0:List Nat} {w0 w:World} {μ:aH} {b E sz m cap q:Nat} {xs:List Value} (h:Tr G0 K0 w0 G (.row (.slice (some ⟨b,0,none⟩) m cap) E sz m xs :: μ) w) (hq:q≤m) :
  Tr G0 K0 w0 G (.row (.slice (some ⟨b,0,none⟩) q cap) E sz q (xs.take (q*sz)) :: μ) w:=by
 have hk:keys (.row (.slice (some ⟨b,0,none⟩) q cap) E sz q (xs.take (q*sz)) :: μ)=keys (.row (.slice (some ⟨b,0,none⟩) m cap) E sz m xs :: μ):=by simp [keys,Res.keys,Value.ownBlock]
 have hrow:w.ownsRow 0 E sz (.slice (some ⟨b,0,none⟩) m cap) m xs:=h.sat.own _ (List.mem_cons_self ..)
 refine { h with sat:=⟨h.sat.sub,fun r hr=>?_,by rw [hk]; exact h.sat.apart,by rw [hk]; exact h.sat.nodup⟩,mine:=by rw [hk]; exact h.mine }
 rcases List.mem_cons.1 hr with rfl | hr
 ·have hl:=hrow.1
  have hqs:q*sz≤m*sz:=Nat.mul_le_mul_right _ hq
  rcases hrow.2 with ⟨e,_⟩ | ⟨g,cap',cur,e,h0,hg,hnc,hcm,hcs,htake⟩
  ·cases e
  simp only [Value.slice.injEq,Option.some.injEq,Addr.mk.injEq,and_true,true_and] at e
  obtain ⟨rfl,rfl⟩:=e
  refine ⟨by rw [List.length_take,hl,Nat.min_eq_left hqs],.inr ⟨b,cap,cur,rfl,h0,hg,by omega,hcm,hcs,?_⟩⟩
  rw [← htake,List.take_take,Nat.min_eq_left hqs]
 exact h.sat.own r (List.mem_cons_of_mem _ hr)
theorem aVl {α:Type} {enc:α→List Value} {sz:Nat} {X:Cx} {cd:Code} {k:List KI} {ρ:aI} {G:PM} {μ μ':aH} {b cap E:Nat} {xs:List α} (A B:List α) (hsz:∀ x∈xs,(enc x).length=sz) (hm:MTake μ (rS sz enc (.slice (some ⟨b,0,none⟩) xs.length cap) E xs) μ') (e:xs=A++B)
  (h:Wk X cd k ρ G (rS sz enc (.slice (some ⟨b,0,none⟩) A.length cap) E A :: μ')):Wk X cd k ρ G μ :=
 ⟨fun a w ha ht=>h.out a w ha (by
  subst e
  have:=(ht.perm hm.perm).cutRow (q:=A.length) (by rw [List.length_append]; omega)
  rw [← aIT hsz,List.take_left] at this
  exact this)⟩
section
variable {dr:Bool} {mc:Md} {P:Program} {n:Fm} {l:List Oper} {K:aI→PM→aH→Prop} {i:Nat} {σ:List Nat} {ρ:aI} {G:PM} {μ:aH}
variable {d t:Nat} {p:String} {af:Array Edge} {g:Option (Nat×Bool)} {c:Bool}
theorem aNi (A:Nat):BitVec.ofNat 64 A &&& BitVec.ofNat 64 1=BitVec.ofNat 64 (A%2):=by
 apply BitVec.eq_of_toNat_eq
 rw [BitVec.toNat_and,BitVec.toNat_ofNat,BitVec.toNat_ofNat,BitVec.toNat_ofNat,show 1%2^64=1 from rfl,Nat.and_one_is_mod]
 omega
theorem an1 {T T':TypeId} {x y:Operand} {a1 a2:Int} (A:Nat) (ho:nth l i=some ⟨some d,.binOp .and T x y T',t,p,af,g⟩) (hg:Gd l ρ g c) (hx:Ev ρ c x (.int .i64 a1)) (hy:Ev ρ c y (.int .i64 a2)) (e1:a1=A) (e2:a2=1)
  (h:Wo dr mc P n l K σ ((d,c,.int .i64 ((A%2:Nat):Int)) :: ρ) G μ):Wo dr mc P n l K (i :: σ) ρ G μ :=
 .pure ho (.inl rfl) hg (fun hc q w ha=>by
  subst e1; subst e2
  have hb:(binOp .and T (.int .i64 (A:Int)) (.int .i64 1)).run P w=.ok (.int .i64 ((A%2:Nat):Int)) w:=by
   have e1:BitVec.ofInt 64 (A:Int)=BitVec.ofNat 64 A:=by simp
   have e2:BitVec.ofInt 64 (1:Int)=BitVec.ofNat 64 1:=rfl
   have h4:IntKind.i64.wrap ((BitVec.ofNat 64 (A%2)).toNat:Int)=((A%2:Nat):Int):=by
    rw [BitVec.toNat_ofNat,Nat.mod_eq_of_lt (by omega)]
    exact eJ (by omega) (by omega)
   have h5:(Op.intBits .and .i64 (A:Int) 1)=pure (.int .i64 (IntKind.i64.wrap ((BitVec.ofInt 64 (A:Int) &&& BitVec.ofInt 64 (1:Int)).toNat:Int))):=rfl
   have h6:binOp .and T (.int .i64 (A:Int)) (.int .i64 1)=Op.intBits .and .i64 (A:Int) 1:=rfl
   rw [h6,h5,e1,e2,aNi,h4]; rfl
  simp only [execOp,hx.eval ha hc,hy.eval ha hc,Sem.run_bind,jQ,Result.andThen_ok,hb]; rfl) h
end
def dS (S:List (Nat×Dg)):List Dg:=(S.map (·.2)).reverse
theorem yM (a:Nat) (r:Dg) (S:List (Nat×Dg)):dS ((a,r) :: S)=dS S++[r]:=by simp [dS]
theorem tC (S:List (Nat×Dg)):(dS S).length=S.length:=by simp [dS]
def zD:Dg:=fun _=>0#8
theorem aFY (a:Nat) (r:Dg) (S:List (Nat×Dg)):(dS ((a,r) :: S)).getD S.length zD=r:=by
 rw [yM,List.getD_eq_getElem?_getD,List.getElem?_append_right (by rw [tC]; omega),tC,Nat.sub_self]; rfl
def pI (d:Dg) (L:List Dg):Nat→Dg
 | 0=>d
 | j+1=>pI (nH (L.getD j zD) d) L j
theorem aES:∀ (j:Nat) (d x:Dg) (L:List Dg),j≤L.length→pI d (L++[x]) j=pI d L j
 | 0,_,_,_,_=>rfl
 | j+1,d,x,L,h=>by
  have e:(L++[x]).getD j zD=L.getD j zD:=by rw [List.getD_eq_getElem?_getD,List.getElem?_append_left (by omega),←List.getD_eq_getElem?_getD]
  simp only [pI,e]; exact aES j _ x L (by omega)
theorem aPU {j:Nat} {d:Dg} {L:List Dg} (h:0<j):pI d L j=pI (nH (L.getD (j-1) zD) d) L (j-1):=by
 obtain ⟨i,rfl⟩ : ∃ i,j=i+1:=⟨j-1,by omega⟩
 rfl
theorem aUb {S S3:List (Nat×Dg)} {a:Nat} {s:Dg} (h:S=(a,s) :: S3):(dS S).getD ((dS S).length-1) zD=s:=by
 subst h; rw [tC]; exact aFY a s S3
theorem aIN:∀ (S:List (Nat×Dg)) (d:Dg),pI d (dS S) S.length=finD d S
 | [],d=>rfl
 | (a,r) :: S,d=>by
  simp only [List.length_cons,pI,finD,aFY]
  rw [yM,aES _ _ _ _ (by rw [tC]; exact Nat.le_refl _),aIN S]
theorem aUa {S:List (Nat×Dg)} {L:List Dg} (h:Stk S L) (h0:0<L.length):0<(dS S).length∧gL L=pI ((dS S).getD ((dS S).length-1) zD) (dS S) ((dS S).length-1):=by
 rw [tC]
 match S,h with
 | [],h=>cases h; cases h0
 | (a,r) :: S,h =>
  refine ⟨Nat.succ_pos _,?_⟩
  rw [h.done,←aIN S r]
  have e:((a,r) :: S).length-1=S.length:=rfl
  rw [e,aFY,yM,aES _ _ _ _ (by rw [tC]; exact Nat.le_refl _)]
theorem aSz {S:List (Nat×Dg)} {d:Dg} {a q:Nat} {l:List Dg} (h:Pend S d a l) (eq:q=l.length / 2^a) (he:q%2=0):∃ s S',S=(a,s) :: S'∧Pend S' (nH s d) (a+1) l∧q / 2=l.length / 2^(a+1):=by
 subst eq; exact h.even he
theorem aS1 {S:List (Nat×Dg)} {d:Dg} {a q:Nat} {l:List Dg} (h:Pend S d a l) (eq:q=l.length / 2^a) (he:¬ q%2=0):Stk ((a,d) :: S) l:=by
 subst eq; exact h.odd (by omega)
theorem aS2 {S:List (Nat×Dg)} {d:Dg} {a q:Nat} {l:List Dg} (h:Pend S d a l) (eq:q=l.length / 2^a):0<q:=by
 obtain ⟨L,seg,hS,hl,hr,he',hb⟩:=h.out
 subst eq
 exact Nat.div_pos (by rw [← he',List.length_append,hl]; omega) (Nat.pow_pos (by decide))
theorem aS0 {S:List (Nat×Dg)} {d:Dg} {a:Nat} {l:List Dg} (h:Pend S d a l):S.length≤l.length:=by
 obtain ⟨L,seg,hS,hl,hr,he',hb⟩:=h.out
 have:=hS.short
 rw [← he',List.length_append]; omega
section
variable {dr:Bool} {mc:Md} {P:Program} {n:Fm} {l:List Oper} {K:aI→PM→aH→Prop} {i:Nat} {σ:List Nat} {ρ:aI} {G:PM} {μ:aH}
variable {d t:Nat} {p:String} {af:Array Edge} {g:Option (Nat×Bool)} {c:Bool}
theorem kaf {f:FuncId} {fv:Operand} {xs:List Operand} {tys:Array TypeId} {vs vc:List Value} {μ₁ μ₂:aH} {post:PM→aH→Value→Prop} {dd:Option Nat} (ho:nth l i=some ⟨dd,.call { callee:=.value fv,args:=xs.toArray,argTypes:=tys },t,p,af,none⟩) (hm:mc.c=true∨dr=false) (hfv:Ev ρ true fv (.func (.func f) #[] vc.toArray)) (hf:aJ P f=true)
  (hv:∀ a,Ag n ρ a→true=true→xs.map a.eval=vs) (hp:μ.Perm (μ₁++μ₂)) (hk:Ct P f (vs++vc).toArray G μ₁ post) (h:∀ v G' μ',PM.le G G'→post G' μ' v→Wo dr mc P n l K σ (cT ρ dd true v) G' (μ'++μ₂)):Wo dr mc P n l K (i :: σ) ρ G μ :=
 .act ho (by rcases hm with h|rfl<;>simp_all [bH]) .no hp (fun a w ha _=>.inr ⟨f,_,by
  have h1:=hv a ha rfl
  simp [execOp,resolve,Deferred.ofValue,hfv.eval ha rfl,invoke,aAi hf]
  rw [← h1],hk⟩) h
end
theorem SlR.one1 {α:Type} {enc:α→List Value} {sz:Nat} {G:PM} {b:Nat} {x:α} {T:TypeId}:SlR (G.add b (cl (enc x) T)) sz enc ⟨some ⟨b,0,none⟩,1⟩ [x]:=by
 refine ⟨fun _=>rfl,Nat.le_refl _,fun i y hy j v hj=>?_⟩
 cases i with
 | succ i=>simp at hy
 | zero =>
  simp only [List.getElem?_cons_zero,Option.some.injEq] at hy
  subst hy
  rw [Nat.zero_mul,Nat.add_zero]
  exact RdP.blk (cH _ _ _) (by show (enc x)[0+j]? = _; rw [Nat.zero_add]; exact hj)
structure StN (s:State):Prop where
 log:u64 s.log
 next:u64 s.next
 seq:u64 s.seq
 least:u64 s.least
 gens:∀ i,i<5→u64 (s.gens i)
theorem aPv {s:State} (h:StN s):(uI s).wf:=⟨h.log,h.next,h.seq,h.least,h.gens,(fun m hm=>absurd hm List.not_mem_nil),(fun g hg=>absurd hg List.not_mem_nil)⟩
theorem aSS {m:Meta} (h:m.wf):(qW m).wf:=by
 have z:u64 0:=⟨by decide,by decide⟩
 refine ⟨z,z,z,z,fun _ _=>z,fun x hx=>?_,(fun g hg=>absurd hg List.not_mem_nil)⟩
 rw [show x=m from List.mem_singleton.1 hx]; exact h
theorem aSR {m:Meta} (h:m.wf):((qW m).add.flatMap fX).length≤m.min.size+m.max.size+112:=by
 show ([m].flatMap fX).length≤_
 rw [List.flatMap_cons,List.flatMap_nil,List.append_nil]; exact aPL h
theorem aPu {s:State}:((uI s).add.flatMap fX).length≤10:=by show ([]:List Y).length≤_; decide
def kH (s:State) (k j:Nat):List Dg:=sL (uI s) :: ((dD s k++(s.lv k).take j).map fun m=>sL (qW m))
theorem aQi (s:State):kH s 0 0=[]++[sL (uI s)]:=by simp [kH,dD]
theorem aQm {s:State} {k j:Nat} {m:Meta} (h:(s.lv k)[j]? = some m):kH s k j++[sL (qW m)]=kH s k (j+1):=by
 unfold kH; rw [List.take_add_one,h]; simp
theorem aQl {s:State} {k j:Nat} (h:(s.lv k).length≤j):kH s k j=kH s (k+1) 0:=by
 unfold kH; rw [List.take_of_length_le h]; simp [dD]
theorem aQj (s:State):kH s 5 0=xQ s:=by unfold kH xQ; simp
theorem aQk (s:State) (k j:Nat):((kH s k j).length:Int)≤1+dO s k+(s.lv k).length:=by
 have h1:=aDh s k
 unfold kH
 simp only [List.length_cons,List.length_map,List.length_append,List.length_take]
 omega
theorem aU1 {s:State} {k:Nat} (h:k<5):dO s k+(s.lv k).length≤dO s 5:=aCj s (show k+1≤5 by omega)
theorem aQ5 (s:State) (hd:Nat→Sh) {k:Nat} {j:Int} (h:k<5) (e:j.toNat=k):((List.range 5).map fun i=>(hd i).val (s.lv i).length)[j.toNat]? = some ((hd k).val (s.lv k).length):=by
 rw [e]
 match k,h with
 | 0,_=>rfl | 1,_=>rfl | 2,_=>rfl | 3,_=>rfl | 4,_=>rfl
theorem aQh (s:State):((xQ s).length:Int)=1+dO s 5:=by
 have h1:=aDh s 5
 unfold xQ
 simp only [List.length_cons,List.length_map]
 omega
structure StL (s:State):Prop where
 few:dO s 5≤100000
 short:∀ i,i<5→∀ m∈s.lv i,m.min.size+m.max.size≤900000000000
structure Fl where
 h:Hd
 n:BitVec 64
 safe:Bool
def Fl.cells (f:Fl):List Value:=f.h.cells++[uv .u64 f.n,.bool f.safe]
def Fl.zero:Fl:=⟨Hd.zero,0,false⟩
def pt (b:Nat):Value:=.pointer (some ⟨b,0,none⟩)
structure Db where
 dk:Nat
 tr:Nat
 root:Nat→Y
 o:Opts
 ep:BitVec 64
 s:State
 hd:Nat→Sh
 next:BitVec 64
 seq:BitVec 64
 turn:BitVec 64
 held:Nat
 lg:Fl
 ol:Fl
 mn:Fl
 now:Nat
def Db.cells (b:Db):List Value :=
 [pt b.dk,pt b.tr]++ba 32 b.root++b.o.cells++[uv .u64 b.ep]++b.s.cells b.hd++[uv .u64 b.next,uv .u64 b.seq,uv .u64 b.turn,.map (some b.held)]++b.lg.cells++b.ol.cells++b.mn.cells++[pt b.now,.pointer none,.int .i64 0,.bool false]
theorem aLe (b:Db) (v:BitVec 64):b.cells.set 56 (uv .u64 v)=Db.cells { b with next:=v }:=rfl
theorem aLg (b:Db) (v:BitVec 64):b.cells.set 57 (uv .u64 v)=Db.cells { b with seq:=v }:=rfl
theorem aFs (b:Db) (f:Fl):put b.cells 60 f.cells=Db.cells { b with lg:=f }:=rfl
theorem aFu (b:Db) (f:Fl):put b.cells 74 f.cells=Db.cells { b with mn:=f }:=rfl
theorem aLf (b:Db) (s:State) (hd:Nat→Sh):put b.cells 42 (s.cells hd)=Db.cells { b with s:=s,hd:=hd }:=rfl
theorem aLc (b:Db) (n:BitVec 64):b.cells.set 65 (uv .u64 n)=Db.cells { b with lg:={ b.lg with n:=n } }:=rfl
theorem aFt (b:Db) (s:Bool):b.cells.set 66 (.bool s)=Db.cells { b with lg:={ b.lg with safe:=s } }:=rfl
theorem aLd (b:Db) (n:BitVec 64):b.cells.set 79 (uv .u64 n)=Db.cells { b with mn:={ b.mn with n:=n } }:=rfl
theorem Fl.one (f:Fl):∀ u∈f.cells,u.oneCell'=true:=by
 intro u hu
 simp only [Fl.cells,Hd.cells,List.cons_append,List.nil_append,List.mem_cons,List.not_mem_nil,or_false] at hu
 rcases hu with rfl|rfl|rfl|rfl|rfl|rfl|rfl<;>rfl
def iJ (a b:Int):Edit:=⟨a,b,0,0,fun _=>0,[],[]⟩
def fU (a b:Int):State:=⟨fun _=>[],a,b,0,0,fun _=>0⟩
theorem aD9 {a b:Int} (ha:u64 a) (hb:u64 b):(iJ a b).wf:=by
 have z:u64 0:=⟨by decide,by decide⟩
 exact ⟨ha,hb,z,z,fun _ _=>z,(fun m hm=>absurd hm List.not_mem_nil),(fun g hg=>absurd hg List.not_mem_nil)⟩
theorem aFW {G:PM} {a b:Int}:StR G (fU a b) fO:=⟨fun _ _=>SlR.nul,fun _ _=>Nat.zero_le _,fun _ _ m hm=>nomatch hm⟩
theorem aN1 {a b:Int} (ha:0≤a) (hb:0≤b):xB State.zero (iJ a b)=false:=by
 rw [aHW (fun i hi=>by show ¬ (0:Int)<0; decide)]
 show (((decide (a<0)||decide (b<0))||decide ((0:Int)<0))||decide ((0:Int)<0))=false
 rw [decide_eq_false (by omega:¬ a<0),decide_eq_false (by omega:¬ b<0)]; rfl
theorem aTc {a b:Int} (ha:0≤a) (hb:a≤b):uT (fU a b)=true:=by
 refine aFC ⟨by show (0:Int)≤_; decide,by show (0:Int)≤_; decide,by show a≤b; omega,by show dO _ 5≤_; simp [dO,fU],fun i hi=>?_,fun x y hx _=>?_⟩
 ·exact ⟨fun m hm=>absurd hm List.not_mem_nil,fun j hj=>absurd hj (by show ¬ j+1<0; omega)⟩
 exact absurd hx (by show ¬ x<0; omega)
theorem aUU {a b:Int} {k:Nat} (h:k<5):((fU a b).cells fO).set (0+k*1) (.slice none 0 0)=(fU a b).cells fO:=by
 match k,h with
 | 0,_=>rfl | 1,_=>rfl | 2,_=>rfl | 3,_=>rfl | 4,_=>rfl
theorem aUT {a b:Int} {k:Nat} (h:k<5):((fU a b).cells fO)[0+k*1]? = some (.slice none 0 0):=by
 match k,h with
 | 0,_=>rfl | 1,_=>rfl | 2,_=>rfl | 3,_=>rfl | 4,_=>rfl
theorem aJQ {j:Int} (h:j.toNat<5):((List.range 5).map (fun _=>Value.slice none 0 0))[j.toNat]? = some (.slice none 0 0):=by simp [h]
theorem aUS {a b:Int} (ha:u64 a) (hb:u64 b):StN (fU a b):=⟨ha,hb,⟨by show (0:Int)≤0; decide,by show (0:Int)<_; decide⟩,⟨by show (0:Int)≤0; decide,by show (0:Int)<_; decide⟩,fun _ _=>⟨by show (0:Int)≤0; decide,by show (0:Int)<_; decide⟩⟩
theorem aUR {a b:Int}:StL (fU a b):=⟨by show dO _ 5≤_; simp [dO,fU],fun _ _ m hm=>absurd hm List.not_mem_nil⟩
theorem aIu {root:Nat→Y} {h:Hd} {n:BitVec 64} {p L:List Y} {e:Int} (hp:p.length≤400) (hl:(L,e)=sJ root h n p):e=0∧L.length≤600:=by
 unfold sJ at hl
 rw [if_pos (by omega)] at hl
 obtain ⟨h1,h2⟩:=Prod.mk.inj hl
 have hS:(uX (pK root (gR h)) (pL root (gR h)) (mM n) (gR h) p).length=p.length+16:=by rw [aKY]
 generalize uX (pK root (gR h)) (pL root (gR h)) (mM n) (gR h) p=S at h1 hS
 have e1:aKC S=qY S ((S.length+127) / 128):=rfl
 have:=aJs S ((S.length+127) / 128)
 refine ⟨h2,?_⟩
 rw [h1,e1]
 omega
section
variable {dr:Bool} {mc:Md} {P:Program} {n:Fm} {l:List Oper} {K:aI→PM→aH→Prop} {i:Nat} {σ:List Nat} {ρ:aI} {G:PM} {μ:aH}
variable {t:Nat} {p:String} {af:Array Edge}
theorem stp {T T':TypeId} {x y:Operand} {b o:Nat} {v:Value} {cs vs cs':List Value} {μ':aH} (ho:nth l i=some ⟨none,.store T x y,t,p,af,none⟩) (hx:Ev ρ true x (.pointer (some ⟨b,o,none⟩))) (hy:Ev ρ true y v) (hv:v.cells=vs.toArray) (hz:cI P T=some vs.length)
  (hm:MTake μ (.blk b (cl cs T')) μ') (hl:o+vs.length≤cs.length) (h1:∀ u∈vs,u.oneCell'=true) (hp:put cs o vs=cs') (h:Wo dr mc P n l K σ ρ G (.blk b (cl cs' T') :: μ')):Wo dr mc P n l K (i :: σ) ρ G μ:=by
 subst hp; exact st ho hx hy hv hz hm hl h1 h
end
section
variable {mc:Md} {P:Program} {n:Fm} {l:List Oper} {K:aI→PM→aH→Prop} {i:Nat} {σ:List Nat} {ρ:aI} {G:PM} {μ:aH}
variable {d t:Nat} {p:String} {af:Array Edge}
theorem dZ {f:FuncId} {xs:List Operand} {tys:Array TypeId} {vs:List Value} {μ₁ μ₂:aH} {post:PM→aH→Value→Prop} {die:List PanicEntry→Prop} {dd:Option Nat} (ho:nth l i=some ⟨dd,.call { callee:=.value (.func f),args:=xs.toArray,argTypes:=tys },t,p,af,none⟩) (hf:aJ P f=true)
  (hv:∀ a,Ag n ρ a→true=true→xs.map a.eval=vs) (hp:μ.Perm (μ₁++μ₂)) (hk:Cp P f vs.toArray G μ₁ post die) (hx:∀ ch G' ρ' μ',PM.le G G'→die ch→(∀ i,cK ρ' i=cK ρ i)→μ'.Perm μ₂→n.die ch ρ' G' μ')
  (h:∀ v G' μ',PM.le G G'→post G' μ' v→Wo false mc P n l K σ (cT ρ dd true v) G' (μ'++μ₂)):Wo false mc P n l K (i :: σ) ρ G μ :=
 .callp rfl ho .no hp (fun a w ha=>aAh hf (hv a ha rfl) _ _ _ _ _ w) hk hx h
theorem kU {x:Operand} {T:TypeId} {v:Value} {dd:Option Nat} (ho:nth l i=some ⟨dd,.panic x,t,p,af,none⟩) (hx:ev ρ x=some (true,.iface T v)) (hd:∀ ρ' μ',(∀ i,cK ρ' i=cK ρ i)→μ'.Perm μ→n.die [{ v:=.iface T v,recovered:=false }] ρ' G μ'):Wo false mc P n l K (i :: σ) ρ G μ :=
 .pan rfl ho .no (fun a w ha=>by simp [execOp,ha.eval hx rfl,Instr.panic,goPanic]) hd
end
theorem aVK {P:Program} {o:Oper} {a:Act} {next next':Act→World→Prop} {Q Q':Exit→Act→World→Prop} (h1:∀ a w,next a w→next' a w) (h2:∀ ch a w,Q (.panic ch) a w→Q' (.panic ch) a w) (h3:LetsOut Q→LetsOut Q') :
  ∀ r,o.upon P a next Q r→o.upon P a next' Q' r:=by
 intro r h
 unfold Oper.upon at h ⊢
 split at h
 ·exact h1 _ _ h
 ·exact h1 _ _ h
 ·exact h1 _ _ h
 ·refine h.mono fun e w' he=>?_
  cases e with
  | returned v=>exact h1 _ _ he
  | panicked ch=>exact h2 _ _ _ he
  | outgrown=>exact h3 he
 ·exact h.mono fun v w' he=>h1 _ _ he
 ·exact h2 _ _ _ h
 exact h.elim
theorem aCv {P:Program} {ops:Array Oper} {Q:Exit→Act→World→Prop} {σ2:List Nat}:∀ {σ1:List Nat} {a:Act} {w:World},wpOps P ops (Exit.then (wpOps P ops Q σ2) Q) σ1 a w→wpOps P ops Q (σ1++σ2) a w
 | [],a,w,h=>h
 | i :: σ1,a,w,h=>by
  simp only [wpOps,List.cons_append] at h ⊢
  cases ho:ops[i]? with
  | none=>simp only [ho] at h; exact aCv h
  | some o =>
   simp only [ho] at h
   dsimp only
   split at h
   ·rename_i hw
    rw [if_pos hw]
    rcases h with h | ⟨h,hl⟩
    ·exact .inl (aVK (fun a w h=>aCv h) (fun ch a w h=>h) (fun h=>h) _ h)
    ·exact .inr ⟨h,hl⟩
   ·rename_i hw
    rw [if_neg hw]; exact aCv h
theorem aBV {X Y:Cx} (h1:X.P=Y.P) (h2:X.fn=Y.fn) (h3:X.R=Y.R):∀ k,fS X k=fS Y k
 | []=>by simp only [fS,h1,h2,h3]
 | .code c :: k=>by simp only [fS,aBV h1 h2 h3 k,h1]
 | .blk id :: k=>by simp only [fS,aBV h1 h2 h3 k]
 | .lp I :: k=>by simp only [fS,aBV h1 h2 h3 k]
structure DefOp (P:Program) (n:Fm) (l:List Oper) (j:Nat) (d:Deferred) (ρ:aI):Prop where
 of:∃ o,nth l j=some o∧o.guard=none∧o.dst=none∧∀ a w,Ag n ρ a→(execOp a.eval o).run P w=.ok (.defer d) w
theorem We.finD {X:Cx} {ρ:aI} {G:PM} {μ:aH} (h:∀ a w,Ag X.n ρ a→Tr X.G0 X.K0 X.w0 G μ w→Leaves X.P X.fn a.tmps X.R X.n.ds .returning w):We X .ret [] ρ G μ :=
 ⟨fun a w ha ht=>by
  show Leaves X.P X.fn a.tmps X.R a.defers .returning w
  rw [ha.defers]; exact h a w ha ht⟩
def ifT (P:Program) (T:TypeId):Bool:=match P.underlying T with | some (.interface _)=>true | _=>false
theorem aEf {P:Program} {T:TypeId} (h:ifT P T=true):∃ q,P.underlying T=some (.interface q):=by
 unfold ifT at h
 split at h
 ·rename_i q hq; exact ⟨q,hq⟩
 ·cases h
theorem Rs.congr {P:Program} {ρ ρ':aI} {G:PM} {μ:aH} {rs:List ResultVar} {vs:List Value} (h:Rs P ρ G μ rs vs) (e:∀ i,cK ρ' i=cK ρ i):Rs P ρ' G μ rs vs:=by
 induction h with
 | nil=>exact .nil
 | tmp h _ ih=>exact .tmp ((e _).trans h) ih
 | cell h hw _ ih=>exact .cell ((e _).trans h) hw ih
structure DQ where
 f:FuncId
 args:List Value
 vc:List Value
def DQ.d (q:DQ):Deferred:={ target:=.fn (.func q.f) q.vc.toArray,args:=q.args.toArray }
def aG7 (P:Program) (G:PM) (μ:aH) (q:DQ):Prop :=
 aJ P q.f=true∧∀ w,Sat G μ w→CallsD P q.f (q.args++q.vc).toArray .returning w (fun e u' w'=>(∃ v,e=.returned v)∧u'=.returning∧w'=w)
theorem aIv {P:Program} {fn:Func} {tmps:Array Value} {R:Ending→World→Prop} {G:PM} {μ:aH} {w:World} (hs:Sat G μ w) (hr:Leaves P fn tmps R [] .returning w) :
  ∀ {ds:List DQ},(∀ q∈ds,aG7 P G μ q)→Leaves P fn tmps R (ds.map DQ.d) .returning w
 | [],_=>hr
 | q :: ds,h=>by
  have hq:=h q (List.mem_cons_self ..)
  refine leaves_cons (by simp) (f:=q.f) (args:=(q.args++q.vc).toArray) (by simp [invoke,aAi hq.1]) ((hq.2 w hs).mono ?_)
  rintro e u' w' ⟨⟨v,rfl⟩,rfl,rfl⟩
  exact aIv hs hr fun q' hq'=>h q' (List.mem_cons_of_mem _ hq')
def Cx.dfs (X:Cx) (d:Deferred) (die1:List PanicEntry→aI→PM→aH→Prop)
  (ok1:∀ ch ρ G μ a w,die1 ch ρ G μ→Ag ⟨X.n.n,d :: X.n.ds,die1⟩ ρ a→Tr X.G0 X.K0 X.w0 G μ w→Leaves X.P X.fn a.tmps (RR X.post X.die X.G0 X.K0 X.w0) a.defers (.panicking ch) w):Cx :=
 ⟨X.P,X.fn,⟨X.n.n,d :: X.n.ds,die1⟩,X.G0,X.K0,X.w0,X.post,X.die,ok1⟩
theorem Wk.defers {X:Cx} {k:List KI} {ρ:aI} {G:PM} {μ:aH} {id:Nat} {l:List Oper} (σ1:List Nat) (j:Nat) (d:Deferred) (die1:List PanicEntry→aI→PM→aH→Prop)
  (ok1:∀ ch ρ G μ a w,die1 ch ρ G μ→Ag ⟨X.n.n,d :: X.n.ds,die1⟩ ρ a→Tr X.G0 X.K0 X.w0 G μ w→Leaves X.P X.fn a.tmps (RR X.post X.die X.G0 X.K0 X.w0) a.defers (.panicking ch) w)
  (hσ:List.range l.length=σ1++[j]) (hds:iG X.n l=true)
  (h:Wo false ⟨false,false⟩ X.P X.n l (fun ρ G μ=>DefOp X.P X.n l j d ρ∧We (X.dfs d die1 ok1) .normal k ρ G μ) σ1 ρ G μ):Wk X (.region id l.toArray false) k ρ G μ:=by
 refine ⟨fun a w ha ht=>wp_region ?_⟩
 have hr:List.range l.toArray.size=σ1++[j]:=by simpa using hσ
 rw [hr]
 refine aCv ?_
 refine Wo.run (Q:=Exit.then (wpOps X.P l.toArray (fS X k) [j]) (fS X k)) (aD7 hds) (fun _=>tZ X k) (fun ρ G μ hK a w ha ht=>?_) _ _ _ _ a w h ha ht
 obtain ⟨⟨o,ho,hg,hdst,hrun⟩,hwe⟩:=hK
 show wpOps X.P l.toArray (fS X k) [j] a w
 simp only [wpOps,iV,ho]
 rw [if_pos (by simp [Region.wanted,hg])]
 refine .inl ?_
 unfold Oper.wp
 rw [hrun a w ha]
 simp only [Oper.upon,wpOps,hdst,Act.put]
 have:=hwe.out { a with defers:=d :: a.defers } w ⟨ha.size,by show d :: a.defers=d :: X.n.ds; rw [ha.defers],ha.get⟩ ht
 rwa [aBV (X:=X.dfs d die1 ok1) (Y:=X) rfl rfl rfl k] at this
theorem aC0 {P:Program} {n:Fm} {l:List Oper} {j:Nat} {ρ:aI} {f:FuncId} {x:Operand} {vc:List Value} {tys:Array TypeId} {t:Nat} {p:String} {af:Array Edge}
  (ho:nth l j=some ⟨none,.defer { callee:=.value x,args:=#[],argTypes:=tys },t,p,af,none⟩) (hx:ev ρ x=some (true,.func (.func f) #[] vc.toArray)):DefOp P n l j (DQ.d ⟨f,[],vc⟩) ρ :=
 ⟨⟨_,ho,rfl,rfl,fun a w ha=>by
  have hfn:a.eval x=.func (.func f) #[] vc.toArray:=ha.eval hx rfl
  simp [execOp,resolve,Deferred.ofValue,hfn,DQ.d]⟩⟩
theorem zV {X:Cx} {ρ:aI} {G:PM} {μ μ':aH} {vs:List Value} {rs:List ResultVar} (ds:List DQ) (hds:X.n.ds=ds.map DQ.d)
  (hq:∀ q∈ds,aG7 X.P G μ q) (hr:X.fn.results=rs.toArray) (h:Rs X.P ρ G μ rs vs) (hM:MSub μ' μ) (hp:X.post G μ' (gO vs)):We X .ret [] ρ G μ :=
 We.finD fun a w ha ht=>by
  rw [hds]
  exact aIv ht.sat ⟨_,aFB (by rw [hr]; exact h) ha ht.sat,.inl ⟨_,G,μ',rfl,hM.tr ht,hp⟩⟩ hq
def zro {α:Type}:α→Nat:=fun _=>0
theorem jB {α:Type} (y:α):zro y<1:=Nat.zero_lt_one
theorem Wk.jn {X:Cx} {k:List KI} {ρ:aI} {G:PM} {μ:aH} {c:Code} {α:Type} (E:α→aI) (M:α→aH) (F:α→PM→Prop) (ρc:aI) (μc:aH) (hE:ESub ρc ρ) (hM:MSub μc μ)
  (h:Wk X c (.lp (fun a w=>∃ y,zro y<1∧Inv X G (fun x=>E x++ρc) (fun x=>M x++μc) F y a w) :: k) ρ G μ)
  (h2:∀ y G',PM.le G G'→F y G'→We X .normal k (E y++ρc) G' (M y++μc)):Wk X c k ρ G μ :=
 ⟨fun a w ha ht=>wp_mono (h.out a w ha ht) fun e a w hq=>by
  cases e with
  | normal =>
   obtain ⟨y,_,G',hle,hf,ha,ht⟩:=hq
   exact (h2 y G' hle hf).out a w ha ht
  | _=>exact hq⟩
section
variable {dr:Bool} {mc:Md} {P:Program} {n:Fm} {l:List Oper} {K:aI→PM→aH→Prop} {i:Nat} {σ:List Nat} {ρ:aI} {G:PM} {μ:aH}
variable {d t:Nat} {p:String} {af:Array Edge}
theorem apZ {T E sz by':Nat} {x y:Operand} (ho:nth l i=some ⟨some d,.call { callee:=.builtin .append,args:=#[x,y],argTypes:=#[T,T] },t,p,af,none⟩)
  (hT:bL P T=some (E,sz,by')) (hx:Ev ρ true x (.slice none 0 0)) (hy:Ev ρ true y (.slice none 0 0))
  (h:Wo dr mc P n l K σ ((d,true,.slice none 0 0) :: ρ) G μ) (hmc:mc.a=false∨dr=false:=by first|exact .inl rfl|exact .inr rfl):Wo dr mc P n l K (i :: σ) ρ G μ:=by
 obtain ⟨hu,inf,hi,rfl,rfl⟩:=fQ hT
 refine .act (μ₁:=[]) (μ₂:=μ) (post:=fun G' μ' v'=>G'=G∧v'=.slice none 0 0∧μ'=[]) ho (by rcases hmc with h | h<;>simp [bH,h]) .no (.refl _) (fun a w ha hs0=>.inl ?_) ?_
 ·exact ⟨.slice none 0 0,w,G,[],.inl (by simp [execOp,resolve,invoke,builtin,hx.eval ha rfl,hy.eval ha rfl,Builtin.append_,run_underlying hu,sizeOf,typeInfo,hi,Builtin.lenOf,Builtin.firstCells,loadCells,loadCellsFrom]),eK (Sat.left (μ:=[]) hs0),rfl,rfl,rfl⟩
 rintro v' G' μ'' _ ⟨rfl,rfl,rfl⟩
 exact h
end
theorem DefOp.fn {P:Program} {n:Fm} {l:List Oper} {j:Nat} {ρ:aI} {f:FuncId} {xs:List Operand} {vs:List Value} {tys:Array TypeId} {t:Nat} {p:String} {af:Array Edge}
  (ho:nth l j=some ⟨none,.defer { callee:=.value (.func f),args:=xs.toArray,argTypes:=tys },t,p,af,none⟩) (hv:∀ a,Ag n ρ a→true=true→xs.map a.eval=vs):DefOp P n l j (DQ.d ⟨f,vs,[]⟩) ρ :=
 ⟨⟨_,ho,rfl,rfl,fun a w ha=>by
  have h1:=hv a ha rfl
  have hfn:a.eval (.func f)=.func (.func f) #[] #[]:=rfl
  simp [execOp,resolve,Deferred.ofValue,hfn,DQ.d]
  rw [← h1]⟩⟩
theorem le_add {G:PM} {b:Nat} {o:Obj} (h:G b=none):PM.le G (G.add b o):=fun c u hc=>by
 unfold PM.add
 by_cases e:c=b
 ·subst e; rw [h] at hc; cases hc
 ·rw [if_neg e]; exact hc
theorem wY {G:PM} {b c:Nat} {o:Obj} (h:c≠b):G.add b o c=G c:=by unfold PM.add; rw [if_neg h]
theorem uO {μ μ1 μ2 μ3 μ4:aH} {r1 r2 r3 r4:Res} (h1:MTake μ r1 μ1) (h2:MTake μ1 r2 μ2) (h3:MTake μ2 r3 μ3) (h4:MTake μ3 r4 μ4):μ.Perm ([r1,r2,r3,r4]++μ4):=h1.perm.trans ((jI h2 h3 h4).cons _)
theorem aRc {μ μ1 μ2 μ3 μ4 μ5:aH} {r1 r2 r3 r4 r5:Res} (h1:MTake μ r1 μ1) (h2:MTake μ1 r2 μ2) (h3:MTake μ2 r3 μ3) (h4:MTake μ3 r4 μ4) (h5:MTake μ4 r5 μ5):μ.Perm ([r1,r2,r3,r4,r5]++μ5):=h1.perm.trans ((uO h2 h3 h4 h5).cons _)
theorem aEx {μ μ1 μ2 μ3 μ4 μ5 μ6:aH} {r1 r2 r3 r4 r5 r6:Res} (h1:MTake μ r1 μ1) (h2:MTake μ1 r2 μ2) (h3:MTake μ2 r3 μ3) (h4:MTake μ3 r4 μ4) (h5:MTake μ4 r5 μ5) (h6:MTake μ5 r6 μ6):μ.Perm ([r1,r2,r3,r4,r5,r6]++μ6):=h1.perm.trans ((aRc h2 h3 h4 h5 h6).cons _)
theorem qP {P:Program} {f:FuncId} {args:Array Value} {G:PM} {μ:aH} {b:Nat} {o:Obj} {Q:aH→Value→Prop} (h:∀ G2,PM.le G G2→PB G2 b o→Ct P f args G2 μ (fun _ μ' u=>Q μ' u)) :
  Ct P f args G (.blk b o :: μ) (fun _ μ' u=>∃ ν,μ'=.blk b o :: ν∧Q ν u):=fun w hs =>
 rJ (h _ (le_add (hs.apart b (by simp [keys,Res.keys]))) ⟨cH _ _ _⟩) w hs
theorem aEn {P:Program} {f:FuncId} {args:Array Value} {G:PM} {μ:aH} {b1 b2 b3:Nat} {o1 o2 o3:Obj} {Q:aH→Value→Prop}
  (h:∀ G2,PM.le G G2→PB G2 b1 o1→PB G2 b2 o2→PB G2 b3 o3→Ct P f args G2 μ (fun _ μ' u=>Q μ' u)) :
  Ct P f args G (.blk b1 o1 :: .blk b2 o2 :: .blk b3 o3 :: μ) (fun _ μ' u=>∃ ν,μ'=.blk b1 o1 :: .blk b2 o2 :: .blk b3 o3 :: ν∧Q ν u):=fun w hs=>by
 have hnd:=hs.nodup
 have hk:keys (.blk b1 o1 :: .blk b2 o2 :: .blk b3 o3 :: μ)=b1 :: b2 :: b3 :: keys μ:=by simp [keys,Res.keys]
 rw [hk] at hnd
 have h12:b1≠b2:=fun e=>(List.nodup_cons.1 hnd).1 (by rw [e]; exact List.mem_cons_self ..)
 have h13:b1≠b3:=fun e=>(List.nodup_cons.1 hnd).1 (by rw [e]; exact List.mem_cons_of_mem _ (List.mem_cons_self ..))
 have h23:b2≠b3:=fun e=>(List.nodup_cons.1 (List.nodup_cons.1 hnd).2).1 (by rw [e]; exact List.mem_cons_self ..)
 have g1:G b1=none:=hs.apart b1 (by rw [hk]; exact List.mem_cons_self ..)
 have g2:G b2=none:=hs.apart b2 (by rw [hk]; exact List.mem_cons_of_mem _ (List.mem_cons_self ..))
 have g3:G b3=none:=hs.apart b3 (by rw [hk]; exact List.mem_cons_of_mem _ (List.mem_cons_of_mem _ (List.mem_cons_self ..)))
 have hl:PM.le G (((G.add b1 o1).add b2 o2).add b3 o3):=((le_add g1).trans (le_add (by rw [wY h12.symm]; exact g2))).trans (le_add (by rw [wY h23.symm,wY h13.symm]; exact g3))
 have h0:=h (((G.add b1 o1).add b2 o2).add b3 o3) hl ⟨by rw [wY h13,wY h12]; exact cH _ _ _⟩ ⟨by rw [wY h23]; exact cH _ _ _⟩ ⟨cH _ _ _⟩
 exact (rJ (Q:=fun μ' u=>∃ ν,μ'=.blk b2 o2 :: .blk b3 o3 :: ν∧Q ν u) ((rJ (Q:=fun μ' u=>∃ ν,μ'=.blk b3 o3 :: ν∧Q ν u) (rJ h0)).mono fun G' μ' u ⟨ν,e,ν2,e2,q⟩=>⟨ν2,by rw [e,e2],q⟩)).mono (fun G' μ' u ⟨ν,e,ν2,e2,q⟩=>⟨ν2,by rw [e,e2],q⟩) w hs
theorem aCy {P:Program} {G:PM} {μ:aH} {f:FuncId} {args:Array Value} {E:Nat} {v:Value} {xs:List Y} {post:PM→aH→Value→Prop}
  (h:∀ (s:Sh) (G2:PM),PM.le G G2→v=s.val xs.length→SlR G2 1 aU s xs→Ct P f args G2 μ post):Ct P f args G (rB v E xs :: μ) post:=by
 intro w hs
 have hrow:w.ownsRow 0 E 1 v xs.length (xs.map V):=hs.own _ (List.mem_cons_self ..)
 rcases hrow.2 with ⟨rfl,h0⟩ | ⟨g,cap,cur,rfl,_,hg,hnc,hcm,hcs,htake⟩
 ·have hx:xs=[]:=List.eq_nil_of_length_eq_zero h0
  subst hx
  have hk:keys (rB (.slice none 0 0) E [] :: μ)=keys μ:=by simp [keys,Res.keys,Value.ownBlock]
  have hs2:Sat G μ w:=⟨hs.sub,fun r hr=>hs.own r (List.mem_cons_of_mem _ hr),by rw [← hk]; exact hs.apart,by rw [← hk]; exact hs.nodup⟩
  have:=h ⟨none,0⟩ G (PM.le.refl G) rfl SlR.nul w hs2
  rw [← hk] at this; exact this
 have hk:keys (rB (.slice (some ⟨g,0,none⟩) xs.length cap) E xs :: μ)=keys (.blk g (.cells cur E (0,0)) :: μ):=by simp [keys,Res.keys,Value.ownBlock]
 have hs2:Sat G (.blk g (.cells cur E (0,0)) :: μ) w:=by
  refine ⟨hs.sub,fun r hr=>?_,by rw [← hk]; exact hs.apart,by rw [← hk]; exact hs.nodup⟩
  rcases List.mem_cons.1 hr with rfl | hr
  ·exact hg
  exact hs.own r (List.mem_cons_of_mem _ hr)
 have hGg:G g=none:=hs2.apart g (by simp [keys,Res.keys])
 have hsl:SlR (G.add g (.cells cur E (0,0))) 1 aU ⟨some ⟨g,0,none⟩,cap⟩ xs:=by
  refine SlR.ofRow (fun _ _=>rfl) hnc (fun _=>rfl) ?_
  rw [sC]
  intro j u hj w' hs'
  show w'.cell? ⟨g,0+j,none⟩=some u
  rw [Nat.zero_add,cell_of_row w' g j cur E (0,0) (hs' g _ (cH G g _))]
  rw [← htake,List.getElem?_take] at hj
  split at hj
  ·simpa using hj
  cases hj
 have:=tI (fun hle=>h ⟨some ⟨g,0,none⟩,cap⟩ _ hle rfl hsl) w hs2
 rw [← hk] at this; exact this
theorem qO {nm:ByteArray}:∀ {F:List Fi},nm∉F.map Fi.nm→cV nm F=none
 | [],_=>rfl
 | f :: r,h=>by
  rw [List.map_cons,List.mem_cons,not_or] at h
  rw [cV,if_neg (fun e=>h.1 e.symm)]; exact qO h.2
theorem aIK {nm:ByteArray}:∀ {F:List Fi},nm∈F.map Fi.nm→∃ f,cV nm F=some f
 | [],h=>by cases h
 | f :: r,h=>by
  rw [cV]
  by_cases q:f.nm=nm
  ·rw [if_pos q]; exact ⟨f,rfl⟩
  ·rw [if_neg q]
   rw [List.map_cons,List.mem_cons] at h
   exact aIK (h.resolve_left fun e=>q e.symm)
def qZ (x:ByteArray):List ByteArray→List ByteArray
 | []=>[]
 | y :: r=>if y=x then r else y :: qZ x r
theorem aEP {nm:ByteArray}:∀ {F:List Fi},(gI nm F).map Fi.nm=qZ nm (F.map Fi.nm)
 | []=>rfl
 | f :: r=>by
  rw [gI,List.map_cons,qZ]
  by_cases q:f.nm=nm
  ·rw [if_pos q,if_pos q]
  ·rw [if_neg q,if_neg q,List.map_cons,aEP]
theorem sz3:(bP 3 0).size=15:=by kernel_rfl
theorem sz5:(bP 5 0).size=11:=by kernel_rfl
theorem sz4:(bP 4 0).size=7:=by kernel_rfl
theorem sz1:(bP 1 1).size=10:=by kernel_rfl
theorem aJU:jG (bP 3 0):=⟨by rw [sz3]; decide,by rw [sz3]; decide⟩
theorem aAZ:jG (bP 1 1):=⟨by rw [sz1]; decide,by rw [sz1]; decide⟩
theorem aAY {a b:ByteArray} {m k:Nat} (h1:a.size=m) (h2:b.size=k) (h:m≠k):a≠b:=fun e=>h (by rw [← h1,←h2,e])
theorem aRt:bP 5 0∉[bP 3 0]:=fun h=>aAY sz5 sz3 (by decide) (List.mem_singleton.1 h)
theorem aRs:bP 4 0∉[bP 3 0]:=fun h=>aAY sz4 sz3 (by decide) (List.mem_singleton.1 h)
theorem xW:bP 1 1∉[bP 3 0,bP 4 0]:=fun h=>by
 rcases List.mem_cons.1 h with h | h
 ·exact aAY sz1 sz3 (by decide) h
 ·exact aAY sz1 sz4 (by decide) (List.mem_singleton.1 h)
theorem aKJ:qZ (bP 5 0) [bP 3 0,bP 5 0]=[bP 3 0]:=by
 rw [qZ,if_neg (aAY sz3 sz5 (by decide)),qZ,if_pos rfl]
theorem aVo {F:List Fi} {f:Fi} {clk n:Nat} {nm:ByteArray} (hD:DkR F clk) (h1:f.nm=nm) (h2:f.n=n) (h3:f.born=clk) (hab:cV nm F=none) (hg:nm.size≤100) (hs:cR F+n≤1000000000) (hc:F.length<100) :
  DkR (iT nm (F++[f])) (clk+1)∧(iT nm (F++[f])).map Fi.nm=F.map Fi.nm++[nm]∧cR (iT nm (F++[f]))=cR F+n:=by
 have hD2:DkR (F++[f]) (clk+1):=hD.app h3 (by omega) (by rw [h1]; exact hab) (by rw [h1]; exact hg) (by omega)
 refine ⟨hD2.sy,?_,?_⟩
 ·rw [aAM,List.map_append,List.map_cons,List.map_nil,h1]
 rw [xL.1,aCi]; simp only [cR]; omega
theorem aTf {F:List Fi} {f:Fi} {clk:Nat} {nm to:ByteArray} (hD:DkR F clk) (hf:cV nm F=some f) (hab:cV to (gI nm F)=none) (hg:to.size≤100) (hc:F.length<100) :
  DkR (gI nm F++[{ f with nm:=to,born:=clk }]) (clk+1)∧(gI nm F++[{ f with nm:=to,born:=clk }]).map Fi.nm=qZ nm (F.map Fi.nm)++[to]∧cR (gI nm F++[{ f with nm:=to,born:=clk }])=cR F:=by
 have hz:=(xK hf).1
 have hfw:=hD.few
 have hl:=(aAH (nm:=nm) (F:=F)).2
 refine ⟨(hD.del hf).app rfl (by show cR (gI nm F)+f.n≤_; omega) hab hg (by omega),?_,?_⟩
 ·rw [List.map_append,aEP]; rfl
 rw [aCi]; simp only [cR]; omega
def nU (dk tr:Nat) (root:Nat→Y) (o:Opts) (ep:BitVec 64) (held now:Nat):Db:=⟨dk,tr,root,o,ep,State.zero,fO,0#64,0#64,0#64,held,Fl.zero,Fl.zero,Fl.zero,now⟩
def oH (ep:BitVec 64) (n:BitVec 64):Fl:=⟨⟨3#8,0#8,0#64,ep,0#64⟩,n,false⟩
def sA (ep:BitVec 64) (n:BitVec 64):Fl:=⟨⟨1#8,0#8,0#64,ep,1#64⟩,n,false⟩
def Db.d1 (dk tr:Nat) (root:Nat→Y) (o:Opts) (ep:BitVec 64) (held now:Nat):Db:={ nU dk tr root o ep held now with next:=1#64,mn:=oH ep 0#64 }
def Db.d2 (dk tr:Nat) (root:Nat→Y) (o:Opts) (ep:BitVec 64) (held now:Nat):Db:={ nU dk tr root o ep held now with next:=2#64,mn:=oH ep 0#64,lg:=sA ep 0#64 }
def eH (dk tr:Nat) (root:Nat→Y) (o:Opts) (ep:BitVec 64) (held now:Nat):Db:={ nU dk tr root o ep held now with next:=2#64,mn:=oH ep 1#64,lg:=sA ep 0#64,s:=fU 1 2 }
theorem aAz:DkR [] 0:=⟨List.nodup_nil,List.nodup_nil,(fun f hf=>absurd hf List.not_mem_nil),by decide,(fun f hf=>absurd hf List.not_mem_nil),by decide⟩
theorem aVB:u64 1:=⟨by decide,by decide⟩
theorem aVC:u64 2:=⟨by decide,by decide⟩
theorem aHz:((iJ 1 0).cells ⟨none,0⟩ ⟨none,0⟩).set 9 (.slice none 0 0)=(iJ 1 0).cells ⟨none,0⟩ ⟨none,0⟩:=rfl
theorem aPI:((iJ 1 0).cells ⟨none,0⟩ ⟨none,0⟩).set 1 (uv .u64 2#64)=(iJ 1 2).cells ⟨none,0⟩ ⟨none,0⟩:=rfl
theorem aLE {us:ByteArray} {q:BitVec 64}:WayN [Nd.z] us q (fun _=>0):=by
 have h0:∀ k,cU [Nd.z] 0 k=0:=fun _=>rfl
 refine ⟨rfl,fun k _=>Nat.zero_lt_one,fun k _=>.inl ⟨rfl,.inl rfl⟩,fun a ha k _=>?_⟩
 obtain rfl:a=0:=by simpa using ha
 rw [h0]; exact Nat.zero_lt_one
structure Opn where
 kind:Y
 user:ByteArray
 value:ByteArray
def Opn.cells (o:Opn):List Value:=[V o.kind,.string o.user,.string o.value]
def Opn.val (o:Opn):Value:=.agg o.cells.toArray
def Opn.zero:Opn:=⟨0,ByteArray.empty,ByteArray.empty⟩
theorem Opn.len (o:Opn):o.cells.length=3:=rfl
theorem Opn.one (o:Opn):∀ u∈o.cells,u.oneCell'=true:=by
 intro u hu
 simp only [Opn.cells,List.mem_cons,List.not_mem_nil,or_false] at hu
 rcases hu with rfl|rfl|rfl<;>rfl
theorem aJm (l:List Opn):∀ u∈l.flatMap Opn.cells,u.oneCell'=true:=fun u hu=>by
 obtain ⟨x,_,h⟩:=List.mem_flatMap.1 hu; exact x.one u h
structure Opn.ok (o:Opn):Prop where
 kind:o.kind=1#8∨(o.kind=0#8∧o.value.toList=[])
 user:o.user.size≤10
 value:o.value.size≤10
def dX (q:BitVec 64) (o:Opn):Ent:=⟨o.user,q,o.kind,o.value⟩
theorem yE {q:BitVec 64} {o:Opn} (h:o.ok) (hq:q.toNat≤1000):jT (dX q o)=true:=by
 have h1:=h.user; have h2:=h.value
 unfold jT dX
 rcases h.kind with hk | ⟨hk,hv⟩
 ·simp only [hk]
  rw [if_neg (by decide)]
  simp only [Bool.and_eq_true,decide_eq_true_eq]
  exact ⟨⟨⟨by omega,by omega⟩,by omega⟩,trivial⟩
 ·simp only [hk,hv]
  rw [if_pos trivial]
  simp only [Bool.and_eq_true,decide_eq_true_eq]
  exact ⟨⟨⟨by omega,by omega⟩,by omega⟩,rfl⟩
def bT:Nat→List Opn→List Ent
 | _,[]=>[]
 | j,o :: r=>dX (BitVec.ofNat 64 (j+1)) o :: bT (j+1) r
theorem aAF:∀ {l:List Opn} {j:Nat},(bT j l).length=l.length
 | [],_=>rfl
 | o :: r,j=>by rw [bT,List.length_cons,List.length_cons,aAF]
theorem aIA:∀ {l:List Opn} {j k:Nat} {o:Opn},l[k]? = some o→(bT j l)[k]? = some (dX (BitVec.ofNat 64 (j+k+1)) o)
 | [],_,_,_,h=>by simp at h
 | x :: r,j,0,o,h=>by simp only [List.getElem?_cons_zero,Option.some.injEq] at h; subst h; rfl
 | x :: r,j,k+1,o,h=>by
  rw [List.getElem?_cons_succ] at h
  rw [bT,List.getElem?_cons_succ,aIA h]
  rw [show j+1+k+1=j+(k+1)+1 by omega]
theorem aIB:∀ {l:List Opn} {j k:Nat} {o:Opn},l[k]? = some o→bT j (l.take k)++[dX (BitVec.ofNat 64 (j+k+1)) o]=bT j (l.take (k+1))
 | [],_,_,_,h=>by simp at h
 | x :: r,j,0,o,h=>by simp only [List.getElem?_cons_zero,Option.some.injEq] at h; subst h; rfl
 | x :: r,j,k+1,o,h=>by
  rw [List.getElem?_cons_succ] at h
  rw [List.take_succ_cons,List.take_succ_cons,bT,bT,List.cons_append]
  congr 1
  have:=aIB (j:=j+1) h
  rw [← this,show j+1+k+1=j+(k+1)+1 by omega]
theorem aN9 {k:Nat}:BitVec.ofNat 64 (k+1)+1#64=BitVec.ofNat 64 (k+1+1):=by
 apply BitVec.eq_of_toNat_eq
 simp only [BitVec.toNat_add,BitVec.toNat_ofNat]
 omega
theorem aIe {k j:Nat} (hk:k<2) (hj:j≤k) (h:(decide (((BitVec.ofNat 64 (k+1) >>> j).toNat:Int) > 0)&&(((BitVec.ofNat 64 (k+1) >>> j) &&& 1#64).toNat:Int) == 0)=true):j+1≤k:=by
 match k,j,hk,hj with
 | 0,0,_,_=>exact absurd h (by decide)
 | 1,0,_,_=>decide
 | 1,1,_,_=>exact absurd h (by decide)
theorem aPx {k j:Nat} (hk:k<2) (hj:j≤k) (h:(decide (((BitVec.ofNat 64 (k+1) >>> j).toNat:Int) > 0)&&(((BitVec.ofNat 64 (k+1) >>> j) &&& 1#64).toNat:Int) == 0)=false):j=k:=by
 match k,j,hk,hj with
 | 0,0,_,_=>rfl
 | 1,0,_,_=>exact absurd h (by decide)
 | 1,1,_,_=>rfl
theorem aKg (s:ByteArray) (h:s.size<18446744073709551616):(nQ (yb s)).length≤s.size+10:=by
 have:=iD (n:=(yb s).length) (by rw [eQ]; omega)
 rw [nQ,List.length_append,eQ] at *
 omega
def jL (k:Nat):Nat→Nat:=fun j=>if j=0 then k else 0
def cB (es:List Ent):Nat→List Nd
 | 0=>[Nd.z]
 | k+1=>nJ (jL k) (k+1) (cB es k++[(es.getD k Ent.zero,fun _=>0)]) (k+1)
theorem uM {es:List Ent}:∀ {k:Nat},(cB es k).length=k+1
 | 0=>rfl
 | k+1=>by rw [cB,pN,List.length_append,uM]; rfl
theorem oL {es:List Ent} {k:Nat} {e:Ent} (h:es[k]? = some e):cB es (k+1)=nJ (jL k) (cB es k).length (cB es k++[(e,fun _=>0)]) (k+1):=by
 rw [cB,uM]
 have:es.getD k Ent.zero=e:=by rw [List.getD_eq_getElem?_getD,h]; rfl
 rw [this]
theorem aI7 {es:List Ent} {e:Ent} (h:es[0]? = some e):cB es 1=[(Ent.zero,fun j=>if j=0 then 1 else 0),(e,fun j=>if j=0 then 0 else 0)]:=by
 rw [oL h]; rfl
theorem aVZ {es:List Ent} {e:Ent} {us:ByteArray} {q:BitVec 64} (h:es[0]? = some e) (ha:pD e us q=true):WayN (cB es 1) us q (jL 1):=by
 rw [aI7 h]
 have n0:∀ k,cU [(Ent.zero,fun j=>if j=0 then 1 else 0),(e,fun j=>if j=0 then 0 else 0)] 0 k=if k=0 then 1 else 0:=fun _=>rfl
 have n1:∀ k,cU [(Ent.zero,fun j=>if j=0 then 1 else 0),(e,fun j=>if j=0 then 0 else 0)] 1 k=0:=fun k=>by show (if k=0 then 0 else 0)=0; split<;>rfl
 refine ⟨rfl,fun k _=>?_,fun k _=>?_,fun a hl k _=>?_⟩
 ·unfold jL; split<;>simp
 ·by_cases hk:k=0
  ·subst hk
   refine .inr ⟨rfl,by rw [show jL 1 (0+1)=0 from rfl,n0]; decide,?_,.inl (n1 0)⟩
   rw [show jL 1 (0+1)=0 from rfl,n0]; exact ha
  have e1:jL 1 k=0:=if_neg hk
  have e2:jL 1 (k+1)=0:=rfl
  exact .inl ⟨e1.trans e2.symm,.inl (by rw [e2,n0,if_neg hk])⟩
 have:a=0∨a=1:=by simp at hl; omega
 rcases this with rfl|rfl
 ·rw [n0]; split<;>simp
 rw [n1]; simp
theorem aVa {l:List Opn} {k:Nat} {o:Opn} {q:BitVec 64} (hk:k<2) (ho:l[k]? = some o) (hord:l.length=2→lt (l.getD 0 Opn.zero).user (l.getD 1 Opn.zero).user=true) (hl:l.length≤2) :
  WayN (cB (bT 0 l) k) o.user q (jL k)∧cU (cB (bT 0 l) k) (jL k 0) 0=0:=by
 match k,hk with
 | 0,_ =>
  have e:jL 0=fun _=>0:=by funext j; unfold jL; split<;>rfl
  rw [e]
  exact ⟨aLE,rfl⟩
 | 1,_ =>
  match l,ho,hord,hl with
  | [a,b],ho,hord,_ =>
   simp only [List.getElem?_cons_succ,List.getElem?_cons_zero,Option.some.injEq] at ho
   subst ho
   have h0:(bT 0 [a,b])[0]? = some (dX (BitVec.ofNat 64 1) a):=rfl
   refine ⟨aVZ h0 ?_,?_⟩
   ·unfold pD
    have:lt a.user b.user=true:=hord rfl
    show (lt a.user b.user||_)=true
    rw [this]; rfl
   rw [aI7 h0]; rfl
  | [],ho,_,_=>simp at ho
  | [a],ho,_,_=>simp at ho
  | a :: b :: c :: r,_,_,hl=>simp at hl
def aG (l:List UInt8):ByteArray:=⟨l.toArray⟩
def bB (c:UInt8):List UInt8→List UInt8×List UInt8×Bool
 | []=>([],[],false)
 | x :: r=>if x=c then ([],r,true) else (x :: (bB c r).1,(bB c r).2.1,(bB c r).2.2)
structure Ln where
 rest:List UInt8
 pos:Nat
 more:Bool
 last:Nat
def Ln.cells (l:Ln):List Value:=[.string (aG l.rest),.int .i64 (l.pos:Int),.bool l.more,.int .i64 (l.last:Int)]
def bV (l:Ln):Except Nat (List UInt8×Ln) :=
 if l.more=true then
  if (bB 32 l.rest).1=[] then .error l.pos
  else .ok ((bB 32 l.rest).1,⟨(bB 32 l.rest).2.1,l.pos+(bB 32 l.rest).1.length+(if (bB 32 l.rest).2.2=true then 1 else 0),(bB 32 l.rest).2.2,l.pos⟩)
 else .error l.pos
def fC (c:UInt8):Bool:=decide (48≤c.toNat)&&decide (c.toNat≤57)
def iE (d:List UInt8):Nat:=d.foldl (fun n c=>n*10+(c.toNat-48)) 0
def eF (s:List UInt8):Bool:=decide (s.head? = some 45)
def bD (s:List UInt8):List UInt8:=if eF s=true then s.tail else s
def iX (s:List UInt8):Bool:=(bD s).all fC && !decide (bD s=[])&&decide ((bD s).length≤9) && !(decide ((bD s).head? = some 48) && !decide (s=[48]))
def jJ (s:List UInt8):Option Int:=if iX s=true then some (if eF s=true then -(iE (bD s):Int) else (iE (bD s):Int)) else none
def gB (l:Ln):Except Nat (List UInt8×Ln) :=
 match bV l with
 | .error e=>.error e
 | .ok (s,l')=>.ok (if s=[46] then [] else s,l')
def dN (l:Ln):Except Nat (Int×Ln) :=
 match bV l with
 | .error e=>.error e
 | .ok (s,l')=>match jJ s with
  | some n=>.ok (n,l')
  | none=>.error l'.last
def gJ (l:Ln):Except Nat (BitVec 64×Ln) :=
 match bV l with
 | .error e=>.error e
 | .ok (s,l') =>
  if s=[110,111,119] then .ok (18446744073709551615#64,l')
  else match jJ s with
   | some n=>if 0≤n then .ok (BitVec.ofInt 64 n,l') else .error l'.last
   | none=>.error l'.last
def eG (l:Ln):Except Nat (Opn×Ln) :=
 match bV l with
 | .error e=>.error e
 | .ok (s,l') =>
  if eF s=true then .ok (⟨0#8,aG s.tail,⟨#[]⟩⟩,l')
  else if (bB 61 s).2.2=true∧(bB 61 s).1.head? = some 43 then .ok (⟨1#8,aG (bB 61 s).1.tail,aG (bB 61 s).2.1⟩,l')
  else .error l'.last
def iY:Nat→Ln→Except Nat (List Opn×Ln)
 | 0,l=>.ok ([],l)
 | n+1,l=>if l.more=true then
   match eG l with
   | .error e=>.error e
   | .ok (o,l')=>match iY n l' with
    | .error e=>.error e
    | .ok (os,l2)=>.ok (o :: os,l2)
  else .ok ([],l)
def lT:Nat→Ln→Except Nat (List Int×Ln)
 | 0,l=>.ok ([],l)
 | n+1,l=>if l.more=true then
   match dN l with
   | .error e=>.error e
   | .ok (o,l')=>match lT n l' with
    | .error e=>.error e
    | .ok (os,l2)=>.ok (o :: os,l2)
  else .ok ([],l)
structure EvD where
 kind:Y
 client:Int
 ops:List Opn
 sync:Bool
 lo:List UInt8
 hi:List UInt8
 moment:BitVec 64
 n:Int
 keep:List Int
 name:List UInt8
 bytes:List UInt8
def EvD.zero:EvD:=⟨0#8,0,[],false,[],[],0#64,0,[],[],[]⟩
def vT:List UInt8:=[119,114,105,116,101]
def eP:List UInt8:=[115,121,110,99]
def jW:List UInt8:=[108,97,122,121]
def vJ:List UInt8:=[103,101,116]
def vR:List UInt8:=[115,99,97,110]
def vK:List UInt8:=[104,111,108,100]
def vN:List UInt8:=[108,101,116]
def vP:List UInt8:=[112,105,99,107]
def vQ:List UInt8:=[114,111,116,97,116,101]
def vH:List UInt8:=[99,117,116]
def vG:List UInt8:=[99,114,97,115,104]
def vO:List UInt8:=[111,112,101,110]
def vF:List UInt8:=[99,108,111,115,101]
def vM:List UInt8:=[108,97,121]
def vI:List UInt8:=[100,114,111,112]
def aZ {α β:Type}:Except Nat (α×Ln)→(α→Ln→Except Nat β)→Except Nat β
 | .error e,_=>.error e
 | .ok (a,l),f=>f a l
def cJ (l:Ln) (e:EvD):Except Nat EvD:=if l.more=true then .error l.pos else .ok e
def iR (l:Ln):Except Nat EvD :=
 aZ (bV l) fun w l1 =>
  if w=vT then aZ (dN l1) fun c l2=>aZ (bV l2) fun how l3 =>
   if how=eP∨how=jW then aZ (eG l3) fun o l4=>aZ (iY (l4.rest.length+1) l4) fun os l5=>cJ l5 { EvD.zero with kind:=1#8,client:=c,ops:=o :: os,sync:=decide (how=eP) }
   else .error l3.last
  else if w=vJ then aZ (gB l1) fun a l2=>aZ (gJ l2) fun m l3=>cJ l3 { EvD.zero with kind:=2#8,lo:=a,moment:=m }
  else if w=vR then aZ (gB l1) fun a l2=>aZ (gB l2) fun b l3=>aZ (gJ l3) fun m l4=>cJ l4 { EvD.zero with kind:=3#8,lo:=a,hi:=b,moment:=m }
  else if w=vK then cJ l1 { EvD.zero with kind:=4#8 }
  else if w=vN then aZ (gJ l1) fun m l2=>cJ l2 { EvD.zero with kind:=5#8,moment:=m }
  else if w=vP then aZ (dN l1) fun n l2=>cJ l2 { EvD.zero with kind:=6#8,n:=n }
  else if w=vQ then aZ (dN l1) fun n l2=>cJ l2 { EvD.zero with kind:=7#8,n:=n }
  else if w=vH then aZ (dN l1) fun n l2=>cJ l2 { EvD.zero with kind:=8#8,n:=n }
  else if w=vG then aZ (lT (l1.rest.length+1) l1) fun ns l2=>cJ l2 { EvD.zero with kind:=9#8,keep:=ns }
  else if w=vO then cJ l1 { EvD.zero with kind:=10#8 }
  else if w=vF then cJ l1 { EvD.zero with kind:=11#8 }
  else if w=vM then aZ (bV l1) fun a l2=>aZ (gB l2) fun b l3=>cJ l3 { EvD.zero with kind:=12#8,name:=a,bytes:=b }
  else if w=vI then aZ (bV l1) fun a l2=>cJ l2 { EvD.zero with kind:=13#8,name:=a }
  else .error l1.last
def aFP (c:UInt8):Bool:=decide (32≤c.toNat)&&decide (c.toNat<127)
def kT (s:List UInt8):Except Nat EvD:=iR ⟨s,0, !decide (s=[]),0⟩
theorem xE (c:UInt8):∀ l:List UInt8,(bB c l).1.length+(bB c l).2.1.length+(if (bB c l).2.2=true then 1 else 0)=l.length
 | []=>rfl
 | x :: r=>by
  unfold bB
  by_cases h:x=c
  ·rw [if_pos h]; simp
  ·rw [if_neg h]
   have:=xE c r
   simp only [List.length_cons]
   omega
theorem aHl (c:UInt8):∀ l:List UInt8,(bB c l).2.2=false→(bB c l).1=l∧(bB c l).2.1=[]
 | [],_=>⟨rfl,rfl⟩
 | x :: r,h=>by
  unfold bB at h ⊢
  by_cases hx:x=c
  ·rw [if_pos hx] at h; cases h
  ·rw [if_neg hx] at h ⊢
   have:=aHl c r h
   exact ⟨by rw [this.1],this.2⟩
theorem aIm (c:UInt8):∀ l:List UInt8,Lib.index l [c] = -1∨0≤Lib.index l [c]
 | []=>.inl rfl
 | b :: l=>by
  unfold Lib.index
  split
  ·exact .inr (Int.le_refl 0)
  ·rcases aIm c l with h | h
   ·rw [h]; exact .inl rfl
   ·rw [if_neg (by simp; omega)]; exact .inr (by omega)
theorem aHm (c:UInt8):∀ l:List UInt8,Lib.cut l [c]=bB c l
 | []=>rfl
 | b :: l=>by
  have ih:=aHm c l
  unfold Lib.cut at ih ⊢
  unfold bB Lib.index
  by_cases h:b=c
  ·subst h
   rw [if_pos rfl]
   simp [List.isPrefixOf]
  ·rw [if_neg h]
   have hp : [c].isPrefixOf (b :: l)=false:=by simp [List.isPrefixOf]; exact fun e=>h e.symm
   rw [hp]
   by_cases hi:Lib.index l [c] = -1
   ·rw [hi] at ih ⊢
    simp at ih ⊢
    rw [← ih]
    exact ⟨rfl,rfl,rfl⟩
   ·have hg:0≤Lib.index l [c]:=by rcases aIm c l with h | h; exact absurd h hi; exact h
    have e1:(if (Lib.index l [c] == -1)=true then (-1:Int) else Lib.index l [c]+1)=Lib.index l [c]+1:=by rw [if_neg (by simpa using hi)]
    rw [if_pos hg] at ih
    simp only [Bool.false_eq_true,if_false]
    rw [e1,if_pos (by omega),←ih]
    have h1:(Lib.index l [c]+1).toNat=(Lib.index l [c]).toNat+1:=by omega
    rw [h1]
    simp
theorem Tr.drewN {G0 G:PM} {K0:List Nat} {w0 w:World} {μ:aH} (h:Tr G0 K0 w0 G μ w):∀ n,Tr G0 K0 w0 G μ (w.drewN n)
 | 0=>h
 | n+1=>(h.drewN n).drew
theorem Tr.grow {G0 G:PM} {K0:List Nat} {w0 w:World} {μ:aH} (h:Tr G0 K0 w0 G μ w) (os:Array Obj):Tr G0 K0 w0 G μ (Sort.grow w os):=by
 have hlt:=h.sat.key_lt
 have hold:∀ b,b<w.heap.size→(Sort.grow w os).heap[b]? = w.heap[b]?:=fun b hb=>by
  show (w.heap++os)[b]? = w.heap[b]?
  exact Array.getElem?_append_left hb
 have hsub:∀ b o,G b=some o→b<w.heap.size:=fun b o hb=>(Array.getElem?_eq_some_iff.1 (h.sat.sub b o hb)).1
 exact ⟨⟨fun b o hb=>by rw [hold b (hsub b o hb)]; exact h.sat.sub b o hb,fun r hr=>zU (h.sat.own r hr) fun b hb=>hold b (hlt b (List.mem_flatMap.2 ⟨r,hr,hb⟩)),h.sat.apart,h.sat.nodup⟩,h.os,h.tape,h.output,
  Nat.le_trans h.size (by show _≤(w.heap++os).size; simp),fun b hb hK=>by rw [hold b (Nat.lt_of_lt_of_le hb h.size)]; exact h.old b hb hK,h.mine,h.le⟩
theorem aHj {P:Program} {f:FuncId} {args:Array Value} {G:PM} {v:Value} (h:∀ w,Sat G [] w→Calls P f args w (fun e w'=>e=.returned v∧∃ k os,w'=Sort.grow (w.drewN k) os)):Ct P f args G [] (fun _ μ' u=>μ'=[]∧u=v):=fun w hs=>by
 refine (h w hs).mono ?_
 rintro e w' ⟨rfl,k,os,rfl⟩
 exact ⟨v,G,[],rfl,((eK hs).drewN k).grow os,rfl,rfl⟩
def mW (T e:Nat):PanicEntry:={ v:=.iface T (.agg #[.int .i64 (e:Int)]),recovered:=false }
def rI (T e:Nat):PanicEntry:={ v:=.iface T (.agg #[.int .i64 (e:Int)]),recovered:=true }
def aBu (P:Program) (T be ba bc TE TI TC m:Nat) (zs:List Value) (v3:Value) (D:Nat→Prop) (rs:List ResultVar) (vs:Nat→List Value):List PanicEntry→aI→PM→aH→Prop:=fun ch ρ G μ =>
 ∃ e,ch=[mW T e]∧D e∧∃ es x y μ',es.length=m∧μ.Perm (.blk be (cl es TE) :: .blk ba (cl [x] TI) :: .blk bc (cl [y] TC) :: μ')∧Rs P ρ G (.blk be (cl zs TE) :: .blk ba (cl [.int .i64 (e:Int)] TI) :: .blk bc (cl [v3] TC) :: μ') rs (vs e)
theorem aHt {P:Program} {T be ba bc TE TI TC m:Nat} {zs es:List Value} {v3 x y:Value} {D:Nat→Prop} {rs:List ResultVar} {vs:Nat→List Value} {ch:List PanicEntry} {ρ ρ':aI} {G:PM} {μ' μ₂ μ3 μ4 μ5:aH} (hd:∃ e,ch=[mW T e]∧D e) (he:∀ i,cK ρ' i=cK ρ i) (hm:μ'.Perm μ₂)
  (t1:MTake μ₂ (.blk be (cl es TE)) μ3) (hl:es.length=m) (t2:MTake μ3 (.blk ba (cl [x] TI)) μ4) (t3:MTake μ4 (.blk bc (cl [y] TC)) μ5)
  (hR:∀ e:Nat,Rs P ρ G (.blk be (cl zs TE) :: .blk ba (cl [.int .i64 (e:Int)] TI) :: .blk bc (cl [v3] TC) :: μ5) rs (vs e)):aBu P T be ba bc TE TI TC m zs v3 D rs vs ch ρ' G μ':=by
 obtain ⟨e,h1,h2⟩:=hd
 exact ⟨e,h1,h2,es,x,y,μ5,hl,hm.trans (jI t1 t2 t3),(hR e).congr he⟩
theorem aHu {X:Cx} {q:DQ} {T be ba bc TE TI TC m:Nat} {zs:List Value} {v3:Value} {D:Nat→Prop} {rs:List ResultVar} {vs:Nat→List Value} (hf:aJ X.P q.f=true) (hr:X.fn.results=rs.toArray) (h0:X.n.ds=[])
  (hc:∀ w G e es x y,Sat G [.blk be (cl es TE),.blk ba (cl [x] TI),.blk bc (cl [y] TC)] w→es.length=m→CallsD X.P q.f (q.args++q.vc).toArray (.panicking [mW T e]) w (fun r u' w'=>(∃ v,r=.returned v)∧u'=.panicking [rI T e]∧Tr G (keys [.blk be (cl es TE),.blk ba (cl [x] TI),.blk bc (cl [y] TC)]) w G [.blk be (cl zs TE),.blk ba (cl [.int .i64 (e:Int)] TI),.blk bc (cl [v3] TC)] w'))
  (hp:∀ e,D e→∀ G',X.post G' [] (gO (vs e))) :
  ∀ ch ρ G μ a w,aBu X.P T be ba bc TE TI TC m zs v3 D rs vs ch ρ G μ→Ag ⟨X.n.n,q.d :: X.n.ds,aBu X.P T be ba bc TE TI TC m zs v3 D rs vs⟩ ρ a→Tr X.G0 X.K0 X.w0 G μ w→Leaves X.P X.fn a.tmps (RR X.post X.die X.G0 X.K0 X.w0) a.defers (.panicking ch) w:=by
 rintro ch ρ G μ a w ⟨e,rfl,hD,es,x,y,μ',hl,hm,hR⟩ ha ht
 rw [ha.defers,h0]
 have ht1:Tr X.G0 X.K0 X.w0 G ([.blk be (cl es TE),.blk ba (cl [x] TI),.blk bc (cl [y] TC)]++μ') w:=ht.perm hm
 refine leaves_cons (by simp) (f:=q.f) (args:=(q.args++q.vc).toArray) (by simp [invoke,aAi hf]) ((hc w G e es x y ht1.sat.left hl).mono ?_)
 rintro r u' w' ⟨⟨v,rfl⟩,rfl,h2⟩
 have ht7:=ht1.step h2
 show Leaves X.P X.fn a.tmps _ [] (settle (.panicking [rI T e])) _
 have hs:settle (.panicking [rI T e])=.returning:=by simp [settle,rI]
 rw [hs]
 exact ⟨_,aFB (by rw [hr]; exact hR) ha ht7.sat,.inl ⟨_,G,[],rfl,mN.tr ht7,hp e hD G⟩⟩
def srT (P:Program) (T:TypeId):Bool:=match P.underlying T with | some (.struct _)=>true | _=>false
section
variable {dr:Bool} {mc:Md} {P:Program} {n:Fm} {l:List Oper} {K:aI→PM→aH→Prop} {i:Nat} {σ:List Nat} {ρ:aI} {G:PM} {μ:aH}
variable {d t:Nat} {p:String} {af:Array Edge}
theorem kN {T:TypeId} {x:Operand} {v:Value} (ho:nth l i=some ⟨some d,.makeInterface T x,t,p,af,none⟩) (hT:srT P T=true) (hx:Ev ρ true x v)
  (h:Wo dr mc P n l K σ ((d,true,.iface T v) :: ρ) G μ):Wo dr mc P n l K (i :: σ) ρ G μ:=by
 refine .read (v:=.iface T v) ho (.inl rfl) .no (fun _ a w ha _=>?_) h
 have h5:a.eval x=v:=hx.eval ha rfl
 unfold srT at hT
 split at hT
 ·rename_i fs hu
  simp [execOp,h5,Instr.makeInterface,run_underlying hu]
 cases hT
theorem tA {S T:TypeId} {x:Operand} {v:Value} (ho:nth l i=some ⟨some d,.typeAssert x S T false,t,p,af,none⟩) (hT:srT P T=true) (hx:Ev ρ true x (.iface T v))
  (h:Wo dr mc P n l K σ ((d,true,v) :: ρ) G μ):Wo dr mc P n l K (i :: σ) ρ G μ:=by
 refine .act (μ₁:=[]) (μ₂:=μ) (post:=fun G' μ' u=>G'=G∧μ'=[]∧u=v) ho (.inl rfl) .no (.refl _) (fun a w ha hs=>.inl ?_) ?_
 ·have h5:a.eval x=.iface T v:=hx.eval ha rfl
  refine ⟨v,w,G,[],.inl ?_,eK (Sat.left (μ:=[]) hs),rfl,rfl,rfl⟩
  unfold srT at hT
  split at hT
  ·rename_i fs hu
   simp [execOp,h5,Instr.typeAssert,Sem.run_bind,run_underlying hu]
  cases hT
 rintro u G' μ'' _ ⟨rfl,rfl,rfl⟩
 exact h
end
theorem aHk (c:UInt8) (l:List UInt8):bB c l=if 0≤Lib.indexByte l c then (l.take (Lib.indexByte l c).toNat,l.drop ((Lib.indexByte l c).toNat+1),true) else (l,[],false):=by
 rw [← aHm,Lib.cut,Lib.index_one]; rfl
theorem aCA (c:UInt8):∀ l:List UInt8,Lib.indexByte l c<l.length
 | []=>by simp [Lib.indexByte]
 | b :: l=>by
  have ih:=aCA c l
  unfold Lib.indexByte
  simp only [List.length_cons]
  split
  ·omega
  ·split<;>omega
theorem aKu (l:List UInt8):(aG l).data.toList=l:=rfl
theorem dJ (l:List UInt8):(aG l).size=l.length:=rfl
theorem aVF (x:UInt8):UInt8.ofNat (BitVec.ofNat 8 x.toNat).toNat=x:=by
 have:=x.toNat_lt
 simp only [BitVec.toNat_ofNat]
 rw [Nat.mod_eq_of_lt (by omega)]
 exact UInt8.ofNat_toNat
theorem vC (l:List UInt8):aG l=cA (l.map fun x=>BitVec.ofNat 8 x.toNat):=aDs (by
 rw [aKu,List.map_map]
 conv=>lhs; rw [← List.map_id l]
 exact List.map_congr_left fun x _=>(aVF x).symm)
theorem kZ (l:List UInt8):yb (aG l)=l.map fun x=>BitVec.ofNat 8 x.toNat:=by rw [vC,aV5]
theorem aVA (l:List UInt8) (k:Nat):cA ((yb (aG l)).take k)=aG (l.take k):=by rw [kZ,vC,List.map_take]
theorem vE (l:List UInt8) (k:Nat):cA ((yb (aG l)).drop k)=aG (l.drop k):=by rw [kZ,vC,List.map_drop]
theorem aKv (l:List UInt8):(aG l).toList=l:=by rw [ByteArray.toList_eq,aKu]
theorem fD (a b:List UInt8):((aG a).toList == (aG b).toList)=decide (a=b):=by rw [aKv,aKv]; by_cases h:a=b<;>simp [h]
theorem aBo {P:Program} {f:FuncId} {args:Array Value} {G:PM} {v:Value} (h:∀ w,Calls P f args w (fun e w'=>e=.returned v∧w'=w)):Ct P f args G [] (fun _ μ' u=>μ'=[]∧u=v):=fun w hs=>by
 refine (h w).mono ?_
 rintro e w' ⟨rfl,rfl⟩
 exact ⟨v,G,[],rfl,eK hs,rfl,rfl⟩
theorem aLK {l:Ln} (h:l.more=true) (hb:(!((aG (bB 32 l.rest).1).toList == (⟨#[]⟩ : ByteArray).toList))=false):bV l=.error l.pos:=by
 have h2:(bB 32 l.rest).1=[]:=by
  have h3:(!((aG (bB 32 l.rest).1).toList == (aG []).toList))=false:=hb
  rw [fD] at h3; simpa using h3
 unfold bV; rw [if_pos h,if_pos h2]
theorem aLL {l:Ln} (h:l.more=true) (hb:(!((aG (bB 32 l.rest).1).toList == (⟨#[]⟩ : ByteArray).toList))=true):bV l=.ok ((bB 32 l.rest).1,⟨(bB 32 l.rest).2.1,l.pos+(bB 32 l.rest).1.length+(if (bB 32 l.rest).2.2=true then 1 else 0),(bB 32 l.rest).2.2,l.pos⟩):=by
 have h2:¬ (bB 32 l.rest).1=[]:=fun e=>by
  have h3:(!((aG (bB 32 l.rest).1).toList == (aG []).toList))=true:=hb
  rw [fD,e] at h3; simp at h3
 unfold bV; rw [if_pos h,if_neg h2]
theorem aOd (c:UInt8) (l:List UInt8):(bB c l).1.length≤l.length:=by
 have:=xE c l
 split at this<;>omega
theorem aEd (c:UInt8) (s:List UInt8):Lib.hasPrefix s [c]=decide (s.head? = some c):=by
 unfold Lib.hasPrefix
 match s with
 | []=>rfl
 | x :: r =>
  simp only [List.isPrefixOf,Bool.and_true,List.head?_cons,Option.some.injEq]
  by_cases h:x=c
  ·subst h; simp
  ·have:¬ c=x:=fun e=>h e.symm
   simp [h,this]
def hZ (s:ByteArray) (p:Nat):Array Value:=if p<s.size then #[.bool true,.int .i64 (p:Int),.int .i32 ((Utf8.decode s p).1:Int)] else #[.bool false]
def xN (s:ByteArray) (p:Nat):Value:=.tuple (hZ s p)
theorem aB8 (s:ByteArray) (p:Nat):(hZ s p).toList[0]? = some (.bool (decide (p<s.size))):=by
 unfold hZ
 by_cases h:p<s.size
 ·rw [if_pos h,decide_eq_true h]; rfl
 ·rw [if_neg h,decide_eq_false h]; rfl
theorem aB9 {s:ByteArray} {p:Nat} (h:p<s.size):(hZ s p).toList[2]? = some (.int .i32 ((Utf8.decode s p).1:Int)):=by
 unfold hZ
 rw [if_pos h]; rfl
def iB (s:ByteArray) (p:Nat):Nat:=if p<s.size then p+(Utf8.decode s p).2 else p
section
variable {dr:Bool} {mc:Md} {P:Program} {n:Fm} {l:List Oper} {K:aI→PM→aH→Prop} {i:Nat} {σ:List Nat} {ρ:aI} {G:PM} {μ:aH}
variable {d t:Nat} {p:String} {af:Array Edge}
theorem rgT {T:TypeId} {x:Operand} {s:ByteArray} (ho:nth l i=some ⟨some d,.range T x,t,p,af,none⟩) (hT:jU P T=true) (hx:Ev ρ true x (.string s))
  (h:∀ bi,Wo dr mc P n l K σ ((d,true,.pointer (some ⟨bi,0,none⟩)) :: ρ) G (.blk bi (.stringIter s 0) :: μ)):Wo dr mc P n l K (i :: σ) ρ G μ:=by
 refine .act (μ₁:=[]) (μ₂:=μ) (post:=fun G' μ' v=>∃ bi,G'=G∧μ'=[.blk bi (.stringIter s 0)]∧v=.pointer (some ⟨bi,0,none⟩)) ho (.inl rfl) .no (.refl _) (fun a w ha hs=>.inl ?_) ?_
 ·have h1:P.underlying T=some .string:=by unfold jU at hT; split at hT<;>first|assumption | cases hT
  have h0:Tr G (keys []) w G (.blk w.heap.size (.stringIter s 0) :: []) (w.alloc (.stringIter s 0)):=(eK (Sat.left (μ:=[]) hs)).alloc _
  exact ⟨.pointer (some ⟨w.heap.size,0,none⟩),w.alloc (.stringIter s 0),G,[_],.inl (by simp [execOp,hx.eval ha rfl,Instr.range,Sem.run_bind,run_underlying h1]),h0,w.heap.size,rfl,rfl,rfl⟩
 rintro v G' μ'' _ ⟨b,rfl,rfl,rfl⟩
 exact h b
theorem aCR {bi:Nat} {x:Operand} {s:ByteArray} {q:Nat} {μ1:aH} (ho:nth l i=some ⟨some d,.next x true,t,p,af,none⟩) (hx:Ev ρ true x (.pointer (some ⟨bi,0,none⟩))) (hm:MTake μ (.blk bi (.stringIter s q)) μ1)
  (h:Wo dr mc P n l K σ ((d,true,xN s q) :: ρ) G (.blk bi (.stringIter s (iB s q)) :: μ1)):Wo dr mc P n l K (i :: σ) ρ G μ:=by
 refine .act (μ₁:=[.blk bi (.stringIter s q)]) (μ₂:=μ1) (post:=fun G' μ' v=>G'=G∧μ'=[.blk bi (.stringIter s (iB s q))]∧v=xN s q) ho (.inl rfl) .no hm.perm (fun a w ha hs=>.inl ?_) ?_
 ·have hi:w.heap[bi]? = some (.stringIter s q):=hs.left.own (.blk bi _) (List.mem_singleton.2 rfl)
  have hgi:(getObj bi).run P w=.ok (.stringIter s q) w:=by simp [getObj,Sem.run,hi]
  have htr:Tr G (keys [.blk bi (.stringIter s q)]) w G [.blk bi (.stringIter s q)] w:=eK hs.left
  by_cases hq:q<s.size
  ·have hset:(setObj bi (.stringIter s (q+(Utf8.decode s q).2))).run P w=.ok () { w with heap:=w.heap.setIfInBounds bi (.stringIter s (q+(Utf8.decode s q).2)) }:=by simp [setObj,Sem.run,hi]
   refine ⟨xN s q,{ w with heap:=w.heap.setIfInBounds bi (.stringIter s (iB s q)) },G,[.blk bi (.stringIter s (iB s q))],.inl ?_,htr.setT (by simp [keys,Res.keys]),rfl,rfl,rfl⟩
   unfold xN hZ iB
   rw [if_pos hq,if_pos hq]
   simp [execOp,hx.eval ha rfl,Instr.next,Sem.run_bind,hgi,hq,hset,goInt]
  refine ⟨xN s q,w,G,[.blk bi (.stringIter s (iB s q))],.inl ?_,by unfold iB; rw [if_neg hq]; exact htr,rfl,rfl,rfl⟩
  unfold xN hZ
  rw [if_neg hq]
  simp [execOp,hx.eval ha rfl,Instr.next,Sem.run_bind,hgi,hq]
 rintro v G' μ'' _ ⟨rfl,rfl,rfl⟩
 exact h
end
theorem aVp {r:Int} (h1 : -2147483648≤r) (h2:r≤2147483647):IntKind.i32.wrap r=r:=by
 unfold IntKind.wrap
 show (if (true&&decide (r%(2^32:Int)≥(2^31:Int)))=true then r%(2^32:Int)-(2^32:Int) else r%(2^32:Int))=r
 simp only [Bool.true_and,decide_eq_true_eq]
 split<;>omega
theorem aO4 {d:List UInt8} {k:Nat} (h:k<d.length) (h1:48≤(Utf8.decode (aG d) k).1) (h2:(Utf8.decode (aG d) k).1≤57):∃ c,d[k]? = some c∧c.toNat=(Utf8.decode (aG d) k).1∧fC c=true∧iB (aG d) k=k+1:=by
 have hk:k<(aG d).size:=h
 by_cases ha:((aG d)[k]'hk).toNat<128
 ·have he:=decode_ascii (aG d) k hk ha
  refine ⟨d[k],List.getElem?_eq_getElem h,by rw [he]; rfl,?_,by unfold iB; rw [if_pos hk,he]⟩
  rw [he] at h1 h2
  have h3:(d[k]).toNat=((aG d)[k]'hk).toNat:=rfl
  unfold fC
  rw [h3,decide_eq_true h1,decide_eq_true h2]; rfl
 have:=(decode_high (aG d) k hk (by omega)).1
 omega
theorem aO1 {d:List UInt8} {k:Nat} (h:k<d.length) (hb:(Utf8.decode (aG d) k).1<48∨57<(Utf8.decode (aG d) k).1):d.all fC=false:=by
 have hk:k<(aG d).size:=h
 rw [List.all_eq_false]
 refine ⟨d[k],List.getElem_mem h,?_⟩
 by_cases ha:((aG d)[k]'hk).toNat<128
 ·have he:=decode_ascii (aG d) k hk ha
  rw [he] at hb
  have h3:(d[k]).toNat=((aG d)[k]'hk).toNat:=rfl
  unfold fC
  rw [h3]
  simp only [Bool.and_eq_true,decide_eq_true_eq]
  omega
 have h3:(d[k]).toNat=((aG d)[k]'hk).toNat:=rfl
 unfold fC
 rw [h3]
 simp only [Bool.and_eq_true,decide_eq_true_eq]
 omega
def qS (d:List UInt8):Nat:=d.foldl (fun n c=>(n*10+(c.toNat-48))%10000000000) 0
theorem aRU {d:List UInt8} {k:Nat} {c:UInt8} (h:d[k]? = some c):qS (d.take (k+1))=(qS (d.take k)*10+(c.toNat-48))%10000000000:=by
 unfold qS
 rw [List.take_add_one,h]
 simp
theorem aDi {d:List UInt8} {k:Nat} {c:UInt8} (h:d[k]? = some c) (ha:(d.take k).all fC=true) (hc:fC c=true):(d.take (k+1)).all fC=true:=by
 rw [List.take_add_one,h]
 simp [List.all_append] at ha ⊢
 exact ⟨ha,hc⟩
theorem aCm:∀ (k:Nat) (d:List UInt8),d.length=k→d.all fC=true→iE d<10^k
 | 0,d,h,_=>by rw [List.eq_nil_of_length_eq_zero h]; decide
 | k+1,d,h,ha=>by
  obtain ⟨e,c,rfl⟩ : ∃ e c,d=e++[c]:=⟨d.dropLast,d.getLast (by intro e; rw [e] at h; cases h),(List.dropLast_concat_getLast _).symm⟩
  simp at h
  simp only [List.all_append,List.all_cons,List.all_nil,Bool.and_true,Bool.and_eq_true] at ha
  have ih:=aCm k e (by omega) ha.1
  have hd:=ha.2
  unfold fC at hd
  simp only [Bool.and_eq_true,decide_eq_true_eq] at hd
  have:iE (e++[c])=iE e*10+(c.toNat-48):=by unfold iE; simp
  rw [this,Nat.pow_succ]
  omega
theorem aJI:∀ (k:Nat) (d:List UInt8),d.length=k→k≤9→d.all fC=true→qS d=iE d
 | 0,d,h,_,_=>by rw [List.eq_nil_of_length_eq_zero h]; rfl
 | k+1,d,h,hk,ha=>by
  have hl:=aCm (k+1) d h ha
  obtain ⟨e,c,rfl⟩ : ∃ e c,d=e++[c]:=⟨d.dropLast,d.getLast (by intro e; rw [e] at h; cases h),(List.dropLast_concat_getLast _).symm⟩
  simp at h
  simp only [List.all_append,List.all_cons,List.all_nil,Bool.and_true,Bool.and_eq_true] at ha
  have ih:=aJI k e (by omega) (by omega) ha.1
  have e1:iE (e++[c])=iE e*10+(c.toNat-48):=by unfold iE; simp
  have e2:qS (e++[c])=(qS e*10+(c.toNat-48))%10000000000:=by unfold qS; simp
  rw [e1] at hl
  rw [e1,e2,ih]
  have:(10:Nat)^(k+1)≤10^9:=Nat.pow_le_pow_right (by decide) hk
  exact Nat.mod_eq_of_lt (by omega)
theorem aRg {d:List UInt8} {b:Bool} (hc:(!((aG d).toList == (⟨#[]⟩ : ByteArray).toList||b))=true):0<(aG d).size:=by
 have h3:(!((aG d).toList == (aG []).toList||b))=true:=hc
 rw [fD] at h3
 cases d with
 | nil=>simp at h3
 | cons x r=>rw [dJ]; simp
def dF (s:List UInt8):Int×Bool:=match jJ s with | some n=>(n,true) | none=>(0,false)
theorem aU2 (s:List UInt8):Lib.trimPrefix s [45]=bD s:=by
 unfold Lib.trimPrefix bD eF
 rw [aEd]
 by_cases h:s.head? = some 45
 ·rw [decide_eq_true h]; simp
 ·rw [decide_eq_false h]; simp
theorem aPs (s:List UInt8):Lib.hasPrefix s [45]=eF s:=aEd 45 s
def aBf (s:List UInt8):Bool:=((aG (bD s)).toList == (⟨#[]⟩ : ByteArray).toList||decide (((aG (bD s)).size:Int) > 9))||((((yb (aG (bD s))).getD 0 0).toNat:Int) == 48 && !((aG s).toList == (⟨#[48]⟩ : ByteArray).toList))
theorem aJg {s:List UInt8} (ha:(bD s).all fC=true):iX s = !aBf s:=by
 have e1:aBf s=(((aG (bD s)).toList == (aG []).toList||decide (((aG (bD s)).size:Int) > 9))||((((yb (aG (bD s))).getD 0 0).toNat:Int) == 48 && !((aG s).toList == (aG [48]).toList))):=rfl
 rw [e1,fD,fD,dJ,kZ]
 unfold iX
 rw [ha]
 generalize bD s=d
 cases d with
 | nil=>simp
 | cons x r =>
  have h1:((List.map (fun x:UInt8=>BitVec.ofNat 8 x.toNat) (x :: r)).getD 0 0).toNat=x.toNat:=by
   simp
  rw [h1]
  have h2:((x.toNat:Int) == 48)=decide ((x :: r).head? = some 48):=by
   by_cases hx:x=48
   ·subst hx; rfl
   ·have:¬ x.toNat=48:=fun e=>hx (UInt8.toNat_inj.1 e)
    rw [decide_eq_false (by simpa using hx)]
    simp; omega
  rw [h2]
  have h3:decide (((x :: r).length:Int) > 9) = !decide ((x :: r).length≤9):=by
   by_cases hl:(x :: r).length≤9
   ·rw [decide_eq_true hl,decide_eq_false (by omega)]; rfl
   ·rw [decide_eq_false hl,decide_eq_true (by omega)]; rfl
  rw [h3]
  simp [Bool.and_assoc]
theorem aCn {s:List UInt8} (h:iX s=false):dF s=(0,false):=by
 unfold dF jJ
 rw [if_neg (by rw [h]; decide)]
theorem aJf {s:List UInt8} (h:(bD s).all fC=false):iX s=false:=by unfold iX; rw [h]; rfl
theorem aK7 {s:List UInt8} {k n:Nat} (hk:(bD s).length≤k) (ha:((bD s).take k).all fC=true) (hn:n=qS ((bD s).take k)) (hb:aBf s=false):dF s=(if eF s=true then -(n:Int) else (n:Int),true):=by
 rw [List.take_of_length_le hk] at ha hn
 have ho:iX s=true:=by rw [aJg ha,hb]; rfl
 have hl:(bD s).length≤9:=by
  unfold iX at ho
  simp only [Bool.and_eq_true,decide_eq_true_eq] at ho
  exact ho.1.2
 rw [aJI _ _ rfl hl ha] at hn
 unfold dF jJ
 rw [if_pos ho,hn]
theorem aVP {s:List UInt8} {k:Nat} (hk:(bD s).length≤k) (ha:((bD s).take k).all fC=true) (hb:aBf s=true):dF s=(0,false):=by
 rw [List.take_of_length_le hk] at ha
 exact aCn (by rw [aJg ha,hb]; rfl)
def Ln.fits (l:Ln):Prop:=l.pos+l.rest.length≤1000000
theorem kY {l l':Ln} {s:List UInt8} (hf:l.fits) (h:bV l=.ok (s,l')):l'.fits∧s.length≤1000000:=by
 unfold bV at h
 have hc:=xE 32 l.rest
 unfold Ln.fits at *
 split at h
 ·split at h
  ·cases h
  ·cases h
   dsimp only
   generalize (if (bB 32 l.rest).2.2=true then 1 else 0)=q at hc ⊢
   omega
 ·cases h
theorem aR1 {l:Ln} {e:Nat} (h:bV l=.error e):dN l=.error e:=by unfold dN; rw [h]
theorem aRz {l l':Ln} {s:List UInt8} (h:bV l=.ok (s,l')) (hv:(dF s).2=false):dN l=.error l'.last:=by
 unfold dF at hv
 unfold dN
 rw [h]
 dsimp only
 cases e:jJ s with
 | none=>rfl
 | some n=>rw [e] at hv; cases hv
theorem aR0 {l l':Ln} {s:List UInt8} (h:bV l=.ok (s,l')) (hv:(dF s).2=true):dN l=.ok ((dF s).1,l'):=by
 unfold dF at hv ⊢
 unfold dN
 rw [h]
 dsimp only
 cases e:jJ s with
 | none=>rw [e] at hv; cases hv
 | some n=>rfl
theorem aUw {l:Ln} {e:Nat} (h:bV l=.error e):gB l=.error e:=by unfold gB; rw [h]
theorem aUu {l l':Ln} {s:List UInt8} (h:bV l=.ok (s,l')) (hv:(!((aG s).toList == (⟨#[46]⟩ : ByteArray).toList))=true):gB l=.ok (s,l'):=by
 have h3:(!((aG s).toList == (aG [46]).toList))=true:=hv
 rw [fD] at h3
 unfold gB; rw [h]; dsimp only; rw [if_neg (by simpa using h3)]
theorem aUv {l l':Ln} {s:List UInt8} (h:bV l=.ok (s,l')) (hv:(!((aG s).toList == (⟨#[46]⟩ : ByteArray).toList))=false):gB l=.ok ([],l'):=by
 have h3:(!((aG s).toList == (aG [46]).toList))=false:=hv
 rw [fD] at h3
 unfold gB; rw [h]; dsimp only; rw [if_pos (by simpa using h3)]
theorem aRY {l:Ln} {e:Nat} (h:bV l=.error e):gJ l=.error e:=by unfold gJ; rw [h]
theorem aRW {l l':Ln} {s:List UInt8} (h:bV l=.ok (s,l')) (hv:((aG s).toList == (⟨#[110,111,119]⟩ : ByteArray).toList)=true):gJ l=.ok (18446744073709551615#64,l'):=by
 have h3:((aG s).toList == (aG [110,111,119]).toList)=true:=hv
 rw [fD] at h3
 unfold gJ; rw [h]; dsimp only; rw [if_pos (of_decide_eq_true h3)]
theorem aRV {l l':Ln} {s:List UInt8} (h:bV l=.ok (s,l')) (hv:((aG s).toList == (⟨#[110,111,119]⟩ : ByteArray).toList)=false) (hb:((dF s).2&&decide ((dF s).1≥0))=false):gJ l=.error l'.last:=by
 have h3:((aG s).toList == (aG [110,111,119]).toList)=false:=hv
 rw [fD] at h3
 unfold gJ; rw [h]; dsimp only; rw [if_neg (of_decide_eq_false h3)]
 unfold dF at hb
 cases e:jJ s with
 | none=>rfl
 | some n =>
  rw [e] at hb
  dsimp only at hb ⊢
  rw [if_neg]
  simp at hb
  omega
theorem aRX {l l':Ln} {s:List UInt8} (h:bV l=.ok (s,l')) (hv:((aG s).toList == (⟨#[110,111,119]⟩ : ByteArray).toList)=false) (hb:((dF s).2&&decide ((dF s).1≥0))=true):gJ l=.ok (BitVec.ofInt 64 (dF s).1,l'):=by
 have h3:((aG s).toList == (aG [110,111,119]).toList)=false:=hv
 rw [fD] at h3
 unfold gJ; rw [h]; dsimp only; rw [if_neg (of_decide_eq_false h3)]
 unfold dF at hb ⊢
 cases e:jJ s with
 | none=>rw [e] at hb; cases hb
 | some n =>
  rw [e] at hb
  dsimp only at hb ⊢
  rw [if_pos (by simpa using hb)]
theorem aFj {s:List UInt8} : -1000000000<(dF s).1∧(dF s).1<1000000000:=by
 unfold dF jJ
 by_cases h:iX s=true
 ·rw [if_pos h]
  dsimp only
  unfold iX at h
  simp only [Bool.and_eq_true,decide_eq_true_eq] at h
  have h1:=aCm _ _ rfl h.1.1.1
  have h2:(10:Nat)^(bD s).length≤10^9:=Nat.pow_le_pow_right (by decide) h.1.2
  split<;>constructor<;>omega
 ·rw [if_neg h]; constructor<;>decide
theorem aK3 {n:Int} (h0:0≤n) (h1:n<1000000000):uv .u64 (BitVec.ofInt 64 n)=.int .u64 n:=by
 have:(BitVec.ofInt 64 n).toNat=n.toNat:=by
  rw [BitVec.toNat_ofInt]; omega
 have h2:(((BitVec.ofInt 64 n).toNat:Nat):Int)=n:=by rw [this]; omega
 exact congrArg (Value.int .u64) h2
theorem aSY {l:Ln} {e:Nat} (h:bV l=.error e):eG l=.error e:=by unfold eG; rw [h]
theorem aSV {l l':Ln} {s:List UInt8} (h:bV l=.ok (s,l')) (hm:eF s=true):eG l=.ok (⟨0#8,aG (bD s),⟨#[]⟩⟩,l'):=by
 unfold eG; rw [h]; dsimp only; rw [if_pos hm]; unfold bD; rw [if_pos hm]
theorem aSW {l l':Ln} {s:List UInt8} (h:bV l=.ok (s,l')) (hm:eF s=false) (hb:((bB 61 s).2.2&&decide ((bB 61 s).1.head? = some 43))=false):eG l=.error l'.last:=by
 unfold eG; rw [h]; dsimp only; rw [if_neg (by rw [hm]; decide),if_neg]
 intro ⟨h1,h2⟩
 rw [h1,decide_eq_true h2] at hb; cases hb
theorem aSX {l l':Ln} {s:List UInt8} (h:bV l=.ok (s,l')) (hm:eF s=false) (hb:((bB 61 s).2.2&&decide ((bB 61 s).1.head? = some 43))=true):eG l=.ok (⟨1#8,aG ((bB 61 s).1.drop 1),aG (bB 61 s).2.1⟩,l'):=by
 unfold eG; rw [h]; dsimp only; rw [if_neg (by rw [hm]; decide),if_pos (by simpa using hb),List.drop_one]
theorem aSe {s:List UInt8} (hb:((bB 61 s).2.2&&decide ((bB 61 s).1.head? = some 43))=true):1≤(aG (bB 61 s).1).size:=by
 simp only [Bool.and_eq_true,decide_eq_true_eq] at hb
 rw [dJ]
 cases h:(bB 61 s).1 with
 | nil=>rw [h] at hb; cases hb.2
 | cons x r=>simp
theorem aLM {l l':Ln} {s:List UInt8} (h:bV l=.ok (s,l')):l'.rest.length<l.rest.length:=by
 unfold bV at h
 have hc:=xE 32 l.rest
 split at h
 ·split at h
  ·cases h
  ·rename_i h1 h2
   cases h
   dsimp only
   have:0<(bB 32 l.rest).1.length:=List.length_pos_iff.2 h2
   omega
 ·cases h
theorem aCS {l l':Ln} {o:Opn} (h:eG l=.ok (o,l')):l'.rest.length<l.rest.length:=by
 unfold eG at h
 split at h
 ·cases h
 ·rename_i s l1 hw
  have:=aLM hw
  split at h
  ·cases h; exact this
  ·split at h
   ·cases h; exact this
   ·cases h
theorem aCO {l l':Ln} {n:Int} (h:dN l=.ok (n,l')):l'.rest.length<l.rest.length:=by
 unfold dN at h
 split at h
 ·cases h
 ·rename_i s l1 hw
  have:=aLM hw
  split at h
  ·cases h; exact this
  ·cases h
theorem aJn:∀ (n m:Nat) (l:Ln),l.rest.length<n→l.rest.length<m→iY n l=iY m l
 | 0,_,_,h,_=>absurd h (Nat.not_lt_zero _)
 | _+1,0,_,_,h=>absurd h (Nat.not_lt_zero _)
 | n+1,m+1,l,h1,h2=>by
  unfold iY
  split
  ·cases e:eG l with
   | error e=>rfl
   | ok p =>
    obtain ⟨o,l'⟩:=p
    have:=aCS e
    dsimp only
    rw [aJn n m l' (by omega) (by omega)]
  ·rfl
theorem aJa:∀ (n m:Nat) (l:Ln),l.rest.length<n→l.rest.length<m→lT n l=lT m l
 | 0,_,_,h,_=>absurd h (Nat.not_lt_zero _)
 | _+1,0,_,_,h=>absurd h (Nat.not_lt_zero _)
 | n+1,m+1,l,h1,h2=>by
  unfold lT
  split
  ·cases e:dN l with
   | error e=>rfl
   | ok p =>
    obtain ⟨o,l'⟩:=p
    have:=aCO e
    dsimp only
    rw [aJa n m l' (by omega) (by omega)]
  ·rfl
def fI (l:Ln):Except Nat (List Opn×Ln):=iY (l.rest.length+1) l
def gA (l:Ln):Except Nat (List Int×Ln):=lT (l.rest.length+1) l
def dL {α:Type} (a:List α):Except Nat (List α×Ln)→Except Nat (List α×Ln)
 | .error e=>.error e
 | .ok (os,l)=>.ok (a++os,l)
theorem aHH {α:Type} (r:Except Nat (List α×Ln)):dL [] r=r:=by
 cases r with
 | error e=>rfl
 | ok p=>rfl
theorem aHG {α:Type} (a b:List α) (r:Except Nat (List α×Ln)):dL a (dL b r)=dL (a++b) r:=by
 cases r with
 | error e=>rfl
 | ok p=>simp [dL]
theorem aSi {l:Ln} (h:l.more=false):fI l=.ok ([],l):=by unfold fI iY; rw [if_neg (by rw [h]; decide)]
theorem aSg {l:Ln} {e:Nat} (h:l.more=true) (ho:eG l=.error e):fI l=.error e:=by unfold fI iY; rw [if_pos h,ho]
theorem aSh {l l':Ln} {o:Opn} (h:l.more=true) (ho:eG l=.ok (o,l')):fI l=dL [o] (fI l'):=by
 have hl:=aCS ho
 unfold fI
 conv=>lhs; unfold iY
 rw [if_pos h,ho]
 dsimp only
 rw [aJn l.rest.length (l'.rest.length+1) l' hl (by omega)]
 cases iY (l'.rest.length+1) l' with
 | error e=>rfl
 | ok p=>rfl
theorem aR8 {l:Ln} (h:l.more=false):gA l=.ok ([],l):=by unfold gA lT; rw [if_neg (by rw [h]; decide)]
theorem aR6 {l:Ln} {e:Nat} (h:l.more=true) (ho:dN l=.error e):gA l=.error e:=by unfold gA lT; rw [if_pos h,ho]
theorem aR7 {l l':Ln} {o:Int} (h:l.more=true) (ho:dN l=.ok (o,l')):gA l=dL [o] (gA l'):=by
 have hl:=aCO ho
 unfold gA
 conv=>lhs; unfold lT
 rw [if_pos h,ho]
 dsimp only
 rw [aJa l.rest.length (l'.rest.length+1) l' hl (by omega)]
 cases lT (l'.rest.length+1) l' with
 | error e=>rfl
 | ok p=>rfl
def EvD.cells (e:EvD) (vo vk vb:Value):List Value:=[V e.kind,.int .i64 e.client,vo,.bool e.sync,.string (aG e.lo),.string (aG e.hi),uv .u64 e.moment,.int .i64 e.n,vk,.string (aG e.name),vb]
def iS (w:List UInt8) (l1:Ln):Except Nat EvD :=
  if w=vT then aZ (dN l1) fun c l2=>aZ (bV l2) fun how l3 =>
   if how=eP∨how=jW then aZ (eG l3) fun o l4=>aZ (fI l4) fun os l5=>cJ l5 { EvD.zero with kind:=1#8,client:=c,ops:=o :: os,sync:=decide (how=eP) }
   else .error l3.last
  else if w=vJ then aZ (gB l1) fun a l2=>aZ (gJ l2) fun m l3=>cJ l3 { EvD.zero with kind:=2#8,lo:=a,moment:=m }
  else if w=vR then aZ (gB l1) fun a l2=>aZ (gB l2) fun b l3=>aZ (gJ l3) fun m l4=>cJ l4 { EvD.zero with kind:=3#8,lo:=a,hi:=b,moment:=m }
  else if w=vK then cJ l1 { EvD.zero with kind:=4#8 }
  else if w=vN then aZ (gJ l1) fun m l2=>cJ l2 { EvD.zero with kind:=5#8,moment:=m }
  else if w=vP then aZ (dN l1) fun n l2=>cJ l2 { EvD.zero with kind:=6#8,n:=n }
  else if w=vQ then aZ (dN l1) fun n l2=>cJ l2 { EvD.zero with kind:=7#8,n:=n }
  else if w=vH then aZ (dN l1) fun n l2=>cJ l2 { EvD.zero with kind:=8#8,n:=n }
  else if w=vG then aZ (gA l1) fun ns l2=>cJ l2 { EvD.zero with kind:=9#8,keep:=ns }
  else if w=vO then cJ l1 { EvD.zero with kind:=10#8 }
  else if w=vF then cJ l1 { EvD.zero with kind:=11#8 }
  else if w=vM then aZ (bV l1) fun a l2=>aZ (gB l2) fun b l3=>cJ l3 { EvD.zero with kind:=12#8,name:=a,bytes:=b }
  else if w=vI then aZ (bV l1) fun a l2=>cJ l2 { EvD.zero with kind:=13#8,name:=a }
  else .error l1.last
theorem aIG {l:Ln} {e:Nat} (h:bV l=.error e):iR l=.error e:=by unfold iR; rw [h]; rfl
theorem aIF {l l1:Ln} {w:List UInt8} (h:bV l=.ok (w,l1)):iR l=iS w l1:=by unfold iR; rw [h]; rfl
theorem fJ {s c:List UInt8} (h:((aG s).toList == (aG c).toList)=true):s=c:=by rw [fD] at h; exact of_decide_eq_true h
theorem fK {s c:List UInt8} (h:((aG s).toList == (aG c).toList)=false):¬ s=c:=by rw [fD] at h; exact of_decide_eq_false h
theorem dB {α β:Type} {r:Except Nat (α×Ln)} {a:α} {l:Ln} {f:α→Ln→Except Nat β} (h:r=.ok (a,l)):aZ r f=f a l:=by rw [h]; rfl
theorem iF {α β:Type} {r:Except Nat (α×Ln)} {e:Nat} {f:α→Ln→Except Nat β} (h:r=.error e):aZ r f=.error e:=by rw [h]; rfl
theorem aEO (l1:Ln):iS vT l1=aZ (dN l1) fun c l2=>aZ (bV l2) fun how l3 =>
   if how=eP∨how=jW then aZ (eG l3) fun o l4=>aZ (fI l4) fun os l5=>cJ l5 { EvD.zero with kind:=1#8,client:=c,ops:=o :: os,sync:=decide (how=eP) }
   else .error l3.last:=rfl
theorem aEF (l1:Ln):iS vJ l1=aZ (gB l1) fun a l2=>aZ (gJ l2) fun m l3=>cJ l3 { EvD.zero with kind:=2#8,lo:=a,moment:=m }:=rfl
theorem aEN (l1:Ln):iS vR l1=aZ (gB l1) fun a l2=>aZ (gB l2) fun b l3=>aZ (gJ l3) fun m l4=>cJ l4 { EvD.zero with kind:=3#8,lo:=a,hi:=b,moment:=m }:=rfl
theorem aEG (l1:Ln):iS vK l1=cJ l1 { EvD.zero with kind:=4#8 }:=rfl
theorem aEI (l1:Ln):iS vN l1=aZ (gJ l1) fun m l2=>cJ l2 { EvD.zero with kind:=5#8,moment:=m }:=rfl
theorem aEL (l1:Ln):iS vP l1=aZ (dN l1) fun n l2=>cJ l2 { EvD.zero with kind:=6#8,n:=n }:=rfl
theorem aEM (l1:Ln):iS vQ l1=aZ (dN l1) fun n l2=>cJ l2 { EvD.zero with kind:=7#8,n:=n }:=rfl
theorem aED (l1:Ln):iS vH l1=aZ (dN l1) fun n l2=>cJ l2 { EvD.zero with kind:=8#8,n:=n }:=rfl
theorem aEC (l1:Ln):iS vG l1=aZ (gA l1) fun ns l2=>cJ l2 { EvD.zero with kind:=9#8,keep:=ns }:=rfl
theorem aEK (l1:Ln):iS vO l1=cJ l1 { EvD.zero with kind:=10#8 }:=rfl
theorem aEB (l1:Ln):iS vF l1=cJ l1 { EvD.zero with kind:=11#8 }:=rfl
theorem aEH (l1:Ln):iS vM l1=aZ (bV l1) fun a l2=>aZ (gB l2) fun b l3=>cJ l3 { EvD.zero with kind:=12#8,name:=a,bytes:=b }:=rfl
theorem aEE (l1:Ln):iS vI l1=aZ (bV l1) fun a l2=>cJ l2 { EvD.zero with kind:=13#8,name:=a }:=rfl
theorem aEJ {w:List UInt8} {l1:Ln} (h1:¬ w=vT) (h2:¬ w=vJ) (h3:¬ w=vR) (h4:¬ w=vK) (h5:¬ w=vN) (h6:¬ w=vP) (h7:¬ w=vQ) (h8:¬ w=vH) (h9:¬ w=vG) (h10:¬ w=vO) (h11:¬ w=vF) (h12:¬ w=vM) (h13:¬ w=vI):iS w l1=.error l1.last:=by
 unfold iS
 rw [if_neg h1,if_neg h2,if_neg h3,if_neg h4,if_neg h5,if_neg h6,if_neg h7,if_neg h8,if_neg h9,if_neg h10,if_neg h11,if_neg h12,if_neg h13]
def fY (n:Int):List Value:=[.int .i64 n]
theorem mL {l lx:Ln} {e:EvD} (h:iR l=cJ lx e) (hm:lx.more=false):iR l=.ok e:=by rw [h]; unfold cJ; rw [if_neg (by rw [hm]; decide)]
theorem dG {l lx:Ln} {e:EvD} (h:iR l=cJ lx e) (hm:lx.more=true):iR l=.error lx.pos:=by rw [h]; unfold cJ; rw [if_pos hm]
theorem dM {G:PM}:SlR G 1 aU ⟨none,0⟩ (yb (aG [])):=by rw [kZ]; exact SlR.nul
theorem aIg {s:List UInt8} (h:((aG s).toList == (⟨#[115,121,110,99]⟩ : ByteArray).toList||(aG s).toList == (⟨#[108,97,122,121]⟩ : ByteArray).toList)=false):¬ (s=eP∨s=jW):=by
 have h3:((aG s).toList == (aG eP).toList||(aG s).toList == (aG jW).toList)=false:=h
 rw [fD,fD] at h3
 simpa using h3
theorem aIh {s:List UInt8} (h:((aG s).toList == (⟨#[115,121,110,99]⟩ : ByteArray).toList||(aG s).toList == (⟨#[108,97,122,121]⟩ : ByteArray).toList)=true):s=eP∨s=jW:=by
 have h3:((aG s).toList == (aG eP).toList||(aG s).toList == (aG jW).toList)=true:=h
 rw [fD,fD] at h3
 simpa using h3
theorem aNd {α:Type} {a:List α} {r:Except Nat (List α×Ln)} {e:Nat} (h:dL a r=.error e):r=.error e:=by
 cases r with
 | error e'=>exact h
 | ok p=>cases h
theorem lH {α:Type} {o:α} {os:List α} {lw:Ln} {r:Except Nat (List α×Ln)} (h:dL [o] r=.ok (os,lw)):∃ q,r=.ok (q,lw)∧os=o :: q:=by
 cases r with
 | error e'=>cases h
 | ok p=>cases h; exact ⟨_,rfl,rfl⟩
theorem kP {os:List Opn} {lw:Ln} (h:lw.more=false):dL os (fI lw)=.ok (os,lw):=by rw [aSi h]; simp [dL]
theorem kO {os:List Int} {lw:Ln} (h:lw.more=false):dL os (gA lw)=.ok (os,lw):=by rw [aR8 h]; simp [dL]
theorem aJq {os:List Opn} {lw:Ln} {e:Nat} (hm:lw.more=true) (h:eG lw=.error e):dL os (fI lw)=.error e:=by rw [aSg hm h]; rfl
theorem aJc {os:List Int} {lw:Ln} {e:Nat} (hm:lw.more=true) (h:dN lw=.error e):dL os (gA lw)=.error e:=by rw [aR6 hm h]; rfl
theorem aJr {os:List Opn} {lw lx:Ln} {o:Opn} (hm:lw.more=true) (h:eG lw=.ok (o,lx)):dL os (fI lw)=dL (os++[o]) (fI lx):=by rw [aSh hm h,aHG]
theorem aJd {os:List Int} {lw lx:Ln} {o:Int} (hm:lw.more=true) (h:dN lw=.ok (o,lx)):dL os (gA lw)=dL (os++[o]) (gA lx):=by rw [aR7 hm h,aHG]
theorem dP {l:List Value} (h:l.all (fun u=>u.oneCell')=true):∀ u∈l,u.oneCell'=true:=List.all_eq_true.1 h
theorem EvD.one (e:EvD) {vo vk vb:Value} (ho:vo.oneCell'=true) (hk:vk.oneCell'=true) (hb:vb.oneCell'=true):∀ u∈e.cells vo vk vb,u.oneCell'=true:=dP (by
 unfold EvD.cells
 simp only [List.all_cons,List.all_nil,ho,hk,hb]
 rfl)
def hX (s:ByteArray):List UInt8:=s.data.toList
theorem aFd (s:ByteArray):aG (hX s)=s:=rfl
theorem uD (l:List UInt8):hX (aG l)=l:=rfl
theorem aDt (s:ByteArray):(hX s).length=s.size:=rfl
theorem aU9 {l:List UInt8} {s1 s2:ByteArray} (h:l=hX s1++hX s2):cA (yb s1++yb s2)=aG l:=by
 subst h
 conv=>lhs; rw [← aFd s1,←aFd s2]
 rw [kZ,kZ,←List.map_append,←vC]
section
variable {dr:Bool} {mc:Md} {P:Program} {n:Fm} {l:List Oper} {K:aI→PM→aH→Prop} {i:Nat} {σ:List Nat} {ρ:aI} {G:PM} {μ:aH}
variable {d t:Nat} {p:String} {af:Array Edge} {g:Option (Nat×Bool)} {c:Bool}
theorem lW (r:List UInt8) {T T':TypeId} {x y:Operand} {s1 s2:ByteArray} (ho:nth l i=some ⟨some d,.binOp .add T x y T',t,p,af,g⟩) (hg:Gd l ρ g c) (hx:Ev ρ c x (.string s1)) (hy:Ev ρ c y (.string s2)) (hr:r=hX s1++hX s2) (hl:c=true→s1.size+s2.size≤9223372036854775807)
  (h:Wo dr mc P n l K σ ((d,c,.string (aG r)) :: ρ) G μ):Wo dr mc P n l K (i :: σ) ρ G μ :=
 sP ho hg hx hy hl (by rw [aU9 hr]; exact h)
end
structure Rep where
 err:Int
 n:BitVec 64
 value:ByteArray
 is:Bool
 pairs:List (ByteArray×ByteArray)
 dones:List (Int×Int)
def Rep.cells (r:Rep) (vp vd:Value):List Value:=[.int .i64 r.err,uv .u64 r.n,.string r.value,.bool r.is,vp,vd]
theorem Rep.one (r:Rep) {vp vd:Value} (h1:vp.oneCell'=true) (h2:vd.oneCell'=true):∀ u∈r.cells vp vd,u.oneCell'=true:=dP (by
 unfold Rep.cells
 simp only [List.all_cons,List.all_nil,h1,h2]
 rfl)
def Rep.zero:Rep:=⟨0,0#64,⟨#[]⟩,false,[],[]⟩
def aH6 (p:ByteArray×ByteArray):List Value:=[.string p.1,.string p.2]
def xI (d:Int×Int):List Value:=[.int .i64 d.1,.int .i64 d.2]
def lQ (s:ByteArray):List Value:=[.string s]
def pP (n:Int):Bool:=decide (n%2=1)
def yH:List UInt8:=[101,114,114,111,114,32]
def aCf:List UInt8:=[110,111,110,101]
def aCe:List UInt8:=[104,101,108,100,32]
def aFM:List UInt8:=[119,111,114,107,101,100]
def aFJ:List UInt8:=[105,100,108,101]
def aFG:List UInt8:=[100,111,110,101]
def sOk:List UInt8:=[111,107]
def nM (p:ByteArray×ByteArray):List UInt8:=hX p.1++61 :: hX p.2
def mP (k:Y) (n:Int) (r:Rep):List UInt8 :=
 if k=2#8 then (if r.is=true then 61 :: hX r.value else aCf)
 else if k=3#8 then (if r.pairs=[] then aCf else Lib.join (r.pairs.map nM) [32])
 else if k=4#8 then aCe++Lib.decDigits r.n.toNat
 else if k=6#8 then (if pP n=true∧r.is=true then aFM else if pP n=true∨r.dones=[] then aFJ else aFG)
 else sOk
def gN (k:Y) (n:Int) (r:Rep):List UInt8:=if r.err=0 then mP k n r else yH++Lib.itoa r.err
def iQ (d:Int×Int):List UInt8:=32 :: (Lib.itoa d.1++58 :: Lib.itoa d.2)
def uZ (k:Y) (n:Int) (r:Rep):List UInt8:=gN k n r++r.dones.flatMap iQ
theorem aRe {u:Nat} (h:u<18446744073709551616):Lib.nDigits u≤20:=by
 by_cases h1:1≤u
 ·have:=Lib.numDigits_eq u h1 h
  split at this<;>omega
 ·have:u=0:=by omega
  subst this
  rw [Lib.nDigits_small (by decide)]; decide
theorem aBr {u:Nat} (h:u<18446744073709551616):(Lib.decDigits u).length≤20:=by rw [Lib.decDigits_length]; exact aRe h
theorem xO {n:Int} (h0 : -9223372036854775808≤n) (h1:n≤9223372036854775807):(Lib.itoa n).length≤21:=by
 unfold Lib.itoa
 split
 ·have:=aBr (u:=n.natAbs) (by omega)
  simp only [List.length_cons]; omega
 ·have:=aBr (u:=n.toNat) (by omega)
  omega
structure Rep.ok (r:Rep):Prop where
 err : -9223372036854775808≤r.err∧r.err≤9223372036854775807
 value:r.value.size≤100000
 pairs:r.pairs.length≤500∧∀ p∈r.pairs,p.1.size≤1000∧p.2.size≤1000
 dones:r.dones.length≤500∧∀ d∈r.dones,(-9223372036854775808≤d.1∧d.1≤9223372036854775807)∧(-9223372036854775808≤d.2∧d.2≤9223372036854775807)
theorem aJy {p:ByteArray×ByteArray} (h:p.1.size≤1000∧p.2.size≤1000):(nM p).length≤2001:=by
 unfold nM
 simp only [List.length_append,List.length_cons,aDt]; omega
theorem aIo {x:List UInt8} {m:Nat}:∀ {l:List (List UInt8)},(∀ y∈l,y.length≤m)→(Lib.join l [32]).length≤(m+1)*l.length:=by
 intro l h
 match l with
 | []=>simp [Lib.join_nil]
 | a :: r =>
  rw [Lib.join_cons]
  have h2:∀ r:List (List UInt8),(∀ y∈r,y.length≤m)→(Lib.joinTail [32] r).length≤(m+1)*r.length:=by
   intro r
   induction r with
   | nil=>intro _; simp [Lib.joinTail]
   | cons b r ih =>
    intro hb
    have h3:=ih fun y hy=>hb y (List.mem_cons_of_mem _ hy)
    have h4:=hb b (List.mem_cons_self ..)
    unfold Lib.joinTail at h3 ⊢
    simp only [List.map_cons,List.flatten_cons,cC]
    rw [Nat.mul_succ]; omega
  have h5:=h2 r fun y hy=>h y (List.mem_cons_of_mem _ hy)
  have h6:=h a (List.mem_cons_self ..)
  simp only [List.length_append,List.length_cons]
  rw [Nat.mul_succ]; omega
theorem aHw {d:Int×Int} (h:(-9223372036854775808≤d.1∧d.1≤9223372036854775807)∧(-9223372036854775808≤d.2∧d.2≤9223372036854775807)):(iQ d).length≤50:=by
 have h1:=xO h.1.1 h.1.2
 have h2:=xO h.2.1 h.2.2
 unfold iQ
 simp only [List.length_append,List.length_cons]; omega
theorem aD6:∀ {l:List (Int×Int)},(∀ d∈l,(-9223372036854775808≤d.1∧d.1≤9223372036854775807)∧(-9223372036854775808≤d.2∧d.2≤9223372036854775807))→(l.flatMap iQ).length≤50*l.length
 | [],_=>by simp
 | d :: l,h=>by
  have h1:=aHw (h d (List.mem_cons_self ..))
  have h2:=aD6 (l:=l) fun x hx=>h x (List.mem_cons_of_mem _ hx)
  rw [List.flatMap_cons,List.length_append,List.length_cons]; omega
theorem aSQ {k:Y} {n:Int} {r:Rep} (h:r.ok):(mP k n r).length≤1100000∧mP k n r≠[]:=by
 have h2:=h.value
 have h3:=aIo (x:=[]) (m:=2001) (l:=r.pairs.map nM) (fun y hy=>by obtain ⟨p,hp,rfl⟩:=List.mem_map.1 hy; exact aJy (h.pairs.2 p hp))
 have h4:=aBr (u:=r.n.toNat) r.n.isLt
 have h5:=h.pairs.1
 rw [List.length_map] at h3
 have h6:∀ a:List (ByteArray×ByteArray),a≠[]→Lib.join (a.map nM) [32]≠[]:=by
  intro a ha
  match a,ha with
  | x :: r,_ =>
   rw [List.map_cons,Lib.join_cons]
   unfold nM
   simp
 unfold mP
 repeat' split
 all_goals refine ⟨?_,?_⟩
 all_goals first
  | ((try simp only [cC,aDt,aCf,aCe,aFM,aFJ,aFG,sOk]); omega)
  | (exact h6 _ (by assumption))
  | (simp [aCf,aCe,aFM,aFJ,aFG,sOk]; done)
theorem aUy {k:Y} {n:Int} {r:Rep} (h:r.ok):(gN k n r).length≤1100000∧gN k n r≠[]:=by
 have h1:=xO h.err.1 h.err.2
 unfold gN
 split
 ·exact aSQ h
 refine ⟨?_,by simp [yH]⟩
 rw [List.length_append]
 have:yH.length=6:=rfl
 omega
theorem aNj (n:Int):IntKind.i64.wrap ((BitVec.ofInt 64 n &&& BitVec.ofInt 64 1).toNat:Int)=n%2:=by
 have h:((BitVec.ofInt 64 n &&& BitVec.ofInt 64 1).toNat:Int)=n%2:=by
  have h1:(BitVec.ofInt 64 1).toNat=1:=rfl
  rw [BitVec.toNat_and,BitVec.toNat_ofInt,h1,Nat.and_one_is_mod]
  omega
 rw [h]; exact eJ (by omega) (by omega)
section
variable {dr:Bool} {mc:Md} {P:Program} {n:Fm} {l:List Oper} {K:aI→PM→aH→Prop} {i:Nat} {σ:List Nat} {ρ:aI} {G:PM} {μ:aH}
variable {d t:Nat} {p:String} {af:Array Edge} {g:Option (Nat×Bool)} {c:Bool}
theorem anA {T T':TypeId} {x y:Operand} {a:Int} (ho:nth l i=some ⟨some d,.binOp .and T x y T',t,p,af,g⟩) (hg:Gd l ρ g c) (hx:Ev ρ c x (.int .i64 a)) (hy:Ev ρ c y (.int .i64 1))
  (h:Wo dr mc P n l K σ ((d,c,.int .i64 (a%2)) :: ρ) G μ):Wo dr mc P n l K (i :: σ) ρ G μ :=
 .pure ho (.inl rfl) hg (fun hc q w ha=>by
  have h5:(Op.intBits .and .i64 a 1)=pure (.int .i64 (IntKind.i64.wrap ((BitVec.ofInt 64 a &&& BitVec.ofInt 64 1).toNat:Int))):=rfl
  have h6:binOp .and T (.int .i64 a) (.int .i64 1)=Op.intBits .and .i64 a 1:=rfl
  have hb:(binOp .and T (.int .i64 a) (.int .i64 1)).run P w=.ok (.int .i64 (a%2)) w:=by rw [h6,h5,aNj]; rfl
  simp only [execOp,hx.eval ha hc,hy.eval ha hc,Sem.run_bind,jQ,Result.andThen_ok,hb]; rfl) h
end
theorem aLV (l:List UInt8) (s:ByteArray):yb (aG l)++yb s=yb (aG (l++hX s)):=by
 conv=>lhs; rw [← aFd s]
 rw [kZ,kZ,kZ,List.map_append]
theorem aIV (w:World) (b n k:Nat) (h:k≠b):(w.freeze ⟨b,0,none⟩ n).heap[k]? = w.heap[k]?:=by
 unfold World.freeze
 split
 ·rfl
 ·simp only [Array.getElem?_modify]
  rw [if_neg (by omega)]
theorem aPc (w:World) (b n:Nat):(w.freeze ⟨b,0,none⟩ n).heap.size=w.heap.size:=by
 unfold World.freeze
 split
 ·rfl
 ·simp
theorem aPb (w:World) (b n:Nat):(w.freeze ⟨b,0,none⟩ n).os=w.os∧(w.freeze ⟨b,0,none⟩ n).tape=w.tape∧(w.freeze ⟨b,0,none⟩ n).output=w.output:=by
 unfold World.freeze
 split<;>exact ⟨rfl,rfl,rfl⟩
theorem aNX (x:UInt8):V (BitVec.ofNat 8 x.toNat)=.int .u8 (x.toNat:Int):=by
 have h:(BitVec.ofNat 8 x.toNat).toNat=x.toNat:=by rw [BitVec.toNat_ofNat,Nat.mod_eq_of_lt x.toNat_lt]
 show Value.int .u8 (((BitVec.ofNat 8 x.toNat).toNat:Nat):Int)=_
 rw [h]
theorem aNT {G:PM} {w:World} {v:Value} {E m b n:Nat} {xs:List Value} (h:Sat G [.row v E 1 m xs] w) (hv:v.ownBlock=some b):Tr G (keys [.row v E 1 m xs]) w G [] (w.freeze ⟨b,0,none⟩ n):=by
 have hk:b∈keys [Res.row v E 1 m xs]:=by simp [keys,Res.keys,hv]
 have hG:G b=none:=h.apart b hk
 obtain ⟨o1,o2,o3⟩:=aPb w b n
 refine ⟨⟨fun k o hko=>?_,fun r hr=>(List.not_mem_nil hr).elim,fun k hk=>(List.not_mem_nil hk).elim,List.nodup_nil⟩,o1,o2,o3,Nat.le_of_eq (aPc w b n).symm,fun k _ hn=>⟨aIV w b n k (fun e=>hn (e▸hk)),rfl⟩,fun k hk=>(List.not_mem_nil hk).elim,fun _ _ _ h=>h⟩
 rw [aIV w b n k (fun e=>by subst e; rw [hG] at hko; cases hko)]
 exact h.sub k o hko
def ptE (P:Program) (T:TypeId):Option TypeId:=match P.underlying T with | some (.pointer e)=>if P.cellsOf e=1 then some e else none | _=>none
section
variable {dr:Bool} {mc:Md} {P:Program} {n:Fm} {L:List Oper} {K:aI→PM→aH→Prop} {i:Nat} {σ:List Nat} {ρ:aI} {G:PM} {μ:aH}
variable {d t:Nat} {p:String} {af:Array Edge}
theorem uSD {T:TypeId} {x:Operand} {b m cap:Nat} (ho:nth L i=some ⟨some d,.call { callee:=.builtin .unsafeSliceData,args:=#[x],argTypes:=#[T] },t,p,af,none⟩) (hx:Ev ρ true x (.slice (some ⟨b,0,none⟩) m cap)) (hc:cap≠0)
  (h:Wo dr mc P n L K σ ((d,true,.pointer (some ⟨b,0,none⟩)) :: ρ) G μ):Wo dr mc P n L K (i :: σ) ρ G μ:=by
 refine .act (μ₁:=[]) (μ₂:=μ) (post:=fun G' μ' v=>G'=G∧μ'=[]∧v=.pointer (some ⟨b,0,none⟩)) ho (.inl rfl) .no (.refl _) (fun a w ha hs=>.inl ?_) ?_
 ·refine ⟨_,w,G,[],.inl ?_,eK (Sat.left (μ:=[]) hs),rfl,rfl,rfl⟩
  have h1:=Lib.run_unsafeSliceData_row (P:=P) w #[T] t ⟨b,0,none⟩ m cap hc
  simp [execOp,resolve,invoke,builtin,hx.eval ha rfl,h1]
 rintro v G' μ'' _ ⟨rfl,rfl,rfl⟩
 exact h
theorem uST {T1 T2:TypeId} {x y:Operand} {b m cap E:Nat} {l:List UInt8} {μ':aH} (ho:nth L i=some ⟨some d,.call { callee:=.builtin .unsafeString,args:=#[x,y],argTypes:=#[T1,T2] },t,p,af,none⟩) (hT:ptE P T1=some E)
  (hx:Ev ρ true x (.pointer (some ⟨b,0,none⟩))) (hy:Ev ρ true y (.int .i64 (l.length:Int))) (h0:l≠[]) (h63:l.length≤9223372036854775807) (hm:MTake μ (rB (.slice (some ⟨b,0,none⟩) m cap) E (yb (aG l))) μ')
  (h:Wo dr mc P n L K σ ((d,true,.string (aG l)) :: ρ) G μ'):Wo dr mc P n L K (i :: σ) ρ G μ:=by
 refine .act (μ₁:=[rB (.slice (some ⟨b,0,none⟩) m cap) E (yb (aG l))]) (μ₂:=μ') (post:=fun G' μ' v=>G'=G∧μ'=[]∧v=.string (aG l)) ho (.inl rfl) .no hm.perm (fun a w ha hs=>.inl ?_) ?_
 ·have hs1:=hs.left
  have hr:w.ownsRow 0 E 1 (.slice (some ⟨b,0,none⟩) m cap) (yb (aG l)).length ((yb (aG l)).map V):=hs1.own _ (List.mem_singleton.2 rfl)
  obtain ⟨hu,hc⟩ : P.underlying T1=some (.pointer E)∧P.cellsOf E=1:=by
   unfold ptE at hT
   split at hT
   ·rename_i e he
    split at hT
    ·rename_i h1
     simp only [Option.some.injEq] at hT
     subst hT
     exact ⟨he,h1⟩
    cases hT
   cases hT
  have hcells:=World.ownsRow.cells hr (g:=b) rfl
  have hlen:(yb (aG l)).length=l.length:=eQ _
  obtain ⟨cur,hb,hle⟩ : ∃ cur:Array Value,w.heap[b]? = some (.cells cur E (0,0))∧l.length≤cur.size:=by
   rcases hr.2 with ⟨hv,_⟩ | ⟨g,cap',cur,hv,_,hg,hn,_,hsz,_⟩
   ·cases hv
   cases hv
   exact ⟨cur,hg,by rw [hsz]; rw [hlen] at hn; omega⟩
  have h1:=Lib.run_unsafeString_row (P:=P) w T1 T2 t E hu hc b cur.size (by simp [World.shape?,hb]) l h0 hle h63 (fun j x hj=>hcells j _ (by
   rw [kZ,List.getElem?_map,List.getElem?_map,hj]
   exact congrArg some (aNX x)))
  refine ⟨_,_,G,[],.inl ?_,aNT (n:=l.length) hs1 rfl,rfl,rfl,rfl⟩
  have hy':a.eval y=.int .i64 (l.length:Int):=hy.eval ha rfl
  simp only [execOp,resolve,invoke,builtin,hx.eval ha rfl,hy']
  simp [hx.eval ha rfl,hy',h1]
  rfl
 rintro v G' μ'' _ ⟨rfl,rfl,rfl⟩
 exact h
end
theorem aHi {P:Program} {f:FuncId} {args:Array Value} {G:PM} {v:Value} (h:∀ w,Sat G [] w→Calls P f args w (fun e w'=>e=.returned v∧Below w.heap.size w w')):Ct P f args G [] (fun _ μ' u=>μ'=[]∧u=v):=fun w hs=>by
 refine (h w hs).mono ?_
 rintro e w' ⟨rfl,hb⟩
 refine ⟨v,G,[],rfl,⟨⟨fun b o ho=>?_,fun r hr=>(List.not_mem_nil hr).elim,fun k hk=>(List.not_mem_nil hk).elim,List.nodup_nil⟩,hb.os,hb.tape,hb.output,hb.size,fun b hb' _=>⟨hb.block b hb',rfl⟩,fun k hk=>(List.not_mem_nil hk).elim,fun _ _ _ h=>h⟩,rfl,rfl⟩
 have h1:=hs.sub b o ho
 rw [hb.block b (Array.getElem?_eq_some_iff.1 h1).1]; exact h1
def PwG (P:Program) (G:PM):Prop:=∀ w,(∀ b o,G b=some o→w.heap[b]? = some o)→Lib.TabIs P w "internal/strconv.uint64pow10" .u64 Lib.pow10Tab
theorem PwG.mono {P:Program} {G G':PM} (h:PwG P G) (hle:PM.le G G'):PwG P G':=fun w hw=>h w fun b o hb=>hw b o (hle b o hb)
theorem PwG.tab {P:Program} {G:PM} {μ:aH} {w:World} (h:PwG P G) (hs:Sat G μ w):Lib.TabIs P w "internal/strconv.uint64pow10" .u64 Lib.pow10Tab:=h w hs.sub
theorem SlR.strAt {G:PM} {h:Sh} {xs:List ByteArray} {w:World} (hs:SlR G 1 lQ h xs) (hw:∀ b o,G b=some o→w.heap[b]? = some o):∀ (j:Nat) x,xs[j]? = some x→w.cell? ⟨h.b,h.o+j,none⟩=some (.string x):=fun j x hx=>by
 have h1:=hs.rd j x hx 0 (.string x) rfl w hw
 simpa using h1
theorem aCC {k:Y} {m:Nat} (h:(((BitVec.toNat k:Nat):Int) == (m:Int))=true):k=BitVec.ofNat 8 m:=by
 have h1:((BitVec.toNat k:Nat):Int)=(m:Int):=by simpa using h
 have h2:BitVec.toNat k=m:=by omega
 rw [← h2]; simp
theorem aCB {k:Y} {m:Nat} (hm:m<256) (h:(((BitVec.toNat k:Nat):Int) == (m:Int))=false):¬ k=BitVec.ofNat 8 m:=fun e=>by
 subst e
 rw [BitVec.toNat_ofNat,Nat.mod_eq_of_lt (by omega)] at h
 simp at h
theorem aSE {n:Int} {b:Bool} (h:(n%2 == 1&&b)=true):pP n=true∧b=true:=by simpa [pP] using h
theorem aJe {n:Int} {b:Bool} (h:(n%2 == 1&&b)=false):¬ (pP n=true∧b=true):=fun e=>by
 have:(n%2 == 1&&b)=true:=by simpa [pP] using e
 rw [this] at h; cases h
theorem aSG {n:Int} {α:Type} {l:List α} (h:(n%2 == 1||((l.length:Nat):Int) == 0)=true):pP n=true∨l=[]:=by
 simp [pP] at h ⊢; exact h
theorem aSF {n:Int} {α:Type} {l:List α} (h:(n%2 == 1||((l.length:Nat):Int) == 0)=false):¬ (pP n=true∨l=[]):=by
 simp [pP] at h ⊢; exact h
theorem aQK {l:List (ByteArray×ByteArray)} (h:∀ p∈l,p.1.size≤1000∧p.2.size≤1000) (hl:l.length≤500):(Lib.join (l.map nM) [32]).length≤140737488355328:=by
 have h3:=aIo (x:=[]) (m:=2001) (l:=l.map nM) (fun y hy=>by obtain ⟨p,hp,rfl⟩:=List.mem_map.1 hy; exact aJy (h p hp))
 rw [List.length_map] at h3
 omega
theorem aV3:yb (aG [])=[]:=by rw [kZ]; rfl
theorem aIU {α β:Type} (f:α→List β) {l:List α} {k:Nat} {x:α} (h:l[k]? = some x):(l.take k).flatMap f++f x=(l.take (k+1)).flatMap f:=by
 rw [List.take_add_one,h,List.flatMap_append]; simp
def sU (p:ByteArray×ByteArray):ByteArray:=aG (nM p)
theorem aJx (l:List (ByteArray×ByteArray)):(l.map sU).map hX=l.map nM:=by rw [List.map_map]; rfl
theorem aRb {α β:Type} (f:α→β) {l:List α} {k:Nat} {x:α} (h:l[k]? = some x):(l.take k).map f++[f x]=(l.take (k+1)).map f:=by
 rw [List.take_add_one,h,List.map_append]; rfl
theorem aCD {P:Program} {fn:Func} {tmps:Array Value} {R:Ending→World→Prop} (hR:∀ e w,¬ R e w):∀ (ds:List Deferred) (u:FrameMode) (w:World),¬ Leaves P fn tmps R ds u w
 | [],u,w,h=>by
  cases u with
  | run=>exact h
  | returning=>obtain ⟨v,_,h⟩:=h; exact hR _ _ h
  | panicking ch=>exact hR _ _ h
 | d :: ds,u,w,h=>by
  obtain ⟨_,fv,cap,f,args,_,_,hc⟩:=h
  obtain ⟨e,u',w',fr,h,_⟩:=hc { (default:Frame) with mode:=u } [] rfl
  cases e with
  | returned v=>exact aCD hR ds _ _ h
  | panicked ch=>exact aCD hR ds _ _ h
  | outgrown=>exact hR _ _ h
theorem aVn {P:Program} {fn:Func} {n:Nat} {G G1:PM} {K0:List Nat} {w0 w:World} {c:Code} {ρ:aI} {μ:aH} {I:Act→World→Prop} {a:Act} {Q:Exit→Act→World→Prop}
  (h:Wk (cx0 P fn n G K0 w0 (fun _ _ _=>False) (fun _=>False)) c [.lp I] ρ G1 μ) (ha:Ag (sF n fun _=>False) ρ a) (ht:Tr G K0 w0 G1 μ w) (hq:∀ a w,I a w→Q .normal a w):c.wp P Q a w:=by
 refine wp_mono (h.out a w ha ht) fun e a' w' he=>?_
 have hR:∀ e w,¬ RR (fun _ _ _=>False) (fun _=>False) G K0 w0 e w:=by
  rintro e w (⟨_,_,_,_,_,h⟩ | ⟨_,_,_,_,h⟩)<;>exact h
 cases e with
 | normal=>exact hq _ _ he
 | ret=>exact (aCD hR _ _ _ he).elim
 | panic ch=>exact (aCD hR _ _ _ he).elim
 | outgrown=>exact (hR _ _ he).elim
 | exit id=>exact he.elim
 | goto l=>exact he.elim
theorem aHD {X:Cx} {k:List KI} {ρ:aI} {G:PM} {μ:aH} {id:Nat} {l:List Oper} (σ1:List Nat) (j:Nat) (q:DQ) (T be ba bc TE TI TC m:Nat) (zs:List Value) (v3:Value) (D:Nat→Prop) {rs:List ResultVar} (vs:Nat→List Value) (hf:aJ X.P q.f=true) (hr:X.fn.results=rs.toArray) (h0:X.n.ds=[])
  (hc:∀ w G e es x y,Sat G [.blk be (cl es TE),.blk ba (cl [x] TI),.blk bc (cl [y] TC)] w→es.length=m→CallsD X.P q.f (q.args++q.vc).toArray (.panicking [mW T e]) w (fun r u' w'=>(∃ v,r=.returned v)∧u'=.panicking [rI T e]∧Tr G (keys [.blk be (cl es TE),.blk ba (cl [x] TI),.blk bc (cl [y] TC)]) w G [.blk be (cl zs TE),.blk ba (cl [.int .i64 (e:Int)] TI),.blk bc (cl [v3] TC)] w'))
  (hp:∀ e,D e→∀ G',X.post G' [] (gO (vs e))) (hσ:List.range l.length=σ1++[j]) (hds:iG X.n l=true)
  (h:Wo false ⟨false,false⟩ X.P X.n l (fun ρ G μ=>DefOp X.P X.n l j q.d ρ∧We (X.dfs q.d (aBu X.P T be ba bc TE TI TC m zs v3 D rs vs) (aHu hf hr h0 hc hp)) .normal k ρ G μ) σ1 ρ G μ):Wk X (.region id l.toArray false) k ρ G μ :=
 Wk.defers σ1 j q.d _ (aHu hf hr h0 hc hp) hσ hds h
def flP (P:Program) (T f:Nat):Option Nat :=
 match P.underlying T with
 | some (.struct fs)=>match fs[f]? with
  | some fl=>match P.underlying fl.type with
   | some (.struct _) | some (.array _ _)=>none
   | some _=>some fl.offset
   | none=>none
  | none=>none
 | _=>none
section
variable {dr:Bool} {mc:Md} {P:Program} {n:Fm} {l:List Oper} {K:aI→PM→aH→Prop} {i:Nat} {σ:List Nat} {ρ:aI} {G:PM} {μ:aH}
variable {d t:Nat} {p:String} {af:Array Edge} {g:Option (Nat×Bool)} {c:Bool}
theorem fdV {T f o:Nat} {x:Operand} {cs:Array Value} {v:Value} (ho:nth l i=some ⟨some d,.field T x f,t,p,af,g⟩) (hg:Gd l ρ g c) (hF:flP P T f=some o) (hx:Ev ρ c x (.agg cs)) (hv:c=true→cs[o]? = some v)
  (h:Wo dr mc P n l K σ ((d,c,v) :: ρ) G μ):Wo dr mc P n l K (i :: σ) ρ G μ :=
 .pure ho (.inl rfl) hg (fun hc a w ha=>by
  unfold flP at hF
  have hv':=hv hc
  split at hF
  ·rename_i fs hu
   split at hF
   ·rename_i fl hfl
    split at hF
    ·cases hF
    ·cases hF
    ·rename_i q hn1 hn2 hq
     simp only [Option.some.injEq] at hF
     subst hF
     have hA:(isAgg fl.type).run P w=.ok false w:=by
      unfold isAgg
      simp only [Sem.run_bind,run_underlying hq,Result.andThen_ok]
      first
       |rfl
       | (split<;>first|rfl|exact absurd hq (hn1 _)|exact absurd hq (hn2 _ _))
     simp [execOp,hx.eval ha hc,Instr.field,run_underlying hu,hfl,part,hA,hv',asAgg]
    ·cases hF
   ·cases hF
  ·cases hF) h
end
theorem aT8 {d:List UInt8} {k:Nat} (h:k<d.length) (hs:d.all aFP=true):(Utf8.decode (aG d) k).1=d[k].toNat∧32≤d[k].toNat∧d[k].toNat<127∧iB (aG d) k=k+1:=by
 have hk:k<(aG d).size:=h
 have hc:=List.all_eq_true.1 hs d[k] (List.getElem_mem h)
 unfold aFP at hc
 simp only [Bool.and_eq_true,decide_eq_true_eq] at hc
 have he:=decode_ascii (aG d) k hk (by show (d[k]).toNat<128; omega)
 exact ⟨by rw [he]; rfl,hc.1,hc.2,by unfold iB; rw [if_pos hk,he]⟩
theorem aPE {d:List UInt8} {k:Nat} (h:k<d.length):(aG (d.drop k)).data.toList[0]? = some d[k]:=by
 show (d.drop k)[0]? = some d[k]
 rw [List.getElem?_drop,Nat.add_zero,List.getElem?_eq_getElem h]
theorem aEh {s:ByteArray} {p:Nat} (h:p<s.size):(hZ s p).toList[1]? = some (.int .i64 (p:Int)):=by
 unfold hZ
 rw [if_pos h]; rfl
theorem aJN (s:List UInt8):(!((aG s).toList == (⟨#[]⟩ : ByteArray).toList)) = !decide (s=[]):=by
 have h:((aG s).toList == (⟨#[]⟩ : ByteArray).toList)=decide (s=[]):=fD s []
 rw [h]
def zT (s:List UInt8) (e:EvD) (i:Nat) (c:Int):Prop:=(kT s=.ok e∧i=0∧c=0)∨(kT s=.error i∧e=EvD.zero∧c=260)
theorem aEV {s:List UInt8} (h:s.length≤1000) {m:Bool}:Ln.fits ⟨s,0,m,0⟩:=by unfold Ln.fits; dsimp only; omega
end Go.Tan
