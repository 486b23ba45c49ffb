/- Lemmas and contracts of functions, joined. -/
import Derived.Test.YtoifkgkandfeiaaGreatDoorDc2
import Derived.KernelRfl
import Derived.Test.YtoifkgkandfeiaaGreatDoorCards
import Derived.Test.YtoifkgkandfeiaaGreatDoorTie
import Derived.OpenShut
import Derived.Deep.DeepHandedRow
import Derived.Deep.CondSized
import Derived.JoinedCond
import Derived.Shelf.Unicode.DecodeAny
import Derived.Lib.TrimUEq
import Derived.Lib.LaidU8T
import Derived.PinnedBridge
import Derived.Shelf.Small.Wraps
import Derived.Shelf.LaysM
import Derived.Shelf.Strconv.Itoa3
import Derived.Shelf.Strings.Search2
import Derived.Shelf.Strings.Prefix
import Derived.Shelf.Unicode.Decode
import Derived.Test.YtoifkgkandfeiaaGreatDoorProg
import Derived.Test.YtoifkgkandfeiaaGreatDoorRows
set_option linter.unusedSimpArgs false
set_option linter.unusedVariables false
set_option linter.unusedSectionVars false
namespace Go.Tan
open Go.RowKit
section
variable {dr:Bool} {mc:Md} {P:Program} {n:Fm} {l:List Oper} {K:aI→PM→aH→Prop} {i:Nat} {σ:List Nat} {ρ:aI} {G:PM} {μ:aH}
variable {d t:Nat} {p:String} {af:Array Edge} {g:Option (Nat×Bool)} {c:Bool}
theorem apB {T E b m:Nat} {x y:Operand} {u:Value} {cs:List Value} (xs:List Y) {ys:List Y} {μ':aH} (ho:nth l i=some ⟨some d,.call { callee:=.builtin .append,args:=#[x,y],argTypes:=#[T,T] },t,p,af,none⟩)
  (hT:bL P T=some (E,1,1)) (hz:(P.info? E).bind (·.zero)=some (.int .u8 0)) (hx:Ev ρ true x (.slice (some ⟨b,0,none⟩) m m)) (hc:cs=xs.map V) (hl:xs.length=m) (hy:Ev ρ true y u) (hm:MTake μ (.blk b (cl cs E)) μ') (hs:Sc G μ u ys) (hb:xs.length+ys.length≤140737488355328)
  (h:∀ v' L,v'.oneCell'=true→L=xs++ys→Wo dr mc P n l K σ ((d,true,v') :: ρ) G (rB v' E L :: μ')) (hmc:mc.a=false∨dr=false:=by first|exact .inl rfl|exact .inr rfl):Wo dr mc P n l K (i :: σ) ρ G μ:=by
 subst hl; subst hc
 obtain ⟨oa,cap,rfl,hr⟩:=hs.ex
 refine .act (μ₁:=[.blk b (cl (xs.map V) E)]) (μ₂:=μ') (post:=fun G' μ' v'=>G'=G∧v'.oneCell'=true∧μ'=[rB v' E (xs++ys)]) ho (by rcases hmc with h | h<;>simp [bH,h]) .no hm.perm (fun a w ha hs=>.inl ?_) ?_
 ·have hrow:Tr G (keys [.blk b (cl (xs.map V) E)]) w G [rB (.slice (some ⟨b,0,none⟩) xs.length xs.length) E xs] w :=
   (eK hs.left).asRow (sz:=1) (by simp) (Nat.le_refl _) (by unfold maxLen; omega) (by simp) (by rw [Nat.mul_one]; exact List.take_of_length_le (by simp))
  obtain ⟨v',w',hrun,ht⟩:=yG (ty:=t) (cp:=cap) (news:=ys.map V) (k:=ys.length) (oa:=oa) hT hz rfl hrow.sat (by simp) (fun hk=>by
   obtain ⟨b,o,h1,h2⟩:=hr hk
   exact ⟨b,o,h1,fun j u hj=>h2 j u hj w (hs.perm hm.perm.symm)⟩) (yA ys) (by omega) (by unfold maxLen; omega)
  refine ⟨v',w',G,[rB v' E (xs++ys)],.inl (by simp [execOp,resolve,invoke,builtin,hx.eval ha rfl,hy.eval ha rfl,hrun]),?_,rfl,ht.sat.rowOne,rfl⟩
  simp only [rB,List.length_append,List.map_append]
  have:keys [rB (.slice (some ⟨b,0,none⟩) xs.length xs.length) E xs]=keys [.blk b (cl (xs.map V) E)]:=by simp [keys,Res.keys,Value.ownBlock]
  rw [← this]; exact ht
 rintro v' G' μ'' _ ⟨rfl,h1,rfl⟩
 exact h v' _ h1 rfl
theorem k00 {T e sz by':Nat} {x y z:Operand} (ho:nth l i=some ⟨some d,.slice T x none (some y) (some z),t,p,af,none⟩) (hT:bL P T=some (e,sz,by')) (hx:Ev ρ true x (.slice none 0 0)) (hy:Ev ρ true y (.int .i64 0)) (hz:Ev ρ true z (.int .i64 0))
  (h:Wo dr mc P n l K σ ((d,true,.slice none 0 0) :: ρ) G μ):Wo dr mc P n l K (i :: σ) ρ G μ:=by
 obtain ⟨hu',inf,hi',hs1,hb1⟩:=fQ hT
 refine .pure (v:=.slice none 0 0) ho (.inl rfl) .no (fun hc a w ha=>?_) h
 simp [execOp,hx.eval ha rfl,hy.eval ha rfl,hz.eval ha rfl,Instr.sliceAt,run_underlying hu',Instr.slice,Instr.sliceBounds,Instr.sliceBound,asIntOf,sizeOf,typeInfo,hi']
end
structure Wtg where
 c:Nat
 sh:Sh
 ops:List Opn
 sy:Bool
def Wtg.cells (w:Wtg):List Value:=[.int .i64 (w.c:Int),w.sh.val w.ops.length,.bool w.sy]
theorem Wtg.len (w:Wtg):w.cells.length=3:=rfl
theorem Wtg.one (w:Wtg):∀ u∈w.cells,u.oneCell'=true:=by
 intro u hu
 simp only [Wtg.cells,List.mem_cons,List.not_mem_nil,or_false] at hu
 rcases hu with rfl|rfl|rfl<;>rfl
def AllW (G:PM) (ws:List Wtg):Prop:=∀ w,w∈ws→SlR G 3 Opn.cells w.sh w.ops
theorem AllW.mono {G G':PM} {ws:List Wtg} (h:AllW G ws) (hle:PM.le G G'):AllW G' ws:=fun w hw=>(h w hw).mono hle
def aAE (c:Nat):List Value:=[.int .i64 (c:Int),.int .i64 0]
def aEA (w:Wtg):List Value:=[w.sh.val w.ops.length]
def jn (ws:List Wtg):List Opn:=ws.flatMap Wtg.ops
theorem aQH {ws:List Wtg} {k:Nat} {w:Wtg} (h:ws[k]? = some w):jn (ws.take k)++w.ops=jn (ws.take (k+1)):=by
 rw [List.take_add_one,h]; simp [jn]
def mT:List Opn→Nat
 | []=>0
 | o :: r=>o.user.size+o.value.size+mT r
theorem aKk:∀ {l:List Opn} {k:Nat} {o:Opn},l[k]? = some o→mT (l.take (k+1))=mT (l.take k)+(o.user.size+o.value.size)
 | [],_,_,h=>by simp at h
 | x :: r,0,o,h=>by simp only [List.getElem?_cons_zero,Option.some.injEq] at h; subst h; simp [mT]
 | x :: r,k+1,o,h=>by
  rw [List.getElem?_cons_succ] at h
  rw [List.take_succ_cons,List.take_succ_cons,mT,mT,aKk h]; omega
theorem aKj {l:List Opn} (h:∀ o∈l,o.ok):mT l≤20*l.length:=by
 induction l with
 | nil=>exact Nat.le_refl _
 | cons a r ih =>
  have:=ih fun o ho=>h o (List.mem_cons_of_mem _ ho)
  have h2:=h a (List.mem_cons_self ..)
  have h3:=h2.user; have h4:=h2.value
  rw [mT,List.length_cons]; omega
section
variable {P:Program} {f:FuncId} {args:Array Value} {G:PM} {μ:aH}
theorem aQt {α:Type} {enc:α→List Value} {sz bl T E:Nat} {v z:Value} {xs:List α} {r:Value} (hsz:∀ x∈xs,(enc x).length=sz)
  (h:∀ (s:Sh) (G2:PM),PM.le G G2→v=s.val xs.length→SlR G2 sz enc s xs→PB G2 bl (cl [z,v] T)→Ct P f args G2 μ (fun _ μ' u=>μ'=μ∧u=r)) :
  Ct P f args G (.blk bl (cl [z,v] T) :: rS sz enc v E xs :: μ) (fun _ μ' u=>μ'=.blk bl (cl [z,v] T) :: rS sz enc v E xs :: μ∧u=r) :=
 (qP (Q:=fun ν u=>ν=rS sz enc v E xs :: μ∧u=r) fun G1 hle1 h1=>(aCz (Q:=fun ν u=>ν=μ∧u=r) hsz fun s G2 hle hv hs=>h s G2 (hle1.trans hle) hv hs (h1.mono hle)).mono
  fun G' μ' u ⟨ν,h2,h3,h4⟩=>⟨by rw [h2,h3],h4⟩).mono fun G' μ' u ⟨ν,h2,h3,h4⟩=>⟨by rw [h2,h3],h4⟩
end
section
variable {dr:Bool} {mc:Md} {P:Program} {n:Fm} {l:List Oper} {K:aI→PM→aH→Prop} {i:Nat} {σ:List Nat} {ρ:aI} {G:PM} {μ:aH}
variable {d t:Nat} {p:String} {af:Array Edge}
theorem apE {α:Type} {enc:α→List Value} {sz T E by':Nat} {x y:Operand} {z:Value} {a0:Addr} {s:Sh} {ys:List α} (ho:nth l i=some ⟨some d,.call { callee:=.builtin .append,args:=#[x,y],argTypes:=#[T,T] },t,p,af,none⟩)
  (hT:bL P T=some (E,sz,by')) (hz:(P.info? E).bind (·.zero)=some z) (hzs:z.cells.size=sz) (hx:Ev ρ true x (.slice (some a0) 0 0)) (hy:Ev ρ true y (s.val ys.length)) (hs:SlR G sz enc s ys) (h0:0<ys.length) (hsz:∀ u∈ys,(enc u).length=sz) (h1:∀ u∈ys.flatMap enc,u.oneCell'=true) (hb:ys.length*by'≤140737488355328) (h63:ys.length≤maxLen)
  (h:∀ v',v'.oneCell'=true→Wo dr mc P n l K σ ((d,true,v') :: ρ) G (rS sz enc v' E ys :: μ)) (hmc:mc.a=false∨dr=false:=by first|exact .inl rfl|exact .inr rfl):Wo dr mc P n l K (i :: σ) ρ G μ:=by
 refine .act (μ₁:=[]) (μ₂:=μ) (post:=fun G' μ' v'=>G'=G∧v'.oneCell'=true∧μ'=[rS sz enc v' E ys]) ho (by rcases hmc with h | h<;>simp [bH,h]) .no (.refl _) (fun a w ha hs0=>.inl ?_) ?_
 ·have hsμ:Sat G μ w:=by simpa using hs0
  obtain ⟨hu,inf,hi,rfl,rfl⟩:=fQ hT
  have hz':=hz
  rw [hi] at hz'
  simp only [Option.bind_some] at hz'
  have hne:=hs.nn h0
  have hfl:=uG hsz
  have hnews:∀ j u,(ys.flatMap enc)[j]? = some u→w.cell? ((⟨s.b,s.o,none⟩ : Addr).add j)=some u:=fun j u hj=>by rw [kC]; exact (SlR.flat hsz hs j u hj) w hsμ.sub
  unfold maxLen at h63
  have hrun:=run_append_grow (P:=P) w T t E inf _ hu hi hz' a0 0 0 [] (by simp) (fun j v h=>by simp at h) ⟨s.b,s.o,none⟩ ys.length s.cap (ys.flatMap enc) hfl hnews (by omega) (by omega) (growslice_fits (by omega) (by simpa using hb))
  simp only [Nat.zero_add] at hrun
  have h2:=((eK (Sat.left (μ:=[]) hs0)).drew).alloc (.cells (([]:List Value).toArray++(ys.flatMap enc).toArray++Builtin.zeroCells z.cells (grownCap w ys.length 0 E-ys.length)) E)
  have hge:=grownCap_ge w ys.length 0 E
  have h3:=h2.asRow (m:=ys.length) (cap:=grownCap w ys.length 0 E) (sz:=inf.size) (xs:=ys.flatMap enc) hfl hge (grownCap_le_maxLen w ys.length 0 E (by unfold maxLen; omega)) (by
   simp only [Array.size_append,List.size_toArray,size_zeroCells,hfl,List.length_nil,hzs]
   have:=Nat.add_mul ys.length (grownCap w ys.length 0 E-ys.length) inf.size
   rw [show ys.length+(grownCap w ys.length 0 E-ys.length)=grownCap w ys.length 0 E by omega] at this
   omega) (by rw [Array.toList_append,Array.toList_append]; exact List.take_left' (by simp [hfl]))
  refine ⟨_,_,G,_,.inl (by simp [execOp,resolve,invoke,builtin,hx.eval ha rfl,hy.eval ha rfl,Sh.val,hne,hrun]; rfl),h3,rfl,rfl,?_⟩
  simp [rS]
 rintro v' G' μ'' _ ⟨rfl,h1,rfl⟩
 exact h v' h1
theorem aNl {T E sz by' c:Nat} {x y:Operand} {o1 o2:Option Addr} (ho:nth l i=some ⟨some d,.call { callee:=.builtin .append,args:=#[x,y],argTypes:=#[T,T] },t,p,af,none⟩)
  (hT:bL P T=some (E,sz,by')) (hx:Ev ρ true x (.slice o1 0 0)) (hy:Ev ρ true y (.slice o2 0 c))
  (h:Wo dr mc P n l K σ ((d,true,.slice o1 0 0) :: ρ) G μ) (hmc:mc.a=false∨dr=false:=by first|exact .inl rfl|exact .inr rfl):Wo dr mc P n l K (i :: σ) ρ G μ:=by
 obtain ⟨hu,inf,hi,rfl,rfl⟩:=fQ hT
 refine .act (μ₁:=[]) (μ₂:=μ) (post:=fun G' μ' v'=>G'=G∧v'=.slice o1 0 0∧μ'=[]) ho (by rcases hmc with h | h<;>simp [bH,h]) .no (.refl _) (fun a w ha hs0=>.inl ?_) ?_
 ·refine ⟨.slice o1 0 0,w,G,[],.inl ?_,eK (Sat.left (μ:=[]) hs0),rfl,rfl,rfl⟩
  cases o1<;>cases o2<;>simp [execOp,resolve,invoke,builtin,hx.eval ha rfl,hy.eval ha rfl,Builtin.append_,run_underlying hu,sizeOf,typeInfo,hi,Builtin.lenOf,Builtin.firstCells,loadCells,loadCellsFrom,storeCells]
 rintro v' G' μ'' _ ⟨rfl,rfl,rfl⟩
 exact h
end
theorem aKs {α:Type} {xs:List α} {k:Nat} {x:α} (h:xs[k]? = some x):xs.take k++[x]=xs.take (k+1):=by
 rw [List.take_add_one,h]; rfl
theorem aQG {ws:List Wtg} (h1:∀ w∈ws,w.ops.length≤10):(jn ws).length≤10*ws.length:=by
 induction ws with
 | nil=>exact Nat.le_refl _
 | cons a r ih =>
  have:=ih fun w hw=>h1 w (List.mem_cons_of_mem _ hw)
  have h2:=h1 a (List.mem_cons_self ..)
  simp only [jn,List.flatMap_cons,List.length_append,List.length_cons] at this ⊢
  omega
theorem toList_inj {a b:ByteArray} (h:(a.toList == b.toList)=true):a=b:=aDu (by simpa using h)
section
variable {e:Ent}
theorem eR1 (h:1024<(e.user.size:Int)):jT e=false:=by unfold jT; rw [decide_eq_false (by omega)]; rfl
theorem eR2 (h:65536<(e.value.size:Int)):jT e=false:=by unfold jT; rw [decide_eq_false (p:=(e.value.size:Int)≤65536) (by omega)]; simp
theorem eR3 (h:72057594037927935<(e.seq.toNat:Int)):jT e=false:=by unfold jT; rw [decide_eq_false (p:=e.seq.toNat≤72057594037927935) (by omega)]; simp
theorem eR4 (h1:(e.user.size:Int)≤1024) (h2:(e.value.size:Int)≤65536) (h3:(e.seq.toNat:Int)≤72057594037927935) (h4:(e.kind.toNat:Int)=0):jT e=(e.value.toList == (⟨#[]⟩ : ByteArray).toList):=by
 have hk:e.kind=0#8:=BitVec.eq_of_toNat_eq (by show _=0; omega)
 unfold jT
 rw [decide_eq_true h1,decide_eq_true h2,decide_eq_true (p:=e.seq.toNat≤72057594037927935) (by omega),if_pos hk,show (⟨#[]⟩ : ByteArray).toList=[] by rw [ByteArray.toList_eq]]; rfl
theorem eR5 (h1:(e.user.size:Int)≤1024) (h2:(e.value.size:Int)≤65536) (h3:(e.seq.toNat:Int)≤72057594037927935) (h4:¬ (e.kind.toNat:Int)=0):jT e=((e.kind.toNat:Int) == 1):=by
 have hk:¬ e.kind=0#8:=fun q=>h4 (by rw [q]; rfl)
 unfold jT
 rw [decide_eq_true h1,decide_eq_true h2,decide_eq_true (p:=e.seq.toNat≤72057594037927935) (by omega),if_neg hk]
 show decide (e.kind=1#8)=decide ((e.kind.toNat:Int)=1)
 exact decide_eq_decide.2 ⟨fun q=>by rw [q]; rfl,fun q=>BitVec.eq_of_toNat_eq (by show _=1; omega)⟩
end
section
variable {α:Type} {p:α→Bool} {l:List α} {k:Nat} {x:α}
def oJ (p:α→Bool) (l:List α):Int:=match l.findIdx? p with | some i=>(i:Int) | none => -1
theorem aIl (h:∀ j y,j<k→l[j]? = some y→p y=false) (hx:l[k]? = some x) (hp:p x=false):∀ j y,j<k+1→l[j]? = some y→p y=false:=fun j y hj hy=>by
 by_cases e:j=k
 ·subst e; rw [hx] at hy; cases hy; exact hp
 ·exact h j y (by omega) hy
theorem aIj (h:∀ j y,j<k→l[j]? = some y→p y=false) (hx:l[k]? = some x) (hp:p x=true):gO [.int .i64 (k:Int)]=.int .i64 (oJ p l):=by
 have hk:k<l.length:=(List.getElem?_eq_some_iff.1 hx).1
 have:l.findIdx? p=some k:=by
  rw [List.findIdx?_eq_some_iff_getElem]
  refine ⟨hk,?_,fun j hj=>?_⟩
  ·rw [List.getElem?_eq_getElem hk] at hx; cases hx; exact hp
  rw [h j _ hj (List.getElem?_eq_getElem (by omega))]; simp
 unfold oJ; rw [this]; rfl
theorem aIk (h:∀ j y,j<k→l[j]? = some y→p y=false) (hk:l.length≤k):gO [.int .i64 (-1)]=.int .i64 (oJ p l):=by
 have:l.findIdx? p=none:=by
  rw [List.findIdx?_eq_none_iff]
  intro y hy
  obtain ⟨i,hi,rfl⟩:=List.getElem_of_mem hy
  exact h i _ (by omega) (List.getElem?_eq_getElem hi)
 unfold oJ; rw [this]; rfl
theorem aQA:decide (oJ p l≥0)=l.any p:=by
 unfold oJ
 cases h:l.findIdx? p with
 | none =>
  rw [List.findIdx?_eq_none_iff] at h
  have:l.any p=false:=by rw [List.any_eq_false]; intro x hx; rw [h x hx]; simp
  rw [this]; rfl
 | some i =>
  rw [List.findIdx?_eq_some_iff_getElem] at h
  obtain ⟨hi,hp,_⟩:=h
  have:l.any p=true:=List.any_eq_true.2 ⟨_,List.getElem_mem hi,hp⟩
  rw [this]; exact decide_eq_true (Int.natCast_nonneg i)
end
section
variable {l:List Ent} {k:Nat} {x y:Ent}
theorem aKE:((!le x.user y.user)||(x.user.toList == y.user.toList&&decide ((x.seq.toNat:Int)≤(y.seq.toNat:Int)))) = !pC x y:=by
 rw [aQe,Bool.not_not]
 unfold pC
 rcases aI8 x.user y.user with h | h | h
 ·have hne:(x.user.toList == y.user.toList)=false:=by
   cases hq:(x.user.toList == y.user.toList) with
   | false=>rfl
   | true=>rw [toList_inj hq,xS] at h; cases h
  rw [h,aCF h,hne]; rfl
 ·rw [h,xS,beq_self_eq_true]
  simp only [Bool.false_or,Bool.true_and]
  by_cases q:y.seq.toNat<x.seq.toNat
  ·rw [decide_eq_true q,decide_eq_false (by omega)]; rfl
  ·rw [decide_eq_false q,decide_eq_true (by omega)]; rfl
 ·have hne:(x.user.toList == y.user.toList)=false:=by
   cases hq:(x.user.toList == y.user.toList) with
   | false=>rfl
   | true=>rw [toList_inj hq,xS] at h; cases h
  rw [h,aCF h,hne]; rfl
theorem aCa (hx:l[k]? = some x):l.getD k Ent.zero=x:=by rw [List.getD_eq_getElem?_getD,hx]; rfl
theorem aKG (hk:1≤k) (h:∀ j,j+1<k→pC (l.getD j Ent.zero) (l.getD (j+1) Ent.zero)=true) (hx:l[k-1]? = some x) (hy:l[k]? = some y) (c:((!le x.user y.user)||(x.user.toList == y.user.toList&&decide ((x.seq.toNat:Int)≤(y.seq.toNat:Int))))=false) :
  ∀ j,j+1<k+1→pC (l.getD j Ent.zero) (l.getD (j+1) Ent.zero)=true:=fun j hj=>by
 by_cases e:j+1=k
 ·have e2:j=k-1:=by omega
  subst e2
  rw [e,aCa hx,aCa hy]
  rw [aKE] at c
  cases h:pC x y with
  | true=>rfl
  | false=>rw [h] at c; cases c
 ·exact h j (by omega)
theorem aKF (hk:1≤k) (hx:l[k-1]? = some x) (hy:l[k]? = some y) (c:((!le x.user y.user)||(x.user.toList == y.user.toList&&decide ((x.seq.toNat:Int)≤(y.seq.toNat:Int))))=true):aAg l=false:=by
 have hlt:k<l.length:=(List.getElem?_eq_some_iff.1 hy).1
 refine aTe (i:=k-1) (by omega) ?_
 rw [show k-1+1=k by omega,aCa hx,aCa hy]
 rw [aKE] at c
 cases h:pC x y with
 | true=>rw [h] at c; cases c
 | false=>rfl
theorem aTZ (hk:l.length≤k∨l.length=0) (h:∀ j,j+1<k→pC (l.getD j Ent.zero) (l.getD (j+1) Ent.zero)=true):aAg l=true:=aCx fun i hi=>h i (by omega)
end
theorem aP9 {α:Type} {p:α→Bool}:oJ p []<0:=by show (-1:Int)<0; decide
theorem aAW {μ μ1 μ2 μ3 μ4 μ5 μ6 μ7:aH} {r1 r2 r3 r4 r5 r6 r7:Res} (h1:MTake μ r1 μ1) (h2:MTake μ1 r2 μ2) (h3:MTake μ2 r3 μ3) (h4:MTake μ3 r4 μ4) (h5:MTake μ4 r5 μ5) (h6:MTake μ5 r6 μ6) (h7:MTake μ6 r7 μ7):μ.Perm ([r1,r2,r3,r4,r5,r6,r7]++μ7):=h1.perm.trans ((aEx h2 h3 h4 h5 h6 h7).cons _)
theorem aQs {P:Program} {G:PM} {f:FuncId} {args:Array Value} {bl T E:Nat} {v sz:Value} {xs:List Nd} {r:Value}
  (h:∀ (s:Sh) (G2:PM),PM.le G G2→v=s.val xs.length→SlR G2 16 Nd.cells s xs→PB G2 bl (cl [v,sz] T)→Ct P f args G2 [] (fun _ μ' u=>μ'=[]∧u=r)) :
  Ct P f args G [.blk bl (cl [v,sz] T),rS 16 Nd.cells v E xs] (fun _ μ' u=>μ'=[.blk bl (cl [v,sz] T),rS 16 Nd.cells v E xs]∧u=r) :=
 (qP (Q:=fun ν u=>ν=[rS 16 Nd.cells v E xs]∧u=r) fun G1 hle1 h1=>(aCz (Q:=fun ν u=>ν=[]∧u=r) (fun x _=>Nd.len x) fun s G2 hle hv hs=>h s G2 (hle1.trans hle) hv hs (h1.mono hle)).mono
  fun G' μ' u ⟨ν,h2,h3,h4⟩=>⟨by rw [h2,h3],h4⟩).mono fun G' μ' u ⟨ν,h2,h3,h4⟩=>⟨by rw [h2,h3],h4⟩
theorem aLI {α:Type} {enc:α→List Value} {sz:Nat} {X:Cx} {cd:Code} {k:List KI} {ρ:aI} {G:PM} {μ:aH} {b E:Nat} {cs:List Value} {μ':aH} (xs:List α) (m:Nat) (hm:MTake μ (.blk b (cl cs E)) μ') (hx:cs=xs.flatMap enc) (hl:xs.length=m) (hsz:∀ x∈xs,(enc x).length=sz) (hb:m≤140737488355328)
  (h:Wk X cd k ρ G (rS sz enc (.slice (some ⟨b,0,none⟩) m m) E xs :: μ')):Wk X cd k ρ G μ :=
 ⟨fun a w ha ht=>by
  subst hl; subst hx
  have hf:=uG hsz
  exact h.out a w ha ((ht.perm hm.perm).asRow (sz:=sz) hf (Nat.le_refl _) (by unfold maxLen; omega) (by simpa using hf) (List.take_of_length_le (by simpa using Nat.le_of_eq hf)))⟩
theorem aCp {l:List Opn} {a b:Opn} {us:ByteArray} {q:BitVec 64} (hl:l=[a,b]) (ha:pD (dX 1#64 a) us q=false) (hb:pD (dX 2#64 b) us q=false) :
  WayN (cB (bT 0 l) 2) us q (fun _=>0)∧cU (cB (bT 0 l) 2) 0 0=1∧((cB (bT 0 l) 2).getD 1 Nd.z).1=dX 1#64 a:=by
 subst hl
 have h2:∃ p q r:Nat→Nat,cB (bT 0 [a,b]) 2=[(Ent.zero,p),(dX 1#64 a,q),(dX 2#64 b,r)]∧p 0=1∧p 1=2∧(∀ k,2≤k→p k=0)∧q 0=2∧(∀ k,1≤k→q k=0)∧∀ k,r k=0:=by
  refine ⟨_,_,_,rfl,rfl,rfl,fun k hk=>?_,rfl,fun k hk=>?_,fun k=>?_⟩
  ·match k,hk with
   | k+2,_=>rfl
  ·match k,hk with
   | k+1,_=>rfl
  match k with
  | 0=>rfl
  | 1=>rfl
  | k+2=>rfl
 obtain ⟨p,q',r,e,p0,p1,p2,q0,q1,r0⟩:=h2
 rw [e]
 have n0:∀ k,cU [(Ent.zero,p),(dX 1#64 a,q'),(dX 2#64 b,r)] 0 k=p k:=fun _=>rfl
 have n1:∀ k,cU [(Ent.zero,p),(dX 1#64 a,q'),(dX 2#64 b,r)] 1 k=q' k:=fun _=>rfl
 have n2:∀ k,cU [(Ent.zero,p),(dX 1#64 a,q'),(dX 2#64 b,r)] 2 k=r k:=fun _=>rfl
 refine ⟨⟨rfl,fun k _=>by simp,fun k _=>.inl ⟨rfl,?_⟩,fun i hi k _=>?_⟩,by rw [n0,p0],rfl⟩
 ·match k with
  | 0=>exact .inr (by rw [n0,p0]; exact ha)
  | 1=>exact .inr (by rw [n0,p1]; exact hb)
  | k+2=>exact .inl (by rw [n0,p2 _ (by omega)])
 have:i=0∨i=1∨i=2:=by simp at hi; omega
 rcases this with rfl|rfl|rfl
 ·rw [n0]
  match k with
  | 0=>rw [p0]; simp
  | 1=>rw [p1]; simp
  | k+2=>rw [p2 _ (by omega)]; simp
 ·rw [n1]
  match k with
  | 0=>rw [q0]; simp
  | k+1=>rw [q1 _ (by omega)]; simp
 rw [n2,r0]; simp
def gD (bd bt:Nat) (root:Nat→Y) (o:Opts) (most:Int) (x y:Value):List Value:=[pt bd,pt bt]++(ba 32 root++(o.cells++[.int .i64 most,x,y]))
section
variable {bd bt:Nat} {root:Nat→Y} {o:Opts} {most:Int} {x y z:Value}
theorem aLF:(gD bd bt root o most x y).length=44:=rfl
theorem aVd:(gD bd bt root o most x y).set 42 z=gD bd bt root o most z y:=rfl
theorem aVe:(gD bd bt root o most x y).set 43 z=gD bd bt root o most x z:=rfl
theorem aVf:(gD bd bt root o most x y)[41]? = some (.int .i64 most):=rfl
theorem aCq:(gD bd bt root o most x y)[42]? = some x:=rfl
theorem aLG:(gD bd bt root o most x y)[43]? = some y:=rfl
end
theorem Tr.freeze0 {G0 G:PM} {K0:List Nat} {w0 w:World} {μ:aH} {b:Nat} {o:Obj} (h:Tr G0 K0 w0 G (.blk b o :: μ) w):Tr G0 K0 w0 (G.add b o) μ w:=by
 have hbo:w.heap[b]? = some o:=h.sat.own _ (List.mem_cons_self ..)
 have hk:keys (.blk b o :: μ)=b :: keys μ:=by simp [keys,Res.keys]
 have hnd:=h.sat.nodup
 rw [hk] at hnd
 have hGb:G b=none:=h.sat.apart b (by rw [hk]; exact List.mem_cons_self ..)
 have hw0:=h.mine b (by rw [hk]; exact List.mem_cons_self ..)
 refine ⟨⟨?_,fun r hr=>h.sat.own r (List.mem_cons_of_mem _ hr),?_,(List.nodup_cons.1 hnd).2⟩,h.os,h.tape,h.output,h.size,?_,fun c hc=>h.mine c (by rw [hk]; exact List.mem_cons_of_mem _ hc),?_⟩
 ·intro c u hc
  unfold PM.add at hc
  split at hc
  ·rename_i e; subst e; cases hc; exact hbo
  exact h.sat.sub c u hc
 ·intro c hc
  unfold PM.add
  rw [if_neg (fun (e:c=b)=>(List.nodup_cons.1 hnd).1 (e▸hc))]
  exact h.sat.apart c (by rw [hk]; exact List.mem_cons_of_mem _ hc)
 ·intro c hc hK
  have:=h.old c hc hK
  refine ⟨this.1,?_⟩
  unfold PM.add
  rw [if_neg (fun e=>by subst e; rcases hw0 with q | q; exact hK q; omega)]
  exact this.2
 intro c u hK hc
 exact PM.le_add hGb c u (h.le c u hK hc)
theorem Tr.freezeRow0 {G0 G:PM} {μ:aH} {K0:List Nat} {w0 w:World} {E sz m:Nat} {v:Value} {xs:List Value} (h:Tr G0 K0 w0 G (.row v E sz m xs :: μ) w) :
  ∃ G' s,PM.le G G'∧v=Sh.val s m∧m≤s.cap∧(m≠0→s.oa=some ⟨s.b,s.o,none⟩)∧RdNP G' s.b s.o xs∧Tr G0 K0 w0 G' μ w:=by
 have hrow:w.ownsRow 0 E sz v m xs:=h.sat.own _ (List.mem_cons_self ..)
 have hnd:=h.sat.nodup
 rcases hrow.2 with ⟨rfl,rfl⟩ | ⟨g,cap,cur,rfl,_,hg,hnc,hcm,hcs,htake⟩
 ·have hx:xs=[]:=List.eq_nil_of_length_eq_zero (by simpa using hrow.1)
  subst hx
  exact ⟨G,⟨none,0⟩,PM.le.refl G,rfl,Nat.le_refl _,fun h=>absurd rfl h,fun j v hj=>by simp at hj,Tr.left (ν:=[.row (.slice none 0 0) E sz 0 []]) (h.perm (List.perm_append_comm (l₁:=[Res.row (.slice none 0 0) E sz 0 []])))⟩
 have hk:keys (.row (.slice (some ⟨g,0,none⟩) m cap) E sz m xs :: μ)=g :: keys μ:=by simp [keys,Res.keys,Value.ownBlock]
 have hk':keys (.blk g (.cells cur E (0,0)) :: μ)=g :: keys μ:=by simp [keys,Res.keys]
 rw [hk] at hnd
 have hb:Tr G0 K0 w0 G (.blk g (.cells cur E (0,0)) :: μ) w:=by
  refine { h with sat:=⟨h.sat.sub,fun r hr=>?_,by rw [hk',←hk]; exact h.sat.apart,by rw [hk']; exact hnd⟩,mine:=by rw [hk',←hk]; exact h.mine }
  rcases List.mem_cons.1 hr with rfl | hr
  ·exact hg
  exact h.sat.own r (List.mem_cons_of_mem _ hr)
 have hGg:G g=none:=h.sat.apart g (by rw [hk]; exact List.mem_cons_self ..)
 refine ⟨G.add g (.cells cur E (0,0)),⟨some ⟨g,0,none⟩,cap⟩,PM.le_add hGg,rfl,hnc,fun _=>rfl,fun j u hj=>?_,hb.freeze0⟩
 intro w' hs'
 have h1:=hs' g _ (cH G g _)
 show w'.cell? ⟨g,0+j,none⟩=some u
 rw [Nat.zero_add,cell_of_row w' g j cur E (0,0) h1]
 rw [← htake,List.getElem?_take] at hj
 split at hj
 ·simpa using hj
 cases hj
theorem Tr.frzS0 {α:Type} {enc:α→List Value} {sz:Nat} {G0 G:PM} {μ:aH} {K0:List Nat} {w0 w:World} {E:Nat} {v:Value} {xs:List α} (hsz:∀ x∈xs,(enc x).length=sz) (h:Tr G0 K0 w0 G (rS sz enc v E xs :: μ) w) :
  ∃ G' s,PM.le G G'∧v=Sh.val s xs.length∧SlR G' sz enc s xs∧Tr G0 K0 w0 G' μ w:=by
 obtain ⟨G',s,h1,h2,h3,h4,h5,h6⟩:=h.freezeRow0
 exact ⟨G',s,h1,h2,SlR.ofRow hsz h3 h4 h5,h6⟩
theorem aVk {α:Type} {enc:α→List Value} {sz:Nat} {X:Cx} {cd:Code} {k:List KI} {ρ:aI} {G:PM} {μ:aH} {E:Nat} {v:Value} {xs:List α} {μ':aH} (hm:MTake μ (rS sz enc v E xs) μ') (hsz:∀ x∈xs,(enc x).length=sz) (h:∀ G' s,PM.le G G'→v=Sh.val s xs.length→SlR G' sz enc s xs→Wk X cd k ρ G' μ'):Wk X cd k ρ G μ :=
 ⟨fun a w ha ht=>by
  obtain ⟨G',s,h1,h2,h3,h4⟩:=(ht.perm hm.perm).frzS0 hsz
  exact (h G' s h1 h2 h3).out a w ha h4⟩
theorem SlR.dn {G:PM} {h:Sh} {xs:List Nat} (s:SlR G 2 aAE h xs):SlR G 2 xI h (xs.map fun c:Nat=>((c:Int),(0:Int))):=by
 refine ⟨fun hne=>s.there fun e=>hne (by rw [e]; rfl),by rw [List.length_map]; exact s.le,fun i x hx=>?_⟩
 rw [List.getElem?_map] at hx
 cases e:xs[i]? with
 | none=>rw [e] at hx; cases hx
 | some c =>
  rw [e] at hx
  cases hx
  exact s.rd i c e
theorem aCV {s:List UInt8} {e e0:EvD} {i:Nat} {c:Int} (h:zT s e i c) (hp:kT s=.ok e0):e=e0∧i=0∧c=0:=by
 rcases h with ⟨h1,h2,h3⟩ | ⟨h1,_,_⟩
 ·rw [hp] at h1; cases h1; exact ⟨rfl,h2,h3⟩
 ·rw [hp] at h1; cases h1
theorem aJ6 {s:List UInt8} {e:EvD} {i i0:Nat} {c:Int} (h:zT s e i c) (hp:kT s=.error i0):e=EvD.zero∧i=i0∧c=260:=by
 rcases h with ⟨h1,_,_⟩ | ⟨h1,h2,h3⟩
 ·rw [hp] at h1; cases h1
 ·rw [hp] at h1; cases h1; exact ⟨h2,rfl,h3⟩
def sW1:List UInt8:=[119,114,105,116,101,32,50,32,115,121,110,99,32,43,97,61,120,32,45,98]
def sPk:List UInt8:=[112,105,99,107,32,48]
def sGt:List UInt8:=[103,101,116,32,97,32,110,111,119]
def sFo:List UInt8:=[102,111,111]
def sG0:List UInt8:=[103,101,116,32,97]
def bM:Opn:=⟨1#8,aG [97],aG [120]⟩
def bO:Opn:=⟨0#8,aG [98],⟨#[]⟩⟩
def iI:EvD:=⟨1#8,2,[bM,bO],true,[],[],0#64,0,[],[],[]⟩
def gH:EvD:=⟨6#8,0,[],false,[],[],0#64,0,[],[],[]⟩
def fW:EvD:=⟨2#8,0,[],false,[97],[],18446744073709551615#64,0,[],[],[]⟩
theorem aJ7:kT sW1=.ok iI:=by kernel_rfl
theorem aTH:kT sPk=.ok gH:=by kernel_rfl
theorem aTG:kT sGt=.ok fW:=by kernel_rfl
theorem aTE:kT sFo=.error 0:=by kernel_rfl
theorem aTF:kT sG0=.error 5:=by kernel_rfl
theorem aJj:∀ o∈[bM,bO],o.ok:=fun o ho=>by
 simp only [List.mem_cons,List.not_mem_nil,or_false] at ho
 rcases ho with rfl|rfl
 ·exact ⟨.inl rfl,by decide,by decide⟩
 ·exact ⟨.inr ⟨rfl,by rw [ByteArray.toList_eq]; rfl⟩,by decide,by decide⟩
theorem aQ3:lt ([bM,bO].getD 0 Opn.zero).user ([bM,bO].getD 1 Opn.zero).user=true:=by kernel_rfl
theorem aEg:Lib.itoa 0=[48]:=by
 show Lib.itoa ((0:Nat):Int)=_
 rw [Lib.itoa_nonneg,Lib.decDigits_one (by decide)]; rfl
theorem aQE:Lib.itoa 2=[50]:=by
 show Lib.itoa ((2:Nat):Int)=_
 rw [Lib.itoa_nonneg,Lib.decDigits_one (by decide)]; rfl
theorem aB7:Lib.itoa 260=[50,54,48]:=by
 show Lib.itoa ((260:Nat):Int)=_
 rw [Lib.itoa_nonneg,Lib.decDigits,dif_neg (by decide),Lib.decDigits_two (by decide) (by decide)]; rfl
theorem aSN:Rep.zero.ok:=⟨by decide,by decide,⟨by decide,fun p h=>absurd h List.not_mem_nil⟩,⟨by decide,fun p h=>absurd h List.not_mem_nil⟩⟩
def rPk:Rep:=⟨0,0#64,⟨#[]⟩,false,[],[(((2:Nat):Int),(0:Int))]⟩
def uS:Rep:=⟨0,0#64,aG [120],true,[],[]⟩
theorem aSP:rPk.ok:=⟨by decide,by decide,⟨by decide,fun p h=>absurd h List.not_mem_nil⟩,⟨by decide,fun d h=>by
 have:d=(((2:Nat):Int),(0:Int)):=List.mem_singleton.1 h
 subst this; decide⟩⟩
theorem aSO:uS.ok:=⟨by decide,by decide,⟨by decide,fun p h=>absurd h List.not_mem_nil⟩,⟨by decide,fun p h=>absurd h List.not_mem_nil⟩⟩
theorem txW:uZ iI.kind iI.n Rep.zero=[111,107]:=rfl
theorem txP:uZ gH.kind gH.n rPk=[100,111,110,101,32,50,58,48]:=by
 show gN gH.kind gH.n rPk++(iQ (2,0)++[])=_
 unfold iQ
 rw [aQE,aEg]; rfl
theorem txG:uZ fW.kind fW.n uS=[61,120]:=rfl
end Go.Tan
namespace Go.Proofs.YtoifkgkandfeiaaGreatDoor
open Go.Tan Go.RowKit
set_option maxRecDepth 100000
theorem aWr:Tryz.prog.cellsOf 344=1:=by kernel_rfl
theorem aWt:Tryz.prog.cellsOf 511=64:=by kernel_rfl
theorem aWq:Tryz.prog.cellsOf 23=1:=by kernel_rfl
theorem aWs:Tryz.prog.cellsOf 365=20:=by kernel_rfl
theorem gC:Tryz.prog.globalNamed "tantalus/sha.constants" = some 6:=by kernel_rfl
theorem gCT:(Tryz.prog.globals[6]?).map (·.type)=some 511:=by kernel_rfl
theorem gPw:Tryz.prog.globalNamed "internal/strconv.uint64pow10" = some 2:=by kernel_rfl
theorem aPl:(Tryz.prog.globals[2]?).map (·.type)=some 365:=by kernel_rfl
def aIq:List Int:=[1116352408,1899447441,3049323471,3921009573,961987163,1508970993,2453635748,2870763221,3624381080,310598401,607225278,1426881987,1925078388,2162078206,2614888103,3248222580,3835390401,4022224774,264347078,604807628,770255983,1249150122,1555081692,1996064986,2554220882,2821834349,2952996808,3210313671,3336571891,3584528711,113926993,338241895,666307205,773529912,1294757372,1396182291,1695183700,1986661051,2177026350,2456956037,2730485921,2820302411,3259730800,3345764771,3516065817,3600352804,4094571909,275423344,430227734,506948616,659060556,883997877,958139571,1322822218,1537002063,1747873779,1955562222,2024104815,2227730452,2361852424,2428436474,2756734187,3204031479,3329325298]
theorem aQM:∀ j,j<64→aIq.getD j 0=((kW j).toNat:Int):=by decide
theorem aUi {W:World} {x y z:String×DataW Unit} {rest:List (String×DataW Unit)} (h:laidMet Tryz.prog (x :: y :: z :: ("tantalus/sha.constants",Rows.laid_tantalus_sha_constants) :: rest) W):RdNP (fun b=>W.heap[b]?) 6 0 (wa 64 kW) :=
 aUj (Lib.tabIs_of_head (zs:=aIq) (rest:=rest) gC gCT Tryz.underlying511 Tryz.underlying344 aWr aWt (aAQ (aAQ (aAQ h)))) gC rfl aQM
def aE4:List Int:=[1,10,100,1000,10000,100000,1000000,10000000,100000000,1000000000,10000000000,100000000000,1000000000000,10000000000000,100000000000000,1000000000000000,10000000000000000,100000000000000000,1000000000000000000,10000000000000000000]
theorem aSt:Lib.pow10Tab=aE4:=by decide
theorem pw6 {W:World} {x y:String×DataW Unit} {rest:List (String×DataW Unit)} (h:laidMet Tryz.prog (x :: y :: ("internal/strconv.uint64pow10",Rows.laid_internal_strconv_uint64pow10) :: rest) W):PwG Tryz.prog (fun b=>W.heap[b]?):=fun w hw=>by
 have h1:Lib.TabIs Tryz.prog W "internal/strconv.uint64pow10" .u64 aE4:=Lib.tabIs_of_head (zs:=aE4) (rest:=rest) gPw aPl Tryz.underlying365 Tryz.underlying23 aWq aWs (aAQ (aAQ h))
 rw [aSt]
 unfold Lib.TabIs World.var? at h1 ⊢
 rw [gPw] at h1 ⊢
 simp only [Option.bind_some] at h1 ⊢
 cases e:W.heap[2]? with
 | none=>rw [e] at h1; cases h1
 | some o=>rw [e] at h1; rw [hw 2 o e]; exact h1
def aIy:Lit→Value
 | .int k n=>.int k n
 | .bool b=>.bool b
 | _=>.bool false
def aOm:DataW Unit→List Value
 | .agg ps=>ps.flatMap fun q=>match q with
  | .lit l=>[aIy l]
  | .agg rs=>rs.flatMap fun s=>match s with
   | .lit l=>[aIy l]
   | _=>[]
  | _=>[]
 | _=>[]
def yI (d:DataW Unit):Obj→Obj
 | .cells _ t frozen=>.cells (aOm d).toArray t frozen
 | o=>o
noncomputable def aEj (os:Os):World :=
 { World.holding Tryz.prog os ⟨#[], #[],[]⟩ with heap:=(((((((World.holding Tryz.prog os ⟨#[], #[],[]⟩).heap.modify 4 (yI Rows.laid_math_bits_deBruijn32tab)).modify 5 (yI Rows.laid_math_bits_deBruijn64tab)).modify 2 (yI Rows.laid_internal_strconv_uint64pow10)).modify 6 (yI Rows.laid_tantalus_sha_constants)).modify 1 (yI Rows.laid_unicode_utf8_acceptRanges)).modify 0 (yI Rows.laid_unicode_utf8_first)) }
section
variable {H:Type} {R:Nat} {enc:TypeId×Value→H} {W:World} {cs:List Value}
theorem aSU {v u:Value} (h:v.cells.toList=[u]) (hu:u.oneCell'=true) (hn:∀ c,v≠.agg c):v=u:=by
 cases v<;>first|(exact absurd rfl (hn _))|(simp [Value.cells] at h; exact h)
theorem aUd {t:TypeId} {base:Nat} {v u:Value} (ht:Tryz.prog.underlying t=some .string) (h:Value.okWide Tryz.prog W .any base t v) (hl:v.cells.toList=[u]) (hu:u.oneCell'=true):v=u:=by
 refine aSU hl hu fun c hc=>?_
 subst hc
 unfold Value.okWide at h
 rw [ht] at h
 simp [Cell.okWide,ht,Cell.ok] at h
end
theorem aUs:ownKnob Tryz.prog.godebug=none:=by kernel_rfl
theorem aKq:laidOutB Tryz.prog=true:=by kernel_rfl
theorem aUt:mapsRowed Tryz.prog=true:=by kernel_rfl
theorem aUr:(Rows.deskTextsRow.plainKeys == Tryz.prog.plainKeys)=true:=by kernel_rfl
theorem aUq:Tryz.prog.stopsHeard=true:=by kernel_rfl
theorem aUp:Tryz.prog.mayEnter=true:=by kernel_rfl
theorem tab {a b:Bool} (h:a=true) (k:b=true):(a&&b)=true:=by rw [h,k]; rfl
end Go.Proofs.YtoifkgkandfeiaaGreatDoor
namespace Go.Tan
open Go.RowKit
theorem aBs (s:ByteArray) (i:Nat) (h:i<s.size):1≤(Utf8.decode s i).2:=by
 by_cases ha:((s[i]'h)).toNat<128
 ·rw [decode_ascii s i h ha]; exact Nat.le_refl 1
 ·exact (decode_high s i h (by omega)).2
def uB (s:ByteArray) (i:Nat):Bool:=decide ((Utf8.decode s i).1<32)||decide ((Utf8.decode s i).1=127)||(decide ((Utf8.decode s i).1=65533)&&decide ((Utf8.decode s i).2<3))
def tG (s:ByteArray):Nat→Nat→Option Nat
 | 0,_=>none
 | n+1,i=>if i<s.size then (if uB s i=true then some i else tG s n (i+(Utf8.decode s i).2)) else none
theorem aLR (s:ByteArray):∀ (n m i:Nat),s.size-i<n→s.size-i<m→tG s n i=tG s m i
 | 0,_,_,h,_=>by omega
 | _,0,_,_,h=>by omega
 | n+1,m+1,i,h1,h2=>by
  unfold tG
  split
  ·rename_i hi
   split
   ·rfl
   ·have:=aBs s i hi
    exact aLR s n m _ (by omega) (by omega)
  ·rfl
def jK (s:ByteArray) (i:Nat):Option Nat:=tG s (s.size-i+1) i
theorem aLP {s:ByteArray} {i:Nat} (h:¬ i<s.size):jK s i=none:=by unfold jK tG; rw [if_neg h]
theorem aLO {s:ByteArray} {i:Nat} (h:i<s.size) (hb:uB s i=true):jK s i=some i:=by unfold jK tG; rw [if_pos h,if_pos hb]
theorem aLQ {s:ByteArray} {i:Nat} (h:i<s.size) (hb:uB s i=false):jK s i=jK s (iB s i):=by
 have ha:=aBs s i h
 have e:iB s i=i+(Utf8.decode s i).2:=by unfold iB; rw [if_pos h]
 rw [e]
 unfold jK
 conv=>lhs; unfold tG
 rw [if_pos h,if_neg (by rw [hb]; decide)]
 exact aLR s _ _ _ (by omega) (by omega)
def aBq (a b c d:Nat) (p1 p2 p3:Bool):Nat×Nat :=
 if a<128 then (a,1)
 else if (a / 32 == 6&&(p1&&b / 64 == 2))=true then (if (a%32)*64+b%64≥128 then ((a%32)*64+b%64,2) else (Utf8.runeError,1))
 else if (a / 16 == 14&&(p1&&b / 64 == 2)&&(p2&&c / 64 == 2))=true then (if (decide ((a%16)*4096+(b%64)*64+c%64≥2048)&&Utf8.valid ((a%16)*4096+(b%64)*64+c%64))=true then ((a%16)*4096+(b%64)*64+c%64,3) else (Utf8.runeError,1))
 else if (a / 8 == 30&&(p1&&b / 64 == 2)&&(p2&&c / 64 == 2)&&(p3&&d / 64 == 2))=true then (if (decide ((a%8)*262144+(b%64)*4096+(c%64)*64+d%64≥65536)&&Utf8.valid ((a%8)*262144+(b%64)*4096+(c%64)*64+d%64))=true then ((a%8)*262144+(b%64)*4096+(c%64)*64+d%64,4) else (Utf8.runeError,1))
 else (Utf8.runeError,1)
theorem aOq (s:ByteArray) (i:Nat):Utf8.decode s i=aBq (s.get! i).toNat (s.get! (i+1)).toNat (s.get! (i+2)).toNat (s.get! (i+3)).toNat (decide (i+1<s.size)) (decide (i+2<s.size)) (decide (i+3<s.size)):=rfl
theorem aOp {a b c d R:Nat} {p1 p2 p3:Bool} (hR:R=65533) (h12:p2=true→p1=true) (h:(aBq a b c d p1 p2 p3).1=R):((aBq a b c d p1 p2 p3).2<3)↔¬ (p2=true∧a=239∧b=191∧c=189):=by
 have t2:(2:Nat)<3:=by decide
 have t1:(1:Nat)<3:=by decide
 unfold aBq at h ⊢
 split at h
 ·rename_i h1
  rw [if_pos h1]
  exact ⟨fun _ ⟨_,e,_⟩=>by omega,fun _=>t1⟩
 rename_i h1
 rw [if_neg h1]
 split at h
 ·rename_i h2
  rw [if_pos h2]
  simp only [Bool.and_eq_true,beq_iff_eq] at h2
  refine ⟨fun _ ⟨_,e,_⟩=>by omega,fun _=>?_⟩
  split
  ·exact t2
  exact t1
 rename_i h2
 rw [if_neg h2]
 split at h
 ·rename_i h3
  rw [if_pos h3]
  simp only [Bool.and_eq_true,beq_iff_eq] at h3
  split at h
  ·rename_i h4
   rw [if_pos h4]
   have h5:(a%16)*4096+(b%64)*64+c%64=R:=h
   refine ⟨fun h9=>absurd h9 (by show ¬ 3<3; decide),fun h9=>absurd ⟨h3.2.1,?_,?_,?_⟩ h9⟩<;>omega
  rename_i h4
  rw [if_neg h4]
  refine ⟨fun _ ⟨_,e1,e2,e3⟩=>h4 ?_,fun _=>t1⟩
  subst e1; subst e2; subst e3
  decide
 rename_i h3
 rw [if_neg h3]
 refine ⟨fun _ ⟨e0,e1,e2,e3⟩=>h3 ?_,fun _=>?_⟩
 ·subst e1; subst e2; subst e3
  rw [h12 e0,e0]; decide
 split at h
 ·rename_i h6
  rw [if_pos h6]
  split at h
  ·rename_i h7
   simp only [Bool.and_eq_true,decide_eq_true_eq] at h7
   have h8:(a%8)*262144+(b%64)*4096+(c%64)*64+d%64=R:=h
   omega
  rename_i h7
  rw [if_neg h7]; exact t1
 rename_i h6
 rw [if_neg h6]; exact t1
theorem aTX {s:ByteArray} {i R:Nat} (hR:R=65533) (hr:(Utf8.decode s i).1=R):((Utf8.decode s i).2<3)↔¬ (i+2<s.size∧(s.get! i).toNat=239∧(s.get! (i+1)).toNat=191∧(s.get! (i+2)).toNat=189):=by
 rw [aOq] at hr ⊢
 have h:=aOp hR (fun h2=>decide_eq_true (by have:=of_decide_eq_true h2; omega)) hr
 rw [decide_eq_true_eq] at h
 exact h
theorem aOs {l:List UInt8} {k:Nat} (h:k<l.length):Lib.decodeGo (aG (l.drop k))=Utf8.decode (aG l) k:=by
 unfold Lib.decodeGo
 rw [if_neg (by rw [dJ,List.length_drop]; omega)]
 exact Lib.decodeL_drop (aG l) k
def UtG (G:PM):Prop:=∀ w:World,(∀ b o,G b=some o→w.heap[b]? = some o)→Lib.Utf8Tabs 0 1 w
theorem UtG.mono {G G':PM} (h:UtG G) (hle:PM.le G G'):UtG G':=fun w hw=>h w fun b o hb=>hw b o (hle b o hb)
def PrsG (s:List UInt8) (e:EvD) (i:Nat) (c:Int):Prop :=
 (1000<s.length∧e=EvD.zero∧i=0∧c=4)∨(s.length≤1000∧jK (aG s) 0=some i∧e=EvD.zero∧c=260)∨(s.length≤1000∧jK (aG s) 0=none∧zT s e i c)
theorem aHU {s:ByteArray} {k:Nat}:(decide ((((Utf8.decode s k).1:Nat):Int)<32)||((((Utf8.decode s k).1:Nat):Int) == 127)||(((((Utf8.decode s k).1:Nat):Int) == 65533)&&decide ((((Utf8.decode s k).2:Nat):Int)<3)))=uB s k:=by
 unfold uB
 generalize (Utf8.decode s k).1=a
 generalize (Utf8.decode s k).2=b
 have h1:decide (((a:Nat):Int)<32)=decide (a<32):=decide_eq_decide.2 (by omega)
 have h2:(((a:Nat):Int) == 127)=decide (a=127):=by
  rw [Bool.eq_iff_iff]; simp only [beq_iff_eq,decide_eq_true_eq]; omega
 have h3:(((a:Nat):Int) == 65533)=decide (a=65533):=by
  rw [Bool.eq_iff_iff]; simp only [beq_iff_eq,decide_eq_true_eq]; omega
 have h4:decide (((b:Nat):Int)<3)=decide (b<3):=decide_eq_decide.2 (by omega)
 rw [h1,h2,h3,h4]
end Go.Tan
namespace Go.Proofs.YtoifkgkandfeiaaGreatDoor
open Go.Tan Go.RowKit
def aKD:Go.Shelf.Ren:=⟨fun n=>n,fun | 119=>205 | 138=>208 | 139=>209 | n=>n,fun | 3=>0 | 4=>1 | n=>n⟩
theorem u8T:U8Types Tryz.prog aKD:={ t5:=Tryz.underlying5,t119:=Tryz.underlying205,t138:=Tryz.underlying208,t139:=Tryz.underlying209 }
theorem u8X:U8Extra Tryz.prog aKD:={ n3:=by kernel_rfl,n4:=by kernel_rfl,y3:=by kernel_rfl,y4:=by kernel_rfl,c5:=by kernel_rfl,c119:=by kernel_rfl,c138:=by kernel_rfl }
theorem aDw {W w:World} (hw:∀ (b:Nat) (o:Obj),W.heap[b]? = some o→w.heap[b]? = some o) {a:Addr} {v:Value} (h:W.cell? a=some v):w.cell? a=some v:=by
 unfold World.cell? at h ⊢
 cases e:W.heap[a.block]? with
 | none=>rw [e] at h; cases h
 | some o=>rw [e] at h; rw [hw _ o e]; exact h
theorem aNc:(Rows.laid_unicode_utf8_acceptRanges:DataW Unit)=Lib.acceptData:=by kernel_rfl
theorem ut6 {W:World} {l:List (String×DataW Unit)} (h:laidMet Tryz.prog l W) (h1:("unicode/utf8.first",Rows.laid_unicode_utf8_first)∈l) (h2:("unicode/utf8.acceptRanges",(Rows.laid_unicode_utf8_acceptRanges:DataW Unit))∈l):UtG (fun b=>W.heap[b]?):=fun w hw=>by
 have e1:(Rows.laid_unicode_utf8_first:DataW Unit)=Lib.firstData:=Go.Pinned.utf8First_eq
 have g:Lib.Utf8Tabs 0 1 W:=utf8Tabs_of_readsT u8T u8X (e1▸Go.Lib.laidMet.reads h h1) (aNc▸Go.Lib.laidMet.reads h h2)
 exact ⟨fun c hc=>aDw hw (g.1 c hc),fun i hi=>⟨aDw hw (g.2 i hi).1,aDw hw (g.2 i hi).2⟩⟩
end Go.Proofs.YtoifkgkandfeiaaGreatDoor
namespace Go.Proofs
open Go.Shelf
def Tryz.lays103_ren:Go.Shelf.Ren:=⟨fun | 103=>115 | 210=>179 | 206=>180 | n=>n,fun | 9=>9 | 4=>4 | 24=>214 | 3=>3 | n=>n,fun | n=>n⟩
theorem Tryz.lays103:Go.Proofs.Lays.n103 Tryz.prog Tryz.lays103_ren:={
 mixed:=by kernel_rfl
 f103:=Tryz.func115.trans (congrArg some (by kernel_rfl))
 f206:=Tryz.func180.trans (congrArg some (by kernel_rfl))
 f210:=Tryz.func179.trans (congrArg some (by kernel_rfl))
 t3:=Tryz.underlying3
 a3:=Tryz.isAgg3
 z3:=Tryz.sizeOf3
 v3:=Tryz.zeroValue3
 t4:=Tryz.underlying4
 a4:=Tryz.isAgg4
 z4:=Tryz.sizeOf4
 v4:=Tryz.zeroValue4
 t9:=Tryz.underlying9
 a9:=Tryz.isAgg9
 z9:=Tryz.sizeOf9
 v9:=Tryz.zeroValue9
 t24:=Tryz.underlying214
 a24:=Tryz.isAgg214
 z24:=Tryz.sizeOf214
 v24:=Tryz.zeroValue214 }
open Go.RowKit in
theorem Tryz.strings_CutPrefix (s p:ByteArray) (w:World) :
  Calls Tryz.prog 115 #[.string s,.string p] w fun e w'=>e=.returned (.tuple #[.string ⟨(Lib.trimPrefix s.data.toList p.data.toList).toArray⟩,.bool (Lib.hasPrefix s.data.toList p.data.toList)])∧w'=w:=Any.strings_CutPrefix Tryz.lays103 s p w
def Tryz.laysM171_ren:Go.Shelf.Ren:=⟨fun | 171=>45 | 243=>81 | 246=>121 | 283=>182 | 284=>183 | 285=>184 | 286=>185 | 129=>250 | 317=>249 | 318=>251 | 319=>252 | 320=>253 | 337=>324 | 338=>325 | n=>n,fun | 3=>3 | 9=>9 | 2=>2 | 4=>4 | 171=>290 | 0=>0 | 53=>23 | 37=>25 | 5=>5 | 173=>293 | 212=>365 | 51=>344 | 20=>20 | 213=>366 | 46=>206 | 232=>33 | 233=>470 | n=>n,fun | 17=>2 | 18=>4 | 19=>5 | n=>n⟩
theorem Tryz.laysM171:Go.Proofs.LaysM.n171 Tryz.prog Tryz.laysM171_ren:={
 mixed:=by kernel_rfl
 f129:=Tryz.func250.trans (congrArg some (by kernel_rfl))
 f171:=Tryz.func45.trans (congrArg some (by kernel_rfl))
 f243:=Tryz.func81.trans (congrArg some (by kernel_rfl))
 f246:=Tryz.func121.trans (congrArg some (by kernel_rfl))
 f283:=Tryz.func182.trans (congrArg some (by kernel_rfl))
 f284:=Tryz.func183.trans (congrArg some (by kernel_rfl))
 f285:=Tryz.func184.trans (congrArg some (by kernel_rfl))
 f286:=Tryz.func185.trans (congrArg some (by kernel_rfl))
 f317:=Tryz.func249.trans (congrArg some (by kernel_rfl))
 f318:=Tryz.func251.trans (congrArg some (by kernel_rfl))
 f319:=Tryz.func252.trans (congrArg some (by kernel_rfl))
 f320:=Tryz.func253.trans (congrArg some (by kernel_rfl))
 f337:=Tryz.func324.trans (congrArg some (by kernel_rfl))
 f338:=Tryz.func325.trans (congrArg some (by kernel_rfl))
 t0:=Tryz.underlying0
 a0:=Tryz.isAgg0
 z0:=Tryz.sizeOf0
 v0:=Tryz.zeroValue0
 t2:=Tryz.underlying2
 a2:=Tryz.isAgg2
 z2:=Tryz.sizeOf2
 v2:=Tryz.zeroValue2
 t3:=Tryz.underlying3
 a3:=Tryz.isAgg3
 z3:=Tryz.sizeOf3
 v3:=Tryz.zeroValue3
 t4:=Tryz.underlying4
 a4:=Tryz.isAgg4
 z4:=Tryz.sizeOf4
 v4:=Tryz.zeroValue4
 t5:=Tryz.underlying5
 a5:=Tryz.isAgg5
 z5:=Tryz.sizeOf5
 v5:=Tryz.zeroValue5
 t9:=Tryz.underlying9
 a9:=Tryz.isAgg9
 z9:=Tryz.sizeOf9
 v9:=Tryz.zeroValue9
 t20:=Tryz.underlying20
 a20:=Tryz.isAgg20
 z20:=Tryz.sizeOf20
 v20:=Tryz.zeroValue20
 t37:=Tryz.underlying25
 a37:=Tryz.isAgg25
 z37:=Tryz.sizeOf25
 v37:=Tryz.zeroValue25
 t46:=Tryz.underlying206
 a46:=Tryz.isAgg206
 z46:=Tryz.sizeOf206
 v46:=Tryz.zeroValue206
 t51:=Tryz.underlying344
 a51:=Tryz.isAgg344
 z51:=Tryz.sizeOf344
 v51:=Tryz.zeroValue344
 t53:=Tryz.underlying23
 a53:=Tryz.isAgg23
 z53:=Tryz.sizeOf23
 v53:=Tryz.zeroValue23
 t171:=Tryz.underlying290
 a171:=Tryz.isAgg290
 z171:=Tryz.sizeOf290
 v171:=Tryz.zeroValue290
 t173:=Tryz.underlying293
 a173:=Tryz.isAgg293
 z173:=Tryz.sizeOf293
 v173:=Tryz.zeroValue293
 t212:=Tryz.underlying365
 a212:=Tryz.isAgg365
 z212:=Tryz.sizeOf365
 v212:=Tryz.zeroValue365
 t213:=Tryz.underlying366
 a213:=Tryz.isAgg366
 z213:=Tryz.sizeOf366
 t232:=Tryz.underlying33
 a232:=Tryz.isAgg33
 z232:=Tryz.sizeOf33
 v232:=Tryz.zeroValue33
 t233:=Tryz.underlying470
 a233:=Tryz.isAgg470
 z233:=Tryz.sizeOf470
 v233:=Tryz.zeroValue470
 g17:=by kernel_rfl
 g18:=by kernel_rfl
 g19:=by kernel_rfl
 i0:=by kernel_rfl
 i2:=by kernel_rfl
 i3:=by kernel_rfl
 i4:=by kernel_rfl
 i5:=by kernel_rfl
 i9:=by kernel_rfl
 i20:=by kernel_rfl
 i37:=by kernel_rfl
 i46:=by kernel_rfl
 i51:=by kernel_rfl
 i53:=by kernel_rfl
 i171:=by kernel_rfl
 i173:=by kernel_rfl
 i212:=by kernel_rfl
 i232:=by kernel_rfl
 i233:=by kernel_rfl
 m17:=by kernel_rfl
 m18:=by kernel_rfl
 m19:=by kernel_rfl }
open Go.RowKit Go.Sort Go.Lib in
theorem Tryz.strconv_Itoa (n:Int) (h0 : -9223372036854775808≤n) (h1:n≤9223372036854775807) (w:World) (htab:Lib.TabIs Tryz.prog w "internal/strconv.uint64pow10" .u64 Lib.pow10Tab) :
  Calls Tryz.prog 45 #[.int .i64 n] w fun e w'=>e=.returned (.string ⟨(Lib.itoa n).toArray⟩)∧∃ k os,w'=grow (w.drewN k) os:=Any.strconv_Itoa Tryz.laysM171 n h0 h1 w htab
def Tryz.lays219_ren:Go.Shelf.Ren:=⟨fun | 219=>188 | 217=>254 | 225=>255 | 224=>256 | 267=>257 | 266=>326 | 314=>327 | n=>n,fun | 9=>9 | 3=>3 | 4=>4 | 5=>5 | 46=>206 | 146=>435 | 51=>344 | n=>n,fun | 1=>3 | n=>n⟩
theorem Tryz.lays219:Go.Proofs.Lays.n219 Tryz.prog Tryz.lays219_ren:={
 mixed:=by kernel_rfl
 f217:=Tryz.func254.trans (congrArg some (by kernel_rfl))
 f219:=Tryz.func188.trans (congrArg some (by kernel_rfl))
 f224:=Tryz.func256.trans (congrArg some (by kernel_rfl))
 f225:=Tryz.func255.trans (congrArg some (by kernel_rfl))
 f266:=Tryz.func326.trans (congrArg some (by kernel_rfl))
 f267:=Tryz.func257.trans (congrArg some (by kernel_rfl))
 f314:=Tryz.func327.trans (congrArg some (by kernel_rfl))
 t3:=Tryz.underlying3
 a3:=Tryz.isAgg3
 z3:=Tryz.sizeOf3
 v3:=Tryz.zeroValue3
 t4:=Tryz.underlying4
 a4:=Tryz.isAgg4
 z4:=Tryz.sizeOf4
 v4:=Tryz.zeroValue4
 t5:=Tryz.underlying5
 a5:=Tryz.isAgg5
 z5:=Tryz.sizeOf5
 v5:=Tryz.zeroValue5
 t9:=Tryz.underlying9
 a9:=Tryz.isAgg9
 z9:=Tryz.sizeOf9
 v9:=Tryz.zeroValue9
 t46:=Tryz.underlying206
 a46:=Tryz.isAgg206
 z46:=Tryz.sizeOf206
 v46:=Tryz.zeroValue206
 t51:=Tryz.underlying344
 a51:=Tryz.isAgg344
 z51:=Tryz.sizeOf344
 v51:=Tryz.zeroValue344
 t146:=Tryz.underlying435
 a146:=Tryz.isAgg435
 z146:=Tryz.sizeOf435
 v146:=Tryz.zeroValue435
 g1:=by kernel_rfl }
open Go.RowKit Go.Lib in
theorem Tryz.stringslite_Index_one (s:ByteArray) (c:UInt8) (w:World) :
  Calls Tryz.prog 188 #[.string s,.string ⟨#[c]⟩] w fun e w'=>e=.returned (.int .i64 (Lib.indexByte s.data.toList c))∧w'=w:=Any.stringslite_Index_one Tryz.lays219 s c w
def Tryz.lays99_ren:Go.Shelf.Ren:=⟨fun | 99=>116 | 206=>180 | n=>n,fun | 9=>9 | 4=>4 | 3=>3 | n=>n,fun | n=>n⟩
theorem Tryz.lays99:Go.Proofs.Lays.n99 Tryz.prog Tryz.lays99_ren:={
 mixed:=by kernel_rfl
 f99:=Tryz.func116.trans (congrArg some (by kernel_rfl))
 f206:=Tryz.func180.trans (congrArg some (by kernel_rfl))
 t3:=Tryz.underlying3
 a3:=Tryz.isAgg3
 z3:=Tryz.sizeOf3
 v3:=Tryz.zeroValue3
 t4:=Tryz.underlying4
 a4:=Tryz.isAgg4
 z4:=Tryz.sizeOf4
 v4:=Tryz.zeroValue4
 t9:=Tryz.underlying9
 a9:=Tryz.isAgg9
 z9:=Tryz.sizeOf9
 v9:=Tryz.zeroValue9 }
open Go.RowKit Go.Lib in
theorem Tryz.strings_HasPrefix (s p:ByteArray) (w:World) :
  Calls Tryz.prog 116 #[.string s,.string p] w fun e w'=>e=.returned (.bool (Lib.hasPrefix s.data.toList p.data.toList))∧w'=w:=Any.strings_HasPrefix Tryz.lays99 s p w
def Tryz.lays197_ren:Go.Shelf.Ren:=⟨fun | 197=>36 | 260=>65 | n=>n,fun | 9=>9 | 21=>21 | 3=>3 | 4=>4 | 5=>5 | 105=>88 | 119=>205 | 0=>0 | 46=>206 | 139=>209 | 138=>208 | n=>n,fun | 3=>0 | 4=>1 | n=>n⟩
theorem Tryz.lays197:Go.Proofs.Lays.n197 Tryz.prog Tryz.lays197_ren:={
 mixed:=by kernel_rfl
 f197:=Tryz.func36.trans (congrArg some (by kernel_rfl))
 f260:=Tryz.func65.trans (congrArg some (by kernel_rfl))
 t0:=Tryz.underlying0
 a0:=Tryz.isAgg0
 z0:=Tryz.sizeOf0
 v0:=Tryz.zeroValue0
 t3:=Tryz.underlying3
 a3:=Tryz.isAgg3
 z3:=Tryz.sizeOf3
 v3:=Tryz.zeroValue3
 t4:=Tryz.underlying4
 a4:=Tryz.isAgg4
 z4:=Tryz.sizeOf4
 v4:=Tryz.zeroValue4
 t5:=Tryz.underlying5
 a5:=Tryz.isAgg5
 z5:=Tryz.sizeOf5
 v5:=Tryz.zeroValue5
 t9:=Tryz.underlying9
 a9:=Tryz.isAgg9
 z9:=Tryz.sizeOf9
 v9:=Tryz.zeroValue9
 t21:=Tryz.underlying21
 a21:=Tryz.isAgg21
 z21:=Tryz.sizeOf21
 v21:=Tryz.zeroValue21
 t46:=Tryz.underlying206
 a46:=Tryz.isAgg206
 z46:=Tryz.sizeOf206
 v46:=Tryz.zeroValue206
 t105:=Tryz.underlying88
 a105:=Tryz.isAgg88
 z105:=Tryz.sizeOf88
 v105:=Tryz.zeroValue88
 t119:=Tryz.underlying205
 a119:=Tryz.isAgg205
 z119:=Tryz.sizeOf205
 t138:=Tryz.underlying208
 a138:=Tryz.isAgg208
 z138:=Tryz.sizeOf208
 v138:=Tryz.zeroValue208
 t139:=Tryz.underlying209
 a139:=Tryz.isAgg209
 z139:=Tryz.sizeOf209
 v139:=Tryz.zeroValue209
 g3:=by kernel_rfl
 g4:=by kernel_rfl }
open Go.RowKit Go.Lib in
theorem Tryz.utf8_DecodeRuneInString_ascii (s:ByteArray) (x:UInt8) (w:World) (h0:s.data.toList[0]? = some x) (hx:x.toNat<128) :
  Calls Tryz.prog 36 #[.string s] w fun e w'=>e=.returned (.tuple #[.int .i32 x.toNat,.int .i64 1])∧w'=w:=Any.utf8_DecodeRuneInString_ascii Tryz.lays197 s x w h0 hx
end Go.Proofs
namespace Go.Proofs.YtoifkgkandfeiaaGreatDoor
open Go.Tan Go.RowKit
theorem aL3:jP Tryz.prog 3 206=some .u64:=by kernel_rfl
theorem zH:aJ Tryz.prog 228=true:=by kernel_rfl
theorem yF (x:W) (k:Int) (G:PM):Ct Tryz.prog 228 ([U x,.int .i64 k]:List Value).toArray G [] (fun _ μ' u=>μ'=[]∧u=U (aKM x k)):=by
 refine Ct.of Tryz.func228 rfl Tryz.ntmps228 rfl fun w0 hs0=>?_
 refine .g (ci rfl .no rfl aL3 (.u rfl) ?_)
 refine bw (k:=.u64) (b:=31#64) rfl .no rfl (.u rfl) (.u rfl) rfl (.g (lw (k:=.u32) rfl .no rfl (.u rfl) (.u rfl) (fun _=>Int.natCast_nonneg _) ?_))
 refine .p (bw (k:=.u64) (a:=32#64) rfl .no rfl (.u rfl) (.u rfl) rfl (oN (k:=.u32) rfl .no (.u rfl) (.u rfl) (fun _=>Int.natCast_nonneg _) ?_))
 refine bw (k:=.u32) rfl .no rfl (.u rfl) (.u rfl) rfl (aS rfl rfl (.nc (.ret (aN Tryz.results228 (.tmp rfl .nil) ?_))))
 exact ⟨rfl,rfl⟩
theorem aAT (a b c d:W) (G:PM):Ct Tryz.prog 392 ([U a,U b,U c,U d]:List Value).toArray G [] (fun _ μ' u=>μ'=[]∧u=aRM (xV a b c d)):=by
 refine Ct.of Tryz.func392 rfl Tryz.ntmps392 rfl fun w0 hs0=>?_
 refine .g (bw (k:=.u32) rfl .no rfl (.u rfl) (.u rfl) rfl (.g (bw (k:=.u32) rfl .no rfl (.u rfl) (.u rfl) rfl (kV rfl zH (aB rfl (aB rfl aF)) (yF _ _ _) ?_))))
 refine .g (bw (k:=.u32) rfl .no rfl (.u rfl) (.u rfl) rfl (.g (bw (k:=.u32) rfl .no rfl (.u rfl) (.u rfl) rfl (kV rfl zH (aB rfl (aB rfl aF)) (yF _ _ _) ?_))))
 refine .g (bw (k:=.u32) rfl .no rfl (.u rfl) (.u rfl) rfl (.g (bw (k:=.u32) rfl .no rfl (.u rfl) (.u rfl) rfl (kV rfl zH (aB rfl (aB rfl aF)) (yF _ _ _) ?_))))
 refine .g (bw (k:=.u32) rfl .no rfl (.u rfl) (.u rfl) rfl (.g (bw (k:=.u32) rfl .no rfl (.u rfl) (.u rfl) rfl (kV rfl zH (aB rfl (aB rfl aF)) (yF _ _ _) ?_))))
 refine aS rfl rfl (.nc (.seq (rq8 rfl rfl (mV rfl rfl (mV rfl rfl (mV rfl rfl (mV rfl rfl (aS rfl rfl (aS rfl rfl (aS rfl rfl (aS rfl rfl (.nc (.ret (aN Tryz.results392 (.tmp rfl (.tmp rfl (.tmp rfl (.tmp rfl .nil)))) ?_))))))))))))))
 exact ⟨rfl,rfl⟩
theorem aMt:bL Tryz.prog 505=some (344,1,4):=by kernel_rfl
theorem aY4:(bL Tryz.prog 505).isSome=true:=by kernel_rfl
theorem aY:Tryz.prog.follows .mixedOrders=true:=by kernel_rfl
theorem dE:bY Tryz.prog 344=some none:=by kernel_rfl
theorem aX:bL Tryz.prog 25=some (5,1,1):=by kernel_rfl
theorem cZ:bY Tryz.prog 5=some none:=by kernel_rfl
theorem aF2:jP Tryz.prog 5 344=some .u32:=by kernel_rfl
theorem fR:cI Tryz.prog 344=some 1:=by kernel_rfl
theorem wS:dV Tryz.prog 470=some (ba 64 (fun _=>0#8)):=by kernel_rfl
theorem aWi:cX Tryz.prog 503 [0,1,2,3]=some ([.int .u32 0,.int .u32 0,.int .u32 0,.int .u32 0,.int .u32 0,.int .u32 0,.int .u32 0,.int .u32 0,.int .u32 0,.int .u32 0,.int .u32 0,.int .u32 0,.int .u32 0,.int .u32 0,.int .u32 0,.int .u32 0],[(0,1),(1,1),(2,1),(3,1)]):=by kernel_rfl
theorem aNA:dV Tryz.prog 503=some ([.int .u32 0,.int .u32 0,.int .u32 0,.int .u32 0,.int .u32 0,.int .u32 0,.int .u32 0,.int .u32 0,.int .u32 0,.int .u32 0,.int .u32 0,.int .u32 0,.int .u32 0,.int .u32 0,.int .u32 0,.int .u32 0]):=by kernel_rfl
theorem aM3:cI Tryz.prog 503=some 16:=by kernel_rfl
theorem dA:fN Tryz.prog 503=some (16,344,1):=by kernel_rfl
theorem aC5:fN Tryz.prog 33=some (32,5,1):=by kernel_rfl
theorem aMi:aJ Tryz.prog 391=true:=by kernel_rfl
theorem aWL:fN Tryz.prog 404=some (12,5,1):=by kernel_rfl
theorem aWH:bY Tryz.prog 503=some (some 16):=by kernel_rfl
theorem aBF:aJ Tryz.prog 392=true:=by kernel_rfl
theorem aL2:jP Tryz.prog 344 5=some .u8:=by kernel_rfl
theorem jY:fN Tryz.prog 470=some (64,5,1):=by kernel_rfl
theorem fM:cI Tryz.prog 5=some 1:=by kernel_rfl
theorem fV:bY Tryz.prog 470=some (some 64):=by kernel_rfl
theorem kB:cI Tryz.prog 470=some 64:=by kernel_rfl
theorem aLN (y:Nat→W) (f:Nat→Y) (m bt bk off n cap kn:Nat) (T T2:TypeId) (G:PM) (hm:off+n≤m) (hk4:4*n≤kn) (hn:n≤1000):Ct Tryz.prog 391 ([(Sh.mk (some ⟨bt,off,none⟩) cap).val n,(Sh.mk (some ⟨bk,0,none⟩) kn).val kn]:List Value).toArray G ([.blk bt (cl (wa m y) T),.blk bk (cl (ba kn f) T2)]:aH) (fun G' μ' u=>μ'=[.blk bt (cl (wa m (kX y f off n)) T),.blk bk (cl (ba kn f) T2)]∧u=.tuple #[]):=by
 refine Ct.of Tryz.func391 rfl Tryz.ntmps391 rfl fun w0 hs0=>?_
 refine .g (lE rfl aY4 rfl (mV rfl rfl (.nc (.block ?_))))
 refine aV (α:=Nat) (fun i=>[(8,true,.int .i64 (i:Int))]) (fun i=>[.blk bt (cl (wa m (kX y f off i)) T)])
  (fun i Gl=>i≤n) (fun i=>n-i) 0 [(0,true,_),(1,true,_),(7,true,_)] [.blk bk _]
  (aA rfl (aA rfl (aA rfl (aA rfl eZ))))
  (mS .here rfl (mS .here rfl mN)) ?_ ?_
 ·show 0≤n; omega
 intro i N0 Gl0 hN0 hGl0 hF0
 try dsimp only at hF0 hN0 ⊢
 have hi:i≤n:=hF0
 refine .g (cP rfl rfl rfl rfl (.g (cD rfl (fun c1=>?_) (fun c1=>?_))))
 ·have c1k:=c1
  try simp only [aD] at c1
  refine .skip (.code (.seq (.block (.seq (bF rfl rfl (mV rfl rfl (aS rfl rfl (.nc (.seq (aP rfl rfl (aS rfl rfl (.nc (.block ?_)))))))))))))
  refine aV (α:=Nat) (fun c=>[(5,true,.int .i64 (3-(c:Int)))]) (fun c=>[.blk bt (cl (wa m (bJ (kX y f off i) (off+i) (oO (kX y f off i (off+i)) f i c))) T)])
   (fun c Gl=>c≤4) (fun c=>4-c) 0 [(0,true,_),(1,true,_),(4,true,_),(7,true,_),(8,true,_)] [.blk bk _]
   (aA rfl (aA rfl (aA rfl (aA rfl (aA rfl (aA rfl eZ))))))
   (mS .here aVz (mS .here rfl mN)) ?_ ?_
  ·show 0≤4; omega
  intro c N1 Gl1 hN1 hGl1 hF1
  try dsimp only at hF1 hN1 ⊢
  have hc:c≤4:=hF1
  refine .g (cP rfl rfl rfl rfl (.g (cD rfl (fun c2=>?_) (fun c2=>?_))))
  ·have c2k:=c2
   try simp only [aD] at c2
   refine .g (bZ (mc:=⟨false,false⟩) [0,1,2,3,4,5,6,7,8,9,10,11,12,13,14,15,16,17] aY (by kernel_rfl) ?_)
   refine mV rfl rfl (mV rfl rfl (mV rfl rfl (mV rfl rfl (ih rfl .no aMt (.u rfl) (.u rfl) (by omega) (by omega) (fun _=>rfl) ?_))))
   refine lO rfl dE rfl .here (dC (off+i) (by show off+_*1=off+i; omega) (by omega)) ?_
   refine lw (k:=.u32) rfl .no rfl (.u rfl) (.u rfl) (fun _=>by decide) ?_
   refine .p (aR rfl rfl rfl rfl ?_)
   refine .p (aR rfl rfl rfl rfl ?_)
   refine ih rfl .no aX (.u rfl) (.u rfl) (by omega) (by omega) (fun _=>rfl) ?_
   refine lO rfl cZ rfl aC (gF (4*i+(3-c)) (by show 0+_*1=_; omega) (by omega)) ?_
   refine cu (k:=.u8) rfl .no rfl aF2 (.u rfl) ?_
   refine bw (k:=.u32) rfl .no rfl (.u rfl) (.u rfl) rfl (ih rfl .no aMt (.u rfl) (.u rfl) (by omega) (by omega) (fun _=>rfl) ?_)
   refine s1 rfl (.u rfl) (.u rfl) rfl fR .here (by rw [bW]; show off+_*1<m; omega) (dR (off+i) (by show off+_*1=off+i; omega)) ?_
   refine .g (aR rfl rfl rfl rfl ?_)
   refine .g (aT (c+1) ?_ ?_ ?_ ?_ ?_)
   ·exact (dY rfl (congrArg _ (by omega)) (aA rfl (aA rfl (aA rfl (aA rfl (aA rfl eZ))))))
   ·exact (mS .here (aV0 (by rw [yR]; rfl)) (mS .here rfl mN))
   ·first|omega|(dsimp only; omega)
   ·exact hGl1
   show c+1≤4; omega
  have c2k:=c2
  try simp only [aD] at c2
  refine .g (aR rfl rfl rfl rfl ?_)
  refine .g (aT (i+1) ?_ ?_ ?_ ?_ ?_)
  ·exact (aA rfl (aA rfl (aA rfl (aA rfl eZ))))
  ·exact (mS .here (aVy (by omega)) (mS .here rfl mN))
  ·first|omega|(dsimp only; omega)
  ·exact hGl0.trans hGl1
  show i+1≤n; omega
 have c1k:=c1
 try simp only [aD] at c1
 refine .g (We.fin Tryz.results391 .nil (mS .here rfl (mS .here rfl mN)) ?_)
 obtain rfl:i=n:=by omega
 exact ⟨rfl,rfl⟩
theorem aLZ (key nonce:Nat→Y) (count:W) (G:PM):Ct Tryz.prog 380 ([.agg (ba 32 key).toArray,.agg (ba 12 nonce).toArray,U count]:List Value).toArray G [] (fun _ μ' u=>μ'=[]∧u=.agg (ba 64 (qM key nonce count)).toArray):=by
 refine Ct.of Tryz.func380 rfl Tryz.ntmps380 rfl fun w0 hs0=>?_
 refine .seq (dQ rfl rfl ?_)
 refine bX rfl rfl rfl ?_; intro b3
 refine bX rfl rfl rfl ?_; intro b4
 refine al rfl wS ?_; intro b6
 refine .g (bC rfl .no aWi (.cons (.u rfl) rfl (.cons (.u rfl) rfl (.cons (.u rfl) rfl (.cons (.u rfl) rfl .nil)))) rfl ?_)
 refine al rfl aNA ?_; intro b7
 refine sw rfl (.u rfl) (.u rfl) rfl aM3 .here rfl (by decide) ?_
 refine .g (bZ (mc:=⟨true,false⟩) [0,1,2] aY (by kernel_rfl) ?_)
 refine sab rfl .no dA (.u rfl) (.u rfl) (.u rfl) (fun _=>by decide) (fun _=>by decide) (fun _=>by decide) (fun _=>by decide) ?_
 refine rC rfl .no aC5 (.u rfl) (ka rfl (.inl rfl) aMi (aB rfl (aB rfl aF)) (aKp .here aM) (aLN (x0) key 16 b7 b3 4 8 12 32 503 33 _ (by decide) (by decide) (by decide)) ?_)
 rintro u G2 μ2 hG2 ⟨rfl,rfl⟩
 simp only [cT,List.cons_append,List.nil_append,aFQ,aFR]
 refine .g (iW rfl dA rfl rfl ?_)
 refine s1 rfl (.u rfl) (.u rfl) rfl fR .here (by rw [bW]; decide) (dR 12 rfl) ?_
 refine .g (bZ (mc:=⟨true,false⟩) [0,1,2] aY (by kernel_rfl) ?_)
 refine sal rfl .no dA (.u rfl) (.u rfl) (fun _=>by decide) (fun _=>by decide) ?_
 refine rC rfl .no aWL (.u rfl) (ka rfl (.inl rfl) aMi (aB rfl (aB rfl aF)) (aKp .here aM) (aLN (bJ (x1 key 8) 12 count) nonce 16 b7 b4 13 3 3 12 503 404 _ (by decide) (by decide) (by decide)) ?_)
 rintro u G2 μ2 hG2 ⟨rfl,rfl⟩
 simp only [cT,List.cons_append,List.nil_append,aFQ,aFR]
 refine .g (lB rfl aWH rfl .here ?_)
 refine al rfl aNA ?_; intro b8
 refine sw rfl (.u rfl) (.u rfl) rfl aM3 .here rfl (nT _ _) ?_
 refine .nil (.code (.seq (.seq (aP rfl rfl (mV rfl rfl (.nc (.block ?_)))))))
 refine aV (α:=Nat) (fun r=>[(24,true,.int .i64 (r:Int))]) (fun r=>[.blk b8 (cl (wa 16 (uU (x2 key nonce count 3) r)) 503)])
  (fun r Gl=>r≤10) (fun r=>10-r) 0 [(6,true,_),(7,true,_),(8,true,_)] [.blk b7 _,.blk b4 _,.blk b3 _,.blk b6 _]
  (aA rfl (aA rfl (aA rfl (aA rfl eZ))))
  (mS .here rfl (mS .here rfl (mS .here rfl (mS .here rfl (mS .here rfl mN))))) ?_ ?_
 ·show 0≤10; omega
 intro r N0 Gl0 hN0 hGl0 hF0
 try dsimp only at hF0 hN0 ⊢
 have hr:r≤10:=hF0
 refine .g (cP rfl rfl rfl rfl (.g (cD rfl (fun c1=>?_) (fun c1=>?_))))
 ·have c1k:=c1
  try simp only [aD] at c1
  refine .skip (.code (.seq (.block (.seq (.seq (aP rfl rfl (mV rfl rfl (.nc (.block ?_)))))))))
  refine aV (α:=Nat) (fun q=>[(26,true,.int .i64 (q:Int))]) (fun q=>[.blk b8 (cl (wa 16 (aBk (uU (x2 key nonce count 3) r) q)) 503)])
   (fun q Gl=>q≤4) (fun q=>4-q) 0 [(6,true,_),(7,true,_),(8,true,_),(24,true,_)] [.blk b7 _,.blk b4 _,.blk b3 _,.blk b6 _]
   (aA rfl (aA rfl (aA rfl (aA rfl (aA rfl eZ)))))
   (mS .here rfl (mS .here rfl (mS .here rfl (mS .here rfl (mS .here rfl mN))))) ?_ ?_
  ·show 0≤4; omega
  intro q N1 Gl1 hN1 hGl1 hF1
  try dsimp only at hF1 hN1 ⊢
  have hq:q≤4:=hF1
  refine .g (cP rfl rfl rfl rfl (.g (cD rfl (fun c2=>?_) (fun c2=>?_))))
  ·have c2k:=c2
   try simp only [aD] at c2
   refine .g (bZ (mc:=⟨false,false⟩) [0,1,2,3,4,5,6,7,8,9,10,11,12,13,14,15,16,17,18,19,20,21,22,23,24,25,26,27,28,29,30,31,32,33,34,35] aY (by kernel_rfl) ?_)
   refine .p (aR rfl rfl rfl rfl ?_)
   refine .p (aR rfl rfl rfl rfl ?_)
   refine .p (aR rfl rfl rfl rfl ?_)
   refine .p (iW rfl dA rfl rfl ?_)
   refine lO rfl dE rfl .here (dC q (by omega) (by omega)) ?_
   refine .p (aR rfl rfl rfl rfl ?_)
   refine iW rfl dA rfl rfl ?_
   refine lO rfl dE rfl .here (dC (4+q) (by omega) (by omega)) ?_
   refine .p (aR rfl rfl rfl rfl ?_)
   refine iW rfl dA rfl rfl ?_
   refine lO rfl dE rfl .here (dC (8+q) (by omega) (by omega)) ?_
   refine .p (aR rfl rfl rfl rfl ?_)
   refine iW rfl dA rfl rfl ?_
   refine lO rfl dE rfl .here (dC (12+q) (by omega) (by omega)) ?_
   refine kV rfl aBF (aB rfl (aB rfl (aB rfl (aB rfl aF)))) (aAT _ _ _ _ _) ?_
   refine .p (eX rfl rfl rfl (eX rfl rfl rfl (eX rfl rfl rfl (eX rfl rfl rfl (iW rfl dA rfl rfl ?_)))))
   refine s1 rfl (.u rfl) (.u rfl) rfl fR .here (by rw [bW]; omega) (dR q (by omega)) ?_
   refine iW rfl dA rfl rfl ?_
   refine s1 rfl (.u rfl) (.u rfl) rfl fR .here (by rw [bW]; omega) (dR (4+q) (by omega)) ?_
   refine iW rfl dA rfl rfl ?_
   refine s1 rfl (.u rfl) (.u rfl) rfl fR .here (by rw [bW]; omega) (dR (8+q) (by omega)) ?_
   refine iW rfl dA rfl rfl ?_
   refine s1 rfl (.u rfl) (.u rfl) rfl fR .here (by rw [bW]; omega) (dR (12+q) (by omega)) ?_
   refine .g (aR rfl rfl rfl rfl ?_)
   refine .g (aT (q+1) ?_ ?_ ?_ ?_ ?_)
   ·exact (aA rfl (aA rfl (aA rfl (aA rfl (aA rfl eZ)))))
   ·exact (mS .here rfl (mS .here rfl (mS .here rfl (mS .here rfl (mS .here rfl mN)))))
   ·first|omega|(dsimp only; omega)
   ·exact hGl1
   show q+1≤4; omega
  have c2k:=c2
  try simp only [aD] at c2
  refine .exit (.xcode (.xlp (.xblk (.code (.seq (Wk.rg [0,1,2,3,4,5,6,7,8,9,10,11,12,13,14,15,16,17,18,19,20,21] rfl rfl ?_))))))
  obtain rfl:q=4:=by omega
  simp only [aHd (uU (x2 key nonce count 3) r) 4 (Nat.le_refl 4)]
  refine iW rfl dA rfl rfl ?_
  refine lO rfl dE rfl .here (dC 0 rfl (by decide)) ?_
  refine iW rfl dA rfl rfl ?_
  refine lO rfl dE rfl .here (dC 5 rfl (by decide)) ?_
  refine iW rfl dA rfl rfl ?_
  refine lO rfl dE rfl .here (dC 10 rfl (by decide)) ?_
  refine iW rfl dA rfl rfl ?_
  refine lO rfl dE rfl .here (dC 15 rfl (by decide)) ?_
  refine kV rfl aBF (aB rfl (aB rfl (aB rfl (aB rfl aF)))) (aAT _ _ _ _ _) ?_
  refine .p (eX rfl rfl rfl (eX rfl rfl rfl (eX rfl rfl rfl (eX rfl rfl rfl (iW rfl dA rfl rfl ?_)))))
  refine s1 rfl (.u rfl) (.u rfl) rfl fR .here (by rw [bW]; decide) (dR 0 rfl) ?_
  refine iW rfl dA rfl rfl ?_
  refine s1 rfl (.u rfl) (.u rfl) rfl fR .here (by rw [bW]; decide) (dR 5 rfl) ?_
  refine iW rfl dA rfl rfl ?_
  refine s1 rfl (.u rfl) (.u rfl) rfl fR .here (by rw [bW]; decide) (dR 10 rfl) ?_
  refine iW rfl dA rfl rfl ?_
  refine s1 rfl (.u rfl) (.u rfl) rfl fR .here (by rw [bW]; decide) (dR 15 rfl) ?_
  refine .g (iW rfl dA rfl rfl ?_)
  refine lO rfl dE rfl .here (dC 1 rfl (by decide)) ?_
  refine iW rfl dA rfl rfl ?_
  refine lO rfl dE rfl .here (dC 6 rfl (by decide)) ?_
  refine iW rfl dA rfl rfl ?_
  refine lO rfl dE rfl .here (dC 11 rfl (by decide)) ?_
  refine iW rfl dA rfl rfl ?_
  refine lO rfl dE rfl .here (dC 12 rfl (by decide)) ?_
  refine kV rfl aBF (aB rfl (aB rfl (aB rfl (aB rfl aF)))) (aAT _ _ _ _ _) ?_
  refine .p (eX rfl rfl rfl (eX rfl rfl rfl (eX rfl rfl rfl (eX rfl rfl rfl (iW rfl dA rfl rfl ?_)))))
  refine s1 rfl (.u rfl) (.u rfl) rfl fR .here (by rw [bW]; decide) (dR 1 rfl) ?_
  refine iW rfl dA rfl rfl ?_
  refine s1 rfl (.u rfl) (.u rfl) rfl fR .here (by rw [bW]; decide) (dR 6 rfl) ?_
  refine iW rfl dA rfl rfl ?_
  refine s1 rfl (.u rfl) (.u rfl) rfl fR .here (by rw [bW]; decide) (dR 11 rfl) ?_
  refine iW rfl dA rfl rfl ?_
  refine s1 rfl (.u rfl) (.u rfl) rfl fR .here (by rw [bW]; decide) (dR 12 rfl) ?_
  refine .g (iW rfl dA rfl rfl ?_)
  refine lO rfl dE rfl .here (dC 2 rfl (by decide)) ?_
  refine iW rfl dA rfl rfl ?_
  refine lO rfl dE rfl .here (dC 7 rfl (by decide)) ?_
  refine iW rfl dA rfl rfl ?_
  refine lO rfl dE rfl .here (dC 8 rfl (by decide)) ?_
  refine iW rfl dA rfl rfl ?_
  refine lO rfl dE rfl .here (dC 13 rfl (by decide)) ?_
  refine kV rfl aBF (aB rfl (aB rfl (aB rfl (aB rfl aF)))) (aAT _ _ _ _ _) ?_
  refine .p (eX rfl rfl rfl (eX rfl rfl rfl (eX rfl rfl rfl (eX rfl rfl rfl (iW rfl dA rfl rfl ?_)))))
  refine s1 rfl (.u rfl) (.u rfl) rfl fR .here (by rw [bW]; decide) (dR 2 rfl) ?_
  refine iW rfl dA rfl rfl ?_
  refine s1 rfl (.u rfl) (.u rfl) rfl fR .here (by rw [bW]; decide) (dR 7 rfl) ?_
  refine iW rfl dA rfl rfl ?_
  refine s1 rfl (.u rfl) (.u rfl) rfl fR .here (by rw [bW]; decide) (dR 8 rfl) ?_
  refine iW rfl dA rfl rfl ?_
  refine s1 rfl (.u rfl) (.u rfl) rfl fR .here (by rw [bW]; decide) (dR 13 rfl) ?_
  refine .g (iW rfl dA rfl rfl ?_)
  refine lO rfl dE rfl .here (dC 3 rfl (by decide)) ?_
  refine iW rfl dA rfl rfl ?_
  refine lO rfl dE rfl .here (dC 4 rfl (by decide)) ?_
  refine iW rfl dA rfl rfl ?_
  refine lO rfl dE rfl .here (dC 9 rfl (by decide)) ?_
  refine iW rfl dA rfl rfl ?_
  refine lO rfl dE rfl .here (dC 14 rfl (by decide)) ?_
  refine kV rfl aBF (aB rfl (aB rfl (aB rfl (aB rfl aF)))) (aAT _ _ _ _ _) ?_
  refine .p (eX rfl rfl rfl (eX rfl rfl rfl (eX rfl rfl rfl (eX rfl rfl rfl (iW rfl dA rfl rfl ?_)))))
  refine s1 rfl (.u rfl) (.u rfl) rfl fR .here (by rw [bW]; decide) (dR 3 rfl) ?_
  refine iW rfl dA rfl rfl ?_
  refine s1 rfl (.u rfl) (.u rfl) rfl fR .here (by rw [bW]; decide) (dR 4 rfl) ?_
  refine iW rfl dA rfl rfl ?_
  refine s1 rfl (.u rfl) (.u rfl) rfl fR .here (by rw [bW]; decide) (dR 9 rfl) ?_
  refine iW rfl dA rfl rfl ?_
  refine s1 rfl (.u rfl) (.u rfl) rfl fR .here (by rw [bW]; decide) (dR 14 rfl) ?_
  refine .g (aR rfl rfl rfl rfl ?_)
  refine .g (aT (r+1) ?_ ?_ ?_ ?_ ?_)
  ·exact (aA rfl (aA rfl (aA rfl (aA rfl eZ))))
  ·exact (mS .here (congrArg (fun z=>Res.blk b8 (cl (wa 16 z) 503)) (aO0 (aAB (uU (x2 key nonce count 3) r) 4))) (mS .here rfl (mS .here rfl (mS .here rfl (mS .here rfl mN)))))
  ·first|omega|(dsimp only; omega)
  ·exact hGl0.trans hGl1
  show r+1≤10; omega
 have c1k:=c1
 try simp only [aD] at c1
 refine .exit (.xcode (.xlp (.xblk (.code (.seq (aP rfl rfl ?_))))))
 obtain rfl:r=10:=by omega
 refine al rfl wS ?_; intro b10
 refine .nil (.code (.seq (.seq (aP rfl rfl (mV rfl rfl (.nc (.block ?_)))))))
 refine aV (α:=Nat) (fun i=>[(135,true,.int .i64 (i:Int))]) (fun i=>[.blk b10 (cl (ba 64 (gT (qM key nonce count) (4*i))) 470)])
  (fun i Gl=>i≤16) (fun i=>16-i) 0 [(6,true,_),(7,true,_),(8,true,_),(10,true,_)] [.blk b8 _,.blk b7 _,.blk b4 _,.blk b3 _,.blk b6 _]
  (aA rfl (aA rfl (aA rfl (aA rfl (aA rfl eZ)))))
  (mS .here rfl (mS .here rfl (mS .here rfl (mS .here rfl (mS .here rfl (mS .here rfl mN)))))) ?_ ?_
 ·show 0≤16; omega
 intro i N2 Gl2 hN2 hGl2 hF2
 try dsimp only at hF2 hN2 ⊢
 have hi:i≤16:=hF2
 refine .g (cP rfl rfl rfl rfl (.g (cD rfl (fun c3=>?_) (fun c3=>?_))))
 ·have c3k:=c3
  try simp only [aD] at c3
  refine .g (bZ (mc:=⟨false,false⟩) [0,1,2,3,4,5,6,7] aY (by kernel_rfl) ?_)
  refine .p (iW rfl dA rfl rfl ?_)
  refine lO rfl dE rfl aC (dC i (by omega) (by omega)) ?_
  refine .p (iW rfl dA rfl rfl ?_)
  refine lO rfl dE rfl aM (dC i (by omega) (by omega)) ?_
  refine bw (k:=.u32) rfl .no rfl (.u rfl) (.u rfl) rfl (aS rfl rfl (.nc (.seq (aP rfl rfl (mV rfl rfl (.nc (.block ?_)))))))
  refine aV (α:=Nat) (fun c=>[(12,true,U (aAA key nonce count i >>> (8*c))),(145,true,.int .i64 (c:Int))]) (fun c=>[.blk b10 (cl (ba 64 (gT (qM key nonce count) (4*i+c))) 470)])
   (fun c Gl=>c≤4) (fun c=>4-c) 0 [(6,true,_),(7,true,_),(8,true,_),(10,true,_),(11,true,_),(135,true,_)] [.blk b8 _,.blk b7 _,.blk b4 _,.blk b3 _,.blk b6 _]
   (dY rfl aUF (aA rfl (aA rfl (aA rfl (aA rfl (aA rfl (aA rfl (aA rfl eZ))))))))
   (mS .here rfl (mS .here rfl (mS .here rfl (mS .here rfl (mS .here rfl (mS .here rfl mN)))))) ?_ ?_
  ·show 0≤4; omega
  intro c N3 Gl3 hN3 hGl3 hF3
  try dsimp only at hF3 hN3 ⊢
  have hc:c≤4:=hF3
  refine .g (cP rfl rfl rfl rfl (.g (cD rfl (fun c4=>?_) (fun c4=>?_))))
  ·have c4k:=c4
   try simp only [aD] at c4
   refine .g (aR rfl rfl rfl rfl ?_)
   refine .p (aR rfl rfl rfl rfl ?_)
   refine .p (cu (k:=.u32) rfl .no rfl aL2 (.u rfl) ?_)
   refine iW rfl jY rfl rfl ?_
   refine s1 rfl (.u rfl) (.u rfl) rfl fM .here (by rw [bR]; omega) (lI (4*i+c) (by omega)) ?_
   refine .g (oN (k:=.u32) rfl .no (.u rfl) (.u rfl) (fun _=>by decide) ?_)
   refine .g (aR rfl rfl rfl rfl ?_)
   refine .g (aT (c+1) ?_ ?_ ?_ ?_ ?_)
   ·exact (dY rfl aUE (aA rfl (aA rfl (aA rfl (aA rfl (aA rfl (aA rfl (aA rfl eZ))))))))
   ·exact (mS .here (aSo (by omega)) (mS .here rfl (mS .here rfl (mS .here rfl (mS .here rfl (mS .here rfl mN))))))
   ·first|omega|(dsimp only; omega)
   ·exact hGl3
   show c+1≤4; omega
  have c4k:=c4
  try simp only [aD] at c4
  refine .g (aR rfl rfl rfl rfl ?_)
  refine mV rfl rfl (.nil ?_)
  obtain rfl:c=4:=by omega
  refine aT (i+1) ?_ ?_ ?_ ?_ ?_
  ·exact (aA rfl (aA rfl (aA rfl (aA rfl (aA rfl eZ)))))
  ·exact (mS .here rfl (mS .here rfl (mS .here rfl (mS .here rfl (mS .here rfl (mS .here rfl mN))))))
  ·first|omega|(dsimp only; omega)
  ·exact hGl2.trans hGl3
  show i+1≤16; omega
 have c3k:=c3
 try simp only [aD] at c3
 refine .g (lB rfl fV rfl .here ?_)
 refine sw rfl (.u rfl) (.u rfl) rfl kB tk5 rfl (kF _ _) ?_
 refine .nil (.code (.ret (aN Tryz.results380 (.cell rfl (fun w hw=>bE fV (RdN.own .here) rfl hw) .nil) ?_)))
 obtain rfl:i=16:=by omega
 exact ⟨rfl,by rw [jF (fun i hi=>(kQ (qM key nonce count) hi).symm)]; rfl⟩
theorem aZF:dV Tryz.prog 511=some (wa 64 (fun _=>0#32)):=by kernel_rfl
theorem dW:(bL Tryz.prog 25).isSome=true:=by kernel_rfl
theorem rM:fN Tryz.prog 511=some (64,344,1):=by kernel_rfl
theorem qA:aJ Tryz.prog 396=true:=by kernel_rfl
theorem oA:aQ Tryz.prog 463 0=some 0:=by kernel_rfl
theorem nY:fN Tryz.prog 461=some (8,344,1):=by kernel_rfl
theorem aLy:cX Tryz.prog 461 [0,1,2,3,4,5,6,7]=some ([.int .u32 0,.int .u32 0,.int .u32 0,.int .u32 0,.int .u32 0,.int .u32 0,.int .u32 0,.int .u32 0],[(0,1),(1,1),(2,1),(3,1),(4,1),(5,1),(6,1),(7,1)]):=by kernel_rfl
theorem pT (x:W) (k:Nat) (G:PM) (hk:k∈[2,6,7,11,13,17,18,19,22,25]):Ct Tryz.prog 396 ([U x,.int .i64 (k:Int)]:List Value).toArray G [] (fun _ μ' u=>μ'=[]∧u=U (nO x k)):=by
 refine Ct.of Tryz.func396 rfl Tryz.ntmps396 rfl fun w0 hs0=>?_
 have hk2:k≤31:=by simp only [List.mem_cons,List.not_mem_nil,or_false] at hk; omega
 refine .g (ng rfl .no (.u rfl) (fun _=>eJ (by omega) (by omega)) ?_)
 refine kV rfl zH (aB rfl (aB rfl aF)) (yF _ _ _) ?_
 refine aS rfl rfl (.nc (.ret (aN Tryz.results396 (.tmp rfl .nil) ?_)))
 exact ⟨rfl,by rw [← aTl hk]; rfl⟩
set_option maxHeartbeats 1000000 in
theorem aDo (s:Nat→W) (xs:List Y) (h:Sh) (vp nn:Value) (bs:Nat) (G:PM) (hs:SlR G 1 aU h xs) (hK:RdNP G 6 0 (wa 64 kW)) (hl:64≤xs.length):Ct Tryz.prog 383 ([.pointer (some ⟨bs,0,none⟩),h.val xs.length]:List Value).toArray G [.blk bs (cl (wa 8 s++[vp,nn]) 463)] (fun _ μ' u=>μ'=[.blk bs (cl (wa 8 (rD s (fun i=>xs.getD i 0))++[vp,nn]) 463)]∧u=.tuple #[]):=by
 refine Ct.of Tryz.func383 rfl Tryz.ntmps383 rfl fun w0 hs0=>?_
 refine .seq (aP rfl rfl ?_)
 refine al rfl aZF ?_; intro b4
 refine .nil (.code (.seq (.seq (aP rfl rfl (mV rfl rfl (.nc (.block ?_)))))))
 refine aV (α:=Nat×(Nat→W)) (fun gh=>[(24,true,.int .i64 (gh.1:Int))]) (fun gh=>[.blk b4 (cl (wa 64 gh.2) 511)])
  (fun gh Gl=>(gh.1≤16)∧(gh.2=nS (fun i=>xs.getD i 0) gh.1)) (fun gh=>16-gh.1) (0,fun _=>0#32) [(0,true,_),(1,true,_),(4,true,_)] [_]
  (aO rfl (aA rfl (aA rfl (aA rfl eZ))))
  (mS .here rfl (mS .here rfl mN)) ?_ ?_
 ·refine ⟨?_,?_⟩
  ·(try dsimp only)<;>(first|omega|rfl|assumption|(simp; done))
  (try dsimp only)<;>(first|omega|rfl|assumption|(simp; done))
 intro gh N0 Gl0 hN0 hGl0 hF0
 obtain ⟨k,y⟩:=gh; dsimp only at hF0 hN0 ⊢
 obtain ⟨hk,ey⟩:=hF0
 have hs:=hs.mono hGl0
 have hK:=hK.mono hGl0
 refine .g (cP rfl rfl rfl rfl (.g (cD rfl (fun c1=>?_) (fun c1=>?_))))
 ·have c1k:=c1
  try simp only [aD,aE] at c1
  refine .g (aW (((4*k):Nat):Int) rfl rfl rfl rfl ?_)
  refine .p (aW (((4*k):Nat):Int) rfl rfl rfl rfl ?_)
  refine hJ ((((4*k)+4):Nat):Int) rfl .no (.u rfl) (.u rfl) rfl (by omega) (fun _=>eJ (by omega) (by omega)) ?_
  refine kS ((4*k)) (((4*k)+4)) rfl .no aX hs (.u rfl) (.u rfl) (.u rfl) (by omega) (by omega) (by omega) (by omega) ?_
  intro h33 L33 eL33 lL33 hs33
  have lL33:=lL33 rfl
  refine lE rfl dW rfl (mV rfl rfl (.nc (.block ?_)))
  refine aV (α:=Nat×(Nat→W)) (fun gh=>[(35,true,.int .i64 (gh.1:Int))]) (fun gh=>[.blk b4 (cl (wa 64 gh.2) 511)])
   (fun gh Gl=>(gh.1≤4)∧(gh.2=bJ y k (shB (fun i=>xs.getD i 0) k gh.1))) (fun gh=>4-gh.1) (0,y) [(0,true,_),(1,true,_),(4,true,_),(5,true,_),(24,true,_),(33,true,_),(34,true,_)] [_]
   (aO rfl (aA rfl (aA rfl (aA rfl (aA rfl (aA rfl (aA rfl (aA rfl eZ))))))))
   (mS .here rfl (mS .here rfl mN)) ?_ ?_
  ·refine ⟨?_,?_⟩
   ·(try dsimp only)<;>(first|omega|rfl|assumption|(simp; done))
   (try dsimp only)<;>(rw [ey]; exact (aVI _ (Nat.le_refl k)).symm)
  intro gh N1 Gl1 hN1 hGl1 hF1
  obtain ⟨c,y2⟩:=gh; dsimp only at hF1 hN1 ⊢
  obtain ⟨hc,ey2⟩:=hF1
  have hK:=hK.mono hGl1
  have hs33:=hs33.mono hGl1
  refine .g (cP rfl rfl rfl rfl (.g (cD rfl (fun c2=>?_) (fun c2=>?_))))
  ·have c2k:=c2
   try simp only [aD,aE] at c2
   refine .skip (.code (.seq (.block (.seq (dQ rfl rfl (ih rfl .no aX (.u rfl) (.u rfl) (by omega) (by omega) (fun _=>hs33.nn (k:=c) (by omega)) ?_))))))
   refine lN rfl cZ rfl ((hs33.yat (c) (by omega) (by omega)).rd) ?_
   refine .g (iW rfl rM rfl rfl ?_)
   refine lO rfl dE rfl .here (by first|exact dC (k) (by omega) (by omega)|exact gF (k) (by omega) (by omega)|exact gV (k) (by omega) (by omega)|rfl) ?_
   refine lw (k:=.u32) rfl .no rfl (.u rfl) (.u rfl) (fun _=>by decide) ?_
   refine .p (cu (k:=.u8) rfl .no rfl aF2 (.u rfl) ?_)
   refine bw (k:=.u32) rfl .no rfl (.u rfl) (.u rfl) rfl (iW rfl rM rfl rfl ?_)
   refine s1 rfl (.u rfl) (.u rfl) rfl fR .here (by first|decide|(simp only [bW,bR,cC]; omega)) (by first|exact dR (k) (by omega)|exact lI (k) (by omega)|exact rH (k) (by omega) (by omega)|rfl) ?_
   refine .g (aW (((c+1):Nat):Int) rfl rfl rfl rfl ?_)
   refine .g (aT (c+1,bJ y2 k (y2 k <<< Int.toNat 8 ||| BitVec.setWidth 32 (L33.getD c 0))) ?_ ?_ ?_ ?_ ?_)
   ·exact (aO rfl (aA rfl (aA rfl (aA rfl (aA rfl (aA rfl (aA rfl (aA rfl eZ))))))))
   ·exact (mS .here rfl (mS .here rfl mN))
   ·first|omega|(dsimp only; omega)
   ·exact hGl1
   refine ⟨?_,?_⟩
   ·(try dsimp only)<;>(first|omega|rfl|assumption|(simp; done))
   (try dsimp only)<;>(rw [ey2,yR,aFi,shB,eL33,aPp (by omega)]; rfl)
  have c2k:=c2
  try simp only [aD,aE] at c2
  refine .g (aW (((k+1):Nat):Int) rfl rfl rfl rfl ?_)
  refine .g (aT (k+1,y2) ?_ ?_ ?_ ?_ ?_)
  ·exact (aO rfl (aA rfl (aA rfl (aA rfl eZ))))
  ·exact (mS .here rfl (mS .here rfl mN))
  ·first|omega|(dsimp only; omega)
  ·exact (hGl0).trans hGl1
  refine ⟨?_,?_⟩
  ·(try dsimp only)<;>(first|omega|rfl|assumption|(simp; done))
  (try dsimp only)<;>(obtain rfl:c=4:=(by omega); rw [ey2,ey,aUA]; rfl)
 have c1k:=c1
 try simp only [aD,aE] at c1
 refine .exit (.xcode (.xlp (.xblk (.code (.seq (.seq ?_))))))
 obtain rfl:k=16:=by omega
 refine aP rfl rfl (aS rfl rfl (.nc (.block ?_)))
 refine aV (α:=Nat×(Nat→W)) (fun gh=>[(8,true,.int .i64 ((16+gh.1:Nat):Int))]) (fun gh=>[.blk b4 (cl (wa 64 gh.2) 511)])
  (fun gh Gl=>(gh.1≤48)∧(gh.2=nP (fun i=>xs.getD i 0) gh.1)) (fun gh=>48-gh.1) (0,_) [(0,true,_),(4,true,_)] [_]
  (aO rfl (aA rfl (aA rfl eZ)))
  (mS .here rfl (mS .here rfl mN)) ?_ ?_
 ·refine ⟨?_,?_⟩
  ·(try dsimp only)<;>(first|omega|rfl|assumption|(simp; done))
  (try dsimp only)<;>(first|omega|rfl|assumption|(simp; done))
 intro gh N2 Gl2 hN2 hGl2 hF2
 obtain ⟨k1,y⟩:=gh; dsimp only at hF2 hN2 ⊢
 obtain ⟨hk1,ey⟩:=hF2
 have hK:=hK.mono hGl2
 refine .g (cP rfl rfl rfl rfl (.g (cD rfl (fun c3=>?_) (fun c3=>?_))))
 ·have c3k:=c3
  try simp only [aD,aE] at c3
  refine .g (bZ (mc:=⟨false,false⟩) [0,1,2,3,4,5,6,7,8,9] aY (by kernel_rfl) ?_)
  refine .p (aW (((1+k1):Nat):Int) rfl rfl rfl rfl ?_)
  refine iW rfl rM rfl rfl ?_
  refine lO rfl dE rfl .here (by first|exact dC ((1+k1)) (by omega) (by omega)|exact gF ((1+k1)) (by omega) (by omega)|exact gV ((1+k1)) (by omega) (by omega)|rfl) ?_
  refine .p (aW (((14+k1):Nat):Int) rfl rfl rfl rfl ?_)
  refine iW rfl rM rfl rfl ?_
  refine lO rfl dE rfl .here (by first|exact dC ((14+k1)) (by omega) (by omega)|exact gF ((14+k1)) (by omega) (by omega)|exact gV ((14+k1)) (by omega) (by omega)|rfl) ?_
  refine .g (bZ (mc:=⟨false,false⟩) [0,1,2,3,4,5,6,7,8,9,10,12,15,16,19,21,24,25,11,13,14,17,18,20,22,23,26,27,28,29] aY (by kernel_rfl) ?_)
  refine .p (aW ((k1:Nat):Int) rfl rfl rfl rfl ?_)
  refine iW rfl rM rfl rfl ?_
  refine lO rfl dE rfl .here (by first|exact dC (k1) (by omega) (by omega)|exact gF (k1) (by omega) (by omega)|exact gV (k1) (by omega) (by omega)|rfl) ?_
  refine .p (aW (((9+k1):Nat):Int) rfl rfl rfl rfl ?_)
  refine iW rfl rM rfl rfl ?_
  refine lO rfl dE rfl .here (by first|exact dC ((9+k1)) (by omega) (by omega)|exact gF ((9+k1)) (by omega) (by omega)|exact gV ((9+k1)) (by omega) (by omega)|rfl) ?_
  refine bw (k:=.u32) rfl .no rfl (.u rfl) (.u rfl) rfl (.p (oN (k:=.u32) rfl .no (.u rfl) (.u rfl) (fun _=>by decide) ?_))
  refine .p (oN (k:=.u32) rfl .no (.u rfl) (.u rfl) (fun _=>by decide) ?_)
  refine kV rfl qA (aB rfl (aB rfl aF)) (pT _ 7 _ (by decide)) ?_
  refine kV rfl qA (aB rfl (aB rfl aF)) (pT _ 18 _ (by decide)) ?_
  refine bw (k:=.u32) rfl .no rfl (.u rfl) (.u rfl) rfl (bw (k:=.u32) rfl .no rfl (.u rfl) (.u rfl) rfl (bw (k:=.u32) rfl .no rfl (.u rfl) (.u rfl) rfl (kV rfl qA (aB rfl (aB rfl aF)) (pT _ 17 _ (by decide)) ?_)))
  refine kV rfl qA (aB rfl (aB rfl aF)) (pT _ 19 _ (by decide)) ?_
  refine bw (k:=.u32) rfl .no rfl (.u rfl) (.u rfl) rfl (bw (k:=.u32) rfl .no rfl (.u rfl) (.u rfl) rfl (bw (k:=.u32) rfl .no rfl (.u rfl) (.u rfl) rfl (iW rfl rM rfl rfl ?_)))
  refine s1 rfl (.u rfl) (.u rfl) rfl fR .here (by first|decide|(simp only [bW,bR,cC]; omega)) (by first|exact dR (((16+k1:Nat))) (by omega)|exact lI (((16+k1:Nat))) (by omega)|exact rH (((16+k1:Nat))) (by omega) (by omega)|rfl) ?_
  refine .g (hJ (((((16+k1:Nat))+1):Nat):Int) rfl .no (.u rfl) (.u rfl) rfl (by omega) (fun _=>eJ (by omega) (by omega)) ?_)
  refine .g (aT (k1+1,_) (aO rfl (aA rfl (aA rfl eZ))) (mS .here rfl (mS .here rfl mN)) ?_ ?_ ?_)
  ·first|omega|(dsimp only; omega)
  ·exact hGl2
  refine ⟨?_,?_⟩
  ·(try dsimp only)<;>(first|omega|rfl|assumption|(simp; done))
  (try dsimp only)<;>(rw [ey]; rfl)
 have c3k:=c3
 try simp only [aD,aE] at c3
 refine .exit (.xcode (.xlp (.xblk (.code (.seq ?_)))))
 obtain rfl:k1=48:=by omega
 refine bZ (mc:=⟨false,false⟩) [0,1,2,3,4,5,6,7,8,9,10,11,12,13,14,15,16,17,18,19,20,21,22,23,24,25,26,27,28,29,30,31,32,33,34,35,36,37,38,39,40,41,42,43,44,45,46,47] aY (by kernel_rfl) ?_
 refine .p (nC rfl rfl (fZ rfl oA rfl (iW rfl nY rfl rfl ?_)))
 refine lO rfl dE rfl aC (by first|exact dC (0) (by omega) (by omega)|exact gF (0) (by omega) (by omega)|exact gV (0) (by omega) (by omega)|rfl) ?_
 refine .p (nC rfl rfl (fZ rfl oA rfl (iW rfl nY rfl rfl ?_)))
 refine lO rfl dE rfl aC (by first|exact dC (1) (by omega) (by omega)|exact gF (1) (by omega) (by omega)|exact gV (1) (by omega) (by omega)|rfl) ?_
 refine .p (nC rfl rfl (fZ rfl oA rfl (iW rfl nY rfl rfl ?_)))
 refine lO rfl dE rfl aC (by first|exact dC (2) (by omega) (by omega)|exact gF (2) (by omega) (by omega)|exact gV (2) (by omega) (by omega)|rfl) ?_
 refine .p (nC rfl rfl (fZ rfl oA rfl (iW rfl nY rfl rfl ?_)))
 refine lO rfl dE rfl aC (by first|exact dC (3) (by omega) (by omega)|exact gF (3) (by omega) (by omega)|exact gV (3) (by omega) (by omega)|rfl) ?_
 refine .p (nC rfl rfl (fZ rfl oA rfl (iW rfl nY rfl rfl ?_)))
 refine lO rfl dE rfl aC (by first|exact dC (4) (by omega) (by omega)|exact gF (4) (by omega) (by omega)|exact gV (4) (by omega) (by omega)|rfl) ?_
 refine .p (nC rfl rfl (fZ rfl oA rfl (iW rfl nY rfl rfl ?_)))
 refine lO rfl dE rfl aC (by first|exact dC (5) (by omega) (by omega)|exact gF (5) (by omega) (by omega)|exact gV (5) (by omega) (by omega)|rfl) ?_
 refine .p (nC rfl rfl (fZ rfl oA rfl (iW rfl nY rfl rfl ?_)))
 refine lO rfl dE rfl aC (by first|exact dC (6) (by omega) (by omega)|exact gF (6) (by omega) (by omega)|exact gV (6) (by omega) (by omega)|rfl) ?_
 refine .p (nC rfl rfl (fZ rfl oA rfl (iW rfl nY rfl rfl ?_)))
 refine lO rfl dE rfl aC (by first|exact dC (7) (by omega) (by omega)|exact gF (7) (by omega) (by omega)|exact gV (7) (by omega) (by omega)|rfl) ?_
 refine aS rfl rfl (aS rfl rfl (aS rfl rfl (aS rfl rfl (aS rfl rfl (aS rfl rfl (aS rfl rfl (aS rfl rfl (.nc (.seq (.seq (aP rfl rfl (mV rfl rfl (.nc (.block ?_))))))))))))))
 refine aV (α:=Nat×(Nat→W)) (fun gh=>[(11,true,U (gh.2 0)),(12,true,U (gh.2 1)),(13,true,U (gh.2 2)),(14,true,U (gh.2 3)),(15,true,U (gh.2 4)),(16,true,U (gh.2 5)),(17,true,U (gh.2 6)),(18,true,U (gh.2 7)),(131,true,.int .i64 (gh.1:Int))]) (fun _=>[])
  (fun gh Gl=>(gh.1≤64)∧(gh.2=aCb y s gh.1)) (fun gh=>64-gh.1) (0,s) [(0,true,_),(4,true,_)] [_,_]
  (aA rfl (aA rfl (aA rfl (aA rfl (aA rfl (aA rfl (aA rfl (aA rfl (aO rfl (aA rfl (aA rfl eZ)))))))))))
  (mS .here rfl (mS .here rfl mN)) ?_ ?_
 ·refine ⟨?_,?_⟩
  ·(try dsimp only)<;>(first|omega|rfl|assumption|(simp; done))
  (try dsimp only)<;>(first|omega|rfl|assumption|(simp; done))
 intro gh N3 Gl3 hN3 hGl3 hF3
 obtain ⟨k2,x⟩:=gh; dsimp only at hF3 hN3 ⊢
 obtain ⟨hk2,ex⟩:=hF3
 have hK:=hK.mono hGl3
 refine .g (cP rfl rfl rfl rfl (.g (cD rfl (fun c4=>?_) (fun c4=>?_))))
 ·have c4k:=c4
  try simp only [aD,aE] at c4
  refine .g (bZ (mc:=⟨false,false⟩) [0,1,3,6,10,11,12,13,14,15,16,18,19,20,22,23,24,2,4,5,7,8,9,17,21,25,26] aY (by kernel_rfl) ?_)
  refine .p (bw (k:=.u32) rfl .no rfl (.u rfl) (.u rfl) rfl (bw (k:=.u32) rfl .no rfl (.u rfl) (.u rfl) rfl (bw (k:=.u32) rfl .no rfl (.u rfl) (.u rfl) rfl (.p (iW rfl rM rfl rfl ?_)))))
  refine lN rfl dE rfl ((hK.wat (k2) (by omega) (by omega)).rd) ?_
  refine .p (iW rfl rM rfl rfl ?_)
  refine lO rfl dE rfl .here (by first|exact dC (k2) (by omega) (by omega)|exact gF (k2) (by omega) (by omega)|exact gV (k2) (by omega) (by omega)|rfl) ?_
  refine kV rfl qA (aB rfl (aB rfl aF)) (pT _ 6 _ (by decide)) ?_
  refine kV rfl qA (aB rfl (aB rfl aF)) (pT _ 11 _ (by decide)) ?_
  refine bw (k:=.u32) rfl .no rfl (.u rfl) (.u rfl) rfl (kV rfl qA (aB rfl (aB rfl aF)) (pT _ 25 _ (by decide)) ?_)
  refine bw (k:=.u32) rfl .no rfl (.u rfl) (.u rfl) rfl (bw (k:=.u32) rfl .no rfl (.u rfl) (.u rfl) rfl (bw (k:=.u32) rfl .no rfl (.u rfl) (.u rfl) rfl (bw (k:=.u32) rfl .no rfl (.u rfl) (.u rfl) rfl (bw (k:=.u32) rfl .no rfl (.u rfl) (.u rfl) rfl (.g (kV rfl qA (aB rfl (aB rfl aF)) (pT _ 2 _ (by decide)) ?_))))))
  refine .p (kV rfl qA (aB rfl (aB rfl aF)) (pT _ 13 _ (by decide)) ?_)
  refine bw (k:=.u32) rfl .no rfl (.u rfl) (.u rfl) rfl (.p (kV rfl qA (aB rfl (aB rfl aF)) (pT _ 22 _ (by decide)) ?_))
  refine bw (k:=.u32) rfl .no rfl (.u rfl) (.u rfl) rfl (.p (bw (k:=.u32) rfl .no rfl (.u rfl) (.u rfl) rfl (.p (bw (k:=.u32) rfl .no rfl (.u rfl) (.u rfl) rfl (bw (k:=.u32) rfl .no rfl (.u rfl) (.u rfl) rfl (bw (k:=.u32) rfl .no rfl (.u rfl) (.u rfl) rfl (bw (k:=.u32) rfl .no rfl (.u rfl) (.u rfl) rfl (.g (bw (k:=.u32) rfl .no rfl (.u rfl) (.u rfl) rfl (.p (bw (k:=.u32) rfl .no rfl (.u rfl) (.u rfl) rfl (.g (aW (((k2+1):Nat):Int) rfl rfl rfl rfl ?_)))))))))))))
  refine .g (aT (k2+1,aKK x (kW k2) (y k2)) ?_ ?_ ?_ ?_ ?_)
  ·exact (aA rfl (aA rfl (aA rfl (aA rfl (aA rfl (aA rfl (aA rfl (aA rfl (aO rfl (aA rfl (aA rfl eZ)))))))))))
  ·exact (mS .here rfl (mS .here rfl mN))
  ·first|omega|(dsimp only; omega)
  ·exact hGl3
  refine ⟨?_,?_⟩
  ·(try dsimp only)<;>(first|omega|rfl|assumption|(simp; done))
  (try dsimp only)<;>(rw [ex]; rfl)
 have c4k:=c4
 try simp only [aD,aE] at c4
 refine .exit (.xcode (.xlp (.xblk (.code (.seq ?_)))))
 obtain rfl:k2=64:=by omega
 refine .g (dK (wa 8 x) rfl .no aLy (.cons (.u rfl) rfl (.cons (.u rfl) rfl (.cons (.u rfl) rfl (.cons (.u rfl) rfl (.cons (.u rfl) rfl (.cons (.u rfl) rfl (.cons (.u rfl) rfl (.cons (.u rfl) rfl .nil)))))))) rfl (by simp [qI,put,wa,List.range_succ]) ?_)
 refine mV rfl rfl (.nc (.block ?_))
 refine aV (α:=Nat×(Nat→W)) (fun gh=>[(200,true,.int .i64 (gh.1:Int))]) (fun gh=>[.blk bs (cl (wa 8 gh.2++[vp,nn]) 463)])
  (fun gh Gl=>(gh.1≤8)∧(gh.2=fun i=>if i<gh.1 then s i+x i else s i)) (fun gh=>8-gh.1) (0,s) [(0,true,_),(199,true,_)] [_]
  (aO rfl (aA rfl (aA rfl eZ)))
  (mS aC rfl (mS .here rfl mN)) ?_ ?_
 ·refine ⟨?_,?_⟩
  ·(try dsimp only)<;>(first|omega|rfl|assumption|(simp; done))
  (try dsimp only)<;>(funext i; simp)
 intro gh N4 Gl4 hN4 hGl4 hF4
 obtain ⟨k3,z⟩:=gh; dsimp only at hF4 hN4 ⊢
 obtain ⟨hk3,ez⟩:=hF4
 refine .g (cP rfl rfl rfl rfl (.g (cD rfl (fun c5=>?_) (fun c5=>?_))))
 ·have c5k:=c5
  try simp only [aD,aE] at c5
  refine .g (ix rfl .no nY dE (.u rfl) (.u rfl) (by omega) (by omega) (fun _=>aAt (n:=8) (y:=x) (j:=k3) (by omega)) ?_)
  refine .g (bZ (mc:=⟨false,false⟩) [0,1,2,3,4,5,6,7,8,9,10,11] aY (by kernel_rfl) ?_)
  refine .p (nC rfl rfl (fZ rfl oA rfl (iW rfl nY rfl rfl ?_)))
  refine lO rfl dE rfl .here (by first|exact dC (k3) (by omega) (by omega)|exact gF (k3) (by omega) (by omega)|exact gV (k3) (by omega) (by omega)|rfl) ?_
  refine .p (bw (k:=.u32) rfl .no rfl (.u rfl) (.u rfl) rfl (nC rfl rfl (fZ rfl oA rfl (iW rfl nY rfl rfl ?_))))
  refine s1 rfl (.u rfl) (.u rfl) rfl fR .here (by first|decide|(simp only [bW,bR,cC]; omega)) (by first|exact dR (k3) (by omega)|exact lI (k3) (by omega)|exact rH (k3) (by omega) (by omega)|rfl) ?_
  refine .g (aW (((k3+1):Nat):Int) rfl rfl rfl rfl ?_)
  refine .g (aT (k3+1,_) (aO rfl (aA rfl (aA rfl eZ))) (mS .here rfl (mS .here rfl mN)) ?_ ?_ ?_)
  ·first|omega|(dsimp only; omega)
  ·exact hGl4
  refine ⟨?_,?_⟩
  ·(try dsimp only)<;>(first|omega|rfl|assumption|(simp; done))
  (try dsimp only)<;>(rw [ez]; exact aVH)
 have c5k:=c5
 try simp only [aD,aE] at c5
 refine .g (We.fin Tryz.results383 .nil (mS .here rfl mN) ?_)
 obtain rfl:k3=8:=by omega
 refine ⟨?_,rfl⟩
 rw [ez,ex,ey,aVY (f:=fun i=>if i<8 then s i+aCb (nP (fun i=>xs.getD i 0) 48) s 64 i else s i) (f':=rD s (fun i=>xs.getD i 0)) (fun i hi=>by rw [if_pos hi]; rfl)]
theorem aA8:aQ Tryz.prog 463 2=some 9:=by kernel_rfl
theorem bA:bY Tryz.prog 3=some none:=by kernel_rfl
theorem fL:cI Tryz.prog 3=some 1:=by kernel_rfl
theorem pZ:aQ Tryz.prog 463 1=some 8:=by kernel_rfl
theorem gQ:bY Tryz.prog 25=some none:=by kernel_rfl
theorem cG:(Tryz.prog.info? 5).bind (·.zero)=some (.int .u8 0):=by kernel_rfl
theorem rQ:cI Tryz.prog 25=some 1:=by kernel_rfl
theorem aGc:aJ Tryz.prog 383=true:=by kernel_rfl
theorem aN5 (s:Nat→W) (xs:List Y) (v vp nn:Value) (bs:Nat) (G:PM) (hK:RdNP G 6 0 (wa 64 kW)) (hl:64≤xs.length):Ct Tryz.prog 383 ([.pointer (some ⟨bs,0,none⟩),v]:List Value).toArray G [rB v 5 xs,.blk bs (cl (wa 8 s++[vp,nn]) 463)] (fun _ μ' u=>∃ ν,μ'=rB v 5 xs :: ν∧ν=[.blk bs (cl (wa 8 (rD s (fun i=>xs.getD i 0))++[vp,nn]) 463)]∧u=.tuple #[]) :=
 aAy (fun h G2 hle hv hs=>by subst hv; exact aDo s xs h vp nn bs G2 hs (hK.mono hle) hl)
theorem aAm {y:Nat→W} {a b v:Value}:(wa 8 y++[a,b]).set 8 v=wa 8 y++[v,b]:=aLD rfl
theorem aAn {y:Nat→W} {a b v:Value}:(wa 8 y++[a,b]).set 9 v=wa 8 y++[a,v]:=aLD rfl
theorem aFX {zs:List Y} {j m b T:Nat} {vp:Value} (hj:zs.length / 64=j) (hm:m=zs.length):Res.blk b (cl (wa 8 (fP zs j)++[vp,.int .i64 (m:Int)]) T)=.blk b (cl (gU zs vp) T):=by
 subst hj; subst hm; rfl
theorem aJ8 {zs L:List Y} {j b T:Nat} {vq nn:Value} (eL:L=zs.drop (64*j)) (h:64≤L.length):Res.blk b (cl (wa 8 (rD (fP zs j) (fun i=>L.getD i 0))++[vq,nn]) T)=.blk b (cl (wa 8 (fP zs (j+1))++[vq,nn]) T):=by
 rw [fP,aFS (b':=zZ zs j)]
 intro i hi
 rw [eL,zZ]; simp [List.getD_eq_getElem?_getD,List.getElem?_drop]
theorem aTK {xs ys L:List Y} {b T k:Nat} {vq nn:Value} (eL:L=dU xs++ys.take k) (hk:k=min (64-(dU xs).length) ys.length) (h:64≤L.length):Res.blk b (cl (wa 8 (rD (fP xs (xs.length / 64)) (fun i=>L.getD i 0))++[vq,nn]) T)=.blk b (cl (wa 8 (fP (xs++ys) (xs.length / 64+1))++[vq,nn]) T):=by
 have hr:=yD xs
 rw [eL,List.length_append,List.length_take] at h
 rw [fP,aFU (by omega),aFS (b':=zZ (xs++ys) (xs.length / 64))]
 intro i hi
 rw [eL,zZ]
 simp only [List.getD_eq_getElem?_getD,List.getElem?_append,List.getElem?_take,hr]
 by_cases h1:i<xs.length%64
 ·simp [h1,dU,show 64*(xs.length / 64)+i<xs.length by omega]
 ·rw [if_neg h1,if_pos (by omega),if_neg (by omega)]
  congr 2; omega
theorem aTM {xs ys L:List Y} (eL:L=dU xs++ys.take (min (64-(dU xs).length) ys.length)) (h:L.length<64):L=dU (xs++ys)∧(xs++ys).length / 64=xs.length / 64∧fP (xs++ys) (xs.length / 64)=fP xs (xs.length / 64):=by
 have hr:=yD xs
 rw [eL,List.length_append,List.length_take] at h
 have e:(xs++ys).length / 64=xs.length / 64:=by rw [List.length_append]; omega
 refine ⟨?_,e,aFU (by omega)⟩
 have h5:min (64-(dU xs).length) ys.length=ys.length:=by omega
 rw [eL,h5,List.take_length,dU,dU,e,List.drop_append_of_le_length (by omega)]
theorem aTI {xs ys:List Y} (h:64≤(dU xs).length+ys.length):ys.drop (min (64-(dU xs).length) ys.length)=(xs++ys).drop (64*(xs.length / 64+1)):=by
 have hr:=yD xs
 rw [List.drop_append,List.drop_of_length_le (show xs.length≤64*(xs.length / 64+1) by omega),List.nil_append]
 congr 1; omega
theorem aTJ {xs ys:List Y} (h:(dU xs).length=0):ys=(xs++ys).drop (64*(xs.length / 64)):=by
 have hr:=yD xs
 rw [show 64*(xs.length / 64)=xs.length by omega,List.drop_left]
theorem aTN {xs ys:List Y} {b T:Nat} {vq nn:Value} (h:(dU xs).length=0):Res.blk b (cl (wa 8 (fP xs (xs.length / 64))++[vq,nn]) T)=.blk b (cl (wa 8 (fP (xs++ys) (xs.length / 64))++[vq,nn]) T):=by
 rw [aFU (by omega)]
theorem aE8 (xs ys:List Y) (h:Sh) (vp:Value) (bs:Nat) (G:PM) (hs:SlR G 1 aU h ys) (hK:RdNP G 6 0 (wa 64 kW)) (hl:xs.length+ys.length≤4611686018427387904):Ct Tryz.prog 351 ([.pointer (some ⟨bs,0,none⟩),h.val ys.length]:List Value).toArray G [.blk bs (cl (gU xs vp) 463),rB vp 5 (dU xs)] (fun _ μ' u=>∃ vp',μ'=[.blk bs (cl (gU (xs++ys) vp') 463),rB vp' 5 (dU (xs++ys))]∧u=.tuple #[]):=by
 refine Ct.of Tryz.func351 rfl Tryz.ntmps351 rfl fun w0 hs0=>?_
 have hr:=yD xs
 refine .g (nC rfl rfl (fZ rfl aA8 rfl (lO rfl bA rfl .here (by first|exact aK rfl|rfl) ?_)))
 refine .p (lE rfl dW rfl (aW (((xs.length+ys.length):Nat):Int) rfl rfl rfl rfl ?_))
 refine nC rfl rfl (fZ rfl aA8 rfl (s1 rfl (.u rfl) (.u rfl) rfl fL .here (by first|decide|(simp only [gU,bW,bR,cC]; omega)) (by first|exact aAm|exact aAn) ?_))
 refine .g (nC rfl rfl (fZ rfl pZ rfl (lO rfl gQ rfl .here (by first|exact aK rfl|rfl) ?_)))
 refine lr rfl .no dW (.u rfl) aC ?_
 refine cP rfl rfl rfl rfl (.g (cD rfl (fun c1=>?_) (fun c1=>?_)))
 ·have c1k:=c1
  try simp only [aD,aE] at c1
  refine .g (nC rfl rfl (fZ rfl pZ rfl (lO rfl gQ rfl .here (by first|exact aK rfl|rfl) ?_)))
  refine lr rfl .no dW (.u rfl) aC ?_
  refine hJ (((64-(dU xs).length):Nat):Int) rfl .no (.u rfl) (.u rfl) rfl (by omega) (fun _=>eJ (by omega) (by omega)) ?_
  refine .p (lE rfl dW rfl (xT ((64-(dU xs).length)) (ys.length) rfl .no (.u rfl) (.u rfl) (by omega) (by omega) ?_))
  refine .g (bZ (mc:=⟨false,false⟩) [0,1,2,3,4,5,6,7,8,9,10,11] aY (by kernel_rfl) ?_)
  refine .p (nC rfl rfl (fZ rfl pZ rfl (lO rfl gQ rfl .here (by first|exact aK rfl|rfl) ?_)))
  refine .p (kE ((min (64-(dU xs).length) ys.length)) rfl .no aX hs (.u rfl) (.u rfl) (by omega) (by omega) ?_)
  intro h36 L36 eL36 lL36 hs36
  have lL36:=lL36 rfl
  refine eY rfl aX cG (.u rfl) (.u rfl) aC hs36.sc (by (try simp only [cC,cY]); omega) ?_
  intro v37 L37 ov37 eL37
  have lL37:L37.length=(dU xs).length+L36.length:=by rw [eL37,List.length_append]
  refine nC rfl rfl (fZ rfl pZ rfl (iM rfl (.u rfl) (.u rfl) .here rQ aC (by first|decide|(simp only [gU,bW,bR,cC]; omega)) (by first|exact aAm|exact aAn) ?_))
  refine .g (kD ((min (64-(dU xs).length) ys.length)) rfl .no aX hs (.u rfl) (.u rfl) (by omega) (by omega) ?_)
  intro h42 L42 eL42 lL42 hs42
  have lL42:=lL42 rfl
  refine .g (nC rfl rfl (fZ rfl pZ rfl (lO rfl gQ rfl .here (by first|exact aK rfl|rfl) ?_)))
  refine lr rfl .no dW (.u rfl) aC ?_
  refine cP rfl rfl rfl rfl (.g (cD rfl (fun c2=>?_) (fun c2=>?_)))
  ·have c2k:=c2
   try simp only [aD,aE] at c2
   refine .ret (We.fin Tryz.results351 .nil (mS .here rfl (mS .here rfl mN)) ?_)
   obtain ⟨e1,e2,e3⟩:=aTM (eL37.trans (by rw [eL36])) (by omega)
   exact ⟨v37,by rw [← e1,←e3,aFX e2 (by simp)],rfl⟩
  have c2k:=c2
  try simp only [aD,aE] at c2
  refine .g (nC rfl rfl (fZ rfl pZ rfl (lO rfl gQ rfl .here (by first|exact aK rfl|rfl) ?_)))
  refine ka rfl (.inr rfl) aGc (aB rfl (aB rfl aF)) (eI aC .here) (aN5 _ L37 _ _ _ _ _ hK (by omega)) ?_
  rintro _ G54 μ54 hG54 ⟨_,rfl,rfl,rfl⟩
  have hs:=hs.mono hG54
  have hK:=hK.mono hG54
  have hs42:=hs42.mono hG54
  refine .g (nC rfl rfl (fZ rfl pZ rfl (s1 rfl (.u rfl) (.u rfl) rfl rQ aC (by first|decide|(simp only [gU,bW,bR,cC]; omega)) (by first|exact aAm|exact aAn) ?_)))
  refine .nil (aCr 5 ?_)
  refine .code (.seq (.block ?_))
  refine aV (α:=Nat×Sh×List Y×Value) (fun gh=>[(1,true,gh.2.1.val gh.2.2.1.length)]) (fun gh=>[.blk bs (cl (wa 8 (fP (xs++ys) gh.1)++[gh.2.2.2,.int .i64 ((xs.length+ys.length:Nat):Int)]) 463)])
   (fun gh Gl=>(64*gh.1≤xs.length+ys.length)∧(gh.2.2.1=(xs++ys).drop (64*gh.1))∧(SlR Gl 1 aU gh.2.1 gh.2.2.1)) (fun gh=>gh.2.2.1.length) (xs.length / 64+1,_,_,_) [(0,true,_)] [_]
   (aA rfl (aA rfl eZ))
   (mS aC (aTK (eL37.trans (by rw [eL36])) rfl (by omega)) (mS .here rfl mN)) ?_ ?_
  ·refine ⟨?_,?_,?_⟩
   ·(try dsimp only)<;>(omega)
   ·(try dsimp only)<;>(rw [eL42]; exact aTI (by omega))
   (try dsimp only)<;>(exact hs42)
  intro gh N0 Gl0 hN0 hGl0 hF0
  obtain ⟨j,h',L,vq⟩:=gh; dsimp only at hF0 hN0 ⊢
  obtain ⟨hj,eL,hL⟩:=hF0
  have hs:=hs.mono hGl0
  have hK:=hK.mono hGl0
  have lL:L.length=xs.length+ys.length-64*j:=by rw [eL]; simp
  refine .g (lE rfl dW rfl (cP rfl rfl rfl rfl (.g (cD rfl (fun c3=>?_) (fun c3=>?_)))))
  ·have c3k:=c3
   try simp only [aD,aE] at c3
   refine .g (ka rfl (.inr rfl) aGc (aB rfl (aB rfl aF)) (bK .here) (aDo _ L h' _ _ _ _ hL hK (by omega)) ?_)
   rintro _ G65 μ65 hG65 ⟨rfl,rfl⟩
   have hs:=hs.mono hG65
   have hK:=hK.mono hG65
   have hL:=hL.mono hG65
   refine .g (kD (64) rfl .no aX hL (.u rfl) (.u rfl) (by omega) (by omega) ?_)
   intro h62 L62 eL62 lL62 hs62
   have lL62:=lL62 rfl
   refine .g (aT (j+1,h62,L62,vq) ?_ ?_ ?_ ?_ ?_)
   ·exact (aA rfl (aA rfl eZ))
   ·exact (mS .here (aJ8 eL (by omega)) (mS .here rfl mN))
   ·first|omega|(dsimp only; omega)
   ·exact (hGl0).trans hG65
   refine ⟨?_,?_,?_⟩
   ·(try dsimp only)<;>(omega)
   ·(try dsimp only)<;>(rw [eL62,eL,List.drop_drop]; congr 1)
   (try dsimp only)<;>(exact hs62)
  have c3k:=c3
  try simp only [aD,aE] at c3
  refine .exit (.xcode (.xlp (.xblk (.code (uV rfl rfl (mV rfl rfl ?_))))))
  refine rX rfl aX ?_; intro b67
  refine .p (wZ rfl aX cG (.u rfl) (.u rfl) .here hL.sc (by (try simp only [cC,cY]); omega) ?_)
  intro v69 L69 _ ov69 eL69
  have lL69:L69.length=L.length:=by rw [eL69]
  refine nC rfl rfl (fZ rfl pZ rfl (iM rfl (.u rfl) (.u rfl) .here rQ aC (by first|decide|(simp only [gU,bW,bR,cC]; omega)) (by first|exact aAm|exact aAn) ?_))
  refine .g (We.fin Tryz.results351 .nil (mS .here rfl (mS .here rfl mN)) ?_)
  have ej:(xs++ys).length / 64=j:=by rw [List.length_append]; omega
  exact ⟨v69,by rw [aFX ej (by simp),eL69,eL,dU,ej],rfl⟩
 have c1k:=c1
 try simp only [aD,aE] at c1
 refine .skip (.code (.seq (.block ?_)))
 refine aV (α:=Nat×Sh×List Y×Value) (fun gh=>[(1,true,gh.2.1.val gh.2.2.1.length)]) (fun gh=>[.blk bs (cl (wa 8 (fP (xs++ys) gh.1)++[gh.2.2.2,.int .i64 ((xs.length+ys.length:Nat):Int)]) 463)])
  (fun gh Gl=>(64*gh.1≤xs.length+ys.length)∧(gh.2.2.1=(xs++ys).drop (64*gh.1))∧(SlR Gl 1 aU gh.2.1 gh.2.2.1)) (fun gh=>gh.2.2.1.length) (xs.length / 64,_,_,_) [(0,true,_)] [_]
  (aA rfl (aA rfl eZ))
  (mS .here (aTN (by omega)) (mS .here rfl mN)) ?_ ?_
 ·refine ⟨?_,?_,?_⟩
  ·(try dsimp only)<;>(omega)
  ·(try dsimp only)<;>(exact aTJ (by omega))
  (try dsimp only)<;>(exact hs)
 intro gh N1 Gl1 hN1 hGl1 hF1
 obtain ⟨j,h',L,vq⟩:=gh; dsimp only at hF1 hN1 ⊢
 obtain ⟨hj,eL,hL⟩:=hF1
 have hK:=hK.mono hGl1
 have lL:L.length=xs.length+ys.length-64*j:=by rw [eL]; simp
 refine .g (lE rfl dW rfl (cP rfl rfl rfl rfl (.g (cD rfl (fun c4=>?_) (fun c4=>?_)))))
 ·have c4k:=c4
  try simp only [aD,aE] at c4
  refine .g (ka rfl (.inr rfl) aGc (aB rfl (aB rfl aF)) (bK .here) (aDo _ L h' _ _ _ _ hL hK (by omega)) ?_)
  rintro _ G65 μ65 hG65 ⟨rfl,rfl⟩
  have hL:=hL.mono hG65
  refine .g (kD (64) rfl .no aX hL (.u rfl) (.u rfl) (by omega) (by omega) ?_)
  intro h62 L62 eL62 lL62 hs62
  have lL62:=lL62 rfl
  refine .g (aT (j+1,h62,L62,vq) ?_ ?_ ?_ ?_ ?_)
  ·exact (aA rfl (aA rfl eZ))
  ·exact (mS .here (aJ8 eL (by omega)) (mS .here rfl mN))
  ·first|omega|(dsimp only; omega)
  ·exact (hGl1).trans hG65
  refine ⟨?_,?_,?_⟩
  ·(try dsimp only)<;>(omega)
  ·(try dsimp only)<;>(rw [eL62,eL,List.drop_drop]; congr 1)
  (try dsimp only)<;>(exact hs62)
 have c4k:=c4
 try simp only [aD,aE] at c4
 refine .exit (.xcode (.xlp (.xblk (.code (uV rfl rfl (mV rfl rfl ?_))))))
 refine rX rfl aX ?_; intro b67
 refine .p (wZ rfl aX cG (.u rfl) (.u rfl) .here hL.sc (by (try simp only [cC,cY]); omega) ?_)
 intro v69 L69 _ ov69 eL69
 have lL69:L69.length=L.length:=by rw [eL69]
 refine nC rfl rfl (fZ rfl pZ rfl (iM rfl (.u rfl) (.u rfl) .here rQ aC (by first|decide|(simp only [gU,bW,bR,cC]; omega)) (by first|exact aAm|exact aAn) ?_))
 refine .g (We.fin Tryz.results351 .nil (mS .here rfl (mS .here rfl mN)) ?_)
 have ej:(xs++ys).length / 64=j:=by rw [List.length_append]; omega
 exact ⟨v69,by rw [aFX ej (by simp),eL69,eL,dU,ej],rfl⟩
theorem aDW:dV Tryz.prog 463=some ([.int .u32 0,.int .u32 0,.int .u32 0,.int .u32 0,.int .u32 0,.int .u32 0,.int .u32 0,.int .u32 0,.slice none 0 0,.int .i64 0]):=by kernel_rfl
theorem aWg:cX Tryz.prog 463 [0]=some ([.int .u32 0,.int .u32 0,.int .u32 0,.int .u32 0,.int .u32 0,.int .u32 0,.int .u32 0,.int .u32 0,.slice none 0 0,.int .i64 0],[(0,8)]):=by kernel_rfl
theorem aBO:cI Tryz.prog 463=some 10:=by kernel_rfl
theorem aWG:bY Tryz.prog 463=some (some 10):=by kernel_rfl
theorem aGZ:aJ Tryz.prog 350=true:=by kernel_rfl
theorem aMp:nN Tryz.prog 498=true:=by kernel_rfl
theorem aGa:aJ Tryz.prog 351=true:=by kernel_rfl
theorem jN:dV Tryz.prog 34=some (ba 32 (fun _=>0#8)):=by kernel_rfl
theorem aWF:bY Tryz.prog 461=some (some 8):=by kernel_rfl
theorem aWh:cX Tryz.prog 463 [0,1,2]=some ([.int .u32 0,.int .u32 0,.int .u32 0,.int .u32 0,.int .u32 0,.int .u32 0,.int .u32 0,.int .u32 0,.slice none 0 0,.int .i64 0],[(0,8),(8,1),(9,1)]):=by kernel_rfl
theorem jC:jP Tryz.prog 3 23=some .u64:=by kernel_rfl
theorem wD:jP Tryz.prog 23 5=some .u8:=by kernel_rfl
theorem nX:fN Tryz.prog 34=some (32,5,1):=by kernel_rfl
theorem fF:bY Tryz.prog 34=some (some 32):=by kernel_rfl
theorem iO:cI Tryz.prog 34=some 32:=by kernel_rfl
theorem aDm (G:PM):Ct Tryz.prog 350 ([]:List Value).toArray G [] (fun _ μ' u=>μ'=[]∧u=.agg (gU [] (.slice none 0 0)).toArray):=by
 refine Ct.of Tryz.func350 rfl Tryz.ntmps350 rfl fun w0 hs0=>?_
 refine .seq (aP rfl rfl ?_)
 refine al rfl aDW ?_; intro b0
 refine .g (dK (wa 8 ivW) rfl .no aLy (.cons (.u rfl) rfl (.cons (.u rfl) rfl (.cons (.u rfl) rfl (.cons (.u rfl) rfl (.cons (.u rfl) rfl (.cons (.u rfl) rfl (.cons (.u rfl) rfl (.cons (.u rfl) rfl .nil)))))))) rfl (by rfl) ?_)
 refine dK (gU [] (.slice none 0 0)) rfl .no aWg (.cons (.u rfl) rfl .nil) rfl (by rfl) ?_
 refine sw rfl (.u rfl) (.u rfl) rfl aBO .here (by rfl) (qX (nT _ _) (qV rfl rfl)) ?_
 refine .nil (.code (.ret (aN Tryz.results350 (.cell rfl (fun w hw=>bE aWG (RdN.own .here) ((by rfl)) hw) .nil) ?_)))
 exact ⟨rfl,rfl⟩
theorem aNJ (G:PM):Ct Tryz.prog 394 ([]:List Value).toArray G [] (fun _ μ' u=>∃ b,μ'=[.blk b (cl (gU [] (.slice none 0 0)) 463),rB (.slice none 0 0) 5 (dU [])]∧u=.pointer (some ⟨b,0,none⟩)):=by
 refine Ct.of Tryz.func394 rfl Tryz.ntmps394 rfl fun w0 hs0=>?_
 refine .g (kv rfl .no aGZ aF (fun _=>aDm _) ?_)
 refine al rfl aDW ?_; intro b1
 refine sw rfl (.u rfl) (.u rfl) rfl aBO .here (by rfl) (qX (nT _ _) (qV rfl rfl)) ?_
 refine .nil (.code (.seq (aP rfl rfl (aS rfl rfl (.nil (aCr 5 ?_))))))
 refine .code (.ret (We.fin Tryz.results394 (.tmp rfl .nil) (mS aC rfl (mS .here rfl mN)) ?_))
 exact ⟨_,rfl,rfl⟩
theorem aHF (xs ys:List Y) (h:Sh) (vp:Value) (bs:Nat) (G:PM) (hs:SlR G 1 aU h ys) (hK:RdNP G 6 0 (wa 64 kW)) (hl:xs.length+ys.length≤4611686018427387904):Ct Tryz.prog 395 ([.pointer (some ⟨bs,0,none⟩),h.val ys.length]:List Value).toArray G [.blk bs (cl (gU xs vp) 463),rB vp 5 (dU xs)] (fun _ μ' u=>∃ vp',μ'=[.blk bs (cl (gU (xs++ys) vp') 463),rB vp' 5 (dU (xs++ys))]∧u=.tuple #[]):=by
 refine Ct.of Tryz.func395 rfl Tryz.ntmps395 rfl fun w0 hs0=>?_
 refine .g (pn rfl .no aMp (.u rfl) (.u rfl) ?_)
 refine .g (qG rfl rfl ?_)
 refine .g (ka rfl (.inr rfl) aGa (aB rfl (aB rfl aF)) (eI .here .here) (aE8 _ _ _ _ _ _ hs hK hl) ?_)
 rintro _ G8 μ8 hG8 ⟨vq,rfl,rfl⟩
 refine .g (We.fin Tryz.results395 .nil (mS .here rfl (mS .here rfl mN)) ?_)
 exact ⟨vq,rfl,rfl⟩
theorem aUW {xs:List Y} {vp:Value}:((gU xs vp).drop 0).take 8=wa 8 (fP xs (xs.length / 64)):=by
 rw [List.drop_zero,gU,List.take_append_of_le_length (by rw [bW]; exact Nat.le_refl _),List.take_of_length_le (by rw [bW]; exact Nat.le_refl _)]
theorem aUV {zs:List Value} {xs:List Y} {v:Value} (h:zs.length=10):qI zs [(0,8),(8,1),(9,1)] [wa 8 (fP xs (xs.length / 64)),[v],[.int .i64 (xs.length:Int)]]=gU xs v:=by
 match zs,h with
 | [a,b,c,d,e,f,g,h,i,j],_=>rfl
theorem aQq {n q:Nat} (h:q<8):aEm n q=((BitVec.ofInt 64 (n:Int)*8#64) >>> (56-8*(q:Int)).toNat).setWidth 8:=by
 rw [show (56-8*(q:Int)).toNat=56-8*q by omega]; rfl
theorem aG8 (xs:List Y) (vp:Value) (bs:Nat) (G:PM) (hK:RdNP G 6 0 (wa 64 kW)) (hl:xs.length≤1152921504606846976):Ct Tryz.prog 352 ([.pointer (some ⟨bs,0,none⟩)]:List Value).toArray G [.blk bs (cl (gU xs vp) 463),rB vp 5 (dU xs)] (fun _ μ' u=>μ'=[.blk bs (cl (gU xs vp) 463),rB vp 5 (dU xs)]∧u=.agg (ba 32 (lX xs)).toArray):=by
 refine Ct.of Tryz.func352 rfl Tryz.ntmps352 rfl fun w0 hs0=>?_
 have hr:=yD xs
 have hz:pU xs.length=(119-xs.length%64)%64:=rfl
 refine .seq (aP rfl rfl ?_)
 refine al rfl jN ?_; intro b2
 refine .g (kv rfl .no aGZ aF (fun _=>aDm _) ?_)
 refine al rfl aDW ?_; intro b3
 refine sw rfl (.u rfl) (.u rfl) rfl aBO .here (by rfl) (qX (nT _ _) (qV rfl rfl)) ?_
 refine .g (pn rfl .no aMp (.u rfl) (.u rfl) ?_)
 refine .g (qG rfl rfl ?_)
 refine vV bG ?_; intro sRP bbRP evRP lcRP oaRP; subst evRP
 refine bZ (mc:=⟨false,true⟩) [0,1,2,3,5,6,7,8,10,11,12,13,4,9,14,15] aY (by kernel_rfl) ?_
 refine .p (nC rfl rfl (fZ rfl oA rfl (lA rfl .no aWF (.u rfl) (fun _=>RdN.part (n:=8) (cs':=wa 8 (fP xs (xs.length / 64))) aM (aUW)) (fun _=>(by first|exact qE|exact qL|rfl)) ?_)))
 refine .p (nC rfl rfl (fZ rfl pZ rfl (lO rfl gQ rfl aM (by first|exact aK rfl|rfl) ?_)))
 refine .p (nC rfl rfl (fZ rfl aA8 rfl (lO rfl bA rfl aM (by first|exact aK rfl|rfl) ?_)))
 refine rX rfl aX ?_; intro b16
 refine wZ rfl aX cG (.u rfl) (.u rfl) .here (wV eN oaRP) (by (try simp only [cC,cY]); omega) ?_
 intro v21 L21 _ ov21 eL21
 have lL21:L21.length=(dU xs).length:=by rw [eL21]
 refine dK (gU xs v21) rfl .no aWh (.cons (.u rfl) rfl (.cons (.u rfl) (aBh ov21) (.cons (.u rfl) rfl .nil))) rfl (aUV rfl) ?_
 refine sw rfl (.u rfl) (.u rfl) rfl aBO aC (by rfl) (qX (nT _ _) (qV ov21 rfl)) ?_
 refine .nil (.code (.seq ?_))
 subst eL21
 refine .g (fZ rfl aA8 rfl (lO rfl bA rfl .here (by first|exact aK rfl|rfl) ?_))
 refine ci rfl .no rfl jC (.u rfl) ?_
 refine bw (k:=.u64) (b:=8#64) rfl .no rfl (.u rfl) (.u rfl) rfl (aS rfl rfl (.nc (.seq (bF rfl rfl ?_))))
 refine mkY (1) (72) rfl aX cG (.u rfl) (.u rfl) (by first|rfl|omega) (by first|rfl|omega) (by omega) (by omega) ?_; intro b31
 have lR31:(List.replicate (1) (0#8:Y)).length=1:=List.length_replicate
 refine .g (ia rfl .no aX (.u rfl) (.u rfl) (by omega) (by omega) ?_)
 refine s1r (z:=128#8) rfl (.u rfl) (.u rfl) fM .here (by omega) ?_; intro Ls6_2 eLs6_2 lLs6_2
 refine .nil (.code (.seq (.block ?_)))
 refine aV (α:=Nat×Value×List Y) (fun gh=>[(5,true,gh.2.1)]) (fun gh=>[rB gh.2.1 5 gh.2.2])
  (fun gh Gl=>(gh.1≤pU xs.length)∧(gh.2.2=128#8 :: List.replicate gh.1 0#8)) (fun gh=>pU xs.length-gh.1) (0,_,_) [(2,true,_),(3,true,_),(4,true,_)] [_,_,_,_,_]
  (aA rfl (aA rfl (aA rfl (aA rfl eZ))))
  (mS .here rfl (mS .here rfl (mS .here rfl (mS .here rfl (mS .here rfl (mS .here rfl mN)))))) ?_ ?_
 ·refine ⟨?_,?_⟩
  ·(try dsimp only)<;>(exact Nat.zero_le _)
  (try dsimp only)<;>(rw [eLs6_2]; rfl)
 intro gh N0 Gl0 hN0 hGl0 hF0
 obtain ⟨j,v,L⟩:=gh; dsimp only at hF0 hN0 ⊢
 obtain ⟨hj,eL⟩:=hF0
 have hK:=hK.mono hGl0
 have lL:L.length=j+1:=by rw [eL]; simp
 have hz:pU xs.length=(119-xs.length%64)%64:=rfl
 refine .g (fZ rfl aA8 rfl (lO rfl bA rfl aC (by first|exact aK rfl|rfl) ?_))
 refine .p (lr rfl .no dW (.u rfl) .here ?_)
 refine aW (((xs.length+L.length):Nat):Int) rfl rfl rfl rfl ?_
 refine rmn ((xs.length+L.length)) (64) rfl .no (.u rfl) (.u rfl) (by omega) (by omega) (fun _=>by first|decide|omega) ?_
 refine cP rfl rfl rfl rfl (.g (cD rfl (fun c1=>?_) (fun c1=>?_)))
 ·have c1k:=c1
  try simp only [aD,aE] at c1
  refine .skip (.code (.block (dI rfl rfl (mV rfl rfl ?_))))
  refine Go.Tan.b1 rfl aX cG (.u rfl) rfl rfl (by decide) ?_; intro b42
  refine eY rfl aX cG (.u rfl) (.u rfl) aC (Sc.one (y:=0#8) .here) (by show _+1≤_; omega) ?_
  intro v43 L43 ov43 eL43
  have lL43:L43.length=L.length+1:=by rw [eL43,List.length_append]; first|rfl | simp [cY]
  refine .g (aT (j+1,v43,L43) ?_ ?_ ?_ ?_ ?_)
  ·exact (aA rfl (aA rfl (aA rfl (aA rfl eZ))))
  ·exact (mS .here rfl (mS aC rfl (mS aC rfl (mS aC rfl (mS aC rfl (mS aC rfl mN))))))
  ·(try dsimp only); omega
  ·exact hGl0
  refine ⟨?_,?_⟩
  ·(try dsimp only)<;>(omega)
  (try dsimp only)<;>(rw [eL43,eL,List.cons_append,←List.replicate_succ'])
 have c1k:=c1
 try simp only [aD,aE] at c1
 refine .exit (.xcode (.xlp (.xblk (.code (.seq (.seq (aP rfl rfl (aS rfl rfl (.nc (.block ?_))))))))))
 refine aV (α:=Nat×Value×List Y) (fun gh=>[(5,true,gh.2.1),(6,true,.int .i64 (56-8*(gh.1:Int)))]) (fun gh=>[rB gh.2.1 5 gh.2.2])
  (fun gh Gl=>(gh.1≤8)∧(gh.2.2=(128#8 :: List.replicate (pU xs.length) 0#8)++sM xs.length gh.1)) (fun gh=>8-gh.1) (0,_,_) [(2,true,_),(3,true,_),(4,true,_)] [_,_,_,_,_]
  (aA rfl (aO rfl (aA rfl (aA rfl (aA rfl eZ)))))
  (mS .here rfl (mS .here rfl (mS .here rfl (mS .here rfl (mS .here rfl (mS .here rfl mN)))))) ?_ ?_
 ·refine ⟨?_,?_⟩
  ·(try dsimp only)<;>(first|omega|rfl|assumption|(simp; done))
  (try dsimp only)<;>(rw [eL,show j=pU xs.length by omega]; simp [sM])
 intro gh N1 Gl1 hN1 hGl1 hF1
 obtain ⟨q,v,L⟩:=gh; dsimp only at hF1 hN1 ⊢
 obtain ⟨hq,eL⟩:=hF1
 have hK:=hK.mono hGl1
 have lL:L.length=pU xs.length+1+q:=by rw [eL]; simp [aIw]; omega
 refine .g (cP rfl rfl rfl rfl (.g (cD rfl (fun c2=>?_) (fun c2=>?_))))
 ·have c2k:=c2
  try simp only [aD,aE] at c2
  refine .g (oN (k:=.u64) rfl .no (.u rfl) (.u rfl) (by omega) ?_)
  refine cu (k:=.u64) rfl .no rfl wD (.u rfl) ?_
  refine Go.Tan.b1 rfl aX cG (.u rfl) rfl rfl (by decide) ?_; intro b53
  refine eY rfl aX cG (.u rfl) (.u rfl) aC (Sc.one .here) (by show _+1≤_; omega) ?_
  intro v54 L54 ov54 eL54
  have lL54:L54.length=L.length+1:=by rw [eL54,List.length_append]; first|rfl | simp [cY]
  refine .g (aR rfl rfl rfl rfl ?_)
  refine .g (aT (q+1,v54,L54) ?_ ?_ ?_ ?_ ?_)
  ·exact (aA rfl (aO rfl (aA rfl (aA rfl (aA rfl eZ)))))
  ·exact (mS .here rfl (mS aC rfl (mS aC rfl (mS aC rfl (mS aC rfl (mS aC rfl mN))))))
  ·first|omega|(dsimp only; omega)
  ·exact hGl1
  refine ⟨?_,?_⟩
  ·(try dsimp only)<;>(first|omega|rfl|assumption|(simp; done))
  (try dsimp only)<;>(rw [eL54,eL,aQp,←List.append_assoc,aQq (by omega)]; rfl)
 have c2k:=c2
 try simp only [aD,aE] at c2
 refine .exit (.xcode (.xlp (.xblk (.code (.seq ?_)))))
 have e8:L=aAp xs.length:=by rw [eL,show q=8 by omega]; rfl
 subst e8
 have lt:=aUn xs.length
 have hz:pU xs.length=(119-xs.length%64)%64:=rfl
 refine tF .here (aQS (mS bG rfl (mS bG rfl mN))) ?_; intro GfR31 hR31 hleR31 evR31 hsR31; subst evR31
 have hK:=hK.mono hleR31
 refine .g (ka rfl (.inr rfl) aGa (aB rfl (aB rfl aF)) (eI .here .here) (aE8 xs (aAp xs.length) _ _ _ _ hsR31 hK (by omega)) ?_)
 rintro _ G56 μ56 hG56 ⟨vq,rfl,rfl⟩
 refine .nil (.code (.seq (aP rfl rfl ?_)))
 refine al rfl jN ?_; intro b7
 refine .nil (.code (.seq (.seq (aP rfl rfl (mV rfl rfl (.nc (.block ?_)))))))
 refine aV (α:=Nat×(Nat→Y)) (fun gh=>[(57,true,.int .i64 (gh.1:Int))]) (fun gh=>[.blk b7 (cl (ba 32 gh.2) 34)])
  (fun gh Gl=>(gh.1≤32)∧(gh.2=gT (lX xs) gh.1)) (fun gh=>32-gh.1) (0,fun _=>0#8) [(2,true,_),(3,true,_),(7,true,_)] [_,_,_,_,_]
  (aO rfl (aA rfl (aA rfl (aA rfl eZ))))
  (mS .here rfl (mS .here rfl (mS .here rfl (mS .here rfl (mS .here rfl (mS .here rfl mN)))))) ?_ ?_
 ·refine ⟨?_,?_⟩
  ·(try dsimp only)<;>(first|omega|rfl|assumption|(simp; done))
  (try dsimp only)<;>(first|omega|rfl|assumption|(simp; done))
 intro gh N2 Gl2 hN2 hGl2 hF2
 obtain ⟨i,f⟩:=gh; dsimp only at hF2 hN2 ⊢
 obtain ⟨hi,ef⟩:=hF2
 refine .g (cP rfl rfl rfl rfl (.g (cD rfl (fun c3=>?_) (fun c3=>?_))))
 ·have c3k:=c3
  try simp only [aD,aE] at c3
  refine .g (qun (i) (4) rfl .no (.u rfl) (.u rfl) (by omega) (by omega) (fun _=>by first|decide|omega) (by omega) ?_)
  refine fZ rfl oA rfl (iW rfl nY rfl rfl ?_)
  refine lO rfl dE rfl aC (by first|exact dC ((i / 4)) (by omega) (by omega)|exact gF ((i / 4)) (by omega) (by omega)|exact gV ((i / 4)) (by omega) (by omega)|rfl) ?_
  refine .p (rmn (i) (4) rfl .no (.u rfl) (.u rfl) (by omega) (by omega) (fun _=>by first|decide|omega) ?_)
  refine hJ (((8*(i%4)):Nat):Int) rfl .no (.u rfl) (.u rfl) rfl (by omega) (fun _=>eJ (by omega) (by omega)) ?_
  refine hJ (((24-8*(i%4)):Nat):Int) rfl .no (.u rfl) (.u rfl) rfl (by omega) (fun _=>eJ (by omega) (by omega)) ?_
  refine oN (k:=.u32) rfl .no (.u rfl) (.u rfl) (by omega) ?_
  refine cu (k:=.u32) rfl .no rfl aL2 (.u rfl) ?_
  refine iW rfl nX rfl rfl ?_
  refine s1 rfl (.u rfl) (.u rfl) rfl fM .here (by first|decide|(simp only [bW,bR,cC]; omega)) (by first|exact dR (i) (by omega)|exact lI (i) (by omega)|exact rH (i) (by omega) (by omega)|rfl) ?_
  refine .g (aW (((i+1):Nat):Int) rfl rfl rfl rfl ?_)
  refine .g (aT (i+1,bJ f i (lX xs i)) ?_ ?_ ?_ ?_ ?_)
  ·exact (aO rfl (aA rfl (aA rfl (aA rfl eZ))))
  ·exact (mS .here rfl (mS .here rfl (mS .here rfl (mS .here rfl (mS .here rfl (mS .here rfl mN))))))
  ·first|omega|(dsimp only; omega)
  ·exact hGl2
  refine ⟨?_,?_⟩
  ·(try dsimp only)<;>(first|omega|rfl|assumption|(simp; done))
  (try dsimp only)<;>(rw [ef]; rfl)
 have c3k:=c3
 try simp only [aD,aE] at c3
 refine .g (lB rfl fF rfl .here ?_)
 refine sW rfl rfl rfl rfl iO bG ?_
 refine .nil (.code (.ret (We.fin Tryz.results352 (.cell rfl (fun w hw=>bE fF (RdN.own .here) ((by first|exact qE|exact qL|rfl)) hw) .nil) (mS eN rfl (mS eN rfl mN)) ?_)))
 obtain rfl:i=32:=by omega
 exact ⟨rfl,by rw [ef,jF (fun i hi=>(kQ (lX xs) hi).symm)]; rfl⟩
theorem aC2:bY Tryz.prog 33=some (some 32):=by kernel_rfl
theorem aWE:bY Tryz.prog 404=some (some 12):=by kernel_rfl
theorem aYb:aJ Tryz.prog 380=true:=by kernel_rfl
theorem jZ:bL Tryz.prog 351=some (25,1,24):=by kernel_rfl
theorem aBM:(bL Tryz.prog 351).isSome=true:=by kernel_rfl
theorem aMe:aJ Tryz.prog 352=true:=by kernel_rfl
theorem tJ (xs:List Y) (h:Sh) (n:BitVec 64) (many:Nat) (G:PM) (hs:SlR G 1 aU h xs) (hl:xs.length≤140737488351232) (hm:many≤8):Ct Tryz.prog 207 ([h.val xs.length,uv .u64 n,.int .i64 (many:Int)]:List Value).toArray G [] (PR 5 (fun L=>L=xs++hY n many)):=by
 refine Ct.of Tryz.func207 rfl Tryz.ntmps207 rfl fun w0 hs0=>?_
 refine .seq (aP rfl rfl (aS rfl rfl (.nc (.seq (dI rfl rfl ?_)))))
 refine rX rfl aX ?_; intro b8
 refine .p (wZ rfl aX cG (.u rfl) (.u rfl) .here hs.sc (by (try simp only [cC,cY]); omega) ?_)
 intro v10 L10 _ ov10 eL10
 have lL10:L10.length=xs.length:=by rw [eL10]
 refine .g (xT (many) (8) rfl .no (.u rfl) (.u rfl) (by omega) (by omega) ?_)
 refine mAn (0) ((min many 8)) rfl .no (.u rfl) (.u rfl) (by omega) (by omega) ?_
 refine mV rfl rfl (.nc (.block ?_))
 refine aV (α:=Nat×Value×List Y×BitVec 64) (fun gh=>[(1,true,uv .u64 gh.2.2.2),(7,true,gh.2.1),(14,true,.int .i64 (gh.1:Int))]) (fun gh=>[rB gh.2.1 5 gh.2.2.1])
  (fun gh Gl=>(gh.1≤many)∧(gh.2.2.1=xs++hY n gh.1)∧(gh.2.2.2=n >>> (8*gh.1))) (fun gh=>many-gh.1) (0,_,_,n) [(13,true,_)] []
  (aA rfl (aA rfl (aO rfl (aA rfl eZ))))
  (mS .here rfl mN) ?_ ?_
 ·refine ⟨?_,?_,?_⟩
  ·(try dsimp only)<;>(first|omega|rfl|assumption|(simp; done))
  ·(try dsimp only)<;>(rw [eL10]; simp [hY])
  (try dsimp only)<;>(simp)
 intro gh N0 Gl0 hN0 hGl0 hF0
 obtain ⟨k,v,L,m⟩:=gh; dsimp only at hF0 hN0 ⊢
 obtain ⟨hk,eL,em⟩:=hF0
 have lL:L.length=xs.length+k:=by rw [eL]; simp [oG]
 refine .g (cP rfl rfl rfl rfl (.g (cD rfl (fun c1=>?_) (fun c1=>?_))))
 ·have c1k:=c1
  try simp only [aD,aE] at c1
  refine .g (cu (k:=.u64) rfl .no rfl wD (.u rfl) ?_)
  refine Go.Tan.b1 rfl aX cG (.u rfl) rfl rfl (by decide) ?_; intro b19
  refine eY rfl aX cG (.u rfl) (.u rfl) aC (Sc.one .here) (by show _+1≤_; omega) ?_
  intro v20 L20 ov20 eL20
  have lL20:L20.length=L.length+1:=by rw [eL20,List.length_append]; first|rfl | simp [cY]
  refine .g (oN (k:=.u64) rfl .no (.u rfl) (.u rfl) (fun _=>by decide) ?_)
  refine .g (aW (((k+1):Nat):Int) rfl rfl rfl rfl ?_)
  refine .g (aT (k+1,v20,L20,m >>> 8) ?_ ?_ ?_ ?_ ?_)
  ·exact (aA rfl (aA rfl (aO rfl (aA rfl eZ))))
  ·exact (mS .here rfl mN)
  ·first|omega|(dsimp only; omega)
  ·exact hGl0
  refine ⟨?_,?_,?_⟩
  ·(try dsimp only)<;>(first|omega|rfl|assumption|(simp; done))
  ·(try dsimp only)<;>(rw [eL20,eL,em,aPY,List.append_assoc]; rfl)
  (try dsimp only)<;>(rw [em,←BitVec.shiftRight_add]; rfl)
 have c1k:=c1
 try simp only [aD,aE] at c1
 refine .exit (.xcode (.xlp (.xblk (.code (.seq (bF rfl rfl (mV rfl rfl (aS rfl rfl (.nc (.ret (We.fin Tryz.results207 (.tmp rfl .nil) (mS .here rfl mN) ?_)))))))))))
 obtain rfl:k=many:=by omega
 exact ⟨L,eL,rfl⟩
theorem aLa (key nonce:Nat→Y) (count:W) (h:Sh) (xs:List Y) (G:PM) (hs:SlR G 1 aU h xs) (hl:xs.length≤140737488351232):Ct Tryz.prog 340 ([.agg (ba 32 key).toArray,.agg (ba 12 nonce).toArray,U count,h.val xs.length]:List Value).toArray G [] (PR 5 (fun L=>L=xD key nonce count xs)):=by
 refine Ct.of Tryz.func340 rfl Tryz.ntmps340 rfl fun w0 hs0=>?_
 refine .seq (dQ rfl rfl ?_)
 refine bX rfl rfl rfl ?_; intro b4
 refine bX rfl rfl rfl ?_; intro b5
 refine aS rfl rfl (.nc (.seq (dI rfl rfl ?_)))
 refine rX rfl aX ?_; intro b14
 refine .p (wZ rfl aX cG (.u rfl) (.u rfl) .here hs.sc (by (try simp only [cC,cY]); omega) ?_)
 intro v16 L16 _ ov16 eL16
 have lL16:L16.length=xs.length:=by rw [eL16]
 refine aS rfl rfl (.nc (.seq (.seq ?_)))
 refine vV .here ?_; intro sR16 bbR16 evR16 lcR16 oaR16; subst evR16
 obtain rfl:=eL16.symm
 refine bF rfl rfl (mV rfl rfl (aS rfl rfl (.nc (.block ?_))))
 refine aV (α:=Nat×Sh×List Y) (fun gh=>[(2,true,U (count+BitVec.ofNat 32 gh.1)),(10,true,gh.2.1.val (xs.length-64*gh.1))]) (fun gh=>[rB (sR16.val xs.length) 5 gh.2.2])
  (fun gh Gl=>(gh.2.2.length=xs.length)∧(gh.2.2=lK key nonce count xs (64*gh.1))∧(64*gh.1<xs.length→gh.2.1.oa=some ⟨bbR16,64*gh.1,none⟩)∧(xs.length-64*gh.1≤gh.2.1.cap)) (fun gh=>xs.length-64*gh.1) (0,sR16,xs) [(4,true,_),(5,true,_),(9,true,_)] [_,_]
  (dY rfl (by simp) (aA rfl (aA rfl (aA rfl (aA rfl eZ)))))
  (mS .here rfl (mS .here rfl (mS .here rfl mN))) ?_ ?_
 ·refine ⟨?_,?_,?_,?_⟩
  ·(try dsimp only)<;>(rfl)
  ·(try dsimp only)<;>(exact (aOW _ _ _ _).symm)
  ·(try dsimp only)<;>(exact oaR16)
  (try dsimp only)<;>(exact lcR16)
 intro gh N0 Gl0 hN0 hGl0 hF0
 obtain ⟨j,r,L⟩:=gh; dsimp only at hF0 hN0 ⊢
 obtain ⟨lL,eL,hr,hrc⟩:=hF0
 refine .g (lE rfl dW rfl (cP rfl rfl rfl rfl (.g (cD rfl (fun c1=>?_) (fun c1=>?_)))))
 ·have c1k:=c1
  try simp only [aD,aE] at c1
  refine .skip (.code (.seq (.block (.seq ?_))))
  have hlt:64*j<xs.length:=by omega
  have e1:=oaR16 (by omega)
  have e2:=hr hlt
  obtain ⟨so,sc⟩:=sR16
  obtain ⟨ro,rc⟩:=r
  simp only at e1 e2
  subst e1; subst e2
  refine .g (lB rfl aC2 rfl aM ?_)
  refine lB rfl aWE rfl aC ?_
  refine .p (kV rfl aYb (aB rfl (aB rfl (aB rfl aF))) (aLZ _ _ _ _) ?_)
  refine al rfl wS ?_; intro b11
  refine sw rfl (.u rfl) (.u rfl) rfl kB .here (by first|exact qE|exact qL|rfl) (kF _ _) ?_
  refine .g (lE rfl dW rfl (xT ((xs.length-64*j)) (64) rfl .no (.u rfl) (.u rfl) (by omega) (by omega) ?_))
  refine aS rfl rfl (.nc (.seq (.seq (bF rfl rfl (mV rfl rfl (mV rfl rfl (.nc (.block ?_))))))))
  refine aV (α:=Nat×List Y) (fun gh=>[(31,true,.int .i64 (gh.1:Int))]) (fun gh=>[rB (Sh.val ⟨some ⟨bbR16,0,none⟩,sc⟩ xs.length) 5 gh.2])
   (fun gh Gl=>(gh.1≤min (xs.length-64*j) 64)∧(gh.2=lK key nonce count xs (64*j+gh.1))) (fun gh=>64-gh.1) (0,L) [(2,true,_),(4,true,_),(5,true,_),(9,true,_),(10,true,_),(11,true,_),(12,true,_),(30,true,_)] [_,_,_]
   (aO rfl (aA rfl (aA rfl (aA rfl (aA rfl (aA rfl (aA rfl (aA rfl (aA rfl eZ)))))))))
   (mS aC rfl (mS .here rfl (mS .here rfl (mS .here rfl mN)))) ?_ ?_
  ·refine ⟨?_,?_⟩
   ·(try dsimp only)<;>(exact Nat.zero_le _)
   (try dsimp only)<;>(rw [eL]; rfl)
  intro gh N1 Gl1 hN1 hGl1 hF1
  obtain ⟨i,L2⟩:=gh; dsimp only at hF1 hN1 ⊢
  obtain ⟨hi,eL2⟩:=hF1
  have lL2:L2.length=xs.length:=by rw [eL2,aHh]
  refine .g (cP rfl rfl rfl rfl (.g (cD rfl (fun c2=>?_) (fun c2=>?_))))
  ·have c2k:=c2
   try simp only [aD,aE] at c2
   refine .g (bZ (mc:=⟨false,false⟩) [0,1,2,3,4,5,6,7,8,9] aY (by kernel_rfl) ?_)
   refine mV rfl rfl (mV rfl rfl (ih rfl .no aX (.u rfl) (.u rfl) (by omega) (by omega) (fun _=>rfl) ?_))
   refine lN rfl cZ rfl (Rd.row .here (aRE (o:=64*j) (64*j+i) (by omega) (by omega))) ?_
   refine .p (iW rfl jY rfl rfl ?_)
   refine lO rfl cZ rfl aC (by first|exact dC (i) (by omega) (by omega)|exact gF (i) (by omega) (by omega)|exact gV (i) (by omega) (by omega)|rfl) ?_
   refine bw (k:=.u8) rfl .no rfl (.u rfl) (.u rfl) rfl (ih rfl .no aX (.u rfl) (.u rfl) (by omega) (by omega) (fun _=>rfl) ?_)
   refine s1r rfl (.u rfl) (.u rfl) fM .here (by show 64*j+_*1<_; omega) ?_; intro L9 eL9 lL9
   refine .g (aW (((i+1):Nat):Int) rfl rfl rfl rfl ?_)
   refine .g (aT (i+1,L9) ?_ ?_ ?_ ?_ ?_)
   ·exact (aO rfl (aA rfl (aA rfl (aA rfl (aA rfl (aA rfl (aA rfl (aA rfl (aA rfl eZ)))))))))
   ·exact (mS .here rfl (mS .here rfl (mS .here rfl (mS .here rfl mN))))
   ·first|omega|(dsimp only; omega)
   ·exact hGl1
   refine ⟨?_,?_⟩
   ·(try dsimp only)<;>(omega)
   (try dsimp only)<;>(rw [eL9,eL2,show (Sh.o ⟨some ⟨bbR16,64*j,none⟩,rc⟩+(i:Int).toNat*1)=64*j+i from (by show 64*j+_*1=_; omega)]; exact aOV (xs:=xs) (j:=j) (i:=i) (by omega) (by omega))
  have c2k:=c2
  try simp only [aD,aE] at c2
  refine .g (sd rfl .no aX (.u rfl) (.u rfl) (by omega) (by omega) ?_)
  refine .g (bw (k:=.u32) (b:=1#32) rfl .no rfl (.u rfl) (.u rfl) rfl (.g (aT (j+1,Sh.cut ⟨some ⟨bbR16,64*j,none⟩,rc⟩ (min (xs.length-64*j) 64) 1,L2) ?_ ?_ ?_ ?_ ?_)))
  ·exact (dY rfl (by show U (count+BitVec.ofNat 32 j+1#32)=U (count+BitVec.ofNat 32 (j+1)); rw [BitVec.add_assoc,←BitVec.ofNat_add]) (dY rfl (congrArg (Sh.val _) (by omega)) (aA rfl (aA rfl (aA rfl eZ)))))
  ·exact (mS .here (by rfl) (mS aC rfl (mS aC rfl mN)))
  ·first|omega|(dsimp only; omega)
  ·exact (hGl0).trans hGl1
  refine ⟨?_,?_,?_,?_⟩
  ·(try dsimp only)<;>(rw [eL2,aHh])
  ·(try dsimp only)<;>(rw [eL2]; exact aOX (by omega))
  ·(try dsimp only)<;>(intro h3; have hrc2:xs.length-64*j≤rc:=hrc; exact aOe (by omega) (by omega))
  (try dsimp only)<;>(show _≤rc-_; have hrc2:xs.length-64*j≤rc:=hrc; omega)
 have c1k:=c1
 try simp only [aD,aE] at c1
 refine .exit (.xcode (.xlp (.xblk (.code (.seq (bF rfl rfl (mV rfl rfl (aS rfl rfl (.nc (.ret (We.fin Tryz.results340 (.tmp rfl .nil) (mS .here rfl mN) ?_)))))))))))
 exact ⟨L,by rw [eL,aOU (by omega)],rfl⟩
theorem aAk (ps:List (Sh×List Y)) (h:Sh) (G:PM) (hs:SlP G h ps) (hK:RdNP G 6 0 (wa 64 kW)) (hl:(cO ps).length≤1152921504606846976) (hn:ps.length≤1000):Ct Tryz.prog 311 ([h.val ps.length]:List Value).toArray G [] (fun _ μ' u=>μ'=[]∧u=.agg (ba 32 (lX (cO ps))).toArray):=by
 refine Ct.of Tryz.func311 rfl Tryz.ntmps311 rfl fun w0 hs0=>?_
 refine .seq (aP rfl rfl ?_)
 refine al rfl jN ?_; intro b2
 refine .g (kv rfl .no aGZ aF (fun _=>aDm _) ?_)
 refine al rfl aDW ?_; intro b3
 refine sw rfl (.u rfl) (.u rfl) rfl aBO .here (by rfl) (qX (nT _ _) (qV rfl rfl)) ?_
 refine .nil (aCr 5 ?_)
 refine .g (lE rfl aBM rfl (mV rfl rfl (.nc (.block ?_))))
 refine aV (α:=Nat×Value) (fun gh=>[(9,true,.int .i64 (gh.1:Int))]) (fun gh=>[rB gh.2 5 (dU (cO (ps.take gh.1))),.blk b3 (cl (gU (cO (ps.take gh.1)) gh.2) 463)])
  (fun gh Gl=>(gh.1≤ps.length)) (fun gh=>ps.length-gh.1) (0,.slice none 0 0) [(2,true,_),(3,true,_),(7,true,_),(8,true,_)] [_]
  (aO rfl (aA rfl (aA rfl (aA rfl (aA rfl eZ)))))
  (mS .here (by simp [dU,cO]) (mS .here rfl (mS .here rfl mN))) ?_ ?_
 ·(try dsimp only)<;>(first|omega|rfl|assumption|(simp; done))
 intro gh N0 Gl0 hN0 hGl0 hF0
 obtain ⟨k,vq⟩:=gh; dsimp only at hF0 hN0 ⊢
 have hk:=hF0
 have hs:=hs.mono hGl0
 have hK:=hK.mono hGl0
 refine .g (cP rfl rfl rfl rfl (.g (cD rfl (fun c1=>?_) (fun c1=>?_))))
 ·have c1k:=c1
  try simp only [aD,aE] at c1
  refine .skip (.code (.seq (.block (.seq (dQ rfl rfl (ih rfl .no jZ (.u rfl) (.u rfl) (by omega) (by omega) (fun _=>hs.sl.nn (k:=k) (by omega)) ?_))))))
  obtain ⟨p12,ep12⟩:=dT (k:=k) (xs:=ps) (by omega)
  have hq12:=hs.get ep12
  refine lN rfl gQ rfl ((hs.at (k) (by omega) ep12).rd) ?_
  refine .g (ka rfl (.inr rfl) aGa (aB rfl (aB rfl aF)) (eI aC .here) (aE8 (cO (ps.take k)) p12.2 _ _ _ _ hq12 hK (by have:=aDv ep12; omega)) ?_)
  rintro _ G14 μ14 hG14 ⟨vq',rfl,rfl⟩
  have hK:=hK.mono hG14
  refine .g (aW (((k+1):Nat):Int) rfl rfl rfl rfl ?_)
  refine .g (aT (k+1,vq') ?_ ?_ ?_ ?_ ?_)
  ·exact (aO rfl (aA rfl (aA rfl (aA rfl (aA rfl eZ)))))
  ·exact (mS aC (by rw [xC ep12]) (mS .here (by rw [xC ep12]) (mS .here rfl mN)))
  ·first|omega|(dsimp only; omega)
  ·exact (hGl0).trans hG14
  (try dsimp only)<;>(first|omega|rfl|assumption|(simp; done))
 have c1k:=c1
 try simp only [aD,aE] at c1
 refine .exit (.xcode (.xlp (.xblk (.code (.seq ?_)))))
 obtain rfl:k=ps.length:=by omega
 rw [List.take_length]
 refine .g (ka rfl (.inr rfl) aMe (aB rfl aF) (eI aC .here) (aG8 (cO ps) _ _ _ hK hl) ?_)
 rintro _ G16 μ16 hG16 ⟨rfl,rfl⟩
 refine sW rfl rfl rfl rfl iO aM ?_
 refine .nil (.code (.ret (aN Tryz.results311 (.cell rfl (fun w hw=>bE fF (RdN.own .here) ((by first|exact qE|exact qL|rfl)) hw) .nil) ?_)))
 exact ⟨rfl,rfl⟩
theorem oE:(Tryz.prog.info? 25).bind (·.zero)=some (.slice none 0 0):=by kernel_rfl
theorem aBE:aJ Tryz.prog 311=true:=by kernel_rfl
theorem SlP.one {G:PM} {b T:Nat} {h1:Sh} {L1:List Y} (hle:PM.le G (G.add b (cl [h1.val L1.length] T))) (hs:SlR G 1 aU h1 L1):SlP (G.add b (cl [h1.val L1.length] T)) ⟨some ⟨b,0,none⟩,1⟩ [(h1,L1)] :=
 ⟨gX (T:=T) (cH _ _ _) (fun _ _=>rfl) (by simp),fun p hp=>by rw [List.mem_singleton.1 hp]; exact hs.mono hle⟩
theorem aNR {G:PM} {b T:Nat} {h1 h2:Sh} {L1 L2:List Y} (hle:PM.le G (G.add b (cl [h1.val L1.length,h2.val L2.length] T))) (hs:SlR G 1 aU h1 L1) (hs2:SlR G 1 aU h2 L2):SlP (G.add b (cl [h1.val L1.length,h2.val L2.length] T)) ⟨some ⟨b,0,none⟩,2⟩ [(h1,L1),(h2,L2)] :=
 ⟨gX (T:=T) (cH _ _ _) (fun _ _=>rfl) (by simp),fun p hp=>by
  rcases List.mem_cons.1 hp with rfl | hp
  ·exact hs.mono hle
  ·rw [List.mem_singleton.1 hp]; exact hs2.mono hle⟩
theorem SlP.four {G:PM} {b T:Nat} {h1 h2 h3 h4:Sh} {L1 L2 L3 L4:List Y} (hle:PM.le G (G.add b (cl [h1.val L1.length,h2.val L2.length,h3.val L3.length,h4.val L4.length] T))) (hs:SlR G 1 aU h1 L1) (hs2:SlR G 1 aU h2 L2) (hs3:SlR G 1 aU h3 L3) (hs4:SlR G 1 aU h4 L4) :
  SlP (G.add b (cl [h1.val L1.length,h2.val L2.length,h3.val L3.length,h4.val L4.length] T)) ⟨some ⟨b,0,none⟩,4⟩ [(h1,L1),(h2,L2),(h3,L3),(h4,L4)] :=
 ⟨gX (T:=T) (cH _ _ _) (fun _ _=>rfl) (by simp),fun p hp=>by
  simp only [List.mem_cons,List.not_mem_nil,or_false] at hp
  rcases hp with rfl|rfl|rfl|rfl
  ·exact hs.mono hle
  ·exact hs2.mono hle
  ·exact hs3.mono hle
  ·exact hs4.mono hle⟩
theorem aUg {G:PM} {b T:Nat} {h1:Sh} {L1:List Y} (hle:PM.le G (G.add b (cl [h1.val L1.length] T))) (hs:SlR G 1 aU h1 L1) (hK:RdNP G 6 0 (wa 64 kW)) (hl:L1.length≤1152921504606846976):Ct Tryz.prog 311 ([.slice (some ⟨b,0,none⟩) 1 1]:List Value).toArray (G.add b (cl [h1.val L1.length] T)) [] (fun _ μ' u=>μ'=[]∧u=.agg (ba 32 (lX L1)).toArray):=by
 have h:=aAk [(h1,L1)] ⟨some ⟨b,0,none⟩,1⟩ _ (SlP.one hle hs) (hK.mono hle) (by simpa [cO] using hl) (by simp)
 rw [show cO [(h1,L1)]=L1 by simp [cO]] at h
 exact h
theorem aUh {G:PM} {b T:Nat} {h1 h2:Sh} {L1 L2:List Y} (hle:PM.le G (G.add b (cl [h1.val L1.length,h2.val L2.length] T))) (hs:SlR G 1 aU h1 L1) (hs2:SlR G 1 aU h2 L2) (hK:RdNP G 6 0 (wa 64 kW)) (hl:L1.length+L2.length≤1152921504606846976):Ct Tryz.prog 311 ([.slice (some ⟨b,0,none⟩) 2 2]:List Value).toArray (G.add b (cl [h1.val L1.length,h2.val L2.length] T)) [] (fun _ μ' u=>μ'=[]∧u=.agg (ba 32 (lX (L1++L2))).toArray):=by
 have h:=aAk [(h1,L1),(h2,L2)] ⟨some ⟨b,0,none⟩,2⟩ _ (aNR hle hs hs2) (hK.mono hle) (by simpa [cO] using hl) (by simp)
 rw [show cO [(h1,L1),(h2,L2)]=L1++L2 by simp [cO]] at h
 exact h
theorem aCT {f g:Nat→Y} {k:Nat} {a b:Y} (ef:f=gT g k) (h:b=g k):bJ (bJ f k a) k b=gT g (k+1):=by
 rw [aFi,ef,h]; rfl
theorem aAc {f g:Nat→Y} {k:Nat} {a:Y} (ef:f=gT g k) (h:a=g k):bJ f k a=gT g (k+1):=by
 rw [ef,h]; rfl
theorem aSu (key:List Y) (h:Sh) (G:PM) (hs:SlR G 1 aU h key) (hK:RdNP G 6 0 (wa 64 kW)) (hl:key.length≤140737488351232):Ct Tryz.prog 393 ([h.val key.length]:List Value).toArray G [] (fun _ μ' u=>μ'=[]∧u=.tuple #[.agg (ba 64 (eU key 54#8)).toArray,.agg (ba 64 (eU key 92#8)).toArray]):=by
 refine Ct.of Tryz.func393 rfl Tryz.ntmps393 rfl fun w0 hs0=>?_
 refine .seq (bF rfl rfl ?_)
 refine al rfl wS ?_; intro b2
 refine al rfl wS ?_; intro b3
 refine .g (lE rfl dW rfl (cP rfl rfl rfl rfl (.g (cD rfl (fun c1=>?_) (fun c1=>?_)))))
 ·have c1k:=c1
  try simp only [aD,aE] at c1
  have ek1:uK key=aFT key:=by unfold uK; rw [if_pos (by omega)]
  refine .seq (mR rfl rfl (mV rfl rfl ?_))
  refine Go.Tan.b1 rfl jZ oE (.u rfl) rfl rfl (by decide) ?_; intro b10
  refine kp rfl .no aBE (aB rfl aF) (Gp.add .here Gp.nil) (fun _ hle hq=>aUg hle hs hK (by omega)) ?_
  refine al rfl jN ?_; intro b4
  refine sW rfl rfl rfl rfl iO .here ?_
  refine .nil (.code ?_)
  refine fE .here (by intro b hb; cases hb) ?_; intro Gfb4 hleb4 hbb4
  have hs:=hs.mono hleb4
  refine bF rfl rfl ?_
  refine kA rfl .no nX (.u rfl) hbb4 (by first|exact qJ|exact pE|exact qH) ?_; intro h12 L12 eL12 lL12 hs12
  refine aS rfl rfl (.nil ?_)
  have ek1:uK key=L12:=by rw [ek1,eL12]; rfl
  refine .code (.seq (.seq ?_))
  skip
  refine aP rfl rfl (mV rfl rfl (.nc (.block ?_)))
  refine aV (α:=Nat×(Nat→Y)×(Nat→Y)) (fun gh=>[(13,true,.int .i64 (gh.1:Int))]) (fun gh=>[.blk b3 (cl (ba 64 gh.2.2) 470),.blk b2 (cl (ba 64 gh.2.1) 470)])
   (fun gh Gl=>(gh.1≤64)∧(gh.2.1=gT (eU key 54#8) gh.1)∧(gh.2.2=gT (eU key 92#8) gh.1)) (fun gh=>64-gh.1) (0,fun _=>0#8,fun _=>0#8) [(0,true,_),(2,true,_),(3,true,_)] [_]
   (aO rfl (aA rfl (aA rfl (aA rfl eZ))))
   (mS aC rfl (mS aC rfl (mS .here rfl mN))) ?_ ?_
  ·refine ⟨?_,?_,?_⟩
   ·(try dsimp only)<;>(first|omega|rfl|assumption|(simp; done))
   ·(try dsimp only)<;>(first|omega|rfl|assumption|(simp; done))
   (try dsimp only)<;>(first|omega|rfl|assumption|(simp; done))
  intro gh N0 Gl0 hN0 hGl0 hF0
  obtain ⟨k,f,f2⟩:=gh; dsimp only at hF0 hN0 ⊢
  obtain ⟨hk,ef,ef2⟩:=hF0
  have hs:=hs.mono hGl0
  have hs12:=hs12.mono hGl0
  refine .g (cP rfl rfl rfl rfl (.g (cD rfl (fun c2=>?_) (fun c2=>?_))))
  ·have c2k:=c2
   try simp only [aD,aE] at c2
   refine .g (iW rfl jY rfl rfl ?_)
   refine s1 rfl (.u rfl) (.u rfl) rfl fM aC (by first|decide|(simp only [bW,bR,cC]; omega)) (by first|exact lI (z:=54#8) (k) (by omega)|exact dR (z:=54#32) (k) (by omega)|rfl) ?_
   refine iW rfl jY rfl rfl ?_
   refine s1 rfl (.u rfl) (.u rfl) rfl fM aC (by first|decide|(simp only [bW,bR,cC]; omega)) (by first|exact lI (z:=92#8) (k) (by omega)|exact dR (z:=92#32) (k) (by omega)|rfl) ?_
   refine .g (lE rfl dW rfl (cP rfl rfl rfl rfl (.g (cD rfl (fun c3=>?_) (fun c3=>?_)))))
   ·have c3k:=c3
    try simp only [aD,aE] at c3
    refine .seq (bZ (mc:=⟨false,false⟩) [0,1,2,3,4,5,6,7,8,9] aY (by kernel_rfl) ?_)
    refine .p (iW rfl jY rfl rfl ?_)
    refine lO rfl cZ rfl aC (by first|exact dC (k) (by omega) (by omega)|exact gF (k) (by omega) (by omega)|exact gV (k) (by omega) (by omega)|rfl) ?_
    refine mV rfl rfl (mV rfl rfl (ih rfl .no aX (.u rfl) (.u rfl) (by omega) (by omega) (fun _=>hs12.nn (k:=k) (by omega)) ?_))
    refine lN rfl cZ rfl ((hs12.yat (k) (by omega) (by omega)).rd) ?_
    refine bw (k:=.u8) rfl .no rfl (.u rfl) (.u rfl) rfl (iW rfl jY rfl rfl ?_)
    refine s1 rfl (.u rfl) (.u rfl) rfl fM aC (by first|decide|(simp only [bW,bR,cC]; omega)) (by first|exact dR (k) (by omega)|exact lI (k) (by omega)|exact rH (k) (by omega) (by omega)|rfl) ?_
    refine .g (bZ (mc:=⟨false,false⟩) [0,1,2,3,4,5,6,7,8,9] aY (by kernel_rfl) ?_)
    refine .p (iW rfl jY rfl rfl ?_)
    refine lO rfl cZ rfl aC (by first|exact dC (k) (by omega) (by omega)|exact gF (k) (by omega) (by omega)|exact gV (k) (by omega) (by omega)|rfl) ?_
    refine mV rfl rfl (mV rfl rfl (ih rfl .no aX (.u rfl) (.u rfl) (by omega) (by omega) (fun _=>hs12.nn (k:=k) (by omega)) ?_))
    refine lN rfl cZ rfl ((hs12.yat (k) (by omega) (by omega)).rd) ?_
    refine bw (k:=.u8) rfl .no rfl (.u rfl) (.u rfl) rfl (iW rfl jY rfl rfl ?_)
    refine s1 rfl (.u rfl) (.u rfl) rfl fM aC (by first|decide|(simp only [bW,bR,cC]; omega)) (by first|exact dR (k) (by omega)|exact lI (k) (by omega)|exact rH (k) (by omega) (by omega)|rfl) ?_
    refine .g (aW (((k+1):Nat):Int) rfl rfl rfl rfl ?_)
    refine .g (aT (k+1,bJ (bJ f k 54#8) k (bJ f k 54#8 k ^^^ L12.getD k 0),bJ (bJ f2 k 92#8) k (bJ f2 k 92#8 k ^^^ L12.getD k 0)) ?_ ?_ ?_ ?_ ?_)
    ·exact (aO rfl (aA rfl (aA rfl (aA rfl eZ))))
    ·exact (mS .here rfl (mS .here rfl (mS .here rfl mN)))
    ·first|omega|(dsimp only; omega)
    ·exact hGl0
    refine ⟨?_,?_,?_⟩
    ·(try dsimp only)<;>(first|omega|rfl|assumption|(simp; done))
    ·(try dsimp only)<;>(exact aCT ef (by rw [yR,eU,ek1,if_pos (by omega)]))
    (try dsimp only)<;>(exact aCT ef2 (by rw [yR,eU,ek1,if_pos (by omega)]))
   have c3k:=c3
   try simp only [aD,aE] at c3
   refine .g (aW (((k+1):Nat):Int) rfl rfl rfl rfl ?_)
   refine .g (aT (k+1,bJ f k 54#8,bJ f2 k 92#8) ?_ ?_ ?_ ?_ ?_)
   ·exact (aO rfl (aA rfl (aA rfl (aA rfl eZ))))
   ·exact (mS .here rfl (mS .here rfl (mS .here rfl mN)))
   ·first|omega|(dsimp only; omega)
   ·exact hGl0
   refine ⟨?_,?_,?_⟩
   ·(try dsimp only)<;>(first|omega|rfl|assumption|(simp; done))
   ·(try dsimp only)<;>(exact aAc ef (by rw [eU,ek1,if_neg (by omega)]))
   (try dsimp only)<;>(exact aAc ef2 (by rw [eU,ek1,if_neg (by omega)]))
  have c2k:=c2
  try simp only [aD,aE] at c2
  refine .exit (.xcode (.xlp (.xblk (.code (.seq (aHE aY rfl ?_))))))
  refine WoT.n2 0 1 (by kernel_rfl) ?_ ?_
  ·refine lB rfl fV rfl aC ?_
   refine .nil (WoT.n2 1 2 (by kernel_rfl) ?_ ?_)
   ·refine lB rfl fV rfl .here ?_
    refine .nil (WoT.n1 2 (by kernel_rfl) ?_)
    refine sW rfl rfl rfl rfl kB aC ?_
    refine .nil (WoT.n1 3 (by kernel_rfl) ?_)
    refine sW rfl rfl rfl rfl kB aC ?_
    refine .nil (WoT.last (by kernel_rfl) ?_)
    refine .code (.ret (aN Tryz.results393 (.cell rfl (fun w hw=>bE fV (RdN.own aC) ((by first|exact qE|exact qL|rfl)) hw) (.cell rfl (fun w hw=>bE fV (RdN.own .here) ((by first|exact qE|exact qL|rfl)) hw) .nil)) ?_))
    obtain rfl:k=64:=by omega
    exact ⟨rfl,by rw [ef,ef2,jF (fun i hi=>kQ (eU key 54#8) hi),jF (fun i hi=>kQ (eU key 92#8) hi)]; rfl⟩
   refine sW rfl rfl rfl rfl kB aC ?_
   refine .nil (WoT.n1 1 (by kernel_rfl) ?_)
   refine lB rfl fV rfl aC ?_
   refine .nil (WoT.n1 3 (by kernel_rfl) ?_)
   refine sW rfl rfl rfl rfl kB aC ?_
   refine .nil (WoT.last (by kernel_rfl) ?_)
   refine .code (.ret (aN Tryz.results393 (.cell rfl (fun w hw=>bE fV (RdN.own aC) ((by first|exact qE|exact qL|rfl)) hw) (.cell rfl (fun w hw=>bE fV (RdN.own .here) ((by first|exact qE|exact qL|rfl)) hw) .nil)) ?_))
   obtain rfl:k=64:=by omega
   exact ⟨rfl,by rw [ef,ef2,jF (fun i hi=>kQ (eU key 54#8) hi),jF (fun i hi=>kQ (eU key 92#8) hi)]; rfl⟩
  refine lB rfl fV rfl .here ?_
  refine .nil (WoT.n1 0 (by kernel_rfl) ?_)
  refine lB rfl fV rfl aC ?_
  refine .nil (WoT.n1 2 (by kernel_rfl) ?_)
  refine sW rfl rfl rfl rfl kB aC ?_
  refine .nil (WoT.n1 3 (by kernel_rfl) ?_)
  refine sW rfl rfl rfl rfl kB aC ?_
  refine .nil (WoT.last (by kernel_rfl) ?_)
  refine .code (.ret (aN Tryz.results393 (.cell rfl (fun w hw=>bE fV (RdN.own aC) ((by first|exact qE|exact qL|rfl)) hw) (.cell rfl (fun w hw=>bE fV (RdN.own .here) ((by first|exact qE|exact qL|rfl)) hw) .nil)) ?_))
  obtain rfl:k=64:=by omega
  exact ⟨rfl,by rw [ef,ef2,jF (fun i hi=>kQ (eU key 54#8) hi),jF (fun i hi=>kQ (eU key 92#8) hi)]; rfl⟩
 have c1k:=c1
 try simp only [aD,aE] at c1
 have ek2:uK key=key:=by unfold uK; rw [if_neg (by omega)]
 refine .skip (.code (.seq (.seq ?_)))
 skip
 refine aP rfl rfl (mV rfl rfl (.nc (.block ?_)))
 refine aV (α:=Nat×(Nat→Y)×(Nat→Y)) (fun gh=>[(13,true,.int .i64 (gh.1:Int))]) (fun gh=>[.blk b3 (cl (ba 64 gh.2.2) 470),.blk b2 (cl (ba 64 gh.2.1) 470)])
  (fun gh Gl=>(gh.1≤64)∧(gh.2.1=gT (eU key 54#8) gh.1)∧(gh.2.2=gT (eU key 92#8) gh.1)) (fun gh=>64-gh.1) (0,fun _=>0#8,fun _=>0#8) [(0,true,_),(2,true,_),(3,true,_)] []
  (aO rfl (aA rfl (aA rfl (aA rfl eZ))))
  (mS .here rfl (mS .here rfl mN)) ?_ ?_
 ·refine ⟨?_,?_,?_⟩
  ·(try dsimp only)<;>(first|omega|rfl|assumption|(simp; done))
  ·(try dsimp only)<;>(first|omega|rfl|assumption|(simp; done))
  (try dsimp only)<;>(first|omega|rfl|assumption|(simp; done))
 intro gh N1 Gl1 hN1 hGl1 hF1
 obtain ⟨k,f,f2⟩:=gh; dsimp only at hF1 hN1 ⊢
 obtain ⟨hk,ef,ef2⟩:=hF1
 have hs:=hs.mono hGl1
 refine .g (cP rfl rfl rfl rfl (.g (cD rfl (fun c4=>?_) (fun c4=>?_))))
 ·have c4k:=c4
  try simp only [aD,aE] at c4
  refine .g (iW rfl jY rfl rfl ?_)
  refine s1 rfl (.u rfl) (.u rfl) rfl fM aC (by first|decide|(simp only [bW,bR,cC]; omega)) (by first|exact lI (z:=54#8) (k) (by omega)|exact dR (z:=54#32) (k) (by omega)|rfl) ?_
  refine iW rfl jY rfl rfl ?_
  refine s1 rfl (.u rfl) (.u rfl) rfl fM aC (by first|decide|(simp only [bW,bR,cC]; omega)) (by first|exact lI (z:=92#8) (k) (by omega)|exact dR (z:=92#32) (k) (by omega)|rfl) ?_
  refine .g (lE rfl dW rfl (cP rfl rfl rfl rfl (.g (cD rfl (fun c5=>?_) (fun c5=>?_)))))
  ·have c5k:=c5
   try simp only [aD,aE] at c5
   refine .seq (bZ (mc:=⟨false,false⟩) [0,1,2,3,4,5,6,7,8,9] aY (by kernel_rfl) ?_)
   refine .p (iW rfl jY rfl rfl ?_)
   refine lO rfl cZ rfl aC (by first|exact dC (k) (by omega) (by omega)|exact gF (k) (by omega) (by omega)|exact gV (k) (by omega) (by omega)|rfl) ?_
   refine mV rfl rfl (mV rfl rfl (ih rfl .no aX (.u rfl) (.u rfl) (by omega) (by omega) (fun _=>hs.nn (k:=k) (by omega)) ?_))
   refine lN rfl cZ rfl ((hs.yat (k) (by omega) (by omega)).rd) ?_
   refine bw (k:=.u8) rfl .no rfl (.u rfl) (.u rfl) rfl (iW rfl jY rfl rfl ?_)
   refine s1 rfl (.u rfl) (.u rfl) rfl fM aC (by first|decide|(simp only [bW,bR,cC]; omega)) (by first|exact dR (k) (by omega)|exact lI (k) (by omega)|exact rH (k) (by omega) (by omega)|rfl) ?_
   refine .g (bZ (mc:=⟨false,false⟩) [0,1,2,3,4,5,6,7,8,9] aY (by kernel_rfl) ?_)
   refine .p (iW rfl jY rfl rfl ?_)
   refine lO rfl cZ rfl aC (by first|exact dC (k) (by omega) (by omega)|exact gF (k) (by omega) (by omega)|exact gV (k) (by omega) (by omega)|rfl) ?_
   refine mV rfl rfl (mV rfl rfl (ih rfl .no aX (.u rfl) (.u rfl) (by omega) (by omega) (fun _=>hs.nn (k:=k) (by omega)) ?_))
   refine lN rfl cZ rfl ((hs.yat (k) (by omega) (by omega)).rd) ?_
   refine bw (k:=.u8) rfl .no rfl (.u rfl) (.u rfl) rfl (iW rfl jY rfl rfl ?_)
   refine s1 rfl (.u rfl) (.u rfl) rfl fM aC (by first|decide|(simp only [bW,bR,cC]; omega)) (by first|exact dR (k) (by omega)|exact lI (k) (by omega)|exact rH (k) (by omega) (by omega)|rfl) ?_
   refine .g (aW (((k+1):Nat):Int) rfl rfl rfl rfl ?_)
   refine .g (aT (k+1,bJ (bJ f k 54#8) k (bJ f k 54#8 k ^^^ key.getD k 0),bJ (bJ f2 k 92#8) k (bJ f2 k 92#8 k ^^^ key.getD k 0)) ?_ ?_ ?_ ?_ ?_)
   ·exact (aO rfl (aA rfl (aA rfl (aA rfl eZ))))
   ·exact (mS .here rfl (mS .here rfl mN))
   ·first|omega|(dsimp only; omega)
   ·exact hGl1
   refine ⟨?_,?_,?_⟩
   ·(try dsimp only)<;>(first|omega|rfl|assumption|(simp; done))
   ·(try dsimp only)<;>(exact aCT ef (by rw [yR,eU,ek2,if_pos (by omega)]))
   (try dsimp only)<;>(exact aCT ef2 (by rw [yR,eU,ek2,if_pos (by omega)]))
  have c5k:=c5
  try simp only [aD,aE] at c5
  refine .g (aW (((k+1):Nat):Int) rfl rfl rfl rfl ?_)
  refine .g (aT (k+1,bJ f k 54#8,bJ f2 k 92#8) ?_ ?_ ?_ ?_ ?_)
  ·exact (aO rfl (aA rfl (aA rfl (aA rfl eZ))))
  ·exact (mS .here rfl (mS .here rfl mN))
  ·first|omega|(dsimp only; omega)
  ·exact hGl1
  refine ⟨?_,?_,?_⟩
  ·(try dsimp only)<;>(first|omega|rfl|assumption|(simp; done))
  ·(try dsimp only)<;>(exact aAc ef (by rw [eU,ek2,if_neg (by omega)]))
  (try dsimp only)<;>(exact aAc ef2 (by rw [eU,ek2,if_neg (by omega)]))
 have c4k:=c4
 try simp only [aD,aE] at c4
 refine .exit (.xcode (.xlp (.xblk (.code (.seq (aHE aY rfl ?_))))))
 refine WoT.n2 0 1 (by kernel_rfl) ?_ ?_
 ·refine lB rfl fV rfl aC ?_
  refine .nil (WoT.n2 1 2 (by kernel_rfl) ?_ ?_)
  ·refine lB rfl fV rfl .here ?_
   refine .nil (WoT.n1 2 (by kernel_rfl) ?_)
   refine sW rfl rfl rfl rfl kB aC ?_
   refine .nil (WoT.n1 3 (by kernel_rfl) ?_)
   refine sW rfl rfl rfl rfl kB aC ?_
   refine .nil (WoT.last (by kernel_rfl) ?_)
   refine .code (.ret (aN Tryz.results393 (.cell rfl (fun w hw=>bE fV (RdN.own aC) ((by first|exact qE|exact qL|rfl)) hw) (.cell rfl (fun w hw=>bE fV (RdN.own .here) ((by first|exact qE|exact qL|rfl)) hw) .nil)) ?_))
   obtain rfl:k=64:=by omega
   exact ⟨rfl,by rw [ef,ef2,jF (fun i hi=>kQ (eU key 54#8) hi),jF (fun i hi=>kQ (eU key 92#8) hi)]; rfl⟩
  refine sW rfl rfl rfl rfl kB aC ?_
  refine .nil (WoT.n1 1 (by kernel_rfl) ?_)
  refine lB rfl fV rfl aC ?_
  refine .nil (WoT.n1 3 (by kernel_rfl) ?_)
  refine sW rfl rfl rfl rfl kB aC ?_
  refine .nil (WoT.last (by kernel_rfl) ?_)
  refine .code (.ret (aN Tryz.results393 (.cell rfl (fun w hw=>bE fV (RdN.own aC) ((by first|exact qE|exact qL|rfl)) hw) (.cell rfl (fun w hw=>bE fV (RdN.own .here) ((by first|exact qE|exact qL|rfl)) hw) .nil)) ?_))
  obtain rfl:k=64:=by omega
  exact ⟨rfl,by rw [ef,ef2,jF (fun i hi=>kQ (eU key 54#8) hi),jF (fun i hi=>kQ (eU key 92#8) hi)]; rfl⟩
 refine lB rfl fV rfl .here ?_
 refine .nil (WoT.n1 0 (by kernel_rfl) ?_)
 refine lB rfl fV rfl aC ?_
 refine .nil (WoT.n1 2 (by kernel_rfl) ?_)
 refine sW rfl rfl rfl rfl kB aC ?_
 refine .nil (WoT.n1 3 (by kernel_rfl) ?_)
 refine sW rfl rfl rfl rfl kB aC ?_
 refine .nil (WoT.last (by kernel_rfl) ?_)
 refine .code (.ret (aN Tryz.results393 (.cell rfl (fun w hw=>bE fV (RdN.own aC) ((by first|exact qE|exact qL|rfl)) hw) (.cell rfl (fun w hw=>bE fV (RdN.own .here) ((by first|exact qE|exact qL|rfl)) hw) .nil)) ?_))
 obtain rfl:k=64:=by omega
 exact ⟨rfl,by rw [ef,ef2,jF (fun i hi=>kQ (eU key 54#8) hi),jF (fun i hi=>kQ (eU key 92#8) hi)]; rfl⟩
theorem aYd:aJ Tryz.prog 393=true:=by kernel_rfl
theorem aYe:aJ Tryz.prog 394=true:=by kernel_rfl
theorem aMj:aJ Tryz.prog 395=true:=by kernel_rfl
theorem aM7:dV Tryz.prog 451=some (ba 16 (fun _=>0#8)):=by kernel_rfl
theorem aXB:aQ Tryz.prog 254 1=some 32:=by kernel_rfl
theorem aLs:fN Tryz.prog 405=some (12,5,1):=by kernel_rfl
theorem wM:aJ Tryz.prog 207=true:=by kernel_rfl
theorem aGb:aJ Tryz.prog 381=true:=by kernel_rfl
theorem aLt:fN Tryz.prog 451=some (16,5,1):=by kernel_rfl
theorem aLq:bY Tryz.prog 451=some (some 16):=by kernel_rfl
theorem aM2:cI Tryz.prog 451=some 16:=by kernel_rfl
theorem aXA:aQ Tryz.prog 254 0=some 0:=by kernel_rfl
theorem aC3:bY Tryz.prog 405=some (some 12):=by kernel_rfl
theorem aYU:aJ Tryz.prog 340=true:=by kernel_rfl
theorem aFy:bY Tryz.prog 254=some (some 64):=by kernel_rfl
theorem aYV:aJ Tryz.prog 341=true:=by kernel_rfl
theorem aEs (key:List Y) (hk:Sh) (ps:List (Sh×List Y)) (h:Sh) (G:PM) (hsk:SlR G 1 aU hk key) (hs:SlP G h ps) (hK:RdNP G 6 0 (wa 64 kW)) (hlk:key.length≤140737488351232) (hl:(cO ps).length≤1000000000000000) (hn:ps.length≤1000):Ct Tryz.prog 381 ([hk.val key.length,h.val ps.length]:List Value).toArray G [] (fun _ μ' u=>μ'=[]∧u=.agg (ba 32 (sQ key (cO ps))).toArray):=by
 refine Ct.of Tryz.func381 rfl Tryz.ntmps381 rfl fun w0 hs0=>?_
 refine .seq (aP rfl rfl ?_)
 refine al rfl jN ?_; intro b4
 refine .g (kV rfl aYd (aB rfl aF) (aSu key hk _ hsk hK hlk) ?_)
 refine .p (eX rfl rfl rfl (eX rfl rfl rfl ?_))
 refine al rfl wS ?_; intro b5
 refine al rfl wS ?_; intro b6
 refine sW rfl rfl rfl rfl kB aC ?_
 refine sW rfl rfl rfl rfl kB aC ?_
 refine .nil (.code (.seq ?_))
 refine fE aC (by intro b hb; cases hb) ?_; intro Gfb5 hleb5 hbb5
 have hs:=hs.mono hleb5
 have hK:=hK.mono hleb5
 refine fE .here (by intro b hb; cases hb) ?_; intro Gfb6 hleb6 hbb6
 have hs:=hs.mono hleb6
 have hK:=hK.mono hleb6
 have hbb5:=hbb5.mono hleb6
 refine .g (kc rfl aYe aF (aNJ _) ?_)
 rintro _ G16 μ16 hG16 ⟨b16,rfl,rfl⟩
 have hs:=hs.mono hG16
 have hK:=hK.mono hG16
 have hbb5:=hbb5.mono hG16
 have hbb6:=hbb6.mono hG16
 refine aS rfl rfl (.nc (.seq (dQ rfl rfl (mV rfl rfl ?_))))
 refine kA rfl .no jY (.u rfl) hbb5 (by first|exact qJ|exact pE|exact qH) ?_; intro h18 L18 eL18 lL18 hs18
 refine ka rfl (.inr rfl) aMj (aB rfl (aB rfl aF)) (eI .here .here) (aHF [] L18 _ _ _ _ hs18 hK (by simp; omega)) ?_
 rintro _ G19 μ19 hG19 ⟨vq0,rfl,rfl⟩
 have hs:=hs.mono hG19
 have hK:=hK.mono hG19
 have hbb6:=hbb6.mono hG19
 refine .g (lE rfl aBM rfl (mV rfl rfl (.nc (.block ?_))))
 refine aV (α:=Nat×Value) (fun gh=>[(22,true,.int .i64 (gh.1:Int))]) (fun gh=>[.blk b16 (cl (gU (L18++cO (ps.take gh.1)) gh.2) 463),rB gh.2 5 (dU (L18++cO (ps.take gh.1)))])
  (fun gh Gl=>(gh.1≤ps.length)) (fun gh=>ps.length-gh.1) (0,vq0) [(4,true,_),(6,true,_),(7,true,_),(20,true,_),(21,true,_)] [_]
  (aO rfl (aA rfl (aA rfl (aA rfl (aA rfl (aA rfl eZ))))))
  (mS .here (by simp [cO]) (mS .here (by simp [cO]) (mS .here rfl mN))) ?_ ?_
 ·(try dsimp only)<;>(first|omega|rfl|assumption|(simp; done))
 intro gh N0 Gl0 hN0 hGl0 hF0
 obtain ⟨k,vq⟩:=gh; dsimp only at hF0 hN0 ⊢
 have hk:=hF0
 have hs:=hs.mono hGl0
 have hK:=hK.mono hGl0
 have hbb6:=hbb6.mono hGl0
 refine .g (cP rfl rfl rfl rfl (.g (cD rfl (fun c1=>?_) (fun c1=>?_))))
 ·have c1k:=c1
  try simp only [aD,aE] at c1
  refine .skip (.code (.seq (.block (.seq (dQ rfl rfl (ih rfl .no jZ (.u rfl) (.u rfl) (by omega) (by omega) (fun _=>hs.sl.nn (k:=k) (by omega)) ?_))))))
  obtain ⟨p25,ep25⟩:=dT (k:=k) (xs:=ps) (by omega)
  have hq25:=hs.get ep25
  refine lN rfl gQ rfl ((hs.at (k) (by omega) ep25).rd) ?_
  refine .g (ka rfl (.inr rfl) aMj (aB rfl (aB rfl aF)) (eI .here .here) (aHF (L18++cO (ps.take k)) p25.2 _ _ _ _ hq25 hK (by have:=aDv ep25; rw [List.length_append]; omega)) ?_)
  rintro _ G28 μ28 hG28 ⟨vq',rfl,rfl⟩
  have hK:=hK.mono hG28
  have hbb6:=hbb6.mono hG28
  refine .g (aW (((k+1):Nat):Int) rfl rfl rfl rfl ?_)
  refine .g (aT (k+1,vq') ?_ ?_ ?_ ?_ ?_)
  ·exact (aO rfl (aA rfl (aA rfl (aA rfl (aA rfl (aA rfl eZ))))))
  ·exact (mS .here (by rw [xC ep25,List.append_assoc]) (mS .here (by rw [xC ep25,List.append_assoc]) (mS .here rfl mN)))
  ·first|omega|(dsimp only; omega)
  ·exact (hGl0).trans hG28
  (try dsimp only)<;>(first|omega|rfl|assumption|(simp; done))
 have c1k:=c1
 try simp only [aD,aE] at c1
 refine .exit (.xcode (.xlp (.xblk (.code (.seq ?_)))))
 obtain rfl:k=ps.length:=by omega
 rw [List.take_length]
 refine .g (ka rfl (.inr rfl) aMe (aB rfl aF) (eI .here .here) (aG8 (L18++cO ps) _ _ _ hK (by rw [List.length_append]; omega)) ?_)
 rintro _ G31 μ31 hG31 ⟨rfl,rfl⟩
 have hK:=hK.mono hG31
 have hbb6:=hbb6.mono hG31
 refine al rfl jN ?_; intro b10
 refine sW rfl rfl rfl rfl iO .here ?_
 refine .nil (.code (.seq ?_))
 refine fE .here (by intro b hb; cases hb) ?_; intro Gfb10 hleb10 hbb10
 have hK:=hK.mono hleb10
 have hbb6:=hbb6.mono hleb10
 refine bZ (mc:=⟨false,false⟩) [0,1,2,3,4] aY (by kernel_rfl) ?_
 refine kA rfl .no jY (.u rfl) hbb6 (by first|exact qJ|exact pE|exact qH) ?_; intro h32 L32 eL32 lL32 hs32
 refine kA rfl .no nX (.u rfl) hbb10 (by first|exact qJ|exact pE|exact qH) ?_; intro h33 L33 eL33 lL33 hs33
 refine Go.Tan.bN rfl jZ oE (Evp.cons (.u rfl) (Evp.cons (.u rfl) Evp.nil)) rfl (by decide) (by simp [Value.oneCell',Sh.val]) ?_; intro b34
 refine kp rfl .no aBE (aB rfl aF) (Gp.add .here Gp.nil) (fun _ hle hq=>aUh hle hs32 hs33 hK (by omega)) ?_
 refine sW rfl rfl rfl rfl iO bG ?_
 refine .nil (.code (.ret (aN Tryz.results381 (.cell rfl (fun w hw=>bE fF (RdN.own .here) ((by first|exact qE|exact qL|rfl)) hw) .nil) ?_)))
 exact ⟨rfl,by rw [eL32,eL33,eL18]; rfl⟩
theorem aRB {G:PM} {b T:Nat} {hk h1 h2 h3 h4:Sh} {key L1 L2 L3 L4:List Y} (hle:PM.le G (G.add b (cl [h1.val L1.length,h2.val L2.length,h3.val L3.length,h4.val L4.length] T))) (hsk:SlR G 1 aU hk key) (hs:SlR G 1 aU h1 L1) (hs2:SlR G 1 aU h2 L2) (hs3:SlR G 1 aU h3 L3) (hs4:SlR G 1 aU h4 L4) (hK:RdNP G 6 0 (wa 64 kW)) (hlk:key.length≤140737488351232) (hl:L1.length+L2.length+L3.length+L4.length≤1000000000000000) :
  Ct Tryz.prog 381 ([hk.val key.length,.slice (some ⟨b,0,none⟩) 4 4]:List Value).toArray (G.add b (cl [h1.val L1.length,h2.val L2.length,h3.val L3.length,h4.val L4.length] T)) [] (fun _ μ' u=>μ'=[]∧u=.agg (ba 32 (sQ key (L1++L2++L3++L4))).toArray):=by
 have h:=aEs key hk [(h1,L1),(h2,L2),(h3,L3),(h4,L4)] ⟨some ⟨b,0,none⟩,4⟩ _ (hsk.mono hle) (SlP.four hle hs hs2 hs3 hs4) (hK.mono hle) hlk (by simp [cO]; omega) (by simp)
 rw [show cO [(h1,L1),(h2,L2),(h3,L3),(h4,L4)]=L1++L2++L3++L4 by simp [cO]] at h
 exact h
theorem aNS (enc mac nonce:Nat→Y) (ad:List Y) (ha:Sh) (xs:List Y) (hx:Sh) (G:PM) (hsa:SlR G 1 aU ha ad) (hsx:SlR G 1 aU hx xs) (hK:RdNP G 6 0 (wa 64 kW)) (hla:ad.length≤140737488351232) (hl:xs.length≤140737488355328):Ct Tryz.prog 341 ([.agg (ba 32 enc++ba 32 mac).toArray,.agg (ba 12 nonce).toArray,ha.val ad.length,hx.val xs.length]:List Value).toArray G [] (fun _ μ' u=>μ'=[]∧u=.agg (ba 16 (aFa mac nonce ad xs)).toArray):=by
 refine Ct.of Tryz.func341 rfl Tryz.ntmps341 rfl fun w0 hs0=>?_
 refine .seq (dQ rfl rfl ?_)
 refine bX rfl rfl rfl ?_; intro b4
 refine bX rfl rfl rfl ?_; intro b5
 refine al rfl aM7 ?_; intro b8
 refine .nil (.code (.seq ?_))
 refine fE aM (by intro b hb; cases hb) ?_; intro Gfb4 hleb4 hbb4
 have hsa:=hsa.mono hleb4
 have hsx:=hsx.mono hleb4
 have hK:=hK.mono hleb4
 refine fE aC (by intro b hb; cases hb) ?_; intro Gfb5 hleb5 hbb5
 have hsa:=hsa.mono hleb5
 have hsx:=hsx.mono hleb5
 have hK:=hK.mono hleb5
 have hbb4:=hbb4.mono hleb5
 refine bZ (mc:=⟨false,false⟩) [0,1,2,3,4,6,7,8,5,9,10,11,12] aY (by kernel_rfl) ?_
 refine fA rfl aXB rfl ?_
 refine kA rfl .no aC5 (.u rfl) hbb4 (by first|exact qJ|exact pE|exact qH) ?_; intro h11 L11 eL11 lL11 hs11
 refine .p (lE rfl dW rfl (ci rfl .no rfl jC (.u rfl) ?_))
 refine mV rfl rfl ?_
 refine kA rfl .no aLs (.u rfl) hbb5 (by first|exact qJ|exact pE|exact qH) ?_; intro h17 L17 eL17 lL17 hs17
 refine .p (kc rfl wM (aB rfl (aB rfl (aB rfl aF))) (Ct.frzB (tJ [] ⟨none,0⟩ _ 8 _ SlR.nul (by simp) (by decide))) ?_)
 rintro _ G15 μ15 hG15 ⟨h15,L15,eL15,rfl,rfl,hs15⟩
 have hsa:=hsa.mono hG15
 have hsx:=hsx.mono hG15
 have hK:=hK.mono hG15
 have hs11:=hs11.mono hG15
 have hs17:=hs17.mono hG15
 refine Go.Tan.bN rfl jZ oE (Evp.cons (.u rfl) (Evp.cons (.u rfl) (Evp.cons (.u rfl) (Evp.cons (.u rfl) Evp.nil)))) rfl (by decide) (by simp [Value.oneCell',Sh.val]) ?_; intro b19
 have lL15:L15.length=8:=by rw [eL15,List.nil_append]; exact oG _ 8
 refine kp rfl .no aGb (aB rfl (aB rfl aF)) (Gp.add .here Gp.nil) (fun _ hle hq=>aRB hle hs11 hs15 hsa hs17 hsx hK (by omega) (by omega)) ?_
 refine al rfl jN ?_; intro b9
 refine sW rfl rfl rfl rfl iO .here ?_
 refine .g (sah rfl .no nX (.u rfl) (.u rfl) (fun _=>by first|decide|omega) (fun _=>by first|decide|omega) ?_)
 refine sp rfl .no aLt (.u rfl) (fun _=>by first|decide|omega) ?_
 refine lA rfl .no aLq (.u rfl) (fun _=>RdN.part (n:=16) (cs':=ba 16 _) .here (aHT (by decide))) (fun _=>(by first|exact qE|exact qL|rfl)) ?_
 refine sW rfl rfl rfl rfl aM2 aM ?_
 refine .nil (.code (.ret (aN Tryz.results341 (.cell rfl (fun w hw=>bE aLq (RdN.own .here) ((by first|exact qE|exact qL|rfl)) hw) .nil) ?_)))
 exact ⟨rfl,by rw [eL11,eL15,eL17]; rfl⟩
theorem aUm (enc mac nonce:Nat→Y) (ad:List Y) (ha:Sh) (xs:List Y) (v:Value) (G:PM) (hsa:SlR G 1 aU ha ad) (hK:RdNP G 6 0 (wa 64 kW)) (hla:ad.length≤140737488351232) (hl:xs.length≤140737488355328):Ct Tryz.prog 341 ([.agg (ba 32 enc++ba 32 mac).toArray,.agg (ba 12 nonce).toArray,ha.val ad.length,v]:List Value).toArray G [rB v 5 xs] (fun _ μ' u=>∃ ν,μ'=rB v 5 xs :: ν∧ν=[]∧u=.agg (ba 16 (aFa mac nonce ad xs)).toArray) :=
 aAy (fun hx G2 hle hv hs=>by subst hv; exact aNS enc mac nonce ad ha xs hx G2 (hsa.mono hle) hs (hK.mono hle) hla hl)
theorem aNP (enc mac nonce:Nat→Y) (ad:List Y) (ha:Sh) (xs:List Y) (hx:Sh) (G:PM) (hsa:SlR G 1 aU ha ad) (hsx:SlR G 1 aU hx xs) (hK:RdNP G 6 0 (wa 64 kW)) (hla:ad.length≤140737488351232) (hl:xs.length≤140737488351232):Ct Tryz.prog 292 ([.agg (ba 32 enc++ba 32 mac).toArray,.agg (ba 12 nonce).toArray,ha.val ad.length,hx.val xs.length]:List Value).toArray G [] (PR 5 (fun L=>L=uX enc mac nonce ad xs)):=by
 refine Ct.of Tryz.func292 rfl Tryz.ntmps292 rfl fun w0 hs0=>?_
 have lc:=aBn enc nonce 1#32 xs
 refine .seq (dQ rfl rfl ?_)
 refine bX rfl rfl rfl ?_; intro b4
 refine bX rfl rfl rfl ?_; intro b5
 refine .g (fZ rfl aXA rfl (lA rfl .no aC2 (.u rfl) (fun _=>RdN.part (n:=32) (cs':=ba 32 enc) aC (pE)) (fun _=>(by first|exact qE|exact qL|rfl)) ?_))
 refine lB rfl aC3 rfl .here ?_
 refine .p (kc rfl aYU (aB rfl (aB rfl (aB rfl (aB rfl aF)))) (mX (aLa enc nonce 1#32 hx xs _ hsx hl)) ?_)
 rintro v15 G15 μ15 hG15 ⟨L15,ov15,eL15,rfl⟩
 have hsa:=hsa.mono hG15
 have hK:=hK.mono hG15
 refine aS rfl rfl (.nc (.seq (uV rfl rfl ?_)))
 have lL15:L15.length=xs.length:=by rw [eL15,aBn]
 refine lB rfl aFy rfl aM ?_
 refine lB rfl aC3 rfl aC ?_
 refine .p (ka rfl (.inr rfl) aYV (aB rfl (aB rfl (aB rfl (aB rfl aF)))) (bK .here) (aUm enc mac nonce ad ha L15 _ _ hsa hK hla (by rw [eL15,aBn]; omega)) ?_)
 rintro _ G20 μ20 hG20 ⟨_,rfl,rfl,rfl⟩
 refine al rfl aM7 ?_; intro b10
 refine sW rfl rfl rfl rfl aM2 .here ?_
 refine .g (rC rfl .no aLt (.u rfl) (eY rfl aX cG (.u rfl) (.u rfl) aC (Sc.arr .here) (by (try simp only [cC,cY]); omega) ?_))
 intro v23 L23 ov23 eL23
 have lL23:L23.length=L15.length+16:=by rw [eL23,List.length_append]; first|rfl | simp [cY]
 refine aS rfl rfl (.nc (.ret (We.fin Tryz.results292 (.tmp rfl .nil) (mS .here rfl mN) ?_)))
 exact ⟨L23,by rw [eL23,eL15]; rfl,rfl⟩
theorem aL1:csT Tryz.prog 25=true:=by kernel_rfl
theorem aMf:aJ Tryz.prog 353=true:=by kernel_rfl
theorem aYM:aJ Tryz.prog 313=true:=by kernel_rfl
theorem aXy:aJ Tryz.prog 227=true:=by kernel_rfl
theorem aYW:aJ Tryz.prog 342=true:=by kernel_rfl
theorem aWv:jP Tryz.prog 344 23=some .u64:=by kernel_rfl
theorem aJP (x:W) (G:PM):Ct Tryz.prog 353 ([U x]:List Value).toArray G [] (fun _ μ' u=>μ'=[]∧u=U (pJ 4 x)):=by
 refine Ct.of Tryz.func353 rfl Tryz.ntmps353 rfl fun w0 hs0=>?_
 refine .seq (aP rfl rfl (aS rfl rfl (.nc (.seq (.seq (aP rfl rfl (mV rfl rfl (.nc (.block ?_)))))))))
 refine aV (α:=Nat×W) (fun gh=>[(0,true,U gh.2),(3,true,.int .i64 (gh.1:Int))]) (fun _=>[])
  (fun gh Gl=>(gh.1≤4)∧(gh.2=pJ gh.1 x)) (fun gh=>4-gh.1) (0,x) [] []
  (aA rfl (aO rfl eZ))
  mN ?_ ?_
 ·refine ⟨?_,?_⟩
  ·(try dsimp only)<;>(first|omega|rfl|assumption|(simp; done))
  (try dsimp only)<;>(first|omega|rfl|assumption|(simp; done))
 intro gh N0 Gl0 hN0 hGl0 hF0
 obtain ⟨k,y⟩:=gh; dsimp only at hF0 hN0 ⊢
 obtain ⟨hk,ey⟩:=hF0
 refine .g (cP rfl rfl rfl rfl (.g (cD rfl (fun c1=>?_) (fun c1=>?_))))
 ·have c1k:=c1
  try simp only [aD,aE] at c1
  refine .g (oN (k:=.u32) rfl .no (.u rfl) (.u rfl) (fun _=>by decide) ?_)
  refine .p (bw (k:=.u32) (b:=1#32) rfl .no rfl (.u rfl) (.u rfl) rfl (nw (k:=.u32) rfl .no rfl (.u rfl) ?_))
  refine bw (k:=.u32) (a:=2197175160#32) rfl .no rfl (.u rfl) (.u rfl) rfl (bw (k:=.u32) rfl .no rfl (.u rfl) (.u rfl) rfl (.g (aW (((k+1):Nat):Int) rfl rfl rfl rfl ?_)))
  refine .g (aT (k+1,aIc y) ?_ ?_ ?_ ?_ ?_)
  ·exact (aA rfl (aO rfl eZ))
  ·exact mN
  ·first|omega|(dsimp only; omega)
  ·exact hGl0
  refine ⟨?_,?_⟩
  ·(try dsimp only)<;>(first|omega|rfl|assumption|(simp; done))
  (try dsimp only)<;>(rw [ey]; rfl)
 have c1k:=c1
 try simp only [aD,aE] at c1
 refine .exit (.xcode (.xlp (.xblk (.code (.seq (bF rfl rfl (mV rfl rfl (aS rfl rfl (.nc (.ret (aN Tryz.results353 (.tmp rfl .nil) ?_)))))))))))
 obtain rfl:k=4:=by omega
 exact ⟨rfl,by rw [ey]; rfl⟩
theorem aOZ (sum:W) (xs:List Y) (h:Sh) (G:PM) (hs:SlR G 1 aU h xs) (hl:xs.length≤9000000000000000000):Ct Tryz.prog 313 ([U sum,h.val xs.length]:List Value).toArray G [] (fun _ μ' u=>μ'=[]∧u=U (mJ sum xs)):=by
 refine Ct.of Tryz.func313 rfl Tryz.ntmps313 rfl fun w0 hs0=>?_
 refine .g (xw (k:=.u32) rfl .no rfl (.u rfl) ?_)
 refine .g (lE rfl dW rfl (mV rfl rfl (.nc (.block ?_))))
 refine aV (α:=Nat×W) (fun gh=>[(5,true,U gh.2),(12,true,.int .i64 (gh.1:Int))]) (fun _=>[])
  (fun gh Gl=>(gh.1≤xs.length)∧(gh.2=(xs.take gh.1).foldl aAC (~~~sum))) (fun gh=>xs.length-gh.1) (0, ~~~sum) [(10,true,_),(11,true,_)] []
  (aA rfl (aO rfl (aA rfl (aA rfl eZ))))
  mN ?_ ?_
 ·refine ⟨?_,?_⟩
  ·(try dsimp only)<;>(first|omega|rfl|assumption|(simp; done))
  (try dsimp only)<;>(first|omega|rfl|assumption|(simp; done))
 intro gh N0 Gl0 hN0 hGl0 hF0
 obtain ⟨k,x⟩:=gh; dsimp only at hF0 hN0 ⊢
 obtain ⟨hk,ex⟩:=hF0
 have hs:=hs.mono hGl0
 refine .g (cP rfl rfl rfl rfl (.g (cD rfl (fun c1=>?_) (fun c1=>?_))))
 ·have c1k:=c1
  try simp only [aD,aE] at c1
  refine .skip (.code (.seq (.block (.seq (dQ rfl rfl (ih rfl .no aX (.u rfl) (.u rfl) (by omega) (by omega) (fun _=>hs.nn (k:=k) (by omega)) ?_))))))
  refine lN rfl cZ rfl ((hs.yat (k) (by omega) (by omega)).rd) ?_
  refine .g (cu (k:=.u8) rfl .no rfl aF2 (.u rfl) ?_)
  refine bw (k:=.u32) rfl .no rfl (.u rfl) (.u rfl) rfl (kV rfl aMf (aB rfl aF) (aJP _ _) ?_)
  refine kV rfl aMf (aB rfl aF) (aJP _ _) ?_
  refine .g (aW (((k+1):Nat):Int) rfl rfl rfl rfl ?_)
  refine .g (aT (k+1,pJ 4 (pJ 4 (x ^^^ (xs.getD k 0).setWidth 32))) ?_ ?_ ?_ ?_ ?_)
  ·exact (aA rfl (aO rfl (aA rfl (aA rfl eZ))))
  ·exact mN
  ·first|omega|(dsimp only; omega)
  ·exact hGl0
  refine ⟨?_,?_⟩
  ·(try dsimp only)<;>(first|omega|rfl|assumption|(simp; done))
  (try dsimp only)<;>(rw [aPZ (by omega),←ex,aPr]; rfl)
 have c1k:=c1
 try simp only [aD,aE] at c1
 refine .g (xw (k:=.u32) rfl .no rfl (.u rfl) ?_)
 refine aS rfl rfl (.nc (.ret (aN Tryz.results313 (.tmp rfl .nil) ?_)))
 obtain rfl:k=xs.length:=by omega
 exact ⟨rfl,by rw [ex,List.take_length]; rfl⟩
theorem aOa (ps:List (Sh×List Y)) (h:Sh) (G:PM) (hs:SlP G h ps) (hl:(cO ps).length≤9000000000000000000) (hn:ps.length≤1000):Ct Tryz.prog 227 ([h.val ps.length]:List Value).toArray G [] (fun _ μ' u=>μ'=[]∧u=U (mJ 0#32 (cO ps))):=by
 refine Ct.of Tryz.func227 rfl Tryz.ntmps227 rfl fun w0 hs0=>?_
 refine .g (lE rfl aBM rfl (mV rfl rfl (.nc (.block ?_))))
 refine aV (α:=Nat×W) (fun gh=>[(3,true,U gh.2),(8,true,.int .i64 (gh.1:Int))]) (fun _=>[])
  (fun gh Gl=>(gh.1≤ps.length)∧(gh.2=mJ 0#32 (cO (ps.take gh.1)))) (fun gh=>ps.length-gh.1) (0,0#32) [(6,true,_),(7,true,_)] []
  (aA rfl (aO rfl (aA rfl (aA rfl eZ))))
  mN ?_ ?_
 ·refine ⟨?_,?_⟩
  ·(try dsimp only)<;>(first|omega|rfl|assumption|(simp; done))
  (try dsimp only)<;>(simp [cO,aOc])
 intro gh N0 Gl0 hN0 hGl0 hF0
 obtain ⟨k,x⟩:=gh; dsimp only at hF0 hN0 ⊢
 obtain ⟨hk,ex⟩:=hF0
 have hs:=hs.mono hGl0
 refine .g (cP rfl rfl rfl rfl (.g (cD rfl (fun c1=>?_) (fun c1=>?_))))
 ·have c1k:=c1
  try simp only [aD,aE] at c1
  refine .skip (.code (.seq (.block (.seq (dQ rfl rfl (ih rfl .no jZ (.u rfl) (.u rfl) (by omega) (by omega) (fun _=>hs.sl.nn (k:=k) (by omega)) ?_))))))
  obtain ⟨p11,ep11⟩:=dT (k:=k) (xs:=ps) (by omega)
  have hq11:=hs.get ep11
  refine lN rfl gQ rfl ((hs.at (k) (by omega) ep11).rd) ?_
  refine .g (kV rfl aYM (aB rfl (aB rfl aF)) (aOZ _ p11.2 _ _ hq11 (by have:=aDv ep11; omega)) ?_)
  refine .g (aW (((k+1):Nat):Int) rfl rfl rfl rfl ?_)
  refine .g (aT (k+1,mJ x p11.2) ?_ ?_ ?_ ?_ ?_)
  ·exact (aA rfl (aO rfl (aA rfl (aA rfl eZ))))
  ·exact mN
  ·first|omega|(dsimp only; omega)
  ·exact hGl0
  refine ⟨?_,?_⟩
  ·(try dsimp only)<;>(first|omega|rfl|assumption|(simp; done))
  (try dsimp only)<;>(rw [ex,aOb,xC ep11])
 have c1k:=c1
 try simp only [aD,aE] at c1
 refine .exit (.xcode (.xlp (.xblk (.code (.seq (bF rfl rfl (mV rfl rfl (aS rfl rfl (.nc (.ret (aN Tryz.results227 (.tmp rfl .nil) ?_)))))))))))
 obtain rfl:k=ps.length:=by omega
 exact ⟨rfl,by rw [ex,List.take_length]; rfl⟩
theorem aNI (x:W) (G:PM):Ct Tryz.prog 342 ([U x]:List Value).toArray G [] (fun _ μ' u=>μ'=[]∧u=U (aEu x)):=by
 refine Ct.of Tryz.func342 rfl Tryz.ntmps342 rfl fun w0 hs0=>?_
 refine .g (kV rfl zH (aB rfl (aB rfl aF)) (yF _ 17 _) ?_)
 refine bw (k:=.u32) (b:=2726488792#32) rfl .no rfl (.u rfl) (.u rfl) rfl (aS rfl rfl (.nc (.ret (aN Tryz.results342 (.tmp rfl .nil) ?_))))
 exact ⟨rfl,rfl⟩
theorem aOY {G:PM} {b7 b9 T7 T9:Nat} {kind:Y} {h:Sh} {p:List Y} (hle:PM.le G ((G.add b7 (cl [V kind] T7)).add b9 (cl [.slice (some ⟨b7,0,none⟩) 1 1,h.val p.length] T9))) (hq:PM.le (G.add b7 (cl [V kind] T7)) ((G.add b7 (cl [V kind] T7)).add b9 (cl [.slice (some ⟨b7,0,none⟩) 1 1,h.val p.length] T9))) (hs:SlR G 1 aU h p) (hl:p.length≤1000000000000000) :
  Ct Tryz.prog 227 ([.slice (some ⟨b9,0,none⟩) 2 2]:List Value).toArray ((G.add b7 (cl [V kind] T7)).add b9 (cl [.slice (some ⟨b7,0,none⟩) 1 1,h.val p.length] T9)) [] (fun _ μ' u=>μ'=[]∧u=U (mJ 0#32 ([kind]++p))):=by
 have h1:SlR (G.add b7 (cl [V kind] T7)) 1 aU ⟨some ⟨b7,0,none⟩,1⟩ [kind]:=gX (T:=T7) (cH _ _ _) (fun _ _=>rfl) (by simp)
 have hP:SlP ((G.add b7 (cl [V kind] T7)).add b9 (cl [.slice (some ⟨b7,0,none⟩) 1 1,h.val p.length] T9)) ⟨some ⟨b9,0,none⟩,2⟩ [(⟨some ⟨b7,0,none⟩,1⟩,[kind]),(h,p)] :=
  ⟨gX (T:=T9) (cH _ _ _) (fun _ _=>rfl) (by simp),fun q hq'=>by
   rcases List.mem_cons.1 hq' with rfl | hq'
   ·exact h1.mono hq
   ·rw [List.mem_singleton.1 hq']; exact hs.mono hle⟩
 have hh:=aOa _ ⟨some ⟨b9,0,none⟩,2⟩ _ hP (by simp [cO]; omega) (by simp)
 rw [show cO [((⟨some ⟨b7,0,none⟩,1⟩ : Sh),[kind]),(h,p)]=[kind]++p by simp [cO]] at hh
 exact hh
theorem aCs (kind:Y) (p:List Y) (h:Sh) (G:PM) (hs:SlR G 1 aU h p) (hl:p.length≤1000000000000000):Ct Tryz.prog 294 ([V kind,h.val p.length]:List Value).toArray G [] (PR 5 (fun L=>L=hY ((aEu (mJ 0#32 ([kind]++p))).setWidth 64) 4++hY (BitVec.ofInt 64 (p.length:Int)) 2++[kind])):=by
 refine Ct.of Tryz.func294 rfl Tryz.ntmps294 rfl fun w0 hs0=>?_
 refine .seq (aP rfl rfl (aS rfl rfl (.nc (.seq (uV rfl rfl (mV rfl rfl ?_))))))
 refine Go.Tan.b1 rfl aX cG (.u rfl) rfl rfl (by decide) ?_; intro b7
 refine mV rfl rfl ?_
 refine Go.Tan.bN rfl jZ oE (Evp.cons (.u rfl) (Evp.cons (.u rfl) Evp.nil)) rfl (by decide) (by simp [Value.oneCell',Sh.val]) ?_; intro b9
 refine kp rfl .no aXy (aB rfl aF) (Gp.add .here (Gp.add .here Gp.nil)) (fun _ hle hq=>aOY hle hq.1 hs hl) ?_
 refine kV rfl aYW (aB rfl aF) (aNI _ _) ?_
 refine .g (cu (k:=.u32) rfl .no rfl aWv (.u rfl) ?_)
 refine kc rfl wM (aB rfl (aB rfl (aB rfl aF))) (Ct.frzB (tJ [] ⟨none,0⟩ _ 4 _ SlR.nul (by simp) (by decide))) ?_
 rintro _ G14 μ14 hG14 ⟨h14,L14,eL14,rfl,rfl,hs14⟩
 refine .p (lE rfl dW rfl (ci rfl .no rfl jC (.u rfl) ?_))
 refine kc rfl wM (aB rfl (aB rfl (aB rfl aF))) (mX (tJ L14 h14 _ 2 _ hs14 (by have:=fx0 eL14; omega) (by decide))) ?_
 rintro v18 G18 μ18 hG18 ⟨L18,ov18,eL18,rfl⟩
 refine mV rfl rfl ?_
 refine Go.Tan.b1 rfl aX cG (.u rfl) rfl rfl (by decide) ?_; intro b20
 have lL18:L18.length=6:=by have:=fx0 eL14; have:=fx2 eL18; omega
 refine eY rfl aX cG (.u rfl) (.u rfl) aC (Sc.one .here) (by show _+1≤_; omega) ?_
 intro v21 L21 ov21 eL21
 have lL21:L21.length=L18.length+1:=by rw [eL21,List.length_append]; first|rfl | simp [cY]
 refine aS rfl rfl (.nc (.ret (We.fin Tryz.results294 (.tmp rfl .nil) (mS .here rfl mN) ?_)))
 exact ⟨L21,by rw [eL21,eL18,eL14]; rfl,rfl⟩
theorem aMA:aQ Tryz.prog 161 0=some 0:=by kernel_rfl
theorem aW2:aQ Tryz.prog 161 1=some 1:=by kernel_rfl
theorem aW3:aQ Tryz.prog 161 2=some 2:=by kernel_rfl
theorem bI:bY Tryz.prog 23=some none:=by kernel_rfl
theorem aM6:dV Tryz.prog 405=some (ba 12 (fun _=>0#8)):=by kernel_rfl
theorem aY9:cI Tryz.prog 405=some 12:=by kernel_rfl
theorem aW4:aQ Tryz.prog 161 3=some 3:=by kernel_rfl
theorem aF8:aQ Tryz.prog 161 4=some 4:=by kernel_rfl
theorem aWc:cX Tryz.prog 326 [0,1,2]=some ([.int .u64 0,.int .u64 0,.int .u64 0],[(0,1),(1,1),(2,1)]):=by kernel_rfl
theorem aWK:fN Tryz.prog 326=some (3,23,1):=by kernel_rfl
theorem aNK (n:BitVec 64) (G:PM):Ct Tryz.prog 293 ([uv .u64 n]:List Value).toArray G [] (fun _ μ' u=>μ'=[]∧u=.agg (ba 12 (mM n)).toArray):=by
 refine Ct.of Tryz.func293 rfl Tryz.ntmps293 rfl fun w0 hs0=>?_
 refine .seq (aP rfl rfl ?_)
 refine al rfl aM6 ?_; intro b2
 refine .nil (.code (.seq (aP rfl rfl ?_)))
 refine al rfl aM6 ?_; intro b3
 refine .nil (.code (.seq (.seq (aP rfl rfl (mV rfl rfl (.nc (.block ?_)))))))
 refine aV (α:=Nat×(Nat→Y)) (fun gh=>[(5,true,.int .i64 (gh.1:Int))]) (fun gh=>[.blk b3 (cl (ba 12 gh.2) 405)])
  (fun gh Gl=>(gh.1≤8)∧(gh.2=gT (mM n) gh.1)) (fun gh=>8-gh.1) (0,fun _=>0#8) [(0,true,_),(2,true,_),(3,true,_)] [_]
  (aO rfl (aA rfl (aA rfl (aA rfl eZ))))
  (mS .here rfl (mS .here rfl mN)) ?_ ?_
 ·refine ⟨?_,?_⟩
  ·(try dsimp only)<;>(first|omega|rfl|assumption|(simp; done))
  (try dsimp only)<;>(first|omega|rfl|assumption|(simp; done))
 intro gh N0 Gl0 hN0 hGl0 hF0
 obtain ⟨k,f⟩:=gh; dsimp only at hF0 hN0 ⊢
 obtain ⟨hk,ef⟩:=hF0
 refine .g (cP rfl rfl rfl rfl (.g (cD rfl (fun c1=>?_) (fun c1=>?_))))
 ·have c1k:=c1
  try simp only [aD,aE] at c1
  refine .g (aW (((8*k):Nat):Int) rfl rfl rfl rfl ?_)
  refine oN (k:=.u64) rfl .no (.u rfl) (.u rfl) (by omega) ?_
  refine cu (k:=.u64) rfl .no rfl wD (.u rfl) ?_
  refine iW rfl aLs rfl rfl ?_
  refine s1 rfl (.u rfl) (.u rfl) rfl fM .here (by first|decide|(simp only [bW,bR,cC]; omega)) (by first|exact dR (k) (by omega)|exact lI (k) (by omega)|exact rH (k) (by omega) (by omega)|rfl) ?_
  refine .g (aW (((k+1):Nat):Int) rfl rfl rfl rfl ?_)
  refine .g (aT (k+1,bJ f k ((n >>> (8*k)).setWidth 8)) ?_ ?_ ?_ ?_ ?_)
  ·exact (aO rfl (aA rfl (aA rfl (aA rfl eZ))))
  ·exact (mS .here rfl (mS .here rfl mN))
  ·first|omega|(dsimp only; omega)
  ·exact hGl0
  refine ⟨?_,?_⟩
  ·(try dsimp only)<;>(first|omega|rfl|assumption|(simp; done))
  (try dsimp only)<;>(exact aAc ef (by unfold mM; rw [if_pos (by omega)]))
 have c1k:=c1
 try simp only [aD,aE] at c1
 refine .g (lB rfl aC3 rfl .here ?_)
 refine sW rfl rfl rfl rfl aY9 aC ?_
 refine .nil (.code (.ret (aN Tryz.results293 (.cell rfl (fun w hw=>bE aC3 (RdN.own .here) ((by first|exact qE|exact qL|rfl)) hw) .nil) ?_)))
 obtain rfl:k=8:=by omega
 exact ⟨rfl,by rw [ef,jF (fun i hi=>aRu n hi)]; rfl⟩
theorem aAX (h:Hd) (G:PM):Ct Tryz.prog 138 ([.agg ([V h.kind,V h.level,uv .u64 h.gen,uv .u64 h.epoch,uv .u64 h.num]:List Value).toArray]:List Value).toArray G [] (PR 5 (fun L=>L=gR h)):=by
 refine Ct.of Tryz.func138 rfl Tryz.ntmps138 rfl fun w0 hs0=>?_
 refine .seq (bF rfl rfl ?_)
 refine bX rfl rfl rfl ?_; intro b1
 refine aS rfl rfl (.nc (.seq (rq9 rfl rfl ?_)))
 refine Go.Tan.bN rfl aX cG (Evp.cons (.u rfl) (Evp.cons (.u rfl) (Evp.cons (.u rfl) (Evp.cons (.u rfl) Evp.nil)))) rfl (by decide) (by simp [Value.oneCell',Sh.val]) ?_; intro b6
 refine mkS [116#8,97#8,110#8,116#8] rfl rfl aL1 (.u rfl) .here rfl rfl (by decide) ?_; intro G7 hG7 hs7
 refine fZ rfl aMA rfl (lO rfl cZ rfl .here (by first|exact aK rfl|rfl) ?_)
 refine fZ rfl aW2 rfl (lO rfl cZ rfl .here (by first|exact aK rfl|rfl) ?_)
 refine Go.Tan.bN rfl aX cG (Evp.cons (.u rfl) (Evp.cons (.u rfl) Evp.nil)) rfl (by decide) (qV rfl rfl) ?_; intro b12
 refine apF (.inr rfl) rfl aX cG (.u rfl) (.u rfl) hs7 rfl (Sc.blk (ys:=[h.kind,h.level]) .here rfl rfl) (by (try simp only [List.length_cons,List.length_nil]); omega) (by (try simp only [List.length_cons,List.length_nil]); omega) (by (try simp only [List.length_cons,List.length_nil]); omega) ?_; intro v13 L13 ov13 eL13
 have lL13:L13.length=[116#8,97#8,110#8,116#8].length+2:=by rw [eL13,List.length_append]; first|rfl | simp [cY]
 refine .g (fZ rfl aW3 rfl (lO rfl bI rfl aM (by first|exact aK rfl|rfl) ?_))
 refine fZ rfl aW4 rfl (lO rfl bI rfl aM (by first|exact aK rfl|rfl) ?_)
 refine fZ rfl aF8 rfl (lO rfl bI rfl aM (by first|exact aK rfl|rfl) ?_)
 refine bC rfl .no aWc (.cons (.u rfl) rfl (.cons (.u rfl) rfl (.cons (.u rfl) rfl .nil))) rfl ?_
 refine mV rfl rfl (.nc (.block ?_))
 refine aV (α:=Nat×Value×List Y) (fun gh=>[(3,true,gh.2.1),(21,true,.int .i64 (gh.1:Int))]) (fun gh=>[rB gh.2.1 5 gh.2.2])
  (fun gh Gl=>(gh.1≤3)∧(gh.2.2=h.some gh.1)) (fun gh=>3-gh.1) (0,_,_) [(20,true,_)] [_,_]
  (aA rfl (aO rfl (aA rfl eZ)))
  (mS .here rfl (mS .here rfl (mS .here rfl mN))) ?_ ?_
 ·refine ⟨?_,?_⟩
  ·(try dsimp only)<;>(first|omega|rfl|assumption|(simp; done))
  (try dsimp only)<;>(rw [eL13]; rfl)
 intro gh N0 Gl0 hN0 hGl0 hF0
 obtain ⟨k,v,L⟩:=gh; dsimp only at hF0 hN0 ⊢
 obtain ⟨hk,eL⟩:=hF0
 have lL:L.length=6+8*k:=by rw [eL,Hd.some_len]
 refine .g (cP rfl rfl rfl rfl (.g (cD rfl (fun c1=>?_) (fun c1=>?_))))
 ·have c1k:=c1
  try simp only [aD,aE] at c1
  refine .g (ix rfl .no aWK bI (.u rfl) (.u rfl) (by omega) (by omega) (fun _=>aNG (by omega)) ?_)
  refine aS rfl rfl (.nc ?_)
  refine tF .here (by first|(intro b hb; cases hb; done) | simp [keys,Res.keys]) ?_; intro GfR13 hR13 hleR13 evR13 hsR13; subst evR13
  refine .g (kc rfl wM (aB rfl (aB rfl (aB rfl aF))) (mX (tJ L _ _ 8 _ hsR13 (by omega) (by decide))) ?_)
  rintro v26 G26 μ26 hG26 ⟨L26,ov26,eL26,rfl⟩
  refine .g (aW (((k+1):Nat):Int) rfl rfl rfl rfl ?_)
  refine .g (aT (k+1,v26,L26) ?_ ?_ ?_ ?_ ?_)
  ·exact (aA rfl (aO rfl (aA rfl eZ)))
  ·exact (mS .here rfl (mS .here rfl (mS .here rfl mN)))
  ·first|omega|(dsimp only; omega)
  ·exact ((hGl0).trans hleR13).trans hG26
  refine ⟨?_,?_⟩
  ·(try dsimp only)<;>(first|omega|rfl|assumption|(simp; done))
  (try dsimp only)<;>(rw [eL26,eL,zR]; rfl)
 have c1k:=c1
 try simp only [aD,aE] at c1
 refine .exit (.xcode (.xlp (.xblk (.code (.seq (bF rfl rfl (mV rfl rfl (aS rfl rfl (.nc (.ret (We.fin Tryz.results138 (.tmp rfl .nil) (mS .here rfl mN) ?_)))))))))))
 obtain rfl:k=3:=by omega
 exact ⟨L,by rw [eL,aNF],rfl⟩
theorem aQ9 {G:PM} {b T:Nat} {hk h1:Sh} {key L1:List Y} (hle:PM.le G (G.add b (cl [h1.val L1.length] T))) (hsk:SlR G 1 aU hk key) (hs:SlR G 1 aU h1 L1) (hK:RdNP G 6 0 (wa 64 kW)) (hlk:key.length≤140737488351232) (hl:L1.length≤1000000000000000) :
  Ct Tryz.prog 381 ([hk.val key.length,.slice (some ⟨b,0,none⟩) 1 1]:List Value).toArray (G.add b (cl [h1.val L1.length] T)) [] (fun _ μ' u=>μ'=[]∧u=.agg (ba 32 (sQ key L1)).toArray):=by
 have h:=aEs key hk [(h1,L1)] ⟨some ⟨b,0,none⟩,1⟩ _ (hsk.mono hle) (SlP.one hle hs) (hK.mono hle) hlk (by simpa [cO] using hl) (by simp)
 rw [show cO [(h1,L1)]=L1 by simp [cO]] at h
 exact h
theorem aLk (salt:List Y) (hk:Sh) (xs:List Y) (h:Sh) (G:PM) (hsk:SlR G 1 aU hk salt) (hs:SlR G 1 aU h xs) (hK:RdNP G 6 0 (wa 64 kW)) (hlk:salt.length≤140737488351232) (hl:xs.length≤1000000000000000):Ct Tryz.prog 348 ([hk.val salt.length,h.val xs.length]:List Value).toArray G [] (fun _ μ' u=>μ'=[]∧u=.agg (ba 32 (sQ salt xs)).toArray):=by
 refine Ct.of Tryz.func348 rfl Tryz.ntmps348 rfl fun w0 hs0=>?_
 refine .seq (aP rfl rfl ?_)
 refine al rfl jN ?_; intro b4
 refine .nil (.code (.seq (mR rfl rfl (mV rfl rfl (mV rfl rfl ?_)))))
 refine Go.Tan.b1 rfl jZ oE (.u rfl) rfl rfl (by decide) ?_; intro b7
 refine kp rfl .no aGb (aB rfl (aB rfl aF)) (Gp.add .here Gp.nil) (fun _ hle hq=>aQ9 hle hsk hs hK hlk hl) ?_
 refine sW rfl rfl rfl rfl iO aC ?_
 refine .nil (.code (.ret (aN Tryz.results348 (.cell rfl (fun w hw=>bE fF (RdN.own .here) ((by first|exact qE|exact qL|rfl)) hw) .nil) ?_)))
 exact ⟨rfl,rfl⟩
theorem SlP.three {G:PM} {b T:Nat} {h1 h2 h3:Sh} {L1 L2 L3:List Y} (hle:PM.le G (G.add b (cl [h1.val L1.length,h2.val L2.length,h3.val L3.length] T))) (hs:SlR G 1 aU h1 L1) (hs2:SlR G 1 aU h2 L2) (hs3:SlR G 1 aU h3 L3) :
  SlP (G.add b (cl [h1.val L1.length,h2.val L2.length,h3.val L3.length] T)) ⟨some ⟨b,0,none⟩,3⟩ [(h1,L1),(h2,L2),(h3,L3)] :=
 ⟨gX (T:=T) (cH _ _ _) (fun _ _=>rfl) (by simp),fun p hp=>by
  simp only [List.mem_cons,List.not_mem_nil,or_false] at hp
  rcases hp with rfl|rfl|rfl
  ·exact hs.mono hle
  ·exact hs2.mono hle
  ·exact hs3.mono hle⟩
theorem aRA {G:PM} {b c T T' E lo:Nat} {hk hu s:Sh} {key use L:List Y} {y:Y} (hsk:SlR G 1 aU hk key) (hsu:SlR G 1 aU hu use) (hK:RdNP G 6 0 (wa 64 kW)) (hlo:lo≤L.length) (hlk:key.length≤140737488351232) (hl:L.length+use.length≤100000000000000) :
  Ct Tryz.prog 381 ([hk.val key.length,.slice (some ⟨c,0,none⟩) 3 3]:List Value).toArray G [rB (s.val L.length) E L,.blk b (cl [V y] T),.blk c (cl [(s.cut lo 1).val (L.length-lo),hu.val use.length,.slice (some ⟨b,0,none⟩) 1 1] T')]
   (fun _ μ' u=>∃ ν,μ'=rB (s.val L.length) E L :: ν∧∃ ν2,ν=.blk b (cl [V y] T) :: ν2∧∃ ν3,ν2=.blk c (cl [(s.cut lo 1).val (L.length-lo),hu.val use.length,.slice (some ⟨b,0,none⟩) 1 1] T') :: ν3∧ν3=[]∧u=.agg (ba 32 (sQ key (L.drop lo++use++[y]))).toArray) :=
 aAy (fun s' G2 hle hv hs=>aFr (fun h1=>aFr (fun h2=>by
  obtain rfl:=aNQ hv
  have e1:SlR G2 1 aU (s.cut lo 1) (L.drop lo):=by
   have:=hs.cutn (lo:=lo) (m:=L.length-lo) (by omega)
   rwa [List.take_of_length_le (by simp)] at this
  have e2:SlR (G2.add b (cl [V y] T)) 1 aU ⟨some ⟨b,0,none⟩,1⟩ [y]:=gX (T:=T) (cH _ _ _) (fun _ _=>rfl) (by simp)
  have e3:L.length-lo=(L.drop lo).length:=by simp
  rw [e3] at h2 ⊢
  have hP:=SlP.three (h1:=s.cut lo 1) (h2:=hu) (h3:=⟨some ⟨b,0,none⟩,1⟩) h2 (e1.mono h1) ((hsu.mono hle).mono h1) e2
  have h:=aEs key hk _ ⟨some ⟨c,0,none⟩,3⟩ _ (((hsk.mono hle).mono h1).mono h2) hP (((hK.mono hle).mono h1).mono h2) hlk (by simp [cO]; omega) (by simp)
  rw [show cO [((s.cut lo 1),L.drop lo),(hu,use),((⟨some ⟨b,0,none⟩,1⟩ : Sh),[y])]=L.drop lo++use++[y] by simp [cO]] at h
  exact h)))
theorem aLj (key:List Y) (hk:Sh) (use:List Y) (hu:Sh) (G:PM) (hsk:SlR G 1 aU hk key) (hsu:SlR G 1 aU hu use) (hK:RdNP G 6 0 (wa 64 kW)) (hlk:key.length≤1000) (hl:use.length≤1000000):Ct Tryz.prog 349 ([hk.val key.length,hu.val use.length,.int .i64 ((64:Nat):Int)]:List Value).toArray G [] (fun G' μ' u=>∃ s L,L=rZ key use 2∧μ'=[]∧u=.tuple #[s.val L.length,.int .i64 0]∧SlR G' 1 aU s L):=by
 refine Ct.of Tryz.func349 rfl Tryz.ntmps349 rfl fun w0 hs0=>?_
 refine .g (cP rfl rfl rfl rfl (mV rfl rfl (mv rfl (.f rfl rfl) (.u rfl) (cp rfl (.f rfl rfl) (.s rfl) (.u rfl) rfl (cF rfl .no (.u rfl) (.s rfl) (.g (cD rfl (fun c1=>?_) (fun c1=>?_))))))))
 ·have c1k:=c1
  exact absurd c1 (by decide)
 have c1k:=c1
 try simp only [aD,aE] at c1
 refine .g (aW (((64+32):Nat):Int) rfl rfl rfl rfl ?_)
 refine mkY (0) ((64+32)) rfl aX cG (.u rfl) (.u rfl) (by first|rfl|omega) (by first|rfl|omega) (by omega) (by omega) ?_; intro b19
 have lR19:(List.replicate (0) (0#8:Y)).length=0:=List.length_replicate
 refine aS rfl rfl (.nc (.seq (.seq (aP rfl rfl (aS rfl rfl (.nc (.block ?_)))))))
 refine aV (α:=Nat×Value×List Y) (fun gh=>[(8,true,gh.2.1),(9,true,V (BitVec.ofNat 8 (gh.1+1)))]) (fun gh=>[rB gh.2.1 5 gh.2.2])
  (fun gh Gl=>(gh.1≤2)∧(gh.2.2=rZ key use gh.1)) (fun gh=>2-gh.1) (0,_,_) [(0,true,_),(1,true,_),(2,true,_)] []
  (aA rfl (aA rfl (aA rfl (aA rfl (aA rfl eZ)))))
  (mS .here rfl mN) ?_ ?_
 ·refine ⟨?_,?_⟩
  ·(try dsimp only)<;>(first|omega|rfl|assumption|(simp; done))
  (try dsimp only)<;>(rfl)
 intro gh N0 Gl0 hN0 hGl0 hF0
 obtain ⟨j,v,L⟩:=gh; dsimp only at hF0 hN0 ⊢
 obtain ⟨hj,eL⟩:=hF0
 have hsk:=hsk.mono hGl0
 have hsu:=hsu.mono hGl0
 have hK:=hK.mono hGl0
 have lL:L.length=32*j:=by rw [eL,aBz]
 refine .g (lr rfl .no dW (.u rfl) .here ?_)
 refine .p (cP rfl rfl rfl rfl (.g (cD rfl (fun c2=>?_) (fun c2=>?_))))
 ·have c2k:=c2
  try simp only [aD,aE] at c2
  refine .skip (.code (.seq (.block (.seq ?_))))
  refine vV .here ?_; intro sR19 bbR19 evR19 lcR19 oaR19; subst evR19
  refine .g (lr rfl .no dW (.u rfl) .here ?_)
  refine aR rfl rfl rfl rfl ?_
  refine mAq ((32*j-32:Nat):Int) rfl (.u rfl) (.u rfl) (by split<;>omega) ?_
  refine sd rfl .no aX (.u rfl) (.u rfl) (by omega) (by omega) ?_
  refine mV rfl rfl (mV rfl rfl ?_)
  refine Go.Tan.b1 rfl aX cG (.u rfl) rfl rfl (by decide) ?_; intro b35
  refine Go.Tan.bN rfl jZ oE (Evp.cons (.u rfl) (Evp.cons (.u rfl) (Evp.cons (.u rfl) Evp.nil))) rfl (by decide) (by simp [Value.oneCell',Sh.val]) ?_; intro b36
  refine ka rfl (.inr rfl) aGb (aB rfl (aB rfl aF)) (jI aM aC .here) (aRA (lo:=32*j-32) hsk hsu hK (by omega) (by omega) (by omega)) ?_
  rintro _ G37 μ37 hG37 ⟨_,rfl,_,rfl,_,rfl,rfl,rfl⟩
  refine al rfl jN ?_; intro b10
  refine sW rfl rfl rfl rfl iO .here ?_
  refine .g (rC rfl .no nX (.u rfl) (eY rfl aX cG (.u rfl) (.u rfl) aC (Sc.arr .here) (by (try simp only [cC,cY]); omega) ?_))
  intro v40 L40 ov40 eL40
  have lL40:L40.length=L.length+32:=by rw [eL40,List.length_append]; first|rfl | simp [cY]
  refine .g (bw (k:=.u8) (b:=1#8) rfl .no rfl (.u rfl) (.u rfl) rfl (.g (aT (j+1,v40,L40) ?_ ?_ ?_ ?_ ?_)))
  ·exact (aA rfl (dY rfl (by show V (BitVec.ofNat 8 (j+1)+1#8)=_; rw [← BitVec.ofNat_add]) (aA rfl (aA rfl (aA rfl eZ)))))
  ·exact (mS .here rfl mN)
  ·first|omega|(dsimp only; omega)
  ·exact (hGl0).trans hG37
  refine ⟨?_,?_⟩
  ·(try dsimp only)<;>(first|omega|rfl|assumption|(simp; done))
  (try dsimp only)<;>(rw [eL40,eL,aPR]; rfl)
 have c2k:=c2
 try simp only [aD,aE] at c2
 refine .exit (.xcode (.xlp (.xblk (.code (.seq ?_)))))
 refine tF .here (by first|(intro b hb; cases hb; done) | simp [keys,Res.keys]) ?_; intro GfR19 hR19 hleR19 evR19 hsR19; subst evR19
 refine gM rfl rfl (mV rfl rfl (mV rfl rfl (mV rfl rfl ?_)))
 refine kM 64 rfl aX hsR19 (.u rfl) (.u rfl) (.u rfl) (by omega) ?_; intro h44 L44 eL44 lL44 hs44
 refine aS rfl rfl (aS rfl rfl (.nc (.ret (aN Tryz.results349 (.tmp rfl (.tmp rfl .nil)) ?_))))
 obtain rfl:j=2:=by omega
 exact ⟨h44,L44,by rw [eL44,eL]; exact List.take_of_length_le (by rw [aBz]; omega),rfl,rfl,hs44⟩
theorem aM5:dV Tryz.prog 254=some (ba 32 (fun _=>0#8)++ba 32 (fun _=>0#8)):=by kernel_rfl
theorem aYX:aJ Tryz.prog 348=true:=by kernel_rfl
theorem aYY:aJ Tryz.prog 349=true:=by kernel_rfl
theorem aWZ:cX Tryz.prog 254 [0,1]=some (ba 32 (fun _=>0#8)++ba 32 (fun _=>0#8),[(0,32),(32,32)]):=by kernel_rfl
theorem aMz:cI Tryz.prog 254=some 64:=by kernel_rfl
theorem rL:bY Tryz.prog 161=some (some 5):=by kernel_rfl
theorem aBB:aJ Tryz.prog 138=true:=by kernel_rfl
theorem aYL:aJ Tryz.prog 307=true:=by kernel_rfl
theorem aLh (root:Nat→Y) (use:List Y) (hu:Sh) (G:PM) (hsu:SlR G 1 aU hu use) (hK:RdNP G 6 0 (wa 64 kW)) (hl:use.length≤1000000):Ct Tryz.prog 307 ([.agg (ba 32 root).toArray,hu.val use.length]:List Value).toArray G [] (fun _ μ' u=>μ'=[]∧u=.agg (ba 32 (pK root use)++ba 32 (pL root use)).toArray):=by
 refine Ct.of Tryz.func307 rfl Tryz.ntmps307 rfl fun w0 hs0=>?_
 refine .seq (bF rfl rfl ?_)
 refine bX rfl rfl rfl ?_; intro b2
 refine al rfl aM5 ?_; intro b4
 refine .nil (.code (.seq ?_))
 refine fE aC (by intro b hb; cases hb) ?_; intro Gfb2 hleb2 hbb2
 have hsu:=hsu.mono hleb2
 have hK:=hK.mono hleb2
 refine gM rfl rfl ?_
 refine Go.Tan.bN rfl aX cG (Evp.cons (.u rfl) (Evp.cons (.u rfl) (Evp.cons (.u rfl) (Evp.cons (.u rfl) (Evp.cons (.u rfl) (Evp.cons (.u rfl) (Evp.cons (.u rfl) (Evp.cons (.u rfl) Evp.nil)))))))) rfl (by decide) (by simp [Value.oneCell',Sh.val]) ?_; intro b8
 refine mkS aFN rfl rfl aL1 (.u rfl) .here rfl rfl (by decide) ?_; intro G9 hG9 hs9
 have hsu:=hsu.mono hG9
 have hK:=hK.mono hG9
 have hbb2:=hbb2.mono hG9
 refine kA rfl .no nX (.u rfl) hbb2 (by first|exact qJ|exact pE|exact qH) ?_; intro h10 L10 eL10 lL10 hs10
 refine kV rfl aYX (aB rfl (aB rfl aF)) (aLk aFN _ L10 h10 _ hs9 hs10 hK (by decide) (by omega)) ?_
 refine al rfl jN ?_; intro b5
 refine sW rfl rfl rfl rfl iO .here ?_
 refine .nil (.code (.seq ?_))
 refine fE .here (by intro b hb; cases hb) ?_; intro Gfb5 hleb5 hbb5
 have hsu:=hsu.mono hleb5
 have hK:=hK.mono hleb5
 refine rq8 rfl rfl ?_
 refine kA rfl .no nX (.u rfl) hbb5 (by first|exact qJ|exact pE|exact qH) ?_; intro h13 L13 eL13 lL13 hs13
 refine .p (kc rfl aYY (aB rfl (aB rfl (aB rfl aF))) (aLj L13 h13 use hu _ hs13 hsu hK (by omega) hl) ?_)
 rintro _ G15 μ15 hG15 ⟨h15,L15,eL15,rfl,rfl,hs15⟩
 refine .p (eX rfl rfl rfl (eX rfl rfl rfl (aS rfl rfl ?_)))
 have lL15:L15.length=64:=by rw [eL15,aBz]
 refine .g (bZ (mc:=⟨false,false⟩) [0,1,2,3,4,5,6,7,8,9] aY (by kernel_rfl) ?_)
 refine .p (kE (32) rfl .no aX hs15 (.u rfl) (.u rfl) (by omega) (by omega) ?_)
 intro h19 L19 eL19 lL19 hs19
 have lL19:=lL19 rfl
 refine spS rfl .no aC5 hs19 (.u rfl) (by omega) (by decide) ?_
 refine lA rfl .no aC2 (.u rfl) (fun _=>(hs19.arr (m:=32) (by omega)).rd) (fun _=>bR _ _) ?_
 refine .p (kD (32) rfl .no aX hs15 (.u rfl) (.u rfl) (by omega) (by omega) ?_)
 intro h23 L23 eL23 lL23 hs23
 have lL23:=lL23 rfl
 refine spS rfl .no aC5 hs23 (.u rfl) (by omega) (by decide) ?_
 refine lA rfl .no aC2 (.u rfl) (fun _=>(hs23.arr (m:=32) (by omega)).rd) (fun _=>bR _ _) ?_
 refine dK (ba 32 (fun i=>L19.getD i 0)++ba 32 (fun i=>L23.getD i 0)) rfl .no aWZ (.cons (.u rfl) rfl (.cons (.u rfl) rfl .nil)) rfl (aQQ (by decide) _ _) ?_
 refine sw rfl (.u rfl) (.u rfl) rfl aMz .here (by first|exact qE|exact qL|rfl) (aIs _ _) ?_
 refine .nil (.code (.ret (aN Tryz.results307 (.cell rfl (fun w hw=>bE aFy (RdN.own .here) ((by first|exact qE|exact qL|rfl)) hw) .nil) ?_)))
 have e:L15=xF root use:=by rw [eL15,eL13,eL10]; rfl
 exact ⟨rfl,congrArg (fun z=>Value.agg (List.toArray z)) (aQO e eL19 eL23)⟩
theorem aNH (root:Nat→Y) (h:Hd) (G:PM) (hK:RdNP G 6 0 (wa 64 kW)):Ct Tryz.prog 219 ([.agg (ba 32 root).toArray,.agg ([V h.kind,V h.level,uv .u64 h.gen,uv .u64 h.epoch,uv .u64 h.num]:List Value).toArray]:List Value).toArray G [] (fun _ μ' u=>μ'=[]∧u=.agg (ba 32 (pK root (gR h))++ba 32 (pL root (gR h))).toArray):=by
 refine Ct.of Tryz.func219 rfl Tryz.ntmps219 rfl fun w0 hs0=>?_
 refine .seq (dQ rfl rfl ?_)
 refine bX rfl rfl rfl ?_; intro b2
 refine bX rfl rfl rfl ?_; intro b3
 refine al rfl aM5 ?_; intro b4
 refine .g (bZ (mc:=⟨false,false⟩) [0,1,2,3,4] aY (by kernel_rfl) ?_)
 refine lB rfl fF rfl aM ?_
 refine lB rfl rL rfl aC ?_
 refine kc rfl aBB (aB rfl aF) (Ct.frzB (aAX h _)) ?_
 rintro _ G7 μ7 hG7 ⟨h7,L7,eL7,rfl,rfl,hs7⟩
 have hK:=hK.mono hG7
 refine kV rfl aYL (aB rfl (aB rfl aF)) (aLh root L7 h7 _ hs7 hK (by rw [eL7,oI]; decide)) ?_
 refine sw rfl (.u rfl) (.u rfl) rfl aMz .here (by first|exact qE|exact qL|rfl) (aIs _ _) ?_
 refine .nil (.code (.ret (aN Tryz.results219 (.cell rfl (fun w hw=>bE aFy (RdN.own .here) ((by first|exact qE|exact qL|rfl)) hw) .nil) ?_)))
 subst eL7
 exact ⟨rfl,rfl⟩
theorem aXv:aJ Tryz.prog 219=true:=by kernel_rfl
theorem aYJ:aJ Tryz.prog 293=true:=by kernel_rfl
theorem aYI:aJ Tryz.prog 292=true:=by kernel_rfl
theorem aDM:aJ Tryz.prog 294=true:=by kernel_rfl
theorem aLB (root:Nat→Y) (h:Hd) (n:BitVec 64) (p:List Y) (hp:Sh) (G:PM) (hs:SlR G 1 aU hp p) (hK:RdNP G 6 0 (wa 64 kW)):Ct Tryz.prog 206 ([.agg (ba 32 root).toArray,.agg ([V h.kind,V h.level,uv .u64 h.gen,uv .u64 h.epoch,uv .u64 h.num]:List Value).toArray,uv .u64 n,hp.val p.length]:List Value).toArray G [] (fun _ μ' u=>∃ v L e,(L,e)=sJ root h n p∧μ'=[rB v 5 L]∧u=.tuple #[v,.int .i64 e]):=by
 refine Ct.of Tryz.func206 rfl Tryz.ntmps206 rfl fun w0 hs0=>?_
 refine .seq (dI rfl rfl ?_)
 refine bX rfl rfl rfl ?_; intro b4
 refine bX rfl rfl rfl ?_; intro b5
 refine .g (lE rfl dW rfl (cP rfl rfl rfl rfl (.g (cD rfl (fun c1=>?_) (fun c1=>?_)))))
 ·have c1k:=c1
  try simp only [aD,aL,aE] at c1
  refine .seq (bF rfl rfl (aS rfl rfl (aS rfl rfl (.nc (.ret (aCr 5 ?_))))))
  refine We.fin Tryz.results206 (.tmp rfl (.tmp rfl .nil)) (mS .here rfl mN) ?_
  exact ⟨_,[],4,aQd (by omega),rfl,rfl⟩
 have c1k:=c1
 try simp only [aD,aL,aE] at c1
 refine .g (bZ (mc:=⟨false,false⟩) [0,1,3,5,7,2,4,6,8,9] aY (by kernel_rfl) ?_)
 refine lB rfl fF rfl aC ?_
 refine lB rfl rL rfl .here ?_
 refine .p (lB rfl rL rfl .here ?_)
 refine .p (kV rfl aXv (aB rfl (aB rfl aF)) (aNH root h _ hK) ?_)
 refine kV rfl aYJ (aB rfl aF) (aNK _ _) ?_
 refine kc rfl aBB (aB rfl aF) (Ct.frzB (aAX h _)) ?_
 rintro _ G25 μ25 hG25 ⟨h25,L25,eL25,rfl,rfl,hs25⟩
 have hs:=hs.mono hG25
 have hK:=hK.mono hG25
 refine kc rfl aYI (aB rfl (aB rfl (aB rfl (aB rfl aF)))) (mX (aNP (pK root (gR h)) (pL root (gR h)) (mM n) L25 h25 p hp _ hs25 hs hK (by rw [eL25,oI]; decide) (by omega))) ?_
 rintro v27 G27 μ27 hG27 ⟨L27,ov27,eL27,rfl⟩
 refine aS rfl rfl (.nil ?_)
 have lL27:L27.length=p.length+16:=by rw [eL27,aKY]
 refine .code (.seq ?_)
 refine tF .here (by first|(intro b hb; cases hb; done) | simp [keys,Res.keys]) ?_; intro GfR27 hR27 hleR27 evR27 hsR27; subst evR27
 refine aP rfl rfl (aS rfl rfl (.nc (.seq (.seq (aCt 5 ?_)))))
 refine aP rfl rfl (aS rfl rfl (.nc (.block ?_)))
 refine aV (α:=Nat×Sh×List Y×Value×List Y) (fun gh=>[(10,true,gh.2.1.val gh.2.2.1.length),(11,true,gh.2.2.2.1),(12,true,.bool (decide (gh.1=0)))]) (fun gh=>[rB gh.2.2.2.1 5 gh.2.2.2.2])
  (fun gh Gl=>(SlR Gl 1 aU gh.2.1 gh.2.2.1)∧(gh.2.2.1=L27.drop (128*gh.1))∧(gh.2.2.2.2=qY L27 gh.1)∧(128*gh.1≤L27.length+127)) (fun gh=>gh.2.2.1.length) (0,_,_,.slice none 0 0,[]) [] [_,_]
  (aA rfl (aA rfl (aA rfl eZ)))
  (mS .here rfl (mS .here rfl (mS .here rfl mN))) ?_ ?_
 ·refine ⟨?_,?_,?_,?_⟩
  ·(try dsimp only)<;>(exact hsR27)
  ·(try dsimp only)<;>(rfl)
  ·(try dsimp only)<;>(rfl)
  (try dsimp only)<;>(first|omega|rfl|assumption|(simp; done))
 intro gh N0 Gl0 hN0 hGl0 hF0
 obtain ⟨j,r,M,v,O⟩:=gh; dsimp only at hF0 hN0 ⊢
 obtain ⟨hr,eM,eO,hj⟩:=hF0
 have lM:M.length=L27.length-128*j:=by rw [eM]; simp
 have lO9:=aJs L27 j
 rw [← eO] at lO9
 refine .g (lE rfl dW rfl (cP rfl rfl rfl rfl (.g (cD rfl (fun c2=>?_) (fun c2=>?_)))))
 ·have c2k:=c2
  try simp only [aD,aL,aE] at c2
  refine .g (lE rfl dW rfl (xT (M.length) (128) rfl .no (.u rfl) (.u rfl) (by omega) (by omega) ?_))
  refine .g (lE rfl dW rfl (cP rfl rfl rfl rfl (aS rfl rfl (.nc (.block (.seq (mR rfl rfl (mV rfl rfl (mV rfl rfl (mv rfl (.t rfl rfl) (.u rfl) (cW rfl .no (.u rfl) (.s rfl) (.g (cD rfl (fun c3=>?_) (fun c3=>?_))))))))))))))
  ·have c3k:=c3
   try simp only [aD,aL,aE] at c3
   refine .g (bZ (mc:=⟨false,false⟩) [0,1,2,3,4,7,8,9,5,6,10,11] aY (by kernel_rfl) ?_)
   refine .p (kE ((min M.length 128)) rfl .no aX hr (.u rfl) (.u rfl) (by omega) (by omega) ?_)
   intro h51 L51 eL51 lL51 hs51
   have lL51:=lL51 rfl
   refine .p (kE ((min M.length 128)) rfl .no aX hr (.u rfl) (.u rfl) (by omega) (by omega) ?_)
   intro h56 L56 eL56 lL56 hs56
   have lL56:=lL56 rfl
   refine kc rfl aDM (aB rfl (aB rfl aF)) (Ct.frzB (aCs 1#8 L51 h51 _ hs51 (by omega))) ?_
   rintro _ G52 μ52 hG52 ⟨h52,L52,eL52,rfl,rfl,hs52⟩
   have hr:=hr.mono hG52
   have hs51:=hs51.mono hG52
   have hs56:=hs56.mono hG52
   have lL52:L52.length=7:=by rw [eL52]; exact aAL _ _
   refine eY rfl aX cG (.u rfl) (.u rfl) .here hs52.sc (by (try simp only [cC,cY]); omega) ?_
   intro v53 L53 ov53 eL53
   have lL53:L53.length=O.length+L52.length:=by rw [eL53,List.length_append]
   refine eY rfl aX cG (.u rfl) (.u rfl) .here hs56.sc (by (try simp only [cC,cY]); omega) ?_
   intro v57 L57 ov57 eL57
   have lL57:L57.length=L53.length+L56.length:=by rw [eL57,List.length_append]
   refine .g (kD ((min M.length 128)) rfl .no aX hr (.u rfl) (.u rfl) (by omega) (by omega) ?_)
   intro h60 L60 eL60 lL60 hs60
   have lL60:=lL60 rfl
   refine .g (aT (j+1,h60,L60,v57,L57) ?_ ?_ ?_ ?_ ?_)
   ·exact (aA rfl (aA rfl (dY rfl (by simp) eZ)))
   ·exact (mS .here rfl (mS .here rfl (mS .here rfl mN)))
   ·first|omega|(dsimp only; omega)
   ·exact (hGl0).trans hG52
   refine ⟨?_,?_,?_,?_⟩
   ·(try dsimp only)<;>(exact hs60)
   ·(try dsimp only)<;>(rw [eL60,eM]; exact aBv)
   ·(try dsimp only)<;>(exact aCY eO eM eL51 eL56 eL52 eL53 eL57 (aQU (by omega) (by omega)))
   (try dsimp only)<;>(first|omega|rfl|assumption|(simp; done))
  have c3k:=c3
  try simp only [aD,aL,aE] at c3
  refine .g (cD rfl (fun c4=>?_) (fun c4=>?_))
  ·have c4k:=c4
   try simp only [aD,aL,aE] at c4
   refine .g (bZ (mc:=⟨false,false⟩) [0,1,2,3,4,7,8,9,5,6,10,11] aY (by kernel_rfl) ?_)
   refine .p (kE ((min M.length 128)) rfl .no aX hr (.u rfl) (.u rfl) (by omega) (by omega) ?_)
   intro h51 L51 eL51 lL51 hs51
   have lL51:=lL51 rfl
   refine .p (kE ((min M.length 128)) rfl .no aX hr (.u rfl) (.u rfl) (by omega) (by omega) ?_)
   intro h56 L56 eL56 lL56 hs56
   have lL56:=lL56 rfl
   refine kc rfl aDM (aB rfl (aB rfl aF)) (Ct.frzB (aCs 2#8 L51 h51 _ hs51 (by omega))) ?_
   rintro _ G52 μ52 hG52 ⟨h52,L52,eL52,rfl,rfl,hs52⟩
   have hr:=hr.mono hG52
   have hs51:=hs51.mono hG52
   have hs56:=hs56.mono hG52
   have lL52:L52.length=7:=by rw [eL52]; exact aAL _ _
   refine eY rfl aX cG (.u rfl) (.u rfl) .here hs52.sc (by (try simp only [cC,cY]); omega) ?_
   intro v53 L53 ov53 eL53
   have lL53:L53.length=O.length+L52.length:=by rw [eL53,List.length_append]
   refine eY rfl aX cG (.u rfl) (.u rfl) .here hs56.sc (by (try simp only [cC,cY]); omega) ?_
   intro v57 L57 ov57 eL57
   have lL57:L57.length=L53.length+L56.length:=by rw [eL57,List.length_append]
   refine .g (kD ((min M.length 128)) rfl .no aX hr (.u rfl) (.u rfl) (by omega) (by omega) ?_)
   intro h60 L60 eL60 lL60 hs60
   have lL60:=lL60 rfl
   refine .g (aT (j+1,h60,L60,v57,L57) ?_ ?_ ?_ ?_ ?_)
   ·exact (aA rfl (aA rfl (dY rfl (by simp) eZ)))
   ·exact (mS .here rfl (mS .here rfl (mS .here rfl mN)))
   ·first|omega|(dsimp only; omega)
   ·exact (hGl0).trans hG52
   refine ⟨?_,?_,?_,?_⟩
   ·(try dsimp only)<;>(exact hs60)
   ·(try dsimp only)<;>(rw [eL60,eM]; exact aBv)
   ·(try dsimp only)<;>(exact aCY eO eM eL51 eL56 eL52 eL53 eL57 (aQT (by omega) (by omega)))
   (try dsimp only)<;>(first|omega|rfl|assumption|(simp; done))
  have c4k:=c4
  try simp only [aD,aL,aE] at c4
  refine .g (cD rfl (fun c5=>?_) (fun c5=>?_))
  ·have c5k:=c5
   try simp only [aD,aL,aE] at c5
   refine .g (bZ (mc:=⟨false,false⟩) [0,1,2,3,4,7,8,9,5,6,10,11] aY (by kernel_rfl) ?_)
   refine .p (kE ((min M.length 128)) rfl .no aX hr (.u rfl) (.u rfl) (by omega) (by omega) ?_)
   intro h51 L51 eL51 lL51 hs51
   have lL51:=lL51 rfl
   refine .p (kE ((min M.length 128)) rfl .no aX hr (.u rfl) (.u rfl) (by omega) (by omega) ?_)
   intro h56 L56 eL56 lL56 hs56
   have lL56:=lL56 rfl
   refine kc rfl aDM (aB rfl (aB rfl aF)) (Ct.frzB (aCs 4#8 L51 h51 _ hs51 (by omega))) ?_
   rintro _ G52 μ52 hG52 ⟨h52,L52,eL52,rfl,rfl,hs52⟩
   have hr:=hr.mono hG52
   have hs51:=hs51.mono hG52
   have hs56:=hs56.mono hG52
   have lL52:L52.length=7:=by rw [eL52]; exact aAL _ _
   refine eY rfl aX cG (.u rfl) (.u rfl) .here hs52.sc (by (try simp only [cC,cY]); omega) ?_
   intro v53 L53 ov53 eL53
   have lL53:L53.length=O.length+L52.length:=by rw [eL53,List.length_append]
   refine eY rfl aX cG (.u rfl) (.u rfl) .here hs56.sc (by (try simp only [cC,cY]); omega) ?_
   intro v57 L57 ov57 eL57
   have lL57:L57.length=L53.length+L56.length:=by rw [eL57,List.length_append]
   refine .g (kD ((min M.length 128)) rfl .no aX hr (.u rfl) (.u rfl) (by omega) (by omega) ?_)
   intro h60 L60 eL60 lL60 hs60
   have lL60:=lL60 rfl
   refine .g (aT (j+1,h60,L60,v57,L57) ?_ ?_ ?_ ?_ ?_)
   ·exact (aA rfl (aA rfl (dY rfl (by simp) eZ)))
   ·exact (mS .here rfl (mS .here rfl (mS .here rfl mN)))
   ·first|omega|(dsimp only; omega)
   ·exact (hGl0).trans hG52
   refine ⟨?_,?_,?_,?_⟩
   ·(try dsimp only)<;>(exact hs60)
   ·(try dsimp only)<;>(rw [eL60,eM]; exact aBv)
   ·(try dsimp only)<;>(exact aCY eO eM eL51 eL56 eL52 eL53 eL57 (aQV (by omega) (by omega)))
   (try dsimp only)<;>(first|omega|rfl|assumption|(simp; done))
  have c5k:=c5
  try simp only [aD,aL,aE] at c5
  refine .g (bZ (mc:=⟨false,false⟩) [0,1,2,3,4,7,8,9,5,6,10,11] aY (by kernel_rfl) ?_)
  refine .p (kE ((min M.length 128)) rfl .no aX hr (.u rfl) (.u rfl) (by omega) (by omega) ?_)
  intro h51 L51 eL51 lL51 hs51
  have lL51:=lL51 rfl
  refine .p (kE ((min M.length 128)) rfl .no aX hr (.u rfl) (.u rfl) (by omega) (by omega) ?_)
  intro h56 L56 eL56 lL56 hs56
  have lL56:=lL56 rfl
  refine kc rfl aDM (aB rfl (aB rfl aF)) (Ct.frzB (aCs 3#8 L51 h51 _ hs51 (by omega))) ?_
  rintro _ G52 μ52 hG52 ⟨h52,L52,eL52,rfl,rfl,hs52⟩
  have hr:=hr.mono hG52
  have hs56:=hs56.mono hG52
  have lL52:L52.length=7:=by rw [eL52]; exact aAL _ _
  refine eY rfl aX cG (.u rfl) (.u rfl) .here hs52.sc (by (try simp only [cC,cY]); omega) ?_
  intro v53 L53 ov53 eL53
  have lL53:L53.length=O.length+L52.length:=by rw [eL53,List.length_append]
  refine eY rfl aX cG (.u rfl) (.u rfl) .here hs56.sc (by (try simp only [cC,cY]); omega) ?_
  intro v57 L57 ov57 eL57
  have lL57:L57.length=L53.length+L56.length:=by rw [eL57,List.length_append]
  refine .g (kD ((min M.length 128)) rfl .no aX hr (.u rfl) (.u rfl) (by omega) (by omega) ?_)
  intro h60 L60 eL60 lL60 hs60
  have lL60:=lL60 rfl
  refine .g (aT (j+1,h60,L60,v57,L57) ?_ ?_ ?_ ?_ ?_)
  ·exact (aA rfl (aA rfl (dY rfl (by simp) eZ)))
  ·exact (mS .here rfl (mS .here rfl (mS .here rfl mN)))
  ·first|omega|(dsimp only; omega)
  ·exact (hGl0).trans hG52
  refine ⟨?_,?_,?_,?_⟩
  ·(try dsimp only)<;>(exact hs60)
  ·(try dsimp only)<;>(rw [eL60,eM]; exact aBv)
  ·(try dsimp only)<;>(exact aCY eO eM eL51 eL56 eL52 eL53 eL57 (aQW (by omega) (by omega)))
  (try dsimp only)<;>(first|omega|rfl|assumption|(simp; done))
 have c2k:=c2
 try simp only [aD,aL,aE] at c2
 refine .exit (.xcode (.xlp (.xblk (.code (.seq (dQ rfl rfl (mV rfl rfl (aS rfl rfl (aS rfl rfl (.nc (.ret (We.fin Tryz.results206 (.tmp rfl (.tmp rfl .nil)) (mS .here rfl mN) ?_))))))))))))
 exact ⟨v,O,0,aQc (by omega) (by rw [eL27,eL25]) eO (by omega),rfl,rfl⟩
theorem aG1:bsT Tryz.prog 25 9=true:=by kernel_rfl
theorem aD5 (n:BitVec 64) (G:PM) (hn:n.toNat<10):Ct Tryz.prog 160 ([uv .u64 n]:List Value).toArray G [] (fun _ μ' u=>μ'=[]∧u=.string (cA (rF n.toNat))):=by
 refine Ct.of Tryz.func160 rfl Tryz.ntmps160 rfl fun w0 hs0=>?_
 refine .seq (aP rfl rfl (aS rfl rfl (.nc (.seq (aCt 5 ?_)))))
 refine aP rfl rfl (aS rfl rfl (.nc (.seq (.block ?_))))
 refine aV (α:=Nat×Value) (fun gh=>[(0,true,uv .u64 (pG n gh.1)),(3,true,gh.2)]) (fun gh=>[rB gh.2 5 (xG n.toNat gh.1)])
  (fun gh Gl=>(gh.1≤6)) (fun gh=>6-gh.1) (0,.slice none 0 0) [] []
  (aA rfl (aA rfl eZ))
  (mS .here rfl mN) ?_ ?_
 ·(try dsimp only)<;>(first|omega|rfl|assumption|(simp; done))
 intro gh N0 Gl0 hN0 hGl0 hF0
 obtain ⟨k,v⟩:=gh; dsimp only at hF0 hN0 ⊢
 have hk:=hF0
 have hl:=aOx (d:=n.toNat) hk; have hz:k=0∨@BitVec.toNat IntKind.u64.bits (pG n k)=0:=(Nat.eq_zero_or_pos k).imp id aOw
 refine .g (cP rfl rfl rfl rfl (mV rfl rfl (mv rfl (.f rfl rfl) (.u rfl) (lr rfl (.f rfl rfl) dW (.s rfl) .here ?_))))
 refine cp rfl (.f rfl rfl) (.s rfl) (.u rfl) rfl (cF rfl .no (.u rfl) (.s rfl) (.g (cD rfl (fun c1=>?_) (fun c1=>?_))))
 ·have c1k:=c1
  try simp only [aD,aL,aE] at c1
  refine .skip (.code (.seq (.block ?_)))
  refine vV .here ?_; intro sRB bbRB evRB lcRB oaRB; subst evRB
  refine .g (mw (k:=.u64) (b:=10#64) rfl .no (.u rfl) (.u rfl) (fun _=>show (10#64:BitVec 64)≠0#64 by decide) ?_)
  refine bw (k:=.u64) (a:=48#64) rfl .no rfl (.u rfl) (.u rfl) rfl (cu (k:=.u64) rfl .no rfl wD (.u rfl) ?_)
  refine Go.Tan.b1 rfl aX cG (.u rfl) rfl rfl (by decide) ?_; intro b17
  refine mV rfl rfl ?_
  refine apB [_] rfl aX cG (.u rfl) rfl rfl (.u rfl) .here (wV aC oaRB) (by show 1+(xG n.toNat k).length≤_; omega) ?_; intro v19 L19 ov19 eL19
  refine .g (dw (k:=.u64) (b:=10#64) rfl .no rfl (.u rfl) (.u rfl) (fun _=>show (10#64:BitVec 64)≠0#64 by decide) ?_)
  refine aS rfl rfl (.nil ?_)
  have hk6:k<6:=by omega
  refine aT (k+1,v19) ?_ ?_ ?_ ?_ ?_
  ·exact (dY rfl (congrArg (uv .u64) (aOv hn)) (aA rfl eZ))
  ·exact (mS .here (congrArg (rB v19 5) (eL19.trans (aOy hn hk6))) mN)
  ·first|omega|(dsimp only; omega)
  ·exact hGl0
  (try dsimp only)<;>(first|omega|rfl|assumption|(simp; done))
 have c1k:=c1
 try simp only [aD,aL,aE] at c1
 refine .exit (.xcode (.xlp (.xblk (.code (.seq ?_)))))
 refine vV .here ?_; intro sRB bbRB evRB lcRB oaRB; subst evRB
 refine .g (sB rfl .no aG1 (.u rfl) (fun _=>(wV .here oaRB)) ?_)
 refine aS rfl rfl (.nc (.ret (aN Tryz.results160 (.tmp rfl .nil) ?_)))
 obtain rfl:k=6:=by omega
 exact ⟨rfl,rfl⟩
end Go.Proofs.YtoifkgkandfeiaaGreatDoor
namespace Go.Tan
open Go.RowKit
def pH (s:ByteArray):List Value:=[.string s]
end Go.Tan
namespace Go.Proofs.YtoifkgkandfeiaaGreatDoor
open Go.Tan Go.RowKit
theorem tX:(bL Tryz.prog 97).isSome=true:=by kernel_rfl
theorem mG:bL Tryz.prog 97=some (9,1,16):=by kernel_rfl
theorem cQ:bY Tryz.prog 9=some none:=by kernel_rfl
theorem cE:jU Tryz.prog 9=true:=by kernel_rfl
theorem tY:(Tryz.prog.info? 9).bind (·.zero)=some (.string ByteArray.empty):=by kernel_rfl
theorem fG:bY Tryz.prog 4=some none:=by kernel_rfl
theorem aGU:aJ Tryz.prog 160=true:=by kernel_rfl
theorem zK:nN Tryz.prog 48=true:=by kernel_rfl
theorem aGe:aJ Tryz.prog 53=true:=by kernel_rfl
theorem aL7:aQ Tryz.prog 118 3=some 3:=by kernel_rfl
theorem aF4:aQ Tryz.prog 118 2=some 2:=by kernel_rfl
theorem oW:aQ Tryz.prog 118 0=some 0:=by kernel_rfl
theorem oU:bY Tryz.prog 116=some none:=by kernel_rfl
theorem qB:pO Tryz.prog 116=some 124:=by kernel_rfl
theorem aBR:(Tryz.prog.info? 124).bind (·.zero)=some (.agg #[.slice none 0 0,.int .i64 0]):=by kernel_rfl
theorem zQ:dV Tryz.prog 124=some ([.slice none 0 0,.int .i64 0]):=by kernel_rfl
theorem zN:cI Tryz.prog 124=some 2:=by kernel_rfl
theorem aL8:aQ Tryz.prog 118 4=some 4:=by kernel_rfl
theorem yY:aQ Tryz.prog 124 0=some 0:=by kernel_rfl
theorem aCN (k:Y) (n:BitVec 64) (G:PM) (hn:n.toNat<10):Ct Tryz.prog 102 ([V k,uv .u64 n]:List Value).toArray G [] (fun _ μ' u=>μ'=[]∧u=.string (bP k.toNat n.toNat)):=by
 refine Ct.of Tryz.func102 rfl Tryz.ntmps102 rfl fun w0 hs0=>?_
 have hk8:@BitVec.toNat IntKind.u8.bits k = @BitVec.toNat 8 k:=rfl
 refine .g (cP rfl rfl rfl rfl (.g (cD rfl (fun c1=>?_) (fun c1=>?_))))
 ·have c1k:=c1
  try simp only [aD,aE] at c1
  refine .g (kV rfl aGU (aB rfl aF) (aD5 n _ hn) ?_)
  refine sP rfl .no (.u rfl) (.u rfl) (fun _=>by rw [aBg]; show 6+4≤9223372036854775807; omega) ?_
  refine aS rfl rfl (.nc (.ret (aN Tryz.results102 (.tmp rfl .nil) ?_)))
  exact ⟨rfl,congrArg Value.string (aRj (by omega))⟩
 have c1k:=c1
 try simp only [aD,aE] at c1
 refine .g (cP rfl rfl rfl rfl (.g (cD rfl (fun c2=>?_) (fun c2=>?_))))
 ·have c2k:=c2
  try simp only [aD,aE] at c2
  refine .g (kV rfl aGU (aB rfl aF) (aD5 n _ hn) ?_)
  refine sP rfl .no (.u rfl) (.u rfl) (fun _=>by rw [aBg]; show 6+4≤9223372036854775807; omega) ?_
  refine aS rfl rfl (.nc (.ret (aN Tryz.results102 (.tmp rfl .nil) ?_)))
  exact ⟨rfl,congrArg Value.string (aRk (by omega))⟩
 have c2k:=c2
 try simp only [aD,aE] at c2
 refine .g (cP rfl rfl rfl rfl (.g (cD rfl (fun c3=>?_) (fun c3=>?_))))
 ·have c3k:=c3
  try simp only [aD,aE] at c3
  refine .g (kV rfl aGU (aB rfl aF) (aD5 n _ hn) ?_)
  refine sP rfl .no (.u rfl) (.u rfl) (fun _=>by rw [aBg]; show 9+6≤9223372036854775807; omega) ?_
  refine aS rfl rfl (.nc (.ret (aN Tryz.results102 (.tmp rfl .nil) ?_)))
  exact ⟨rfl,congrArg Value.string (aRl (by omega))⟩
 have c3k:=c3
 try simp only [aD,aE] at c3
 refine .g (cP rfl rfl rfl rfl (.g (cD rfl (fun c4=>?_) (fun c4=>?_))))
 ·have c4k:=c4
  try simp only [aD,aE] at c4
  refine .seq (aP rfl rfl (aS rfl rfl (.nc (.ret (aN Tryz.results102 (.tmp rfl .nil) ?_)))))
  exact ⟨rfl,congrArg Value.string (aRm (by omega))⟩
 have c4k:=c4
 try simp only [aD,aE] at c4
 refine .g (cP rfl rfl rfl rfl (.g (cD rfl (fun c5=>?_) (fun c5=>?_))))
 ·have c5k:=c5
  try simp only [aD,aE] at c5
  refine .seq (aP rfl rfl (aS rfl rfl (.nc (.ret (aN Tryz.results102 (.tmp rfl .nil) ?_)))))
  exact ⟨rfl,congrArg Value.string (aRn (by omega))⟩
 have c5k:=c5
 try simp only [aD,aE] at c5
 refine .skip (.blk (.code (.seq (aP rfl rfl (aS rfl rfl (.nc (.ret (aN Tryz.results102 (.tmp rfl .nil) ?_))))))))
 exact ⟨rfl,congrArg Value.string (aRi (by omega) (by omega) (by omega) (by omega) (by omega))⟩
theorem aEb (h:Sh) (l:List ByteArray) (G:PM) (hs:SlR G 1 pH h l) (hl:l.length≤1000000) (hg:∀ s∈l,jG s):Ct Tryz.prog 53 ([h.val l.length]:List Value).toArray G [] (fun _ μ' u=>μ'=[]∧u=.bool true):=by
 refine Ct.of Tryz.func53 rfl Tryz.ntmps53 rfl fun w0 hs0=>?_
 refine .g (lE rfl tX rfl (mV rfl rfl (.nc (.block ?_))))
 refine aV (α:=Nat) (fun k=>[(7,true,.int .i64 (k:Int))]) (fun _=>[])
  (fun k Gl=>(k≤l.length)) (fun k=>l.length-k) 0 [(5,true,_),(6,true,_)] []
  (aO rfl (aA rfl (aA rfl eZ)))
  mN ?_ ?_
 ·(try dsimp only)<;>(first|omega|rfl|assumption|(simp; done))
 intro k N0 Gl0 hN0 hGl0 hF0
 try dsimp only at hF0 hN0 ⊢
 have hk:=hF0
 have hs:=hs.mono hGl0
 refine .g (cP rfl rfl rfl rfl (.g (cD rfl (fun c1=>?_) (fun c1=>?_))))
 ·have c1k:=c1
  try simp only [aD,aL,aE] at c1
  refine .skip (.code (.seq (.block (.seq (dQ rfl rfl (ih rfl .no mG (.u rfl) (.u rfl) (by omega) (by omega) (fun _=>hs.nn (k:=k) (by first|omega|(simp only [Bool.and_eq_true,decide_eq_true_eq] at hc; omega)|(simp only [List.length_cons,List.length_nil]; omega))) ?_))))))
  obtain ⟨x,ex⟩:=dT (k:=k) (xs:=l) (by omega)
  have hx:=hg x (List.mem_of_getElem? ex)
  refine lN rfl cQ rfl ((hs.at (by omega) ex 0 _ rfl).rd) (.g (cs rfl .no (.u rfl) (.u rfl) rfl (mV rfl rfl (mv rfl (.f rfl rfl) (.u rfl) (ls rfl (.f rfl rfl) cE (.s rfl) (cp rfl (.f rfl rfl) (.s rfl) (.u rfl) rfl (cF rfl .no (.u rfl) (.s rfl) (.g (cD rfl (fun c2=>?_) (fun c2=>?_))))))))))
  ·have c2k:=c2
   rw [aUc hx.1] at c2; have hx2:=hx.2; simp at c2; omega
  have c2k:=c2
  try simp only [aD,aL,aE] at c2
  refine .g (aW (((k+1):Nat):Int) rfl rfl rfl rfl ?_)
  refine .g (aT (k+1) ?_ ?_ ?_ ?_ ?_)
  ·exact (aO rfl (aA rfl (aA rfl eZ)))
  ·exact mN
  ·first|omega|(dsimp only; omega)
  ·exact hGl0
  (try dsimp only)<;>(first|omega|rfl|assumption|(simp; done))
 have c1k:=c1
 try simp only [aD,aL,aE] at c1
 refine .exit (.xcode (.xlp (.xblk (.code (.seq (aP rfl rfl (aS rfl rfl (.nc (.ret (aN Tryz.results53 (.tmp rfl .nil) ?_))))))))))
 exact ⟨rfl,rfl⟩
theorem aFA (bd bm room done clk:Nat) (F:List Fi) (G:PM) (hD:DkR F clk) (hd9:done≤1000000000) (hr9:room≤1000000000) (nm:ByteArray) (there:Bool) (h:Sh) (l:List ByteArray) (hs:SlR G 1 pH h l) (hl:l.length≤1000000) (hg:∀ s∈l,jG s) (hn:jG nm) (ht:there=true→(cV nm F).isSome=true):Ct Tryz.prog 55 ([.pointer (some ⟨bd,0,none⟩),.string nm,.bool there,h.val l.length]:List Value).toArray G [.blk bd (cl (cS bm room (done)) 118),.blk bm (mO ((F).map Fi.fe) (clk))] (fun _ μ' u=>μ'=[.blk bd (cl (cS bm room (done)) 118),.blk bm (mO ((F).map Fi.fe) (clk))]∧u=.int .i64 0):=by
 refine Ct.of Tryz.func55 rfl Tryz.ntmps55 rfl fun w0 hs0=>?_
 refine .g (pe rfl .no zK (.u rfl) (.u rfl) ?_)
 refine .g (jE rfl rfl ?_)
 refine .skip (.code (.seq (.seq (rq9 rfl rfl (mV rfl rfl ?_)))))
 refine Go.Tan.b1 rfl mG tY (.u rfl) rfl rfl (by decide) ?_; intro b14
 refine kp rfl .no aGe (aB rfl aF) (Gp.add .here Gp.nil) (fun _ hle hq=>aEb ⟨some ⟨b14,0,none⟩,1⟩ [nm] _ (gX (xs:=[nm]) (cH _ _ _) (fun _ _=>rfl) (Nat.le_refl 1)) (by show 1≤_; omega) (fun s hs=>by rw [List.mem_singleton.1 hs]; exact hn)) ?_
 refine nt rfl .no (.u rfl) (mV rfl rfl (mv rfl (.f rfl rfl) (.u rfl) (kv rfl (.f rfl rfl) aGe (Eva.cons (.s rfl) aF) (fun hc=>aEb h l _ hs hl hg) ?_)))
 refine nt rfl (.f rfl rfl) (.s rfl) (cF rfl .no (.u rfl) (.s rfl) (.g (cD rfl (fun c1=>?_) (fun c1=>?_))))
 ·have c1k:=c1
  cases c1
 have c1k:=c1
 try simp only [aD,aL,aE] at c1
 refine .g (nC rfl rfl (fZ rfl aL7 rfl (lO rfl bA rfl aC rfl ?_)))
 refine cP rfl rfl rfl rfl (.g (cD rfl (fun c2=>?_) (fun c2=>?_)))
 ·have c2k:=c2
  cases c2
 have c2k:=c2
 try simp only [aD,aL,aE] at c2
 refine .g (nC rfl rfl (fZ rfl aF4 rfl (lO rfl fG rfl aC rfl ?_)))
 refine .g (cD rfl (fun c3=>?_) (fun c3=>?_))
 ·have c3k:=c3
  cases c3
 have c3k:=c3
 try simp only [aD,aL,aE] at c3
 refine .g (nC rfl rfl (fZ rfl oW rfl (lO rfl oU rfl aC (by first|exact aK rfl|rfl) ?_)))
 refine .p (aIz rfl .no qB aBR (.u rfl) (.u rfl) (aCI aM) (aQ0) (aQz) ?_)
 refine .p (eX rfl rfl rfl (eX rfl rfl rfl ?_))
 refine al rfl zQ ?_; intro b9
 refine sw rfl (.u rfl) (.u rfl) rfl zN .here rfl (Fi.one _) ?_
 refine aS rfl rfl (.nc (.seq (mR rfl rfl (mV rfl rfl (mV rfl rfl (mv rfl (.t rfl rfl) (.u rfl) (nt rfl (.t rfl rfl) (.s rfl) (cW rfl .no (.u rfl) (.s rfl) (.g (cD rfl (fun c4=>?_) (fun c4=>?_)))))))))))
 ·have c4k:=c4
  exact absurd c4 (by cases there<;>simp_all)
 have c4k:=c4
 try simp only [aD,aL,aE] at c4
 refine .skip (.code (.seq (aP rfl rfl (aS rfl rfl (.nc (.ret (We.fin Tryz.results55 (.tmp rfl .nil) (mS aM rfl (mS aM rfl mN)) ?_)))))))
 exact ⟨rfl,rfl⟩
theorem aD4 (bd bm room done:Nat) (G:PM) (hd9:done≤2000000000):Ct Tryz.prog 56 ([.pointer (some ⟨bd,0,none⟩)]:List Value).toArray G [.blk bd (cl (cS bm room done) 118)] (fun _ μ' u=>μ'=[.blk bd (cl (cS bm room (done+1)) 118)]∧u=.int .i64 0):=by
 refine Ct.of Tryz.func56 rfl Tryz.ntmps56 rfl fun w0 hs0=>?_
 refine .g (nC rfl rfl (fZ rfl aL8 rfl (lO rfl bA rfl .here rfl ?_)))
 refine aW (((done+1):Nat):Int) rfl rfl rfl rfl ?_
 refine nC rfl rfl (fZ rfl aL8 rfl (s1 rfl (.u rfl) (.u rfl) rfl fL .here (by first|(simp [cS,Fi.cells]; done)|decide) (rfl) ?_))
 refine .g (nC rfl rfl (fZ rfl aL7 rfl (lO rfl bA rfl .here rfl ?_)))
 refine cP rfl rfl rfl rfl (.g (cD rfl (fun c1=>?_) (fun c1=>?_)))
 ·have c1k:=c1
  cases c1
 have c1k:=c1
 try simp only [aD,aL,aE] at c1
 refine .skip (.code (.seq (aP rfl rfl (aS rfl rfl (.nc (.ret (We.fin Tryz.results56 (.tmp rfl .nil) (mS .here rfl mN) ?_)))))))
 exact ⟨rfl,rfl⟩
theorem aUG (bd bm room done clk:Nat) (F:List Fi) (G:PM) (hD:DkR F clk) (hbd:PB G bd (cl (cS bm room done) 118)) (hbm:PB G bm (mO (F.map Fi.fe) clk)):Ct Tryz.prog 247 ([.pointer (some ⟨bd,0,none⟩)]:List Value).toArray G [] (fun _ μ' u=>μ'=[]∧u=.int .i64 ((cR F:Nat):Int)):=by
 refine Ct.of Tryz.func247 rfl Tryz.ntmps247 rfl fun w0 hs0=>?_
 refine .g (pn rfl .no zK (.u rfl) (.u rfl) ?_)
 refine .g (qG rfl rfl ?_)
 refine .g (nC rfl rfl (fA rfl oW rfl (lN rfl oU rfl ((hbd.rd (rfl)).rd) ?_)))
 refine rgS rfl qB (.u rfl) (aCJ hbm.h) ?_; intro b12
 refine .nil (.code (.block ?_))
 refine aV (α:=List Nat×Nat) (fun gh=>[(3,true,.int .i64 ((jV gh.1 F:Nat):Int))]) (fun gh=>[.blk b12 (iU bm clk gh.2 gh.1)])
  (fun gh Gl=>(gh.2=clk)) (fun gh=>nI gh.1 F) ([],clk) [(12,true,_)] []
  (dY rfl (by rw [aKn]; rfl) (aA rfl eZ))
  (mS .here rfl mN) ?_ ?_
 ·(try dsimp only)<;>(first|omega|rfl|assumption|(simp; done))
 intro gh N0 Gl0 hN0 hGl0 hF0
 obtain ⟨seen,last⟩:=gh; dsimp only at hF0 hN0 ⊢
 have hl:=hF0
 have hbm:=hbm.mono hGl0
 have hsz:=aFZ (seen:=seen) (F:=F); have hfw:=hD.few; have hlst:∀ e∈F.map Fi.fe,e.2.2<last:=by rw [hl]; exact hD.oldE
 refine .seq (bF rfl rfl ?_)
 refine nxS rfl (.u rfl) .here (aCJ hbm.h) hD.oldE hlst ?_; intro o13 ho13
 refine ex rfl .no (.u rfl) (aSD o13) (.g (cD rfl (fun c1=>?_) (fun c1=>?_)))
 ·have c1k:=c1
  obtain ⟨e6,rfl⟩:=Option.isSome_iff_exists.1 c1
  obtain ⟨f6,hf6,rfl,hn6,hm6⟩:=aKm hD.nd ho13
  have hle6:=aFZ (seen:=seen++[f6.born]) (F:=F)
  refine .g (etS rfl (.u rfl) .here (aCJ hbm.h) (aIJ hD.nd hf6) ?_)
  refine eX rfl rfl rfl ?_
  refine al rfl zQ ?_; intro b5
  refine sw rfl (.u rfl) (.u rfl) rfl zN .here rfl (Fi.one _) ?_
  refine .g (fZ rfl yY rfl (lO rfl gQ rfl .here rfl ?_))
  refine lE rfl dW rfl (aW (((jV seen F+f6.n):Nat):Int) rfl rfl rfl rfl ?_)
  refine .g (aT (seen++[f6.born],clk) ?_ ?_ ?_ ?_ ?_)
  ·exact (dY rfl (by rw [hn6]) (aA rfl eZ))
  ·exact (mS aC rfl mN)
  ·have h7:nI (seen++[f6.born]) F+1=nI seen F:=hm6; show nI (seen++[f6.born]) F<N0; omega
  ·exact hGl0
  (try dsimp only)<;>(first|omega|rfl|assumption|(simp; done))
 have c1k:=c1
 have:o13=none:=by cases o13<;>simp_all
 subst this
 have hE:=aKl ho13
 refine .exit (.xcode (.xlp (.xblk (.code (.seq (bF rfl rfl (mV rfl rfl (aS rfl rfl (.nc (.ret (aN Tryz.results247 (.tmp rfl .nil) ?_)))))))))))
 exact ⟨rfl,by rw [hE]; rfl⟩
end Go.Proofs.YtoifkgkandfeiaaGreatDoor
namespace Go.Tan
open Go.RowKit
section
variable {P:Program} {n:Fm} {l:List Oper} {K K':aI→PM→aH→Prop} {mc:Md}
theorem Sat.nil {G:PM} {w:World} (h:∀ b o,G b=some o→w.heap[b]? = some o):Sat G [] w:=⟨h,by simp,by simp [keys],by simp [keys]⟩
theorem aNZ {j:Nat} {ρ:aI} {G:PM} {μ:aH} {oi oj:Oper} {c:Bool} {v:Value} (hK:jO K) (hoj:nth l j=some oj) (hap:Apart l oi oj) (hd:iH n oi.dst)
  (H:Wo true mc P n l K [j] (cT ρ oi.dst c v) G μ):Wo true mc P n l (fun ρ' G' μ'=>PM.le G G'∧(∃ c' v',ρ'=cT ρ oj.dst c' v')∧K (cT ρ' oi.dst c v) G' μ') [j] ρ G μ:=by
 have h0:∀ {ρ G μ},Wo true mc P n l K [] ρ G μ→K ρ G μ:=fun h=>by cases h with | nil h=>exact h
 have sw:∀ {c':Bool} {v':Value} {G':PM} {μ':aH},Wo true mc P n l K [] (cT (cT ρ oi.dst c v) oj.dst c' v') G' μ'→K (cT (cT ρ oj.dst c' v') oi.dst c v) G' μ':=fun h=>hK.1 _ _ _ _ (kK hap.dd) (h0 h)
 cases H with
 | @pure _ _ _ _ _ o cj vj ho hk hg hr h =>
  obtain rfl:oj=o:=Option.some.inj (hoj.symm.trans ho)
  refine .pure hoj hk (nG hap.ij hg) (fun hc a w ha=>lP hd hap.sj hap.ij (Φ:=fun s=>s.run P w=.ok (.value vj) w) (fun a ha=>hr hc a w ha) a ha) (.nil ⟨PM.le.refl G,⟨_,_,rfl⟩,sw h⟩)
 | @read _ _ _ _ _ o cj vj ho hk hg hr h =>
  obtain rfl:oj=o:=Option.some.inj (hoj.symm.trans ho)
  refine .read hoj hk (nG hap.ij hg) (fun hc a w ha hs=>lP hd hap.sj hap.ij (Φ:=fun s=>s.run P w=.ok (.value vj) w) (fun a ha=>hr hc a w ha hs) a ha) (.nil ⟨PM.le.refl G,⟨_,_,rfl⟩,sw h⟩)
 | @make _ _ _ _ _ o ob mkv ho hk hg hr h =>
  obtain rfl:oj=o:=Option.some.inj (hoj.symm.trans ho)
  exact .make hoj hk hg hr fun b=>.nil ⟨PM.le.refl G,⟨_,_,rfl⟩,sw (h b)⟩
 | @box _ _ _ _ _ o ob mkv ho hk hg hr h =>
  obtain rfl:oj=o:=Option.some.inj (hoj.symm.trans ho)
  exact .box hoj hk (nG hap.ij hg) (fun a w ha=>lP hd hap.sj hap.ij (Φ:=fun s=>s.run P w=.ok (.value (mkv w.heap.size)) (w.alloc ob)) (fun a ha=>hr a w ha) a ha) fun b=>.nil ⟨PM.le.refl G,⟨_,_,rfl⟩,sw (h b)⟩
 | @callv _ _ _ _ _ o cj f args vj Gp ho hk hg hr hf h =>
  obtain rfl:oj=o:=Option.some.inj (hoj.symm.trans ho)
  exact .callv hoj hk (nG hap.ij hg) (fun hc a w ha=>lP hd hap.sj hap.ij (Φ:=fun s=>s.run P w=.ok (.enter f args) w) (fun a ha=>hr hc a w ha) a ha) hf (.nil ⟨PM.le.refl G,⟨_,_,rfl⟩,sw h⟩)
 | @call _ _ _ _ _ o f args post ho hk hg hr hf h =>
  obtain rfl:oj=o:=Option.some.inj (hoj.symm.trans ho)
  exact .call hoj hk (nG hap.ij hg) (fun a w ha=>lP hd hap.sj hap.ij (Φ:=fun s=>s.run P w=.ok (.enter f args) w) (fun a ha=>hr a w ha) a ha) hf fun v' G' μ' hle hp=>.nil ⟨hle,⟨_,_,rfl⟩,sw (h v' G' μ' hle hp)⟩
 | callg hdf _ _ _ _ _=>cases hdf
 | callp hdf _ _ _ _ _ _ _=>cases hdf
 | pan hdf _ _ _ _=>cases hdf
 | @fresh _ _ _ _ _ o μ₁ μ₂ post ho hk hg hp hr hw h =>
  obtain rfl:oj=o:=Option.some.inj (hoj.symm.trans ho)
  exact .fresh hoj hk hg hp (fun a w ha hs=>lP hd hap.sj hap.ij (Φ:=fun s=>∃ v w' G' μa μb,s.run P w=.ok (.value v) w'∧Tr G (keys μ₁) w G' (μa++μb) w'∧post G' μa μb v) (fun a ha=>hr a w ha hs) a ha) hw fun v' G' μa μb hle hq=>.nil ⟨hle,⟨_,_,rfl⟩,sw (h v' G' μa μb hle hq)⟩
 | @act _ _ _ _ _ o μ₁ μ₂ post ho hk hg hp hr h =>
  obtain rfl:oj=o:=Option.some.inj (hoj.symm.trans ho)
  exact .act hoj hk (nG hap.ij hg) hp (fun a w ha hs=>lP hd hap.sj hap.ij (Φ:=fun s=>(∃ v w' G' μ',(s.run P w=.ok (.value v) w'∨s.run P w=.ok .skip w'∧v=undef)∧Tr G (keys μ₁) w G' μ' w'∧post G' μ' v) ∨
    (∃ f args,s.run P w=.ok (.enter f args) w∧Ct P f args G μ₁ post)) (fun a ha=>hr a w ha hs) a ha) fun v' G' μ' hle hq=>.nil ⟨hle,⟨_,_,rfl⟩,sw (h v' G' μ' hle hq)⟩
def pQ (mc:Md) (l:List Oper) (listed:Array Bool) (i:Nat):Bool :=
 (cL l listed).contains i&&match nth l i with
 | some oi=>(bH mc oi.op == .read)&&(List.range l.length).all fun j=>listed.getD j true||j == i||match nth l j with
  | some oj=>pF l l.length j i||oi.apart l.toArray oj
  | none=>false
 | none=>false
def PRd (P:Program) (n:Fm) (l:List Oper) (o:Oper) (c:Bool) (v:Value) (ρ:aI) (G:PM):Prop :=
 Gd l ρ o.guard c∧(c=true→∀ a w,Ag n ρ a→(∀ b u,G b=some u→w.heap[b]? = some u)→(execOp a.eval o).run P w=.ok (.value v) w)
def aEk (l:List Oper) (j:Nat):Bool:=(List.range l.length).all fun i=>i == j||pF l l.length j i
def Wp (mc:Md) (P:Program) (n:Fm) (l:List Oper) (K:aI→PM→aH→Prop):Nat→Array Bool→aI→PM→aH→Prop
 | 0,listed,ρ,G,μ=>cL l listed=[]∧K ρ G μ
 | m+1,listed,ρ,G,μ=>(∃ i,mQ mc l listed i=true∧Wo true mc P n l (fun ρ' G' μ'=>Wp mc P n l K m (listed.setIfInBounds i true) ρ' G' μ') [i] ρ G μ) ∨
   (cL l listed≠[]∧∀ j∈cL l listed,Wo true mc P n l (fun ρ' G' μ'=>Wp mc P n l K m (listed.setIfInBounds j true) ρ' G' μ') [j] ρ G μ) ∨
   (∃ i o c v,pQ mc l listed i=true∧nth l i=some o∧PRd P n l o c v ρ G∧Wp mc P n l K m (listed.setIfInBounds i true) (cT ρ o.dst c v) G μ) ∨
   (∃ j,cL l listed=[j]∧aEk l j=true∧Wo false mc P n l (fun ρ' G' μ'=>Wp mc P n l K m (listed.setIfInBounds j true) ρ' G' μ') [j] ρ G μ)
theorem PRd.congr {o:Oper} {c:Bool} {v:Value} {ρ ρ':aI} {G:PM} (h:PRd P n l o c v ρ G) (e:∀ i,cK ρ i=cK ρ' i):PRd P n l o c v ρ' G :=
 ⟨h.1.congr fun _ t _ _ _=>e t,fun hc a w ha hs=>h.2 hc a w (ha.congr e) hs⟩
theorem pB (hK:jO K):∀ (m:Nat) (listed:Array Bool),jO (fun ρ G μ=>Wp mc P n l K m listed ρ G μ)
 | 0,listed=>⟨fun ρ ρ' G μ e h=>⟨h.1,hK.1 _ _ _ _ e h.2⟩,fun ρ G μ μ' p h=>⟨h.1,hK.2 _ _ _ _ p h.2⟩⟩
 | m+1,listed=>by
  refine ⟨fun ρ ρ' G μ e h=>?_,fun ρ G μ μ' p h=>?_⟩
  ·rcases h with ⟨i,h1,h2⟩ | ⟨h1,h2⟩ | ⟨i,o,c,v,h1,h2,h3,h4⟩ | ⟨j,h1,h2,h3⟩
   ·exact .inl ⟨i,h1,h2.congr (pB hK m _) e⟩
   ·exact .inr (.inl ⟨h1,fun j hj=>(h2 j hj).congr (pB hK m _) e⟩)
   ·exact .inr (.inr (.inl ⟨i,o,c,v,h1,h2,h3.congr e,(pB hK m _).1 _ _ _ _ (oK e _ _ _) h4⟩))
   exact .inr (.inr (.inr ⟨j,h1,h2,h3.congr (pB hK m _) e⟩))
  rcases h with ⟨i,h1,h2⟩ | ⟨h1,h2⟩ | ⟨i,o,c,v,h1,h2,h3,h4⟩ | ⟨j,h1,h2,h3⟩
  ·exact .inl ⟨i,h1,h2.perm (pB hK m _) p⟩
  ·exact .inr (.inl ⟨h1,fun j hj=>(h2 j hj).perm (pB hK m _) p⟩)
  ·exact .inr (.inr (.inl ⟨i,o,c,v,h1,h2,h3,(pB hK m _).2 _ _ _ _ p h4⟩))
  exact .inr (.inr (.inr ⟨j,h1,h2,h3.perm (pB hK m _) p⟩))
theorem aST {listed:Array Bool} {i j:Nat} (hne:i≠j) (h:pQ mc l listed i=true):pQ mc l (listed.setIfInBounds j true) i=true:=by
 unfold pQ at h ⊢
 simp only [Bool.and_eq_true] at h ⊢
 obtain ⟨h1,h2⟩:=h
 refine ⟨by simpa using tB (by simpa using h1) hne,?_⟩
 cases hi:nth l i with
 | none=>rw [hi] at h2; cases h2
 | some oi =>
  simp only [hi,Bool.and_eq_true] at h2 ⊢
  refine ⟨h2.1,List.all_eq_true.2 fun k hk=>?_⟩
  have h3:=List.all_eq_true.1 h2.2 k hk
  by_cases e:j=k
  ·subst e
   have:(listed.setIfInBounds j true).getD j true=true:=by
    rcases Nat.lt_or_ge j listed.size with h' | h'<;>simp [h']
   rw [this]; rfl
  rw [getD_set_ne true e]; exact h3
theorem aIt {listed:Array Bool} {i j:Nat} (hc:Closed l listed) (hi:listed.getD i true=false) (hil:i<l.length) (hj:j∈cL l listed) (hne:i≠j) (h:aEk l j=true):False:=by
 have h1:=List.all_eq_true.1 h i (List.mem_range.2 hil)
 rw [aAa hc hi hj] at h1
 simp [hne] at h1
theorem Wp.front (hK:jO K) (hs:Region.noSelect l.toArray=true) (hmk:∀ j oj,nth l j=some oj→bH mc oj.op=.make→rV P oj) (hds:∀ j oj,nth l j=some oj→iH n oj.dst) :
  ∀ (m:Nat) (listed:Array Bool) (j:Nat) (ρ:aI) (G:PM) (μ:aH),nR listed=m+1→Closed l listed→j∈cL l listed→Wp mc P n l K (m+1) listed ρ G μ→Wo true mc P n l (fun ρ' G' μ'=>Wp mc P n l K m (listed.setIfInBounds j true) ρ' G' μ') [j] ρ G μ∨(aEk l j=true∧Wo false mc P n l (fun ρ' G' μ'=>Wp mc P n l K m (listed.setIfInBounds j true) ρ' G' μ') [j] ρ G μ)
 | m,listed,j,ρ,G,μ,hu,hcl,hj,H=>by
  rcases H with ⟨i,h1,h2⟩ | ⟨_,h2⟩ | ⟨i,oi,c,v,h1,hoi,h2,h3⟩ | ⟨j',h1,h2,h3⟩
  ·by_cases e:j=i
   ·subst e; exact .inl h2
   have hi:i∈cL l listed:=by unfold mQ at h1; simp only [Bool.and_eq_true] at h1; simpa using h1.1
   have hj':=tB hj e
   have hiun:=(iL.1 hi).1
   have hjun:=(iL.1 hj).1
   have hu1:=yQ hiun
   have hjun':(listed.setIfInBounds i true).getD j true=false:=by rw [getD_set_ne true (Ne.symm e)]; exact hjun
   have hp:=aFh hjun'
   obtain ⟨m',rfl⟩ : ∃ m',m=m'+1:=⟨m-1,by omega⟩
   obtain ⟨_,oi,hoi,_⟩:=iL.1 hi
   have hil:i<l.length:=by
    have:=(iV l i).trans hoi
    exact (by simpa using (Array.getElem?_eq_some_iff.1 this).1)
   obtain ⟨_,oj,hoj,_⟩:=iL.1 hj
   have h3:Wo true mc P n l (fun ρ' G' μ'=>Wp mc P n l K m' ((listed.setIfInBounds i true).setIfInBounds j true) ρ' G' μ') (i :: [j]) ρ G μ :=
    h2.bind1 fun ρ' G' μ' h=>(Wp.front hK hs hmk hds m' (listed.setIfInBounds i true) j ρ' G' μ' (by omega) (hcl.set hi) hj' h).resolve_right fun hl=>aIt hcl hiun hil hj (fun q=>e q.symm) hl.1
   have hnoe:=aAa hcl hiun hj l.length
   have hjl:j<l.length:=by
    have:=(iV l j).trans hoj
    exact (by simpa using (Array.getElem?_eq_some_iff.1 this).1)
   have h1':=h1
   unfold mQ at h1'
   simp only [Bool.and_eq_true,hoi] at h1'
   obtain ⟨_,hki,hall⟩:=h1'
   have h4:=List.all_eq_true.1 hall j (List.mem_range.2 hjl)
   simp only [hjun,hoj,hnoe,Bool.false_or,Bool.or_eq_true,beq_iff_eq,e,false_or,Bool.and_eq_true,bne_iff_ne] at h4
   simp only [Bool.or_eq_true,beq_iff_eq] at hki
   have hkk:bH mc oi.op=.pure∨(bH mc oi.op=.read∧bH mc oj.op≠.act)∨bH mc oj.op=.make:=by
    rcases hki with h5 | h5
    ·exact .inl h5
    rcases h4.2 with h6 | h6
    ·exact .inl h6
    exact .inr (.inl ⟨h5,h6⟩)
   have h5:=Wo.swap (pB hK m' _) rfl hoi hoj (xA hs hoi hoj h4.1) hds (hmk j oj hoj) hkk h3
   refine .inl (h5.cut1.bind1 fun ρ' G' μ' h=>.nil (.inl ⟨i,aJk (Ne.symm e) h1,?_⟩))
   rw [Array.setIfInBounds_comm _ _ e]
   exact h
  ·exact .inl (h2 j hj)
  ·by_cases e:j=i
   ·subst e
    have hkr:bH mc oi.op=.read:=by
     unfold pQ at h1; simp only [Bool.and_eq_true,hoi,beq_iff_eq] at h1; exact h1.2.1
    exact .inl (.read hoi (.inl hkr) h2.1 (fun hc a w ha hs=>h2.2 hc a w ha hs.sub) (.nil h3))
   have hi:i∈cL l listed:=by unfold pQ at h1; simp only [Bool.and_eq_true] at h1; simpa using h1.1
   have hj':=tB hj e
   have hiun:=(iL.1 hi).1
   have hjun:=(iL.1 hj).1
   have hu1:=yQ hiun
   have hjun':(listed.setIfInBounds i true).getD j true=false:=by rw [getD_set_ne true (Ne.symm e)]; exact hjun
   have hp:=aFh hjun'
   obtain ⟨m',rfl⟩ : ∃ m',m=m'+1:=⟨m-1,by omega⟩
   obtain ⟨_,oj,hoj,_⟩:=iL.1 hj
   have hnoe:=aAa hcl hiun hj l.length
   have hjl:j<l.length:=by
    have:=(iV l j).trans hoj
    exact (by simpa using (Array.getElem?_eq_some_iff.1 this).1)
   have h1':=h1
   unfold pQ at h1'
   simp only [Bool.and_eq_true,hoi] at h1'
   obtain ⟨_,_,hall⟩:=h1'
   have h4:=List.all_eq_true.1 hall j (List.mem_range.2 hjl)
   simp only [hjun,hoj,hnoe,Bool.false_or,Bool.or_eq_true,beq_iff_eq,e,false_or] at h4
   have hap:=xA hs hoi hoj h4
   have hil:i<l.length:=by
    have:=(iV l i).trans hoi
    exact (by simpa using (Array.getElem?_eq_some_iff.1 this).1)
   have h5:=(Wp.front hK hs hmk hds m' (listed.setIfInBounds i true) j _ G μ (by omega) (hcl.set hi) hj' h3).resolve_right fun hl=>aIt hcl hiun hil hj (fun q=>e q.symm) hl.1
   refine .inl ((aNZ (pB hK m' _) hoj hap (hds i oi hoi) h5).bind1 fun ρ' G' μ' ⟨hle,⟨c',v',hρ⟩,h⟩=>.nil (.inr (.inr (.inl ⟨i,oi,c,v,aST (Ne.symm e) h1,hoi,?_,?_⟩))))
   ·subst hρ
    refine ⟨uH hap.ji h2.1,fun hc a w ha hs=>?_⟩
    exact sH (hds j oj hoj) hap.si hap.ji (Φ:=fun s=>s.run P w=.ok (.value v) w) (fun a ha=>h2.2 hc a w ha (fun b u hb=>hs b u (hle b u hb))) a ha
   rw [Array.setIfInBounds_comm _ _ e]
   exact h
  rw [h1] at hj
  obtain rfl:=List.mem_singleton.1 hj
  exact .inr ⟨h2,h3⟩
theorem Wp.any {Q:Exit→Act→World→Prop} {G0:PM} {K0:List Nat} {w0:World} (hK:jO K) (hs:Region.noSelect l.toArray=true) (hmk:∀ j oj,nth l j=some oj→bH mc oj.op=.make→rV P oj) (hds:∀ j oj,nth l j=some oj→iH n oj.dst)
  (hQ:∀ ρ G μ,K ρ G μ→∀ a w,Ag n ρ a→Tr G0 K0 w0 G μ w→Q .normal a w) (hD:∀ ch ρ G μ a w,n.die ch ρ G μ→Ag n ρ a→Tr G0 K0 w0 G μ w→Q (.panic ch) a w) :
  ∀ (m:Nat) (listed:Array Bool) (ρ:aI) (G:PM) (μ:aH) (a:Act) (w:World),nR listed=m→Closed l listed→Wp mc P n l K m listed ρ G μ→Ag n ρ a→Tr G0 K0 w0 G μ w→wpAny P .any l.toArray Q m listed a w
 | 0,listed,ρ,G,μ,a,w,_,_,H,ha,ht=>⟨H.1,hQ _ _ _ H.2 a w ha ht⟩
 | m+1,listed,ρ,G,μ,a,w,hu,hcl,H,ha,ht=>by
  refine ⟨fun h0=>?_,fun j hj=>?_⟩
  ·rcases H with ⟨i,h1,_⟩ | ⟨h1,_⟩ | ⟨i,oi,c,v,h1,_⟩ | ⟨j',h1,_⟩
   ·have hi:i∈cL l listed:=by unfold mQ at h1; simp only [Bool.and_eq_true] at h1; simpa using h1.1
    unfold cL at hi
    rw [h0] at hi; cases hi
   ·exact absurd h0 h1
   ·have hi:i∈cL l listed:=by unfold pQ at h1; simp only [Bool.and_eq_true] at h1; simpa using h1.1
    unfold cL at hi
    rw [h0] at hi; cases hi
   unfold cL at h1
   rw [h0] at h1; cases h1
  have hj':j∈cL l listed:=hj
  have hu1:=yQ (iL.1 hj').1
  obtain ⟨o,ho,h⟩ : ∃ o,nth l j=some o∧if Region.wanted o (yielded l.toArray a.tmps) then o.wp P a w (wpAny P .any l.toArray Q m (listed.setIfInBounds j true)) Q else wpAny P .any l.toArray Q m (listed.setIfInBounds j true) (a.put o.dst undef) w:=by
   rcases Wp.front hK hs hmk hds m listed j ρ G μ hu hcl hj' H with hh | ⟨_,hh⟩
   ·exact hh.head ha ht (next:=wpAny P .any l.toArray Q m (listed.setIfInBounds j true)) (Q:=Q) hds (fun hdr'=>by cases hdr')
     (fun ρ' G' μ' a' w' H' ha' ht'=>by cases H' with | nil h=>exact Wp.any hK hs hmk hds hQ hD m _ ρ' G' μ' a' w' (by omega) (hcl.set hj') h ha' ht')
   exact hh.head ha ht (next:=wpAny P .any l.toArray Q m (listed.setIfInBounds j true)) (Q:=Q) hds (fun _=>hD)
    (fun ρ' G' μ' a' w' H' ha' ht'=>by cases H' with | nil h=>exact Wp.any hK hs hmk hds hQ hD m _ ρ' G' μ' a' w' (by omega) (hcl.set hj') h ha' ht')
  simp only [wpOp,iV,ho]
  split
  ·rename_i hw; rw [if_pos hw] at h; exact .inl h
  rename_i hw; rw [if_neg hw] at h; exact h
theorem eT {X:Cx} {k:List KI} {id:Nat} {ρ:aI} {G:PM} {μ:aH} (mc:Md) (hm:X.P.follows .mixedOrders=true) (hok:aCM X.P X.n.n l=true)
  (h:Wp mc X.P X.n l (fun ρ G μ=>We X .normal k ρ G μ) l.length (Array.replicate l.length false) ρ G μ):Wk X (.region id l.toArray true) k ρ G μ:=by
 simp only [aCM,Bool.and_eq_true] at hok
 obtain ⟨⟨h1,h2⟩,h3⟩:=hok
 refine ⟨fun a w ha ht=>wp_region_any hm ?_⟩
 have hu:nR (Array.replicate l.length false)=l.length:=by simp [nR]
 have:=Wp.any (Q:=fS X k) (aDg .normal) h1 (fun j oj hj hk=>aEt hk (List.all_eq_true.1 h3 oj (xU hj)))
  (fun j oj hj=>by
   have:=List.all_eq_true.1 h2 oj (xU hj)
   cases hd:oj.dst with
   | none=>trivial
   | some d=>rw [hd] at this; show d<X.n.n; exact of_decide_eq_true this) (fun _ _ _ h a w ha ht=>h.out a w ha ht) (tZ X k) l.length _ ρ G μ a _ hu (Closed.none l.length) h ha ht.drew
 simpa using this
variable {ρ:aI} {G:PM} {μ:aH} {m:Nat} {listed:Array Bool}
theorem Wp.last (hr:cL l listed=[]) (h:K ρ G μ):Wp mc P n l K 0 listed ρ G μ:=⟨hr,h⟩
theorem Wp.one (i:Nat) (hc:mQ mc l listed i=true) (h:Wo true mc P n l (fun ρ' G' μ'=>Wp mc P n l K m (listed.setIfInBounds i true) ρ' G' μ') [i] ρ G μ):Wp mc P n l K (m+1) listed ρ G μ:=.inl ⟨i,hc,h⟩
theorem mH (i:Nat) (hc:pQ mc l listed i=true) (h:Wo true mc P n l (fun ρ' G' μ'=>(G'=G∧μ'=[])∧Wp mc P n l K m (listed.setIfInBounds i true) ρ' G μ) [i] ρ G []):Wp mc P n l K (m+1) listed ρ G μ:=by
 have h1:=hc
 unfold pQ at h1
 simp only [Bool.and_eq_true] at h1
 cases hoi:nth l i with
 | none=>rw [hoi] at h1; cases h1.2
 | some oi =>
  have hkr:bH mc oi.op=.read:=by simp only [hoi,Bool.and_eq_true,beq_iff_eq] at h1; exact h1.2.1
  cases h with
  | @read _ _ _ _ _ o c v ho hk hg hr h =>
   obtain rfl:oi=o:=Option.some.inj (hoi.symm.trans ho)
   cases h with
   | nil h=>exact .inr (.inr (.inl ⟨i,oi,c,v,hc,hoi,⟨hg,fun hc' a w ha hs=>hr hc' a w ha (Sat.nil hs)⟩,h.2⟩))
  | @pure _ _ _ _ _ o cj vj ho hk _ _ _=>obtain rfl:oi=o:=Option.some.inj (hoi.symm.trans ho); rcases hk with hk | hk<;>simp_all
  | @make _ _ _ _ _ o _ _ ho hk _ _ _=>obtain rfl:oi=o:=Option.some.inj (hoi.symm.trans ho); rcases hk with hk | hk<;>simp_all
  | @box _ _ _ _ _ o _ _ ho hk _ _ _=>obtain rfl:oi=o:=Option.some.inj (hoi.symm.trans ho); rcases hk with hk | hk<;>simp_all
  | @callv _ _ _ _ _ o cj f args vj Gp ho hk _ _ _ _=>obtain rfl:oi=o:=Option.some.inj (hoi.symm.trans ho); rcases hk with hk | hk | hk<;>simp_all
  | @call _ _ _ _ _ o f args post ho hk _ _ _ _=>obtain rfl:oi=o:=Option.some.inj (hoi.symm.trans ho); rcases hk with hk | hk | hk<;>simp_all
  | callg hdf _ _ _ _ _=>cases hdf
  | callp hdf _ _ _ _ _ _ _=>cases hdf
  | pan hdf _ _ _ _=>cases hdf
  | @fresh _ _ _ _ _ o μ₁ μ₂ post ho hk _ _ _ _ _=>obtain rfl:oi=o:=Option.some.inj (hoi.symm.trans ho); rcases hk with hk | hk<;>simp_all
  | @act _ _ _ _ _ o μ₁ μ₂ post ho hk _ _ _ _=>obtain rfl:oi=o:=Option.some.inj (hoi.symm.trans ho); rcases hk with hk | hk<;>simp_all
theorem Wp.b1 (j:Nat) (hr:cL l listed=[j]) (h:Wo true mc P n l (fun ρ' G' μ'=>Wp mc P n l K m (listed.setIfInBounds j true) ρ' G' μ') [j] ρ G μ):Wp mc P n l K (m+1) listed ρ G μ :=
 .inr (.inl ⟨by rw [hr]; simp,fun j' hj'=>by rw [hr] at hj'; obtain rfl:=List.mem_singleton.1 hj'; exact h⟩)
theorem Wp.b2 (j j2:Nat) (hr:cL l listed=[j,j2]) (h:Wo true mc P n l (fun ρ' G' μ'=>Wp mc P n l K m (listed.setIfInBounds j true) ρ' G' μ') [j] ρ G μ)
  (h2:Wo true mc P n l (fun ρ' G' μ'=>Wp mc P n l K m (listed.setIfInBounds j2 true) ρ' G' μ') [j2] ρ G μ):Wp mc P n l K (m+1) listed ρ G μ :=
 .inr (.inl ⟨by rw [hr]; simp,fun j' hj'=>by
  rw [hr] at hj'
  rcases List.mem_cons.1 hj' with rfl | hj'
  ·exact h
  ·obtain rfl:=List.mem_singleton.1 hj'; exact h2⟩)
theorem Wp.b3 (j j2 j3:Nat) (hr:cL l listed=[j,j2,j3]) (h:Wo true mc P n l (fun ρ' G' μ'=>Wp mc P n l K m (listed.setIfInBounds j true) ρ' G' μ') [j] ρ G μ)
  (h2:Wo true mc P n l (fun ρ' G' μ'=>Wp mc P n l K m (listed.setIfInBounds j2 true) ρ' G' μ') [j2] ρ G μ) (h3:Wo true mc P n l (fun ρ' G' μ'=>Wp mc P n l K m (listed.setIfInBounds j3 true) ρ' G' μ') [j3] ρ G μ):Wp mc P n l K (m+1) listed ρ G μ :=
 .inr (.inl ⟨by rw [hr]; simp,fun j' hj'=>by
  rw [hr] at hj'
  rcases List.mem_cons.1 hj' with rfl | hj'
  ·exact h
  ·rcases List.mem_cons.1 hj' with rfl | hj'
   ·exact h2
   ·obtain rfl:=List.mem_singleton.1 hj'; exact h3⟩)
end
end Go.Tan
namespace Go.Proofs.YtoifkgkandfeiaaGreatDoor
open Go.Tan Go.RowKit
theorem aGf:aJ Tryz.prog 55=true:=by kernel_rfl
theorem aWy:aQ Tryz.prog 118 1=some 1:=by kernel_rfl
theorem aX7:aJ Tryz.prog 247=true:=by kernel_rfl
theorem aFv:bY Tryz.prog 124=some (some 2):=by kernel_rfl
theorem aGg:aJ Tryz.prog 56=true:=by kernel_rfl
theorem aWz:aQ Tryz.prog 124 1=some 1:=by kernel_rfl
theorem aD3 (bd bm room done clk:Nat) (F:List Fi) (G:PM) (hD:DkR F clk) (hd9:done≤1000000000) (hr9:room≤1000000000) (nm:ByteArray) (h:Sh) (xs:List Y) (hs:SlR G 1 aU h xs) (hn:jG nm) (hab:cV nm F=none) (hx:xs.length≤1000000000) (hfit:xs.length+cR F≤room):Ct Tryz.prog 175 ([.pointer (some ⟨bd,0,none⟩),.string nm,h.val xs.length]:List Value).toArray G [.blk bd (cl (cS bm room (done)) 118),.blk bm (mO ((F).map Fi.fe) (clk))] (fun _ μ' u=>∃ f:Fi,f.nm=nm∧f.n=xs.length∧f.safe=0∧f.born=clk∧μ'=[.blk bd (cl (cS bm room (done+1)) 118),.blk bm (mO ((F++[f]).map Fi.fe) (clk+1))]∧u=.int .i64 0):=by
 refine Ct.of Tryz.func175 rfl Tryz.ntmps175 rfl fun w0 hs0=>?_
 have hfw:=hD.few
 refine .g (ka rfl (.inr rfl) aGf (aB rfl (aB rfl (aB rfl (aB rfl aF)))) (eI .here .here) (aFA bd bm room done clk F _ hD hd9 hr9 nm false ⟨none,0⟩ [] SlR.nul (Nat.zero_le _) (fun s hs=>absurd hs List.not_mem_nil) hn (fun h=>absurd h (by decide))) ?_)
 rintro _ G11 μ11 hG11 ⟨rfl,rfl⟩
 have hs:=hs.mono hG11
 refine .g (cP rfl rfl rfl rfl (.g (cD rfl (fun c1=>?_) (fun c1=>?_))))
 ·have c1k:=c1
  exact absurd c1 (by decide)
 have c1k:=c1
 try simp only [aD,aL,aE] at c1
 refine .g (bZ (mc:=⟨false,false⟩) [0,1,2,3,4,5,6,7,8,9] aY (by kernel_rfl) ?_)
 refine .p (lE rfl dW rfl (.p (nC rfl rfl (fZ rfl aWy rfl (lO rfl bA rfl .here rfl ?_)))))
 refine .p (kp rfl .no aX7 (aB rfl aF) (Gp.add aC (Gp.add .here Gp.nil)) (fun _ hle hq=>aUG bd bm room done clk F _ hD ⟨hq.1 _ _ (cH _ _ _)⟩ ⟨cH _ _ _⟩) ?_)
 refine aR rfl rfl rfl rfl ?_
 refine cP rfl rfl rfl rfl (.g (cD rfl (fun c2=>?_) (fun c2=>?_)))
 ·have c2k:=c2
  simp only [decide_eq_true_eq] at c2; omega
 have c2k:=c2
 try simp only [aD,aL,aE] at c2
 refine .g (nC rfl rfl (fZ rfl oW rfl (lO rfl oU rfl .here rfl ?_)))
 refine .p (lkS rfl .no qB aBR (.u rfl) (.u rfl) (aCI aC) (aI1 hab) ?_)
 refine al rfl zQ ?_; intro b8
 refine sw rfl (.u rfl) (.u rfl) rfl zN .here rfl (by simp [Value.oneCell']) ?_
 refine .nil (.code (.seq (aCt 5 ?_)))
 refine .g (fZ rfl yY rfl (lO rfl gQ rfl aC rfl ?_))
 refine fZ rfl yY rfl (lO rfl gQ rfl aC rfl ?_)
 refine lE rfl dW rfl (fZ rfl yY rfl (lO rfl gQ rfl aC rfl ?_))
 refine lE rfl dW rfl (k00 rfl aX (.u rfl) (.u rfl) (.u rfl) ?_)
 refine .p (eY rfl aX cG (.u rfl) (.u rfl) .here hs.sc (by (try simp only [cC,cY]); omega) ?_)
 intro v41 L41 ov41 eL41
 have lL41:L41.length=([]:List Y).length+xs.length:=by rw [eL41,List.length_append]
 refine fZ rfl yY rfl (iM rfl (.u rfl) (.u rfl) .here rQ aC (by first|(simp [cS,Fi.cells]; done)|decide) (rfl) ?_)
 refine .nil (.code (.seq ?_))
 refine tF aC (cM aC rfl (cM aC rfl (jH))) ?_; intro GfRN hRN hleRN evRN hsRN; subst evRN
 refine bZ (mc:=⟨false,false⟩) [0,1,2,3,4,5,6] aY (by kernel_rfl) ?_
 refine .p (nC rfl rfl (fZ rfl oW rfl (lO rfl oU rfl aC rfl ?_)))
 refine .p (lB rfl aFv rfl .here ?_)
 refine muS rfl qB (.u rfl) (.u rfl) (.u rfl) aM (aCE hab) ?_
 refine .g (ka rfl (.inr rfl) aGg (aB rfl aF) (bK aM) (aD4 bd bm room done _ (by omega)) ?_)
 rintro _ G50 μ50 hG50 ⟨rfl,rfl⟩
 refine aS rfl rfl (.nc (.ret (We.fin Tryz.results175 (.tmp rfl .nil) (mS .here rfl (mS .here rfl mN)) ?_)))
 exact ⟨⟨nm,hRN,xs.length,0,clk⟩,rfl,rfl,rfl,rfl,by rw [← aII]; simp only [Fi.fe,Fi.val,Fi.cells,←show L41.length=xs.length by rw [eL41]; rfl]; rfl,rfl⟩
theorem aOl (bd bm room done clk:Nat) (F:List Fi) (G:PM) (hD:DkR F clk) (hd9:done≤1000000000) (hr9:room≤1000000000) (nm:ByteArray) (f:Fi) (hn:jG nm) (hf:cV nm F=some f):Ct Tryz.prog 246 ([.pointer (some ⟨bd,0,none⟩),.string nm]:List Value).toArray G [.blk bd (cl (cS bm room (done)) 118),.blk bm (mO ((F).map Fi.fe) (clk))] (fun _ μ' u=>μ'=[.blk bd (cl (cS bm room (done+1)) 118),.blk bm (mO ((iT nm F).map Fi.fe) (clk))]∧u=.int .i64 0):=by
 refine Ct.of Tryz.func246 rfl Tryz.ntmps246 rfl fun w0 hs0=>?_
 refine .g (ka rfl (.inr rfl) aGf (aB rfl (aB rfl (aB rfl (aB rfl aF)))) (eI .here .here) (aFA bd bm room done clk F _ hD hd9 hr9 nm true ⟨none,0⟩ [] SlR.nul (Nat.zero_le _) (fun s hs=>absurd hs List.not_mem_nil) hn (fun _=>by rw [hf]; rfl)) ?_)
 rintro _ G9 μ9 hG9 ⟨rfl,rfl⟩
 refine .g (cP rfl rfl rfl rfl (.g (cD rfl (fun c1=>?_) (fun c1=>?_))))
 ·have c1k:=c1
  exact absurd c1 (by decide)
 have c1k:=c1
 try simp only [aD,aL,aE] at c1
 refine .g (nC rfl rfl (fZ rfl oW rfl (lO rfl oU rfl .here rfl ?_)))
 refine .p (lkS rfl .no qB aBR (.u rfl) (.u rfl) (aCI aC) (aI0 hf) ?_)
 refine al rfl zQ ?_; intro b6
 refine sw rfl (.u rfl) (.u rfl) rfl zN .here rfl (Fi.one _) ?_
 refine .g (fZ rfl yY rfl (lO rfl gQ rfl .here rfl ?_))
 refine lE rfl dW rfl (fZ rfl aWz rfl (s1 rfl (.u rfl) (.u rfl) rfl fL .here (by first|(simp [cS,Fi.cells]; done)|decide) (rfl) ?_))
 refine .g (bZ (mc:=⟨false,false⟩) [0,1,2,3,4,5,6] aY (by kernel_rfl) ?_)
 refine .p (nC rfl rfl (fZ rfl oW rfl (lO rfl oU rfl aC rfl ?_)))
 refine .p (lB rfl aFv rfl .here ?_)
 refine muT rfl qB (.u rfl) (.u rfl) (.u rfl) aM (aEp hf) ?_
 refine .g (ka rfl (.inr rfl) aGg (aB rfl aF) (bK aM) (aD4 bd bm room done _ (by omega)) ?_)
 rintro _ G30 μ30 hG30 ⟨rfl,rfl⟩
 refine aS rfl rfl (.nc (.ret (We.fin Tryz.results246 (.tmp rfl .nil) (mS .here rfl (mS .here rfl mN)) ?_)))
 exact ⟨by rw [← aJK hf]; rfl,rfl⟩
theorem aOk (bd bm room done clk:Nat) (F:List Fi) (G:PM) (hD:DkR F clk) (hd9:done≤1000000000) (hr9:room≤1000000000) (nm to:ByteArray) (f:Fi) (hn:jG nm) (hn2:jG to) (hf:cV nm F=some f) (hab:cV to (gI nm F)=none):Ct Tryz.prog 139 ([.pointer (some ⟨bd,0,none⟩),.string nm,.string to]:List Value).toArray G [.blk bd (cl (cS bm room (done)) 118),.blk bm (mO ((F).map Fi.fe) (clk))] (fun _ μ' u=>μ'=[.blk bd (cl (cS bm room (done+1)) 118),.blk bm (mO ((gI nm F++[{ f with nm:=to,born:=clk }]).map Fi.fe) (clk+1))]∧u=.int .i64 0):=by
 refine Ct.of Tryz.func139 rfl Tryz.ntmps139 rfl fun w0 hs0=>?_
 refine .seq (aP rfl rfl (aS rfl rfl (.nc (.seq (.seq (gM rfl rfl (mV rfl rfl (mV rfl rfl (mV rfl rfl ?_)))))))))
 refine Go.Tan.b1 rfl mG tY (.u rfl) rfl rfl (by decide) ?_; intro b12
 refine ka rfl (.inr rfl) aGf (aB rfl (aB rfl (aB rfl (aB rfl aF)))) (jI .here .here .here) (tI fun _=>aFA bd bm room done clk F _ hD hd9 hr9 nm true ⟨some ⟨b12,0,none⟩,1⟩ [to] (gX (xs:=[to]) (cH _ _ _) (fun _ _=>rfl) (Nat.le_refl 1)) (by show 1≤_; omega) (fun s hs=>by rw [List.mem_singleton.1 hs]; exact hn2) hn (fun _=>by rw [hf]; rfl)) ?_
 rintro _ G13 μ13 hG13 ⟨rfl,rfl⟩
 refine .g (cP rfl rfl rfl rfl (.g (cD rfl (fun c1=>?_) (fun c1=>?_))))
 ·have c1k:=c1
  exact absurd c1 (by decide)
 have c1k:=c1
 try simp only [aD,aL,aE] at c1
 refine .g (nC rfl rfl (fZ rfl oW rfl (lO rfl oU rfl .here rfl ?_)))
 refine .p (lkS rfl .no qB aBR (.u rfl) (.u rfl) (aCI aC) (aI0 hf) ?_)
 refine al rfl zQ ?_; intro b8
 refine sw rfl (.u rfl) (.u rfl) rfl zN .here rfl (Fi.one _) ?_
 refine .g (nC rfl rfl (fZ rfl oW rfl (lO rfl oU rfl aC rfl ?_)))
 refine .p (dlS rfl qB (.u rfl) (.u rfl) aM (aEp hf) ?_)
 refine .g (bZ (mc:=⟨false,false⟩) [0,1,2,3,4,5,6] aY (by kernel_rfl) ?_)
 refine .p (nC rfl rfl (fZ rfl oW rfl (lO rfl oU rfl aM rfl ?_)))
 refine .p (lB rfl aFv rfl aC ?_)
 refine muS rfl qB (.u rfl) (.u rfl) (.u rfl) .here (by rw [aEv]; exact aCE hab) ?_
 refine .g (ka rfl (.inr rfl) aGg (aB rfl aF) (bK aM) (aD4 bd bm room done _ (by omega)) ?_)
 rintro _ G35 μ35 hG35 ⟨rfl,rfl⟩
 refine aS rfl rfl (.nc (.ret (We.fin Tryz.results139 (.tmp rfl .nil) (mS .here rfl (mS .here rfl mN)) ?_)))
 exact ⟨by rw [← aII,←aEv]; rfl,rfl⟩
theorem pA:cI Tryz.prog 23=some 1:=by kernel_rfl
theorem aWo:cX Tryz.prog 87 []=some ([.int .u64 0,.int .u64 0],[]):=by kernel_rfl
theorem aDS:nN Tryz.prog 50=true:=by kernel_rfl
theorem rO:aQ Tryz.prog 87 0=some 0:=by kernel_rfl
theorem aMK:aQ Tryz.prog 85 0=some 0:=by kernel_rfl
theorem aBA:aQ Tryz.prog 85 1=some 1:=by kernel_rfl
theorem aWn:cX Tryz.prog 85 [0,1]=some ([.int .u64 0,.int .u64 0],[(0,1),(1,1)]):=by kernel_rfl
theorem aZN:dV Tryz.prog 85=some ([.int .u64 0,.int .u64 0]):=by kernel_rfl
theorem aM4:cI Tryz.prog 85=some 2:=by kernel_rfl
theorem aF0:bY Tryz.prog 85=some (some 2):=by kernel_rfl
theorem aWw:xJ Tryz.prog 2 85 ([.int .u64,.int .u64])=true:=by kernel_rfl
theorem aWO:cX Tryz.prog 118 [0,1,3]=some ([.map none,.int .i64 0,.bool false,.int .i64 0,.int .i64 0],[(0,1),(1,1),(3,1)]):=by kernel_rfl
theorem sR (G:PM):Ct Tryz.prog 135 ([.int .i64 0]:List Value).toArray G [] (fun _ μ' u=>μ'=[]∧u=.tuple #[]):=by
 refine Ct.of Tryz.func135 rfl Tryz.ntmps135 rfl fun w0 hs0=>?_
 refine .g (cP rfl rfl rfl rfl (.g (cD rfl (fun c1=>?_) (fun c1=>?_))))
 ·have c1k:=c1
  exact absurd c1 (by decide)
 have c1k:=c1
 try simp only [aD,aE] at c1
 refine .g (aN Tryz.results135 .nil ?_)
 exact ⟨rfl,rfl⟩
theorem xH (b:Bool) (hb:b=true) (G:PM):Ct Tryz.prog 103 ([.bool b]:List Value).toArray G [] (fun _ μ' u=>μ'=[]∧u=.tuple #[]):=by
 subst hb
 refine Ct.of Tryz.func103 rfl Tryz.ntmps103 rfl fun w0 hs0=>?_
 refine .g (nt rfl .no (.u rfl) (.g (cD rfl (fun c1=>?_) (fun c1=>?_))))
 ·have c1k:=c1
  exact absurd c1 (by decide)
 have c1k:=c1
 try simp only [aD,aE] at c1
 refine .g (aN Tryz.results103 .nil ?_)
 exact ⟨rfl,rfl⟩
theorem aUx (G:PM):Ct Tryz.prog 27 ([]:List Value).toArray G [] (fun _ μ' u=>∃ bt,μ'=[.blk bt (cl [uv .u64 (0),uv .u64 (0)] 87)]∧u=.pointer (some ⟨bt,0,none⟩)):=by
 refine Ct.of Tryz.func27 rfl Tryz.ntmps27 rfl fun w0 hs0=>?_
 refine .g (bC rfl .no aWo .nil rfl ?_)
 refine bX rfl rfl rfl ?_; intro b2
 refine aS rfl rfl (.nc (.ret (We.fin Tryz.results27 (.tmp rfl .nil) (mS .here rfl mN) ?_)))
 exact ⟨b2,rfl,rfl⟩
theorem aCK (bt:Nat) (m o:BitVec 64) (G:PM) (hbt:PB G bt (cl [uv .u64 m,uv .u64 o] 87)):Ct Tryz.prog 134 ([.pointer (some ⟨bt,0,none⟩)]:List Value).toArray G [] (fun _ μ' u=>μ'=[]∧u=uv .u64 m):=by
 refine Ct.of Tryz.func134 rfl Tryz.ntmps134 rfl fun w0 hs0=>?_
 refine .g (pe rfl .no aDS (.u rfl) (.u rfl) ?_)
 refine .g (jE rfl rfl ?_)
 refine .g (nC rfl rfl (fA rfl rO rfl (fA rfl aMK rfl (lN rfl bI rfl ((hbt.rd (by rfl)).rd) ?_))))
 refine aS rfl rfl (.nc (.ret (aN Tryz.results134 (.tmp rfl .nil) ?_)))
 exact ⟨rfl,rfl⟩
theorem aRF (bt:Nat) (m o:BitVec 64) (G:PM) (hm:m.toNat≤1000000):Ct Tryz.prog 209 ([.pointer (some ⟨bt,0,none⟩),uv .u64 (m+1#64)]:List Value).toArray G [.blk bt (cl [uv .u64 (m),uv .u64 (o)] 87)] (fun _ μ' u=>μ'=[.blk bt (cl [uv .u64 (m+1#64),uv .u64 (o)] 87)]∧u=.int .i64 0):=by
 refine Ct.of Tryz.func209 rfl Tryz.ntmps209 rfl fun w0 hs0=>?_
 have hm1:@BitVec.toNat IntKind.u64.bits (m+1#64) = @BitVec.toNat 64 m+1:=by show (m+1#64).toNat=_; rw [BitVec.toNat_add]; show (m.toNat+1)%2^64=_; omega
 have hm3:@BitVec.toNat 64 (m+1#64) = @BitVec.toNat 64 m+1:=hm1
 refine .g (pe rfl .no aDS (.u rfl) (.u rfl) ?_)
 refine .g (jE rfl rfl ?_)
 refine .g (nC rfl rfl (fZ rfl rO rfl (fZ rfl aBA rfl (lO rfl bI rfl .here (by first|exact aK rfl|rfl) ?_))))
 refine bC rfl .no aWn (.cons (.u rfl) rfl (.cons (.u rfl) rfl .nil)) rfl ?_
 refine al rfl aZN ?_; intro b5
 refine sw rfl (.u rfl) (.u rfl) rfl aM4 .here rfl (aK2 _ _) ?_
 refine .g (bZ (mc:=⟨false,false⟩) [0,1,2,3,4,5,6,7,8,9,10,11,12,13,14,15,16,17,18,19] aY (by kernel_rfl) ?_)
 refine .p (cP rfl rfl rfl rfl (.p (lA rfl (.f rfl rfl) aF0 (.u rfl) (fun _=>RdN.own .here) (fun _=>(by first|exact qE|exact qL|rfl)) ?_)))
 refine mv rfl (.f rfl rfl) (.u rfl) (nc rfl (.f rfl rfl) (.s rfl) (fz rfl (.f rfl rfl) rO (.s rfl) (lA rfl (.f rfl rfl) aF0 (.s rfl) (fun _=>RdN.own aC) (fun _=>(by first|exact qE|exact qL|rfl)) ?_)))
 refine eqC (false) rfl (.f rfl rfl) aWw (.s rfl) (.s rfl) (fun hc=>.u64 (.u64 .nil)) (fun hc=>.u64 (.u64 .nil)) (fun hc=>⟨fun h=>absurd h (by decide),fun h=>by have:=aRP h; omega⟩) ?_
 refine cF rfl .no (.u rfl) (.s rfl) (mV rfl rfl (mv rfl (.f rfl rfl) (.u rfl) (bw (k:=.u64) (b:=1#64) rfl (.f rfl rfl) rfl (.s rfl) (.u rfl) rfl (mv rfl (.f rfl rfl) (.u rfl) (nc rfl (.f rfl rfl) (.s rfl) (fz rfl (.f rfl rfl) rO (.s rfl) (fz rfl (.f rfl rfl) aMK (.s rfl) (ld rfl (.f rfl rfl) bI (.s rfl) (fun hc=>Rd.own aC (by first|exact aK rfl|rfl)) ?_))))))))
 refine cp rfl (.f rfl rfl) (.s rfl) (.s rfl) rfl (cF rfl .no (.u rfl) (.s rfl) (.g (cD rfl (fun c1=>?_) (fun c1=>?_))))
 ·have c1k:=c1
  exact (aRQ hm c1).elim
 have c1k:=c1
 try simp only [aD,aL,aE] at c1
 refine .g (lB rfl aF0 rfl .here ?_)
 refine nC rfl rfl (fZ rfl rO rfl (sw rfl (.u rfl) (.u rfl) rfl aM4 aC rfl (aK2 _ _) ?_))
 refine .nil (.code (.seq (aP rfl rfl (aS rfl rfl (.nc (.ret (We.fin Tryz.results209 (.tmp rfl .nil) (mS .here rfl mN) ?_)))))))
 exact ⟨rfl,rfl⟩
theorem aU0 (bt:Nat) (m o:BitVec 64) (G:PM) (ho:o.toNat≤1000000):Ct Tryz.prog 86 ([.pointer (some ⟨bt,0,none⟩)]:List Value).toArray G [.blk bt (cl [uv .u64 (m),uv .u64 (o)] 87)] (fun _ μ' u=>μ'=[.blk bt (cl [uv .u64 (m),uv .u64 (o+1#64)] 87)]∧u=.tuple #[uv .u64 (o+1#64),.int .i64 0]):=by
 refine Ct.of Tryz.func86 rfl Tryz.ntmps86 rfl fun w0 hs0=>?_
 have ho1:@BitVec.toNat IntKind.u64.bits o = @BitVec.toNat 64 o:=rfl
 refine .g (pe rfl .no aDS (.u rfl) (.u rfl) ?_)
 refine .g (jE rfl rfl ?_)
 refine .g (nC rfl rfl (fZ rfl rO rfl (fZ rfl aBA rfl (lO rfl bI rfl .here (by first|exact aK rfl|rfl) ?_))))
 refine cP rfl rfl rfl rfl (.g (cD rfl (fun c1=>?_) (fun c1=>?_)))
 ·have c1k:=c1
  have:=of_decide_eq_true c1; omega
 have c1k:=c1
 try simp only [aD,aL,aE] at c1
 refine .g (nC rfl rfl (fZ rfl rO rfl (fZ rfl aBA rfl (lO rfl bI rfl .here (by first|exact aK rfl|rfl) ?_))))
 refine bw (k:=.u64) (b:=1#64) rfl .no rfl (.u rfl) (.u rfl) rfl (nC rfl rfl (fZ rfl rO rfl (fZ rfl aBA rfl (s1 rfl (.u rfl) (.u rfl) rfl pA .here (by first|decide|(simp only [bW,bR,cC]; omega)) (rfl) ?_))))
 refine .g (nC rfl rfl (fZ rfl rO rfl (fZ rfl aBA rfl (lO rfl bI rfl .here (by first|exact aK rfl|rfl) ?_))))
 refine aS rfl rfl (aS rfl rfl (.nc (.ret (We.fin Tryz.results86 (.tmp rfl (.tmp rfl .nil)) (mS .here rfl mN) ?_))))
 exact ⟨rfl,rfl⟩
theorem aPA (room:Nat) (G:PM) (hr:room≤1000000000):Ct Tryz.prog 26 ([.int .i64 ((room:Nat):Int)]:List Value).toArray G [] (fun _ μ' u=>∃ bd bm,μ'=[.blk bd (cl (cS bm room 0) 118),.blk bm (mO [] 0)]∧u=.pointer (some ⟨bd,0,none⟩)):=by
 refine Ct.of Tryz.func26 rfl Tryz.ntmps26 rfl fun w0 hs0=>?_
 refine .seq (aP rfl rfl (aS rfl rfl (.nc (.seq (gM rfl rfl ?_)))))
 refine mkM rfl ?_; intro b3
 refine .p (mAn 0 room rfl .no (.u rfl) (.u rfl) (fun _=>rfl) (fun _=>rfl) ?_)
 refine bC rfl .no aWO (.cons (.u rfl) rfl (.cons (.u rfl) rfl (.cons (.u rfl) rfl .nil))) rfl ?_
 refine bX rfl rfl rfl ?_; intro b7
 refine aS rfl rfl (.nc (.ret (We.fin Tryz.results26 (.tmp rfl .nil) (mS .here rfl (mS .here rfl mN)) ?_)))
 exact ⟨b7,b3,by rw [show max 0 room=room by omega]; rfl,rfl⟩
theorem aOo (bd bm room done clk:Nat) (F:List Fi) (G:PM) (hbd:PB G bd (cl (cS bm room done) 118)):Ct Tryz.prog 85 ([.pointer (some ⟨bd,0,none⟩)]:List Value).toArray G [] (fun _ μ' u=>μ'=[]∧u=.bool false):=by
 refine Ct.of Tryz.func85 rfl Tryz.ntmps85 rfl fun w0 hs0=>?_
 refine .g (pn rfl .no zK (.u rfl) (.u rfl) ?_)
 refine mV rfl rfl (mv rfl (.t rfl rfl) (.u rfl) (nc rfl (.t rfl rfl) (.s rfl) (fa rfl (.t rfl rfl) aF4 (.s rfl) (ld rfl (.t rfl rfl) fG (.s rfl) (fun hc=>(hbd.rd (rfl)).rd) ?_))))
 refine cW rfl .no (.u rfl) (.s rfl) (aS rfl rfl (.nc (.ret (aN Tryz.results85 (.tmp rfl .nil) ?_))))
 exact ⟨rfl,rfl⟩
theorem aOi (bd bm room done clk:Nat) (F:List Fi) (G:PM) (hbd:PB G bd (cl (cS bm room done) 118)) (hbm:PB G bm (mO (F.map Fi.fe) clk)) (nm:ByteArray) (hn:jG nm) (hab:cV nm F=none):Ct Tryz.prog 159 ([.pointer (some ⟨bd,0,none⟩),.string nm]:List Value).toArray G [] (fun _ μ' u=>μ'=[]∧u=.tuple #[.slice none 0 0,.int .i64 2]):=by
 refine Ct.of Tryz.func159 rfl Tryz.ntmps159 rfl fun w0 hs0=>?_
 refine .g (pe rfl .no zK (.u rfl) (.u rfl) ?_)
 refine .g (cD rfl (fun c1=>?_) (fun c1=>?_))
 ·have c1k:=c1
  cases c1
 have c1k:=c1
 try simp only [aD,aE] at c1
 refine .seq (mR rfl rfl (mV rfl rfl ?_))
 refine Go.Tan.b1 rfl mG tY (.u rfl) rfl rfl (by decide) ?_; intro b13
 refine kp rfl .no aGe (aB rfl aF) (Gp.add .here Gp.nil) (fun _ hle hq=>aEb ⟨some ⟨b13,0,none⟩,1⟩ [nm] _ (gX (xs:=[nm]) (cH _ _ _) (fun _ _=>rfl) (Nat.le_refl 1)) (by show 1≤_; omega) (fun s hs=>by rw [List.mem_singleton.1 hs]; exact hn)) ?_
 refine nt rfl .no (.u rfl) (.g (cD rfl (fun c2=>?_) (fun c2=>?_)))
 ·have c2k:=c2
  exact absurd c2 (by decide)
 have c2k:=c2
 try simp only [aD,aE] at c2
 refine .g (nC rfl rfl (fA rfl aF4 rfl (lN rfl fG rfl ((hbd.rd (rfl)).rd) ?_)))
 refine .g (cD rfl (fun c3=>?_) (fun c3=>?_))
 ·have c3k:=c3
  cases c3
 have c3k:=c3
 try simp only [aD,aE] at c3
 refine .g (nC rfl rfl (fA rfl oW rfl (lN rfl oU rfl ((hbd.rd (rfl)).rd) ?_)))
 refine .p (aIz rfl .no qB aBR (.u rfl) (.u rfl) (aCJ hbm.h) (aI1 hab) (aQy hab) ?_)
 refine .p (eX rfl rfl rfl (eX rfl rfl rfl ?_))
 refine al rfl zQ ?_; intro b6
 refine sw rfl (.u rfl) (.u rfl) rfl zN .here rfl (by simp [Value.oneCell']) ?_
 refine .g (nt rfl .no (.u rfl) (.g (cD rfl (fun c4=>?_) (fun c4=>?_))))
 ·have c4k:=c4
  try simp only [aD,aE] at c4
  refine .seq (bF rfl rfl (aS rfl rfl (aS rfl rfl (.nc (.ret (aN Tryz.results159 (.tmp rfl (.tmp rfl .nil)) ?_))))))
  exact ⟨rfl,rfl⟩
 have c4k:=c4
 cases c4
theorem zA:aQ Tryz.prog 184 0=some 0:=by kernel_rfl
theorem wG:aQ Tryz.prog 184 3=some 3:=by kernel_rfl
theorem zC:aQ Tryz.prog 184 7=some 7:=by kernel_rfl
theorem zB:aQ Tryz.prog 184 6=some 6:=by kernel_rfl
theorem aGD:aQ Tryz.prog 184 5=some 5:=by kernel_rfl
theorem aGC:aQ Tryz.prog 184 4=some 4:=by kernel_rfl
theorem aDA:aQ Tryz.prog 159 2=some 6:=by kernel_rfl
theorem aGB:aQ Tryz.prog 184 1=some 1:=by kernel_rfl
theorem aDB:aQ Tryz.prog 159 5=some 9:=by kernel_rfl
theorem aC4:fN Tryz.prog 157=some (5,23,1):=by kernel_rfl
theorem aUZ (a b:Meta) (G:PM) (h0:0≤a.level):Ct Tryz.prog 320 ([a.val,b.val]:List Value).toArray G [] (fun _ μ' u=>μ'=[]∧u=.bool (sV a.level a b)):=by
 refine Ct.of Tryz.func320 rfl Tryz.ntmps320 rfl fun w0 hs0=>?_
 refine .seq (dQ rfl rfl ?_)
 refine bX rfl rfl rfl ?_; intro b2
 refine bX rfl rfl rfl ?_; intro b3
 refine .g (fZ rfl zA rfl (lO rfl cZ rfl aC rfl ?_))
 refine cP rfl rfl rfl rfl (.g (cD rfl (fun c1=>?_) (fun c1=>?_)))
 ·have c1k:=c1
  try simp only [aD] at c1
  refine .g (fZ rfl wG rfl (lO rfl bI rfl aC rfl ?_))
  refine fZ rfl wG rfl (lO rfl bI rfl .here rfl ?_)
  refine cP rfl rfl rfl rfl (aS rfl rfl (.nc (.ret (aN Tryz.results320 (.tmp rfl .nil) ?_))))
  exact ⟨rfl,congrArg Value.bool (by rw [← aKe a b h0,if_pos c1k])⟩
 have c1k:=c1
 try simp only [aD] at c1
 refine .g (fZ rfl zC rfl (lO rfl cQ rfl aC rfl ?_))
 refine fZ rfl zB rfl (lO rfl cQ rfl .here rfl ?_)
 refine cs rfl .no (.u rfl) (.u rfl) rfl (aS rfl rfl (.nc (.ret (aN Tryz.results320 (.tmp rfl .nil) ?_))))
 exact ⟨rfl,congrArg Value.bool (by rw [← aKe a b h0,if_neg (by rw [c1k]; simp)]; rfl)⟩
theorem aPX (s:State) (hd:Nat→Sh) (m:Meta) (b:Nat) (G:PM) (hp:RdNP G b 0 (s.cells hd)) (h0:0≤m.level):Ct Tryz.prog 319 ([.pointer (some ⟨b,0,none⟩),m.val]:List Value).toArray G [] (fun _ μ' u=>μ'=[]∧u=.bool (good s m)):=by
 refine Ct.of Tryz.func319 rfl Tryz.ntmps319 rfl fun w0 hs0=>?_
 refine .seq (bF rfl rfl ?_)
 refine bX rfl rfl rfl ?_; intro b3
 refine .g (fZ rfl zA rfl (lO rfl cZ rfl .here rfl ?_))
 refine cP rfl rfl rfl rfl (.g (cD rfl (fun c1=>?_) (fun c1=>?_)))
 ·have c1k:=c1
  try simp only [aD] at c1
  refine .g (qG rfl c1k ?_)
  refine .seq (aP rfl rfl (aS rfl rfl (.nc (.ret (aN Tryz.results319 (.tmp rfl .nil) ?_)))))
  exact ⟨rfl,by simp [gO,good]; omega⟩
 have c1k:=c1
 try simp only [aD] at c1
 refine .g (fZ rfl zB rfl (lO rfl cQ rfl .here rfl ?_))
 refine fZ rfl zC rfl (lO rfl cQ rfl .here rfl ?_)
 refine cs rfl .no (.u rfl) (.u rfl) rfl (.g (cD rfl (fun c2=>?_) (fun c2=>?_)))
 ·have c2k:=c2
  try simp only [aD] at c2
  refine .g (qG rfl c2k ?_)
  refine .seq (aP rfl rfl (aS rfl rfl (.nc (.ret (aN Tryz.results319 (.tmp rfl .nil) ?_)))))
  exact ⟨rfl,by have h:le m.min m.max=false:=(by simpa [le] using c2k); simp [gO,good,h]⟩
 have c2k:=c2
 try simp only [aD] at c2
 refine .g (fZ rfl zB rfl (lO rfl cQ rfl .here rfl ?_))
 refine ls rfl .no cE (.u rfl) (fZ rfl zC rfl (lO rfl cQ rfl .here rfl ?_))
 refine ls rfl .no cE (.u rfl) (mA rfl .no (.u rfl) (.u rfl) ?_)
 refine cP rfl rfl rfl rfl (.g (cD rfl (fun c3=>?_) (fun c3=>?_)))
 ·have c3k:=c3
  try simp only [aD] at c3
  refine .g (qG rfl c3k ?_)
  refine .seq (aP rfl rfl (aS rfl rfl (.nc (.ret (aN Tryz.results319 (.tmp rfl .nil) ?_)))))
  exact ⟨rfl,by simp [gO,good]; omega⟩
 have c3k:=c3
 try simp only [aD] at c3
 refine .g (fZ rfl aGD rfl (lO rfl bA rfl .here rfl ?_))
 refine cP rfl rfl rfl rfl (.g (cD rfl (fun c4=>?_) (fun c4=>?_)))
 ·have c4k:=c4
  try simp only [aD] at c4
  refine .g (qG rfl c4k ?_)
  refine .seq (aP rfl rfl (aS rfl rfl (.nc (.ret (aN Tryz.results319 (.tmp rfl .nil) ?_)))))
  exact ⟨rfl,by simp [gO,good]; omega⟩
 have c4k:=c4
 try simp only [aD] at c4
 refine .g (fZ rfl aGC rfl (lO rfl bA rfl .here rfl ?_))
 refine cP rfl rfl rfl rfl (.g (cD rfl (fun c5=>?_) (fun c5=>?_)))
 ·have c5k:=c5
  try simp only [aD] at c5
  refine .seq (aP rfl rfl (aS rfl rfl (.nc (.ret (aN Tryz.results319 (.tmp rfl .nil) ?_)))))
  exact ⟨rfl,by simp [gO,good]; omega⟩
 have c5k:=c5
 try simp only [aD] at c5
 refine .g (bZ (mc:=⟨false,false⟩) [0,1,2,3,4,5,6,7,8,9,10,11,12,13,14,15,16,17,18,19] aY (by kernel_rfl) ?_)
 refine fZ rfl wG rfl (lO rfl bI rfl .here rfl ?_)
 refine .p (nC rfl rfl (fZ rfl aDA rfl (lN rfl bI rfl ((hp.z rfl).rd) ?_)))
 refine cP rfl rfl rfl rfl (.p (fz rfl (.t rfl rfl) aGB (.u rfl) (ld rfl (.t rfl rfl) bI (.s rfl) (fun _=>Rd.own .here rfl) ?_)))
 refine mv rfl (.t rfl rfl) (.u rfl) (fz rfl (.t rfl rfl) zA (.u rfl) (ld rfl (.t rfl rfl) cZ (.s rfl) (fun _=>Rd.own .here rfl) ?_))
 refine nc rfl (.t rfl rfl) (.s rfl) (fz rfl (.t rfl rfl) aDB (.s rfl) (iA rfl (.t rfl rfl) aC4 (.s rfl) (.s rfl) (fun hc=>by omega) (fun hc=>by omega) ?_))
 refine ld rfl (.t rfl rfl) bI (.s rfl) (fun hc=>(hp.z (s.cell_gen hd (by omega))).rd) ?_
 refine cp rfl (.t rfl rfl) (.s rfl) (.s rfl) rfl (cW rfl .no (.u rfl) (.s rfl) (aS rfl rfl (.nc (.ret (aN Tryz.results319 (.tmp rfl .nil) ?_)))))
 exact ⟨rfl,aPW c1 c2k c3 c4 c5⟩
theorem mB:aQ Tryz.prog 179 0=some 0:=by kernel_rfl
theorem aDD:aQ Tryz.prog 179 3=some 3:=by kernel_rfl
theorem tP:aQ Tryz.prog 179 1=some 1:=by kernel_rfl
theorem aGA:aQ Tryz.prog 179 2=some 2:=by kernel_rfl
theorem aBJ:bL Tryz.prog 189=some (179,4,48):=by kernel_rfl
theorem aBL:(bL Tryz.prog 189).isSome=true:=by kernel_rfl
theorem mY:bY Tryz.prog 179=some (some 4):=by kernel_rfl
theorem aMS:aJ Tryz.prog 144=true:=by kernel_rfl
theorem aDU:dV Tryz.prog 179=some ([.string ByteArray.empty,.int .u64 0,.int .u8 0,.string ByteArray.empty]):=by kernel_rfl
theorem tV:cI Tryz.prog 179=some 4:=by kernel_rfl
theorem aHy (e:Ent) (G:PM):Ct Tryz.prog 144 ([e.val]:List Value).toArray G [] (fun _ μ' u=>μ'=[]∧u=.bool (jT e)):=by
 refine Ct.of Tryz.func144 rfl Tryz.ntmps144 rfl fun w0 hs0=>?_
 refine .seq (bF rfl rfl ?_)
 refine bX rfl rfl rfl ?_; intro b1
 refine .g (fZ rfl mB rfl (lO rfl cQ rfl .here (by first|exact aK rfl|rfl) ?_))
 refine ls rfl .no cE (.u rfl) (cP rfl rfl rfl rfl (.g (cD rfl (fun c1=>?_) (fun c1=>?_))))
 ·have c1k:=c1
  try simp only [aD,aL,aE] at c1
  refine .g (qG rfl c1k ?_)
  refine .seq (aP rfl rfl (aS rfl rfl (.nc (.ret (aN Tryz.results144 (.tmp rfl .nil) ?_)))))
  exact ⟨rfl,congrArg Value.bool (eR1 c1).symm⟩
 have c1k:=c1
 try simp only [aD,aL,aE] at c1
 refine .g (fZ rfl aDD rfl (lO rfl cQ rfl .here (by first|exact aK rfl|rfl) ?_))
 refine ls rfl .no cE (.u rfl) (cP rfl rfl rfl rfl (.g (cD rfl (fun c2=>?_) (fun c2=>?_))))
 ·have c2k:=c2
  try simp only [aD,aL,aE] at c2
  refine .g (qG rfl c2k ?_)
  refine .seq (aP rfl rfl (aS rfl rfl (.nc (.ret (aN Tryz.results144 (.tmp rfl .nil) ?_)))))
  exact ⟨rfl,congrArg Value.bool (eR2 c2).symm⟩
 have c2k:=c2
 try simp only [aD,aL,aE] at c2
 refine .g (fZ rfl tP rfl (lO rfl bI rfl .here (by first|exact aK rfl|rfl) ?_))
 refine cP rfl rfl rfl rfl (.g (cD rfl (fun c3=>?_) (fun c3=>?_)))
 ·have c3k:=c3
  try simp only [aD,aL,aE] at c3
  refine .seq (aP rfl rfl (aS rfl rfl (.nc (.ret (aN Tryz.results144 (.tmp rfl .nil) ?_)))))
  exact ⟨rfl,congrArg Value.bool (eR3 c3).symm⟩
 have c3k:=c3
 try simp only [aD,aL,aE] at c3
 refine .g (fZ rfl aGA rfl (lO rfl cZ rfl .here (by first|exact aK rfl|rfl) ?_))
 refine cP rfl rfl rfl rfl (.g (cD rfl (fun c4=>?_) (fun c4=>?_)))
 ·have c4k:=c4
  try simp only [aD,aL,aE] at c4
  refine .g (fZ rfl aDD rfl (lO rfl cQ rfl .here (by first|exact aK rfl|rfl) ?_))
  refine cs rfl .no (.u rfl) (.u rfl) rfl (aS rfl rfl (.nc (.ret (aN Tryz.results144 (.tmp rfl .nil) ?_))))
  exact ⟨rfl,congrArg Value.bool (eR4 c1 c2 c3 c4).symm⟩
 have c4k:=c4
 try simp only [aD,aL,aE] at c4
 refine .g (fZ rfl aGA rfl (lO rfl cZ rfl .here (by first|exact aK rfl|rfl) ?_))
 refine cP rfl rfl rfl rfl (aS rfl rfl (.nc (.ret (aN Tryz.results144 (.tmp rfl .nil) ?_))))
 exact ⟨rfl,congrArg Value.bool (eR5 c1 c2 c3 c4).symm⟩
theorem aKI (h:Sh) (l:List Ent) (G:PM) (hs:SlR G 4 Ent.cells h l) (hl:l.length≤10000000000000):Ct Tryz.prog 196 ([h.val l.length]:List Value).toArray G [] (fun _ μ' u=>μ'=[]∧u=.bool (aAg l)):=by
 refine Ct.of Tryz.func196 rfl Tryz.ntmps196 rfl fun w0 hs0=>?_
 refine .seq (aP rfl rfl (aS rfl rfl (.nc (.seq (.seq (aP rfl rfl (aS rfl rfl (.nc (.block ?_)))))))))
 refine aV (α:=Nat) (fun k=>[(3,true,.int .i64 (k:Int))]) (fun _=>[])
  (fun k Gl=>(1≤k∧(k≤l.length∨l.length=0))∧(∀ j,j+1<k→pC (l.getD j Ent.zero) (l.getD (j+1) Ent.zero)=true)) (fun k=>l.length-k) 1 [(0,true,_)] []
  (aO rfl (aA rfl eZ))
  mN ?_ ?_
 ·refine ⟨?_,?_⟩
  ·(try dsimp only)<;>(first|omega|rfl|assumption|(simp; done))
  (try dsimp only)<;>(exact fun j h=>absurd h (by omega))
 intro k N0 Gl0 hN0 hGl0 hF0
 try dsimp only at hF0 hN0 ⊢
 obtain ⟨hk,hj⟩:=hF0
 have hs:=hs.mono hGl0
 refine .g (lE rfl aBL rfl (cP rfl rfl rfl rfl (.g (cD rfl (fun c1=>?_) (fun c1=>?_)))))
 ·have c1k:=c1
  try simp only [aD,aE] at c1
  refine .skip (.code (.seq (.block (.seq (eT ⟨false,false⟩ aY (by kernel_rfl) ?_)))))
  refine Wp.one 0 (by kernel_rfl) ?_
  refine mV rfl rfl (.nil (Wp.one 1 (by kernel_rfl) ?_))
  refine mV rfl rfl (.nil (Wp.one 2 (by kernel_rfl) ?_))
  refine aR rfl rfl rfl rfl ?_
  refine .nil (Wp.one 3 (by kernel_rfl) ?_)
  refine ih rfl .no aBJ (.u rfl) (.u rfl) (by omega) (by omega) (fun _=>hs.nn (k:=((((k:Nat):Int)-(1:Int))).toNat) (by first|omega|(simp only [Bool.and_eq_true,decide_eq_true_eq] at hc; omega)|(simp only [List.length_cons,List.length_nil]; omega))) ?_
  refine .nil (Wp.one 4 (by kernel_rfl) ?_)
  obtain ⟨x,ex⟩:=dT (k:=k-1) (xs:=l) (by omega)
  refine lA rfl .no mY (.u rfl) (fun _=>(hs.at (by omega) ex).rd) (fun _=>Ent.len _) ?_
  refine .nil (Wp.one 5 (by kernel_rfl) ?_)
  refine mV rfl rfl (.nil (Wp.one 6 (by kernel_rfl) ?_))
  refine mV rfl rfl (.nil (Wp.one 7 (by kernel_rfl) ?_))
  refine ih rfl .no aBJ (.u rfl) (.u rfl) (by omega) (by omega) (fun _=>hs.nn (k:=k) (by first|omega|(simp only [Bool.and_eq_true,decide_eq_true_eq] at hc; omega)|(simp only [List.length_cons,List.length_nil]; omega))) ?_
  refine .nil (mH 8 (by kernel_rfl) ?_)
  obtain ⟨y,ey⟩:=dT (k:=k) (xs:=l) (by omega)
  refine lA rfl .no mY (.u rfl) (fun _=>(hs.at (by omega) ey).rd) (fun _=>Ent.len _) ?_
  refine .nil ⟨⟨rfl,rfl⟩,?_⟩
  refine Wp.b2 9 10 (by kernel_rfl) ?_ ?_
  ·refine al rfl aDU ?_; intro b4
   refine .nil (Wp.b1 10 (by kernel_rfl) ?_)
   refine al rfl aDU ?_; intro b5
   refine .nil (Wp.b1 11 (by kernel_rfl) ?_)
   refine sw rfl (.u rfl) (.u rfl) rfl tV aC (by first|rfl|exact Ent.len _) (Ent.one _) ?_
   refine .nil (Wp.b1 12 (by kernel_rfl) ?_)
   refine sw rfl (.u rfl) (.u rfl) rfl tV aC (by first|rfl|exact Ent.len _) (Ent.one _) ?_
   refine .nil (Wp.last (by kernel_rfl) ?_)
   refine .g (fZ rfl mB rfl (lO rfl cQ rfl aC (by first|exact aK rfl|rfl) ?_))
   refine fZ rfl mB rfl (lO rfl cQ rfl .here (by first|exact aK rfl|rfl) ?_)
   refine cs rfl .no (.u rfl) (.u rfl) rfl (.p (fz rfl (.f rfl rfl) mB (.u rfl) (ld rfl (.f rfl rfl) cQ (.s rfl) (fun hc=>Rd.own aC (by first|exact aK rfl|rfl)) ?_)))
   refine fz rfl (.f rfl rfl) mB (.u rfl) (ld rfl (.f rfl rfl) cQ (.s rfl) (fun hc=>Rd.own .here (by first|exact aK rfl|rfl)) ?_)
   refine cs rfl (.f rfl rfl) (.s rfl) (.s rfl) rfl (mv rfl (.f rfl rfl) (.s rfl) (fz rfl (.tc rfl rfl) tP (.u rfl) (ld rfl (.tc rfl rfl) bI (.s rfl) (fun hc=>Rd.own aC (by first|exact aK rfl|rfl)) ?_)))
   refine fz rfl (.tc rfl rfl) tP (.u rfl) (ld rfl (.tc rfl rfl) bI (.s rfl) (fun hc=>Rd.own .here (by first|exact aK rfl|rfl)) ?_)
   refine cp rfl (.tc rfl rfl) (.s rfl) (.s rfl) rfl (cW rfl (.f rfl rfl) (.s rfl) (.s rfl) (cF rfl .no (.u rfl) (.s rfl) (.g (cD rfl (fun c2=>?_) (fun c2=>?_)))))
   ·have c2k:=c2
    try simp only [aD,aE] at c2
    refine .seq (aP rfl rfl (aS rfl rfl (.nc (.ret (aN Tryz.results196 (.tmp rfl .nil) ?_)))))
    exact ⟨rfl,congrArg Value.bool (aKF hk.1 ex ey c2k).symm⟩
   have c2k:=c2
   try simp only [aD,aE] at c2
   refine .g (aW (((k+1):Nat):Int) rfl rfl rfl rfl ?_)
   refine .g (aT (k+1) ?_ ?_ ?_ ?_ ?_)
   ·exact (aO rfl (aA rfl eZ))
   ·exact mN
   ·first|omega|(dsimp only; omega)
   ·exact hGl0
   refine ⟨?_,?_⟩
   ·(try dsimp only)<;>(first|omega|rfl|assumption|(simp; done))
   (try dsimp only)<;>(exact aKG hk.1 hj ex ey c2k)
  refine al rfl aDU ?_; intro b5
  refine .nil (Wp.b1 9 (by kernel_rfl) ?_)
  refine al rfl aDU ?_; intro b4
  refine .nil (Wp.b1 11 (by kernel_rfl) ?_)
  refine sw rfl (.u rfl) (.u rfl) rfl tV .here (by first|rfl|exact Ent.len _) (Ent.one _) ?_
  refine .nil (Wp.b1 12 (by kernel_rfl) ?_)
  refine sw rfl (.u rfl) (.u rfl) rfl tV aC (by first|rfl|exact Ent.len _) (Ent.one _) ?_
  refine .nil (Wp.last (by kernel_rfl) ?_)
  refine .g (fZ rfl mB rfl (lO rfl cQ rfl aC (by first|exact aK rfl|rfl) ?_))
  refine fZ rfl mB rfl (lO rfl cQ rfl .here (by first|exact aK rfl|rfl) ?_)
  refine cs rfl .no (.u rfl) (.u rfl) rfl (.p (fz rfl (.f rfl rfl) mB (.u rfl) (ld rfl (.f rfl rfl) cQ (.s rfl) (fun hc=>Rd.own aC (by first|exact aK rfl|rfl)) ?_)))
  refine fz rfl (.f rfl rfl) mB (.u rfl) (ld rfl (.f rfl rfl) cQ (.s rfl) (fun hc=>Rd.own .here (by first|exact aK rfl|rfl)) ?_)
  refine cs rfl (.f rfl rfl) (.s rfl) (.s rfl) rfl (mv rfl (.f rfl rfl) (.s rfl) (fz rfl (.tc rfl rfl) tP (.u rfl) (ld rfl (.tc rfl rfl) bI (.s rfl) (fun hc=>Rd.own aC (by first|exact aK rfl|rfl)) ?_)))
  refine fz rfl (.tc rfl rfl) tP (.u rfl) (ld rfl (.tc rfl rfl) bI (.s rfl) (fun hc=>Rd.own .here (by first|exact aK rfl|rfl)) ?_)
  refine cp rfl (.tc rfl rfl) (.s rfl) (.s rfl) rfl (cW rfl (.f rfl rfl) (.s rfl) (.s rfl) (cF rfl .no (.u rfl) (.s rfl) (.g (cD rfl (fun c2=>?_) (fun c2=>?_)))))
  ·have c2k:=c2
   try simp only [aD,aE] at c2
   refine .seq (aP rfl rfl (aS rfl rfl (.nc (.ret (aN Tryz.results196 (.tmp rfl .nil) ?_)))))
   exact ⟨rfl,congrArg Value.bool (aKF hk.1 ex ey c2k).symm⟩
  have c2k:=c2
  try simp only [aD,aE] at c2
  refine .g (aW (((k+1):Nat):Int) rfl rfl rfl rfl ?_)
  refine .g (aT (k+1) ?_ ?_ ?_ ?_ ?_)
  ·exact (aO rfl (aA rfl eZ))
  ·exact mN
  ·first|omega|(dsimp only; omega)
  ·exact hGl0
  refine ⟨?_,?_⟩
  ·(try dsimp only)<;>(first|omega|rfl|assumption|(simp; done))
  (try dsimp only)<;>(exact aKG hk.1 hj ex ey c2k)
 have c1k:=c1
 try simp only [aD,aE] at c1
 refine .exit (.xcode (.xlp (.xblk (.code (.seq (aP rfl rfl (aS rfl rfl (.nc (.ret (aN Tryz.results196 (.tmp rfl .nil) ?_))))))))))
 exact ⟨rfl,congrArg Value.bool (aTZ (by omega) hj).symm⟩
end Go.Proofs.YtoifkgkandfeiaaGreatDoor
