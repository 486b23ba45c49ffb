/- Lemmas and contracts of functions, joined. -/
import Derived.Test.YtoifkgkandfeiaaGreatDoorDb1
import Derived.Lib.AppendStr
import Derived.Laws.IdiomStrings
import Derived.Control
import Derived.Lib.IndexMore
import Derived.Deep.Draws
import Derived.Sort.Grow
import Derived.Lib.IndexBytes
import Derived.Laws.RangeAny
import Derived.Lib.ItoaMem
import Derived.Lib.Join
import Derived.Lib.UnsafeStr
import Derived.Lib.Builder
import Derived.Sort.Row
import Derived.Below
import Derived.Lib.ItoaNum
set_option linter.unusedSimpArgs false
set_option linter.unusedVariables false
set_option linter.unusedSectionVars false
namespace Go.Tan
open Go.RowKit
theorem ba_beq (a b:ByteArray):(a == b)=decide (a=b):=by
 rcases a with ⟨a⟩; rcases b with ⟨b⟩
 show (a == b)=_
 by_cases h:a=b
 ·subst h; simp
 ·rw [decide_eq_false (fun q=>h (by cases q; rfl))]
  exact beq_eq_false_iff_ne.2 h
abbrev FE:=ByteArray×Value×Nat
def mE (e:FE):MapEntry:=⟨.string e.1,e.2.1,e.2.2⟩
def mO (es:List FE) (clk:Nat):Obj:=.map (es.map mE).toArray clk
def mpg (k:ByteArray):List FE→Option Value
 | []=>none
 | e :: r=>if e.1=k then some e.2.1 else mpg k r
def mps (k:ByteArray) (v:Value):List FE→List FE
 | []=>[]
 | e :: r=>if e.1=k then (e.1,v,e.2.2) :: r else e :: mps k v r
def mpd (k:ByteArray):List FE→List FE
 | []=>[]
 | e :: r=>if e.1=k then r else e :: mpd k r
def findS (k:ByteArray):List FE→Nat→Option (Nat×Value)
 | [],_=>none
 | e :: r,i=>if e.1=k then some (i,e.2.1) else findS k r (i+1)
theorem findNow_str {k:ByteArray}:∀ (es:List FE) (i:Nat),Instr.findNow .string (.string k) (es.map mE) i=some (findS k es i)
 | [],i=>rfl
 | e :: es,i=>by
  rw [List.map_cons,Instr.findNow,findS]
  by_cases h:e.1=k
  ·rw [if_pos h]; simp only [Instr.sameNow,mE,h,ba_beq,decide_true]
  ·rw [if_neg h]
   have:(k == e.1)=false:=by rw [ba_beq]; exact decide_eq_false fun q=>h q.symm
   simp only [Instr.sameNow,mE,this]
   exact findNow_str es (i+1)
theorem findS_none {k:ByteArray}:∀ {es:List FE} {i:Nat},findS k es i=none→mpg k es=none
 | [],_,_=>rfl
 | e :: es,i,h=>by
  unfold findS at h; unfold mpg
  split at h
  ·cases h
  ·rename_i q; rw [if_neg q]; exact findS_none h
theorem findS_some {k:ByteArray} {j:Nat} {v:Value}:∀ {es:List FE} {i:Nat},findS k es i=some (j,v)→i≤j∧mpg k es=some v∧(∃ e,es[j-i]? = some e∧e.1=k) ∧
  (∀ u,((es.map mE).modify (j-i) fun e=>{ e with key:=.string k,val:=u })=(mps k u es).map mE)∧((es.map mE).eraseIdx (j-i)=(mpd k es).map mE)
 | e :: es,i,h=>by
  unfold findS at h
  split at h
  ·rename_i q
   simp only [Option.some.injEq,Prod.mk.injEq] at h
   obtain ⟨rfl,rfl⟩:=h
   refine ⟨Nat.le_refl _,by rw [mpg,if_pos q],⟨e,by simp,q⟩,fun u=>?_,?_⟩
   ·rw [Nat.sub_self,mps,if_pos q]
    simp [mE,q]
   rw [Nat.sub_self,mpd,if_pos q]; simp
  rename_i q
  obtain ⟨h1,h2,⟨e',h3,h4⟩,h5,h6⟩:=findS_some h
  have hj:j-i=(j-(i+1))+1:=by omega
  refine ⟨by omega,by rw [mpg,if_neg q]; exact h2,⟨e',by rw [hj]; simpa using h3,h4⟩,fun u=>?_,?_⟩
  ·rw [hj,mps,if_neg q,List.map_cons,List.map_cons,List.modify_succ_cons,h5 u]
  rw [hj,mpd,if_neg q,List.map_cons,List.map_cons,List.eraseIdx_cons_succ,h6]
def msE (P:Program) (T:TypeId):Option TypeId :=
 match P.underlying T with
 | some (.map k e)=>match P.underlying k with
  | some .string=>some e
  | _=>none
 | _=>none
theorem msE_some {P:Program} {T e:TypeId} (h:msE P T=some e):∃ k,P.underlying T=some (.map k e)∧P.underlying k=some .string:=by
 unfold msE at h
 split at h
 ·rename_i k e' hu
  split at h
  ·rename_i hk
   simp only [Option.some.injEq] at h
   subst h
   exact ⟨k,hu,hk⟩
  ·cases h
 ·cases h
theorem checkKey_str {P:Program} {T:TypeId} (hT:P.underlying T=some .string) (e:Bool) (n:Nat) (k:ByteArray) (w:World):(Instr.checkKey e (n+1) T (.string k)).run P w=.ok () w:=by
 rw [Instr.checkKey]; simp [run_underlying hT]
theorem Tr.setO {G:PM} {w:World} {b:Nat} {o o':Obj} (hs:Sat G [.blk b o] w):Tr G (keys [.blk b o]) w G [.blk b o'] { w with heap:=w.heap.setIfInBounds b o' }:=by
 have h3:w.heap[b]? = some o:=hs.own (.blk b o) (List.mem_singleton.2 rfl)
 have hlt:b<w.heap.size:=(Array.getElem?_eq_some_iff.1 h3).1
 have hG:G b=none:=hs.apart b (by simp [keys,Res.keys])
 refine ⟨⟨fun c o hc=>?_,fun r hr=>?_,fun c hc=>?_,by simp [keys,Res.keys]⟩,rfl,rfl,rfl,by simp,fun c _ hc=>⟨?_,rfl⟩,fun c hc=>.inl hc,fun _ _ _ h=>h⟩
 ·show (w.heap.setIfInBounds b _)[c]? = _
  rw [Array.getElem?_setIfInBounds_ne (fun e=>by subst e; rw [hG] at hc; cases hc)]
  exact hs.sub c o hc
 ·rw [List.mem_singleton.1 hr]
  show (w.heap.setIfInBounds b _)[b]? = _
  simp [hlt]
 ·simp only [keys,Res.keys,List.flatMap_cons,List.flatMap_nil,List.append_nil,List.mem_singleton] at hc
  rw [hc]; exact hG
 show (w.heap.setIfInBounds b _)[c]? = _
 rw [Array.getElem?_setIfInBounds_ne (fun e=>by subst e; exact hc (by simp [keys,Res.keys]))]
theorem Tr.setT {G0 G:PM} {K0:List Nat} {w0 w:World} {b:Nat} {o o':Obj} (ht:Tr G0 K0 w0 G [.blk b o] w) (hb:b∈K0):Tr G0 K0 w0 G [.blk b o'] { w with heap:=w.heap.setIfInBounds b o' }:=by
 have h1:=Tr.setO (o':=o') ht.sat
 refine ⟨h1.sat,h1.os.trans ht.os,h1.tape.trans ht.tape,h1.output.trans ht.output,Nat.le_trans ht.size h1.size,fun c hc hn=>?_,ht.mine,ht.le⟩
 have h2:=ht.old c hc hn
 refine ⟨?_,h2.2⟩
 rw [← h2.1]
 show (w.heap.setIfInBounds b _)[c]? = _
 rw [Array.getElem?_setIfInBounds_ne (fun e=>by subst e; exact hn hb)]
def NxR (es:List FE) (seen:List Nat):Option FE→Prop
 | none=>∀ e∈es,e.2.2∈seen
 | some e=>e∈es∧¬ e.2.2∈seen
def nxT:Option FE→Array Value
 | none=>#[.bool false]
 | some e=>#[.bool true,.string e.1,e.2.1]
def nxV (o:Option FE):Value:=.tuple (nxT o)
theorem nx_b (o:Option FE):(nxT o).toList[0]? = some (.bool o.isSome):=by cases o<;>rfl
def itO (bm since last:Nat) (seen:List Nat):Obj:=.mapIter (some bm) since seen.toArray last
def nxI (bm since last clk:Nat) (seen:List Nat):Option FE→Obj
 | none=>itO bm since last seen
 | some e=>itO bm since clk (seen++[e.2.2])
theorem run_chooseM {P:Program} {n:Nat} (hn:0<n) (w:World):∃ j w',(choose (.mapNext n)).run P w=.ok j w'∧j<n∧(w'=w∨w' = { w with drawn:=w.drawn+1 }):=by
 by_cases hf:(Question.mapNext n).forced=true
 ·exact ⟨0,w,by simp [choose,Sem.run,hf],hn,.inl rfl⟩
 ·exact ⟨(Question.mapNext n).cut (w.tape w.drawn (.mapNext n)),{ w with drawn:=w.drawn+1 },by simp [choose,Sem.run,hf],Nat.mod_lt _ hn,.inr rfl⟩
section
variable {dr:Bool} {mc:Md} {P:Program} {n:Fm} {l:List Oper} {K:Env→PM→Mem→Prop} {i:Nat} {σ:List Nat} {ρ:Env} {G:PM} {μ:Mem}
variable {d t:Nat} {p:String} {af:Array Edge} {g:Option (Nat×Bool)} {c:Bool}
theorem mkM {T:TypeId} (ho:nth l i=some ⟨some d,.makeMap T none,t,p,af,none⟩) (h:∀ b,Wo dr mc P n l K σ ((d,true,.map (some b)) :: ρ) G (.blk b (mO [] 0) :: μ)):Wo dr mc P n l K (i :: σ) ρ G μ:=by
 refine .act (μ₁:=[]) (μ₂:=μ) (post:=fun G' μ' v=>∃ b,G'=G∧μ'=[.blk b (mO [] 0)]∧v=.map (some b)) ho (.inl rfl) .no (.refl _) (fun a w ha hs=>.inl ?_) ?_
 ·have h0:Tr G (keys []) w G (.blk w.heap.size (.map #[] 0) :: []) (w.alloc (.map #[] 0)):=(Tr.begin (Sat.left (μ:=[]) hs)).alloc _
  exact ⟨.map (some w.heap.size),w.alloc (.map #[] 0),G,[.blk w.heap.size (mO [] 0)],.inl (by simp [execOp,Instr.makeMap]),h0,w.heap.size,rfl,rfl,rfl⟩
 rintro v G' μ'' _ ⟨b,rfl,rfl,rfl⟩
 exact h b
theorem run_look {T e b clk:Nat} {es:List FE} {k:ByteArray} {z:Value} {w:World} {ok:Bool} (hT:msE P T=some e) (hz:(P.info? e).bind (·.zero)=some z) (h3:w.heap[b]? = some (mO es clk)) :
  (Instr.lookup T (.map (some b)) (.string k) ok).run P w=.ok (if ok then .tuple #[(mpg k es).getD z,.bool (mpg k es).isSome] else (mpg k es).getD z) w:=by
 obtain ⟨kt,h1,h2⟩:=msE_some hT
 have hzv:(zeroValue e).run P w=.ok z w:=by
  cases hi:P.info? e with
  | none=>rw [hi] at hz; cases hz
  | some inf =>
   rw [hi] at hz
   simp only [Option.bind_some] at hz
   simp [zeroValue,typeInfo,hi,hz]
 have hgo:(getObj b).run P w=.ok (.map (es.map mE).toArray clk) w:=by simp [getObj,Sem.run,h3,mO]
 have h6:=findNow_str (k:=k) es 0
 simp only [Instr.lookup,Sem.run_bind,run_underlying h1,Result.andThen_ok,hgo,Sem.run_pure,checkKey_str h2,Instr.findKey,run_underlying h2,h6]
 cases hf:findS k es 0 with
 | none=>rw [findS_none hf]; cases ok<;>simp [hzv]
 | some jv =>
  obtain ⟨j,v⟩:=jv
  rw [(findS_some hf).2.1]; cases ok<;>simp
theorem lkS {T e b clk:Nat} {x y:Operand} {es:List FE} {k:ByteArray} {z:Value} (ho:nth l i=some ⟨some d,.lookup T x y false,t,p,af,g⟩) (hg:Gd l ρ g c) (hT:msE P T=some e) (hz:(P.info? e).bind (·.zero)=some z) (hx:Ev ρ c x (.map (some b))) (hy:Ev ρ c y (.string k))
  (hmap:∀ w,Sat G μ w→w.heap[b]? = some (mO es clk)) {v:Value} (hv:(mpg k es).getD z=v) (h:Wo dr mc P n l K σ ((d,c,v) :: ρ) G μ):Wo dr mc P n l K (i :: σ) ρ G μ :=
 .read ho (.inl rfl) hg (fun hc a w ha hs=>by
  have h3:w.heap[b]? = some (mO es clk):=hmap w hs
  simp [execOp,hx.eval ha hc,hy.eval ha hc,run_look (ok:=false) hT hz h3,hv]) h
theorem lkS2 {T e b clk:Nat} {x y:Operand} {es:List FE} {k:ByteArray} {z:Value} (ho:nth l i=some ⟨some d,.lookup T x y true,t,p,af,g⟩) (hg:Gd l ρ g c) (hT:msE P T=some e) (hz:(P.info? e).bind (·.zero)=some z) (hx:Ev ρ c x (.map (some b))) (hy:Ev ρ c y (.string k))
  (hmap:∀ w,Sat G μ w→w.heap[b]? = some (mO es clk)) {v:Value} {q:Bool} (hv:(mpg k es).getD z=v) (hq:(mpg k es).isSome=q) (h:Wo dr mc P n l K σ ((d,c,.tuple #[v,.bool q]) :: ρ) G μ):Wo dr mc P n l K (i :: σ) ρ G μ :=
 .read ho (.inl rfl) hg (fun hc a w ha hs=>by
  have h3:w.heap[b]? = some (mO es clk):=hmap w hs
  simp [execOp,hx.eval ha hc,hy.eval ha hc,run_look (ok:=true) hT hz h3,hv,hq]) h
theorem muS {T e b clk:Nat} {x y z:Operand} {es:List FE} {k:ByteArray} {v:Value} {μ':Mem} (ho:nth l i=some ⟨none,.mapUpdate T x y z,t,p,af,none⟩) (hT:msE P T=some e) (hx:Ev ρ true x (.map (some b))) (hy:Ev ρ true y (.string k)) (hz:Ev ρ true z v)
  (hm:MTake μ (.blk b (mO es clk)) μ') (hn:mpg k es=none) (h:Wo dr mc P n l K σ ρ G (.blk b (mO (es++[(k,v,clk)]) (clk+1)) :: μ')):Wo dr mc P n l K (i :: σ) ρ G μ:=by
 refine .act (μ₁:=[.blk b (mO es clk)]) (μ₂:=μ') (post:=fun G' μ' u=>G'=G∧μ'=[.blk b (mO (es++[(k,v,clk)]) (clk+1))]∧u=undef) ho (.inl rfl) .no hm.perm (fun a w ha hs=>.inl ?_) ?_
 ·have h3:w.heap[b]? = some (mO es clk):=hs.left.own (.blk b (mO es clk)) (List.mem_singleton.2 rfl)
  obtain ⟨kt,h1,h2⟩:=msE_some hT
  have hgo:(getObj b).run P w=.ok (.map (es.map mE).toArray clk) w:=by simp [getObj,Sem.run,h3,mO]
  have hset:∀ o,(setObj b o).run P w=.ok () { w with heap:=w.heap.setIfInBounds b o }:=fun o=>by simp [setObj,Sem.run,h3,mO]
  have h6:=findNow_str (k:=k) es 0
  have h7:findS k es 0=none:=by
   cases hf:findS k es 0 with
   | none=>rfl
   | some jv=>rw [(findS_some (j:=jv.1) (v:=jv.2) hf).2.1] at hn; cases hn
  refine ⟨undef,_,G,_,.inr ⟨?_,rfl⟩,Tr.setO hs.left,rfl,rfl,rfl⟩
  simp only [execOp,hx.eval ha rfl,hy.eval ha rfl,hz.eval ha rfl,Instr.mapUpdate,Sem.run_bind,run_underlying h1,Result.andThen_ok,hgo,Sem.run_pure,checkKey_str h2,Instr.findKey,run_underlying h2,h6,h7,hset]
  simp [mO,mE]
 rintro u G' μ'' _ ⟨rfl,rfl,rfl⟩
 exact h
theorem muT {T e b clk:Nat} {x y z:Operand} {es:List FE} {k:ByteArray} {v v0:Value} {μ':Mem} (ho:nth l i=some ⟨none,.mapUpdate T x y z,t,p,af,none⟩) (hT:msE P T=some e) (hx:Ev ρ true x (.map (some b))) (hy:Ev ρ true y (.string k)) (hz:Ev ρ true z v)
  (hm:MTake μ (.blk b (mO es clk)) μ') (hn:mpg k es=some v0) (h:Wo dr mc P n l K σ ρ G (.blk b (mO (mps k v es) clk) :: μ')):Wo dr mc P n l K (i :: σ) ρ G μ:=by
 refine .act (μ₁:=[.blk b (mO es clk)]) (μ₂:=μ') (post:=fun G' μ' u=>G'=G∧μ'=[.blk b (mO (mps k v es) clk)]∧u=undef) ho (.inl rfl) .no hm.perm (fun a w ha hs=>.inl ?_) ?_
 ·have h3:w.heap[b]? = some (mO es clk):=hs.left.own (.blk b (mO es clk)) (List.mem_singleton.2 rfl)
  obtain ⟨kt,h1,h2⟩:=msE_some hT
  have hgo:(getObj b).run P w=.ok (.map (es.map mE).toArray clk) w:=by simp [getObj,Sem.run,h3,mO]
  have hset:∀ o,(setObj b o).run P w=.ok () { w with heap:=w.heap.setIfInBounds b o }:=fun o=>by simp [setObj,Sem.run,h3,mO]
  have h6:=findNow_str (k:=k) es 0
  cases hf:findS k es 0 with
  | none=>rw [findS_none hf] at hn; cases hn
  | some jv =>
   obtain ⟨j,v1⟩:=jv
   obtain ⟨_,_,⟨e',he1,he2⟩,hm2,_⟩:=findS_some hf
   rw [Nat.sub_zero] at hm2 he1
   have he3:((es.map mE).toArray)[j]? = some (mE e'):=by simp [he1]
   have hsb:Instr.sameBits 10000 (.string k) (.string k)=true:=by rw [Instr.sameBits,ba_beq]; exact decide_eq_true rfl
   refine ⟨undef,_,G,_,.inr ⟨?_,rfl⟩,Tr.setO hs.left,rfl,rfl,rfl⟩
   simp only [execOp,hx.eval ha rfl,hy.eval ha rfl,hz.eval ha rfl,Instr.mapUpdate,Sem.run_bind,run_underlying h1,Result.andThen_ok,hgo,Sem.run_pure,checkKey_str h2,Instr.findKey,run_underlying h2,h6,hf,hset,he3,Option.map_some,Option.getD_some,Instr.keyThatStays]
   have hk:(mE e').key=.string k:=by rw [mE,he2]
   rw [hk,hsb]
   simp only [if_true,Sem.run_pure,Result.andThen_ok,hset]
   have:(es.map mE).toArray.modify j (fun e=>{ e with key:=.string k,val:=v })=((mps k v es).map mE).toArray:=by rw [← hm2 v]; simp
   rw [this]; rfl
 rintro u G' μ'' _ ⟨rfl,rfl,rfl⟩
 exact h
theorem dlS {dd:Option Nat} {T e b clk:Nat} {x y:Operand} {es:List FE} {k:ByteArray} {v0:Value} {μ':Mem} {T2:TypeId} (ho:nth l i=some ⟨dd,.call { callee:=.builtin .delete,args:=#[x,y],argTypes:=#[T,T2] },t,p,af,none⟩) (hT:msE P T=some e) (hx:Ev ρ true x (.map (some b))) (hy:Ev ρ true y (.string k))
  (hm:MTake μ (.blk b (mO es clk)) μ') (hn:mpg k es=some v0) (h:Wo dr mc P n l K σ (lay ρ dd true (.tuple #[])) G (.blk b (mO (mpd k es) clk) :: μ')):Wo dr mc P n l K (i :: σ) ρ G μ:=by
 refine .act (μ₁:=[.blk b (mO es clk)]) (μ₂:=μ') (post:=fun G' μ' u=>G'=G∧μ'=[.blk b (mO (mpd k es) clk)]∧u=.tuple #[]) ho (.inl rfl) .no hm.perm (fun a w ha hs=>.inl ?_) ?_
 ·have h3:w.heap[b]? = some (mO es clk):=hs.left.own (.blk b (mO es clk)) (List.mem_singleton.2 rfl)
  obtain ⟨kt,h1,h2⟩:=msE_some hT
  have hgo:(getObj b).run P w=.ok (.map (es.map mE).toArray clk) w:=by simp [getObj,Sem.run,h3,mO]
  have hset:∀ o,(setObj b o).run P w=.ok () { w with heap:=w.heap.setIfInBounds b o }:=fun o=>by simp [setObj,Sem.run,h3,mO]
  have h6:=findNow_str (k:=k) es 0
  cases hf:findS k es 0 with
  | none=>rw [findS_none hf] at hn; cases hn
  | some jv =>
   obtain ⟨j,v1⟩:=jv
   obtain ⟨_,_,⟨e',he1,he2⟩,_,hm2⟩:=findS_some hf
   rw [Nat.sub_zero] at hm2
   have he:((es.map mE).toArray.eraseIdxIfInBounds j)=((mpd k es).map mE).toArray:=by
    rw [← hm2]; simp
   refine ⟨.tuple #[],_,G,_,.inl ?_,Tr.setO hs.left,rfl,rfl,rfl⟩
   simp [execOp,resolve,invoke,builtin,hx.eval ha rfl,hy.eval ha rfl,Builtin.delete_,Sem.run_bind,run_underlying h1,hgo,checkKey_str h2,Instr.findKey,run_underlying h2,h6,hf,hset,he,mO]
   rw [hm2]
 rintro u G' μ'' _ ⟨rfl,rfl,rfl⟩
 exact h
theorem mapOwn {b clk:Nat} {es:List FE} {μ':Mem} (hm:MTake μ (.blk b (mO es clk)) μ'):∀ w,Sat G μ w→w.heap[b]? = some (mO es clk):=fun w hs=>hs.own (.blk b (mO es clk)) (hm.perm.mem_iff.2 (List.mem_cons_self ..))
theorem mapStay {b clk:Nat} {es:List FE} (h:G b=some (mO es clk)):∀ w,Sat G μ w→w.heap[b]? = some (mO es clk):=fun w hs=>hs.sub _ _ h
theorem rgS {T b clk:Nat} {x:Operand} {es:List FE} {e:TypeId} (ho:nth l i=some ⟨some d,.range T x,t,p,af,none⟩) (hT:msE P T=some e) (hx:Ev ρ true x (.map (some b))) (hmap:∀ w,Sat G μ w→w.heap[b]? = some (mO es clk))
  (h:∀ bi,Wo dr mc P n l K σ ((d,true,.pointer (some ⟨bi,0,none⟩)) :: ρ) G (.blk bi (itO b clk clk []) :: μ)):Wo dr mc P n l K (i :: σ) ρ G μ:=by
 refine .act (μ₁:=[]) (μ₂:=μ) (post:=fun G' μ' v=>∃ bi,G'=G∧μ'=[.blk bi (itO b clk clk [])]∧v=.pointer (some ⟨bi,0,none⟩)) ho (.inl rfl) .no (.refl _) (fun a w ha hs=>.inl ?_) ?_
 ·have hsμ:Sat G μ w:=by simpa using hs
  have h3:w.heap[b]? = some (mO es clk):=hmap w hsμ
  obtain ⟨kt,h1,h2⟩:=msE_some hT
  have hgo:(getObj b).run P w=.ok (.map (es.map mE).toArray clk) w:=by simp [getObj,Sem.run,h3,mO]
  have h0:Tr G (keys []) w G (.blk w.heap.size (.mapIter (some b) clk #[] clk) :: []) (w.alloc (.mapIter (some b) clk #[] clk)):=(Tr.begin (Sat.left (μ:=[]) hs)).alloc _
  exact ⟨.pointer (some ⟨w.heap.size,0,none⟩),w.alloc (.mapIter (some b) clk #[] clk),G,[_],.inl (by simp [execOp,hx.eval ha rfl,Instr.range,Sem.run_bind,run_underlying h1,hgo]),h0,w.heap.size,rfl,rfl,rfl⟩
 rintro v G' μ'' _ ⟨b,rfl,rfl,rfl⟩
 exact h b
theorem nxS {bi bm since last clk:Nat} {x:Operand} {es:List FE} {seen:List Nat} {μ1:Mem} (ho:nth l i=some ⟨some d,.next x false,t,p,af,none⟩) (hx:Ev ρ true x (.pointer (some ⟨bi,0,none⟩))) (hm:MTake μ (.blk bi (itO bm since last seen)) μ1) (hmap:∀ w,Sat G μ w→w.heap[bm]? = some (mO es clk)) (hold:∀ e∈es,e.2.2<since) (hlast:∀ e∈es,e.2.2<last)
  (h:∀ o:Option FE,NxR es seen o→Wo dr mc P n l K σ ((d,true,nxV o) :: ρ) G (.blk bi (nxI bm since last clk seen o) :: μ1)):Wo dr mc P n l K (i :: σ) ρ G μ:=by
 refine .act (μ₁:=[.blk bi (itO bm since last seen)]) (μ₂:=μ1) (post:=fun G' μ' v=>∃ o,NxR es seen o∧G'=G∧μ'=[.blk bi (nxI bm since last clk seen o)]∧v=nxV o) ho (.inl rfl) .no hm.perm (fun a w ha hs=>.inl ?_) ?_
 ·have hi:w.heap[bi]? = some (itO bm since last seen):=hs.left.own (.blk bi _) (List.mem_singleton.2 rfl)
  have hb:w.heap[bm]? = some (mO es clk):=hmap w (hs.perm hm.perm.symm)
  have hgo:(getObj bm).run P w=.ok (.map (es.map mE).toArray clk) w:=by simp [getObj,Sem.run,hb,mO]
  have hgi:(getObj bi).run P w=.ok (.mapIter (some bm) since seen.toArray last) w:=by simp [getObj,Sem.run,hi,itO]
  have c0:((!seen.toArray.isEmpty && !(es.map mE).toArray.isEmpty)&&(es.map mE).toArray.all (fun e=>decide (e.born≥last)))=false:=by
   cases es with
   | nil=>simp
   | cons e es =>
    have:¬ e.2.2≥last:=by have:=hlast e (List.mem_cons_self ..); omega
    simp [mE,this]
  have e1:((es.map mE).toArray.filter fun e => !seen.toArray.contains e.born)=((es.filter fun e => !seen.contains e.2.2).map mE).toArray:=by
   simp only [List.filter_toArray,List.filter_map,Function.comp_def,mE,List.contains_toArray]
  have e2:(((es.filter fun e => !seen.contains e.2.2).map mE).toArray.filter fun e=>decide (e.born<since))=((es.filter fun e => !seen.contains e.2.2).map mE).toArray:=by
   rw [Array.filter_eq_self.2]
   intro m hm'
   obtain ⟨e,he,rfl⟩:=List.mem_map.1 (List.mem_toArray.1 hm')
   exact decide_eq_true (hold e (List.mem_filter.1 he).1)
  have e3:(((es.filter fun e => !seen.contains e.2.2).map mE).toArray.filter fun e=>decide (e.born≥since)) = #[]:=by
   rw [Array.filter_eq_empty_iff]
   intro m hm'
   obtain ⟨e,he,rfl⟩:=List.mem_map.1 (List.mem_toArray.1 hm')
   have:=hold e (List.mem_filter.1 he).1
   simp [mE]; omega
  generalize hL:(es.filter fun e => !seen.contains e.2.2)=left at e1 e2 e3
  obtain ⟨C,hC⟩ : ∃ C:List (Option MapEntry),C=if left=[] then [none] else left.map fun e=>some (mE e):=⟨_,rfl⟩
  have e4:((if ((left.map mE).toArray).isEmpty then #[none] else #[])++((left.map mE).toArray++#[]).map some:Array (Option MapEntry))=C.toArray:=by
   rw [hC]
   cases left with
   | nil=>simp
   | cons e r=>simp
  have hC0:0<C.toArray.size:=by
   rw [hC]
   split
   ·simp
   rename_i q; simpa using List.length_pos_iff.2 q
  obtain ⟨j,w',hch,hj,hw'⟩:=run_chooseM (P:=P) hC0 w
  have htr:Tr G (keys [.blk bi (itO bm since last seen)]) w G [.blk bi (itO bm since last seen)] w':=by
   rcases hw' with rfl|rfl
   ·exact Tr.begin hs.left
   exact (Tr.begin hs.left).drew
  have hi':w'.heap[bi]? = some (itO bm since last seen):=htr.sat.own (.blk bi _) (List.mem_singleton.2 rfl)
  have hset:∀ o,(setObj bi o).run P w'=.ok () { w' with heap:=w'.heap.setIfInBounds bi o }:=fun o=>by simp [setObj,Sem.run,hi',itO]
  by_cases hl:left=[]
  ·have hCj:C.toArray[j]? = some none:=by
    rw [hC,if_pos hl] at hj ⊢
    simp only [List.size_toArray,List.length_cons,List.length_nil,Nat.zero_add] at hj
    obtain rfl:j=0:=by omega
    rfl
   refine ⟨nxV none,w',G,[.blk bi (nxI bm since last clk seen none)],.inl ?_,htr,none,fun e he=>?_,rfl,rfl,rfl⟩
   ·simp only [execOp,hx.eval ha rfl,Instr.next,Sem.run_bind,hgi,hgo,Result.andThen_ok,c0,e1,e2,e3,e4,Bool.false_eq_true,if_false,hch,hCj,Sem.run_pure,nxV,nxT]
    try rfl
   have:¬ e∈es.filter fun e => !seen.contains e.2.2:=by rw [hL,hl]; simp
   simpa [List.mem_filter,he] using this
  obtain ⟨e,he⟩ : ∃ e,left[j]? = some e:=by
   rw [hC,if_neg hl] at hj
   exact ⟨_,List.getElem?_eq_getElem (by simpa using hj)⟩
  have hm':e∈es.filter fun e => !seen.contains e.2.2:=by rw [hL]; exact List.mem_of_getElem? he
  have hCj:C.toArray[j]? = some (some (mE e)):=by rw [hC,if_neg hl]; simp [he]
  refine ⟨nxV (some e),{ w' with heap:=w'.heap.setIfInBounds bi (itO bm since clk (seen++[e.2.2])) },G,[.blk bi (nxI bm since last clk seen (some e))],.inl ?_,htr.setT (by simp [keys,Res.keys]),some e,?_,rfl,rfl,rfl⟩
  ·have h6:=hset (.mapIter (some bm) since (seen.toArray.push e.2.2) clk)
   simp only [execOp,hx.eval ha rfl,Instr.next,Sem.run_bind,hgi,hgo,Result.andThen_ok,c0,e1,e2,e3,e4,Bool.false_eq_true,if_false,hch,hCj,mE,h6,Sem.run_pure,nxV,nxT]
   simp [itO]
  have:=List.mem_filter.1 hm'
  exact ⟨this.1,by simpa using this.2⟩
 rintro v G' μ'' _ ⟨o,h1,rfl,rfl,rfl⟩
 exact h o h1
theorem etS {bi bm since clk stamp:Nat} {x:Operand} {es:List FE} {seen:List Nat} {e:FE} {μ1:Mem} (ho:nth l i=some ⟨some d,.entry x,t,p,af,none⟩) (hx:Ev ρ true x (.pointer (some ⟨bi,0,none⟩))) (hm:MTake μ (.blk bi (itO bm since clk (seen++[stamp]))) μ1) (hmap:∀ w,Sat G μ w→w.heap[bm]? = some (mO es clk))
  (hf:es.find? (fun e=>e.2.2 == stamp)=some e) (h:Wo dr mc P n l K σ ((d,true,.tuple #[.string e.1,e.2.1]) :: ρ) G μ):Wo dr mc P n l K (i :: σ) ρ G μ:=by
 refine .act (μ₁:=[]) (μ₂:=μ) (post:=fun G' μ' v=>G'=G∧μ'=[]∧v=.tuple #[.string e.1,e.2.1]) ho (.inl rfl) .no (.refl _) (fun a w ha hs0=>.inl ?_) ?_
 ·have hs:Sat G μ w:=by simpa using hs0
  have hi:w.heap[bi]? = some (itO bm since clk (seen++[stamp])):=hs.own (.blk bi _) (hm.perm.mem_iff.2 (List.mem_cons_self ..))
  have hb:w.heap[bm]? = some (mO es clk):=hmap w hs
  have hgo:(getObj bm).run P w=.ok (.map (es.map mE).toArray clk) w:=by simp [getObj,Sem.run,hb,mO]
  have hgi:(getObj bi).run P w=.ok (.mapIter (some bm) since (seen++[stamp]).toArray clk) w:=by simp [getObj,Sem.run,hi,itO]
  have hfe:((es.map mE).toArray.find? fun e=>e.born == stamp)=some (mE e):=by
   rw [List.find?_toArray,List.find?_map]
   have:((fun e:MapEntry=>e.born == stamp) ∘ mE)=fun e:FE=>e.2.2 == stamp:=rfl
   rw [this,hf]; rfl
  refine ⟨.tuple #[.string e.1,e.2.1],w,G,[],.inl ?_,Tr.begin (Sat.left (μ:=[]) hs0),rfl,rfl,rfl⟩
  have hbk:(seen++[stamp]).toArray.back? = some stamp:=by simp
  simp only [execOp,hx.eval ha rfl,Instr.entry,Sem.run_bind,hgi,Result.andThen_ok,hbk,hgo]
  simp [hfe,mE]
 rintro v G' μ'' _ ⟨rfl,rfl,rfl⟩
 exact h
end
inductive CK where
 | int (k:IntKind)
 | str
 | bool
 deriving DecidableEq
def litOf:Value→Lit
 | .int k n=>.int k n
 | .string s=>.string s.data.toList
 | .bool b=>.bool b
 | _=>.bool false
inductive CkOk:CK→Value→Prop where
 | int {k:IntKind} {n:Int} (h1:k.min≤n) (h2:n≤k.max):CkOk (.int k) (.int k n)
 | str {s:ByteArray} (h:s.size≤maxLen):CkOk .str (.string s)
 | bool {b:Bool}:CkOk .bool (.bool b)
inductive Conf:List CK→List Value→Prop where
 | nil:Conf [] []
 | cons {k v ks cs} (h:CkOk k v) (r:Conf ks cs):Conf (k :: ks) (v :: cs)
theorem CkOk.u {k:IntKind} (hk:k.signed=false) (x:BitVec k.bits):CkOk (.int k) (uv k x):=by
 have:=x.isLt
 refine .int ?_ ?_
 ·rw [min_u hk]; omega
 rw [max_u hk]
 have h2:((2^k.bits:Nat):Int)=(2:Int)^k.bits:=by simp
 omega
theorem Conf.len {ks:List CK} {cs:List Value} (h:Conf ks cs):cs.length=ks.length:=by
 induction h with
 | nil=>rfl
 | cons _ _ ih=>simp [ih]
theorem Conf.split {ks ks':List CK}:∀ {cs:List Value},Conf (ks++ks') cs→Conf ks (cs.take ks.length)∧Conf ks' (cs.drop ks.length):=by
 induction ks with
 | nil=>intro cs h; exact ⟨by simpa using Conf.nil,by simpa using h⟩
 | cons k ks ih =>
  intro cs h
  cases h with
  | cons h1 r =>
   obtain ⟨h2,h3⟩:=ih r
   exact ⟨.cons h1 h2,h3⟩
theorem Conf.inj {ks:List CK} {cs cs':List Value} (h:Conf ks cs) (h':Conf ks cs') (e:cs.map litOf=cs'.map litOf):cs=cs':=by
 induction h generalizing cs' with
 | nil=>cases h'; rfl
 | cons h1 _ ih =>
  cases h' with
  | cons h2 r2 =>
   simp only [List.map_cons,List.cons.injEq] at e
   rw [ih r2 e.2]
   congr 1
   cases h1 with
   | int _ _=>cases h2 with | int _ _=>have:=e.1; simp only [litOf,Lit.int.injEq,true_and] at this; rw [this]
   | @str s1 _=>cases h2 with
    | @str s2 _ =>
     have:=e.1
     simp only [litOf,Lit.string.injEq] at this
     have h3:s1.data=s2.data:=by
      have:=congrArg List.toArray this
      simpa using this
     obtain ⟨d1⟩:=s1
     obtain ⟨d2⟩:=s2
     simp only at h3
     rw [h3]
   | bool=>cases h2 with | bool=>have:=e.1; simp only [litOf,Lit.bool.injEq] at this; rw [this]
def shpF (P:Program) (f:TypeId→Option (List CK)):Nat→List Field→Option (List CK)
 | _,[]=>some []
 | o,fl :: r=>match f fl.type with
  | some ks=>if fl.offset=o∧P.cellsOf fl.type=ks.length then (shpF P f (o+ks.length) r).map (ks++·) else none
  | none=>none
def shp (P:Program):Nat→TypeId→Option (List CK)
 | 0,_=>none
 | d+1,t=>match P.underlying t with
  | some (.int k)=>some [.int k]
  | some .string=>some [.str]
  | some .bool=>some [.bool]
  | some (.array n e)=>match shp P d e with
   | some ks=>if P.cellsOf e=ks.length∧P.cellsOf t=n*ks.length then some (List.replicate n ks).flatten else none
   | none=>none
  | some (.struct fs)=>match shpF P (shp P d) 0 fs.toList with
   | some ks=>if P.cellsOf t=ks.length∧fs.all (·.name != "_")=true then some ks else none
   | none=>none
  | _=>none
theorem conf_rep {ks:List CK}:∀ {n:Nat} {cs:List Value},Conf (List.replicate n ks).flatten cs→∀ i,i<n→Conf ks ((cs.drop (i*ks.length)).take ks.length)
 | 0,_,_,i,hi=>by omega
 | n+1,cs,h,i,hi=>by
  rw [List.replicate_succ,List.flatten_cons] at h
  obtain ⟨h1,h2⟩:=h.split
  cases i with
  | zero=>simpa using h1
  | succ i =>
   have:=conf_rep h2 i (by omega)
   rw [List.drop_drop] at this
   rwa [Nat.succ_mul,Nat.add_comm]
theorem chunks {α:Type} {f:Value→α} {L:Nat}:∀ {n:Nat} {cs:List Value},cs.length=n*L→((List.range n).map fun i=>((cs.drop (i*L)).take L).map f).flatten=cs.map f
 | 0,cs,h=>by
  obtain rfl:cs=[]:=List.eq_nil_of_length_eq_zero (by simpa using h)
  rfl
 | n+1,cs,h=>by
  rw [List.range_succ_eq_map,List.map_cons,List.flatten_cons,List.map_map,Nat.zero_mul,List.drop_zero]
  have h2:=chunks (f:=f) (L:=L) (n:=n) (cs:=cs.drop L) (by rw [List.length_drop,h,Nat.succ_mul]; omega)
  have e:(List.map ((fun i=>List.map f (List.take L (List.drop (i*L) cs))) ∘ Nat.succ) (List.range n))=(List.range n).map fun i=>(((cs.drop L).drop (i*L)).take L).map f:=by
   apply List.map_congr_left
   intro i _
   simp only [Function.comp,List.drop_drop,Nat.succ_mul,Nat.add_comm]
  rw [e,h2,←List.map_append,List.take_append_drop]
theorem mapM_all {α β:Type} {f:α→Option β} {g:α→β}:∀ {l:List α},(∀ x∈l,f x=some (g x))→l.mapM f=some (l.map g)
 | [],_=>by simp
 | x :: l,h=>by simp [List.mapM_cons,h x (List.mem_cons_self ..),mapM_all (l:=l) fun z hz=>h z (List.mem_cons_of_mem _ hz)]
section
variable {P:Program}
theorem conf_fields {d:Nat} (ih:∀ t ks cs,shp P d t=some ks→Conf ks cs→P.keyLits d t cs=some (cs.map litOf)):∀ (fs:List Field) (o:Nat) (ks:List CK) (cs:List Value),shpF P (shp P d) o fs=some ks→Conf ks (cs.drop o) →
  ∃ r,fs.mapM (fun f=>P.keyLits d f.type ((cs.drop f.offset).take (P.cellsOf f.type)))=some r∧r.flatten=(cs.drop o).map litOf
 | [],o,ks,cs,h,hc=>by
  simp only [shpF,Option.some.injEq] at h
  subst h
  have:=hc.len
  exact ⟨[],by simp,by rw [List.eq_nil_of_length_eq_zero this]; rfl⟩
 | fl :: r,o,ks,cs,h,hc=>by
  simp only [shpF] at h
  split at h
  ·rename_i ks1 h1
   split at h
   ·rename_i h2
    cases h3:shpF P (shp P d) (o+ks1.length) r with
    | none=>rw [h3] at h; cases h
    | some ks2 =>
     rw [h3] at h
     simp only [Option.map_some,Option.some.injEq] at h
     subst h
     obtain ⟨c1,c2⟩:=hc.split
     rw [List.drop_drop] at c2
     obtain ⟨rr,hr1,hr2⟩:=conf_fields ih r (o+ks1.length) ks2 cs h3 c2
     have hk:=ih fl.type ks1 _ h1 c1
     refine ⟨((cs.drop o).take ks1.length).map litOf :: rr,?_,?_⟩
     ·rw [List.mapM_cons,h2.1,h2.2,hk,hr1]; rfl
     rw [List.flatten_cons,hr2,←List.map_append,←List.drop_drop,List.take_append_drop]
   cases h
  cases h
theorem conf_lits:∀ (d:Nat) (t:TypeId) (ks:List CK) (cs:List Value),shp P d t=some ks→Conf ks cs→P.keyLits d t cs=some (cs.map litOf)
 | 0,_,_,_,h,_=>by cases h
 | d+1,t,ks,cs,h,hc=>by
  simp only [shp] at h
  unfold Program.keyLits
  split at h
  ·rename_i k hu
   simp only [Option.some.injEq] at h
   subst h
   cases hc with
   | cons h1 r=>cases r; cases h1 with | int a b=>simp [hu,Lit.wf,a,b,litOf]
  ·rename_i hu
   simp only [Option.some.injEq] at h
   subst h
   cases hc with
   | cons h1 r=>cases r; cases h1 with | str a=>simp [hu,a,litOf]
  ·rename_i hu
   simp only [Option.some.injEq] at h
   subst h
   cases hc with
   | cons h1 r=>cases r; cases h1 with | bool=>simp [hu,litOf]
  ·rename_i n e hu
   split at h
   ·rename_i ks1 h1
    split at h
    ·rename_i h2
     simp only [Option.some.injEq] at h
     subst h
     have hl:cs.length=n*ks1.length:=by
      rw [hc.len]; simp
     have hm:=mapM_all (l:=List.range n) (f:=fun i=>P.keyLits d e ((cs.drop (i*P.cellsOf e)).take (P.cellsOf e))) (g:=fun i=>((cs.drop (i*ks1.length)).take ks1.length).map litOf)
      (fun i hi=>by rw [h2.1]; exact conf_lits d e ks1 _ h1 (conf_rep hc i (List.mem_range.1 hi)))
     rw [hu]
     simp only [hl,h2.2,if_true,hm,Option.map_some,chunks hl]
    ·cases h
   ·cases h
  ·rename_i fs hu
   split at h
   ·rename_i ks1 h1
    split at h
    ·rename_i h2
     simp only [Option.some.injEq] at h
     subst h
     obtain ⟨r,hr1,hr2⟩:=conf_fields (conf_lits d) fs.toList 0 ks1 cs h1 (by simpa using hc)
     rw [hu]
     simp only [hc.len,h2.1,h2.2,and_self,if_true,hr1,Option.map_some,hr2,List.drop_zero]
    ·cases h
   ·cases h
  ·cases h
def eqT (P:Program) (m:Nat) (T:TypeId) (ks:List CK):Bool :=
 (match shp P m T with | some k=>k == ks | none=>false)&&P.keyTypeAt m T && !P.eqGuardType P.depth T&&Nat.ble m 10000&&(match P.underlying T with | some (.struct _) | some (.array _ _)=>Nat.beq (P.cellsOf T) ks.length | _=>false)
theorem run_eqC {T m:Nat} {ks:List CK} {cs cs':List Value} {r:Bool} (hT:eqT P m T ks=true) (h1:Conf ks cs) (h2:Conf ks cs') (hr:r=true↔cs=cs') (w:World) :
  (Op.equal T (.agg cs.toArray) (.agg cs'.toArray)).run P w=.ok r w∧P.eqGuardType P.depth T=false:=by
 simp only [eqT,Bool.and_eq_true,Bool.not_eq_true'] at hT
 obtain ⟨⟨⟨⟨hs,hk⟩,hg⟩,hm⟩,hf⟩:=hT
 have hs':shp P m T=some ks:=by
  split at hs
  ·rename_i k hk'; rw [hk',beq_iff_eq.1 hs]
  ·cases hs
 have hm:=Nat.le_of_ble_eq_true hm
 have hform:∀ cs:List Value,Conf ks cs→(Value.agg cs.toArray).formed P T=true:=by
  intro cs hc
  have hl:=hc.len
  simp only [Value.formed]
  split at hf<;>rename_i hu<;>first|(rw [hu]; have:=Nat.eq_of_beq_eq_true hf; simp [this,hl]) | cases hf
 obtain ⟨r',hr',hiff⟩:=run_equalIn_deep (10000-m) m T hk w m m (.agg cs.toArray) (.agg cs'.toArray) (cs.map litOf) (cs'.map litOf) (hform _ h1) (hform _ h2) (by simpa [Value.cells] using conf_lits m T ks cs hs' h1) (by simpa [Value.cells] using conf_lits m T ks cs' hs' h2)
 rw [show 10000-m+m=10000 by omega] at hr'
 have e:r'=r:=by
  have h3:r'=true↔r=true:=by
   rw [hiff,hr]
   exact ⟨fun e=>h1.inj h2 e,fun e=>by rw [e]⟩
  cases r<;>cases r'<;>simp_all
 subst e
 exact ⟨hr',hg⟩
variable {dr:Bool} {mc:Md} {n:Fm} {l:List Oper} {K:Env→PM→Mem→Prop} {i:Nat} {σ:List Nat} {ρ:Env} {G:PM} {μ:Mem}
variable {d t:Nat} {p:String} {af:Array Edge} {g:Option (Nat×Bool)} {c:Bool}
theorem eqC {T T' m:Nat} {x y:Operand} {ks:List CK} {cs cs':List Value} (r:Bool) (ho:nth l i=some ⟨some d,.binOp .eql T x y T',t,p,af,g⟩) (hg:Gd l ρ g c) (hT:eqT P m T ks=true) (hx:Ev ρ c x (.agg cs.toArray)) (hy:Ev ρ c y (.agg cs'.toArray))
  (h1:c=true→Conf ks cs) (h2:c=true→Conf ks cs') (hr:c=true→(r=true↔cs=cs')) (h:Wo dr mc P n l K σ ((d,c,.bool r) :: ρ) G μ):Wo dr mc P n l K (i :: σ) ρ G μ :=
 .pure ho (.inl rfl) hg (fun hc a w ha=>by
  obtain ⟨h3,h4⟩:=run_eqC hT (h1 hc) (h2 hc) (hr hc) w
  simp [execOp,hx.eval ha hc,hy.eval ha hc,eqGuard_agg h4,binOp,h3]) h
end
theorem Conf.u64 {y:BitVec 64} {ks:List CK} {cs:List Value} (h:Conf ks cs):Conf (.int .u64 :: ks) (uv .u64 y :: cs):=.cons (CkOk.u (k:=.u64) rfl y) h
end Go.Tan
namespace Go.Tan
open Go.RowKit Go.Lib
def yb (s:ByteArray):List Y:=s.toList.map fun x=>BitVec.ofNat 8 x.toNat
theorem bstr_yb (s:ByteArray):bstr (yb s)=s:=by
 have h:(bstr (yb s)).data.toList=s.data.toList:=by
  rw [bstr_data,yb,ByteArray.toList_eq,List.map_map]
  conv=>rhs; rw [← List.map_id s.data.toList]
  refine List.map_congr_left fun x _=>?_
  simp only [Function.comp,id]
  have:=x.toNat_lt
  rw [BitVec.toNat_ofNat,Nat.mod_eq_of_lt (by omega)]
  simp
 have h2:(bstr (yb s)).data=s.data:=by
  have:=congrArg List.toArray h
  simpa using this
 obtain ⟨d⟩:=s
 cases hb:bstr (yb ⟨d⟩) with
 | mk d'=>rw [hb] at h2; simp only at h2; rw [h2]
theorem yb_bstr (xs:List Y):yb (bstr xs)=xs:=bstr_inj (bstr_yb _)
theorem yb_len (s:ByteArray):(yb s).length=s.size:=by rw [yb,List.length_map,ByteArray.toList_eq]; simp
theorem yb_cells (s:ByteArray):(yb s).map V=strCells s:=by
 unfold yb strCells
 rw [List.map_map,ByteArray.toList_eq]
 refine List.map_congr_left fun x _=>?_
 have:=x.toNat_lt
 have e:(BitVec.ofNat 8 x.toNat).toNat=x.toNat:=by rw [BitVec.toNat_ofNat,Nat.mod_eq_of_lt (by omega)]
 show Value.int .u8 (((BitVec.ofNat 8 x.toNat).toNat:Nat):Int)=_
 rw [e]
section
variable {dr:Bool} {mc:Md} {P:Program} {n:Fm} {l:List Oper} {K:Env→PM→Mem→Prop} {i:Nat} {σ:List Nat} {ρ:Env} {G:PM} {μ:Mem}
variable {d t:Nat} {p:String} {af:Array Edge} {g:Option (Nat×Bool)} {c:Bool}
theorem run_apT {T U E ty:Nat} {v:Value} {xs:List Y} {s:ByteArray} {w:World} (hT:slE P T=some (E,1,1)) (hU:strT P U=true) (hz:(P.info? E).bind (·.zero)=some (.int .u8 0)) (hs:Sat G [rB v E xs] w) (hb:xs.length+s.size≤140737488355328) :
  ∃ v' w',(Builtin.append_ #[T,U] ty #[v,.string s]).run P w=.ok v' w'∧Tr G (keys [rB v E xs]) w G [rB v' E (xs++yb s)] w':=by
 obtain ⟨hu,inf,hi,hs1,hb1⟩:=slE_some hT
 have hu2:P.underlying U=some .string:=by
  unfold strT at hU
  split at hU
  ·assumption
  cases hU
 rw [hi] at hz
 simp only [Option.bind_some] at hz
 have hown:w.ownsRow 0 E 1 v xs.length (xs.map V):=hs.own _ (List.mem_singleton.2 rfl)
 have hbegin:=Tr.begin hs
 have hyl:=yb_len s
 have hyc:=yb_cells s
 have hml:(xs.map V).length=xs.length:=List.length_map ..
 have hsl:(strCells s).length=s.size:=strCells_length s
 have hmm:maxLen=9223372036854775807:=rfl
 have eR:rB v E (xs++yb s)=.row v E 1 (xs.length+s.size) (xs.map V++strCells s):=by simp only [rB,List.length_append,List.map_append,hyl,hyc]
 have hlen:(xs.map V++strCells s).length=(xs.length+s.size)*1:=by rw [List.length_append,hml,hsl]; omega
 by_cases hk:s.size=0
 ·have hn:strCells s=[]:=List.eq_nil_of_length_eq_zero (by rw [hsl]; exact hk)
  have hy0:yb s=[]:=List.eq_nil_of_length_eq_zero (by rw [hyl]; exact hk)
  refine ⟨v,w,?_,by rw [hy0,List.append_nil]; exact hbegin⟩
  have hf:=run_firstCells_string (P:=P) w 1 s
  rw [hk,hn] at hf
  rcases hown.2 with ⟨rfl,hm⟩ | ⟨g,cap,cur,rfl,_,hg,hnc,_,_,_⟩
  ·simp [Builtin.append_,run_underlying hu,run_underlying hu2,sizeOf,typeInfo,hi,hs1,Builtin.lenOf,hk,hf]
  simp [Builtin.append_,run_underlying hu,run_underlying hu2,sizeOf,typeInfo,hi,hs1,Builtin.lenOf,hk,hf,hnc,storeCells]
 have fresh:∀ (old:Nat),Tr G (keys [rB v E xs]) w G [.row (.slice (some ⟨w.heap.size,0,none⟩) (xs.length+s.size) (grownCap w (xs.length+s.size) old E)) E 1 (xs.length+s.size) (xs.map V++strCells s)]
   (w.drew.alloc (.cells ((xs.map V).toArray++(strCells s).toArray++Builtin.zeroCells (Value.int .u8 0).cells (grownCap w (xs.length+s.size) old E-(xs.length+s.size))) E)):=by
  intro old
  have h2:=(hbegin.drew).alloc (.cells ((xs.map V).toArray++(strCells s).toArray++Builtin.zeroCells (Value.int .u8 0).cells (grownCap w (xs.length+s.size) old E-(xs.length+s.size))) E)
  have h3:Tr G (keys [rB v E xs]) w G [.blk w.heap.size (.cells ((xs.map V).toArray++(strCells s).toArray++Builtin.zeroCells (Value.int .u8 0).cells (grownCap w (xs.length+s.size) old E-(xs.length+s.size))) E)] _:=Tr.left (ν:=[rB v E xs]) h2
  have hge:=grownCap_ge w (xs.length+s.size) old E
  refine h3.asRow hlen hge (grownCap_le_maxLen w (xs.length+s.size) old E (by rw [hmm]; omega)) ?_ ?_
  ·have hz1:(Value.int IntKind.u8 0).cells.size=1:=rfl
   simp only [Array.size_append,List.size_toArray,size_zeroCells,hz1,hml,hsl]
   omega
  simp only [Array.toList_append,List.append_assoc]
  rw [← List.append_assoc,←hlen]
  exact List.take_left
 rcases hown.2 with ⟨rfl,hm⟩ | ⟨g,cap,cur,rfl,_,hg,hnc,hcm,hcs,htake⟩
 ·have hx:xs=[]:=List.eq_nil_of_length_eq_zero hm
  subst hx
  have hrun:=run_append_nil_string (P:=P) w T U ty E inf (.int .u8 0) hu hu2 hi hz s (by omega) (by omega) (by rw [hb1]; simp only [List.length_nil] at hb; omega)
  have hf:=fresh 0
  have e1:(s.data.map fun b=>Value.int .u8 b.toNat)=(strCells s).toArray:=by
   apply Array.ext'
   simp [strCells]
  rw [e1] at hrun
  simp only [List.length_nil,Nat.zero_add,List.map_nil,List.nil_append,Array.empty_append] at hf
  refine ⟨_,_,hrun,?_⟩
  have eR2:∀ u,rB u E ([]++yb s)=.row u E 1 s.size (strCells s):=fun u=>by simp only [rB,List.nil_append,hyl,hyc]
  rw [eR2]; exact hf
 by_cases hroom:xs.length+s.size≤cap
 ·simp only [Nat.mul_one] at hcs htake
  have hrun:=run_append_room_string (P:=P) w T U ty E inf hu hu2 hi hs1 g xs.length cap cur hg s hroom (by omega)
  have hsat:Sat G [.blk g (.cells cur E (0,0))] w:=⟨hs.sub,fun r hr=>by rw [List.mem_singleton.1 hr]; exact hg,fun c hc=>hs.apart c (by simpa [keys,Res.keys,Value.ownBlock] using hc),by simp [keys,Res.keys]⟩
  refine ⟨_,_,hrun,?_⟩
  have h2:=Tr.setArr (cs':=(cur.toList.take xs.length++strCells s++cur.toList.drop (xs.length+s.size)).toArray) hsat
  have h3:=h2.asRow (m:=xs.length+s.size) (cap:=cap) (sz:=1) (xs:=xs.map V++strCells s) hlen hroom hcm ?_ ?_
  ·have eR3:∀ u,rB u E (xs++yb s)=.row u E 1 (xs.length+s.size) (xs.map V++strCells s):=fun u=>by simp only [rB,List.length_append,List.map_append,hyl,hyc]
   rw [eR3]
   simpa [keys,Res.keys,Value.ownBlock] using h3
  ·simp only [List.size_toArray,qlB,Array.length_toList,hsl]
   omega
  rw [htake,←hlen]
  exact List.take_left
 have holds:∀ j u,(xs.map V)[j]? = some u→w.cell? ((⟨g,0,none⟩ : Addr).add j)=some u:=hown.cells (g:=g) rfl
 have hrun:=run_append_grow_string (P:=P) w T U ty E inf (.int .u8 0) hu hu2 hi hz ⟨g,0,none⟩ xs.length cap (xs.map V) (by rw [hml,hs1]; omega) holds s (by omega) (by omega) (growslice_fits (by omega) (by rw [hb1]; omega))
 have eR3:∀ u,rB u E (xs++yb s)=.row u E 1 (xs.length+s.size) (xs.map V++strCells s):=fun u=>by simp only [rB,List.length_append,List.map_append,hyl,hyc]
 refine ⟨_,_,hrun,?_⟩
 rw [eR3]; exact fresh cap
theorem apT {T U E:Nat} {x y:Operand} {v:Value} {s:ByteArray} {xs:List Y} {μ':Mem} (ho:nth l i=some ⟨some d,.call { callee:=.builtin .append,args:=#[x,y],argTypes:=#[T,U] },t,p,af,none⟩)
  (hT:slE P T=some (E,1,1)) (hU:strT P U=true) (hz:(P.info? E).bind (·.zero)=some (.int .u8 0)) (hx:Ev ρ true x v) (hy:Ev ρ true y (.string s)) (hm:MTake μ (rB v E xs) μ') (hb:xs.length+s.size≤140737488355328)
  (h:∀ v' L,v'.oneCell'=true→L=xs++yb s→Wo dr mc P n l K σ ((d,true,v') :: ρ) G (rB v' E L :: μ')) (hmc:mc.a=false∨dr=false:=by first|exact .inl rfl|exact .inr rfl):Wo dr mc P n l K (i :: σ) ρ G μ:=by
 refine .act (μ₁:=[rB v E xs]) (μ₂:=μ') (post:=fun G' μ' v'=>G'=G∧v'.oneCell'=true∧μ'=[rB v' E (xs++yb s)]) ho (by rcases hmc with h | h<;>simp [kindOf,h]) .no hm.perm (fun a w ha hs=>.inl ?_) ?_
 ·obtain ⟨v',w',hrun,ht⟩:=run_apT (ty:=t) (s:=s) hT hU hz hs.left hb
  exact ⟨v',w',G,[rB v' E (xs++yb s)],.inl (by simp [execOp,resolve,invoke,builtin,hx.eval ha rfl,hy.eval ha rfl,hrun]),ht,rfl,ht.sat.rowOne,rfl⟩
 rintro v' G' μ'' _ ⟨rfl,h1,rfl⟩
 exact h v' _ h1 rfl
def sbT (P:Program) (S D:TypeId):Bool:=match P.underlying S,P.underlying D with
 | some .string,some (.slice e)=>match P.underlying e with | some (.int .u8)=>true | _=>false
 | _,_=>false
theorem cvS {S D:TypeId} {x:Operand} {s:ByteArray} (hdf:dr=false) (ho:nth l i=some ⟨some d,.convert S D x,t,p,af,none⟩) (hS:sbT P S D=true) (hx:Ev ρ true x (.string s))
  (h:∀ G' s',PM.le G G'→SlR G' 1 encY s' (yb s)→Wo dr mc P n l K σ ((d,true,s'.val (yb s).length) :: ρ) G' μ):Wo dr mc P n l K (i :: σ) ρ G μ:=by
 refine .act (μ₁:=[]) (μ₂:=μ) (post:=fun G' μ' v=>μ'=[]∧∃ s',v=s'.val (yb s).length∧SlR G' 1 encY s' (yb s)) ho (.inr hdf) .no (.refl _) (fun a w ha hs=>.inl ?_) ?_
 ·unfold sbT at hS
  split at hS
  ·rename_i e h1 h2
   split at hS
   ·rename_i h3
    have hrun:=run_bytes_of_string (P:=P) w S D e s h1 h2 h3
    have hge:=grownCap_ge w s.size 0 e
    have h0:Tr G (keys []) w G [] w:=Tr.begin (Sat.left (μ:=[]) hs)
    have h4:=(h0.drew).alloc (.cells (bytesRow s (grownCap w s.size 0 e)) e ((bytesRow s (grownCap w s.size 0 e)).size,(bytesRow s (grownCap w s.size 0 e)).size+1))
    have h5:=h4.freeze (by simp [keys])
    refine ⟨.slice (some ⟨w.heap.size,0,none⟩) s.size (grownCap w s.size 0 e),_,_,[],.inl (by simp [execOp,hx.eval ha rfl,hrun]),h5,rfl,⟨some ⟨w.heap.size,0,none⟩,grownCap w s.size 0 e⟩,by rw [yb_len]; rfl,?_⟩
    refine SlR.ofRow (fun _ _=>rfl) (by rw [yb_len]; exact hge) (fun _=>rfl) (fun j v hj=>?_)
    rw [flat_V,yb_cells] at hj
    show RdP _ ⟨w.heap.size,0+j,none⟩ v
    rw [Nat.zero_add]
    refine RdP.blk (cs:=(bytesRow s (grownCap w s.size 0 e)).toList) (by rw [Array.toArray_toList]; exact PM.add_same _ _ _) ?_
    have hlt:j<(strCells s).length:=(List.getElem?_eq_some_iff.1 hj).1
    unfold bytesRow
    rw [Array.toList_append,List.getElem?_append_left (by simpa [strCells] using hlt)]
    simpa [strCells] using hj
   cases hS
  cases hS
 rintro v G' μ'' hle ⟨rfl,s',rfl,hs'⟩
 exact h G' s' hle hs'
theorem flat_at {α:Type} {enc:α→List Value} {sz:Nat}:∀ {xs:List α} {k:Nat} {x:α},(∀ y∈xs,(enc y).length=sz)→xs[k]? = some x→((xs.flatMap enc).drop (k*sz)).take sz=enc x
 | y :: ys,0,x,hsz,hx=>by
  simp only [List.getElem?_cons_zero,Option.some.injEq] at hx
  subst hx
  rw [Nat.zero_mul,List.drop_zero,List.flatMap_cons,List.take_left' (hsz y (List.mem_cons_self ..))]
 | y :: ys,k+1,x,hsz,hx=>by
  rw [List.flatMap_cons,Nat.succ_mul,Nat.add_comm,←List.drop_drop,List.drop_left' (hsz y (List.mem_cons_self ..))]
  exact flat_at (fun z hz=>hsz z (List.mem_cons_of_mem _ hz)) (by simpa using hx)
 | [],_,_,_,hx=>by simp at hx
theorem RdN.rowS {α:Type} {enc:α→List Value} {sz b m cap E k:Nat} {xs:List α} {x:α} {μ':Mem} (h:MTake μ (rS sz enc (.slice (some ⟨b,0,none⟩) m cap) E xs) μ') (hsz:∀ y∈xs,(enc y).length=sz) (hx:xs[k]? = some x) {q:Nat} (hq:q=k*sz):RdN G μ b q (enc x):=by
 subst hq
 intro j v hj
 refine Rd.row h ?_
 rw [← flat_at hsz hx,List.getElem?_take] at hj
 split at hj
 ·rw [List.getElem?_drop] at hj; exact hj
 cases hj
end
theorem yb_data (s:ByteArray):s.data.toList=(yb s).map fun y=>UInt8.ofNat y.toNat:=by
 conv=>lhs; rw [← bstr_yb s]
 exact bstr_data _
theorem bstr_ext {s:ByteArray} {xs:List Y} (h:s.data.toList=xs.map fun y=>UInt8.ofNat y.toNat):s=bstr xs :=
 ByteArray.ext (Array.toList_inj.1 (by rw [h,bstr_data]))
theorem bstr_app (xs ys:List Y):bstr xs++bstr ys=bstr (xs++ys):=bstr_ext (by rw [ByteArray.data_append,Array.toList_append,bstr_data,bstr_data,List.map_append])
theorem bstr_cut (xs:List Y) (lo hi:Nat):(bstr xs).extract lo hi=bstr ((xs.take hi).drop lo):=bstr_ext (by
 rw [ByteArray.data_extract,Array.toList_extract,bstr_data,List.extract_eq_take_drop,←List.map_drop,←List.map_take,List.drop_take])
theorem byte_at {s:ByteArray} {j:Nat} (h:j<s.size):s[j]? = some (UInt8.ofNat ((yb s).getD j 0).toNat):=by
 have h1:s[j]? = s.data.toList[j]?:=by
  rw [getElem?_pos s j h,List.getElem?_eq_getElem (show j<s.data.toList.length by simpa using h)]; rfl
 have h2:j<(yb s).length:=by rw [yb_len]; exact h
 rw [h1,yb_data,List.getElem?_map,List.getElem?_eq_getElem h2]
 simp [h2]
section
variable {dr:Bool} {mc:Md} {P:Program} {n:Fm} {l:List Oper} {K:Env→PM→Mem→Prop} {i:Nat} {σ:List Nat} {ρ:Env} {G:PM} {μ:Mem}
variable {d t:Nat} {p:String} {af:Array Edge} {g:Option (Nat×Bool)} {c:Bool}
theorem sI {T:TypeId} {x y:Operand} {k:IntKind} {a:Int} {s:ByteArray} (j:Nat) (ho:nth l i=some ⟨some d,.index T x y,t,p,af,g⟩) (hg:Gd l ρ g c) (hT:strT P T=true) (hx:Ev ρ c x (.string s)) (hy:Ev ρ c y (.int k a)) (ha:c=true→a=j) (h1:c=true→j<s.size)
  (h:Wo dr mc P n l K σ ((d,c,V ((yb s).getD j 0)) :: ρ) G μ):Wo dr mc P n l K (i :: σ) ρ G μ :=
 .pure ho (.inl rfl) hg (fun hc a' w hag=>by
  obtain rfl:=ha hc
  have hu:P.underlying T=some .string:=by unfold strT at hT; split at hT<;>first|assumption | cases hT
  have hy':((yb s).getD j 0).toNat<256:=((yb s).getD j 0).isLt
  simp only [execOp,hx.eval hag hc,hy.eval hag hc,Instr.index,asIntOf,Sem.run_bind,Sem.run_pure,Result.andThen_ok,run_underlying hu]
  rw [if_pos (Int.natCast_nonneg j),Int.toNat_natCast,byte_at (h1 hc)]
  dsimp only
  rw [show (UInt8.ofNat ((yb s).getD j 0).toNat).toNat=((yb s).getD j 0).toNat by simp only [UInt8.toNat_ofNat']; exact Nat.mod_eq_of_lt hy']
  rfl) h
theorem run_bound {P:Program} {k:IntKind} {a m:Nat} {code:BoundsCode} (h:a≤m) (w:World):(Instr.sliceBound (.int k (a:Int)) m code).run P w=.ok a w:=by
 simp [Instr.sliceBound,asIntOf,h]
theorem sS {T:TypeId} {x y z:Operand} {k k':IntKind} {a b:Int} {s:ByteArray} (lo hi:Nat) (ho:nth l i=some ⟨some d,.slice T x (some y) (some z) none,t,p,af,g⟩) (hg:Gd l ρ g c) (hT:strT P T=true) (hx:Ev ρ c x (.string s)) (hy:Ev ρ c y (.int k a)) (hz:Ev ρ c z (.int k' b)) (ha:c=true→a=lo) (hb:c=true→b=hi) (h1:c=true→lo≤hi) (h2:c=true→hi≤s.size)
  (h:Wo dr mc P n l K σ ((d,c,.string (bstr (((yb s).take hi).drop lo))) :: ρ) G μ):Wo dr mc P n l K (i :: σ) ρ G μ :=
 .pure ho (.inl rfl) hg (fun hc a' w hag=>by
  obtain rfl:=ha hc; obtain rfl:=hb hc
  have hu:P.underlying T=some .string:=by unfold strT at hT; split at hT<;>first|assumption | cases hT
  rw [← bstr_cut,bstr_yb]
  simp [execOp,hx.eval hag hc,hy.eval hag hc,hz.eval hag hc,Instr.sliceAt,Instr.slice,Instr.sliceBounds,run_underlying hu,run_bound (h1 hc),run_bound (h2 hc)]) h
theorem sD {T:TypeId} {x y:Operand} {k:IntKind} {a:Int} {s:ByteArray} (lo:Nat) (ho:nth l i=some ⟨some d,.slice T x (some y) none none,t,p,af,g⟩) (hg:Gd l ρ g c) (hT:strT P T=true) (hx:Ev ρ c x (.string s)) (hy:Ev ρ c y (.int k a)) (ha:c=true→a=lo) (h1:c=true→lo≤s.size)
  (h:Wo dr mc P n l K σ ((d,c,.string (bstr ((yb s).drop lo))) :: ρ) G μ):Wo dr mc P n l K (i :: σ) ρ G μ :=
 .pure ho (.inl rfl) hg (fun hc a' w hag=>by
  obtain rfl:=ha hc
  have hu:P.underlying T=some .string:=by unfold strT at hT; split at hT<;>first|assumption | cases hT
  have he:bstr ((yb s).drop lo)=s.extract lo s.size:=by
   conv=>rhs; rw [← bstr_yb s]
   rw [bstr_cut,bstr_len,List.take_length]
  rw [he]
  simp [execOp,hx.eval hag hc,hy.eval hag hc,Instr.sliceAt,Instr.slice,Instr.sliceBounds,run_underlying hu,run_bound (h1 hc)]) h
theorem sE {T:TypeId} {x y:Operand} {k:IntKind} {a:Int} {s:ByteArray} (hi:Nat) (ho:nth l i=some ⟨some d,.slice T x none (some y) none,t,p,af,g⟩) (hg:Gd l ρ g c) (hT:strT P T=true) (hx:Ev ρ c x (.string s)) (hy:Ev ρ c y (.int k a)) (ha:c=true→a=hi) (h1:c=true→hi≤s.size)
  (h:Wo dr mc P n l K σ ((d,c,.string (bstr ((yb s).take hi))) :: ρ) G μ):Wo dr mc P n l K (i :: σ) ρ G μ :=
 .pure ho (.inl rfl) hg (fun hc a' w hag=>by
  obtain rfl:=ha hc
  have hu:P.underlying T=some .string:=by unfold strT at hT; split at hT<;>first|assumption | cases hT
  have he:bstr ((yb s).take hi)=s.extract 0 hi:=by
   conv=>rhs; rw [← bstr_yb s]
   rw [bstr_cut,List.drop_zero]
  rw [he]
  simp [execOp,hx.eval hag hc,hy.eval hag hc,Instr.sliceAt,Instr.slice,Instr.sliceBounds,run_underlying hu,run_bound (h1 hc)]) h
theorem sP {T T':TypeId} {x y:Operand} {s1 s2:ByteArray} (ho:nth l i=some ⟨some d,.binOp .add T x y T',t,p,af,g⟩) (hg:Gd l ρ g c) (hx:Ev ρ c x (.string s1)) (hy:Ev ρ c y (.string s2)) (hl:c=true→s1.size+s2.size≤9223372036854775807)
  (h:Wo dr mc P n l K σ ((d,c,.string (bstr (yb s1++yb s2))) :: ρ) G μ):Wo dr mc P n l K (i :: σ) ρ G μ :=
 .pure ho (.inl rfl) hg (fun hc a' w hag=>by
  have hl':¬ (((s1.size+s2.size:Nat):Int) > IntKind.i64.max):=by
   have:=hl hc
   simp only [IntKind.max,IntKind.bits,IntKind.signed]; simp; omega
  rw [← bstr_app,bstr_yb,bstr_yb]
  have:(eqGuard .add T x y (.string s1) (.string s2)).run P w=.ok () w:=by unfold eqGuard; simp
  simp only [execOp,hx.eval hag hc,hy.eval hag hc]
  simp only [Sem.run_bind,this,Result.andThen_ok,binOp,Op.stringOp,if_neg hl',Sem.run_pure]) h
end
structure Fi where
 nm:ByteArray
 h:Sh
 n:Nat
 safe:Nat
 born:Nat
def Fi.cells (f:Fi):List Value:=[f.h.val f.n,.int .i64 (f.safe:Int)]
def Fi.val (f:Fi):Value:=.agg f.cells.toArray
def Fi.z:Fi:=⟨ByteArray.empty,⟨none,0⟩,0,0,0⟩
theorem Fi.one (f:Fi):∀ u∈f.cells,u.oneCell'=true:=by
 intro u hu
 simp only [Fi.cells,List.mem_cons,List.not_mem_nil,or_false] at hu
 rcases hu with rfl|rfl<;>rfl
def Fi.fe (f:Fi):FE:=(f.nm,f.val,f.born)
def szF:List Fi→Nat
 | []=>0
 | f :: r=>f.n+szF r
def szS (seen:List Nat):List Fi→Nat
 | []=>0
 | f :: r=>(if f.born∈seen then f.n else 0)+szS seen r
def lfS (seen:List Nat):List Fi→Nat
 | []=>0
 | f :: r=>(if f.born∈seen then 0 else 1)+lfS seen r
theorem szS_le {seen:List Nat}:∀ {F:List Fi},szS seen F≤szF F
 | []=>Nat.le_refl _
 | f :: r=>by
  have:=szS_le (seen:=seen) (F:=r)
  simp only [szS,szF]; split<;>omega
theorem szS_nil:∀ {F:List Fi},szS [] F=0
 | []=>rfl
 | f :: r=>by simp [szS,szS_nil (F:=r)]
theorem szS_off {seen:List Nat} {b:Nat}:∀ {F:List Fi},(∀ f∈F,f.born≠b)→szS (seen++[b]) F=szS seen F∧lfS (seen++[b]) F=lfS seen F
 | [],_=>⟨rfl,rfl⟩
 | f :: r,h=>by
  have h1:=szS_off (seen:=seen) (b:=b) (F:=r) fun g hg=>h g (List.mem_cons_of_mem _ hg)
  have h2:f.born≠b:=h f (List.mem_cons_self ..)
  have h3:f.born∈seen++[b]↔f.born∈seen:=by simp [h2]
  simp only [szS,lfS,h1.1,h1.2]
  by_cases q:f.born∈seen
  ·rw [if_pos (h3.2 q),if_pos q,if_pos (h3.2 q),if_pos q]; exact ⟨rfl,rfl⟩
  ·rw [if_neg (fun z=>q (h3.1 z)),if_neg q,if_neg (fun z=>q (h3.1 z)),if_neg q]; exact ⟨rfl,rfl⟩
theorem szS_next {seen:List Nat} {e:FE}:∀ {F:List Fi},(F.map Fi.born).Nodup→NxR (F.map Fi.fe) seen (some e)→∃ f∈F,e=f.fe∧szS (seen++[f.born]) F=szS seen F+f.n∧lfS (seen++[f.born]) F+1=lfS seen F
 | [],_,h=>by cases h.1
 | f :: r,hd,h=>by
  rw [List.map_cons,List.nodup_cons] at hd
  obtain ⟨h1,h2⟩:=h
  rw [List.map_cons] at h1
  rcases List.mem_cons.1 h1 with rfl | h1
  ·refine ⟨f,List.mem_cons_self ..,rfl,?_⟩
   have h4:=szS_off (seen:=seen) (b:=f.born) (F:=r) fun g hg hb=>hd.1 (List.mem_map.2 ⟨g,hg,hb⟩)
   have h5:¬ f.born∈seen:=h2
   simp only [szS,lfS,h4.1,h4.2]
   rw [if_pos (by simp),if_neg h5,if_pos (by simp),if_neg h5]
   omega
  obtain ⟨g,hg,rfl,h5,h6⟩:=szS_next hd.2 ⟨h1,h2⟩
  refine ⟨g,List.mem_cons_of_mem _ hg,rfl,?_⟩
  have h7:f.born≠g.born:=fun z=>hd.1 (List.mem_map.2 ⟨g,hg,z.symm⟩)
  have h3:f.born∈seen++[g.born]↔f.born∈seen:=by simp [h7]
  simp only [szS,lfS,h5]
  by_cases q:f.born∈seen
  ·rw [if_pos (h3.2 q),if_pos q,if_pos (h3.2 q),if_pos q]; omega
  rw [if_neg (fun z=>q (h3.1 z)),if_neg q,if_neg (fun z=>q (h3.1 z)),if_neg q]; omega
theorem szS_end {seen:List Nat}:∀ {F:List Fi},NxR (F.map Fi.fe) seen none→szS seen F=szF F
 | [],_=>rfl
 | f :: r,h=>by
  simp only [szS,szF]
  have h0:f.born∈seen:=h f.fe (by simp)
  rw [if_pos h0,szS_end fun e he=>h e (by rw [List.map_cons]; exact List.mem_cons_of_mem _ he)]
theorem fe_find:∀ {F:List Fi} {f:Fi},(F.map Fi.born).Nodup→f∈F→(F.map Fi.fe).find? (fun e=>e.2.2 == f.born)=some f.fe
 | [],_,_,h=>by cases h
 | g :: r,f,hd,h=>by
  rw [List.map_cons,List.nodup_cons] at hd
  rw [List.map_cons]
  rcases List.mem_cons.1 h with rfl | h
  ·rw [List.find?_cons_of_pos (by simp [Fi.fe])]
  ·have:g.born≠f.born:=fun z=>hd.1 (List.mem_map.2 ⟨f,h,z.symm⟩)
   rw [List.find?_cons_of_neg (by simpa [Fi.fe] using this)]
   exact fe_find hd.2 h
structure DkR (F:List Fi) (clk:Nat):Prop where
 nd:(F.map Fi.born).Nodup
 un:(F.map Fi.nm).Nodup
 gn:∀ f∈F,f.nm.size≤100
 cnt:F.length≤1000
 old:∀ f∈F,f.born<clk
 few:szF F≤1000000000
theorem DkR.oldE {F:List Fi} {clk:Nat} (h:DkR F clk):∀ e∈F.map Fi.fe,e.2.2<clk:=fun e he=>by
 obtain ⟨f,hf,rfl⟩:=List.mem_map.1 he; exact h.old f hf
def fget (nm:ByteArray):List Fi→Option Fi
 | []=>none
 | f :: r=>if f.nm=nm then some f else fget nm r
def fsy (nm:ByteArray):List Fi→List Fi
 | []=>[]
 | f :: r=>if f.nm=nm then { f with safe:=f.n } :: r else f :: fsy nm r
def fdel (nm:ByteArray):List Fi→List Fi
 | []=>[]
 | f :: r=>if f.nm=nm then r else f :: fdel nm r
theorem mget_fe {nm:ByteArray}:∀ {F:List Fi},mpg nm (F.map Fi.fe)=(fget nm F).map Fi.val
 | []=>rfl
 | f :: r=>by
  rw [List.map_cons,mpg,fget]
  by_cases h:f.nm=nm
  ·rw [if_pos h,if_pos (show f.fe.1=nm from h)]; rfl
  ·rw [if_neg h,if_neg (show ¬ f.fe.1=nm from h)]; exact mget_fe
theorem lk_v {nm:ByteArray} {F:List Fi}:(mpg nm (F.map Fi.fe)).getD (.agg #[.slice none 0 0,.int .i64 0])=((fget nm F).getD Fi.z).val:=by
 rw [mget_fe]; cases fget nm F<;>rfl
theorem lk_i {nm:ByteArray} {F:List Fi}:(mpg nm (F.map Fi.fe)).isSome=(fget nm F).isSome:=by
 rw [mget_fe]; cases fget nm F<;>rfl
theorem lk_n {nm:ByteArray} {F:List Fi} (h:fget nm F=none):mpg nm (F.map Fi.fe)=none:=by rw [mget_fe,h]; rfl
theorem lk_s {nm:ByteArray} {F:List Fi} {f:Fi} (h:fget nm F=some f):mpg nm (F.map Fi.fe)=some f.val:=by rw [mget_fe,h]; rfl
theorem lk_z {nm:ByteArray} {F:List Fi} (h:fget nm F=none):(mpg nm (F.map Fi.fe)).getD (.agg #[.slice none 0 0,.int .i64 0])=.agg [.slice none 0 0,.int .i64 0].toArray:=by rw [lk_n h]; rfl
theorem lk_g {nm:ByteArray} {F:List Fi} {f:Fi} (h:fget nm F=some f):(mpg nm (F.map Fi.fe)).getD (.agg #[.slice none 0 0,.int .i64 0])=.agg f.cells.toArray:=by rw [lk_s h]; rfl
theorem lk_f {nm:ByteArray} {F:List Fi} (h:fget nm F=none):(mpg nm (F.map Fi.fe)).isSome=false:=by rw [lk_n h]; rfl
theorem mset_fe {nm:ByteArray} {f:Fi}:∀ {F:List Fi},fget nm F=some f→mps nm (.agg [f.h.val f.n,.int .i64 (f.n:Int)].toArray) (F.map Fi.fe)=(fsy nm F).map Fi.fe
 | [],h=>by cases h
 | g :: r,h=>by
  rw [List.map_cons,mps,fsy]
  rw [fget] at h
  by_cases q:g.nm=nm
  ·rw [if_pos q] at h; rw [if_pos q,if_pos (show g.fe.1=nm from q)]
   cases h; rfl
  ·rw [if_neg q] at h; rw [if_neg q,if_neg (show ¬ g.fe.1=nm from q),mset_fe h]; rfl
theorem mdel_fe {nm:ByteArray}:∀ {F:List Fi},mpd nm (F.map Fi.fe)=(fdel nm F).map Fi.fe
 | []=>rfl
 | g :: r=>by
  rw [List.map_cons,mpd,fdel]
  by_cases q:g.nm=nm
  ·rw [if_pos q,if_pos (show g.fe.1=nm from q)]
  ·rw [if_neg q,if_neg (show ¬ g.fe.1=nm from q),mdel_fe]; rfl
theorem fsy_sz {nm:ByteArray}:∀ {F:List Fi},szF (fsy nm F)=szF F∧(fsy nm F).map Fi.born=F.map Fi.born
 | []=>⟨rfl,rfl⟩
 | g :: r=>by
  rw [fsy]
  by_cases q:g.nm=nm
  ·rw [if_pos q]; exact ⟨rfl,rfl⟩
  ·rw [if_neg q]; exact ⟨by simp only [szF,(fsy_sz (F:=r)).1],by simp only [List.map_cons,(fsy_sz (F:=r)).2]⟩
theorem fsy_nm {nm:ByteArray}:∀ {F:List Fi},(fsy nm F).map Fi.nm=F.map Fi.nm
 | []=>rfl
 | g :: r=>by
  rw [fsy]
  by_cases q:g.nm=nm
  ·rw [if_pos q]; rfl
  ·rw [if_neg q,List.map_cons,List.map_cons,fsy_nm]
theorem fget_none {nm:ByteArray}:∀ {F:List Fi},fget nm F=none→∀ f∈F,f.nm≠nm
 | [],_,_,h=>by cases h
 | g :: r,h,f,hf=>by
  rw [fget] at h
  by_cases q:g.nm=nm
  ·rw [if_pos q] at h; cases h
  ·rw [if_neg q] at h
   rcases List.mem_cons.1 hf with rfl | hf
   ·exact q
   ·exact fget_none h f hf
theorem fdel_nm {nm:ByteArray}:∀ {F:List Fi},((fdel nm F).map Fi.nm).Sublist (F.map Fi.nm)∧(fdel nm F).length≤F.length
 | []=>⟨.slnil,Nat.le_refl _⟩
 | g :: r=>by
  rw [fdel]
  by_cases q:g.nm=nm
  ·rw [if_pos q]; exact ⟨List.sublist_cons_self ..,by simp⟩
  ·rw [if_neg q,List.map_cons,List.map_cons]; exact ⟨(fdel_nm (F:=r)).1.cons_cons _,by have:=(fdel_nm (nm:=nm) (F:=r)).2; simp only [List.length_cons]; omega⟩
theorem fdel_sz {nm:ByteArray} {f:Fi}:∀ {F:List Fi},fget nm F=some f→szF (fdel nm F)+f.n=szF F∧((F.map Fi.born).Nodup→((fdel nm F).map Fi.born).Nodup)∧(∀ g∈fdel nm F,g∈F)
 | [],h=>by cases h
 | g :: r,h=>by
  rw [fget] at h; rw [fdel]
  by_cases q:g.nm=nm
  ·rw [if_pos q] at h ⊢
   cases h
   exact ⟨by simp only [szF]; omega,fun hd=>(List.nodup_cons.1 hd).2,fun x hx=>List.mem_cons_of_mem _ hx⟩
  rw [if_neg q] at h ⊢
  obtain ⟨h1,h2,h3⟩:=fdel_sz h
  refine ⟨by simp only [szF]; omega,fun hd=>?_,fun x hx=>?_⟩
  ·rw [List.map_cons,List.nodup_cons] at hd ⊢
   refine ⟨fun hm=>hd.1 ?_,h2 hd.2⟩
   obtain ⟨y,hy,e⟩:=List.mem_map.1 hm
   exact List.mem_map.2 ⟨y,h3 y hy,e⟩
  rcases List.mem_cons.1 hx with rfl | hx
  ·exact List.mem_cons_self ..
  exact List.mem_cons_of_mem _ (h3 x hx)
theorem szF_app:∀ {F H:List Fi},szF (F++H)=szF F+szF H
 | [],H=>by simp [szF]
 | f :: r,H=>by simp only [List.cons_append,szF,szF_app (F:=r)]; omega
theorem fe_app {F:List Fi} {f:Fi}:F.map Fi.fe++[f.fe]=(F++[f]).map Fi.fe:=by simp
theorem DkR.app {F:List Fi} {clk:Nat} {f:Fi} (h:DkR F clk) (hb:f.born=clk) (hs:szF F+f.n≤1000000000) (hn:fget f.nm F=none) (hg:f.nm.size≤100) (hc:F.length<1000):DkR (F++[f]) (clk+1):=by
 refine ⟨?_,?_,fun x hx=>?_,by simp; omega,fun x hx=>?_,by rw [szF_app]; simp only [szF]; omega⟩
 ·rw [List.map_append]
  refine List.nodup_append.2 ⟨h.nd,by simp,fun a ha b hb'=>?_⟩
  obtain ⟨y,hy,rfl⟩:=List.mem_map.1 ha
  simp only [List.map_cons,List.map_nil,List.mem_singleton] at hb'
  have:=h.old y hy
  omega
 ·rw [List.map_append]
  refine List.nodup_append.2 ⟨h.un,by simp,fun a ha b hb'=>?_⟩
  obtain ⟨y,hy,rfl⟩:=List.mem_map.1 ha
  simp only [List.map_cons,List.map_nil,List.mem_singleton] at hb'
  rw [hb']
  exact fget_none hn y hy
 ·rcases List.mem_append.1 hx with hx | hx
  ·exact h.gn x hx
  rw [List.mem_singleton.1 hx]; exact hg
 rcases List.mem_append.1 hx with hx | hx
 ·have:=h.old x hx; omega
 rw [List.mem_singleton.1 hx,hb]; omega
theorem fsy_old {nm:ByteArray} {F:List Fi} {clk:Nat} (h:∀ f∈F,f.born<clk):∀ f∈fsy nm F,f.born<clk:=fun f hf=>by
 have:f.born∈(fsy nm F).map Fi.born:=List.mem_map.2 ⟨f,hf,rfl⟩
 rw [fsy_sz.2] at this
 obtain ⟨g,hg,e⟩:=List.mem_map.1 this
 rw [← e]; exact h g hg
theorem DkR.sy {F:List Fi} {clk:Nat} {nm:ByteArray} (h:DkR F clk):DkR (fsy nm F) clk :=
 ⟨by rw [fsy_sz.2]; exact h.nd,by rw [fsy_nm]; exact h.un,fun f hf=>by
   have:f.nm∈(fsy nm F).map Fi.nm:=List.mem_map.2 ⟨f,hf,rfl⟩
   rw [fsy_nm] at this
   obtain ⟨g,hg,e⟩:=List.mem_map.1 this
   rw [← e]; exact h.gn g hg,by have:=congrArg List.length (fsy_nm (nm:=nm) (F:=F)); simp only [List.length_map] at this; rw [this]; exact h.cnt,fsy_old h.old,by rw [fsy_sz.1]; exact h.few⟩
theorem DkR.del {F:List Fi} {clk:Nat} {nm:ByteArray} {f:Fi} (h:DkR F clk) (hf:fget nm F=some f):DkR (fdel nm F) clk :=
 ⟨(fdel_sz hf).2.1 h.nd,h.un.sublist fdel_nm.1,fun g hg=>h.gn g ((fdel_sz hf).2.2 g hg),Nat.le_trans fdel_nm.2 h.cnt,fun g hg=>h.old g ((fdel_sz hf).2.2 g hg),by have:=(fdel_sz hf).1; have:=h.few; omega⟩
theorem fget_app {nm:ByteArray} {f:Fi}:∀ {F:List Fi},fget nm F=none→f.nm=nm→fget nm (F++[f])=some f
 | [],_,e=>by rw [List.nil_append,fget,if_pos e]
 | g :: r,h,e=>by
  rw [List.cons_append,fget]
  rw [fget] at h
  by_cases q:g.nm=nm
  ·rw [if_pos q] at h; cases h
  ·rw [if_neg q] at h ⊢; exact fget_app h e
def dkC (bm:Nat) (room done:Nat):List Value:=[.map (some bm),.int .i64 (room:Int),.bool false,.int .i64 (-1),.int .i64 (done:Int)]
theorem uv2_one (a b:BitVec 64):∀ u∈[uv .u64 a,uv .u64 b],u.oneCell'=true:=by
 intro u hu
 simp only [List.mem_cons,List.not_mem_nil,or_false] at hu
 rcases hu with rfl|rfl<;>rfl
theorem mk_no {m:BitVec 64} (hm:m.toNat≤1000000) (h:(((m+1#64).toNat:Int) == 0||false||((m+1#64-1#64).toNat:Int) != (m.toNat:Int))=true):False:=by
 have h2:m+1#64-1#64=m:=BitVec.add_sub_cancel m 1#64
 have h3:(m+1#64).toNat=m.toNat+1:=by rw [BitVec.toNat_add]; show (m.toNat+1)%2^64=_; omega
 rw [h2,h3] at h
 simp at h
 omega
theorem mk_ne {a b c d:BitVec 64} (h : [uv .u64 a,uv .u64 b]=[uv .u64 c,uv .u64 d]):a.toNat=c.toNat:=by
 have h1:=(List.cons.inj h).1
 unfold uv at h1
 have h2:=(Value.int.inj h1).2
 exact Int.ofNat_inj.1 h2
def six (d:Nat):List Y:=[48#8,48#8,48#8,48#8,48#8,BitVec.ofNat 8 (48+d)]
def dgs (d k:Nat):List Y:=(six d).drop (6-k)
def dgn (n:BitVec 64) (k:Nat):BitVec 64:=if k=0 then n else 0#64
theorem dgs_len {d k:Nat} (h:k≤6):(dgs d k).length=k:=by simp [dgs,six]; omega
theorem dgn_z {n:BitVec 64} {k:Nat} (h:1≤k):(dgn n k).toNat=0:=by unfold dgn; rw [if_neg (by omega)]; rfl
theorem dgs_next {n:BitVec 64} {k:Nat} (hn:n.toNat<10) (hk:k<6) : [(48#64+dgn n k%10#64).setWidth 8]++dgs n.toNat k=dgs n.toNat (k+1):=by
 match k,hk with
 | 0,_ =>
  have h1:(48#64+dgn n 0%10#64).setWidth 8=BitVec.ofNat 8 (48+n.toNat):=by
   apply BitVec.eq_of_toNat_eq
   have h2:(dgn n 0%10#64).toNat=n.toNat:=by show (n%10#64).toNat=_; rw [BitVec.toNat_umod]; exact Nat.mod_eq_of_lt hn
   simp only [BitVec.toNat_setWidth,BitVec.toNat_add,h2,BitVec.toNat_ofNat]
   omega
  rw [h1]; rfl
 | 1,_=>rfl
 | 2,_=>rfl
 | 3,_=>rfl
 | 4,_=>rfl
 | 5,_=>rfl
theorem dgn_next {n:BitVec 64} {k:Nat} (hn:n.toNat<10):dgn n k / 10#64=dgn n (k+1):=by
 unfold dgn
 by_cases h:k=0
 ·rw [if_pos h,if_neg (by omega)]
  apply BitVec.eq_of_toNat_eq
  rw [BitVec.toNat_udiv]; exact Nat.div_eq_of_lt hn
 ·rw [if_neg h,if_neg (by omega)]; rfl
def nmTab (d:Nat):ByteArray:=bstr (yb (bstr (six d))++yb ⟨#[46,116,97,98]⟩)
def nmLog (d:Nat):ByteArray:=bstr (yb (bstr (six d))++yb ⟨#[46,108,111,103]⟩)
def nmMan (d:Nat):ByteArray:=bstr (yb ⟨#[109,97,110,105,102,101,115,116,45]⟩++yb (bstr (six d)))
def nmCur:ByteArray:=⟨#[99,117,114,114,101,110,116]⟩
def nmTmp:ByteArray:=⟨#[99,117,114,114,101,110,116,46,116,109,112]⟩
def nmB (k d:Nat):ByteArray:=if k=1 then nmLog d else if k=2 then nmTab d else if k=3 then nmMan d else if k=4 then nmCur else if k=5 then nmTmp else ⟨#[]⟩
theorem nmK1 {k:Nat} {d:Nat} (h:k=1):bstr (yb (bstr (six d))++yb ⟨#[46,108,111,103]⟩)=nmB k d:=by subst h; rfl
theorem nmK2 {k:Nat} {d:Nat} (h:k=2):bstr (yb (bstr (six d))++yb ⟨#[46,116,97,98]⟩)=nmB k d:=by subst h; rfl
theorem nmK3 {k:Nat} {d:Nat} (h:k=3):bstr (yb ⟨#[109,97,110,105,102,101,115,116,45]⟩++yb (bstr (six d)))=nmB k d:=by subst h; rfl
theorem nmK4 {k:Nat} {d:Nat} (h:k=4):(⟨#[99,117,114,114,101,110,116]⟩ : ByteArray)=nmB k d:=by subst h; rfl
theorem nmK5 {k:Nat} {d:Nat} (h:k=5):(⟨#[99,117,114,114,101,110,116,46,116,109,112]⟩ : ByteArray)=nmB k d:=by subst h; rfl
theorem nmK0 {k:Nat} {d:Nat} (h1:k≠1) (h2:k≠2) (h3:k≠3) (h4:k≠4) (h5:k≠5):(⟨#[]⟩ : ByteArray)=nmB k d:=by
 unfold nmB; rw [if_neg h1,if_neg h2,if_neg h3,if_neg h4,if_neg h5]
theorem strNe {s:ByteArray} (h:s.size≠0):(s.toList == (⟨#[]⟩ : ByteArray).toList)=false:=by
 refine beq_eq_false_iff_ne.2 fun e=>h ?_
 have h1:=yb_len s
 unfold yb at h1
 rw [e] at h1
 have h2:=yb_len ⟨#[]⟩
 unfold yb at h2
 rw [← h1,h2]; rfl
def goodN (s:ByteArray):Prop:=s.size≠0∧s.size≤100
theorem nm_good4:goodN (nmB 4 0):=⟨by decide,by decide⟩
theorem nm_good5:goodN (nmB 5 0):=⟨by decide,by decide⟩
def polyW:W:=2197175160#32
def halfW (x:W):W:=x >>> 1 ^^^ (polyW &&& -(x &&& 1#32))
def hIt:Nat→W→W
 | 0,x=>x
 | n+1,x=>halfW (hIt n x)
theorem hIt_add (m n:Nat) (x:W):hIt m (hIt n x)=hIt (m+n) x:=by
 induction m with
 | zero=>rw [Nat.zero_add]; rfl
 | succ m ih=>rw [hIt,ih,Nat.succ_add]; rfl
def crcB (x:W) (c:Y):W:=hIt 8 (x ^^^ c.setWidth 32)
def crcW (sum:W) (xs:List Y):W := ~~~(xs.foldl crcB (~~~sum))
theorem crc_app (sum:W) (xs ys:List Y):crcW (crcW sum xs) ys=crcW sum (xs++ys):=by
 unfold crcW; rw [BitVec.not_not,List.foldl_append]
theorem crc_nil (sum:W):crcW sum []=sum:=by simp [crcW]
theorem fold_take {xs:List Y} {k:Nat} {x:W} (h:k<xs.length):(xs.take (k+1)).foldl crcB x=crcB ((xs.take k).foldl crcB x) (xs.getD k 0):=by
 rw [List.take_succ_eq_append_getElem h,List.foldl_append]; simp [h]
def maskW (x:W):W:=rotl x 17+2726488792#32
theorem fx0 {L:List Y} {n:BitVec 64} {m:Nat} (e:L=[]++fixL n m):L.length=m:=by rw [e,List.nil_append,fix_len]
theorem fx2 {L A:List Y} {n:BitVec 64} {m:Nat} (e:L=A++fixL n m):L.length=A.length+m:=by rw [e,List.length_append,fix_len]
structure Hd where
 kind:Y
 level:Y
 gen:BitVec 64
 epoch:BitVec 64
 num:BitVec 64
 deriving DecidableEq
def Hd.cells (h:Hd):List Value:=[V h.kind,V h.level,uv .u64 h.gen,uv .u64 h.epoch,uv .u64 h.num]
def Hd.zero:Hd:=⟨0,0,0,0,0⟩
def Hd.three (h:Hd) (k:Nat):BitVec 64:=if k=0 then h.gen else if k=1 then h.epoch else h.num
def Hd.some (h:Hd) (k:Nat):List Y:=[116#8,97#8,110#8,116#8,h.kind,h.level]++(List.range k).flatMap (fun i=>fixL (h.three i) 8)
theorem Hd.some_succ (h:Hd) (k:Nat):h.some (k+1)=h.some k++fixL (h.three k) 8:=by
 unfold Hd.some; rw [List.range_succ,List.flatMap_append,←List.append_assoc]; simp
theorem Hd.three_at {h:Hd} {k:Nat} (hk:k<3) : [uv .u64 h.gen,uv .u64 h.epoch,uv .u64 h.num][k]? = Option.some (uv .u64 (h.three k)):=by
 match k,hk with
 | 0,_=>rfl
 | 1,_=>rfl
 | 2,_=>rfl
def headL (h:Hd):List Y:=[116#8,97#8,110#8,116#8,h.kind,h.level]++fixL h.gen 8++fixL h.epoch 8++fixL h.num 8
theorem Hd.some_all (h:Hd):h.some 3=headL h:=by rw [Hd.some_succ,Hd.some_succ,Hd.some_succ]; simp [Hd.some,headL,Hd.three]
theorem Hd.some_len (h:Hd) (k:Nat):(h.some k).length=6+8*k:=by
 induction k with
 | zero=>rfl
 | succ k ih=>rw [Hd.some_succ,List.length_append,ih,fix_len]; omega
theorem head_len (h:Hd):(headL h).length=30:=by simp [headL,fix_len]
def unfK (xs:List Y):Nat→BitVec 64
 | 0=>0
 | k+1=>unfK xs k ||| (xs.getD k 0).setWidth 64 <<< (8*k)
def nonceF (n:BitVec 64):Nat→Y:=fun i=>if i<8 then (n >>> (8*i)).setWidth 8 else 0#8
theorem nonce_outs (n:BitVec 64) {i:Nat} (h:i<12):outs (nonceF n) 8 i=nonceF n i:=by
 by_cases h8:i<8
 ·exact outs_eq _ h8
 ·have:∀ k,k≤i→outs (nonceF n) k i=0#8:=fun k=>by
   induction k with
   | zero=>intro _; rfl
   | succ k ih=>intro hk; show upd (outs (nonceF n) k) k _ i=_; unfold upd; rw [if_neg (by omega)]; exact ih (by omega)
  rw [this 8 (by omega)]; unfold nonceF; rw [if_neg h8]
def expB (key use:List Y):Nat→List Y
 | 0=>[]
 | k+1=>shaL' key (expB key use k) use k
where shaL' (key last use:List Y) (k:Nat):List Y:=yl 32 (macL key (last++use++[BitVec.ofNat 8 (k+1)]))
def expL (key use:List Y):Nat→List Y
 | 0=>[]
 | k+1=>expL key use k++expB key use (k+1)
theorem expB_len (key use:List Y) (k:Nat):(expB key use (k+1)).length=32:=yl_len _ _
theorem exp_len (key use:List Y) (k:Nat):(expL key use k).length=32*k:=by
 induction k with
 | zero=>rfl
 | succ k ih=>rw [expL,List.length_append,ih,expB_len]; omega
theorem exp_last (key use:List Y) (k:Nat):(expL key use k).drop (32*k-32)=expB key use k:=by
 cases k with
 | zero=>rfl
 | succ k=>rw [expL]; exact List.drop_left' (by rw [exp_len]; omega)
def saltL:List Y:=[116#8,97#8,110#8,116#8,97#8,108#8,117#8,115#8]
def deriveL (root:Nat→Y) (use:List Y):List Y:=expL (yl 32 (macL saltL (yl 32 root))) use 2
def keyEnc (root:Nat→Y) (use:List Y):Nat→Y:=fun i=>(deriveL root use).getD i 0
def keyMac (root:Nat→Y) (use:List Y):Nat→Y:=fun i=>(deriveL root use).getD (32+i) 0
theorem key_cells {root:Nat→Y} {use L A B:List Y} (e:L=deriveL root use) (eA:A=L.take 32) (eB:B=L.drop 32) :
  ba 32 (fun i=>A.getD i 0)++ba 32 (fun i=>B.getD i 0)=ba 32 (keyEnc root use)++ba 32 (keyMac root use):=by
 subst e eA eB
 have e1:ba 32 (fun i=>((deriveL root use).take 32).getD i 0)=ba 32 (keyEnc root use):=ba_congr fun i hi=>by simp only [keyEnc,List.getD_eq_getElem?_getD,List.getElem?_take,if_pos hi]
 have e2:ba 32 (fun i=>((deriveL root use).drop 32).getD i 0)=ba 32 (keyMac root use):=ba_congr fun i _=>by simp only [keyMac,List.getD_eq_getElem?_getD,List.getElem?_drop]
 rw [e1,e2]
theorem key_put {zs:List Value} (hz:zs.length=64) (f g:Nat→Y):put (put zs 0 (ba 32 f)) 32 (ba 32 g)=ba 32 f++ba 32 g:=by
 have e1:put zs 0 (ba 32 f)=ba 32 f++zs.drop 32:=by unfold put; rw [List.take_zero,List.nil_append,ba_len]
 rw [e1]
 unfold put
 rw [List.take_left' (ba_len _ _),ba_len,List.drop_of_length_le (by rw [List.length_append,ba_len,List.length_drop,hz]; exact Nat.le_refl _),List.append_nil]
theorem key_len (f g:Nat→Y):(ba 32 f++ba 32 g).length=64:=by rw [List.length_append,ba_len,ba_len]
theorem key_one (f g:Nat→Y):∀ u∈ba 32 f++ba 32 g,u.oneCell'=true:=one_app (ba_one _ _) (ba_one _ _)
def numN (n:Nat):List Y:=if h:n<128 then [BitVec.ofNat 8 n] else BitVec.ofNat 8 (n%128+128) :: numN (n / 128)
termination_by n
decreasing_by omega
theorem num_small {n:Nat} (h:n<128):numN n=[BitVec.ofNat 8 n]:=by rw [numN,dif_pos h]
theorem num_big {n:Nat} (h:¬ n<128):numN n=BitVec.ofNat 8 (n%128+128) :: numN (n / 128):=by rw [numN,dif_neg h]
theorem num_pos (n:Nat):0<(numN n).length:=by
 by_cases h:n<128
 ·rw [num_small h]; simp
 ·rw [num_big h]; simp
theorem num_len:∀ (k n:Nat),n<128^k→0<k→(numN n).length≤k
 | 0,_,_,h=>by omega
 | k+1,n,h,_=>by
  by_cases hn:n<128
  ·rw [num_small hn]; simp
  ·rw [num_big hn]
   by_cases hk:k=0
   ·subst hk; omega
   ·have:=num_len k (n / 128) (by rw [Nat.pow_succ] at h; omega) (by omega)
    simp; omega
theorem num_len10 {n:Nat} (h:n<18446744073709551616):(numN n).length≤10:=num_len 10 n (by omega) (by decide)
structure Rd' where
 rest:List Y
 bad:Int
def strL (xs:List Y):List Y:=numN xs.length++xs
noncomputable def B (p:Prop):Bool:=@decide p (Classical.propDecidable p)
theorem B_iff {p:Prop}:B p=true↔p:=by unfold B; exact @decide_eq_true_iff p (Classical.propDecidable p)
theorem B_true {p:Prop} (h:p):B p=true:=B_iff.2 h
theorem B_false {p:Prop} (h:¬ p):B p=false:=by
 cases hb:B p with
 | false=>rfl
 | true=>exact absurd (B_iff.1 hb) h
structure Opts where
 mem:Int
 table:Int
 zero:Int
 base:Int
 block:Int
 every:Int
 bits:Int
def Opts.cells (o:Opts):List Value:=[.int .i64 o.mem,.int .i64 o.table,.int .i64 o.zero,.int .i64 o.base,.int .i64 o.block,.int .i64 o.every,.int .i64 o.bits]
def Opts.val (o:Opts):Value:=.agg o.cells.toArray
def within (n m:Int):Bool:=decide (0<n)&&decide (n≤m)
def rightO (o:Opts):Bool :=
 within o.mem 1048576&&within o.table 1048576&&within o.block 262144&&within o.zero 64&&within o.base 1073741824&&within o.every 1024&&within o.bits 64
structure Meta where
 level:Int
 gen:Int
 epoch:Int
 number:Int
 size:Int
 count:Int
 min:ByteArray
 max:ByteArray
 root:Nat→Int
def Meta.cells (m:Meta):List Value :=
 [.int .u8 m.level,.int .u64 m.gen,.int .u64 m.epoch,.int .u64 m.number,.int .i64 m.size,.int .i64 m.count,.string m.min,.string m.max]++(List.range 32).map fun i=>.int .u8 (m.root i)
def Meta.val (m:Meta):Value:=.agg m.cells.toArray
def Meta.zero:Meta:=⟨0,0,0,0,0,0,ByteArray.empty,ByteArray.empty,fun _=>0⟩
theorem Meta.len (m:Meta):m.cells.length=40:=rfl
theorem Meta.one (m:Meta):∀ u∈m.cells,u.oneCell'=true:=by
 intro u hu
 simp only [Meta.cells,List.mem_append,List.mem_cons,List.not_mem_nil,or_false,List.mem_map] at hu
 rcases hu with (rfl|rfl|rfl|rfl|rfl|rfl|rfl|rfl) | ⟨i,_,rfl⟩<;>rfl
structure Meta.wf (m:Meta):Prop where
 level:0≤m.level∧m.level<256
 number:0≤m.number∧m.number<18446744073709551616
 size : -9223372036854775808≤m.size∧m.size≤9223372036854775807
 minL:m.min.size≤9223372036854775807
 maxL:m.max.size≤9223372036854775807
 gen:0≤m.gen∧m.gen≤18446744073709551615
 epoch:0≤m.epoch∧m.epoch≤18446744073709551615
 count : -9223372036854775808≤m.count∧m.count≤9223372036854775807
 root:∀ j,j<32→0≤m.root j∧m.root j≤255
structure State where
 lv:Nat→List Meta
 log:Int
 next:Int
 seq:Int
 least:Int
 gens:Nat→Int
def State.cells (s:State) (hd:Nat→Sh):List Value :=
 (List.range 5).map (fun i=>(hd i).val (s.lv i).length)++[.int .u64 s.log,.int .u64 s.next,.int .u64 s.seq,.int .u64 s.least]++(List.range 5).map fun i=>.int .u64 (s.gens i)
def State.val (s:State) (hd:Nat→Sh):Value:=.agg (s.cells hd).toArray
theorem State.cell_lv (s:State) (hd:Nat→Sh) {k:Nat} (h:k<5):(s.cells hd)[0+k*1]? = some ((hd k).val (s.lv k).length):=by
 match k,h with
 | 0,_=>rfl | 1,_=>rfl | 2,_=>rfl | 3,_=>rfl | 4,_=>rfl
theorem State.cell_gen (s:State) (hd:Nat→Sh) {k:Nat} (h:k<5):(s.cells hd)[9+k*1]? = some (.int .u64 (s.gens k)):=by
 match k,h with
 | 0,_=>rfl | 1,_=>rfl | 2,_=>rfl | 3,_=>rfl | 4,_=>rfl
structure StR (G:PM) (s:State) (hd:Nat→Sh):Prop where
 lv:∀ i,i<5→SlR G 40 Meta.cells (hd i) (s.lv i)
 len:∀ i,i<5→(s.lv i).length*112≤140737488351232
 wf:∀ i,i<5→∀ m∈s.lv i,m.wf
theorem StR.mono {G G':PM} {s:State} {hd:Nat→Sh} (h:StR G s hd) (hle:PM.le G G'):StR G' s hd:=⟨fun i hi=>(h.lv i hi).mono hle,h.len,h.wf⟩
theorem SlR.get {G:PM} {h:Sh} {xs:List Meta} (s:SlR G 40 Meta.cells h xs) {k:Nat} (hk:k<xs.length):RdNP G h.b (h.o+k*40) (xs.getD k Meta.zero).cells :=
 s.rd k _ (by simp [hk])
theorem SlR.gat {G:PM} {h:Sh} {xs:List Meta} (s:SlR G 40 Meta.cells h xs) {j:Int} (k:Nat) (hj:j.toNat=k) (hk:k<xs.length):RdNP G h.b (h.o+j.toNat*40) (xs.getD k Meta.zero).cells:=by
 rw [hj]; exact s.get hk
theorem getD_mem {xs:List Meta} {k:Nat} (h:k<xs.length):xs.getD k Meta.zero∈xs:=by simp [h]
def lt (a b:ByteArray):Bool:=Op.bytesLess a.toList b.toList
def le (a b:ByteArray):Bool:=Op.bytesLess a.toList b.toList||a.toList == b.toList
def good (s:State) (m:Meta):Bool :=
 decide (m.level<5)&&le m.min m.max&&decide ((m.min.size:Int)≤1024)&&decide ((m.max.size:Int)≤1024)&&decide (m.count≥1)&&decide (m.size≥1)&&decide (m.number<s.next)&&decide (m.gen≤s.gens m.level.toNat)
def pairOk (level:Int) (a b:Meta):Bool:=if level=0 then decide (b.number<a.number) else lt a.max b.min
theorem stands_eq (a b:Meta) (h0:0≤a.level):(if (a.level == 0)=true then decide (a.number > b.number) else lt a.max b.min)=pairOk a.level a b:=by
 unfold pairOk
 by_cases h:a.level=0
 ·simp [h]
 ·simp [h]
theorem fits_fin {s:State} {m:Meta} (h1:m.level<5) (h2:(!(Op.bytesLess m.min.toList m.max.toList||m.min.toList == m.max.toList))=false)
  (h3:(if ((m.max.size:Nat):Int) > ((m.min.size:Nat):Int) then ((m.max.size:Nat):Int) else ((m.min.size:Nat):Int))≤1024) (h4:1≤m.count) (h5:1≤m.size) :
  tup [.bool (decide (m.number<s.next)&&decide (m.gen≤s.gens m.level.toNat))]=.bool (good s m):=by
 have h2':le m.min m.max=true:=by unfold le; cases h:(Op.bytesLess m.min.toList m.max.toList||m.min.toList == m.max.toList)<;>simp_all
 have h6:((m.min.size:Nat):Int)≤1024∧((m.max.size:Nat):Int)≤1024:=by split at h3<;>omega
 simp only [tup,good,h2',decide_eq_true h1,decide_eq_true h6.1,decide_eq_true h6.2,decide_eq_true (show m.count≥1 from h4),decide_eq_true (show m.size≥1 from h5),Bool.true_and]
def tot (s:State):Nat→Int
 | 0=>0
 | n+1=>tot s n+(s.lv n).length
theorem tot_nonneg (s:State):∀ n,0≤tot s n
 | 0=>Int.le_refl _
 | n+1=>by have:=tot_nonneg s n; simp only [tot]; omega
theorem tot_mono (s:State):∀ {n m:Nat},n≤m→tot s n≤tot s m:=by
 intro n m h
 induction h with
 | refl=>exact Int.le_refl _
 | step _ ih=>simp only [tot]; omega
def nums (l:List Meta):List Int:=l.map (·.number)
def allM (s:State):Nat→List Meta
 | 0=>[]
 | n+1=>allM s n++s.lv n
theorem allM_len (s:State):∀ n,((allM s n).length:Int)=tot s n
 | 0=>rfl
 | n+1=>by simp only [allM,tot,List.length_append,←allM_len s n]; omega
def LvOk (s:State) (i:Nat) (l:List Meta):Prop :=
 (∀ m∈l,m.level=i∧good s m=true)∧∀ j,j+1<l.length→pairOk i (l.getD j Meta.zero) (l.getD (j+1) Meta.zero)=true
structure RightP (s:State):Prop where
 seq:s.seq≤72057594037927935
 least:s.least≤72057594037927935
 log:s.log≤s.next
 few:tot s 5≤1024
 lv:∀ i,i<5→LvOk s i (s.lv i)
 apart:∀ a b,a<(allM s 5).length→b<a→((allM s 5).getD a Meta.zero).number≠((allM s 5).getD b Meta.zero).number
noncomputable def rightS (s:State):Bool:=B (RightP s)
theorem rightS_true {s:State} (h:RightP s):rightS s=true:=B_true h
theorem rightS_false {s:State} (h:¬ RightP s):rightS s=false:=B_false h
theorem metas_len (l:List Meta):∀ x∈l,x.cells.length=40:=fun x _=>x.len
theorem metas_one (l:List Meta):∀ u∈l.flatMap Meta.cells,u.oneCell'=true:=fun u hu=>by
 obtain ⟨m,_,hm⟩:=List.mem_flatMap.1 hu
 exact m.one u hm
theorem fin_false {s:State} (h:¬ RightP s):tup [.bool false]=.bool (rightS s):=by rw [rightS_false h]; rfl
theorem fin_true {s:State} (h:RightP s):tup [.bool true]=.bool (rightS s):=by rw [rightS_true h]; rfl
theorem rs_good {s:State} {i k:Nat} (hi:i<5) (hk:k<(s.lv i).length) (h:(((s.lv i).getD k Meta.zero).level != (i:Int))=true∨good s ((s.lv i).getD k Meta.zero)=false):¬ RightP s:=by
 intro hr
 have:=(hr.lv i hi).1 _ (getD_mem hk)
 rcases h with h | h
 ·rw [this.1] at h; simp at h
 ·rw [this.2] at h; cases h
theorem State.arr_lv (s:State) (hd:Nat→Sh) {k:Nat} (h:k<5):(((s.cells hd).drop 0).take 5)[k]? = some ((hd k).val (s.lv k).length):=by
 match k,h with
 | 0,_=>rfl | 1,_=>rfl | 2,_=>rfl | 3,_=>rfl | 4,_=>rfl
theorem RdNP.add {G:PM} {b:Nat} {cs:List Value} {T:TypeId}:RdNP (G.add b (cl cs T)) b 0 cs:=fun j v hj=>by
 rw [Nat.zero_add]; exact RdP.blk (PM.add_same G b _) hj
def cnt (L:List Int) (x:Int):Int:=if x∈L then 1 else 0
def cntM (L:List Int) (x:Int):Option Value:=if x∈L then some (.int .i64 1) else none
theorem cnt_get (L:List Int) (x:Int):(cntM L x).getD (.int .i64 0)=.int .i64 (cnt L x):=by unfold cntM cnt; split<;>rfl
theorem cnt_bd (L:List Int) (x:Int):0≤cnt L x∧cnt L x≤1:=by unfold cnt; split<;>omega
theorem cnt_upd (m:Int→Option Value) (x:Int) (u z:Value):((fun j=>if j=x then some u else m j) x).getD z=u:=by simp
theorem cnt_push {L:List Int} {x:Int} (h:x∉L):(fun j=>if j=x then some (Value.int .i64 (cnt L x+1)) else cntM L j)=cntM (L++[x]):=by
 funext j
 unfold cntM cnt
 by_cases hj:j=x
 ·subst hj; simp [h]
 ·simp [hj]
theorem cnt_not {L:List Int} {x:Int} (h:cnt L x+1≤1):x∉L:=by intro hm; simp [cnt,hm] at h
theorem cnt_mem {L:List Int} {x:Int} (h:1<cnt L x+1):x∈L:=by
 by_cases hm:x∈L
 ·exact hm
 ·simp [cnt,hm] at h
def Dist (l:List Meta):Prop:=∀ a b,a<l.length→b<a→(l.getD a Meta.zero).number≠(l.getD b Meta.zero).number
theorem getD_app_left {l r:List Meta} {k:Nat} (h:k<l.length):(l++r).getD k Meta.zero=l.getD k Meta.zero:=by
 simp [List.getElem?_append_left h]
theorem getD_app_at {l r:List Meta} {m:Meta}:(l++m :: r).getD l.length Meta.zero=m:=by simp
theorem dist_nil:Dist []:=fun a b h=>by simp at h
theorem dist_push {l:List Meta} {m:Meta} (h:Dist l) (hm:m.number∉nums l):Dist (l++[m]):=by
 intro a b ha hb
 simp only [List.length_append,List.length_singleton] at ha
 by_cases e:a=l.length
 ·subst e
  rw [getD_app_at,getD_app_left hb]
  intro e
  exact hm (List.mem_map.2 ⟨_,getD_mem hb,e.symm⟩)
 ·rw [getD_app_left (by omega),getD_app_left (by omega)]
  exact h a b (by omega) hb
theorem allM_pre (s:State) {i:Nat}:∀ {n:Nat},i<n→∃ r,allM s n=allM s i++s.lv i++r
 | 0,h=>by omega
 | n+1,h=>by
  by_cases e:i=n
  ·subst e; exact ⟨[],by simp [allM]⟩
  ·obtain ⟨r,hr⟩:=allM_pre s (i:=i) (n:=n) (by omega)
   exact ⟨r++s.lv n,by simp [allM,hr]⟩
theorem take_snoc {l:List Meta} {k:Nat} (h:k<l.length):l.take (k+1)=l.take k++[l.getD k Meta.zero]:=by
 rw [List.take_succ_eq_append_getElem h]; simp [h]
theorem rs_dup {s:State} {i k:Nat} (hi:i<5) (hk:k<(s.lv i).length) (h:((s.lv i).getD k Meta.zero).number∈nums (allM s i++(s.lv i).take k)):¬ RightP s:=by
 intro hr
 obtain ⟨r,hr5⟩:=allM_pre s hi
 have hsplit:allM s 5=(allM s i++(s.lv i).take k)++((s.lv i).getD k Meta.zero) :: ((s.lv i).drop (k+1)++r):=by
  rw [hr5]
  have:s.lv i=(s.lv i).take k++(s.lv i).getD k Meta.zero :: (s.lv i).drop (k+1):=by
   have h1:=List.take_append_drop (k+1) (s.lv i)
   rw [take_snoc hk] at h1
   simpa using h1.symm
  generalize hm:(s.lv i).getD k Meta.zero=m at this
  rw [show allM s i++s.lv i++r=allM s i++(s.lv i)++r from rfl]
  conv=>lhs; rw [this]
  simp
 obtain ⟨m,hm,hmn⟩:=List.mem_map.1 h
 obtain ⟨b,hb,rfl⟩:=List.getElem_of_mem hm
 have:=hr.apart (allM s i++(s.lv i).take k).length b (by rw [hsplit]; simp) hb
 rw [hsplit,getD_app_at,getD_app_left hb] at this
 apply this
 rw [← hmn,List.getD_eq_getElem?_getD,List.getElem?_eq_getElem hb]
 rfl
theorem cnt_zero (s:State) (i b:Nat):Res.mp b .u64 (cntM (nums (allM s i)))=Res.mp b .u64 (cntM (nums (allM s i++(s.lv i).take 0))):=by simp
theorem cnt_next {s:State} {i k b:Nat} (h:(s.lv i).length≤k):Res.mp b .u64 (cntM (nums (allM s i++(s.lv i).take k)))=Res.mp b .u64 (cntM (nums (allM s (i+1)))):=by
 rw [List.take_of_length_le h]; rfl
theorem cnt_step {s:State} {i k b:Nat} (hk:k<(s.lv i).length) (h:((s.lv i).getD k Meta.zero).number∉nums (allM s i++(s.lv i).take k)) :
  Res.mp b .u64 (fun j=>if j=((s.lv i).getD k Meta.zero).number then some (Value.int .i64 (cnt (nums (allM s i++(s.lv i).take k)) ((s.lv i).getD k Meta.zero).number+1)) else cntM (nums (allM s i++(s.lv i).take k)) j) =
   Res.mp b .u64 (cntM (nums (allM s i++(s.lv i).take (k+1)))):=by
 rw [cnt_push h,take_snoc hk]
 simp [nums]
structure Part (s:State) (i k:Nat):Prop where
 le:k≤(s.lv i).length
 good:∀ j,j<k→((s.lv i).getD j Meta.zero).level=i∧good s ((s.lv i).getD j Meta.zero)=true
 pair:∀ j,j+1<k→pairOk i ((s.lv i).getD j Meta.zero) ((s.lv i).getD (j+1) Meta.zero)=true
 dist:Dist (allM s i++(s.lv i).take k)
theorem Part.zero {s:State} {i:Nat} (h:Dist (allM s i)):Part s i 0:=⟨Nat.zero_le _,fun j hj=>by omega,fun j hj=>by omega,by simpa using h⟩
theorem Part.step {s:State} {i k:Nat} (h:Part s i k) (hk:k<(s.lv i).length) (h1:((s.lv i).getD k Meta.zero).level=i∧Go.Tan.good s ((s.lv i).getD k Meta.zero)=true)
  (h2:((s.lv i).getD k Meta.zero).number∉nums (allM s i++(s.lv i).take k)) (h3:0<k→pairOk i ((s.lv i).getD (k-1) Meta.zero) ((s.lv i).getD k Meta.zero)=true):Part s i (k+1):=by
 refine ⟨by omega,fun j hj=>?_,fun j hj=>?_,?_⟩
 ·by_cases e:j=k
  ·subst e; exact h1
  exact h.good j (by omega)
 ·by_cases e:j+1=k
  ·subst e; have:=h3 (by omega); simpa using this
  exact h.pair j (by omega)
 rw [take_snoc hk,←List.append_assoc]; exact dist_push h.dist h2
theorem Part.lvOk {s:State} {i k:Nat} (h:Part s i k) (hk:(s.lv i).length≤k):LvOk s i (s.lv i) :=
 ⟨fun m hm=>by
  obtain ⟨q,hq,rfl⟩:=List.getElem_of_mem hm
  have:=h.good q (by omega)
  simpa [hq] using this,fun j hj=>h.pair j (by omega)⟩
theorem Part.next {s:State} {i k:Nat} (h:Part s i k) (hk:(s.lv i).length≤k):Dist (allM s (i+1)):=by
 have:=h.dist; rw [List.take_of_length_le hk] at this; exact this
theorem rs_few {s:State} {i:Nat} (hi:i<5) (h:1024-tot s i<(s.lv i).length):¬ RightP s:=by
 intro hr
 have h1:=tot_mono s (show i+1≤5 by omega)
 rw [show tot s (i+1)=tot s i+(s.lv i).length from rfl] at h1
 have:=hr.few
 omega
theorem rs_max {s:State} (h:72057594037927935<(if s.least > s.seq then s.least else s.seq)∨s.next<s.log):¬ RightP s:=by
 intro hr
 have h1:=hr.seq; have h2:=hr.least; have h3:=hr.log
 rcases h with h | h
 ·split at h<;>omega
 ·omega
theorem rs_done {s:State} {i:Nat} (h1:(if s.least > s.seq then s.least else s.seq)≤72057594037927935∧s.log≤s.next) (hi:i=5) (ht:tot s i≤1024) (hall:∀ j,j<i→LvOk s j (s.lv j)) (hd:Dist (allM s i)):RightP s:=by
 subst hi
 refine ⟨?_,?_,h1.2,ht,hall,hd⟩
 ·have:=h1.1; split at this<;>omega
 have:=h1.1; split at this<;>omega
theorem rt_bad {s:State} {i k:Nat} (hi:i<5) (hk:k<(s.lv i).length) (hp:Part s i k)
  (h:((((s.lv i).getD k Meta.zero).level != (i:Int)) || !good s ((s.lv i).getD k Meta.zero)||decide (cnt (nums (allM s i++(s.lv i).take k)) ((s.lv i).getD k Meta.zero).number+1 > 1) ||
   (decide ((k:Int) > 0) && !pairOk ((s.lv i).getD (k-1) Meta.zero).level ((s.lv i).getD (k-1) Meta.zero) ((s.lv i).getD k Meta.zero)))=true):¬ RightP s:=by
 simp only [Bool.or_eq_true,Bool.and_eq_true,decide_eq_true_eq,Bool.not_eq_true'] at h
 rcases h with ((h | h) | h) | ⟨h1,h2⟩
 ·exact rs_good hi hk (.inl h)
 ·exact rs_good hi hk (.inr h)
 ·exact rs_dup hi hk (cnt_mem (by omega))
 ·intro hr
  have h3:=(hr.lv i hi).2 (k-1) (by omega)
  rw [show k-1+1=k by omega] at h3
  rw [(hp.good (k-1) (by omega)).1,h3] at h2
  cases h2
theorem rt_good {s:State} {i k:Nat} (hk:k<(s.lv i).length) (hp:Part s i k)
  (h:((((s.lv i).getD k Meta.zero).level != (i:Int)) || !good s ((s.lv i).getD k Meta.zero)||decide (cnt (nums (allM s i++(s.lv i).take k)) ((s.lv i).getD k Meta.zero).number+1 > 1) ||
   (decide ((k:Int) > 0) && !pairOk ((s.lv i).getD (k-1) Meta.zero).level ((s.lv i).getD (k-1) Meta.zero) ((s.lv i).getD k Meta.zero)))=false) :
  Part s i (k+1)∧((s.lv i).getD k Meta.zero).number∉nums (allM s i++(s.lv i).take k):=by
 simp only [Bool.or_eq_false_iff,Bool.and_eq_false_iff,decide_eq_false_iff_not,Bool.not_eq_false',bne_eq_false_iff_eq] at h
 obtain ⟨⟨⟨h1,h2⟩,h3⟩,h4⟩:=h
 have hn:=cnt_not (show cnt (nums (allM s i++(s.lv i).take k)) ((s.lv i).getD k Meta.zero).number+1≤1 by omega)
 refine ⟨hp.step hk ⟨h1,h2⟩ hn fun h0=>?_,hn⟩
 rcases h4 with h4 | h4
 ·omega
 rw [(hp.good (k-1) (by omega)).1] at h4; exact h4
def over:Int→List Meta→Bool
 | _,[]=>false
 | r,m :: ms=>if m.size > r then true else over (r-m.size) ms
def ovp (lo hi:ByteArray) (m:Meta):Bool := !lt m.max lo&&le m.min hi
def ovl (s:State) (level:Int) (lo hi:ByteArray):List Meta:=if 0≤level∧level<5 then (s.lv level.toNat).filter (ovp lo hi) else []
theorem ovl_in {s:State} {level:Int} {lo hi:ByteArray} (h:0≤level∧level<5):ovl s level lo hi=(s.lv level.toNat).filter (ovp lo hi):=by rw [ovl,if_pos h]
theorem ovl_out {s:State} {level:Int} {lo hi:ByteArray} (h:level<0∨5≤level):ovl s level lo hi=[]:=by rw [ovl,if_neg (by omega)]
theorem filt_len (l:List Meta) (p:Meta→Bool) (k:Nat):((l.take k).filter p).length≤l.length:=Nat.le_trans (List.length_filter_le _ _) (by simp only [List.length_take]; omega)
theorem ov_yes {l:List Meta} {lo hi:ByteArray} {k E:Nat} {v:Value} (hk:k<l.length) (h:ovp lo hi (l.getD k Meta.zero)=true) :
  Res.row v E 40 (((l.take k).filter (ovp lo hi)).length+1) (((l.take k).filter (ovp lo hi)).flatMap Meta.cells++(l.getD k Meta.zero).cells)=Res.row v E 40 ((l.take (k+1)).filter (ovp lo hi)).length (((l.take (k+1)).filter (ovp lo hi)).flatMap Meta.cells):=by
 generalize hm:l.getD k Meta.zero=m at h ⊢
 rw [take_snoc hk,hm,List.filter_append,List.filter_cons_of_pos h]
 simp
theorem ov_no {l:List Meta} {lo hi:ByteArray} {k E:Nat} {v:Value} (hk:k<l.length) (h:ovp lo hi (l.getD k Meta.zero)=false) :
  Res.row v E 40 ((l.take k).filter (ovp lo hi)).length (((l.take k).filter (ovp lo hi)).flatMap Meta.cells)=Res.row v E 40 ((l.take (k+1)).filter (ovp lo hi)).length (((l.take (k+1)).filter (ovp lo hi)).flatMap Meta.cells):=by
 generalize hm:l.getD k Meta.zero=m at h
 rw [take_snoc hk,hm,List.filter_append,List.filter_cons_of_neg (by simp [h])]
 simp
def State.zero:State:=⟨fun _=>[],0,0,0,0,fun _=>0⟩
def hd0:Nat→Sh:=fun _=>⟨none,0⟩
def hd1 (b:Nat):Nat→Sh:=fun | 0=>⟨some ⟨b,0,none⟩,1⟩ | _=>⟨none,0⟩
theorem st_zero {G:PM}:StR G State.zero hd0:=⟨fun _ _=>SlR.nul,fun _ _=>Nat.zero_le _,fun _ _ m hm=>nomatch hm⟩
theorem right_zero:rightS State.zero=true:=by
 refine rightS_true ⟨by decide,by decide,by decide,by decide,fun i _=>⟨fun m hm=>(nomatch hm),fun j hj=>absurd hj (Nat.not_lt_zero _)⟩,fun a b ha=>absurd ha (Nat.not_lt_zero _)⟩
structure Gone where
 level:Int
 number:Int
def Gone.cells (g:Gone):List Value:=[.int .u8 g.level,.int .u64 g.number]
structure Gone.wf (g:Gone):Prop where
 level:0≤g.level∧g.level<256
 number:0≤g.number∧g.number<18446744073709551616
structure Edit where
 log:Int
 next:Int
 seq:Int
 least:Int
 gens:Nat→Int
 add:List Meta
 drop:List Gone
def Edit.cells (e:Edit) (ha hd:Sh):List Value :=
 [.int .u64 e.log,.int .u64 e.next,.int .u64 e.seq,.int .u64 e.least]++(List.range 5).map (fun i=>.int .u64 (e.gens i))++[ha.val e.add.length,hd.val e.drop.length]
def Edit.val (e:Edit) (ha hd:Sh):Value:=.agg (e.cells ha hd).toArray
def u64 (x:Int):Prop:=0≤x∧x<18446744073709551616
structure Edit.wf (e:Edit):Prop where
 log:u64 e.log
 next:u64 e.next
 seq:u64 e.seq
 least:u64 e.least
 gens:∀ i,i<5→u64 (e.gens i)
 add:∀ m∈e.add,m.wf
 drop:∀ g∈e.drop,g.wf
structure EdR (G:PM) (e:Edit) (ha hd:Sh):Prop where
 add:SlR G 40 Meta.cells ha e.add
 drop:SlR G 2 Gone.cells hd e.drop
 wf:e.wf
theorem EdR.mono {G G':PM} {e:Edit} {ha hd:Sh} (h:EdR G e ha hd) (hle:PM.le G G'):EdR G' e ha hd:=⟨h.add.mono hle,h.drop.mono hle,h.wf⟩
def u64N (x:Int):Nat:=(x%18446744073709551616).toNat
theorem u64N_lt (x:Int):u64N x<18446744073709551616:=by unfold u64N; omega
def encM (m:Meta):List Y :=
 numN m.level.toNat++numN m.gen.toNat++numN m.epoch.toNat++numN m.number.toNat++numN (u64N m.size)++numN (u64N m.count)++strL (yb m.min)++strL (yb m.max)++(List.range 32).map fun i=>BitVec.ofInt 8 (m.root i)
def encG (g:Gone):List Y:=numN g.level.toNat++numN g.number.toNat
def numsL (l:List Int):List Y:=l.flatMap fun x=>numN x.toNat
def encE (e:Edit):List Y :=
 numN e.log.toNat++numN e.next.toNat++numN e.seq.toNat++numN e.least.toNat++((List.range 5).flatMap fun i=>numN (e.gens i).toNat)++numN e.add.length++e.add.flatMap encM++numN e.drop.length++e.drop.flatMap encG
theorem or128 (x:Y):(x ||| 128#8).toNat=x.toNat%128+128:=by
 have h:=x.isLt
 have hd:∀ y:Y,(y ||| 128#8).toNat=y.toNat%128+128:=by decide
 exact hd x
theorem num_more {m:BitVec 64} (h:¬ m.toNat<128):numN m.toNat=(m.setWidth 8 ||| 128#8) :: numN (m >>> 7).toNat:=by
 rw [num_big h]
 have e1:BitVec.ofNat 8 (m.toNat%128+128)=m.setWidth 8 ||| 128#8:=by
  apply BitVec.eq_of_toNat_eq
  rw [or128,BitVec.toNat_ofNat,BitVec.toNat_setWidth]
  omega
 have e2:(m >>> 7).toNat=m.toNat / 128:=by rw [BitVec.toNat_ushiftRight,Nat.shiftRight_eq_div_pow]
 rw [e1,e2]
theorem num_last {m:BitVec 64} (h:m.toNat<128):numN m.toNat=[m.setWidth 8]:=by
 rw [num_small h]
 rfl
theorem shr7 (m:BitVec 64):(m >>> 7).toNat=m.toNat / 128:=by rw [BitVec.toNat_ushiftRight,Nat.shiftRight_eq_div_pow]
theorem uvI {x:Int} (h:u64 x):Value.int .u64 x=uv .u64 (BitVec.ofInt 64 x):=by
 unfold u64 at h
 show Value.int .u64 x=Value.int .u64 (((BitVec.ofInt 64 x).toNat:Nat):Int)
 congr 1
 rw [BitVec.toNat_ofInt]
 omega
theorem ofI {x:Int} (h:u64 x):(BitVec.ofInt 64 x).toNat=x.toNat:=by
 unfold u64 at h
 rw [BitVec.toNat_ofInt]; omega
section
variable {P:Program} {G:PM} {μ:Mem}
theorem Ct.give {f:FuncId} {args:Array Value} {b:Nat} {o:Obj} {post:PM→Mem→Value→Prop} (h:PM.le G (G.add b o)→Ct P f args (G.add b o) μ post):Ct P f args G (.blk b o :: μ) post:=by
 intro w hs
 have hk:keys (.blk b o :: μ)=b :: keys μ:=by simp [keys,Res.keys]
 have hnd:=hs.nodup
 rw [hk] at hnd
 have hbμ:=(List.nodup_cons.1 hnd).1
 have hbo:w.heap[b]? = some o:=hs.own _ (List.mem_cons_self ..)
 have hs2:Sat (G.add b o) μ w:=by
  refine ⟨fun c u hc=>?_,fun r hr=>hs.own r (List.mem_cons_of_mem _ hr),fun c hc=>?_,(List.nodup_cons.1 hnd).2⟩
  ·unfold PM.add at hc
   split at hc
   ·rename_i e; subst e; cases hc; exact hbo
   exact hs.sub c u hc
  unfold PM.add
  rw [if_neg (fun (e:c=b)=>hbμ (e▸hc))]
  exact hs.apart c (by rw [hk]; exact List.mem_cons_of_mem _ hc)
 refine (h (PM.le_add (hs.apart b (by simp [keys,Res.keys]))) w hs2).mono ?_
 rintro e w' ⟨v,G',μ',rfl,ht,hQ⟩
 refine ⟨v,G',μ',rfl,⟨ht.sat,ht.os,ht.tape,ht.output,ht.size,fun c hc hK=>?_,fun c hc=>?_,fun c u hK hc=>?_⟩,hQ⟩
 ·rw [hk] at hK
  have hne:c≠b:=fun e=>hK (by rw [e]; exact List.mem_cons_self ..)
  have h1:=ht.old c hc (fun hm=>hK (List.mem_cons_of_mem _ hm))
  refine ⟨h1.1,?_⟩
  rw [h1.2]
  unfold PM.add
  rw [if_neg hne]
 ·rw [hk]
  rcases ht.mine c hc with h1 | h1
  ·exact .inl (List.mem_cons_of_mem _ h1)
  exact .inr h1
 rw [hk] at hK
 have hne:c≠b:=fun e=>hK (by rw [e]; exact List.mem_cons_self ..)
 exact ht.le c u (fun hm=>hK (List.mem_cons_of_mem _ hm)) (by unfold PM.add; rw [if_neg hne]; exact hc)
end
def encQ (x:Int):List Value:=[.int .u64 x]
theorem encQ_map:∀ ns:List Int,ns.flatMap encQ=ns.map (Value.int .u64)
 | []=>rfl
 | x :: ns=>by rw [List.flatMap_cons,encQ_map ns]; rfl
theorem SlR.u1 {G:PM} {s:Sh} {xs:List Int} (h:SlR G 1 encQ s xs) {j:Int} (k:Nat) {x:Int} (hj:j.toNat=k) (hx:xs[k]? = some x):RdP G ⟨s.b,s.o+j.toNat*1,none⟩ (.int .u64 x):=by
 have:=(h.nth k hj hx) 0 _ rfl
 simpa using this
theorem SlR.part {G:PM} {b o cap:Nat} {ns:List Int} {cs:List Value} (hp:RdNP G b 0 cs) (hc:(cs.drop o).take ns.length=ns.flatMap encQ) (h:ns.length≤cap):SlR G 1 encQ ⟨some ⟨b,o,none⟩,cap⟩ ns:=by
 refine ⟨fun _=>rfl,h,fun i x hx j v hj=>?_⟩
 have h0:j=0∧v=.int .u64 x:=by
  cases j with
  | zero=>simp [encQ] at hj; exact ⟨rfl,hj.symm⟩
  | succ j=>simp [encQ] at hj
 obtain ⟨rfl,rfl⟩:=h0
 have hi:i<ns.length:=by
  rcases Nat.lt_or_ge i ns.length with h | h
  ·exact h
  rw [List.getElem?_eq_none h] at hx; cases hx
 have hg:cs[o+i]? = some (.int .u64 x):=by
  have:=congrArg (fun l=>l[i]?) hc
  simp only [encQ_map,List.getElem?_map,hx,List.getElem?_take,if_pos hi,List.getElem?_drop] at this
  exact this
 have:=hp (o+i) (.int .u64 x) hg
 simpa [Sh.b,Sh.o] using this
theorem numsL_snoc {ns:List Int} {k:Nat} {x:Int} (h:ns[k]? = some x):numsL (ns.take (k+1))=numsL (ns.take k)++numN x.toNat:=by
 rw [List.take_add_one,h]; simp [numsL]
theorem numsL_len:∀ {ns:List Int},(∀ x∈ns,u64 x)→(numsL ns).length≤10*ns.length
 | [],_=>by simp [numsL]
 | x :: ns,h=>by
  have h1:=h x (List.mem_cons_self ..)
  unfold u64 at h1
  have h2:=num_len10 (n:=x.toNat) (by omega)
  have h3:=numsL_len (ns:=ns) (fun y hy=>h y (List.mem_cons_of_mem _ hy))
  have:numsL (x :: ns)=numN x.toNat++numsL ns:=by simp [numsL]
  rw [this,List.length_append,List.length_cons]; omega
theorem numsL_take {ns:List Int} (h:∀ x∈ns,u64 x) (k:Nat):(numsL (ns.take k)).length≤10*ns.length:=by
 have h1:=numsL_len (ns:=ns.take k) (fun x hx=>h x (List.mem_of_mem_take hx))
 rw [List.length_take] at h1; omega
def lookM (s:State) (u:ByteArray):Nat→List Meta
 | 0=>[]
 | n+1=>lookM s u n++ovl s (n:Int) u u
theorem ovu_len (s:State) (k:Nat) (u:ByteArray):(ovl s (k:Int) u u).length≤(s.lv k).length:=by
 unfold ovl
 split
 ·exact List.length_filter_le _ _
 ·simp
theorem lookM_len (s:State) (u:ByteArray):∀ n,((lookM s u n).length:Int)≤tot s n
 | 0=>by simp [lookM,tot]
 | n+1=>by
  have h1:=lookM_len s u n
  have h2:=ovu_len s n u
  simp only [lookM,tot,List.length_append]; omega
theorem lookM_row (s:State) (u:ByteArray) (k:Nat) (v:Value) (E:Nat):Res.row v E 40 ((lookM s u k).length+(ovl s (k:Int) u u).length) ((lookM s u k).flatMap Meta.cells++(ovl s (k:Int) u u).flatMap Meta.cells)=Res.row v E 40 (lookM s u (k+1)).length ((lookM s u (k+1)).flatMap Meta.cells):=by
 simp only [lookM,List.length_append,List.flatMap_append]
def nine (g:Nat→Int):List Value:=(List.range 9).map fun i=>.int .u64 (g i)
theorem nine_len (g:Nat→Int):(nine g).length=9:=by simp [nine]
instance {g:Nat→Int}:QLen (nine g) 9:=⟨nine_len g⟩
theorem nine2_len {g:Nat→Int} {a b:Value}:(nine g++[a,b]).length=11:=by rw [List.length_append,nine_len]; rfl
theorem gones1 {g:Gone}:∀ u∈g.cells,u.oneCell'=true:=by
 intro u hu
 simp only [Gone.cells,List.mem_cons,List.not_mem_nil,or_false] at hu
 rcases hu with rfl|rfl<;>rfl
section
variable {P:Program} {n:Fm} {l:List Oper} {K K':Env→PM→Mem→Prop} {dr:Bool} {mc:Md}
theorem Wo.bind1 {i:Nat} {σ:List Nat} {ρ:Env} {G:PM} {μ:Mem} (hm:∀ ρ G μ,K ρ G μ→Wo dr mc P n l K' σ ρ G μ) (H:Wo dr mc P n l K [i] ρ G μ):Wo dr mc P n l K' (i :: σ) ρ G μ:=by
 have h0:∀ {ρ G μ},Wo dr mc P n l K [] ρ G μ→Wo dr mc P n l K' σ ρ G μ:=fun h=>by cases h with | nil h=>exact hm _ _ _ h
 cases H with
 | pure ho hk hg hr h=>exact .pure ho hk hg hr (h0 h)
 | read ho hk hg hr h=>exact .read ho hk hg hr (h0 h)
 | make ho hk hg hr h=>exact .make ho hk hg hr fun b=>h0 (h b)
 | box ho hk hg hr h=>exact .box ho hk hg hr fun b=>h0 (h b)
 | callv ho hk hg hr hf h=>exact .callv ho hk hg hr hf (h0 h)
 | call ho hk hg hr hf h=>exact .call ho hk hg hr hf fun v G' μ' a b=>h0 (h v G' μ' a b)
 | callg hd ho hg hr hf h=>exact .callg hd ho hg hr hf fun v G' μ' a b=>h0 (h v G' μ' a b)
 | callp hd ho hg hp hr hf hx h=>exact .callp hd ho hg hp hr hf hx fun v G' μ' a b=>h0 (h v G' μ' a b)
 | pan hd ho hg hr hx=>exact .pan hd ho hg hr hx
 | fresh ho hk hg hp hr hw h=>exact .fresh ho hk hg hp hr hw fun v G' μa μb a b=>h0 (h v G' μa μb a b)
 | act ho hk hg hp hr h=>exact .act ho hk hg hp hr fun v G' μ' a b=>h0 (h v G' μ' a b)
theorem Wo.cut1 {j:Nat} {σ:List Nat} {ρ:Env} {G:PM} {μ:Mem} (H:Wo dr mc P n l K (j :: σ) ρ G μ):Wo dr mc P n l (fun ρ G μ=>Wo dr mc P n l K σ ρ G μ) [j] ρ G μ:=by
 cases H with
 | pure ho hk hg hr h=>exact .pure ho hk hg hr (.nil h)
 | read ho hk hg hr h=>exact .read ho hk hg hr (.nil h)
 | make ho hk hg hr h=>exact .make ho hk hg hr fun b=>.nil (h b)
 | box ho hk hg hr h=>exact .box ho hk hg hr fun b=>.nil (h b)
 | callv ho hk hg hr hf h=>exact .callv ho hk hg hr hf (.nil h)
 | call ho hk hg hr hf h=>exact .call ho hk hg hr hf fun v G' μ' a b=>.nil (h v G' μ' a b)
 | callg hd ho hg hr hf h=>exact .callg hd ho hg hr hf fun v G' μ' a b=>.nil (h v G' μ' a b)
 | callp hd ho hg hp hr hf hx h=>exact .callp hd ho hg hp hr hf hx fun v G' μ' a b=>.nil (h v G' μ' a b)
 | pan hd ho hg hr hx=>exact .pan hd ho hg hr hx
 | fresh ho hk hg hp hr hw h=>exact .fresh ho hk hg hp hr hw fun v G' μa μb a b=>.nil (h v G' μa μb a b)
 | act ho hk hg hp hr h=>exact .act ho hk hg hp hr fun v G' μ' a b=>.nil (h v G' μ' a b)
def oneOk (mc:Md) (l:List Oper) (listed:Array Bool) (i:Nat):Bool :=
 (rdy l listed).contains i&&match nth l i with
 | some oi=>(kindOf mc oi.op == .pure||kindOf mc oi.op == .read)&&(List.range l.length).all fun j=>listed.getD j true||j == i||match nth l j with
  | some oj=>dep l l.length j i||(oi.apart l.toArray oj&&(kindOf mc oi.op == .pure||kindOf mc oj.op != .act))
  | none=>false
 | none=>false
def Wt (mc:Md) (P:Program) (n:Fm) (l:List Oper) (K:Env→PM→Mem→Prop):Nat→Array Bool→Env→PM→Mem→Prop
 | 0,listed,ρ,G,μ=>rdy l listed=[]∧K ρ G μ
 | m+1,listed,ρ,G,μ=>(∃ i,oneOk mc l listed i=true∧Wo true mc P n l (fun ρ' G' μ'=>Wt mc P n l K m (listed.setIfInBounds i true) ρ' G' μ') [i] ρ G μ) ∨
   (rdy l listed≠[]∧∀ j∈rdy l listed,Wo true mc P n l (fun ρ' G' μ'=>Wt mc P n l K m (listed.setIfInBounds j true) ρ' G' μ') [j] ρ G μ)
theorem Wt.kok (hK:KOk K):∀ (m:Nat) (listed:Array Bool),KOk (fun ρ G μ=>Wt mc P n l K m listed ρ G μ)
 | 0,listed=>⟨fun ρ ρ' G μ e h=>⟨h.1,hK.1 _ _ _ _ e h.2⟩,fun ρ G μ μ' p h=>⟨h.1,hK.2 _ _ _ _ p h.2⟩⟩
 | m+1,listed=>by
  refine ⟨fun ρ ρ' G μ e h=>?_,fun ρ G μ μ' p h=>?_⟩
  ·rcases h with ⟨i,h1,h2⟩ | ⟨h1,h2⟩
   ·exact .inl ⟨i,h1,h2.congr (Wt.kok hK m _) e⟩
   exact .inr ⟨h1,fun j hj=>(h2 j hj).congr (Wt.kok hK m _) e⟩
  rcases h with ⟨i,h1,h2⟩ | ⟨h1,h2⟩
  ·exact .inl ⟨i,h1,h2.perm (Wt.kok hK m _) p⟩
  exact .inr ⟨h1,fun j hj=>(h2 j hj).perm (Wt.kok hK m _) p⟩
def unlN (listed:Array Bool):Nat:=listed.toList.count false
theorem unlN_set {listed:Array Bool} {i:Nat} (h:listed.getD i true=false):unlN (listed.setIfInBounds i true)+1=unlN listed:=by
 rcases Nat.lt_or_ge i listed.size with h' | h'
 ·have h2:listed.toList[i]'(by simpa using h')=false:=by simpa [h'] using h
  unfold unlN
  rw [Array.toList_setIfInBounds,List.count_set (by simpa using h')]
  have hp:0<listed.toList.count false:=List.count_pos_iff.2 (by rw [← h2]; exact List.getElem_mem _)
  rw [if_pos (by rw [h2]; rfl),if_neg (by decide)]
  omega
 ·simp [h'] at h
theorem unlN_pos {listed:Array Bool} {i:Nat} (h:listed.getD i true=false):0<unlN listed:=by
 have:=unlN_set h; omega
theorem oneOk_mono {listed:Array Bool} {i j:Nat} (hne:i≠j) (h:oneOk mc l listed i=true):oneOk mc l (listed.setIfInBounds j true) i=true:=by
 unfold oneOk at h ⊢
 simp only [Bool.and_eq_true] at h ⊢
 obtain ⟨h1,h2⟩:=h
 refine ⟨by simpa using rdy_mono (by simpa using h1) hne,?_⟩
 cases hi:nth l i with
 | none=>rw [hi] at h2; cases h2
 | some oi =>
  simp only [hi,Bool.and_eq_true] at h2 ⊢
  refine ⟨h2.1,List.all_eq_true.2 fun k hk=>?_⟩
  have h3:=List.all_eq_true.1 h2.2 k hk
  by_cases e:j=k
  ·subst e
   have:(listed.setIfInBounds j true).getD j true=true:=by
    rcases Nat.lt_or_ge j listed.size with h' | h'<;>simp [h']
   rw [this]; rfl
  rw [getD_set_ne true e]; exact h3
theorem Wt.front (hK:KOk K) (hs:Region.noSelect l.toArray=true) (hmk:∀ j oj,nth l j=some oj→kindOf mc oj.op=.make→Makes P oj) (hds:∀ j oj,nth l j=some oj→dstOk n oj.dst) :
  ∀ (m:Nat) (listed:Array Bool) (j:Nat) (ρ:Env) (G:PM) (μ:Mem),unlN listed=m+1→Closed l listed→j∈rdy l listed→Wt mc P n l K (m+1) listed ρ G μ→Wo true mc P n l (fun ρ' G' μ'=>Wt mc P n l K m (listed.setIfInBounds j true) ρ' G' μ') [j] ρ G μ
 | m,listed,j,ρ,G,μ,hu,hcl,hj,H=>by
  rcases H with ⟨i,h1,h2⟩ | ⟨_,h2⟩
  ·by_cases e:j=i
   ·subst e; exact h2
   have hi:i∈rdy l listed:=by unfold oneOk at h1; simp only [Bool.and_eq_true] at h1; simpa using h1.1
   have hj':=rdy_mono hj e
   have hiun:=(rdy_iff.1 hi).1
   have hjun:=(rdy_iff.1 hj).1
   have hu1:=unlN_set hiun
   have hjun':(listed.setIfInBounds i true).getD j true=false:=by rw [getD_set_ne true (Ne.symm e)]; exact hjun
   have hp:=unlN_pos hjun'
   obtain ⟨m',rfl⟩ : ∃ m',m=m'+1:=⟨m-1,by omega⟩
   obtain ⟨_,oi,hoi,_⟩:=rdy_iff.1 hi
   obtain ⟨_,oj,hoj,_⟩:=rdy_iff.1 hj
   have h3:Wo true mc P n l (fun ρ' G' μ'=>Wt mc P n l K m' ((listed.setIfInBounds i true).setIfInBounds j true) ρ' G' μ') (i :: [j]) ρ G μ :=
    h2.bind1 fun ρ' G' μ' h=>Wt.front hK hs hmk hds m' (listed.setIfInBounds i true) j ρ' G' μ' (by omega) (hcl.set hi) hj' h
   have hnoe:=not_dep hcl hiun hj l.length
   have hjl:j<l.length:=by
    have:=(nth_eq l j).trans hoj
    exact (by simpa using (Array.getElem?_eq_some_iff.1 this).1)
   have h1':=h1
   unfold oneOk at h1'
   simp only [Bool.and_eq_true,hoi] at h1'
   obtain ⟨_,hki,hall⟩:=h1'
   have h4:=List.all_eq_true.1 hall j (List.mem_range.2 hjl)
   simp only [hjun,hoj,hnoe,Bool.false_or,Bool.or_eq_true,beq_iff_eq,e,false_or,Bool.and_eq_true,bne_iff_ne] at h4
   simp only [Bool.or_eq_true,beq_iff_eq] at hki
   have hkk:kindOf mc oi.op=.pure∨(kindOf mc oi.op=.read∧kindOf mc oj.op≠.act)∨kindOf mc oj.op=.make:=by
    rcases hki with h5 | h5
    ·exact .inl h5
    rcases h4.2 with h6 | h6
    ·exact .inl h6
    exact .inr (.inl ⟨h5,h6⟩)
   have h5:=Wo.swap (Wt.kok hK m' _) rfl hoi hoj (apart_of hs hoi hoj h4.1) hds (hmk j oj hoj) hkk h3
   refine h5.cut1.bind1 fun ρ' G' μ' h=>.nil (.inl ⟨i,oneOk_mono (Ne.symm e) h1,?_⟩)
   rw [Array.setIfInBounds_comm _ _ e]
   exact h
  exact h2 j hj
theorem Wt.any {Q:Exit→Act→World→Prop} {G0:PM} {K0:List Nat} {w0:World} (hK:KOk K) (hs:Region.noSelect l.toArray=true) (hmk:∀ j oj,nth l j=some oj→kindOf mc oj.op=.make→Makes P oj) (hds:∀ j oj,nth l j=some oj→dstOk n oj.dst)
  (hQ:∀ ρ G μ,K ρ G μ→∀ a w,Ag n ρ a→Tr G0 K0 w0 G μ w→Q .normal a w) :
  ∀ (m:Nat) (listed:Array Bool) (ρ:Env) (G:PM) (μ:Mem) (a:Act) (w:World),unlN listed=m→Closed l listed→Wt mc P n l K m listed ρ G μ→Ag n ρ a→Tr G0 K0 w0 G μ w→wpAny P .any l.toArray Q m listed a w
 | 0,listed,ρ,G,μ,a,w,_,_,H,ha,ht=>⟨H.1,hQ _ _ _ H.2 a w ha ht⟩
 | m+1,listed,ρ,G,μ,a,w,hu,hcl,H,ha,ht=>by
  refine ⟨fun h0=>?_,fun j hj=>?_⟩
  ·rcases H with ⟨i,h1,_⟩ | ⟨h1,_⟩
   ·have hi:i∈rdy l listed:=by unfold oneOk at h1; simp only [Bool.and_eq_true] at h1; simpa using h1.1
    unfold rdy at hi
    rw [h0] at hi; cases hi
   exact absurd h0 h1
  have hj':j∈rdy l listed:=hj
  have hu1:=unlN_set (rdy_iff.1 hj').1
  obtain ⟨o,ho,h⟩:=(Wt.front hK hs hmk hds m listed j ρ G μ hu hcl hj' H).head ha ht (next:=wpAny P .any l.toArray Q m (listed.setIfInBounds j true)) (Q:=Q) hds (fun hdr'=>by first|(rw [hdr] at hdr'; cases hdr') | cases hdr')
   (fun ρ' G' μ' a' w' H' ha' ht'=>by cases H' with | nil h=>exact Wt.any hK hs hmk hds hQ m _ ρ' G' μ' a' w' (by omega) (hcl.set hj') h ha' ht')
  simp only [wpOp,nth_eq,ho]
  split
  ·rename_i hw; rw [if_pos hw] at h; exact .inl h
  rename_i hw; rw [if_neg hw] at h; exact h
def mixOk (P:Program) (n:Nat) (l:List Oper):Bool:=Region.noSelect l.toArray&&(l.all fun o=>match o.dst with | some d=>decide (d<n) | none=>true)&&allocOk P l
theorem Wk.mix {X:Cx} {k:List KI} {id:Nat} {ρ:Env} {G:PM} {μ:Mem} (mc:Md) (hm:X.P.follows .mixedOrders=true) (hok:mixOk X.P X.n.n l=true)
  (h:Wt mc X.P X.n l (fun ρ G μ=>We X .normal k ρ G μ) l.length (Array.replicate l.length false) ρ G μ):Wk X (.region id l.toArray true) k ρ G μ:=by
 simp only [mixOk,Bool.and_eq_true] at hok
 obtain ⟨⟨h1,h2⟩,h3⟩:=hok
 refine ⟨fun a w ha ht=>wp_region_any hm ?_⟩
 have hu:unlN (Array.replicate l.length false)=l.length:=by simp [unlN]
 have:=Wt.any (Q:=Qof X k) (We.kok .normal) h1 (fun j oj hj hk=>makes_of hk (List.all_eq_true.1 h3 oj (mem_of_nth hj)))
  (fun j oj hj=>by
   have:=List.all_eq_true.1 h2 oj (mem_of_nth hj)
   cases hd:oj.dst with
   | none=>trivial
   | some d=>rw [hd] at this; show d<X.n.n; exact of_decide_eq_true this) (fun _ _ _ h a w ha ht=>h.out a w ha ht) l.length _ ρ G μ a _ hu (Closed.none l.length) h ha ht.drew
 simpa using this
variable {ρ:Env} {G:PM} {μ:Mem} {m:Nat} {listed:Array Bool}
theorem Wt.last (hr:rdy l listed=[]) (h:K ρ G μ):Wt mc P n l K 0 listed ρ G μ:=⟨hr,h⟩
theorem Wt.one (i:Nat) (hc:oneOk mc l listed i=true) (h:Wo true mc P n l (fun ρ' G' μ'=>Wt mc P n l K m (listed.setIfInBounds i true) ρ' G' μ') [i] ρ G μ):Wt mc P n l K (m+1) listed ρ G μ:=.inl ⟨i,hc,h⟩
theorem Wt.b1 (j:Nat) (hr:rdy l listed=[j]) (h:Wo true mc P n l (fun ρ' G' μ'=>Wt mc P n l K m (listed.setIfInBounds j true) ρ' G' μ') [j] ρ G μ):Wt mc P n l K (m+1) listed ρ G μ :=
 .inr ⟨by rw [hr]; simp,fun j' hj'=>by rw [hr] at hj'; obtain rfl:=List.mem_singleton.1 hj'; exact h⟩
theorem Wt.b2 (j j2:Nat) (hr:rdy l listed=[j,j2]) (h:Wo true mc P n l (fun ρ' G' μ'=>Wt mc P n l K m (listed.setIfInBounds j true) ρ' G' μ') [j] ρ G μ)
  (h2:Wo true mc P n l (fun ρ' G' μ'=>Wt mc P n l K m (listed.setIfInBounds j2 true) ρ' G' μ') [j2] ρ G μ):Wt mc P n l K (m+1) listed ρ G μ :=
 .inr ⟨by rw [hr]; simp,fun j' hj'=>by
  rw [hr] at hj'
  rcases List.mem_cons.1 hj' with rfl | hj'
  ·exact h
  ·obtain rfl:=List.mem_singleton.1 hj'; exact h2⟩
end
section
variable {dr:Bool} {mc:Md} {P:Program} {n:Fm} {l:List Oper} {K:Env→PM→Mem→Prop} {i:Nat} {σ:List Nat} {ρ:Env} {G:PM} {μ:Mem}
variable {d t:Nat} {p:String} {af:Array Edge} {g:Option (Nat×Bool)} {c:Bool}
theorem bSf {T E sz by' len:Nat} {ps:List (Nat×Operand)} {vs:List (Nat×Value)} {cs:List Value} (ho:nth l i=some ⟨some d,.buildSlice T len ps.toArray,t,p,af,none⟩) (hT:slE P T=some (E,sz,by')) (hv:∀ a,Ag n ρ a→true=true→ps.map (fun q=>(q.1,a.eval q.2))=vs) (hb:builtSl P T len vs=some cs)
  (h:∀ b G',PM.le G G'→PB G' b (cl cs E)→Wo dr mc P n l K σ ((d,true,.slice (some ⟨b,0,none⟩) len len) :: ρ) G' μ):Wo dr mc P n l K (i :: σ) ρ G μ:=by
 refine .fresh (μ₁:=[]) (μ₂:=μ) (post:=fun G' μa μb v=>μa=[]∧μb=[]∧∃ b,v=.slice (some ⟨b,0,none⟩) len len∧PB G' b (cl cs E)) ho (.inl rfl) rfl (List.Perm.refl _) (fun a w ha hs=>?_) ?_ ?_
 ·have hrun:(execOp a.eval ⟨some d,.buildSlice T len ps.toArray,t,p,af,none⟩).run P w=.ok (.value (.slice (some ⟨w.heap.size,0,none⟩) len len)) (w.alloc (cl cs E)):=by
   obtain ⟨hu,inf,hi,hs1,_⟩:=slE_some hT
   have h1:=hv a ha rfl
   simp only [builtSl,hu,hi] at hb
   cases hz:inf.zero with
   | none=>rw [hz] at hb; cases hb
   | some z =>
    rw [hz] at hb
    simp only at hb
    split at hb
    ·cases hb
    rename_i hle
    simp only [not_or] at hle
    obtain ⟨hle,h0⟩:=hle
    cases hf:Instr.fill (fun j=>some (j*inf.size,inf.size)) ((Array.range (len*inf.size)).map (z.cells[·%z.cells.size]!)) vs with
    | none=>rw [hf] at hb; cases hb
    | some r =>
     rw [hf] at hb
     simp only [Option.map_some,Option.some.injEq] at hb
     subst hb
     simp [execOp,Instr.buildSlice,run_underlying hu,sizeOf,typeInfo,hi,h0,hle,zeroValue,hz,hf,h1,newRow,cl]
  have hs0:Sat G [] w:=⟨hs.sub,by simp,by simp [keys],by simp [keys]⟩
  have ht:=((Tr.begin hs0).alloc (cl cs E)).freeze (by simp [keys])
  exact ⟨_,_,_,[],[],hrun,ht,rfl,rfl,_,rfl,⟨PM.add_same _ _ _⟩⟩
 ·rintro v G' μa μb ⟨rfl,rfl,_⟩
  exact ⟨(fun w _ r hr=>by cases hr),(fun b hb=>by cases hb),by simp [keys]⟩
 rintro v G' μa μb hle ⟨rfl,rfl,b,rfl,hb⟩
 have:=h b G' hle hb
 simp only [List.nil_append,List.append_nil]
 exact this
theorem PB.slq {b cap:Nat} {ns:List Int} {T:TypeId} (h:PB G b (cl (ns.map (Value.int .u64)) T)) (hc:ns.length≤cap):SlR G 1 encQ ⟨some ⟨b,0,none⟩,cap⟩ ns:=by
 refine ⟨fun _=>rfl,hc,fun i x hx j v hj=>?_⟩
 have h0:j=0∧v=.int .u64 x:=by
  cases j with
  | zero=>simp [encQ] at hj; exact ⟨rfl,hj.symm⟩
  | succ j=>simp [encQ] at hj
 obtain ⟨rfl,rfl⟩:=h0
 have:=h.rd (o:=i) (v:=.int .u64 x) (by rw [List.getElem?_map,hx]; rfl)
 simpa [Sh.b,Sh.o] using this
theorem bQ {T E by' len:Nat} {ps:List (Nat×Operand)} {us:List Value} {z:Value} (ns:List Int) (ho:nth l i=some ⟨some d,.buildSlice T len ps.toArray,t,p,af,none⟩) (hT:slE P T=some (E,1,by')) (hz:(P.info? E).bind (·.zero)=some z) (hv:∀ a,Ag n ρ a→true=true→ps.map (fun q=>(q.1,a.eval q.2))=parts 0 us) (hus:us=ns.map (Value.int .u64)) (hl:ns.length=len) (h0:0<len∧len≤16777216)
  (h:∀ G' s,PM.le G G'→SlR G' 1 encQ s ns→Wo dr mc P n l K σ ((d,true,s.val ns.length) :: ρ) G' μ):Wo dr mc P n l K (i :: σ) ρ G μ:=by
 subst hus
 refine bSf (vs:=parts 0 (ns.map (Value.int .u64))) (cs:=ns.map (Value.int .u64)) ho hT hv ?_ (fun b G' hle hb=>?_)
 ·obtain ⟨hu,inf,hi,hs1,_⟩:=slE_some hT
  rw [hi] at hz
  simp only [Option.bind_some] at hz
  simp only [builtSl,hu,hi,hz,hs1]
  rw [if_neg (by omega)]
  generalize ha:(Array.range (len*1)).map (z.cells[·%z.cells.size]!)=arr
  have hs:arr.toList.length=len:=by rw [← ha]; simp
  have h2:=fill_parts (ns.map (Value.int .u64)) 0 arr.toList (fun u hu=>by obtain ⟨x,_,rfl⟩:=List.mem_map.1 hu; rfl) (by rw [List.length_map]; omega)
  simp only [Array.toArray_toList] at h2
  rw [h2]
  have h3:arr.toList.drop (0+(ns.map (Value.int .u64)).length)=[]:=List.drop_of_length_le (by rw [List.length_map]; omega)
  rw [h3]
  simp
 have:=h G' ⟨some ⟨b,0,none⟩,len⟩ hle (hb.slq (by omega))
 rw [Sh.val,hl] at this
 exact this
end
theorem q1 {a:Int} (h:u64 a):∀ x∈[a],u64 x:=by intro x hx; rw [List.mem_singleton.1 hx]; exact h
theorem q2 {a b:Int} (h:u64 a) (h2:u64 b):∀ x∈[a,b],u64 x:=by
 intro x hx; simp only [List.mem_cons,List.not_mem_nil,or_false] at hx; rcases hx with rfl|rfl<;>assumption
theorem q4 {a b c d:Int} (h:u64 a) (h2:u64 b) (h3:u64 c) (h4:u64 d):∀ x∈[a,b,c,d],u64 x:=by
 intro x hx; simp only [List.mem_cons,List.not_mem_nil,or_false] at hx; rcases hx with rfl|rfl|rfl|rfl<;>assumption
theorem q6 {a b c d e f:Int} (h:u64 a) (h2:u64 b) (h3:u64 c) (h4:u64 d) (h5:u64 e) (h6:u64 f):∀ x∈[a,b,c,d,e,f],u64 x:=by
 intro x hx; simp only [List.mem_cons,List.not_mem_nil,or_false] at hx; rcases hx with rfl|rfl|rfl|rfl|rfl|rfl<;>assumption
theorem u64_len {n:Nat} (h:n<18446744073709551616):u64 (n:Int):=⟨by omega,by omega⟩
theorem wrap_q (x:Int):(IntKind.u64.wrap x).toNat=u64N x:=by
 unfold u64N IntKind.wrap
 simp [IntKind.signed,IntKind.bits]
theorem u64_wrap (x:Int):u64 (IntKind.u64.wrap x):=by
 unfold u64 IntKind.wrap
 simp [IntKind.signed,IntKind.bits]; omega
theorem u64_6 {m:Meta} (h:m.wf):∀ x∈[m.level,m.gen,m.epoch,m.number,IntKind.u64.wrap m.size,IntKind.u64.wrap m.count],u64 x:=by
 have l1:=h.level; have l2:=h.gen; have l3:=h.epoch; have l4:=h.number
 exact q6 ⟨by omega,by omega⟩ ⟨by omega,by omega⟩ ⟨by omega,by omega⟩ ⟨by omega,by omega⟩ (u64_wrap _) (u64_wrap _)
def gensL (e:Edit):List Int:=(List.range 5).map e.gens
theorem gens_u {e:Edit} (h:e.wf):∀ x∈gensL e,u64 x:=by
 intro x hx
 obtain ⟨i,hi,rfl⟩:=List.mem_map.1 hx
 exact h.gens i (List.mem_range.1 hi)
theorem gens_sl {G:PM} {e:Edit} {ha hd:Sh} {b:Nat} {T:TypeId} (h:PB G b (cl (e.cells ha hd) T)):SlR G 1 encQ ⟨some ⟨b,4,none⟩,5⟩ (gensL e):=by
 refine SlR.part (cs:=e.cells ha hd) (fun j v hj=>?_) rfl (Nat.le_refl 5)
 have:=h.rd hj
 simpa using this
theorem meta_ba {m:Meta} (h:m.wf):(m.cells.drop 8).take 32=ba 32 (fun i=>BitVec.ofInt 8 (m.root i)):=by
 have e:m.cells.drop 8=(List.range 32).map fun i=>.int .u8 (m.root i):=rfl
 rw [e,List.take_of_length_le (by simp)]
 unfold ba
 refine List.map_congr_left fun i hi=>?_
 have hr:=h.root i (List.mem_range.1 hi)
 show Value.int .u8 (m.root i)=V (BitVec.ofInt 8 (m.root i))
 have e2:(((BitVec.ofInt 8 (m.root i)).toNat:Nat):Int)=m.root i:=by rw [BitVec.toNat_ofInt]; omega
 show Value.int .u8 (m.root i)=Value.int .u8 (((BitVec.ofInt 8 (m.root i)).toNat:Nat):Int)
 rw [e2]
theorem numsL_nil:numsL []=[]:=rfl
theorem numsL_cons (x:Int) (ns:List Int):numsL (x :: ns)=numN x.toNat++numsL ns:=by simp [numsL]
theorem encM_eq (m:Meta) (A:List Y):A++numsL [m.level,m.gen,m.epoch,m.number,IntKind.u64.wrap m.size,IntKind.u64.wrap m.count]++strL (yb m.min)++strL (yb m.max)++yl 32 (fun i=>BitVec.ofInt 8 (m.root i))=A++encM m:=by
 unfold encM
 simp only [numsL_cons,numsL_nil,wrap_q,List.append_assoc,List.append_nil]
 rfl
theorem encG_eq (g:Gone) (A:List Y):A++numsL [g.level,g.number]=A++encG g:=by
 unfold encG
 simp only [numsL_cons,numsL_nil,List.append_nil]
theorem encE_eq (e:Edit):numsL [e.log,e.next,e.seq,e.least]++numsL (gensL e)++numsL [(e.add.length:Int)]++e.add.flatMap encM++numsL [(e.drop.length:Int)]++e.drop.flatMap encG=encE e:=by
 have h:numsL (gensL e)=(List.range 5).flatMap fun i=>numN (e.gens i).toNat:=by unfold numsL gensL; rw [List.flatMap_map]
 unfold encE
 rw [h]
 simp only [numsL_cons,numsL_nil,List.append_assoc,List.append_nil,Int.toNat_natCast]
theorem flat_snoc {α β:Type} {f:α→List β} {xs:List α} {k:Nat} {x:α} (h:xs[k]? = some x):(xs.take (k+1)).flatMap f=(xs.take k).flatMap f++f x:=by
 rw [List.take_add_one,h]; simp
theorem flat_take {α β:Type} {f:α→List β} {xs:List α} {k:Nat} {x:α} (h:xs[k]? = some x):((xs.take k).flatMap f).length+(f x).length≤(xs.flatMap f).length:=by
 have h1:xs.flatMap f=(xs.take (k+1)).flatMap f++(xs.drop (k+1)).flatMap f:=by rw [← List.flatMap_append,List.take_append_drop]
 rw [h1,flat_snoc h]; simp only [List.length_append]; omega
theorem flat_take_le {α β:Type} {f:α→List β} {xs:List α} (k:Nat):((xs.take k).flatMap f).length≤(xs.flatMap f).length:=by
 have h1:xs.flatMap f=(xs.take k).flatMap f++(xs.drop k).flatMap f:=by rw [← List.flatMap_append,List.take_append_drop]
 rw [h1]; simp only [List.length_append]; omega
theorem strL_len {xs:List Y} (h:xs.length<18446744073709551616):(strL xs).length≤xs.length+10:=by
 have:=num_len10 h
 unfold strL; rw [List.length_append]; omega
theorem strL_ge (xs:List Y):xs.length≤(strL xs).length:=by unfold strL; rw [List.length_append]; omega
theorem encM_ge (m:Meta):m.min.size+m.max.size≤(encM m).length:=by
 have h1:=strL_ge (yb m.min); have h2:=strL_ge (yb m.max)
 rw [yb_len] at h1 h2
 unfold encM
 simp only [List.length_append]; omega
theorem encG_len {g:Gone} (h:g.wf):(encG g).length≤20:=by
 have h1:=h.level; have h2:=h.number
 have n1:=num_len10 (n:=g.level.toNat) (by omega); have n2:=num_len10 (n:=g.number.toNat) (by omega)
 unfold encG; rw [List.length_append]; omega
theorem gonesL {gs:List Gone} (h:∀ g∈gs,g.wf):(gs.flatMap encG).length≤20*gs.length:=by
 induction gs with
 | nil=>simp
 | cons g gs ih =>
  have h1:=encG_len (h g (List.mem_cons_self ..))
  have h2:=ih fun x hx=>h x (List.mem_cons_of_mem _ hx)
  rw [List.flatMap_cons,List.length_append,List.length_cons]; omega
def beforeB (s:State) (e:Edit):Bool:=((List.range 5).any fun i=>decide (e.gens i<s.gens i))||(((decide (e.log<s.log)||decide (e.next<s.next))||decide (e.seq<s.seq))||decide (e.least<s.least))
theorem bef_yes {s:State} {e:Edit} {i:Nat} (hi:i<5) (h:e.gens i<s.gens i):beforeB s e=true:=by
 unfold beforeB
 rw [List.any_eq_true.2 ⟨i,List.mem_range.2 hi,by simpa using h⟩]; rfl
theorem bef_no {s:State} {e:Edit} (h:∀ i,i<5→¬ e.gens i<s.gens i):beforeB s e=(((decide (e.log<s.log)||decide (e.next<s.next))||decide (e.seq<s.seq))||decide (e.least<s.least)):=by
 unfold beforeB
 rw [show ((List.range 5).any fun i=>decide (e.gens i<s.gens i))=false from List.any_eq_false.2 (fun i hi=>by simpa using h i (List.mem_range.1 hi)),Bool.false_or]
theorem State.len {s:State} {hd:Nat→Sh}:(s.cells hd).length=14:=by simp [State.cells]
theorem State.one' {s:State} {hd:Nat→Sh}:∀ u∈s.cells hd,u.oneCell'=true:=by
 intro u hu
 simp only [State.cells,List.mem_append,List.mem_map,List.mem_cons,List.not_mem_nil,or_false] at hu
 rcases hu with (⟨i,_,rfl⟩ | (rfl|rfl|rfl|rfl)) | ⟨i,_,rfl⟩<;>rfl
theorem Edit.len {e:Edit} {ha hd:Sh}:(e.cells ha hd).length=11:=by simp [Edit.cells]
theorem Edit.one' {e:Edit} {ha hd:Sh}:∀ u∈e.cells ha hd,u.oneCell'=true:=by
 intro u hu
 simp only [Edit.cells,List.mem_append,List.mem_map,List.mem_cons,List.not_mem_nil,or_false] at hu
 rcases hu with ((rfl|rfl|rfl|rfl) | ⟨i,_,rfl⟩) | (rfl|rfl)<;>rfl
theorem gens_at {e:Edit} {j:Int} {k:Nat} (hj:j.toNat=k) (h:k<5):((List.range 5).map (fun i=>Value.int .u64 (e.gens i)))[j.toNat]? = some (.int .u64 (e.gens k)):=by
 subst hj
 simp [h]
instance {s:State} {hd:Nat→Sh}:QLen (s.cells hd) 14:=⟨State.len⟩
instance {e:Edit} {ha hd:Sh}:QLen (e.cells ha hd) 11:=⟨Edit.len⟩
theorem u8_lt {a b:UInt8}:(a<b)↔a.toNat<b.toNat:=UInt8.lt_iff_toNat_lt
theorem bl_irr:∀ (x:List UInt8),Op.bytesLess x x=false
 | []=>rfl
 | a :: x=>by
  have h:¬ a<a:=by rw [u8_lt]; omega
  simp [Op.bytesLess,h,bl_irr x]
theorem bl_trans:∀ {x y z:List UInt8},Op.bytesLess x y=true→Op.bytesLess y z=true→Op.bytesLess x z=true
 | [],[],_,h,_=>by simp [Op.bytesLess] at h
 | [],_ :: _,[],_,h=>by simp [Op.bytesLess] at h
 | [],_ :: _,_ :: _,_,_=>by simp [Op.bytesLess]
 | _ :: _,[],_,h,_=>by simp [Op.bytesLess] at h
 | _ :: _,_ :: _,[],_,h=>by simp [Op.bytesLess] at h
 | a :: x,b :: y,c :: z,h,h'=>by
  simp only [Op.bytesLess,Bool.or_eq_true,Bool.and_eq_true,decide_eq_true_eq,beq_iff_eq] at h h' ⊢
  rcases h with h | ⟨rfl,h⟩
  ·rcases h' with h' | ⟨rfl,_⟩
   ·left; rw [u8_lt] at *; omega
   ·exact .inl h
  ·rcases h' with h' | ⟨rfl,h'⟩
   ·exact .inl h'
   ·exact .inr ⟨rfl,bl_trans h h'⟩
theorem bl_tri:∀ (x y:List UInt8),Op.bytesLess x y=true∨x=y∨Op.bytesLess y x=true
 | [],[]=>.inr (.inl rfl)
 | [],_ :: _=>.inl (by simp [Op.bytesLess])
 | _ :: _,[]=>.inr (.inr (by simp [Op.bytesLess]))
 | a :: x,b :: y=>by
  simp only [Op.bytesLess,Bool.or_eq_true,Bool.and_eq_true,decide_eq_true_eq,beq_iff_eq,List.cons.injEq]
  have hab:a.toNat<b.toNat∨a=b∨b.toNat<a.toNat:=by
   rcases Nat.lt_trichotomy a.toNat b.toNat with h | h | h
   ·exact .inl h
   ·exact .inr (.inl (UInt8.toNat_inj.1 h))
   ·exact .inr (.inr h)
  rcases hab with h|rfl | h
  ·exact .inl (.inl (u8_lt.2 h))
  ·rcases bl_tri x y with h|rfl | h
   ·exact .inl (.inr ⟨rfl,h⟩)
   ·exact .inr (.inl ⟨rfl,rfl⟩)
   ·exact .inr (.inr (.inr ⟨rfl,h⟩))
  ·exact .inr (.inr (.inl (u8_lt.2 h)))
theorem bytes_inj {a b:ByteArray} (h:a.toList=b.toList):a=b:=by
 rw [ByteArray.toList_eq,ByteArray.toList_eq] at h
 cases a with | mk a=>cases b with | mk b =>
 congr 1
 exact Array.toList_inj.1 h
theorem lt_irr (a:ByteArray):lt a a=false:=bl_irr _
theorem lt_tr {a b c:ByteArray} (h:lt a b=true) (h':lt b c=true):lt a c=true:=bl_trans h h'
theorem lt_tri (a b:ByteArray):lt a b=true∨a=b∨lt b a=true:=by
 rcases bl_tri a.toList b.toList with h | h | h
 ·exact .inl h
 ·exact .inr (.inl (bytes_inj h))
 ·exact .inr (.inr h)
theorem lt_as {a b:ByteArray} (h:lt a b=true):lt b a=false:=by
 cases h':lt b a with
 | false=>rfl
 | true=>have:=lt_tr h h'; rw [lt_irr] at this; cases this
theorem le_not (a b:ByteArray):le a b = !lt b a:=by
 have e:le a b=(lt a b||a.toList == b.toList):=rfl
 rw [e]
 rcases lt_tri a b with h|rfl | h
 ·rw [h,lt_as h]; rfl
 ·rw [lt_irr]; simp
 ·rw [h,lt_as h]
  have hne:(a.toList == b.toList)=false:=by
   rw [beq_eq_false_iff_ne]
   intro e
   rw [bytes_inj e,lt_irr] at h; cases h
  rw [hne]; rfl
structure Ent where
 user:ByteArray
 seq:BitVec 64
 kind:Y
 value:ByteArray
def Ent.cells (e:Ent):List Value:=[.string e.user,uv .u64 e.seq,V e.kind,.string e.value]
def Ent.val (e:Ent):Value:=.agg e.cells.toArray
def Ent.zero:Ent:=⟨ByteArray.empty,0,0,ByteArray.empty⟩
theorem Ent.len (e:Ent):e.cells.length=4:=rfl
theorem Ent.one (e:Ent):∀ u∈e.cells,u.oneCell'=true:=by
 intro u hu
 simp only [Ent.cells,List.mem_cons,List.not_mem_nil,or_false] at hu
 rcases hu with rfl|rfl|rfl|rfl<;>rfl
def rightE (e:Ent):Bool:=(decide ((e.user.size:Int)≤1024)&&decide ((e.value.size:Int)≤65536))&&decide (e.seq.toNat≤72057594037927935)&&(if e.kind=0#8 then e.value.toList == [] else decide (e.kind=1#8))
def aheadE (a b:Ent):Bool:=lt a.user b.user||(a.user.toList == b.user.toList&&decide (b.seq.toNat<a.seq.toNat))
noncomputable def risesE (l:List Ent):Bool:=B (∀ i,i+1<l.length→aheadE (l.getD i Ent.zero) (l.getD (i+1) Ent.zero)=true)
theorem risesE_no {l:List Ent} {i:Nat} (h:i+1<l.length) (ha:aheadE (l.getD i Ent.zero) (l.getD (i+1) Ent.zero)=false):risesE l=false:=B_false fun hB=>by rw [hB i h] at ha; cases ha
theorem flat_tk {α:Type} {enc:α→List Value} {sz:Nat}:∀ {xs:List α} {q:Nat},(∀ y∈xs,(enc y).length=sz)→(xs.take q).flatMap enc=(xs.flatMap enc).take (q*sz)
 | [],q,_=>by simp
 | x :: xs,0,_=>by simp
 | x :: xs,q+1,h=>by
  have hx:=h x (List.mem_cons_self ..)
  rw [List.take_succ_cons,List.flatMap_cons,List.flatMap_cons,show (q+1)*sz=(enc x).length+q*sz by rw [hx,Nat.succ_mul]; omega,List.take_length_add_append,flat_tk (fun y hy=>h y (List.mem_cons_of_mem _ hy))]
section
variable {dr:Bool} {mc:Md} {P:Program} {n:Fm} {l:List Oper} {K:Env→PM→Mem→Prop} {i:Nat} {σ:List Nat} {ρ:Env} {G:PM} {μ:Mem}
variable {d t:Nat} {p:String} {af:Array Edge} {g:Option (Nat×Bool)} {c:Bool}
theorem sr1 {T T':TypeId} {x y:Operand} {k k':IntKind} {a1 a2:Int} (A:Nat) (ho:nth l i=some ⟨some d,.binOp .shr T x y T',t,p,af,g⟩) (hg:Gd l ρ g c) (hx:Ev ρ c x (.int k a1)) (hy:Ev ρ c y (.int k' a2)) (e1:a1=A) (e2:a2=1) (hk:1≤k.bits)
  (h:Wo dr mc P n l K σ ((d,c,.int k ((A / 2:Nat):Int)) :: ρ) G μ):Wo dr mc P n l K (i :: σ) ρ G μ:=by
 subst e1; subst e2
 refine sr ho hg hx hy (fun _=>by decide) ?_
 have e:(A:Int).fdiv (2^(min (1:Int).toNat k.bits))=((A / 2:Nat):Int):=by
  have:min (1:Int).toNat k.bits=1:=by show min 1 k.bits=1; omega
  rw [this,Int.pow_one,Int.fdiv_eq_ediv_of_nonneg _ (by decide)]
  rfl
 rw [e]; exact h
theorem srh {T e sz by':Nat} {x z:Operand} {b m cap:Nat} {k:IntKind} {hi:Int} (q:Nat) (ho:nth l i=some ⟨some d,.slice T x none (some z) none,t,p,af,none⟩) (hT:slE P T=some (e,sz,by')) (hx:Ev ρ true x (.slice (some ⟨b,0,none⟩) m cap)) (hz:Ev ρ true z (.int k hi))
  (hq:hi=q) (h1:q≤cap) (h:Wo dr mc P n l K σ ((d,true,.slice (some ⟨b,0,none⟩) q cap) :: ρ) G μ):Wo dr mc P n l K (i :: σ) ρ G μ:=by
 subst hq
 exact se (s:=⟨some ⟨b,0,none⟩,cap⟩) (m:=m) ho .no hT hx hz (fun _=>by omega) (fun _=>by show (q:Int)≤cap; omega) (by rw [Int.toNat_natCast]; exact h)
end
theorem Ct.lendS {α:Type} {enc:α→List Value} {sz:Nat} {P:Program} {G:PM} {μ:Mem} {f:FuncId} {args:Array Value} {E:Nat} {v:Value} {xs:List α} {Q:Mem→Value→Prop} (hsz:∀ x∈xs,(enc x).length=sz)
  (h:∀ (s:Sh) (G2:PM),PM.le G G2→v=s.val xs.length→SlR G2 sz enc s xs→Ct P f args G2 μ (fun _ μ' u=>Q μ' u)):Ct P f args G (rS sz enc v E xs :: μ) (fun _ μ' u=>∃ ν,μ'=rS sz enc v E xs :: ν∧Q ν u):=by
 intro w hs
 have hrow:w.ownsRow 0 E sz v xs.length (xs.flatMap enc):=hs.own _ (List.mem_cons_self ..)
 have hnd:=hs.nodup
 rcases hrow.2 with ⟨rfl,h0⟩ | ⟨g,cap,cur,rfl,_,hg,hnc,hcm,hcs,htake⟩
 ·have hx:xs=[]:=List.eq_nil_of_length_eq_zero h0
  subst hx
  have hk:keys (rS sz enc (.slice none 0 0) E ([]:List α) :: μ)=keys μ:=by simp [keys,Res.keys,Value.ownBlock]
  have hs2:Sat G μ w:=⟨hs.sub,fun r hr=>hs.own r (List.mem_cons_of_mem _ hr),by rw [← hk]; exact hs.apart,by rw [← hk]; exact hs.nodup⟩
  refine (h ⟨none,0⟩ G (PM.le.refl G) rfl SlR.nul w hs2).mono ?_
  rintro e w' ⟨u,G',μ',rfl,ht,hQ⟩
  refine ⟨u,G',_,rfl,?_,μ',rfl,hQ⟩
  rw [hk]; exact ht.nilRow
 have hk:keys (rS sz enc (.slice (some ⟨g,0,none⟩) xs.length cap) E xs :: μ)=keys (.blk g (.cells cur E (0,0)) :: μ):=by simp [keys,Res.keys,Value.ownBlock]
 have hs2:Sat G (.blk g (.cells cur E (0,0)) :: μ) w:=by
  refine ⟨hs.sub,fun r hr=>?_,by rw [← hk]; exact hs.apart,by rw [← hk]; exact hs.nodup⟩
  rcases List.mem_cons.1 hr with rfl | hr
  ·exact hg
  exact hs.own r (List.mem_cons_of_mem _ hr)
 have hGg:G g=none:=hs2.apart g (by simp [keys,Res.keys])
 have hsl:SlR (G.add g (.cells cur E (0,0))) sz enc ⟨some ⟨g,0,none⟩,cap⟩ xs:=by
  refine SlR.ofRow hsz hnc (fun _=>rfl) ?_
  intro j u hj w' hs'
  show w'.cell? ⟨g,0+j,none⟩=some u
  rw [Nat.zero_add,cell_of_row w' g j cur E (0,0) (hs' g _ (PM.add_same G g _))]
  rw [← htake,List.getElem?_take] at hj
  split at hj
  ·simpa using hj
  cases hj
 refine (Ct.lend (h ⟨some ⟨g,0,none⟩,cap⟩ _ (PM.le_add hGg) rfl hsl) w hs2).mono ?_
 rintro e w' ⟨u,G',μ',rfl,ht,ν,rfl,hQ⟩
 refine ⟨u,G',_,rfl,?_,ν,rfl,hQ⟩
 rw [hk]
 exact ht.asRow (flat_len hsz) hnc hcm hcs htake
abbrev Nd:=Ent×(Nat→Nat)
def Nd.cells (x:Nd):List Value:=x.1.cells++(List.range 12).map fun k=>.int .i64 (x.2 k:Int)
def Nd.z:Nd:=(Ent.zero,fun _=>0)
theorem Nd.len (x:Nd):x.cells.length=16:=rfl
theorem Nd.one (x:Nd):∀ u∈x.cells,u.oneCell'=true:=by
 intro u hu
 rcases List.mem_append.1 hu with h | h
 ·exact x.1.one u h
 ·obtain ⟨k,_,rfl⟩:=List.mem_map.1 h; rfl
def nxt (xs:List Nd) (a k:Nat):Nat:=(xs.getD a Nd.z).2 k
def aheadK (e:Ent) (u:ByteArray) (q:BitVec 64):Bool:=lt e.user u||(e.user.toList == u.toList&&decide (q.toNat<e.seq.toNat))
def stopN (xs:List Nd) (u:ByteArray) (q:BitVec 64) (a k:Nat):Prop:=nxt xs a k=0∨aheadK (xs.getD (nxt xs a k) Nd.z).1 u q=false
structure WayN (xs:List Nd) (u:ByteArray) (q:BitVec 64) (w:Nat→Nat):Prop where
 top:w 12=0
 lt:∀ k,k≤12→w k<xs.length
 step:∀ k,k<12→(w k=w (k+1)∧stopN xs u q (w (k+1)) k)∨(w k=nxt xs (w (k+1)) k∧0<nxt xs (w (k+1)) k∧aheadK (xs.getD (nxt xs (w (k+1)) k) Nd.z).1 u q=true∧stopN xs u q (w k) k)
 inb:∀ a,a<xs.length→∀ k,k<12→nxt xs a k<xs.length
def nsL (x:Nd) (k v:Nat):Nd:=(x.1,fun j=>if j=k then v else x.2 j)
def lnkA (last:Nat→Nat) (fresh:Nat) (xs:List Nd) (k:Nat):List Nd:=xs.set fresh (nsL (xs.getD fresh Nd.z) k (nxt xs (last k) k))
def lnkB (last:Nat→Nat) (fresh:Nat) (ys:List Nd) (k:Nat):List Nd:=ys.set (last k) (nsL (ys.getD (last k) Nd.z) k fresh)
def lnkN (last:Nat→Nat) (fresh:Nat) (xs:List Nd):Nat→List Nd
 | 0=>xs
 | k+1=>lnkB last fresh (lnkA last fresh (lnkN last fresh xs k) k) k
theorem lnkN_len {last:Nat→Nat} {fresh:Nat} {xs:List Nd}:∀ {k:Nat},(lnkN last fresh xs k).length=xs.length
 | 0=>rfl
 | k+1=>by simp only [lnkN,lnkA,lnkB,List.length_set]; exact lnkN_len
theorem flat_setc {α:Type} {enc:α→List Value} {sz q:Nat} {v:Value} {u:α}:∀ {xs:List α} {k:Nat} {x:α},(∀ y∈xs,(enc y).length=sz)→xs[k]? = some x→enc u=(enc x).set q v→q<sz→(xs.set k u).flatMap enc=(xs.flatMap enc).set (k*sz+q) v
 | [],k,x,_,h,_,_=>by simp at h
 | y :: r,0,x,hs,h,hu,hq=>by
  simp only [List.getElem?_cons_zero,Option.some.injEq] at h
  subst h
  have hl:=hs y (List.mem_cons_self ..)
  rw [List.set_cons_zero,List.flatMap_cons,List.flatMap_cons,hu,Nat.zero_mul,Nat.zero_add,List.set_append_left _ _ (by omega)]
 | y :: r,k+1,x,hs,h,hu,hq=>by
  rw [List.getElem?_cons_succ] at h
  have hl:=hs y (List.mem_cons_self ..)
  rw [List.set_cons_succ,List.flatMap_cons,List.flatMap_cons,flat_setc (fun z hz=>hs z (List.mem_cons_of_mem _ hz)) h hu hq,List.set_append_right _ _ (by rw [hl,Nat.succ_mul]; omega)]
  congr 2
  rw [hl,Nat.succ_mul]; omega
section
variable {dr:Bool} {mc:Md} {P:Program} {n:Fm} {l:List Oper} {K:Env→PM→Mem→Prop} {i:Nat} {σ:List Nat} {ρ:Env} {G:PM} {μ:Mem}
variable {t:Nat} {p:String} {af:Array Edge}
theorem stE {α:Type} {enc:α→List Value} {T E sz m cap b o k q:Nat} {x y:Operand} {v:Value} {xs:List α} {u e:α} {μ':Mem} (ho:nth l i=some ⟨none,.store T x y,t,p,af,none⟩) (hx:Ev ρ true x (.pointer (some ⟨b,o,none⟩))) (hy:Ev ρ true y v) (hz:szT P T=some 1)
  (hm:MTake μ (rS sz enc (.slice (some ⟨b,0,none⟩) m cap) E xs) μ') (hsz:∀ y∈xs,(enc y).length=sz) (he:xs[k]? = some e) (hu:enc u=(enc e).set q v) (hq:o=k*sz+q) (hqs:q<sz) (h1:v.oneCell'=true)
  (h:Wo dr mc P n l K σ ρ G (rS sz enc (.slice (some ⟨b,0,none⟩) m cap) E (xs.set k u) :: μ')):Wo dr mc P n l K (i :: σ) ρ G μ:=by
 subst hq
 have hk:k<xs.length:=(List.getElem?_eq_some_iff.1 he).1
 refine .act (μ₁:=[rS sz enc (.slice (some ⟨b,0,none⟩) m cap) E xs]) (μ₂:=μ') (post:=fun G' μ' v=>G'=G∧μ'=[rS sz enc (.slice (some ⟨b,0,none⟩) m cap) E (xs.set k u)]∧v=undef) ho (.inl rfl) .no hm.perm (fun a w ha hs=>.inl ?_) ?_
 ·have hs':=hs.left
  have hrow:w.ownsRow 0 E sz (.slice (some ⟨b,0,none⟩) m cap) xs.length (xs.flatMap enc):=hs'.own _ (List.mem_singleton.2 rfl)
  have hfl:=flat_len hsz
  rcases hrow.2 with ⟨e,_⟩ | ⟨g,cap',cur,e,_,hg,hnc,hcm,hcs,htake⟩
  ·cases e
  simp only [Value.slice.injEq,Option.some.injEq,Addr.mk.injEq,and_true,true_and] at e
  obtain ⟨rfl,rfl,rfl⟩:=e
  have hkey:keys [rS sz enc (.slice (some ⟨b,0,none⟩) xs.length cap) E xs]=[b]:=by simp [keys,Res.keys,Value.ownBlock]
  have hsat:Sat G [.blk b (.cells cur E (0,0))] w:=⟨hs'.sub,fun r hr=>by rw [List.mem_singleton.1 hr]; exact hg,fun c hc=>hs'.apart c (by simpa [keys,Res.keys,Value.ownBlock] using hc),by simp [keys,Res.keys]⟩
  have hin:k*sz+sz≤xs.length*sz:=by rw [← Nat.succ_mul]; exact Nat.mul_le_mul_right _ hk
  have hcap:xs.length*sz≤cap*sz:=Nat.mul_le_mul_right _ hnc
  have hst:=run_storeCells_at P b (k*sz+q) E [v] 0 cur w hg (by simp; omega) (fun c hc=>by rw [List.mem_singleton.1 hc]; exact h1)
  simp only [Nat.add_zero,List.length_singleton] at hst
  have hlen:k*sz+q<cur.toList.length:=by simp; omega
  have hset:cur.toList.take (k*sz+q)++[v]++cur.toList.drop (k*sz+q+1)=cur.toList.set (k*sz+q) v:=by
   rw [List.set_eq_take_append_cons_drop,if_pos hlen]; simp
  have hfs:=flat_setc hsz he hu hqs
  have h2:=(Tr.setArr (cs':=(cur.toList.take (k*sz+q)++[v]++cur.toList.drop (k*sz+q+1)).toArray) hsat).asRow (m:=xs.length) (cap:=cap) (sz:=sz) (xs:=(xs.set k u).flatMap enc) (by rw [hfs,List.length_set,hfl]) hnc hcm (by rw [hset]; simp; exact hcs) (by
   rw [hset,hfs,←htake]
   simp [List.take_set])
  refine ⟨undef,_,G,_,.inr ⟨?_,rfl⟩,by rw [hkey]; exact h2,rfl,by simp [rS],rfl⟩
  cases hi:P.info? T with
  | none=>simp [szT,hi] at hz
  | some inf =>
   simp only [szT,hi,Option.map_some,Option.some.injEq] at hz
   simp only [execOp,hx.eval ha rfl,hy.eval ha rfl]
   simp [Instr.storeAt,Instr.sureAddr,storeVar,cells_one h1,sizeOf,typeInfo,hi,hz,hst]
 rintro v' G' μ'' _ ⟨rfl,rfl,rfl⟩
 exact h
end
theorem nd_at {xs:List Nd} {a k p:Nat} (ha:a<xs.length) (hk:k<12) (hp:p=a*16+4+k*1):(xs.flatMap Nd.cells)[p]? = some (.int .i64 (nxt xs a k:Int)):=by
 subst hp
 obtain ⟨x,hx⟩ : ∃ x,xs[a]? = some x:=⟨_,List.getElem?_eq_getElem ha⟩
 have hfl:∀ {ys:List Nd} {a:Nat} {x:Nd},ys[a]? = some x→∀ j,j<16→(ys.flatMap Nd.cells)[a*16+j]? = (x.cells)[j]?:=by
  intro ys
  induction ys with
  | nil=>intro a x h; simp at h
  | cons y r ih =>
   intro a x h j hj
   rw [List.flatMap_cons]
   cases a with
   | zero =>
    simp only [List.getElem?_cons_zero,Option.some.injEq] at h
    subst h
    rw [Nat.zero_mul,Nat.zero_add,List.getElem?_append_left (by rw [Nd.len]; exact hj)]
   | succ a =>
    rw [List.getElem?_cons_succ] at h
    rw [List.getElem?_append_right (by rw [Nd.len]; omega),Nd.len,show (a+1)*16+j-16=a*16+j by omega]
    exact ih h j hj
 have h1:=hfl hx (4+k) (by omega)
 rw [show a*16+4+k*1=a*16+(4+k) by omega,h1]
 have h2:xs.getD a Nd.z=x:=by rw [List.getD_eq_getElem?_getD,hx]; rfl
 unfold nxt
 rw [h2]
 show (x.1.cells++(List.range 12).map fun k=>Value.int .i64 (x.2 k:Int))[4+k]? = _
 rw [List.getElem?_append_right (by rw [Ent.len]; omega),Ent.len,show 4+k-4=k by omega,List.getElem?_map,List.getElem?_range hk]
 rfl
theorem nsL_cells {x:Nd} {k v:Nat} (hk:k<12):Nd.cells (nsL x k v)=(Nd.cells x).set (4+k) (.int .i64 (v:Int)):=by
 unfold Nd.cells nsL
 rw [List.set_append_right _ _ (by rw [Ent.len]; omega),Ent.len,show 4+k-4=k by omega]
 congr 1
 refine List.ext_getElem? fun j=>?_
 rw [List.getElem?_set,List.getElem?_map,List.getElem?_map,List.length_map,List.length_range]
 by_cases hj:j<12
 ·rw [List.getElem?_range hj]
  by_cases h:j=k
  ·subst h; rw [if_pos rfl,if_pos hj]; simp
  rw [if_neg (fun e=>h e.symm)]; simp [h]
 rw [List.getElem?_eq_none (by simp; omega)]
 rw [if_neg (by omega)]
 rfl
def wA (w:Nat→Nat):List Value:=(List.range 12).map fun j=>.int .i64 (w j:Int)
theorem wA_len {w:Nat→Nat}:(wA w).length=12:=by simp [wA]
theorem wA_one (w:Nat→Nat):∀ u∈wA w,u.oneCell'=true:=fun u hu=>by
 obtain ⟨k,_,rfl⟩:=List.mem_map.1 hu; rfl
theorem wA_at {w:Nat→Nat} {k p:Nat} (hk:k<12) (hp:p=k):(wA w)[p]? = some (.int .i64 (w k:Int)):=by
 subst hp
 rw [wA,List.getElem?_map,List.getElem?_range hk]; rfl
theorem wA_set {w w':Nat→Nat} {k p:Nat} {v:Value} (hk:k<12) (hp:p=k) (hv:v=.int .i64 (w' k:Int)) (ho:∀ j,j≠k→w' j=w j):(wA w).set p v=wA w':=by
 subst hp; subst hv
 refine List.ext_getElem? fun j=>?_
 rw [wA,wA,List.getElem?_set,List.getElem?_map,List.getElem?_map,List.length_map,List.length_range]
 by_cases hj:j<12
 ·rw [List.getElem?_range hj]
  by_cases h:p=j
  ·subst h; rw [if_pos rfl,if_pos hj]; rfl
  rw [if_neg h]; show some (Value.int .i64 (w j:Int))=some (Value.int .i64 (w' j:Int)); rw [ho j (fun e=>h e.symm)]
 rw [List.getElem?_eq_none (by simp; omega)]
 rw [if_neg (by omega)]
 rfl
def wK (w:Nat→Nat) (k:Nat):Nat→Nat:=fun j=>if j<k then 0 else w j
theorem wK_z {w:Nat→Nat}:wA (wK w 0)=wA w:=by unfold wK; simp
def wq (w:Nat→Nat) (j q:Nat):Nat:=if q=0 then w (j+1) else w j
theorem way_t {xs:List Nd} {u:ByteArray} {q:BitVec 64} {w:Nat→Nat} {j p:Nat} (hW:WayN xs u q w) (hj:j<12) (hp:p=0∨p=1∧stopN xs u q (w j) j)
  (h:(decide (((nxt xs (wq w j p) j:Nat):Int) > 0)&&aheadK (xs.getD (nxt xs (wq w j p) j) Nd.z).1 u q)=true):p=0∧stopN xs u q (w j) j∧w j=nxt xs (w (j+1)) j:=by
 simp only [Bool.and_eq_true,decide_eq_true_eq] at h
 have hno:∀ a,wq w j p=a→¬ stopN xs u q a j:=fun a e hs=>by
  subst e
  rcases hs with hs | hs
  ·rw [hs] at h; simp at h
  ·rw [h.2] at hs; cases hs
 rcases hp with rfl | ⟨rfl,hs⟩
 ·rcases hW.step j hj with ⟨_,h2⟩ | ⟨h1,h2,h3,h4⟩
  ·exact absurd h2 (hno _ rfl)
  ·exact ⟨rfl,h4,h1⟩
 ·exact absurd hs (hno _ rfl)
theorem way_f {xs:List Nd} {u:ByteArray} {q:BitVec 64} {w:Nat→Nat} {j p:Nat} (hW:WayN xs u q w) (hj:j<12) (hp:p=0∨p=1∧stopN xs u q (w j) j)
  (h:(decide (((nxt xs (wq w j p) j:Nat):Int) > 0)&&aheadK (xs.getD (nxt xs (wq w j p) j) Nd.z).1 u q)=false):wq w j p=w j:=by
 rcases hp with rfl | ⟨rfl,_⟩
 ·rcases hW.step j hj with ⟨h1,_⟩ | ⟨h1,h2,h3,h4⟩
  ·exact h1.symm
  ·exfalso
   have e:wq w j 0=w (j+1):=rfl
   rw [e,h3,Bool.and_true,decide_eq_false_iff_not] at h
   omega
 ·rfl
theorem Nd.rdx {G:PM} {h:Sh} {xs:List Nd} (hs:SlR G 16 Nd.cells h xs) {a k p:Nat} (ha:a<xs.length) (hk:k<12) (hp:p=h.o+(a*16+4+k*1)):RdP G ⟨h.b,p,none⟩ (.int .i64 (nxt xs a k:Int)):=by
 subst hp
 exact SlR.flat (fun x _=>Nd.len x) hs _ _ (nd_at ha hk rfl)
theorem Nd.rde {G:PM} {h:Sh} {xs:List Nd} (hs:SlR G 16 Nd.cells h xs) {a p:Nat} (ha:a<xs.length) (hp:p=h.o+a*16):RdNP G h.b p (xs.getD a Nd.z).1.cells:=by
 subst hp
 obtain ⟨x,hx⟩ : ∃ x,xs[a]? = some x:=⟨_,List.getElem?_eq_getElem ha⟩
 have h2:xs.getD a Nd.z=x:=by rw [List.getD_eq_getElem?_getD,hx]; rfl
 rw [h2]
 have h3:=hs.at (j:=(a:Int)) (k:=a) (by simp) hx
 rw [show ((a:Int)).toNat=a by simp] at h3
 intro j v hj
 refine h3 j v ?_
 unfold Nd.cells
 rw [List.getElem?_append_left (List.getElem?_eq_some_iff.1 hj).1]; exact hj
theorem Nd.rdo {G:PM} {μ μ':Mem} {xs:List Nd} {b m cap E a k p:Nat} (h:MTake μ (rS 16 Nd.cells (.slice (some ⟨b,0,none⟩) m cap) E xs) μ') (ha:a<xs.length) (hk:k<12) (hp:p=a*16+4+k*1):Rd G μ ⟨b,p,none⟩ (.int .i64 (nxt xs a k:Int)):=Rd.row h (nd_at ha hk hp)
theorem lnkA_len {w:Nat→Nat} {f k:Nat} {xs:List Nd}:(lnkA w f xs k).length=xs.length:=by simp [lnkA]
theorem rightE_sz {e:Ent} (h:rightE e=true):e.user.size≤1024∧e.value.size≤65536:=by
 simp only [rightE,Bool.and_eq_true,decide_eq_true_eq] at h
 omega
theorem getN {xs:List Nd} {a:Nat} (h:a<xs.length):xs[a]? = some (xs.getD a Nd.z):=by
 rw [List.getD_eq_getElem?_getD,List.getElem?_eq_getElem h]; rfl
theorem lendL {P:Program} {G:PM} {f:FuncId} {args:Array Value} {bl T E:Nat} {v sz:Value} {xs:List Nd} {r:Value}
  (h:∀ (s:Sh) (G2:PM),v=s.val xs.length→SlR G2 16 Nd.cells s xs→PB G2 bl (cl [v,sz] T)→Ct P f args G2 [] (fun _ μ' u=>μ'=[]∧u=r)) :
  Ct P f args G [.blk bl (cl [v,sz] T),rS 16 Nd.cells v E xs] (fun _ μ' u=>μ'=[.blk bl (cl [v,sz] T),rS 16 Nd.cells v E xs]∧u=r):=by
 have h1:Ct P f args (G.add bl (cl [v,sz] T)) [rS 16 Nd.cells v E xs] (fun _ μ' u=>μ'=[rS 16 Nd.cells v E xs]∧u=r) :=
  (Ct.lendS (Q:=fun ν u=>ν=[]∧u=r) (fun x _=>Nd.len x) fun s G2 hle hv hs=>h s G2 hv hs ⟨hle _ _ (PM.add_same _ _ _)⟩).mono
   fun G' μ' u ⟨ν,h2,h3,h4⟩=>⟨by rw [h2,h3],h4⟩
 exact (Ct.lend (Q:=fun μ' u=>μ'=[rS 16 Nd.cells v E xs]∧u=r) h1).mono fun G' μ' u ⟨ν,h2,h3,h4⟩=>⟨by rw [h2,h3],h4⟩
section
variable {dr:Bool} {mc:Md} {P:Program} {n:Fm} {l:List Oper} {K:Env→PM→Mem→Prop} {i:Nat} {σ:List Nat} {ρ:Env} {G:PM} {μ:Mem}
variable {d t:Nat} {p:String} {af:Array Edge}
theorem mk1S {α:Type} {enc:α→List Value} {T E sz by':Nat} {x y:Operand} {z:Value} (u:α) (ho:nth l i=some ⟨some d,.makeSlice T x y,t,p,af,none⟩) (hT:slE P T=some (E,sz,by')) (hz:(P.info? E).bind (·.zero)=some z) (hx:Ev ρ true x (.int .i64 1)) (hy:Ev ρ true y (.int .i64 1)) (hu:z.cells=(enc u).toArray) (hs:(enc u).length=sz) (hb:by'≤1000000)
  (h:∀ b,Wo dr mc P n l K σ ((d,true,.slice (some ⟨b,0,none⟩) 1 1) :: ρ) G (rS sz enc (.slice (some ⟨b,0,none⟩) 1 1) E [u] :: μ)):Wo dr mc P n l K (i :: σ) ρ G μ:=by
 refine .act (μ₁:=[]) (μ₂:=μ) (post:=fun G' μ' v=>∃ b,G'=G∧v=.slice (some ⟨b,0,none⟩) 1 1∧μ'=[rS sz enc (.slice (some ⟨b,0,none⟩) 1 1) E [u]]) ho (.inl rfl) .no (.refl _) (fun q w hq hs0=>.inl ?_) ?_
 ·obtain ⟨hu',inf,hi,hs1,hb1⟩:=slE_some hT
  rw [hi] at hz
  simp only [Option.bind_some] at hz
  have hrun:=run_make (P:=P) w T E inf _ hu' hi hz .i64 .i64 1 1 (by omega) (by omega) (by rw [hb1]; simp; omega) (by omega)
  simp at hrun
  have h0:Tr G (keys []) w G [.blk w.heap.size (.cells (madeCells z.cells inf.size) E (0,0))] _:=(Tr.begin (Sat.left (μ:=[]) hs0)).alloc _
  have hmc:(madeCells z.cells inf.size).toList=enc u:=by
   rw [hs1,hu,←hs]
   unfold madeCells
   refine List.ext_getElem? fun j=>?_
   by_cases hj:j<(enc u).length
   ·simp [hj,Nat.mod_eq_of_lt hj]
   simp [hj]
  refine ⟨_,_,G,_,.inl (by simp [execOp,hx.eval hq rfl,hy.eval hq rfl,hrun]),h0.asRow (m:=1) (cap:=1) (sz:=sz) (xs:=enc u) (by rw [hs,Nat.one_mul]) (Nat.le_refl _) (by unfold maxLen; omega) (by rw [← Array.length_toList,hmc,hs,Nat.one_mul]) ?_,w.heap.size,rfl,rfl,by simp [rS]⟩
  rw [hmc,Nat.one_mul,←hs]; simp
 rintro v G' μ'' _ ⟨b,rfl,rfl,rfl⟩
 exact h b
end
def frameL (kind:Y) (p:List Y):List Y:=fixL ((maskW (crcW 0#32 ([kind]++p))).setWidth 64) 4++fixL (BitVec.ofInt 64 (p.length:Int)) 2++[kind]
def kindAt (n j:Nat):Y:=if j=0 then (if n≤128 then 1#8 else 2#8) else if n-128*j≤128 then 4#8 else 3#8
def outL (s:List Y):Nat→List Y
 | 0=>[]
 | j+1=>outL s j++frameL (kindAt s.length j) ((s.drop (128*j)).take 128)++(s.drop (128*j)).take 128
def recL (s:List Y):List Y:=outL s ((s.length+127) / 128)
theorem take_min (M:List Y):M.take (min M.length 128)=M.take 128:=by
 by_cases h:M.length≤128
 ·rw [Nat.min_eq_left h,List.take_length,List.take_of_length_le h]
 ·rw [Nat.min_eq_right (by omega)]
theorem rec_step {S M O A B C D E:List Y} {j:Nat} {kind:Y} (eO:O=outL S j) (eM:M=S.drop (128*j)) (eA:A=M.take (min M.length 128)) (eB:B=M.take (min M.length 128)) (eC:C=frameL kind A) (eD:D=O++C) (eE:E=D++B) (hk:kind=kindAt S.length j):E=outL S (j+1):=by
 rw [eE,eD,eC,eA,eB,take_min,eO,eM,hk]; rfl
theorem drop_step {S:List Y} {j:Nat}:(S.drop (128*j)).drop (min (S.drop (128*j)).length 128)=S.drop (128*(j+1)):=by
 rw [List.drop_drop]
 by_cases h:(S.drop (128*j)).length≤128
 ·rw [Nat.min_eq_left h]
  rw [List.length_drop] at h ⊢
  rw [List.drop_of_length_le (by omega),List.drop_of_length_le (by omega)]
 ·rw [Nat.min_eq_right (by omega)]; congr 1
theorem frame_len (kind:Y) (p:List Y):(frameL kind p).length=7:=by simp [frameL,fix_len]
theorem out_len (S:List Y) (j:Nat):(outL S j).length≤135*j:=by
 induction j with
 | zero=>exact Nat.zero_le _
 | succ j ih=>rw [outL,List.length_append,List.length_append,frame_len,List.length_take]; omega
theorem kind_full {n j:Nat} (h:j=0) (hn:n≤128):1#8=kindAt n j:=by unfold kindAt; rw [if_pos h,if_pos hn]
theorem kind_first {n j:Nat} (h:j=0) (hn:¬ n≤128):2#8=kindAt n j:=by unfold kindAt; rw [if_pos h,if_neg hn]
theorem kind_last {n j:Nat} (h:¬ j=0) (hn:n-128*j≤128):4#8=kindAt n j:=by unfold kindAt; rw [if_neg h,if_pos hn]
theorem kind_mid {n j:Nat} (h:¬ j=0) (hn:¬ n-128*j≤128):3#8=kindAt n j:=by unfold kindAt; rw [if_neg h,if_neg hn]
def layP (root:Nat→Y) (h:Hd) (n:BitVec 64) (p:List Y):List Y×Int:=if p.length≤4194304 then (recL (sealL (keyEnc root (headL h)) (keyMac root (headL h)) (nonceF n) (headL h) p),0) else ([],4)
theorem lay_long {root:Nat→Y} {h:Hd} {n:BitVec 64} {p:List Y} (c:¬ p.length≤4194304):([],4)=layP root h n p:=by unfold layP; rw [if_neg c]
theorem lay_good {root:Nat→Y} {h:Hd} {n:BitVec 64} {p S O:List Y} {j:Nat} (c:p.length≤4194304) (eS:S=sealL (keyEnc root (headL h)) (keyMac root (headL h)) (nonceF n) (headL h) p) (eO:O=outL S j) (hj:j=(S.length+127) / 128):(O,0)=layP root h n p:=by
 unfold layP; rw [if_pos c,eO,hj,eS]; rfl
abbrev Dg:=Nat→Y
def leafD (xs:List Y):Dg:=shaD (0#8 :: xs)
def joinD (a b:Dg):Dg:=shaD (1#8 :: (yl 32 a++yl 32 b))
def emptyD:Dg:=shaD [2#8]
def partL (k n:Nat):Nat→Nat
 | 0=>k
 | f+1=>if k+k<n then partL (k*2) n f else k
def partN (n:Nat):Nat:=partL 1 n n
theorem partL_spec:∀ (f k n:Nat),0<k→n≤k*2^f→k<n→(∃ a,k=2^a)→(∃ b,partL k n f=2^b)∧partL k n f<n∧n≤partL k n f+partL k n f
 | 0,k,n,h0,hn,hk,ha=>by rw [Nat.pow_zero,Nat.mul_one] at hn; omega
 | f+1,k,n,h0,hn,hk,⟨a,ha⟩=>by
  unfold partL
  split
  ·rename_i h
   refine partL_spec f (k*2) n (by omega) ?_ (by omega) ⟨a+1,by rw [ha,Nat.pow_succ]⟩
   rw [Nat.pow_succ,Nat.mul_comm (2^f) 2,←Nat.mul_assoc] at hn; exact hn
  exact ⟨⟨a,ha⟩,hk,by omega⟩
theorem partN_spec {n:Nat} (h:2≤n):(∃ b,partN n=2^b)∧partN n<n∧n≤partN n+partN n :=
 partL_spec n 1 n (by decide) (by rw [Nat.one_mul]; exact Nat.le_of_lt (Nat.lt_two_pow_self)) (by omega) ⟨0,rfl⟩
theorem partN_pos {n:Nat} (h:2≤n):0<partN n:=by have:=(partN_spec h).2.2; omega
theorem pow_uniq {a b n:Nat} (h1:2^a<n) (h2:n≤2^a+2^a) (h3:2^b<n) (h4:n≤2^b+2^b):a=b:=by
 rcases Nat.lt_trichotomy a b with h | h | h
 ·have:=Nat.pow_le_pow_right (n:=2) (by decide) (show a+1≤b by omega)
  rw [Nat.pow_succ] at this; omega
 ·exact h
 ·have:=Nat.pow_le_pow_right (n:=2) (by decide) (show b+1≤a by omega)
  rw [Nat.pow_succ] at this; omega
theorem partN_eq {a m:Nat} (h0:0<m) (hm:m≤2^a):partN (2^a+m)=2^a:=by
 have hp:0<2^a:=Nat.pow_pos (by decide)
 obtain ⟨⟨b,hb⟩,h1,h2⟩:=partN_spec (n:=2^a+m) (by omega)
 rw [hb] at h1 h2 ⊢
 rw [pow_uniq h1 h2 (show 2^a<2^a+m by omega) (by omega)]
def rootD (l:List Dg):Dg :=
 match l with
 | []=>emptyD
 | [d]=>d
 | a :: b :: r=>joinD (rootD ((a :: b :: r).take (partN (r.length+2)))) (rootD ((a :: b :: r).drop (partN (r.length+2))))
termination_by l.length
decreasing_by
 ·have:=partN_spec (n:=r.length+2) (by omega)
  simp only [List.length_take,List.length_cons]; omega
 ·have:=partN_pos (n:=r.length+2) (by omega)
  simp only [List.length_drop,List.length_cons]; omega
theorem root_nil:rootD []=emptyD:=by rw [rootD]
theorem root_one (d:Dg):rootD [d]=d:=by rw [rootD]
theorem root_two {l:List Dg} (h:2≤l.length):rootD l=joinD (rootD (l.take (partN l.length))) (rootD (l.drop (partN l.length))):=by
 match l,h with
 | a :: b :: r,_=>rw [rootD]; rfl
theorem root_join {s t:List Dg} {a:Nat} (hs:s.length=2^a) (h0:0<t.length) (ht:t.length≤2^a):rootD (s++t)=joinD (rootD s) (rootD t):=by
 have hp:0<2^a:=Nat.pow_pos (by decide)
 have hl:(s++t).length=2^a+t.length:=by rw [List.length_append,hs]
 rw [root_two (by omega),hl,partN_eq h0 ht,←hs,List.take_left,List.drop_left]
inductive Stk:List (Nat×Dg)→List Dg→Prop
 | nil:Stk [] []
 | cons {a:Nat} {r:Dg} {S:List (Nat×Dg)} {L seg:List Dg} (hS:Stk S L) (hl:seg.length=2^a) (hr:rootD seg=r) (hlt:∀ b s S',S=(b,s) :: S'→a<b):Stk ((a,r) :: S) (L++seg)
def finD (d:Dg):List (Nat×Dg)→Dg
 | []=>d
 | p :: S=>finD (joinD p.2 d) S
theorem Stk.root:∀ {S:List (Nat×Dg)} {L T:List Dg},Stk S L→0<T.length→(∀ b s S',S=(b,s) :: S'→T.length≤2^b)→rootD (L++T)=finD (rootD T) S
 | [],L,T,h,h0,_=>by cases h; rfl
 | (a,r) :: S,L,T,h,h0,hb=>by
  cases h with
  | @cons _ _ _ L seg hS hl hr hlt =>
   rw [List.append_assoc,Stk.root hS (by rw [List.length_append]; omega) (fun b s S' e=>by
    have h1:=hlt b s S' e
    have h2:=hb a r S rfl
    have h3:=Nat.pow_le_pow_right (n:=2) (by decide) (show a+1≤b by omega)
    rw [Nat.pow_succ] at h3
    rw [List.length_append,hl]; omega),root_join hl h0 (hb a r S rfl),hr]
   rfl
theorem Stk.done {a:Nat} {r:Dg} {S:List (Nat×Dg)} {L:List Dg} (h:Stk ((a,r) :: S) L):rootD L=finD r S:=by
 cases h with
 | @cons _ _ _ L seg hS hl hr hlt =>
  have hp:0<2^a:=Nat.pow_pos (by decide)
  rw [Stk.root hS (by omega) (fun b s S' e=>by rw [hl]; exact Nat.pow_le_pow_right (by decide) (Nat.le_of_lt (hlt b s S' e))),hr]
theorem pow_odd (a d t:Nat):2^(a+1+d)*t+2^a=2^a*(2*(2^d*t)+1):=by
 rw [Nat.pow_add,Nat.pow_succ,Nat.mul_add,Nat.mul_one]
 simp only [Nat.mul_assoc]
theorem Stk.len:∀ {S:List (Nat×Dg)} {L:List Dg} {a:Nat} {r:Dg},Stk ((a,r) :: S) L→∃ m,L.length=2^a*(2*m+1)
 | [],L,a,r,h=>by
  cases h with
  | @cons _ _ _ L seg hS hl hr hlt=>cases hS; exact ⟨0,by simpa using hl⟩
 | (b,s) :: S,L,a,r,h=>by
  cases h with
  | @cons _ _ _ L seg hS hl hr hlt =>
   obtain ⟨m,hm⟩:=Stk.len hS
   have hab:=hlt b s S rfl
   obtain ⟨d,rfl⟩ : ∃ d,b=a+1+d:=⟨b-a-1,by omega⟩
   refine ⟨2^d*(2*m+1),?_⟩
   rw [List.length_append,hm,hl,pow_odd]
structure Pend (S:List (Nat×Dg)) (d:Dg) (a:Nat) (l:List Dg):Prop where
 out:∃ L seg,Stk S L∧seg.length=2^a∧rootD seg=d∧L++seg=l∧∀ b s S',S=(b,s) :: S'→a≤b
theorem Pend.start {S:List (Nat×Dg)} {L:List Dg} (h:Stk S L) (d:Dg):Pend S d 0 (L++[d]):=⟨L,[d],h,rfl,root_one d,rfl,fun _ _ _ _=>Nat.zero_le _⟩
theorem Pend.even {S:List (Nat×Dg)} {d:Dg} {a:Nat} {l:List Dg} (h:Pend S d a l) (he:(l.length / 2^a)%2=0):∃ s S',S=(a,s) :: S'∧Pend S' (joinD s d) (a+1) l∧l.length / 2^a / 2=l.length / 2^(a+1):=by
 obtain ⟨L,seg,hS,hl,hr,he',hb⟩:=h.out
 have hp:0<2^a:=Nat.pow_pos (by decide)
 have hdiv:l.length / 2^a / 2=l.length / 2^(a+1):=by rw [Nat.div_div_eq_div_mul,Nat.pow_succ]
 have hlen:l.length=L.length+2^a:=by rw [← he',List.length_append,hl]
 match S,hS,hb with
 | [],hS,hb =>
  cases hS
  rw [List.length_nil,Nat.zero_add] at hlen
  rw [hlen,Nat.div_self hp] at he; cases he
 | (b,s) :: S',hS,hb =>
  obtain ⟨m,hm⟩:=hS.len
  have hab:=hb b s S' rfl
  by_cases e:a=b
  ·subst e
   refine ⟨s,S',rfl,?_,hdiv⟩
   cases hS with
   | @cons _ _ _ L0 seg0 hS0 hl0 hr0 hlt =>
    refine ⟨L0,seg0++seg,hS0,by rw [List.length_append,hl0,hl,Nat.pow_succ]; omega,?_,by rw [← List.append_assoc]; exact he',fun b s S'' e=>hlt b s S'' e⟩
    rw [root_join hl0 (by omega) (by omega),hr0,hr]
  exfalso
  obtain ⟨d',rfl⟩ : ∃ d',b=a+1+d':=⟨b-a-1,by omega⟩
  have h3:l.length=2^a*(2*(2^d'*(2*m+1))+1):=by
   rw [hlen,hm,pow_odd]
  rw [h3,Nat.mul_div_cancel_left _ hp] at he
  omega
theorem Pend.odd {S:List (Nat×Dg)} {d:Dg} {a:Nat} {l:List Dg} (h:Pend S d a l) (he:(l.length / 2^a)%2=1):Stk ((a,d) :: S) l:=by
 obtain ⟨L,seg,hS,hl,hr,he',hb⟩:=h.out
 have hp:0<2^a:=Nat.pow_pos (by decide)
 subst he'
 refine .cons hS hl hr fun b s S' e=>?_
 have hab:=hb b s S' e
 rcases Nat.lt_or_eq_of_le hab with h1 | h1
 ·exact h1
 exfalso
 subst e; subst h1
 obtain ⟨m,hm⟩:=hS.len
 rw [List.length_append,hl,hm,show 2^a*(2*m+1)+2^a=2^a*(2*m+2) by rw [Nat.mul_add,Nat.mul_one,Nat.mul_add]; omega,Nat.mul_div_cancel_left _ hp] at he
 omega
theorem Stk.short:∀ {S:List (Nat×Dg)} {L:List Dg},Stk S L→S.length≤L.length
 | [],_,_=>Nat.zero_le _
 | (a,r) :: S,L,h=>by
  cases h with
  | @cons _ _ _ L seg hS hl hr hlt =>
   have:=Stk.short hS
   have hp:0<2^a:=Nat.pow_pos (by decide)
   rw [List.length_append,List.length_cons]; omega
section
variable {α:Type}
theorem gd_at {l:List α} {k:Nat} {z:α} (h:k<l.length):l[k]? = some (l.getD k z):=by simp [h]
end
abbrev TM:=Meta×Nat
def z0:TM:=(Meta.zero,0)
def ms (T:List TM):List Meta:=T.map (·.1)
theorem encM_len {m:Meta} (h:m.wf):(encM m).length≤m.min.size+m.max.size+112:=by
 have l1:=h.level; have l2:=h.gen; have l3:=h.epoch; have l4:=h.number; have l7:=h.minL; have l8:=h.maxL
 have n1:=num_len10 (n:=m.level.toNat) (by omega); have n2:=num_len10 (n:=m.gen.toNat) (by omega); have n3:=num_len10 (n:=m.epoch.toNat) (by omega); have n4:=num_len10 (n:=m.number.toNat) (by omega)
 have n5:=num_len10 (u64N_lt m.size); have n6:=num_len10 (u64N_lt m.count)
 have y1:=yb_len m.min; have y2:=yb_len m.max
 have s1:=strL_len (xs:=yb m.min) (by omega); have s2:=strL_len (xs:=yb m.max) (by omega)
 unfold encM
 simp only [List.length_append,List.length_map,List.length_range]
 omega
theorem encE_len {e:Edit} (h:e.wf) (ha:e.add.length≤1000000) (hd:e.drop.length≤1000000):(encE e).length≤(e.add.flatMap encM).length+20*e.drop.length+110:=by
 have l1:=h.log; have l2:=h.next; have l3:=h.seq; have l4:=h.least
 unfold u64 at l1 l2 l3 l4
 have n1:=num_len10 (n:=e.log.toNat) (by omega); have n2:=num_len10 (n:=e.next.toNat) (by omega); have n3:=num_len10 (n:=e.seq.toNat) (by omega); have n4:=num_len10 (n:=e.least.toNat) (by omega)
 have n5:=num_len10 (n:=e.add.length) (by omega); have n6:=num_len10 (n:=e.drop.length) (by omega)
 have g:((List.range 5).flatMap fun i=>numN (e.gens i).toNat).length≤10*5:=by
  have:=numsL_len (ns:=gensL e) (gens_u h)
  unfold numsL gensL at this
  rw [List.flatMap_map] at this
  simpa using this
 have d:=gonesL h.drop
 unfold encE
 simp only [List.length_append]
 omega
theorem hd_ext {a b:Hd} (h:a.kind=b.kind∧a.level=b.level∧a.gen=b.gen∧a.epoch=b.epoch∧a.num=b.num):a=b:=by
 obtain ⟨a1,a2,a3,a4,a5⟩:=a
 obtain ⟨b1,b2,b3,b4,b5⟩:=b
 obtain ⟨h1,h2,h3,h4,h5⟩:=h
 simp only at h1 h2 h3 h4 h5
 subst h1 h2 h3 h4 h5
 rfl
instance:DecidableEq Hd:=fun a b=>decidable_of_iff (a.kind=b.kind∧a.level=b.level∧a.gen=b.gen∧a.epoch=b.epoch∧a.num=b.num) ⟨hd_ext,fun h=>by subst h; exact ⟨rfl,rfl,rfl,rfl,rfl⟩⟩
def headE (s:State):Edit:=⟨s.log,s.next,s.seq,s.least,s.gens,[],[]⟩
def oneE (m:Meta):Edit:=⟨0,0,0,0,fun _=>0,[m],[]⟩
def leafE (e:Edit):Dg:=leafD (encE e)
def leavesS (s:State):List Dg:=leafE (headE s) :: (allM s 5).map fun m=>leafE (oneE m)
def rootS (s:State):Dg:=rootD (leavesS s)
structure Mn where
 st:State
 mark:BitVec 64
 n:Nat
theorem Tr.cutRow {G0 G:PM} {K0:List Nat} {w0 w:World} {μ:Mem} {b E sz m cap q:Nat} {xs:List Value} (h:Tr G0 K0 w0 G (.row (.slice (some ⟨b,0,none⟩) m cap) E sz m xs :: μ) w) (hq:q≤m) :
  Tr G0 K0 w0 G (.row (.slice (some ⟨b,0,none⟩) q cap) E sz q (xs.take (q*sz)) :: μ) w:=by
 have hk:keys (.row (.slice (some ⟨b,0,none⟩) q cap) E sz q (xs.take (q*sz)) :: μ)=keys (.row (.slice (some ⟨b,0,none⟩) m cap) E sz m xs :: μ):=by simp [keys,Res.keys,Value.ownBlock]
 have hrow:w.ownsRow 0 E sz (.slice (some ⟨b,0,none⟩) m cap) m xs:=h.sat.own _ (List.mem_cons_self ..)
 refine { h with sat:=⟨h.sat.sub,fun r hr=>?_,by rw [hk]; exact h.sat.apart,by rw [hk]; exact h.sat.nodup⟩,mine:=by rw [hk]; exact h.mine }
 rcases List.mem_cons.1 hr with rfl | hr
 ·have hl:=hrow.1
  have hqs:q*sz≤m*sz:=Nat.mul_le_mul_right _ hq
  rcases hrow.2 with ⟨e,_⟩ | ⟨g,cap',cur,e,h0,hg,hnc,hcm,hcs,htake⟩
  ·cases e
  simp only [Value.slice.injEq,Option.some.injEq,Addr.mk.injEq,and_true,true_and] at e
  obtain ⟨rfl,rfl⟩:=e
  refine ⟨by rw [List.length_take,hl,Nat.min_eq_left hqs],.inr ⟨b,cap,cur,rfl,h0,hg,by omega,hcm,hcs,?_⟩⟩
  rw [← htake,List.take_take,Nat.min_eq_left hqs]
 exact h.sat.own r (List.mem_cons_of_mem _ hr)
theorem wk_popS {α:Type} {enc:α→List Value} {sz:Nat} {X:Cx} {cd:Code} {k:List KI} {ρ:Env} {G:PM} {μ μ':Mem} {b cap E:Nat} {xs:List α} (A B:List α) (hsz:∀ x∈xs,(enc x).length=sz) (hm:MTake μ (rS sz enc (.slice (some ⟨b,0,none⟩) xs.length cap) E xs) μ') (e:xs=A++B)
  (h:Wk X cd k ρ G (rS sz enc (.slice (some ⟨b,0,none⟩) A.length cap) E A :: μ')):Wk X cd k ρ G μ :=
 ⟨fun a w ha ht=>h.out a w ha (by
  subst e
  have:=(ht.perm hm.perm).cutRow (q:=A.length) (by rw [List.length_append]; omega)
  rw [← flat_tk hsz,List.take_left] at this
  exact this)⟩
section
variable {dr:Bool} {mc:Md} {P:Program} {n:Fm} {l:List Oper} {K:Env→PM→Mem→Prop} {i:Nat} {σ:List Nat} {ρ:Env} {G:PM} {μ:Mem}
variable {d t:Nat} {p:String} {af:Array Edge} {g:Option (Nat×Bool)} {c:Bool}
theorem and1 (A:Nat):BitVec.ofNat 64 A &&& BitVec.ofNat 64 1=BitVec.ofNat 64 (A%2):=by
 apply BitVec.eq_of_toNat_eq
 rw [BitVec.toNat_and,BitVec.toNat_ofNat,BitVec.toNat_ofNat,BitVec.toNat_ofNat,show 1%2^64=1 from rfl,Nat.and_one_is_mod]
 omega
theorem an1 {T T':TypeId} {x y:Operand} {a1 a2:Int} (A:Nat) (ho:nth l i=some ⟨some d,.binOp .and T x y T',t,p,af,g⟩) (hg:Gd l ρ g c) (hx:Ev ρ c x (.int .i64 a1)) (hy:Ev ρ c y (.int .i64 a2)) (e1:a1=A) (e2:a2=1)
  (h:Wo dr mc P n l K σ ((d,c,.int .i64 ((A%2:Nat):Int)) :: ρ) G μ):Wo dr mc P n l K (i :: σ) ρ G μ :=
 .pure ho (.inl rfl) hg (fun hc q w ha=>by
  subst e1; subst e2
  have hb:(binOp .and T (.int .i64 (A:Int)) (.int .i64 1)).run P w=.ok (.int .i64 ((A%2:Nat):Int)) w:=by
   have e1:BitVec.ofInt 64 (A:Int)=BitVec.ofNat 64 A:=by simp
   have e2:BitVec.ofInt 64 (1:Int)=BitVec.ofNat 64 1:=rfl
   have h4:IntKind.i64.wrap ((BitVec.ofNat 64 (A%2)).toNat:Int)=((A%2:Nat):Int):=by
    rw [BitVec.toNat_ofNat,Nat.mod_eq_of_lt (by omega)]
    exact wrap_i64 (by omega) (by omega)
   have h5:(Op.intBits .and .i64 (A:Int) 1)=pure (.int .i64 (IntKind.i64.wrap ((BitVec.ofInt 64 (A:Int) &&& BitVec.ofInt 64 (1:Int)).toNat:Int))):=rfl
   have h6:binOp .and T (.int .i64 (A:Int)) (.int .i64 1)=Op.intBits .and .i64 (A:Int) 1:=rfl
   rw [h6,h5,e1,e2,and1,h4]; rfl
  simp only [execOp,hx.eval ha hc,hy.eval ha hc,Sem.run_bind,eqGuard_int,Result.andThen_ok,hb]; rfl) h
end
def stkL (S:List (Nat×Dg)):List Dg:=(S.map (·.2)).reverse
theorem stkL_cons (a:Nat) (r:Dg) (S:List (Nat×Dg)):stkL ((a,r) :: S)=stkL S++[r]:=by simp [stkL]
theorem stkL_len (S:List (Nat×Dg)):(stkL S).length=S.length:=by simp [stkL]
def zD:Dg:=fun _=>0#8
theorem stkL_last (a:Nat) (r:Dg) (S:List (Nat×Dg)):(stkL ((a,r) :: S)).getD S.length zD=r:=by
 rw [stkL_cons,List.getD_eq_getElem?_getD,List.getElem?_append_right (by rw [stkL_len]; omega),stkL_len,Nat.sub_self]; rfl
def finB (d:Dg) (L:List Dg):Nat→Dg
 | 0=>d
 | j+1=>finB (joinD (L.getD j zD) d) L j
theorem finB_app:∀ (j:Nat) (d x:Dg) (L:List Dg),j≤L.length→finB d (L++[x]) j=finB d L j
 | 0,_,_,_,_=>rfl
 | j+1,d,x,L,h=>by
  have e:(L++[x]).getD j zD=L.getD j zD:=by rw [List.getD_eq_getElem?_getD,List.getElem?_append_left (by omega),←List.getD_eq_getElem?_getD]
  simp only [finB,e]; exact finB_app j _ x L (by omega)
theorem finB_pred {j:Nat} {d:Dg} {L:List Dg} (h:0<j):finB d L j=finB (joinD (L.getD (j-1) zD) d) L (j-1):=by
 obtain ⟨i,rfl⟩ : ∃ i,j=i+1:=⟨j-1,by omega⟩
 rfl
theorem stk_top {S S3:List (Nat×Dg)} {a:Nat} {s:Dg} (h:S=(a,s) :: S3):(stkL S).getD ((stkL S).length-1) zD=s:=by
 subst h; rw [stkL_len]; exact stkL_last a s S3
theorem finB_eq:∀ (S:List (Nat×Dg)) (d:Dg),finB d (stkL S) S.length=finD d S
 | [],d=>rfl
 | (a,r) :: S,d=>by
  simp only [List.length_cons,finB,finD,stkL_last]
  rw [stkL_cons,finB_app _ _ _ _ (by rw [stkL_len]; exact Nat.le_refl _),finB_eq S]
theorem stk_done {S:List (Nat×Dg)} {L:List Dg} (h:Stk S L) (h0:0<L.length):0<(stkL S).length∧rootD L=finB ((stkL S).getD ((stkL S).length-1) zD) (stkL S) ((stkL S).length-1):=by
 rw [stkL_len]
 match S,h with
 | [],h=>cases h; cases h0
 | (a,r) :: S,h =>
  refine ⟨Nat.succ_pos _,?_⟩
  rw [h.done,←finB_eq S r]
  have e:((a,r) :: S).length-1=S.length:=rfl
  rw [e,stkL_last,stkL_cons,finB_app _ _ _ _ (by rw [stkL_len]; exact Nat.le_refl _)]
theorem pend_even {S:List (Nat×Dg)} {d:Dg} {a q:Nat} {l:List Dg} (h:Pend S d a l) (eq:q=l.length / 2^a) (he:q%2=0):∃ s S',S=(a,s) :: S'∧Pend S' (joinD s d) (a+1) l∧q / 2=l.length / 2^(a+1):=by
 subst eq; exact h.even he
theorem pend_odd {S:List (Nat×Dg)} {d:Dg} {a q:Nat} {l:List Dg} (h:Pend S d a l) (eq:q=l.length / 2^a) (he:¬ q%2=0):Stk ((a,d) :: S) l:=by
 subst eq; exact h.odd (by omega)
theorem pend_pos {S:List (Nat×Dg)} {d:Dg} {a q:Nat} {l:List Dg} (h:Pend S d a l) (eq:q=l.length / 2^a):0<q:=by
 obtain ⟨L,seg,hS,hl,hr,he',hb⟩:=h.out
 subst eq
 exact Nat.div_pos (by rw [← he',List.length_append,hl]; omega) (Nat.pow_pos (by decide))
theorem pend_len {S:List (Nat×Dg)} {d:Dg} {a:Nat} {l:List Dg} (h:Pend S d a l):S.length≤l.length:=by
 obtain ⟨L,seg,hS,hl,hr,he',hb⟩:=h.out
 have:=hS.short
 rw [← he',List.length_append]; omega
section
variable {dr:Bool} {mc:Md} {P:Program} {n:Fm} {l:List Oper} {K:Env→PM→Mem→Prop} {i:Nat} {σ:List Nat} {ρ:Env} {G:PM} {μ:Mem}
variable {d t:Nat} {p:String} {af:Array Edge} {g:Option (Nat×Bool)} {c:Bool}
theorem kaf {f:FuncId} {fv:Operand} {xs:List Operand} {tys:Array TypeId} {vs vc:List Value} {μ₁ μ₂:Mem} {post:PM→Mem→Value→Prop} {dd:Option Nat} (ho:nth l i=some ⟨dd,.call { callee:=.value fv,args:=xs.toArray,argTypes:=tys },t,p,af,none⟩) (hm:mc.c=true∨dr=false) (hfv:Ev ρ true fv (.func (.func f) #[] vc.toArray)) (hf:goFn P f=true)
  (hv:∀ a,Ag n ρ a→true=true→xs.map a.eval=vs) (hp:μ.Perm (μ₁++μ₂)) (hk:Ct P f (vs++vc).toArray G μ₁ post) (h:∀ v G' μ',PM.le G G'→post G' μ' v→Wo dr mc P n l K σ (lay ρ dd true v) G' (μ'++μ₂)):Wo dr mc P n l K (i :: σ) ρ G μ :=
 .act ho (by rcases hm with h|rfl<;>simp_all [kindOf]) .no hp (fun a w ha _=>.inr ⟨f,_,by
  have h1:=hv a ha rfl
  simp [execOp,resolve,Deferred.ofValue,hfv.eval ha rfl,invoke,run_callFunc hf]
  rw [← h1],hk⟩) h
end
theorem SlR.one1 {α:Type} {enc:α→List Value} {sz:Nat} {G:PM} {b:Nat} {x:α} {T:TypeId}:SlR (G.add b (cl (enc x) T)) sz enc ⟨some ⟨b,0,none⟩,1⟩ [x]:=by
 refine ⟨fun _=>rfl,Nat.le_refl _,fun i y hy j v hj=>?_⟩
 cases i with
 | succ i=>simp at hy
 | zero =>
  simp only [List.getElem?_cons_zero,Option.some.injEq] at hy
  subst hy
  rw [Nat.zero_mul,Nat.add_zero]
  exact RdP.blk (PM.add_same _ _ _) (by show (enc x)[0+j]? = _; rw [Nat.zero_add]; exact hj)
structure StN (s:State):Prop where
 log:u64 s.log
 next:u64 s.next
 seq:u64 s.seq
 least:u64 s.least
 gens:∀ i,i<5→u64 (s.gens i)
theorem headE_wf {s:State} (h:StN s):(headE s).wf:=⟨h.log,h.next,h.seq,h.least,h.gens,(fun m hm=>absurd hm List.not_mem_nil),(fun g hg=>absurd hg List.not_mem_nil)⟩
theorem oneE_wf {m:Meta} (h:m.wf):(oneE m).wf:=by
 have z:u64 0:=⟨by decide,by decide⟩
 refine ⟨z,z,z,z,fun _ _=>z,fun x hx=>?_,(fun g hg=>absurd hg List.not_mem_nil)⟩
 rw [show x=m from List.mem_singleton.1 hx]; exact h
theorem oneE_len {m:Meta} (h:m.wf):((oneE m).add.flatMap encM).length≤m.min.size+m.max.size+112:=by
 show ([m].flatMap encM).length≤_
 rw [List.flatMap_cons,List.flatMap_nil,List.append_nil]; exact encM_len h
theorem headE_len {s:State}:((headE s).add.flatMap encM).length≤10:=by show ([]:List Y).length≤_; decide
def leavesT (s:State) (k j:Nat):List Dg:=leafE (headE s) :: ((allM s k++(s.lv k).take j).map fun m=>leafE (oneE m))
theorem leavesT_0 (s:State):leavesT s 0 0=[]++[leafE (headE s)]:=by simp [leavesT,allM]
theorem leavesT_snoc {s:State} {k j:Nat} {m:Meta} (h:(s.lv k)[j]? = some m):leavesT s k j++[leafE (oneE m)]=leavesT s k (j+1):=by
 unfold leavesT; rw [List.take_add_one,h]; simp
theorem leavesT_next {s:State} {k j:Nat} (h:(s.lv k).length≤j):leavesT s k j=leavesT s (k+1) 0:=by
 unfold leavesT; rw [List.take_of_length_le h]; simp [allM]
theorem leavesT_5 (s:State):leavesT s 5 0=leavesS s:=by unfold leavesT leavesS; simp
theorem leavesT_len (s:State) (k j:Nat):((leavesT s k j).length:Int)≤1+tot s k+(s.lv k).length:=by
 have h1:=allM_len s k
 unfold leavesT
 simp only [List.length_cons,List.length_map,List.length_append,List.length_take]
 omega
theorem tot_lt {s:State} {k:Nat} (h:k<5):tot s k+(s.lv k).length≤tot s 5:=tot_mono s (show k+1≤5 by omega)
theorem lvs_at (s:State) (hd:Nat→Sh) {k:Nat} {j:Int} (h:k<5) (e:j.toNat=k):((List.range 5).map fun i=>(hd i).val (s.lv i).length)[j.toNat]? = some ((hd k).val (s.lv k).length):=by
 rw [e]
 match k,h with
 | 0,_=>rfl | 1,_=>rfl | 2,_=>rfl | 3,_=>rfl | 4,_=>rfl
theorem leavesS_len (s:State):((leavesS s).length:Int)=1+tot s 5:=by
 have h1:=allM_len s 5
 unfold leavesS
 simp only [List.length_cons,List.length_map]
 omega
structure StL (s:State):Prop where
 few:tot s 5≤100000
 short:∀ i,i<5→∀ m∈s.lv i,m.min.size+m.max.size≤900000000000
structure Fl where
 h:Hd
 n:BitVec 64
 safe:Bool
def Fl.cells (f:Fl):List Value:=f.h.cells++[uv .u64 f.n,.bool f.safe]
def Fl.zero:Fl:=⟨Hd.zero,0,false⟩
def pt (b:Nat):Value:=.pointer (some ⟨b,0,none⟩)
structure Db where
 dk:Nat
 tr:Nat
 root:Nat→Y
 o:Opts
 ep:BitVec 64
 s:State
 hd:Nat→Sh
 next:BitVec 64
 seq:BitVec 64
 turn:BitVec 64
 held:Nat
 lg:Fl
 ol:Fl
 mn:Fl
 now:Nat
def Db.cells (b:Db):List Value :=
 [pt b.dk,pt b.tr]++ba 32 b.root++b.o.cells++[uv .u64 b.ep]++b.s.cells b.hd++[uv .u64 b.next,uv .u64 b.seq,uv .u64 b.turn,.map (some b.held)]++b.lg.cells++b.ol.cells++b.mn.cells++[pt b.now,.pointer none,.int .i64 0,.bool false]
theorem Db.p_next (b:Db) (v:BitVec 64):b.cells.set 56 (uv .u64 v)=Db.cells { b with next:=v }:=rfl
theorem Db.p_seq (b:Db) (v:BitVec 64):b.cells.set 57 (uv .u64 v)=Db.cells { b with seq:=v }:=rfl
theorem Db.p_lg (b:Db) (f:Fl):put b.cells 60 f.cells=Db.cells { b with lg:=f }:=rfl
theorem Db.p_mn (b:Db) (f:Fl):put b.cells 74 f.cells=Db.cells { b with mn:=f }:=rfl
theorem Db.p_s (b:Db) (s:State) (hd:Nat→Sh):put b.cells 42 (s.cells hd)=Db.cells { b with s:=s,hd:=hd }:=rfl
theorem Db.p_ln (b:Db) (n:BitVec 64):b.cells.set 65 (uv .u64 n)=Db.cells { b with lg:={ b.lg with n:=n } }:=rfl
theorem Db.p_ls (b:Db) (s:Bool):b.cells.set 66 (.bool s)=Db.cells { b with lg:={ b.lg with safe:=s } }:=rfl
theorem Db.p_mr (b:Db) (n:BitVec 64):b.cells.set 79 (uv .u64 n)=Db.cells { b with mn:={ b.mn with n:=n } }:=rfl
theorem Fl.one (f:Fl):∀ u∈f.cells,u.oneCell'=true:=by
 intro u hu
 simp only [Fl.cells,Hd.cells,List.cons_append,List.nil_append,List.mem_cons,List.not_mem_nil,or_false] at hu
 rcases hu with rfl|rfl|rfl|rfl|rfl|rfl|rfl<;>rfl
def edF (a b:Int):Edit:=⟨a,b,0,0,fun _=>0,[],[]⟩
def stF (a b:Int):State:=⟨fun _=>[],a,b,0,0,fun _=>0⟩
theorem edF_wf {a b:Int} (ha:u64 a) (hb:u64 b):(edF a b).wf:=by
 have z:u64 0:=⟨by decide,by decide⟩
 exact ⟨ha,hb,z,z,fun _ _=>z,(fun m hm=>absurd hm List.not_mem_nil),(fun g hg=>absurd hg List.not_mem_nil)⟩
theorem stF_R {G:PM} {a b:Int}:StR G (stF a b) hd0:=⟨fun _ _=>SlR.nul,fun _ _=>Nat.zero_le _,fun _ _ m hm=>nomatch hm⟩
theorem bef_F {a b:Int} (ha:0≤a) (hb:0≤b):beforeB State.zero (edF a b)=false:=by
 rw [bef_no (fun i hi=>by show ¬ (0:Int)<0; decide)]
 show (((decide (a<0)||decide (b<0))||decide ((0:Int)<0))||decide ((0:Int)<0))=false
 rw [decide_eq_false (by omega:¬ a<0),decide_eq_false (by omega:¬ b<0)]; rfl
theorem right_F {a b:Int} (ha:0≤a) (hb:a≤b):rightS (stF a b)=true:=by
 refine rightS_true ⟨by show (0:Int)≤_; decide,by show (0:Int)≤_; decide,by show a≤b; omega,by show tot _ 5≤_; simp [tot,stF],fun i hi=>?_,fun x y hx _=>?_⟩
 ·exact ⟨fun m hm=>absurd hm List.not_mem_nil,fun j hj=>absurd hj (by show ¬ j+1<0; omega)⟩
 exact absurd hx (by show ¬ x<0; omega)
theorem stF_set {a b:Int} {k:Nat} (h:k<5):((stF a b).cells hd0).set (0+k*1) (.slice none 0 0)=(stF a b).cells hd0:=by
 match k,h with
 | 0,_=>rfl | 1,_=>rfl | 2,_=>rfl | 3,_=>rfl | 4,_=>rfl
theorem stF_at {a b:Int} {k:Nat} (h:k<5):((stF a b).cells hd0)[0+k*1]? = some (.slice none 0 0):=by
 match k,h with
 | 0,_=>rfl | 1,_=>rfl | 2,_=>rfl | 3,_=>rfl | 4,_=>rfl
theorem nil5 {j:Int} (h:j.toNat<5):((List.range 5).map (fun _=>Value.slice none 0 0))[j.toNat]? = some (.slice none 0 0):=by simp [h]
theorem stF_N {a b:Int} (ha:u64 a) (hb:u64 b):StN (stF a b):=⟨ha,hb,⟨by show (0:Int)≤0; decide,by show (0:Int)<_; decide⟩,⟨by show (0:Int)≤0; decide,by show (0:Int)<_; decide⟩,fun _ _=>⟨by show (0:Int)≤0; decide,by show (0:Int)<_; decide⟩⟩
theorem stF_L {a b:Int}:StL (stF a b):=⟨by show tot _ 5≤_; simp [tot,stF],fun _ _ m hm=>absurd hm List.not_mem_nil⟩
theorem lay_fit {root:Nat→Y} {h:Hd} {n:BitVec 64} {p L:List Y} {e:Int} (hp:p.length≤400) (hl:(L,e)=layP root h n p):e=0∧L.length≤600:=by
 unfold layP at hl
 rw [if_pos (by omega)] at hl
 obtain ⟨h1,h2⟩:=Prod.mk.inj hl
 have hS:(sealL (keyEnc root (headL h)) (keyMac root (headL h)) (nonceF n) (headL h) p).length=p.length+16:=by rw [seal_len]
 generalize sealL (keyEnc root (headL h)) (keyMac root (headL h)) (nonceF n) (headL h) p=S at h1 hS
 have e1:recL S=outL S ((S.length+127) / 128):=rfl
 have:=out_len S ((S.length+127) / 128)
 refine ⟨h2,?_⟩
 rw [h1,e1]
 omega
section
variable {dr:Bool} {mc:Md} {P:Program} {n:Fm} {l:List Oper} {K:Env→PM→Mem→Prop} {i:Nat} {σ:List Nat} {ρ:Env} {G:PM} {μ:Mem}
variable {t:Nat} {p:String} {af:Array Edge}
theorem stp {T T':TypeId} {x y:Operand} {b o:Nat} {v:Value} {cs vs cs':List Value} {μ':Mem} (ho:nth l i=some ⟨none,.store T x y,t,p,af,none⟩) (hx:Ev ρ true x (.pointer (some ⟨b,o,none⟩))) (hy:Ev ρ true y v) (hv:v.cells=vs.toArray) (hz:szT P T=some vs.length)
  (hm:MTake μ (.blk b (cl cs T')) μ') (hl:o+vs.length≤cs.length) (h1:∀ u∈vs,u.oneCell'=true) (hp:put cs o vs=cs') (h:Wo dr mc P n l K σ ρ G (.blk b (cl cs' T') :: μ')):Wo dr mc P n l K (i :: σ) ρ G μ:=by
 subst hp; exact st ho hx hy hv hz hm hl h1 h
end
section
variable {mc:Md} {P:Program} {n:Fm} {l:List Oper} {K:Env→PM→Mem→Prop} {i:Nat} {σ:List Nat} {ρ:Env} {G:PM} {μ:Mem}
variable {d t:Nat} {p:String} {af:Array Edge}
theorem kpc {f:FuncId} {xs:List Operand} {tys:Array TypeId} {vs:List Value} {post:PM→Mem→Value→Prop} {die:List PanicEntry→Prop} {dd:Option Nat} (ho:nth l i=some ⟨dd,.call { callee:=.value (.func f),args:=xs.toArray,argTypes:=tys },t,p,af,none⟩) (hf:goFn P f=true)
  (hv:∀ a,Ag n ρ a→true=true→xs.map a.eval=vs) (hk:Cp P f vs.toArray G [] post die) (hx:∀ ch G' ρ' μ',PM.le G G'→die ch→(∀ i,look ρ' i=look ρ i)→μ'.Perm μ→n.die ch ρ' G' μ')
  (h:∀ v G' μ',PM.le G G'→post G' μ' v→Wo false mc P n l K σ (lay ρ dd true v) G' (μ'++μ)):Wo false mc P n l K (i :: σ) ρ G μ :=
 .callp (μ₁:=[]) rfl ho .no (.refl _) (fun a w ha=>run_call hf (hv a ha rfl) _ _ _ _ _ w) hk hx h
theorem kpo {f:FuncId} {xs:List Operand} {tys:Array TypeId} {vs:List Value} {μ₁ μ₂:Mem} {post:PM→Mem→Value→Prop} {die:List PanicEntry→Prop} {dd:Option Nat} (ho:nth l i=some ⟨dd,.call { callee:=.value (.func f),args:=xs.toArray,argTypes:=tys },t,p,af,none⟩) (hf:goFn P f=true)
  (hv:∀ a,Ag n ρ a→true=true→xs.map a.eval=vs) (hp:μ.Perm (μ₁++μ₂)) (hk:Cp P f vs.toArray G μ₁ post die) (hx:∀ ch G' ρ' μ',PM.le G G'→die ch→(∀ i,look ρ' i=look ρ i)→μ'.Perm μ₂→n.die ch ρ' G' μ')
  (h:∀ v G' μ',PM.le G G'→post G' μ' v→Wo false mc P n l K σ (lay ρ dd true v) G' (μ'++μ₂)):Wo false mc P n l K (i :: σ) ρ G μ :=
 .callp rfl ho .no hp (fun a w ha=>run_call hf (hv a ha rfl) _ _ _ _ _ w) hk hx h
theorem pnc {x:Operand} {T:TypeId} {v:Value} {dd:Option Nat} (ho:nth l i=some ⟨dd,.panic x,t,p,af,none⟩) (hx:ev ρ x=some (true,.iface T v)) (hd:∀ ρ' μ',(∀ i,look ρ' i=look ρ i)→μ'.Perm μ→n.die [{ v:=.iface T v,recovered:=false }] ρ' G μ'):Wo false mc P n l K (i :: σ) ρ G μ :=
 .pan rfl ho .no (fun a w ha=>by simp [execOp,ha.eval hx rfl,Instr.panic,goPanic]) hd
end
theorem upon_mono {P:Program} {o:Oper} {a:Act} {next next':Act→World→Prop} {Q Q':Exit→Act→World→Prop} (h1:∀ a w,next a w→next' a w) (h2:∀ ch a w,Q (.panic ch) a w→Q' (.panic ch) a w) (h3:LetsOut Q→LetsOut Q') :
  ∀ r,o.upon P a next Q r→o.upon P a next' Q' r:=by
 intro r h
 unfold Oper.upon at h ⊢
 split at h
 ·exact h1 _ _ h
 ·exact h1 _ _ h
 ·exact h1 _ _ h
 ·refine h.mono fun e w' he=>?_
  cases e with
  | returned v=>exact h1 _ _ he
  | panicked ch=>exact h2 _ _ _ he
  | outgrown=>exact h3 he
 ·exact h.mono fun v w' he=>h1 _ _ he
 ·exact h2 _ _ _ h
 exact h.elim
theorem wpOps_append {P:Program} {ops:Array Oper} {Q:Exit→Act→World→Prop} {σ2:List Nat}:∀ {σ1:List Nat} {a:Act} {w:World},wpOps P ops (Exit.then (wpOps P ops Q σ2) Q) σ1 a w→wpOps P ops Q (σ1++σ2) a w
 | [],a,w,h=>h
 | i :: σ1,a,w,h=>by
  simp only [wpOps,List.cons_append] at h ⊢
  cases ho:ops[i]? with
  | none=>simp only [ho] at h; exact wpOps_append h
  | some o =>
   simp only [ho] at h
   dsimp only
   split at h
   ·rename_i hw
    rw [if_pos hw]
    rcases h with h | ⟨h,hl⟩
    ·exact .inl (upon_mono (fun a w h=>wpOps_append h) (fun ch a w h=>h) (fun h=>h) _ h)
    ·exact .inr ⟨h,hl⟩
   ·rename_i hw
    rw [if_neg hw]; exact wpOps_append h
theorem Qof_same {X Y:Cx} (h1:X.P=Y.P) (h2:X.fn=Y.fn) (h3:X.R=Y.R):∀ k,Qof X k=Qof Y k
 | []=>by simp only [Qof,h1,h2,h3]
 | .code c :: k=>by simp only [Qof,Qof_same h1 h2 h3 k,h1]
 | .blk id :: k=>by simp only [Qof,Qof_same h1 h2 h3 k]
 | .lp I :: k=>by simp only [Qof,Qof_same h1 h2 h3 k]
structure DefOp (P:Program) (n:Fm) (l:List Oper) (j:Nat) (d:Deferred) (ρ:Env):Prop where
 of:∃ o,nth l j=some o∧o.guard=none∧o.dst=none∧∀ a w,Ag n ρ a→(execOp a.eval o).run P w=.ok (.defer d) w
theorem We.finD {X:Cx} {ρ:Env} {G:PM} {μ:Mem} (h:∀ a w,Ag X.n ρ a→Tr X.G0 X.K0 X.w0 G μ w→Leaves X.P X.fn a.tmps X.R X.n.ds .returning w):We X .ret [] ρ G μ :=
 ⟨fun a w ha ht=>by
  show Leaves X.P X.fn a.tmps X.R a.defers .returning w
  rw [ha.defers]; exact h a w ha ht⟩
def ifT (P:Program) (T:TypeId):Bool:=match P.underlying T with | some (.interface _)=>true | _=>false
theorem ifT_some {P:Program} {T:TypeId} (h:ifT P T=true):∃ q,P.underlying T=some (.interface q):=by
 unfold ifT at h
 split at h
 ·rename_i q hq; exact ⟨q,hq⟩
 ·cases h
theorem Rs.congr {P:Program} {ρ ρ':Env} {G:PM} {μ:Mem} {rs:List ResultVar} {vs:List Value} (h:Rs P ρ G μ rs vs) (e:∀ i,look ρ' i=look ρ i):Rs P ρ' G μ rs vs:=by
 induction h with
 | nil=>exact .nil
 | tmp h _ ih=>exact .tmp ((e _).trans h) ih
 | cell h hw _ ih=>exact .cell ((e _).trans h) hw ih
structure DQ where
 f:FuncId
 args:List Value
 vc:List Value
def DQ.d (q:DQ):Deferred:={ target:=.fn (.func q.f) q.vc.toArray,args:=q.args.toArray }
def Quiet (P:Program) (G:PM) (μ:Mem) (q:DQ):Prop :=
 goFn P q.f=true∧∀ w,Sat G μ w→CallsD P q.f (q.args++q.vc).toArray .returning w (fun e u' w'=>(∃ v,e=.returned v)∧u'=.returning∧w'=w)
theorem leaves_quiet {P:Program} {fn:Func} {tmps:Array Value} {R:Ending→World→Prop} {G:PM} {μ:Mem} {w:World} (hs:Sat G μ w) (hr:Leaves P fn tmps R [] .returning w) :
  ∀ {ds:List DQ},(∀ q∈ds,Quiet P G μ q)→Leaves P fn tmps R (ds.map DQ.d) .returning w
 | [],_=>hr
 | q :: ds,h=>by
  have hq:=h q (List.mem_cons_self ..)
  refine leaves_cons (by simp) (f:=q.f) (args:=(q.args++q.vc).toArray) (by simp [invoke,run_callFunc hq.1]) ((hq.2 w hs).mono ?_)
  rintro e u' w' ⟨⟨v,rfl⟩,rfl,rfl⟩
  exact leaves_quiet hs hr fun q' hq'=>h q' (List.mem_cons_of_mem _ hq')
def Cx.dfs (X:Cx) (d:Deferred) (die1:List PanicEntry→Env→PM→Mem→Prop)
  (ok1:∀ ch ρ G μ a w,die1 ch ρ G μ→Ag ⟨X.n.n,d :: X.n.ds,die1⟩ ρ a→Tr X.G0 X.K0 X.w0 G μ w→Leaves X.P X.fn a.tmps (RR X.post X.die X.G0 X.K0 X.w0) a.defers (.panicking ch) w):Cx :=
 ⟨X.P,X.fn,⟨X.n.n,d :: X.n.ds,die1⟩,X.G0,X.K0,X.w0,X.post,X.die,ok1⟩
theorem Wk.defers {X:Cx} {k:List KI} {ρ:Env} {G:PM} {μ:Mem} {id:Nat} {l:List Oper} (σ1:List Nat) (j:Nat) (d:Deferred) (die1:List PanicEntry→Env→PM→Mem→Prop)
  (ok1:∀ ch ρ G μ a w,die1 ch ρ G μ→Ag ⟨X.n.n,d :: X.n.ds,die1⟩ ρ a→Tr X.G0 X.K0 X.w0 G μ w→Leaves X.P X.fn a.tmps (RR X.post X.die X.G0 X.K0 X.w0) a.defers (.panicking ch) w)
  (hσ:List.range l.length=σ1++[j]) (hds:dstAll X.n l=true)
  (h:Wo false ⟨false,false⟩ X.P X.n l (fun ρ G μ=>DefOp X.P X.n l j d ρ∧We (X.dfs d die1 ok1) .normal k ρ G μ) σ1 ρ G μ):Wk X (.region id l.toArray false) k ρ G μ:=by
 refine ⟨fun a w ha ht=>wp_region ?_⟩
 have hr:List.range l.toArray.size=σ1++[j]:=by simpa using hσ
 rw [hr]
 refine wpOps_append ?_
 refine Wo.run (Q:=Exit.then (wpOps X.P l.toArray (Qof X k) [j]) (Qof X k)) (dstAll_ok hds) (fun _=>Qof_panic X k) (fun ρ G μ hK a w ha ht=>?_) _ _ _ _ a w h ha ht
 obtain ⟨⟨o,ho,hg,hdst,hrun⟩,hwe⟩:=hK
 show wpOps X.P l.toArray (Qof X k) [j] a w
 simp only [wpOps,nth_eq,ho]
 rw [if_pos (by simp [Region.wanted,hg])]
 refine .inl ?_
 unfold Oper.wp
 rw [hrun a w ha]
 simp only [Oper.upon,wpOps,hdst,Act.put]
 have:=hwe.out { a with defers:=d :: a.defers } w ⟨ha.size,by show d :: a.defers=d :: X.n.ds; rw [ha.defers],ha.get⟩ ht
 rwa [Qof_same (X:=X.dfs d die1 ok1) (Y:=X) rfl rfl rfl k] at this
theorem DefOp.clo {P:Program} {n:Fm} {l:List Oper} {j:Nat} {ρ:Env} {f:FuncId} {x:Operand} {vc:List Value} {tys:Array TypeId} {t:Nat} {p:String} {af:Array Edge}
  (ho:nth l j=some ⟨none,.defer { callee:=.value x,args:=#[],argTypes:=tys },t,p,af,none⟩) (hx:ev ρ x=some (true,.func (.func f) #[] vc.toArray)):DefOp P n l j (DQ.d ⟨f,[],vc⟩) ρ :=
 ⟨⟨_,ho,rfl,rfl,fun a w ha=>by
  have hfn:a.eval x=.func (.func f) #[] vc.toArray:=ha.eval hx rfl
  simp [execOp,resolve,Deferred.ofValue,hfn,DQ.d]⟩⟩
theorem We.finQ {X:Cx} {ρ:Env} {G:PM} {μ μ':Mem} {vs:List Value} {rs:List ResultVar} (ds:List DQ) (hds:X.n.ds=ds.map DQ.d)
  (hq:∀ q∈ds,Quiet X.P G μ q) (hr:X.fn.results=rs.toArray) (h:Rs X.P ρ G μ rs vs) (hM:MSub μ' μ) (hp:X.post G μ' (tup vs)):We X .ret [] ρ G μ :=
 We.finD fun a w ha ht=>by
  rw [hds]
  exact leaves_quiet ht.sat ⟨_,results_run (by rw [hr]; exact h) ha ht.sat,.inl ⟨_,G,μ',rfl,hM.tr ht,hp⟩⟩ hq
def zro {α:Type}:α→Nat:=fun _=>0
theorem zro_lt {α:Type} (y:α):zro y<1:=Nat.zero_lt_one
theorem Wk.jn {X:Cx} {k:List KI} {ρ:Env} {G:PM} {μ:Mem} {c:Code} {α:Type} (E:α→Env) (M:α→Mem) (F:α→PM→Prop) (ρc:Env) (μc:Mem) (hE:ESub ρc ρ) (hM:MSub μc μ)
  (h:Wk X c (.lp (fun a w=>∃ y,zro y<1∧Inv X G (fun x=>E x++ρc) (fun x=>M x++μc) F y a w) :: k) ρ G μ)
  (h2:∀ y G',PM.le G G'→F y G'→We X .normal k (E y++ρc) G' (M y++μc)):Wk X c k ρ G μ :=
 ⟨fun a w ha ht=>wp_mono (h.out a w ha ht) fun e a w hq=>by
  cases e with
  | normal =>
   obtain ⟨y,_,G',hle,hf,ha,ht⟩:=hq
   exact (h2 y G' hle hf).out a w ha ht
  | _=>exact hq⟩
section
variable {dr:Bool} {mc:Md} {P:Program} {n:Fm} {l:List Oper} {K:Env→PM→Mem→Prop} {i:Nat} {σ:List Nat} {ρ:Env} {G:PM} {μ:Mem}
variable {d t:Nat} {p:String} {af:Array Edge}
theorem apZ {T E sz by':Nat} {x y:Operand} (ho:nth l i=some ⟨some d,.call { callee:=.builtin .append,args:=#[x,y],argTypes:=#[T,T] },t,p,af,none⟩)
  (hT:slE P T=some (E,sz,by')) (hx:Ev ρ true x (.slice none 0 0)) (hy:Ev ρ true y (.slice none 0 0))
  (h:Wo dr mc P n l K σ ((d,true,.slice none 0 0) :: ρ) G μ) (hmc:mc.a=false∨dr=false:=by first|exact .inl rfl|exact .inr rfl):Wo dr mc P n l K (i :: σ) ρ G μ:=by
 obtain ⟨hu,inf,hi,rfl,rfl⟩:=slE_some hT
 refine .act (μ₁:=[]) (μ₂:=μ) (post:=fun G' μ' v'=>G'=G∧v'=.slice none 0 0∧μ'=[]) ho (by rcases hmc with h | h<;>simp [kindOf,h]) .no (.refl _) (fun a w ha hs0=>.inl ?_) ?_
 ·exact ⟨.slice none 0 0,w,G,[],.inl (by simp [execOp,resolve,invoke,builtin,hx.eval ha rfl,hy.eval ha rfl,Builtin.append_,run_underlying hu,sizeOf,typeInfo,hi,Builtin.lenOf,Builtin.firstCells,loadCells,loadCellsFrom]),Tr.begin (Sat.left (μ:=[]) hs0),rfl,rfl,rfl⟩
 rintro v' G' μ'' _ ⟨rfl,rfl,rfl⟩
 exact h
end
theorem DefOp.fn {P:Program} {n:Fm} {l:List Oper} {j:Nat} {ρ:Env} {f:FuncId} {xs:List Operand} {vs:List Value} {tys:Array TypeId} {t:Nat} {p:String} {af:Array Edge}
  (ho:nth l j=some ⟨none,.defer { callee:=.value (.func f),args:=xs.toArray,argTypes:=tys },t,p,af,none⟩) (hv:∀ a,Ag n ρ a→true=true→xs.map a.eval=vs):DefOp P n l j (DQ.d ⟨f,vs,[]⟩) ρ :=
 ⟨⟨_,ho,rfl,rfl,fun a w ha=>by
  have h1:=hv a ha rfl
  have hfn:a.eval (.func f)=.func (.func f) #[] #[]:=rfl
  simp [execOp,resolve,Deferred.ofValue,hfn,DQ.d]
  rw [← h1]⟩⟩
theorem le_add {G:PM} {b:Nat} {o:Obj} (h:G b=none):PM.le G (G.add b o):=fun c u hc=>by
 unfold PM.add
 by_cases e:c=b
 ·subst e; rw [h] at hc; cases hc
 ·rw [if_neg e]; exact hc
theorem add_ne {G:PM} {b c:Nat} {o:Obj} (h:c≠b):G.add b o c=G c:=by unfold PM.add; rw [if_neg h]
theorem mtq4 {μ μ1 μ2 μ3 μ4:Mem} {r1 r2 r3 r4:Res} (h1:MTake μ r1 μ1) (h2:MTake μ1 r2 μ2) (h3:MTake μ2 r3 μ3) (h4:MTake μ3 r4 μ4):μ.Perm ([r1,r2,r3,r4]++μ4):=h1.perm.trans ((mtk3 h2 h3 h4).cons _)
theorem mtq5 {μ μ1 μ2 μ3 μ4 μ5:Mem} {r1 r2 r3 r4 r5:Res} (h1:MTake μ r1 μ1) (h2:MTake μ1 r2 μ2) (h3:MTake μ2 r3 μ3) (h4:MTake μ3 r4 μ4) (h5:MTake μ4 r5 μ5):μ.Perm ([r1,r2,r3,r4,r5]++μ5):=h1.perm.trans ((mtq4 h2 h3 h4 h5).cons _)
theorem mtq6 {μ μ1 μ2 μ3 μ4 μ5 μ6:Mem} {r1 r2 r3 r4 r5 r6:Res} (h1:MTake μ r1 μ1) (h2:MTake μ1 r2 μ2) (h3:MTake μ2 r3 μ3) (h4:MTake μ3 r4 μ4) (h5:MTake μ4 r5 μ5) (h6:MTake μ5 r6 μ6):μ.Perm ([r1,r2,r3,r4,r5,r6]++μ6):=h1.perm.trans ((mtq5 h2 h3 h4 h5 h6).cons _)
theorem lend1 {P:Program} {f:FuncId} {args:Array Value} {G:PM} {μ:Mem} {b:Nat} {o:Obj} {Q:Mem→Value→Prop} (h:∀ G2,PM.le G G2→PB G2 b o→Ct P f args G2 μ (fun _ μ' u=>Q μ' u)) :
  Ct P f args G (.blk b o :: μ) (fun _ μ' u=>∃ ν,μ'=.blk b o :: ν∧Q ν u):=fun w hs =>
 Ct.lend (h _ (le_add (hs.apart b (by simp [keys,Res.keys]))) ⟨PM.add_same _ _ _⟩) w hs
theorem lend3 {P:Program} {f:FuncId} {args:Array Value} {G:PM} {μ:Mem} {b1 b2 b3:Nat} {o1 o2 o3:Obj} {Q:Mem→Value→Prop}
  (h:∀ G2,PM.le G G2→PB G2 b1 o1→PB G2 b2 o2→PB G2 b3 o3→Ct P f args G2 μ (fun _ μ' u=>Q μ' u)) :
  Ct P f args G (.blk b1 o1 :: .blk b2 o2 :: .blk b3 o3 :: μ) (fun _ μ' u=>∃ ν,μ'=.blk b1 o1 :: .blk b2 o2 :: .blk b3 o3 :: ν∧Q ν u):=fun w hs=>by
 have hnd:=hs.nodup
 have hk:keys (.blk b1 o1 :: .blk b2 o2 :: .blk b3 o3 :: μ)=b1 :: b2 :: b3 :: keys μ:=by simp [keys,Res.keys]
 rw [hk] at hnd
 have h12:b1≠b2:=fun e=>(List.nodup_cons.1 hnd).1 (by rw [e]; exact List.mem_cons_self ..)
 have h13:b1≠b3:=fun e=>(List.nodup_cons.1 hnd).1 (by rw [e]; exact List.mem_cons_of_mem _ (List.mem_cons_self ..))
 have h23:b2≠b3:=fun e=>(List.nodup_cons.1 (List.nodup_cons.1 hnd).2).1 (by rw [e]; exact List.mem_cons_self ..)
 have g1:G b1=none:=hs.apart b1 (by rw [hk]; exact List.mem_cons_self ..)
 have g2:G b2=none:=hs.apart b2 (by rw [hk]; exact List.mem_cons_of_mem _ (List.mem_cons_self ..))
 have g3:G b3=none:=hs.apart b3 (by rw [hk]; exact List.mem_cons_of_mem _ (List.mem_cons_of_mem _ (List.mem_cons_self ..)))
 have hl:PM.le G (((G.add b1 o1).add b2 o2).add b3 o3):=((le_add g1).trans (le_add (by rw [add_ne h12.symm]; exact g2))).trans (le_add (by rw [add_ne h23.symm,add_ne h13.symm]; exact g3))
 have h0:=h (((G.add b1 o1).add b2 o2).add b3 o3) hl ⟨by rw [add_ne h13,add_ne h12]; exact PM.add_same _ _ _⟩ ⟨by rw [add_ne h23]; exact PM.add_same _ _ _⟩ ⟨PM.add_same _ _ _⟩
 exact (Ct.lend (Q:=fun μ' u=>∃ ν,μ'=.blk b2 o2 :: .blk b3 o3 :: ν∧Q ν u) ((Ct.lend (Q:=fun μ' u=>∃ ν,μ'=.blk b3 o3 :: ν∧Q ν u) (Ct.lend h0)).mono fun G' μ' u ⟨ν,e,ν2,e2,q⟩=>⟨ν2,by rw [e,e2],q⟩)).mono (fun G' μ' u ⟨ν,e,ν2,e2,q⟩=>⟨ν2,by rw [e,e2],q⟩) w hs
theorem Ct.giveR {P:Program} {G:PM} {μ:Mem} {f:FuncId} {args:Array Value} {E:Nat} {v:Value} {xs:List Y} {post:PM→Mem→Value→Prop}
  (h:∀ (s:Sh) (G2:PM),PM.le G G2→v=s.val xs.length→SlR G2 1 encY s xs→Ct P f args G2 μ post):Ct P f args G (rB v E xs :: μ) post:=by
 intro w hs
 have hrow:w.ownsRow 0 E 1 v xs.length (xs.map V):=hs.own _ (List.mem_cons_self ..)
 rcases hrow.2 with ⟨rfl,h0⟩ | ⟨g,cap,cur,rfl,_,hg,hnc,hcm,hcs,htake⟩
 ·have hx:xs=[]:=List.eq_nil_of_length_eq_zero h0
  subst hx
  have hk:keys (rB (.slice none 0 0) E [] :: μ)=keys μ:=by simp [keys,Res.keys,Value.ownBlock]
  have hs2:Sat G μ w:=⟨hs.sub,fun r hr=>hs.own r (List.mem_cons_of_mem _ hr),by rw [← hk]; exact hs.apart,by rw [← hk]; exact hs.nodup⟩
  have:=h ⟨none,0⟩ G (PM.le.refl G) rfl SlR.nul w hs2
  rw [← hk] at this; exact this
 have hk:keys (rB (.slice (some ⟨g,0,none⟩) xs.length cap) E xs :: μ)=keys (.blk g (.cells cur E (0,0)) :: μ):=by simp [keys,Res.keys,Value.ownBlock]
 have hs2:Sat G (.blk g (.cells cur E (0,0)) :: μ) w:=by
  refine ⟨hs.sub,fun r hr=>?_,by rw [← hk]; exact hs.apart,by rw [← hk]; exact hs.nodup⟩
  rcases List.mem_cons.1 hr with rfl | hr
  ·exact hg
  exact hs.own r (List.mem_cons_of_mem _ hr)
 have hGg:G g=none:=hs2.apart g (by simp [keys,Res.keys])
 have hsl:SlR (G.add g (.cells cur E (0,0))) 1 encY ⟨some ⟨g,0,none⟩,cap⟩ xs:=by
  refine SlR.ofRow (fun _ _=>rfl) hnc (fun _=>rfl) ?_
  rw [flat_V]
  intro j u hj w' hs'
  show w'.cell? ⟨g,0+j,none⟩=some u
  rw [Nat.zero_add,cell_of_row w' g j cur E (0,0) (hs' g _ (PM.add_same G g _))]
  rw [← htake,List.getElem?_take] at hj
  split at hj
  ·simpa using hj
  cases hj
 have:=Ct.give (fun hle=>h ⟨some ⟨g,0,none⟩,cap⟩ _ hle rfl hsl) w hs2
 rw [← hk] at this; exact this
theorem fget_nil {nm:ByteArray}:∀ {F:List Fi},nm∉F.map Fi.nm→fget nm F=none
 | [],_=>rfl
 | f :: r,h=>by
  rw [List.map_cons,List.mem_cons,not_or] at h
  rw [fget,if_neg (fun e=>h.1 e.symm)]; exact fget_nil h.2
theorem fget_has {nm:ByteArray}:∀ {F:List Fi},nm∈F.map Fi.nm→∃ f,fget nm F=some f
 | [],h=>by cases h
 | f :: r,h=>by
  rw [fget]
  by_cases q:f.nm=nm
  ·rw [if_pos q]; exact ⟨f,rfl⟩
  ·rw [if_neg q]
   rw [List.map_cons,List.mem_cons] at h
   exact fget_has (h.resolve_left fun e=>q e.symm)
def rmv (x:ByteArray):List ByteArray→List ByteArray
 | []=>[]
 | y :: r=>if y=x then r else y :: rmv x r
theorem fdel_er {nm:ByteArray}:∀ {F:List Fi},(fdel nm F).map Fi.nm=rmv nm (F.map Fi.nm)
 | []=>rfl
 | f :: r=>by
  rw [fdel,List.map_cons,rmv]
  by_cases q:f.nm=nm
  ·rw [if_pos q,if_pos q]
  ·rw [if_neg q,if_neg q,List.map_cons,fdel_er]
theorem sz3:(nmB 3 0).size=15:=by kernel_rfl
theorem sz5:(nmB 5 0).size=11:=by kernel_rfl
theorem sz4:(nmB 4 0).size=7:=by kernel_rfl
theorem sz1:(nmB 1 1).size=10:=by kernel_rfl
theorem nm_good3:goodN (nmB 3 0):=⟨by rw [sz3]; decide,by rw [sz3]; decide⟩
theorem nm_good1:goodN (nmB 1 1):=⟨by rw [sz1]; decide,by rw [sz1]; decide⟩
theorem ne_sz {a b:ByteArray} {m k:Nat} (h1:a.size=m) (h2:b.size=k) (h:m≠k):a≠b:=fun e=>h (by rw [← h1,←h2,e])
theorem nm_ne35:nmB 5 0∉[nmB 3 0]:=fun h=>ne_sz sz5 sz3 (by decide) (List.mem_singleton.1 h)
theorem nm_ne34:nmB 4 0∉[nmB 3 0]:=fun h=>ne_sz sz4 sz3 (by decide) (List.mem_singleton.1 h)
theorem nm_ne1:nmB 1 1∉[nmB 3 0,nmB 4 0]:=fun h=>by
 rcases List.mem_cons.1 h with h | h
 ·exact ne_sz sz1 sz3 (by decide) h
 ·exact ne_sz sz1 sz4 (by decide) (List.mem_singleton.1 h)
theorem rmv_MT:rmv (nmB 5 0) [nmB 3 0,nmB 5 0]=[nmB 3 0]:=by
 rw [rmv,if_neg (ne_sz sz3 sz5 (by decide)),rmv,if_pos rfl]
theorem wr_facts {F:List Fi} {f:Fi} {clk n:Nat} {nm:ByteArray} (hD:DkR F clk) (h1:f.nm=nm) (h2:f.n=n) (h3:f.born=clk) (hab:fget nm F=none) (hg:nm.size≤100) (hs:szF F+n≤1000000000) (hc:F.length<100) :
  DkR (fsy nm (F++[f])) (clk+1)∧(fsy nm (F++[f])).map Fi.nm=F.map Fi.nm++[nm]∧szF (fsy nm (F++[f]))=szF F+n:=by
 have hD2:DkR (F++[f]) (clk+1):=hD.app h3 (by omega) (by rw [h1]; exact hab) (by rw [h1]; exact hg) (by omega)
 refine ⟨hD2.sy,?_,?_⟩
 ·rw [fsy_nm,List.map_append,List.map_cons,List.map_nil,h1]
 rw [fsy_sz.1,szF_app]; simp only [szF]; omega
theorem rn_facts {F:List Fi} {f:Fi} {clk:Nat} {nm to:ByteArray} (hD:DkR F clk) (hf:fget nm F=some f) (hab:fget to (fdel nm F)=none) (hg:to.size≤100) (hc:F.length<100) :
  DkR (fdel nm F++[{ f with nm:=to,born:=clk }]) (clk+1)∧(fdel nm F++[{ f with nm:=to,born:=clk }]).map Fi.nm=rmv nm (F.map Fi.nm)++[to]∧szF (fdel nm F++[{ f with nm:=to,born:=clk }])=szF F:=by
 have hz:=(fdel_sz hf).1
 have hfw:=hD.few
 have hl:=(fdel_nm (nm:=nm) (F:=F)).2
 refine ⟨(hD.del hf).app rfl (by show szF (fdel nm F)+f.n≤_; omega) hab hg (by omega),?_,?_⟩
 ·rw [List.map_append,fdel_er]; rfl
 rw [szF_app]; simp only [szF]; omega
def Db.new (dk tr:Nat) (root:Nat→Y) (o:Opts) (ep:BitVec 64) (held now:Nat):Db:=⟨dk,tr,root,o,ep,State.zero,hd0,0#64,0#64,0#64,held,Fl.zero,Fl.zero,Fl.zero,now⟩
def flM (ep:BitVec 64) (n:BitVec 64):Fl:=⟨⟨3#8,0#8,0#64,ep,0#64⟩,n,false⟩
def flL (ep:BitVec 64) (n:BitVec 64):Fl:=⟨⟨1#8,0#8,0#64,ep,1#64⟩,n,false⟩
def Db.d1 (dk tr:Nat) (root:Nat→Y) (o:Opts) (ep:BitVec 64) (held now:Nat):Db:={ Db.new dk tr root o ep held now with next:=1#64,mn:=flM ep 0#64 }
def Db.d2 (dk tr:Nat) (root:Nat→Y) (o:Opts) (ep:BitVec 64) (held now:Nat):Db:={ Db.new dk tr root o ep held now with next:=2#64,mn:=flM ep 0#64,lg:=flL ep 0#64 }
def Db.d3 (dk tr:Nat) (root:Nat→Y) (o:Opts) (ep:BitVec 64) (held now:Nat):Db:={ Db.new dk tr root o ep held now with next:=2#64,mn:=flM ep 1#64,lg:=flL ep 0#64,s:=stF 1 2 }
theorem DkR0:DkR [] 0:=⟨List.nodup_nil,List.nodup_nil,(fun f hf=>absurd hf List.not_mem_nil),by decide,(fun f hf=>absurd hf List.not_mem_nil),by decide⟩
theorem u64_1:u64 1:=⟨by decide,by decide⟩
theorem u64_2:u64 2:=⟨by decide,by decide⟩
theorem edF_set:((edF 1 0).cells ⟨none,0⟩ ⟨none,0⟩).set 9 (.slice none 0 0)=(edF 1 0).cells ⟨none,0⟩ ⟨none,0⟩:=rfl
theorem edF_nx:((edF 1 0).cells ⟨none,0⟩ ⟨none,0⟩).set 1 (uv .u64 2#64)=(edF 1 2).cells ⟨none,0⟩ ⟨none,0⟩:=rfl
theorem wayZ {us:ByteArray} {q:BitVec 64}:WayN [Nd.z] us q (fun _=>0):=by
 have h0:∀ k,nxt [Nd.z] 0 k=0:=fun _=>rfl
 refine ⟨rfl,fun k _=>Nat.zero_lt_one,fun k _=>.inl ⟨rfl,.inl rfl⟩,fun a ha k _=>?_⟩
 obtain rfl:a=0:=by simpa using ha
 rw [h0]; exact Nat.zero_lt_one
structure Opn where
 kind:Y
 user:ByteArray
 value:ByteArray
def Opn.cells (o:Opn):List Value:=[V o.kind,.string o.user,.string o.value]
def Opn.val (o:Opn):Value:=.agg o.cells.toArray
def Opn.zero:Opn:=⟨0,ByteArray.empty,ByteArray.empty⟩
theorem Opn.len (o:Opn):o.cells.length=3:=rfl
theorem Opn.one (o:Opn):∀ u∈o.cells,u.oneCell'=true:=by
 intro u hu
 simp only [Opn.cells,List.mem_cons,List.not_mem_nil,or_false] at hu
 rcases hu with rfl|rfl|rfl<;>rfl
theorem opns_one (l:List Opn):∀ u∈l.flatMap Opn.cells,u.oneCell'=true:=fun u hu=>by
 obtain ⟨x,_,h⟩:=List.mem_flatMap.1 hu; exact x.one u h
structure Opn.ok (o:Opn):Prop where
 kind:o.kind=1#8∨(o.kind=0#8∧o.value.toList=[])
 user:o.user.size≤10
 value:o.value.size≤10
def entE (q:BitVec 64) (o:Opn):Ent:=⟨o.user,q,o.kind,o.value⟩
theorem right_op {q:BitVec 64} {o:Opn} (h:o.ok) (hq:q.toNat≤1000):rightE (entE q o)=true:=by
 have h1:=h.user; have h2:=h.value
 unfold rightE entE
 rcases h.kind with hk | ⟨hk,hv⟩
 ·simp only [hk]
  rw [if_neg (by decide)]
  simp only [Bool.and_eq_true,decide_eq_true_eq]
  exact ⟨⟨⟨by omega,by omega⟩,by omega⟩,trivial⟩
 ·simp only [hk,hv]
  rw [if_pos trivial]
  simp only [Bool.and_eq_true,decide_eq_true_eq]
  exact ⟨⟨⟨by omega,by omega⟩,by omega⟩,rfl⟩
def entsF:Nat→List Opn→List Ent
 | _,[]=>[]
 | j,o :: r=>entE (BitVec.ofNat 64 (j+1)) o :: entsF (j+1) r
theorem entsF_len:∀ {l:List Opn} {j:Nat},(entsF j l).length=l.length
 | [],_=>rfl
 | o :: r,j=>by rw [entsF,List.length_cons,List.length_cons,entsF_len]
theorem entsF_at:∀ {l:List Opn} {j k:Nat} {o:Opn},l[k]? = some o→(entsF j l)[k]? = some (entE (BitVec.ofNat 64 (j+k+1)) o)
 | [],_,_,_,h=>by simp at h
 | x :: r,j,0,o,h=>by simp only [List.getElem?_cons_zero,Option.some.injEq] at h; subst h; rfl
 | x :: r,j,k+1,o,h=>by
  rw [List.getElem?_cons_succ] at h
  rw [entsF,List.getElem?_cons_succ,entsF_at h]
  rw [show j+1+k+1=j+(k+1)+1 by omega]
theorem entsF_snoc:∀ {l:List Opn} {j k:Nat} {o:Opn},l[k]? = some o→entsF j (l.take k)++[entE (BitVec.ofNat 64 (j+k+1)) o]=entsF j (l.take (k+1))
 | [],_,_,_,h=>by simp at h
 | x :: r,j,0,o,h=>by simp only [List.getElem?_cons_zero,Option.some.injEq] at h; subst h; rfl
 | x :: r,j,k+1,o,h=>by
  rw [List.getElem?_cons_succ] at h
  rw [List.take_succ_cons,List.take_succ_cons,entsF,entsF,List.cons_append]
  congr 1
  have:=entsF_snoc (j:=j+1) h
  rw [← this,show j+1+k+1=j+(k+1)+1 by omega]
theorem bv_succ {k:Nat}:BitVec.ofNat 64 (k+1)+1#64=BitVec.ofNat 64 (k+1+1):=by
 apply BitVec.eq_of_toNat_eq
 simp only [BitVec.toNat_add,BitVec.toNat_ofNat]
 omega
theorem hgt_t {k j:Nat} (hk:k<2) (hj:j≤k) (h:(decide (((BitVec.ofNat 64 (k+1) >>> j).toNat:Int) > 0)&&(((BitVec.ofNat 64 (k+1) >>> j) &&& 1#64).toNat:Int) == 0)=true):j+1≤k:=by
 match k,j,hk,hj with
 | 0,0,_,_=>exact absurd h (by decide)
 | 1,0,_,_=>decide
 | 1,1,_,_=>exact absurd h (by decide)
theorem hgt_f {k j:Nat} (hk:k<2) (hj:j≤k) (h:(decide (((BitVec.ofNat 64 (k+1) >>> j).toNat:Int) > 0)&&(((BitVec.ofNat 64 (k+1) >>> j) &&& 1#64).toNat:Int) == 0)=false):j=k:=by
 match k,j,hk,hj with
 | 0,0,_,_=>rfl
 | 1,0,_,_=>exact absurd h (by decide)
 | 1,1,_,_=>rfl
theorem strl_len (s:ByteArray) (h:s.size<18446744073709551616):(strL (yb s)).length≤s.size+10:=by
 have:=num_len10 (n:=(yb s).length) (by rw [yb_len]; omega)
 rw [strL,List.length_append,yb_len] at *
 omega
def wyW (k:Nat):Nat→Nat:=fun j=>if j=0 then k else 0
def lstW (es:List Ent):Nat→List Nd
 | 0=>[Nd.z]
 | k+1=>lnkN (wyW k) (k+1) (lstW es k++[(es.getD k Ent.zero,fun _=>0)]) (k+1)
theorem lstW_len {es:List Ent}:∀ {k:Nat},(lstW es k).length=k+1
 | 0=>rfl
 | k+1=>by rw [lstW,lnkN_len,List.length_append,lstW_len]; rfl
theorem lstW_step {es:List Ent} {k:Nat} {e:Ent} (h:es[k]? = some e):lstW es (k+1)=lnkN (wyW k) (lstW es k).length (lstW es k++[(e,fun _=>0)]) (k+1):=by
 rw [lstW,lstW_len]
 have:es.getD k Ent.zero=e:=by rw [List.getD_eq_getElem?_getD,h]; rfl
 rw [this]
theorem lst1 {es:List Ent} {e:Ent} (h:es[0]? = some e):lstW es 1=[(Ent.zero,fun j=>if j=0 then 1 else 0),(e,fun j=>if j=0 then 0 else 0)]:=by
 rw [lstW_step h]; rfl
theorem way1 {es:List Ent} {e:Ent} {us:ByteArray} {q:BitVec 64} (h:es[0]? = some e) (ha:aheadK e us q=true):WayN (lstW es 1) us q (wyW 1):=by
 rw [lst1 h]
 have n0:∀ k,nxt [(Ent.zero,fun j=>if j=0 then 1 else 0),(e,fun j=>if j=0 then 0 else 0)] 0 k=if k=0 then 1 else 0:=fun _=>rfl
 have n1:∀ k,nxt [(Ent.zero,fun j=>if j=0 then 1 else 0),(e,fun j=>if j=0 then 0 else 0)] 1 k=0:=fun k=>by show (if k=0 then 0 else 0)=0; split<;>rfl
 refine ⟨rfl,fun k _=>?_,fun k _=>?_,fun a hl k _=>?_⟩
 ·unfold wyW; split<;>simp
 ·by_cases hk:k=0
  ·subst hk
   refine .inr ⟨rfl,by rw [show wyW 1 (0+1)=0 from rfl,n0]; decide,?_,.inl (n1 0)⟩
   rw [show wyW 1 (0+1)=0 from rfl,n0]; exact ha
  have e1:wyW 1 k=0:=if_neg hk
  have e2:wyW 1 (k+1)=0:=rfl
  exact .inl ⟨e1.trans e2.symm,.inl (by rw [e2,n0,if_neg hk])⟩
 have:a=0∨a=1:=by simp at hl; omega
 rcases this with rfl|rfl
 ·rw [n0]; split<;>simp
 rw [n1]; simp
theorem wayW {l:List Opn} {k:Nat} {o:Opn} {q:BitVec 64} (hk:k<2) (ho:l[k]? = some o) (hord:l.length=2→lt (l.getD 0 Opn.zero).user (l.getD 1 Opn.zero).user=true) (hl:l.length≤2) :
  WayN (lstW (entsF 0 l) k) o.user q (wyW k)∧nxt (lstW (entsF 0 l) k) (wyW k 0) 0=0:=by
 match k,hk with
 | 0,_ =>
  have e:wyW 0=fun _=>0:=by funext j; unfold wyW; split<;>rfl
  rw [e]
  exact ⟨wayZ,rfl⟩
 | 1,_ =>
  match l,ho,hord,hl with
  | [a,b],ho,hord,_ =>
   simp only [List.getElem?_cons_succ,List.getElem?_cons_zero,Option.some.injEq] at ho
   subst ho
   have h0:(entsF 0 [a,b])[0]? = some (entE (BitVec.ofNat 64 1) a):=rfl
   refine ⟨way1 h0 ?_,?_⟩
   ·unfold aheadK
    have:lt a.user b.user=true:=hord rfl
    show (lt a.user b.user||_)=true
    rw [this]; rfl
   rw [lst1 h0]; rfl
  | [],ho,_,_=>simp at ho
  | [a],ho,_,_=>simp at ho
  | a :: b :: c :: r,_,_,hl=>simp at hl
def txt (l:List UInt8):ByteArray:=⟨l.toArray⟩
def cutW (c:UInt8):List UInt8→List UInt8×List UInt8×Bool
 | []=>([],[],false)
 | x :: r=>if x=c then ([],r,true) else (x :: (cutW c r).1,(cutW c r).2.1,(cutW c r).2.2)
structure Ln where
 rest:List UInt8
 pos:Nat
 more:Bool
 last:Nat
def Ln.cells (l:Ln):List Value:=[.string (txt l.rest),.int .i64 (l.pos:Int),.bool l.more,.int .i64 (l.last:Int)]
def wordD (l:Ln):Except Nat (List UInt8×Ln) :=
 if l.more=true then
  if (cutW 32 l.rest).1=[] then .error l.pos
  else .ok ((cutW 32 l.rest).1,⟨(cutW 32 l.rest).2.1,l.pos+(cutW 32 l.rest).1.length+(if (cutW 32 l.rest).2.2=true then 1 else 0),(cutW 32 l.rest).2.2,l.pos⟩)
 else .error l.pos
def digY (c:UInt8):Bool:=decide (48≤c.toNat)&&decide (c.toNat≤57)
def valN (d:List UInt8):Nat:=d.foldl (fun n c=>n*10+(c.toNat-48)) 0
def minY (s:List UInt8):Bool:=decide (s.head? = some 45)
def absD (s:List UInt8):List UInt8:=if minY s=true then s.tail else s
def okD (s:List UInt8):Bool:=(absD s).all digY && !decide (absD s=[])&&decide ((absD s).length≤9) && !(decide ((absD s).head? = some 48) && !decide (s=[48]))
def valD (s:List UInt8):Option Int:=if okD s=true then some (if minY s=true then -(valN (absD s):Int) else (valN (absD s):Int)) else none
def textD (l:Ln):Except Nat (List UInt8×Ln) :=
 match wordD l with
 | .error e=>.error e
 | .ok (s,l')=>.ok (if s=[46] then [] else s,l')
def numD (l:Ln):Except Nat (Int×Ln) :=
 match wordD l with
 | .error e=>.error e
 | .ok (s,l')=>match valD s with
  | some n=>.ok (n,l')
  | none=>.error l'.last
def momD (l:Ln):Except Nat (BitVec 64×Ln) :=
 match wordD l with
 | .error e=>.error e
 | .ok (s,l') =>
  if s=[110,111,119] then .ok (18446744073709551615#64,l')
  else match valD s with
   | some n=>if 0≤n then .ok (BitVec.ofInt 64 n,l') else .error l'.last
   | none=>.error l'.last
def opD (l:Ln):Except Nat (Opn×Ln) :=
 match wordD l with
 | .error e=>.error e
 | .ok (s,l') =>
  if minY s=true then .ok (⟨0#8,txt s.tail,⟨#[]⟩⟩,l')
  else if (cutW 61 s).2.2=true∧(cutW 61 s).1.head? = some 43 then .ok (⟨1#8,txt (cutW 61 s).1.tail,txt (cutW 61 s).2.1⟩,l')
  else .error l'.last
def opsD:Nat→Ln→Except Nat (List Opn×Ln)
 | 0,l=>.ok ([],l)
 | n+1,l=>if l.more=true then
   match opD l with
   | .error e=>.error e
   | .ok (o,l')=>match opsD n l' with
    | .error e=>.error e
    | .ok (os,l2)=>.ok (o :: os,l2)
  else .ok ([],l)
def numsD:Nat→Ln→Except Nat (List Int×Ln)
 | 0,l=>.ok ([],l)
 | n+1,l=>if l.more=true then
   match numD l with
   | .error e=>.error e
   | .ok (o,l')=>match numsD n l' with
    | .error e=>.error e
    | .ok (os,l2)=>.ok (o :: os,l2)
  else .ok ([],l)
structure EvD where
 kind:Y
 client:Int
 ops:List Opn
 sync:Bool
 lo:List UInt8
 hi:List UInt8
 moment:BitVec 64
 n:Int
 keep:List Int
 name:List UInt8
 bytes:List UInt8
def EvD.zero:EvD:=⟨0#8,0,[],false,[],[],0#64,0,[],[],[]⟩
def wWrite:List UInt8:=[119,114,105,116,101]
def wSync:List UInt8:=[115,121,110,99]
def wLazy:List UInt8:=[108,97,122,121]
def wGet:List UInt8:=[103,101,116]
def wScan:List UInt8:=[115,99,97,110]
def wHold:List UInt8:=[104,111,108,100]
def wLet:List UInt8:=[108,101,116]
def wPick:List UInt8:=[112,105,99,107]
def wRotate:List UInt8:=[114,111,116,97,116,101]
def wCut:List UInt8:=[99,117,116]
def wCrash:List UInt8:=[99,114,97,115,104]
def wOpen:List UInt8:=[111,112,101,110]
def wClose:List UInt8:=[99,108,111,115,101]
def wLay:List UInt8:=[108,97,121]
def wDrop:List UInt8:=[100,114,111,112]
def andE {α β:Type}:Except Nat (α×Ln)→(α→Ln→Except Nat β)→Except Nat β
 | .error e,_=>.error e
 | .ok (a,l),f=>f a l
def finW (l:Ln) (e:EvD):Except Nat EvD:=if l.more=true then .error l.pos else .ok e
def evD (l:Ln):Except Nat EvD :=
 andE (wordD l) fun w l1 =>
  if w=wWrite then andE (numD l1) fun c l2=>andE (wordD l2) fun how l3 =>
   if how=wSync∨how=wLazy then andE (opD l3) fun o l4=>andE (opsD (l4.rest.length+1) l4) fun os l5=>finW l5 { EvD.zero with kind:=1#8,client:=c,ops:=o :: os,sync:=decide (how=wSync) }
   else .error l3.last
  else if w=wGet then andE (textD l1) fun a l2=>andE (momD l2) fun m l3=>finW l3 { EvD.zero with kind:=2#8,lo:=a,moment:=m }
  else if w=wScan then andE (textD l1) fun a l2=>andE (textD l2) fun b l3=>andE (momD l3) fun m l4=>finW l4 { EvD.zero with kind:=3#8,lo:=a,hi:=b,moment:=m }
  else if w=wHold then finW l1 { EvD.zero with kind:=4#8 }
  else if w=wLet then andE (momD l1) fun m l2=>finW l2 { EvD.zero with kind:=5#8,moment:=m }
  else if w=wPick then andE (numD l1) fun n l2=>finW l2 { EvD.zero with kind:=6#8,n:=n }
  else if w=wRotate then andE (numD l1) fun n l2=>finW l2 { EvD.zero with kind:=7#8,n:=n }
  else if w=wCut then andE (numD l1) fun n l2=>finW l2 { EvD.zero with kind:=8#8,n:=n }
  else if w=wCrash then andE (numsD (l1.rest.length+1) l1) fun ns l2=>finW l2 { EvD.zero with kind:=9#8,keep:=ns }
  else if w=wOpen then finW l1 { EvD.zero with kind:=10#8 }
  else if w=wClose then finW l1 { EvD.zero with kind:=11#8 }
  else if w=wLay then andE (wordD l1) fun a l2=>andE (textD l2) fun b l3=>finW l3 { EvD.zero with kind:=12#8,name:=a,bytes:=b }
  else if w=wDrop then andE (wordD l1) fun a l2=>finW l2 { EvD.zero with kind:=13#8,name:=a }
  else .error l1.last
def seenY (c:UInt8):Bool:=decide (32≤c.toNat)&&decide (c.toNat<127)
def parseD (s:List UInt8):Except Nat EvD:=evD ⟨s,0, !decide (s=[]),0⟩
theorem cutW_len (c:UInt8):∀ l:List UInt8,(cutW c l).1.length+(cutW c l).2.1.length+(if (cutW c l).2.2=true then 1 else 0)=l.length
 | []=>rfl
 | x :: r=>by
  unfold cutW
  by_cases h:x=c
  ·rw [if_pos h]; simp
  ·rw [if_neg h]
   have:=cutW_len c r
   simp only [List.length_cons]
   omega
theorem index_ge (c:UInt8):∀ l:List UInt8,Lib.index l [c] = -1∨0≤Lib.index l [c]
 | []=>.inl rfl
 | b :: l=>by
  unfold Lib.index
  split
  ·exact .inr (Int.le_refl 0)
  ·rcases index_ge c l with h | h
   ·rw [h]; exact .inl rfl
   ·rw [if_neg (by simp; omega)]; exact .inr (by omega)
theorem cut_eq (c:UInt8):∀ l:List UInt8,Lib.cut l [c]=cutW c l
 | []=>rfl
 | b :: l=>by
  have ih:=cut_eq c l
  unfold Lib.cut at ih ⊢
  unfold cutW Lib.index
  by_cases h:b=c
  ·subst h
   rw [if_pos rfl]
   simp [List.isPrefixOf]
  ·rw [if_neg h]
   have hp : [c].isPrefixOf (b :: l)=false:=by simp [List.isPrefixOf]; exact fun e=>h e.symm
   rw [hp]
   by_cases hi:Lib.index l [c] = -1
   ·rw [hi] at ih ⊢
    simp at ih ⊢
    rw [← ih]
    exact ⟨rfl,rfl,rfl⟩
   ·have hg:0≤Lib.index l [c]:=by rcases index_ge c l with h | h; exact absurd h hi; exact h
    have e1:(if (Lib.index l [c] == -1)=true then (-1:Int) else Lib.index l [c]+1)=Lib.index l [c]+1:=by rw [if_neg (by simpa using hi)]
    rw [if_pos hg] at ih
    simp only [Bool.false_eq_true,if_false]
    rw [e1,if_pos (by omega),←ih]
    have h1:(Lib.index l [c]+1).toNat=(Lib.index l [c]).toNat+1:=by omega
    rw [h1]
    simp
theorem Tr.drewN {G0 G:PM} {K0:List Nat} {w0 w:World} {μ:Mem} (h:Tr G0 K0 w0 G μ w):∀ n,Tr G0 K0 w0 G μ (w.drewN n)
 | 0=>h
 | n+1=>(h.drewN n).drew
theorem Tr.grow {G0 G:PM} {K0:List Nat} {w0 w:World} {μ:Mem} (h:Tr G0 K0 w0 G μ w) (os:Array Obj):Tr G0 K0 w0 G μ (Sort.grow w os):=by
 have hlt:=h.sat.key_lt
 have hold:∀ b,b<w.heap.size→(Sort.grow w os).heap[b]? = w.heap[b]?:=fun b hb=>by
  show (w.heap++os)[b]? = w.heap[b]?
  exact Array.getElem?_append_left hb
 have hsub:∀ b o,G b=some o→b<w.heap.size:=fun b o hb=>(Array.getElem?_eq_some_iff.1 (h.sat.sub b o hb)).1
 exact ⟨⟨fun b o hb=>by rw [hold b (hsub b o hb)]; exact h.sat.sub b o hb,fun r hr=>Res.sat_of (h.sat.own r hr) fun b hb=>hold b (hlt b (List.mem_flatMap.2 ⟨r,hr,hb⟩)),h.sat.apart,h.sat.nodup⟩,h.os,h.tape,h.output,
  Nat.le_trans h.size (by show _≤(w.heap++os).size; simp),fun b hb hK=>by rw [hold b (Nat.lt_of_lt_of_le hb h.size)]; exact h.old b hb hK,h.mine,h.le⟩
theorem ct_grow {P:Program} {f:FuncId} {args:Array Value} {G:PM} {v:Value} (h:∀ w,Sat G [] w→Calls P f args w (fun e w'=>e=.returned v∧∃ k os,w'=Sort.grow (w.drewN k) os)):Ct P f args G [] (fun _ μ' u=>μ'=[]∧u=v):=fun w hs=>by
 refine (h w hs).mono ?_
 rintro e w' ⟨rfl,k,os,rfl⟩
 exact ⟨v,G,[],rfl,((Tr.begin hs).drewN k).grow os,rfl,rfl⟩
def wrn (T e:Nat):PanicEntry:={ v:=.iface T (.agg #[.int .i64 (e:Int)]),recovered:=false }
def wrn' (T e:Nat):PanicEntry:={ v:=.iface T (.agg #[.int .i64 (e:Int)]),recovered:=true }
def dieE (P:Program) (T be ba bc TE TI TC m:Nat) (zs:List Value) (v3:Value) (D:Nat→Prop) (rs:List ResultVar) (vs:Nat→List Value):List PanicEntry→Env→PM→Mem→Prop:=fun ch ρ G μ =>
 ∃ e,ch=[wrn T e]∧D e∧∃ es x y μ',es.length=m∧μ.Perm (.blk be (cl es TE) :: .blk ba (cl [x] TI) :: .blk bc (cl [y] TC) :: μ')∧Rs P ρ G (.blk be (cl zs TE) :: .blk ba (cl [.int .i64 (e:Int)] TI) :: .blk bc (cl [v3] TC) :: μ') rs (vs e)
theorem dieE_of {P:Program} {T be ba bc TE TI TC m:Nat} {zs es:List Value} {v3 x y:Value} {D:Nat→Prop} {rs:List ResultVar} {vs:Nat→List Value} {ch:List PanicEntry} {ρ ρ':Env} {G:PM} {μ' μ₂ μ3 μ4 μ5:Mem} (hd:∃ e,ch=[wrn T e]∧D e) (he:∀ i,look ρ' i=look ρ i) (hm:μ'.Perm μ₂)
  (t1:MTake μ₂ (.blk be (cl es TE)) μ3) (hl:es.length=m) (t2:MTake μ3 (.blk ba (cl [x] TI)) μ4) (t3:MTake μ4 (.blk bc (cl [y] TC)) μ5)
  (hR:∀ e:Nat,Rs P ρ G (.blk be (cl zs TE) :: .blk ba (cl [.int .i64 (e:Int)] TI) :: .blk bc (cl [v3] TC) :: μ5) rs (vs e)):dieE P T be ba bc TE TI TC m zs v3 D rs vs ch ρ' G μ':=by
 obtain ⟨e,h1,h2⟩:=hd
 exact ⟨e,h1,h2,es,x,y,μ5,hl,hm.trans (mtk3 t1 t2 t3),(hR e).congr he⟩
theorem dieE_ok {X:Cx} {q:DQ} {T be ba bc TE TI TC m:Nat} {zs:List Value} {v3:Value} {D:Nat→Prop} {rs:List ResultVar} {vs:Nat→List Value} (hf:goFn X.P q.f=true) (hr:X.fn.results=rs.toArray) (h0:X.n.ds=[])
  (hc:∀ w G e es x y,Sat G [.blk be (cl es TE),.blk ba (cl [x] TI),.blk bc (cl [y] TC)] w→es.length=m→CallsD X.P q.f (q.args++q.vc).toArray (.panicking [wrn T e]) w (fun r u' w'=>(∃ v,r=.returned v)∧u'=.panicking [wrn' T e]∧Tr G (keys [.blk be (cl es TE),.blk ba (cl [x] TI),.blk bc (cl [y] TC)]) w G [.blk be (cl zs TE),.blk ba (cl [.int .i64 (e:Int)] TI),.blk bc (cl [v3] TC)] w'))
  (hp:∀ e,D e→∀ G',X.post G' [] (tup (vs e))) :
  ∀ ch ρ G μ a w,dieE X.P T be ba bc TE TI TC m zs v3 D rs vs ch ρ G μ→Ag ⟨X.n.n,q.d :: X.n.ds,dieE X.P T be ba bc TE TI TC m zs v3 D rs vs⟩ ρ a→Tr X.G0 X.K0 X.w0 G μ w→Leaves X.P X.fn a.tmps (RR X.post X.die X.G0 X.K0 X.w0) a.defers (.panicking ch) w:=by
 rintro ch ρ G μ a w ⟨e,rfl,hD,es,x,y,μ',hl,hm,hR⟩ ha ht
 rw [ha.defers,h0]
 have ht1:Tr X.G0 X.K0 X.w0 G ([.blk be (cl es TE),.blk ba (cl [x] TI),.blk bc (cl [y] TC)]++μ') w:=ht.perm hm
 refine leaves_cons (by simp) (f:=q.f) (args:=(q.args++q.vc).toArray) (by simp [invoke,run_callFunc hf]) ((hc w G e es x y ht1.sat.left hl).mono ?_)
 rintro r u' w' ⟨⟨v,rfl⟩,rfl,h2⟩
 have ht7:=ht1.step h2
 show Leaves X.P X.fn a.tmps _ [] (settle (.panicking [wrn' T e])) _
 have hs:settle (.panicking [wrn' T e])=.returning:=by simp [settle,wrn']
 rw [hs]
 exact ⟨_,results_run (by rw [hr]; exact hR) ha ht7.sat,.inl ⟨_,G,[],rfl,mN.tr ht7,hp e hD G⟩⟩
def srT (P:Program) (T:TypeId):Bool:=match P.underlying T with | some (.struct _)=>true | _=>false
section
variable {dr:Bool} {mc:Md} {P:Program} {n:Fm} {l:List Oper} {K:Env→PM→Mem→Prop} {i:Nat} {σ:List Nat} {ρ:Env} {G:PM} {μ:Mem}
variable {d t:Nat} {p:String} {af:Array Edge}
theorem mkI {T:TypeId} {x:Operand} {v:Value} (ho:nth l i=some ⟨some d,.makeInterface T x,t,p,af,none⟩) (hT:srT P T=true) (hx:Ev ρ true x v)
  (h:Wo dr mc P n l K σ ((d,true,.iface T v) :: ρ) G μ):Wo dr mc P n l K (i :: σ) ρ G μ:=by
 refine .read (v:=.iface T v) ho (.inl rfl) .no (fun _ a w ha _=>?_) h
 have h5:a.eval x=v:=hx.eval ha rfl
 unfold srT at hT
 split at hT
 ·rename_i fs hu
  simp [execOp,h5,Instr.makeInterface,run_underlying hu]
 cases hT
theorem tA {S T:TypeId} {x:Operand} {v:Value} (ho:nth l i=some ⟨some d,.typeAssert x S T false,t,p,af,none⟩) (hT:srT P T=true) (hx:Ev ρ true x (.iface T v))
  (h:Wo dr mc P n l K σ ((d,true,v) :: ρ) G μ):Wo dr mc P n l K (i :: σ) ρ G μ:=by
 refine .act (μ₁:=[]) (μ₂:=μ) (post:=fun G' μ' u=>G'=G∧μ'=[]∧u=v) ho (.inl rfl) .no (.refl _) (fun a w ha hs=>.inl ?_) ?_
 ·have h5:a.eval x=.iface T v:=hx.eval ha rfl
  refine ⟨v,w,G,[],.inl ?_,Tr.begin (Sat.left (μ:=[]) hs),rfl,rfl,rfl⟩
  unfold srT at hT
  split at hT
  ·rename_i fs hu
   simp [execOp,h5,Instr.typeAssert,Sem.run_bind,run_underlying hu]
  cases hT
 rintro u G' μ'' _ ⟨rfl,rfl,rfl⟩
 exact h
end
theorem cutW_ix (c:UInt8) (l:List UInt8):cutW c l=if 0≤Lib.indexByte l c then (l.take (Lib.indexByte l c).toNat,l.drop ((Lib.indexByte l c).toNat+1),true) else (l,[],false):=by
 rw [← cut_eq,Lib.cut,Lib.index_one]; rfl
theorem ix_lt (c:UInt8):∀ l:List UInt8,Lib.indexByte l c<l.length
 | []=>by simp [Lib.indexByte]
 | b :: l=>by
  have ih:=ix_lt c l
  unfold Lib.indexByte
  simp only [List.length_cons]
  split
  ·omega
  ·split<;>omega
theorem txt_data (l:List UInt8):(txt l).data.toList=l:=rfl
theorem txt_size (l:List UInt8):(txt l).size=l.length:=rfl
theorem u8_back (x:UInt8):UInt8.ofNat (BitVec.ofNat 8 x.toNat).toNat=x:=by
 have:=x.toNat_lt
 simp only [BitVec.toNat_ofNat]
 rw [Nat.mod_eq_of_lt (by omega)]
 exact UInt8.ofNat_toNat
theorem txt_b (l:List UInt8):txt l=bstr (l.map fun x=>BitVec.ofNat 8 x.toNat):=bstr_ext (by
 rw [txt_data,List.map_map]
 conv=>lhs; rw [← List.map_id l]
 exact List.map_congr_left fun x _=>(u8_back x).symm)
theorem yb_txt (l:List UInt8):yb (txt l)=l.map fun x=>BitVec.ofNat 8 x.toNat:=by rw [txt_b,yb_bstr]
theorem txt_take (l:List UInt8) (k:Nat):bstr ((yb (txt l)).take k)=txt (l.take k):=by rw [yb_txt,txt_b,List.map_take]
theorem txt_drop (l:List UInt8) (k:Nat):bstr ((yb (txt l)).drop k)=txt (l.drop k):=by rw [yb_txt,txt_b,List.map_drop]
theorem txt_toList (l:List UInt8):(txt l).toList=l:=by rw [ByteArray.toList_eq,txt_data]
theorem txt_eq (a b:List UInt8):((txt a).toList == (txt b).toList)=decide (a=b):=by rw [txt_toList,txt_toList]; by_cases h:a=b<;>simp [h]
theorem ct_same {P:Program} {f:FuncId} {args:Array Value} {G:PM} {v:Value} (h:∀ w,Calls P f args w (fun e w'=>e=.returned v∧w'=w)):Ct P f args G [] (fun _ μ' u=>μ'=[]∧u=v):=fun w hs=>by
 refine (h w).mono ?_
 rintro e w' ⟨rfl,rfl⟩
 exact ⟨v,G,[],rfl,Tr.begin hs,rfl,rfl⟩
theorem word_bad {l:Ln} (h:l.more=true) (hb:(!((txt (cutW 32 l.rest).1).toList == (⟨#[]⟩ : ByteArray).toList))=false):wordD l=.error l.pos:=by
 have h2:(cutW 32 l.rest).1=[]:=by
  have h3:(!((txt (cutW 32 l.rest).1).toList == (txt []).toList))=false:=hb
  rw [txt_eq] at h3; simpa using h3
 unfold wordD; rw [if_pos h,if_pos h2]
theorem word_good {l:Ln} (h:l.more=true) (hb:(!((txt (cutW 32 l.rest).1).toList == (⟨#[]⟩ : ByteArray).toList))=true):wordD l=.ok ((cutW 32 l.rest).1,⟨(cutW 32 l.rest).2.1,l.pos+(cutW 32 l.rest).1.length+(if (cutW 32 l.rest).2.2=true then 1 else 0),(cutW 32 l.rest).2.2,l.pos⟩):=by
 have h2:¬ (cutW 32 l.rest).1=[]:=fun e=>by
  have h3:(!((txt (cutW 32 l.rest).1).toList == (txt []).toList))=true:=hb
  rw [txt_eq,e] at h3; simp at h3
 unfold wordD; rw [if_pos h,if_neg h2]
theorem cutW_le (c:UInt8) (l:List UInt8):(cutW c l).1.length≤l.length:=by
 have:=cutW_len c l
 split at this<;>omega
theorem hasP1 (c:UInt8) (s:List UInt8):Lib.hasPrefix s [c]=decide (s.head? = some c):=by
 unfold Lib.hasPrefix
 match s with
 | []=>rfl
 | x :: r =>
  simp only [List.isPrefixOf,Bool.and_true,List.head?_cons,Option.some.injEq]
  by_cases h:x=c
  ·subst h; simp
  ·have:¬ c=x:=fun e=>h e.symm
   simp [h,this]
def itA (s:ByteArray) (p:Nat):Array Value:=if p<s.size then #[.bool true,.int .i64 (p:Int),.int .i32 ((Utf8.decode s p).1:Int)] else #[.bool false]
def itV (s:ByteArray) (p:Nat):Value:=.tuple (itA s p)
theorem it_b (s:ByteArray) (p:Nat):(itA s p).toList[0]? = some (.bool (decide (p<s.size))):=by
 unfold itA
 by_cases h:p<s.size
 ·rw [if_pos h,decide_eq_true h]; rfl
 ·rw [if_neg h,decide_eq_false h]; rfl
theorem it_r {s:ByteArray} {p:Nat} (h:p<s.size):(itA s p).toList[2]? = some (.int .i32 ((Utf8.decode s p).1:Int)):=by
 unfold itA
 rw [if_pos h]; rfl
def itP (s:ByteArray) (p:Nat):Nat:=if p<s.size then p+(Utf8.decode s p).2 else p
section
variable {dr:Bool} {mc:Md} {P:Program} {n:Fm} {l:List Oper} {K:Env→PM→Mem→Prop} {i:Nat} {σ:List Nat} {ρ:Env} {G:PM} {μ:Mem}
variable {d t:Nat} {p:String} {af:Array Edge}
theorem rgT {T:TypeId} {x:Operand} {s:ByteArray} (ho:nth l i=some ⟨some d,.range T x,t,p,af,none⟩) (hT:strT P T=true) (hx:Ev ρ true x (.string s))
  (h:∀ bi,Wo dr mc P n l K σ ((d,true,.pointer (some ⟨bi,0,none⟩)) :: ρ) G (.blk bi (.stringIter s 0) :: μ)):Wo dr mc P n l K (i :: σ) ρ G μ:=by
 refine .act (μ₁:=[]) (μ₂:=μ) (post:=fun G' μ' v=>∃ bi,G'=G∧μ'=[.blk bi (.stringIter s 0)]∧v=.pointer (some ⟨bi,0,none⟩)) ho (.inl rfl) .no (.refl _) (fun a w ha hs=>.inl ?_) ?_
 ·have h1:P.underlying T=some .string:=by unfold strT at hT; split at hT<;>first|assumption | cases hT
  have h0:Tr G (keys []) w G (.blk w.heap.size (.stringIter s 0) :: []) (w.alloc (.stringIter s 0)):=(Tr.begin (Sat.left (μ:=[]) hs)).alloc _
  exact ⟨.pointer (some ⟨w.heap.size,0,none⟩),w.alloc (.stringIter s 0),G,[_],.inl (by simp [execOp,hx.eval ha rfl,Instr.range,Sem.run_bind,run_underlying h1]),h0,w.heap.size,rfl,rfl,rfl⟩
 rintro v G' μ'' _ ⟨b,rfl,rfl,rfl⟩
 exact h b
theorem nxt_ {bi:Nat} {x:Operand} {s:ByteArray} {q:Nat} {μ1:Mem} (ho:nth l i=some ⟨some d,.next x true,t,p,af,none⟩) (hx:Ev ρ true x (.pointer (some ⟨bi,0,none⟩))) (hm:MTake μ (.blk bi (.stringIter s q)) μ1)
  (h:Wo dr mc P n l K σ ((d,true,itV s q) :: ρ) G (.blk bi (.stringIter s (itP s q)) :: μ1)):Wo dr mc P n l K (i :: σ) ρ G μ:=by
 refine .act (μ₁:=[.blk bi (.stringIter s q)]) (μ₂:=μ1) (post:=fun G' μ' v=>G'=G∧μ'=[.blk bi (.stringIter s (itP s q))]∧v=itV s q) ho (.inl rfl) .no hm.perm (fun a w ha hs=>.inl ?_) ?_
 ·have hi:w.heap[bi]? = some (.stringIter s q):=hs.left.own (.blk bi _) (List.mem_singleton.2 rfl)
  have hgi:(getObj bi).run P w=.ok (.stringIter s q) w:=by simp [getObj,Sem.run,hi]
  have htr:Tr G (keys [.blk bi (.stringIter s q)]) w G [.blk bi (.stringIter s q)] w:=Tr.begin hs.left
  by_cases hq:q<s.size
  ·have hset:(setObj bi (.stringIter s (q+(Utf8.decode s q).2))).run P w=.ok () { w with heap:=w.heap.setIfInBounds bi (.stringIter s (q+(Utf8.decode s q).2)) }:=by simp [setObj,Sem.run,hi]
   refine ⟨itV s q,{ w with heap:=w.heap.setIfInBounds bi (.stringIter s (itP s q)) },G,[.blk bi (.stringIter s (itP s q))],.inl ?_,htr.setT (by simp [keys,Res.keys]),rfl,rfl,rfl⟩
   unfold itV itA itP
   rw [if_pos hq,if_pos hq]
   simp [execOp,hx.eval ha rfl,Instr.next,Sem.run_bind,hgi,hq,hset,goInt]
  refine ⟨itV s q,w,G,[.blk bi (.stringIter s (itP s q))],.inl ?_,by unfold itP; rw [if_neg hq]; exact htr,rfl,rfl,rfl⟩
  unfold itV itA
  rw [if_neg hq]
  simp [execOp,hx.eval ha rfl,Instr.next,Sem.run_bind,hgi,hq]
 rintro v G' μ'' _ ⟨rfl,rfl,rfl⟩
 exact h
end
theorem wrap_i32 {r:Int} (h1 : -2147483648≤r) (h2:r≤2147483647):IntKind.i32.wrap r=r:=by
 unfold IntKind.wrap
 show (if (true&&decide (r%(2^32:Int)≥(2^31:Int)))=true then r%(2^32:Int)-(2^32:Int) else r%(2^32:Int))=r
 simp only [Bool.true_and,decide_eq_true_eq]
 split<;>omega
theorem dig_step {d:List UInt8} {k:Nat} (h:k<d.length) (h1:48≤(Utf8.decode (txt d) k).1) (h2:(Utf8.decode (txt d) k).1≤57):∃ c,d[k]? = some c∧c.toNat=(Utf8.decode (txt d) k).1∧digY c=true∧itP (txt d) k=k+1:=by
 have hk:k<(txt d).size:=h
 by_cases ha:((txt d)[k]'hk).toNat<128
 ·have he:=decode_ascii (txt d) k hk ha
  refine ⟨d[k],List.getElem?_eq_getElem h,by rw [he]; rfl,?_,by unfold itP; rw [if_pos hk,he]⟩
  rw [he] at h1 h2
  have h3:(d[k]).toNat=((txt d)[k]'hk).toNat:=rfl
  unfold digY
  rw [h3,decide_eq_true h1,decide_eq_true h2]; rfl
 have:=(decode_high (txt d) k hk (by omega)).1
 omega
theorem dig_bad {d:List UInt8} {k:Nat} (h:k<d.length) (hb:(Utf8.decode (txt d) k).1<48∨57<(Utf8.decode (txt d) k).1):d.all digY=false:=by
 have hk:k<(txt d).size:=h
 rw [List.all_eq_false]
 refine ⟨d[k],List.getElem_mem h,?_⟩
 by_cases ha:((txt d)[k]'hk).toNat<128
 ·have he:=decode_ascii (txt d) k hk ha
  rw [he] at hb
  have h3:(d[k]).toNat=((txt d)[k]'hk).toNat:=rfl
  unfold digY
  rw [h3]
  simp only [Bool.and_eq_true,decide_eq_true_eq]
  omega
 have h3:(d[k]).toNat=((txt d)[k]'hk).toNat:=rfl
 unfold digY
 rw [h3]
 simp only [Bool.and_eq_true,decide_eq_true_eq]
 omega
def modV (d:List UInt8):Nat:=d.foldl (fun n c=>(n*10+(c.toNat-48))%10000000000) 0
theorem modV_snoc {d:List UInt8} {k:Nat} {c:UInt8} (h:d[k]? = some c):modV (d.take (k+1))=(modV (d.take k)*10+(c.toNat-48))%10000000000:=by
 unfold modV
 rw [List.take_add_one,h]
 simp
theorem all_snoc {d:List UInt8} {k:Nat} {c:UInt8} (h:d[k]? = some c) (ha:(d.take k).all digY=true) (hc:digY c=true):(d.take (k+1)).all digY=true:=by
 rw [List.take_add_one,h]
 simp [List.all_append] at ha ⊢
 exact ⟨ha,hc⟩
theorem valN_lt:∀ (k:Nat) (d:List UInt8),d.length=k→d.all digY=true→valN d<10^k
 | 0,d,h,_=>by rw [List.eq_nil_of_length_eq_zero h]; decide
 | k+1,d,h,ha=>by
  obtain ⟨e,c,rfl⟩ : ∃ e c,d=e++[c]:=⟨d.dropLast,d.getLast (by intro e; rw [e] at h; cases h),(List.dropLast_concat_getLast _).symm⟩
  simp at h
  simp only [List.all_append,List.all_cons,List.all_nil,Bool.and_true,Bool.and_eq_true] at ha
  have ih:=valN_lt k e (by omega) ha.1
  have hd:=ha.2
  unfold digY at hd
  simp only [Bool.and_eq_true,decide_eq_true_eq] at hd
  have:valN (e++[c])=valN e*10+(c.toNat-48):=by unfold valN; simp
  rw [this,Nat.pow_succ]
  omega
theorem modV_eq:∀ (k:Nat) (d:List UInt8),d.length=k→k≤9→d.all digY=true→modV d=valN d
 | 0,d,h,_,_=>by rw [List.eq_nil_of_length_eq_zero h]; rfl
 | k+1,d,h,hk,ha=>by
  have hl:=valN_lt (k+1) d h ha
  obtain ⟨e,c,rfl⟩ : ∃ e c,d=e++[c]:=⟨d.dropLast,d.getLast (by intro e; rw [e] at h; cases h),(List.dropLast_concat_getLast _).symm⟩
  simp at h
  simp only [List.all_append,List.all_cons,List.all_nil,Bool.and_true,Bool.and_eq_true] at ha
  have ih:=modV_eq k e (by omega) (by omega) ha.1
  have e1:valN (e++[c])=valN e*10+(c.toNat-48):=by unfold valN; simp
  have e2:modV (e++[c])=(modV e*10+(c.toNat-48))%10000000000:=by unfold modV; simp
  rw [e1] at hl
  rw [e1,e2,ih]
  have:(10:Nat)^(k+1)≤10^9:=Nat.pow_le_pow_right (by decide) hk
  exact Nat.mod_eq_of_lt (by omega)
theorem ne_size {d:List UInt8} {b:Bool} (hc:(!((txt d).toList == (⟨#[]⟩ : ByteArray).toList||b))=true):0<(txt d).size:=by
 have h3:(!((txt d).toList == (txt []).toList||b))=true:=hc
 rw [txt_eq] at h3
 cases d with
 | nil=>simp at h3
 | cons x r=>rw [txt_size]; simp
def valP (s:List UInt8):Int×Bool:=match valD s with | some n=>(n,true) | none=>(0,false)
theorem trimM (s:List UInt8):Lib.trimPrefix s [45]=absD s:=by
 unfold Lib.trimPrefix absD minY
 rw [hasP1]
 by_cases h:s.head? = some 45
 ·rw [decide_eq_true h]; simp
 ·rw [decide_eq_false h]; simp
theorem hasM (s:List UInt8):Lib.hasPrefix s [45]=minY s:=hasP1 45 s
def bigC (s:List UInt8):Bool:=((txt (absD s)).toList == (⟨#[]⟩ : ByteArray).toList||decide (((txt (absD s)).size:Int) > 9))||((((yb (txt (absD s))).getD 0 0).toNat:Int) == 48 && !((txt s).toList == (⟨#[48]⟩ : ByteArray).toList))
theorem okD_big {s:List UInt8} (ha:(absD s).all digY=true):okD s = !bigC s:=by
 have e1:bigC s=(((txt (absD s)).toList == (txt []).toList||decide (((txt (absD s)).size:Int) > 9))||((((yb (txt (absD s))).getD 0 0).toNat:Int) == 48 && !((txt s).toList == (txt [48]).toList))):=rfl
 rw [e1,txt_eq,txt_eq,txt_size,yb_txt]
 unfold okD
 rw [ha]
 generalize absD s=d
 cases d with
 | nil=>simp
 | cons x r =>
  have h1:((List.map (fun x:UInt8=>BitVec.ofNat 8 x.toNat) (x :: r)).getD 0 0).toNat=x.toNat:=by
   simp
  rw [h1]
  have h2:((x.toNat:Int) == 48)=decide ((x :: r).head? = some 48):=by
   by_cases hx:x=48
   ·subst hx; rfl
   ·have:¬ x.toNat=48:=fun e=>hx (UInt8.toNat_inj.1 e)
    rw [decide_eq_false (by simpa using hx)]
    simp; omega
  rw [h2]
  have h3:decide (((x :: r).length:Int) > 9) = !decide ((x :: r).length≤9):=by
   by_cases hl:(x :: r).length≤9
   ·rw [decide_eq_true hl,decide_eq_false (by omega)]; rfl
   ·rw [decide_eq_false hl,decide_eq_true (by omega)]; rfl
  rw [h3]
  simp [Bool.and_assoc]
theorem val_no {s:List UInt8} (h:okD s=false):valP s=(0,false):=by
 unfold valP valD
 rw [if_neg (by rw [h]; decide)]
theorem okD_all {s:List UInt8} (h:(absD s).all digY=false):okD s=false:=by unfold okD; rw [h]; rfl
theorem val_yes {s:List UInt8} {k n:Nat} (hk:(absD s).length≤k) (ha:((absD s).take k).all digY=true) (hn:n=modV ((absD s).take k)) (hb:bigC s=false):valP s=(if minY s=true then -(n:Int) else (n:Int),true):=by
 rw [List.take_of_length_le hk] at ha hn
 have ho:okD s=true:=by rw [okD_big ha,hb]; rfl
 have hl:(absD s).length≤9:=by
  unfold okD at ho
  simp only [Bool.and_eq_true,decide_eq_true_eq] at ho
  exact ho.1.2
 rw [modV_eq _ _ rfl hl ha] at hn
 unfold valP valD
 rw [if_pos ho,hn]
theorem val_big {s:List UInt8} {k:Nat} (hk:(absD s).length≤k) (ha:((absD s).take k).all digY=true) (hb:bigC s=true):valP s=(0,false):=by
 rw [List.take_of_length_le hk] at ha
 exact val_no (by rw [okD_big ha,hb]; rfl)
def Ln.fits (l:Ln):Prop:=l.pos+l.rest.length≤1000000
theorem word_fits {l l':Ln} {s:List UInt8} (hf:l.fits) (h:wordD l=.ok (s,l')):l'.fits∧s.length≤1000000:=by
 unfold wordD at h
 have hc:=cutW_len 32 l.rest
 unfold Ln.fits at *
 split at h
 ·split at h
  ·cases h
  ·cases h
   dsimp only
   generalize (if (cutW 32 l.rest).2.2=true then 1 else 0)=q at hc ⊢
   omega
 ·cases h
theorem numD_w {l:Ln} {e:Nat} (h:wordD l=.error e):numD l=.error e:=by unfold numD; rw [h]
theorem numD_no {l l':Ln} {s:List UInt8} (h:wordD l=.ok (s,l')) (hv:(valP s).2=false):numD l=.error l'.last:=by
 unfold valP at hv
 unfold numD
 rw [h]
 dsimp only
 cases e:valD s with
 | none=>rfl
 | some n=>rw [e] at hv; cases hv
theorem numD_ok {l l':Ln} {s:List UInt8} (h:wordD l=.ok (s,l')) (hv:(valP s).2=true):numD l=.ok ((valP s).1,l'):=by
 unfold valP at hv ⊢
 unfold numD
 rw [h]
 dsimp only
 cases e:valD s with
 | none=>rw [e] at hv; cases hv
 | some n=>rfl
theorem textD_w {l:Ln} {e:Nat} (h:wordD l=.error e):textD l=.error e:=by unfold textD; rw [h]
theorem textD_no {l l':Ln} {s:List UInt8} (h:wordD l=.ok (s,l')) (hv:(!((txt s).toList == (⟨#[46]⟩ : ByteArray).toList))=true):textD l=.ok (s,l'):=by
 have h3:(!((txt s).toList == (txt [46]).toList))=true:=hv
 rw [txt_eq] at h3
 unfold textD; rw [h]; dsimp only; rw [if_neg (by simpa using h3)]
theorem textD_ok {l l':Ln} {s:List UInt8} (h:wordD l=.ok (s,l')) (hv:(!((txt s).toList == (⟨#[46]⟩ : ByteArray).toList))=false):textD l=.ok ([],l'):=by
 have h3:(!((txt s).toList == (txt [46]).toList))=false:=hv
 rw [txt_eq] at h3
 unfold textD; rw [h]; dsimp only; rw [if_pos (by simpa using h3)]
theorem momD_w {l:Ln} {e:Nat} (h:wordD l=.error e):momD l=.error e:=by unfold momD; rw [h]
theorem momD_now {l l':Ln} {s:List UInt8} (h:wordD l=.ok (s,l')) (hv:((txt s).toList == (⟨#[110,111,119]⟩ : ByteArray).toList)=true):momD l=.ok (18446744073709551615#64,l'):=by
 have h3:((txt s).toList == (txt [110,111,119]).toList)=true:=hv
 rw [txt_eq] at h3
 unfold momD; rw [h]; dsimp only; rw [if_pos (of_decide_eq_true h3)]
theorem momD_no {l l':Ln} {s:List UInt8} (h:wordD l=.ok (s,l')) (hv:((txt s).toList == (⟨#[110,111,119]⟩ : ByteArray).toList)=false) (hb:((valP s).2&&decide ((valP s).1≥0))=false):momD l=.error l'.last:=by
 have h3:((txt s).toList == (txt [110,111,119]).toList)=false:=hv
 rw [txt_eq] at h3
 unfold momD; rw [h]; dsimp only; rw [if_neg (of_decide_eq_false h3)]
 unfold valP at hb
 cases e:valD s with
 | none=>rfl
 | some n =>
  rw [e] at hb
  dsimp only at hb ⊢
  rw [if_neg]
  simp at hb
  omega
theorem momD_ok {l l':Ln} {s:List UInt8} (h:wordD l=.ok (s,l')) (hv:((txt s).toList == (⟨#[110,111,119]⟩ : ByteArray).toList)=false) (hb:((valP s).2&&decide ((valP s).1≥0))=true):momD l=.ok (BitVec.ofInt 64 (valP s).1,l'):=by
 have h3:((txt s).toList == (txt [110,111,119]).toList)=false:=hv
 rw [txt_eq] at h3
 unfold momD; rw [h]; dsimp only; rw [if_neg (of_decide_eq_false h3)]
 unfold valP at hb ⊢
 cases e:valD s with
 | none=>rw [e] at hb; cases hb
 | some n =>
  rw [e] at hb
  dsimp only at hb ⊢
  rw [if_pos (by simpa using hb)]
theorem val_lt {s:List UInt8} : -1000000000<(valP s).1∧(valP s).1<1000000000:=by
 unfold valP valD
 by_cases h:okD s=true
 ·rw [if_pos h]
  dsimp only
  unfold okD at h
  simp only [Bool.and_eq_true,decide_eq_true_eq] at h
  have h1:=valN_lt _ _ rfl h.1.1.1
  have h2:(10:Nat)^(absD s).length≤10^9:=Nat.pow_le_pow_right (by decide) h.1.2
  split<;>constructor<;>omega
 ·rw [if_neg h]; constructor<;>decide
theorem uv_int {n:Int} (h0:0≤n) (h1:n<1000000000):uv .u64 (BitVec.ofInt 64 n)=.int .u64 n:=by
 have:(BitVec.ofInt 64 n).toNat=n.toNat:=by
  rw [BitVec.toNat_ofInt]; omega
 have h2:(((BitVec.ofInt 64 n).toNat:Nat):Int)=n:=by rw [this]; omega
 exact congrArg (Value.int .u64) h2
theorem opD_w {l:Ln} {e:Nat} (h:wordD l=.error e):opD l=.error e:=by unfold opD; rw [h]
theorem opD_del {l l':Ln} {s:List UInt8} (h:wordD l=.ok (s,l')) (hm:minY s=true):opD l=.ok (⟨0#8,txt (absD s),⟨#[]⟩⟩,l'):=by
 unfold opD; rw [h]; dsimp only; rw [if_pos hm]; unfold absD; rw [if_pos hm]
theorem opD_no {l l':Ln} {s:List UInt8} (h:wordD l=.ok (s,l')) (hm:minY s=false) (hb:((cutW 61 s).2.2&&decide ((cutW 61 s).1.head? = some 43))=false):opD l=.error l'.last:=by
 unfold opD; rw [h]; dsimp only; rw [if_neg (by rw [hm]; decide),if_neg]
 intro ⟨h1,h2⟩
 rw [h1,decide_eq_true h2] at hb; cases hb
theorem opD_ok {l l':Ln} {s:List UInt8} (h:wordD l=.ok (s,l')) (hm:minY s=false) (hb:((cutW 61 s).2.2&&decide ((cutW 61 s).1.head? = some 43))=true):opD l=.ok (⟨1#8,txt ((cutW 61 s).1.drop 1),txt (cutW 61 s).2.1⟩,l'):=by
 unfold opD; rw [h]; dsimp only; rw [if_neg (by rw [hm]; decide),if_pos (by simpa using hb),List.drop_one]
theorem opn1 {s:List UInt8} (hb:((cutW 61 s).2.2&&decide ((cutW 61 s).1.head? = some 43))=true):1≤(txt (cutW 61 s).1).size:=by
 simp only [Bool.and_eq_true,decide_eq_true_eq] at hb
 rw [txt_size]
 cases h:(cutW 61 s).1 with
 | nil=>rw [h] at hb; cases hb.2
 | cons x r=>simp
theorem word_less {l l':Ln} {s:List UInt8} (h:wordD l=.ok (s,l')):l'.rest.length<l.rest.length:=by
 unfold wordD at h
 have hc:=cutW_len 32 l.rest
 split at h
 ·split at h
  ·cases h
  ·rename_i h1 h2
   cases h
   dsimp only
   have:0<(cutW 32 l.rest).1.length:=List.length_pos_iff.2 h2
   omega
 ·cases h
theorem opD_less {l l':Ln} {o:Opn} (h:opD l=.ok (o,l')):l'.rest.length<l.rest.length:=by
 unfold opD at h
 split at h
 ·cases h
 ·rename_i s l1 hw
  have:=word_less hw
  split at h
  ·cases h; exact this
  ·split at h
   ·cases h; exact this
   ·cases h
theorem numD_less {l l':Ln} {n:Int} (h:numD l=.ok (n,l')):l'.rest.length<l.rest.length:=by
 unfold numD at h
 split at h
 ·cases h
 ·rename_i s l1 hw
  have:=word_less hw
  split at h
  ·cases h; exact this
  ·cases h
theorem opsD_fuel:∀ (n m:Nat) (l:Ln),l.rest.length<n→l.rest.length<m→opsD n l=opsD m l
 | 0,_,_,h,_=>absurd h (Nat.not_lt_zero _)
 | _+1,0,_,_,h=>absurd h (Nat.not_lt_zero _)
 | n+1,m+1,l,h1,h2=>by
  unfold opsD
  split
  ·cases e:opD l with
   | error e=>rfl
   | ok p =>
    obtain ⟨o,l'⟩:=p
    have:=opD_less e
    dsimp only
    rw [opsD_fuel n m l' (by omega) (by omega)]
  ·rfl
theorem numsD_fuel:∀ (n m:Nat) (l:Ln),l.rest.length<n→l.rest.length<m→numsD n l=numsD m l
 | 0,_,_,h,_=>absurd h (Nat.not_lt_zero _)
 | _+1,0,_,_,h=>absurd h (Nat.not_lt_zero _)
 | n+1,m+1,l,h1,h2=>by
  unfold numsD
  split
  ·cases e:numD l with
   | error e=>rfl
   | ok p =>
    obtain ⟨o,l'⟩:=p
    have:=numD_less e
    dsimp only
    rw [numsD_fuel n m l' (by omega) (by omega)]
  ·rfl
def opsF (l:Ln):Except Nat (List Opn×Ln):=opsD (l.rest.length+1) l
def numsF (l:Ln):Except Nat (List Int×Ln):=numsD (l.rest.length+1) l
def addE {α:Type} (a:List α):Except Nat (List α×Ln)→Except Nat (List α×Ln)
 | .error e=>.error e
 | .ok (os,l)=>.ok (a++os,l)
theorem addE_nil {α:Type} (r:Except Nat (List α×Ln)):addE [] r=r:=by
 cases r with
 | error e=>rfl
 | ok p=>rfl
theorem addE_addE {α:Type} (a b:List α) (r:Except Nat (List α×Ln)):addE a (addE b r)=addE (a++b) r:=by
 cases r with
 | error e=>rfl
 | ok p=>simp [addE]
theorem opsF_no {l:Ln} (h:l.more=false):opsF l=.ok ([],l):=by unfold opsF opsD; rw [if_neg (by rw [h]; decide)]
theorem opsF_err {l:Ln} {e:Nat} (h:l.more=true) (ho:opD l=.error e):opsF l=.error e:=by unfold opsF opsD; rw [if_pos h,ho]
theorem opsF_go {l l':Ln} {o:Opn} (h:l.more=true) (ho:opD l=.ok (o,l')):opsF l=addE [o] (opsF l'):=by
 have hl:=opD_less ho
 unfold opsF
 conv=>lhs; unfold opsD
 rw [if_pos h,ho]
 dsimp only
 rw [opsD_fuel l.rest.length (l'.rest.length+1) l' hl (by omega)]
 cases opsD (l'.rest.length+1) l' with
 | error e=>rfl
 | ok p=>rfl
theorem numsF_no {l:Ln} (h:l.more=false):numsF l=.ok ([],l):=by unfold numsF numsD; rw [if_neg (by rw [h]; decide)]
theorem numsF_err {l:Ln} {e:Nat} (h:l.more=true) (ho:numD l=.error e):numsF l=.error e:=by unfold numsF numsD; rw [if_pos h,ho]
theorem numsF_go {l l':Ln} {o:Int} (h:l.more=true) (ho:numD l=.ok (o,l')):numsF l=addE [o] (numsF l'):=by
 have hl:=numD_less ho
 unfold numsF
 conv=>lhs; unfold numsD
 rw [if_pos h,ho]
 dsimp only
 rw [numsD_fuel l.rest.length (l'.rest.length+1) l' hl (by omega)]
 cases numsD (l'.rest.length+1) l' with
 | error e=>rfl
 | ok p=>rfl
def EvD.cells (e:EvD) (vo vk vb:Value):List Value:=[V e.kind,.int .i64 e.client,vo,.bool e.sync,.string (txt e.lo),.string (txt e.hi),uv .u64 e.moment,.int .i64 e.n,vk,.string (txt e.name),vb]
def evK (w:List UInt8) (l1:Ln):Except Nat EvD :=
  if w=wWrite then andE (numD l1) fun c l2=>andE (wordD l2) fun how l3 =>
   if how=wSync∨how=wLazy then andE (opD l3) fun o l4=>andE (opsF l4) fun os l5=>finW l5 { EvD.zero with kind:=1#8,client:=c,ops:=o :: os,sync:=decide (how=wSync) }
   else .error l3.last
  else if w=wGet then andE (textD l1) fun a l2=>andE (momD l2) fun m l3=>finW l3 { EvD.zero with kind:=2#8,lo:=a,moment:=m }
  else if w=wScan then andE (textD l1) fun a l2=>andE (textD l2) fun b l3=>andE (momD l3) fun m l4=>finW l4 { EvD.zero with kind:=3#8,lo:=a,hi:=b,moment:=m }
  else if w=wHold then finW l1 { EvD.zero with kind:=4#8 }
  else if w=wLet then andE (momD l1) fun m l2=>finW l2 { EvD.zero with kind:=5#8,moment:=m }
  else if w=wPick then andE (numD l1) fun n l2=>finW l2 { EvD.zero with kind:=6#8,n:=n }
  else if w=wRotate then andE (numD l1) fun n l2=>finW l2 { EvD.zero with kind:=7#8,n:=n }
  else if w=wCut then andE (numD l1) fun n l2=>finW l2 { EvD.zero with kind:=8#8,n:=n }
  else if w=wCrash then andE (numsF l1) fun ns l2=>finW l2 { EvD.zero with kind:=9#8,keep:=ns }
  else if w=wOpen then finW l1 { EvD.zero with kind:=10#8 }
  else if w=wClose then finW l1 { EvD.zero with kind:=11#8 }
  else if w=wLay then andE (wordD l1) fun a l2=>andE (textD l2) fun b l3=>finW l3 { EvD.zero with kind:=12#8,name:=a,bytes:=b }
  else if w=wDrop then andE (wordD l1) fun a l2=>finW l2 { EvD.zero with kind:=13#8,name:=a }
  else .error l1.last
theorem evD_w {l:Ln} {e:Nat} (h:wordD l=.error e):evD l=.error e:=by unfold evD; rw [h]; rfl
theorem evD_k {l l1:Ln} {w:List UInt8} (h:wordD l=.ok (w,l1)):evD l=evK w l1:=by unfold evD; rw [h]; rfl
theorem tx_eq {s c:List UInt8} (h:((txt s).toList == (txt c).toList)=true):s=c:=by rw [txt_eq] at h; exact of_decide_eq_true h
theorem tx_ne {s c:List UInt8} (h:((txt s).toList == (txt c).toList)=false):¬ s=c:=by rw [txt_eq] at h; exact of_decide_eq_false h
theorem andE_ok {α β:Type} {r:Except Nat (α×Ln)} {a:α} {l:Ln} {f:α→Ln→Except Nat β} (h:r=.ok (a,l)):andE r f=f a l:=by rw [h]; rfl
theorem andE_err {α β:Type} {r:Except Nat (α×Ln)} {e:Nat} {f:α→Ln→Except Nat β} (h:r=.error e):andE r f=.error e:=by rw [h]; rfl
theorem evK_write (l1:Ln):evK wWrite l1=andE (numD l1) fun c l2=>andE (wordD l2) fun how l3 =>
   if how=wSync∨how=wLazy then andE (opD l3) fun o l4=>andE (opsF l4) fun os l5=>finW l5 { EvD.zero with kind:=1#8,client:=c,ops:=o :: os,sync:=decide (how=wSync) }
   else .error l3.last:=rfl
theorem evK_get (l1:Ln):evK wGet l1=andE (textD l1) fun a l2=>andE (momD l2) fun m l3=>finW l3 { EvD.zero with kind:=2#8,lo:=a,moment:=m }:=rfl
theorem evK_scan (l1:Ln):evK wScan l1=andE (textD l1) fun a l2=>andE (textD l2) fun b l3=>andE (momD l3) fun m l4=>finW l4 { EvD.zero with kind:=3#8,lo:=a,hi:=b,moment:=m }:=rfl
theorem evK_hold (l1:Ln):evK wHold l1=finW l1 { EvD.zero with kind:=4#8 }:=rfl
theorem evK_let (l1:Ln):evK wLet l1=andE (momD l1) fun m l2=>finW l2 { EvD.zero with kind:=5#8,moment:=m }:=rfl
theorem evK_pick (l1:Ln):evK wPick l1=andE (numD l1) fun n l2=>finW l2 { EvD.zero with kind:=6#8,n:=n }:=rfl
theorem evK_rotate (l1:Ln):evK wRotate l1=andE (numD l1) fun n l2=>finW l2 { EvD.zero with kind:=7#8,n:=n }:=rfl
theorem evK_cut (l1:Ln):evK wCut l1=andE (numD l1) fun n l2=>finW l2 { EvD.zero with kind:=8#8,n:=n }:=rfl
theorem evK_crash (l1:Ln):evK wCrash l1=andE (numsF l1) fun ns l2=>finW l2 { EvD.zero with kind:=9#8,keep:=ns }:=rfl
theorem evK_open (l1:Ln):evK wOpen l1=finW l1 { EvD.zero with kind:=10#8 }:=rfl
theorem evK_close (l1:Ln):evK wClose l1=finW l1 { EvD.zero with kind:=11#8 }:=rfl
theorem evK_lay (l1:Ln):evK wLay l1=andE (wordD l1) fun a l2=>andE (textD l2) fun b l3=>finW l3 { EvD.zero with kind:=12#8,name:=a,bytes:=b }:=rfl
theorem evK_drop (l1:Ln):evK wDrop l1=andE (wordD l1) fun a l2=>finW l2 { EvD.zero with kind:=13#8,name:=a }:=rfl
theorem evK_no {w:List UInt8} {l1:Ln} (h1:¬ w=wWrite) (h2:¬ w=wGet) (h3:¬ w=wScan) (h4:¬ w=wHold) (h5:¬ w=wLet) (h6:¬ w=wPick) (h7:¬ w=wRotate) (h8:¬ w=wCut) (h9:¬ w=wCrash) (h10:¬ w=wOpen) (h11:¬ w=wClose) (h12:¬ w=wLay) (h13:¬ w=wDrop):evK w l1=.error l1.last:=by
 unfold evK
 rw [if_neg h1,if_neg h2,if_neg h3,if_neg h4,if_neg h5,if_neg h6,if_neg h7,if_neg h8,if_neg h9,if_neg h10,if_neg h11,if_neg h12,if_neg h13]
def encZ (n:Int):List Value:=[.int .i64 n]
theorem fin_ok {l lx:Ln} {e:EvD} (h:evD l=finW lx e) (hm:lx.more=false):evD l=.ok e:=by rw [h]; unfold finW; rw [if_neg (by rw [hm]; decide)]
theorem fin_no {l lx:Ln} {e:EvD} (h:evD l=finW lx e) (hm:lx.more=true):evD l=.error lx.pos:=by rw [h]; unfold finW; rw [if_pos hm]
theorem nulB {G:PM}:SlR G 1 encY ⟨none,0⟩ (yb (txt [])):=by rw [yb_txt]; exact SlR.nul
theorem how_no {s:List UInt8} (h:((txt s).toList == (⟨#[115,121,110,99]⟩ : ByteArray).toList||(txt s).toList == (⟨#[108,97,122,121]⟩ : ByteArray).toList)=false):¬ (s=wSync∨s=wLazy):=by
 have h3:((txt s).toList == (txt wSync).toList||(txt s).toList == (txt wLazy).toList)=false:=h
 rw [txt_eq,txt_eq] at h3
 simpa using h3
theorem how_ok {s:List UInt8} (h:((txt s).toList == (⟨#[115,121,110,99]⟩ : ByteArray).toList||(txt s).toList == (⟨#[108,97,122,121]⟩ : ByteArray).toList)=true):s=wSync∨s=wLazy:=by
 have h3:((txt s).toList == (txt wSync).toList||(txt s).toList == (txt wLazy).toList)=true:=h
 rw [txt_eq,txt_eq] at h3
 simpa using h3
theorem adE_err {α:Type} {a:List α} {r:Except Nat (List α×Ln)} {e:Nat} (h:addE a r=.error e):r=.error e:=by
 cases r with
 | error e'=>exact h
 | ok p=>cases h
theorem adE_end {α:Type} {o:α} {os:List α} {lw:Ln} {r:Except Nat (List α×Ln)} (h:addE [o] r=.ok (os,lw)):∃ q,r=.ok (q,lw)∧os=o :: q:=by
 cases r with
 | error e'=>cases h
 | ok p=>cases h; exact ⟨_,rfl,rfl⟩
theorem ops_no {os:List Opn} {lw:Ln} (h:lw.more=false):addE os (opsF lw)=.ok (os,lw):=by rw [opsF_no h]; simp [addE]
theorem nums_no {os:List Int} {lw:Ln} (h:lw.more=false):addE os (numsF lw)=.ok (os,lw):=by rw [numsF_no h]; simp [addE]
theorem ops_die {os:List Opn} {lw:Ln} {e:Nat} (hm:lw.more=true) (h:opD lw=.error e):addE os (opsF lw)=.error e:=by rw [opsF_err hm h]; rfl
theorem nums_die {os:List Int} {lw:Ln} {e:Nat} (hm:lw.more=true) (h:numD lw=.error e):addE os (numsF lw)=.error e:=by rw [numsF_err hm h]; rfl
theorem ops_go {os:List Opn} {lw lx:Ln} {o:Opn} (hm:lw.more=true) (h:opD lw=.ok (o,lx)):addE os (opsF lw)=addE (os++[o]) (opsF lx):=by rw [opsF_go hm h,addE_addE]
theorem nums_go {os:List Int} {lw lx:Ln} {o:Int} (hm:lw.more=true) (h:numD lw=.ok (o,lx)):addE os (numsF lw)=addE (os++[o]) (numsF lx):=by rw [numsF_go hm h,addE_addE]
theorem one11 {l:List Value} (h:l.all (fun u=>u.oneCell')=true):∀ u∈l,u.oneCell'=true:=List.all_eq_true.1 h
theorem EvD.one (e:EvD) {vo vk vb:Value} (ho:vo.oneCell'=true) (hk:vk.oneCell'=true) (hb:vb.oneCell'=true):∀ u∈e.cells vo vk vb,u.oneCell'=true:=one11 (by
 unfold EvD.cells
 simp only [List.all_cons,List.all_nil,ho,hk,hb]
 rfl)
def bts (s:ByteArray):List UInt8:=s.data.toList
theorem txt_bts (s:ByteArray):txt (bts s)=s:=rfl
theorem bts_txt (l:List UInt8):bts (txt l)=l:=rfl
theorem bts_len (s:ByteArray):(bts s).length=s.size:=rfl
theorem txt_cat {l:List UInt8} {s1 s2:ByteArray} (h:l=bts s1++bts s2):bstr (yb s1++yb s2)=txt l:=by
 subst h
 conv=>lhs; rw [← txt_bts s1,←txt_bts s2]
 rw [yb_txt,yb_txt,←List.map_append,←txt_b]
section
variable {dr:Bool} {mc:Md} {P:Program} {n:Fm} {l:List Oper} {K:Env→PM→Mem→Prop} {i:Nat} {σ:List Nat} {ρ:Env} {G:PM} {μ:Mem}
variable {d t:Nat} {p:String} {af:Array Edge} {g:Option (Nat×Bool)} {c:Bool}
theorem sPt (r:List UInt8) {T T':TypeId} {x y:Operand} {s1 s2:ByteArray} (ho:nth l i=some ⟨some d,.binOp .add T x y T',t,p,af,g⟩) (hg:Gd l ρ g c) (hx:Ev ρ c x (.string s1)) (hy:Ev ρ c y (.string s2)) (hr:r=bts s1++bts s2) (hl:c=true→s1.size+s2.size≤9223372036854775807)
  (h:Wo dr mc P n l K σ ((d,c,.string (txt r)) :: ρ) G μ):Wo dr mc P n l K (i :: σ) ρ G μ :=
 sP ho hg hx hy hl (by rw [txt_cat hr]; exact h)
end
structure Rep where
 err:Int
 n:BitVec 64
 value:ByteArray
 is:Bool
 pairs:List (ByteArray×ByteArray)
 dones:List (Int×Int)
def Rep.cells (r:Rep) (vp vd:Value):List Value:=[.int .i64 r.err,uv .u64 r.n,.string r.value,.bool r.is,vp,vd]
theorem Rep.one (r:Rep) {vp vd:Value} (h1:vp.oneCell'=true) (h2:vd.oneCell'=true):∀ u∈r.cells vp vd,u.oneCell'=true:=one11 (by
 unfold Rep.cells
 simp only [List.all_cons,List.all_nil,h1,h2]
 rfl)
def Rep.zero:Rep:=⟨0,0#64,⟨#[]⟩,false,[],[]⟩
def encPr (p:ByteArray×ByteArray):List Value:=[.string p.1,.string p.2]
def encDn (d:Int×Int):List Value:=[.int .i64 d.1,.int .i64 d.2]
def encTx (s:ByteArray):List Value:=[.string s]
def oddZ (n:Int):Bool:=decide (n%2=1)
def sError:List UInt8:=[101,114,114,111,114,32]
def sNone:List UInt8:=[110,111,110,101]
def sHeld:List UInt8:=[104,101,108,100,32]
def sWorked:List UInt8:=[119,111,114,107,101,100]
def sIdle:List UInt8:=[105,100,108,101]
def sDone:List UInt8:=[100,111,110,101]
def sOk:List UInt8:=[111,107]
def pairT (p:ByteArray×ByteArray):List UInt8:=bts p.1++61 :: bts p.2
def okT (k:Y) (n:Int) (r:Rep):List UInt8 :=
 if k=2#8 then (if r.is=true then 61 :: bts r.value else sNone)
 else if k=3#8 then (if r.pairs=[] then sNone else Lib.join (r.pairs.map pairT) [32])
 else if k=4#8 then sHeld++Lib.decDigits r.n.toNat
 else if k=6#8 then (if oddZ n=true∧r.is=true then sWorked else if oddZ n=true∨r.dones=[] then sIdle else sDone)
 else sOk
def toldT (k:Y) (n:Int) (r:Rep):List UInt8:=if r.err=0 then okT k n r else sError++Lib.itoa r.err
def doneT (d:Int×Int):List UInt8:=32 :: (Lib.itoa d.1++58 :: Lib.itoa d.2)
def textT (k:Y) (n:Int) (r:Rep):List UInt8:=toldT k n r++r.dones.flatMap doneT
theorem nDig_le {u:Nat} (h:u<18446744073709551616):Lib.nDigits u≤20:=by
 by_cases h1:1≤u
 ·have:=Lib.numDigits_eq u h1 h
  split at this<;>omega
 ·have:u=0:=by omega
  subst this
  rw [Lib.nDigits_small (by decide)]; decide
theorem dec_le {u:Nat} (h:u<18446744073709551616):(Lib.decDigits u).length≤20:=by rw [Lib.decDigits_length]; exact nDig_le h
theorem itoa_le {n:Int} (h0 : -9223372036854775808≤n) (h1:n≤9223372036854775807):(Lib.itoa n).length≤21:=by
 unfold Lib.itoa
 split
 ·have:=dec_le (u:=n.natAbs) (by omega)
  simp only [List.length_cons]; omega
 ·have:=dec_le (u:=n.toNat) (by omega)
  omega
structure Rep.ok (r:Rep):Prop where
 err : -9223372036854775808≤r.err∧r.err≤9223372036854775807
 value:r.value.size≤100000
 pairs:r.pairs.length≤500∧∀ p∈r.pairs,p.1.size≤1000∧p.2.size≤1000
 dones:r.dones.length≤500∧∀ d∈r.dones,(-9223372036854775808≤d.1∧d.1≤9223372036854775807)∧(-9223372036854775808≤d.2∧d.2≤9223372036854775807)
theorem pairT_le {p:ByteArray×ByteArray} (h:p.1.size≤1000∧p.2.size≤1000):(pairT p).length≤2001:=by
 unfold pairT
 simp only [List.length_append,List.length_cons,bts_len]; omega
theorem join_le {x:List UInt8} {m:Nat}:∀ {l:List (List UInt8)},(∀ y∈l,y.length≤m)→(Lib.join l [32]).length≤(m+1)*l.length:=by
 intro l h
 match l with
 | []=>simp [Lib.join_nil]
 | a :: r =>
  rw [Lib.join_cons]
  have h2:∀ r:List (List UInt8),(∀ y∈r,y.length≤m)→(Lib.joinTail [32] r).length≤(m+1)*r.length:=by
   intro r
   induction r with
   | nil=>intro _; simp [Lib.joinTail]
   | cons b r ih =>
    intro hb
    have h3:=ih fun y hy=>hb y (List.mem_cons_of_mem _ hy)
    have h4:=hb b (List.mem_cons_self ..)
    unfold Lib.joinTail at h3 ⊢
    simp only [List.map_cons,List.flatten_cons,qlA]
    rw [Nat.mul_succ]; omega
  have h5:=h2 r fun y hy=>h y (List.mem_cons_of_mem _ hy)
  have h6:=h a (List.mem_cons_self ..)
  simp only [List.length_append,List.length_cons]
  rw [Nat.mul_succ]; omega
theorem doneT_le {d:Int×Int} (h:(-9223372036854775808≤d.1∧d.1≤9223372036854775807)∧(-9223372036854775808≤d.2∧d.2≤9223372036854775807)):(doneT d).length≤50:=by
 have h1:=itoa_le h.1.1 h.1.2
 have h2:=itoa_le h.2.1 h.2.2
 unfold doneT
 simp only [List.length_append,List.length_cons]; omega
theorem dones_le:∀ {l:List (Int×Int)},(∀ d∈l,(-9223372036854775808≤d.1∧d.1≤9223372036854775807)∧(-9223372036854775808≤d.2∧d.2≤9223372036854775807))→(l.flatMap doneT).length≤50*l.length
 | [],_=>by simp
 | d :: l,h=>by
  have h1:=doneT_le (h d (List.mem_cons_self ..))
  have h2:=dones_le (l:=l) fun x hx=>h x (List.mem_cons_of_mem _ hx)
  rw [List.flatMap_cons,List.length_append,List.length_cons]; omega
theorem okT_le {k:Y} {n:Int} {r:Rep} (h:r.ok):(okT k n r).length≤1100000∧okT k n r≠[]:=by
 have h2:=h.value
 have h3:=join_le (x:=[]) (m:=2001) (l:=r.pairs.map pairT) (fun y hy=>by obtain ⟨p,hp,rfl⟩:=List.mem_map.1 hy; exact pairT_le (h.pairs.2 p hp))
 have h4:=dec_le (u:=r.n.toNat) r.n.isLt
 have h5:=h.pairs.1
 rw [List.length_map] at h3
 have h6:∀ a:List (ByteArray×ByteArray),a≠[]→Lib.join (a.map pairT) [32]≠[]:=by
  intro a ha
  match a,ha with
  | x :: r,_ =>
   rw [List.map_cons,Lib.join_cons]
   unfold pairT
   simp
 unfold okT
 repeat' split
 all_goals refine ⟨?_,?_⟩
 all_goals first
  | ((try simp only [qlA,bts_len,sNone,sHeld,sWorked,sIdle,sDone,sOk]); omega)
  | (exact h6 _ (by assumption))
  | (simp [sNone,sHeld,sWorked,sIdle,sDone,sOk]; done)
theorem toldT_le {k:Y} {n:Int} {r:Rep} (h:r.ok):(toldT k n r).length≤1100000∧toldT k n r≠[]:=by
 have h1:=itoa_le h.err.1 h.err.2
 unfold toldT
 split
 ·exact okT_le h
 refine ⟨?_,by simp [sError]⟩
 rw [List.length_append]
 have:sError.length=6:=rfl
 omega
theorem andB1 (n:Int):IntKind.i64.wrap ((BitVec.ofInt 64 n &&& BitVec.ofInt 64 1).toNat:Int)=n%2:=by
 have h:((BitVec.ofInt 64 n &&& BitVec.ofInt 64 1).toNat:Int)=n%2:=by
  have h1:(BitVec.ofInt 64 1).toNat=1:=rfl
  rw [BitVec.toNat_and,BitVec.toNat_ofInt,h1,Nat.and_one_is_mod]
  omega
 rw [h]; exact wrap_i64 (by omega) (by omega)
section
variable {dr:Bool} {mc:Md} {P:Program} {n:Fm} {l:List Oper} {K:Env→PM→Mem→Prop} {i:Nat} {σ:List Nat} {ρ:Env} {G:PM} {μ:Mem}
variable {d t:Nat} {p:String} {af:Array Edge} {g:Option (Nat×Bool)} {c:Bool}
theorem anA {T T':TypeId} {x y:Operand} {a:Int} (ho:nth l i=some ⟨some d,.binOp .and T x y T',t,p,af,g⟩) (hg:Gd l ρ g c) (hx:Ev ρ c x (.int .i64 a)) (hy:Ev ρ c y (.int .i64 1))
  (h:Wo dr mc P n l K σ ((d,c,.int .i64 (a%2)) :: ρ) G μ):Wo dr mc P n l K (i :: σ) ρ G μ :=
 .pure ho (.inl rfl) hg (fun hc q w ha=>by
  have h5:(Op.intBits .and .i64 a 1)=pure (.int .i64 (IntKind.i64.wrap ((BitVec.ofInt 64 a &&& BitVec.ofInt 64 1).toNat:Int))):=rfl
  have h6:binOp .and T (.int .i64 a) (.int .i64 1)=Op.intBits .and .i64 a 1:=rfl
  have hb:(binOp .and T (.int .i64 a) (.int .i64 1)).run P w=.ok (.int .i64 (a%2)) w:=by rw [h6,h5,andB1]; rfl
  simp only [execOp,hx.eval ha hc,hy.eval ha hc,Sem.run_bind,eqGuard_int,Result.andThen_ok,hb]; rfl) h
end
theorem yb_cat (l:List UInt8) (s:ByteArray):yb (txt l)++yb s=yb (txt (l++bts s)):=by
 conv=>lhs; rw [← txt_bts s]
 rw [yb_txt,yb_txt,yb_txt,List.map_append]
theorem freeze_other (w:World) (b n k:Nat) (h:k≠b):(w.freeze ⟨b,0,none⟩ n).heap[k]? = w.heap[k]?:=by
 unfold World.freeze
 split
 ·rfl
 ·simp only [Array.getElem?_modify]
  rw [if_neg (by omega)]
theorem freeze_size (w:World) (b n:Nat):(w.freeze ⟨b,0,none⟩ n).heap.size=w.heap.size:=by
 unfold World.freeze
 split
 ·rfl
 ·simp
theorem freeze_os (w:World) (b n:Nat):(w.freeze ⟨b,0,none⟩ n).os=w.os∧(w.freeze ⟨b,0,none⟩ n).tape=w.tape∧(w.freeze ⟨b,0,none⟩ n).output=w.output:=by
 unfold World.freeze
 split<;>exact ⟨rfl,rfl,rfl⟩
theorem V_of (x:UInt8):V (BitVec.ofNat 8 x.toNat)=.int .u8 (x.toNat:Int):=by
 have h:(BitVec.ofNat 8 x.toNat).toNat=x.toNat:=by rw [BitVec.toNat_ofNat,Nat.mod_eq_of_lt x.toNat_lt]
 show Value.int .u8 (((BitVec.ofNat 8 x.toNat).toNat:Nat):Int)=_
 rw [h]
theorem Tr.frzR {G:PM} {w:World} {v:Value} {E m b n:Nat} {xs:List Value} (h:Sat G [.row v E 1 m xs] w) (hv:v.ownBlock=some b):Tr G (keys [.row v E 1 m xs]) w G [] (w.freeze ⟨b,0,none⟩ n):=by
 have hk:b∈keys [Res.row v E 1 m xs]:=by simp [keys,Res.keys,hv]
 have hG:G b=none:=h.apart b hk
 obtain ⟨o1,o2,o3⟩:=freeze_os w b n
 refine ⟨⟨fun k o hko=>?_,fun r hr=>(List.not_mem_nil hr).elim,fun k hk=>(List.not_mem_nil hk).elim,List.nodup_nil⟩,o1,o2,o3,Nat.le_of_eq (freeze_size w b n).symm,fun k _ hn=>⟨freeze_other w b n k (fun e=>hn (e▸hk)),rfl⟩,fun k hk=>(List.not_mem_nil hk).elim,fun _ _ _ h=>h⟩
 rw [freeze_other w b n k (fun e=>by subst e; rw [hG] at hko; cases hko)]
 exact h.sub k o hko
def ptE (P:Program) (T:TypeId):Option TypeId:=match P.underlying T with | some (.pointer e)=>if P.cellsOf e=1 then some e else none | _=>none
section
variable {dr:Bool} {mc:Md} {P:Program} {n:Fm} {L:List Oper} {K:Env→PM→Mem→Prop} {i:Nat} {σ:List Nat} {ρ:Env} {G:PM} {μ:Mem}
variable {d t:Nat} {p:String} {af:Array Edge}
theorem uSD {T:TypeId} {x:Operand} {b m cap:Nat} (ho:nth L i=some ⟨some d,.call { callee:=.builtin .unsafeSliceData,args:=#[x],argTypes:=#[T] },t,p,af,none⟩) (hx:Ev ρ true x (.slice (some ⟨b,0,none⟩) m cap)) (hc:cap≠0)
  (h:Wo dr mc P n L K σ ((d,true,.pointer (some ⟨b,0,none⟩)) :: ρ) G μ):Wo dr mc P n L K (i :: σ) ρ G μ:=by
 refine .act (μ₁:=[]) (μ₂:=μ) (post:=fun G' μ' v=>G'=G∧μ'=[]∧v=.pointer (some ⟨b,0,none⟩)) ho (.inl rfl) .no (.refl _) (fun a w ha hs=>.inl ?_) ?_
 ·refine ⟨_,w,G,[],.inl ?_,Tr.begin (Sat.left (μ:=[]) hs),rfl,rfl,rfl⟩
  have h1:=Lib.run_unsafeSliceData_row (P:=P) w #[T] t ⟨b,0,none⟩ m cap hc
  simp [execOp,resolve,invoke,builtin,hx.eval ha rfl,h1]
 rintro v G' μ'' _ ⟨rfl,rfl,rfl⟩
 exact h
theorem uST {T1 T2:TypeId} {x y:Operand} {b m cap E:Nat} {l:List UInt8} {μ':Mem} (ho:nth L i=some ⟨some d,.call { callee:=.builtin .unsafeString,args:=#[x,y],argTypes:=#[T1,T2] },t,p,af,none⟩) (hT:ptE P T1=some E)
  (hx:Ev ρ true x (.pointer (some ⟨b,0,none⟩))) (hy:Ev ρ true y (.int .i64 (l.length:Int))) (h0:l≠[]) (h63:l.length≤9223372036854775807) (hm:MTake μ (rB (.slice (some ⟨b,0,none⟩) m cap) E (yb (txt l))) μ')
  (h:Wo dr mc P n L K σ ((d,true,.string (txt l)) :: ρ) G μ'):Wo dr mc P n L K (i :: σ) ρ G μ:=by
 refine .act (μ₁:=[rB (.slice (some ⟨b,0,none⟩) m cap) E (yb (txt l))]) (μ₂:=μ') (post:=fun G' μ' v=>G'=G∧μ'=[]∧v=.string (txt l)) ho (.inl rfl) .no hm.perm (fun a w ha hs=>.inl ?_) ?_
 ·have hs1:=hs.left
  have hr:w.ownsRow 0 E 1 (.slice (some ⟨b,0,none⟩) m cap) (yb (txt l)).length ((yb (txt l)).map V):=hs1.own _ (List.mem_singleton.2 rfl)
  obtain ⟨hu,hc⟩ : P.underlying T1=some (.pointer E)∧P.cellsOf E=1:=by
   unfold ptE at hT
   split at hT
   ·rename_i e he
    split at hT
    ·rename_i h1
     simp only [Option.some.injEq] at hT
     subst hT
     exact ⟨he,h1⟩
    cases hT
   cases hT
  have hcells:=World.ownsRow.cells hr (g:=b) rfl
  have hlen:(yb (txt l)).length=l.length:=yb_len _
  obtain ⟨cur,hb,hle⟩ : ∃ cur:Array Value,w.heap[b]? = some (.cells cur E (0,0))∧l.length≤cur.size:=by
   rcases hr.2 with ⟨hv,_⟩ | ⟨g,cap',cur,hv,_,hg,hn,_,hsz,_⟩
   ·cases hv
   cases hv
   exact ⟨cur,hg,by rw [hsz]; rw [hlen] at hn; omega⟩
  have h1:=Lib.run_unsafeString_row (P:=P) w T1 T2 t E hu hc b cur.size (by simp [World.shape?,hb]) l h0 hle h63 (fun j x hj=>hcells j _ (by
   rw [yb_txt,List.getElem?_map,List.getElem?_map,hj]
   exact congrArg some (V_of x)))
  refine ⟨_,_,G,[],.inl ?_,Tr.frzR (n:=l.length) hs1 rfl,rfl,rfl,rfl⟩
  have hy':a.eval y=.int .i64 (l.length:Int):=hy.eval ha rfl
  simp only [execOp,resolve,invoke,builtin,hx.eval ha rfl,hy']
  simp [hx.eval ha rfl,hy',h1]
  rfl
 rintro v G' μ'' _ ⟨rfl,rfl,rfl⟩
 exact h
end
theorem ct_below {P:Program} {f:FuncId} {args:Array Value} {G:PM} {v:Value} (h:∀ w,Sat G [] w→Calls P f args w (fun e w'=>e=.returned v∧Below w.heap.size w w')):Ct P f args G [] (fun _ μ' u=>μ'=[]∧u=v):=fun w hs=>by
 refine (h w hs).mono ?_
 rintro e w' ⟨rfl,hb⟩
 refine ⟨v,G,[],rfl,⟨⟨fun b o ho=>?_,fun r hr=>(List.not_mem_nil hr).elim,fun k hk=>(List.not_mem_nil hk).elim,List.nodup_nil⟩,hb.os,hb.tape,hb.output,hb.size,fun b hb' _=>⟨hb.block b hb',rfl⟩,fun k hk=>(List.not_mem_nil hk).elim,fun _ _ _ h=>h⟩,rfl,rfl⟩
 have h1:=hs.sub b o ho
 rw [hb.block b (Array.getElem?_eq_some_iff.1 h1).1]; exact h1
def PwG (P:Program) (G:PM):Prop:=∀ w,(∀ b o,G b=some o→w.heap[b]? = some o)→Lib.TabIs P w "internal/strconv.uint64pow10" .u64 Lib.pow10Tab
theorem PwG.mono {P:Program} {G G':PM} (h:PwG P G) (hle:PM.le G G'):PwG P G':=fun w hw=>h w fun b o hb=>hw b o (hle b o hb)
theorem PwG.tab {P:Program} {G:PM} {μ:Mem} {w:World} (h:PwG P G) (hs:Sat G μ w):Lib.TabIs P w "internal/strconv.uint64pow10" .u64 Lib.pow10Tab:=h w hs.sub
theorem SlR.strAt {G:PM} {h:Sh} {xs:List ByteArray} {w:World} (hs:SlR G 1 encTx h xs) (hw:∀ b o,G b=some o→w.heap[b]? = some o):∀ (j:Nat) x,xs[j]? = some x→w.cell? ⟨h.b,h.o+j,none⟩=some (.string x):=fun j x hx=>by
 have h1:=hs.rd j x hx 0 (.string x) rfl w hw
 simpa using h1
theorem ky_t {k:Y} {m:Nat} (h:(((BitVec.toNat k:Nat):Int) == (m:Int))=true):k=BitVec.ofNat 8 m:=by
 have h1:((BitVec.toNat k:Nat):Int)=(m:Int):=by simpa using h
 have h2:BitVec.toNat k=m:=by omega
 rw [← h2]; simp
theorem ky_f {k:Y} {m:Nat} (hm:m<256) (h:(((BitVec.toNat k:Nat):Int) == (m:Int))=false):¬ k=BitVec.ofNat 8 m:=fun e=>by
 subst e
 rw [BitVec.toNat_ofNat,Nat.mod_eq_of_lt (by omega)] at h
 simp at h
theorem odd_t {n:Int} {b:Bool} (h:(n%2 == 1&&b)=true):oddZ n=true∧b=true:=by simpa [oddZ] using h
theorem odd_f {n:Int} {b:Bool} (h:(n%2 == 1&&b)=false):¬ (oddZ n=true∧b=true):=fun e=>by
 have:(n%2 == 1&&b)=true:=by simpa [oddZ] using e
 rw [this] at h; cases h
theorem odo_t {n:Int} {α:Type} {l:List α} (h:(n%2 == 1||((l.length:Nat):Int) == 0)=true):oddZ n=true∨l=[]:=by
 simp [oddZ] at h ⊢; exact h
theorem odo_f {n:Int} {α:Type} {l:List α} (h:(n%2 == 1||((l.length:Nat):Int) == 0)=false):¬ (oddZ n=true∨l=[]):=by
 simp [oddZ] at h ⊢; exact h
theorem join_le2 {l:List (ByteArray×ByteArray)} (h:∀ p∈l,p.1.size≤1000∧p.2.size≤1000) (hl:l.length≤500):(Lib.join (l.map pairT) [32]).length≤140737488355328:=by
 have h3:=join_le (x:=[]) (m:=2001) (l:=l.map pairT) (fun y hy=>by obtain ⟨p,hp,rfl⟩:=List.mem_map.1 hy; exact pairT_le (h p hp))
 rw [List.length_map] at h3
 omega
theorem yb_0:yb (txt [])=[]:=by rw [yb_txt]; rfl
theorem fmtk_snoc {α β:Type} (f:α→List β) {l:List α} {k:Nat} {x:α} (h:l[k]? = some x):(l.take k).flatMap f++f x=(l.take (k+1)).flatMap f:=by
 rw [List.take_add_one,h,List.flatMap_append]; simp
def pairB (p:ByteArray×ByteArray):ByteArray:=txt (pairT p)
theorem pairB_map (l:List (ByteArray×ByteArray)):(l.map pairB).map bts=l.map pairT:=by rw [List.map_map]; rfl
theorem mtk_snoc {α β:Type} (f:α→β) {l:List α} {k:Nat} {x:α} (h:l[k]? = some x):(l.take k).map f++[f x]=(l.take (k+1)).map f:=by
 rw [List.take_add_one,h,List.map_append]; rfl
theorem leaves_no {P:Program} {fn:Func} {tmps:Array Value} {R:Ending→World→Prop} (hR:∀ e w,¬ R e w):∀ (ds:List Deferred) (u:FrameMode) (w:World),¬ Leaves P fn tmps R ds u w
 | [],u,w,h=>by
  cases u with
  | run=>exact h
  | returning=>obtain ⟨v,_,h⟩:=h; exact hR _ _ h
  | panicking ch=>exact hR _ _ h
 | d :: ds,u,w,h=>by
  obtain ⟨_,fv,cap,f,args,_,_,hc⟩:=h
  obtain ⟨e,u',w',fr,h,_⟩:=hc { (default:Frame) with mode:=u } [] rfl
  cases e with
  | returned v=>exact leaves_no hR ds _ _ h
  | panicked ch=>exact leaves_no hR ds _ _ h
  | outgrown=>exact hR _ _ h
theorem wp_of_wk {P:Program} {fn:Func} {n:Nat} {G G1:PM} {K0:List Nat} {w0 w:World} {c:Code} {ρ:Env} {μ:Mem} {I:Act→World→Prop} {a:Act} {Q:Exit→Act→World→Prop}
  (h:Wk (cx0 P fn n G K0 w0 (fun _ _ _=>False) (fun _=>False)) c [.lp I] ρ G1 μ) (ha:Ag (fm0 n fun _=>False) ρ a) (ht:Tr G K0 w0 G1 μ w) (hq:∀ a w,I a w→Q .normal a w):c.wp P Q a w:=by
 refine wp_mono (h.out a w ha ht) fun e a' w' he=>?_
 have hR:∀ e w,¬ RR (fun _ _ _=>False) (fun _=>False) G K0 w0 e w:=by
  rintro e w (⟨_,_,_,_,_,h⟩ | ⟨_,_,_,_,h⟩)<;>exact h
 cases e with
 | normal=>exact hq _ _ he
 | ret=>exact (leaves_no hR _ _ _ he).elim
 | panic ch=>exact (leaves_no hR _ _ _ he).elim
 | outgrown=>exact (hR _ _ he).elim
 | exit id=>exact he.elim
 | goto l=>exact he.elim
theorem Wk.defersE {X:Cx} {k:List KI} {ρ:Env} {G:PM} {μ:Mem} {id:Nat} {l:List Oper} (σ1:List Nat) (j:Nat) (q:DQ) (T be ba bc TE TI TC m:Nat) (zs:List Value) (v3:Value) (D:Nat→Prop) {rs:List ResultVar} (vs:Nat→List Value) (hf:goFn X.P q.f=true) (hr:X.fn.results=rs.toArray) (h0:X.n.ds=[])
  (hc:∀ w G e es x y,Sat G [.blk be (cl es TE),.blk ba (cl [x] TI),.blk bc (cl [y] TC)] w→es.length=m→CallsD X.P q.f (q.args++q.vc).toArray (.panicking [wrn T e]) w (fun r u' w'=>(∃ v,r=.returned v)∧u'=.panicking [wrn' T e]∧Tr G (keys [.blk be (cl es TE),.blk ba (cl [x] TI),.blk bc (cl [y] TC)]) w G [.blk be (cl zs TE),.blk ba (cl [.int .i64 (e:Int)] TI),.blk bc (cl [v3] TC)] w'))
  (hp:∀ e,D e→∀ G',X.post G' [] (tup (vs e))) (hσ:List.range l.length=σ1++[j]) (hds:dstAll X.n l=true)
  (h:Wo false ⟨false,false⟩ X.P X.n l (fun ρ G μ=>DefOp X.P X.n l j q.d ρ∧We (X.dfs q.d (dieE X.P T be ba bc TE TI TC m zs v3 D rs vs) (dieE_ok hf hr h0 hc hp)) .normal k ρ G μ) σ1 ρ G μ):Wk X (.region id l.toArray false) k ρ G μ :=
 Wk.defers σ1 j q.d _ (dieE_ok hf hr h0 hc hp) hσ hds h
def flP (P:Program) (T f:Nat):Option Nat :=
 match P.underlying T with
 | some (.struct fs)=>match fs[f]? with
  | some fl=>match P.underlying fl.type with
   | some (.struct _) | some (.array _ _)=>none
   | some _=>some fl.offset
   | none=>none
  | none=>none
 | _=>none
section
variable {dr:Bool} {mc:Md} {P:Program} {n:Fm} {l:List Oper} {K:Env→PM→Mem→Prop} {i:Nat} {σ:List Nat} {ρ:Env} {G:PM} {μ:Mem}
variable {d t:Nat} {p:String} {af:Array Edge} {g:Option (Nat×Bool)} {c:Bool}
theorem fdV {T f o:Nat} {x:Operand} {cs:Array Value} {v:Value} (ho:nth l i=some ⟨some d,.field T x f,t,p,af,g⟩) (hg:Gd l ρ g c) (hF:flP P T f=some o) (hx:Ev ρ c x (.agg cs)) (hv:c=true→cs[o]? = some v)
  (h:Wo dr mc P n l K σ ((d,c,v) :: ρ) G μ):Wo dr mc P n l K (i :: σ) ρ G μ :=
 .pure ho (.inl rfl) hg (fun hc a w ha=>by
  unfold flP at hF
  have hv':=hv hc
  split at hF
  ·rename_i fs hu
   split at hF
   ·rename_i fl hfl
    split at hF
    ·cases hF
    ·cases hF
    ·rename_i q hn1 hn2 hq
     simp only [Option.some.injEq] at hF
     subst hF
     have hA:(isAgg fl.type).run P w=.ok false w:=by
      unfold isAgg
      simp only [Sem.run_bind,run_underlying hq,Result.andThen_ok]
      first
       |rfl
       | (split<;>first|rfl|exact absurd hq (hn1 _)|exact absurd hq (hn2 _ _))
     simp [execOp,hx.eval ha hc,Instr.field,run_underlying hu,hfl,part,hA,hv',asAgg]
    ·cases hF
   ·cases hF
  ·cases hF) h
end
theorem seen_step {d:List UInt8} {k:Nat} (h:k<d.length) (hs:d.all seenY=true):(Utf8.decode (txt d) k).1=d[k].toNat∧32≤d[k].toNat∧d[k].toNat<127∧itP (txt d) k=k+1:=by
 have hk:k<(txt d).size:=h
 have hc:=List.all_eq_true.1 hs d[k] (List.getElem_mem h)
 unfold seenY at hc
 simp only [Bool.and_eq_true,decide_eq_true_eq] at hc
 have he:=decode_ascii (txt d) k hk (by show (d[k]).toNat<128; omega)
 exact ⟨by rw [he]; rfl,hc.1,hc.2,by unfold itP; rw [if_pos hk,he]⟩
theorem dropT_at {d:List UInt8} {k:Nat} (h:k<d.length):(txt (d.drop k)).data.toList[0]? = some d[k]:=by
 show (d.drop k)[0]? = some d[k]
 rw [List.getElem?_drop,Nat.add_zero,List.getElem?_eq_getElem h]
theorem it_i {s:ByteArray} {p:Nat} (h:p<s.size):(itA s p).toList[1]? = some (.int .i64 (p:Int)):=by
 unfold itA
 rw [if_pos h]; rfl
theorem ne0_txt (s:List UInt8):(!((txt s).toList == (⟨#[]⟩ : ByteArray).toList)) = !decide (s=[]):=by
 have h:((txt s).toList == (⟨#[]⟩ : ByteArray).toList)=decide (s=[]):=txt_eq s []
 rw [h]
def PrsR (s:List UInt8) (e:EvD) (i:Nat) (c:Int):Prop:=(parseD s=.ok e∧i=0∧c=0)∨(parseD s=.error i∧e=EvD.zero∧c=260)
theorem fits0 {s:List UInt8} (h:s.length≤1000) {m:Bool}:Ln.fits ⟨s,0,m,0⟩:=by unfold Ln.fits; dsimp only; omega
section
variable {dr:Bool} {mc:Md} {P:Program} {n:Fm} {l:List Oper} {K:Env→PM→Mem→Prop} {i:Nat} {σ:List Nat} {ρ:Env} {G:PM} {μ:Mem}
variable {d t:Nat} {p:String} {af:Array Edge} {g:Option (Nat×Bool)} {c:Bool}
theorem apB {T E b m:Nat} {x y:Operand} {u:Value} {cs:List Value} (xs:List Y) {ys:List Y} {μ':Mem} (ho:nth l i=some ⟨some d,.call { callee:=.builtin .append,args:=#[x,y],argTypes:=#[T,T] },t,p,af,none⟩)
  (hT:slE P T=some (E,1,1)) (hz:(P.info? E).bind (·.zero)=some (.int .u8 0)) (hx:Ev ρ true x (.slice (some ⟨b,0,none⟩) m m)) (hc:cs=xs.map V) (hl:xs.length=m) (hy:Ev ρ true y u) (hm:MTake μ (.blk b (cl cs E)) μ') (hs:Sc G μ u ys) (hb:xs.length+ys.length≤140737488355328)
  (h:∀ v' L,v'.oneCell'=true→L=xs++ys→Wo dr mc P n l K σ ((d,true,v') :: ρ) G (rB v' E L :: μ')) (hmc:mc.a=false∨dr=false:=by first|exact .inl rfl|exact .inr rfl):Wo dr mc P n l K (i :: σ) ρ G μ:=by
 subst hl; subst hc
 obtain ⟨oa,cap,rfl,hr⟩:=hs.ex
 refine .act (μ₁:=[.blk b (cl (xs.map V) E)]) (μ₂:=μ') (post:=fun G' μ' v'=>G'=G∧v'.oneCell'=true∧μ'=[rB v' E (xs++ys)]) ho (by rcases hmc with h | h<;>simp [kindOf,h]) .no hm.perm (fun a w ha hs=>.inl ?_) ?_
 ·have hrow:Tr G (keys [.blk b (cl (xs.map V) E)]) w G [rB (.slice (some ⟨b,0,none⟩) xs.length xs.length) E xs] w :=
   (Tr.begin hs.left).asRow (sz:=1) (by simp) (Nat.le_refl _) (by unfold maxLen; omega) (by simp) (by rw [Nat.mul_one]; exact List.take_of_length_le (by simp))
  obtain ⟨v',w',hrun,ht⟩:=run_ap (ty:=t) (cp:=cap) (news:=ys.map V) (k:=ys.length) (oa:=oa) hT hz rfl hrow.sat (by simp) (fun hk=>by
   obtain ⟨b,o,h1,h2⟩:=hr hk
   exact ⟨b,o,h1,fun j u hj=>h2 j u hj w (hs.perm hm.perm.symm)⟩) (one_V ys) (by omega) (by unfold maxLen; omega)
  refine ⟨v',w',G,[rB v' E (xs++ys)],.inl (by simp [execOp,resolve,invoke,builtin,hx.eval ha rfl,hy.eval ha rfl,hrun]),?_,rfl,ht.sat.rowOne,rfl⟩
  simp only [rB,List.length_append,List.map_append]
  have:keys [rB (.slice (some ⟨b,0,none⟩) xs.length xs.length) E xs]=keys [.blk b (cl (xs.map V) E)]:=by simp [keys,Res.keys,Value.ownBlock]
  rw [← this]; exact ht
 rintro v' G' μ'' _ ⟨rfl,h1,rfl⟩
 exact h v' _ h1 rfl
theorem k00 {T e sz by':Nat} {x y z:Operand} (ho:nth l i=some ⟨some d,.slice T x none (some y) (some z),t,p,af,none⟩) (hT:slE P T=some (e,sz,by')) (hx:Ev ρ true x (.slice none 0 0)) (hy:Ev ρ true y (.int .i64 0)) (hz:Ev ρ true z (.int .i64 0))
  (h:Wo dr mc P n l K σ ((d,true,.slice none 0 0) :: ρ) G μ):Wo dr mc P n l K (i :: σ) ρ G μ:=by
 obtain ⟨hu',inf,hi',hs1,hb1⟩:=slE_some hT
 refine .pure (v:=.slice none 0 0) ho (.inl rfl) .no (fun hc a w ha=>?_) h
 simp [execOp,hx.eval ha rfl,hy.eval ha rfl,hz.eval ha rfl,Instr.sliceAt,run_underlying hu',Instr.slice,Instr.sliceBounds,Instr.sliceBound,asIntOf,sizeOf,typeInfo,hi']
end
structure Wtg where
 c:Nat
 sh:Sh
 ops:List Opn
 sy:Bool
def Wtg.cells (w:Wtg):List Value:=[.int .i64 (w.c:Int),w.sh.val w.ops.length,.bool w.sy]
theorem Wtg.len (w:Wtg):w.cells.length=3:=rfl
theorem Wtg.one (w:Wtg):∀ u∈w.cells,u.oneCell'=true:=by
 intro u hu
 simp only [Wtg.cells,List.mem_cons,List.not_mem_nil,or_false] at hu
 rcases hu with rfl|rfl|rfl<;>rfl
def AllW (G:PM) (ws:List Wtg):Prop:=∀ w,w∈ws→SlR G 3 Opn.cells w.sh w.ops
theorem AllW.mono {G G':PM} {ws:List Wtg} (h:AllW G ws) (hle:PM.le G G'):AllW G' ws:=fun w hw=>(h w hw).mono hle
def encD (c:Nat):List Value:=[.int .i64 (c:Int),.int .i64 0]
def encW (w:Wtg):List Value:=[w.sh.val w.ops.length]
def jn (ws:List Wtg):List Opn:=ws.flatMap Wtg.ops
theorem jn_snoc {ws:List Wtg} {k:Nat} {w:Wtg} (h:ws[k]? = some w):jn (ws.take k)++w.ops=jn (ws.take (k+1)):=by
 rw [List.take_add_one,h]; simp [jn]
def szO:List Opn→Nat
 | []=>0
 | o :: r=>o.user.size+o.value.size+szO r
theorem szO_snoc:∀ {l:List Opn} {k:Nat} {o:Opn},l[k]? = some o→szO (l.take (k+1))=szO (l.take k)+(o.user.size+o.value.size)
 | [],_,_,h=>by simp at h
 | x :: r,0,o,h=>by simp only [List.getElem?_cons_zero,Option.some.injEq] at h; subst h; simp [szO]
 | x :: r,k+1,o,h=>by
  rw [List.getElem?_cons_succ] at h
  rw [List.take_succ_cons,List.take_succ_cons,szO,szO,szO_snoc h]; omega
theorem szO_le {l:List Opn} (h:∀ o∈l,o.ok):szO l≤20*l.length:=by
 induction l with
 | nil=>exact Nat.le_refl _
 | cons a r ih =>
  have:=ih fun o ho=>h o (List.mem_cons_of_mem _ ho)
  have h2:=h a (List.mem_cons_self ..)
  have h3:=h2.user; have h4:=h2.value
  rw [szO,List.length_cons]; omega
section
variable {P:Program} {f:FuncId} {args:Array Value} {G:PM} {μ:Mem}
theorem lendR {α:Type} {enc:α→List Value} {sz bl T E:Nat} {v z:Value} {xs:List α} {r:Value} (hsz:∀ x∈xs,(enc x).length=sz)
  (h:∀ (s:Sh) (G2:PM),PM.le G G2→v=s.val xs.length→SlR G2 sz enc s xs→PB G2 bl (cl [z,v] T)→Ct P f args G2 μ (fun _ μ' u=>μ'=μ∧u=r)) :
  Ct P f args G (.blk bl (cl [z,v] T) :: rS sz enc v E xs :: μ) (fun _ μ' u=>μ'=.blk bl (cl [z,v] T) :: rS sz enc v E xs :: μ∧u=r) :=
 (lend1 (Q:=fun ν u=>ν=rS sz enc v E xs :: μ∧u=r) fun G1 hle1 h1=>(Ct.lendS (Q:=fun ν u=>ν=μ∧u=r) hsz fun s G2 hle hv hs=>h s G2 (hle1.trans hle) hv hs (h1.mono hle)).mono
  fun G' μ' u ⟨ν,h2,h3,h4⟩=>⟨by rw [h2,h3],h4⟩).mono fun G' μ' u ⟨ν,h2,h3,h4⟩=>⟨by rw [h2,h3],h4⟩
end
section
variable {dr:Bool} {mc:Md} {P:Program} {n:Fm} {l:List Oper} {K:Env→PM→Mem→Prop} {i:Nat} {σ:List Nat} {ρ:Env} {G:PM} {μ:Mem}
variable {d t:Nat} {p:String} {af:Array Edge}
theorem apE {α:Type} {enc:α→List Value} {sz T E by':Nat} {x y:Operand} {z:Value} {a0:Addr} {s:Sh} {ys:List α} (ho:nth l i=some ⟨some d,.call { callee:=.builtin .append,args:=#[x,y],argTypes:=#[T,T] },t,p,af,none⟩)
  (hT:slE P T=some (E,sz,by')) (hz:(P.info? E).bind (·.zero)=some z) (hzs:z.cells.size=sz) (hx:Ev ρ true x (.slice (some a0) 0 0)) (hy:Ev ρ true y (s.val ys.length)) (hs:SlR G sz enc s ys) (h0:0<ys.length) (hsz:∀ u∈ys,(enc u).length=sz) (h1:∀ u∈ys.flatMap enc,u.oneCell'=true) (hb:ys.length*by'≤140737488355328) (h63:ys.length≤maxLen)
  (h:∀ v',v'.oneCell'=true→Wo dr mc P n l K σ ((d,true,v') :: ρ) G (rS sz enc v' E ys :: μ)) (hmc:mc.a=false∨dr=false:=by first|exact .inl rfl|exact .inr rfl):Wo dr mc P n l K (i :: σ) ρ G μ:=by
 refine .act (μ₁:=[]) (μ₂:=μ) (post:=fun G' μ' v'=>G'=G∧v'.oneCell'=true∧μ'=[rS sz enc v' E ys]) ho (by rcases hmc with h | h<;>simp [kindOf,h]) .no (.refl _) (fun a w ha hs0=>.inl ?_) ?_
 ·have hsμ:Sat G μ w:=by simpa using hs0
  obtain ⟨hu,inf,hi,rfl,rfl⟩:=slE_some hT
  have hz':=hz
  rw [hi] at hz'
  simp only [Option.bind_some] at hz'
  have hne:=hs.nn h0
  have hfl:=flat_len hsz
  have hnews:∀ j u,(ys.flatMap enc)[j]? = some u→w.cell? ((⟨s.b,s.o,none⟩ : Addr).add j)=some u:=fun j u hj=>by rw [add_lit]; exact (SlR.flat hsz hs j u hj) w hsμ.sub
  unfold maxLen at h63
  have hrun:=run_append_grow (P:=P) w T t E inf _ hu hi hz' a0 0 0 [] (by simp) (fun j v h=>by simp at h) ⟨s.b,s.o,none⟩ ys.length s.cap (ys.flatMap enc) hfl hnews (by omega) (by omega) (growslice_fits (by omega) (by simpa using hb))
  simp only [Nat.zero_add] at hrun
  have h2:=((Tr.begin (Sat.left (μ:=[]) hs0)).drew).alloc (.cells (([]:List Value).toArray++(ys.flatMap enc).toArray++Builtin.zeroCells z.cells (grownCap w ys.length 0 E-ys.length)) E)
  have hge:=grownCap_ge w ys.length 0 E
  have h3:=h2.asRow (m:=ys.length) (cap:=grownCap w ys.length 0 E) (sz:=inf.size) (xs:=ys.flatMap enc) hfl hge (grownCap_le_maxLen w ys.length 0 E (by unfold maxLen; omega)) (by
   simp only [Array.size_append,List.size_toArray,size_zeroCells,hfl,List.length_nil,hzs]
   have:=Nat.add_mul ys.length (grownCap w ys.length 0 E-ys.length) inf.size
   rw [show ys.length+(grownCap w ys.length 0 E-ys.length)=grownCap w ys.length 0 E by omega] at this
   omega) (by rw [Array.toList_append,Array.toList_append]; exact List.take_left' (by simp [hfl]))
  refine ⟨_,_,G,_,.inl (by simp [execOp,resolve,invoke,builtin,hx.eval ha rfl,hy.eval ha rfl,Sh.val,hne,hrun]; rfl),h3,rfl,rfl,?_⟩
  simp [rS]
 rintro v' G' μ'' _ ⟨rfl,h1,rfl⟩
 exact h v' h1
theorem apE0 {T E sz by' c:Nat} {x y:Operand} {o1 o2:Option Addr} (ho:nth l i=some ⟨some d,.call { callee:=.builtin .append,args:=#[x,y],argTypes:=#[T,T] },t,p,af,none⟩)
  (hT:slE P T=some (E,sz,by')) (hx:Ev ρ true x (.slice o1 0 0)) (hy:Ev ρ true y (.slice o2 0 c))
  (h:Wo dr mc P n l K σ ((d,true,.slice o1 0 0) :: ρ) G μ) (hmc:mc.a=false∨dr=false:=by first|exact .inl rfl|exact .inr rfl):Wo dr mc P n l K (i :: σ) ρ G μ:=by
 obtain ⟨hu,inf,hi,rfl,rfl⟩:=slE_some hT
 refine .act (μ₁:=[]) (μ₂:=μ) (post:=fun G' μ' v'=>G'=G∧v'=.slice o1 0 0∧μ'=[]) ho (by rcases hmc with h | h<;>simp [kindOf,h]) .no (.refl _) (fun a w ha hs0=>.inl ?_) ?_
 ·refine ⟨.slice o1 0 0,w,G,[],.inl ?_,Tr.begin (Sat.left (μ:=[]) hs0),rfl,rfl,rfl⟩
  cases o1<;>cases o2<;>simp [execOp,resolve,invoke,builtin,hx.eval ha rfl,hy.eval ha rfl,Builtin.append_,run_underlying hu,sizeOf,typeInfo,hi,Builtin.lenOf,Builtin.firstCells,loadCells,loadCellsFrom,storeCells]
 rintro v' G' μ'' _ ⟨rfl,rfl,rfl⟩
 exact h
end
theorem run_eqp0 {P:Program} {T:TypeId} (hT:ptT P T=true) (w:World):(Op.equal T (.pointer none) (.pointer none)).run P w=.ok true w:=by
 unfold ptT at hT
 split at hT
 ·rename_i e hu
  unfold Op.equal
  rw [show Op.maxDepth=9999+1 from rfl,Op.equalIn]
  simp [run_underlying hu]
 ·cases hT
section
variable {dr:Bool} {mc:Md} {P:Program} {n:Fm} {l:List Oper} {K:Env→PM→Mem→Prop} {i:Nat} {σ:List Nat} {ρ:Env} {G:PM} {μ:Mem}
variable {d t:Nat} {p:String} {af:Array Edge} {g:Option (Nat×Bool)} {c:Bool}
theorem pe0 {T T':TypeId} {x y:Operand} (ho:nth l i=some ⟨some d,.binOp .eql T x y T',t,p,af,g⟩) (hg:Gd l ρ g c) (hT:ptT P T=true) (hx:Ev ρ c x (.pointer none)) (hy:Ev ρ c y (.pointer none)) (h:Wo dr mc P n l K σ ((d,c,.bool true) :: ρ) G μ):Wo dr mc P n l K (i :: σ) ρ G μ :=
 .pure ho (.inl rfl) hg (fun hc q w ha=>by
  have hq:(eqGuard .eql T x y (.pointer none) (.pointer none)).run P w=.ok () w:=by unfold eqGuard; simp
  simp [execOp,hx.eval ha hc,hy.eval ha hc,hq,binOp,run_eqp0 hT]) h
end
theorem tk_snoc {α:Type} {xs:List α} {k:Nat} {x:α} (h:xs[k]? = some x):xs.take k++[x]=xs.take (k+1):=by
 rw [List.take_add_one,h]; rfl
theorem jn_le {ws:List Wtg} (h1:∀ w∈ws,w.ops.length≤10):(jn ws).length≤10*ws.length:=by
 induction ws with
 | nil=>exact Nat.le_refl _
 | cons a r ih =>
  have:=ih fun w hw=>h1 w (List.mem_cons_of_mem _ hw)
  have h2:=h1 a (List.mem_cons_self ..)
  simp only [jn,List.flatMap_cons,List.length_append,List.length_cons] at this ⊢
  omega
theorem toList_inj {a b:ByteArray} (h:(a.toList == b.toList)=true):a=b:=bytes_inj (by simpa using h)
end Go.Tan
