/- Lemmas and contracts of functions, joined. -/
import Derived.Test.YtbdnclpopappeaaGreatDoorMb1
import Derived.Laws.CopyRow
import Derived.Lib.AppendStr
import Derived.Laws.IdiomStrings
import Derived.Test.YtbdnclpopappeaaGreatDoorCards
import Derived.Test.YtbdnclpopappeaaGreatDoorTie
import Derived.OpenShut
import Derived.Deep.DeepHandedRow
import Derived.Deep.CondSized
import Derived.JoinedCond
set_option linter.unusedSimpArgs false
set_option linter.unusedVariables false
set_option linter.unusedSectionVars false
namespace Go.Tan
open Go.RowKit
section
variable {dr:Bool} {mc:Md} {P:Program} {n:Fm} {l:List Oper} {K:Env→PM→Mem→Prop} {i:Nat} {σ:List Nat} {ρ:Env} {G:PM} {μ:Mem}
variable {d t:Nat} {p:String} {af:Array Edge} {g:Option (Nat×Bool)} {c:Bool}
theorem apF {T E b o m cap:Nat} {x y:Operand} {u:Value} {xs ys:List Y} (hdf:mc.a=false∨dr=false) (ho:nth l i=some ⟨some d,.call { callee:=.builtin .append,args:=#[x,y],argTypes:=#[T,T] },t,p,af,none⟩)
  (hT:slE P T=some (E,1,1)) (hz:(P.info? E).bind (·.zero)=some (.int .u8 0)) (hx:Ev ρ true x (.slice (some ⟨b,o,none⟩) m cap)) (hy:Ev ρ true y u) (hold:SlR G 1 encY ⟨some ⟨b,o,none⟩,cap⟩ xs) (hm:xs.length=m) (hs:Sc G μ u ys) (h0:0<ys.length) (hg:cap<m+ys.length) (hb:xs.length+ys.length≤140737488355328)
  (h:∀ v' L,v'.oneCell'=true→L=xs++ys→Wo dr mc P n l K σ ((d,true,v') :: ρ) G (rB v' E L :: μ)):Wo dr mc P n l K (i :: σ) ρ G μ:=by
 subst hm
 obtain ⟨oa,cp,rfl,hr⟩:=hs.ex
 clear hs
 obtain ⟨b2,o2,rfl,hrd⟩:=hr h0
 refine .act (μ₁:=[]) (μ₂:=μ) (post:=fun G' μ' v'=>G'=G∧v'.oneCell'=true∧μ'=[rB v' E (xs++ys)]) ho (by rcases hdf with h | h<;>simp [kindOf,h]) .no (.refl _) (fun a w ha hs=>.inl ?_) ?_
 ·obtain ⟨hu,inf,hi,hs1,hb1⟩:=slE_some hT
  have hz':=hz
  rw [hi] at hz'
  simp only [Option.bind_some] at hz'
  have hnews:∀ j u,(ys.map V)[j]? = some u→w.cell? ((⟨b2,o2,none⟩ : Addr).add j)=some u:=fun j u hj=>by rw [add_lit]; exact hrd j u hj w hs
  have holds:∀ j u,(xs.map V)[j]? = some u→w.cell? ((⟨b,o,none⟩ : Addr).add j)=some u:=fun j u hj=>by
   rw [add_lit]
   have h1:=SlR.flat (enc:=encY) (fun _ _=>rfl) hold
   rw [flat_V] at h1
   exact h1 j u hj w hs.sub
  have hrun:=run_append_grow (P:=P) w T t E inf _ hu hi hz' ⟨b,o,none⟩ xs.length cap (xs.map V) (by rw [hs1]; simp) holds ⟨b2,o2,none⟩ ys.length cp (ys.map V) (by rw [hs1]; simp) hnews (by omega) (by omega) (growslice_fits (by omega) (by rw [hb1]; omega))
  have h2:=((Tr.begin (Sat.left (μ:=[]) hs)).drew).alloc (.cells ((xs.map V).toArray++(ys.map V).toArray++Builtin.zeroCells (Value.int .u8 0).cells (grownCap w (xs.length+ys.length) cap E-(xs.length+ys.length))) E)
  have hge:=grownCap_ge w (xs.length+ys.length) cap E
  have h3:=h2.asRow (m:=xs.length+ys.length) (cap:=grownCap w (xs.length+ys.length) cap E) (sz:=1) (xs:=(xs++ys).map V) (by simp) hge (grownCap_le_maxLen w (xs.length+ys.length) cap E (by unfold maxLen; omega)) (by
   simp only [Array.size_append,List.size_toArray,size_zeroCells,List.length_map]
   have:(Value.int .u8 0).cells.size=1:=rfl
   rw [this]; omega) (by rw [Array.toList_append,Array.toList_append,List.map_append]; exact List.take_left' (by simp))
  refine ⟨_,_,G,_,.inl (by simp [execOp,resolve,invoke,builtin,hx.eval ha rfl,hy.eval ha rfl,hrun]; rfl),h3,rfl,rfl,?_⟩
  simp [rB]
 rintro v' G' μ'' _ ⟨rfl,h1,rfl⟩
 exact h v' _ h1 rfl
theorem wk_br {X:Cx} {cd:Code} {k:List KI} {b E:Nat} {cs:List Value} {μ':Mem} (xs:List Y) (m:Nat) (hm:MTake μ (.blk b (cl cs E)) μ') (hx:cs=xs.map V) (hl:xs.length=m) (hb:m≤140737488355328)
  (h:Wk X cd k ρ G (rB (.slice (some ⟨b,0,none⟩) m m) E xs :: μ')):Wk X cd k ρ G μ :=
 ⟨fun a w ha ht=>by
  subst hl; subst hx
  exact h.out a w ha ((ht.perm hm.perm).asRow (sz:=1) (by simp) (Nat.le_refl _) (by unfold maxLen; omega) (by simp) (by rw [Nat.mul_one]; exact List.take_of_length_le (by simp)))⟩
theorem kM {α:Type} {enc:α→List Value} {T e sz by':Nat} {x y z:Operand} {s:Sh} {xs:List α} (hi:Nat) (ho:nth l i=some ⟨some d,.slice T x none (some y) (some z),t,p,af,none⟩) (hT:slE P T=some (e,sz,by')) (hs:SlR G sz enc s xs)
  (hx:Ev ρ true x (s.val xs.length)) (hy:Ev ρ true y (.int .i64 hi)) (hz:Ev ρ true z (.int .i64 hi)) (h1:hi≤xs.length)
  (h:∀ s' L,L=xs.take hi→L.length=hi→SlR G sz enc s' L→Wo dr mc P n l K σ ((d,true,s'.val L.length) :: ρ) G μ):Wo dr mc P n l K (i :: σ) ρ G μ:=by
 have hl:(xs.take hi).length=hi:=by simp; omega
 have htake:SlR G sz enc ⟨s.oa,hi⟩ (xs.take hi):=by
  refine ⟨fun hne=>hs.there (fun e=>hne (by rw [e]; simp)),by rw [hl]; exact Nat.le_refl _,fun j u hj=>?_⟩
  rw [List.getElem?_take] at hj
  split at hj
  ·exact hs.rd j u hj
  cases hj
 have h2:=h _ _ rfl hl htake
 rw [hl] at h2
 refine .pure ho (.inl rfl) .no (fun hc a w ha=>?_) h2
 obtain ⟨hu,inf,hi',rfl,rfl⟩:=slE_some hT
 have hx':=hx.eval ha hc
 simp only [Sh.val] at hx'
 have e3:=hs.le
 have hid:∀ oa:Option Addr,oa.map (fun a=>a.add 0)=oa:=fun oa=>by cases oa<;>simp [add_zero']
 have e4:hi≤s.cap:=by omega
 simp [execOp,hx',hy.eval ha hc,hz.eval ha hc,Instr.sliceAt,run_underlying hu,Instr.slice,Instr.sliceBounds,Instr.sliceBound,asIntOf,e4,sizeOf,typeInfo,hi',Sh.val,hid]
theorem mAq {T T':TypeId} {x y:Operand} {k:IntKind} {a1 a2:Int} (q:Int) (ho:nth l i=some ⟨some d,.call { callee:=.builtin .max,args:=#[x,y],argTypes:=#[T,T'] },t,p,af,none⟩) (hx:Ev ρ true x (.int k a1)) (hy:Ev ρ true y (.int k a2)) (he:(if a2 > a1 then a2 else a1)=q)
  (h:Wo dr mc P n l K σ ((d,true,.int k q) :: ρ) G μ):Wo dr mc P n l K (i :: σ) ρ G μ:=mA ho .no hx hy (by rw [he]; exact h)
theorem Ct.lendK {f:FuncId} {args:Array Value} {b:Nat} {o:Obj} {Q:Mem→Value→Prop} (h:PM.le G (G.add b o)→Ct P f args (G.add b o) μ (fun _ μ' u=>Q μ' u)):Ct P f args G (.blk b o :: μ) (fun _ μ' u=>∃ ν,μ'=.blk b o :: ν∧Q ν u):=by
 intro w hs
 exact Ct.lend (h (PM.le_add (hs.apart b (by simp [keys,Res.keys])))) w hs
theorem Sh.val_inj {s s':Sh} {m:Nat} (h:s.val m=s'.val m):s=s':=by
 cases s; cases s'; simp only [Sh.val,Value.slice.injEq,true_and] at h; rw [h.1,h.2]
end
section
variable {dr:Bool} {mc:Md} {P:Program} {n:Fm} {l:List Oper} {K:Env→PM→Mem→Prop} {i:Nat} {σ:List Nat} {ρ:Env} {G:PM} {μ:Mem}
variable {d t:Nat} {p:String} {af:Array Edge} {g:Option (Nat×Bool)} {c:Bool}
theorem run_eqn {T m:Nat} {s:Sh} (hT:(slE P T).isSome=true) (w:World):(Op.equal T (s.val m) (.slice none 0 0)).run P w=.ok s.oa.isNone w:=by
 unfold slE at hT
 split at hT
 ·rename_i e hu
  unfold Op.equal
  rw [show Op.maxDepth=9999+1 from rfl,Op.equalIn]
  obtain ⟨oa,cap⟩:=s
  cases oa<;>simp [run_underlying hu,Sh.val]
 ·cases hT
theorem sn0 {T T' m:Nat} {x y:Operand} {s:Sh} (ho:nth l i=some ⟨some d,.binOp .eql T x y T',t,p,af,g⟩) (hg:Gd l ρ g c) (hT:(slE P T).isSome=true) (hx:Ev ρ c x (s.val m)) (hy:Ev ρ c y (.slice none 0 0)) (h:Wo dr mc P n l K σ ((d,c,.bool s.oa.isNone) :: ρ) G μ):Wo dr mc P n l K (i :: σ) ρ G μ :=
 .pure ho (.inl rfl) hg (fun hc q w ha=>by
  have hq:(eqGuard .eql T x y (s.val m) (.slice none 0 0)).run P w=.ok () w:=by unfold eqGuard; simp [Sh.val]
  have hb:(binOp .eql T (s.val m) (.slice none 0 0)).run P w=.ok (.bool s.oa.isNone) w:=by
   have:=run_eqn (P:=P) (s:=s) (m:=m) hT w
   simp only [Sh.val] at this ⊢
   simp [binOp,this]
  simp [execOp,hx.eval ha hc,hy.eval ha hc,hq,hb]) h
theorem sn1 {T T' m:Nat} {x y:Operand} {s:Sh} (ho:nth l i=some ⟨some d,.binOp .neq T x y T',t,p,af,g⟩) (hg:Gd l ρ g c) (hT:(slE P T).isSome=true) (hx:Ev ρ c x (s.val m)) (hy:Ev ρ c y (.slice none 0 0)) (h:Wo dr mc P n l K σ ((d,c,.bool (!s.oa.isNone)) :: ρ) G μ):Wo dr mc P n l K (i :: σ) ρ G μ :=
 .pure ho (.inl rfl) hg (fun hc q w ha=>by
  have hq:(eqGuard .neq T x y (s.val m) (.slice none 0 0)).run P w=.ok () w:=by unfold eqGuard; simp [Sh.val]
  have hb:(binOp .neq T (s.val m) (.slice none 0 0)).run P w=.ok (.bool (!s.oa.isNone)) w:=by
   have:=run_eqn (P:=P) (s:=s) (m:=m) hT w
   simp only [Sh.val] at this ⊢
   simp [binOp,this]
  simp [execOp,hx.eval ha hc,hy.eval ha hc,hq,hb]) h
theorem splice_take {A C:List Value} {o m:Nat} (h1:o+C.length≤m) (h2:m≤A.length):(A.take o++C++A.drop (o+C.length)).take m=(A.take m).take o++C++(A.take m).drop (o+C.length):=by
 have hl:(A.take o++C).length=o+C.length:=by rw [List.length_append,List.length_take]; omega
 rw [List.take_append,List.take_of_length_le (by omega),hl,List.take_take,Nat.min_eq_left (by omega),List.drop_take]
theorem keys_k {r r':Res} {μ1 ν:Mem} (h:MTake μ r' μ1) (e:r'.keys=r.keys) (hs:∀ b∈keys ν,b∈keys μ1):∀ b∈keys (r :: ν),b∈keys μ:=by
 intro b hb
 have h1:b∈r.keys++keys ν:=by simpa [keys] using hb
 refine (keys_perm h.perm).mem_iff.2 ?_
 show b∈keys (r' :: μ1)
 have h2:b∈r'.keys++keys μ1:=by
  rcases List.mem_append.1 h1 with h1 | h1
  ·exact List.mem_append_left _ (by rw [e]; exact h1)
  exact List.mem_append_right _ (hs b h1)
 simpa [keys] using h2
theorem keys_0:∀ b∈keys [],b∈keys μ:=fun b hb=>by cases hb
abbrev rS {α:Type} (sz:Nat) (enc:α→List Value) (v:Value) (E:Nat) (xs:List α):Res:=.row v E sz xs.length (xs.flatMap enc)
theorem apSg {α:Type} {enc:α→List Value} {sz T E by' b cp:Nat} {x y:Operand} {v z:Value} {xs:List α} {μ' μ2:Mem} (a:α) (ho:nth l i=some ⟨some d,.call { callee:=.builtin .append,args:=#[x,y],argTypes:=#[T,T] },t,p,af,g⟩) (hg:Gd l ρ g true)
  (hT:slE P T=some (E,sz,by')) (hz:(P.info? E).bind (·.zero)=some z) (hzs:z.cells.size=sz) (hx:Ev ρ true x v) (hy:Ev ρ true y (.slice (some ⟨b,0,none⟩) 1 cp)) (hm:MTake μ (rS sz enc v E xs) μ') (hb:MTake μ (.blk b (cl (enc a) E)) μ2) (ha:(enc a).length=sz) (h1:∀ u∈enc a,u.oneCell'=true) (hl:(xs.length+1)*by'≤140737488355328) (hl2:xs.length+1≤maxLen)
  (h:∀ v',v'.oneCell'=true→Wo dr mc P n l K σ ((d,true,v') :: ρ) G (rS sz enc v' E (xs++[a]) :: μ')) (hmc:mc.a=false∨dr=false:=by first|exact .inl rfl|exact .inr rfl):Wo dr mc P n l K (i :: σ) ρ G μ:=by
 refine .act (μ₁:=[rS sz enc v E xs]) (μ₂:=μ') (post:=fun G' μ' v'=>G'=G∧v'.oneCell'=true∧μ'=[rS sz enc v' E (xs++[a])]) ho (by rcases hmc with h | h<;>simp [kindOf,h]) hg hm.perm (fun q w hq hs=>.inl ?_) ?_
 ·obtain ⟨v',w',hrun,ht⟩:=run_ap (ty:=t) (cp:=cp) (news:=enc a) (k:=1) (oa:=some ⟨b,0,none⟩) hT hz hzs hs.left (by rw [ha]; omega) (fun _=>⟨b,0,rfl,fun j u hj=>(RdN.own hb) j u hj w (hs.perm hm.perm.symm)⟩) h1 hl hl2
  refine ⟨v',w',G,[rS sz enc v' E (xs++[a])],.inl (by simp [execOp,resolve,invoke,builtin,hx.eval hq rfl,hy.eval hq rfl,hrun]),?_,rfl,ht.sat.rowOne,rfl⟩
  simp only [rS,List.length_append,List.flatMap_append,List.flatMap_cons,List.flatMap_nil,List.append_nil]; exact ht
 rintro v' G' μ'' _ ⟨rfl,h1,rfl⟩
 exact h v' h1
theorem apS {α:Type} {enc:α→List Value} {sz T E by' b cp:Nat} {x y:Operand} {v z:Value} {xs:List α} {μ' μ2:Mem} (a:α) (ho:nth l i=some ⟨some d,.call { callee:=.builtin .append,args:=#[x,y],argTypes:=#[T,T] },t,p,af,none⟩)
  (hT:slE P T=some (E,sz,by')) (hz:(P.info? E).bind (·.zero)=some z) (hzs:z.cells.size=sz) (hx:Ev ρ true x v) (hy:Ev ρ true y (.slice (some ⟨b,0,none⟩) 1 cp)) (hm:MTake μ (rS sz enc v E xs) μ') (hb:MTake μ (.blk b (cl (enc a) E)) μ2) (ha:(enc a).length=sz) (h1:∀ u∈enc a,u.oneCell'=true) (hl:(xs.length+1)*by'≤140737488355328) (hl2:xs.length+1≤maxLen)
  (h:∀ v',v'.oneCell'=true→Wo dr mc P n l K σ ((d,true,v') :: ρ) G (rS sz enc v' E (xs++[a]) :: μ')) (hmc:mc.a=false∨dr=false:=by first|exact .inl rfl|exact .inr rfl):Wo dr mc P n l K (i :: σ) ρ G μ:=apSg a ho .no hT hz hzs hx hy hm hb ha h1 hl hl2 h hmc
theorem Tr.frzS {α:Type} {enc:α→List Value} {sz:Nat} {G0:PM} {K0:List Nat} {w0 w:World} {E:Nat} {v:Value} {xs:List α} (hsz:∀ x∈xs,(enc x).length=sz) (h:Tr G0 K0 w0 G (rS sz enc v E xs :: μ) w) (hK:∀ b∈K0,b∈keys μ) :
  ∃ G' s,PM.le G G'∧v=Sh.val s xs.length∧SlR G' sz enc s xs∧Tr G0 K0 w0 G' μ w:=by
 obtain ⟨G',s,h1,h2,h3,h4,h5,h6⟩:=h.freezeRow hK
 exact ⟨G',s,h1,h2,SlR.ofRow hsz h3 h4 h5,h6⟩
theorem we_fs {α:Type} {enc:α→List Value} {sz:Nat} {X:Cx} {e:Exit} {k:List KI} {E:Nat} {v:Value} {xs:List α} {μ':Mem} (hm:MTake μ (rS sz enc v E xs) μ') (hsz:∀ x∈xs,(enc x).length=sz) (hK:∀ b∈X.K0,b∈keys μ') (h:∀ G' s,PM.le G G'→v=Sh.val s xs.length→SlR G' sz enc s xs→We X e k ρ G' μ'):We X e k ρ G μ :=
 ⟨fun a w ha ht=>by
  obtain ⟨G',s,h1,h2,h3,h4⟩:=(ht.perm hm.perm).frzS hsz hK
  exact (h G' s h1 h2 h3).out a w ha h4⟩
theorem wk_fs {α:Type} {enc:α→List Value} {sz:Nat} {X:Cx} {cd:Code} {k:List KI} {E:Nat} {v:Value} {xs:List α} {μ':Mem} (hm:MTake μ (rS sz enc v E xs) μ') (hsz:∀ x∈xs,(enc x).length=sz) (hK:∀ b∈X.K0,b∈keys μ') (h:∀ G' s,PM.le G G'→v=Sh.val s xs.length→SlR G' sz enc s xs→Wk X cd k ρ G' μ'):Wk X cd k ρ G μ :=
 ⟨fun a w ha ht=>by
  obtain ⟨G',s,h1,h2,h3,h4⟩:=(ht.perm hm.perm).frzS hsz hK
  exact (h G' s h1 h2 h3).out a w ha h4⟩
theorem wk_nilS {α:Type} (sz:Nat) (enc:α→List Value) {X:Cx} {cd:Code} {k:List KI} (E:Nat) (h:Wk X cd k ρ G (rS sz enc (.slice none 0 0) E [] :: μ)):Wk X cd k ρ G μ:=wk_nilRow E sz h
theorem slr {T e sz by' b m cap:Nat} {x y:Operand} {k:IntKind} {lo:Int} (q:Nat) (ho:nth l i=some ⟨some d,.slice T x (some y) none none,t,p,af,none⟩) (hT:slE P T=some (e,sz,by')) (hx:Ev ρ true x (.slice (some ⟨b,0,none⟩) m cap)) (hy:Ev ρ true y (.int k lo))
  (hq:lo=q) (h1:q≤m) (h2:m≤cap) (h3:q<cap) (h:Wo dr mc P n l K σ ((d,true,.slice (some ⟨b,q*sz,none⟩) (m-q) (cap-q)) :: ρ) G μ):Wo dr mc P n l K (i :: σ) ρ G μ :=
 .pure ho (.inl rfl) .no (fun _ a w ha=>by
  obtain ⟨hu,inf,hi,rfl,rfl⟩:=slE_some hT
  subst hq
  have hx':=hx.eval ha rfl
  have hn:¬ cap=q:=by omega
  simp [execOp,hx',hy.eval ha rfl,Instr.sliceAt,run_underlying hu,Instr.slice,Instr.sliceBounds,Instr.sliceBound,asIntOf,sizeOf,typeInfo,hi,h1,h2,hn,add_lit]) h
end
inductive CK where
 | int (k:IntKind)
 | str
 | bool
 deriving DecidableEq
def litOf:Value→Lit
 | .int k n=>.int k n
 | .string s=>.string s.data.toList
 | .bool b=>.bool b
 | _=>.bool false
inductive CkOk:CK→Value→Prop where
 | int {k:IntKind} {n:Int} (h1:k.min≤n) (h2:n≤k.max):CkOk (.int k) (.int k n)
 | str {s:ByteArray} (h:s.size≤maxLen):CkOk .str (.string s)
 | bool {b:Bool}:CkOk .bool (.bool b)
inductive Conf:List CK→List Value→Prop where
 | nil:Conf [] []
 | cons {k v ks cs} (h:CkOk k v) (r:Conf ks cs):Conf (k :: ks) (v :: cs)
theorem CkOk.u {k:IntKind} (hk:k.signed=false) (x:BitVec k.bits):CkOk (.int k) (uv k x):=by
 have:=x.isLt
 refine .int ?_ ?_
 ·rw [min_u hk]; omega
 rw [max_u hk]
 have h2:((2^k.bits:Nat):Int)=(2:Int)^k.bits:=by simp
 omega
theorem Conf.len {ks:List CK} {cs:List Value} (h:Conf ks cs):cs.length=ks.length:=by
 induction h with
 | nil=>rfl
 | cons _ _ ih=>simp [ih]
theorem Conf.app {ks ks':List CK} {cs cs':List Value} (h:Conf ks cs) (h':Conf ks' cs'):Conf (ks++ks') (cs++cs'):=by
 induction h with
 | nil=>exact h'
 | cons h1 _ ih=>exact .cons h1 ih
theorem Conf.split {ks ks':List CK}:∀ {cs:List Value},Conf (ks++ks') cs→Conf ks (cs.take ks.length)∧Conf ks' (cs.drop ks.length):=by
 induction ks with
 | nil=>intro cs h; exact ⟨by simpa using Conf.nil,by simpa using h⟩
 | cons k ks ih =>
  intro cs h
  cases h with
  | cons h1 r =>
   obtain ⟨h2,h3⟩:=ih r
   exact ⟨.cons h1 h2,h3⟩
theorem Conf.inj {ks:List CK} {cs cs':List Value} (h:Conf ks cs) (h':Conf ks cs') (e:cs.map litOf=cs'.map litOf):cs=cs':=by
 induction h generalizing cs' with
 | nil=>cases h'; rfl
 | cons h1 _ ih =>
  cases h' with
  | cons h2 r2 =>
   simp only [List.map_cons,List.cons.injEq] at e
   rw [ih r2 e.2]
   congr 1
   cases h1 with
   | int _ _=>cases h2 with | int _ _=>have:=e.1; simp only [litOf,Lit.int.injEq,true_and] at this; rw [this]
   | @str s1 _=>cases h2 with
    | @str s2 _ =>
     have:=e.1
     simp only [litOf,Lit.string.injEq] at this
     have h3:s1.data=s2.data:=by
      have:=congrArg List.toArray this
      simpa using this
     obtain ⟨d1⟩:=s1
     obtain ⟨d2⟩:=s2
     simp only at h3
     rw [h3]
   | bool=>cases h2 with | bool=>have:=e.1; simp only [litOf,Lit.bool.injEq] at this; rw [this]
def shpF (P:Program) (f:TypeId→Option (List CK)):Nat→List Field→Option (List CK)
 | _,[]=>some []
 | o,fl :: r=>match f fl.type with
  | some ks=>if fl.offset=o∧P.cellsOf fl.type=ks.length then (shpF P f (o+ks.length) r).map (ks++·) else none
  | none=>none
def shp (P:Program):Nat→TypeId→Option (List CK)
 | 0,_=>none
 | d+1,t=>match P.underlying t with
  | some (.int k)=>some [.int k]
  | some .string=>some [.str]
  | some .bool=>some [.bool]
  | some (.array n e)=>match shp P d e with
   | some ks=>if P.cellsOf e=ks.length∧P.cellsOf t=n*ks.length then some (List.replicate n ks).flatten else none
   | none=>none
  | some (.struct fs)=>match shpF P (shp P d) 0 fs.toList with
   | some ks=>if P.cellsOf t=ks.length∧fs.all (·.name != "_")=true then some ks else none
   | none=>none
  | _=>none
theorem conf_rep {ks:List CK}:∀ {n:Nat} {cs:List Value},Conf (List.replicate n ks).flatten cs→∀ i,i<n→Conf ks ((cs.drop (i*ks.length)).take ks.length)
 | 0,_,_,i,hi=>by omega
 | n+1,cs,h,i,hi=>by
  rw [List.replicate_succ,List.flatten_cons] at h
  obtain ⟨h1,h2⟩:=h.split
  cases i with
  | zero=>simpa using h1
  | succ i =>
   have:=conf_rep h2 i (by omega)
   rw [List.drop_drop] at this
   rwa [Nat.succ_mul,Nat.add_comm]
theorem chunks {α:Type} {f:Value→α} {L:Nat}:∀ {n:Nat} {cs:List Value},cs.length=n*L→((List.range n).map fun i=>((cs.drop (i*L)).take L).map f).flatten=cs.map f
 | 0,cs,h=>by
  obtain rfl:cs=[]:=List.eq_nil_of_length_eq_zero (by simpa using h)
  rfl
 | n+1,cs,h=>by
  rw [List.range_succ_eq_map,List.map_cons,List.flatten_cons,List.map_map,Nat.zero_mul,List.drop_zero]
  have h2:=chunks (f:=f) (L:=L) (n:=n) (cs:=cs.drop L) (by rw [List.length_drop,h,Nat.succ_mul]; omega)
  have e:(List.map ((fun i=>List.map f (List.take L (List.drop (i*L) cs))) ∘ Nat.succ) (List.range n))=(List.range n).map fun i=>(((cs.drop L).drop (i*L)).take L).map f:=by
   apply List.map_congr_left
   intro i _
   simp only [Function.comp,List.drop_drop,Nat.succ_mul,Nat.add_comm]
  rw [e,h2,←List.map_append,List.take_append_drop]
theorem mapM_all {α β:Type} {f:α→Option β} {g:α→β}:∀ {l:List α},(∀ x∈l,f x=some (g x))→l.mapM f=some (l.map g)
 | [],_=>by simp
 | x :: l,h=>by simp [List.mapM_cons,h x (List.mem_cons_self ..),mapM_all (l:=l) fun z hz=>h z (List.mem_cons_of_mem _ hz)]
section
variable {P:Program}
theorem conf_fields {d:Nat} (ih:∀ t ks cs,shp P d t=some ks→Conf ks cs→P.keyLits d t cs=some (cs.map litOf)):∀ (fs:List Field) (o:Nat) (ks:List CK) (cs:List Value),shpF P (shp P d) o fs=some ks→Conf ks (cs.drop o) →
  ∃ r,fs.mapM (fun f=>P.keyLits d f.type ((cs.drop f.offset).take (P.cellsOf f.type)))=some r∧r.flatten=(cs.drop o).map litOf
 | [],o,ks,cs,h,hc=>by
  simp only [shpF,Option.some.injEq] at h
  subst h
  have:=hc.len
  exact ⟨[],by simp,by rw [List.eq_nil_of_length_eq_zero this]; rfl⟩
 | fl :: r,o,ks,cs,h,hc=>by
  simp only [shpF] at h
  split at h
  ·rename_i ks1 h1
   split at h
   ·rename_i h2
    cases h3:shpF P (shp P d) (o+ks1.length) r with
    | none=>rw [h3] at h; cases h
    | some ks2 =>
     rw [h3] at h
     simp only [Option.map_some,Option.some.injEq] at h
     subst h
     obtain ⟨c1,c2⟩:=hc.split
     rw [List.drop_drop] at c2
     obtain ⟨rr,hr1,hr2⟩:=conf_fields ih r (o+ks1.length) ks2 cs h3 c2
     have hk:=ih fl.type ks1 _ h1 c1
     refine ⟨((cs.drop o).take ks1.length).map litOf :: rr,?_,?_⟩
     ·rw [List.mapM_cons,h2.1,h2.2,hk,hr1]; rfl
     rw [List.flatten_cons,hr2,←List.map_append,←List.drop_drop,List.take_append_drop]
   cases h
  cases h
theorem conf_lits:∀ (d:Nat) (t:TypeId) (ks:List CK) (cs:List Value),shp P d t=some ks→Conf ks cs→P.keyLits d t cs=some (cs.map litOf)
 | 0,_,_,_,h,_=>by cases h
 | d+1,t,ks,cs,h,hc=>by
  simp only [shp] at h
  unfold Program.keyLits
  split at h
  ·rename_i k hu
   simp only [Option.some.injEq] at h
   subst h
   cases hc with
   | cons h1 r=>cases r; cases h1 with | int a b=>simp [hu,Lit.wf,a,b,litOf]
  ·rename_i hu
   simp only [Option.some.injEq] at h
   subst h
   cases hc with
   | cons h1 r=>cases r; cases h1 with | str a=>simp [hu,a,litOf]
  ·rename_i hu
   simp only [Option.some.injEq] at h
   subst h
   cases hc with
   | cons h1 r=>cases r; cases h1 with | bool=>simp [hu,litOf]
  ·rename_i n e hu
   split at h
   ·rename_i ks1 h1
    split at h
    ·rename_i h2
     simp only [Option.some.injEq] at h
     subst h
     have hl:cs.length=n*ks1.length:=by
      rw [hc.len]; simp
     have hm:=mapM_all (l:=List.range n) (f:=fun i=>P.keyLits d e ((cs.drop (i*P.cellsOf e)).take (P.cellsOf e))) (g:=fun i=>((cs.drop (i*ks1.length)).take ks1.length).map litOf)
      (fun i hi=>by rw [h2.1]; exact conf_lits d e ks1 _ h1 (conf_rep hc i (List.mem_range.1 hi)))
     rw [hu]
     simp only [hl,h2.2,if_true,hm,Option.map_some,chunks hl]
    ·cases h
   ·cases h
  ·rename_i fs hu
   split at h
   ·rename_i ks1 h1
    split at h
    ·rename_i h2
     simp only [Option.some.injEq] at h
     subst h
     obtain ⟨r,hr1,hr2⟩:=conf_fields (conf_lits d) fs.toList 0 ks1 cs h1 (by simpa using hc)
     rw [hu]
     simp only [hc.len,h2.1,h2.2,and_self,if_true,hr1,Option.map_some,hr2,List.drop_zero]
    ·cases h
   ·cases h
  ·cases h
def eqT (P:Program) (m:Nat) (T:TypeId) (ks:List CK):Bool :=
 (match shp P m T with | some k=>k == ks | none=>false)&&P.keyTypeAt m T && !P.eqGuardType P.depth T&&Nat.ble m 10000&&(match P.underlying T with | some (.struct _) | some (.array _ _)=>Nat.beq (P.cellsOf T) ks.length | _=>false)
theorem run_eqC {T m:Nat} {ks:List CK} {cs cs':List Value} {r:Bool} (hT:eqT P m T ks=true) (h1:Conf ks cs) (h2:Conf ks cs') (hr:r=true↔cs=cs') (w:World) :
  (Op.equal T (.agg cs.toArray) (.agg cs'.toArray)).run P w=.ok r w∧P.eqGuardType P.depth T=false:=by
 simp only [eqT,Bool.and_eq_true,Bool.not_eq_true'] at hT
 obtain ⟨⟨⟨⟨hs,hk⟩,hg⟩,hm⟩,hf⟩:=hT
 have hs':shp P m T=some ks:=by
  split at hs
  ·rename_i k hk'; rw [hk',beq_iff_eq.1 hs]
  ·cases hs
 have hm:=Nat.le_of_ble_eq_true hm
 have hform:∀ cs:List Value,Conf ks cs→(Value.agg cs.toArray).formed P T=true:=by
  intro cs hc
  have hl:=hc.len
  simp only [Value.formed]
  split at hf<;>rename_i hu<;>first|(rw [hu]; have:=Nat.eq_of_beq_eq_true hf; simp [this,hl]) | cases hf
 obtain ⟨r',hr',hiff⟩:=run_equalIn_deep (10000-m) m T hk w m m (.agg cs.toArray) (.agg cs'.toArray) (cs.map litOf) (cs'.map litOf) (hform _ h1) (hform _ h2) (by simpa [Value.cells] using conf_lits m T ks cs hs' h1) (by simpa [Value.cells] using conf_lits m T ks cs' hs' h2)
 rw [show 10000-m+m=10000 by omega] at hr'
 have e:r'=r:=by
  have h3:r'=true↔r=true:=by
   rw [hiff,hr]
   exact ⟨fun e=>h1.inj h2 e,fun e=>by rw [e]⟩
  cases r<;>cases r'<;>simp_all
 subst e
 exact ⟨hr',hg⟩
variable {dr:Bool} {mc:Md} {n:Fm} {l:List Oper} {K:Env→PM→Mem→Prop} {i:Nat} {σ:List Nat} {ρ:Env} {G:PM} {μ:Mem}
variable {d t:Nat} {p:String} {af:Array Edge} {g:Option (Nat×Bool)} {c:Bool}
theorem eqC {T T' m:Nat} {x y:Operand} {ks:List CK} {cs cs':List Value} (r:Bool) (ho:nth l i=some ⟨some d,.binOp .eql T x y T',t,p,af,g⟩) (hg:Gd l ρ g c) (hT:eqT P m T ks=true) (hx:Ev ρ c x (.agg cs.toArray)) (hy:Ev ρ c y (.agg cs'.toArray))
  (h1:c=true→Conf ks cs) (h2:c=true→Conf ks cs') (hr:c=true→(r=true↔cs=cs')) (h:Wo dr mc P n l K σ ((d,c,.bool r) :: ρ) G μ):Wo dr mc P n l K (i :: σ) ρ G μ :=
 .pure ho (.inl rfl) hg (fun hc a w ha=>by
  obtain ⟨h3,h4⟩:=run_eqC hT (h1 hc) (h2 hc) (hr hc) w
  simp [execOp,hx.eval ha hc,hy.eval ha hc,eqGuard_agg h4,binOp,h3]) h
end
theorem Conf.u8 {y:Y} {ks:List CK} {cs:List Value} (h:Conf ks cs):Conf (.int .u8 :: ks) (V y :: cs):=.cons (CkOk.u (k:=.u8) rfl y) h
theorem Conf.u64 {y:BitVec 64} {ks:List CK} {cs:List Value} (h:Conf ks cs):Conf (.int .u64 :: ks) (uv .u64 y :: cs):=.cons (CkOk.u (k:=.u64) rfl y) h
end Go.Tan
namespace Go.Tan
open Go.RowKit Go.Lib
def yb (s:ByteArray):List Y:=s.toList.map fun x=>BitVec.ofNat 8 x.toNat
theorem bstr_yb (s:ByteArray):bstr (yb s)=s:=by
 have h:(bstr (yb s)).data.toList=s.data.toList:=by
  rw [bstr_data,yb,ByteArray.toList_eq,List.map_map]
  conv=>rhs; rw [← List.map_id s.data.toList]
  refine List.map_congr_left fun x _=>?_
  simp only [Function.comp,id]
  have:=x.toNat_lt
  rw [BitVec.toNat_ofNat,Nat.mod_eq_of_lt (by omega)]
  simp
 have h2:(bstr (yb s)).data=s.data:=by
  have:=congrArg List.toArray h
  simpa using this
 obtain ⟨d⟩:=s
 cases hb:bstr (yb ⟨d⟩) with
 | mk d'=>rw [hb] at h2; simp only at h2; rw [h2]
theorem yb_bstr (xs:List Y):yb (bstr xs)=xs:=bstr_inj (bstr_yb _)
theorem yb_len (s:ByteArray):(yb s).length=s.size:=by rw [yb,List.length_map,ByteArray.toList_eq]; simp
theorem yb_cells (s:ByteArray):(yb s).map V=strCells s:=by
 unfold yb strCells
 rw [List.map_map,ByteArray.toList_eq]
 refine List.map_congr_left fun x _=>?_
 have:=x.toNat_lt
 have e:(BitVec.ofNat 8 x.toNat).toNat=x.toNat:=by rw [BitVec.toNat_ofNat,Nat.mod_eq_of_lt (by omega)]
 show Value.int .u8 (((BitVec.ofNat 8 x.toNat).toNat:Nat):Int)=_
 rw [e]
section
variable {dr:Bool} {mc:Md} {P:Program} {n:Fm} {l:List Oper} {K:Env→PM→Mem→Prop} {i:Nat} {σ:List Nat} {ρ:Env} {G:PM} {μ:Mem}
variable {d t:Nat} {p:String} {af:Array Edge} {g:Option (Nat×Bool)} {c:Bool}
theorem run_apT {T U E ty:Nat} {v:Value} {xs:List Y} {s:ByteArray} {w:World} (hT:slE P T=some (E,1,1)) (hU:strT P U=true) (hz:(P.info? E).bind (·.zero)=some (.int .u8 0)) (hs:Sat G [rB v E xs] w) (hb:xs.length+s.size≤140737488355328) :
  ∃ v' w',(Builtin.append_ #[T,U] ty #[v,.string s]).run P w=.ok v' w'∧Tr G (keys [rB v E xs]) w G [rB v' E (xs++yb s)] w':=by
 obtain ⟨hu,inf,hi,hs1,hb1⟩:=slE_some hT
 have hu2:P.underlying U=some .string:=by
  unfold strT at hU
  split at hU
  ·assumption
  cases hU
 rw [hi] at hz
 simp only [Option.bind_some] at hz
 have hown:w.ownsRow 0 E 1 v xs.length (xs.map V):=hs.own _ (List.mem_singleton.2 rfl)
 have hbegin:=Tr.begin hs
 have hyl:=yb_len s
 have hyc:=yb_cells s
 have hml:(xs.map V).length=xs.length:=List.length_map ..
 have hsl:(strCells s).length=s.size:=strCells_length s
 have hmm:maxLen=9223372036854775807:=rfl
 have eR:rB v E (xs++yb s)=.row v E 1 (xs.length+s.size) (xs.map V++strCells s):=by simp only [rB,List.length_append,List.map_append,hyl,hyc]
 have hlen:(xs.map V++strCells s).length=(xs.length+s.size)*1:=by rw [List.length_append,hml,hsl]; omega
 by_cases hk:s.size=0
 ·have hn:strCells s=[]:=List.eq_nil_of_length_eq_zero (by rw [hsl]; exact hk)
  have hy0:yb s=[]:=List.eq_nil_of_length_eq_zero (by rw [hyl]; exact hk)
  refine ⟨v,w,?_,by rw [hy0,List.append_nil]; exact hbegin⟩
  have hf:=run_firstCells_string (P:=P) w 1 s
  rw [hk,hn] at hf
  rcases hown.2 with ⟨rfl,hm⟩ | ⟨g,cap,cur,rfl,_,hg,hnc,_,_,_⟩
  ·simp [Builtin.append_,run_underlying hu,run_underlying hu2,sizeOf,typeInfo,hi,hs1,Builtin.lenOf,hk,hf]
  simp [Builtin.append_,run_underlying hu,run_underlying hu2,sizeOf,typeInfo,hi,hs1,Builtin.lenOf,hk,hf,hnc,storeCells]
 have fresh:∀ (old:Nat),Tr G (keys [rB v E xs]) w G [.row (.slice (some ⟨w.heap.size,0,none⟩) (xs.length+s.size) (grownCap w (xs.length+s.size) old E)) E 1 (xs.length+s.size) (xs.map V++strCells s)]
   (w.drew.alloc (.cells ((xs.map V).toArray++(strCells s).toArray++Builtin.zeroCells (Value.int .u8 0).cells (grownCap w (xs.length+s.size) old E-(xs.length+s.size))) E)):=by
  intro old
  have h2:=(hbegin.drew).alloc (.cells ((xs.map V).toArray++(strCells s).toArray++Builtin.zeroCells (Value.int .u8 0).cells (grownCap w (xs.length+s.size) old E-(xs.length+s.size))) E)
  have h3:Tr G (keys [rB v E xs]) w G [.blk w.heap.size (.cells ((xs.map V).toArray++(strCells s).toArray++Builtin.zeroCells (Value.int .u8 0).cells (grownCap w (xs.length+s.size) old E-(xs.length+s.size))) E)] _:=Tr.left (ν:=[rB v E xs]) h2
  have hge:=grownCap_ge w (xs.length+s.size) old E
  refine h3.asRow hlen hge (grownCap_le_maxLen w (xs.length+s.size) old E (by rw [hmm]; omega)) ?_ ?_
  ·have hz1:(Value.int IntKind.u8 0).cells.size=1:=rfl
   simp only [Array.size_append,List.size_toArray,size_zeroCells,hz1,hml,hsl]
   omega
  simp only [Array.toList_append,List.append_assoc]
  rw [← List.append_assoc,←hlen]
  exact List.take_left
 rcases hown.2 with ⟨rfl,hm⟩ | ⟨g,cap,cur,rfl,_,hg,hnc,hcm,hcs,htake⟩
 ·have hx:xs=[]:=List.eq_nil_of_length_eq_zero hm
  subst hx
  have hrun:=run_append_nil_string (P:=P) w T U ty E inf (.int .u8 0) hu hu2 hi hz s (by omega) (by omega) (by rw [hb1]; simp only [List.length_nil] at hb; omega)
  have hf:=fresh 0
  have e1:(s.data.map fun b=>Value.int .u8 b.toNat)=(strCells s).toArray:=by
   apply Array.ext'
   simp [strCells]
  rw [e1] at hrun
  simp only [List.length_nil,Nat.zero_add,List.map_nil,List.nil_append,Array.empty_append] at hf
  refine ⟨_,_,hrun,?_⟩
  have eR2:∀ u,rB u E ([]++yb s)=.row u E 1 s.size (strCells s):=fun u=>by simp only [rB,List.nil_append,hyl,hyc]
  rw [eR2]; exact hf
 by_cases hroom:xs.length+s.size≤cap
 ·simp only [Nat.mul_one] at hcs htake
  have hrun:=run_append_room_string (P:=P) w T U ty E inf hu hu2 hi hs1 g xs.length cap cur hg s hroom (by omega)
  have hsat:Sat G [.blk g (.cells cur E (0,0))] w:=⟨hs.sub,fun r hr=>by rw [List.mem_singleton.1 hr]; exact hg,fun c hc=>hs.apart c (by simpa [keys,Res.keys,Value.ownBlock] using hc),by simp [keys,Res.keys]⟩
  refine ⟨_,_,hrun,?_⟩
  have h2:=Tr.setArr (cs':=(cur.toList.take xs.length++strCells s++cur.toList.drop (xs.length+s.size)).toArray) hsat
  have h3:=h2.asRow (m:=xs.length+s.size) (cap:=cap) (sz:=1) (xs:=xs.map V++strCells s) hlen hroom hcm ?_ ?_
  ·have eR3:∀ u,rB u E (xs++yb s)=.row u E 1 (xs.length+s.size) (xs.map V++strCells s):=fun u=>by simp only [rB,List.length_append,List.map_append,hyl,hyc]
   rw [eR3]
   simpa [keys,Res.keys,Value.ownBlock] using h3
  ·simp only [List.size_toArray,qlB,Array.length_toList,hsl]
   omega
  rw [htake,←hlen]
  exact List.take_left
 have holds:∀ j u,(xs.map V)[j]? = some u→w.cell? ((⟨g,0,none⟩ : Addr).add j)=some u:=hown.cells (g:=g) rfl
 have hrun:=run_append_grow_string (P:=P) w T U ty E inf (.int .u8 0) hu hu2 hi hz ⟨g,0,none⟩ xs.length cap (xs.map V) (by rw [hml,hs1]; omega) holds s (by omega) (by omega) (growslice_fits (by omega) (by rw [hb1]; omega))
 have eR3:∀ u,rB u E (xs++yb s)=.row u E 1 (xs.length+s.size) (xs.map V++strCells s):=fun u=>by simp only [rB,List.length_append,List.map_append,hyl,hyc]
 refine ⟨_,_,hrun,?_⟩
 rw [eR3]; exact fresh cap
theorem apT {T U E:Nat} {x y:Operand} {v:Value} {s:ByteArray} {xs:List Y} {μ':Mem} (ho:nth l i=some ⟨some d,.call { callee:=.builtin .append,args:=#[x,y],argTypes:=#[T,U] },t,p,af,none⟩)
  (hT:slE P T=some (E,1,1)) (hU:strT P U=true) (hz:(P.info? E).bind (·.zero)=some (.int .u8 0)) (hx:Ev ρ true x v) (hy:Ev ρ true y (.string s)) (hm:MTake μ (rB v E xs) μ') (hb:xs.length+s.size≤140737488355328)
  (h:∀ v' L,v'.oneCell'=true→L=xs++yb s→Wo dr mc P n l K σ ((d,true,v') :: ρ) G (rB v' E L :: μ')) (hmc:mc.a=false∨dr=false:=by first|exact .inl rfl|exact .inr rfl):Wo dr mc P n l K (i :: σ) ρ G μ:=by
 refine .act (μ₁:=[rB v E xs]) (μ₂:=μ') (post:=fun G' μ' v'=>G'=G∧v'.oneCell'=true∧μ'=[rB v' E (xs++yb s)]) ho (by rcases hmc with h | h<;>simp [kindOf,h]) .no hm.perm (fun a w ha hs=>.inl ?_) ?_
 ·obtain ⟨v',w',hrun,ht⟩:=run_apT (ty:=t) (s:=s) hT hU hz hs.left hb
  exact ⟨v',w',G,[rB v' E (xs++yb s)],.inl (by simp [execOp,resolve,invoke,builtin,hx.eval ha rfl,hy.eval ha rfl,hrun]),ht,rfl,ht.sat.rowOne,rfl⟩
 rintro v' G' μ'' _ ⟨rfl,h1,rfl⟩
 exact h v' _ h1 rfl
def sbT (P:Program) (S D:TypeId):Bool:=match P.underlying S,P.underlying D with
 | some .string,some (.slice e)=>match P.underlying e with | some (.int .u8)=>true | _=>false
 | _,_=>false
theorem cvS {S D:TypeId} {x:Operand} {s:ByteArray} (hdf:dr=false) (ho:nth l i=some ⟨some d,.convert S D x,t,p,af,none⟩) (hS:sbT P S D=true) (hx:Ev ρ true x (.string s))
  (h:∀ G' s',PM.le G G'→SlR G' 1 encY s' (yb s)→Wo dr mc P n l K σ ((d,true,s'.val (yb s).length) :: ρ) G' μ):Wo dr mc P n l K (i :: σ) ρ G μ:=by
 refine .act (μ₁:=[]) (μ₂:=μ) (post:=fun G' μ' v=>μ'=[]∧∃ s',v=s'.val (yb s).length∧SlR G' 1 encY s' (yb s)) ho (.inr hdf) .no (.refl _) (fun a w ha hs=>.inl ?_) ?_
 ·unfold sbT at hS
  split at hS
  ·rename_i e h1 h2
   split at hS
   ·rename_i h3
    have hrun:=run_bytes_of_string (P:=P) w S D e s h1 h2 h3
    have hge:=grownCap_ge w s.size 0 e
    have h0:Tr G (keys []) w G [] w:=Tr.begin (Sat.left (μ:=[]) hs)
    have h4:=(h0.drew).alloc (.cells (bytesRow s (grownCap w s.size 0 e)) e ((bytesRow s (grownCap w s.size 0 e)).size,(bytesRow s (grownCap w s.size 0 e)).size+1))
    have h5:=h4.freeze (by simp [keys])
    refine ⟨.slice (some ⟨w.heap.size,0,none⟩) s.size (grownCap w s.size 0 e),_,_,[],.inl (by simp [execOp,hx.eval ha rfl,hrun]),h5,rfl,⟨some ⟨w.heap.size,0,none⟩,grownCap w s.size 0 e⟩,by rw [yb_len]; rfl,?_⟩
    refine SlR.ofRow (fun _ _=>rfl) (by rw [yb_len]; exact hge) (fun _=>rfl) (fun j v hj=>?_)
    rw [flat_V,yb_cells] at hj
    show RdP _ ⟨w.heap.size,0+j,none⟩ v
    rw [Nat.zero_add]
    refine RdP.blk (cs:=(bytesRow s (grownCap w s.size 0 e)).toList) (by rw [Array.toArray_toList]; exact PM.add_same _ _ _) ?_
    have hlt:j<(strCells s).length:=(List.getElem?_eq_some_iff.1 hj).1
    unfold bytesRow
    rw [Array.toList_append,List.getElem?_append_left (by simpa [strCells] using hlt)]
    simpa [strCells] using hj
   cases hS
  cases hS
 rintro v G' μ'' hle ⟨rfl,s',rfl,hs'⟩
 exact h G' s' hle hs'
theorem flat_at {α:Type} {enc:α→List Value} {sz:Nat}:∀ {xs:List α} {k:Nat} {x:α},(∀ y∈xs,(enc y).length=sz)→xs[k]? = some x→((xs.flatMap enc).drop (k*sz)).take sz=enc x
 | y :: ys,0,x,hsz,hx=>by
  simp only [List.getElem?_cons_zero,Option.some.injEq] at hx
  subst hx
  rw [Nat.zero_mul,List.drop_zero,List.flatMap_cons,List.take_left' (hsz y (List.mem_cons_self ..))]
 | y :: ys,k+1,x,hsz,hx=>by
  rw [List.flatMap_cons,Nat.succ_mul,Nat.add_comm,←List.drop_drop,List.drop_left' (hsz y (List.mem_cons_self ..))]
  exact flat_at (fun z hz=>hsz z (List.mem_cons_of_mem _ hz)) (by simpa using hx)
 | [],_,_,_,hx=>by simp at hx
theorem flat_set {α:Type} {enc:α→List Value} {sz:Nat} {y:α}:∀ {xs:List α} {k:Nat},(∀ z∈xs,(enc z).length=sz)→(enc y).length=sz→k<xs.length→put (xs.flatMap enc) (k*sz) (enc y)=(xs.set k y).flatMap enc
 | z :: zs,0,hsz,hy,_=>by
  unfold put
  rw [Nat.zero_mul,List.take_zero,List.nil_append,Nat.zero_add,List.flatMap_cons,hy,List.drop_left' (hsz z (List.mem_cons_self ..))]
  simp
 | z :: zs,k+1,hsz,hy,hk=>by
  have ih:=flat_set (xs:=zs) (k:=k) (fun u hu=>hsz u (List.mem_cons_of_mem _ hu)) hy (by simpa using hk)
  have hz:=hsz z (List.mem_cons_self ..)
  unfold put at ih ⊢
  rw [List.set_cons_succ,List.flatMap_cons,List.flatMap_cons,←ih,Nat.succ_mul]
  have e1:(enc z++zs.flatMap enc).take (k*sz+sz)=enc z++(zs.flatMap enc).take (k*sz):=by rw [List.take_append,List.take_of_length_le (by omega),hz,Nat.add_sub_cancel]
  have e2:(enc z++zs.flatMap enc).drop (k*sz+sz+(enc y).length)=(zs.flatMap enc).drop (k*sz+(enc y).length):=by
   rw [List.drop_append,List.drop_of_length_le (by omega),hz,show k*sz+sz+(enc y).length-sz=k*sz+(enc y).length by omega,List.nil_append]
  rw [e1,e2]
  simp only [List.append_assoc]
 | [],_,_,_,hk=>by simp at hk
theorem RdN.rowS {α:Type} {enc:α→List Value} {sz b m cap E k:Nat} {xs:List α} {x:α} {μ':Mem} (h:MTake μ (rS sz enc (.slice (some ⟨b,0,none⟩) m cap) E xs) μ') (hsz:∀ y∈xs,(enc y).length=sz) (hx:xs[k]? = some x) {q:Nat} (hq:q=k*sz):RdN G μ b q (enc x):=by
 subst hq
 intro j v hj
 refine Rd.row h ?_
 rw [← flat_at hsz hx,List.getElem?_take] at hj
 split at hj
 ·rw [List.getElem?_drop] at hj; exact hj
 cases hj
theorem stS {α:Type} {enc:α→List Value} {T E sz m cap b o k:Nat} {x y:Operand} {v:Value} {xs:List α} {u:α} {μ':Mem} (ho:nth l i=some ⟨none,.store T x y,t,p,af,none⟩) (hx:Ev ρ true x (.pointer (some ⟨b,o,none⟩))) (hy:Ev ρ true y v) (hv:v.cells=(enc u).toArray) (hz:szT P T=some sz)
  (hm:MTake μ (rS sz enc (.slice (some ⟨b,0,none⟩) m cap) E xs) μ') (hsz:∀ y∈xs,(enc y).length=sz) (hu:(enc u).length=sz) (h1:∀ c∈enc u,c.oneCell'=true) (hq:o=k*sz) (hk:k<xs.length)
  (h:Wo dr mc P n l K σ ρ G (rS sz enc (.slice (some ⟨b,0,none⟩) m cap) E (xs.set k u) :: μ')):Wo dr mc P n l K (i :: σ) ρ G μ:=by
 subst hq
 refine .act (μ₁:=[rS sz enc (.slice (some ⟨b,0,none⟩) m cap) E xs]) (μ₂:=μ') (post:=fun G' μ' v=>G'=G∧μ'=[rS sz enc (.slice (some ⟨b,0,none⟩) m cap) E (xs.set k u)]∧v=undef) ho (.inl rfl) .no hm.perm (fun a w ha hs=>.inl ?_) ?_
 ·have hs':=hs.left
  have hrow:w.ownsRow 0 E sz (.slice (some ⟨b,0,none⟩) m cap) xs.length (xs.flatMap enc):=hs'.own _ (List.mem_singleton.2 rfl)
  have hfl:=flat_len hsz
  rcases hrow.2 with ⟨e,_⟩ | ⟨g,cap',cur,e,_,hg,hnc,hcm,hcs,htake⟩
  ·cases e
  simp only [Value.slice.injEq,Option.some.injEq,Addr.mk.injEq,and_true,true_and] at e
  obtain ⟨rfl,rfl,rfl⟩:=e
  have hkey:keys [rS sz enc (.slice (some ⟨b,0,none⟩) xs.length cap) E xs]=[b]:=by simp [keys,Res.keys,Value.ownBlock]
  have hsat:Sat G [.blk b (.cells cur E (0,0))] w:=⟨hs'.sub,fun r hr=>by rw [List.mem_singleton.1 hr]; exact hg,fun c hc=>hs'.apart c (by simpa [keys,Res.keys,Value.ownBlock] using hc),by simp [keys,Res.keys]⟩
  have hin:k*sz+sz≤xs.length*sz:=by rw [← Nat.succ_mul]; exact Nat.mul_le_mul_right _ hk
  have hcap:xs.length*sz≤cap*sz:=Nat.mul_le_mul_right _ hnc
  have hst:=run_storeCells_at P b (k*sz) E (enc u) 0 cur w hg (by rw [Nat.add_zero,hu]; omega) h1
  simp only [Nat.add_zero,hu] at hst
  have h2:=(Tr.setArr (cs':=(cur.toList.take (k*sz)++enc u++cur.toList.drop (k*sz+sz)).toArray) hsat).asRow (m:=xs.length) (cap:=cap) (sz:=sz) (xs:=(xs.set k u).flatMap enc) ?_ hnc hcm ?_ ?_
  ·refine ⟨undef,_,G,_,.inr ⟨?_,rfl⟩,by rw [hkey]; exact h2,rfl,by simp [rS],rfl⟩
   cases hi:P.info? T with
   | none=>simp [szT,hi] at hz
   | some inf =>
    simp only [szT,hi,Option.map_some,Option.some.injEq] at hz
    simp only [execOp,hx.eval ha rfl,hy.eval ha rfl]
    simp [Instr.storeAt,Instr.sureAddr,storeVar,hv,sizeOf,typeInfo,hi,hz,hst,hu]
  ·rw [flat_len (sz:=sz) (fun z hz'=>by
    rcases List.mem_or_eq_of_mem_set hz' with hz'|rfl
    ·exact hsz z hz'
    exact hu),List.length_set]
  ·simp only [List.size_toArray,qlB,Array.length_toList,hu]
   omega
  have:=splice_take (A:=cur.toList) (C:=enc u) (o:=k*sz) (m:=xs.length*sz) (by rw [hu]; exact hin) (by have:cur.toList.length=cur.size:=Array.length_toList ..; omega)
  rw [hu,htake] at this
  rw [this]
  have h5:=flat_set (xs:=xs) hsz hu hk
  unfold put at h5
  rw [hu] at h5
  exact h5
 rintro v G' μ'' _ ⟨rfl,rfl,rfl⟩
 exact h
end
theorem yb_data (s:ByteArray):s.data.toList=(yb s).map fun y=>UInt8.ofNat y.toNat:=by
 conv=>lhs; rw [← bstr_yb s]
 exact bstr_data _
theorem bstr_ext {s:ByteArray} {xs:List Y} (h:s.data.toList=xs.map fun y=>UInt8.ofNat y.toNat):s=bstr xs :=
 ByteArray.ext (Array.toList_inj.1 (by rw [h,bstr_data]))
theorem bstr_app (xs ys:List Y):bstr xs++bstr ys=bstr (xs++ys):=bstr_ext (by rw [ByteArray.data_append,Array.toList_append,bstr_data,bstr_data,List.map_append])
theorem bstr_cut (xs:List Y) (lo hi:Nat):(bstr xs).extract lo hi=bstr ((xs.take hi).drop lo):=bstr_ext (by
 rw [ByteArray.data_extract,Array.toList_extract,bstr_data,List.extract_eq_take_drop,←List.map_drop,←List.map_take,List.drop_take])
theorem byte_at {s:ByteArray} {j:Nat} (h:j<s.size):s[j]? = some (UInt8.ofNat ((yb s).getD j 0).toNat):=by
 have h1:s[j]? = s.data.toList[j]?:=by
  rw [getElem?_pos s j h,List.getElem?_eq_getElem (show j<s.data.toList.length by simpa using h)]; rfl
 have h2:j<(yb s).length:=by rw [yb_len]; exact h
 rw [h1,yb_data,List.getElem?_map,List.getElem?_eq_getElem h2]
 simp [h2]
section
variable {dr:Bool} {mc:Md} {P:Program} {n:Fm} {l:List Oper} {K:Env→PM→Mem→Prop} {i:Nat} {σ:List Nat} {ρ:Env} {G:PM} {μ:Mem}
variable {d t:Nat} {p:String} {af:Array Edge} {g:Option (Nat×Bool)} {c:Bool}
theorem sI {T:TypeId} {x y:Operand} {k:IntKind} {a:Int} {s:ByteArray} (j:Nat) (ho:nth l i=some ⟨some d,.index T x y,t,p,af,g⟩) (hg:Gd l ρ g c) (hT:strT P T=true) (hx:Ev ρ c x (.string s)) (hy:Ev ρ c y (.int k a)) (ha:c=true→a=j) (h1:c=true→j<s.size)
  (h:Wo dr mc P n l K σ ((d,c,V ((yb s).getD j 0)) :: ρ) G μ):Wo dr mc P n l K (i :: σ) ρ G μ :=
 .pure ho (.inl rfl) hg (fun hc a' w hag=>by
  obtain rfl:=ha hc
  have hu:P.underlying T=some .string:=by unfold strT at hT; split at hT<;>first|assumption | cases hT
  have hy':((yb s).getD j 0).toNat<256:=((yb s).getD j 0).isLt
  simp only [execOp,hx.eval hag hc,hy.eval hag hc,Instr.index,asIntOf,Sem.run_bind,Sem.run_pure,Result.andThen_ok,run_underlying hu]
  rw [if_pos (Int.natCast_nonneg j),Int.toNat_natCast,byte_at (h1 hc)]
  dsimp only
  rw [show (UInt8.ofNat ((yb s).getD j 0).toNat).toNat=((yb s).getD j 0).toNat by simp only [UInt8.toNat_ofNat']; exact Nat.mod_eq_of_lt hy']
  rfl) h
theorem run_bound {P:Program} {k:IntKind} {a m:Nat} {code:BoundsCode} (h:a≤m) (w:World):(Instr.sliceBound (.int k (a:Int)) m code).run P w=.ok a w:=by
 simp [Instr.sliceBound,asIntOf,h]
theorem sD {T:TypeId} {x y:Operand} {k:IntKind} {a:Int} {s:ByteArray} (lo:Nat) (ho:nth l i=some ⟨some d,.slice T x (some y) none none,t,p,af,g⟩) (hg:Gd l ρ g c) (hT:strT P T=true) (hx:Ev ρ c x (.string s)) (hy:Ev ρ c y (.int k a)) (ha:c=true→a=lo) (h1:c=true→lo≤s.size)
  (h:Wo dr mc P n l K σ ((d,c,.string (bstr ((yb s).drop lo))) :: ρ) G μ):Wo dr mc P n l K (i :: σ) ρ G μ :=
 .pure ho (.inl rfl) hg (fun hc a' w hag=>by
  obtain rfl:=ha hc
  have hu:P.underlying T=some .string:=by unfold strT at hT; split at hT<;>first|assumption | cases hT
  have he:bstr ((yb s).drop lo)=s.extract lo s.size:=by
   conv=>rhs; rw [← bstr_yb s]
   rw [bstr_cut,bstr_len,List.take_length]
  rw [he]
  simp [execOp,hx.eval hag hc,hy.eval hag hc,Instr.sliceAt,Instr.slice,Instr.sliceBounds,run_underlying hu,run_bound (h1 hc)]) h
theorem sE {T:TypeId} {x y:Operand} {k:IntKind} {a:Int} {s:ByteArray} (hi:Nat) (ho:nth l i=some ⟨some d,.slice T x none (some y) none,t,p,af,g⟩) (hg:Gd l ρ g c) (hT:strT P T=true) (hx:Ev ρ c x (.string s)) (hy:Ev ρ c y (.int k a)) (ha:c=true→a=hi) (h1:c=true→hi≤s.size)
  (h:Wo dr mc P n l K σ ((d,c,.string (bstr ((yb s).take hi))) :: ρ) G μ):Wo dr mc P n l K (i :: σ) ρ G μ :=
 .pure ho (.inl rfl) hg (fun hc a' w hag=>by
  obtain rfl:=ha hc
  have hu:P.underlying T=some .string:=by unfold strT at hT; split at hT<;>first|assumption | cases hT
  have he:bstr ((yb s).take hi)=s.extract 0 hi:=by
   conv=>rhs; rw [← bstr_yb s]
   rw [bstr_cut,List.drop_zero]
  rw [he]
  simp [execOp,hx.eval hag hc,hy.eval hag hc,Instr.sliceAt,Instr.slice,Instr.sliceBounds,run_underlying hu,run_bound (h1 hc)]) h
theorem sP {T T':TypeId} {x y:Operand} {s1 s2:ByteArray} (ho:nth l i=some ⟨some d,.binOp .add T x y T',t,p,af,g⟩) (hg:Gd l ρ g c) (hx:Ev ρ c x (.string s1)) (hy:Ev ρ c y (.string s2)) (hl:c=true→s1.size+s2.size≤9223372036854775807)
  (h:Wo dr mc P n l K σ ((d,c,.string (bstr (yb s1++yb s2))) :: ρ) G μ):Wo dr mc P n l K (i :: σ) ρ G μ :=
 .pure ho (.inl rfl) hg (fun hc a' w hag=>by
  have hl':¬ (((s1.size+s2.size:Nat):Int) > IntKind.i64.max):=by
   have:=hl hc
   simp only [IntKind.max,IntKind.bits,IntKind.signed]; simp; omega
  rw [← bstr_app,bstr_yb,bstr_yb]
  have:(eqGuard .add T x y (.string s1) (.string s2)).run P w=.ok () w:=by unfold eqGuard; simp
  simp only [execOp,hx.eval hag hc,hy.eval hag hc]
  simp only [Sem.run_bind,this,Result.andThen_ok,binOp,Op.stringOp,if_neg hl',Sem.run_pure]) h
end
def polyW:W:=2197175160#32
def halfW (x:W):W:=x >>> 1 ^^^ (polyW &&& -(x &&& 1#32))
def hIt:Nat→W→W
 | 0,x=>x
 | n+1,x=>halfW (hIt n x)
theorem hIt_add (m n:Nat) (x:W):hIt m (hIt n x)=hIt (m+n) x:=by
 induction m with
 | zero=>rw [Nat.zero_add]; rfl
 | succ m ih=>rw [hIt,ih,Nat.succ_add]; rfl
theorem and_one (x:W):x &&& 1#32=0#32∧x%2#32=0#32∨x &&& 1#32=1#32∧x%2#32=1#32:=by
 have e:x &&& 1#32=x%2#32:=by
  apply BitVec.eq_of_toNat_eq
  simp [BitVec.toNat_and,BitVec.toNat_umod,Nat.and_one_is_mod]
 have h2:x.toNat%2=0∨x.toNat%2=1:=by omega
 rcases h2 with h | h
 ·exact .inl ⟨by rw [e]; apply BitVec.eq_of_toNat_eq; simpa [BitVec.toNat_umod] using h,by apply BitVec.eq_of_toNat_eq; simpa [BitVec.toNat_umod] using h⟩
 ·exact .inr ⟨by rw [e]; apply BitVec.eq_of_toNat_eq; simpa [BitVec.toNat_umod] using h,by apply BitVec.eq_of_toNat_eq; simpa [BitVec.toNat_umod] using h⟩
theorem div2 (x:W):x / 2#32=x >>> 1:=by
 apply BitVec.eq_of_toNat_eq
 simp [BitVec.toNat_udiv,BitVec.toNat_ushiftRight,Nat.shiftRight_eq_div_pow]
theorem half_odd {x:W} (h:x%2#32=1#32):x / 2#32 ^^^ 2197175160#32=halfW x:=by
 rcases and_one x with ⟨_,h2⟩ | ⟨h1,_⟩
 ·rw [h] at h2; cases h2
 ·unfold halfW; rw [h1,div2]; rfl
theorem half_even {x:W} (h:¬ x%2#32=1#32):x / 2#32=halfW x:=by
 rcases and_one x with ⟨h1,_⟩ | ⟨_,h2⟩
 ·unfold halfW; rw [h1,div2]; simp
 ·exact absurd h2 h
theorem odd_of {x:W} (c:((x%2#32).toNat:Int)=1):x%2#32=1#32:=BitVec.eq_of_toNat_eq (Int.ofNat.inj c)
theorem odd_to {x:W} (c:x%2#32=1#32):((x%2#32).toNat:Int)=1:=by rw [c]; rfl
def crcB (x:W) (c:Y):W:=hIt 8 (x ^^^ c.setWidth 32)
def crcW (sum:W) (xs:List Y):W := ~~~(xs.foldl crcB (~~~sum))
theorem crc_app (sum:W) (xs ys:List Y):crcW (crcW sum xs) ys=crcW sum (xs++ys):=by
 unfold crcW; rw [BitVec.not_not,List.foldl_append]
theorem crc_nil (sum:W):crcW sum []=sum:=by simp [crcW]
theorem fold_take {xs:List Y} {k:Nat} {x:W} (h:k<xs.length):(xs.take (k+1)).foldl crcB x=crcB ((xs.take k).foldl crcB x) (xs.getD k 0):=by
 rw [List.take_succ_eq_append_getElem h,List.foldl_append]; simp [h]
theorem not_sub (x:W):4294967295#32-x = ~~~x:=by
 rw [show (4294967295#32:W)=BitVec.allOnes 32 from rfl]
 exact BitVec.allOnes_sub_eq_not x
theorem fx0 {L:List Y} {n:BitVec 64} {m:Nat} (e:L=[]++fixL n m):L.length=m:=by rw [e,List.nil_append,fix_len]
theorem fx2 {L A:List Y} {n:BitVec 64} {m:Nat} (e:L=A++fixL n m):L.length=A.length+m:=by rw [e,List.length_append,fix_len]
structure Hd where
 kind:Y
 level:Y
 gen:BitVec 64
 epoch:BitVec 64
 num:BitVec 64
 deriving DecidableEq
def Hd.cells (h:Hd):List Value:=[V h.kind,V h.level,uv .u64 h.gen,uv .u64 h.epoch,uv .u64 h.num]
def Hd.zero:Hd:=⟨0,0,0,0,0⟩
def Hd.right (h:Hd):Bool:=if (h.kind.toNat:Int)=2 then decide ((h.level.toNat:Int)<5) else if (h.kind.toNat:Int)=1∨(h.kind.toNat:Int)=3 then decide ((h.level.toNat:Int)=0)&&decide ((h.gen.toNat:Int)=0) else false
theorem Hd.right2 {h:Hd} (c:(h.kind.toNat:Int)=2):h.right=decide ((h.level.toNat:Int)<5):=by unfold Hd.right; rw [if_pos c]
theorem Hd.right1 {h:Hd} (c:(h.kind.toNat:Int)=1):h.right=(decide ((h.level.toNat:Int)=0)&&decide ((h.gen.toNat:Int)=0)):=by
 unfold Hd.right; rw [if_neg (by omega),if_pos (.inl c)]
theorem Hd.right3 {h:Hd} (c:(h.kind.toNat:Int)=3):h.right=(decide ((h.level.toNat:Int)=0)&&decide ((h.gen.toNat:Int)=0)):=by
 unfold Hd.right; rw [if_neg (by omega),if_pos (.inr c)]
theorem Hd.right0 {h:Hd} (c1:¬ (h.kind.toNat:Int)=1) (c2:¬ (h.kind.toNat:Int)=2) (c3:¬ (h.kind.toNat:Int)=3):h.right=false:=by
 unfold Hd.right; rw [if_neg c2,if_neg (by omega)]
theorem Hd.rightR {h:Hd} (c:¬ (h.kind.toNat:Int)=2):((((h.kind.toNat:Int) == 1)||((h.kind.toNat:Int) == 3))&&((h.level.toNat:Int) == 0)&&((h.gen.toNat:Int) == 0))=h.right:=by
 by_cases c1:(h.kind.toNat:Int)=1
 ·rw [Hd.right1 c1,c1]; rfl
 ·by_cases c3:(h.kind.toNat:Int)=3
  ·rw [Hd.right3 c3,c3]; rfl
  ·rw [Hd.right0 c1 c c3,beq_eq_false_iff_ne.2 c1,beq_eq_false_iff_ne.2 c3]; rfl
def Hd.three (h:Hd) (k:Nat):BitVec 64:=if k=0 then h.gen else if k=1 then h.epoch else h.num
def Hd.some (h:Hd) (k:Nat):List Y:=[116#8,97#8,110#8,116#8,h.kind,h.level]++(List.range k).flatMap (fun i=>fixL (h.three i) 8)
theorem Hd.some_succ (h:Hd) (k:Nat):h.some (k+1)=h.some k++fixL (h.three k) 8:=by
 unfold Hd.some; rw [List.range_succ,List.flatMap_append,←List.append_assoc]; simp
theorem Hd.three_at {h:Hd} {k:Nat} (hk:k<3) : [uv .u64 h.gen,uv .u64 h.epoch,uv .u64 h.num][k]? = Option.some (uv .u64 (h.three k)):=by
 match k,hk with
 | 0,_=>rfl
 | 1,_=>rfl
 | 2,_=>rfl
def headL (h:Hd):List Y:=[116#8,97#8,110#8,116#8,h.kind,h.level]++fixL h.gen 8++fixL h.epoch 8++fixL h.num 8
theorem Hd.some_all (h:Hd):h.some 3=headL h:=by rw [Hd.some_succ,Hd.some_succ,Hd.some_succ]; simp [Hd.some,headL,Hd.three]
theorem Hd.some_len (h:Hd) (k:Nat):(h.some k).length=6+8*k:=by
 induction k with
 | zero=>rfl
 | succ k ih=>rw [Hd.some_succ,List.length_append,ih,fix_len]; omega
theorem head_len (h:Hd):(headL h).length=30:=by simp [headL,fix_len]
def unfK (xs:List Y):Nat→BitVec 64
 | 0=>0
 | k+1=>unfK xs k ||| (xs.getD k 0).setWidth 64 <<< (8*k)
def nonceF (n:BitVec 64):Nat→Y:=fun i=>if i<8 then (n >>> (8*i)).setWidth 8 else 0#8
theorem nonce_outs (n:BitVec 64) {i:Nat} (h:i<12):outs (nonceF n) 8 i=nonceF n i:=by
 by_cases h8:i<8
 ·exact outs_eq _ h8
 ·have:∀ k,k≤i→outs (nonceF n) k i=0#8:=fun k=>by
   induction k with
   | zero=>intro _; rfl
   | succ k ih=>intro hk; show upd (outs (nonceF n) k) k _ i=_; unfold upd; rw [if_neg (by omega)]; exact ih (by omega)
  rw [this 8 (by omega)]; unfold nonceF; rw [if_neg h8]
theorem fix_nonce {n:BitVec 64} {k:Nat} (h:k<8):(fixL n 8).getD k 0=nonceF n k:=by
 unfold nonceF; rw [if_pos h]; simp [fixL,h]
theorem one6 {a b c d e f:Value} (h1:a.oneCell'=true) (h2:b.oneCell'=true) (h3:c.oneCell'=true) (h4:d.oneCell'=true) (h5:e.oneCell'=true) (h6:f.oneCell'=true):∀ u∈[a,b,c,d,e,f],u.oneCell'=true:=by
 intro u hu
 simp only [List.mem_cons,List.not_mem_nil,or_false] at hu
 rcases hu with rfl|rfl|rfl|rfl|rfl|rfl<;>assumption
def expB (key use:List Y):Nat→List Y
 | 0=>[]
 | k+1=>shaL' key (expB key use k) use k
where shaL' (key last use:List Y) (k:Nat):List Y:=yl 32 (macL key (last++use++[BitVec.ofNat 8 (k+1)]))
def expL (key use:List Y):Nat→List Y
 | 0=>[]
 | k+1=>expL key use k++expB key use (k+1)
theorem expB_len (key use:List Y) (k:Nat):(expB key use (k+1)).length=32:=yl_len _ _
theorem exp_len (key use:List Y) (k:Nat):(expL key use k).length=32*k:=by
 induction k with
 | zero=>rfl
 | succ k ih=>rw [expL,List.length_append,ih,expB_len]; omega
theorem exp_last (key use:List Y) (k:Nat):(expL key use k).drop (32*k-32)=expB key use k:=by
 cases k with
 | zero=>rfl
 | succ k=>rw [expL]; exact List.drop_left' (by rw [exp_len]; omega)
def saltL:List Y:=[116#8,97#8,110#8,116#8,97#8,108#8,117#8,115#8]
def deriveL (root:Nat→Y) (use:List Y):List Y:=expL (yl 32 (macL saltL (yl 32 root))) use 2
def keyEnc (root:Nat→Y) (use:List Y):Nat→Y:=fun i=>(deriveL root use).getD i 0
def keyMac (root:Nat→Y) (use:List Y):Nat→Y:=fun i=>(deriveL root use).getD (32+i) 0
theorem key_cells {root:Nat→Y} {use L A B:List Y} (e:L=deriveL root use) (eA:A=L.take 32) (eB:B=L.drop 32) :
  ba 32 (fun i=>A.getD i 0)++ba 32 (fun i=>B.getD i 0)=ba 32 (keyEnc root use)++ba 32 (keyMac root use):=by
 subst e eA eB
 have e1:ba 32 (fun i=>((deriveL root use).take 32).getD i 0)=ba 32 (keyEnc root use):=ba_congr fun i hi=>by simp only [keyEnc,List.getD_eq_getElem?_getD,List.getElem?_take,if_pos hi]
 have e2:ba 32 (fun i=>((deriveL root use).drop 32).getD i 0)=ba 32 (keyMac root use):=ba_congr fun i _=>by simp only [keyMac,List.getD_eq_getElem?_getD,List.getElem?_drop]
 rw [e1,e2]
theorem key_put {zs:List Value} (hz:zs.length=64) (f g:Nat→Y):put (put zs 0 (ba 32 f)) 32 (ba 32 g)=ba 32 f++ba 32 g:=by
 have e1:put zs 0 (ba 32 f)=ba 32 f++zs.drop 32:=by unfold put; rw [List.take_zero,List.nil_append,ba_len]
 rw [e1]
 unfold put
 rw [List.take_left' (ba_len _ _),ba_len,List.drop_of_length_le (by rw [List.length_append,ba_len,List.length_drop,hz]; exact Nat.le_refl _),List.append_nil]
theorem key_len (f g:Nat→Y):(ba 32 f++ba 32 g).length=64:=by rw [List.length_append,ba_len,ba_len]
theorem key_one (f g:Nat→Y):∀ u∈ba 32 f++ba 32 g,u.oneCell'=true:=one_app (ba_one _ _) (ba_one _ _)
theorem exp_len1 (key use:List Y) (k:Nat):(expB key use k).length≤32:=by
 cases k with
 | zero=>exact Nat.zero_le _
 | succ k=>rw [expB_len]; exact Nat.le_refl _
theorem byte_int (k:Nat):BitVec.ofInt 8 ((k:Nat):Int)=BitVec.ofNat 8 k:=by simp
def keyF (g:Nat→Y) (k:Nat):Nat→Y:=fun i=>if i<k then g i else 0#8
theorem keyF_step {g:Nat→Y} {k:Nat} {y:Y} (h:y=g k):upd (keyF g k) k y=keyF g (k+1):=by
 funext i
 unfold upd keyF
 by_cases h1:i=k
 ·subst h1; rw [if_pos rfl,if_pos (by omega),h]
 ·rw [if_neg h1]
  by_cases h2:i<k
  ·rw [if_pos h2,if_pos (by omega)]
  ·rw [if_neg h2,if_neg (by omega)]
theorem keyF_all {g:Nat→Y}:ba 32 (keyF g 32)=ba 32 g:=ba_congr fun i hi=>by unfold keyF; rw [if_pos hi]
theorem keyF_cells {root:Nat→Y} {use L:List Y} (e:L=deriveL root use):ba 32 (keyF (fun i=>L.getD i 0) 32)++ba 32 (keyF (fun i=>L.getD (32+i) 0) 32)=ba 32 (keyEnc root use)++ba 32 (keyMac root use):=by
 rw [keyF_all,keyF_all,e]; rfl
theorem bap_set1 {n:Nat} {y:Nat→Y} {r:List Value} {j:Int} {z:Y} {o:Nat} (a:Nat) (hj:o+j.toNat*1=a) (h:a<n):(ba n y++r).set (o+j.toNat*1) (V z)=ba n (upd y a z)++r:=by
 rw [hj,List.set_append_left _ _ (by rw [ba_len]; exact h)]; rw [ba_set]
theorem bar_set1 {n m:Nat} {x y:Nat→Y} {j:Int} {z:Y} {o:Nat} (a:Nat) (hj:o+j.toNat*1=n+a):(ba n x++ba m y).set (o+j.toNat*1) (V z)=ba n x++ba m (upd y a z):=by
 rw [hj,List.set_append_right _ _ (by rw [ba_len]; omega),ba_len,Nat.add_sub_cancel_left,ba_set]
theorem exp_stepB (key use:List Y) (j:Nat):yl 32 (macL key (expB key use j++use++[BitVec.ofInt 8 ((j+1:Nat):Int)]))=expB key use (j+1):=by rw [byte_int]; rfl
theorem exp_stepA (key use:List Y) (j:Nat):expL key use j++yl 32 (macL key (expB key use j++use++[BitVec.ofInt 8 ((j+1:Nat):Int)]))=expL key use (j+1):=by rw [exp_stepB]; rfl
def headOf (xs:List Y):Hd:=⟨xs.getD 4 0,xs.getD 5 0,unfK (xs.drop 6) 8,unfK (xs.drop 14) 8,unfK (xs.drop 22) 8⟩
def takeH (xs:List Y):Hd×Int:=if xs.length<30 then (Hd.zero,10) else if xs.take 4=[116#8,97#8,110#8,116#8]∧(headOf xs).right=true then (headOf xs,0) else (Hd.zero,70)
theorem take_short {xs:List Y} (h:xs.length<30):takeH xs=(Hd.zero,10):=by unfold takeH; rw [if_pos h]
theorem take_bad {xs:List Y} (h:¬ xs.length<30) (c:¬ (xs.take 4=[116#8,97#8,110#8,116#8]∧(headOf xs).right=true)):takeH xs=(Hd.zero,70):=by unfold takeH; rw [if_neg h,if_neg c]
theorem take_good {xs:List Y} (h:¬ xs.length<30) (c:xs.take 4=[116#8,97#8,110#8,116#8]∧(headOf xs).right=true):takeH xs=(headOf xs,0):=by unfold takeH; rw [if_neg h,if_pos c]
theorem one5 {a b c d e:Value} (h1:a.oneCell'=true) (h2:b.oneCell'=true) (h3:c.oneCell'=true) (h4:d.oneCell'=true) (h5:e.oneCell'=true):∀ u∈[a,b,c,d,e],u.oneCell'=true:=by
 intro u hu
 simp only [List.mem_cons,List.not_mem_nil,or_false] at hu
 rcases hu with rfl|rfl|rfl|rfl|rfl<;>assumption
theorem unfK_eq {A B:List Y} {k:Nat} (h:∀ i,i<k→A.getD i 0=B.getD i 0):unfK A k=unfK B k:=by
 induction k with
 | zero=>rfl
 | succ k ih=>rw [unfK,unfK,ih (fun i hi=>h i (by omega)),h k (by omega)]
theorem head_at {xs L:List Y} (e:L=(xs.drop 6).take (30-6)):(⟨xs.getD 4 0,xs.getD 5 0,unfK L 8,unfK (L.drop 8) 8,unfK ((L.drop 8).drop 8) 8⟩ : Hd)=headOf xs:=by
 subst e
 unfold headOf
 have e1:unfK ((xs.drop 6).take (30-6)) 8=unfK (xs.drop 6) 8:=unfK_eq fun i hi=>by
  simp only [List.getD_eq_getElem?_getD,List.getElem?_take]; rw [if_pos (by omega)]
 have e2:unfK (((xs.drop 6).take (30-6)).drop 8) 8=unfK (xs.drop 14) 8:=unfK_eq fun i hi=>by
  simp only [List.getD_eq_getElem?_getD,List.getElem?_drop,List.getElem?_take]; rw [if_pos (by omega),show 6+(8+i)=14+i by omega]
 have e3:unfK ((((xs.drop 6).take (30-6)).drop 8).drop 8) 8=unfK (xs.drop 22) 8:=unfK_eq fun i hi=>by
  simp only [List.getD_eq_getElem?_getD,List.getElem?_drop,List.getElem?_take]; rw [if_pos (by omega),show 6+(8+(8+i))=22+i by omega]
 rw [e1,e2,e3]
theorem tant_beq (L:List Y):((bstr L).toList == (⟨#[116,97,110,116]⟩ : ByteArray).toList)=decide (L=[116#8,97#8,110#8,116#8]):=by
 have e:(⟨#[116,97,110,116]⟩ : ByteArray).toList=(bstr [116#8,97#8,110#8,116#8]).toList:=by rw [ByteArray.toList_eq,ByteArray.toList_eq,bstr_data]; rfl
 rw [e,bstr_beq]
theorem take_c2 {xs L:List Y} (eL:L=xs.take 4) (c:(!((bstr L).toList == (⟨#[116,97,110,116]⟩ : ByteArray).toList) || !(headOf xs).right)=true) (h:xs.take 4=[116#8,97#8,110#8,116#8]∧(headOf xs).right=true):False:=by
 rw [tant_beq,eL,h.2,decide_eq_true h.1] at c; cases c
theorem take_c3 {xs L:List Y} (eL:L=xs.take 4) (c:(!((bstr L).toList == (⟨#[116,97,110,116]⟩ : ByteArray).toList) || !(headOf xs).right)=false):xs.take 4=[116#8,97#8,110#8,116#8]∧(headOf xs).right=true:=by
 rw [tant_beq,eL,Bool.or_eq_false_iff,Bool.not_eq_false',Bool.not_eq_false',decide_eq_true_eq] at c
 exact c
def numN (n:Nat):List Y:=if h:n<128 then [BitVec.ofNat 8 n] else BitVec.ofNat 8 (n%128+128) :: numN (n / 128)
termination_by n
decreasing_by omega
theorem num_small {n:Nat} (h:n<128):numN n=[BitVec.ofNat 8 n]:=by rw [numN,dif_pos h]
theorem num_big {n:Nat} (h:¬ n<128):numN n=BitVec.ofNat 8 (n%128+128) :: numN (n / 128):=by rw [numN,dif_neg h]
theorem num_pos (n:Nat):0<(numN n).length:=by
 by_cases h:n<128
 ·rw [num_small h]; simp
 ·rw [num_big h]; simp
theorem num_len:∀ (k n:Nat),n<128^k→0<k→(numN n).length≤k
 | 0,_,_,h=>by omega
 | k+1,n,h,_=>by
  by_cases hn:n<128
  ·rw [num_small hn]; simp
  ·rw [num_big hn]
   by_cases hk:k=0
   ·subst hk; omega
   ·have:=num_len k (n / 128) (by rw [Nat.pow_succ] at h; omega) (by omega)
    simp; omega
theorem num_len10 {n:Nat} (h:n<18446744073709551616):(numN n).length≤10:=num_len 10 n (by omega) (by decide)
def numG:Nat→Nat→List Y→Nat×Nat×Int
 | _,_,[]=>(0,0,10)
 | k,acc,x :: r =>
  if k=9∧1<x.toNat then (0,0,11)
  else if x.toNat<128 then (if 0<k∧x.toNat=0 then (0,0,11) else (acc+x.toNat*128^k,k+1,0))
  else numG (k+1) (acc+(x.toNat-128)*128^k) r
def numP (b:List Y):Nat×Nat×Int:=numG 0 0 b
theorem toN {n:Nat} (h:n<256):(BitVec.ofNat 8 n).toNat=n:=by rw [BitVec.toNat_ofNat]; omega
theorem pow9:(128:Nat)^9=9223372036854775808:=by decide
theorem numG_enc:∀ (m n k acc:Nat) (r:List Y),n≤m→acc+n*128^k<18446744073709551616→(k=0∨0<n)→k≤9→numG k acc (numN n++r)=(acc+n*128^k,k+(numN n).length,0):=by
 intro m
 induction m with
 | zero =>
  intro n k acc r hm h1 h2 h3
  obtain rfl:n=0:=by omega
  rw [num_small (by omega)]
  have hk:k=0:=by omega
  subst hk
  simp [numG]
 | succ m ih =>
  intro n k acc r hm h1 h2 h3
  by_cases hn:n<128
  ·rw [num_small hn]
   have ht:=toN (n:=n) (by omega)
   have h9:¬ (k=9∧1<(BitVec.ofNat 8 n).toNat):=by
    rintro ⟨rfl,h⟩
    rw [ht] at h
    rw [pow9] at h1
    omega
   simp only [List.cons_append,List.nil_append,numG]
   rw [if_neg h9,if_pos (by omega),if_neg (by omega),ht]
   rfl
  ·rw [num_big hn]
   have ht:=toN (n:=n%128+128) (by omega)
   have hk:k<9:=by
    rcases Nat.lt_or_ge k 9 with h | h
    ·exact h
    ·have:k=9:=by omega
     subst this
     rw [pow9] at h1
     omega
   simp only [List.cons_append,numG]
   rw [if_neg (by omega),if_neg (by omega),ht,Nat.add_sub_cancel]
   have e:acc+n%128*128^k+n / 128*128^(k+1)=acc+n*128^k:=by
    rw [Nat.pow_succ,Nat.add_assoc]
    congr 1
    have h5:n / 128*(128^k*128)=(n / 128*128)*128^k:=by rw [Nat.mul_comm (128^k) 128,Nat.mul_assoc]
    rw [h5,←Nat.add_mul]
    congr 1
    omega
   rw [ih (n / 128) (k+1) _ r (by omega) (by rw [e]; exact h1) (.inr (by omega)) (by omega),e,List.length_cons]
   congr 2
   omega
theorem num_back {n:Nat} (h:n<18446744073709551616) (r:List Y):numP (numN n++r)=(n,(numN n).length,0):=by
 have:=numG_enc n n 0 0 r (Nat.le_refl _) (by omega) (.inl rfl) (by omega)
 simpa [numP] using this
theorem pow_le {j k:Nat} (h:j≤k):(128:Nat)^j≤128^k:=Nat.pow_le_pow_right (by decide) h
theorem numG_dec:∀ (b:List Y) (k acc v j:Nat),acc<128^k→k≤9→numG k acc b=(v,j,0)→∃ n,v=acc+n*128^k∧(0<k→0<n)∧j=k+(numN n).length∧b=numN n++b.drop (numN n).length∧v<18446744073709551616
 | [],k,acc,v,j,_,_,h=>by simp [numG] at h
 | x :: r,k,acc,v,j,ha,hk,h=>by
  simp only [numG] at h
  have hx:=x.isLt
  split at h
  ·simp at h
  rename_i h9
  split at h
  ·rename_i hx1
   split at h
   ·simp at h
   rename_i h0
   simp only [Prod.mk.injEq,and_true] at h
   obtain ⟨rfl,rfl⟩:=h
   have hb:BitVec.ofNat 8 x.toNat=x:=by simp
   refine ⟨x.toNat,rfl,fun hk0=>by omega,by rw [num_small hx1]; rfl,by rw [num_small hx1,hb]; rfl,?_⟩
   rcases Nat.lt_or_ge k 9 with hlt | hge
   ·have h1:acc+x.toNat*128^k<128^(k+1):=by
     rw [Nat.pow_succ]
     have:x.toNat*128^k≤127*128^k:=Nat.mul_le_mul_right _ (by omega)
     omega
    have h2:=pow_le (show k+1≤9 by omega)
    rw [pow9] at h2
    omega
   obtain rfl:k=9:=by omega
   rw [pow9] at ha ⊢
   omega
  rename_i hx1
  have hk9:k<9:=by omega
  obtain ⟨n,e1,e2,e3,e4,e5⟩:=numG_dec r (k+1) (acc+(x.toNat-128)*128^k) v j (by
   rw [Nat.pow_succ]
   have:(x.toNat-128)*128^k≤127*128^k:=Nat.mul_le_mul_right _ (by omega)
   omega) (by omega) h
  have hn:=e2 (by omega)
  have hbig:¬ (n*128+(x.toNat-128))<128:=by omega
  have hnum:numN (n*128+(x.toNat-128))=x :: numN n:=by
   rw [num_big hbig]
   have q1:(n*128+(x.toNat-128))%128+128=x.toNat:=by omega
   have q2:(n*128+(x.toNat-128)) / 128=n:=by omega
   rw [q1,q2]
   simp
  refine ⟨n*128+(x.toNat-128),?_,fun _=>by omega,?_,?_,e5⟩
  ·rw [e1,Nat.pow_succ,Nat.add_mul]
   generalize 128^k=q
   have hq:n*(q*128)=n*128*q:=by rw [Nat.mul_comm q 128,←Nat.mul_assoc]
   rw [hq]
   generalize n*128*q=u
   generalize (x.toNat-128)*q=t
   omega
  ·rw [hnum,e3,List.length_cons]; omega
  rw [hnum,List.length_cons,List.drop_succ_cons,List.cons_append,←e4]
theorem num_canon {b:List Y} {v j:Nat} (h:numP b=(v,j,0)):b=numN v++b.drop j∧v<18446744073709551616∧j=(numN v).length∧j≤b.length:=by
 obtain ⟨n,e1,_,e3,e4,e5⟩:=numG_dec b 0 0 v j (by simp) (by omega) h
 have hv:v=n:=by rw [e1]; simp
 subst hv
 have hj:j=(numN v).length:=by omega
 refine ⟨by rw [hj]; exact e4,e5,hj,?_⟩
 rw [hj,e4]; simp
theorem num_fault:∀ (b:List Y) (k acc v j:Nat) (e:Int),numG k acc b=(v,j,e)→e≠0→v=0∧j=0
 | [],k,acc,v,j,e,h,he=>by
  simp only [numG,Prod.mk.injEq] at h
  exact ⟨h.1.symm,h.2.1.symm⟩
 | x :: r,k,acc,v,j,e,h,he=>by
  simp only [numG] at h
  split at h
  ·simp only [Prod.mk.injEq] at h; exact ⟨h.1.symm,h.2.1.symm⟩
  ·split at h
   ·split at h
    ·simp only [Prod.mk.injEq] at h; exact ⟨h.1.symm,h.2.1.symm⟩
    ·simp only [Prod.mk.injEq] at h; exact absurd h.2.2.symm he
   ·exact num_fault r _ _ _ _ _ h he
structure Rd' where
 rest:List Y
 bad:Int
def rdNum (s:Rd'):Nat×Rd':=if s.bad≠0 then (0,s) else ((numP s.rest).1,⟨s.rest.drop (numP s.rest).2.1,(numP s.rest).2.2⟩)
def rdStr (most:Nat) (s:Rd'):List Y×Rd' :=
 if s.bad≠0 then ([],s)
 else if (numP s.rest).2.2≠0 then ([],⟨s.rest,(numP s.rest).2.2⟩)
 else if most<(numP s.rest).1 then ([],⟨s.rest,4⟩)
 else if s.rest.length-(numP s.rest).2.1<(numP s.rest).1 then ([],⟨s.rest,10⟩)
 else ((s.rest.drop (numP s.rest).2.1).take (numP s.rest).1,⟨s.rest.drop ((numP s.rest).2.1+(numP s.rest).1),0⟩)
def rdByte (s:Rd'):Y×Rd':=if s.bad≠0 then (0,s) else if s.rest.length<1 then (0,⟨s.rest,10⟩) else (s.rest.getD 0 0,⟨s.rest.drop 1,0⟩)
def strL (xs:List Y):List Y:=numN xs.length++xs
noncomputable def B (p:Prop):Bool:=@decide p (Classical.propDecidable p)
theorem B_iff {p:Prop}:B p=true↔p:=by unfold B; exact @decide_eq_true_iff p (Classical.propDecidable p)
theorem B_true {p:Prop} (h:p):B p=true:=B_iff.2 h
theorem B_false {p:Prop} (h:¬ p):B p=false:=by
 cases hb:B p with
 | false=>rfl
 | true=>exact absurd (B_iff.1 hb) h
def within (n m:Int):Bool:=decide (0<n)&&decide (n≤m)
structure Meta where
 level:Int
 gen:Int
 epoch:Int
 number:Int
 size:Int
 count:Int
 min:ByteArray
 max:ByteArray
 root:Nat→Int
def Meta.cells (m:Meta):List Value :=
 [.int .u8 m.level,.int .u64 m.gen,.int .u64 m.epoch,.int .u64 m.number,.int .i64 m.size,.int .i64 m.count,.string m.min,.string m.max]++(List.range 32).map fun i=>.int .u8 (m.root i)
def Meta.val (m:Meta):Value:=.agg m.cells.toArray
def Meta.zero:Meta:=⟨0,0,0,0,0,0,ByteArray.empty,ByteArray.empty,fun _=>0⟩
theorem Meta.len (m:Meta):m.cells.length=40:=rfl
theorem Meta.one (m:Meta):∀ u∈m.cells,u.oneCell'=true:=by
 intro u hu
 simp only [Meta.cells,List.mem_append,List.mem_cons,List.not_mem_nil,or_false,List.mem_map] at hu
 rcases hu with (rfl|rfl|rfl|rfl|rfl|rfl|rfl|rfl) | ⟨i,_,rfl⟩<;>rfl
structure Meta.wf (m:Meta):Prop where
 level:0≤m.level∧m.level<256
 number:0≤m.number∧m.number<18446744073709551616
 size : -9223372036854775808≤m.size∧m.size≤9223372036854775807
 minL:m.min.size≤9223372036854775807
 maxL:m.max.size≤9223372036854775807
 gen:0≤m.gen∧m.gen≤18446744073709551615
 epoch:0≤m.epoch∧m.epoch≤18446744073709551615
 count : -9223372036854775808≤m.count∧m.count≤9223372036854775807
 root:∀ j,j<32→0≤m.root j∧m.root j≤255
structure State where
 lv:Nat→List Meta
 log:Int
 next:Int
 seq:Int
 least:Int
 gens:Nat→Int
def lt (a b:ByteArray):Bool:=Op.bytesLess a.toList b.toList
def le (a b:ByteArray):Bool:=Op.bytesLess a.toList b.toList||a.toList == b.toList
def good (s:State) (m:Meta):Bool :=
 decide (m.level<5)&&le m.min m.max&&decide ((m.min.size:Int)≤1024)&&decide ((m.max.size:Int)≤1024)&&decide (m.count≥1)&&decide (m.size≥1)&&decide (m.number<s.next)&&decide (m.gen≤s.gens m.level.toNat)
def tot (s:State):Nat→Int
 | 0=>0
 | n+1=>tot s n+(s.lv n).length
theorem RdNP.add {G:PM} {b:Nat} {cs:List Value} {T:TypeId}:RdNP (G.add b (cl cs T)) b 0 cs:=fun j v hj=>by
 rw [Nat.zero_add]; exact RdP.blk (PM.add_same G b _) hj
def over:Int→List Meta→Bool
 | _,[]=>false
 | r,m :: ms=>if m.size > r then true else over (r-m.size) ms
section
variable {α β:Type}
def pNum (k:Nat→List Y→Option α) (r:List Y):Option α:=if (numP r).2.2=0 then k (numP r).1 (r.drop (numP r).2.1) else none
def pUp (most:Nat) (k:Nat→List Y→Option α):List Y→Option α:=pNum fun n r=>if n≤most then k n r else none
def pStr (most:Nat) (k:List Y→List Y→Option α):List Y→Option α:=pUp most fun n r=>if n≤r.length then k (r.take n) (r.drop n) else none
def pByte (k:Y→List Y→Option α) (r:List Y):Option α:=if r.length<1 then none else k (r.getD 0 0) (r.drop 1)
def pRep (f:(β→List Y→Option α)→List Y→Option α):Nat→(List β→List Y→Option α)→List Y→Option α
 | 0,k=>k []
 | n+1,k=>f fun x=>pRep f n fun xs=>k (x :: xs)
theorem num_k {n:Nat} (h:n<18446744073709551616) (k:Nat→List Y→Option α) (r:List Y):pNum k (numN n++r)=k n r:=by
 unfold pNum; rw [num_back h,if_pos rfl]; simp
theorem up_k {most n:Nat} (h:n<18446744073709551616) (hn:n≤most) (k:Nat→List Y→Option α) (r:List Y):pUp most k (numN n++r)=k n r:=by
 unfold pUp; rw [num_k h,if_pos hn]
theorem str_k {most:Nat} {xs:List Y} (h:xs.length<18446744073709551616) (hn:xs.length≤most) (k:List Y→List Y→Option α) (r:List Y):pStr most k (strL xs++r)=k xs r:=by
 unfold pStr strL; rw [List.append_assoc,up_k h hn,if_pos (by simp),List.take_left,List.drop_left]
theorem byte_k (x:Y) (k:Y→List Y→Option α) (r:List Y):pByte k (x :: r)=k x r:=by simp [pByte]
theorem num_inv {k:Nat→List Y→Option α} {r:List Y} {a:α} (h:pNum k r=some a):∃ n r',r=numN n++r'∧n<18446744073709551616∧k n r'=some a:=by
 unfold pNum at h
 split at h
 ·rename_i he
  have:=num_canon (b:=r) (v:=(numP r).1) (j:=(numP r).2.1) (by rw [← he])
  exact ⟨_,_,this.1,this.2.1,h⟩
 ·cases h
theorem up_inv {most:Nat} {k:Nat→List Y→Option α} {r:List Y} {a:α} (h:pUp most k r=some a):∃ n r',r=numN n++r'∧n<18446744073709551616∧n≤most∧k n r'=some a:=by
 obtain ⟨n,r',h1,h2,h3⟩:=num_inv h
 split at h3
 ·rename_i hn; exact ⟨n,r',h1,h2,hn,h3⟩
 ·cases h3
theorem str_inv {most:Nat} {k:List Y→List Y→Option α} {r:List Y} {a:α} (h:pStr most k r=some a):∃ xs r',r=strL xs++r'∧xs.length≤most∧k xs r'=some a:=by
 obtain ⟨n,r',h1,h2,h3,h4⟩:=up_inv h
 split at h4
 ·rename_i hn
  have hl:(r'.take n).length=n:=by rw [List.length_take]; omega
  refine ⟨r'.take n,r'.drop n,?_,by omega,h4⟩
  rw [h1,strL,hl,List.append_assoc,List.take_append_drop]
 cases h4
theorem byte_inv {k:Y→List Y→Option α} {r:List Y} {a:α} (h:pByte k r=some a):∃ x r',r=x :: r'∧k x r'=some a:=by
 unfold pByte at h
 split at h
 ·cases h
 ·cases r with
  | nil=>rename_i hn; simp at hn
  | cons x r=>exact ⟨x,r,rfl,by simpa using h⟩
end
def Tk {α:Type} (O:Option α) (s:Rd') (bad:Bool) (k:List Y→Option α):Prop:=(s.bad=0∧bad=false∧O=k s.rest)∨(O=none∧(bad=true∨s.bad≠0))
section
variable {α β:Type} {O:Option α} {s:Rd'} {bad:Bool}
theorem Tk.start {b:List Y} {k:List Y→Option α}:Tk (k b) ⟨b,0⟩ false k:=.inl ⟨rfl,rfl,rfl⟩
theorem Tk.num {k:Nat→List Y→Option α} (h:Tk O s bad (pNum k)):Tk O (rdNum s).2 bad (k (rdNum s).1):=by
 unfold rdNum
 rcases h with ⟨h1,h2,h3⟩ | ⟨h1,h2⟩
 ·rw [if_neg (by simp [h1])]
  unfold pNum at h3
  split at h3
  ·rename_i he; exact .inl ⟨he,h2,h3⟩
  ·rename_i he; exact .inr ⟨h3,.inr he⟩
 ·split
  ·exact .inr ⟨h1,h2⟩
  ·rename_i he
   rcases h2 with h2 | h2
   ·exact .inr ⟨h1,.inl h2⟩
   ·exact absurd h2 he
theorem Tk.str {most:Nat} {k:List Y→List Y→Option α} (h:Tk O s bad (pStr most k)):Tk O (rdStr most s).2 bad (k (rdStr most s).1):=by
 unfold rdStr
 rcases h with ⟨h1,h2,h3⟩ | ⟨h1,h2⟩
 ·rw [if_neg (by simp [h1])]
  unfold pStr pUp pNum at h3
  split at h3
  ·rename_i he
   rw [if_neg (by simp [he])]
   simp only at h3
   split at h3
   ·rename_i hm
    rw [if_neg (by omega)]
    split at h3
    ·rename_i hl
     rw [List.length_drop] at hl
     rw [if_neg (by omega)]
     refine .inl ⟨rfl,h2,?_⟩
     rw [h3,List.drop_drop]
    rename_i hl
    rw [List.length_drop] at hl
    rw [if_pos (by omega)]
    exact .inr ⟨h3,.inr (by simp)⟩
   rename_i hm
   rw [if_pos (by omega)]
   exact .inr ⟨h3,.inr (by simp)⟩
  rename_i he
  rw [if_pos he]
  exact .inr ⟨h3,.inr he⟩
 split
 ·exact .inr ⟨h1,h2⟩
 rename_i he
 rcases h2 with h2 | h2
 ·exact .inr ⟨h1,.inl h2⟩
 exact absurd h2 he
theorem Tk.byte {k:Y→List Y→Option α} (h:Tk O s bad (pByte k)):Tk O (rdByte s).2 bad (k (rdByte s).1):=by
 unfold rdByte
 rcases h with ⟨h1,h2,h3⟩ | ⟨h1,h2⟩
 ·rw [if_neg (by simp [h1])]
  unfold pByte at h3
  split at h3
  ·rename_i hl; rw [if_pos hl]; exact .inr ⟨h3,.inr (by simp)⟩
  ·rename_i hl; rw [if_neg hl]; exact .inl ⟨rfl,h2,h3⟩
 ·split
  ·exact .inr ⟨h1,h2⟩
  ·rename_i he
   rcases h2 with h2 | h2
   ·exact .inr ⟨h1,.inl h2⟩
   ·exact absurd h2 he
end
structure Gone where
 level:Int
 number:Int
structure Edit where
 log:Int
 next:Int
 seq:Int
 least:Int
 gens:Nat→Int
 add:List Meta
 drop:List Gone
def u64 (x:Int):Prop:=0≤x∧x<18446744073709551616
section
variable {α:Type}
end
section
variable {α β:Type}
end
theorem or128 (x:Y):(x ||| 128#8).toNat=x.toNat%128+128:=by
 have h:=x.isLt
 have hd:∀ y:Y,(y ||| 128#8).toNat=y.toNat%128+128:=by decide
 exact hd x
theorem and127 (x:Y):(x &&& 127#8).toNat=x.toNat%128:=by
 have hd:∀ y:Y,(y &&& 127#8).toNat=y.toNat%128:=by decide
 exact hd x
theorem num_more {m:BitVec 64} (h:¬ m.toNat<128):numN m.toNat=(m.setWidth 8 ||| 128#8) :: numN (m >>> 7).toNat:=by
 rw [num_big h]
 have e1:BitVec.ofNat 8 (m.toNat%128+128)=m.setWidth 8 ||| 128#8:=by
  apply BitVec.eq_of_toNat_eq
  rw [or128,BitVec.toNat_ofNat,BitVec.toNat_setWidth]
  omega
 have e2:(m >>> 7).toNat=m.toNat / 128:=by rw [BitVec.toNat_ushiftRight,Nat.shiftRight_eq_div_pow]
 rw [e1,e2]
theorem num_last {m:BitVec 64} (h:m.toNat<128):numN m.toNat=[m.setWidth 8]:=by
 rw [num_small h]
 rfl
theorem shr7 (m:BitVec 64):(m >>> 7).toNat=m.toNat / 128:=by rw [BitVec.toNat_ushiftRight,Nat.shiftRight_eq_div_pow]
theorem uvI {x:Int} (h:u64 x):Value.int .u64 x=uv .u64 (BitVec.ofInt 64 x):=by
 unfold u64 at h
 show Value.int .u64 x=Value.int .u64 (((BitVec.ofInt 64 x).toNat:Nat):Int)
 congr 1
 rw [BitVec.toNat_ofInt]
 omega
theorem ofI {x:Int} (h:u64 x):(BitVec.ofInt 64 x).toNat=x.toNat:=by
 unfold u64 at h
 rw [BitVec.toNat_ofInt]; omega
theorem pow128 (k:Nat):(128:Nat)^k=2^(7*k):=by rw [Nat.pow_mul]
theorem acc_or {w:BitVec 64} {x:Y} {k:Nat} (hw:w.toNat<128^k) (hk:k≤9) (hx:k=9→x.toNat≤1):(w ||| (x &&& 127#8).setWidth 64 <<< (7*k)).toNat=w.toNat+(x.toNat%128)*128^k:=by
 have hxl:=x.isLt
 have h1:((x &&& 127#8).setWidth 64 <<< (7*k)).toNat=2^(7*k)*(x.toNat%128):=by
  rw [BitVec.toNat_shiftLeft,BitVec.toNat_setWidth,and127,Nat.mod_eq_of_lt (a:=x.toNat%128) (by omega),Nat.shiftLeft_eq,Nat.mul_comm]
  refine Nat.mod_eq_of_lt ?_
  rcases Nat.lt_or_ge k 9 with h | h
  ·have h2:(2:Nat)^(7*k)≤2^56:=Nat.pow_le_pow_right (by decide) (by omega)
   have h3:2^(7*k)*(x.toNat%128)≤2^56*127:=Nat.mul_le_mul h2 (by omega)
   have h4:(2:Nat)^56*127<2^64:=by decide
   omega
  obtain rfl:k=9:=by omega
  have:=hx rfl
  have h3:(2:Nat)^(7*9)*(x.toNat%128)≤2^(7*9)*1:=Nat.mul_le_mul_left _ (by omega)
  have h4:(2:Nat)^(7*9)*1<2^64:=by decide
  omega
 rw [BitVec.toNat_or,h1]
 have h5:=Nat.two_pow_add_eq_or_of_lt (i:=7*k) (b:=w.toNat) (by rw [← pow128]; exact hw) (x.toNat%128)
 rw [show w.toNat ||| 2^(7*k)*(x.toNat%128)=2^(7*k)*(x.toNat%128) ||| w.toNat from Nat.or_comm _ _,←h5,←pow128,Nat.mul_comm]
 omega
theorem drop_cons {xs:List Y} {k:Nat} (h:k<xs.length):xs.drop k=xs.getD k 0 :: xs.drop (k+1):=by
 rw [List.drop_eq_getElem_cons h]; simp [h]
section
variable {xs:List Y} {k:Nat} {w:BitVec 64}
theorem np_form (e:numP xs=numG k w.toNat (xs.drop k)) (h:k<xs.length) (hk:k=9) (hx:1<(xs.getD k 0).toNat):numP xs=(0,0,11):=by
 rw [e,drop_cons h,numG,if_pos ⟨hk,hx⟩]
theorem np_zero (e:numP xs=numG k w.toNat (xs.drop k)) (h:k<xs.length) (hk:0<k) (hx:(xs.getD k 0).toNat=0):numP xs=(0,0,11):=by
 rw [e,drop_cons h,numG,if_neg (by omega),if_pos (by omega),if_pos ⟨hk,hx⟩]
theorem np_end (e:numP xs=numG k w.toNat (xs.drop k)) (hw:w.toNat<128^k) (h9:k≤9) (h:k<xs.length) (hf:¬ (k=9∧1<(xs.getD k 0).toNat)) (hx:(xs.getD k 0).toNat<128) (hz:¬ (0<k∧(xs.getD k 0).toNat=0)) :
  numP xs=((w ||| (xs.getD k 0 &&& 127#8).setWidth 64 <<< (7*k)).toNat,k+1,0):=by
 rw [e,drop_cons h,numG,if_neg hf,if_pos hx,if_neg hz,acc_or hw h9 (by omega),Nat.mod_eq_of_lt hx]
theorem np_more (e:numP xs=numG k w.toNat (xs.drop k)) (hw:w.toNat<128^k) (h9:k≤9) (h:k<xs.length) (hf:¬ (k=9∧1<(xs.getD k 0).toNat)) (hx:¬ (xs.getD k 0).toNat<128) :
  numP xs=numG (k+1) (w ||| (xs.getD k 0 &&& 127#8).setWidth 64 <<< (7*k)).toNat (xs.drop (k+1))∧(w ||| (xs.getD k 0 &&& 127#8).setWidth 64 <<< (7*k)).toNat<128^(k+1)∧k+1≤9:=by
 have hxl:=(xs.getD k 0).isLt
 have hm:(xs.getD k 0).toNat%128=(xs.getD k 0).toNat-128:=by omega
 rw [acc_or hw h9 (by omega),hm]
 refine ⟨by rw [e,drop_cons h,numG,if_neg hf,if_neg hx],?_,by omega⟩
 rw [Nat.pow_succ]
 have:((xs.getD k 0).toNat-128)*128^k≤127*128^k:=Nat.mul_le_mul_right _ (by omega)
 omega
theorem np_short (e:numP xs=numG k w.toNat (xs.drop k)) (h:xs.length≤k):numP xs=(0,0,10):=by
 rw [e,List.drop_of_length_le h,numG]
end
structure NumR (xs:List Y) (n k:Nat) (e:Int):Prop where
 eq:numP xs=(n,k,e)
 lt:n<18446744073709551616
 le:k≤xs.length
theorem NumR.of {xs:List Y} {n k:Nat} {e:Int} (h:numP xs=(n,k,e)):NumR xs n k e:=by
 by_cases he:e=0
 ·subst he
  obtain ⟨_,h2,_,h4⟩:=num_canon h
  exact ⟨h,h2,h4⟩
 ·obtain ⟨rfl,rfl⟩:=num_fault xs 0 0 n k e h he
  exact ⟨h,by decide,Nat.zero_le _⟩
theorem rd_num_bad {xs:List Y} {e:Int} (h:¬ e=0):rdNum ⟨xs,e⟩=(0,⟨xs,e⟩):=by unfold rdNum; rw [if_pos h]
theorem rd_num_ok {xs L:List Y} {e e':Int} {n k:Nat} (h:e=0) (hN:NumR xs n k e') (eL:L=xs.drop k):rdNum ⟨xs,e⟩=(n,⟨L,e'⟩):=by
 unfold rdNum; rw [if_neg (by simp [h])]; simp only [hN.eq,eL]
theorem rd_str_bad {most:Nat} {xs:List Y} {e:Int} (h:¬ e=0):rdStr most ⟨xs,e⟩=([],⟨xs,e⟩):=by unfold rdStr; rw [if_pos h]
theorem rd_str_form {most n k:Nat} {xs:List Y} {e e':Int} (h:e=0) (hN:NumR xs n k e') (he:¬ e'=0):rdStr most ⟨xs,e⟩=([],⟨xs,e'⟩):=by
 unfold rdStr; rw [if_neg (by simp [h])]; simp only [hN.eq]; rw [if_pos he]
theorem rd_str_long {most n k:Nat} {xs:List Y} {e e':Int} (h:e=0) (hN:NumR xs n k e') (he:e'=0) (hn:most<n):rdStr most ⟨xs,e⟩=([],⟨xs,4⟩):=by
 unfold rdStr; rw [if_neg (by simp [h])]; simp only [hN.eq]; rw [if_neg (by simp [he]),if_pos hn]
theorem rd_str_short {most n k:Nat} {xs:List Y} {e e':Int} (h:e=0) (hN:NumR xs n k e') (he:e'=0) (hn:¬ most<n) (hl:xs.length-k<n):rdStr most ⟨xs,e⟩=([],⟨xs,10⟩):=by
 unfold rdStr; rw [if_neg (by simp [h])]; simp only [hN.eq]; rw [if_neg (by simp [he]),if_neg hn,if_pos hl]
theorem rd_str_ok {most n k:Nat} {xs L M:List Y} {e e':Int} (h:e=0) (hN:NumR xs n k e') (he:e'=0) (hn:¬ most<n) (hl:¬ xs.length-k<n) (eL:L=(xs.drop k).take (k+n-k)) (eM:M=xs.drop (k+n)):rdStr most ⟨xs,e⟩=(L,⟨M,0⟩):=by
 unfold rdStr; rw [if_neg (by simp [h])]; simp only [hN.eq]; rw [if_neg (by simp [he]),if_neg hn,if_neg hl,eL,eM,Nat.add_sub_cancel_left]
theorem rd_byte_bad {xs:List Y} {e:Int} (h:¬ e=0):rdByte ⟨xs,e⟩=(0,⟨xs,e⟩):=by unfold rdByte; rw [if_pos h]
theorem rd_byte_short {xs:List Y} {e:Int} (h:e=0) (hl:xs.length<1):rdByte ⟨xs,e⟩=(0,⟨xs,10⟩):=by unfold rdByte; rw [if_neg (by simp [h]),if_pos hl]
theorem rd_byte_ok {xs L:List Y} {e:Int} (h:e=0) (hl:¬ xs.length<1) (eL:L=xs.drop 1):rdByte ⟨xs,e⟩=(xs.getD 0 0,⟨L,0⟩):=by unfold rdByte; rw [if_neg (by simp [h]),if_neg hl,eL]
def endI (xs:List Y) (e:Int):Int:=if e=0∧0<xs.length then 12 else e
theorem num_at:∀ (i n:Nat),i<(numN n).length→(numN n).getD i 0=if i+1<(numN n).length then BitVec.ofNat 8 (n / 128^i%128+128) else BitVec.ofNat 8 (n / 128^i)
 | 0,n,h=>by
  by_cases hn:n<128
  ·rw [num_small hn]; simp
  ·rw [num_big hn]
   have:=num_pos (n / 128)
   rw [if_pos (by simp only [List.length_cons]; omega)]
   simp
 | i+1,n,h=>by
  by_cases hn:n<128
  ·rw [num_small hn] at h; simp at h
  ·rw [num_big hn] at h ⊢
   simp only [List.length_cons,List.getD_cons_succ] at h ⊢
   rw [num_at i (n / 128) (by omega),Nat.div_div_eq_div_mul,Nat.pow_succ,Nat.mul_comm]
   by_cases hi:i+1<(numN (n / 128)).length
   ·rw [if_pos hi,if_pos (by omega)]
   ·rw [if_neg hi,if_neg (by omega)]
theorem num_lastlt:∀ (n:Nat),n / 128^((numN n).length-1)<128:=by
 intro n
 induction n using Nat.strongRecOn with
 | ind n ih =>
  by_cases hn:n<128
  ·rw [num_small hn]; simpa using hn
  ·have h1:=ih (n / 128) (by omega)
   have h2:=num_pos (n / 128)
   rw [num_big hn,List.length_cons]
   have e:(numN (n / 128)).length+1-1=((numN (n / 128)).length-1)+1:=by omega
   rw [e,Nat.pow_succ,Nat.mul_comm,←Nat.div_div_eq_div_mul]
   exact h1
theorem take_snY {xs:List Y} {i:Nat} (h:i<xs.length):xs.take i++[xs.getD i 0]=xs.take (i+1):=by
 rw [List.take_succ_eq_append_getElem h]; simp [h]
theorem num_grp {n i:Nat} {m:BitVec 64} {L:List Y} (e:L=(numN n).take i) (hm:m.toNat=n / 128^i) (h:i+1<(numN n).length):L++[(m%128#64).setWidth 8+128#8]=(numN n).take (i+1):=by
 rw [← take_snY (by omega),e,num_at i n (by omega),if_pos h,←hm]
 congr 2
 apply BitVec.eq_of_toNat_eq
 have e1:(128#64).toNat=128:=rfl
 have e2:(128#8).toNat=128:=rfl
 rw [BitVec.toNat_add,BitVec.toNat_setWidth,BitVec.toNat_umod,e1,e2,BitVec.toNat_ofNat]
 omega
theorem num_grp1 {n i:Nat} {m:BitVec 64} {L:List Y} (e:L=(numN n).take i) (hm:m.toNat=n / 128^i) (h:¬ i+1<(numN n).length) (h2:i<(numN n).length):L++[(m%128#64).setWidth 8]=(numN n).take (i+1):=by
 rw [← take_snY (by omega),e,num_at i n (by omega),if_neg h,←hm]
 congr 2
 have hl:=num_lastlt n
 rw [show (numN n).length-1=i by omega,←hm] at hl
 apply BitVec.eq_of_toNat_eq
 have e1:(128#64).toNat=128:=rfl
 rw [BitVec.toNat_setWidth,BitVec.toNat_umod,e1,BitVec.toNat_ofNat]
 omega
theorem div128 {n i:Nat} {m:BitVec 64} (hm:m.toNat=n / 128^i):(m / 128#64).toNat=n / 128^(i+1):=by
 rw [BitVec.toNat_udiv,hm,Nat.pow_succ,Nat.div_div_eq_div_mul]; rfl
theorem div1 (m:BitVec 64):(m / 128#64).toNat=m.toNat / 128:=by rw [BitVec.toNat_udiv]; rfl
theorem grp_step {k n:Nat} {m:BitVec 64} (e:k+(numN m.toNat).length=1+(numN n).length) (h:127<m.toNat):k+1+(numN (m / 128#64).toNat).length=1+(numN n).length:=by
 rw [num_big (by omega),List.length_cons] at e
 rw [div1]; omega
theorem grp_end {k n:Nat} {m:BitVec 64} (e:k+(numN m.toNat).length=1+(numN n).length) (h:m.toNat≤127):k=(numN n).length:=by
 rw [num_small (by omega)] at e
 simp at e; omega
section
variable {B:List Y} {I k:Nat}
end
theorem rdnum_lt {s:Rd'} {n:Nat} {t:Rd'} (h:rdNum s=(n,t)):n<18446744073709551616:=by
 unfold rdNum at h
 split at h
 ·simp only [Prod.mk.injEq] at h; omega
 ·simp only [Prod.mk.injEq] at h
  have:=NumR.of (xs:=s.rest) (n:=(numP s.rest).1) (k:=(numP s.rest).2.1) (e:=(numP s.rest).2.2) rfl
  have:=this.lt
  omega
section
variable {P:Program} {G:PM} {μ:Mem}
theorem Ct.give {f:FuncId} {args:Array Value} {b:Nat} {o:Obj} {post:PM→Mem→Value→Prop} (h:PM.le G (G.add b o)→Ct P f args (G.add b o) μ post):Ct P f args G (.blk b o :: μ) post:=by
 intro w hs
 have hk:keys (.blk b o :: μ)=b :: keys μ:=by simp [keys,Res.keys]
 have hnd:=hs.nodup
 rw [hk] at hnd
 have hbμ:=(List.nodup_cons.1 hnd).1
 have hbo:w.heap[b]? = some o:=hs.own _ (List.mem_cons_self ..)
 have hs2:Sat (G.add b o) μ w:=by
  refine ⟨fun c u hc=>?_,fun r hr=>hs.own r (List.mem_cons_of_mem _ hr),fun c hc=>?_,(List.nodup_cons.1 hnd).2⟩
  ·unfold PM.add at hc
   split at hc
   ·rename_i e; subst e; cases hc; exact hbo
   exact hs.sub c u hc
  unfold PM.add
  rw [if_neg (fun (e:c=b)=>hbμ (e▸hc))]
  exact hs.apart c (by rw [hk]; exact List.mem_cons_of_mem _ hc)
 refine (h (PM.le_add (hs.apart b (by simp [keys,Res.keys]))) w hs2).mono ?_
 rintro e w' ⟨v,G',μ',rfl,ht,hQ⟩
 refine ⟨v,G',μ',rfl,⟨ht.sat,ht.os,ht.tape,ht.output,ht.size,fun c hc hK=>?_,fun c hc=>?_,fun c u hK hc=>?_⟩,hQ⟩
 ·rw [hk] at hK
  have hne:c≠b:=fun e=>hK (by rw [e]; exact List.mem_cons_self ..)
  have h1:=ht.old c hc (fun hm=>hK (List.mem_cons_of_mem _ hm))
  refine ⟨h1.1,?_⟩
  rw [h1.2]
  unfold PM.add
  rw [if_neg hne]
 ·rw [hk]
  rcases ht.mine c hc with h1 | h1
  ·exact .inl (List.mem_cons_of_mem _ h1)
  exact .inr h1
 rw [hk] at hK
 have hne:c≠b:=fun e=>hK (by rw [e]; exact List.mem_cons_self ..)
 exact ht.le c u (fun hm=>hK (List.mem_cons_of_mem _ hm)) (by unfold PM.add; rw [if_neg hne]; exact hc)
end
section
variable {α:Type} {O:Option α} {s t:Rd'} {bad:Bool}
theorem Tk.numE {k:Nat→List Y→Option α} {n:Nat} (h:Tk O s bad (pNum k)) (hN:rdNum s=(n,t)):Tk O t bad (k n):=by
 have:=h.num; rw [hN] at this; exact this
theorem Tk.strE {most:Nat} {k:List Y→List Y→Option α} {M:List Y} (h:Tk O s bad (pStr most k)) (hN:rdStr most s=(M,t)):Tk O t bad (k M):=by
 have:=h.str; rw [hN] at this; exact this
theorem Tk.byteE {k:Y→List Y→Option α} {y:Y} (h:Tk O s bad (pByte k)) (hN:rdByte s=(y,t)):Tk O t bad (k y):=by
 have:=h.byte; rw [hN] at this; exact this
end
theorem rdnum_le {s t:Rd'} {n:Nat} (h:rdNum s=(n,t)):t.rest.length≤s.rest.length:=by
 unfold rdNum at h
 split at h
 ·simp only [Prod.mk.injEq] at h; rw [← h.2]; exact Nat.le_refl _
 ·simp only [Prod.mk.injEq] at h; rw [← h.2]; simp
theorem rdstr_le {s t:Rd'} {most:Nat} {M:List Y} (h:rdStr most s=(M,t)):t.rest.length≤s.rest.length:=by
 unfold rdStr at h
 repeat' split at h
 all_goals (simp only [Prod.mk.injEq] at h; rw [← h.2]; simp)
theorem rdbyte_le {s t:Rd'} {y:Y} (h:rdByte s=(y,t)):t.rest.length≤s.rest.length:=by
 unfold rdByte at h
 repeat' split at h
 all_goals (simp only [Prod.mk.injEq] at h; rw [← h.2]; simp)
structure ByR (s0 s:Rd') (bad:Bool) (rt:List Y):Prop where
 len:rt.length≤32
 tk:∀ (α:Type) (O:Option α) (K:List Y→List Y→Option α),Tk O s0 bad (pRep pByte 32 K)→Tk O s bad (pRep pByte (32-rt.length) fun r=>K (rt++r))
theorem ByR.zero {s0:Rd'} {bad:Bool}:ByR s0 s0 bad []:=⟨by simp,fun _ _ _ h=>h⟩
theorem ByR.step {s0 s t:Rd'} {bad:Bool} {rt:List Y} {y:Y} (h:ByR s0 s bad rt) (hl:rt.length<32) (hN:rdByte s=(y,t)):ByR s0 t bad (rt++[y]):=by
 refine ⟨by simp; omega,fun α O K hK=>?_⟩
 have h1:=h.tk α O K hK
 obtain ⟨m,hm⟩ : ∃ m,32-rt.length=m+1:=⟨31-rt.length,by omega⟩
 rw [hm,pRep] at h1
 have h2:=h1.byteE hN
 have hm2:32-(rt++[y]).length=m:=by simp; omega
 rw [hm2]
 have e:(fun r=>K (rt++[y]++r))=fun xs=>K (rt++y :: xs):=by funext r; simp
 rw [e]; exact h2
theorem ByR.all {s0 s:Rd'} {bad:Bool} {rt:List Y} (h:ByR s0 s bad rt) (hl:rt.length=32) {α:Type} {O:Option α} {K:List Y→List Y→Option α} (hK:Tk O s0 bad (pRep pByte 32 K)):Tk O s bad (K rt):=by
 have h1:=h.tk α O K hK
 rw [hl,Nat.sub_self,pRep,List.append_nil] at h1
 exact h1
theorem rt_step {rt:List Y} {k:Nat} {f:Nat→Y} {y:Y} (hr:rt.length=k) (ef:∀ i,f i=rt.getD i 0):∀ i,upd f k ((y.setWidth 64).setWidth 8) i=(rt++[y]).getD i 0:=by
 intro i
 have hy:(y.setWidth 64).setWidth 8=y:=by
  apply BitVec.eq_of_toNat_eq
  have:=y.isLt
  simp only [BitVec.toNat_setWidth]; omega
 unfold upd
 by_cases h:i=k
 ·rw [if_pos h,hy,h,←hr]; simp
 ·rw [if_neg h,ef i]
  simp only [List.getD_eq_getElem?_getD]
  rcases Nat.lt_or_ge i rt.length with h1 | h1
  ·rw [List.getElem?_append_left h1]
  ·rw [List.getElem?_eq_none h1,List.getElem?_eq_none (by simp; omega)]
theorem mone {a b c d e g h i:Value} {f:Nat→Y} (h1:a.oneCell'=true) (h2:b.oneCell'=true) (h3:c.oneCell'=true) (h4:d.oneCell'=true) (h5:e.oneCell'=true) (h6:g.oneCell'=true) (h7:h.oneCell'=true) (h8:i.oneCell'=true):∀ u∈[a,b,c,d,e,g,h,i]++ba 32 f,u.oneCell'=true:=by
 intro u hu
 rcases List.mem_append.1 hu with hu | hu
 ·simp only [List.mem_cons,List.not_mem_nil,or_false] at hu
  rcases hu with rfl|rfl|rfl|rfl|rfl|rfl|rfl|rfl<;>assumption
 ·unfold ba at hu
  obtain ⟨j,_,rfl⟩:=List.mem_map.1 hu
  rfl
theorem Conf.rep {k:CK} {f:Nat→Value}:∀ (l:List Nat),(∀ i∈l,CkOk k (f i))→Conf (List.replicate l.length k) (l.map f)
 | [],_=>.nil
 | i :: l,h=>.cons (h i (List.mem_cons_self ..)) (Conf.rep l fun j hj=>h j (List.mem_cons_of_mem _ hj))
def metaKs:List CK:=[.int .u8,.int .u64,.int .u64,.int .u64,.int .i64,.int .i64,.str,.str]++List.replicate 32 (.int .u8)
theorem meta_conf {m:Meta} (h:m.wf):Conf metaKs m.cells:=by
 have l1:=h.level; have l2:=h.gen; have l3:=h.epoch; have l4:=h.number; have l5:=h.size; have l6:=h.count; have l7:=h.minL; have l8:=h.maxL
 refine Conf.app ?_ ?_
 ·refine .cons (.int ?_ ?_) (.cons (.int ?_ ?_) (.cons (.int ?_ ?_) (.cons (.int ?_ ?_) (.cons (.int ?_ ?_) (.cons (.int ?_ ?_) (.cons (.str ?_) (.cons (.str ?_) .nil)))))))
  all_goals first
   | (simp only [IntKind.min,IntKind.max,IntKind.bits,IntKind.signed]; simp; omega)
   | (simp only [maxLen]; omega)
 have:=Conf.rep (k:=.int .u8) (f:=fun i=>.int .u8 (m.root i)) (List.range 32) (fun i hi=>by
  have hr:=h.root i (List.mem_range.1 hi)
  refine .int ?_ ?_
  all_goals (simp only [IntKind.min,IntKind.max,IntKind.bits,IntKind.signed]; simp; omega))
 rw [List.length_range] at this
 exact this
section
variable {β:Type} {f:∀ α:Type,(β→List Y→Option α)→List Y→Option α} {N:Nat} {s0 s t:Rd'} {bad0 bad bad':Bool} {rt:List β} {x:β}
end
section
variable {O:Option Edit} {xs L:List Y} {gs:List Nat} {add:List Meta} {drop:List Gone} {e:Int} {s t:Rd'} {bad bad':Bool} {n N:Nat}
end
section
variable {P:Program} {n:Fm} {l:List Oper} {K K':Env→PM→Mem→Prop} {dr:Bool} {mc:Md}
theorem Wo.bind1 {i:Nat} {σ:List Nat} {ρ:Env} {G:PM} {μ:Mem} (hm:∀ ρ G μ,K ρ G μ→Wo dr mc P n l K' σ ρ G μ) (H:Wo dr mc P n l K [i] ρ G μ):Wo dr mc P n l K' (i :: σ) ρ G μ:=by
 have h0:∀ {ρ G μ},Wo dr mc P n l K [] ρ G μ→Wo dr mc P n l K' σ ρ G μ:=fun h=>by cases h with | nil h=>exact hm _ _ _ h
 cases H with
 | pure ho hk hg hr h=>exact .pure ho hk hg hr (h0 h)
 | read ho hk hg hr h=>exact .read ho hk hg hr (h0 h)
 | make ho hk hg hr h=>exact .make ho hk hg hr fun b=>h0 (h b)
 | box ho hk hg hr h=>exact .box ho hk hg hr fun b=>h0 (h b)
 | callv ho hk hg hr hf h=>exact .callv ho hk hg hr hf (h0 h)
 | call ho hk hg hr hf h=>exact .call ho hk hg hr hf fun v G' μ' a b=>h0 (h v G' μ' a b)
 | callg hd ho hg hr hf h=>exact .callg hd ho hg hr hf fun v G' μ' a b=>h0 (h v G' μ' a b)
 | callp hd ho hg hp hr hf hx h=>exact .callp hd ho hg hp hr hf hx fun v G' μ' a b=>h0 (h v G' μ' a b)
 | pan hd ho hg hr hx=>exact .pan hd ho hg hr hx
 | fresh ho hk hg hp hr hw h=>exact .fresh ho hk hg hp hr hw fun v G' μa μb a b=>h0 (h v G' μa μb a b)
 | act ho hk hg hp hr h=>exact .act ho hk hg hp hr fun v G' μ' a b=>h0 (h v G' μ' a b)
theorem Wo.cut1 {j:Nat} {σ:List Nat} {ρ:Env} {G:PM} {μ:Mem} (H:Wo dr mc P n l K (j :: σ) ρ G μ):Wo dr mc P n l (fun ρ G μ=>Wo dr mc P n l K σ ρ G μ) [j] ρ G μ:=by
 cases H with
 | pure ho hk hg hr h=>exact .pure ho hk hg hr (.nil h)
 | read ho hk hg hr h=>exact .read ho hk hg hr (.nil h)
 | make ho hk hg hr h=>exact .make ho hk hg hr fun b=>.nil (h b)
 | box ho hk hg hr h=>exact .box ho hk hg hr fun b=>.nil (h b)
 | callv ho hk hg hr hf h=>exact .callv ho hk hg hr hf (.nil h)
 | call ho hk hg hr hf h=>exact .call ho hk hg hr hf fun v G' μ' a b=>.nil (h v G' μ' a b)
 | callg hd ho hg hr hf h=>exact .callg hd ho hg hr hf fun v G' μ' a b=>.nil (h v G' μ' a b)
 | callp hd ho hg hp hr hf hx h=>exact .callp hd ho hg hp hr hf hx fun v G' μ' a b=>.nil (h v G' μ' a b)
 | pan hd ho hg hr hx=>exact .pan hd ho hg hr hx
 | fresh ho hk hg hp hr hw h=>exact .fresh ho hk hg hp hr hw fun v G' μa μb a b=>.nil (h v G' μa μb a b)
 | act ho hk hg hp hr h=>exact .act ho hk hg hp hr fun v G' μ' a b=>.nil (h v G' μ' a b)
def oneOk (mc:Md) (l:List Oper) (listed:Array Bool) (i:Nat):Bool :=
 (rdy l listed).contains i&&match nth l i with
 | some oi=>(kindOf mc oi.op == .pure||kindOf mc oi.op == .read)&&(List.range l.length).all fun j=>listed.getD j true||j == i||match nth l j with
  | some oj=>dep l l.length j i||(oi.apart l.toArray oj&&(kindOf mc oi.op == .pure||kindOf mc oj.op != .act))
  | none=>false
 | none=>false
def unlN (listed:Array Bool):Nat:=listed.toList.count false
theorem unlN_set {listed:Array Bool} {i:Nat} (h:listed.getD i true=false):unlN (listed.setIfInBounds i true)+1=unlN listed:=by
 rcases Nat.lt_or_ge i listed.size with h' | h'
 ·have h2:listed.toList[i]'(by simpa using h')=false:=by simpa [h'] using h
  unfold unlN
  rw [Array.toList_setIfInBounds,List.count_set (by simpa using h')]
  have hp:0<listed.toList.count false:=List.count_pos_iff.2 (by rw [← h2]; exact List.getElem_mem _)
  rw [if_pos (by rw [h2]; rfl),if_neg (by decide)]
  omega
 ·simp [h'] at h
theorem unlN_pos {listed:Array Bool} {i:Nat} (h:listed.getD i true=false):0<unlN listed:=by
 have:=unlN_set h; omega
theorem oneOk_mono {listed:Array Bool} {i j:Nat} (hne:i≠j) (h:oneOk mc l listed i=true):oneOk mc l (listed.setIfInBounds j true) i=true:=by
 unfold oneOk at h ⊢
 simp only [Bool.and_eq_true] at h ⊢
 obtain ⟨h1,h2⟩:=h
 refine ⟨by simpa using rdy_mono (by simpa using h1) hne,?_⟩
 cases hi:nth l i with
 | none=>rw [hi] at h2; cases h2
 | some oi =>
  simp only [hi,Bool.and_eq_true] at h2 ⊢
  refine ⟨h2.1,List.all_eq_true.2 fun k hk=>?_⟩
  have h3:=List.all_eq_true.1 h2.2 k hk
  by_cases e:j=k
  ·subst e
   have:(listed.setIfInBounds j true).getD j true=true:=by
    rcases Nat.lt_or_ge j listed.size with h' | h'<;>simp [h']
   rw [this]; rfl
  rw [getD_set_ne true e]; exact h3
def mixOk (P:Program) (n:Nat) (l:List Oper):Bool:=Region.noSelect l.toArray&&(l.all fun o=>match o.dst with | some d=>decide (d<n) | none=>true)&&allocOk P l
variable {ρ:Env} {G:PM} {μ:Mem} {m:Nat} {listed:Array Bool}
end
section
variable {dr:Bool} {mc:Md} {P:Program} {n:Fm} {l:List Oper} {K:Env→PM→Mem→Prop} {i:Nat} {σ:List Nat} {ρ:Env} {G:PM} {μ:Mem}
variable {d t:Nat} {p:String} {af:Array Edge} {g:Option (Nat×Bool)} {c:Bool}
theorem bSf {T E sz by' len:Nat} {ps:List (Nat×Operand)} {vs:List (Nat×Value)} {cs:List Value} (ho:nth l i=some ⟨some d,.buildSlice T len ps.toArray,t,p,af,none⟩) (hT:slE P T=some (E,sz,by')) (hv:∀ a,Ag n ρ a→true=true→ps.map (fun q=>(q.1,a.eval q.2))=vs) (hb:builtSl P T len vs=some cs)
  (h:∀ b G',PM.le G G'→PB G' b (cl cs E)→Wo dr mc P n l K σ ((d,true,.slice (some ⟨b,0,none⟩) len len) :: ρ) G' μ):Wo dr mc P n l K (i :: σ) ρ G μ:=by
 refine .fresh (μ₁:=[]) (μ₂:=μ) (post:=fun G' μa μb v=>μa=[]∧μb=[]∧∃ b,v=.slice (some ⟨b,0,none⟩) len len∧PB G' b (cl cs E)) ho (.inl rfl) rfl (List.Perm.refl _) (fun a w ha hs=>?_) ?_ ?_
 ·have hrun:(execOp a.eval ⟨some d,.buildSlice T len ps.toArray,t,p,af,none⟩).run P w=.ok (.value (.slice (some ⟨w.heap.size,0,none⟩) len len)) (w.alloc (cl cs E)):=by
   obtain ⟨hu,inf,hi,hs1,_⟩:=slE_some hT
   have h1:=hv a ha rfl
   simp only [builtSl,hu,hi] at hb
   cases hz:inf.zero with
   | none=>rw [hz] at hb; cases hb
   | some z =>
    rw [hz] at hb
    simp only at hb
    split at hb
    ·cases hb
    rename_i hle
    simp only [not_or] at hle
    obtain ⟨hle,h0⟩:=hle
    cases hf:Instr.fill (fun j=>some (j*inf.size,inf.size)) ((Array.range (len*inf.size)).map (z.cells[·%z.cells.size]!)) vs with
    | none=>rw [hf] at hb; cases hb
    | some r =>
     rw [hf] at hb
     simp only [Option.map_some,Option.some.injEq] at hb
     subst hb
     simp [execOp,Instr.buildSlice,run_underlying hu,sizeOf,typeInfo,hi,h0,hle,zeroValue,hz,hf,h1,newRow,cl]
  have hs0:Sat G [] w:=⟨hs.sub,by simp,by simp [keys],by simp [keys]⟩
  have ht:=((Tr.begin hs0).alloc (cl cs E)).freeze (by simp [keys])
  exact ⟨_,_,_,[],[],hrun,ht,rfl,rfl,_,rfl,⟨PM.add_same _ _ _⟩⟩
 ·rintro v G' μa μb ⟨rfl,rfl,_⟩
  exact ⟨(fun w _ r hr=>by cases hr),(fun b hb=>by cases hb),by simp [keys]⟩
 rintro v G' μa μb hle ⟨rfl,rfl,b,rfl,hb⟩
 have:=h b G' hle hb
 simp only [List.nil_append,List.append_nil]
 exact this
end
theorem q1 {a:Int} (h:u64 a):∀ x∈[a],u64 x:=by intro x hx; rw [List.mem_singleton.1 hx]; exact h
theorem q2 {a b:Int} (h:u64 a) (h2:u64 b):∀ x∈[a,b],u64 x:=by
 intro x hx; simp only [List.mem_cons,List.not_mem_nil,or_false] at hx; rcases hx with rfl|rfl<;>assumption
section
variable {α:Type} {O:Option α} {s t:Rd'} {bad:Bool}
end
section
variable {dr:Bool} {mc:Md} {P:Program} {n:Fm} {l:List Oper} {K:Env→PM→Mem→Prop} {i:Nat} {σ:List Nat} {ρ:Env} {G:PM} {μ:Mem}
variable {d t:Nat} {p:String} {af:Array Edge} {g:Option (Nat×Bool)} {c:Bool}
theorem b1f {T E sz by':Nat} {x:Operand} {v z:Value} {cs:List Value} (ho:nth l i=some ⟨some d,.buildSlice T 1 #[(0,x)],t,p,af,none⟩) (hT:slE P T=some (E,sz,by')) (hz:(P.info? E).bind (·.zero)=some z) (hx:Ev ρ true x v) (hv:v.cells=cs.toArray) (hl:cs.length=sz) (h0:0<sz∧sz≤16777216)
  (h:∀ b G',PM.le G G'→PB G' b (cl cs E)→Wo dr mc P n l K σ ((d,true,.slice (some ⟨b,0,none⟩) 1 1) :: ρ) G' μ):Wo dr mc P n l K (i :: σ) ρ G μ:=by
 refine bSf (vs:=[(0,v)]) (cs:=cs) ho hT (fun a ha hc=>by simp [hx.eval ha hc]) ?_ h
 obtain ⟨hu,inf,hi,rfl,_⟩:=slE_some hT
 rw [hi] at hz
 simp only [Option.bind_some] at hz
 simp only [builtSl,hu,hi,hz]
 rw [if_neg (by omega)]
 generalize ha:(Array.range (1*inf.size)).map (z.cells[·%z.cells.size]!)=arr
 have hs:arr.toList.length=inf.size:=by rw [← ha]; simp
 have h2:=fill_step (place:=fun j=>some (j*inf.size,inf.size)) (cs:=arr.toList) (j:=0) (off:=0) (size:=inf.size) (rest:=[]) (by simp) hv hl (by omega)
 simp only [Array.toArray_toList] at h2
 rw [h2]
 have h3:arr.toList.drop (0+cs.length)=[]:=List.drop_of_length_le (by omega)
 rw [h3]
 simp [Instr.fill]
theorem PB.sl1 {α:Type} {enc:α→List Value} {b sz cap:Nat} {x:α} {T:TypeId} (h:PB G b (cl (enc x) T)) (hc:1≤cap):SlR G sz enc ⟨some ⟨b,0,none⟩,cap⟩ [x]:=by
 refine ⟨fun _=>rfl,hc,fun i y hy j v hj=>?_⟩
 obtain ⟨rfl,rfl⟩ : i=0∧y=x:=by
  cases i with
  | zero=>simp at hy; exact ⟨rfl,hy.symm⟩
  | succ i=>simp at hy
 have:=h.rd hj
 simpa [Sh.b,Sh.o] using this
end
theorem u8_lt {a b:UInt8}:(a<b)↔a.toNat<b.toNat:=UInt8.lt_iff_toNat_lt
theorem bl_irr:∀ (x:List UInt8),Op.bytesLess x x=false
 | []=>rfl
 | a :: x=>by
  have h:¬ a<a:=by rw [u8_lt]; omega
  simp [Op.bytesLess,h,bl_irr x]
theorem bl_trans:∀ {x y z:List UInt8},Op.bytesLess x y=true→Op.bytesLess y z=true→Op.bytesLess x z=true
 | [],[],_,h,_=>by simp [Op.bytesLess] at h
 | [],_ :: _,[],_,h=>by simp [Op.bytesLess] at h
 | [],_ :: _,_ :: _,_,_=>by simp [Op.bytesLess]
 | _ :: _,[],_,h,_=>by simp [Op.bytesLess] at h
 | _ :: _,_ :: _,[],_,h=>by simp [Op.bytesLess] at h
 | a :: x,b :: y,c :: z,h,h'=>by
  simp only [Op.bytesLess,Bool.or_eq_true,Bool.and_eq_true,decide_eq_true_eq,beq_iff_eq] at h h' ⊢
  rcases h with h | ⟨rfl,h⟩
  ·rcases h' with h' | ⟨rfl,_⟩
   ·left; rw [u8_lt] at *; omega
   ·exact .inl h
  ·rcases h' with h' | ⟨rfl,h'⟩
   ·exact .inl h'
   ·exact .inr ⟨rfl,bl_trans h h'⟩
theorem bl_tri:∀ (x y:List UInt8),Op.bytesLess x y=true∨x=y∨Op.bytesLess y x=true
 | [],[]=>.inr (.inl rfl)
 | [],_ :: _=>.inl (by simp [Op.bytesLess])
 | _ :: _,[]=>.inr (.inr (by simp [Op.bytesLess]))
 | a :: x,b :: y=>by
  simp only [Op.bytesLess,Bool.or_eq_true,Bool.and_eq_true,decide_eq_true_eq,beq_iff_eq,List.cons.injEq]
  have hab:a.toNat<b.toNat∨a=b∨b.toNat<a.toNat:=by
   rcases Nat.lt_trichotomy a.toNat b.toNat with h | h | h
   ·exact .inl h
   ·exact .inr (.inl (UInt8.toNat_inj.1 h))
   ·exact .inr (.inr h)
  rcases hab with h|rfl | h
  ·exact .inl (.inl (u8_lt.2 h))
  ·rcases bl_tri x y with h|rfl | h
   ·exact .inl (.inr ⟨rfl,h⟩)
   ·exact .inr (.inl ⟨rfl,rfl⟩)
   ·exact .inr (.inr (.inr ⟨rfl,h⟩))
  ·exact .inr (.inr (.inl (u8_lt.2 h)))
theorem bytes_inj {a b:ByteArray} (h:a.toList=b.toList):a=b:=by
 rw [ByteArray.toList_eq,ByteArray.toList_eq] at h
 cases a with | mk a=>cases b with | mk b =>
 congr 1
 exact Array.toList_inj.1 h
theorem lt_irr (a:ByteArray):lt a a=false:=bl_irr _
theorem lt_tr {a b c:ByteArray} (h:lt a b=true) (h':lt b c=true):lt a c=true:=bl_trans h h'
theorem lt_tri (a b:ByteArray):lt a b=true∨a=b∨lt b a=true:=by
 rcases bl_tri a.toList b.toList with h | h | h
 ·exact .inl h
 ·exact .inr (.inl (bytes_inj h))
 ·exact .inr (.inr h)
theorem lt_as {a b:ByteArray} (h:lt a b=true):lt b a=false:=by
 cases h':lt b a with
 | false=>rfl
 | true=>have:=lt_tr h h'; rw [lt_irr] at this; cases this
theorem le_not (a b:ByteArray):le a b = !lt b a:=by
 have e:le a b=(lt a b||a.toList == b.toList):=rfl
 rw [e]
 rcases lt_tri a b with h|rfl | h
 ·rw [h,lt_as h]; rfl
 ·rw [lt_irr]; simp
 ·rw [h,lt_as h]
  have hne:(a.toList == b.toList)=false:=by
   rw [beq_eq_false_iff_ne]
   intro e
   rw [bytes_inj e,lt_irr] at h; cases h
  rw [hne]; rfl
theorem le_lt_tr {a b c:ByteArray} (h:le a b=true) (h':lt b c=true):lt a c=true:=by
 rw [le_not] at h
 rcases lt_tri a b with h2|rfl | h2
 ·exact lt_tr h2 h'
 ·exact h'
 ·rw [h2] at h; cases h
theorem le_tr {a b c:ByteArray} (h:le a b=true) (h':le b c=true):le a c=true:=by
 rw [le_not] at *
 cases h2:lt c a with
 | false=>rfl
 | true =>
  rcases lt_tri a b with h3|rfl | h3
  ·have:=lt_tr h2 h3; rw [this] at h'; cases h'
  ·rw [h2] at h'; cases h'
  ·rw [h3] at h; cases h
theorem lt_le {a b:ByteArray} (h:lt a b=true):le a b=true:=by rw [le_not,lt_as h]; rfl
structure Ent where
 user:ByteArray
 seq:BitVec 64
 kind:Y
 value:ByteArray
def Ent.cells (e:Ent):List Value:=[.string e.user,uv .u64 e.seq,V e.kind,.string e.value]
def Ent.val (e:Ent):Value:=.agg e.cells.toArray
def Ent.zero:Ent:=⟨ByteArray.empty,0,0,ByteArray.empty⟩
theorem Ent.len (e:Ent):e.cells.length=4:=rfl
theorem Ent.one (e:Ent):∀ u∈e.cells,u.oneCell'=true:=by
 intro u hu
 simp only [Ent.cells,List.mem_cons,List.not_mem_nil,or_false] at hu
 rcases hu with rfl|rfl|rfl|rfl<;>rfl
def rightE (e:Ent):Bool:=(decide ((e.user.size:Int)≤1024)&&decide ((e.value.size:Int)≤65536))&&decide (e.seq.toNat≤72057594037927935)&&(if e.kind=0#8 then e.value.toList == [] else decide (e.kind=1#8))
def aheadE (a b:Ent):Bool:=lt a.user b.user||(a.user.toList == b.user.toList&&decide (b.seq.toNat<a.seq.toNat))
noncomputable def risesE (l:List Ent):Bool:=B (∀ i,i+1<l.length→aheadE (l.getD i Ent.zero) (l.getD (i+1) Ent.zero)=true)
theorem risesE_no {l:List Ent} {i:Nat} (h:i+1<l.length) (ha:aheadE (l.getD i Ent.zero) (l.getD (i+1) Ent.zero)=false):risesE l=false:=B_false fun hB=>by rw [hB i h] at ha; cases ha
theorem risesE_yes {l:List Ent} {k:Nat} (hk:l.length≤k+1) (h:∀ i,i<k→aheadE (l.getD i Ent.zero) (l.getD (i+1) Ent.zero)=true):risesE l=true:=B_true fun i hi=>h i (by omega)
def keyE (e:Ent):List Y:=yb e.user++fixL (e.seq <<< 8+e.kind.setWidth 64) 8
theorem keyE_len (e:Ent):(keyE e).length=e.user.size+8:=by unfold keyE; rw [List.length_append,yb_len,fix_len]
def keyN (s:List Y):BitVec 64:=unfK (s.drop (s.length-8)) 8
def entK (s:List Y):Ent:=⟨bstr (s.take (s.length-8)),keyN s >>> 8,(keyN s).setWidth 8,ByteArray.empty⟩
def takeE (s:List Y):Ent×Int:=if s.length<8 then (Ent.zero,80) else if rightE (entK s) then (entK s,0) else (Ent.zero,80)
def comL:List Y→List Y→Nat
 | x :: a,y :: b=>if x=y then comL a b+1 else 0
 | _,_=>0
theorem comL_le:∀ a b:List Y,comL a b≤a.length∧comL a b≤b.length
 | [],_=>⟨Nat.zero_le _,Nat.zero_le _⟩
 | _ :: _,[]=>⟨Nat.zero_le _,Nat.zero_le _⟩
 | x :: a,y :: b=>by
  have:=comL_le a b
  unfold comL
  split<;>simp only [List.length_cons]<;>omega
theorem comL_at:∀ {a b:List Y} {k:Nat},k≤a.length→k≤b.length→(∀ j,j<k→a.getD j 0=b.getD j 0)→(k=a.length∨k=b.length∨a.getD k 0≠b.getD k 0)→comL a b=k
 | [],b,k,h1,_,_,_=>by simp only [List.length_nil,Nat.le_zero] at h1; subst h1; rfl
 | x :: a,[],k,_,h2,_,_=>by simp only [List.length_nil,Nat.le_zero] at h2; subst h2; rfl
 | x :: a,y :: b,0,_,_,_,h=>by
  rcases h with h | h | h
  ·simp at h
  ·simp at h
  ·unfold comL; rw [if_neg (by simpa using h)]
 | x :: a,y :: b,k+1,h1,h2,hj,h=>by
  have h0:=hj 0 (by omega)
  simp only [List.getD_cons_zero] at h0
  unfold comL
  rw [if_pos h0,comL_at (a:=a) (b:=b) (k:=k) (by simpa using h1) (by simpa using h2) (fun j hj'=>by simpa using hj (j+1) (by omega)) ?_]
  rcases h with h | h | h
  ·exact .inl (by simpa using h)
  ·exact .inr (.inl (by simpa using h))
  ·exact .inr (.inr (by simpa using h))
def betwL (a b:List Y):List Y :=
 if comL a b<a.length∧comL a b<b.length∧(a.getD (comL a b) 0).toNat+2≤(b.getD (comL a b) 0).toNat then a.take (comL a b)++[a.getD (comL a b) 0+1#8] else a
def comB (last key:List Y) (anew:Bool):Nat:=if anew then 0 else comL last key
theorem comB_le (last key:List Y) (anew:Bool):comB last key anew≤key.length:=by unfold comB; split; exact Nat.zero_le _; exact (comL_le last key).2
def entB (last:List Y) (anew:Bool) (e:Ent):List Y :=
 numN (comB last (keyE e) anew)++numN ((keyE e).length-comB last (keyE e) anew)++numN e.value.size++(keyE e).drop (comB last (keyE e) anew)++yb e.value
def lastB (l:List Ent):Nat→List Y
 | 0=>[]
 | k+1=>keyE (l.getD k Ent.zero)
def outB (every:Nat) (l:List Ent):Nat→List Y
 | 0=>numN every++numN l.length
 | k+1=>outB every l k++entB (lastB l k) (k%every == 0) (l.getD k Ent.zero)
def plcB (every:Nat) (l:List Ent):Nat→List Y
 | 0=>[]
 | k+1=>if k%every=0 then plcB every l k++fixL (BitVec.ofInt 64 ((outB every l k).length:Int)) 4 else plcB every l k
def rstB (every:Nat):Nat→Nat
 | 0=>0
 | k+1=>if k%every=0 then rstB every k+1 else rstB every k
theorem rstB_le (every:Nat):∀ k,rstB every k≤k
 | 0=>Nat.le_refl _
 | k+1=>by have:=rstB_le every k; unfold rstB; split<;>omega
theorem plcB_len (every:Nat) (l:List Ent):∀ k,(plcB every l k).length=4*rstB every k
 | 0=>rfl
 | k+1=>by
  have:=plcB_len every l k
  unfold plcB rstB
  split
  ·rw [List.length_append,fix_len,this]; omega
  ·exact this
def blkL (every:Nat) (l:List Ent):List Y:=outB every l l.length++plcB every l l.length++fixL (BitVec.ofInt 64 (rstB every l.length:Int)) 4
noncomputable def buildB (l:List Ent) (every:Int):List Y×Int :=
 if B (every<1∨1024<every∨risesE l=false∨∃ e∈l,rightE e=false) then ([],1)
 else if B ((∃ k,k<l.length∧1048576<(outB every.toNat l (k+1)).length)∨1048576<(blkL every.toNat l).length) then ([],4) else (blkL every.toNat l,0)
theorem buildB_arg {l:List Ent} {every:Int} (h:every<1∨1024<every∨risesE l=false∨∃ e∈l,rightE e=false):buildB l every=([],1):=by unfold buildB; rw [B_true h]; rfl
theorem buildB_long {l:List Ent} {every:Int} (h:¬ (every<1∨1024<every∨risesE l=false∨∃ e∈l,rightE e=false)) (h2:(∃ k,k<l.length∧1048576<(outB every.toNat l (k+1)).length)∨1048576<(blkL every.toNat l).length):buildB l every=([],4):=by
 unfold buildB; rw [B_false h,B_true h2]; rfl
theorem buildB_ok {l:List Ent} {every:Int} (h:¬ (every<1∨1024<every∨risesE l=false∨∃ e∈l,rightE e=false)) (h2:¬ ((∃ k,k<l.length∧1048576<(outB every.toNat l (k+1)).length)∨1048576<(blkL every.toNat l).length)):buildB l every=(blkL every.toNat l,0):=by
 unfold buildB; rw [B_false h,B_false h2]; rfl
def entP {α:Type} (last:List Y) (k:Ent→List Y→List Y→Option α):List Y→Option α :=
 pNum fun sh=>pNum fun rest=>pNum fun v r =>
  if sh≤last.length∧rest≤r.length∧v≤r.length-rest then
   (if (takeE (last.take sh++r.take rest)).2=0 then k { (takeE (last.take sh++r.take rest)).1 with value:=bstr ((r.drop rest).take v) } (last.take sh++r.take rest) ((r.drop rest).drop v) else none)
  else none
def entsP:Nat→List Y→List Ent→List Y→Option (List Ent)
 | 0,_,acc,_=>some acc
 | n+1,last,acc,r=>entP last (fun e key r=>entsP n key (acc++[e]) r) r
noncomputable def readB (xs:List Y):List Ent×Int :=
 match (pNum fun every=>pNum fun n r=>if every≤1024 then (entsP n [] [] r).bind fun l=>if buildB l every=(xs,0) then some l else none else none) xs with
 | some l=>(l,0)
 | none=>([],100)
def perB (bits:Int):Nat:=(max 1 (min bits 64)).toNat
def prbB (bits:Int):Nat:=max 1 (min (perB bits*69 / 100) 30)
theorem perB_le (bits:Int):1≤perB bits∧perB bits≤64:=by unfold perB; omega
theorem prbB_le (bits:Int):1≤prbB bits∧prbB bits≤30:=by unfold prbB; omega
def hashB (s:ByteArray):W:=crcW 0#32 (yb s)
def hJ (s:ByteArray):Nat→W
 | 0=>hashB s
 | k+1=>hJ s k+rotl (hashB s) 15
def plcW (s:ByteArray) (n j:Nat):W:=hJ s j%BitVec.ofInt 32 ((8*n:Nat):Int)
def setY (b:List Y) (p:W):List Y:=b.set (p.toNat / 8) (b.getD (p.toNat / 8) 0 ||| 1#8 <<< (p.toNat%8))
def bitY (b:List Y) (p:W):Bool:=(b.getD (p.toNat / 8) 0).getLsbD (p.toNat%8)
def setL (s:ByteArray) (b:List Y):Nat→List Y
 | 0=>b
 | k+1=>setY (setL s b k) (plcW s b.length k)
def addB (pr:Nat) (b:List Y) (s:ByteArray):List Y:=setL s b pr
def zeroB (n:Nat) (bits:Int):List Y:=List.replicate ((max 64 (n*perB bits)+7) / 8) 0#8
def keysB (l:List ByteArray) (bits:Int) (k:Nat):List Y:=(l.take k).foldl (addB (prbB bits)) (zeroB l.length bits)
def makeB (l:List ByteArray) (bits:Int):List Y:=keysB l bits l.length++[BitVec.ofNat 8 (prbB bits)]
noncomputable def mayB (f:List Y) (s:ByteArray):Bool :=
 if f.length<2∨f.getD (f.length-1) 0=0∨30<(f.getD (f.length-1) 0).toNat then true
 else B (∀ j,j<(f.getD (f.length-1) 0).toNat→bitY (f.take (f.length-1)) (plcW s (f.length-1) j)=true)
theorem setY_len (b:List Y) (p:W):(setY b p).length=b.length:=by unfold setY; rw [List.length_set]
theorem setL_len (s:ByteArray) (b:List Y):∀ k,(setL s b k).length=b.length
 | 0=>rfl
 | k+1=>by unfold setL; rw [setY_len,setL_len s b k]
theorem fold_len (pr:Nat):∀ (l:List ByteArray) (b:List Y),(l.foldl (addB pr) b).length=b.length
 | [],b=>rfl
 | s :: l,b=>by rw [List.foldl_cons,fold_len pr l]; exact setL_len s b pr
theorem zeroB_len (n:Nat) (bits:Int):(zeroB n bits).length=(max 64 (n*perB bits)+7) / 8:=List.length_replicate
theorem keysB_len (l:List ByteArray) (bits:Int) (k:Nat):(keysB l bits k).length=(max 64 (l.length*perB bits)+7) / 8:=by unfold keysB; rw [fold_len,zeroB_len]
theorem bit_set {b:List Y} {p q:W} (hq:q.toNat / 8<b.length):bitY (setY b q) p=(bitY b p||decide (p.toNat=q.toNat)):=by
 unfold bitY setY
 by_cases h:p.toNat / 8=q.toNat / 8
 ·rw [h]
  have e:(b.set (q.toNat / 8) (b.getD (q.toNat / 8) 0 ||| 1#8 <<< (q.toNat%8))).getD (q.toNat / 8) 0=b.getD (q.toNat / 8) 0 ||| 1#8 <<< (q.toNat%8):=by
   rw [List.getD_eq_getElem?_getD,List.getElem?_set_self hq]; rfl
  rw [e,BitVec.getLsbD_or,BitVec.getLsbD_shiftLeft]
  congr 1
  have h8:p.toNat%8<8:=Nat.mod_lt _ (by decide)
  by_cases h2:p.toNat%8=q.toNat%8
  ·rw [h2]
   have:p.toNat=q.toNat:=by omega
   simp [this,Nat.mod_lt]
  ·have:¬ p.toNat=q.toNat:=by omega
   rw [decide_eq_false this]
   simp only [BitVec.getLsbD_one]
   by_cases h3:p.toNat%8<q.toNat%8
   ·simp [h3]
   ·have:¬ p.toNat%8-q.toNat%8=0:=by omega
    simp [this]
 ·have hn:¬ p.toNat=q.toNat:=fun e=>h (by rw [e])
  rw [decide_eq_false hn,Bool.or_false,List.getD_eq_getElem?_getD,List.getElem?_set_ne (fun e=>h e.symm),←List.getD_eq_getElem?_getD]
theorem plc_lt (s:ByteArray) {n:Nat} (h0:0<n) (hn:n<500000000) (j:Nat):(plcW s n j).toNat / 8<n:=by
 unfold plcW
 rw [BitVec.ofInt_natCast,BitVec.toNat_umod,BitVec.toNat_ofNat,Nat.mod_eq_of_lt (a:=8*n) (by omega)]
 have:=Nat.mod_lt (hJ s j).toNat (show 0<8*n by omega)
 omega
theorem setL_keeps {s:ByteArray} {b:List Y} (h0:0<b.length) (hn:b.length<500000000) {p:W}:∀ k,bitY b p=true→bitY (setL s b k) p=true
 | 0,h=>h
 | k+1,h=>by
  unfold setL
  rw [bit_set (by rw [setL_len]; exact plc_lt s h0 hn k),setL_keeps h0 hn k h]; rfl
theorem setL_has {s:ByteArray} {b:List Y} (h0:0<b.length) (hn:b.length<500000000):∀ k j,j<k→bitY (setL s b k) (plcW s b.length j)=true
 | k+1,j,h=>by
  unfold setL
  rw [bit_set (by rw [setL_len]; exact plc_lt s h0 hn k)]
  by_cases e:j=k
  ·subst e; simp
  ·rw [setL_has h0 hn k j (by omega)]; rfl
theorem fold_keeps {pr:Nat} {p:W}:∀ {l:List ByteArray} {b:List Y},0<b.length→b.length<500000000→bitY b p=true→bitY (l.foldl (addB pr) b) p=true
 | [],b,_,_,h=>h
 | s :: l,b,h0,hn,h=>fold_keeps (l:=l) (by rw [show (addB pr b s).length=b.length from setL_len s b pr]; exact h0) (by rw [show (addB pr b s).length=b.length from setL_len s b pr]; exact hn) (setL_keeps h0 hn pr h)
theorem fold_has {pr:Nat} {s:ByteArray} {j:Nat} (hj:j<pr):∀ {l:List ByteArray} {b:List Y},0<b.length→b.length<500000000→s∈l→bitY (l.foldl (addB pr) b) (plcW s b.length j)=true
 | [],b,_,_,h=>by cases h
 | t :: l,b,h0,hn,h=>by
  have e:(addB pr b t).length=b.length:=setL_len t b pr
  rw [List.foldl_cons,←e]
  rcases List.mem_cons.1 h with rfl | h
  ·refine fold_keeps (by rw [e]; exact h0) (by rw [e]; exact hn) ?_
   rw [e]; exact setL_has h0 hn pr j hj
  exact fold_has hj (by rw [e]; exact h0) (by rw [e]; exact hn) h
theorem makeB_len (l:List ByteArray) (bits:Int):(makeB l bits).length=(max 64 (l.length*perB bits)+7) / 8+1:=by unfold makeB; rw [List.length_append,keysB_len]; rfl
theorem may_make {l:List ByteArray} {bits:Int} {s:ByteArray} (hl:l.length≤10000000) (hs:s∈l):mayB (makeB l bits) s=true:=by
 have hp:=perB_le bits
 have hb:=prbB_le bits
 have hm:l.length*perB bits≤640000000:=Nat.le_trans (Nat.mul_le_mul hl hp.2) (by decide)
 have e1:=makeB_len l bits
 have e2:=keysB_len l bits l.length
 have e3:(makeB l bits).getD ((makeB l bits).length-1) 0=BitVec.ofNat 8 (prbB bits):=by
  rw [e1]; unfold makeB
  rw [List.getD_eq_getElem?_getD,List.getElem?_append_right (by rw [e2]; omega),e2]
  simp
 have e4:(BitVec.ofNat 8 (prbB bits)).toNat=prbB bits:=by rw [BitVec.toNat_ofNat]; omega
 have e5:(makeB l bits).take ((makeB l bits).length-1)=keysB l bits l.length:=by
  rw [e1]; unfold makeB; rw [List.take_left' (by rw [e2]; omega)]
 unfold mayB
 rw [e3,e4,e5,if_neg]
 ·refine B_true fun j hj=>?_
  have:(makeB l bits).length-1=(zeroB l.length bits).length:=by rw [e1,zeroB_len]; omega
  rw [this]
  unfold keysB
  rw [List.take_length]
  exact fold_has hj (by rw [zeroB_len]; omega) (by rw [zeroB_len]; omega) hs
 intro h
 rcases h with h | h | h
 ·omega
 ·have:=congrArg BitVec.toNat h
  rw [e4] at this; simp at this; omega
 omega
theorem keysB_zero (l:List ByteArray) (bits:Int):keysB l bits 0=zeroB l.length bits:=rfl
theorem keysB_snoc {l:List ByteArray} {bits:Int} {k:Nat} {s:ByteArray} (h:l[k]? = some s):keysB l bits (k+1)=setL s (keysB l bits k) (prbB bits):=by
 unfold keysB; rw [List.take_add_one,h,Option.toList_some,List.foldl_append]; rfl
theorem shr3 (p:W):(p >>> 3).toNat=p.toNat / 8:=by rw [BitVec.toNat_ushiftRight,Nat.shiftRight_eq_div_pow]
theorem and7 (p:W):(p &&& 7#32).toNat=p.toNat%8:=by rw [BitVec.toNat_and]; exact Nat.and_two_pow_sub_one_eq_mod p.toNat 3
theorem mod8 (p:W):(p%8#32).toNat=p.toNat%8:=by rw [BitVec.toNat_umod]; rfl
theorem div8 (p:W):(p / 8#32).toNat=p.toNat / 8:=by rw [BitVec.toNat_udiv]; rfl
theorem bit_and {x:Y} {k:Nat} (h:k<8):(x >>> k &&& 1#8=0#8)↔x.getLsbD k=false:=by
 constructor
 ·intro e
  have:=congrArg (fun z=>z.getLsbD 0) e
  simpa using this
 ·intro e
  apply BitVec.eq_of_getLsbD_eq
  intro i hi
  simp only [BitVec.getLsbD_and,BitVec.getLsbD_ushiftRight,BitVec.getLsbD_one]
  by_cases h0:i=0
  ·subst h0; simp [e]
  ·simp [h0]
theorem rotl15 (x:W):x / 131072#32+x%131072#32*32768#32=rotl x 15:=by
 have h1:x / 131072#32=x >>> 17:=by
  apply BitVec.eq_of_toNat_eq
  rw [BitVec.toNat_udiv,BitVec.toNat_ushiftRight,Nat.shiftRight_eq_div_pow]; rfl
 have h2:x%131072#32*32768#32=x <<< 15:=by
  apply BitVec.eq_of_toNat_eq
  rw [BitVec.toNat_mul,BitVec.toNat_umod,BitVec.toNat_shiftLeft,Nat.shiftLeft_eq]
  have:(131072#32:W).toNat=131072:=rfl
  have:(32768#32:W).toNat=32768:=rfl
  have:=x.isLt
  simp only [*]
  omega
 rw [h1,h2,BitVec.add_comm]
 unfold rotl
 apply BitVec.add_eq_or_of_and_eq_zero
 apply BitVec.eq_of_getLsbD_eq
 intro i hi
 simp only [BitVec.getLsbD_and,BitVec.getLsbD_shiftLeft,BitVec.getLsbD_ushiftRight,BitVec.getLsbD_zero]
 by_cases h:i<15
 ·simp [h]
 ·have:x.getLsbD (17+i)=false:=BitVec.getLsbD_of_ge _ _ (by omega)
  simp [this]
section
variable {op:Nat→List Y→Option (List Y)} {tot:Nat} {r parts:List Y} {recs:List (List Y)} {used:Nat}
theorem fix_at {n:BitVec 64} {m j:Nat} (h:j<m):(fixL n m)[j]? = some ((n >>> (8*j)).setWidth 8):=by simp [fixL,h]
theorem getD_of {xs:List Y} {j:Nat} {y:Y} (h:xs[j]? = some y):xs.getD j 0=y:=by rw [List.getD_eq_getElem?_getD,h]; rfl
end
section
variable {op:Nat→List Y→Option (List Y)} {tot:Nat} {recs:List (List Y)} {used:Nat} {s:List Y}
end
section
variable {op:Nat→List Y→Option (List Y)} {tot:Nat} {recs:List (List Y)} {used:Nat} {s:List Y}
end
def openAt (root:Nat→Y) (h:Hd) (i:Nat) (s:List Y):Option (List Y):=openL (keyEnc root (headL h)) (keyMac root (headL h)) (nonceF (BitVec.ofInt 64 (i:Int))) (headL h) s
def sealAt (root:Nat→Y) (h:Hd) (i:Nat) (p:List Y):List Y:=sealL (keyEnc root (headL h)) (keyMac root (headL h)) (nonceF (BitVec.ofInt 64 (i:Int))) (headL h) p
theorem unf_fix (n:BitVec 64) (t:List Y):unfK (fixL n 8++t) 8=n:=by
 have key:∀ k,k≤8→∀ i,i<64→(unfK (fixL n 8++t) k).getLsbD i=(decide (i<8*k)&&n.getLsbD i):=by
  intro k
  induction k with
  | zero=>intro _ i _; simp [unfK]
  | succ k ih =>
   intro hk i hi
   have hg:(fixL n 8++t).getD k 0=(n >>> (8*k)).setWidth 8:=getD_of (by rw [List.getElem?_append_left (by rw [fix_len]; omega),fix_at (by omega)])
   rw [unfK,BitVec.getLsbD_or,ih (by omega) i hi,hg]
   simp only [BitVec.getLsbD_shiftLeft,BitVec.getLsbD_setWidth,BitVec.getLsbD_ushiftRight,hi,decide_true,Bool.true_and]
   by_cases h1:i<8*k
   ·simp [h1,show i<8*(k+1) by omega]
   ·by_cases h2:i<8*(k+1)
    ·simp [h1,h2,show i-8*k<8 by omega,show i-8*k<64 by omega,show 8*k+(i-8*k)=i by omega]
    ·simp [h1,h2,show ¬ i-8*k<8 by omega]
 apply BitVec.eq_of_getLsbD_eq
 intro i hi
 rw [key 8 (Nat.le_refl _) i hi]
 simp [hi]
theorem head_back (h:Hd) (t:List Y):headOf (headL h++t)=h:=by
 have e:headL h++t=[116#8,97#8,110#8,116#8,h.kind,h.level]++(fixL h.gen 8++(fixL h.epoch 8++(fixL h.num 8++t))):=by simp [headL]
 have d6:(headL h++t).drop 6=fixL h.gen 8++(fixL h.epoch 8++(fixL h.num 8++t)):=by rw [e]; rfl
 have d14:(headL h++t).drop 14=fixL h.epoch 8++(fixL h.num 8++t):=by
  rw [show 14=6+8 by rfl,←List.drop_drop,d6,List.drop_left' (fix_len _ _)]
 have d22:(headL h++t).drop 22=fixL h.num 8++t:=by
  rw [show 22=14+8 by rfl,←List.drop_drop,d14,List.drop_left' (fix_len _ _)]
 unfold headOf
 rw [d6,d14,d22,unf_fix,unf_fix,unf_fix]
 rw [e]
 rfl
theorem take_head (h:Hd) (t:List Y):takeH (headL h++t)=if h.right=true then (h,0) else (Hd.zero,70):=by
 have hl:¬ (headL h++t).length<30:=by rw [List.length_append,head_len]; omega
 have h4:(headL h++t).take 4=[116#8,97#8,110#8,116#8]:=by simp [headL]
 unfold takeH
 rw [if_neg hl,head_back,h4]
 simp
abbrev Dg:=Nat→Y
def leafD (xs:List Y):Dg:=shaD (0#8 :: xs)
def joinD (a b:Dg):Dg:=shaD (1#8 :: (yl 32 a++yl 32 b))
def emptyD:Dg:=shaD [2#8]
def partL (k n:Nat):Nat→Nat
 | 0=>k
 | f+1=>if k+k<n then partL (k*2) n f else k
def partN (n:Nat):Nat:=partL 1 n n
theorem partL_spec:∀ (f k n:Nat),0<k→n≤k*2^f→k<n→(∃ a,k=2^a)→(∃ b,partL k n f=2^b)∧partL k n f<n∧n≤partL k n f+partL k n f
 | 0,k,n,h0,hn,hk,ha=>by rw [Nat.pow_zero,Nat.mul_one] at hn; omega
 | f+1,k,n,h0,hn,hk,⟨a,ha⟩=>by
  unfold partL
  split
  ·rename_i h
   refine partL_spec f (k*2) n (by omega) ?_ (by omega) ⟨a+1,by rw [ha,Nat.pow_succ]⟩
   rw [Nat.pow_succ,Nat.mul_comm (2^f) 2,←Nat.mul_assoc] at hn; exact hn
  exact ⟨⟨a,ha⟩,hk,by omega⟩
theorem partN_spec {n:Nat} (h:2≤n):(∃ b,partN n=2^b)∧partN n<n∧n≤partN n+partN n :=
 partL_spec n 1 n (by decide) (by rw [Nat.one_mul]; exact Nat.le_of_lt (Nat.lt_two_pow_self)) (by omega) ⟨0,rfl⟩
theorem partN_pos {n:Nat} (h:2≤n):0<partN n:=by have:=(partN_spec h).2.2; omega
theorem pow_uniq {a b n:Nat} (h1:2^a<n) (h2:n≤2^a+2^a) (h3:2^b<n) (h4:n≤2^b+2^b):a=b:=by
 rcases Nat.lt_trichotomy a b with h | h | h
 ·have:=Nat.pow_le_pow_right (n:=2) (by decide) (show a+1≤b by omega)
  rw [Nat.pow_succ] at this; omega
 ·exact h
 ·have:=Nat.pow_le_pow_right (n:=2) (by decide) (show b+1≤a by omega)
  rw [Nat.pow_succ] at this; omega
theorem partN_eq {a m:Nat} (h0:0<m) (hm:m≤2^a):partN (2^a+m)=2^a:=by
 have hp:0<2^a:=Nat.pow_pos (by decide)
 obtain ⟨⟨b,hb⟩,h1,h2⟩:=partN_spec (n:=2^a+m) (by omega)
 rw [hb] at h1 h2 ⊢
 rw [pow_uniq h1 h2 (show 2^a<2^a+m by omega) (by omega)]
def rootD (l:List Dg):Dg :=
 match l with
 | []=>emptyD
 | [d]=>d
 | a :: b :: r=>joinD (rootD ((a :: b :: r).take (partN (r.length+2)))) (rootD ((a :: b :: r).drop (partN (r.length+2))))
termination_by l.length
decreasing_by
 ·have:=partN_spec (n:=r.length+2) (by omega)
  simp only [List.length_take,List.length_cons]; omega
 ·have:=partN_pos (n:=r.length+2) (by omega)
  simp only [List.length_drop,List.length_cons]; omega
theorem root_nil:rootD []=emptyD:=by rw [rootD]
theorem root_one (d:Dg):rootD [d]=d:=by rw [rootD]
theorem root_two {l:List Dg} (h:2≤l.length):rootD l=joinD (rootD (l.take (partN l.length))) (rootD (l.drop (partN l.length))):=by
 match l,h with
 | a :: b :: r,_=>rw [rootD]; rfl
theorem root_join {s t:List Dg} {a:Nat} (hs:s.length=2^a) (h0:0<t.length) (ht:t.length≤2^a):rootD (s++t)=joinD (rootD s) (rootD t):=by
 have hp:0<2^a:=Nat.pow_pos (by decide)
 have hl:(s++t).length=2^a+t.length:=by rw [List.length_append,hs]
 rw [root_two (by omega),hl,partN_eq h0 ht,←hs,List.take_left,List.drop_left]
inductive Stk:List (Nat×Dg)→List Dg→Prop
 | nil:Stk [] []
 | cons {a:Nat} {r:Dg} {S:List (Nat×Dg)} {L seg:List Dg} (hS:Stk S L) (hl:seg.length=2^a) (hr:rootD seg=r) (hlt:∀ b s S',S=(b,s) :: S'→a<b):Stk ((a,r) :: S) (L++seg)
def finD (d:Dg):List (Nat×Dg)→Dg
 | []=>d
 | p :: S=>finD (joinD p.2 d) S
theorem Stk.root:∀ {S:List (Nat×Dg)} {L T:List Dg},Stk S L→0<T.length→(∀ b s S',S=(b,s) :: S'→T.length≤2^b)→rootD (L++T)=finD (rootD T) S
 | [],L,T,h,h0,_=>by cases h; rfl
 | (a,r) :: S,L,T,h,h0,hb=>by
  cases h with
  | @cons _ _ _ L seg hS hl hr hlt =>
   rw [List.append_assoc,Stk.root hS (by rw [List.length_append]; omega) (fun b s S' e=>by
    have h1:=hlt b s S' e
    have h2:=hb a r S rfl
    have h3:=Nat.pow_le_pow_right (n:=2) (by decide) (show a+1≤b by omega)
    rw [Nat.pow_succ] at h3
    rw [List.length_append,hl]; omega),root_join hl h0 (hb a r S rfl),hr]
   rfl
theorem Stk.done {a:Nat} {r:Dg} {S:List (Nat×Dg)} {L:List Dg} (h:Stk ((a,r) :: S) L):rootD L=finD r S:=by
 cases h with
 | @cons _ _ _ L seg hS hl hr hlt =>
  have hp:0<2^a:=Nat.pow_pos (by decide)
  rw [Stk.root hS (by omega) (fun b s S' e=>by rw [hl]; exact Nat.pow_le_pow_right (by decide) (Nat.le_of_lt (hlt b s S' e))),hr]
theorem pow_odd (a d t:Nat):2^(a+1+d)*t+2^a=2^a*(2*(2^d*t)+1):=by
 rw [Nat.pow_add,Nat.pow_succ,Nat.mul_add,Nat.mul_one]
 simp only [Nat.mul_assoc]
theorem Stk.len:∀ {S:List (Nat×Dg)} {L:List Dg} {a:Nat} {r:Dg},Stk ((a,r) :: S) L→∃ m,L.length=2^a*(2*m+1)
 | [],L,a,r,h=>by
  cases h with
  | @cons _ _ _ L seg hS hl hr hlt=>cases hS; exact ⟨0,by simpa using hl⟩
 | (b,s) :: S,L,a,r,h=>by
  cases h with
  | @cons _ _ _ L seg hS hl hr hlt =>
   obtain ⟨m,hm⟩:=Stk.len hS
   have hab:=hlt b s S rfl
   obtain ⟨d,rfl⟩ : ∃ d,b=a+1+d:=⟨b-a-1,by omega⟩
   refine ⟨2^d*(2*m+1),?_⟩
   rw [List.length_append,hm,hl,pow_odd]
structure Pend (S:List (Nat×Dg)) (d:Dg) (a:Nat) (l:List Dg):Prop where
 out:∃ L seg,Stk S L∧seg.length=2^a∧rootD seg=d∧L++seg=l∧∀ b s S',S=(b,s) :: S'→a≤b
theorem Pend.start {S:List (Nat×Dg)} {L:List Dg} (h:Stk S L) (d:Dg):Pend S d 0 (L++[d]):=⟨L,[d],h,rfl,root_one d,rfl,fun _ _ _ _=>Nat.zero_le _⟩
theorem Pend.even {S:List (Nat×Dg)} {d:Dg} {a:Nat} {l:List Dg} (h:Pend S d a l) (he:(l.length / 2^a)%2=0):∃ s S',S=(a,s) :: S'∧Pend S' (joinD s d) (a+1) l∧l.length / 2^a / 2=l.length / 2^(a+1):=by
 obtain ⟨L,seg,hS,hl,hr,he',hb⟩:=h.out
 have hp:0<2^a:=Nat.pow_pos (by decide)
 have hdiv:l.length / 2^a / 2=l.length / 2^(a+1):=by rw [Nat.div_div_eq_div_mul,Nat.pow_succ]
 have hlen:l.length=L.length+2^a:=by rw [← he',List.length_append,hl]
 match S,hS,hb with
 | [],hS,hb =>
  cases hS
  rw [List.length_nil,Nat.zero_add] at hlen
  rw [hlen,Nat.div_self hp] at he; cases he
 | (b,s) :: S',hS,hb =>
  obtain ⟨m,hm⟩:=hS.len
  have hab:=hb b s S' rfl
  by_cases e:a=b
  ·subst e
   refine ⟨s,S',rfl,?_,hdiv⟩
   cases hS with
   | @cons _ _ _ L0 seg0 hS0 hl0 hr0 hlt =>
    refine ⟨L0,seg0++seg,hS0,by rw [List.length_append,hl0,hl,Nat.pow_succ]; omega,?_,by rw [← List.append_assoc]; exact he',fun b s S'' e=>hlt b s S'' e⟩
    rw [root_join hl0 (by omega) (by omega),hr0,hr]
  exfalso
  obtain ⟨d',rfl⟩ : ∃ d',b=a+1+d':=⟨b-a-1,by omega⟩
  have h3:l.length=2^a*(2*(2^d'*(2*m+1))+1):=by
   rw [hlen,hm,pow_odd]
  rw [h3,Nat.mul_div_cancel_left _ hp] at he
  omega
theorem Pend.odd {S:List (Nat×Dg)} {d:Dg} {a:Nat} {l:List Dg} (h:Pend S d a l) (he:(l.length / 2^a)%2=1):Stk ((a,d) :: S) l:=by
 obtain ⟨L,seg,hS,hl,hr,he',hb⟩:=h.out
 have hp:0<2^a:=Nat.pow_pos (by decide)
 subst he'
 refine .cons hS hl hr fun b s S' e=>?_
 have hab:=hb b s S' e
 rcases Nat.lt_or_eq_of_le hab with h1 | h1
 ·exact h1
 exfalso
 subst e; subst h1
 obtain ⟨m,hm⟩:=hS.len
 rw [List.length_append,hl,hm,show 2^a*(2*m+1)+2^a=2^a*(2*m+2) by rw [Nat.mul_add,Nat.mul_one,Nat.mul_add]; omega,Nat.mul_div_cancel_left _ hp] at he
 omega
theorem Stk.short:∀ {S:List (Nat×Dg)} {L:List Dg},Stk S L→S.length≤L.length
 | [],_,_=>Nat.zero_le _
 | (a,r) :: S,L,h=>by
  cases h with
  | @cons _ _ _ L seg hS hl hr hlt =>
   have:=Stk.short hS
   have hp:0<2^a:=Nat.pow_pos (by decide)
   rw [List.length_append,List.length_cons]; omega
def wtE:List Ent→Nat
 | []=>0
 | e :: l=>e.user.size+e.value.size+wtE l
theorem wtE_app:∀ a b:List Ent,wtE (a++b)=wtE a+wtE b
 | [],b=>by simp [wtE]
 | e :: a,b=>by simp only [List.cons_append,wtE,wtE_app a b]; omega
theorem wtE_at:∀ {l:List Ent} {k:Nat},k<l.length→(l.getD k Ent.zero).user.size+(l.getD k Ent.zero).value.size≤wtE l
 | e :: l,0,_=>by simp only [List.getD_cons_zero,wtE]; omega
 | e :: l,k+1,h=>by have:=wtE_at (l:=l) (k:=k) (by simpa using h); simp only [List.getD_cons_succ,wtE]; omega
theorem wtE_snoc {l:List Ent} {k:Nat} (h:k<l.length):wtE (l.take (k+1))=wtE (l.take k)+((l.getD k Ent.zero).user.size+(l.getD k Ent.zero).value.size):=by
 rw [List.take_add_one,wtE_app,List.getD_eq_getElem?_getD]
 cases e:l[k]? with
 | none=>rw [List.getElem?_eq_none_iff] at e; omega
 | some x=>simp [wtE]
theorem wtE_take (l:List Ent) (k:Nat):wtE (l.take k)≤wtE l:=by
 have:=wtE_app (l.take k) (l.drop k)
 rw [List.take_append_drop] at this; omega
def lightE (l:List Ent):Prop:=l.length≤300∧wtE l≤50000
theorem lightE.take {l:List Ent} (h:lightE l) (k:Nat):lightE (l.take k):=⟨by have:=h.1; rw [List.length_take]; omega,Nat.le_trans (wtE_take l k) h.2⟩
theorem entB_le {last:List Y} {anew:Bool} {e:Ent} (hu:e.user.size≤100000) (hv:e.value.size≤100000):(entB last anew e).length≤e.user.size+e.value.size+38:=by
 have h1:=comB_le last (keyE e) anew
 have h2:=keyE_len e
 have l1:=num_len10 (n:=comB last (keyE e) anew) (by omega)
 have l2:=num_len10 (n:=(keyE e).length-comB last (keyE e) anew) (by omega)
 have l3:=num_len10 (n:=e.value.size) (by omega)
 unfold entB
 simp only [List.length_append,List.length_drop,yb_len]
 omega
theorem outB_le {every:Nat} {l:List Ent} (he:every<18446744073709551616) (hl:l.length<18446744073709551616) (hw:wtE l≤100000):∀ k,k≤l.length→(outB every l k).length≤20+wtE (l.take k)+38*k
 | 0,_=>by
  have l1:=num_len10 he
  have l2:=num_len10 hl
  unfold outB; rw [List.length_append]; omega
 | k+1,h=>by
  have ih:=outB_le he hl hw k (by omega)
  have ha:=wtE_at (l:=l) (k:=k) (by omega)
  have hb:=entB_le (last:=lastB l k) (anew:=k%every == 0) (e:=l.getD k Ent.zero) (by omega) (by omega)
  unfold outB; rw [List.length_append,wtE_snoc (by omega)]; omega
theorem blkL_le {every:Nat} {l:List Ent} (he:every<18446744073709551616) (hl:l.length<18446744073709551616) (hw:wtE l≤100000):(blkL every l).length≤24+wtE l+42*l.length:=by
 have h1:=outB_le he hl hw l.length (Nat.le_refl _)
 have h2:=rstB_le every l.length
 rw [List.take_length] at h1
 unfold blkL
 rw [List.length_append,List.length_append,fix_len,plcB_len]; omega
def cutA (least:Int):Int→List Ent→Nat
 | _,[]=>0
 | n,e :: l=>if least≤n+((e.user.size:Int)+e.value.size+8) then 1 else cutA least (n+((e.user.size:Int)+e.value.size+8)) l+1
theorem cutA_le (least:Int):∀ (l:List Ent) (n:Int),cutA least n l≤l.length
 | [],n=>Nat.le_refl _
 | e :: l,n=>by
  unfold cutA
  split
  ·simp
  ·have:=cutA_le least l (n+((e.user.size:Int)+e.value.size+8)); simp only [List.length_cons]; omega
theorem cutA_pos (least:Int) {l:List Ent} (n:Int) (h:l≠[]):0<cutA least n l:=by
 cases l with
 | nil=>exact absurd rfl h
 | cons e l=>unfold cutA; split<;>omega
def sumA (l:List Ent):Nat→Int
 | 0=>0
 | k+1=>sumA l k+(((l.getD k Ent.zero).user.size:Int)+(l.getD k Ent.zero).value.size+8)
theorem sumA_cons (e:Ent) (l:List Ent):∀ k,sumA (e :: l) (k+1)=((e.user.size:Int)+e.value.size+8)+sumA l k
 | 0=>by simp [sumA]
 | k+1=>by
  have:=sumA_cons e l k
  rw [sumA,this,List.getD_cons_succ,sumA]; omega
theorem sumA_eq (l:List Ent):∀ k,k≤l.length→sumA l k=((wtE (l.take k)+8*k:Nat):Int)
 | 0,_=>by simp [sumA,wtE]
 | k+1,h=>by rw [sumA,sumA_eq l k (by omega),wtE_snoc (by omega)]; omega
theorem cutA_at (least:Int):∀ (l:List Ent) (n:Int) (k:Nat),k<l.length→(∀ j,j<k→n+sumA l (j+1)<least)→least≤n+sumA l (k+1)→cutA least n l=k+1
 | [],n,k,h,_,_=>by simp at h
 | e :: l,n,0,_,_,h=>by
  unfold cutA
  rw [if_pos (by simpa [sumA] using h)]
 | e :: l,n,k+1,hk,hj,h=>by
  have h0:=hj 0 (by omega)
  simp only [sumA,List.getD_cons_zero] at h0
  unfold cutA
  rw [if_neg (by omega),cutA_at least l _ k (by simpa using hk) (fun j hj'=>by have:=hj (j+1) (by omega); rw [sumA_cons] at this; omega) (by rw [sumA_cons] at h; omega)]
theorem cutA_all (least:Int):∀ (l:List Ent) (n:Int),(∀ j,j<l.length→n+sumA l (j+1)<least)→cutA least n l=l.length
 | [],n,_=>rfl
 | e :: l,n,hj=>by
  have h0:=hj 0 (by simp)
  simp only [sumA,List.getD_cons_zero] at h0
  unfold cutA
  rw [if_neg (by omega),cutA_all least l _ (fun j hj'=>by have:=hj (j+1) (by simpa using hj'); rw [sumA_cons] at this; omega)]
  rfl
def cutsE (least:Int) (l:List Ent):List (List Ent) :=
 if h:l=[] then [] else l.take (cutA least 0 l) :: cutsE least (l.drop (cutA least 0 l))
termination_by l.length
decreasing_by
 have:=cutA_pos least 0 h
 have:=List.length_pos_iff.2 h
 rw [List.length_drop]; omega
theorem cuts_nil (least:Int):cutsE least []=[]:=by rw [cutsE]; rfl
theorem cuts_cons {least:Int} {l:List Ent} (h:l≠[]):cutsE least l=l.take (cutA least 0 l) :: cutsE least (l.drop (cutA least 0 l)):=by rw [cutsE,dif_neg h]
theorem cuts_flat (least:Int) (l:List Ent):(cutsE least l).flatten=l:=by
 by_cases h:l=[]
 ·subst h; rw [cuts_nil]; rfl
 ·rw [cuts_cons h,List.flatten_cons,cuts_flat least (l.drop (cutA least 0 l)),List.take_append_drop]
termination_by l.length
decreasing_by
 have:=cutA_pos least 0 h
 have:=List.length_pos_iff.2 h
 rw [List.length_drop]; omega
theorem cuts_ne (least:Int) (l:List Ent):∀ c∈cutsE least l,c≠[]:=by
 by_cases h:l=[]
 ·subst h; rw [cuts_nil]; intro c hc; cases hc
 ·rw [cuts_cons h]
  intro c hc
  rcases List.mem_cons.1 hc with rfl | hc
  ·have:=cutA_pos least 0 h
   have:=List.length_pos_iff.2 h
   apply List.length_pos_iff.1
   rw [List.length_take]; omega
  ·exact cuts_ne least _ c hc
termination_by l.length
decreasing_by
 have:=cutA_pos least 0 h
 have:=List.length_pos_iff.2 h
 rw [List.length_drop]; omega
theorem cuts_drop (least:Int):∀ (k:Nat) (l:List Ent),cutsE least (((cutsE least l).drop k).flatten)=(cutsE least l).drop k
 | 0,l=>by rw [List.drop_zero,cuts_flat]
 | k+1,l=>by
  by_cases h:l=[]
  ·subst h; rw [cuts_nil]; simp [cuts_nil]
  ·rw [cuts_cons h,List.drop_succ_cons]; exact cuts_drop least k _
theorem cuts_step {least:Int} {l rest:List Ent} {k:Nat} (hr:rest=((cutsE least l).drop k).flatten) (hn:rest≠[]) :
  k<(cutsE least l).length∧(cutsE least l).getD k []=rest.take (cutA least 0 rest)∧((cutsE least l).drop (k+1)).flatten=rest.drop (cutA least 0 rest):=by
 have h1:k<(cutsE least l).length:=by
  apply Nat.lt_of_not_le
  intro h
  rw [List.drop_of_length_le h] at hr
  exact hn hr
 have h2:=cuts_drop least k l
 rw [← hr,cuts_cons hn,List.drop_eq_getElem_cons h1] at h2
 injection h2 with h3 h4
 refine ⟨h1,?_,?_⟩
 ·rw [List.getD_eq_getElem?_getD,List.getElem?_eq_getElem h1]; exact h3.symm
 rw [← h4,cuts_flat]
theorem cuts_end {least:Int} {l rest:List Ent} {k:Nat} (hr:rest=((cutsE least l).drop k).flatten) (hn:rest=[]):(cutsE least l).length≤k:=by
 apply Nat.le_of_not_lt
 intro h
 have h1:=cuts_ne least l ((cutsE least l)[k]) (List.getElem_mem h)
 rw [List.drop_eq_getElem_cons h,List.flatten_cons,hn] at hr
 exact h1 (List.append_eq_nil_iff.1 hr.symm).1
theorem cuts_len (least:Int) (l:List Ent):(cutsE least l).length≤l.length:=by
 have h1:=cuts_ne least l
 have h2:∀ cs:List (List Ent),(∀ c∈cs,c≠[])→cs.length≤cs.flatten.length:=by
  intro cs
  induction cs with
  | nil=>intro _; exact Nat.le_refl _
  | cons c cs ih =>
   intro h
   have:=ih fun c hc=>h c (List.mem_cons_of_mem _ hc)
   have:=List.length_pos_iff.2 (h c (List.mem_cons_self ..))
   rw [List.flatten_cons,List.length_append,List.length_cons]; omega
 have:=h2 _ h1
 rwa [cuts_flat] at this
def lastU (c:List Ent):ByteArray:=(c.getD (c.length-1) Ent.zero).user
def firstU (c:List Ent):ByteArray:=(c.getD 0 Ent.zero).user
def bndE (cs:List (List Ent)) (i:Nat):List Y:=if i+1<cs.length then betwL (yb (lastU (cs.getD i []))) (yb (firstU (cs.getD (i+1) []))) else yb (lastU (cs.getD i []))
def cmpU':ByteArray→List ByteArray→List ByteArray
 | _,[]=>[]
 | p,b :: l=>if b=p then cmpU' p l else b :: cmpU' b l
def cmpU:List ByteArray→List ByteArray
 | []=>[]
 | a :: l=>a :: cmpU' a l
theorem mem_cmp':∀ {l:List ByteArray} {p s:ByteArray},s∈l→s=p∨s∈cmpU' p l
 | b :: l,p,s,h=>by
  unfold cmpU'
  rcases List.mem_cons.1 h with rfl | h
  ·split
   ·rename_i e; exact .inl e
   ·exact .inr (List.mem_cons_self ..)
  ·split
   ·exact mem_cmp' h
   ·rcases mem_cmp' (p:=b) h with rfl | h2
    ·exact .inr (List.mem_cons_self ..)
    ·exact .inr (List.mem_cons_of_mem _ h2)
theorem mem_cmp:∀ {l:List ByteArray} {s:ByteArray},s∈l→s∈cmpU l
 | a :: l,s,h=>by
  unfold cmpU
  rcases List.mem_cons.1 h with rfl | h
  ·exact List.mem_cons_self ..
  ·rcases mem_cmp' (p:=a) h with rfl | h2
   ·exact List.mem_cons_self ..
   ·exact List.mem_cons_of_mem _ h2
theorem cmp_len':∀ (l:List ByteArray) (p:ByteArray),(cmpU' p l).length≤l.length
 | [],p=>Nat.le_refl _
 | b :: l,p=>by
  unfold cmpU'
  split
  ·have:=cmp_len' l p; simp only [List.length_cons]; omega
  ·have:=cmp_len' l b; simp only [List.length_cons]; omega
theorem cmp_len:∀ l:List ByteArray,(cmpU l).length≤l.length
 | []=>Nat.le_refl _
 | a :: l=>by have:=cmp_len' l a; simp only [cmpU,List.length_cons]; omega
structure Tab where
 root:Nat→Y
 h:Hd
 every:Nat
 bits:Int
 cs:List (List Ent)
namespace Tab
variable (t:Tab)
def ents:List Ent:=t.cs.flatten
def prt (i:Nat):List Y:=sealAt t.root t.h (2+i) (blkL t.every (t.cs.getD i []))
end Tab
def rowL (x:List Y):List Y:=numN x.length++yl 32 (leafD x)
namespace Tab
variable (t:Tab)
def out (k:Nat):List Y:=headL t.h++(List.range k).flatMap t.prt
def rows (k:Nat):List Y:=(List.range k).flatMap fun i=>strL (bndE t.cs i)++rowL (t.prt i)
def lvs (k:Nat):List Dg:=(List.range k).map fun i=>leafD (t.prt i)
def users:List ByteArray:=t.ents.map (·.user)
def filt:List Y:=sealAt t.root t.h 1 (makeB (cmpU t.users) t.bits)
def idx:List Y:=numN t.cs.length++(t.rows t.cs.length++rowL t.filt)
def sidx:List Y:=sealAt t.root t.h 0 t.idx
def bytes:List Y:=t.out t.cs.length++t.filt++t.sidx++fixL (BitVec.ofInt 64 (t.sidx.length:Int)) 8
def leaves:List Dg:=t.lvs t.cs.length++[leafD t.filt]++[leafD t.sidx]
def info:Meta:=⟨(t.h.level.toNat:Int),(t.h.gen.toNat:Int),(t.h.epoch.toNat:Int),(t.h.num.toNat:Int),(t.bytes.length:Int),(t.ents.length:Int),firstU t.ents,lastU t.ents,fun i=>((rootD t.leaves i).toNat:Int)⟩
theorem out_succ (k:Nat):t.out (k+1)=t.out k++t.prt k:=by simp [out,List.range_succ]
theorem rows_succ (k:Nat):t.rows (k+1)=t.rows k++(strL (bndE t.cs k)++rowL (t.prt k)):=by simp [rows,List.range_succ]
theorem lvs_succ (k:Nat):t.lvs (k+1)=t.lvs k++[leafD (t.prt k)]:=by simp [lvs,List.range_succ]
theorem lvs_len (k:Nat):(t.lvs k).length=k:=by simp [lvs]
end Tab
theorem sealAt_len (root:Nat→Y) (h:Hd) (i:Nat) (p:List Y):(sealAt root h i p).length=p.length+16:=seal_len ..
theorem betwL_len (a b:List Y):(betwL a b).length≤a.length:=by
 unfold betwL
 split
 ·rw [List.length_append,List.length_take]; simp; omega
 ·exact Nat.le_refl _
theorem lastU_le {c:List Ent} (h:c≠[]):(lastU c).size≤wtE c:=by
 have:=List.length_pos_iff.2 h
 have:=wtE_at (l:=c) (k:=c.length-1) (by omega)
 unfold lastU; omega
theorem cs_take {cs:List (List Ent)} {k:Nat} (h:k<cs.length):(cs.take (k+1)).flatten=(cs.take k).flatten++cs.getD k []:=by
 rw [List.take_add_one,List.flatten_append,List.getElem?_eq_getElem h,List.getD_eq_getElem?_getD,List.getElem?_eq_getElem h]; simp
theorem getD_memE {cs:List (List Ent)} {k:Nat} (h:k<cs.length):cs.getD k []∈cs:=by
 rw [List.getD_eq_getElem?_getD,List.getElem?_eq_getElem h]; exact List.getElem_mem h
theorem wt_flat {cs:List (List Ent)} (k:Nat):wtE ((cs.take k).flatten)≤wtE cs.flatten∧((cs.take k).flatten).length≤cs.flatten.length:=by
 have e:cs.flatten=(cs.take k).flatten++(cs.drop k).flatten:=by rw [← List.flatten_append,List.take_append_drop]
 have h1:=wtE_app (cs.take k).flatten (cs.drop k).flatten
 have h2:cs.flatten.length=((cs.take k).flatten).length+((cs.drop k).flatten).length:=by rw [← List.length_append,←e]
 rw [← e] at h1
 omega
theorem wt_memE:∀ {cs:List (List Ent)} {c:List Ent},c∈cs→wtE c≤wtE cs.flatten∧c.length≤cs.flatten.length
 | d :: cs,c,h=>by
  have h1:=wtE_app d cs.flatten
  rw [List.flatten_cons,h1,List.length_append]
  rcases List.mem_cons.1 h with rfl | h
  ·omega
  ·have:=wt_memE h; omega
structure Tab.Ok (t:Tab):Prop where
 light:lightE t.ents
 ne:∀ c∈t.cs,c≠[]
 every:t.every≤1024
namespace Tab.Ok
variable {t:Tab} (o:t.Ok)
include o
theorem blk {k:Nat} (h:k<t.cs.length):(blkL t.every (t.cs.getD k [])).length≤24+wtE (t.cs.getD k [])+42*(t.cs.getD k []).length:=by
 have h1:=wt_memE (getD_memE h)
 have h2:=o.light
 have h3:=o.every
 have h4:wtE t.cs.flatten≤50000:=h2.2
 have h5:t.cs.flatten.length≤300:=h2.1
 exact blkL_le (by omega) (by omega) (by omega)
theorem prt_le {k:Nat} (h:k<t.cs.length):(t.prt k).length≤40+wtE (t.cs.getD k [])+42*(t.cs.getD k []).length:=by
 have:=o.blk h
 unfold Tab.prt; rw [sealAt_len]; omega
theorem out_le:∀ k,k≤t.cs.length→(t.out k).length≤30+wtE ((t.cs.take k).flatten)+82*((t.cs.take k).flatten).length
 | 0,_=>by simp [Tab.out,head_len]
 | k+1,h=>by
  have h1:=out_le k (by omega)
  have h2:=o.prt_le (k:=k) (by omega)
  have h3:=List.length_pos_iff.2 (o.ne _ (getD_memE (k:=k) (by omega)))
  rw [t.out_succ,cs_take (by omega),List.length_append,List.length_append,wtE_app]; omega
theorem out_small {k:Nat} (h:k≤t.cs.length):(t.out k).length≤74630:=by
 have h1:=o.out_le k h
 have h2:=wt_flat (cs:=t.cs) k
 have h3:wtE t.cs.flatten≤50000:=o.light.2
 have h4:t.cs.flatten.length≤300:=o.light.1
 omega
theorem bnd_le {k:Nat} (h:k<t.cs.length):(bndE t.cs k).length≤wtE (t.cs.getD k []):=by
 have h1:=lastU_le (o.ne _ (getD_memE (k:=k) h))
 unfold bndE
 split
 ·have:=betwL_len (yb (lastU (t.cs.getD k []))) (yb (firstU (t.cs.getD (k+1) [])))
  rw [yb_len] at this; omega
 ·rw [yb_len]; omega
theorem rows_le:∀ k,k≤t.cs.length→(t.rows k).length≤wtE ((t.cs.take k).flatten)+52*((t.cs.take k).flatten).length
 | 0,_=>by simp [Tab.rows]
 | k+1,h=>by
  have h1:=rows_le k (by omega)
  have h2:=o.prt_le (k:=k) (by omega)
  have h3:=List.length_pos_iff.2 (o.ne _ (getD_memE (k:=k) (by omega)))
  have h4:=o.bnd_le (k:=k) (by omega)
  have h5:=wt_memE (getD_memE (cs:=t.cs) (k:=k) (by omega))
  have h6:wtE t.cs.flatten≤50000:=o.light.2
  have h7:t.cs.flatten.length≤300:=o.light.1
  have l1:=num_len10 (n:=(bndE t.cs k).length) (by omega)
  have l2:=num_len10 (n:=(t.prt k).length) (by omega)
  rw [t.rows_succ,cs_take (by omega)]
  simp only [List.length_append,wtE_app,strL,rowL,yl_len]; omega
theorem rows_small {k:Nat} (h:k≤t.cs.length):(t.rows k).length≤65600:=by
 have h1:=o.rows_le k h
 have h2:=wt_flat (cs:=t.cs) k
 have h3:wtE t.cs.flatten≤50000:=o.light.2
 have h4:t.cs.flatten.length≤300:=o.light.1
 omega
theorem cs_le:t.cs.length≤300:=by
 have h2:∀ cs:List (List Ent),(∀ c∈cs,c≠[])→cs.length≤cs.flatten.length:=by
  intro cs
  induction cs with
  | nil=>intro _; exact Nat.le_refl _
  | cons c cs ih =>
   intro h
   have:=ih fun c hc=>h c (List.mem_cons_of_mem _ hc)
   have:=List.length_pos_iff.2 (h c (List.mem_cons_self ..))
   rw [List.flatten_cons,List.length_append,List.length_cons]; omega
 have h3:t.cs.flatten.length≤300:=o.light.1
 have:=h2 _ o.ne
 omega
theorem filt_le:t.filt.length≤2500:=by
 have h1:=cmp_len t.users
 have h2:t.users.length≤300:=by unfold Tab.users; rw [List.length_map]; exact o.light.1
 have h3:=perB_le t.bits
 have h4:(cmpU t.users).length*perB t.bits≤300*64:=Nat.mul_le_mul (by omega) h3.2
 unfold Tab.filt; rw [sealAt_len,makeB_len]; omega
theorem idx_le:t.idx.length≤65700:=by
 have h1:=o.rows_small (Nat.le_refl _)
 have h2:=o.filt_le
 have h3:=o.cs_le
 have l1:=num_len10 (n:=t.cs.length) (by omega)
 have l2:=num_len10 (n:=t.filt.length) (by omega)
 unfold Tab.idx
 simp only [List.length_append,rowL,yl_len]; omega
theorem bytes_le:t.bytes.length≤150000:=by
 have h1:=o.out_small (Nat.le_refl _)
 have h2:=o.filt_le
 have h3:=o.idx_le
 unfold Tab.bytes Tab.sidx
 simp only [List.length_append,sealAt_len,fix_len]; omega
end Tab.Ok
structure RowT where
 bound:List Y
 bytes:List Y
 leaf:Dg
def hdM (m:Meta):Hd:=⟨2#8,BitVec.ofInt 8 m.level,BitVec.ofInt 64 m.gen,BitVec.ofInt 64 m.epoch,BitVec.ofInt 64 m.number⟩
def rowP {α:Type} (last:Bool) (k:List Y→Nat→Dg→List Y→Option α):List Y→Option α :=
 (if last then fun K=>K [] else pStr 1024) fun bd=>pNum fun size=>pRep pByte 32 fun xs=>k bd size (fun i=>xs.getD i 0)
def rowsP:Nat→List RowT→List Y→List Y→Option (List RowT)
 | 0,acc,rest=>fun r=>if r=[]∧rest=[] then some acc else none
 | n+1,acc,rest=>rowP (n == 0) fun bd size d r=>if size≤rest.length then rowsP n (acc++[⟨bd,rest.take size,d⟩]) (rest.drop size) r else none
def beginT (root:Nat→Y) (m:Meta) (b:List Y):Option (List RowT×List Y) :=
 if (takeH b).2=0∧(b.length:Int)=m.size∧(takeH b).1=hdM m∧38≤b.length∧(unfK (b.drop (b.length-8)) 8).toNat≤b.length-38 then
  let rest:=(b.drop 30).take (b.length-38)
  let at':=b.length-38-(unfK (b.drop (b.length-8)) 8).toNat
  (openAt root (hdM m) 0 (rest.drop at')).bind fun y =>
   ((pNum fun n r=>if 0<n then rowsP (n+1) [] (rest.take at') r else none) y).bind fun rows =>
    if (yl 32 (rootD (rows.map (·.leaf)++[leafD (rest.drop at')]))).map (fun y=>((y.toNat:Nat):Int))=(List.range 32).map m.root then some (rows,rest.drop at') else none
 else none
def rowZ:RowT:=⟨[],[],fun _=>0⟩
def wholeT (root:Nat→Y) (h:Hd) (x:RowT) (part:Nat):Option (List Y):=if yl 32 (leafD x.bytes)=yl 32 x.leaf then openAt root h part x.bytes else none
noncomputable def entsT (root:Nat→Y) (h:Hd) (rows:List RowT) (i:Nat):Option (List Ent) :=
 (wholeT root h (rows.getD i rowZ) (2+i)).bind fun y=>if (readB y).2=0 then some (readB y).1 else none
def firstE (l:List Ent) (user:ByteArray) (seq:BitVec 64):Option Ent:=l.find? fun e => !aheadE e ⟨user,seq,0,ByteArray.empty⟩
noncomputable def getG (root:Nat→Y) (h:Hd) (rows:List RowT) (user:ByteArray) (seq:BitVec 64):Nat→Nat→Option (Option Ent)
 | 0,_=>some none
 | n+1,i=>(entsT root h rows i).bind fun l=>match firstE l user seq with
  | none=>getG root h rows user seq n (i+1)
  | some e=>if e.user=user then some (some e) else some none
def fromT (user:ByteArray):List RowT→Nat
 | []=>0
 | x :: l=>if lt (bstr x.bound) user then fromT user l+1 else 0
noncomputable def getT (root:Nat→Y) (m:Meta) (b:List Y) (user:ByteArray) (seq:BitVec 64):Option (Option Ent) :=
 (beginT root m b).bind fun p=>(wholeT root (hdM m) (p.1.getD (p.1.length-1) rowZ) 1).bind fun f =>
  if mayB f user=false then some none else
   getG root (hdM m) p.1 user seq (p.1.length-1-fromT user (p.1.take (p.1.length-1))) (fromT user (p.1.take (p.1.length-1)))
theorem takeE_key {e:Ent} (h:rightE e=true):takeE (keyE e)=({ e with value:=ByteArray.empty },0):=by
 have hl:=keyE_len e
 have h1:(keyE e).length-8=e.user.size:=by omega
 have hs:e.seq.toNat<72057594037927936:=by
  simp only [rightE,Bool.and_eq_true,decide_eq_true_eq] at h; omega
 have hd:(keyE e).drop e.user.size=fixL (e.seq <<< 8+e.kind.setWidth 64) 8:=by
  unfold keyE; exact List.drop_left' (yb_len _)
 have hk:keyN (keyE e)=e.seq <<< 8+e.kind.setWidth 64:=by
  unfold keyN; rw [h1,hd]
  have:=unf_fix (e.seq <<< 8+e.kind.setWidth 64) []
  rwa [List.append_nil] at this
 have hv:(e.seq <<< 8+e.kind.setWidth 64).toNat=e.seq.toNat*256+e.kind.toNat:=by
  have:=e.kind.isLt
  rw [BitVec.toNat_add,BitVec.toNat_shiftLeft,BitVec.toNat_setWidth,Nat.shiftLeft_eq]
  omega
 have he:entK (keyE e) = { e with value:=ByteArray.empty }:=by
  unfold entK
  rw [h1,hk]
  have e1:(keyE e).take e.user.size=yb e.user:=by unfold keyE; exact List.take_left' (yb_len _)
  have e2:(e.seq <<< 8+e.kind.setWidth 64) >>> 8=e.seq:=by
   apply BitVec.eq_of_toNat_eq
   rw [BitVec.toNat_ushiftRight,hv,Nat.shiftRight_eq_div_pow]
   have:=e.kind.isLt; omega
  have e3:(e.seq <<< 8+e.kind.setWidth 64).setWidth 8=e.kind:=by
   apply BitVec.eq_of_toNat_eq
   rw [BitVec.toNat_setWidth,hv]
   have:=e.kind.isLt; omega
  rw [e1,e2,e3,bstr_yb]
 unfold takeE
 rw [if_neg (by omega),he,if_pos]
 simp only [rightE,Bool.and_eq_true,decide_eq_true_eq] at h ⊢
 refine ⟨⟨⟨h.1.1.1,by show ((ByteArray.empty.size:Nat):Int)≤65536; decide⟩,h.1.2⟩,?_⟩
 have h2:=h.2
 split
 ·rw [ByteArray.toList_eq]; rfl
 rename_i hn
 rw [if_neg hn] at h2; exact h2
theorem com_take:∀ a b:List Y,a.take (comL a b)=b.take (comL a b)
 | [],b=>by simp [comL]
 | x :: a,[]=>by simp [comL]
 | x :: a,y :: b=>by
  unfold comL
  split
  ·rename_i h; subst h; rw [List.take_succ_cons,List.take_succ_cons,com_take a b]
  ·rfl
theorem com_tk (last key:List Y) (anew:Bool):last.take (comB last key anew)=key.take (comB last key anew)∧comB last key anew≤last.length:=by
 unfold comB
 split
 ·exact ⟨rfl,Nat.zero_le _⟩
 ·exact ⟨com_take last key,(comL_le last key).1⟩
theorem entP_back {α:Type} {last t:List Y} {anew:Bool} {e:Ent} {k:Ent→List Y→List Y→Option α} (hr:rightE e=true):entP last k (entB last anew e++t)=k e (keyE e) t:=by
 have hr':=hr
 simp only [rightE,Bool.and_eq_true,decide_eq_true_eq] at hr'
 have h1:=comB_le last (keyE e) anew
 have h2:=keyE_len e
 obtain ⟨h3,h4⟩:=com_tk last (keyE e) anew
 have hkey:last.take (comB last (keyE e) anew)++(keyE e).drop (comB last (keyE e) anew)=keyE e:=by rw [h3,List.take_append_drop]
 unfold entP entB
 simp only [List.append_assoc]
 rw [num_k (by omega),num_k (by omega),num_k (by omega)]
 have hl:((keyE e).drop (comB last (keyE e) anew)).length=(keyE e).length-comB last (keyE e) anew:=List.length_drop ..
 have hv:(yb e.value).length=e.value.size:=yb_len _
 rw [if_pos ⟨h4,by rw [List.length_append,hl]; omega,by rw [List.length_append,List.length_append,hl,hv]; omega⟩]
 rw [List.take_left' hl,List.drop_left' hl,List.take_left' hv,List.drop_left' hv,hkey,takeE_key hr]
 simp only [if_true,bstr_yb]
theorem ents_back {every:Nat} {l:List Ent} (hr:∀ e∈l,rightE e=true):∀ (n k:Nat) (t:List Y),k+n=l.length→∃ X,outB every l l.length=outB every l k++X∧entsP n (lastB l k) (l.take k) (X++t)=some l
 | 0,k,t,h=>⟨[],by simp at h; subst h; simp,by simp at h; subst h; simp [entsP]⟩
 | n+1,k,t,h=>by
  obtain ⟨X,h1,h2⟩:=ents_back (every:=every) hr n (k+1) t (by omega)
  have hk:k<l.length:=by omega
  have hm:l.getD k Ent.zero∈l:=by rw [List.getD_eq_getElem?_getD,List.getElem?_eq_getElem hk]; exact List.getElem_mem hk
  refine ⟨entB (lastB l k) (k%every == 0) (l.getD k Ent.zero)++X,?_,?_⟩
  ·rw [h1,←List.append_assoc]; rfl
  rw [entsP,List.append_assoc,entP_back (hr _ hm)]
  have e1:l.take k++[l.getD k Ent.zero]=l.take (k+1):=by
   rw [List.take_add_one,List.getElem?_eq_getElem hk,List.getD_eq_getElem?_getD,List.getElem?_eq_getElem hk]; rfl
  rw [e1]; exact h2
theorem read_built {every:Nat} {l:List Ent} (hb:buildB l every=(blkL every l,0)) (he:1≤every) (he2:every≤1024) (hl:l.length<18446744073709551616) (hr:∀ e∈l,rightE e=true):readB (blkL every l)=(l,0):=by
 obtain ⟨X,h1,h2⟩:=ents_back (every:=every) hr l.length 0 (plcB every l l.length++fixL (BitVec.ofInt 64 (rstB every l.length:Int)) 4) (by omega)
 have e1:blkL every l=numN every++(numN l.length++(X++(plcB every l l.length++fixL (BitVec.ofInt 64 (rstB every l.length:Int)) 4))):=by
  unfold blkL; rw [h1,outB]; simp only [List.append_assoc]
 have h3:entsP l.length [] [] (X++(plcB every l l.length++fixL (BitVec.ofInt 64 (rstB every l.length:Int)) 4))=some l:=h2
 unfold readB
 have key:(pNum fun ev=>pNum fun n r=>if ev≤1024 then (entsP n [] [] r).bind fun l'=>if buildB l' ev=(blkL every l,0) then some l' else none else none) (blkL every l)=some l:=by
  conv=>lhs; arg 2; rw [e1]
  rw [num_k (by omega),num_k hl,if_pos he2,h3,Option.bind_some,if_pos hb]
 rw [key]
def cutD (d:Dg):Dg:=fun i=>(yl 32 d).getD i 0
theorem yl_cut (d:Dg):yl 32 (cutD d)=yl 32 d:=by
 have:=yl_self (yl 32 d)
 rw [yl_len] at this
 exact this
theorem root_cut (l:List Dg):yl 32 (rootD (l.map cutD))=yl 32 (rootD l):=by
 match l with
 | []=>rfl
 | [d]=>rw [List.map_cons,List.map_nil,root_one,root_one]; exact yl_cut d
 | a :: b :: r =>
  have h2:2≤(a :: b :: r).length:=by simp
  have hp:=partN_spec h2
  have h0:=partN_pos h2
  have e:((a :: b :: r).map cutD).length=(a :: b :: r).length:=List.length_map ..
  rw [root_two (l:=(a :: b :: r).map cutD) (by rw [e]; exact h2),root_two h2,e,←List.map_take,←List.map_drop]
  unfold joinD
  rw [root_cut ((a :: b :: r).take (partN (a :: b :: r).length)),root_cut ((a :: b :: r).drop (partN (a :: b :: r).length))]
termination_by l.length
decreasing_by
 ·rw [List.length_take]; omega
 ·rw [List.length_drop]; omega
theorem dig_k {α:Type} (d:Dg) (k:List Y→List Y→Option α) (r:List Y):pRep pByte 32 k (yl 32 d++r)=k (yl 32 d) r:=by
 have key:∀ (xs:List Y) (k:List Y→List Y→Option α),pRep pByte xs.length k (xs++r)=k xs r:=by
  intro xs
  induction xs with
  | nil=>intro k; rfl
  | cons x xs ih =>
   intro k
   show pByte _ (x :: (xs++r))=_
   rw [byte_k]; exact ih _
 have:=key (yl 32 d) k
 rwa [yl_len] at this
theorem rowP_back {α:Type} {last:Bool} {bd x:List Y} {k:List Y→Nat→Dg→List Y→Option α} {r:List Y} (hb:bd.length≤1024) (hl:last=true→bd=[]) (hx:x.length<18446744073709551616) :
  rowP last k ((if last then [] else strL bd)++rowL x++r)=k bd x.length (cutD (leafD x)) r:=by
 unfold rowP rowL
 cases last with
 | true =>
  rw [hl rfl]
  simp only [if_true,List.nil_append,List.append_assoc]
  rw [num_k hx,dig_k]; rfl
 | false =>
  simp only [Bool.false_eq_true,if_false,List.append_assoc]
  rw [str_k (by omega) hb,num_k hx,dig_k]; rfl
def mkR (bd x:List Y):RowT:=⟨bd,x,cutD (leafD x)⟩
theorem rowsP_back {f:List Y} (hf:f.length<18446744073709551616):∀ (bs:List (List Y×List Y)) (acc:List RowT),(∀ b∈bs,b.1.length≤1024∧b.2.length<18446744073709551616) →
  rowsP (bs.length+1) acc (bs.flatMap (·.2)++f) (bs.flatMap (fun b=>strL b.1++rowL b.2)++rowL f)=some (acc++bs.map (fun b=>mkR b.1 b.2)++[mkR [] f])
 | [],acc,_=>by
  have h:=rowP_back (last:=true) (bd:=[]) (x:=f) (r:=[]) (k:=fun bd size d r=>if size≤f.length then (if r=[]∧f.drop size=[] then some (acc++[⟨bd,f.take size,d⟩]) else none) else none) (by decide) (fun _=>rfl) hf
  simp only [if_true,List.nil_append,List.append_nil] at h
  simp only [List.length_nil,Nat.zero_add,rowsP,List.flatMap_nil,List.nil_append,List.map_nil,List.append_nil,beq_self_eq_true]
  rw [h,if_pos (Nat.le_refl _),List.take_length,List.drop_length,if_pos ⟨trivial,rfl⟩]; rfl
 | b :: bs,acc,hb=>by
  have h1:=hb b (List.mem_cons_self ..)
  have ih:=rowsP_back hf bs (acc++[mkR b.1 b.2]) (fun c hc=>hb c (List.mem_cons_of_mem _ hc))
  have h:=rowP_back (last:=false) (bd:=b.1) (x:=b.2) (r:=bs.flatMap (fun b=>strL b.1++rowL b.2)++rowL f)
   (k:=fun bd size d r=>if size≤(b.2++(bs.flatMap (·.2)++f)).length then rowsP (bs.length+1) (acc++[⟨bd,(b.2++(bs.flatMap (·.2)++f)).take size,d⟩]) ((b.2++(bs.flatMap (·.2)++f)).drop size) r else none) h1.1 (fun e=>by cases e) h1.2
  simp only [Bool.false_eq_true,if_false] at h
  have e0:(bs.length+1 == 0)=false:=by simp
  rw [List.length_cons,rowsP,e0]
  simp only [List.flatMap_cons,List.append_assoc] at h ⊢
  rw [h,if_pos (by simp),List.take_left,List.drop_left]
  rw [show (⟨b.1,b.2,cutD (leafD b.2)⟩ : RowT)=mkR b.1 b.2 from rfl,ih]
  simp
namespace Tab
variable (t:Tab)
def prs:List (List Y×List Y):=(List.range t.cs.length).map fun i=>(bndE t.cs i,t.prt i)
def rts:List RowT:=t.prs.map (fun b=>mkR b.1 b.2)++[mkR [] t.filt]
theorem prs_len:t.prs.length=t.cs.length:=by simp [prs]
theorem rts_len:t.rts.length=t.cs.length+1:=by simp [rts,prs_len]
theorem rts_at {i:Nat} (h:i<t.cs.length):t.rts.getD i rowZ=mkR (bndE t.cs i) (t.prt i):=by
 unfold rts
 rw [List.getD_eq_getElem?_getD,List.getElem?_append_left (by rw [List.length_map,prs_len]; exact h),List.getElem?_map]
 unfold prs
 rw [List.getElem?_map,List.getElem?_range h]; rfl
theorem rts_last:t.rts.getD t.cs.length rowZ=mkR [] t.filt:=by
 unfold rts
 rw [List.getD_eq_getElem?_getD,List.getElem?_append_right (by rw [List.length_map,prs_len]; exact Nat.le_refl _),List.length_map,prs_len,Nat.sub_self]; rfl
theorem prs_out:t.prs.flatMap (·.2)=(List.range t.cs.length).flatMap t.prt:=by unfold prs; rw [List.flatMap_map]
theorem prs_rows:t.prs.flatMap (fun b=>strL b.1++rowL b.2)=t.rows t.cs.length:=by unfold prs rows; rw [List.flatMap_map]
theorem rts_leaf:t.rts.map (·.leaf)=(t.lvs t.cs.length++[leafD t.filt]).map cutD:=by
 unfold rts prs lvs
 simp only [List.map_append,List.map_map,List.map_cons,List.map_nil]
 rfl
end Tab
theorem open_seal_at (root:Nat→Y) (h:Hd) (i:Nat) (p:List Y):openAt root h i (sealAt root h i p)=some p:=open_seal ..
theorem hdM_info (t:Tab) (h2:t.h.kind=2#8):hdM t.info=t.h:=by
 have e:∀ (w:Nat) (x:BitVec w),BitVec.ofInt w (x.toNat:Int)=x:=fun w x=>by
  rw [BitVec.ofInt_natCast]; exact BitVec.eq_of_toNat_eq (by rw [BitVec.toNat_ofNat]; exact Nat.mod_eq_of_lt x.isLt)
 cases t with | mk root h every bits cs =>
 cases h with | mk kind level gen epoch num =>
 simp only [hdM,Tab.info,e]
 simp only at h2
 rw [h2]
structure Tab.Good (t:Tab):Prop where
 ok:t.Ok
 kind:t.h.kind=2#8
 right:t.h.right=true
 ev1:1≤t.every
 ents:∀ e∈t.ents,rightE e=true
 rises:risesE t.ents=true
 some:t.cs≠[]
theorem begin_built {t:Tab} (g:t.Good):beginT t.root t.info t.bytes=some (t.rts,t.sidx):=by
 have o:=g.ok
 have hc:=o.cs_le
 have hb:=o.bytes_le
 have hi:=o.idx_le
 have hf:=o.filt_le
 have hs:t.sidx.length=t.idx.length+16:=sealAt_len ..
 have e0:t.bytes=headL t.h++(((List.range t.cs.length).flatMap t.prt++t.filt)++(t.sidx++fixL (BitVec.ofInt 64 (t.sidx.length:Int)) 8)):=by
  unfold Tab.bytes Tab.out; simp only [List.append_assoc]
 have hlen:t.bytes.length=30+(((List.range t.cs.length).flatMap t.prt++t.filt).length+(t.sidx.length+8)):=by
  rw [e0]; simp only [List.length_append,head_len,fix_len]
 have ht:takeH t.bytes=(t.h,0):=by rw [e0,take_head,if_pos g.right]
 have hm:=hdM_info t g.kind
 generalize hA:(List.range t.cs.length).flatMap t.prt++t.filt=A at e0 hlen
 have hd8:t.bytes.drop (t.bytes.length-8)=fixL (BitVec.ofInt 64 (t.sidx.length:Int)) 8:=by
  have e1:t.bytes=(headL t.h++(A++t.sidx))++fixL (BitVec.ofInt 64 (t.sidx.length:Int)) 8:=by rw [e0]; simp only [List.append_assoc]
  have:t.bytes.length-8=(headL t.h++(A++t.sidx)).length:=by rw [hlen]; simp only [List.length_append,head_len]; omega
  rw [this]; conv=>lhs; rw [e1]
  exact List.drop_left
 have hu:(unfK (t.bytes.drop (t.bytes.length-8)) 8).toNat=t.sidx.length:=by
  rw [hd8]
  have:=unf_fix (BitVec.ofInt 64 (t.sidx.length:Int)) []
  rw [List.append_nil] at this
  rw [this,BitVec.ofInt_natCast,BitVec.toNat_ofNat,Nat.mod_eq_of_lt (by omega)]
 have hrest:(t.bytes.drop 30).take (t.bytes.length-38)=A++t.sidx:=by
  have e2:(A++t.sidx).length=t.bytes.length-38:=by rw [List.length_append]; omega
  rw [← e2]; conv=>lhs; rw [e0]
  rw [List.drop_left' (head_len _),←List.append_assoc]
  exact List.take_left
 have hat:t.bytes.length-38-t.sidx.length=A.length:=by omega
 unfold beginT
 rw [ht,hm,hu,if_pos ⟨rfl,rfl,rfl,by omega,by omega⟩]
 simp only [hrest,hat,List.take_left,List.drop_left]
 have ho:openAt t.root t.h 0 t.sidx=some t.idx:=open_seal_at ..
 rw [ho,Option.bind_some]
 have hp:(pNum fun n r=>if 0<n then rowsP (n+1) [] A r else none) t.idx=some t.rts:=by
  unfold Tab.idx
  rw [num_k (by omega),if_pos (List.length_pos_iff.2 g.some)]
  have:=rowsP_back (f:=t.filt) (by omega) t.prs [] (fun b hb=>by
   unfold Tab.prs at hb
   obtain ⟨i,hi,rfl⟩:=List.mem_map.1 hb
   have hi':=List.mem_range.1 hi
   have h1:=o.prt_le hi'
   have h2:=wt_memE (getD_memE hi')
   have h3:wtE t.cs.flatten≤50000:=o.light.2
   have h4:t.cs.flatten.length≤300:=o.light.1
   refine ⟨?_,by show (t.prt i).length<_; omega⟩
   have h5:(lastU (t.cs.getD i [])).size≤1024:=by
    have hne:=List.length_pos_iff.2 (o.ne _ (getD_memE hi'))
    have hmem:(t.cs.getD i []).getD ((t.cs.getD i []).length-1) Ent.zero∈t.ents:=by
     unfold Tab.ents
     refine List.mem_flatten.2 ⟨_,getD_memE hi',?_⟩
     rw [List.getD_eq_getElem?_getD (l:=t.cs.getD i []),List.getElem?_eq_getElem (by omega)]; exact List.getElem_mem _
    have:=g.ents _ hmem
    simp only [rightE,Bool.and_eq_true,decide_eq_true_eq] at this
    unfold lastU; omega
   show (bndE t.cs i).length≤1024
   unfold bndE
   split
   ·have:=betwL_len (yb (lastU (t.cs.getD i []))) (yb (firstU (t.cs.getD (i+1) [])))
    rw [yb_len] at this; omega
   rw [yb_len]; exact h5)
  rw [t.prs_len,t.prs_out,t.prs_rows,hA] at this
  rw [this]; rfl
 rw [hp,Option.bind_some,if_pos]
 rw [t.rts_leaf]
 have e9:yl 32 (rootD ((t.lvs t.cs.length++[leafD t.filt]).map cutD++[leafD t.sidx]))=yl 32 (rootD t.leaves):=by
  have h1:=root_cut ((t.lvs t.cs.length++[leafD t.filt]).map cutD++[leafD t.sidx])
  have h2:=root_cut t.leaves
  rw [← h1,←h2]
  unfold Tab.leaves
  congr 2
  simp only [List.map_append,List.map_map,List.map_cons,List.map_nil]
  have hcc:cutD ∘ cutD=cutD:=by
   funext d i
   show (yl 32 (cutD d)).getD i 0=_
   rw [yl_cut]; rfl
  rw [hcc]
  have:cutD (cutD (leafD t.filt))=cutD (leafD t.filt):=congrFun hcc _
  rw [this]
 rw [e9]
 unfold yl Tab.info
 simp only [List.map_map]
 rfl
theorem whole_built {t:Tab} {i:Nat} (h:i<t.cs.length):wholeT t.root t.h (t.rts.getD i rowZ) (2+i)=some (blkL t.every (t.cs.getD i [])):=by
 rw [t.rts_at h]; unfold wholeT mkR
 rw [if_pos (yl_cut _).symm]; exact open_seal_at ..
theorem filt_built (t:Tab):wholeT t.root t.h (t.rts.getD (t.rts.length-1) rowZ) 1=some (makeB (cmpU t.users) t.bits):=by
 rw [t.rts_len,Nat.add_sub_cancel,t.rts_last]; unfold wholeT mkR
 rw [if_pos (yl_cut _).symm]; exact open_seal_at ..
theorem toList_inj {a b:ByteArray} (h:(a.toList == b.toList)=true):a=b:=bytes_inj (by simpa using h)
theorem ahead_tr {a b c:Ent} (h:aheadE a b=true) (h':aheadE b c=true):aheadE a c=true:=by
 unfold aheadE at *
 simp only [Bool.or_eq_true,Bool.and_eq_true,decide_eq_true_eq] at *
 rcases h with h | ⟨h1,h2⟩
 ·rcases h' with h' | ⟨h3,h4⟩
  ·exact .inl (lt_tr h h')
  ·rw [← toList_inj h3]; exact .inl h
 ·rw [toList_inj h1]
  rcases h' with h' | ⟨h3,h4⟩
  ·exact .inl h'
  ·exact .inr ⟨h3,by omega⟩
theorem ahead_le {a b:Ent} (h:aheadE a b=true):le a.user b.user=true:=by
 unfold aheadE at h
 simp only [Bool.or_eq_true,Bool.and_eq_true,decide_eq_true_eq] at h
 rcases h with h | ⟨h1,_⟩
 ·exact lt_le h
 ·rw [toList_inj h1,le_not,lt_irr]; rfl
theorem le_refl' (a:ByteArray):le a a=true:=by rw [le_not,lt_irr]; rfl
theorem getE {l:List Ent} {i:Nat} (h:i<l.length):l.getD i Ent.zero=l[i]:=by rw [List.getD_eq_getElem?_getD,List.getElem?_eq_getElem h]; rfl
theorem rises_pw {l:List Ent} (h:risesE l=true):l.Pairwise fun a b=>aheadE a b=true:=by
 have hB:∀ i,i+1<l.length→aheadE (l.getD i Ent.zero) (l.getD (i+1) Ent.zero)=true:=by
  unfold risesE B at h
  exact @of_decide_eq_true _ (Classical.propDecidable _) h
 have key:∀ (d i:Nat),i+d+1<l.length→aheadE (l.getD i Ent.zero) (l.getD (i+d+1) Ent.zero)=true:=by
  intro d
  induction d with
  | zero=>intro i hi; exact hB i hi
  | succ d ih=>intro i hi; exact ahead_tr (ih i (by omega)) (hB (i+d+1) (by omega))
 rw [List.pairwise_iff_getElem]
 intro i j hi hj hij
 obtain ⟨d,rfl⟩ : ∃ d,j=i+d+1:=⟨j-i-1,by omega⟩
 have:=key d i hj
 rwa [getE hi,getE hj] at this
theorem pw_rises {l:List Ent} (h:l.Pairwise fun a b=>aheadE a b=true):risesE l=true:=B_true fun i hi=>by
 rw [getE (by omega),getE hi]
 exact (List.pairwise_iff_getElem.1 h) i (i+1) (by omega) hi (by omega)
theorem user_last {c:List Ent} (h:risesE c=true) {e:Ent} (he:e∈c):le e.user (lastU c)=true:=by
 obtain ⟨i,hi,rfl⟩:=List.getElem_of_mem he
 unfold lastU
 rw [getE (by omega)]
 by_cases e:i=c.length-1
 ·subst e; exact le_refl' _
 ·exact ahead_le ((List.pairwise_iff_getElem.1 (rises_pw h)) i (c.length-1) hi (by omega) (by omega))
theorem bl_pre (p:List UInt8) {x y:UInt8} (s:List UInt8) (h:x<y):Op.bytesLess (p++x :: s) (p++[y])=true:=by
 induction p with
 | nil=>simp [Op.bytesLess,h]
 | cons a p ih=>simp [Op.bytesLess,ih]
theorem betw_le (a b:ByteArray):le a (bstr (betwL (yb a) (yb b)))=true:=by
 unfold betwL
 split
 ·rename_i h
  apply lt_le
  generalize hk:comL (yb a) (yb b)=k at h
  have hsplit:yb a=(yb a).take k++(yb a).getD k 0 :: (yb a).drop (k+1):=by
   have e2:(yb a).getD k 0=(yb a)[k]'h.1:=(List.getElem_eq_getD 0).symm
   conv=>lhs; rw [← List.take_append_drop k (yb a),List.drop_eq_getElem_cons h.1,←e2]
  have ha:a.toList=((yb a).take k).map (fun y=>UInt8.ofNat y.toNat)++UInt8.ofNat ((yb a).getD k 0).toNat :: ((yb a).drop (k+1)).map fun y=>UInt8.ofNat y.toNat:=by
   rw [ByteArray.toList_eq,yb_data]
   conv=>lhs; rw [hsplit]
   rw [List.map_append,List.map_cons]
  have hb:(bstr ((yb a).take k++[(yb a).getD k 0+1#8])).toList=((yb a).take k).map (fun y=>UInt8.ofNat y.toNat)++[UInt8.ofNat ((yb a).getD k 0+1#8).toNat]:=by
   rw [ByteArray.toList_eq,bstr_data,List.map_append]; rfl
  unfold lt
  rw [ha,hb]
  refine bl_pre _ _ ?_
  rw [u8_lt]
  have h3:=h.2.2
  have h4:=((yb b).getD k 0).isLt
  have h5:((yb a).getD k 0+1#8).toNat=((yb a).getD k 0).toNat+1:=by
   rw [BitVec.toNat_add]; show (_+1)%256=_; omega
  rw [h5]
  simp only [UInt8.toNat_ofNat']
  omega
 rw [bstr_yb]; exact le_refl' _
theorem bnd_last (cs:List (List Ent)) (i:Nat):le (lastU (cs.getD i [])) (bstr (bndE cs i))=true:=by
 unfold bndE
 split
 ·exact betw_le _ _
 ·rw [bstr_yb]; exact le_refl' _
section
variable {user:ByteArray} {seq:BitVec 64}
theorem first_app (a b:List Ent):firstE (a++b) user seq=(firstE a user seq).or (firstE b user seq):=by unfold firstE; rw [List.find?_append]
theorem first_none {l:List Ent} (h:∀ e∈l,lt e.user user=true):firstE l user seq=none:=by
 unfold firstE
 rw [List.find?_eq_none]
 intro e he
 have:aheadE e ⟨user,seq,0,ByteArray.empty⟩=true:=by unfold aheadE; rw [h e he]; rfl
 rw [this]; simp
def tellE (l:List Ent) (user:ByteArray) (seq:BitVec 64):Option Ent:=match firstE l user seq with
 | none=>none
 | some e=>if e.user=user then some e else none
theorem tell_drop {t:Tab} (g:t.Good):∀ k,k≤t.cs.length→(∀ i,i<k→lt (bstr (bndE t.cs i)) user=true)→firstE t.ents user seq=firstE ((t.cs.drop k).flatten) user seq
 | 0,_,_=>by rw [List.drop_zero]; rfl
 | k+1,hk,h=>by
  rw [tell_drop g k (by omega) fun i hi=>h i (by omega),List.drop_eq_getElem_cons (show k<t.cs.length by omega),List.flatten_cons,first_app]
  have hm:t.cs[k]∈t.cs:=List.getElem_mem _
  have hc:risesE t.cs[k]=true:=pw_rises ((List.pairwise_flatten.1 (rises_pw g.rises)).1 _ hm)
  rw [first_none (l:=t.cs[k]) fun e he=>?_]
  ·rfl
  ·have h1:=user_last hc he
   have h2:=bnd_last t.cs k
   rw [List.getD_eq_getElem?_getD,List.getElem?_eq_getElem (show k<t.cs.length by omega)] at h2
   exact le_lt_tr (le_tr h1 h2) (h k (by omega))
theorem from_lt:∀ {l:List RowT} {i:Nat},i<fromT user l→lt (bstr ((l.getD i rowZ).bound)) user=true
 | x :: l,0,h=>by
  unfold fromT at h
  split at h
  ·rename_i hx; exact hx
  ·omega
 | x :: l,i+1,h=>by
  unfold fromT at h
  split at h
  ·rw [List.getD_cons_succ]; exact from_lt (by omega)
  ·omega
theorem from_le:∀ l:List RowT,fromT user l≤l.length
 | []=>Nat.le_refl _
 | x :: l=>by
  have:=from_le l
  unfold fromT
  split
  ·simp only [List.length_cons]; omega
  ·omega
theorem ents_built {t:Tab} (g:t.Good) {i:Nat} (h:i<t.cs.length):entsT t.root t.h t.rts i=some (t.cs.getD i []):=by
 have hr:∀ e∈t.cs.getD i [],rightE e=true:=fun e he=>g.ents e (List.mem_flatten.2 ⟨_,getD_memE h,he⟩)
 have hc:risesE (t.cs.getD i [])=true:=pw_rises ((List.pairwise_flatten.1 (rises_pw g.rises)).1 _ (getD_memE h))
 have h1:=wt_memE (getD_memE h)
 have h2:wtE t.cs.flatten≤50000:=g.ok.light.2
 have h3:t.cs.flatten.length≤300:=g.ok.light.1
 have he:=g.ok.every
 have h0:=g.ev1
 have hb:buildB (t.cs.getD i []) t.every=(blkL t.every (t.cs.getD i []),0):=by
  have:=buildB_ok (l:=t.cs.getD i []) (every:=(t.every:Int)) (fun q=>by
   rcases q with q | q | q | ⟨e,he,q⟩
   ·omega
   ·omega
   ·rw [hc] at q; cases q
   ·rw [hr e he] at q; cases q) (fun q=>by
   have hw:=blkL_le (every:=t.every) (l:=t.cs.getD i []) (by omega) (by omega) (by omega)
   rcases q with ⟨k,hk,q⟩ | q
   ·have:=outB_le (every:=t.every) (l:=t.cs.getD i []) (by omega) (by omega) (by omega) (k+1) (by omega)
    have:=wtE_take (t.cs.getD i []) (k+1)
    rw [Int.toNat_natCast] at q; omega
   ·rw [Int.toNat_natCast] at q; omega)
  rw [this,Int.toNat_natCast]
 have hrd:=read_built hb h0 he (by omega) hr
 unfold entsT
 rw [whole_built h,Option.bind_some,hrd,if_pos rfl]
theorem getG_built {t:Tab} (g:t.Good):∀ n i,i+n=t.cs.length→getG t.root t.h t.rts user seq n i=some (tellE ((t.cs.drop i).flatten) user seq)
 | 0,i,h=>by
  rw [List.drop_of_length_le (by omega)]; rfl
 | n+1,i,h=>by
  have hi:i<t.cs.length:=by omega
  rw [getG,ents_built g hi,Option.bind_some,List.drop_eq_getElem_cons hi,List.flatten_cons]
  have e:t.cs.getD i []=t.cs[i]:=by rw [List.getD_eq_getElem?_getD,List.getElem?_eq_getElem hi]; rfl
  rw [e]
  unfold tellE
  rw [first_app]
  cases hf:firstE t.cs[i] user seq with
  | none =>
   simp only [Option.none_or]
   exact getG_built g n (i+1) (by omega)
  | some x =>
   simp only [Option.some_or]
   split<;>rfl
theorem tells {t:Tab} (g:t.Good):getT t.root t.info t.bytes user seq=some (tellE t.ents user seq):=by
 unfold getT
 rw [begin_built g,Option.bind_some,hdM_info t g.kind]
 simp only
 rw [filt_built,Option.bind_some]
 by_cases hm:mayB (makeB (cmpU t.users) t.bits) user=false
 ·rw [if_pos hm]
  congr 1
  unfold tellE
  cases hf:firstE t.ents user seq with
  | none=>rfl
  | some e =>
   simp only
   rw [if_neg]
   intro he
   have hmem:e∈t.ents:=by unfold firstE at hf; exact List.mem_of_find?_eq_some hf
   have h1:user∈cmpU t.users:=mem_cmp (by rw [← he]; exact List.mem_map.2 ⟨e,hmem,rfl⟩)
   have h2:=cmp_len t.users
   have h3:t.users.length≤300:=by unfold Tab.users; rw [List.length_map]; exact g.ok.light.1
   rw [may_make (by omega) h1] at hm; cases hm
 ·rw [if_neg hm,t.rts_len,Nat.add_sub_cancel]
  have hl:(t.rts.take t.cs.length).length=t.cs.length:=by rw [List.length_take,t.rts_len]; omega
  have h1:=from_le (user:=user) (t.rts.take t.cs.length)
  rw [hl] at h1
  rw [getG_built g _ _ (by omega)]
  congr 1
  unfold tellE
  rw [tell_drop g (fromT user (t.rts.take t.cs.length)) h1 fun i hi=>?_]
  have:=from_lt hi
  have e:(t.rts.take t.cs.length).getD i rowZ=t.rts.getD i rowZ:=by
   rw [List.getD_eq_getElem?_getD,List.getElem?_take_of_lt (by omega),←List.getD_eq_getElem?_getD]
  rw [e,t.rts_at (by omega)] at this
  exact this
end
section
variable {e:Ent}
theorem eR1 (h:1024<(e.user.size:Int)):rightE e=false:=by unfold rightE; rw [decide_eq_false (by omega)]; rfl
theorem eR2 (h:65536<(e.value.size:Int)):rightE e=false:=by unfold rightE; rw [decide_eq_false (p:=(e.value.size:Int)≤65536) (by omega)]; simp
theorem eR3 (h:72057594037927935<(e.seq.toNat:Int)):rightE e=false:=by unfold rightE; rw [decide_eq_false (p:=e.seq.toNat≤72057594037927935) (by omega)]; simp
theorem eR4 (h1:(e.user.size:Int)≤1024) (h2:(e.value.size:Int)≤65536) (h3:(e.seq.toNat:Int)≤72057594037927935) (h4:(e.kind.toNat:Int)=0):rightE e=(e.value.toList == (⟨#[]⟩ : ByteArray).toList):=by
 have hk:e.kind=0#8:=BitVec.eq_of_toNat_eq (by show _=0; omega)
 unfold rightE
 rw [decide_eq_true h1,decide_eq_true h2,decide_eq_true (p:=e.seq.toNat≤72057594037927935) (by omega),if_pos hk,show (⟨#[]⟩ : ByteArray).toList=[] by rw [ByteArray.toList_eq]]; rfl
theorem eR5 (h1:(e.user.size:Int)≤1024) (h2:(e.value.size:Int)≤65536) (h3:(e.seq.toNat:Int)≤72057594037927935) (h4:¬ (e.kind.toNat:Int)=0):rightE e=((e.kind.toNat:Int) == 1):=by
 have hk:¬ e.kind=0#8:=fun q=>h4 (by rw [q]; rfl)
 unfold rightE
 rw [decide_eq_true h1,decide_eq_true h2,decide_eq_true (p:=e.seq.toNat≤72057594037927935) (by omega),if_neg hk]
 show decide (e.kind=1#8)=decide ((e.kind.toNat:Int)=1)
 exact decide_eq_decide.2 ⟨fun q=>by rw [q]; rfl,fun q=>BitVec.eq_of_toNat_eq (by show _=1; omega)⟩
end
section
variable {a b:ByteArray} {k:Nat}
theorem bt_com (hk:k<a.size∧k<b.size) (hj:∀ j,j<k→(yb a).getD j 0=(yb b).getD j 0) (hn:¬ (((yb a).getD k 0).toNat:Int)=(((yb b).getD k 0).toNat:Int)):comL (yb a) (yb b)=k :=
 comL_at (by rw [yb_len]; omega) (by rw [yb_len]; omega) hj (.inr (.inr fun e=>hn (by rw [e])))
theorem bt_yes (hk:k<a.size∧k<b.size) (hj:∀ j,j<k→(yb a).getD j 0=(yb b).getD j 0) (h:(((yb a).getD k 0).toNat:Int)<(((yb b).getD k 0).toNat:Int)∧1<(((yb b).getD k 0-(yb a).getD k 0).toNat:Int)):bstr (yb (bstr ((yb a).take k))++yb (bstr [(yb a).getD k 0+1#8]))=bstr (betwL (yb a) (yb b)):=by
 obtain ⟨h1,h2⟩:=h
 have e:=bt_com hk hj (by omega)
 rw [yb_bstr,yb_bstr]
 unfold betwL
 rw [e,if_pos]
 refine ⟨by rw [yb_len]; omega,by rw [yb_len]; omega,?_⟩
 rw [BitVec.toNat_sub] at h2
 have:=((yb a).getD k 0).isLt
 have:=((yb b).getD k 0).isLt
 omega
theorem bt_no (hk:k<a.size∧k<b.size) (hj:∀ j,j<k→(yb a).getD j 0=(yb b).getD j 0) (hn:¬ (((yb a).getD k 0).toNat:Int)=(((yb b).getD k 0).toNat:Int)) (h:(decide ((((yb a).getD k 0).toNat:Int)<(((yb b).getD k 0).toNat:Int))&&decide ((((yb b).getD k 0-(yb a).getD k 0).toNat:Int) > 1))=false):a=bstr (betwL (yb a) (yb b)):=by
 have e:=bt_com hk hj hn
 unfold betwL
 rw [e,if_neg,bstr_yb]
 intro q
 rw [Bool.and_eq_false_iff,decide_eq_false_iff_not,decide_eq_false_iff_not,BitVec.toNat_sub] at h
 have:=((yb a).getD k 0).isLt
 have:=((yb b).getD k 0).isLt
 omega
theorem bt_end (hk:k≤a.size∧k≤b.size) (hm:min a.size b.size≤k) (hj:∀ j,j<k→(yb a).getD j 0=(yb b).getD j 0):a=bstr (betwL (yb a) (yb b)):=by
 have e:comL (yb a) (yb b)=k:=comL_at (by rw [yb_len]; omega) (by rw [yb_len]; omega) hj (by rw [yb_len,yb_len]; omega)
 unfold betwL
 rw [e,if_neg (by rw [yb_len,yb_len]; omega),bstr_yb]
theorem bt_room {x:Y} (h:a.size≤1000000):(bstr ((yb a).take k)).size+(bstr [x]).size≤9223372036854775807:=by
 rw [bstr_len,bstr_len,List.length_take,yb_len]
 show _+1≤_
 omega
theorem bt_snoc (hj:∀ j,j<k→(yb a).getD j 0=(yb b).getD j 0) (h:(((yb a).getD k 0).toNat:Int)=(((yb b).getD k 0).toNat:Int)):∀ j,j<k+1→(yb a).getD j 0=(yb b).getD j 0:=fun j hj'=>by
 by_cases e:j=k
 ·subst e; exact BitVec.eq_of_toNat_eq (Int.ofNat.inj h)
 ·exact hj j (by omega)
end
section
variable {α:Type} {p:α→Bool} {l:List α} {k:Nat} {x:α}
def idxZ (p:α→Bool) (l:List α):Int:=match l.findIdx? p with | some i=>(i:Int) | none => -1
theorem idz_step (h:∀ j y,j<k→l[j]? = some y→p y=false) (hx:l[k]? = some x) (hp:p x=false):∀ j y,j<k+1→l[j]? = some y→p y=false:=fun j y hj hy=>by
 by_cases e:j=k
 ·subst e; rw [hx] at hy; cases hy; exact hp
 ·exact h j y (by omega) hy
theorem idz_hit (h:∀ j y,j<k→l[j]? = some y→p y=false) (hx:l[k]? = some x) (hp:p x=true):tup [.int .i64 (k:Int)]=.int .i64 (idxZ p l):=by
 have hk:k<l.length:=(List.getElem?_eq_some_iff.1 hx).1
 have:l.findIdx? p=some k:=by
  rw [List.findIdx?_eq_some_iff_getElem]
  refine ⟨hk,?_,fun j hj=>?_⟩
  ·rw [List.getElem?_eq_getElem hk] at hx; cases hx; exact hp
  rw [h j _ hj (List.getElem?_eq_getElem (by omega))]; simp
 unfold idxZ; rw [this]; rfl
theorem idz_none (h:∀ j y,j<k→l[j]? = some y→p y=false) (hk:l.length≤k):tup [.int .i64 (-1)]=.int .i64 (idxZ p l):=by
 have:l.findIdx? p=none:=by
  rw [List.findIdx?_eq_none_iff]
  intro y hy
  obtain ⟨i,hi,rfl⟩:=List.getElem_of_mem hy
  exact h i _ (by omega) (List.getElem?_eq_getElem hi)
 unfold idxZ; rw [this]; rfl
theorem idz_ge:decide (idxZ p l≥0)=l.any p:=by
 unfold idxZ
 cases h:l.findIdx? p with
 | none =>
  rw [List.findIdx?_eq_none_iff] at h
  have:l.any p=false:=by rw [List.any_eq_false]; intro x hx; rw [h x hx]; simp
  rw [this]; rfl
 | some i =>
  rw [List.findIdx?_eq_some_iff_getElem] at h
  obtain ⟨hi,hp,_⟩:=h
  have:l.any p=true:=List.any_eq_true.2 ⟨_,List.getElem_mem hi,hp⟩
  rw [this]; exact decide_eq_true (Int.natCast_nonneg i)
end
section
variable {l:List Ent} {k:Nat} {x y:Ent}
theorem ri_neg:((!le x.user y.user)||(x.user.toList == y.user.toList&&decide ((x.seq.toNat:Int)≤(y.seq.toNat:Int)))) = !aheadE x y:=by
 rw [le_not,Bool.not_not]
 unfold aheadE
 rcases lt_tri x.user y.user with h | h | h
 ·have hne:(x.user.toList == y.user.toList)=false:=by
   cases hq:(x.user.toList == y.user.toList) with
   | false=>rfl
   | true=>rw [toList_inj hq,lt_irr] at h; cases h
  rw [h,lt_as h,hne]; rfl
 ·rw [h,lt_irr,beq_self_eq_true]
  simp only [Bool.false_or,Bool.true_and]
  by_cases q:y.seq.toNat<x.seq.toNat
  ·rw [decide_eq_true q,decide_eq_false (by omega)]; rfl
  ·rw [decide_eq_false q,decide_eq_true (by omega)]; rfl
 ·have hne:(x.user.toList == y.user.toList)=false:=by
   cases hq:(x.user.toList == y.user.toList) with
   | false=>rfl
   | true=>rw [toList_inj hq,lt_irr] at h; cases h
  rw [h,lt_as h,hne]; rfl
theorem ri_at (hx:l[k]? = some x):l.getD k Ent.zero=x:=by rw [List.getD_eq_getElem?_getD,hx]; rfl
theorem ri_step (hk:1≤k) (h:∀ j,j+1<k→aheadE (l.getD j Ent.zero) (l.getD (j+1) Ent.zero)=true) (hx:l[k-1]? = some x) (hy:l[k]? = some y) (c:((!le x.user y.user)||(x.user.toList == y.user.toList&&decide ((x.seq.toNat:Int)≤(y.seq.toNat:Int))))=false) :
  ∀ j,j+1<k+1→aheadE (l.getD j Ent.zero) (l.getD (j+1) Ent.zero)=true:=fun j hj=>by
 by_cases e:j+1=k
 ·have e2:j=k-1:=by omega
  subst e2
  rw [e,ri_at hx,ri_at hy]
  rw [ri_neg] at c
  cases h:aheadE x y with
  | true=>rfl
  | false=>rw [h] at c; cases c
 ·exact h j (by omega)
theorem ri_no (hk:1≤k) (hx:l[k-1]? = some x) (hy:l[k]? = some y) (c:((!le x.user y.user)||(x.user.toList == y.user.toList&&decide ((x.seq.toNat:Int)≤(y.seq.toNat:Int))))=true):risesE l=false:=by
 have hlt:k<l.length:=(List.getElem?_eq_some_iff.1 hy).1
 refine risesE_no (i:=k-1) (by omega) ?_
 rw [show k-1+1=k by omega,ri_at hx,ri_at hy]
 rw [ri_neg] at c
 cases h:aheadE x y with
 | true=>rw [h] at c; cases c
 | false=>rfl
theorem ri_yes (hk:l.length≤k∨l.length=0) (h:∀ j,j+1<k→aheadE (l.getD j Ent.zero) (l.getD (j+1) Ent.zero)=true):risesE l=true:=B_true fun i hi=>h i (by omega)
theorem sumA_le (hw:wtE l≤100000000) (hl:l.length≤100000000) (hk:k≤l.length):0≤sumA l k∧sumA l k≤900000000:=by
 have:=sumA_eq l k hk
 have:=wtE_take l k
 omega
theorem sumA_next (hx:l[k]? = some x):sumA l (k+1)=sumA l k+((x.user.size:Int)+x.value.size+8):=by rw [sumA,ri_at hx]
theorem cut_snoc {least:Int} (h:∀ j,j<k→sumA l (j+1)<least) (c:¬ sumA l (k+1)≥least):∀ j,j<k+1→sumA l (j+1)<least:=fun j hj=>by
 by_cases e:j=k
 ·subst e; omega
 ·exact h j (by omega)
theorem hd_cells {m:Meta} (h:m.wf) : [V 2#8,.int .u8 m.level,.int .u64 m.gen,.int .u64 m.epoch,.int .u64 m.number]=(hdM m).cells:=by
 have e8:((BitVec.ofInt 8 m.level).toNat:Int)=m.level:=by have:=h.level; rw [BitVec.toNat_ofInt]; omega
 have e64:∀ z:Int,0≤z∧z≤18446744073709551615→((BitVec.ofInt 64 z).toNat:Int)=z:=fun z hz=>by rw [BitVec.toNat_ofInt]; omega
 have e:(hdM m).cells=[V 2#8,.int .u8 ((BitVec.ofInt 8 m.level).toNat:Int),.int .u64 ((BitVec.ofInt 64 m.gen).toNat:Int),.int .u64 ((BitVec.ofInt 64 m.epoch).toNat:Int),.int .u64 ((BitVec.ofInt 64 m.number).toNat:Int)]:=rfl
 rw [e,e8,e64 _ h.gen,e64 _ h.epoch,e64 m.number (by have:=h.number; omega)]
end
def encT (s:ByteArray):List Value:=[.string s]
theorem SlR.t1 {G:PM} {h:Sh} {xs:List ByteArray} (s:SlR G 1 encT h xs) {j:Int} (k:Nat) {x:ByteArray} (hj:j.toNat=k) (hx:xs[k]? = some x):RdP G ⟨h.b,h.o+j.toNat*1,none⟩ (.string x):=by
 have:=s.rd k x hx 0 _ rfl
 rw [hj]; simpa using this
theorem hpb (bits:Int):((perB bits:Nat):Int)=if (if (64:Int)<bits then 64 else bits) > 1 then (if (64:Int)<bits then 64 else bits) else 1:=by unfold perB; omega
theorem hprb (bits:Int):((prbB bits:Nat):Int)=max 1 (min ((perB bits*69 / 100:Nat):Int) 30):=by unfold prbB; omega
section
variable {s:ByteArray} {n k:Nat} {L L' f:List Y}
theorem st_idx (h0:0<n) (hn:n<500000000):(plcW s n k >>> 3).toNat<n:=by rw [shr3]; exact plc_lt s h0 hn k
theorem st_nz (h0:0<n) (hn:n<500000000):BitVec.ofInt 32 ((8*n:Nat):Int)≠0#32:=by
 intro e
 have:=congrArg BitVec.toNat e
 rw [BitVec.ofInt_natCast,BitVec.toNat_ofNat,Nat.mod_eq_of_lt (by omega)] at this
 simp at this; omega
theorem st_put {m:Nat} (hm:m=L.length) (e:L'=(setL s L k).set (plcW s m k >>> 3).toNat ((setL s L k).getD (plcW s m k >>> 3).toNat 0 ||| 1#8 <<< (plcW s m k &&& 7#32).toNat)):L'=setL s L (k+1):=by
 subst hm
 rw [e,shr3,and7]; rfl
theorem ma_head (h:((f.length:Int)<2∨((f.getD (f.length-1) 0).toNat:Int)=0)∨30<((f.getD (f.length-1) 0).toNat:Int)):mayB f s=true:=by
 unfold mayB
 rw [if_pos]
 rcases h with (h | h) | h
 ·exact .inl (by omega)
 ·exact .inr (.inl (BitVec.eq_of_toNat_eq (by show _=0; omega)))
 ·exact .inr (.inr (by omega))
theorem ma_in (h:(2≤(f.length:Int)∧¬ ((f.getD (f.length-1) 0).toNat:Int)=0)∧((f.getD (f.length-1) 0).toNat:Int)≤30):mayB f s=B (∀ j,j<(f.getD (f.length-1) 0).toNat→bitY (f.take (f.length-1)) (plcW s (f.length-1) j)=true):=by
 unfold mayB
 rw [if_neg]
 intro q
 rcases q with q | q | q
 ·omega
 ·exact h.1.2 (by rw [q]; rfl)
 ·omega
theorem ma_bit {p:W} {b:List Y}:((((b.getD (p >>> 3).toNat 0 >>> (p &&& 7#32).toNat) &&& 1#8).toNat:Int)=0)↔bitY b p=false:=by
 unfold bitY
 rw [shr3,and7,←bit_and (Nat.mod_lt _ (by decide))]
 constructor
 ·intro h; exact BitVec.eq_of_toNat_eq (Int.ofNat.inj h)
 ·intro h; rw [h]; rfl
theorem of8 {y:Y} (hk:k≤y.toNat):(BitVec.ofNat 8 k).toNat=k:=by rw [BitVec.toNat_ofNat]; have:=y.isLt; omega
theorem ma_lt {y:Y} (hk:k≤y.toNat) (c:((BitVec.ofNat 8 k).toNat:Int)<(y.toNat:Int)):k+1≤y.toNat:=by rw [of8 hk] at c; omega
theorem ma_dec {y:Y} (hk:k≤y.toNat) (c:((BitVec.ofNat 8 k).toNat:Int)<(y.toNat:Int)):y.toNat-(k+1)<y.toNat-k:=by rw [of8 hk] at c; omega
theorem ma_snoc {m:Nat} {b:List Y} (h:∀ j,j<k→bitY b (plcW s m j)=true) (c:((((b.getD (plcW s m k >>> 3).toNat 0 >>> (plcW s m k &&& 7#32).toNat) &&& 1#8).toNat:Int) == 0)=false):∀ j,j<k+1→bitY b (plcW s m j)=true:=fun j hj=>by
 by_cases e:j=k
 ·subst e
  cases hb:bitY b (plcW s m j) with
  | true=>rfl
  | false=>rw [beq_eq_false_iff_ne] at c; exact absurd (ma_bit.2 hb) c
 ·exact h j (by omega)
theorem ma_no (h:(2≤(f.length:Int)∧¬ ((f.getD (f.length-1) 0).toNat:Int)=0)∧((f.getD (f.length-1) 0).toNat:Int)≤30) (e:L=f.take (f.length-1)) (hk:k≤(f.getD (f.length-1) 0).toNat) (c:((BitVec.ofNat 8 k).toNat:Int)<((f.getD (f.length-1) 0).toNat:Int)) (c3:((((L.getD (plcW s L.length k >>> 3).toNat 0 >>> (plcW s L.length k &&& 7#32).toNat) &&& 1#8).toNat:Int)=0)):mayB f s=false:=by
 have el:L.length=f.length-1:=by rw [e,List.length_take]; omega
 rw [ma_in h]
 refine B_false fun q=>?_
 have:=ma_lt hk c
 have h1:=q k (by omega)
 rw [← e,←el,ma_bit.1 c3] at h1
 cases h1
theorem ma_yes (h:(2≤(f.length:Int)∧¬ ((f.getD (f.length-1) 0).toNat:Int)=0)∧((f.getD (f.length-1) 0).toNat:Int)≤30) (e:L=f.take (f.length-1)) (hk:k≤(f.getD (f.length-1) 0).toNat) (c:((f.getD (f.length-1) 0).toNat:Int)≤((BitVec.ofNat 8 k).toNat:Int)) (hb:∀ j,j<k→bitY L (plcW s L.length j)=true):mayB f s=true:=by
 have el:L.length=f.length-1:=by rw [e,List.length_take]; omega
 rw [ma_in h]
 refine B_true fun j hj=>?_
 rw [of8 hk] at c
 have h1:=hb j (by omega)
 rw [el] at h1; rw [← e]; exact h1
end
theorem numI {k:Nat} (h:k<18446744073709551616):(BitVec.ofInt 64 (k:Int)).toNat=k:=by rw [BitVec.ofInt_natCast,BitVec.toNat_ofNat]; exact Nat.mod_eq_of_lt h
section
variable {a b:ByteArray} {k:Nat}
theorem al_hit (hk:k<a.size∧k<b.size) (hj:∀ j,j<k→(yb a).getD j 0=(yb b).getD j 0) (hn:¬ (((yb a).getD k 0).toNat:Int)=(((yb b).getD k 0).toNat:Int)):tup [.int .i64 (k:Int)]=.int .i64 (comL (yb a) (yb b):Int):=by rw [bt_com hk hj hn]; rfl
theorem al_end (hk:k≤a.size∧k≤b.size) (hm:min a.size b.size≤k) (hj:∀ j,j<k→(yb a).getD j 0=(yb b).getD j 0):comL (yb a) (yb b)=min a.size b.size:=by
 have e:comL (yb a) (yb b)=k:=comL_at (by rw [yb_len]; omega) (by rw [yb_len]; omega) hj (by rw [yb_len,yb_len]; omega)
 omega
end
theorem nmx {L A:List Y} {n:BitVec 64} (e:L=A++numN n.toNat):L.length≤A.length+10:=by
 have:=num_len10 n.isLt
 rw [e,List.length_append]; omega
theorem nm0 {L:List Y} {n:BitVec 64} (e:L=[]++numN n.toNat):L.length≤10:=by have:=nmx e; simpa using this
theorem one4 {a b c d:Value} (h1:a.oneCell'=true) (h2:b.oneCell'=true) (h3:c.oneCell'=true) (h4:d.oneCell'=true):∀ u∈[a,b,c,d],u.oneCell'=true:=by
 intro u hu
 simp only [List.mem_cons,List.not_mem_nil,or_false] at hu
 rcases hu with rfl|rfl|rfl|rfl<;>assumption
theorem key_sz (e:Ent):(bstr (keyE e)).size=e.user.size+8:=by rw [bstr_len,keyE_len]
section
variable {last:List Y} {e:Ent} {O L1 L2 L3 L4 L5 L6:List Y} {s:ByteArray}
theorem ad_fin {k:Nat} {anew:Bool} (hu:e.user.size≤10000000) (hv:e.value.size≤10000000) (hk:k=comB last (keyE e) anew) (h1:L1=[]++numN (BitVec.ofInt 64 (k:Int)).toNat) (h2:L2=L1++numN (BitVec.ofInt 64 (((bstr (keyE e)).size:Int)-(k:Int))).toNat) (h3:L3=L2++numN (BitVec.ofInt 64 (e.value.size:Int)).toNat)
  (h4:L4=O++L3) (h5:L5=L4++yb (bstr ((yb (bstr (keyE e))).drop k))) (h6:L6=L5++yb e.value):L6=O++entB last anew e:=by
 have hl:=comB_le last (keyE e) anew
 have hl2:=keyE_len e
 have hs:=key_sz e
 rw [show ((bstr (keyE e)).size:Int)-(k:Int)=(((bstr (keyE e)).size-k:Nat):Int) by omega] at h2
 rw [numI (by omega)] at h1 h2 h3
 rw [h6,h5,h4,h3,h2,h1,yb_bstr,yb_bstr]
 unfold entB
 rw [← hk,hs,hl2]
 simp only [List.nil_append,List.append_assoc]
theorem com_new {last key:List Y}:comB last key true=0:=rfl
theorem com_old {last key:List Y}:comB last key false=comL last key:=rfl
end
section
variable {l:List Ent} {every:Int} {k:Nat}
theorem bu_c:(decide (every<1)||decide (every > 1024) || !risesE l||l.any (fun e => !rightE e))=true↔(every<1∨1024<every∨risesE l=false∨∃ e∈l,rightE e=false):=by
 simp only [Bool.or_eq_true,decide_eq_true_eq,Bool.not_eq_true',List.any_eq_true,gt_iff_lt,or_assoc]
theorem bu_arg (h:(decide (every<1)||decide (every > 1024) || !risesE l||l.any (fun e => !rightE e))=true):([],1)=buildB l every:=(buildB_arg (bu_c.1 h)).symm
theorem bu_sz (h:(decide (every<1)||decide (every > 1024) || !risesE l||l.any (fun e => !rightE e))=false):(1≤every∧every≤1024)∧∀ e∈l,e.user.size≤1024∧e.value.size≤65536:=by
 have h2:¬ _:=fun q=>by rw [bu_c.2 q] at h; cases h
 refine ⟨⟨by apply Int.not_lt.1; exact fun q=>h2 (.inl q),by apply Int.not_lt.1; exact fun q=>h2 (.inr (.inl q))⟩,fun e he=>?_⟩
 have hr:rightE e=true:=by
  cases q:rightE e with
  | true=>rfl
  | false=>exact absurd (.inr (.inr (.inr ⟨e,he,q⟩))) h2
 simp only [rightE,Bool.and_eq_true,decide_eq_true_eq] at hr
 omega
theorem bu_long1 (h:(decide (every<1)||decide (every > 1024) || !risesE l||l.any (fun e => !rightE e))=false) (hk:k<l.length) (h1:1048576<(outB every.toNat l (k+1)).length):([],4)=buildB l every :=
 (buildB_long (fun q=>by rw [bu_c.2 q] at h; cases h) (.inl ⟨k,hk,h1⟩)).symm
theorem bu_long2 (h:(decide (every<1)||decide (every > 1024) || !risesE l||l.any (fun e => !rightE e))=false) (h1:1048576<(blkL every.toNat l).length):([],4)=buildB l every :=
 (buildB_long (fun q=>by rw [bu_c.2 q] at h; cases h) (.inr h1)).symm
theorem bu_ok (h:(decide (every<1)||decide (every > 1024) || !risesE l||l.any (fun e => !rightE e))=false) (h1:∀ j,j<l.length→(outB every.toNat l (j+1)).length≤1048576) (h2:(blkL every.toNat l).length≤1048576):(blkL every.toNat l,0)=buildB l every :=
 (buildB_ok (fun q=>by rw [bu_c.2 q] at h; cases h) (fun q=>by
  rcases q with ⟨j,hj,q⟩ | q
  ·have:=h1 j hj; omega
  ·omega)).symm
theorem bu_snoc {n:Nat} (h:∀ j,j<k→(outB n l (j+1)).length≤1048576) (c:(outB n l (k+1)).length≤1048576):∀ j,j<k+1→(outB n l (j+1)).length≤1048576:=fun j hj=>by
 by_cases e:j=k
 ·subst e; exact c
 ·exact h j (by omega)
theorem out_bd {n:Nat} (hn:n<18446744073709551616) (hl:l.length<18446744073709551616) (h:∀ j,j<k→(outB n l (j+1)).length≤1048576):(outB n l k).length≤1048576:=by
 cases k with
 | zero =>
  have:=num_len10 hn
  have:=num_len10 hl
  unfold outB; rw [List.length_append]; omega
 | succ k=>exact h k (by omega)
theorem last_bd (h:∀ e∈l,e.user.size≤1024∧e.value.size≤65536) (k:Nat):(bstr (lastB l k)).size≤1032:=by
 cases k with
 | zero=>rw [bstr_len]; exact Nat.zero_le _
 | succ k =>
  rw [bstr_len,lastB,keyE_len]
  by_cases hk:k<l.length
  ·have:=h (l.getD k Ent.zero) (by rw [List.getD_eq_getElem?_getD,List.getElem?_eq_getElem hk]; exact List.getElem_mem hk)
   omega
  ·rw [List.getD_eq_getElem?_getD,List.getElem?_eq_none (by omega)]
   show 0+8≤1032; decide
theorem bnil:ByteArray.empty=bstr []:=bstr_ext rfl
theorem bo_zero {n:Nat} {x y:Int} (h1:x=n) (h2:y=l.length) (b1:n<18446744073709551616) (b2:l.length<18446744073709551616) : []++numN (BitVec.ofInt 64 x).toNat++numN (BitVec.ofInt 64 y).toNat=outB n l 0:=by
 subst h1; subst h2
 rw [numI b1,numI b2]; rfl
theorem last_le {e:Ent} (hx:l[k]? = some e):lastB l (k+1)=keyE e:=by show keyE (l.getD k Ent.zero)=_; rw [ri_at hx]
theorem bo_step {n:Nat} {e:Ent} {L:List Y} {last:ByteArray} {anew:Bool} (hx:l[k]? = some e) (el:last=bstr (lastB l k)) (ea:anew=(((k%n:Nat):Int) == 0)) (eL:L=outB n l k++entB (yb last) anew e):L=outB n l (k+1):=by
 have:(((k%n:Nat):Int) == 0)=(k%n == 0):=by
  by_cases h:k%n=0
  ·rw [h]; rfl
  ·have:¬ ((k%n:Nat):Int)=0:=by omega
   rw [beq_eq_false_iff_ne.2 this,beq_eq_false_iff_ne.2 h]
 rw [eL,el,ea,this,yb_bstr,outB,ri_at hx]
theorem plc_step {n:Nat} {anew:Bool} {P P' O:List Y} (ea:anew=(((k%n:Nat):Int) == 0)) (eO:O=outB n l k) (eP:P=plcB n l k) (e:P'=if anew=true then P++fixL (BitVec.ofInt 64 (O.length:Int)) 4 else P):P'=plcB n l (k+1):=by
 rw [e,plcB,eP,eO,ea]
 by_cases h:k%n=0
 ·rw [if_pos h,h]; rfl
 ·rw [if_neg h,if_neg]
  intro q
  rw [beq_iff_eq] at q; omega
theorem rst_step {n rs:Nat} {anew:Bool} (ea:anew=(((k%n:Nat):Int) == 0)) (er:rs=rstB n k):(if anew=true then rs+1 else rs)=rstB n (k+1):=by
 rw [er,rstB,ea]
 by_cases h:k%n=0
 ·rw [if_pos h,h]; rfl
 ·rw [if_neg h,if_neg]
  intro q
  rw [beq_iff_eq] at q; omega
theorem bu_all {n rs:Nat} {O P L1 L2 L3:List Y} (eO:O=outB n l l.length) (eP:P=plcB n l l.length) (er:rs=rstB n l.length) (h1:L1=O++P) (h2:L2=[]++fixL (BitVec.ofInt 64 (rs:Int)) 4) (h3:L3=L1++L2):L3=blkL n l:=by
 rw [h3,h2,h1,eO,eP,er]; rfl
end
section
variable {s:ByteArray} {L:List Y}
theorem tk_short (h:(s.size:Int)-8<0):takeE (yb s)=(Ent.zero,80):=by unfold takeE; rw [if_pos (by rw [yb_len]; omega)]
theorem tk_ent (e:L=yb (bstr ((yb s).drop (s.size-8)))):(⟨bstr ((yb s).take (s.size-8)),unfK L 8 >>> 8,(unfK L 8).setWidth 8,ByteArray.empty⟩ : Ent)=entK (yb s):=by
 unfold entK keyN; rw [e,yb_bstr,yb_len]
theorem tk_bad (h:¬ (s.size:Int)-8<0) (c:rightE (entK (yb s))=false):takeE (yb s)=(Ent.zero,80):=by unfold takeE; rw [if_neg (by rw [yb_len]; omega),c]; rfl
theorem tk_bad2 (h:0≤(s.size:Int)-8) (c:rightE ⟨bstr ((yb s).take (s.size-8)),unfK (yb (bstr ((yb s).drop (s.size-8)))) 8 >>> 8,(unfK (yb (bstr ((yb s).drop (s.size-8)))) 8).setWidth 8,ByteArray.empty⟩=false):takeE (yb s)=(Ent.zero,80):=by
 rw [tk_ent rfl] at c
 exact tk_bad (by omega) c
theorem tk_good (h:¬ (s.size:Int)-8<0) (c:rightE (entK (yb s))=true):takeE (yb s)=(entK (yb s),0):=by unfold takeE; rw [if_neg (by rw [yb_len]; omega),c]; rfl
theorem tk_good2 (h:0≤(s.size:Int)-8) (c:rightE ⟨bstr ((yb s).take (s.size-8)),unfK (yb (bstr ((yb s).drop (s.size-8)))) 8 >>> 8,(unfK (yb (bstr ((yb s).drop (s.size-8)))) 8).setWidth 8,ByteArray.empty⟩=true):takeE (yb s)=(⟨bstr ((yb s).take (s.size-8)),unfK (yb (bstr ((yb s).drop (s.size-8)))) 8 >>> 8,(unfK (yb (bstr ((yb s).drop (s.size-8)))) 8).setWidth 8,ByteArray.empty⟩,0):=by
 rw [tk_ent rfl] at c ⊢
 exact tk_good (by omega) c
end
section
variable {xs L:List Y} {k n:Nat} {y:Y} {e:Int}
theorem tx_byte (hk:k<xs.length) (h:rdByte ⟨xs.drop k,0⟩=(y,⟨L,e⟩)):y=xs.getD k 0∧L=xs.drop (k+1)∧e=0:=by
 unfold rdByte at h
 rw [if_neg (by simp),if_neg (by simp only [List.length_drop]; omega)] at h
 simp only [Prod.mk.injEq,Rd'.mk.injEq] at h
 obtain ⟨h1,h2,h3⟩:=h
 refine ⟨?_,?_,h3.symm⟩
 ·rw [← h1,List.getD_eq_getElem?_getD,List.getElem?_drop,Nat.add_zero,←List.getD_eq_getElem?_getD]
 rw [← h2,List.drop_drop]
theorem tx_back (y:Y):(y.setWidth 64).setWidth 8=y:=by
 apply BitVec.eq_of_toNat_eq
 rw [BitVec.toNat_setWidth,BitVec.toNat_setWidth]
 have:=y.isLt; omega
def txM (xs:List Y) (n k:Nat):List Y:=xs.take k++List.replicate (n-k) 0#8
theorem tx_step (hk:k<n) (hn:n≤xs.length):(txM xs n k).set k (xs.getD k 0)=txM xs n (k+1):=by
 unfold txM
 have e1:(xs.take k).length=k:=by rw [List.length_take]; omega
 rw [List.set_append_right _ _ (by omega),e1,Nat.sub_self]
 obtain ⟨m,hm⟩ : ∃ m,n-k=m+1:=⟨n-k-1,by omega⟩
 rw [hm,List.replicate_succ,List.set_cons_zero,show n-(k+1)=m by omega,List.take_add_one,List.getElem?_eq_getElem (by omega),List.append_assoc,List.getD_eq_getElem?_getD,List.getElem?_eq_getElem (by omega)]
 rfl
theorem tx_st {j:Nat} {z:Y} (hk:k<n) (hn:n≤xs.length) (hj:j=k) (hz:z=xs.getD k 0):(txM xs n k).set j z=txM xs n (k+1):=by subst hj; subst hz; exact tx_step hk hn
theorem tx_all:txM xs n n=xs.take n:=by unfold txM; rw [Nat.sub_self]; simp
theorem tx_zero:txM xs n 0=List.replicate n 0#8:=by simp [txM]
end
theorem Ent.set3 (e:Ent) (v:ByteArray):e.cells.set 3 (.string v)=({ e with value:=v }:Ent).cells:=rfl
def takeV (last xs:List Y):Option (Ent×List Y×List Y):=entP last (fun e key r=>some (e,key,r)) xs
theorem pNum_bind {α β:Type} {k:Nat→List Y→Option α} {k':Nat→List Y→Option β} {f:β→Option α} (h:∀ n r,k n r=(k' n r).bind f) (xs:List Y):pNum k xs=(pNum k' xs).bind f:=by
 unfold pNum
 split
 ·exact h _ _
 ·rfl
theorem entP_bind {α:Type} (last:List Y) (k:Ent→List Y→List Y→Option α) (xs:List Y):entP last k xs=(takeV last xs).bind fun p=>k p.1 p.2.1 p.2.2:=by
 unfold takeV entP
 refine pNum_bind (fun sh r=>pNum_bind (fun rest r=>pNum_bind (fun v r=>?_) r) r) xs
 split
 ·split<;>rfl
 rfl
section
variable {last:ByteArray} {xs L1 L2 L3:List Y} {n1 n2 n3:Nat} {e1 e2 e3:Int}
theorem tv_num (h1:rdNum ⟨xs,0⟩=(n1,⟨L1,e1⟩)) (h2:rdNum ⟨L1,e1⟩=(n2,⟨L2,e2⟩)) (h3:rdNum ⟨L2,e2⟩=(n3,⟨L3,e3⟩)) :
  takeV (yb last) xs=if e3=0∧n1≤last.size∧n2≤L3.length∧n3≤L3.length-n2 then
   (if (takeE ((yb last).take n1++L3.take n2)).2=0 then some ({ (takeE ((yb last).take n1++L3.take n2)).1 with value:=bstr ((L3.drop n2).take n3) },(yb last).take n1++L3.take n2,(L3.drop n2).drop n3) else none) else none:=by
 have h:=((Tk.start (b:=xs) (k:=pNum fun sh=>pNum fun rest=>pNum fun v r =>
  if sh≤(yb last).length∧rest≤r.length∧v≤r.length-rest then
   (if (takeE ((yb last).take sh++r.take rest)).2=0 then some ({ (takeE ((yb last).take sh++r.take rest)).1 with value:=bstr ((r.drop rest).take v) },(yb last).take sh++r.take rest,(r.drop rest).drop v) else none)
  else none)).numE h1).numE h2 |>.numE h3
 rcases h with ⟨q1,_,q3⟩ | ⟨q1,q2⟩
 ·simp only at q1
  refine (show takeV (yb last) xs=_ from q3).trans ?_
  dsimp only
  rw [yb_len]
  by_cases c:n1≤last.size∧n2≤L3.length∧n3≤L3.length-n2
  ·rw [if_pos c,if_pos (show e3=0∧n1≤last.size∧n2≤L3.length∧n3≤L3.length-n2 from ⟨q1,c⟩)]
  rw [if_neg c,if_neg (fun q=>c q.2)]
 refine (show takeV (yb last) xs=none from q1).trans ?_
 rw [if_neg]
 intro q
 rcases q2 with q2 | q2
 ·cases q2
 exact q2 q.1
end
section
variable {xs L1 L2 rest:List Y} {n1 n2:Nat} {e1 e2:Int} {l acc:List Ent}
theorem rb_num (h1:rdNum ⟨xs,0⟩=(n1,⟨L1,e1⟩)) (h2:rdNum ⟨L1,e1⟩=(n2,⟨L2,e2⟩)):readB xs=if e2=0∧n1≤1024 then (match (entsP n2 [] [] L2).bind fun l=>if buildB l n1=(xs,0) then some l else none with
  | some l=>((l,0):List Ent×Int)
  | none=>([],100)) else ([],100):=by
 have h:=(Tk.start (b:=xs) (k:=pNum fun every=>pNum fun n r=>if every≤1024 then (entsP n [] [] r).bind fun l=>if buildB l every=(xs,0) then some l else none else none)).numE h1 |>.numE h2
 unfold readB
 rcases h with ⟨q1,_,q3⟩ | ⟨q1,q2⟩
 ·simp only at q1
  rw [q3]
  dsimp only
  by_cases c:n1≤1024
  ·rw [if_pos c,if_pos ⟨q1,c⟩]
   try (generalize ((entsP n2 [] [] L2).bind fun l=>if buildB l n1=(xs,0) then some l else none)=o; cases o<;>rfl)
  ·rw [if_neg c,if_neg (fun q=>c q.2)]
 ·rw [q1,if_neg]
  intro q
  rcases q2 with q2 | q2
  ·cases q2
  ·exact q2 q.1
theorem rb_head (h1:rdNum ⟨xs,0⟩=(n1,⟨L1,e1⟩)) (h2:rdNum ⟨L1,e1⟩=(n2,⟨L2,e2⟩)) (c:¬ e2=0∨1024<(n1:Int)):([],100)=readB xs:=by
 rw [rb_num h1 h2,if_neg]; intro q; rcases c with c | c
 ·exact c q.1
 ·omega
theorem rb_lost (h1:rdNum ⟨xs,0⟩=(n1,⟨L1,e1⟩)) (h2:rdNum ⟨L1,e1⟩=(n2,⟨L2,e2⟩)) (c:e2=0∧(n1:Int)≤1024) (h:entsP n2 [] [] L2=none):([],100)=readB xs:=by
 rw [rb_num h1 h2,if_pos ⟨c.1,by omega⟩,h]; rfl
theorem rb_bad (h1:rdNum ⟨xs,0⟩=(n1,⟨L1,e1⟩)) (h2:rdNum ⟨L1,e1⟩=(n2,⟨L2,e2⟩)) (c:e2=0∧(n1:Int)≤1024) (h:entsP n2 [] [] L2=some l) {L:List Y} {er:Int} (hb:(L,er)=buildB l n1) (hn:¬ er=0∨¬ L=xs):([],100)=readB xs:=by
 rw [rb_num h1 h2,if_pos ⟨c.1,by omega⟩,h,Option.bind_some,←hb,if_neg]
 intro q
 simp only [Prod.mk.injEq] at q
 rcases hn with hn | hn
 ·exact hn q.2
 ·exact hn q.1
theorem rb_good (h1:rdNum ⟨xs,0⟩=(n1,⟨L1,e1⟩)) (h2:rdNum ⟨L1,e1⟩=(n2,⟨L2,e2⟩)) (c:e2=0∧(n1:Int)≤1024) (h:entsP n2 [] [] L2=some l) {L:List Y} {er:Int} (hb:(L,er)=buildB l n1) (h0:er=0) (hx:L=xs):(l,0)=readB xs:=by
 rw [rb_num h1 h2,if_pos ⟨c.1,by omega⟩,h,Option.bind_some,←hb,h0,hx,if_pos rfl]
theorem yb_nil:yb ByteArray.empty=[]:=by rw [bnil,yb_bstr]
theorem bld_len {l:List Ent} {every er:Int} {L:List Y} (h:(L,er)=buildB l every):L.length≤1048576:=by
 unfold buildB at h
 split at h
 ·simp only [Prod.mk.injEq] at h; rw [h.1]; exact Nat.zero_le _
 ·split at h
  ·simp only [Prod.mk.injEq] at h; rw [h.1]; exact Nat.zero_le _
  ·rename_i h2
   simp only [Prod.mk.injEq] at h
   rw [h.1]
   have h3:¬ _:=fun q=>h2 (B_true q)
   exact Nat.not_lt.1 fun q=>h3 (.inr q)
theorem en_some {n:Nat} {last:List Y} {E:Ent} {key r:List Y} (hn:0<n) (h:takeV last rest=some (E,key,r)):entsP n last acc rest=entsP (n-1) key (acc++[E]) r:=by
 obtain ⟨m,rfl⟩ : ∃ m,n=m+1:=⟨n-1,by omega⟩
 rw [entsP,entP_bind,h]; rfl
theorem en_none {n:Nat} {last:List Y} (hn:0<n) (h:takeV last rest=none):entsP n last acc rest=none:=by
 obtain ⟨m,rfl⟩ : ∃ m,n=m+1:=⟨n-1,by omega⟩
 rw [entsP,entP_bind,h]; rfl
theorem tv_len {last:List Y} {E:Ent} {key r:List Y} (h:takeV last rest=some (E,key,r)):r.length+1≤rest.length∧key.length+r.length≤last.length+rest.length:=by
 unfold takeV entP at h
 obtain ⟨a,r1,rfl,ha,h⟩:=num_inv h
 obtain ⟨b,r2,rfl,hb,h⟩:=num_inv h
 obtain ⟨c,r3,rfl,hc,h⟩:=num_inv h
 split at h
 ·split at h
  ·simp only [Option.some.injEq,Prod.mk.injEq] at h
   obtain ⟨_,h2,h3⟩:=h
   have:=num_pos a
   rw [← h2,←h3]
   simp only [List.length_append,List.length_drop,List.length_take]; omega
  ·cases h
 ·cases h
end
section
variable {P:Program} {n:Fm} {l:List Oper} {K K':Env→PM→Mem→Prop} {mc:Md}
theorem Sat.nil {G:PM} {w:World} (h:∀ b o,G b=some o→w.heap[b]? = some o):Sat G [] w:=⟨h,by simp,by simp [keys],by simp [keys]⟩
theorem Wo.unlay {j:Nat} {ρ:Env} {G:PM} {μ:Mem} {oi oj:Oper} {c:Bool} {v:Value} (hK:KOk K) (hoj:nth l j=some oj) (hap:Apart l oi oj) (hd:dstOk n oi.dst)
  (H:Wo true mc P n l K [j] (lay ρ oi.dst c v) G μ):Wo true mc P n l (fun ρ' G' μ'=>PM.le G G'∧(∃ c' v',ρ'=lay ρ oj.dst c' v')∧K (lay ρ' oi.dst c v) G' μ') [j] ρ G μ:=by
 have h0:∀ {ρ G μ},Wo true mc P n l K [] ρ G μ→K ρ G μ:=fun h=>by cases h with | nil h=>exact h
 have sw:∀ {c':Bool} {v':Value} {G':PM} {μ':Mem},Wo true mc P n l K [] (lay (lay ρ oi.dst c v) oj.dst c' v') G' μ'→K (lay (lay ρ oj.dst c' v') oi.dst c v) G' μ':=fun h=>hK.1 _ _ _ _ (look_swap hap.dd) (h0 h)
 cases H with
 | @pure _ _ _ _ _ o cj vj ho hk hg hr h =>
  obtain rfl:oj=o:=Option.some.inj (hoj.symm.trans ho)
  refine .pure hoj hk (gd_drop hap.ij hg) (fun hc a w ha=>drop_put hd hap.sj hap.ij (Φ:=fun s=>s.run P w=.ok (.value vj) w) (fun a ha=>hr hc a w ha) a ha) (.nil ⟨PM.le.refl G,⟨_,_,rfl⟩,sw h⟩)
 | @read _ _ _ _ _ o cj vj ho hk hg hr h =>
  obtain rfl:oj=o:=Option.some.inj (hoj.symm.trans ho)
  refine .read hoj hk (gd_drop hap.ij hg) (fun hc a w ha hs=>drop_put hd hap.sj hap.ij (Φ:=fun s=>s.run P w=.ok (.value vj) w) (fun a ha=>hr hc a w ha hs) a ha) (.nil ⟨PM.le.refl G,⟨_,_,rfl⟩,sw h⟩)
 | @make _ _ _ _ _ o ob mkv ho hk hg hr h =>
  obtain rfl:oj=o:=Option.some.inj (hoj.symm.trans ho)
  exact .make hoj hk hg hr fun b=>.nil ⟨PM.le.refl G,⟨_,_,rfl⟩,sw (h b)⟩
 | @box _ _ _ _ _ o ob mkv ho hk hg hr h =>
  obtain rfl:oj=o:=Option.some.inj (hoj.symm.trans ho)
  exact .box hoj hk (gd_drop hap.ij hg) (fun a w ha=>drop_put hd hap.sj hap.ij (Φ:=fun s=>s.run P w=.ok (.value (mkv w.heap.size)) (w.alloc ob)) (fun a ha=>hr a w ha) a ha) fun b=>.nil ⟨PM.le.refl G,⟨_,_,rfl⟩,sw (h b)⟩
 | @callv _ _ _ _ _ o cj f args vj Gp ho hk hg hr hf h =>
  obtain rfl:oj=o:=Option.some.inj (hoj.symm.trans ho)
  exact .callv hoj hk (gd_drop hap.ij hg) (fun hc a w ha=>drop_put hd hap.sj hap.ij (Φ:=fun s=>s.run P w=.ok (.enter f args) w) (fun a ha=>hr hc a w ha) a ha) hf (.nil ⟨PM.le.refl G,⟨_,_,rfl⟩,sw h⟩)
 | @call _ _ _ _ _ o f args post ho hk hg hr hf h =>
  obtain rfl:oj=o:=Option.some.inj (hoj.symm.trans ho)
  exact .call hoj hk (gd_drop hap.ij hg) (fun a w ha=>drop_put hd hap.sj hap.ij (Φ:=fun s=>s.run P w=.ok (.enter f args) w) (fun a ha=>hr a w ha) a ha) hf fun v' G' μ' hle hp=>.nil ⟨hle,⟨_,_,rfl⟩,sw (h v' G' μ' hle hp)⟩
 | callg hdf _ _ _ _ _=>cases hdf
 | callp hdf _ _ _ _ _ _ _=>cases hdf
 | pan hdf _ _ _ _=>cases hdf
 | @fresh _ _ _ _ _ o μ₁ μ₂ post ho hk hg hp hr hw h =>
  obtain rfl:oj=o:=Option.some.inj (hoj.symm.trans ho)
  exact .fresh hoj hk hg hp (fun a w ha hs=>drop_put hd hap.sj hap.ij (Φ:=fun s=>∃ v w' G' μa μb,s.run P w=.ok (.value v) w'∧Tr G (keys μ₁) w G' (μa++μb) w'∧post G' μa μb v) (fun a ha=>hr a w ha hs) a ha) hw fun v' G' μa μb hle hq=>.nil ⟨hle,⟨_,_,rfl⟩,sw (h v' G' μa μb hle hq)⟩
 | @act _ _ _ _ _ o μ₁ μ₂ post ho hk hg hp hr h =>
  obtain rfl:oj=o:=Option.some.inj (hoj.symm.trans ho)
  exact .act hoj hk (gd_drop hap.ij hg) hp (fun a w ha hs=>drop_put hd hap.sj hap.ij (Φ:=fun s=>(∃ v w' G' μ',(s.run P w=.ok (.value v) w'∨s.run P w=.ok .skip w'∧v=undef)∧Tr G (keys μ₁) w G' μ' w'∧post G' μ' v) ∨
    (∃ f args,s.run P w=.ok (.enter f args) w∧Ct P f args G μ₁ post)) (fun a ha=>hr a w ha hs) a ha) fun v' G' μ' hle hq=>.nil ⟨hle,⟨_,_,rfl⟩,sw (h v' G' μ' hle hq)⟩
def oneP (mc:Md) (l:List Oper) (listed:Array Bool) (i:Nat):Bool :=
 (rdy l listed).contains i&&match nth l i with
 | some oi=>(kindOf mc oi.op == .read)&&(List.range l.length).all fun j=>listed.getD j true||j == i||match nth l j with
  | some oj=>dep l l.length j i||oi.apart l.toArray oj
  | none=>false
 | none=>false
def PRd (P:Program) (n:Fm) (l:List Oper) (o:Oper) (c:Bool) (v:Value) (ρ:Env) (G:PM):Prop :=
 Gd l ρ o.guard c∧(c=true→∀ a w,Ag n ρ a→(∀ b u,G b=some u→w.heap[b]? = some u)→(execOp a.eval o).run P w=.ok (.value v) w)
def lastOk (l:List Oper) (j:Nat):Bool:=(List.range l.length).all fun i=>i == j||dep l l.length j i
def Wp (mc:Md) (P:Program) (n:Fm) (l:List Oper) (K:Env→PM→Mem→Prop):Nat→Array Bool→Env→PM→Mem→Prop
 | 0,listed,ρ,G,μ=>rdy l listed=[]∧K ρ G μ
 | m+1,listed,ρ,G,μ=>(∃ i,oneOk mc l listed i=true∧Wo true mc P n l (fun ρ' G' μ'=>Wp mc P n l K m (listed.setIfInBounds i true) ρ' G' μ') [i] ρ G μ) ∨
   (rdy l listed≠[]∧∀ j∈rdy l listed,Wo true mc P n l (fun ρ' G' μ'=>Wp mc P n l K m (listed.setIfInBounds j true) ρ' G' μ') [j] ρ G μ) ∨
   (∃ i o c v,oneP mc l listed i=true∧nth l i=some o∧PRd P n l o c v ρ G∧Wp mc P n l K m (listed.setIfInBounds i true) (lay ρ o.dst c v) G μ) ∨
   (∃ j,rdy l listed=[j]∧lastOk l j=true∧Wo false mc P n l (fun ρ' G' μ'=>Wp mc P n l K m (listed.setIfInBounds j true) ρ' G' μ') [j] ρ G μ)
theorem PRd.congr {o:Oper} {c:Bool} {v:Value} {ρ ρ':Env} {G:PM} (h:PRd P n l o c v ρ G) (e:∀ i,look ρ i=look ρ' i):PRd P n l o c v ρ' G :=
 ⟨h.1.congr fun _ t _ _ _=>e t,fun hc a w ha hs=>h.2 hc a w (ha.congr e) hs⟩
theorem Wp.kok (hK:KOk K):∀ (m:Nat) (listed:Array Bool),KOk (fun ρ G μ=>Wp mc P n l K m listed ρ G μ)
 | 0,listed=>⟨fun ρ ρ' G μ e h=>⟨h.1,hK.1 _ _ _ _ e h.2⟩,fun ρ G μ μ' p h=>⟨h.1,hK.2 _ _ _ _ p h.2⟩⟩
 | m+1,listed=>by
  refine ⟨fun ρ ρ' G μ e h=>?_,fun ρ G μ μ' p h=>?_⟩
  ·rcases h with ⟨i,h1,h2⟩ | ⟨h1,h2⟩ | ⟨i,o,c,v,h1,h2,h3,h4⟩ | ⟨j,h1,h2,h3⟩
   ·exact .inl ⟨i,h1,h2.congr (Wp.kok hK m _) e⟩
   ·exact .inr (.inl ⟨h1,fun j hj=>(h2 j hj).congr (Wp.kok hK m _) e⟩)
   ·exact .inr (.inr (.inl ⟨i,o,c,v,h1,h2,h3.congr e,(Wp.kok hK m _).1 _ _ _ _ (look_lay_congr e _ _ _) h4⟩))
   exact .inr (.inr (.inr ⟨j,h1,h2,h3.congr (Wp.kok hK m _) e⟩))
  rcases h with ⟨i,h1,h2⟩ | ⟨h1,h2⟩ | ⟨i,o,c,v,h1,h2,h3,h4⟩ | ⟨j,h1,h2,h3⟩
  ·exact .inl ⟨i,h1,h2.perm (Wp.kok hK m _) p⟩
  ·exact .inr (.inl ⟨h1,fun j hj=>(h2 j hj).perm (Wp.kok hK m _) p⟩)
  ·exact .inr (.inr (.inl ⟨i,o,c,v,h1,h2,h3,(Wp.kok hK m _).2 _ _ _ _ p h4⟩))
  exact .inr (.inr (.inr ⟨j,h1,h2,h3.perm (Wp.kok hK m _) p⟩))
theorem oneP_mono {listed:Array Bool} {i j:Nat} (hne:i≠j) (h:oneP mc l listed i=true):oneP mc l (listed.setIfInBounds j true) i=true:=by
 unfold oneP at h ⊢
 simp only [Bool.and_eq_true] at h ⊢
 obtain ⟨h1,h2⟩:=h
 refine ⟨by simpa using rdy_mono (by simpa using h1) hne,?_⟩
 cases hi:nth l i with
 | none=>rw [hi] at h2; cases h2
 | some oi =>
  simp only [hi,Bool.and_eq_true] at h2 ⊢
  refine ⟨h2.1,List.all_eq_true.2 fun k hk=>?_⟩
  have h3:=List.all_eq_true.1 h2.2 k hk
  by_cases e:j=k
  ·subst e
   have:(listed.setIfInBounds j true).getD j true=true:=by
    rcases Nat.lt_or_ge j listed.size with h' | h'<;>simp [h']
   rw [this]; rfl
  rw [getD_set_ne true e]; exact h3
theorem lastNo {listed:Array Bool} {i j:Nat} (hc:Closed l listed) (hi:listed.getD i true=false) (hil:i<l.length) (hj:j∈rdy l listed) (hne:i≠j) (h:lastOk l j=true):False:=by
 have h1:=List.all_eq_true.1 h i (List.mem_range.2 hil)
 rw [not_dep hc hi hj] at h1
 simp [hne] at h1
theorem Wp.front (hK:KOk K) (hs:Region.noSelect l.toArray=true) (hmk:∀ j oj,nth l j=some oj→kindOf mc oj.op=.make→Makes P oj) (hds:∀ j oj,nth l j=some oj→dstOk n oj.dst) :
  ∀ (m:Nat) (listed:Array Bool) (j:Nat) (ρ:Env) (G:PM) (μ:Mem),unlN listed=m+1→Closed l listed→j∈rdy l listed→Wp mc P n l K (m+1) listed ρ G μ→Wo true mc P n l (fun ρ' G' μ'=>Wp mc P n l K m (listed.setIfInBounds j true) ρ' G' μ') [j] ρ G μ∨(lastOk l j=true∧Wo false mc P n l (fun ρ' G' μ'=>Wp mc P n l K m (listed.setIfInBounds j true) ρ' G' μ') [j] ρ G μ)
 | m,listed,j,ρ,G,μ,hu,hcl,hj,H=>by
  rcases H with ⟨i,h1,h2⟩ | ⟨_,h2⟩ | ⟨i,oi,c,v,h1,hoi,h2,h3⟩ | ⟨j',h1,h2,h3⟩
  ·by_cases e:j=i
   ·subst e; exact .inl h2
   have hi:i∈rdy l listed:=by unfold oneOk at h1; simp only [Bool.and_eq_true] at h1; simpa using h1.1
   have hj':=rdy_mono hj e
   have hiun:=(rdy_iff.1 hi).1
   have hjun:=(rdy_iff.1 hj).1
   have hu1:=unlN_set hiun
   have hjun':(listed.setIfInBounds i true).getD j true=false:=by rw [getD_set_ne true (Ne.symm e)]; exact hjun
   have hp:=unlN_pos hjun'
   obtain ⟨m',rfl⟩ : ∃ m',m=m'+1:=⟨m-1,by omega⟩
   obtain ⟨_,oi,hoi,_⟩:=rdy_iff.1 hi
   have hil:i<l.length:=by
    have:=(nth_eq l i).trans hoi
    exact (by simpa using (Array.getElem?_eq_some_iff.1 this).1)
   obtain ⟨_,oj,hoj,_⟩:=rdy_iff.1 hj
   have h3:Wo true mc P n l (fun ρ' G' μ'=>Wp mc P n l K m' ((listed.setIfInBounds i true).setIfInBounds j true) ρ' G' μ') (i :: [j]) ρ G μ :=
    h2.bind1 fun ρ' G' μ' h=>(Wp.front hK hs hmk hds m' (listed.setIfInBounds i true) j ρ' G' μ' (by omega) (hcl.set hi) hj' h).resolve_right fun hl=>lastNo hcl hiun hil hj (fun q=>e q.symm) hl.1
   have hnoe:=not_dep hcl hiun hj l.length
   have hjl:j<l.length:=by
    have:=(nth_eq l j).trans hoj
    exact (by simpa using (Array.getElem?_eq_some_iff.1 this).1)
   have h1':=h1
   unfold oneOk at h1'
   simp only [Bool.and_eq_true,hoi] at h1'
   obtain ⟨_,hki,hall⟩:=h1'
   have h4:=List.all_eq_true.1 hall j (List.mem_range.2 hjl)
   simp only [hjun,hoj,hnoe,Bool.false_or,Bool.or_eq_true,beq_iff_eq,e,false_or,Bool.and_eq_true,bne_iff_ne] at h4
   simp only [Bool.or_eq_true,beq_iff_eq] at hki
   have hkk:kindOf mc oi.op=.pure∨(kindOf mc oi.op=.read∧kindOf mc oj.op≠.act)∨kindOf mc oj.op=.make:=by
    rcases hki with h5 | h5
    ·exact .inl h5
    rcases h4.2 with h6 | h6
    ·exact .inl h6
    exact .inr (.inl ⟨h5,h6⟩)
   have h5:=Wo.swap (Wp.kok hK m' _) rfl hoi hoj (apart_of hs hoi hoj h4.1) hds (hmk j oj hoj) hkk h3
   refine .inl (h5.cut1.bind1 fun ρ' G' μ' h=>.nil (.inl ⟨i,oneOk_mono (Ne.symm e) h1,?_⟩))
   rw [Array.setIfInBounds_comm _ _ e]
   exact h
  ·exact .inl (h2 j hj)
  ·by_cases e:j=i
   ·subst e
    have hkr:kindOf mc oi.op=.read:=by
     unfold oneP at h1; simp only [Bool.and_eq_true,hoi,beq_iff_eq] at h1; exact h1.2.1
    exact .inl (.read hoi (.inl hkr) h2.1 (fun hc a w ha hs=>h2.2 hc a w ha hs.sub) (.nil h3))
   have hi:i∈rdy l listed:=by unfold oneP at h1; simp only [Bool.and_eq_true] at h1; simpa using h1.1
   have hj':=rdy_mono hj e
   have hiun:=(rdy_iff.1 hi).1
   have hjun:=(rdy_iff.1 hj).1
   have hu1:=unlN_set hiun
   have hjun':(listed.setIfInBounds i true).getD j true=false:=by rw [getD_set_ne true (Ne.symm e)]; exact hjun
   have hp:=unlN_pos hjun'
   obtain ⟨m',rfl⟩ : ∃ m',m=m'+1:=⟨m-1,by omega⟩
   obtain ⟨_,oj,hoj,_⟩:=rdy_iff.1 hj
   have hnoe:=not_dep hcl hiun hj l.length
   have hjl:j<l.length:=by
    have:=(nth_eq l j).trans hoj
    exact (by simpa using (Array.getElem?_eq_some_iff.1 this).1)
   have h1':=h1
   unfold oneP at h1'
   simp only [Bool.and_eq_true,hoi] at h1'
   obtain ⟨_,_,hall⟩:=h1'
   have h4:=List.all_eq_true.1 hall j (List.mem_range.2 hjl)
   simp only [hjun,hoj,hnoe,Bool.false_or,Bool.or_eq_true,beq_iff_eq,e,false_or] at h4
   have hap:=apart_of hs hoi hoj h4
   have hil:i<l.length:=by
    have:=(nth_eq l i).trans hoi
    exact (by simpa using (Array.getElem?_eq_some_iff.1 this).1)
   have h5:=(Wp.front hK hs hmk hds m' (listed.setIfInBounds i true) j _ G μ (by omega) (hcl.set hi) hj' h3).resolve_right fun hl=>lastNo hcl hiun hil hj (fun q=>e q.symm) hl.1
   refine .inl ((Wo.unlay (Wp.kok hK m' _) hoj hap (hds i oi hoi) h5).bind1 fun ρ' G' μ' ⟨hle,⟨c',v',hρ⟩,h⟩=>.nil (.inr (.inr (.inl ⟨i,oi,c,v,oneP_mono (Ne.symm e) h1,hoi,?_,?_⟩))))
   ·subst hρ
    refine ⟨gd_put hap.ji h2.1,fun hc a w ha hs=>?_⟩
    exact keep_put (hds j oj hoj) hap.si hap.ji (Φ:=fun s=>s.run P w=.ok (.value v) w) (fun a ha=>h2.2 hc a w ha (fun b u hb=>hs b u (hle b u hb))) a ha
   rw [Array.setIfInBounds_comm _ _ e]
   exact h
  rw [h1] at hj
  obtain rfl:=List.mem_singleton.1 hj
  exact .inr ⟨h2,h3⟩
theorem Wp.any {Q:Exit→Act→World→Prop} {G0:PM} {K0:List Nat} {w0:World} (hK:KOk K) (hs:Region.noSelect l.toArray=true) (hmk:∀ j oj,nth l j=some oj→kindOf mc oj.op=.make→Makes P oj) (hds:∀ j oj,nth l j=some oj→dstOk n oj.dst)
  (hQ:∀ ρ G μ,K ρ G μ→∀ a w,Ag n ρ a→Tr G0 K0 w0 G μ w→Q .normal a w) (hD:∀ ch ρ G μ a w,n.die ch ρ G μ→Ag n ρ a→Tr G0 K0 w0 G μ w→Q (.panic ch) a w) :
  ∀ (m:Nat) (listed:Array Bool) (ρ:Env) (G:PM) (μ:Mem) (a:Act) (w:World),unlN listed=m→Closed l listed→Wp mc P n l K m listed ρ G μ→Ag n ρ a→Tr G0 K0 w0 G μ w→wpAny P .any l.toArray Q m listed a w
 | 0,listed,ρ,G,μ,a,w,_,_,H,ha,ht=>⟨H.1,hQ _ _ _ H.2 a w ha ht⟩
 | m+1,listed,ρ,G,μ,a,w,hu,hcl,H,ha,ht=>by
  refine ⟨fun h0=>?_,fun j hj=>?_⟩
  ·rcases H with ⟨i,h1,_⟩ | ⟨h1,_⟩ | ⟨i,oi,c,v,h1,_⟩ | ⟨j',h1,_⟩
   ·have hi:i∈rdy l listed:=by unfold oneOk at h1; simp only [Bool.and_eq_true] at h1; simpa using h1.1
    unfold rdy at hi
    rw [h0] at hi; cases hi
   ·exact absurd h0 h1
   ·have hi:i∈rdy l listed:=by unfold oneP at h1; simp only [Bool.and_eq_true] at h1; simpa using h1.1
    unfold rdy at hi
    rw [h0] at hi; cases hi
   unfold rdy at h1
   rw [h0] at h1; cases h1
  have hj':j∈rdy l listed:=hj
  have hu1:=unlN_set (rdy_iff.1 hj').1
  obtain ⟨o,ho,h⟩ : ∃ o,nth l j=some o∧if Region.wanted o (yielded l.toArray a.tmps) then o.wp P a w (wpAny P .any l.toArray Q m (listed.setIfInBounds j true)) Q else wpAny P .any l.toArray Q m (listed.setIfInBounds j true) (a.put o.dst undef) w:=by
   rcases Wp.front hK hs hmk hds m listed j ρ G μ hu hcl hj' H with hh | ⟨_,hh⟩
   ·exact hh.head ha ht (next:=wpAny P .any l.toArray Q m (listed.setIfInBounds j true)) (Q:=Q) hds (fun hdr'=>by cases hdr')
     (fun ρ' G' μ' a' w' H' ha' ht'=>by cases H' with | nil h=>exact Wp.any hK hs hmk hds hQ hD m _ ρ' G' μ' a' w' (by omega) (hcl.set hj') h ha' ht')
   exact hh.head ha ht (next:=wpAny P .any l.toArray Q m (listed.setIfInBounds j true)) (Q:=Q) hds (fun _=>hD)
    (fun ρ' G' μ' a' w' H' ha' ht'=>by cases H' with | nil h=>exact Wp.any hK hs hmk hds hQ hD m _ ρ' G' μ' a' w' (by omega) (hcl.set hj') h ha' ht')
  simp only [wpOp,nth_eq,ho]
  split
  ·rename_i hw; rw [if_pos hw] at h; exact .inl h
  rename_i hw; rw [if_neg hw] at h; exact h
theorem Wk.mixp {X:Cx} {k:List KI} {id:Nat} {ρ:Env} {G:PM} {μ:Mem} (mc:Md) (hm:X.P.follows .mixedOrders=true) (hok:mixOk X.P X.n.n l=true)
  (h:Wp mc X.P X.n l (fun ρ G μ=>We X .normal k ρ G μ) l.length (Array.replicate l.length false) ρ G μ):Wk X (.region id l.toArray true) k ρ G μ:=by
 simp only [mixOk,Bool.and_eq_true] at hok
 obtain ⟨⟨h1,h2⟩,h3⟩:=hok
 refine ⟨fun a w ha ht=>wp_region_any hm ?_⟩
 have hu:unlN (Array.replicate l.length false)=l.length:=by simp [unlN]
 have:=Wp.any (Q:=Qof X k) (We.kok .normal) h1 (fun j oj hj hk=>makes_of hk (List.all_eq_true.1 h3 oj (mem_of_nth hj)))
  (fun j oj hj=>by
   have:=List.all_eq_true.1 h2 oj (mem_of_nth hj)
   cases hd:oj.dst with
   | none=>trivial
   | some d=>rw [hd] at this; show d<X.n.n; exact of_decide_eq_true this) (fun _ _ _ h a w ha ht=>h.out a w ha ht) (Qof_panic X k) l.length _ ρ G μ a _ hu (Closed.none l.length) h ha ht.drew
 simpa using this
variable {ρ:Env} {G:PM} {μ:Mem} {m:Nat} {listed:Array Bool}
theorem Wp.last (hr:rdy l listed=[]) (h:K ρ G μ):Wp mc P n l K 0 listed ρ G μ:=⟨hr,h⟩
theorem Wp.one (i:Nat) (hc:oneOk mc l listed i=true) (h:Wo true mc P n l (fun ρ' G' μ'=>Wp mc P n l K m (listed.setIfInBounds i true) ρ' G' μ') [i] ρ G μ):Wp mc P n l K (m+1) listed ρ G μ:=.inl ⟨i,hc,h⟩
theorem Wp.pr (i:Nat) (hc:oneP mc l listed i=true) (h:Wo true mc P n l (fun ρ' G' μ'=>(G'=G∧μ'=[])∧Wp mc P n l K m (listed.setIfInBounds i true) ρ' G μ) [i] ρ G []):Wp mc P n l K (m+1) listed ρ G μ:=by
 have h1:=hc
 unfold oneP at h1
 simp only [Bool.and_eq_true] at h1
 cases hoi:nth l i with
 | none=>rw [hoi] at h1; cases h1.2
 | some oi =>
  have hkr:kindOf mc oi.op=.read:=by simp only [hoi,Bool.and_eq_true,beq_iff_eq] at h1; exact h1.2.1
  cases h with
  | @read _ _ _ _ _ o c v ho hk hg hr h =>
   obtain rfl:oi=o:=Option.some.inj (hoi.symm.trans ho)
   cases h with
   | nil h=>exact .inr (.inr (.inl ⟨i,oi,c,v,hc,hoi,⟨hg,fun hc' a w ha hs=>hr hc' a w ha (Sat.nil hs)⟩,h.2⟩))
  | @pure _ _ _ _ _ o cj vj ho hk _ _ _=>obtain rfl:oi=o:=Option.some.inj (hoi.symm.trans ho); rcases hk with hk | hk<;>simp_all
  | @make _ _ _ _ _ o _ _ ho hk _ _ _=>obtain rfl:oi=o:=Option.some.inj (hoi.symm.trans ho); rcases hk with hk | hk<;>simp_all
  | @box _ _ _ _ _ o _ _ ho hk _ _ _=>obtain rfl:oi=o:=Option.some.inj (hoi.symm.trans ho); rcases hk with hk | hk<;>simp_all
  | @callv _ _ _ _ _ o cj f args vj Gp ho hk _ _ _ _=>obtain rfl:oi=o:=Option.some.inj (hoi.symm.trans ho); rcases hk with hk | hk | hk<;>simp_all
  | @call _ _ _ _ _ o f args post ho hk _ _ _ _=>obtain rfl:oi=o:=Option.some.inj (hoi.symm.trans ho); rcases hk with hk | hk | hk<;>simp_all
  | callg hdf _ _ _ _ _=>cases hdf
  | callp hdf _ _ _ _ _ _ _=>cases hdf
  | pan hdf _ _ _ _=>cases hdf
  | @fresh _ _ _ _ _ o μ₁ μ₂ post ho hk _ _ _ _ _=>obtain rfl:oi=o:=Option.some.inj (hoi.symm.trans ho); rcases hk with hk | hk<;>simp_all
  | @act _ _ _ _ _ o μ₁ μ₂ post ho hk _ _ _ _=>obtain rfl:oi=o:=Option.some.inj (hoi.symm.trans ho); rcases hk with hk | hk<;>simp_all
theorem Wp.b1 (j:Nat) (hr:rdy l listed=[j]) (h:Wo true mc P n l (fun ρ' G' μ'=>Wp mc P n l K m (listed.setIfInBounds j true) ρ' G' μ') [j] ρ G μ):Wp mc P n l K (m+1) listed ρ G μ :=
 .inr (.inl ⟨by rw [hr]; simp,fun j' hj'=>by rw [hr] at hj'; obtain rfl:=List.mem_singleton.1 hj'; exact h⟩)
theorem Wp.b2 (j j2:Nat) (hr:rdy l listed=[j,j2]) (h:Wo true mc P n l (fun ρ' G' μ'=>Wp mc P n l K m (listed.setIfInBounds j true) ρ' G' μ') [j] ρ G μ)
  (h2:Wo true mc P n l (fun ρ' G' μ'=>Wp mc P n l K m (listed.setIfInBounds j2 true) ρ' G' μ') [j2] ρ G μ):Wp mc P n l K (m+1) listed ρ G μ :=
 .inr (.inl ⟨by rw [hr]; simp,fun j' hj'=>by
  rw [hr] at hj'
  rcases List.mem_cons.1 hj' with rfl | hj'
  ·exact h
  ·obtain rfl:=List.mem_singleton.1 hj'; exact h2⟩)
end
section
variable {enc mac:Nat→Y} {va vr vp v:Value} {h:Hd} {used u:Int} {torn b:Bool}
theorem k64:(ba 32 enc++ba 32 mac).length=64:=key_len enc mac
end
theorem hd_ext {a b:Hd} (h:a.kind=b.kind∧a.level=b.level∧a.gen=b.gen∧a.epoch=b.epoch∧a.num=b.num):a=b:=by
 obtain ⟨a1,a2,a3,a4,a5⟩:=a
 obtain ⟨b1,b2,b3,b4,b5⟩:=b
 obtain ⟨h1,h2,h3,h4,h5⟩:=h
 simp only at h1 h2 h3 h4 h5
 subst h1 h2 h3 h4 h5
 rfl
instance:DecidableEq Hd:=fun a b=>decidable_of_iff (a.kind=b.kind∧a.level=b.level∧a.gen=b.gen∧a.epoch=b.epoch∧a.num=b.num) ⟨hd_ext,fun h=>by subst h; exact ⟨rfl,rfl,rfl,rfl,rfl⟩⟩
theorem uv_inj {k:IntKind} {x y:BitVec k.bits} (h:uv k x=uv k y):x=y:=by
 simp only [uv,Value.int.injEq,true_and] at h
 exact BitVec.eq_of_toNat_eq (by omega)
theorem hd_iff {a b:Hd}:decide (a=b)=true↔[V a.kind,V a.level,uv .u64 a.gen,uv .u64 a.epoch,uv .u64 a.num]=[V b.kind,V b.level,uv .u64 b.gen,uv .u64 b.epoch,uv .u64 b.num]:=by
 rw [decide_eq_true_eq]
 constructor
 ·intro h; rw [h]
 ·intro h
  simp only [List.cons.injEq,and_true] at h
  exact hd_ext ⟨uv_inj (k:=.u8) h.1,uv_inj (k:=.u8) h.2.1,uv_inj (k:=.u64) h.2.2.1,uv_inj (k:=.u64) h.2.2.2.1,uv_inj (k:=.u64) h.2.2.2.2⟩
theorem hd_conf (a:Hd):Conf [.int .u8,.int .u8,.int .u64,.int .u64,.int .u64] [V a.kind,V a.level,uv .u64 a.gen,uv .u64 a.epoch,uv .u64 a.num]:=.u8 (.u8 (.u64 (.u64 (.u64 .nil))))
theorem mtk4 {μ μ1 μ2 μ3 μ4:Mem} {r1 r2 r3 r4:Res} (h1:MTake μ r1 μ1) (h2:MTake μ1 r2 μ2) (h3:MTake μ2 r3 μ3) (h4:MTake μ3 r4 μ4):μ.Perm ([r1,r2,r3,r4]++μ4):=h1.perm.trans ((mtk3 h2 h3 h4).cons _)
def emT:ByteArray:=ByteArray.empty
theorem encT_len (l:List ByteArray):∀ x∈l,(encT x).length=1:=fun _ _=>rfl
theorem encT_at {l:List ByteArray} {j:Int} (k:Nat) (hj:0+j.toNat*1=k) (hk:k<l.length):(l.flatMap encT)[0+j.toNat*1]? = some (.string (l.getD k emT)):=by
 rw [hj]
 have:=flat_at (encT_len l) (List.getElem?_eq_getElem hk)
 rw [Nat.mul_one] at this
 have h2:=congrArg (fun z=>z[0]?) this
 simp only [List.getElem?_take,List.getElem?_drop] at h2
 simp only [Nat.add_zero,Nat.lt_one_iff,if_true] at h2
 rw [h2,List.getD_eq_getElem?_getD,List.getElem?_eq_getElem hk]; rfl
theorem encT_ix {l:List ByteArray} {o:Nat} (k:Nat) (ho:o=k) (hk:k<l.length):(l.flatMap encT)[o]? = some (.string (l.getD k emT)):=by
 have:=encT_at (l:=l) (j:=(k:Int)) k (by omega) hk
 rwa [show 0+(k:Int).toNat*1=o by omega] at this
theorem cmp_snoc':∀ (l:List ByteArray) (p y:ByteArray),cmpU' p (l++[y])=cmpU' p l++(if y=l.getLastD p then [] else [y])
 | [],p,y=>by simp only [List.nil_append,cmpU',List.getLastD_nil]; by_cases h:y=p<;>simp [h]
 | b :: l,p,y=>by
  simp only [List.cons_append,cmpU',List.getLastD_cons]
  split
  ·rename_i h; subst h; exact cmp_snoc' l _ y
  ·rw [cmp_snoc' l b y]; rfl
theorem getD_T {l:List ByteArray} {k:Nat} (h:k<l.length):l.getD k emT=l[k]:=by rw [List.getD_eq_getElem?_getD,List.getElem?_eq_getElem h]; rfl
theorem cmp_snoc {l:List ByteArray} {j:Nat} (h1:1≤j) (h2:j<l.length):cmpU (l.take (j+1))=cmpU (l.take j)++(if l.getD j emT=l.getD (j-1) emT then [] else [l.getD j emT]):=by
 cases l with
 | nil=>simp at h2
 | cons a l =>
  obtain ⟨i,rfl⟩ : ∃ i,j=i+1:=⟨j-1,by omega⟩
  have hi:i<l.length:=by simpa using h2
  rw [List.take_succ_cons,List.take_succ_cons,List.take_add_one,List.getElem?_eq_getElem hi]
  simp only [cmpU,Option.toList_some,cmp_snoc',List.cons_append]
  have e1:(a :: l).getD (i+1) emT=l[i]:=by rw [List.getD_cons_succ,getD_T hi]
  have e2:(l.take i).getLastD a=(a :: l).getD (i+1-1) emT:=by
   rw [Nat.add_sub_cancel]
   cases i with
   | zero=>simp
   | succ i =>
    rw [List.getD_cons_succ,getD_T (by omega),List.getLastD_eq_getLast?,List.getLast?_take]
    simp only [Nat.add_eq_zero_iff,Nat.succ_ne_self,and_false,if_false,Nat.add_sub_cancel]
    rw [List.getElem?_eq_getElem (by omega)]; rfl
  rw [e1,e2]
theorem cmp_all {l:List ByteArray}:∀ k,k≤l.length→(∀ j,1≤j→j<k→¬ l.getD j emT=l.getD (j-1) emT)→cmpU (l.take k)=l.take k
 | 0,_,_=>rfl
 | 1,h,_=>by
  cases l with
  | nil=>simp at h
  | cons a l=>rfl
 | k+2,h,hj=>by
  rw [cmp_snoc (by omega) (by omega),cmp_all (k+1) (by omega) (fun j h1 h2=>hj j h1 (by omega)),if_neg (hj (k+1) (by omega) (by omega)),List.take_add_one (i:=k+1),List.getElem?_eq_getElem (by omega),getD_T (by omega)]
  rfl
theorem cmp_short {l:List ByteArray} (h:(l.length:Int)<2):cmpU l=l:=by
 match l with
 | []=>rfl
 | [a]=>rfl
 | a :: b :: r=>simp at h; omega
theorem cmp_full {l:List ByteArray} {k:Nat} (h:l.length≤k) (hj:∀ j,1≤j→j<k→¬ l.getD j emT=l.getD (j-1) emT):cmpU l=l:=by
 have:=cmp_all l.length (Nat.le_refl _) fun j h1 h2=>hj j h1 (by omega)
 rwa [List.take_length] at this
structure CmR (l M:List ByteArray) (c j:Nat):Prop where
 len:M.length=l.length
 cj:c<j
 jl:j≤l.length
 c1:1≤c
 fst:M.take c=cmpU (l.take j)
 rest:∀ i,j≤i+1→M.getD i emT=l.getD i emT
theorem CmR.start {l:List ByteArray} {k:Nat} (hk:1≤k) (hl:k<l.length) (hj:∀ j,1≤j→j<k→¬ l.getD j emT=l.getD (j-1) emT) (he:l.getD k emT=l.getD (k-1) emT):CmR l l k (k+1) :=
 ⟨rfl,by omega,by omega,hk,by rw [cmp_snoc hk hl,cmp_all k (by omega) hj,if_pos he,List.append_nil],fun _ _=>rfl⟩
theorem CmR.same {l M:List ByteArray} {c j:Nat} (h:CmR l M c j) (hl:j<l.length) (he:M.getD j emT=M.getD (j-1) emT):CmR l M c (j+1):=by
 have hc:=h.c1; have hcj:=h.cj
 refine ⟨h.len,by omega,by omega,hc,?_,fun i hi=>h.rest i (by omega)⟩
 rw [h.rest j (by omega),h.rest (j-1) (by omega)] at he
 rw [cmp_snoc (by omega) hl,if_pos he,List.append_nil]; exact h.fst
theorem CmR.next {l M:List ByteArray} {c j:Nat} (h:CmR l M c j) (hl:j<l.length) (he:¬ M.getD j emT=M.getD (j-1) emT):CmR l (M.set c (M.getD j emT)) (c+1) (j+1):=by
 have hc:=h.c1; have hcj:=h.cj; have hlen:=h.len
 have hr:=he
 rw [h.rest j (by omega),h.rest (j-1) (by omega)] at hr
 refine ⟨by rw [List.length_set]; exact hlen,by omega,by omega,by omega,?_,fun i hi=>?_⟩
 ·rw [cmp_snoc (by omega) hl,if_neg hr,←h.fst,List.take_add_one,List.getElem?_set_self (by omega),List.take_set_of_le (Nat.le_refl _),h.rest j (by omega)]; rfl
 have:c≠i:=by omega
 rw [List.getD_eq_getElem?_getD,List.getElem?_set_ne this,←List.getD_eq_getElem?_getD]
 exact h.rest i (by omega)
theorem CmR.fin {l M:List ByteArray} {c j:Nat} (h:CmR l M c j) (hl:l.length≤j):M.take c=cmpU l:=by
 rw [h.fst,List.take_of_length_le (by omega)]
theorem str_f {a b:ByteArray} (h:(a.toList == b.toList)=false):¬ a=b:=fun e=>by rw [e,beq_self_eq_true] at h; cases h
theorem cm_snoc {l:List ByteArray} {k:Nat} (h:∀ j,1≤j→j<k→¬ l.getD j emT=l.getD (j-1) emT) (c:((l.getD k emT).toList == (l.getD (k-1) emT).toList)=false):∀ j,1≤j→j<k+1→¬ l.getD j emT=l.getD (j-1) emT:=fun j h1 h2=>by
 by_cases e:j=k
 ·subst e; exact str_f c
 ·exact h j h1 (by omega)
theorem row_put {X A L:List Y} (hl:X.length<18446744073709551616) (e1:A=[]++numN (BitVec.ofInt 64 (X.length:Int)).toNat) (e2:L=A++yl 32 (leafD X)):L=rowL X:=by
 rw [e2,e1,numI hl]; rfl
def wrC (enc mac:Nat→Y) (va vo vl:Value):List Value:=ba 32 enc++ba 32 mac++[va,vo,vl]
section
variable {enc mac:Nat→Y} {va vo vl v:Value}
theorem wrc_len:(wrC enc mac va vo vl).length=67:=by simp [wrC,ba_len]
theorem wrc_key:((wrC enc mac va vo vl).drop 0).take 64=ba 32 enc++ba 32 mac:=by rw [wrC,List.drop_zero,List.take_left' k64]
theorem wrc_ad:(wrC enc mac va vo vl)[64]? = some va:=by rw [wrC,List.getElem?_append_right (by rw [k64]; decide),k64]; rfl
theorem wrc_out:(wrC enc mac va vo vl)[65]? = some vo:=by rw [wrC,List.getElem?_append_right (by rw [k64]; decide),k64]; rfl
theorem wrc_lvs:(wrC enc mac va vo vl)[66]? = some vl:=by rw [wrC,List.getElem?_append_right (by rw [k64]; decide),k64]; rfl
theorem wrs_out:(wrC enc mac va vo vl).set 65 v=wrC enc mac va v vl:=by rw [wrC,List.set_append_right _ _ (by rw [k64]; decide),k64]; rfl
theorem wrs_lvs:(wrC enc mac va vo vl).set 66 v=wrC enc mac va vo v:=by rw [wrC,List.set_append_right _ _ (by rw [k64]; decide),k64]; rfl
end
def badT (h:Hd) (l:List Ent) (blk every:Int):Prop:=¬ h.kind=2#8∨h.right=false∨l=[]∨blk<1∨1048576<blk∨every<1∨1024<every∨(∃ e∈l,rightE e=false)∨risesE l=false
def tabOf (root:Nat→Y) (h:Hd) (l:List Ent) (blk every bits:Int):Tab:=⟨root,h,every.toNat,bits,cutsE blk l⟩
def BuildR (root:Nat→Y) (h:Hd) (l:List Ent) (blk every bits:Int) (L:List Y) (m:Meta) (er:Int):Prop :=
 (badT h l blk every∧L=[]∧m=Meta.zero∧er=1)∨(¬ badT h l blk every∧L=(tabOf root h l blk every bits).bytes∧m=(tabOf root h l blk every bits).info∧er=0)
section
variable {root:Nat→Y} {h:Hd} {l:List Ent} {blk every bits:Int}
theorem tb_c:(((h.kind.toNat:Int) != 2) || !h.right||((l.length:Int) == 0)||decide (blk<1)||decide (blk > 1048576)||decide (every<1)||decide (every > 1024)||l.any (fun e => !rightE e) || !risesE l)=true↔badT h l blk every:=by
 have e1:(((h.kind.toNat:Int) != 2)=true)↔¬ h.kind=2#8:=by
  rw [bne_iff_ne]
  exact ⟨fun q e=>q (by rw [e]; rfl),fun q e=>q (BitVec.eq_of_toNat_eq (by show _=2; omega))⟩
 have e2:(((l.length:Int) == 0)=true)↔l=[]:=by
  rw [beq_iff_eq]
  exact ⟨fun q=>List.eq_nil_of_length_eq_zero (by omega),fun q=>by rw [q]; rfl⟩
 unfold badT
 simp only [Bool.or_eq_true,e1,e2,decide_eq_true_eq,Bool.not_eq_true',List.any_eq_true,gt_iff_lt,or_assoc]
theorem tb_bad (c:(((h.kind.toNat:Int) != 2) || !h.right||((l.length:Int) == 0)||decide (blk<1)||decide (blk > 1048576)||decide (every<1)||decide (every > 1024)||l.any (fun e => !rightE e) || !risesE l)=true):BuildR root h l blk every bits [] Meta.zero 1:=.inl ⟨tb_c.1 c,rfl,rfl,rfl⟩
theorem good_of (hn:¬ badT h l blk every) (hl:lightE l):(tabOf root h l blk every bits).Good:=by
 have he:(tabOf root h l blk every bits).ents=l:=cuts_flat blk l
 have hev:1≤every∧every≤1024:=⟨Int.not_lt.1 fun q=>hn (.inr (.inr (.inr (.inr (.inr (.inl q)))))),Int.not_lt.1 fun q=>hn (.inr (.inr (.inr (.inr (.inr (.inr (.inl q))))))) ⟩
 refine ⟨⟨by rw [he]; exact hl,cuts_ne blk l,by show every.toNat≤1024; omega⟩,?_,?_,by show 1≤every.toNat; omega,?_,?_,?_⟩
 ·apply Classical.byContradiction; intro q; exact hn (.inl q)
 ·show h.right=true
  cases q:h.right with
  | true=>rfl
  | false=>exact absurd (.inr (.inl q)) hn
 ·rw [he]; intro e hm
  cases q:rightE e with
  | true=>rfl
  | false=>exact absurd (.inr (.inr (.inr (.inr (.inr (.inr (.inr (.inl ⟨e,hm,q⟩)))))))) hn
 ·rw [he]
  cases q:risesE l with
  | true=>rfl
  | false=>exact absurd (.inr (.inr (.inr (.inr (.inr (.inr (.inr (.inr q)))))))) hn
 intro q
 have:l=[]:=by rw [← he]; unfold Tab.ents; rw [q]; rfl
 exact hn (.inr (.inr (.inl this)))
theorem tb_good (c:(((h.kind.toNat:Int) != 2) || !h.right||((l.length:Int) == 0)||decide (blk<1)||decide (blk > 1048576)||decide (every<1)||decide (every > 1024)||l.any (fun e => !rightE e) || !risesE l)=false) (hl:lightE l):¬ badT h l blk every∧(tabOf root h l blk every bits).Good∧1≤every:=by
 have hn:¬ badT h l blk every:=fun q=>by rw [tb_c.2 q] at c; cases c
 exact ⟨hn,good_of hn hl,Int.not_lt.1 fun q=>hn (.inr (.inr (.inr (.inr (.inr (.inl q))))))⟩
end
theorem blk_built {t:Tab} (g:t.Good) {i:Nat} (h:i<t.cs.length):buildB (t.cs.getD i []) t.every=(blkL t.every (t.cs.getD i []),0):=by
 have hr:∀ e∈t.cs.getD i [],rightE e=true:=fun e he=>g.ents e (List.mem_flatten.2 ⟨_,getD_memE h,he⟩)
 have hc:risesE (t.cs.getD i [])=true:=pw_rises ((List.pairwise_flatten.1 (rises_pw g.rises)).1 _ (getD_memE h))
 have h1:=wt_memE (getD_memE h)
 have h2:wtE t.cs.flatten≤50000:=g.ok.light.2
 have h3:t.cs.flatten.length≤300:=g.ok.light.1
 have he:=g.ok.every
 have h0:=g.ev1
 have:=buildB_ok (l:=t.cs.getD i []) (every:=(t.every:Int)) (fun q=>by
  rcases q with q | q | q | ⟨e,he,q⟩
  ·omega
  ·omega
  ·rw [hc] at q; cases q
  ·rw [hr e he] at q; cases q) (fun q=>by
  have hw:=blkL_le (every:=t.every) (l:=t.cs.getD i []) (by omega) (by omega) (by omega)
  rcases q with ⟨k,hk,q⟩ | q
  ·have:=outB_le (every:=t.every) (l:=t.cs.getD i []) (by omega) (by omega) (by omega) (k+1) (by omega)
   have:=wtE_take (t.cs.getD i []) (k+1)
   rw [Int.toNat_natCast] at q; omega
  ·rw [Int.toNat_natCast] at q; omega)
 rw [this,Int.toNat_natCast]
section
variable {root:Nat→Y} {h:Hd} {l rest L R B:List Ent} {blk every bits er:Int} {k:Nat} {x y:Ent}
theorem tb_part (g:(tabOf root h l blk every bits).Good) (he:1≤every) (hr:rest=((cutsE blk l).drop k).flatten) (h0:0<(rest.length:Int)) (e1:L=rest.take (cutA blk 0 rest)) (e2:R=rest.drop (cutA blk 0 rest)) :
  k<(cutsE blk l).length∧(cutsE blk l).getD k []=L∧R=((cutsE blk l).drop (k+1)).flatten∧L.length=cutA blk 0 rest∧0<L.length∧(∀ {X:List Y} {er:Int},(X,er)=buildB L every→X=blkL every.toNat L∧er=0):=by
 have hne:rest≠[]:=fun q=>by rw [q] at h0; simp at h0
 obtain ⟨h1,h2,h3⟩:=cuts_step hr hne
 have hp:=cutA_pos blk 0 hne
 have hl:=cutA_le blk rest 0
 refine ⟨h1,by rw [h2,e1],by rw [h3,e2],by rw [e1,List.length_take]; omega,by rw [e1,List.length_take]; omega,fun {X er} hb=>?_⟩
 have:=blk_built g (i:=k) h1
 have e:(tabOf root h l blk every bits).cs.getD k []=L:=by rw [e1]; exact h2
 rw [e,show ((tabOf root h l blk every bits).every:Int)=every by show (every.toNat:Int)=every; omega] at this
 rw [this] at hb
 simp only [Prod.mk.injEq] at hb
 exact hb
theorem tb_bnd1 (hk:k<(cutsE blk l).length) (hL:(cutsE blk l).getD k []=L) (hR:R=((cutsE blk l).drop (k+1)).flatten) (h0:0<(R.length:Int)) (hx:L[L.length-1]? = some x) (hy:R[0]? = some y):betwL (yb x.user) (yb y.user)=bndE (cutsE blk l) k:=by
 have hne:R≠[]:=fun q=>by rw [q] at h0; simp at h0
 obtain ⟨h1,h2,_⟩:=cuts_step hR hne
 have hp:=cutA_pos blk 0 hne
 unfold bndE
 rw [if_pos h1,hL,h2]
 have e1:lastU L=x.user:=by unfold lastU; rw [ri_at hx]
 have e2:firstU (R.take (cutA blk 0 R))=y.user:=by
  unfold firstU
  rw [List.getD_eq_getElem?_getD,List.getElem?_take_of_lt hp,hy]; rfl
 rw [e1,e2]
theorem tb_bnd0 (hL:(cutsE blk l).getD k []=L) (hR:R=((cutsE blk l).drop (k+1)).flatten) (h0:(R.length:Int)≤0) (hx:L[L.length-1]? = some x):yb x.user=bndE (cutsE blk l) k:=by
 have hn:R=[]:=List.eq_nil_of_length_eq_zero (by omega)
 have h1:=cuts_end hR hn
 unfold bndE
 rw [if_neg (by omega),hL]
 have e1:lastU L=x.user:=by unfold lastU; rw [ri_at hx]
 rw [e1]
end
section
variable {t:Tab} {k:Nat} {O D' X W L1 L2:List Y} {US:List ByteArray} {L:List Ent}
theorem tb_prt (hL:t.cs.getD k []=L) (e:X=sealL (keyEnc t.root (headL t.h)) (keyMac t.root (headL t.h)) (nonceF (BitVec.ofInt 64 ((2+k:Nat):Int))) (headL t.h) (blkL t.every L)):X=t.prt k:=by rw [e]; unfold Tab.prt sealAt; rw [hL]
theorem tb_out (eO:O=t.out k) (eX:X=t.prt k) (e:L1=O++X):L1=t.out (k+1):=by rw [e,eO,eX,t.out_succ]
theorem tb_row (eR:O=t.rows k) (eX:X=t.prt k) (eW:W=rowL X) {s:List Y} (es:s=bndE t.cs k) (e1:L1=O++strL s) (e2:L2=L1++W):L2=t.rows (k+1):=by rw [e2,e1,eR,eW,eX,es,t.rows_succ,List.append_assoc]
theorem tb_lvs {D D2:List Dg} (eD:D=t.lvs k) (eX:X=t.prt k) (e:D2=D++[leafD X]):D2=t.lvs (k+1):=by rw [e,eD,eX,t.lvs_succ]
theorem tb_usr (hk:k<t.cs.length) (hL:t.cs.getD k []=L) (eU:US=(t.cs.take k).flatten.map (·.user)):US++L.map (·.user)=(t.cs.take (k+1)).flatten.map (·.user):=by rw [eU,cs_take hk,List.map_append,hL]
theorem us_snoc {j:Nat} {x:Ent} (h:L[j]? = some x):US++(L.take j).map (·.user)++[x.user]=US++(L.take (j+1)).map (·.user):=by
 rw [List.take_add_one,h,List.map_append,List.append_assoc]; rfl
end
theorem tb_light {l rest:List Ent} {blk:Int} {k:Nat} (hl:lightE l) (hr:rest=((cutsE blk l).drop k).flatten):lightE rest:=by
 have e:l=((cutsE blk l).take k).flatten++rest:=by rw [hr,←List.flatten_append,List.take_append_drop,cuts_flat]
 have h1:=wtE_app ((cutsE blk l).take k).flatten rest
 have h2:l.length=((cutsE blk l).take k).flatten.length+rest.length:=by rw [← List.length_append,←e]
 rw [← e] at h1
 exact ⟨by have:=hl.1; omega,by have:=hl.2; omega⟩
theorem usz {L:List Ent} {j:Nat} {x:Ent} (hl:lightE L) (hx:L[j]? = some x):x.user.size≤50000∧x.value.size≤50000:=by
 have hj:=(List.getElem?_eq_some_iff.1 hx).1
 have:=wtE_at hj
 rw [ri_at hx] at this
 have:=hl.2
 omega
theorem str_bd {L A:List Y} {s:ByteArray} (e:L=A++strL (yb s)) (hs:s.size≤50000):L.length≤A.length+50010:=by
 have:=num_len10 (n:=(yb s).length) (by rw [yb_len]; omega)
 rw [e,List.length_append,strL,List.length_append,yb_len] at *; omega
theorem row_bd {W X:List Y} (e:W=rowL X) (hx:X.length≤100000000):32≤W.length∧W.length≤42:=by
 have:=num_len10 (n:=X.length) (by omega)
 rw [e,rowL,List.length_append,yl_len]; omega
theorem cmp_sub':∀ {l:List ByteArray} {p s:ByteArray},s∈cmpU' p l→s∈l
 | b :: l,p,s,h=>by
  unfold cmpU' at h
  split at h
  ·exact List.mem_cons_of_mem _ (cmp_sub' h)
  ·rcases List.mem_cons.1 h with rfl | h
   ·exact List.mem_cons_self ..
   ·exact List.mem_cons_of_mem _ (cmp_sub' h)
theorem cmp_sub:∀ {l:List ByteArray} {s:ByteArray},s∈cmpU l→s∈l
 | a :: l,s,h=>by
  unfold cmpU at h
  rcases List.mem_cons.1 h with rfl | h
  ·exact List.mem_cons_self ..
  ·exact List.mem_cons_of_mem _ (cmp_sub' h)
theorem usr_sz {l:List Ent} (hl:lightE l):∀ s∈cmpU (l.map (·.user)),s.size≤1000000:=fun s hs=>by
 obtain ⟨e,he,rfl⟩:=List.mem_map.1 (cmp_sub hs)
 obtain ⟨i,hi,rfl⟩:=List.getElem_of_mem he
 have:=(usz hl (List.getElem?_eq_getElem hi)).1
 omega
section
variable {root:Nat→Y} {h:Hd} {l:List Ent} {blk every bits:Int}
theorem tab_users:(tabOf root h l blk every bits).users=l.map (·.user):=by
 unfold Tab.users Tab.ents tabOf; rw [cuts_flat]
theorem tb_all {US:List ByteArray} {k:Nat} (hk:(cutsE blk l).length≤k) (eU:US=((tabOf root h l blk every bits).cs.take k).flatten.map (·.user)):US=l.map (·.user):=by
 rw [eU]
 show ((cutsE blk l).take k).flatten.map _=_
 rw [List.take_of_length_le hk,cuts_flat]
theorem tb_filt {M X:List Y} {US:List ByteArray} (eU:US=l.map (·.user)) (eM:M=makeB (cmpU US) bits) (eX:X=sealL (keyEnc root (headL h)) (keyMac root (headL h)) (nonceF (BitVec.ofInt 64 ((1:Nat):Int))) (headL h) M):X=(tabOf root h l blk every bits).filt:=by
 unfold Tab.filt; rw [tab_users,eX,eM,eU]; rfl
theorem tb_idx {R W N L I:List Y} (eR:R=(tabOf root h l blk every bits).rows (cutsE blk l).length) (eF:W=rowL (tabOf root h l blk every bits).filt) (eN:N=[]++numN (BitVec.ofInt 64 ((cutsE blk l).length:Int)).toNat) (hc:(cutsE blk l).length≤300) (eL:L=R++W) (eI:I=N++L):I=(tabOf root h l blk every bits).idx:=by
 rw [numI (by omega)] at eN
 rw [eI,eN,eL,eR,eF]; rfl
theorem tb_sidx {I X:List Y} (eI:I=(tabOf root h l blk every bits).idx) (eX:X=sealL (keyEnc root (headL h)) (keyMac root (headL h)) (nonceF (BitVec.ofInt 64 ((0:Nat):Int))) (headL h) I):X=(tabOf root h l blk every bits).sidx:=by
 unfold Tab.sidx; rw [eX,eI]; rfl
theorem tb_bytes {O F S O1 O2 L:List Y} {z:Int} (eO:O=(tabOf root h l blk every bits).out (cutsE blk l).length) (eF:F=(tabOf root h l blk every bits).filt) (eS:S=(tabOf root h l blk every bits).sidx) (e1:O1=O++F) (e2:O2=O1++S) (hz:z=(S.length:Int)) (eL:L=O2++fixL (BitVec.ofInt 64 z) 8):L=(tabOf root h l blk every bits).bytes:=by
 rw [eL,e2,e1,hz,eO,eF,eS]; rfl
theorem tb_info {L:List Y} {D0 D1 D2:List Dg} {F S:List Y} {x y:Ent} (eL:L=(tabOf root h l blk every bits).bytes) (e0:D0=(tabOf root h l blk every bits).lvs (cutsE blk l).length) (eF:F=(tabOf root h l blk every bits).filt) (eS:S=(tabOf root h l blk every bits).sidx) (e1:D1=D0++[leafD F]) (e2:D2=D1++[leafD S]) (hx:l[0]? = some x) (hy:l[l.length-1]? = some y) :
  [V h.level,uv .u64 h.gen,uv .u64 h.epoch,uv .u64 h.num,.int .i64 (L.length:Int),.int .i64 (l.length:Int),.string x.user,.string y.user]++ba 32 (rootD D2)=(tabOf root h l blk every bits).info.cells:=by
 have he:(tabOf root h l blk every bits).ents=l:=cuts_flat blk l
 have e3:D2=(tabOf root h l blk every bits).leaves:=by rw [e2,e1,e0,eF,eS]; rfl
 have e4:firstU l=x.user:=by unfold firstU; rw [ri_at hx]
 have e5:lastU l=y.user:=by unfold lastU; rw [ri_at hy]
 rw [e3,eL,←e4,←e5]
 conv=>lhs; rw [show (l.length:Int)=((tabOf root h l blk every bits).ents.length:Int) by rw [he],show firstU l=firstU (tabOf root h l blk every bits).ents by rw [he],show lastU l=lastU (tabOf root h l blk every bits).ents by rw [he]]
 rfl
end
theorem mt_len {a b c d e f g i:Value} {w:Nat→Y}:([a,b,c,d,e,f,g,i]++ba 32 w).length=40:=by rw [List.length_append,ba_len]; rfl
theorem usr_len (cs:List (List Ent)) (k:Nat):((cs.take k).flatten.map (·.user)).length≤cs.flatten.length:=by rw [List.length_map]; exact (wt_flat k).2
def rowC (p:RowT×Sh):List Value:=[.string (bstr p.1.bound),p.2.val p.1.bytes.length]++ba 32 p.1.leaf
theorem rowC_len {p:RowT×Sh}:(rowC p).length=34:=by rw [rowC,List.length_append,ba_len]; rfl
theorem rowC_leaf {p:RowT×Sh}:((rowC p).drop 2).take 32=ba 32 p.1.leaf:=by
 show (ba 32 p.1.leaf).take 32=_
 exact List.take_of_length_le (by rw [ba_len]; exact Nat.le_refl _)
theorem rowC_one (p:RowT×Sh):∀ u∈rowC p,u.oneCell'=true:=one_app (one2 rfl rfl) (ba_one _ _)
structure RdrR (G:PM) (h:Hd) (ps:List (RowT×Sh)) (ix:List Y) (ha hr hi:Sh):Prop where
 ad:SlR G 1 encY ha (headL h)
 rows:SlR G 34 rowC hr ps
 each:∀ p∈ps,SlR G 1 encY p.2 p.1.bytes
 ix:SlR G 1 encY hi ix
 sm:∀ p∈ps,p.1.bytes.length≤1000000
 len:ps.length≤999990
theorem RdrR.mono {G G':PM} {h:Hd} {ps:List (RowT×Sh)} {ix:List Y} {ha hr hi:Sh} (r:RdrR G h ps ix ha hr hi) (hle:PM.le G G'):RdrR G' h ps ix ha hr hi :=
 ⟨r.ad.mono hle,r.rows.mono hle,fun p hp=>(r.each p hp).mono hle,r.ix.mono hle,r.sm,r.len⟩
theorem map_fst {ps:List (RowT×Sh)} {rows:List RowT} {i:Nat} {p:RowT×Sh} (e:ps.map (·.1)=rows) (hp:ps[i]? = some p):rows.getD i rowZ=p.1:=by
 rw [← e,List.getD_eq_getElem?_getD,List.getElem?_map,hp]; rfl
section
variable {root:Nat→Y} {h:Hd} {x:RowT} {part i:Nat} {L:List Y} {rows:List RowT} {l:List Ent}
theorem wh_leaf (hw:wholeT root h x part=some L):decide (yl 32 (leafD x.bytes)=yl 32 x.leaf)=true:=by
 unfold wholeT at hw
 split at hw
 ·rename_i q; exact decide_eq_true q
 ·cases hw
theorem wh_open (hw:wholeT root h x part=some L):openAt root h part x.bytes=some L:=by
 unfold wholeT at hw
 split at hw
 ·exact hw
 ·cases hw
theorem wh_len (hw:wholeT root h x part=some L):L.length≤x.bytes.length:=by
 have:=(seal_open (wh_open hw)).2.2
 omega
theorem en_inv (he:entsT root h rows i=some l):∃ y,wholeT root h (rows.getD i rowZ) (2+i)=some y∧readB y=(l,0):=by
 unfold entsT at he
 cases hw:wholeT root h (rows.getD i rowZ) (2+i) with
 | none=>rw [hw] at he; cases he
 | some y =>
  rw [hw,Option.bind_some] at he
  split at he
  ·rename_i q
   refine ⟨y,rfl,?_⟩
   simp only [Option.some.injEq] at he
   rw [← he,←q]
  cases he
end
theorem Tk.got {α:Type} {a:α} {s:Rd'} {bad:Bool} {k:List Y→Option α} (h:Tk (some a) s bad k):s.bad=0∧some a=k s.rest:=by
 rcases h with ⟨h1,_,h3⟩ | ⟨h1,_⟩
 ·exact ⟨h1,h3⟩
 ·cases h1
theorem Tk.put {α:Type} {a:α} {r:List Y} {k:List Y→Option α} (h:k r=some a):Tk (some a) ⟨r,0⟩ false k:=.inl ⟨rfl,rfl,h.symm⟩
def kkT (b:List Y):Nat:=(unfK (b.drop (b.length-8)) 8).toNat
def restT (b:List Y):List Y:=(b.drop 30).take (b.length-38)
theorem restT_len {b:List Y} (h:38≤b.length):(restT b).length=b.length-38:=by unfold restT; rw [List.length_take,List.length_drop]; omega
structure BegR (root:Nat→Y) (m:Meta) (b:List Y) (rows:List RowT) (ix:List Y):Prop where
 take:takeH b=(hdM m,0)
 size:(b.length:Int)=m.size
 long:38≤b.length
 kk:kkT b≤b.length-38
 eix:ix=(restT b).drop (b.length-38-kkT b)
 opn:∃ y,openAt root (hdM m) 0 ix=some y∧(pNum fun n r=>if 0<n then rowsP (n+1) [] ((restT b).take (b.length-38-kkT b)) r else none) y=some rows
 root:(yl 32 (rootD (rows.map (·.leaf)++[leafD ix]))).map (fun y=>((y.toNat:Nat):Int))=(List.range 32).map m.root
theorem beg_inv {root:Nat→Y} {m:Meta} {b:List Y} {rows:List RowT} {ix:List Y} (h:beginT root m b=some (rows,ix)):BegR root m b rows ix:=by
 unfold beginT at h
 split at h
 ·rename_i c
  obtain ⟨c1,c2,c3,c4,c5⟩:=c
  simp only at h
  cases ho:openAt root (hdM m) 0 (((b.drop 30).take (b.length-38)).drop (b.length-38-(unfK (b.drop (b.length-8)) 8).toNat)) with
  | none=>rw [ho] at h; cases h
  | some y =>
   rw [ho,Option.bind_some] at h
   cases hp:(pNum fun n r=>if 0<n then rowsP (n+1) [] (((b.drop 30).take (b.length-38)).take (b.length-38-(unfK (b.drop (b.length-8)) 8).toNat)) r else none) y with
   | none=>rw [hp] at h; cases h
   | some rs =>
    rw [hp,Option.bind_some] at h
    split at h
    ·rename_i hr
     simp only [Option.some.injEq,Prod.mk.injEq] at h
     obtain ⟨rfl,rfl⟩:=h
     exact ⟨Prod.ext c3 c1,c2,c4,c5,rfl,⟨y,ho,hp⟩,hr⟩
    ·cases h
 ·cases h
theorem root_wf {m:Meta} (hw:m.wf) {d:Dg} (h:(yl 32 d).map (fun y=>((y.toNat:Nat):Int))=(List.range 32).map m.root):yl 32 d=yl 32 (fun i=>BitVec.ofInt 8 (m.root i)):=by
 have e:∀ i,i<32→d i=BitVec.ofInt 8 (m.root i):=fun i hi=>by
  have:=congrArg (fun z=>z[i]?) h
  simp only [yl,List.getElem?_map,List.getElem?_range hi,Option.map_some,Option.some.injEq] at this
  apply BitVec.eq_of_toNat_eq
  rw [← this,BitVec.ofInt_natCast,BitVec.toNat_ofNat]
  have:=(d i).isLt; omega
 exact yl_congr e
theorem root_cells {m:Meta} (hw:m.wf):(m.cells.drop 8).take 32=ba 32 (fun i=>BitVec.ofInt 8 (m.root i)):=by
 have e:m.cells=[.int .u8 m.level,.int .u64 m.gen,.int .u64 m.epoch,.int .u64 m.number,.int .i64 m.size,.int .i64 m.count,.string m.min,.string m.max]++(List.range 32).map fun i=>.int .u8 (m.root i):=rfl
 rw [e]
 show ((List.range 32).map fun i=>Value.int .u8 (m.root i)).take 32=_
 rw [List.take_of_length_le (by simp)]
 unfold ba
 refine List.map_congr_left fun i hi=>?_
 have:=hw.root i (by simpa using hi)
 show Value.int .u8 (m.root i)=.int .u8 ((BitVec.ofInt 8 (m.root i)).toNat:Int)
 rw [BitVec.toNat_ofInt]
 congr 1; omega
section
variable {rows acc:List RowT} {rest r:List Y} {n k:Nat}
theorem row_take {α:Type} {a:α} {f:List Y→Nat→Dg→List Y→Option α} (h:rowP false f r=some a):Tk (some a) ⟨r,0⟩ false (pStr 1024 fun bd=>pNum fun size=>pRep pByte 32 fun xs=>f bd size (fun i=>xs.getD i 0)):=Tk.put h
theorem row_last {α:Type} {a:α} {f:List Y→Nat→Dg→List Y→Option α} (h:rowP true f r=some a):Tk (some a) ⟨r,0⟩ false (pNum fun size=>pRep pByte 32 fun xs=>f [] size (fun i=>xs.getD i 0)):=Tk.put h
theorem rows_some (h:rowsP (n+1) acc rest r=some rows):rowP (n == 0) (fun bd size d r=>if size≤rest.length then rowsP n (acc++[⟨bd,rest.take size,d⟩]) (rest.drop size) r else none) r=some rows:=h
theorem rows_got {s:Rd'} {bad:Bool} {size:Nat} {bd:List Y} {d:Dg} (h:Tk (some rows) s bad (fun r=>if size≤rest.length then rowsP n (acc++[⟨bd,rest.take size,d⟩]) (rest.drop size) r else none)) :
  s.bad=0∧size≤rest.length∧rowsP n (acc++[⟨bd,rest.take size,d⟩]) (rest.drop size) s.rest=some rows:=by
 obtain ⟨h1,h2⟩:=h.got
 split at h2
 ·rename_i q; exact ⟨h1,q,h2.symm⟩
 ·cases h2
theorem rows_end (h:rowsP 0 acc rest r=some rows):r=[]∧rest=[]∧acc=rows:=by
 unfold rowsP at h
 split at h
 ·rename_i q; simp only [Option.some.injEq] at h; exact ⟨q.1,q.2,h⟩
 ·cases h
end
structure AllB (G:PM) (ps:List (RowT×Sh)):Prop where
 each:∀ p∈ps,SlR G 1 encY p.2 p.1.bytes
 sm:∀ p∈ps,p.1.bytes.length≤1000000
theorem AllB.mono {G G':PM} {ps:List (RowT×Sh)} (h:AllB G ps) (hle:PM.le G G'):AllB G' ps:=⟨fun p hp=>(h.each p hp).mono hle,h.sm⟩
theorem AllB.nil {G:PM}:AllB G []:=⟨fun p hp=>(by cases hp),fun p hp=>(by cases hp)⟩
theorem AllB.snoc {G:PM} {ps:List (RowT×Sh)} {p:RowT×Sh} (h:AllB G ps) (hs:SlR G 1 encY p.2 p.1.bytes) (hl:p.1.bytes.length≤1000000):AllB G (ps++[p]) :=
 ⟨fun q hq=>by
  rcases List.mem_append.1 hq with hq | hq
  ·exact h.each q hq
  ·rw [List.mem_singleton.1 hq]; exact hs,fun q hq=>by
  rcases List.mem_append.1 hq with hq | hq
  ·exact h.sm q hq
  ·rw [List.mem_singleton.1 hq]; exact hl⟩
theorem bg_need1 {a b:Int} {h:Hd} (e:a=b) (hl:38≤a):(((a == b)&&((0:Int) == 0))&&decide (h=h)&&decide (a≥38))=true:=by subst e; simp [hl]
theorem bg_rows0 {rows:List RowT} {n:Nat} {A r:List Y} (h:some rows=if 0<n then rowsP (n+1) [] A r else none):0<n∧rowsP (n+1) [] A r=some rows:=by
 split at h
 ·rename_i q; exact ⟨q,h.symm⟩
 ·cases h
section
variable {rows acc:List RowT} {A R:List Y} {n k:Nat}
def rowF (n:Nat) (acc:List RowT) (A:List Y) (bd:List Y) (size:Nat) (d:Dg) (r:List Y):Option (List RowT):=if size≤A.length then rowsP n (acc++[⟨bd,A.take size,d⟩]) (A.drop size) r else none
theorem bg_str (h:rowsP (n+1-k) acc A R=some rows) (hk:k<n):Tk (some rows) ⟨R,0⟩ false (pStr 1024 fun bd=>pNum fun size=>pRep pByte 32 fun xs=>rowF (n-k) acc A bd size (fun i=>xs.getD i 0)):=by
 rw [show n+1-k=(n-k)+1 by omega] at h
 have h':=rows_some h
 rw [show (n-k == 0)=false from beq_eq_false_iff_ne.2 (by omega)] at h'
 exact row_take h'
theorem bg_last (h:rowsP (n+1-k) acc A R=some rows) (hk:¬ k<n) (hk2:k≤n):Tk (some rows) ⟨R,0⟩ false (pNum fun size=>pRep pByte 32 fun xs=>rowF (n-k) acc A [] size (fun i=>xs.getD i 0)):=by
 rw [show n+1-k=(n-k)+1 by omega] at h
 have h':=rows_some h
 rw [show (n-k == 0)=true from beq_iff_eq.2 (by omega)] at h'
 exact row_last h'
theorem bg_got {s:Rd'} {size:Nat} {bd rt:List Y} {f:Nat→Y} (hf:∀ i,f i=rt.getD i 0) (h:Tk (some rows) s false (rowF (n-k) acc A bd size (fun i=>rt.getD i 0))) :
  s.bad=0∧size≤A.length∧rowsP (n+1-(k+1)) (acc++[⟨bd,A.take size,f⟩]) (A.drop size) s.rest=some rows:=by
 have:=rows_got h
 rw [show n+1-(k+1)=n-k by omega,show f=fun i=>rt.getD i 0 from funext hf]
 exact this
end
theorem byte_dec {L L':List Y} {e e':Int} {y:Y} (h:rdByte ⟨L,e⟩=(y,⟨L',e'⟩)):L'.length≤L.length∧(e'=0→e=0∧L'.length+1≤L.length):=by
 unfold rdByte at h
 split at h
 ·rename_i q
  simp only [Prod.mk.injEq,Rd'.mk.injEq] at h
  obtain ⟨_,rfl,rfl⟩:=h
  exact ⟨Nat.le_refl _,fun z=>absurd z q⟩
 ·rename_i q
  have q':e=0:=Classical.byContradiction q
  split at h
  ·simp only [Prod.mk.injEq,Rd'.mk.injEq] at h
   obtain ⟨_,rfl,rfl⟩:=h
   exact ⟨Nat.le_refl _,fun z=>by cases z⟩
  ·rename_i q2
   simp only [Prod.mk.injEq,Rd'.mk.injEq] at h
   obtain ⟨_,rfl,rfl⟩:=h
   simp only at q2
   exact ⟨by rw [List.length_drop]; omega,fun _=>⟨q',by rw [List.length_drop]; omega⟩⟩
def rwC (bd:List Y) (v:Value) (f:Nat→Y):List Value:=[.string (bstr bd),v]++ba 32 f
theorem rwC_len {bd:List Y} {v:Value} {f:Nat→Y}:(rwC bd v f).length=34:=by rw [rwC,List.length_append,ba_len]; rfl
theorem rwC_leaf {bd:List Y} {v:Value} {f:Nat→Y}:((rwC bd v f).drop 2).take 32=ba 32 f:=by
 show (ba 32 f).take 32=_
 exact List.take_of_length_le (by rw [ba_len]; exact Nat.le_refl _)
theorem rwC_set {bd:List Y} {v:Value} {f:Nat→Y} {m:Nat} {z:Y} {k:Nat} (hm:m=2+k):(rwC bd v f).set m (V z)=rwC bd v (upd f k z):=by
 subst hm
 unfold rwC
 rw [List.set_append_right _ _ (by simp),show 2+k-([Value.string (bstr bd),v]:List Value).length=0+(k:Int).toNat*1 by simp,ba_set1 k (by omega)]
def hitE (user:ByteArray) (seq:BitVec 64) (e:Ent):Bool := !aheadE e ⟨user,seq,0,ByteArray.empty⟩
theorem hit_val {user:ByteArray} {seq:BitVec 64} {e:Ent}:((!le e.user user)||((e.user.toList == user.toList)&&decide ((e.seq.toNat:Int)≤(seq.toNat:Int))))=hitE user seq e:=by
 unfold hitE
 rw [← ri_neg (x:=e) (y:=⟨user,seq,0,ByteArray.empty⟩)]
def notLt (user:ByteArray) (p:RowT×Sh):Bool := !lt (bstr p.1.bound) user
theorem from_idx {user:ByteArray}:∀ (l:List (RowT×Sh)),idxZ (notLt user) l=if fromT user (l.map (·.1))<l.length then (fromT user (l.map (·.1)):Int) else -1
 | []=>rfl
 | p :: l=>by
  have ih:=from_idx (user:=user) l
  unfold idxZ at ih ⊢
  rw [List.findIdx?_cons]
  unfold fromT
  rw [List.map_cons]
  by_cases h:lt (bstr p.1.bound) user=true
  ·have hn:notLt user p=false:=by unfold notLt; rw [h]; rfl
   rw [hn]
   simp only [h,if_true,Bool.false_eq_true,if_false,List.length_cons]
   cases hf:l.findIdx? (notLt user) with
   | none =>
    rw [hf] at ih
    simp only at ih
    simp only [Option.map_none]
    split at ih
    ·have:=Int.natCast_nonneg (fromT user (l.map (·.1))); omega
    ·rename_i q; rw [if_neg (by omega)]
   | some i =>
    rw [hf] at ih
    simp only at ih
    simp only [Option.map_some]
    split at ih
    ·rw [if_pos (by omega)]; omega
    ·have:=Int.natCast_nonneg i; omega
  ·have hn:notLt user p=true:=by unfold notLt; simp only [Bool.not_eq_true] at h; rw [h]; rfl
   rw [hn]
   simp [h]
theorem find_idx {α:Type} {p:α→Bool}:∀ (l:List α),(idxZ p l<0∧l.find? p=none)∨∃ x,0≤idxZ p l∧l[(idxZ p l).toNat]? = some x∧l.find? p=some x
 | []=>.inl ⟨by show (-1:Int)<0; decide,rfl⟩
 | a :: l=>by
  unfold idxZ
  rw [List.findIdx?_cons,List.find?_cons]
  cases h:p a with
  | true=>exact .inr ⟨a,Int.le_refl _,rfl,rfl⟩
  | false =>
   have ih:=find_idx (p:=p) l
   unfold idxZ at ih
   simp only [Bool.false_eq_true,if_false]
   cases hf:l.findIdx? p with
   | none =>
    rw [hf] at ih
    rcases ih with ⟨_,h2⟩ | ⟨x,h1,_⟩
    ·exact .inl ⟨by simp,h2⟩
    simp at h1
   | some i =>
    rw [hf] at ih
    rcases ih with ⟨h1,_⟩ | ⟨x,h1,h2,h3⟩
    ·simp only at h1; omega
    refine .inr ⟨x,?_,?_,h3⟩
    ·simp only [Option.map_some]; exact Int.natCast_nonneg _
    simp only [Option.map_some,Int.toNat_natCast] at h2 ⊢
    rw [List.getElem?_cons_succ]; exact h2
theorem rowsP_inv {n:Nat} {acc rows:List RowT} {rest r:List Y} (h:rowsP (n+1) acc rest r=some rows):∃ bd size d r',rowsP n (acc++[⟨bd,rest.take size,d⟩]) (rest.drop size) r'=some rows:=by
 have key:∀ {α:Type} {a:α} {last:Bool} {f:List Y→Nat→Dg→List Y→Option α} {r:List Y},rowP last f r=some a→∃ bd size d r',f bd size d r'=some a:=by
  intro α a last f r h
  have h3:∀ {bd:List Y} {r:List Y},(pNum fun size=>pRep pByte 32 fun xs=>f bd size (fun i=>xs.getD i 0)) r=some a→∃ bd size d r',f bd size d r'=some a:=by
   intro bd r h
   obtain ⟨size,r2,_,_,h⟩:=num_inv h
   have h4:∀ (m:Nat) (K:List Y→List Y→Option α) (r:List Y),pRep pByte m K r=some a→∃ xs r',K xs r'=some a:=by
    intro m
    induction m with
    | zero=>intro K r h; exact ⟨[],r,h⟩
    | succ m ih =>
     intro K r h
     obtain ⟨x,r',_,h⟩:=byte_inv h
     obtain ⟨xs,r2,h⟩:=ih _ _ h
     exact ⟨_,_,h⟩
   obtain ⟨xs,r3,h⟩:=h4 _ _ _ h
   exact ⟨_,_,_,_,h⟩
  unfold rowP at h
  cases last with
  | true=>exact h3 h
  | false =>
   simp only [Bool.false_eq_true,if_false] at h
   obtain ⟨bd,r',_,_,h⟩:=str_inv h
   exact h3 h
 obtain ⟨bd,size,d,r',h2⟩:=key (rows_some h)
 split at h2
 ·exact ⟨bd,size,d,r',h2⟩
 ·cases h2
theorem rowsP_len:∀ {n:Nat} {acc rows:List RowT} {rest r:List Y},rowsP n acc rest r=some rows→rows.length=acc.length+n
 | 0,acc,rows,rest,r,h=>by rw [(rows_end h).2.2]; rfl
 | n+1,acc,rows,rest,r,h=>by
  obtain ⟨bd,size,d,r',h2⟩:=rowsP_inv h
  have:=rowsP_len h2
  rw [this,List.length_append]; simp; omega
theorem beg_len {root:Nat→Y} {m:Meta} {b:List Y} {rows:List RowT} {ix:List Y} (h:beginT root m b=some (rows,ix)):2≤rows.length:=by
 obtain ⟨y,_,hp⟩:=(beg_inv h).opn
 obtain ⟨n,r,_,_,hp⟩:=num_inv hp
 split at hp
 ·have:=rowsP_len hp
  simp at this; omega
 ·cases hp
theorem get_inv {root:Nat→Y} {m:Meta} {b:List Y} {user:ByteArray} {seq:BitVec 64} {R:Option Ent} (h:getT root m b user seq=some R) :
  ∃ rows ix f,beginT root m b=some (rows,ix)∧wholeT root (hdM m) (rows.getD (rows.length-1) rowZ) 1=some f∧(mayB f user=false→R=none) ∧
   (mayB f user=true→getG root (hdM m) rows user seq (rows.length-1-fromT user (rows.take (rows.length-1))) (fromT user (rows.take (rows.length-1)))=some R):=by
 unfold getT at h
 cases hb:beginT root m b with
 | none=>rw [hb] at h; cases h
 | some p =>
  obtain ⟨rows,ix⟩:=p
  rw [hb,Option.bind_some] at h
  simp only at h
  cases hf:wholeT root (hdM m) (rows.getD (rows.length-1) rowZ) 1 with
  | none=>rw [hf] at h; cases h
  | some f =>
   rw [hf,Option.bind_some] at h
   refine ⟨rows,ix,f,rfl,hf,fun q=>?_,fun q=>?_⟩
   ·rw [if_pos q] at h; exact (Option.some.inj h).symm
   rw [if_neg (by rw [q]; simp)] at h; exact h
theorem gg_step {root:Nat→Y} {hd:Hd} {rows:List RowT} {user:ByteArray} {seq:BitVec 64} {R:Option Ent} {n j:Nat} (hj:j<n) (h:getG root hd rows user seq (n-j) j=some R) :
  ∃ l,entsT root hd rows j=some l∧(l.find? (hitE user seq)=none→getG root hd rows user seq (n-(j+1)) (j+1)=some R)∧(∀ e,l.find? (hitE user seq)=some e→R=if e.user=user then some e else none):=by
 obtain ⟨m,hm⟩ : ∃ m,n-j=m+1:=⟨n-j-1,by omega⟩
 rw [hm,getG] at h
 cases hl:entsT root hd rows j with
 | none=>rw [hl] at h; cases h
 | some l =>
  rw [hl,Option.bind_some] at h
  refine ⟨l,rfl,fun q=>?_,fun e q=>?_⟩
  ·have e1:firstE l user seq=none:=q
   rw [e1] at h
   rw [show n-(j+1)=m by omega]; exact h
  have e1:firstE l user seq=some e:=q
  rw [e1] at h
  simp only at h
  split at h
  ·rename_i he; rw [if_pos he]; exact (Option.some.inj h).symm
  rename_i he; rw [if_neg he]; exact (Option.some.inj h).symm
theorem outB_ge (every:Nat) (l:List Ent):∀ k,k≤(outB every l k).length
 | 0=>Nat.zero_le _
 | k+1=>by
  have:=outB_ge every l k
  have h1:=num_pos (comB (lastB l k) (keyE (l.getD k Ent.zero)) (k%every == 0))
  unfold outB entB
  simp only [List.length_append]; omega
theorem read_len {y:List Y} {l:List Ent} (h:readB y=(l,0)):l.length≤y.length:=by
 unfold readB at h
 split at h
 ·rename_i l' hp
  simp only [Prod.mk.injEq,and_true] at h
  subst h
  obtain ⟨a,r,_,_,hp⟩:=num_inv hp
  obtain ⟨n,r2,_,_,hp⟩:=num_inv hp
  split at hp
  ·cases he:entsP n [] [] r2 with
   | none=>rw [he] at hp; cases hp
   | some l2 =>
    rw [he,Option.bind_some] at hp
    split at hp
    ·rename_i hb
     simp only [Option.some.injEq] at hp
     subst hp
     have hlen:y=blkL (a:Int).toNat l2:=by
      unfold buildB at hb
      split at hb
      ·simp only [Prod.mk.injEq] at hb; exact absurd hb.2 (by decide)
      ·split at hb
       ·simp only [Prod.mk.injEq] at hb; exact absurd hb.2 (by decide)
       ·simp only [Prod.mk.injEq] at hb; exact hb.1.symm
     have:=outB_ge (a:Int).toNat l2 l2.length
     rw [hlen]; unfold blkL
     rw [List.length_append,List.length_append]; omega
    ·cases hp
  ·cases hp
 ·simp only [Prod.mk.injEq] at h; exact absurd h.2 (by decide)
theorem gi_start {root:Nat→Y} {hd:Hd} {ps L:List (RowT×Sh)} {user:ByteArray} {seq:BitVec 64} {R:Option Ent} (hpl:1≤ps.length) (eL:L=ps.take (ps.length-1))
  (h:getG root hd (ps.map (·.1)) user seq (ps.length-1-fromT user ((ps.map (·.1)).take (ps.length-1))) (fromT user ((ps.map (·.1)).take (ps.length-1)))=some R) :
  (idxZ (notLt user) L = -1∧R=none)∨(0≤idxZ (notLt user) L∧idxZ (notLt user) L≤((ps.length-1:Nat):Int)∧getG root hd (ps.map (·.1)) user seq (ps.length-1-(idxZ (notLt user) L).toNat) (idxZ (notLt user) L).toNat=some R):=by
 have e1:(ps.map (·.1)).take (ps.length-1)=L.map (·.1):=by rw [eL,List.map_take]
 have e2:L.length=ps.length-1:=by rw [eL,List.length_take]; omega
 rw [e1] at h
 have hi:=from_idx (user:=user) L
 have hle:=from_le (user:=user) (L.map (·.1))
 rw [List.length_map] at hle
 split at hi
 ·rename_i q
  refine .inr ⟨by omega,by omega,?_⟩
  rw [hi,Int.toNat_natCast]; exact h
 rename_i q
 refine .inl ⟨hi,?_⟩
 rw [show ps.length-1-fromT user (L.map (·.1))=0 by omega,getG] at h
 exact (Option.some.inj h).symm
theorem gi_none {user:ByteArray} {seq:BitVec 64} {l:List Ent} (h:idxZ (hitE user seq) l<0):l.find? (hitE user seq)=none:=by
 rcases find_idx (p:=hitE user seq) l with ⟨_,h2⟩ | ⟨x,h1,_⟩
 ·exact h2
 ·omega
theorem gi_end {root:Nat→Y} {hd:Hd} {rows:List RowT} {user:ByteArray} {seq:BitVec 64} {R:Option Ent} {k:Int} {n:Nat} (hI:(k = -1∧R=none)∨(0≤k∧k≤(n:Int)∧getG root hd rows user seq (n-k.toNat) k.toNat=some R)) (hk:k<0∨(n:Int)≤k):R=none:=by
 rcases hI with ⟨_,h⟩ | ⟨h1,h2,h3⟩
 ·exact h
 ·rw [show n-k.toNat=0 by omega,getG] at h3
  exact (Option.some.inj h3).symm
def entKs:List CK:=[.str,.int .u64,.int .u8,.str]
theorem ent_conf {e:Ent} (h1:e.user.size≤1000000) (h2:e.value.size≤1000000):Conf entKs e.cells:=by
 refine .cons (.str ?_) (Conf.u64 (Conf.u8 (.cons (.str ?_) .nil)))
 all_goals (simp only [maxLen]; omega)
theorem lg_step {l:List Ent} {k:Nat} {x:Ent} (h:l[k]? = some x):wtE (l.take (k+1))=wtE (l.take k)+(x.user.size+x.value.size):=by
 have hk:=(List.getElem?_eq_some_iff.1 h).1
 rw [wtE_snoc hk,List.getD_eq_getElem?_getD,h]; rfl
theorem lg_no {l:List Ent} {k:Nat} {x:Ent} (h:l[k]? = some x) (c:300≤k∨50000<wtE (l.take k)+(x.user.size+x.value.size)):B (lightE l)=false:=B_false fun q=>by
 have hk:=(List.getElem?_eq_some_iff.1 h).1
 rcases c with c | c
 ·have:=q.1; omega
 ·rw [← lg_step h] at c
  have:=wtE_take l (k+1)
  have:=q.2; omega
theorem lg_yes {l:List Ent} {k:Nat} (hk:l.length≤k) (h1:k≤300) (h2:wtE (l.take k)≤50000):B (lightE l)=true:=B_true ⟨by omega,by rwa [List.take_of_length_le hk] at h2⟩
theorem info_wf {t:Tab} (o:t.Ok):t.info.wf:=by
 have hb:=o.bytes_le
 have hl:=o.light
 have hu:∀ i,(t.ents.getD i Ent.zero).user.size≤50000:=fun i=>by
  by_cases h:i<t.ents.length
  ·have:=wtE_at h; have:=hl.2; omega
  rw [List.getD_eq_getElem?_getD,List.getElem?_eq_none (by omega)]; decide
 have h1:=hu 0
 have h2:=hu (t.ents.length-1)
 have a1:=t.h.level.isLt; have a2:=t.h.gen.isLt; have a3:=t.h.epoch.isLt; have a4:=t.h.num.isLt
 have b1:=hl.1
 refine ⟨⟨?_,?_⟩,⟨?_,?_⟩,⟨?_,?_⟩,?_,?_,⟨?_,?_⟩,⟨?_,?_⟩,⟨?_,?_⟩,fun j hj=>?_⟩
 all_goals first
  | (show (firstU t.ents).size≤_; unfold firstU; omega)
  | (show (lastU t.ents).size≤_; unfold lastU; omega)
  |skip
 all_goals simp only [Tab.info]
 all_goals first
  |omega
  | (have:=(rootD t.leaves j).isLt; omega)
theorem ra_val {a b:Ent}:(lt a.user b.user||(a.user.toList == b.user.toList&&decide ((a.seq.toNat:Int) > (b.seq.toNat:Int))))=aheadE a b:=by
 unfold aheadE
 congr 2
 exact decide_eq_decide.2 (by omega)
theorem meta0_wf:Meta.zero.wf:=⟨⟨by decide,by decide⟩,⟨by decide,by decide⟩,⟨by decide,by decide⟩,by decide,by decide,⟨by decide,by decide⟩,⟨by decide,by decide⟩,⟨by decide,by decide⟩,fun _ _=>⟨by show (0:Int)≤0; decide,by show (0:Int)≤255; decide⟩⟩
def bsA:ByteArray:=⟨#[97]⟩
def bsB:ByteArray:=⟨#[98]⟩
def entA:Ent:=⟨bsA,5#64,0#8,ByteArray.empty⟩
def hdT:Hd:=⟨2#8,0#8,0#64,0#64,0#64⟩
theorem sh_bad {root:Nat→Y} {L:List Y} {m:Meta} {er:Int} {blk every bits:Int} (h:BuildR root hdT [] blk every bits L m er):er=1:=by
 rcases h with h | h
 ·exact h.2.2.2
 ·exact absurd (.inr (.inr (.inl rfl))) h.1
theorem sh_nb:¬ badT hdT [entA] 1 1:=by
 have h1:rightE entA=true:=by unfold rightE entA; simp only [ByteArray.toList_eq]; decide
 have h2:risesE [entA]=true:=risesE_yes (k:=0) (by simp) (fun i hi=>absurd hi (Nat.not_lt_zero _))
 rintro (h | h | h | h | h | h | h | ⟨e,he,h⟩ | h)
 ·exact h rfl
 ·exact absurd h (by decide)
 ·cases h
 ·omega
 ·omega
 ·omega
 ·omega
 ·obtain rfl:=List.mem_singleton.1 he; rw [h1] at h; cases h
 ·rw [h2] at h; cases h
theorem sh_light:lightE [entA]:=⟨by decide,by decide⟩
theorem sh_good {root:Nat→Y} {bits:Int} {L:List Y} {m:Meta} {er:Int} (h:BuildR root hdT [entA] 1 1 bits L m er) :
  er=0∧m.wf∧L.length≤150000∧∀ user seq,getT root m L user seq=some (tellE [entA] user seq):=by
 rcases h with h | ⟨hn,rfl,rfl,rfl⟩
 ·exact absurd h.1 sh_nb
 ·have g:=good_of (root:=root) (bits:=bits) sh_nb sh_light
  exact ⟨rfl,info_wf g.ok,g.ok.bytes_le,fun user seq=>by have e:=tells g (user:=user) (seq:=seq); have e2:(tabOf root hdT [entA] 1 1 bits).ents=[entA]:=cuts_flat 1 [entA]; rw [e2] at e; exact e⟩
theorem sh_a1:aheadE entA ⟨bsA,9#64,0,ByteArray.empty⟩=false:=by unfold aheadE lt; simp only [ByteArray.toList_eq]; decide
theorem sh_a2:aheadE entA ⟨bsA,4#64,0,ByteArray.empty⟩=true:=by unfold aheadE lt; simp only [ByteArray.toList_eq]; decide
theorem sh_a3:aheadE entA ⟨bsB,9#64,0,ByteArray.empty⟩=true:=by unfold aheadE lt; simp only [ByteArray.toList_eq]; decide
theorem sh_t1:tellE [entA] bsA 9#64=some entA:=by unfold tellE firstE; rw [List.find?_cons,sh_a1]; simp [entA]
theorem sh_t2:tellE [entA] bsA 4#64=none:=by unfold tellE firstE; rw [List.find?_cons,sh_a2]; rfl
theorem sh_t3:tellE [entA] bsB 9#64=none:=by unfold tellE firstE; rw [List.find?_cons,sh_a3]; rfl
def ofT (h:Hd) (b e i:Int):List Value:=[V h.kind,V h.level,uv .u64 h.gen,uv .u64 h.epoch,uv .u64 h.num,.int .i64 b,.int .i64 e,.int .i64 i]
theorem of_h {root:Nat→Y} {h:Hd} {b e i:Int}:((ba 32 root++ofT h b e i).drop 32).take 5=[V h.kind,V h.level,uv .u64 h.gen,uv .u64 h.epoch,uv .u64 h.num]:=by rw [List.drop_left' (ba_len _ _)]; rfl
theorem of_s {root:Nat→Y} {h:Hd} {b e i:Int}:((ba 32 root++ofT h b e i).drop 37).take 3=[.int .i64 b,.int .i64 e,.int .i64 i]:=by
 have:(ba 32 root++ofT h b e i).drop 37=(ofT h b e i).drop 5:=by
  rw [show (37:Nat)=(ba 32 root).length+5 by rw [ba_len],List.drop_append]; simp
 rw [this]; rfl
section
variable {root:Nat→Y} {h:Hd} {l:List Ent} {blk every bits er:Int} {L:List Y} {m:Meta}
theorem tb_get (hB:BuildR root h l blk every bits L m er) (hl:lightE l) (h0:er=0) :
  m.wf∧L.length≤150000∧(∀ user seq,getT root m L user seq=some (tellE l user seq))∧(∀ e∈l,rightE e=true):=by
 rcases hB with hB | ⟨hn,rfl,rfl,_⟩
 ·have:=hB.2.2.2; omega
 have g:=good_of (root:=root) (bits:=bits) hn hl
 have e2:(tabOf root h l blk every bits).ents=l:=cuts_flat blk l
 refine ⟨info_wf g.ok,g.ok.bytes_le,fun user seq=>?_,fun e he=>g.ents e (by rw [e2]; exact he)⟩
 have e:=tells g (user:=user) (seq:=seq)
 rw [e2] at e
 exact e
theorem tb_err (hB:BuildR root h l blk every bits L m er) (h0:¬ er=0):L=[]∧m=Meta.zero:=by
 rcases hB with hB | hB
 ·exact ⟨hB.2.1,hB.2.2.1⟩
 ·exact absurd hB.2.2.2 h0
end
end Go.Tan
namespace Go.Proofs.YtbdnclpopappeaaGreatDoor
open Go.Tan Go.RowKit
set_option maxRecDepth 100000
namespace Fx
theorem co139:Tryz.prog.cellsOf 139=1:=by kernel_rfl
theorem co192:Tryz.prog.cellsOf 192=64:=by kernel_rfl
theorem co26:Tryz.prog.cellsOf 26=5:=by kernel_rfl
theorem co5:Tryz.prog.cellsOf 5=1:=by kernel_rfl
theorem co24:Tryz.prog.cellsOf 24=1:=by kernel_rfl
theorem co28:Tryz.prog.cellsOf 28=3:=by kernel_rfl
theorem co3:Tryz.prog.cellsOf 3=1:=by kernel_rfl
theorem co47:Tryz.prog.cellsOf 47=4:=by kernel_rfl
theorem co9:Tryz.prog.cellsOf 9=1:=by kernel_rfl
theorem by47:Tryz.prog.bytesOf 47=48:=by kernel_rfl
theorem co30:Tryz.prog.cellsOf 30=40:=by kernel_rfl
theorem co23:Tryz.prog.cellsOf 23=32:=by kernel_rfl
end Fx
theorem gC:Tryz.prog.globalNamed "tantalus/sha.constants" = some 1:=by kernel_rfl
theorem gCT:(Tryz.prog.globals[1]?).map (·.type)=some 192:=by kernel_rfl
theorem gR:Tryz.prog.globalNamed "tantalus/tantalusref03.K" = some 0:=by kernel_rfl
theorem gRT:(Tryz.prog.globals[0]?).map (·.type)=some 192:=by kernel_rfl
def kInts:List Int:=[1116352408,1899447441,3049323471,3921009573,961987163,1508970993,2453635748,2870763221,3624381080,310598401,607225278,1426881987,1925078388,2162078206,2614888103,3248222580,3835390401,4022224774,264347078,604807628,770255983,1249150122,1555081692,1996064986,2554220882,2821834349,2952996808,3210313671,3336571891,3584528711,113926993,338241895,666307205,773529912,1294757372,1396182291,1695183700,1986661051,2177026350,2456956037,2730485921,2820302411,3259730800,3345764771,3516065817,3600352804,4094571909,275423344,430227734,506948616,659060556,883997877,958139571,1322822218,1537002063,1747873779,1955562222,2024104815,2227730452,2361852424,2428436474,2756734187,3204031479,3329325298]
theorem kInts_at:∀ j,j<64→kInts.getD j 0=((kW j).toNat:Int):=by decide
theorem tabC {W:World} {rest:List (String×DataW Unit)} (h:laidMet Tryz.prog (("tantalus/sha.constants",Rows.laid_tantalus_sha_constants) :: rest) W):RdNP (fun b=>W.heap[b]?) 1 0 (wa 64 kW) :=
 tab_rd (Lib.tabIs_of_head (zs:=kInts) (rest:=rest) gC gCT Tryz.underlying192 Tryz.underlying139 Fx.co139 Fx.co192 h) gC rfl kInts_at
theorem tabR {W:World} {x:String×DataW Unit} {rest:List (String×DataW Unit)} (h:laidMet Tryz.prog (x :: ("tantalus/tantalusref03.K",Rows.laid_tantalus_tantalusref03_K) :: rest) W):RdNP (fun b=>W.heap[b]?) 0 0 (wa 64 kW) :=
 tab_rd (Lib.tabIs_of_head (zs:=kInts) (rest:=rest) gR gRT Tryz.underlying192 Tryz.underlying139 Fx.co139 Fx.co192 (laid_tail h)) gR rfl kInts_at
def kCells:Array Value:=#[.int .u32 1116352408,.int .u32 1899447441,.int .u32 3049323471,.int .u32 3921009573,.int .u32 961987163,.int .u32 1508970993,.int .u32 2453635748,.int .u32 2870763221,.int .u32 3624381080,.int .u32 310598401,.int .u32 607225278,.int .u32 1426881987,.int .u32 1925078388,.int .u32 2162078206,.int .u32 2614888103,.int .u32 3248222580,.int .u32 3835390401,.int .u32 4022224774,.int .u32 264347078,.int .u32 604807628,.int .u32 770255983,.int .u32 1249150122,.int .u32 1555081692,.int .u32 1996064986,.int .u32 2554220882,.int .u32 2821834349,.int .u32 2952996808,.int .u32 3210313671,.int .u32 3336571891,.int .u32 3584528711,.int .u32 113926993,.int .u32 338241895,.int .u32 666307205,.int .u32 773529912,.int .u32 1294757372,.int .u32 1396182291,.int .u32 1695183700,.int .u32 1986661051,.int .u32 2177026350,.int .u32 2456956037,.int .u32 2730485921,.int .u32 2820302411,.int .u32 3259730800,.int .u32 3345764771,.int .u32 3516065817,.int .u32 3600352804,.int .u32 4094571909,.int .u32 275423344,.int .u32 430227734,.int .u32 506948616,.int .u32 659060556,.int .u32 883997877,.int .u32 958139571,.int .u32 1322822218,.int .u32 1537002063,.int .u32 1747873779,.int .u32 1955562222,.int .u32 2024104815,.int .u32 2227730452,.int .u32 2361852424,.int .u32 2428436474,.int .u32 2756734187,.int .u32 3204031479,.int .u32 3329325298]
def setO:Obj→Obj
 | .cells _ t frozen=>.cells kCells t frozen
 | o=>o
noncomputable def laidWorld (os:Os):World :=
 { World.holding Tryz.prog os ⟨#[], #[],[]⟩ with heap:=((World.holding Tryz.prog os ⟨#[], #[],[]⟩).heap.modify 0 setO).modify 1 setO }
section
variable {H:Type} {R:Nat} {enc:TypeId×Value→H} {W:World} {cs:List Value}
theorem split5 (hl:cs.length=5) {a b c d e:Value} (h0:(cs.drop 0).take 1=[a]) (h1:(cs.drop 1).take 1=[b]) (h2:(cs.drop 2).take 1=[c]) (h3:(cs.drop 3).take 1=[d]) (h4:(cs.drop 4).take 1=[e]):cs=[a,b,c,d,e]:=by
 match cs,hl with
 | [p,q,r,s,t],_=>simp at h0 h1 h2 h3 h4; rw [h0,h1,h2,h3,h4]
theorem split4 (hl:cs.length=4) {a b c d:Value} (h0:(cs.drop 0).take 1=[a]) (h1:(cs.drop 1).take 1=[b]) (h2:(cs.drop 2).take 1=[c]) (h3:(cs.drop 3).take 1=[d]):cs=[a,b,c,d]:=by
 match cs,hl with
 | [p,q,r,s],_=>simp at h0 h1 h2 h3; rw [h0,h1,h2,h3]
theorem split3 (hl:cs.length=3) {a b c:Value} (h0:(cs.drop 0).take 1=[a]) (h1:(cs.drop 1).take 1=[b]) (h2:(cs.drop 2).take 1=[c]):cs=[a,b,c]:=by
 match cs,hl with
 | [p,q,r],_=>simp at h0 h1 h2; rw [h0,h1,h2]
theorem splitO (hl:cs.length=40) {a b c:List Value} (h0:(cs.drop 0).take 32=a) (h1:(cs.drop 32).take 5=b) (h2:(cs.drop 37).take 3=c):cs=a++(b++c):=by
 rw [← h0,←h1,←h2,List.drop_zero]
 have e1:cs.drop 37=(cs.drop 32).drop 5:=by rw [List.drop_drop]
 rw [e1,List.take_of_length_le (l:=(cs.drop 32).drop 5) (by simp [hl]),List.take_append_drop,List.take_append_drop]
theorem head_of (h:Rg R enc Tryz.prog W 26 cs):∃ hd:Hd,cs=[V hd.kind,V hd.level,uv .u64 hd.gen,uv .u64 hd.epoch,uv .u64 hd.num]:=by
 have hl:=h.len Tryz.underlying26
 rw [Fx.co26] at hl
 obtain ⟨a,ha⟩:=(h.fld Tryz.underlying26 0 5 0 rfl Fx.co5).uw rfl Tryz.underlying5
 obtain ⟨b,hb⟩:=(h.fld Tryz.underlying26 1 5 1 rfl Fx.co5).uw rfl Tryz.underlying5
 obtain ⟨c,hc⟩:=(h.fld Tryz.underlying26 2 24 2 rfl Fx.co24).uw rfl Tryz.underlying24
 obtain ⟨d,hd⟩:=(h.fld Tryz.underlying26 3 24 3 rfl Fx.co24).uw rfl Tryz.underlying24
 obtain ⟨e,he⟩:=(h.fld Tryz.underlying26 4 24 4 rfl Fx.co24).uw rfl Tryz.underlying24
 exact ⟨⟨a,b,c,d,e⟩,split5 hl ha hb hc hd he⟩
theorem shape_of (h:Rg R enc Tryz.prog W 28 cs):∃ a b c:Int,cs=[.int .i64 a,.int .i64 b,.int .i64 c]:=by
 have hl:=h.len Tryz.underlying28
 rw [Fx.co28] at hl
 obtain ⟨a,ha,_⟩:=(h.fld Tryz.underlying28 0 3 0 rfl Fx.co3).int Tryz.underlying3
 obtain ⟨b,hb,_⟩:=(h.fld Tryz.underlying28 1 3 1 rfl Fx.co3).int Tryz.underlying3
 obtain ⟨c,hc,_⟩:=(h.fld Tryz.underlying28 2 3 2 rfl Fx.co3).int Tryz.underlying3
 exact ⟨a,b,c,split3 hl ha hb hc⟩
theorem ent_of (h:Rg R enc Tryz.prog W 47 cs):∃ e:Ent,cs=e.cells∧e.user.size≤R∧e.value.size≤R:=by
 have hl:=h.len Tryz.underlying47
 rw [Fx.co47] at hl
 obtain ⟨a,ha,wa⟩:=(h.fld Tryz.underlying47 0 9 0 rfl Fx.co9).str Tryz.underlying9
 obtain ⟨b,hb⟩:=(h.fld Tryz.underlying47 1 24 1 rfl Fx.co24).uw rfl Tryz.underlying24
 obtain ⟨c,hc⟩:=(h.fld Tryz.underlying47 2 5 2 rfl Fx.co5).uw rfl Tryz.underlying5
 obtain ⟨d,hd,wd⟩:=(h.fld Tryz.underlying47 3 9 3 rfl Fx.co9).str Tryz.underlying9
 exact ⟨⟨a,b,c,d⟩,split4 hl ha hb hc hd,wa,wd⟩
theorem ents_of (hR:R≤140737488351232) (h:Rg R enc Tryz.prog W 31 cs):∃ (hd:Sh) (l:List Ent),cs=[hd.val l.length]∧SlR (fun b=>W.heap[b]?) 4 Ent.cells hd l:=by
 obtain ⟨hd,l,h1,h2,_⟩:=h.sl Ent.cells (fun e=>e.user.size≤R∧e.value.size≤R) Tryz.underlying31 Fx.co47 (by decide) Fx.by47 (fun cs' h'=>ent_of h')
 exact ⟨hd,l,h1,h2⟩
theorem of17_of (h:Rg R enc Tryz.prog W 30 cs):∃ (root:Nat→Y) (hd:Hd) (a b c:Int),cs=ba 32 root++ofT hd a b c:=by
 have hl:=h.len Tryz.underlying30
 rw [Fx.co30] at hl
 obtain ⟨r,hr⟩:=(h.fld Tryz.underlying30 0 23 0 rfl Fx.co23).ba Tryz.underlying23 Tryz.underlying5 Fx.co5 Fx.co23
 obtain ⟨hd,hh⟩:=head_of (h.fld Tryz.underlying30 1 26 32 rfl Fx.co26)
 obtain ⟨a,b,c,hs⟩:=shape_of (h.fld Tryz.underlying30 2 28 37 rfl Fx.co28)
 exact ⟨r,hd,a,b,c,splitO hl hr hh hs⟩
theorem agg_of {t:TypeId} {fs:Array Field} {base:Nat} {v:Value} (ht:Tryz.prog.underlying t=some (.struct fs)) (h:Value.okWide Tryz.prog W .any base t v) {l:List Value} (hl:v.cells.toList=l):v=.agg l.toArray:=by
 unfold Value.okWide at h
 rw [ht] at h
 obtain ⟨c,rfl,_⟩:=h
 rw [← hl]; rfl
theorem one_of {v u:Value} (h:v.cells.toList=[u]) (hu:u.oneCell'=true) (hn:∀ c,v≠.agg c):v=u:=by
 cases v<;>first|(exact absurd rfl (hn _))|(simp [Value.cells] at h; exact h)
theorem sl_of {t e:TypeId} {base:Nat} {v u:Value} (ht:Tryz.prog.underlying t=some (.slice e)) (h:Value.okWide Tryz.prog W .any base t v) (hl:v.cells.toList=[u]) (hu:u.oneCell'=true):v=u:=by
 refine one_of hl hu fun c hc=>?_
 subst hc
 unfold Value.okWide at h
 rw [ht] at h
 simp [Cell.okWide,ht,Cell.ok] at h
end
theorem tanOwn:ownKnob Tryz.prog.godebug=none:=by kernel_rfl
theorem tanLaid:laidOutB Tryz.prog=true:=by kernel_rfl
end Go.Proofs.YtbdnclpopappeaaGreatDoor
namespace Go.Tan
open Go.RowKit
section
variable {root:Nat→Y} {h:Hd} {x:RowT} {part i:Nat} {L y:List Y} {rows:List RowT} {l:List Ent} {e:Int}
end
section
variable {root:Nat→Y} {m:Meta} {xs y L A ix:List Y} {h:Hd} {e:Int} {n k:Nat} {O:Option (List RowT)}
end
section
variable {acc:List RowT} {A R:List Y} {n k:Nat} {O:Option (List RowT)}
end
section
variable {root:Nat→Y} {m:Meta} {b ix f:List Y} {rows:List RowT} {hd:Hd} {acc x:List Ent} {n j k:Nat} {X:Option (List Ent)} {K:List Ent→Option (List Ent)}
end
section
variable {root:Nat→Y} {m:Meta} {b ix f:List Y} {rows:List RowT} {user:ByteArray} {seq:BitVec 64} {Q:Option (Option Ent)} {hd:Hd}
end
section
variable {dr:Bool} {mc:Md} {P:Program} {n:Fm} {l:List Oper} {K:Env→PM→Mem→Prop} {i:Nat} {σ:List Nat} {ρ:Env} {G:PM} {μ:Mem}
variable {d t:Nat} {p:String} {af:Array Edge} {g:Option (Nat×Bool)} {c:Bool}
theorem b2 {T E sz by':Nat} {x y:Operand} {v u z:Value} {cs ds:List Value} (ho:nth l i=some ⟨some d,.buildSlice T 2 #[(0,x),(1,y)],t,p,af,none⟩) (hT:slE P T=some (E,sz,by')) (hz:(P.info? E).bind (·.zero)=some z) (hx:Ev ρ true x v) (hy:Ev ρ true y u) (hv:v.cells=cs.toArray) (hu:u.cells=ds.toArray) (hl:cs.length=sz) (hl2:ds.length=sz) (h0:0<sz∧sz≤8388608)
  (h:∀ b,Wo dr mc P n l K σ ((d,true,.slice (some ⟨b,0,none⟩) 2 2) :: ρ) G (.blk b (cl (cs++ds) E) :: μ)):Wo dr mc P n l K (i :: σ) ρ G μ:=by
 refine bSg (ps:=[(0,x),(1,y)]) (vs:=[(0,v),(1,u)]) (cs:=cs++ds) ho .no hT (fun a ha hc=>by simp [hx.eval ha hc,hy.eval ha hc]) ?_ h
 obtain ⟨hu',inf,hi,rfl,_⟩:=slE_some hT
 rw [hi] at hz
 simp only [Option.bind_some] at hz
 simp only [builtSl,hu',hi,hz]
 rw [if_neg (by omega)]
 generalize ha:(Array.range (2*inf.size)).map (z.cells[·%z.cells.size]!)=arr
 have hs:arr.toList.length=2*inf.size:=by rw [← ha]; simp
 have h2:=fill_step (place:=fun j=>some (j*inf.size,inf.size)) (cs:=arr.toList) (j:=0) (off:=0) (size:=inf.size) (rest:=[(1,u)]) (by simp) hv hl (by omega)
 simp only [Array.toArray_toList] at h2
 rw [h2]
 have e1:arr.toList.take 0++cs++arr.toList.drop (0+cs.length)=cs++arr.toList.drop inf.size:=by rw [hl]; simp
 rw [e1]
 have h3:=fill_step (place:=fun j=>some (j*inf.size,inf.size)) (cs:=cs++arr.toList.drop inf.size) (j:=1) (off:=inf.size) (size:=inf.size) (rest:=[]) (by simp) hu hl2 (by rw [List.length_append,List.length_drop]; omega)
 rw [h3]
 have e2:(cs++arr.toList.drop inf.size).take inf.size=cs:=List.take_left' hl
 have e3:(cs++arr.toList.drop inf.size).drop (inf.size+ds.length)=[]:=List.drop_of_length_le (by rw [List.length_append,List.length_drop]; omega)
 rw [e2,e3]
 simp [Instr.fill]
theorem apSm {α:Type} {enc:α→List Value} {sz T E by' b cp:Nat} {x y:Operand} {v z:Value} {xs:List α} {cs:List Value} {μ' μ2:Mem} (ys:List α) (k:Nat) (hk:ys.length=k) (hc:cs=ys.flatMap enc) (ho:nth l i=some ⟨some d,.call { callee:=.builtin .append,args:=#[x,y],argTypes:=#[T,T] },t,p,af,none⟩)
  (hT:slE P T=some (E,sz,by')) (hz:(P.info? E).bind (·.zero)=some z) (hzs:z.cells.size=sz) (hx:Ev ρ true x v) (hy:Ev ρ true y (.slice (some ⟨b,0,none⟩) k cp)) (hm:MTake μ (rS sz enc v E xs) μ') (hb:MTake μ (.blk b (cl cs E)) μ2) (ha:∀ a∈ys,(enc a).length=sz) (h1:∀ u∈cs,u.oneCell'=true) (hl:(xs.length+k)*by'≤140737488355328) (hl2:xs.length+k≤maxLen)
  (h:∀ v',v'.oneCell'=true→Wo dr mc P n l K σ ((d,true,v') :: ρ) G (rS sz enc v' E (xs++ys) :: μ')) (hmc:mc.a=false∨dr=false:=by first|exact .inl rfl|exact .inr rfl):Wo dr mc P n l K (i :: σ) ρ G μ:=by
 have hlen:cs.length=k*sz:=by rw [hc,flat_len ha,hk]
 refine .act (μ₁:=[rS sz enc v E xs]) (μ₂:=μ') (post:=fun G' μ' v'=>G'=G∧v'.oneCell'=true∧μ'=[rS sz enc v' E (xs++ys)]) ho (by rcases hmc with h | h<;>simp [kindOf,h]) .no hm.perm (fun q w hq hs=>.inl ?_) ?_
 ·obtain ⟨v',w',hrun,ht⟩:=run_ap (ty:=t) (cp:=cp) (news:=cs) (k:=k) (oa:=some ⟨b,0,none⟩) hT hz hzs hs.left hlen (fun _=>⟨b,0,rfl,fun j u hj=>(RdN.own hb) j u hj w (hs.perm hm.perm.symm)⟩) h1 hl hl2
  refine ⟨v',w',G,[rS sz enc v' E (xs++ys)],.inl (by simp [execOp,resolve,invoke,builtin,hx.eval hq rfl,hy.eval hq rfl,hrun]),?_,rfl,ht.sat.rowOne,rfl⟩
  simp only [rS,List.length_append,List.flatMap_append]; rw [hk,←hc]; exact ht
 rintro v' G' μ'' _ ⟨rfl,h1,rfl⟩
 exact h v' h1
end
end Go.Tan
