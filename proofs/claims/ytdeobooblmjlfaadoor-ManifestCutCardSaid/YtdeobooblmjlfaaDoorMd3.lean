/- Lemmas and contracts of functions, joined. -/
import Derived.Test.YtdeobooblmjlfaaDoorMd2
import Derived.Lib.AppendStr
import Derived.Laws.IdiomStrings
set_option linter.unusedSimpArgs false
set_option linter.unusedVariables false
set_option linter.unusedSectionVars false
namespace Go.Tan
open Go.RowKit
inductive CK where
 | int (k:IntKind)
 | str
 | bool
 deriving DecidableEq
def litOf:Value→Lit
 | .int k n=>.int k n
 | .string s=>.string s.data.toList
 | .bool b=>.bool b
 | _=>.bool false
inductive CkOk:CK→Value→Prop where
 | int {k:IntKind} {n:Int} (h1:k.min≤n) (h2:n≤k.max):CkOk (.int k) (.int k n)
 | str {s:ByteArray} (h:s.size≤maxLen):CkOk .str (.string s)
 | bool {b:Bool}:CkOk .bool (.bool b)
inductive Conf:List CK→List Value→Prop where
 | nil:Conf [] []
 | cons {k v ks cs} (h:CkOk k v) (r:Conf ks cs):Conf (k :: ks) (v :: cs)
theorem CkOk.u {k:IntKind} (hk:k.signed=false) (x:BitVec k.bits):CkOk (.int k) (uv k x):=by
 have:=x.isLt
 refine .int ?_ ?_
 ·rw [min_u hk]; omega
 rw [max_u hk]
 have h2:((2^k.bits:Nat):Int)=(2:Int)^k.bits:=by simp
 omega
theorem Conf.len {ks:List CK} {cs:List Value} (h:Conf ks cs):cs.length=ks.length:=by
 induction h with
 | nil=>rfl
 | cons _ _ ih=>simp [ih]
theorem Conf.app {ks ks':List CK} {cs cs':List Value} (h:Conf ks cs) (h':Conf ks' cs'):Conf (ks++ks') (cs++cs'):=by
 induction h with
 | nil=>exact h'
 | cons h1 _ ih=>exact .cons h1 ih
theorem Conf.split {ks ks':List CK}:∀ {cs:List Value},Conf (ks++ks') cs→Conf ks (cs.take ks.length)∧Conf ks' (cs.drop ks.length):=by
 induction ks with
 | nil=>intro cs h; exact ⟨by simpa using Conf.nil,by simpa using h⟩
 | cons k ks ih =>
  intro cs h
  cases h with
  | cons h1 r =>
   obtain ⟨h2,h3⟩:=ih r
   exact ⟨.cons h1 h2,h3⟩
theorem Conf.one {ks:List CK} {cs:List Value} (h:Conf ks cs):∀ u∈cs,u.oneCell'=true:=by
 induction h with
 | nil=>intro u hu; cases hu
 | cons h1 _ ih =>
  intro u hu
  rcases List.mem_cons.1 hu with rfl | hu
  ·cases h1<;>rfl
  ·exact ih u hu
theorem Conf.inj {ks:List CK} {cs cs':List Value} (h:Conf ks cs) (h':Conf ks cs') (e:cs.map litOf=cs'.map litOf):cs=cs':=by
 induction h generalizing cs' with
 | nil=>cases h'; rfl
 | cons h1 _ ih =>
  cases h' with
  | cons h2 r2 =>
   simp only [List.map_cons,List.cons.injEq] at e
   rw [ih r2 e.2]
   congr 1
   cases h1 with
   | int _ _=>cases h2 with | int _ _=>have:=e.1; simp only [litOf,Lit.int.injEq,true_and] at this; rw [this]
   | @str s1 _=>cases h2 with
    | @str s2 _ =>
     have:=e.1
     simp only [litOf,Lit.string.injEq] at this
     have h3:s1.data=s2.data:=by
      have:=congrArg List.toArray this
      simpa using this
     obtain ⟨d1⟩:=s1
     obtain ⟨d2⟩:=s2
     simp only at h3
     rw [h3]
   | bool=>cases h2 with | bool=>have:=e.1; simp only [litOf,Lit.bool.injEq] at this; rw [this]
def shpF (P:Program) (f:TypeId→Option (List CK)):Nat→List Field→Option (List CK)
 | _,[]=>some []
 | o,fl :: r=>match f fl.type with
  | some ks=>if fl.offset=o∧P.cellsOf fl.type=ks.length then (shpF P f (o+ks.length) r).map (ks++·) else none
  | none=>none
def shp (P:Program):Nat→TypeId→Option (List CK)
 | 0,_=>none
 | d+1,t=>match P.underlying t with
  | some (.int k)=>some [.int k]
  | some .string=>some [.str]
  | some .bool=>some [.bool]
  | some (.array n e)=>match shp P d e with
   | some ks=>if P.cellsOf e=ks.length∧P.cellsOf t=n*ks.length then some (List.replicate n ks).flatten else none
   | none=>none
  | some (.struct fs)=>match shpF P (shp P d) 0 fs.toList with
   | some ks=>if P.cellsOf t=ks.length∧fs.all (·.name != "_")=true then some ks else none
   | none=>none
  | _=>none
theorem conf_rep {ks:List CK}:∀ {n:Nat} {cs:List Value},Conf (List.replicate n ks).flatten cs→∀ i,i<n→Conf ks ((cs.drop (i*ks.length)).take ks.length)
 | 0,_,_,i,hi=>by omega
 | n+1,cs,h,i,hi=>by
  rw [List.replicate_succ,List.flatten_cons] at h
  obtain ⟨h1,h2⟩:=h.split
  cases i with
  | zero=>simpa using h1
  | succ i =>
   have:=conf_rep h2 i (by omega)
   rw [List.drop_drop] at this
   rwa [Nat.succ_mul,Nat.add_comm]
theorem chunks {α:Type} {f:Value→α} {L:Nat}:∀ {n:Nat} {cs:List Value},cs.length=n*L→((List.range n).map fun i=>((cs.drop (i*L)).take L).map f).flatten=cs.map f
 | 0,cs,h=>by
  obtain rfl:cs=[]:=List.eq_nil_of_length_eq_zero (by simpa using h)
  rfl
 | n+1,cs,h=>by
  rw [List.range_succ_eq_map,List.map_cons,List.flatten_cons,List.map_map,Nat.zero_mul,List.drop_zero]
  have h2:=chunks (f:=f) (L:=L) (n:=n) (cs:=cs.drop L) (by rw [List.length_drop,h,Nat.succ_mul]; omega)
  have e:(List.map ((fun i=>List.map f (List.take L (List.drop (i*L) cs))) ∘ Nat.succ) (List.range n))=(List.range n).map fun i=>(((cs.drop L).drop (i*L)).take L).map f:=by
   apply List.map_congr_left
   intro i _
   simp only [Function.comp,List.drop_drop,Nat.succ_mul,Nat.add_comm]
  rw [e,h2,←List.map_append,List.take_append_drop]
theorem mapM_all {α β:Type} {f:α→Option β} {g:α→β}:∀ {l:List α},(∀ x∈l,f x=some (g x))→l.mapM f=some (l.map g)
 | [],_=>by simp
 | x :: l,h=>by simp [List.mapM_cons,h x (List.mem_cons_self ..),mapM_all (l:=l) fun z hz=>h z (List.mem_cons_of_mem _ hz)]
section
variable {P:Program}
theorem conf_fields {d:Nat} (ih:∀ t ks cs,shp P d t=some ks→Conf ks cs→P.keyLits d t cs=some (cs.map litOf)):∀ (fs:List Field) (o:Nat) (ks:List CK) (cs:List Value),shpF P (shp P d) o fs=some ks→Conf ks (cs.drop o) →
  ∃ r,fs.mapM (fun f=>P.keyLits d f.type ((cs.drop f.offset).take (P.cellsOf f.type)))=some r∧r.flatten=(cs.drop o).map litOf
 | [],o,ks,cs,h,hc=>by
  simp only [shpF,Option.some.injEq] at h
  subst h
  have:=hc.len
  exact ⟨[],by simp,by rw [List.eq_nil_of_length_eq_zero this]; rfl⟩
 | fl :: r,o,ks,cs,h,hc=>by
  simp only [shpF] at h
  split at h
  ·rename_i ks1 h1
   split at h
   ·rename_i h2
    cases h3:shpF P (shp P d) (o+ks1.length) r with
    | none=>rw [h3] at h; cases h
    | some ks2 =>
     rw [h3] at h
     simp only [Option.map_some,Option.some.injEq] at h
     subst h
     obtain ⟨c1,c2⟩:=hc.split
     rw [List.drop_drop] at c2
     obtain ⟨rr,hr1,hr2⟩:=conf_fields ih r (o+ks1.length) ks2 cs h3 c2
     have hk:=ih fl.type ks1 _ h1 c1
     refine ⟨((cs.drop o).take ks1.length).map litOf :: rr,?_,?_⟩
     ·rw [List.mapM_cons,h2.1,h2.2,hk,hr1]; rfl
     rw [List.flatten_cons,hr2,←List.map_append,←List.drop_drop,List.take_append_drop]
   cases h
  cases h
theorem conf_lits:∀ (d:Nat) (t:TypeId) (ks:List CK) (cs:List Value),shp P d t=some ks→Conf ks cs→P.keyLits d t cs=some (cs.map litOf)
 | 0,_,_,_,h,_=>by cases h
 | d+1,t,ks,cs,h,hc=>by
  simp only [shp] at h
  unfold Program.keyLits
  split at h
  ·rename_i k hu
   simp only [Option.some.injEq] at h
   subst h
   cases hc with
   | cons h1 r=>cases r; cases h1 with | int a b=>simp [hu,Lit.wf,a,b,litOf]
  ·rename_i hu
   simp only [Option.some.injEq] at h
   subst h
   cases hc with
   | cons h1 r=>cases r; cases h1 with | str a=>simp [hu,a,litOf]
  ·rename_i hu
   simp only [Option.some.injEq] at h
   subst h
   cases hc with
   | cons h1 r=>cases r; cases h1 with | bool=>simp [hu,litOf]
  ·rename_i n e hu
   split at h
   ·rename_i ks1 h1
    split at h
    ·rename_i h2
     simp only [Option.some.injEq] at h
     subst h
     have hl:cs.length=n*ks1.length:=by
      rw [hc.len]; simp
     have hm:=mapM_all (l:=List.range n) (f:=fun i=>P.keyLits d e ((cs.drop (i*P.cellsOf e)).take (P.cellsOf e))) (g:=fun i=>((cs.drop (i*ks1.length)).take ks1.length).map litOf)
      (fun i hi=>by rw [h2.1]; exact conf_lits d e ks1 _ h1 (conf_rep hc i (List.mem_range.1 hi)))
     rw [hu]
     simp only [hl,h2.2,if_true,hm,Option.map_some,chunks hl]
    ·cases h
   ·cases h
  ·rename_i fs hu
   split at h
   ·rename_i ks1 h1
    split at h
    ·rename_i h2
     simp only [Option.some.injEq] at h
     subst h
     obtain ⟨r,hr1,hr2⟩:=conf_fields (conf_lits d) fs.toList 0 ks1 cs h1 (by simpa using hc)
     rw [hu]
     simp only [hc.len,h2.1,h2.2,and_self,if_true,hr1,Option.map_some,hr2,List.drop_zero]
    ·cases h
   ·cases h
  ·cases h
def eqT (P:Program) (m:Nat) (T:TypeId) (ks:List CK):Bool :=
 (match shp P m T with | some k=>k == ks | none=>false)&&P.keyTypeAt m T && !P.eqGuardType P.depth T&&Nat.ble m 10000&&(match P.underlying T with | some (.struct _) | some (.array _ _)=>Nat.beq (P.cellsOf T) ks.length | _=>false)
theorem run_eqC {T m:Nat} {ks:List CK} {cs cs':List Value} {r:Bool} (hT:eqT P m T ks=true) (h1:Conf ks cs) (h2:Conf ks cs') (hr:r=true↔cs=cs') (w:World) :
  (Op.equal T (.agg cs.toArray) (.agg cs'.toArray)).run P w=.ok r w∧P.eqGuardType P.depth T=false:=by
 simp only [eqT,Bool.and_eq_true,Bool.not_eq_true'] at hT
 obtain ⟨⟨⟨⟨hs,hk⟩,hg⟩,hm⟩,hf⟩:=hT
 have hs':shp P m T=some ks:=by
  split at hs
  ·rename_i k hk'; rw [hk',beq_iff_eq.1 hs]
  ·cases hs
 have hm:=Nat.le_of_ble_eq_true hm
 have hform:∀ cs:List Value,Conf ks cs→(Value.agg cs.toArray).formed P T=true:=by
  intro cs hc
  have hl:=hc.len
  simp only [Value.formed]
  split at hf<;>rename_i hu<;>first|(rw [hu]; have:=Nat.eq_of_beq_eq_true hf; simp [this,hl]) | cases hf
 obtain ⟨r',hr',hiff⟩:=run_equalIn_deep (10000-m) m T hk w m m (.agg cs.toArray) (.agg cs'.toArray) (cs.map litOf) (cs'.map litOf) (hform _ h1) (hform _ h2) (by simpa [Value.cells] using conf_lits m T ks cs hs' h1) (by simpa [Value.cells] using conf_lits m T ks cs' hs' h2)
 rw [show 10000-m+m=10000 by omega] at hr'
 have e:r'=r:=by
  have h3:r'=true↔r=true:=by
   rw [hiff,hr]
   exact ⟨fun e=>h1.inj h2 e,fun e=>by rw [e]⟩
  cases r<;>cases r'<;>simp_all
 subst e
 exact ⟨hr',hg⟩
variable {dr:Bool} {mc:Md} {n:Nat} {l:List Oper} {K:Env→PM→Mem→Prop} {i:Nat} {σ:List Nat} {ρ:Env} {G:PM} {μ:Mem}
variable {d t:Nat} {p:String} {af:Array Edge} {g:Option (Nat×Bool)} {c:Bool}
theorem eqC {T T' m:Nat} {x y:Operand} {ks:List CK} {cs cs':List Value} (r:Bool) (ho:nth l i=some ⟨some d,.binOp .eql T x y T',t,p,af,g⟩) (hg:Gd l ρ g c) (hT:eqT P m T ks=true) (hx:Ev ρ c x (.agg cs.toArray)) (hy:Ev ρ c y (.agg cs'.toArray))
  (h1:c=true→Conf ks cs) (h2:c=true→Conf ks cs') (hr:c=true→(r=true↔cs=cs')) (h:Wo dr mc P n l K σ ((d,c,.bool r) :: ρ) G μ):Wo dr mc P n l K (i :: σ) ρ G μ :=
 .pure ho (.inl rfl) hg (fun hc a w ha=>by
  obtain ⟨h3,h4⟩:=run_eqC hT (h1 hc) (h2 hc) (hr hc) w
  simp [execOp,hx.eval ha hc,hy.eval ha hc,eqGuard_agg h4,binOp,h3]) h
theorem nqC {T T' m:Nat} {x y:Operand} {ks:List CK} {cs cs':List Value} (r:Bool) (ho:nth l i=some ⟨some d,.binOp .neq T x y T',t,p,af,g⟩) (hg:Gd l ρ g c) (hT:eqT P m T ks=true) (hx:Ev ρ c x (.agg cs.toArray)) (hy:Ev ρ c y (.agg cs'.toArray))
  (h1:c=true→Conf ks cs) (h2:c=true→Conf ks cs') (hr:c=true→(r=true↔cs=cs')) (h:Wo dr mc P n l K σ ((d,c,.bool (!r)) :: ρ) G μ):Wo dr mc P n l K (i :: σ) ρ G μ :=
 .pure ho (.inl rfl) hg (fun hc a w ha=>by
  obtain ⟨h3,h4⟩:=run_eqC hT (h1 hc) (h2 hc) (hr hc) w
  simp [execOp,hx.eval ha hc,hy.eval ha hc,eqGuard_agg h4,binOp,h3]) h
end
theorem Conf.u8 {y:Y} {ks:List CK} {cs:List Value} (h:Conf ks cs):Conf (.int .u8 :: ks) (V y :: cs):=.cons (CkOk.u (k:=.u8) rfl y) h
theorem Conf.u64 {y:BitVec 64} {ks:List CK} {cs:List Value} (h:Conf ks cs):Conf (.int .u64 :: ks) (uv .u64 y :: cs):=.cons (CkOk.u (k:=.u64) rfl y) h
theorem Conf.ba (n:Nat) (f:Nat→Y):Conf (List.replicate n (.int .u8)) (ba n f):=by
 have key:∀ xs:List Nat,Conf (List.replicate xs.length (.int .u8)) (xs.map fun i=>V (f i)):=by
  intro xs
  induction xs with
  | nil=>exact .nil
  | cons x xs ih=>exact Conf.u8 ih
 have:=key (List.range n)
 rw [List.length_range] at this
 exact this
end Go.Tan
namespace Go.Tan
open Go.RowKit Go.Lib
def yb (s:ByteArray):List Y:=s.toList.map fun x=>BitVec.ofNat 8 x.toNat
theorem bstr_yb (s:ByteArray):bstr (yb s)=s:=by
 have h:(bstr (yb s)).data.toList=s.data.toList:=by
  rw [bstr_data,yb,ByteArray.toList_eq,List.map_map]
  conv=>rhs; rw [← List.map_id s.data.toList]
  refine List.map_congr_left fun x _=>?_
  simp only [Function.comp,id]
  have:=x.toNat_lt
  rw [BitVec.toNat_ofNat,Nat.mod_eq_of_lt (by omega)]
  simp
 have h2:(bstr (yb s)).data=s.data:=by
  have:=congrArg List.toArray h
  simpa using this
 obtain ⟨d⟩:=s
 cases hb:bstr (yb ⟨d⟩) with
 | mk d'=>rw [hb] at h2; simp only at h2; rw [h2]
theorem yb_bstr (xs:List Y):yb (bstr xs)=xs:=bstr_inj (bstr_yb _)
theorem yb_len (s:ByteArray):(yb s).length=s.size:=by rw [yb,List.length_map,ByteArray.toList_eq]; simp
theorem yb_cells (s:ByteArray):(yb s).map V=strCells s:=by
 unfold yb strCells
 rw [List.map_map,ByteArray.toList_eq]
 refine List.map_congr_left fun x _=>?_
 have:=x.toNat_lt
 have e:(BitVec.ofNat 8 x.toNat).toNat=x.toNat:=by rw [BitVec.toNat_ofNat,Nat.mod_eq_of_lt (by omega)]
 show Value.int .u8 (((BitVec.ofNat 8 x.toNat).toNat:Nat):Int)=_
 rw [e]
section
variable {dr:Bool} {mc:Md} {P:Program} {n:Nat} {l:List Oper} {K:Env→PM→Mem→Prop} {i:Nat} {σ:List Nat} {ρ:Env} {G:PM} {μ:Mem}
variable {d t:Nat} {p:String} {af:Array Edge} {g:Option (Nat×Bool)} {c:Bool}
theorem run_apT {T U E ty:Nat} {v:Value} {xs:List Y} {s:ByteArray} {w:World} (hT:slE P T=some (E,1,1)) (hU:strT P U=true) (hz:(P.info? E).bind (·.zero)=some (.int .u8 0)) (hs:Sat G [rB v E xs] w) (hb:xs.length+s.size≤140737488355328) :
  ∃ v' w',(Builtin.append_ #[T,U] ty #[v,.string s]).run P w=.ok v' w'∧Tr G (keys [rB v E xs]) w G [rB v' E (xs++yb s)] w':=by
 obtain ⟨hu,inf,hi,hs1,hb1⟩:=slE_some hT
 have hu2:P.underlying U=some .string:=by
  unfold strT at hU
  split at hU
  ·assumption
  cases hU
 rw [hi] at hz
 simp only [Option.bind_some] at hz
 have hown:w.ownsRow 0 E 1 v xs.length (xs.map V):=hs.own _ (List.mem_singleton.2 rfl)
 have hbegin:=Tr.begin hs
 have hyl:=yb_len s
 have hyc:=yb_cells s
 have hml:(xs.map V).length=xs.length:=List.length_map ..
 have hsl:(strCells s).length=s.size:=strCells_length s
 have hmm:maxLen=9223372036854775807:=rfl
 have eR:rB v E (xs++yb s)=.row v E 1 (xs.length+s.size) (xs.map V++strCells s):=by simp only [rB,List.length_append,List.map_append,hyl,hyc]
 have hlen:(xs.map V++strCells s).length=(xs.length+s.size)*1:=by rw [List.length_append,hml,hsl]; omega
 by_cases hk:s.size=0
 ·have hn:strCells s=[]:=List.eq_nil_of_length_eq_zero (by rw [hsl]; exact hk)
  have hy0:yb s=[]:=List.eq_nil_of_length_eq_zero (by rw [hyl]; exact hk)
  refine ⟨v,w,?_,by rw [hy0,List.append_nil]; exact hbegin⟩
  have hf:=run_firstCells_string (P:=P) w 1 s
  rw [hk,hn] at hf
  rcases hown.2 with ⟨rfl,hm⟩ | ⟨g,cap,cur,rfl,_,hg,hnc,_,_,_⟩
  ·simp [Builtin.append_,run_underlying hu,run_underlying hu2,sizeOf,typeInfo,hi,hs1,Builtin.lenOf,hk,hf]
  simp [Builtin.append_,run_underlying hu,run_underlying hu2,sizeOf,typeInfo,hi,hs1,Builtin.lenOf,hk,hf,hnc,storeCells]
 have fresh:∀ (old:Nat),Tr G (keys [rB v E xs]) w G [.row (.slice (some ⟨w.heap.size,0,none⟩) (xs.length+s.size) (grownCap w (xs.length+s.size) old E)) E 1 (xs.length+s.size) (xs.map V++strCells s)]
   (w.drew.alloc (.cells ((xs.map V).toArray++(strCells s).toArray++Builtin.zeroCells (Value.int .u8 0).cells (grownCap w (xs.length+s.size) old E-(xs.length+s.size))) E)):=by
  intro old
  have h2:=(hbegin.drew).alloc (.cells ((xs.map V).toArray++(strCells s).toArray++Builtin.zeroCells (Value.int .u8 0).cells (grownCap w (xs.length+s.size) old E-(xs.length+s.size))) E)
  have h3:Tr G (keys [rB v E xs]) w G [.blk w.heap.size (.cells ((xs.map V).toArray++(strCells s).toArray++Builtin.zeroCells (Value.int .u8 0).cells (grownCap w (xs.length+s.size) old E-(xs.length+s.size))) E)] _:=Tr.left (ν:=[rB v E xs]) h2
  have hge:=grownCap_ge w (xs.length+s.size) old E
  refine h3.asRow hlen hge (grownCap_le_maxLen w (xs.length+s.size) old E (by rw [hmm]; omega)) ?_ ?_
  ·have hz1:(Value.int IntKind.u8 0).cells.size=1:=rfl
   simp only [Array.size_append,List.size_toArray,size_zeroCells,hz1,hml,hsl]
   omega
  simp only [Array.toList_append,List.append_assoc]
  rw [← List.append_assoc,←hlen]
  exact List.take_left
 rcases hown.2 with ⟨rfl,hm⟩ | ⟨g,cap,cur,rfl,_,hg,hnc,hcm,hcs,htake⟩
 ·have hx:xs=[]:=List.eq_nil_of_length_eq_zero hm
  subst hx
  have hrun:=run_append_nil_string (P:=P) w T U ty E inf (.int .u8 0) hu hu2 hi hz s (by omega) (by omega) (by rw [hb1]; simp only [List.length_nil] at hb; omega)
  have hf:=fresh 0
  have e1:(s.data.map fun b=>Value.int .u8 b.toNat)=(strCells s).toArray:=by
   apply Array.ext'
   simp [strCells]
  rw [e1] at hrun
  simp only [List.length_nil,Nat.zero_add,List.map_nil,List.nil_append,Array.empty_append] at hf
  refine ⟨_,_,hrun,?_⟩
  have eR2:∀ u,rB u E ([]++yb s)=.row u E 1 s.size (strCells s):=fun u=>by simp only [rB,List.nil_append,hyl,hyc]
  rw [eR2]; exact hf
 by_cases hroom:xs.length+s.size≤cap
 ·simp only [Nat.mul_one] at hcs htake
  have hrun:=run_append_room_string (P:=P) w T U ty E inf hu hu2 hi hs1 g xs.length cap cur hg s hroom (by omega)
  have hsat:Sat G [.blk g (.cells cur E (0,0))] w:=⟨hs.sub,fun r hr=>by rw [List.mem_singleton.1 hr]; exact hg,fun c hc=>hs.apart c (by simpa [keys,Res.keys,Value.ownBlock] using hc),by simp [keys,Res.keys]⟩
  refine ⟨_,_,hrun,?_⟩
  have h2:=Tr.setArr (cs':=(cur.toList.take xs.length++strCells s++cur.toList.drop (xs.length+s.size)).toArray) hsat
  have h3:=h2.asRow (m:=xs.length+s.size) (cap:=cap) (sz:=1) (xs:=xs.map V++strCells s) hlen hroom hcm ?_ ?_
  ·have eR3:∀ u,rB u E (xs++yb s)=.row u E 1 (xs.length+s.size) (xs.map V++strCells s):=fun u=>by simp only [rB,List.length_append,List.map_append,hyl,hyc]
   rw [eR3]
   simpa [keys,Res.keys,Value.ownBlock] using h3
  ·simp only [List.size_toArray,qlB,Array.length_toList,hsl]
   omega
  rw [htake,←hlen]
  exact List.take_left
 have holds:∀ j u,(xs.map V)[j]? = some u→w.cell? ((⟨g,0,none⟩ : Addr).add j)=some u:=hown.cells (g:=g) rfl
 have hrun:=run_append_grow_string (P:=P) w T U ty E inf (.int .u8 0) hu hu2 hi hz ⟨g,0,none⟩ xs.length cap (xs.map V) (by rw [hml,hs1]; omega) holds s (by omega) (by omega) (growslice_fits (by omega) (by rw [hb1]; omega))
 have eR3:∀ u,rB u E (xs++yb s)=.row u E 1 (xs.length+s.size) (xs.map V++strCells s):=fun u=>by simp only [rB,List.length_append,List.map_append,hyl,hyc]
 refine ⟨_,_,hrun,?_⟩
 rw [eR3]; exact fresh cap
theorem apT {T U E:Nat} {x y:Operand} {v:Value} {s:ByteArray} {xs:List Y} {μ':Mem} (ho:nth l i=some ⟨some d,.call { callee:=.builtin .append,args:=#[x,y],argTypes:=#[T,U] },t,p,af,none⟩)
  (hT:slE P T=some (E,1,1)) (hU:strT P U=true) (hz:(P.info? E).bind (·.zero)=some (.int .u8 0)) (hx:Ev ρ true x v) (hy:Ev ρ true y (.string s)) (hm:MTake μ (rB v E xs) μ') (hb:xs.length+s.size≤140737488355328)
  (h:∀ v' L,v'.oneCell'=true→L=xs++yb s→Wo dr mc P n l K σ ((d,true,v') :: ρ) G (rB v' E L :: μ')) (hmc:mc.a=false∨dr=false:=by first|exact .inl rfl|exact .inr rfl):Wo dr mc P n l K (i :: σ) ρ G μ:=by
 refine .act (μ₁:=[rB v E xs]) (μ₂:=μ') (post:=fun G' μ' v'=>G'=G∧v'.oneCell'=true∧μ'=[rB v' E (xs++yb s)]) ho (by rcases hmc with h | h<;>simp [kindOf,h]) .no hm.perm (fun a w ha hs=>.inl ?_) ?_
 ·obtain ⟨v',w',hrun,ht⟩:=run_apT (ty:=t) (s:=s) hT hU hz hs.left hb
  exact ⟨v',w',G,[rB v' E (xs++yb s)],.inl (by simp [execOp,resolve,invoke,builtin,hx.eval ha rfl,hy.eval ha rfl,hrun]),ht,rfl,ht.sat.rowOne,rfl⟩
 rintro v' G' μ'' _ ⟨rfl,h1,rfl⟩
 exact h v' _ h1 rfl
theorem flat_at {α:Type} {enc:α→List Value} {sz:Nat}:∀ {xs:List α} {k:Nat} {x:α},(∀ y∈xs,(enc y).length=sz)→xs[k]? = some x→((xs.flatMap enc).drop (k*sz)).take sz=enc x
 | y :: ys,0,x,hsz,hx=>by
  simp only [List.getElem?_cons_zero,Option.some.injEq] at hx
  subst hx
  rw [Nat.zero_mul,List.drop_zero,List.flatMap_cons,List.take_left' (hsz y (List.mem_cons_self ..))]
 | y :: ys,k+1,x,hsz,hx=>by
  rw [List.flatMap_cons,Nat.succ_mul,Nat.add_comm,←List.drop_drop,List.drop_left' (hsz y (List.mem_cons_self ..))]
  exact flat_at (fun z hz=>hsz z (List.mem_cons_of_mem _ hz)) (by simpa using hx)
 | [],_,_,_,hx=>by simp at hx
theorem flat_set {α:Type} {enc:α→List Value} {sz:Nat} {y:α}:∀ {xs:List α} {k:Nat},(∀ z∈xs,(enc z).length=sz)→(enc y).length=sz→k<xs.length→put (xs.flatMap enc) (k*sz) (enc y)=(xs.set k y).flatMap enc
 | z :: zs,0,hsz,hy,_=>by
  unfold put
  rw [Nat.zero_mul,List.take_zero,List.nil_append,Nat.zero_add,List.flatMap_cons,hy,List.drop_left' (hsz z (List.mem_cons_self ..))]
  simp
 | z :: zs,k+1,hsz,hy,hk=>by
  have ih:=flat_set (xs:=zs) (k:=k) (fun u hu=>hsz u (List.mem_cons_of_mem _ hu)) hy (by simpa using hk)
  have hz:=hsz z (List.mem_cons_self ..)
  unfold put at ih ⊢
  rw [List.set_cons_succ,List.flatMap_cons,List.flatMap_cons,←ih,Nat.succ_mul]
  have e1:(enc z++zs.flatMap enc).take (k*sz+sz)=enc z++(zs.flatMap enc).take (k*sz):=by rw [List.take_append,List.take_of_length_le (by omega),hz,Nat.add_sub_cancel]
  have e2:(enc z++zs.flatMap enc).drop (k*sz+sz+(enc y).length)=(zs.flatMap enc).drop (k*sz+(enc y).length):=by
   rw [List.drop_append,List.drop_of_length_le (by omega),hz,show k*sz+sz+(enc y).length-sz=k*sz+(enc y).length by omega,List.nil_append]
  rw [e1,e2]
  simp only [List.append_assoc]
 | [],_,_,_,hk=>by simp at hk
theorem RdN.rowS {α:Type} {enc:α→List Value} {sz b m cap E k:Nat} {xs:List α} {x:α} {μ':Mem} (h:MTake μ (rS sz enc (.slice (some ⟨b,0,none⟩) m cap) E xs) μ') (hsz:∀ y∈xs,(enc y).length=sz) (hx:xs[k]? = some x) {q:Nat} (hq:q=k*sz):RdN G μ b q (enc x):=by
 subst hq
 intro j v hj
 refine Rd.row h ?_
 rw [← flat_at hsz hx,List.getElem?_take] at hj
 split at hj
 ·rw [List.getElem?_drop] at hj; exact hj
 cases hj
theorem stS {α:Type} {enc:α→List Value} {T E sz m cap b o k:Nat} {x y:Operand} {v:Value} {xs:List α} {u:α} {μ':Mem} (ho:nth l i=some ⟨none,.store T x y,t,p,af,none⟩) (hx:Ev ρ true x (.pointer (some ⟨b,o,none⟩))) (hy:Ev ρ true y v) (hv:v.cells=(enc u).toArray) (hz:szT P T=some sz)
  (hm:MTake μ (rS sz enc (.slice (some ⟨b,0,none⟩) m cap) E xs) μ') (hsz:∀ y∈xs,(enc y).length=sz) (hu:(enc u).length=sz) (h1:∀ c∈enc u,c.oneCell'=true) (hq:o=k*sz) (hk:k<xs.length)
  (h:Wo dr mc P n l K σ ρ G (rS sz enc (.slice (some ⟨b,0,none⟩) m cap) E (xs.set k u) :: μ')):Wo dr mc P n l K (i :: σ) ρ G μ:=by
 subst hq
 refine .act (μ₁:=[rS sz enc (.slice (some ⟨b,0,none⟩) m cap) E xs]) (μ₂:=μ') (post:=fun G' μ' v=>G'=G∧μ'=[rS sz enc (.slice (some ⟨b,0,none⟩) m cap) E (xs.set k u)]∧v=undef) ho (.inl rfl) .no hm.perm (fun a w ha hs=>.inl ?_) ?_
 ·have hs':=hs.left
  have hrow:w.ownsRow 0 E sz (.slice (some ⟨b,0,none⟩) m cap) xs.length (xs.flatMap enc):=hs'.own _ (List.mem_singleton.2 rfl)
  have hfl:=flat_len hsz
  rcases hrow.2 with ⟨e,_⟩ | ⟨g,cap',cur,e,_,hg,hnc,hcm,hcs,htake⟩
  ·cases e
  simp only [Value.slice.injEq,Option.some.injEq,Addr.mk.injEq,and_true,true_and] at e
  obtain ⟨rfl,rfl,rfl⟩:=e
  have hkey:keys [rS sz enc (.slice (some ⟨b,0,none⟩) xs.length cap) E xs]=[b]:=by simp [keys,Res.keys,Value.ownBlock]
  have hsat:Sat G [.blk b (.cells cur E (0,0))] w:=⟨hs'.sub,fun r hr=>by rw [List.mem_singleton.1 hr]; exact hg,fun c hc=>hs'.apart c (by simpa [keys,Res.keys,Value.ownBlock] using hc),by simp [keys,Res.keys]⟩
  have hin:k*sz+sz≤xs.length*sz:=by rw [← Nat.succ_mul]; exact Nat.mul_le_mul_right _ hk
  have hcap:xs.length*sz≤cap*sz:=Nat.mul_le_mul_right _ hnc
  have hst:=run_storeCells_at P b (k*sz) E (enc u) 0 cur w hg (by rw [Nat.add_zero,hu]; omega) h1
  simp only [Nat.add_zero,hu] at hst
  have h2:=(Tr.setArr (cs':=(cur.toList.take (k*sz)++enc u++cur.toList.drop (k*sz+sz)).toArray) hsat).asRow (m:=xs.length) (cap:=cap) (sz:=sz) (xs:=(xs.set k u).flatMap enc) ?_ hnc hcm ?_ ?_
  ·refine ⟨undef,_,G,_,.inr ⟨?_,rfl⟩,by rw [hkey]; exact h2,rfl,by simp [rS],rfl⟩
   cases hi:P.info? T with
   | none=>simp [szT,hi] at hz
   | some inf =>
    simp only [szT,hi,Option.map_some,Option.some.injEq] at hz
    simp only [execOp,hx.eval ha rfl,hy.eval ha rfl]
    simp [Instr.storeAt,Instr.sureAddr,storeVar,hv,sizeOf,typeInfo,hi,hz,hst,hu]
  ·rw [flat_len (sz:=sz) (fun z hz'=>by
    rcases List.mem_or_eq_of_mem_set hz' with hz'|rfl
    ·exact hsz z hz'
    exact hu),List.length_set]
  ·simp only [List.size_toArray,qlB,Array.length_toList,hu]
   omega
  have:=splice_take (A:=cur.toList) (C:=enc u) (o:=k*sz) (m:=xs.length*sz) (by rw [hu]; exact hin) (by have:cur.toList.length=cur.size:=Array.length_toList ..; omega)
  rw [hu,htake] at this
  rw [this]
  have h5:=flat_set (xs:=xs) hsz hu hk
  unfold put at h5
  rw [hu] at h5
  exact h5
 rintro v G' μ'' _ ⟨rfl,rfl,rfl⟩
 exact h
end
def numN (n:Nat):List Y:=if h:n<128 then [BitVec.ofNat 8 n] else BitVec.ofNat 8 (n%128+128) :: numN (n / 128)
termination_by n
decreasing_by omega
theorem num_small {n:Nat} (h:n<128):numN n=[BitVec.ofNat 8 n]:=by rw [numN,dif_pos h]
theorem num_big {n:Nat} (h:¬ n<128):numN n=BitVec.ofNat 8 (n%128+128) :: numN (n / 128):=by rw [numN,dif_neg h]
theorem num_pos (n:Nat):0<(numN n).length:=by
 by_cases h:n<128
 ·rw [num_small h]; simp
 ·rw [num_big h]; simp
theorem num_len:∀ (k n:Nat),n<128^k→0<k→(numN n).length≤k
 | 0,_,_,h=>by omega
 | k+1,n,h,_=>by
  by_cases hn:n<128
  ·rw [num_small hn]; simp
  ·rw [num_big hn]
   by_cases hk:k=0
   ·subst hk; omega
   ·have:=num_len k (n / 128) (by rw [Nat.pow_succ] at h; omega) (by omega)
    simp; omega
theorem num_len10 {n:Nat} (h:n<18446744073709551616):(numN n).length≤10:=num_len 10 n (by omega) (by decide)
def numG:Nat→Nat→List Y→Nat×Nat×Int
 | _,_,[]=>(0,0,10)
 | k,acc,x :: r =>
  if k=9∧1<x.toNat then (0,0,11)
  else if x.toNat<128 then (if 0<k∧x.toNat=0 then (0,0,11) else (acc+x.toNat*128^k,k+1,0))
  else numG (k+1) (acc+(x.toNat-128)*128^k) r
def numP (b:List Y):Nat×Nat×Int:=numG 0 0 b
theorem toN {n:Nat} (h:n<256):(BitVec.ofNat 8 n).toNat=n:=by rw [BitVec.toNat_ofNat]; omega
theorem pow9:(128:Nat)^9=9223372036854775808:=by decide
theorem numG_enc:∀ (m n k acc:Nat) (r:List Y),n≤m→acc+n*128^k<18446744073709551616→(k=0∨0<n)→k≤9→numG k acc (numN n++r)=(acc+n*128^k,k+(numN n).length,0):=by
 intro m
 induction m with
 | zero =>
  intro n k acc r hm h1 h2 h3
  obtain rfl:n=0:=by omega
  rw [num_small (by omega)]
  have hk:k=0:=by omega
  subst hk
  simp [numG]
 | succ m ih =>
  intro n k acc r hm h1 h2 h3
  by_cases hn:n<128
  ·rw [num_small hn]
   have ht:=toN (n:=n) (by omega)
   have h9:¬ (k=9∧1<(BitVec.ofNat 8 n).toNat):=by
    rintro ⟨rfl,h⟩
    rw [ht] at h
    rw [pow9] at h1
    omega
   simp only [List.cons_append,List.nil_append,numG]
   rw [if_neg h9,if_pos (by omega),if_neg (by omega),ht]
   rfl
  ·rw [num_big hn]
   have ht:=toN (n:=n%128+128) (by omega)
   have hk:k<9:=by
    rcases Nat.lt_or_ge k 9 with h | h
    ·exact h
    ·have:k=9:=by omega
     subst this
     rw [pow9] at h1
     omega
   simp only [List.cons_append,numG]
   rw [if_neg (by omega),if_neg (by omega),ht,Nat.add_sub_cancel]
   have e:acc+n%128*128^k+n / 128*128^(k+1)=acc+n*128^k:=by
    rw [Nat.pow_succ,Nat.add_assoc]
    congr 1
    have h5:n / 128*(128^k*128)=(n / 128*128)*128^k:=by rw [Nat.mul_comm (128^k) 128,Nat.mul_assoc]
    rw [h5,←Nat.add_mul]
    congr 1
    omega
   rw [ih (n / 128) (k+1) _ r (by omega) (by rw [e]; exact h1) (.inr (by omega)) (by omega),e,List.length_cons]
   congr 2
   omega
theorem num_back {n:Nat} (h:n<18446744073709551616) (r:List Y):numP (numN n++r)=(n,(numN n).length,0):=by
 have:=numG_enc n n 0 0 r (Nat.le_refl _) (by omega) (.inl rfl) (by omega)
 simpa [numP] using this
theorem pow_le {j k:Nat} (h:j≤k):(128:Nat)^j≤128^k:=Nat.pow_le_pow_right (by decide) h
theorem numG_dec:∀ (b:List Y) (k acc v j:Nat),acc<128^k→k≤9→numG k acc b=(v,j,0)→∃ n,v=acc+n*128^k∧(0<k→0<n)∧j=k+(numN n).length∧b=numN n++b.drop (numN n).length∧v<18446744073709551616
 | [],k,acc,v,j,_,_,h=>by simp [numG] at h
 | x :: r,k,acc,v,j,ha,hk,h=>by
  simp only [numG] at h
  have hx:=x.isLt
  split at h
  ·simp at h
  rename_i h9
  split at h
  ·rename_i hx1
   split at h
   ·simp at h
   rename_i h0
   simp only [Prod.mk.injEq,and_true] at h
   obtain ⟨rfl,rfl⟩:=h
   have hb:BitVec.ofNat 8 x.toNat=x:=by simp
   refine ⟨x.toNat,rfl,fun hk0=>by omega,by rw [num_small hx1]; rfl,by rw [num_small hx1,hb]; rfl,?_⟩
   rcases Nat.lt_or_ge k 9 with hlt | hge
   ·have h1:acc+x.toNat*128^k<128^(k+1):=by
     rw [Nat.pow_succ]
     have:x.toNat*128^k≤127*128^k:=Nat.mul_le_mul_right _ (by omega)
     omega
    have h2:=pow_le (show k+1≤9 by omega)
    rw [pow9] at h2
    omega
   obtain rfl:k=9:=by omega
   rw [pow9] at ha ⊢
   omega
  rename_i hx1
  have hk9:k<9:=by omega
  obtain ⟨n,e1,e2,e3,e4,e5⟩:=numG_dec r (k+1) (acc+(x.toNat-128)*128^k) v j (by
   rw [Nat.pow_succ]
   have:(x.toNat-128)*128^k≤127*128^k:=Nat.mul_le_mul_right _ (by omega)
   omega) (by omega) h
  have hn:=e2 (by omega)
  have hbig:¬ (n*128+(x.toNat-128))<128:=by omega
  have hnum:numN (n*128+(x.toNat-128))=x :: numN n:=by
   rw [num_big hbig]
   have q1:(n*128+(x.toNat-128))%128+128=x.toNat:=by omega
   have q2:(n*128+(x.toNat-128)) / 128=n:=by omega
   rw [q1,q2]
   simp
  refine ⟨n*128+(x.toNat-128),?_,fun _=>by omega,?_,?_,e5⟩
  ·rw [e1,Nat.pow_succ,Nat.add_mul]
   generalize 128^k=q
   have hq:n*(q*128)=n*128*q:=by rw [Nat.mul_comm q 128,←Nat.mul_assoc]
   rw [hq]
   generalize n*128*q=u
   generalize (x.toNat-128)*q=t
   omega
  ·rw [hnum,e3,List.length_cons]; omega
  rw [hnum,List.length_cons,List.drop_succ_cons,List.cons_append,←e4]
theorem num_canon {b:List Y} {v j:Nat} (h:numP b=(v,j,0)):b=numN v++b.drop j∧v<18446744073709551616∧j=(numN v).length∧j≤b.length:=by
 obtain ⟨n,e1,_,e3,e4,e5⟩:=numG_dec b 0 0 v j (by simp) (by omega) h
 have hv:v=n:=by rw [e1]; simp
 subst hv
 have hj:j=(numN v).length:=by omega
 refine ⟨by rw [hj]; exact e4,e5,hj,?_⟩
 rw [hj,e4]; simp
theorem num_fault:∀ (b:List Y) (k acc v j:Nat) (e:Int),numG k acc b=(v,j,e)→e≠0→v=0∧j=0
 | [],k,acc,v,j,e,h,he=>by
  simp only [numG,Prod.mk.injEq] at h
  exact ⟨h.1.symm,h.2.1.symm⟩
 | x :: r,k,acc,v,j,e,h,he=>by
  simp only [numG] at h
  split at h
  ·simp only [Prod.mk.injEq] at h; exact ⟨h.1.symm,h.2.1.symm⟩
  ·split at h
   ·split at h
    ·simp only [Prod.mk.injEq] at h; exact ⟨h.1.symm,h.2.1.symm⟩
    ·simp only [Prod.mk.injEq] at h; exact absurd h.2.2.symm he
   ·exact num_fault r _ _ _ _ _ h he
structure Rd' where
 rest:List Y
 bad:Int
def rdNum (s:Rd'):Nat×Rd':=if s.bad≠0 then (0,s) else ((numP s.rest).1,⟨s.rest.drop (numP s.rest).2.1,(numP s.rest).2.2⟩)
def rdStr (most:Nat) (s:Rd'):List Y×Rd' :=
 if s.bad≠0 then ([],s)
 else if (numP s.rest).2.2≠0 then ([],⟨s.rest,(numP s.rest).2.2⟩)
 else if most<(numP s.rest).1 then ([],⟨s.rest,4⟩)
 else if s.rest.length-(numP s.rest).2.1<(numP s.rest).1 then ([],⟨s.rest,10⟩)
 else ((s.rest.drop (numP s.rest).2.1).take (numP s.rest).1,⟨s.rest.drop ((numP s.rest).2.1+(numP s.rest).1),0⟩)
def rdByte (s:Rd'):Y×Rd':=if s.bad≠0 then (0,s) else if s.rest.length<1 then (0,⟨s.rest,10⟩) else (s.rest.getD 0 0,⟨s.rest.drop 1,0⟩)
def strL (xs:List Y):List Y:=numN xs.length++xs
noncomputable def B (p:Prop):Bool:=@decide p (Classical.propDecidable p)
theorem B_iff {p:Prop}:B p=true↔p:=by unfold B; exact @decide_eq_true_iff p (Classical.propDecidable p)
theorem B_true {p:Prop} (h:p):B p=true:=B_iff.2 h
theorem B_false {p:Prop} (h:¬ p):B p=false:=by
 cases hb:B p with
 | false=>rfl
 | true=>exact absurd (B_iff.1 hb) h
structure Opts where
 mem:Int
 table:Int
 zero:Int
 base:Int
 block:Int
 every:Int
 bits:Int
def Opts.cells (o:Opts):List Value:=[.int .i64 o.mem,.int .i64 o.table,.int .i64 o.zero,.int .i64 o.base,.int .i64 o.block,.int .i64 o.every,.int .i64 o.bits]
def Opts.val (o:Opts):Value:=.agg o.cells.toArray
def within (n m:Int):Bool:=decide (0<n)&&decide (n≤m)
structure Meta where
 level:Int
 gen:Int
 epoch:Int
 number:Int
 size:Int
 count:Int
 min:ByteArray
 max:ByteArray
 root:Nat→Int
def Meta.cells (m:Meta):List Value :=
 [.int .u8 m.level,.int .u64 m.gen,.int .u64 m.epoch,.int .u64 m.number,.int .i64 m.size,.int .i64 m.count,.string m.min,.string m.max]++(List.range 32).map fun i=>.int .u8 (m.root i)
def Meta.val (m:Meta):Value:=.agg m.cells.toArray
def Meta.zero:Meta:=⟨0,0,0,0,0,0,ByteArray.empty,ByteArray.empty,fun _=>0⟩
theorem Meta.len (m:Meta):m.cells.length=40:=rfl
theorem Meta.one (m:Meta):∀ u∈m.cells,u.oneCell'=true:=by
 intro u hu
 simp only [Meta.cells,List.mem_append,List.mem_cons,List.not_mem_nil,or_false,List.mem_map] at hu
 rcases hu with (rfl|rfl|rfl|rfl|rfl|rfl|rfl|rfl) | ⟨i,_,rfl⟩<;>rfl
structure Meta.wf (m:Meta):Prop where
 level:0≤m.level∧m.level<256
 number:0≤m.number∧m.number<18446744073709551616
 size : -9223372036854775808≤m.size∧m.size≤9223372036854775807
 minL:m.min.size≤9223372036854775807
 maxL:m.max.size≤9223372036854775807
 gen:0≤m.gen∧m.gen≤18446744073709551615
 epoch:0≤m.epoch∧m.epoch≤18446744073709551615
 count : -9223372036854775808≤m.count∧m.count≤9223372036854775807
 root:∀ j,j<32→0≤m.root j∧m.root j≤255
structure State where
 lv:Nat→List Meta
 log:Int
 next:Int
 seq:Int
 least:Int
 gens:Nat→Int
def State.cells (s:State) (hd:Nat→Sh):List Value :=
 (List.range 5).map (fun i=>(hd i).val (s.lv i).length)++[.int .u64 s.log,.int .u64 s.next,.int .u64 s.seq,.int .u64 s.least]++(List.range 5).map fun i=>.int .u64 (s.gens i)
def State.val (s:State) (hd:Nat→Sh):Value:=.agg (s.cells hd).toArray
theorem State.cell_lv (s:State) (hd:Nat→Sh) {k:Nat} (h:k<5):(s.cells hd)[0+k*1]? = some ((hd k).val (s.lv k).length):=by
 match k,h with
 | 0,_=>rfl | 1,_=>rfl | 2,_=>rfl | 3,_=>rfl | 4,_=>rfl
theorem State.cell_gen (s:State) (hd:Nat→Sh) {k:Nat} (h:k<5):(s.cells hd)[9+k*1]? = some (.int .u64 (s.gens k)):=by
 match k,h with
 | 0,_=>rfl | 1,_=>rfl | 2,_=>rfl | 3,_=>rfl | 4,_=>rfl
structure StR (G:PM) (s:State) (hd:Nat→Sh):Prop where
 lv:∀ i,i<5→SlR G 40 Meta.cells (hd i) (s.lv i)
 len:∀ i,i<5→(s.lv i).length*112≤140737488351232
 wf:∀ i,i<5→∀ m∈s.lv i,m.wf
theorem StR.mono {G G':PM} {s:State} {hd:Nat→Sh} (h:StR G s hd) (hle:PM.le G G'):StR G' s hd:=⟨fun i hi=>(h.lv i hi).mono hle,h.len,h.wf⟩
theorem SlR.get {G:PM} {h:Sh} {xs:List Meta} (s:SlR G 40 Meta.cells h xs) {k:Nat} (hk:k<xs.length):RdNP G h.b (h.o+k*40) (xs.getD k Meta.zero).cells :=
 s.rd k _ (by simp [hk])
theorem SlR.gat {G:PM} {h:Sh} {xs:List Meta} (s:SlR G 40 Meta.cells h xs) {j:Int} (k:Nat) (hj:j.toNat=k) (hk:k<xs.length):RdNP G h.b (h.o+j.toNat*40) (xs.getD k Meta.zero).cells:=by
 rw [hj]; exact s.get hk
theorem getD_mem {xs:List Meta} {k:Nat} (h:k<xs.length):xs.getD k Meta.zero∈xs:=by simp [h]
def lt (a b:ByteArray):Bool:=Op.bytesLess a.toList b.toList
def le (a b:ByteArray):Bool:=Op.bytesLess a.toList b.toList||a.toList == b.toList
def good (s:State) (m:Meta):Bool :=
 decide (m.level<5)&&le m.min m.max&&decide ((m.min.size:Int)≤1024)&&decide ((m.max.size:Int)≤1024)&&decide (m.count≥1)&&decide (m.size≥1)&&decide (m.number<s.next)&&decide (m.gen≤s.gens m.level.toNat)
def pairOk (level:Int) (a b:Meta):Bool:=if level=0 then decide (b.number<a.number) else lt a.max b.min
theorem stands_eq (a b:Meta) (h0:0≤a.level):(if (a.level == 0)=true then decide (a.number > b.number) else lt a.max b.min)=pairOk a.level a b:=by
 unfold pairOk
 by_cases h:a.level=0
 ·simp [h]
 ·simp [h]
theorem fits_fin {s:State} {m:Meta} (h1:m.level<5) (h2:(!(Op.bytesLess m.min.toList m.max.toList||m.min.toList == m.max.toList))=false)
  (h3:(if ((m.max.size:Nat):Int) > ((m.min.size:Nat):Int) then ((m.max.size:Nat):Int) else ((m.min.size:Nat):Int))≤1024) (h4:1≤m.count) (h5:1≤m.size) :
  tup [.bool (decide (m.number<s.next)&&decide (m.gen≤s.gens m.level.toNat))]=.bool (good s m):=by
 have h2':le m.min m.max=true:=by unfold le; cases h:(Op.bytesLess m.min.toList m.max.toList||m.min.toList == m.max.toList)<;>simp_all
 have h6:((m.min.size:Nat):Int)≤1024∧((m.max.size:Nat):Int)≤1024:=by split at h3<;>omega
 simp only [tup,good,h2',decide_eq_true h1,decide_eq_true h6.1,decide_eq_true h6.2,decide_eq_true (show m.count≥1 from h4),decide_eq_true (show m.size≥1 from h5),Bool.true_and]
def tot (s:State):Nat→Int
 | 0=>0
 | n+1=>tot s n+(s.lv n).length
theorem tot_nonneg (s:State):∀ n,0≤tot s n
 | 0=>Int.le_refl _
 | n+1=>by have:=tot_nonneg s n; simp only [tot]; omega
theorem tot_mono (s:State):∀ {n m:Nat},n≤m→tot s n≤tot s m:=by
 intro n m h
 induction h with
 | refl=>exact Int.le_refl _
 | step _ ih=>simp only [tot]; omega
def nums (l:List Meta):List Int:=l.map (·.number)
def allM (s:State):Nat→List Meta
 | 0=>[]
 | n+1=>allM s n++s.lv n
theorem allM_len (s:State):∀ n,((allM s n).length:Int)=tot s n
 | 0=>rfl
 | n+1=>by simp only [allM,tot,List.length_append,←allM_len s n]; omega
def LvOk (s:State) (i:Nat) (l:List Meta):Prop :=
 (∀ m∈l,m.level=i∧good s m=true)∧∀ j,j+1<l.length→pairOk i (l.getD j Meta.zero) (l.getD (j+1) Meta.zero)=true
structure RightP (s:State):Prop where
 seq:s.seq≤72057594037927935
 least:s.least≤72057594037927935
 log:s.log≤s.next
 few:tot s 5≤1024
 lv:∀ i,i<5→LvOk s i (s.lv i)
 apart:∀ a b,a<(allM s 5).length→b<a→((allM s 5).getD a Meta.zero).number≠((allM s 5).getD b Meta.zero).number
noncomputable def rightS (s:State):Bool:=B (RightP s)
theorem rightS_true {s:State} (h:RightP s):rightS s=true:=B_true h
theorem rightS_false {s:State} (h:¬ RightP s):rightS s=false:=B_false h
theorem rightP_of {s:State} (h:rightS s=true):RightP s:=B_iff.1 h
theorem metas_one (l:List Meta):∀ u∈l.flatMap Meta.cells,u.oneCell'=true:=fun u hu=>by
 obtain ⟨m,_,hm⟩:=List.mem_flatMap.1 hu
 exact m.one u hm
theorem fin_false {s:State} (h:¬ RightP s):tup [.bool false]=.bool (rightS s):=by rw [rightS_false h]; rfl
theorem fin_true {s:State} (h:RightP s):tup [.bool true]=.bool (rightS s):=by rw [rightS_true h]; rfl
theorem rs_good {s:State} {i k:Nat} (hi:i<5) (hk:k<(s.lv i).length) (h:(((s.lv i).getD k Meta.zero).level != (i:Int))=true∨good s ((s.lv i).getD k Meta.zero)=false):¬ RightP s:=by
 intro hr
 have:=(hr.lv i hi).1 _ (getD_mem hk)
 rcases h with h | h
 ·rw [this.1] at h; simp at h
 ·rw [this.2] at h; cases h
theorem State.arr_lv (s:State) (hd:Nat→Sh) {k:Nat} (h:k<5):(((s.cells hd).drop 0).take 5)[k]? = some ((hd k).val (s.lv k).length):=by
 match k,h with
 | 0,_=>rfl | 1,_=>rfl | 2,_=>rfl | 3,_=>rfl | 4,_=>rfl
theorem RdNP.add {G:PM} {b:Nat} {cs:List Value} {T:TypeId}:RdNP (G.add b (cl cs T)) b 0 cs:=fun j v hj=>by
 rw [Nat.zero_add]; exact RdP.blk (PM.add_same G b _) hj
def cnt (L:List Int) (x:Int):Int:=if x∈L then 1 else 0
def cntM (L:List Int) (x:Int):Option Value:=if x∈L then some (.int .i64 1) else none
theorem cnt_get (L:List Int) (x:Int):(cntM L x).getD (.int .i64 0)=.int .i64 (cnt L x):=by unfold cntM cnt; split<;>rfl
theorem cnt_bd (L:List Int) (x:Int):0≤cnt L x∧cnt L x≤1:=by unfold cnt; split<;>omega
theorem cnt_upd (m:Int→Option Value) (x:Int) (u z:Value):((fun j=>if j=x then some u else m j) x).getD z=u:=by simp
theorem cnt_push {L:List Int} {x:Int} (h:x∉L):(fun j=>if j=x then some (Value.int .i64 (cnt L x+1)) else cntM L j)=cntM (L++[x]):=by
 funext j
 unfold cntM cnt
 by_cases hj:j=x
 ·subst hj; simp [h]
 ·simp [hj]
theorem cnt_not {L:List Int} {x:Int} (h:cnt L x+1≤1):x∉L:=by intro hm; simp [cnt,hm] at h
theorem cnt_mem {L:List Int} {x:Int} (h:1<cnt L x+1):x∈L:=by
 by_cases hm:x∈L
 ·exact hm
 ·simp [cnt,hm] at h
def Dist (l:List Meta):Prop:=∀ a b,a<l.length→b<a→(l.getD a Meta.zero).number≠(l.getD b Meta.zero).number
theorem getD_app_left {l r:List Meta} {k:Nat} (h:k<l.length):(l++r).getD k Meta.zero=l.getD k Meta.zero:=by
 simp [List.getElem?_append_left h]
theorem getD_app_at {l r:List Meta} {m:Meta}:(l++m :: r).getD l.length Meta.zero=m:=by simp
theorem dist_nil:Dist []:=fun a b h=>by simp at h
theorem dist_push {l:List Meta} {m:Meta} (h:Dist l) (hm:m.number∉nums l):Dist (l++[m]):=by
 intro a b ha hb
 simp only [List.length_append,List.length_singleton] at ha
 by_cases e:a=l.length
 ·subst e
  rw [getD_app_at,getD_app_left hb]
  intro e
  exact hm (List.mem_map.2 ⟨_,getD_mem hb,e.symm⟩)
 ·rw [getD_app_left (by omega),getD_app_left (by omega)]
  exact h a b (by omega) hb
theorem allM_pre (s:State) {i:Nat}:∀ {n:Nat},i<n→∃ r,allM s n=allM s i++s.lv i++r
 | 0,h=>by omega
 | n+1,h=>by
  by_cases e:i=n
  ·subst e; exact ⟨[],by simp [allM]⟩
  ·obtain ⟨r,hr⟩:=allM_pre s (i:=i) (n:=n) (by omega)
   exact ⟨r++s.lv n,by simp [allM,hr]⟩
theorem take_snoc {l:List Meta} {k:Nat} (h:k<l.length):l.take (k+1)=l.take k++[l.getD k Meta.zero]:=by
 rw [List.take_succ_eq_append_getElem h]; simp [h]
theorem rs_dup {s:State} {i k:Nat} (hi:i<5) (hk:k<(s.lv i).length) (h:((s.lv i).getD k Meta.zero).number∈nums (allM s i++(s.lv i).take k)):¬ RightP s:=by
 intro hr
 obtain ⟨r,hr5⟩:=allM_pre s hi
 have hsplit:allM s 5=(allM s i++(s.lv i).take k)++((s.lv i).getD k Meta.zero) :: ((s.lv i).drop (k+1)++r):=by
  rw [hr5]
  have:s.lv i=(s.lv i).take k++(s.lv i).getD k Meta.zero :: (s.lv i).drop (k+1):=by
   have h1:=List.take_append_drop (k+1) (s.lv i)
   rw [take_snoc hk] at h1
   simpa using h1.symm
  generalize hm:(s.lv i).getD k Meta.zero=m at this
  rw [show allM s i++s.lv i++r=allM s i++(s.lv i)++r from rfl]
  conv=>lhs; rw [this]
  simp
 obtain ⟨m,hm,hmn⟩:=List.mem_map.1 h
 obtain ⟨b,hb,rfl⟩:=List.getElem_of_mem hm
 have:=hr.apart (allM s i++(s.lv i).take k).length b (by rw [hsplit]; simp) hb
 rw [hsplit,getD_app_at,getD_app_left hb] at this
 apply this
 rw [← hmn,List.getD_eq_getElem?_getD,List.getElem?_eq_getElem hb]
 rfl
theorem cnt_zero (s:State) (i b:Nat):Res.mp b .u64 (cntM (nums (allM s i)))=Res.mp b .u64 (cntM (nums (allM s i++(s.lv i).take 0))):=by simp
theorem cnt_next {s:State} {i k b:Nat} (h:(s.lv i).length≤k):Res.mp b .u64 (cntM (nums (allM s i++(s.lv i).take k)))=Res.mp b .u64 (cntM (nums (allM s (i+1)))):=by
 rw [List.take_of_length_le h]; rfl
theorem cnt_step {s:State} {i k b:Nat} (hk:k<(s.lv i).length) (h:((s.lv i).getD k Meta.zero).number∉nums (allM s i++(s.lv i).take k)) :
  Res.mp b .u64 (fun j=>if j=((s.lv i).getD k Meta.zero).number then some (Value.int .i64 (cnt (nums (allM s i++(s.lv i).take k)) ((s.lv i).getD k Meta.zero).number+1)) else cntM (nums (allM s i++(s.lv i).take k)) j) =
   Res.mp b .u64 (cntM (nums (allM s i++(s.lv i).take (k+1)))):=by
 rw [cnt_push h,take_snoc hk]
 simp [nums]
structure Part (s:State) (i k:Nat):Prop where
 le:k≤(s.lv i).length
 good:∀ j,j<k→((s.lv i).getD j Meta.zero).level=i∧good s ((s.lv i).getD j Meta.zero)=true
 pair:∀ j,j+1<k→pairOk i ((s.lv i).getD j Meta.zero) ((s.lv i).getD (j+1) Meta.zero)=true
 dist:Dist (allM s i++(s.lv i).take k)
theorem Part.zero {s:State} {i:Nat} (h:Dist (allM s i)):Part s i 0:=⟨Nat.zero_le _,fun j hj=>by omega,fun j hj=>by omega,by simpa using h⟩
theorem Part.step {s:State} {i k:Nat} (h:Part s i k) (hk:k<(s.lv i).length) (h1:((s.lv i).getD k Meta.zero).level=i∧Go.Tan.good s ((s.lv i).getD k Meta.zero)=true)
  (h2:((s.lv i).getD k Meta.zero).number∉nums (allM s i++(s.lv i).take k)) (h3:0<k→pairOk i ((s.lv i).getD (k-1) Meta.zero) ((s.lv i).getD k Meta.zero)=true):Part s i (k+1):=by
 refine ⟨by omega,fun j hj=>?_,fun j hj=>?_,?_⟩
 ·by_cases e:j=k
  ·subst e; exact h1
  exact h.good j (by omega)
 ·by_cases e:j+1=k
  ·subst e; have:=h3 (by omega); simpa using this
  exact h.pair j (by omega)
 rw [take_snoc hk,←List.append_assoc]; exact dist_push h.dist h2
theorem Part.lvOk {s:State} {i k:Nat} (h:Part s i k) (hk:(s.lv i).length≤k):LvOk s i (s.lv i) :=
 ⟨fun m hm=>by
  obtain ⟨q,hq,rfl⟩:=List.getElem_of_mem hm
  have:=h.good q (by omega)
  simpa [hq] using this,fun j hj=>h.pair j (by omega)⟩
theorem Part.next {s:State} {i k:Nat} (h:Part s i k) (hk:(s.lv i).length≤k):Dist (allM s (i+1)):=by
 have:=h.dist; rw [List.take_of_length_le hk] at this; exact this
theorem rs_few {s:State} {i:Nat} (hi:i<5) (h:1024-tot s i<(s.lv i).length):¬ RightP s:=by
 intro hr
 have h1:=tot_mono s (show i+1≤5 by omega)
 rw [show tot s (i+1)=tot s i+(s.lv i).length from rfl] at h1
 have:=hr.few
 omega
theorem rs_max {s:State} (h:72057594037927935<(if s.least > s.seq then s.least else s.seq)∨s.next<s.log):¬ RightP s:=by
 intro hr
 have h1:=hr.seq; have h2:=hr.least; have h3:=hr.log
 rcases h with h | h
 ·split at h<;>omega
 ·omega
theorem rs_done {s:State} {i:Nat} (h1:(if s.least > s.seq then s.least else s.seq)≤72057594037927935∧s.log≤s.next) (hi:i=5) (ht:tot s i≤1024) (hall:∀ j,j<i→LvOk s j (s.lv j)) (hd:Dist (allM s i)):RightP s:=by
 subst hi
 refine ⟨?_,?_,h1.2,ht,hall,hd⟩
 ·have:=h1.1; split at this<;>omega
 have:=h1.1; split at this<;>omega
theorem rt_bad {s:State} {i k:Nat} (hi:i<5) (hk:k<(s.lv i).length) (hp:Part s i k)
  (h:((((s.lv i).getD k Meta.zero).level != (i:Int)) || !good s ((s.lv i).getD k Meta.zero)||decide (cnt (nums (allM s i++(s.lv i).take k)) ((s.lv i).getD k Meta.zero).number+1 > 1) ||
   (decide ((k:Int) > 0) && !pairOk ((s.lv i).getD (k-1) Meta.zero).level ((s.lv i).getD (k-1) Meta.zero) ((s.lv i).getD k Meta.zero)))=true):¬ RightP s:=by
 simp only [Bool.or_eq_true,Bool.and_eq_true,decide_eq_true_eq,Bool.not_eq_true'] at h
 rcases h with ((h | h) | h) | ⟨h1,h2⟩
 ·exact rs_good hi hk (.inl h)
 ·exact rs_good hi hk (.inr h)
 ·exact rs_dup hi hk (cnt_mem (by omega))
 ·intro hr
  have h3:=(hr.lv i hi).2 (k-1) (by omega)
  rw [show k-1+1=k by omega] at h3
  rw [(hp.good (k-1) (by omega)).1,h3] at h2
  cases h2
theorem rt_good {s:State} {i k:Nat} (hk:k<(s.lv i).length) (hp:Part s i k)
  (h:((((s.lv i).getD k Meta.zero).level != (i:Int)) || !good s ((s.lv i).getD k Meta.zero)||decide (cnt (nums (allM s i++(s.lv i).take k)) ((s.lv i).getD k Meta.zero).number+1 > 1) ||
   (decide ((k:Int) > 0) && !pairOk ((s.lv i).getD (k-1) Meta.zero).level ((s.lv i).getD (k-1) Meta.zero) ((s.lv i).getD k Meta.zero)))=false) :
  Part s i (k+1)∧((s.lv i).getD k Meta.zero).number∉nums (allM s i++(s.lv i).take k):=by
 simp only [Bool.or_eq_false_iff,Bool.and_eq_false_iff,decide_eq_false_iff_not,Bool.not_eq_false',bne_eq_false_iff_eq] at h
 obtain ⟨⟨⟨h1,h2⟩,h3⟩,h4⟩:=h
 have hn:=cnt_not (show cnt (nums (allM s i++(s.lv i).take k)) ((s.lv i).getD k Meta.zero).number+1≤1 by omega)
 refine ⟨hp.step hk ⟨h1,h2⟩ hn fun h0=>?_,hn⟩
 rcases h4 with h4 | h4
 ·omega
 rw [(hp.good (k-1) (by omega)).1] at h4; exact h4
def over:Int→List Meta→Bool
 | _,[]=>false
 | r,m :: ms=>if m.size > r then true else over (r-m.size) ms
def idxI (p:Meta→Bool) (l:List Meta):Int:=match l.findIdx? p with | some i=>i | none => -1
theorem idx_step {p:Meta→Bool} {l:List Meta} {k:Nat} (h:∀ j,j<k→p (l.getD j Meta.zero)=false) (hk:p (l.getD k Meta.zero)=false):∀ j,j<k+1→p (l.getD j Meta.zero)=false:=by
 intro j hj
 by_cases e:j=k
 ·subst e; exact hk
 ·exact h j (by omega)
theorem idx_none {p:Meta→Bool} {l:List Meta} {k:Nat} (hk:l.length≤k) (h:∀ j,j<k→p (l.getD j Meta.zero)=false):tup [.int .i64 (-1)]=.int .i64 (idxI p l):=by
 have:l.findIdx? p=none:=by
  rw [List.findIdx?_eq_none_iff]
  intro m hm
  obtain ⟨q,hq,rfl⟩:=List.getElem_of_mem hm
  have:=h q (by omega)
  simpa [hq] using this
 simp [idxI,this,tup]
theorem idx_hit {p:Meta→Bool} {l:List Meta} {k:Nat} (hk:k<l.length) (h:∀ j,j<k→p (l.getD j Meta.zero)=false) (hp:p (l.getD k Meta.zero)=true):tup [.int .i64 (k:Int)]=.int .i64 (idxI p l):=by
 have:l.findIdx? p=some k:=by
  rw [List.findIdx?_eq_some_iff_getElem]
  refine ⟨hk,by simpa [hk] using hp,fun j hj=>?_⟩
  have:=h j hj
  simpa [show j<l.length by omega] using this
 simp [idxI,this,tup]
def encU (x:Int):List Value:=[.int .u64 x]
structure Job where
 why:Int
 level:Int
 to:Int
 low:List Int
 high:List Int
def Job.cells (j:Job) (h1 h2:Sh):List Value:=[.int .u8 j.why,.int .i64 j.level,.int .i64 j.to,h1.val j.low.length,h2.val j.high.length]
def Job.val (j:Job) (h1 h2:Sh):Value:=.agg (j.cells h1 h2).toArray
def Job.zero:Job:=⟨0,0,0,[],[]⟩
structure JobR (G:PM) (j:Job) (h1 h2:Sh):Prop where
 low:SlR G 1 encU h1 j.low
 high:SlR G 1 encU h2 j.high
 lenL:j.low.length*112≤140737488351232
 lenH:j.high.length*112≤140737488351232
theorem JobR.mono {G G':PM} {j:Job} {h1 h2:Sh} (h:JobR G j h1 h2) (hle:PM.le G G'):JobR G' j h1 h2:=⟨h.low.mono hle,h.high.mono hle,h.lenL,h.lenH⟩
theorem JobR.zero {G:PM}:JobR G Job.zero ⟨none,0⟩ ⟨none,0⟩:=⟨SlR.nul,SlR.nul,by decide,by decide⟩
theorem Job.one (j:Job) (h1 h2:Sh):∀ u∈j.cells h1 h2,u.oneCell'=true:=by
 intro u hu
 simp only [Job.cells,List.mem_cons,List.not_mem_nil,or_false] at hu
 rcases hu with rfl|rfl|rfl|rfl|rfl<;>rfl
def State.zero:State:=⟨fun _=>[],0,0,0,0,fun _=>0⟩
def hd0:Nat→Sh:=fun _=>⟨none,0⟩
def meta1:Meta:=⟨0,0,0,4,1,1,ByteArray.empty,ByteArray.empty,fun _=>0⟩
def State.one:State:=⟨fun | 0=>[meta1] | _=>[],0,5,0,0,fun _=>0⟩
theorem st_zero {G:PM}:StR G State.zero hd0:=⟨fun _ _=>SlR.nul,fun _ _=>Nat.zero_le _,fun _ _ m hm=>nomatch hm⟩
theorem right_zero:rightS State.zero=true:=by
 refine rightS_true ⟨by decide,by decide,by decide,by decide,fun i _=>⟨fun m hm=>(nomatch hm),fun j hj=>absurd hj (Nat.not_lt_zero _)⟩,fun a b ha=>absurd ha (Nat.not_lt_zero _)⟩
section
variable {α β:Type}
def pNum (k:Nat→List Y→Option α) (r:List Y):Option α:=if (numP r).2.2=0 then k (numP r).1 (r.drop (numP r).2.1) else none
def pUp (most:Nat) (k:Nat→List Y→Option α):List Y→Option α:=pNum fun n r=>if n≤most then k n r else none
def pStr (most:Nat) (k:List Y→List Y→Option α):List Y→Option α:=pUp most fun n r=>if n≤r.length then k (r.take n) (r.drop n) else none
def pByte (k:Y→List Y→Option α) (r:List Y):Option α:=if r.length<1 then none else k (r.getD 0 0) (r.drop 1)
def pRep (f:(β→List Y→Option α)→List Y→Option α):Nat→(List β→List Y→Option α)→List Y→Option α
 | 0,k=>k []
 | n+1,k=>f fun x=>pRep f n fun xs=>k (x :: xs)
theorem num_k {n:Nat} (h:n<18446744073709551616) (k:Nat→List Y→Option α) (r:List Y):pNum k (numN n++r)=k n r:=by
 unfold pNum; rw [num_back h,if_pos rfl]; simp
theorem up_k {most n:Nat} (h:n<18446744073709551616) (hn:n≤most) (k:Nat→List Y→Option α) (r:List Y):pUp most k (numN n++r)=k n r:=by
 unfold pUp; rw [num_k h,if_pos hn]
theorem up_no {most n:Nat} (h:n<18446744073709551616) (hn:¬ n≤most) (k:Nat→List Y→Option α) (r:List Y):pUp most k (numN n++r)=none:=by
 unfold pUp; rw [num_k h,if_neg hn]
theorem str_k {most:Nat} {xs:List Y} (h:xs.length<18446744073709551616) (hn:xs.length≤most) (k:List Y→List Y→Option α) (r:List Y):pStr most k (strL xs++r)=k xs r:=by
 unfold pStr strL; rw [List.append_assoc,up_k h hn,if_pos (by simp),List.take_left,List.drop_left]
theorem str_no {most:Nat} {xs:List Y} (h:xs.length<18446744073709551616) (hn:¬ xs.length≤most) (k:List Y→List Y→Option α) (r:List Y):pStr most k (strL xs++r)=none:=by
 unfold pStr strL; rw [List.append_assoc,up_no h hn]
theorem byte_k (x:Y) (k:Y→List Y→Option α) (r:List Y):pByte k (x :: r)=k x r:=by simp [pByte]
theorem num_inv {k:Nat→List Y→Option α} {r:List Y} {a:α} (h:pNum k r=some a):∃ n r',r=numN n++r'∧n<18446744073709551616∧k n r'=some a:=by
 unfold pNum at h
 split at h
 ·rename_i he
  have:=num_canon (b:=r) (v:=(numP r).1) (j:=(numP r).2.1) (by rw [← he])
  exact ⟨_,_,this.1,this.2.1,h⟩
 ·cases h
theorem up_inv {most:Nat} {k:Nat→List Y→Option α} {r:List Y} {a:α} (h:pUp most k r=some a):∃ n r',r=numN n++r'∧n<18446744073709551616∧n≤most∧k n r'=some a:=by
 obtain ⟨n,r',h1,h2,h3⟩:=num_inv h
 split at h3
 ·rename_i hn; exact ⟨n,r',h1,h2,hn,h3⟩
 ·cases h3
theorem str_inv {most:Nat} {k:List Y→List Y→Option α} {r:List Y} {a:α} (h:pStr most k r=some a):∃ xs r',r=strL xs++r'∧xs.length≤most∧k xs r'=some a:=by
 obtain ⟨n,r',h1,h2,h3,h4⟩:=up_inv h
 split at h4
 ·rename_i hn
  have hl:(r'.take n).length=n:=by rw [List.length_take]; omega
  refine ⟨r'.take n,r'.drop n,?_,by omega,h4⟩
  rw [h1,strL,hl,List.append_assoc,List.take_append_drop]
 cases h4
theorem byte_inv {k:Y→List Y→Option α} {r:List Y} {a:α} (h:pByte k r=some a):∃ x r',r=x :: r'∧k x r'=some a:=by
 unfold pByte at h
 split at h
 ·cases h
 ·cases r with
  | nil=>rename_i hn; simp at hn
  | cons x r=>exact ⟨x,r,rfl,by simpa using h⟩
end
def Tk {α:Type} (O:Option α) (s:Rd') (bad:Bool) (k:List Y→Option α):Prop:=(s.bad=0∧bad=false∧O=k s.rest)∨(O=none∧(bad=true∨s.bad≠0))
section
variable {α β:Type} {O:Option α} {s:Rd'} {bad:Bool}
theorem Tk.start {b:List Y} {k:List Y→Option α}:Tk (k b) ⟨b,0⟩ false k:=.inl ⟨rfl,rfl,rfl⟩
theorem Tk.num {k:Nat→List Y→Option α} (h:Tk O s bad (pNum k)):Tk O (rdNum s).2 bad (k (rdNum s).1):=by
 unfold rdNum
 rcases h with ⟨h1,h2,h3⟩ | ⟨h1,h2⟩
 ·rw [if_neg (by simp [h1])]
  unfold pNum at h3
  split at h3
  ·rename_i he; exact .inl ⟨he,h2,h3⟩
  ·rename_i he; exact .inr ⟨h3,.inr he⟩
 ·split
  ·exact .inr ⟨h1,h2⟩
  ·rename_i he
   rcases h2 with h2 | h2
   ·exact .inr ⟨h1,.inl h2⟩
   ·exact absurd h2 he
theorem Tk.bad_of {k:List Y→Option α} (h:Tk O s bad k) {c:Bool} (hc:s.bad=0→bad=false→c=true→O=none):Tk O s (bad||c) k:=by
 rcases h with ⟨h1,h2,h3⟩ | ⟨h1,h2⟩
 ·cases c with
  | false=>exact .inl ⟨h1,by simp [h2],h3⟩
  | true=>exact .inr ⟨hc h1 h2 rfl,.inl (by simp)⟩
 refine .inr ⟨h1,?_⟩
 rcases h2 with h2 | h2
 ·exact .inl (by simp [h2])
 exact .inr h2
theorem Tk.up {most:Nat} {k:Nat→List Y→Option α} (h:Tk O s bad (pUp most k)) {c:Bool} (hc:c=(decide (most<(rdNum s).1) || !decide ((rdNum s).2.bad=0))):Tk O (rdNum s).2 (bad||c) (k (rdNum s).1):=by
 have h':=Tk.num (k:=fun n r=>if n≤most then k n r else none) h
 rcases h' with ⟨h1,h2,h3⟩ | ⟨h1,h2⟩
 ·simp only at h3
  by_cases hn:(rdNum s).1≤most
  ·rw [if_pos hn] at h3
   have:c=false:=by rw [hc,h1,decide_eq_false (by omega)]; rfl
   exact .inl ⟨h1,by rw [h2,this]; rfl,h3⟩
  rw [if_neg hn] at h3
  have:c=true:=by rw [hc,decide_eq_true (by omega)]; rfl
  exact .inr ⟨h3,.inl (by rw [this]; simp)⟩
 refine .inr ⟨h1,?_⟩
 rcases h2 with h2 | h2
 ·exact .inl (by rw [h2]; rfl)
 exact .inr h2
theorem Tk.str {most:Nat} {k:List Y→List Y→Option α} (h:Tk O s bad (pStr most k)):Tk O (rdStr most s).2 bad (k (rdStr most s).1):=by
 unfold rdStr
 rcases h with ⟨h1,h2,h3⟩ | ⟨h1,h2⟩
 ·rw [if_neg (by simp [h1])]
  unfold pStr pUp pNum at h3
  split at h3
  ·rename_i he
   rw [if_neg (by simp [he])]
   simp only at h3
   split at h3
   ·rename_i hm
    rw [if_neg (by omega)]
    split at h3
    ·rename_i hl
     rw [List.length_drop] at hl
     rw [if_neg (by omega)]
     refine .inl ⟨rfl,h2,?_⟩
     rw [h3,List.drop_drop]
    rename_i hl
    rw [List.length_drop] at hl
    rw [if_pos (by omega)]
    exact .inr ⟨h3,.inr (by simp)⟩
   rename_i hm
   rw [if_pos (by omega)]
   exact .inr ⟨h3,.inr (by simp)⟩
  rename_i he
  rw [if_pos he]
  exact .inr ⟨h3,.inr he⟩
 split
 ·exact .inr ⟨h1,h2⟩
 rename_i he
 rcases h2 with h2 | h2
 ·exact .inr ⟨h1,.inl h2⟩
 exact absurd h2 he
theorem Tk.byte {k:Y→List Y→Option α} (h:Tk O s bad (pByte k)):Tk O (rdByte s).2 bad (k (rdByte s).1):=by
 unfold rdByte
 rcases h with ⟨h1,h2,h3⟩ | ⟨h1,h2⟩
 ·rw [if_neg (by simp [h1])]
  unfold pByte at h3
  split at h3
  ·rename_i hl; rw [if_pos hl]; exact .inr ⟨h3,.inr (by simp)⟩
  ·rename_i hl; rw [if_neg hl]; exact .inl ⟨rfl,h2,h3⟩
 ·split
  ·exact .inr ⟨h1,h2⟩
  ·rename_i he
   rcases h2 with h2 | h2
   ·exact .inr ⟨h1,.inl h2⟩
   ·exact absurd h2 he
theorem Tk.lost {k k':List Y→Option α} {s':Rd'} {bad':Bool} (h:Tk O s bad k) (hl:bad=true∨s.bad≠0) (hl':bad'=true∨s'.bad≠0):Tk O s' bad' k':=by
 rcases h with ⟨h1,h2,_⟩ | ⟨h1,_⟩
 ·rcases hl with hl | hl
  ·rw [h2] at hl; cases hl
  ·exact absurd h1 hl
 ·exact .inr ⟨h1,hl'⟩
def pEnd (a:α) (r:List Y):Option α:=if r=[] then some a else none
theorem Tk.fin {a:α} (h:Tk O s bad (pEnd a)):O=if bad=false∧s.bad=0∧s.rest=[] then some a else none:=by
 rcases h with ⟨h1,h2,h3⟩ | ⟨h1,h2⟩
 ·rw [h3,pEnd]
  by_cases hr:s.rest=[]
  ·rw [if_pos hr,if_pos ⟨h2,h1,hr⟩]
  ·rw [if_neg hr,if_neg (fun hh=>hr hh.2.2)]
 ·rw [h1,if_neg]
  rintro ⟨h3,h4,_⟩
  rcases h2 with h2 | h2
  ·rw [h3] at h2; cases h2
  ·exact h2 h4
end
structure Gone where
 level:Int
 number:Int
def Gone.cells (g:Gone):List Value:=[.int .u8 g.level,.int .u64 g.number]
def Gone.zero:Gone:=⟨0,0⟩
structure Gone.wf (g:Gone):Prop where
 level:0≤g.level∧g.level<256
 number:0≤g.number∧g.number<18446744073709551616
structure Edit where
 log:Int
 next:Int
 seq:Int
 least:Int
 gens:Nat→Int
 add:List Meta
 drop:List Gone
def Edit.cells (e:Edit) (ha hd:Sh):List Value :=
 [.int .u64 e.log,.int .u64 e.next,.int .u64 e.seq,.int .u64 e.least]++(List.range 5).map (fun i=>.int .u64 (e.gens i))++[ha.val e.add.length,hd.val e.drop.length]
def Edit.val (e:Edit) (ha hd:Sh):Value:=.agg (e.cells ha hd).toArray
def Edit.zero:Edit:=⟨0,0,0,0,fun _=>0,[],[]⟩
def u64 (x:Int):Prop:=0≤x∧x<18446744073709551616
structure Edit.wf (e:Edit):Prop where
 log:u64 e.log
 next:u64 e.next
 seq:u64 e.seq
 least:u64 e.least
 gens:∀ i,i<5→u64 (e.gens i)
 add:∀ m∈e.add,m.wf
 drop:∀ g∈e.drop,g.wf
structure EdR (G:PM) (e:Edit) (ha hd:Sh):Prop where
 add:SlR G 40 Meta.cells ha e.add
 drop:SlR G 2 Gone.cells hd e.drop
 wf:e.wf
theorem EdR.mono {G G':PM} {e:Edit} {ha hd:Sh} (h:EdR G e ha hd) (hle:PM.le G G'):EdR G' e ha hd:=⟨h.add.mono hle,h.drop.mono hle,h.wf⟩
def u64N (x:Int):Nat:=(x%18446744073709551616).toNat
theorem u64N_lt (x:Int):u64N x<18446744073709551616:=by unfold u64N; omega
def encM (m:Meta):List Y :=
 numN m.level.toNat++numN m.gen.toNat++numN m.epoch.toNat++numN m.number.toNat++numN (u64N m.size)++numN (u64N m.count)++strL (yb m.min)++strL (yb m.max)++(List.range 32).map fun i=>BitVec.ofInt 8 (m.root i)
def encG (g:Gone):List Y:=numN g.level.toNat++numN g.number.toNat
def numsL (l:List Int):List Y:=l.flatMap fun x=>numN x.toNat
def encE (e:Edit):List Y :=
 numN e.log.toNat++numN e.next.toNat++numN e.seq.toNat++numN e.least.toNat++((List.range 5).flatMap fun i=>numN (e.gens i).toNat)++numN e.add.length++e.add.flatMap encM++numN e.drop.length++e.drop.flatMap encG
section
variable {α:Type}
def pMeta (k:Meta→List Y→Option α):List Y→Option α :=
 pUp 255 fun l=>pNum fun g=>pNum fun ep=>pNum fun nu=>pUp 9223372036854775807 fun sz=>pUp 9223372036854775807 fun ct=>pStr 1024 fun mn=>pStr 1024 fun mx=>pRep pByte 32 fun rt =>
  k ⟨l,g,ep,nu,sz,ct,bstr mn,bstr mx,fun i=>((rt.getD i 0).toNat:Int)⟩
def pGone (k:Gone→List Y→Option α):List Y→Option α:=pUp 255 fun l=>pNum fun n=>k ⟨l,n⟩
end
def decO:List Y→Option Edit :=
 pNum fun log=>pNum fun next=>pNum fun seq=>pNum fun least=>pRep pNum 5 fun gs=>pUp 1024 fun na=>pRep pMeta na fun add=>pUp 1024 fun nd=>pRep pGone nd fun drop =>
  pEnd ⟨log,next,seq,least,fun i=>((gs.getD i 0:Nat):Int),add,drop⟩
section
variable {α β:Type}
theorem rep_k {f:(β→List Y→Option α)→List Y→Option α} {γ:Type} {en:γ→List Y} {ca:γ→β}:∀ (xs:List γ),(∀ x∈xs,∀ k r,f k (en x++r)=k (ca x) r)→∀ (k:List β→List Y→Option α) (r:List Y),pRep f xs.length k (xs.flatMap en++r)=k (xs.map ca) r
 | [],_,k,r=>rfl
 | x :: xs,h,k,r=>by
  rw [List.length_cons,pRep,List.flatMap_cons,List.append_assoc,h x (List.mem_cons_self ..),rep_k xs (fun y hy=>h y (List.mem_cons_of_mem _ hy))]
  rfl
theorem rep_no {f:(β→List Y→Option α)→List Y→Option α} {γ:Type} {en:γ→List Y} {ca:γ→β} {good:γ→Prop}:∀ (xs:List γ),(∀ x∈xs,good x→∀ k r,f k (en x++r)=k (ca x) r)→(∀ x∈xs,¬ good x→∀ k r,f k (en x++r)=none)→(∃ x∈xs,¬ good x) →
  ∀ (k:List β→List Y→Option α) (r:List Y),pRep f xs.length k (xs.flatMap en++r)=none
 | [],_,_,hx,_,_=>by obtain ⟨x,hx,_⟩:=hx; cases hx
 | x :: xs,h,hn,hx,k,r=>by
  rw [List.length_cons,pRep,List.flatMap_cons,List.append_assoc]
  by_cases hg:good x
  ·rw [h x (List.mem_cons_self ..) hg]
   refine rep_no xs (fun y hy=>h y (List.mem_cons_of_mem _ hy)) (fun y hy=>hn y (List.mem_cons_of_mem _ hy)) ?_ _ _
   obtain ⟨y,hy,hyg⟩:=hx
   rcases List.mem_cons.1 hy with rfl | hy
   ·exact absurd hg hyg
   exact ⟨y,hy,hyg⟩
  exact hn x (List.mem_cons_self ..) hg _ _
theorem rep_inv {f:(β→List Y→Option α)→List Y→Option α} {en:β→List Y} {Q:β→Prop} (hf:∀ (k:β→List Y→Option α) (r:List Y) (a:α),f k r=some a→∃ x r',r=en x++r'∧Q x∧k x r'=some a) :
  ∀ (n:Nat) (k:List β→List Y→Option α) (r:List Y) (a:α),pRep f n k r=some a→∃ xs r',xs.length=n∧r=xs.flatMap en++r'∧(∀ x∈xs,Q x)∧k xs r'=some a
 | 0,k,r,a,h=>⟨[],r,rfl,rfl,(fun x hx=>by cases hx),h⟩
 | n+1,k,r,a,h=>by
  obtain ⟨x,r1,h1,h2,h3⟩:=hf _ r a h
  obtain ⟨xs,r2,e1,e2,e3,e4⟩:=rep_inv hf n _ r1 a h3
  refine ⟨x :: xs,r2,by simp [e1],by rw [h1,e2]; simp,fun y hy=>?_,e4⟩
  rcases List.mem_cons.1 hy with rfl | hy
  ·exact h2
  exact e3 y hy
end
def Meta.canon (m:Meta):Meta:={ m with root:=fun i=>if i<32 then m.root i else 0 }
theorem canon_cells (m:Meta):m.canon.cells=m.cells:=by
 unfold Meta.cells Meta.canon
 congr 1
def Meta.fits (m:Meta):Prop:=0≤m.size∧0≤m.count∧m.min.size≤1024∧m.max.size≤1024
theorem nat_of {x:Int} (h:0≤x):((x.toNat:Nat):Int)=x:=Int.toNat_of_nonneg h
theorem meta_k {α:Type} {m:Meta} (hw:m.wf) (hf:m.fits) (k:Meta→List Y→Option α) (r:List Y):pMeta k (encM m++r)=k m.canon r:=by
 obtain ⟨h1,h2,h3,h4⟩:=hf
 have l1:=hw.level; have l2:=hw.gen; have l3:=hw.epoch; have l4:=hw.number; have l5:=hw.size; have l6:=hw.count
 unfold pMeta encM
 simp only [List.append_assoc]
 have s5:u64N m.size=m.size.toNat:=by unfold u64N; omega
 have s6:u64N m.count=m.count.toNat:=by unfold u64N; omega
 rw [up_k (by omega) (by omega),num_k (by omega),num_k (by omega),num_k (by omega),s5,s6,up_k (by omega) (by omega),up_k (by omega) (by omega),str_k (by rw [yb_len]; omega) (by rw [yb_len]; omega),str_k (by rw [yb_len]; omega) (by rw [yb_len]; omega)]
 have hr:=rep_k (α:=α) (f:=pByte) (en:=fun y:Y=>[y]) (ca:=id) ((List.range 32).map fun i=>BitVec.ofInt 8 (m.root i)) (fun y _ k r=>byte_k y k r)
 have hfl:∀ l:List Y,(l.flatMap fun y=>[y])=l:=fun l=>by induction l with | nil=>rfl | cons a l ih=>simp only [List.flatMap_cons,ih]; rfl
 rw [hfl,List.length_map,List.length_range] at hr
 rw [hr]
 congr 1
 unfold Meta.canon
 rw [nat_of l1.1,nat_of l2.1,nat_of l3.1,nat_of l4.1,nat_of h1,nat_of h2,bstr_yb,bstr_yb]
 congr 1
 funext i
 by_cases hi:i<32
 ·have hb:=hw.root i hi
  rw [if_pos hi,List.map_id,List.getD_eq_getElem?_getD,List.getElem?_map,List.getElem?_range hi]
  simp only [Option.map_some,Option.getD_some]
  rw [BitVec.toNat_ofInt]
  omega
 ·rw [if_neg hi,List.map_id,List.getD_eq_getElem?_getD,List.getElem?_eq_none (by simp; omega)]
  rfl
theorem meta_no {α:Type} {m:Meta} (hw:m.wf) (hf:¬ m.fits) (k:Meta→List Y→Option α) (r:List Y):pMeta k (encM m++r)=none:=by
 have l1:=hw.level; have l2:=hw.gen; have l3:=hw.epoch; have l4:=hw.number; have l5:=hw.size; have l6:=hw.count; have l7:=hw.minL; have l8:=hw.maxL
 unfold pMeta encM
 simp only [List.append_assoc]
 rw [up_k (by omega) (by omega),num_k (by omega),num_k (by omega),num_k (by omega)]
 by_cases h1:0≤m.size
 ·have s5:u64N m.size=m.size.toNat:=by unfold u64N; omega
  rw [s5,up_k (by omega) (by omega)]
  by_cases h2:0≤m.count
  ·have s6:u64N m.count=m.count.toNat:=by unfold u64N; omega
   rw [s6,up_k (by omega) (by omega)]
   by_cases h3:m.min.size≤1024
   ·rw [str_k (by rw [yb_len]; omega) (by rw [yb_len]; omega)]
    exact str_no (by rw [yb_len]; omega) (by rw [yb_len]; exact fun h4=>hf ⟨h1,h2,h3,h4⟩) _ _
   ·exact str_no (by rw [yb_len]; omega) (by rw [yb_len]; exact h3) _ _
  ·exact up_no (by unfold u64N; omega) (by unfold u64N; omega) _ _
 ·exact up_no (by unfold u64N; omega) (by unfold u64N; omega) _ _
theorem gone_k {α:Type} {g:Gone} (hw:g.wf) (k:Gone→List Y→Option α) (r:List Y):pGone k (encG g++r)=k g r:=by
 have l1:=hw.level; have l2:=hw.number
 unfold pGone encG
 rw [List.append_assoc,up_k (by omega) (by omega),num_k (by omega),nat_of l1.1,nat_of l2.1]
def Edit.canon (e:Edit):Edit:={ e with gens:=fun i=>if i<5 then e.gens i else 0,add:=e.add.map Meta.canon }
theorem gens_flat (g:Nat→Int):((List.range 5).flatMap fun i=>numN (g i).toNat)=((List.range 5).map g).flatMap fun x=>numN x.toNat:=by rw [List.flatMap_map]
theorem edit_k {e:Edit} (hw:e.wf) (ha:e.add.length≤1024) (hd:e.drop.length≤1024) (hf:∀ m∈e.add,m.fits):decO (encE e)=some e.canon:=by
 have l1:=hw.log; have l2:=hw.next; have l3:=hw.seq; have l4:=hw.least
 unfold u64 at l1 l2 l3 l4
 unfold decO encE
 rw [gens_flat]
 simp only [List.append_assoc]
 rw [num_k (by omega),num_k (by omega),num_k (by omega),num_k (by omega)]
 have hg:=rep_k (α:=Edit) (f:=pNum) (en:=fun x:Int=>numN x.toNat) (ca:=Int.toNat) ((List.range 5).map e.gens) (fun x hx k r=>by
  obtain ⟨i,hi,rfl⟩:=List.mem_map.1 hx
  have:=hw.gens i (List.mem_range.1 hi)
  unfold u64 at this
  exact num_k (by omega) k r)
 rw [List.length_map,List.length_range] at hg
 rw [hg,up_k (by omega) ha,rep_k (en:=encM) (ca:=Meta.canon) e.add (fun m hm k r=>meta_k (hw.add m hm) (hf m hm) k r),up_k (by omega) hd]
 have hdr:=rep_k (α:=Edit) (f:=pGone) (en:=encG) (ca:=id) e.drop (fun g hg k r=>gone_k (hw.drop g hg) k r)
 have h2:=hdr (fun drop=>pEnd ⟨(e.log.toNat:Int),(e.next.toNat:Int),(e.seq.toNat:Int),(e.least.toNat:Int),fun i=>(((((List.range 5).map e.gens).map Int.toNat).getD i 0:Nat):Int),e.add.map Meta.canon,drop⟩) []
 rw [List.append_nil] at h2
 rw [h2,pEnd,if_pos rfl,List.map_id]
 congr 1
 unfold Edit.canon
 rw [nat_of l1.1,nat_of l2.1,nat_of l3.1,nat_of l4.1]
 congr 1
 funext i
 by_cases hi:i<5
 ·have hgi:=hw.gens i hi
  unfold u64 at hgi
  rw [if_pos hi,List.map_map,List.getD_eq_getElem?_getD,List.getElem?_map,List.getElem?_range hi]
  simp only [Option.map_some,Option.getD_some,Function.comp]
  omega
 ·rw [if_neg hi,List.getD_eq_getElem?_getD,List.getElem?_eq_none (by simp; omega)]
  rfl
theorem edit_no {e:Edit} (hw:e.wf) (ha:e.add.length≤1024) (hf:∃ m∈e.add,¬ m.fits):decO (encE e)=none:=by
 have l1:=hw.log; have l2:=hw.next; have l3:=hw.seq; have l4:=hw.least
 unfold u64 at l1 l2 l3 l4
 unfold decO encE
 rw [gens_flat]
 simp only [List.append_assoc]
 rw [num_k (by omega),num_k (by omega),num_k (by omega),num_k (by omega)]
 have hg:=rep_k (α:=Edit) (f:=pNum) (en:=fun x:Int=>numN x.toNat) (ca:=Int.toNat) ((List.range 5).map e.gens) (fun x hx k r=>by
  obtain ⟨i,hi,rfl⟩:=List.mem_map.1 hx
  have:=hw.gens i (List.mem_range.1 hi)
  unfold u64 at this
  exact num_k (by omega) k r)
 rw [List.length_map,List.length_range] at hg
 rw [hg,up_k (by omega) ha]
 exact rep_no (en:=encM) (ca:=Meta.canon) (good:=Meta.fits) e.add (fun m hm hg k r=>meta_k (hw.add m hm) hg k r) (fun m hm hg k r=>meta_no (hw.add m hm) hg k r) hf _ _
theorem meta_inv {α:Type} {k:Meta→List Y→Option α} {r:List Y} {a:α} (h:pMeta k r=some a):∃ m r',r=encM m++r'∧m.wf∧k m r'=some a:=by
 obtain ⟨l,r1,e1,b1,c1,h⟩:=up_inv h
 obtain ⟨g,r2,e2,b2,h⟩:=num_inv h
 obtain ⟨ep,r3,e3,b3,h⟩:=num_inv h
 obtain ⟨nu,r4,e4,b4,h⟩:=num_inv h
 obtain ⟨sz,r5,e5,b5,c5,h⟩:=up_inv h
 obtain ⟨ct,r6,e6,b6,c6,h⟩:=up_inv h
 obtain ⟨mn,r7,e7,c7,h⟩:=str_inv h
 obtain ⟨mx,r8,e8,c8,h⟩:=str_inv h
 obtain ⟨rt,r9,e9,e10,_,h⟩:=rep_inv (en:=fun y:Y=>[y]) (Q:=fun _=>True) (fun k r a h=>by
  obtain ⟨x,r',h1,h2⟩:=byte_inv h
  exact ⟨x,r',h1,trivial,h2⟩) 32 _ _ _ h
 have hfl:∀ l:List Y,(l.flatMap fun y=>[y])=l:=fun l=>by induction l with | nil=>rfl | cons a l ih=>simp only [List.flatMap_cons,ih]; rfl
 rw [hfl] at e10
 refine ⟨_,r9,?_,?_,h⟩
 ·unfold encM
  simp only [Int.toNat_natCast]
  have s5:u64N (sz:Int)=sz:=by unfold u64N; omega
  have s6:u64N (ct:Int)=ct:=by unfold u64N; omega
  have hroot:((List.range 32).map fun i=>BitVec.ofInt 8 (((rt.getD i 0).toNat:Nat):Int))=rt:=by
   refine List.ext_getElem? fun i=>?_
   by_cases hi:i<32
   ·rw [List.getElem?_map,List.getElem?_range hi]
    have hr:i<rt.length:=by omega
    simp [hr]
   rw [List.getElem?_eq_none (by simp; omega),List.getElem?_eq_none (by omega)]
  rw [s5,s6,yb_bstr,yb_bstr,hroot,e1,e2,e3,e4,e5,e6,e7,e8,e10]
  simp only [List.append_assoc]
 have hb:∀ i,((rt.getD i 0).toNat:Int)≤255:=fun i=>by have:=(rt.getD i 0).isLt; omega
 refine ⟨⟨by simp only; omega,by simp only; omega⟩,⟨by simp only; omega,by simp only; omega⟩,⟨by simp only; omega,by simp only; omega⟩,by simp only [bstr_len]; omega,by simp only [bstr_len]; omega,⟨by simp only; omega,by simp only; omega⟩,⟨by simp only; omega,by simp only; omega⟩,⟨by simp only; omega,by simp only; omega⟩,fun j _=>⟨by simp only; omega,hb j⟩⟩
theorem gone_inv {α:Type} {k:Gone→List Y→Option α} {r:List Y} {a:α} (h:pGone k r=some a):∃ g r',r=encG g++r'∧g.wf∧k g r'=some a:=by
 obtain ⟨l,r1,e1,b1,c1,h⟩:=up_inv h
 obtain ⟨n,r2,e2,b2,h⟩:=num_inv h
 refine ⟨_,r2,?_,⟨⟨by simp only; omega,by simp only; omega⟩,⟨by simp only; omega,by simp only; omega⟩⟩,h⟩
 unfold encG
 simp only [Int.toNat_natCast]
 rw [e1,e2,List.append_assoc]
theorem edit_inv {b:List Y} {e:Edit} (h:decO b=some e):encE e=b∧e.wf∧e.add.length≤1024∧e.drop.length≤1024:=by
 unfold decO at h
 obtain ⟨a1,r1,e1,b1,h⟩:=num_inv h
 obtain ⟨a2,r2,e2,b2,h⟩:=num_inv h
 obtain ⟨a3,r3,e3,b3,h⟩:=num_inv h
 obtain ⟨a4,r4,e4,b4,h⟩:=num_inv h
 obtain ⟨gs,r5,e5,e6,q6,h⟩:=rep_inv (en:=numN) (Q:=fun n=>n<18446744073709551616) (fun k r a h=>by
  obtain ⟨n,r',h1,h2,h3⟩:=num_inv h
  exact ⟨n,r',h1,h2,h3⟩) 5 _ _ _ h
 obtain ⟨na,r7,e7,b7,c7,h⟩:=up_inv h
 obtain ⟨add,r8,e8,e9,q9,h⟩:=rep_inv (en:=encM) (Q:=Meta.wf) (fun k r a h=>meta_inv h) na _ _ _ h
 obtain ⟨nd,r10,e10,b10,c10,h⟩:=up_inv h
 obtain ⟨drop,r11,e11,e12,q12,h⟩:=rep_inv (en:=encG) (Q:=Gone.wf) (fun k r a h=>gone_inv h) nd _ _ _ h
 unfold pEnd at h
 split at h
 ·rename_i hr
  simp only [Option.some.injEq] at h
  subst h; subst hr
  have hgs:((List.range 5).flatMap fun i=>numN (((gs.getD i 0:Nat):Int)).toNat)=gs.flatMap numN:=by
   have:(List.range 5).map (fun i=>gs.getD i 0)=gs:=by
    refine List.ext_getElem? fun i=>?_
    by_cases hi:i<5
    ·rw [List.getElem?_map,List.getElem?_range hi]
     have hr:i<gs.length:=by omega
     simp [hr]
    rw [List.getElem?_eq_none (by simp; omega),List.getElem?_eq_none (by omega)]
   conv=>rhs; rw [← this]
   rw [List.flatMap_map]
   simp
  refine ⟨?_,⟨⟨by simp only; omega,by simp only; omega⟩,⟨by simp only; omega,by simp only; omega⟩,⟨by simp only; omega,by simp only; omega⟩,⟨by simp only; omega,by simp only; omega⟩,fun i hi=>?_,q9,q12⟩,by simp only; omega,by simp only; omega⟩
  ·unfold encE
   simp only
   rw [hgs,Int.toNat_natCast,Int.toNat_natCast,Int.toNat_natCast,Int.toNat_natCast,e8,e11,e1,e2,e3,e4,e6,e7,e9,e10,e12]
   simp only [List.append_assoc,List.append_nil]
  have hr:i<gs.length:=by omega
  have:=q6 (gs.getD i 0) (by simp [hr])
  refine ⟨by simp only; omega,by simp only; omega⟩
 cases h
section
variable {α:Type} {lt:α→α→Bool}
structure Wk0 (lt:α→α→Bool):Prop where
 irr:∀ a,lt a a=false
 tr:∀ {a b c},lt a b=true→lt b c=true→lt a c=true
 co:∀ {a b} c,lt a b=true→lt a c=true∨lt c b=true
theorem Wk0.as (h:Wk0 lt) {a b:α} (hab:lt a b=true):lt b a=false:=by
 cases hb:lt b a with
 | false=>rfl
 | true=>have:=h.tr hab hb; rw [h.irr] at this; cases this
def TL (lt:α→α→Bool) (x y:α×Nat):Prop:=lt x.1 y.1=true∨(lt y.1 x.1=false∧x.2<y.2)
theorem TL.irr (h:Wk0 lt) (x:α×Nat):¬ TL lt x x:=by
 rintro (h1 | ⟨_,h1⟩)
 ·rw [h.irr] at h1; cases h1
 ·omega
theorem TL.tr (h:Wk0 lt) {x y z:α×Nat} (h1:TL lt x y) (h2:TL lt y z):TL lt x z:=by
 rcases h1 with h1 | ⟨h1,t1⟩<;>rcases h2 with h2 | ⟨h2,t2⟩
 ·exact .inl (h.tr h1 h2)
 ·rcases h.co z.1 h1 with h3 | h3
  ·exact .inl h3
  rw [h2] at h3; cases h3
 ·rcases h.co x.1 h2 with h3 | h3
  ·rw [h1] at h3; cases h3
  exact .inl h3
 refine .inr ⟨?_,by omega⟩
 cases h3:lt z.1 x.1 with
 | false=>rfl
 | true =>
  rcases h.co y.1 h3 with h4 | h4
  ·rw [h2] at h4; cases h4
  rw [h1] at h4; cases h4
theorem TL.as (h:Wk0 lt) {x y:α×Nat} (h1:TL lt x y):¬ TL lt y x:=fun h2=>TL.irr h _ (h1.tr h h2)
theorem TL.back {u v:α×Nat} (h:Wk0 lt) (ht:u.2<v.2):TL lt v u↔lt v.1 u.1=true:=by
 unfold TL
 constructor
 ·rintro (h1 | ⟨_,h1⟩)
  ·exact h1
  ·omega
 ·exact .inl
theorem TL.fore {u v:α×Nat} (h:Wk0 lt) (ht:u.2<v.2):TL lt u v↔lt v.1 u.1=false:=by
 unfold TL
 constructor
 ·rintro (h1 | ⟨h1,_⟩)
  ·exact h.as h1
  ·exact h1
 ·intro h1; exact .inr ⟨h1,ht⟩
def Srt (lt:α→α→Bool) (l:List (α×Nat)):Prop:=l.Pairwise (TL lt)
theorem Srt.uniq (h:Wk0 lt):∀ {l l':List (α×Nat)},Srt lt l→Srt lt l'→l.Perm l'→l=l'
 | [],l',_,_,hp=>by simpa using hp.symm.eq_nil
 | x :: l,[],_,_,hp=>by simpa using hp.eq_nil
 | x :: l,y :: l',h1,h2,hp=>by
  have hx:=List.pairwise_cons.1 h1; have hy:=List.pairwise_cons.1 h2
  have e:x=y:=by
   have m1:x∈y :: l':=hp.mem_iff.1 (List.mem_cons_self ..)
   have m2:y∈x :: l:=hp.mem_iff.2 (List.mem_cons_self ..)
   rcases List.mem_cons.1 m1 with e | m1
   ·exact e
   ·rcases List.mem_cons.1 m2 with e | m2
    ·exact e.symm
    ·exact absurd (hy.1 x m1) (TL.as h (hx.1 y m2))
  subst e
  rw [Srt.uniq h hx.2 hy.2 (List.Perm.cons_inv hp)]
def insS (lt:α→α→Bool) (l:List α) (m:α):List α:=l.takeWhile (fun x => !lt m x)++m :: l.dropWhile (fun x => !lt m x)
def insT (lt:α→α→Bool) (l:List (α×Nat)) (m:α×Nat):List (α×Nat):=l.takeWhile (fun x => !lt m.1 x.1)++m :: l.dropWhile (fun x => !lt m.1 x.1)
theorem insT_fst (l:List (α×Nat)) (m:α×Nat):(insT lt l m).map (·.1)=insS lt (l.map (·.1)) m.1:=by
 unfold insT insS
 rw [List.map_append,List.map_cons,List.takeWhile_map,List.dropWhile_map]; rfl
theorem insT_perm (l:List (α×Nat)) (m:α×Nat):(insT lt l m).Perm (l++[m]):=by
 unfold insT
 have h1:(l.takeWhile (fun x => !lt m.1 x.1)++m :: l.dropWhile (fun x => !lt m.1 x.1)).Perm (m :: (l.takeWhile (fun x => !lt m.1 x.1)++l.dropWhile (fun x => !lt m.1 x.1))):=List.perm_middle
 rw [List.takeWhile_append_dropWhile] at h1
 exact h1.trans (List.perm_append_comm (l₁:=[m]) (l₂:=l))
theorem insT_srt (h:Wk0 lt) {l:List (α×Nat)} {m:α×Nat} (hs:Srt lt l) (ht:∀ x∈l,x.2<m.2):Srt lt (insT lt l m):=by
 unfold insT
 have hl:=List.takeWhile_append_dropWhile (p:=fun x:α×Nat => !lt m.1 x.1) (l:=l)
 have hs':=hs
 unfold Srt at hs' ⊢
 rw [← hl] at hs'
 obtain ⟨s1,s2,s3⟩:=List.pairwise_append.1 hs'
 have hd:∀ y∈l.dropWhile (fun x => !lt m.1 x.1),TL lt m y:=by
  intro y hy
  cases hdw:l.dropWhile (fun x => !lt m.1 x.1) with
  | nil=>rw [hdw] at hy; cases hy
  | cons z r =>
   have hz:lt m.1 z.1=true:=by
    have:=List.head?_dropWhile_not (fun x:α×Nat => !lt m.1 x.1) l
    rw [hdw] at this
    simpa using this
   rw [hdw] at hy s2
   rcases List.mem_cons.1 hy with rfl | hy
   ·exact .inl hz
   exact TL.tr h (.inl hz) ((List.pairwise_cons.1 s2).1 y hy)
 have ht':∀ x∈l.takeWhile (fun x => !lt m.1 x.1),TL lt x m:=by
  intro x hx
  have hp:(!lt m.1 x.1)=true:=by
   have:=List.all_takeWhile (p:=fun x:α×Nat => !lt m.1 x.1) (l:=l)
   exact List.all_eq_true.1 this x hx
  have hxl:x∈l:=by rw [← hl]; exact List.mem_append_left _ hx
  exact .inr ⟨by simpa using hp,ht x hxl⟩
 refine List.pairwise_append.2 ⟨s1,List.pairwise_cons.2 ⟨hd,s2⟩,fun x hx y hy=>?_⟩
 rcases List.mem_cons.1 hy with rfl | hy
 ·exact ht' x hx
 exact s3 x hx y hy
def sortS (lt:α→α→Bool) (l:List α):List α:=l.foldl (insS lt) []
theorem foldT (h:Wk0 lt):∀ (l:List α) (k:Nat) (acc:List (α×Nat)),Srt lt acc→(∀ x∈acc,x.2<k)→∃ T,Srt lt T∧T.Perm (acc++l.zipIdx k)∧T.map (·.1)=l.foldl (insS lt) (acc.map (·.1))
 | [],k,acc,hs,_=>⟨acc,hs,by simp,rfl⟩
 | m :: l,k,acc,hs,hk=>by
  obtain ⟨T,h1,h2,h3⟩:=foldT h l (k+1) (insT lt acc (m,k)) (insT_srt h hs hk) (fun x hx=>by
   rcases List.mem_append.1 ((insT_perm acc (m,k)).mem_iff.1 hx) with hx | hx
   ·have:=hk x hx; omega
   rw [List.mem_singleton.1 hx]; show k<k+1; omega)
  refine ⟨T,h1,h2.trans ?_,?_⟩
  ·rw [List.zipIdx_cons,show acc++(m,k) :: l.zipIdx (k+1)=(acc++[(m,k)])++l.zipIdx (k+1) by simp]
   exact (insT_perm acc (m,k)).append_right _
  rw [h3,insT_fst]; rfl
theorem sortS_spec (h:Wk0 lt) (l:List α):∃ T,Srt lt T∧T.Perm (l.zipIdx 0)∧T.map (·.1)=sortS lt l:=by
 obtain ⟨T,h1,h2,h3⟩:=foldT h l 0 [] .nil (fun _ h=>by cases h)
 exact ⟨T,h1,by simpa using h2,h3⟩
theorem sortS_of (h:Wk0 lt) {l:List α} {T:List (α×Nat)} (hs:Srt lt T) (hp:T.Perm (l.zipIdx 0)):T.map (·.1)=sortS lt l:=by
 obtain ⟨T',h1,h2,h3⟩:=sortS_spec h l
 rw [← h3,Srt.uniq h hs h1 (hp.trans h2.symm)]
theorem insS_perm (l:List α) (m:α):(insS lt l m).Perm (l++[m]):=by
 unfold insS
 have h1:(l.takeWhile (fun x => !lt m x)++m :: l.dropWhile (fun x => !lt m x)).Perm (m :: (l.takeWhile (fun x => !lt m x)++l.dropWhile (fun x => !lt m x))):=List.perm_middle
 rw [List.takeWhile_append_dropWhile] at h1
 exact h1.trans (List.perm_append_comm (l₁:=[m]) (l₂:=l))
theorem foldS_perm:∀ (m l:List α),(m.foldl (insS lt) l).Perm (l++m)
 | [],l=>by simp
 | x :: m,l=>by
  rw [List.foldl_cons]
  refine (foldS_perm m _).trans ?_
  rw [show l++x :: m=(l++[x])++m by simp]
  exact (insS_perm l x).append_right _
theorem sortS_perm (l:List α):(sortS lt l).Perm l:=by have:=foldS_perm (lt:=lt) l []; simpa [sortS] using this
theorem sortS_len (l:List α):(sortS lt l).length=l.length:=(sortS_perm l).length_eq
end
section
variable {P:Program} {n:Nat} {l:List Oper} {K K':Env→PM→Mem→Prop} {dr:Bool} {mc:Md}
theorem Wo.bind1 {i:Nat} {σ:List Nat} {ρ:Env} {G:PM} {μ:Mem} (hm:∀ ρ G μ,K ρ G μ→Wo dr mc P n l K' σ ρ G μ) (H:Wo dr mc P n l K [i] ρ G μ):Wo dr mc P n l K' (i :: σ) ρ G μ:=by
 have h0:∀ {ρ G μ},Wo dr mc P n l K [] ρ G μ→Wo dr mc P n l K' σ ρ G μ:=fun h=>by cases h with | nil h=>exact hm _ _ _ h
 cases H with
 | pure ho hk hg hr h=>exact .pure ho hk hg hr (h0 h)
 | read ho hk hg hr h=>exact .read ho hk hg hr (h0 h)
 | make ho hk hg hr h=>exact .make ho hk hg hr fun b=>h0 (h b)
 | box ho hk hg hr h=>exact .box ho hk hg hr fun b=>h0 (h b)
 | callv ho hk hg hr hf h=>exact .callv ho hk hg hr hf (h0 h)
 | call ho hk hg hr hf h=>exact .call ho hk hg hr hf fun v G' μ' a b=>h0 (h v G' μ' a b)
 | callg hd ho hg hr hf h=>exact .callg hd ho hg hr hf fun v G' μ' a b=>h0 (h v G' μ' a b)
 | fresh ho hk hg hp hr hw h=>exact .fresh ho hk hg hp hr hw fun v G' μa μb a b=>h0 (h v G' μa μb a b)
 | act ho hk hg hp hr h=>exact .act ho hk hg hp hr fun v G' μ' a b=>h0 (h v G' μ' a b)
theorem Wo.cut1 {j:Nat} {σ:List Nat} {ρ:Env} {G:PM} {μ:Mem} (H:Wo dr mc P n l K (j :: σ) ρ G μ):Wo dr mc P n l (fun ρ G μ=>Wo dr mc P n l K σ ρ G μ) [j] ρ G μ:=by
 cases H with
 | pure ho hk hg hr h=>exact .pure ho hk hg hr (.nil h)
 | read ho hk hg hr h=>exact .read ho hk hg hr (.nil h)
 | make ho hk hg hr h=>exact .make ho hk hg hr fun b=>.nil (h b)
 | box ho hk hg hr h=>exact .box ho hk hg hr fun b=>.nil (h b)
 | callv ho hk hg hr hf h=>exact .callv ho hk hg hr hf (.nil h)
 | call ho hk hg hr hf h=>exact .call ho hk hg hr hf fun v G' μ' a b=>.nil (h v G' μ' a b)
 | callg hd ho hg hr hf h=>exact .callg hd ho hg hr hf fun v G' μ' a b=>.nil (h v G' μ' a b)
 | fresh ho hk hg hp hr hw h=>exact .fresh ho hk hg hp hr hw fun v G' μa μb a b=>.nil (h v G' μa μb a b)
 | act ho hk hg hp hr h=>exact .act ho hk hg hp hr fun v G' μ' a b=>.nil (h v G' μ' a b)
def oneOk (mc:Md) (l:List Oper) (listed:Array Bool) (i:Nat):Bool :=
 (rdy l listed).contains i&&match nth l i with
 | some oi=>(kindOf mc oi.op == .pure||kindOf mc oi.op == .read)&&(List.range l.length).all fun j=>listed.getD j true||j == i||match nth l j with
  | some oj=>dep l l.length j i||(oi.apart l.toArray oj&&(kindOf mc oi.op == .pure||kindOf mc oj.op != .act))
  | none=>false
 | none=>false
def Wt (mc:Md) (P:Program) (n:Nat) (l:List Oper) (K:Env→PM→Mem→Prop):Nat→Array Bool→Env→PM→Mem→Prop
 | 0,listed,ρ,G,μ=>rdy l listed=[]∧K ρ G μ
 | m+1,listed,ρ,G,μ=>(∃ i,oneOk mc l listed i=true∧Wo true mc P n l (fun ρ' G' μ'=>Wt mc P n l K m (listed.setIfInBounds i true) ρ' G' μ') [i] ρ G μ) ∨
   (rdy l listed≠[]∧∀ j∈rdy l listed,Wo true mc P n l (fun ρ' G' μ'=>Wt mc P n l K m (listed.setIfInBounds j true) ρ' G' μ') [j] ρ G μ)
theorem Wt.kok (hK:KOk K):∀ (m:Nat) (listed:Array Bool),KOk (fun ρ G μ=>Wt mc P n l K m listed ρ G μ)
 | 0,listed=>⟨fun ρ ρ' G μ e h=>⟨h.1,hK.1 _ _ _ _ e h.2⟩,fun ρ G μ μ' p h=>⟨h.1,hK.2 _ _ _ _ p h.2⟩⟩
 | m+1,listed=>by
  refine ⟨fun ρ ρ' G μ e h=>?_,fun ρ G μ μ' p h=>?_⟩
  ·rcases h with ⟨i,h1,h2⟩ | ⟨h1,h2⟩
   ·exact .inl ⟨i,h1,h2.congr (Wt.kok hK m _) e⟩
   exact .inr ⟨h1,fun j hj=>(h2 j hj).congr (Wt.kok hK m _) e⟩
  rcases h with ⟨i,h1,h2⟩ | ⟨h1,h2⟩
  ·exact .inl ⟨i,h1,h2.perm (Wt.kok hK m _) p⟩
  exact .inr ⟨h1,fun j hj=>(h2 j hj).perm (Wt.kok hK m _) p⟩
def unlN (listed:Array Bool):Nat:=listed.toList.count false
theorem unlN_set {listed:Array Bool} {i:Nat} (h:listed.getD i true=false):unlN (listed.setIfInBounds i true)+1=unlN listed:=by
 rcases Nat.lt_or_ge i listed.size with h' | h'
 ·have h2:listed.toList[i]'(by simpa using h')=false:=by simpa [h'] using h
  unfold unlN
  rw [Array.toList_setIfInBounds,List.count_set (by simpa using h')]
  have hp:0<listed.toList.count false:=List.count_pos_iff.2 (by rw [← h2]; exact List.getElem_mem _)
  rw [if_pos (by rw [h2]; rfl),if_neg (by decide)]
  omega
 ·simp [h'] at h
theorem unlN_pos {listed:Array Bool} {i:Nat} (h:listed.getD i true=false):0<unlN listed:=by
 have:=unlN_set h; omega
theorem oneOk_mono {listed:Array Bool} {i j:Nat} (hne:i≠j) (h:oneOk mc l listed i=true):oneOk mc l (listed.setIfInBounds j true) i=true:=by
 unfold oneOk at h ⊢
 simp only [Bool.and_eq_true] at h ⊢
 obtain ⟨h1,h2⟩:=h
 refine ⟨by simpa using rdy_mono (by simpa using h1) hne,?_⟩
 cases hi:nth l i with
 | none=>rw [hi] at h2; cases h2
 | some oi =>
  simp only [hi,Bool.and_eq_true] at h2 ⊢
  refine ⟨h2.1,List.all_eq_true.2 fun k hk=>?_⟩
  have h3:=List.all_eq_true.1 h2.2 k hk
  by_cases e:j=k
  ·subst e
   have:(listed.setIfInBounds j true).getD j true=true:=by
    rcases Nat.lt_or_ge j listed.size with h' | h'<;>simp [h']
   rw [this]; rfl
  rw [getD_set_ne true e]; exact h3
theorem Wt.front (hK:KOk K) (hs:Region.noSelect l.toArray=true) (hmk:∀ j oj,nth l j=some oj→kindOf mc oj.op=.make→Makes P oj) (hds:∀ j oj,nth l j=some oj→dstOk n oj.dst) :
  ∀ (m:Nat) (listed:Array Bool) (j:Nat) (ρ:Env) (G:PM) (μ:Mem),unlN listed=m+1→Closed l listed→j∈rdy l listed→Wt mc P n l K (m+1) listed ρ G μ→Wo true mc P n l (fun ρ' G' μ'=>Wt mc P n l K m (listed.setIfInBounds j true) ρ' G' μ') [j] ρ G μ
 | m,listed,j,ρ,G,μ,hu,hcl,hj,H=>by
  rcases H with ⟨i,h1,h2⟩ | ⟨_,h2⟩
  ·by_cases e:j=i
   ·subst e; exact h2
   have hi:i∈rdy l listed:=by unfold oneOk at h1; simp only [Bool.and_eq_true] at h1; simpa using h1.1
   have hj':=rdy_mono hj e
   have hiun:=(rdy_iff.1 hi).1
   have hjun:=(rdy_iff.1 hj).1
   have hu1:=unlN_set hiun
   have hjun':(listed.setIfInBounds i true).getD j true=false:=by rw [getD_set_ne true (Ne.symm e)]; exact hjun
   have hp:=unlN_pos hjun'
   obtain ⟨m',rfl⟩ : ∃ m',m=m'+1:=⟨m-1,by omega⟩
   obtain ⟨_,oi,hoi,_⟩:=rdy_iff.1 hi
   obtain ⟨_,oj,hoj,_⟩:=rdy_iff.1 hj
   have h3:Wo true mc P n l (fun ρ' G' μ'=>Wt mc P n l K m' ((listed.setIfInBounds i true).setIfInBounds j true) ρ' G' μ') (i :: [j]) ρ G μ :=
    h2.bind1 fun ρ' G' μ' h=>Wt.front hK hs hmk hds m' (listed.setIfInBounds i true) j ρ' G' μ' (by omega) (hcl.set hi) hj' h
   have hnoe:=not_dep hcl hiun hj l.length
   have hjl:j<l.length:=by
    have:=(nth_eq l j).trans hoj
    exact (by simpa using (Array.getElem?_eq_some_iff.1 this).1)
   have h1':=h1
   unfold oneOk at h1'
   simp only [Bool.and_eq_true,hoi] at h1'
   obtain ⟨_,hki,hall⟩:=h1'
   have h4:=List.all_eq_true.1 hall j (List.mem_range.2 hjl)
   simp only [hjun,hoj,hnoe,Bool.false_or,Bool.or_eq_true,beq_iff_eq,e,false_or,Bool.and_eq_true,bne_iff_ne] at h4
   simp only [Bool.or_eq_true,beq_iff_eq] at hki
   have hkk:kindOf mc oi.op=.pure∨(kindOf mc oi.op=.read∧kindOf mc oj.op≠.act)∨kindOf mc oj.op=.make:=by
    rcases hki with h5 | h5
    ·exact .inl h5
    rcases h4.2 with h6 | h6
    ·exact .inl h6
    exact .inr (.inl ⟨h5,h6⟩)
   have h5:=Wo.swap (Wt.kok hK m' _) rfl hoi hoj (apart_of hs hoi hoj h4.1) hds (hmk j oj hoj) hkk h3
   refine h5.cut1.bind1 fun ρ' G' μ' h=>.nil (.inl ⟨i,oneOk_mono (Ne.symm e) h1,?_⟩)
   rw [Array.setIfInBounds_comm _ _ e]
   exact h
  exact h2 j hj
theorem Wt.any {Q:Exit→Act→World→Prop} {G0:PM} {K0:List Nat} {w0:World} (hK:KOk K) (hs:Region.noSelect l.toArray=true) (hmk:∀ j oj,nth l j=some oj→kindOf mc oj.op=.make→Makes P oj) (hds:∀ j oj,nth l j=some oj→dstOk n oj.dst)
  (hQ:∀ ρ G μ,K ρ G μ→∀ a w,Ag n ρ a→Tr G0 K0 w0 G μ w→Q .normal a w) :
  ∀ (m:Nat) (listed:Array Bool) (ρ:Env) (G:PM) (μ:Mem) (a:Act) (w:World),unlN listed=m→Closed l listed→Wt mc P n l K m listed ρ G μ→Ag n ρ a→Tr G0 K0 w0 G μ w→wpAny P .any l.toArray Q m listed a w
 | 0,listed,ρ,G,μ,a,w,_,_,H,ha,ht=>⟨H.1,hQ _ _ _ H.2 a w ha ht⟩
 | m+1,listed,ρ,G,μ,a,w,hu,hcl,H,ha,ht=>by
  refine ⟨fun h0=>?_,fun j hj=>?_⟩
  ·rcases H with ⟨i,h1,_⟩ | ⟨h1,_⟩
   ·have hi:i∈rdy l listed:=by unfold oneOk at h1; simp only [Bool.and_eq_true] at h1; simpa using h1.1
    unfold rdy at hi
    rw [h0] at hi; cases hi
   exact absurd h0 h1
  have hj':j∈rdy l listed:=hj
  have hu1:=unlN_set (rdy_iff.1 hj').1
  obtain ⟨o,ho,h⟩:=(Wt.front hK hs hmk hds m listed j ρ G μ hu hcl hj' H).head ha ht (next:=wpAny P .any l.toArray Q m (listed.setIfInBounds j true)) (Q:=Q) hds
   (fun ρ' G' μ' a' w' H' ha' ht'=>by cases H' with | nil h=>exact Wt.any hK hs hmk hds hQ m _ ρ' G' μ' a' w' (by omega) (hcl.set hj') h ha' ht')
  simp only [wpOp,nth_eq,ho]
  split
  ·rename_i hw; rw [if_pos hw] at h; exact .inl h
  rename_i hw; rw [if_neg hw] at h; exact h
def mixOk (P:Program) (n:Nat) (l:List Oper):Bool:=Region.noSelect l.toArray&&(l.all fun o=>match o.dst with | some d=>decide (d<n) | none=>true)&&allocOk P l
theorem Wk.mix {X:Cx} {k:List KI} {id:Nat} {ρ:Env} {G:PM} {μ:Mem} (mc:Md) (hm:X.P.follows .mixedOrders=true) (hok:mixOk X.P X.n l=true)
  (h:Wt mc X.P X.n l (fun ρ G μ=>We X .normal k ρ G μ) l.length (Array.replicate l.length false) ρ G μ):Wk X (.region id l.toArray true) k ρ G μ:=by
 simp only [mixOk,Bool.and_eq_true] at hok
 obtain ⟨⟨h1,h2⟩,h3⟩:=hok
 refine ⟨fun a w ha ht=>wp_region_any hm ?_⟩
 have hu:unlN (Array.replicate l.length false)=l.length:=by simp [unlN]
 have:=Wt.any (Q:=Qof X k) (We.kok .normal) h1 (fun j oj hj hk=>makes_of hk (List.all_eq_true.1 h3 oj (mem_of_nth hj)))
  (fun j oj hj=>by
   have:=List.all_eq_true.1 h2 oj (mem_of_nth hj)
   cases hd:oj.dst with
   | none=>trivial
   | some d=>rw [hd] at this; show d<X.n; exact of_decide_eq_true this) (fun _ _ _ h a w ha ht=>h.out a w ha ht) l.length _ ρ G μ a _ hu (Closed.none l.length) h ha ht.drew
 simpa using this
variable {ρ:Env} {G:PM} {μ:Mem} {m:Nat} {listed:Array Bool}
theorem Wt.last (hr:rdy l listed=[]) (h:K ρ G μ):Wt mc P n l K 0 listed ρ G μ:=⟨hr,h⟩
theorem Wt.one (i:Nat) (hc:oneOk mc l listed i=true) (h:Wo true mc P n l (fun ρ' G' μ'=>Wt mc P n l K m (listed.setIfInBounds i true) ρ' G' μ') [i] ρ G μ):Wt mc P n l K (m+1) listed ρ G μ:=.inl ⟨i,hc,h⟩
theorem Wt.b1 (j:Nat) (hr:rdy l listed=[j]) (h:Wo true mc P n l (fun ρ' G' μ'=>Wt mc P n l K m (listed.setIfInBounds j true) ρ' G' μ') [j] ρ G μ):Wt mc P n l K (m+1) listed ρ G μ :=
 .inr ⟨by rw [hr]; simp,fun j' hj'=>by rw [hr] at hj'; obtain rfl:=List.mem_singleton.1 hj'; exact h⟩
theorem Wt.b2 (j j2:Nat) (hr:rdy l listed=[j,j2]) (h:Wo true mc P n l (fun ρ' G' μ'=>Wt mc P n l K m (listed.setIfInBounds j true) ρ' G' μ') [j] ρ G μ)
  (h2:Wo true mc P n l (fun ρ' G' μ'=>Wt mc P n l K m (listed.setIfInBounds j2 true) ρ' G' μ') [j2] ρ G μ):Wt mc P n l K (m+1) listed ρ G μ :=
 .inr ⟨by rw [hr]; simp,fun j' hj'=>by
  rw [hr] at hj'
  rcases List.mem_cons.1 hj' with rfl | hj'
  ·exact h
  ·obtain rfl:=List.mem_singleton.1 hj'; exact h2⟩
theorem Wt.b3 (j j2 j3:Nat) (hr:rdy l listed=[j,j2,j3]) (h:Wo true mc P n l (fun ρ' G' μ'=>Wt mc P n l K m (listed.setIfInBounds j true) ρ' G' μ') [j] ρ G μ)
  (h2:Wo true mc P n l (fun ρ' G' μ'=>Wt mc P n l K m (listed.setIfInBounds j2 true) ρ' G' μ') [j2] ρ G μ) (h3:Wo true mc P n l (fun ρ' G' μ'=>Wt mc P n l K m (listed.setIfInBounds j3 true) ρ' G' μ') [j3] ρ G μ):Wt mc P n l K (m+1) listed ρ G μ :=
 .inr ⟨by rw [hr]; simp,fun j' hj'=>by
  rw [hr] at hj'
  rcases List.mem_cons.1 hj' with rfl | hj'
  ·exact h
  ·rcases List.mem_cons.1 hj' with rfl | hj'
   ·exact h2
   ·obtain rfl:=List.mem_singleton.1 hj'; exact h3⟩
end
theorem flat_tk {α:Type} {enc:α→List Value} {sz:Nat}:∀ {xs:List α} {q:Nat},(∀ y∈xs,(enc y).length=sz)→(xs.take q).flatMap enc=(xs.flatMap enc).take (q*sz)
 | [],q,_=>by simp
 | x :: xs,0,_=>by simp
 | x :: xs,q+1,h=>by
  have hx:=h x (List.mem_cons_self ..)
  rw [List.take_succ_cons,List.flatMap_cons,List.flatMap_cons,show (q+1)*sz=(enc x).length+q*sz by rw [hx,Nat.succ_mul]; omega,List.take_length_add_append,flat_tk (fun y hy=>h y (List.mem_cons_of_mem _ hy))]
theorem flat_dr {α:Type} {enc:α→List Value} {sz:Nat}:∀ {xs:List α} {q:Nat},(∀ y∈xs,(enc y).length=sz)→(xs.drop q).flatMap enc=(xs.flatMap enc).drop (q*sz)
 | [],q,_=>by simp
 | x :: xs,0,_=>by simp
 | x :: xs,q+1,h=>by
  have hx:=h x (List.mem_cons_self ..)
  rw [List.drop_succ_cons,List.flatMap_cons,show (q+1)*sz=(enc x).length+q*sz by rw [hx,Nat.succ_mul]; omega,List.drop_length_add_append,flat_dr (fun y hy=>h y (List.mem_cons_of_mem _ hy))]
section
variable {dr:Bool} {mc:Md} {P:Program} {n:Nat} {l:List Oper} {K:Env→PM→Mem→Prop} {i:Nat} {σ:List Nat} {ρ:Env} {G:PM} {μ:Mem}
variable {d t:Nat} {p:String} {af:Array Edge} {g:Option (Nat×Bool)} {c:Bool}
theorem sr1 {T T':TypeId} {x y:Operand} {k k':IntKind} {a1 a2:Int} (A:Nat) (ho:nth l i=some ⟨some d,.binOp .shr T x y T',t,p,af,g⟩) (hg:Gd l ρ g c) (hx:Ev ρ c x (.int k a1)) (hy:Ev ρ c y (.int k' a2)) (e1:a1=A) (e2:a2=1) (hk:1≤k.bits)
  (h:Wo dr mc P n l K σ ((d,c,.int k ((A / 2:Nat):Int)) :: ρ) G μ):Wo dr mc P n l K (i :: σ) ρ G μ:=by
 subst e1; subst e2
 refine sr ho hg hx hy (fun _=>by decide) ?_
 have e:(A:Int).fdiv (2^(min (1:Int).toNat k.bits))=((A / 2:Nat):Int):=by
  have:min (1:Int).toNat k.bits=1:=by show min 1 k.bits=1; omega
  rw [this,Int.pow_one,Int.fdiv_eq_ediv_of_nonneg _ (by decide)]
  rfl
 rw [e]; exact h
theorem s3 {T e sz by':Nat} {x y z u:Operand} {b m cap:Nat} {k1 k2 k3:IntKind} {lo hi mx:Int} (ho:nth l i=some ⟨some d,.slice T x (some y) (some z) (some u),t,p,af,none⟩) (hT:slE P T=some (e,sz,by')) (hx:Ev ρ true x (.slice (some ⟨b,0,none⟩) m cap)) (hy:Ev ρ true y (.int k1 lo)) (hz:Ev ρ true z (.int k2 hi)) (hu:Ev ρ true u (.int k3 mx))
  (h0:0≤lo) (h1:lo≤hi) (h2:hi≤mx) (h3:mx≤cap) (h:∀ v,Wo dr mc P n l K σ ((d,true,v) :: ρ) G μ):Wo dr mc P n l K (i :: σ) ρ G μ:=by
 obtain ⟨hu',inf,hi',hs1,hb1⟩:=slE_some hT
 refine .pure (v:=.slice (if mx.toNat=lo.toNat then (some ⟨b,0,none⟩ : Option Addr) else (some ⟨b,0,none⟩ : Option Addr).map (·.add (lo.toNat*inf.size))) (hi.toNat-lo.toNat) (mx.toNat-lo.toNat)) ho (.inl rfl) .no (fun hc a w ha=>?_) (h _)
 simp [execOp,hx.eval ha rfl,hy.eval ha rfl,hz.eval ha rfl,hu.eval ha rfl,Instr.sliceAt,run_underlying hu',Instr.slice,Instr.sliceBounds,Instr.sliceBound,asIntOf,show 0≤hi by omega,show 0≤mx by omega,h0,sizeOf,typeInfo,hi']
 repeat' split
 all_goals first|rfl|(exfalso; omega)|(simp; done)|skip
theorem srh {T e sz by':Nat} {x z:Operand} {b m cap:Nat} {k:IntKind} {hi:Int} (q:Nat) (ho:nth l i=some ⟨some d,.slice T x none (some z) none,t,p,af,none⟩) (hT:slE P T=some (e,sz,by')) (hx:Ev ρ true x (.slice (some ⟨b,0,none⟩) m cap)) (hz:Ev ρ true z (.int k hi))
  (hq:hi=q) (h1:q≤cap) (h:Wo dr mc P n l K σ ((d,true,.slice (some ⟨b,0,none⟩) q cap) :: ρ) G μ):Wo dr mc P n l K (i :: σ) ρ G μ:=by
 subst hq
 exact se (s:=⟨some ⟨b,0,none⟩,cap⟩) (m:=m) ho .no hT hx hz (fun _=>by omega) (fun _=>by show (q:Int)≤cap; omega) (by rw [Int.toNat_natCast]; exact h)
theorem slz {T e sz by' b m cap:Nat} {x y:Operand} {k:IntKind} {lo:Int} (q:Nat) (ho:nth l i=some ⟨some d,.slice T x (some y) none none,t,p,af,none⟩) (hT:slE P T=some (e,sz,by')) (hx:Ev ρ true x (.slice (some ⟨b,0,none⟩) m cap)) (hy:Ev ρ true y (.int k lo))
  (hq:lo=q) (h1:q≤m) (h2:m≤cap) (h:∀ oa,(q<m→oa=some ⟨b,q*sz,none⟩)→Wo dr mc P n l K σ ((d,true,.slice oa (m-q) (cap-q)) :: ρ) G μ):Wo dr mc P n l K (i :: σ) ρ G μ:=by
 by_cases h3:q<cap
 ·exact slr q ho hT hx hy hq h1 h2 h3 (h _ fun _=>rfl)
 refine .pure ho (.inl rfl) .no (fun _ a w ha=>?_) (h (some ⟨b,0,none⟩) (fun h4=>absurd h4 (by omega)))
 obtain ⟨hu,inf,hi,rfl,rfl⟩:=slE_some hT
 subst hq
 have hx':=hx.eval ha rfl
 have hn:cap=q:=by omega
 simp [execOp,hx',hy.eval ha rfl,Instr.sliceAt,run_underlying hu,Instr.slice,Instr.sliceBounds,Instr.sliceBound,asIntOf,sizeOf,typeInfo,hi,h1,h2,hn]
 try omega
theorem sll {T e sz by' b m cap:Nat} {x y z:Operand} {k k':IntKind} {lo hi:Int} (q r:Nat) (ho:nth l i=some ⟨some d,.slice T x (some y) (some z) none,t,p,af,none⟩) (hT:slE P T=some (e,sz,by')) (hx:Ev ρ true x (.slice (some ⟨b,0,none⟩) m cap)) (hy:Ev ρ true y (.int k lo)) (hz:Ev ρ true z (.int k' hi))
  (hq:lo=q) (hr:hi=r) (h1:q≤r) (h2:r≤cap) (h3:q<cap) (h:Wo dr mc P n l K σ ((d,true,.slice (some ⟨b,q*sz,none⟩) (r-q) (cap-q)) :: ρ) G μ):Wo dr mc P n l K (i :: σ) ρ G μ:=by
 subst hq; subst hr
 refine sc (s:=⟨some ⟨b,0,none⟩,cap⟩) (m:=m) ho .no hT hx hy hz (fun _=>by omega) (fun _=>by omega) (fun _=>by show (r:Int)≤cap; omega) ?_
 have e1:(Sh.cut ⟨some ⟨b,0,none⟩,cap⟩ (q:Int).toNat sz).val ((r:Int).toNat-(q:Int).toNat)=.slice (some ⟨b,q*sz,none⟩) (r-q) (cap-q):=by
  simp only [Int.toNat_natCast,Sh.cut,Sh.val,if_neg (show ¬ cap=q by omega),Option.map_some,add_lit,Nat.zero_add]
 rw [e1]; exact h
theorem run_apD {T E ty by' sz b m cap q r cp:Nat} {xs:List Value} {oa:Option Addr} {w:World} (hT:slE P T=some (E,sz,by')) (hs:Sat G [.row (.slice (some ⟨b,0,none⟩) m cap) E sz m xs] w) (hq:q≤r) (hr:r≤m) (hoa:r<m→oa=some ⟨b,r*sz,none⟩) (h1:∀ u∈xs,u.oneCell'=true) :
  ∃ w',(Builtin.append_ #[T,T] ty #[.slice (some ⟨b,0,none⟩) q cap,.slice oa (m-r) cp]).run P w=.ok (.slice (some ⟨b,0,none⟩) (q+(m-r)) cap) w'∧Tr G [b] w G [.row (.slice (some ⟨b,0,none⟩) (q+(m-r)) cap) E sz (q+(m-r)) (xs.take (q*sz)++xs.drop (r*sz))] w':=by
 obtain ⟨hu,inf,hi,rfl,rfl⟩:=slE_some hT
 have hown:w.ownsRow 0 E inf.size (.slice (some ⟨b,0,none⟩) m cap) m xs:=hs.own _ (List.mem_singleton.2 rfl)
 have hxl:=hown.1
 rcases hown.2 with ⟨e,_⟩ | ⟨g,cap',cur,e,_,hg,hnc,hcm,hcs,htake⟩
 ·cases e
 simp only [Value.slice.injEq,Option.some.injEq,Addr.mk.injEq,and_true,true_and] at e
 obtain ⟨rfl,rfl⟩:=e
 have hsat:Sat G [.blk b (.cells cur E (0,0))] w:=⟨hs.sub,fun r hr=>by rw [List.mem_singleton.1 hr]; exact hg,fun c hc=>hs.apart c (by simpa [keys,Res.keys,Value.ownBlock] using hc),by simp [keys,Res.keys]⟩
 have hqs:q*inf.size≤r*inf.size:=Nat.mul_le_mul_right _ hq
 have hrs:r*inf.size≤m*inf.size:=Nat.mul_le_mul_right _ hr
 have hms:m*inf.size≤cap*inf.size:=Nat.mul_le_mul_right _ hnc
 have hcl:cur.toList.length=cur.size:=Array.length_toList ..
 have hnl:(xs.drop (r*inf.size)).length=(m-r)*inf.size:=by rw [List.length_drop,hxl,Nat.sub_mul]
 have hsub:(m-r)*inf.size=m*inf.size-r*inf.size:=Nat.sub_mul ..
 have hlen:(xs.take (q*inf.size)++xs.drop (r*inf.size)).length=(q+(m-r))*inf.size:=by
  rw [List.length_append,hnl,List.length_take,Nat.add_mul,hxl]; omega
 have hpre:cur.toList.take (q*inf.size)=xs.take (q*inf.size):=by
  rw [← htake,List.take_take,Nat.min_eq_left (by omega)]
 by_cases hk:m-r=0
 ·rw [hk]
  have hd:xs.drop (r*inf.size)=[]:=List.drop_of_length_le (by rw [hxl]; exact Nat.mul_le_mul_right _ (by omega))
  rw [hd,List.append_nil,Nat.add_zero]
  refine ⟨w,?_,?_⟩
  ·have hqc:q≤cap:=by omega
   cases oa<;>simp [Builtin.append_,run_underlying hu,sizeOf,typeInfo,hi,Builtin.lenOf,Builtin.firstCells,loadCells,loadCellsFrom,hqc,storeCells]
  have:=(Tr.begin hsat).asRow (m:=q) (cap:=cap) (sz:=inf.size) (xs:=xs.take (q*inf.size)) (by rw [List.length_take,hxl]; omega) (by omega) hcm hcs hpre
  simpa [keys,Res.keys] using this
 obtain rfl:=hoa (by omega)
 have hnews:∀ j u,(xs.drop (r*inf.size))[j]? = some u→w.cell? ((⟨b,r*inf.size,none⟩ : Addr).add j)=some u:=by
  intro j u hj
  rw [List.getElem?_drop] at hj
  have:=hown.cells (g:=b) rfl (r*inf.size+j) u hj
  rw [add_lit,Nat.zero_add] at this
  rw [add_lit]; exact this
 have hroom:q+(m-r)≤cap:=by omega
 have hfit:q*inf.size+(xs.drop (r*inf.size)).length≤cur.size:=by rw [hnl,hcs,←Nat.add_mul]; exact Nat.mul_le_mul_right _ hroom
 have hrun:=run_append_room (P:=P) w T ty E inf hu hi b q cap cur hg ⟨b,r*inf.size,none⟩ (m-r) cp (xs.drop (r*inf.size)) hnl hnews (fun u hu=>h1 u (List.mem_of_mem_drop hu)) hroom hfit
 refine ⟨_,hrun,?_⟩
 have h2:=Tr.setArr (cs':=(cur.toList.take (q*inf.size)++xs.drop (r*inf.size)++cur.toList.drop (q*inf.size+(xs.drop (r*inf.size)).length)).toArray) hsat
 refine h2.asRow (m:=q+(m-r)) (cap:=cap) (sz:=inf.size) hlen hroom hcm ?_ ?_
 ·simp only [List.size_toArray,qlB,hcl]
  rw [List.length_drop] at hfit
  omega
 rw [hpre,←hlen]
 exact List.take_left
theorem apD {α:Type} {enc:α→List Value} {T E sz by' b cap q r cp:Nat} {x y:Operand} {xs:List α} {oa:Option Addr} {μ':Mem} (ho:nth l i=some ⟨some d,.call { callee:=.builtin .append,args:=#[x,y],argTypes:=#[T,T] },t,p,af,none⟩) (hT:slE P T=some (E,sz,by'))
  (hx:Ev ρ true x (.slice (some ⟨b,0,none⟩) q cap)) (hy:Ev ρ true y (.slice oa (xs.length-r) cp)) (hm:MTake μ (rS sz enc (.slice (some ⟨b,0,none⟩) xs.length cap) E xs) μ') (hoa:r<xs.length→oa=some ⟨b,r*sz,none⟩) (hsz:∀ y∈xs,(enc y).length=sz) (h1:∀ u∈xs.flatMap enc,u.oneCell'=true) (hq:q≤r) (hr:r≤xs.length)
  (h:Wo dr mc P n l K σ ((d,true,.slice (some ⟨b,0,none⟩) (xs.take q++xs.drop r).length cap) :: ρ) G (rS sz enc (.slice (some ⟨b,0,none⟩) (xs.take q++xs.drop r).length cap) E (xs.take q++xs.drop r) :: μ')) (hmc:mc.a=false∨dr=false:=by first|exact .inl rfl|exact .inr rfl):Wo dr mc P n l K (i :: σ) ρ G μ:=by
 have hl0:(xs.take q++xs.drop r).length=q+(xs.length-r):=by rw [List.length_append,List.length_take,List.length_drop]; omega
 rw [hl0] at h
 refine .act (μ₁:=[rS sz enc (.slice (some ⟨b,0,none⟩) xs.length cap) E xs]) (μ₂:=μ') (post:=fun G' μ' v'=>G'=G∧v'=.slice (some ⟨b,0,none⟩) (q+(xs.length-r)) cap∧μ'=[rS sz enc (.slice (some ⟨b,0,none⟩) (q+(xs.length-r)) cap) E (xs.take q++xs.drop r)]) ho (by rcases hmc with h | h<;>simp [kindOf,h]) .no hm.perm (fun a w ha hs=>.inl ?_) ?_
 ·obtain ⟨w',hrun,ht⟩:=run_apD (ty:=t) (cp:=cp) hT hs.left hq hr hoa h1
  refine ⟨_,w',G,_,.inl (by simp [execOp,resolve,invoke,builtin,hx.eval ha rfl,hy.eval ha rfl,hrun]),?_,rfl,rfl,rfl⟩
  have hl:(xs.take q++xs.drop r).length=q+(xs.length-r):=by rw [List.length_append,List.length_take,List.length_drop]; omega
  have e1:(xs.take q++xs.drop r).flatMap enc=(xs.flatMap enc).take (q*sz)++(xs.flatMap enc).drop (r*sz):=by
   rw [List.flatMap_append,flat_tk hsz,flat_dr hsz]
  have hk:keys [rS sz enc (.slice (some ⟨b,0,none⟩) xs.length cap) E xs]=[b]:=by simp [keys,Res.keys,Value.ownBlock]
  rw [hk]
  show Tr G [b] w G [.row _ E sz (xs.take q++xs.drop r).length ((xs.take q++xs.drop r).flatMap enc)] w'
  rw [hl,e1]; exact ht
 rintro v' G' μ'' _ ⟨rfl,rfl,rfl⟩
 exact h
theorem clT {α:Type} {enc:α→List Value} {T E sz by' b cap k cp:Nat} {x:Operand} {z:Value} {xs:List α} {μ':Mem} {dd:Option Nat} (ho:nth l i=some ⟨dd,.call { callee:=.builtin .clear,args:=#[x],argTypes:=#[T] },t,p,af,none⟩) (hT:slE P T=some (E,sz,by')) (hz:(P.info? E).bind (·.zero)=some z) (hzs:z.cells.size=sz) (hz1:∀ u∈z.cells,u.oneCell'=true)
  (hx:Ev ρ true x (.slice (some ⟨b,xs.length*sz,none⟩) k cp)) (hm:MTake μ (rS sz enc (.slice (some ⟨b,0,none⟩) xs.length cap) E xs) μ') (h0:0<k) (hk:xs.length+k≤cap) (hsz:∀ y∈xs,(enc y).length=sz)
  (h:Wo dr mc P n l K σ (lay ρ dd true (.tuple #[])) G (rS sz enc (.slice (some ⟨b,0,none⟩) xs.length cap) E xs :: μ')):Wo dr mc P n l K (i :: σ) ρ G μ:=by
 refine .act (μ₁:=[rS sz enc (.slice (some ⟨b,0,none⟩) xs.length cap) E xs]) (μ₂:=μ') (post:=fun G' μ' v'=>G'=G∧v'=.tuple #[]∧μ'=[rS sz enc (.slice (some ⟨b,0,none⟩) xs.length cap) E xs]) ho (.inl rfl) .no hm.perm (fun a w ha hs=>.inl ?_) ?_
 ·have hs':=hs.left
  have hrow:w.ownsRow 0 E sz (.slice (some ⟨b,0,none⟩) xs.length cap) xs.length (xs.flatMap enc):=hs'.own _ (List.mem_singleton.2 rfl)
  have hfl:=flat_len hsz
  obtain ⟨hu,inf,hi,rfl,rfl⟩:=slE_some hT
  rw [hi] at hz
  simp only [Option.bind_some] at hz
  rcases hrow.2 with ⟨e,_⟩ | ⟨g,cap',cur,e,_,hg,hnc,hcm,hcs,htake⟩
  ·cases e
  simp only [Value.slice.injEq,Option.some.injEq,Addr.mk.injEq,and_true,true_and] at e
  obtain ⟨rfl,rfl⟩:=e
  have hsat:Sat G [.blk b (.cells cur E (0,0))] w:=⟨hs'.sub,fun r hr=>by rw [List.mem_singleton.1 hr]; exact hg,fun c hc=>hs'.apart c (by simpa [keys,Res.keys,Value.ownBlock] using hc),by simp [keys,Res.keys]⟩
  have hzl:(Builtin.zeroCells z.cells k).toList.length=k*inf.size:=by rw [Array.length_toList,size_zeroCells,hzs]
  have hin:xs.length*inf.size+k*inf.size≤cap*inf.size:=by rw [← Nat.add_mul]; exact Nat.mul_le_mul_right _ hk
  have hz2:∀ u∈(Builtin.zeroCells z.cells k).toList,u.oneCell'=true:=by
   intro u hu
   rw [Array.mem_toList_iff] at hu
   unfold Builtin.zeroCells at hu
   obtain ⟨j,hj,rfl⟩:=Array.mem_map.1 hu
   have hjs:j%z.cells.size<z.cells.size:=Nat.mod_lt _ (by
    rcases Nat.eq_zero_or_pos z.cells.size with h0' | h0'
    ·rw [h0'] at hj; simp at hj
    exact h0')
   have:z.cells[j%z.cells.size]! = z.cells[j%z.cells.size]:=by simp [hjs]
   rw [this]
   exact hz1 _ (Array.getElem_mem hjs)
  have hst:=run_storeCells_at P b (xs.length*inf.size) E (Builtin.zeroCells z.cells k).toList 0 cur w hg (by rw [Nat.add_zero,hzl]; omega) hz2
  simp only [Nat.add_zero] at hst
  refine ⟨.tuple #[],w.setRow b (cur.toList.take (xs.length*inf.size)++(Builtin.zeroCells z.cells k).toList++cur.toList.drop (xs.length*inf.size+(Builtin.zeroCells z.cells k).toList.length)).toArray,G,_,.inl (by
   have hk0:k≠0:=by omega
   simp [execOp,resolve,invoke,builtin,hx.eval ha rfl,Builtin.clear_,run_underlying hu,zeroValue,typeInfo,hi,hz,hst]),?_,rfl,rfl,rfl⟩
  have hkk:keys [rS inf.size enc (.slice (some ⟨b,0,none⟩) xs.length cap) E xs]=[b]:=by simp [keys,Res.keys,Value.ownBlock]
  rw [hkk]
  have h2:=Tr.setArr (cs':=(cur.toList.take (xs.length*inf.size)++(Builtin.zeroCells z.cells k).toList++cur.toList.drop (xs.length*inf.size+(Builtin.zeroCells z.cells k).toList.length)).toArray) hsat
  have hcl:cur.toList.length=cur.size:=Array.length_toList ..
  refine h2.asRow (m:=xs.length) (cap:=cap) (sz:=inf.size) hfl (by omega) hcm ?_ ?_
  ·simp only [List.size_toArray,qlB,hcl,hzl]
   omega
  rw [List.append_assoc,List.take_append_of_le_length (by rw [List.length_take,hcl]; omega),List.take_take,Nat.min_self,htake]
 rintro v' G' μ'' _ ⟨rfl,rfl,rfl⟩
 exact h
end
theorem Ct.lendS {α:Type} {enc:α→List Value} {sz:Nat} {P:Program} {G:PM} {μ:Mem} {f:FuncId} {args:Array Value} {E:Nat} {v:Value} {xs:List α} {Q:Mem→Value→Prop} (hsz:∀ x∈xs,(enc x).length=sz)
  (h:∀ (s:Sh) (G2:PM),PM.le G G2→v=s.val xs.length→SlR G2 sz enc s xs→Ct P f args G2 μ (fun _ μ' u=>Q μ' u)):Ct P f args G (rS sz enc v E xs :: μ) (fun _ μ' u=>∃ ν,μ'=rS sz enc v E xs :: ν∧Q ν u):=by
 intro w hs
 have hrow:w.ownsRow 0 E sz v xs.length (xs.flatMap enc):=hs.own _ (List.mem_cons_self ..)
 have hnd:=hs.nodup
 rcases hrow.2 with ⟨rfl,h0⟩ | ⟨g,cap,cur,rfl,_,hg,hnc,hcm,hcs,htake⟩
 ·have hx:xs=[]:=List.eq_nil_of_length_eq_zero h0
  subst hx
  have hk:keys (rS sz enc (.slice none 0 0) E ([]:List α) :: μ)=keys μ:=by simp [keys,Res.keys,Value.ownBlock]
  have hs2:Sat G μ w:=⟨hs.sub,fun r hr=>hs.own r (List.mem_cons_of_mem _ hr),by rw [← hk]; exact hs.apart,by rw [← hk]; exact hs.nodup⟩
  refine (h ⟨none,0⟩ G (PM.le.refl G) rfl SlR.nul w hs2).mono ?_
  rintro e w' ⟨u,G',μ',rfl,ht,hQ⟩
  refine ⟨u,G',_,rfl,?_,μ',rfl,hQ⟩
  rw [hk]; exact ht.nilRow
 have hk:keys (rS sz enc (.slice (some ⟨g,0,none⟩) xs.length cap) E xs :: μ)=keys (.blk g (.cells cur E (0,0)) :: μ):=by simp [keys,Res.keys,Value.ownBlock]
 have hs2:Sat G (.blk g (.cells cur E (0,0)) :: μ) w:=by
  refine ⟨hs.sub,fun r hr=>?_,by rw [← hk]; exact hs.apart,by rw [← hk]; exact hs.nodup⟩
  rcases List.mem_cons.1 hr with rfl | hr
  ·exact hg
  exact hs.own r (List.mem_cons_of_mem _ hr)
 have hGg:G g=none:=hs2.apart g (by simp [keys,Res.keys])
 have hsl:SlR (G.add g (.cells cur E (0,0))) sz enc ⟨some ⟨g,0,none⟩,cap⟩ xs:=by
  refine SlR.ofRow hsz hnc (fun _=>rfl) ?_
  intro j u hj w' hs'
  show w'.cell? ⟨g,0+j,none⟩=some u
  rw [Nat.zero_add,cell_of_row w' g j cur E (0,0) (hs' g _ (PM.add_same G g _))]
  rw [← htake,List.getElem?_take] at hj
  split at hj
  ·simpa using hj
  cases hj
 refine (Ct.lend (h ⟨some ⟨g,0,none⟩,cap⟩ _ (PM.le_add hGg) rfl hsl) w hs2).mono ?_
 rintro e w' ⟨u,G',μ',rfl,ht,ν,rfl,hQ⟩
 refine ⟨u,G',_,rfl,?_,ν,rfl,hQ⟩
 rw [hk]
 exact ht.asRow (flat_len hsz) hnc hcm hcs htake
section
variable {α:Type}
theorem gd_at {l:List α} {k:Nat} {z:α} (h:k<l.length):l[k]? = some (l.getD k z):=by simp [h]
theorem getD_mid {X Z:List α} {x z0:α} {i:Nat} (hi:i=X.length):(X++x :: Z).getD i z0=x:=by subst hi; simp
theorem set_mid {X Z:List α} {x y:α} {i:Nat} (hi:i=X.length):(X++x :: Z).set i y=X++y :: Z:=by subst hi; simp
theorem getD_i {X Y Z L:List α} {x y z0:α} {i:Nat} (hL:L=X++x :: (Y++y :: Z)) (hi:i=X.length):L.getD i z0=x:=by rw [hL,getD_mid hi]
theorem getD_j {X Y Z L:List α} {x y z0:α} {j:Nat} (hL:L=X++x :: (Y++y :: Z)) (hj:j=X.length+1+Y.length):L.getD j z0=y:=by
 rw [hL,show X++x :: (Y++y :: Z)=(X++x :: Y)++y :: Z by simp,getD_mid (by simp; omega)]
theorem swp_ij {X Y Z L:List α} {x y z0:α} {i j:Nat} (hL:L=X++x :: (Y++y :: Z)) (hi:i=X.length) (hj:j=X.length+1+Y.length):(L.set i (L.getD j z0)).set j (L.getD i z0)=X++y :: (Y++x :: Z):=by
 rw [getD_i hL hi,getD_j hL hj,hL,set_mid hi,show X++y :: (Y++y :: Z)=(X++y :: Y)++y :: Z by simp,set_mid (by simp; omega)]; simp
theorem swp_ji {X Y Z L:List α} {x y z0:α} {i j:Nat} (hL:L=X++x :: (Y++y :: Z)) (hi:i=X.length) (hj:j=X.length+1+Y.length):(L.set j (L.getD i z0)).set i (L.getD j z0)=X++y :: (Y++x :: Z):=by
 rw [getD_i hL hi,getD_j hL hj,hL,show X++x :: (Y++y :: Z)=(X++x :: Y)++y :: Z by simp,set_mid (by simp; omega),show (X++x :: Y)++x :: Z=X++x :: (Y++x :: Z) by simp,set_mid hi]
def swL (P A Q B S:List α) (k:Nat):List α:=P++(B.take k++A.drop k)++Q++(A.take k++B.drop k)++S
theorem swL_zero (P A Q B S:List α):swL P A Q B S 0=P++A++Q++B++S:=by simp [swL]
theorem swL_all {P A Q B S:List α} {k:Nat} (h:A.length=B.length) (hk:k=A.length):swL P A Q B S k=P++B++Q++A++S:=by
 subst hk
 unfold swL
 rw [List.take_of_length_le (l:=B) (by omega),List.drop_of_length_le (l:=A) (by omega),List.take_of_length_le (l:=A) (by omega),List.drop_of_length_le (l:=B) (by omega)]; simp
theorem swL_len (P A Q B S:List α) {k:Nat} (h:A.length=B.length) (hk:k≤A.length):(swL P A Q B S k).length=P.length+A.length+Q.length+B.length+S.length:=by
 unfold swL; simp only [qlB]; omega
theorem swL_step {P A Q B S:List α} {k i j:Nat} {z0:α} (h:A.length=B.length) (hk:k<A.length) (hi:i=P.length+k) (hj:j=P.length+A.length+Q.length+k) :
  ((swL P A Q B S k).set i ((swL P A Q B S k).getD j z0)).set j ((swL P A Q B S k).getD i z0)=swL P A Q B S (k+1):=by
 have ea:A.drop k=A[k] :: A.drop (k+1):=List.drop_eq_getElem_cons hk
 have eb:B.drop k=B[k] :: B.drop (k+1):=List.drop_eq_getElem_cons (by omega)
 have ta:A.take (k+1)=A.take k++[A[k]]:=by rw [List.take_add_one,List.getElem?_eq_getElem hk]; rfl
 have tb:B.take (k+1)=B.take k++[B[k]]:=by rw [List.take_add_one,List.getElem?_eq_getElem (by omega)]; rfl
 have hL:swL P A Q B S k=(P++B.take k)++A[k] :: ((A.drop (k+1)++Q++A.take k)++B[k] :: (B.drop (k+1)++S)):=by
  unfold swL; rw [ea,eb]; simp only [List.append_assoc,List.cons_append]
 rw [swp_ij hL (by simp; omega) (by simp; omega)]
 unfold swL
 rw [ta,tb]; simp only [List.append_assoc,List.cons_append,List.nil_append]
end
structure CmpR (P:Program) (f:FuncId) (vc:List Value) (cv:Meta→Meta→Int) (G:PM):Prop where
 ok:∀ G',PM.le G G'→∀ a b:Meta,Ct P f ([a.val,b.val]++vc).toArray G' [] fun _ μ' u=>μ'=[]∧u=.int .i64 (cv a b)
theorem CmpR.mono {P:Program} {f:FuncId} {vc:List Value} {cv:Meta→Meta→Int} {G G':PM} (h:CmpR P f vc cv G) (hle:PM.le G G'):CmpR P f vc cv G':=⟨fun G2 h2=>h.ok G2 (hle.trans h2)⟩
abbrev TM:=Meta×Nat
def z0:TM:=(Meta.zero,0)
def ms (T:List TM):List Meta:=T.map (·.1)
theorem ms_app (A B:List TM):ms (A++B)=ms A++ms B:=List.map_append ..
theorem ms_cons (x:TM) (B:List TM):ms (x :: B)=x.1 :: ms B:=rfl
theorem ms_len (A:List TM):(ms A).length=A.length:=List.length_map ..
def ltv (cv:Meta→Meta→Int) (a b:Meta):Bool:=decide (cv a b<0)
theorem seg_at {X A Z:List TM} {k:Nat} (h1:X.length≤k) (h2:k<X.length+A.length):(ms (X++A++Z)).getD k Meta.zero=(A.getD (k-X.length) z0).1:=by
 obtain ⟨d,rfl⟩ : ∃ d,k=X.length+d:=⟨k-X.length,by omega⟩
 have hd:d<A.length:=by omega
 have e:(X++A++Z)[X.length+d]? = some A[d]:=by rw [List.append_assoc,List.getElem?_append_right (by omega),show X.length+d-X.length=d by omega,List.getElem?_append_left hd,List.getElem?_eq_getElem hd]
 simp only [ms,List.getD_eq_getElem?_getD,List.getElem?_map,e,Option.map_some,Option.getD_some,show X.length+d-X.length=d by omega,List.getElem?_eq_getElem hd]
theorem getD_in {A:List TM} {k:Nat} (h:k<A.length):A.getD k z0∈A:=by
 simp only [List.getD_eq_getElem?_getD,List.getElem?_eq_getElem h,Option.getD_some]; exact List.getElem_mem h
section
variable {lt:Meta→Meta→Bool}
theorem srt_at {A:List TM} (hs:Srt lt A) {i j:Nat} (hij:i<j) (hj:j<A.length):TL lt (A.getD i z0) (A.getD j z0):=by
 have:=List.pairwise_iff_getElem.1 hs i j (by omega) hj hij
 simpa [hj,show i<A.length by omega] using this
theorem fst_lt (h:Wk0 lt) {A:List TM} (hs:Srt lt A) {q:Nat} {y:TM} (hq:q=0∨TL lt (A.getD (q-1) z0) y) (hl:q≤A.length):∀ x∈A.take q,TL lt x y:=by
 intro x hx
 obtain ⟨i,hi,rfl⟩:=List.mem_iff_getElem.1 hx
 rw [List.length_take] at hi
 rw [List.getElem_take]
 have e:A.getD i z0=A[i]:=by simp [show i<A.length by omega]
 rw [← e]
 rcases hq with hq | hq
 ·omega
 ·by_cases hi':i=q-1
  ·rw [hi']; exact hq
  ·exact (srt_at hs (show i<q-1 by omega) (by omega)).tr h hq
theorem lst_gt (h:Wk0 lt) {A:List TM} (hs:Srt lt A) {q:Nat} {y:TM} (hq:q=A.length∨TL lt y (A.getD q z0)):∀ x∈A.drop q,TL lt y x:=by
 intro x hx
 obtain ⟨i,hi,rfl⟩:=List.mem_iff_getElem.1 hx
 rw [List.length_drop] at hi
 rw [List.getElem_drop]
 have e:A.getD (q+i) z0=A[q+i]:=by simp [show q+i<A.length by omega]
 rw [← e]
 rcases hq with hq | hq
 ·omega
 ·by_cases hi':i=0
  ·rw [hi']; exact hq
  ·exact TL.tr h hq (srt_at hs (show q<q+i by omega) (by omega))
theorem srt_parts {A:List TM} (hs:Srt lt A) (q:Nat):Srt lt (A.take q)∧Srt lt (A.drop q)∧∀ x∈A.take q,∀ y∈A.drop q,TL lt x y:=by
 have h:=hs
 unfold Srt at h
 rw [← List.take_append_drop q A] at h
 exact List.pairwise_append.1 h
theorem srt_put (h:Wk0 lt) {B:List TM} {x:TM} {q:Nat} (hs:Srt lt B) (h1:q=0∨TL lt (B.getD (q-1) z0) x) (h2:q=B.length∨TL lt x (B.getD q z0)) (hl:q≤B.length):Srt lt (B.take q++x :: B.drop q):=by
 obtain ⟨s1,s2,s3⟩:=srt_parts hs q
 refine List.pairwise_append.2 ⟨s1,List.pairwise_cons.2 ⟨lst_gt h hs h2,s2⟩,fun a ha b hb=>?_⟩
 rcases List.mem_cons.1 hb with rfl | hb
 ·exact fst_lt h hs h1 hl a ha
 exact s3 a ha b hb
theorem put_perm {B:List TM} {x:TM} (q:Nat):(B.take q++x :: B.drop q).Perm (x :: B):=by
 have:=List.perm_middle (a:=x) (l₁:=B.take q) (l₂:=B.drop q)
 rwa [List.take_append_drop] at this
end
theorem srt_take1 {lt:Meta→Meta→Bool} (S:List TM):Srt lt (S.take 1):=by
 cases S with
 | nil=>exact .nil
 | cons x S=>exact List.pairwise_singleton _ _
theorem drop_getD {S:List TM} {q:Nat} (h:q<S.length):S.drop q=S.getD q z0 :: S.drop (q+1):=by
 rw [List.drop_eq_getElem_cons h]; simp [h]
theorem take_getD {S:List TM} {q:Nat} (h:q<S.length):S.take (q+1)=S.take q++[S.getD q z0]:=by
 rw [List.take_add_one,List.getElem?_eq_getElem h]; simp [h]
theorem take_last {A B:List TM} (h:0<A.length):A.take (A.length-1)++A.getD (A.length-1) z0 :: B=A++B:=by
 have:=take_getD (S:=A) (q:=A.length-1) (by omega)
 rw [show A.length-1+1=A.length by omega,List.take_length] at this
 rw [show A++B=(A.take (A.length-1)++[A.getD (A.length-1) z0])++B from congrArg (·++B) this]; simp
theorem ins_perm {S A B S1:List TM} {q:Nat} (hq:q<S.length) (hAB:A++B=S1) (hp:S1.Perm (S.take q)):(A++S.getD q z0 :: B).Perm (S.take (q+1)):=by
 rw [take_getD hq]
 refine List.perm_middle.trans ?_
 rw [hAB]
 exact (hp.cons _).trans (List.perm_append_comm (l₁:=[S.getD q z0]) (l₂:=S.take q))
theorem ins_gj {P A B D R:List TM} {y:TM} {j:Nat} (hj:j=P.length+A.length):(ms (P++(A++y :: B++D)++R)).getD j Meta.zero=y.1:=by
 rw [show P++(A++y :: B++D)++R=(P++A)++y :: (B++D++R) by simp,ms_app,ms_cons]
 exact getD_mid (by rw [ms_len]; simp; omega)
theorem ins_form {P A B D R:List TM} {y:TM} (hA:0<A.length):ms (P++(A++y :: B++D)++R)=ms (P++A.take (A.length-1))++(A.getD (A.length-1) z0).1 :: ([]++y.1 :: ms (B++D++R)):=by
 have h:=take_last (B:=y :: B) hA
 rw [← h,←ms_cons,List.nil_append,←ms_cons,←ms_app]; simp
theorem ins_gi {P A B D R:List TM} {y:TM} {j:Nat} (hA:0<A.length) (hj:j=P.length+A.length-1):(ms (P++(A++y :: B++D)++R)).getD j Meta.zero=(A.getD (A.length-1) z0).1 :=
 getD_i (ins_form hA) (by rw [ms_len]; simp; omega)
theorem ins_sw {P A B D R:List TM} {y:TM} {i j:Nat} (hA:0<A.length) (hi:i=P.length+A.length-1) (hj:j=P.length+A.length) :
  ((ms (P++(A++y :: B++D)++R)).set j ((ms (P++(A++y :: B++D)++R)).getD i Meta.zero)).set i ((ms (P++(A++y :: B++D)++R)).getD j Meta.zero)=ms (P++(A.take (A.length-1)++y :: (A.getD (A.length-1) z0 :: B)++D)++R):=by
 rw [swp_ji (ins_form hA) (by rw [ms_len]; simp; omega) (by rw [ms_len]; simp; omega),List.nil_append,←ms_cons,←ms_cons,←ms_app]; simp
theorem ins_B {cv:Meta→Meta→Int} {P A B D R:List TM} {y:TM} (hB:∀ z∈B,TL (ltv cv) y z)
  (hc:0<A.length∧cv ((ms (P++(A++y :: B++D)++R)).getD (P.length+A.length) Meta.zero) ((ms (P++(A++y :: B++D)++R)).getD (P.length+A.length-1) Meta.zero)<0):∀ z∈A.getD (A.length-1) z0 :: B,TL (ltv cv) y z:=by
 rw [ins_gj rfl,ins_gi hc.1 rfl] at hc
 intro z hz
 rcases List.mem_cons.1 hz with rfl | hz
 ·exact .inl (by unfold ltv; exact decide_eq_true hc.2)
 ·exact hB z hz
theorem ins_srt {cv:Meta→Meta→Int} {P S A B S1 R:List TM} {q:Nat} (hw:Wk0 (ltv cv)) (hs:Srt (ltv cv) S1) (hAB:A++B=S1) (hB:∀ z∈B,TL (ltv cv) (S.getD q z0) z) (hS:S.Pairwise fun x y=>x.2<y.2) (hp:S1.Perm (S.take q)) (hq:q<S.length)
  (hc:0<A.length→0≤cv ((ms (P++(A++S.getD q z0 :: B++S.drop (q+1))++R)).getD (P.length+A.length) Meta.zero) ((ms (P++(A++S.getD q z0 :: B++S.drop (q+1))++R)).getD (P.length+A.length-1) Meta.zero)):Srt (ltv cv) (A++S.getD q z0 :: B):=by
 have hs':=hs
 rw [← hAB] at hs'
 obtain ⟨s1,s2,s3⟩:=List.pairwise_append.1 hs'
 have hA:∀ x∈A,TL (ltv cv) x (S.getD q z0):=by
  by_cases h0:A.length=0
  ·rw [List.eq_nil_of_length_eq_zero h0]; intro x hx; cases hx
  have h1:=hc (by omega)
  rw [ins_gj rfl,ins_gi (by omega) rfl] at h1
  have ht:(A.getD (A.length-1) z0).2<(S.getD q z0).2:=by
   have hm:A.getD (A.length-1) z0∈S.take q:=hp.mem_iff.1 (by rw [← hAB]; exact List.mem_append_left _ (getD_in (by omega)))
   have hS':=hS
   rw [← List.take_append_drop q S,drop_getD hq] at hS'
   exact (List.pairwise_append.1 hS').2.2 _ hm _ (List.mem_cons_self ..)
  have h2:TL (ltv cv) (A.getD (A.length-1) z0) (S.getD q z0):=(TL.fore hw ht).2 (by unfold ltv; exact decide_eq_false (by omega))
  intro x hx
  have:=fst_lt hw s1 (q:=A.length) (y:=S.getD q z0) (.inr h2) (Nat.le_refl _) x (by rw [List.take_length]; exact hx)
  exact this
 refine List.pairwise_append.2 ⟨s1,List.pairwise_cons.2 ⟨hB,s2⟩,fun x hx z hz=>?_⟩
 rcases List.mem_cons.1 hz with rfl | hz
 ·exact hA x hx
 exact s3 x hx z hz
section
variable {cv:Meta→Meta→Int} {P A B R:List TM}
theorem seg_a {i:Nat} (h:i<A.length):(ms (P++A++B++R)).getD (P.length+i) Meta.zero=(A.getD i z0).1:=by
 have:=seg_at (X:=P) (A:=A) (Z:=B++R) (k:=P.length+i) (by omega) (by omega)
 rw [show P.length+i-P.length=i by omega,←List.append_assoc] at this
 exact this
theorem seg_b {i:Nat} (h:i<B.length):(ms (P++A++B++R)).getD (P.length+A.length+i) Meta.zero=(B.getD i z0).1:=by
 have:=seg_at (X:=P++A) (A:=B) (Z:=R) (k:=P.length+A.length+i) (by simp) (by simp; omega)
 rw [List.length_append,show P.length+A.length+i-(P.length+A.length)=i by omega] at this
 exact this
theorem seg_a0 (h:0<A.length):(ms (P++A++B++R)).getD P.length Meta.zero=(A.getD 0 z0).1:=seg_a (i:=0) h
theorem seg_b0 (h:0<B.length):(ms (P++A++B++R)).getD (P.length+A.length) Meta.zero=(B.getD 0 z0).1:=seg_b (i:=0) h
theorem ab_back (hw:Wk0 (ltv cv)) (ht:∀ x∈A,∀ y∈B,x.2<y.2) {i j:Nat} (hi:i<A.length) (hj:j<B.length) (h:cv (B.getD j z0).1 (A.getD i z0).1<0):TL (ltv cv) (B.getD j z0) (A.getD i z0) :=
 (TL.back hw (ht _ (getD_in hi) _ (getD_in hj))).2 (by unfold ltv; exact decide_eq_true h)
theorem ab_fore (hw:Wk0 (ltv cv)) (ht:∀ x∈A,∀ y∈B,x.2<y.2) {i j:Nat} (hi:i<A.length) (hj:j<B.length) (h:0≤cv (B.getD j z0).1 (A.getD i z0).1):TL (ltv cv) (A.getD i z0) (B.getD j z0) :=
 (TL.fore hw (ht _ (getD_in hi) _ (getD_in hj))).2 (by unfold ltv; exact decide_eq_false (by omega))
theorem one_eq (h:A.length=1):A=[A.getD 0 z0]:=by
 match A,h with
 | [x],_=>rfl
theorem sh_up {x:TM} {k i j:Nat} (hk:k<B.length) (hi:i=P.length+k) (hj:j=P.length+k+1) :
  ((ms (P++(B.take k++x :: B.drop k)++R)).set i ((ms (P++(B.take k++x :: B.drop k)++R)).getD j Meta.zero)).set j ((ms (P++(B.take k++x :: B.drop k)++R)).getD i Meta.zero)=ms (P++(B.take (k+1)++x :: B.drop (k+1))++R):=by
 have hL:ms (P++(B.take k++x :: B.drop k)++R)=ms (P++B.take k)++x.1 :: ([]++(B.getD k z0).1 :: ms (B.drop (k+1)++R)):=by
  rw [drop_getD hk,List.nil_append,←ms_cons,←ms_cons,←ms_app]; simp
 rw [swp_ij hL (by rw [ms_len]; simp; omega) (by rw [ms_len]; simp; omega),take_getD hk,List.nil_append,←ms_cons,←ms_cons,←ms_app]; simp
theorem sh_dn {y:TM} {e i j:Nat} (he:0<e) (hl:e≤A.length) (hi:i=P.length+e-1) (hj:j=P.length+e) :
  ((ms (P++(A.take e++y :: A.drop e)++R)).set j ((ms (P++(A.take e++y :: A.drop e)++R)).getD i Meta.zero)).set i ((ms (P++(A.take e++y :: A.drop e)++R)).getD j Meta.zero)=ms (P++(A.take (e-1)++y :: A.drop (e-1))++R):=by
 obtain ⟨k,rfl⟩ : ∃ k,e=k+1:=⟨e-1,by omega⟩
 have hk:k<A.length:=by omega
 have hL:ms (P++(A.take (k+1)++y :: A.drop (k+1))++R)=ms (P++A.take k)++(A.getD k z0).1 :: ([]++y.1 :: ms (A.drop (k+1)++R)):=by
  rw [take_getD hk,List.nil_append,←ms_cons,←ms_cons,←ms_app]; simp
 rw [swp_ji hL (by rw [ms_len]; simp; omega) (by rw [ms_len]; simp; omega),show k+1-1=k by omega,drop_getD hk,List.nil_append,←ms_cons,←ms_cons,←ms_app]; simp
theorem put_up (hA:A.length=1) (q:Nat):(B.take q++A.getD 0 z0 :: B.drop q).Perm (A++B):=by
 have:=put_perm (B:=B) (x:=A.getD 0 z0) q
 rw [one_eq hA]; exact this
theorem put_dn (hB:B.length=1) (q:Nat):(A.take q++B.getD 0 z0 :: A.drop q).Perm (A++B):=by
 have:=put_perm (B:=A) (x:=B.getD 0 z0) q
 rw [one_eq hB]; exact this.trans (List.perm_append_comm (l₁:=[B.getD 0 z0]) (l₂:=A))
theorem sym_cut (hw:Wk0 (ltv cv)) (sA:Srt (ltv cv) A) (sB:Srt (ltv cv) B) {s h:Nat} (h1:h-B.length≤s) (h3:s≤h) (h4:s≤A.length)
  (f1:s=h-B.length∨TL (ltv cv) (A.getD (s-1) z0) (B.getD (h-s) z0)) (f2:(s=h∨s=A.length)∨TL (ltv cv) (B.getD (h-1-s) z0) (A.getD s z0)) :
  ∀ x∈A.take s++B.take (h-s),∀ y∈A.drop s++B.drop (h-s),TL (ltv cv) x y:=by
 obtain ⟨a1,a2,a3⟩:=srt_parts sA s
 obtain ⟨b1,b2,b3⟩:=srt_parts sB (h-s)
 intro x hx y hy
 rcases List.mem_append.1 hx with hx | hx<;>rcases List.mem_append.1 hy with hy | hy
 ·exact a3 x hx y hy
 ·by_cases e:s=h-B.length
  ·by_cases hb:h<B.length
   ·have:s=0:=by omega
    subst this; simp at hx
   ·have:B.length≤h-s:=by omega
    rw [List.drop_of_length_le this] at hy; cases hy
  ·have h5:=fst_lt hw sA (q:=s) (y:=B.getD (h-s) z0) (.inr (f1.resolve_left e)) h4 x hx
   exact lst_gt hw sB (q:=h-s) (y:=x) (.inr h5) y hy
 ·by_cases e:s=h∨s=A.length
  ·rcases e with e | e
   ·rw [e,Nat.sub_self] at hx; simp at hx
   ·rw [e,List.drop_length] at hy; cases hy
  ·have h5:=f2.resolve_left e
   have h6:=fst_lt hw sB (q:=h-s) (y:=A.getD s z0) (.inr (by rw [show h-s-1=h-1-s by omega]; exact h5)) (by omega) x hx
   exact lst_gt hw sA (q:=s) (y:=x) (.inr h6) y hy
 ·exact b3 x hx y hy
theorem sym_norot {s q:Nat} (h:A.length≤s∨q=0):ms (P++A++B++R)=ms (P++(A.take s++B.take q)++(A.drop s++B.drop q)++R):=by
 rcases h with h|rfl
 ·rw [List.take_of_length_le h,List.drop_of_length_le h,List.nil_append]
  conv=>lhs; rw [← List.take_append_drop q B]
  simp
 ·rw [List.take_zero,List.drop_zero,List.append_nil]
  conv=>lhs; rw [← List.take_append_drop s A]
  simp only [List.append_assoc]
theorem sym_rot {s q:Nat}:ms (P++A.take s)++ms (B.take q)++ms (A.drop s)++ms (B.drop q++R)=ms (P++(A.take s++B.take q)++(A.drop s++B.drop q)++R):=by
 simp only [ms,List.map_append,List.append_assoc]
theorem sym_in {s q:Nat}:ms (P++A++B++R)=ms (P++A.take s)++ms (A.drop s)++ms (B.take q)++ms (B.drop q++R):=by
 conv=>lhs; rw [← List.take_append_drop s A,←List.take_append_drop q B]
 simp only [ms,List.map_append,List.append_assoc]
theorem half_srt {X Z:List TM} {lt:Meta→Meta→Bool} (hX:Srt lt X) (hZ:Srt lt Z) (h:X.length=0∨Z.length=0):Srt lt (X++Z):=by
 rcases h with h | h
 ·rw [List.eq_nil_of_length_eq_zero h]; exact hZ
 ·rw [List.eq_nil_of_length_eq_zero h,List.append_nil]; exact hX
theorem sym_fin {S1 S2:List TM} {s q:Nat} (hc:∀ x∈A.take s++B.take q,∀ y∈A.drop s++B.drop q,TL (ltv cv) x y) (p1:S1.Perm (A.take s++B.take q)) (s1:Srt (ltv cv) S1) (p2:S2.Perm (A.drop s++B.drop q)) (s2:Srt (ltv cv) S2):(S1++S2).Perm (A++B)∧Srt (ltv cv) (S1++S2):=by
 refine ⟨(p1.append p2).trans ?_,List.pairwise_append.2 ⟨s1,s2,fun x hx y hy=>hc x (p1.mem_iff.1 hx) y (p2.mem_iff.1 hy)⟩⟩
 conv=>rhs; rw [← List.take_append_drop s A,←List.take_append_drop q B]
 rw [List.append_assoc,List.append_assoc]
 refine List.Perm.append_left _ ?_
 rw [← List.append_assoc,←List.append_assoc]
 exact List.Perm.append_right _ List.perm_append_comm
end
theorem or128 (x:Y):(x ||| 128#8).toNat=x.toNat%128+128:=by
 have h:=x.isLt
 have hd:∀ y:Y,(y ||| 128#8).toNat=y.toNat%128+128:=by decide
 exact hd x
theorem and127 (x:Y):(x &&& 127#8).toNat=x.toNat%128:=by
 have hd:∀ y:Y,(y &&& 127#8).toNat=y.toNat%128:=by decide
 exact hd x
theorem num_more {m:BitVec 64} (h:¬ m.toNat<128):numN m.toNat=(m.setWidth 8 ||| 128#8) :: numN (m >>> 7).toNat:=by
 rw [num_big h]
 have e1:BitVec.ofNat 8 (m.toNat%128+128)=m.setWidth 8 ||| 128#8:=by
  apply BitVec.eq_of_toNat_eq
  rw [or128,BitVec.toNat_ofNat,BitVec.toNat_setWidth]
  omega
 have e2:(m >>> 7).toNat=m.toNat / 128:=by rw [BitVec.toNat_ushiftRight,Nat.shiftRight_eq_div_pow]
 rw [e1,e2]
theorem num_last {m:BitVec 64} (h:m.toNat<128):numN m.toNat=[m.setWidth 8]:=by
 rw [num_small h]
 rfl
theorem shr7 (m:BitVec 64):(m >>> 7).toNat=m.toNat / 128:=by rw [BitVec.toNat_ushiftRight,Nat.shiftRight_eq_div_pow]
theorem uvI {x:Int} (h:u64 x):Value.int .u64 x=uv .u64 (BitVec.ofInt 64 x):=by
 unfold u64 at h
 show Value.int .u64 x=Value.int .u64 (((BitVec.ofInt 64 x).toNat:Nat):Int)
 congr 1
 rw [BitVec.toNat_ofInt]
 omega
theorem ofI {x:Int} (h:u64 x):(BitVec.ofInt 64 x).toNat=x.toNat:=by
 unfold u64 at h
 rw [BitVec.toNat_ofInt]; omega
theorem pow128 (k:Nat):(128:Nat)^k=2^(7*k):=by rw [Nat.pow_mul]
theorem acc_or {w:BitVec 64} {x:Y} {k:Nat} (hw:w.toNat<128^k) (hk:k≤9) (hx:k=9→x.toNat≤1):(w ||| (x &&& 127#8).setWidth 64 <<< (7*k)).toNat=w.toNat+(x.toNat%128)*128^k:=by
 have hxl:=x.isLt
 have h1:((x &&& 127#8).setWidth 64 <<< (7*k)).toNat=2^(7*k)*(x.toNat%128):=by
  rw [BitVec.toNat_shiftLeft,BitVec.toNat_setWidth,and127,Nat.mod_eq_of_lt (a:=x.toNat%128) (by omega),Nat.shiftLeft_eq,Nat.mul_comm]
  refine Nat.mod_eq_of_lt ?_
  rcases Nat.lt_or_ge k 9 with h | h
  ·have h2:(2:Nat)^(7*k)≤2^56:=Nat.pow_le_pow_right (by decide) (by omega)
   have h3:2^(7*k)*(x.toNat%128)≤2^56*127:=Nat.mul_le_mul h2 (by omega)
   have h4:(2:Nat)^56*127<2^64:=by decide
   omega
  obtain rfl:k=9:=by omega
  have:=hx rfl
  have h3:(2:Nat)^(7*9)*(x.toNat%128)≤2^(7*9)*1:=Nat.mul_le_mul_left _ (by omega)
  have h4:(2:Nat)^(7*9)*1<2^64:=by decide
  omega
 rw [BitVec.toNat_or,h1]
 have h5:=Nat.two_pow_add_eq_or_of_lt (i:=7*k) (b:=w.toNat) (by rw [← pow128]; exact hw) (x.toNat%128)
 rw [show w.toNat ||| 2^(7*k)*(x.toNat%128)=2^(7*k)*(x.toNat%128) ||| w.toNat from Nat.or_comm _ _,←h5,←pow128,Nat.mul_comm]
 omega
theorem drop_cons {xs:List Y} {k:Nat} (h:k<xs.length):xs.drop k=xs.getD k 0 :: xs.drop (k+1):=by
 rw [List.drop_eq_getElem_cons h]; simp [h]
section
variable {xs:List Y} {k:Nat} {w:BitVec 64}
theorem np_form (e:numP xs=numG k w.toNat (xs.drop k)) (h:k<xs.length) (hk:k=9) (hx:1<(xs.getD k 0).toNat):numP xs=(0,0,11):=by
 rw [e,drop_cons h,numG,if_pos ⟨hk,hx⟩]
theorem np_zero (e:numP xs=numG k w.toNat (xs.drop k)) (h:k<xs.length) (hk:0<k) (hx:(xs.getD k 0).toNat=0):numP xs=(0,0,11):=by
 rw [e,drop_cons h,numG,if_neg (by omega),if_pos (by omega),if_pos ⟨hk,hx⟩]
theorem np_end (e:numP xs=numG k w.toNat (xs.drop k)) (hw:w.toNat<128^k) (h9:k≤9) (h:k<xs.length) (hf:¬ (k=9∧1<(xs.getD k 0).toNat)) (hx:(xs.getD k 0).toNat<128) (hz:¬ (0<k∧(xs.getD k 0).toNat=0)) :
  numP xs=((w ||| (xs.getD k 0 &&& 127#8).setWidth 64 <<< (7*k)).toNat,k+1,0):=by
 rw [e,drop_cons h,numG,if_neg hf,if_pos hx,if_neg hz,acc_or hw h9 (by omega),Nat.mod_eq_of_lt hx]
theorem np_more (e:numP xs=numG k w.toNat (xs.drop k)) (hw:w.toNat<128^k) (h9:k≤9) (h:k<xs.length) (hf:¬ (k=9∧1<(xs.getD k 0).toNat)) (hx:¬ (xs.getD k 0).toNat<128) :
  numP xs=numG (k+1) (w ||| (xs.getD k 0 &&& 127#8).setWidth 64 <<< (7*k)).toNat (xs.drop (k+1))∧(w ||| (xs.getD k 0 &&& 127#8).setWidth 64 <<< (7*k)).toNat<128^(k+1)∧k+1≤9:=by
 have hxl:=(xs.getD k 0).isLt
 have hm:(xs.getD k 0).toNat%128=(xs.getD k 0).toNat-128:=by omega
 rw [acc_or hw h9 (by omega),hm]
 refine ⟨by rw [e,drop_cons h,numG,if_neg hf,if_neg hx],?_,by omega⟩
 rw [Nat.pow_succ]
 have:((xs.getD k 0).toNat-128)*128^k≤127*128^k:=Nat.mul_le_mul_right _ (by omega)
 omega
theorem np_short (e:numP xs=numG k w.toNat (xs.drop k)) (h:xs.length≤k):numP xs=(0,0,10):=by
 rw [e,List.drop_of_length_le h,numG]
end
structure NumR (xs:List Y) (n k:Nat) (e:Int):Prop where
 eq:numP xs=(n,k,e)
 lt:n<18446744073709551616
 le:k≤xs.length
theorem NumR.of {xs:List Y} {n k:Nat} {e:Int} (h:numP xs=(n,k,e)):NumR xs n k e:=by
 by_cases he:e=0
 ·subst he
  obtain ⟨_,h2,_,h4⟩:=num_canon h
  exact ⟨h,h2,h4⟩
 ·obtain ⟨rfl,rfl⟩:=num_fault xs 0 0 n k e h he
  exact ⟨h,by decide,Nat.zero_le _⟩
theorem rd_num_bad {xs:List Y} {e:Int} (h:¬ e=0):rdNum ⟨xs,e⟩=(0,⟨xs,e⟩):=by unfold rdNum; rw [if_pos h]
theorem rd_num_ok {xs L:List Y} {e e':Int} {n k:Nat} (h:e=0) (hN:NumR xs n k e') (eL:L=xs.drop k):rdNum ⟨xs,e⟩=(n,⟨L,e'⟩):=by
 unfold rdNum; rw [if_neg (by simp [h])]; simp only [hN.eq,eL]
theorem rd_str_bad {most:Nat} {xs:List Y} {e:Int} (h:¬ e=0):rdStr most ⟨xs,e⟩=([],⟨xs,e⟩):=by unfold rdStr; rw [if_pos h]
theorem rd_str_form {most n k:Nat} {xs:List Y} {e e':Int} (h:e=0) (hN:NumR xs n k e') (he:¬ e'=0):rdStr most ⟨xs,e⟩=([],⟨xs,e'⟩):=by
 unfold rdStr; rw [if_neg (by simp [h])]; simp only [hN.eq]; rw [if_pos he]
theorem rd_str_long {most n k:Nat} {xs:List Y} {e e':Int} (h:e=0) (hN:NumR xs n k e') (he:e'=0) (hn:most<n):rdStr most ⟨xs,e⟩=([],⟨xs,4⟩):=by
 unfold rdStr; rw [if_neg (by simp [h])]; simp only [hN.eq]; rw [if_neg (by simp [he]),if_pos hn]
theorem rd_str_short {most n k:Nat} {xs:List Y} {e e':Int} (h:e=0) (hN:NumR xs n k e') (he:e'=0) (hn:¬ most<n) (hl:xs.length-k<n):rdStr most ⟨xs,e⟩=([],⟨xs,10⟩):=by
 unfold rdStr; rw [if_neg (by simp [h])]; simp only [hN.eq]; rw [if_neg (by simp [he]),if_neg hn,if_pos hl]
theorem rd_str_ok {most n k:Nat} {xs L M:List Y} {e e':Int} (h:e=0) (hN:NumR xs n k e') (he:e'=0) (hn:¬ most<n) (hl:¬ xs.length-k<n) (eL:L=(xs.drop k).take (k+n-k)) (eM:M=xs.drop (k+n)):rdStr most ⟨xs,e⟩=(L,⟨M,0⟩):=by
 unfold rdStr; rw [if_neg (by simp [h])]; simp only [hN.eq]; rw [if_neg (by simp [he]),if_neg hn,if_neg hl,eL,eM,Nat.add_sub_cancel_left]
theorem rd_byte_bad {xs:List Y} {e:Int} (h:¬ e=0):rdByte ⟨xs,e⟩=(0,⟨xs,e⟩):=by unfold rdByte; rw [if_pos h]
theorem rd_byte_short {xs:List Y} {e:Int} (h:e=0) (hl:xs.length<1):rdByte ⟨xs,e⟩=(0,⟨xs,10⟩):=by unfold rdByte; rw [if_neg (by simp [h]),if_pos hl]
theorem rd_byte_ok {xs L:List Y} {e:Int} (h:e=0) (hl:¬ xs.length<1) (eL:L=xs.drop 1):rdByte ⟨xs,e⟩=(xs.getD 0 0,⟨L,0⟩):=by unfold rdByte; rw [if_neg (by simp [h]),if_neg hl,eL]
def endI (xs:List Y) (e:Int):Int:=if e=0∧0<xs.length then 12 else e
def Lead (B:List Y) (I k:Nat):Prop:=∀ j,j<k→128≤(B.getD (I+j) 0).toNat
section
variable {B:List Y} {I k:Nat}
theorem Lead.zero:Lead B I 0:=fun j hj=>by omega
theorem Lead.succ (h:Lead B I k) (hx:128≤(B.getD (I+k) 0).toNat):Lead B I (k+1):=fun j hj=>by
 by_cases e:j=k
 ·subst e; exact hx
 ·exact h j (by omega)
end
theorem rdnum_lt {s:Rd'} {n:Nat} {t:Rd'} (h:rdNum s=(n,t)):n<18446744073709551616:=by
 unfold rdNum at h
 split at h
 ·simp only [Prod.mk.injEq] at h; omega
 ·simp only [Prod.mk.injEq] at h
  have:=NumR.of (xs:=s.rest) (n:=(numP s.rest).1) (k:=(numP s.rest).2.1) (e:=(numP s.rest).2.2) rfl
  have:=this.lt
  omega
section
variable {P:Program} {G:PM} {μ:Mem}
theorem Ct.give {f:FuncId} {args:Array Value} {b:Nat} {o:Obj} {post:PM→Mem→Value→Prop} (h:PM.le G (G.add b o)→Ct P f args (G.add b o) μ post):Ct P f args G (.blk b o :: μ) post:=by
 intro w hs
 have hk:keys (.blk b o :: μ)=b :: keys μ:=by simp [keys,Res.keys]
 have hnd:=hs.nodup
 rw [hk] at hnd
 have hbμ:=(List.nodup_cons.1 hnd).1
 have hbo:w.heap[b]? = some o:=hs.own _ (List.mem_cons_self ..)
 have hs2:Sat (G.add b o) μ w:=by
  refine ⟨fun c u hc=>?_,fun r hr=>hs.own r (List.mem_cons_of_mem _ hr),fun c hc=>?_,(List.nodup_cons.1 hnd).2⟩
  ·unfold PM.add at hc
   split at hc
   ·rename_i e; subst e; cases hc; exact hbo
   exact hs.sub c u hc
  unfold PM.add
  rw [if_neg (fun (e:c=b)=>hbμ (e▸hc))]
  exact hs.apart c (by rw [hk]; exact List.mem_cons_of_mem _ hc)
 refine (h (PM.le_add (hs.apart b (by simp [keys,Res.keys]))) w hs2).mono ?_
 rintro e w' ⟨v,G',μ',rfl,ht,hQ⟩
 refine ⟨v,G',μ',rfl,⟨ht.sat,ht.os,ht.tape,ht.output,ht.size,fun c hc hK=>?_,fun c hc=>?_,fun c u hK hc=>?_⟩,hQ⟩
 ·rw [hk] at hK
  have hne:c≠b:=fun e=>hK (by rw [e]; exact List.mem_cons_self ..)
  have h1:=ht.old c hc (fun hm=>hK (List.mem_cons_of_mem _ hm))
  refine ⟨h1.1,?_⟩
  rw [h1.2]
  unfold PM.add
  rw [if_neg hne]
 ·rw [hk]
  rcases ht.mine c hc with h1 | h1
  ·exact .inl (List.mem_cons_of_mem _ h1)
  exact .inr h1
 rw [hk] at hK
 have hne:c≠b:=fun e=>hK (by rw [e]; exact List.mem_cons_self ..)
 exact ht.le c u (fun hm=>hK (List.mem_cons_of_mem _ hm)) (by unfold PM.add; rw [if_neg hne]; exact hc)
end
def encQ (x:Int):List Value:=[.int .u64 x]
theorem encQ_map:∀ ns:List Int,ns.flatMap encQ=ns.map (Value.int .u64)
 | []=>rfl
 | x :: ns=>by rw [List.flatMap_cons,encQ_map ns]; rfl
theorem SlR.u1 {G:PM} {s:Sh} {xs:List Int} (h:SlR G 1 encQ s xs) {j:Int} (k:Nat) {x:Int} (hj:j.toNat=k) (hx:xs[k]? = some x):RdP G ⟨s.b,s.o+j.toNat*1,none⟩ (.int .u64 x):=by
 have:=(h.nth k hj hx) 0 _ rfl
 simpa using this
theorem SlR.lit {G:PM} {b cap:Nat} {ns:List Int} {T:TypeId} (h:ns.length≤cap):SlR (G.add b (cl (ns.flatMap encQ) T)) 1 encQ ⟨some ⟨b,0,none⟩,cap⟩ ns:=by
 refine ⟨fun _=>rfl,h,fun i x hx j v hj=>?_⟩
 have h0:j=0∧v=.int .u64 x:=by
  cases j with
  | zero=>simp [encQ] at hj; exact ⟨rfl,hj.symm⟩
  | succ j=>simp [encQ] at hj
 obtain ⟨rfl,rfl⟩:=h0
 have:=RdNP.add (G:=G) (b:=b) (cs:=ns.flatMap encQ) (T:=T) i (.int .u64 x) (by rw [encQ_map,List.getElem?_map,hx]; rfl)
 simpa [Sh.b,Sh.o] using this
theorem SlR.part {G:PM} {b o cap:Nat} {ns:List Int} {cs:List Value} (hp:RdNP G b 0 cs) (hc:(cs.drop o).take ns.length=ns.flatMap encQ) (h:ns.length≤cap):SlR G 1 encQ ⟨some ⟨b,o,none⟩,cap⟩ ns:=by
 refine ⟨fun _=>rfl,h,fun i x hx j v hj=>?_⟩
 have h0:j=0∧v=.int .u64 x:=by
  cases j with
  | zero=>simp [encQ] at hj; exact ⟨rfl,hj.symm⟩
  | succ j=>simp [encQ] at hj
 obtain ⟨rfl,rfl⟩:=h0
 have hi:i<ns.length:=by
  rcases Nat.lt_or_ge i ns.length with h | h
  ·exact h
  rw [List.getElem?_eq_none h] at hx; cases hx
 have hg:cs[o+i]? = some (.int .u64 x):=by
  have:=congrArg (fun l=>l[i]?) hc
  simp only [encQ_map,List.getElem?_map,hx,List.getElem?_take,if_pos hi,List.getElem?_drop] at this
  exact this
 have:=hp (o+i) (.int .u64 x) hg
 simpa [Sh.b,Sh.o] using this
theorem numsL_snoc {ns:List Int} {k:Nat} {x:Int} (h:ns[k]? = some x):numsL (ns.take (k+1))=numsL (ns.take k)++numN x.toNat:=by
 rw [List.take_add_one,h]; simp [numsL]
theorem numsL_len:∀ {ns:List Int},(∀ x∈ns,u64 x)→(numsL ns).length≤10*ns.length
 | [],_=>by simp [numsL]
 | x :: ns,h=>by
  have h1:=h x (List.mem_cons_self ..)
  unfold u64 at h1
  have h2:=num_len10 (n:=x.toNat) (by omega)
  have h3:=numsL_len (ns:=ns) (fun y hy=>h y (List.mem_cons_of_mem _ hy))
  have:numsL (x :: ns)=numN x.toNat++numsL ns:=by simp [numsL]
  rw [this,List.length_append,List.length_cons]; omega
theorem numsL_take {ns:List Int} (h:∀ x∈ns,u64 x) (k:Nat):(numsL (ns.take k)).length≤10*ns.length:=by
 have h1:=numsL_len (ns:=ns.take k) (fun x hx=>h x (List.mem_of_mem_take hx))
 rw [List.length_take] at h1; omega
theorem up_bad {bad:Bool} {n most:Nat} {e:Int}:((bad||decide ((most:Int)<(n:Int))) || !decide (e=0))=(bad||(decide (most<n) || !decide (e=0))):=by
 rw [Bool.or_assoc,decide_eq_decide.2 (show ((most:Int)<(n:Int))↔most<n by omega)]
section
variable {α:Type} {O:Option α} {s t:Rd'} {bad:Bool}
theorem Tk.numE {k:Nat→List Y→Option α} {n:Nat} (h:Tk O s bad (pNum k)) (hN:rdNum s=(n,t)):Tk O t bad (k n):=by
 have:=h.num; rw [hN] at this; exact this
theorem Tk.upE {most n:Nat} {k:Nat→List Y→Option α} {K:List Y→Option α} {L:List Y} {e':Int} {bad':Bool} (h:Tk O s bad (pUp most k)) (hN:rdNum s=(n,⟨L,e'⟩)) (hb:bad'=(bad||(decide (most<n) || !decide (e'=0)))) (hK:n≤most→K=k n):Tk O ⟨L,e'⟩ bad' K:=by
 have h1:=Tk.up (c:=(decide (most<n) || !decide (e'=0))) h (by rw [hN])
 rw [hN,←hb] at h1
 by_cases hn:n≤most
 ·rw [hK hn]; exact h1
 ·have ht:bad'=true:=by rw [hb,decide_eq_true (show most<n by omega)]; simp
  exact h1.lost (.inl ht) (.inl ht)
theorem Tk.strE {most:Nat} {k:List Y→List Y→Option α} {M:List Y} (h:Tk O s bad (pStr most k)) (hN:rdStr most s=(M,t)):Tk O t bad (k M):=by
 have:=h.str; rw [hN] at this; exact this
theorem Tk.byteE {k:Y→List Y→Option α} {y:Y} (h:Tk O s bad (pByte k)) (hN:rdByte s=(y,t)):Tk O t bad (k y):=by
 have:=h.byte; rw [hN] at this; exact this
end
theorem rdnum_le {s t:Rd'} {n:Nat} (h:rdNum s=(n,t)):t.rest.length≤s.rest.length:=by
 unfold rdNum at h
 split at h
 ·simp only [Prod.mk.injEq] at h; rw [← h.2]; exact Nat.le_refl _
 ·simp only [Prod.mk.injEq] at h; rw [← h.2]; simp
theorem rdstr_le {s t:Rd'} {most:Nat} {M:List Y} (h:rdStr most s=(M,t)):t.rest.length≤s.rest.length:=by
 unfold rdStr at h
 repeat' split at h
 all_goals (simp only [Prod.mk.injEq] at h; rw [← h.2]; simp)
theorem rdbyte_le {s t:Rd'} {y:Y} (h:rdByte s=(y,t)):t.rest.length≤s.rest.length:=by
 unfold rdByte at h
 repeat' split at h
 all_goals (simp only [Prod.mk.injEq] at h; rw [← h.2]; simp)
structure ByR (s0 s:Rd') (bad:Bool) (rt:List Y):Prop where
 len:rt.length≤32
 tk:∀ (α:Type) (O:Option α) (K:List Y→List Y→Option α),Tk O s0 bad (pRep pByte 32 K)→Tk O s bad (pRep pByte (32-rt.length) fun r=>K (rt++r))
theorem ByR.zero {s0:Rd'} {bad:Bool}:ByR s0 s0 bad []:=⟨by simp,fun _ _ _ h=>h⟩
theorem ByR.step {s0 s t:Rd'} {bad:Bool} {rt:List Y} {y:Y} (h:ByR s0 s bad rt) (hl:rt.length<32) (hN:rdByte s=(y,t)):ByR s0 t bad (rt++[y]):=by
 refine ⟨by simp; omega,fun α O K hK=>?_⟩
 have h1:=h.tk α O K hK
 obtain ⟨m,hm⟩ : ∃ m,32-rt.length=m+1:=⟨31-rt.length,by omega⟩
 rw [hm,pRep] at h1
 have h2:=h1.byteE hN
 have hm2:32-(rt++[y]).length=m:=by simp; omega
 rw [hm2]
 have e:(fun r=>K (rt++[y]++r))=fun xs=>K (rt++y :: xs):=by funext r; simp
 rw [e]; exact h2
theorem ByR.all {s0 s:Rd'} {bad:Bool} {rt:List Y} (h:ByR s0 s bad rt) (hl:rt.length=32) {α:Type} {O:Option α} {K:List Y→List Y→Option α} (hK:Tk O s0 bad (pRep pByte 32 K)):Tk O s bad (K rt):=by
 have h1:=h.tk α O K hK
 rw [hl,Nat.sub_self,pRep,List.append_nil] at h1
 exact h1
def MetaT (s t:Rd') (bad bad':Bool) (m:Meta):Prop:=∀ (α:Type) (O:Option α) (k:Meta→List Y→Option α),Tk O s bad (pMeta k)→Tk O t bad' (k m)
theorem metaT {s t9:Rd'} {b0 b1 b2 b3:Bool} {n1 n2 n3 n4 n5 n6:Nat} {L1 L5 L6 M7 M8 rt:List Y} {e1 e5 e6:Int} {t2 t3 t4 t7 t8:Rd'} {lv sz ct:Int} {root:Nat→Int}
  (h1:rdNum s=(n1,⟨L1,e1⟩)) (q1:b1=(b0||(decide (255<n1) || !decide (e1=0)))) (w1:n1≤255→lv=n1)
  (h2:rdNum ⟨L1,e1⟩=(n2,t2)) (h3:rdNum t2=(n3,t3)) (h4:rdNum t3=(n4,t4))
  (h5:rdNum t4=(n5,⟨L5,e5⟩)) (q5:b2=(b1||(decide (9223372036854775807<n5) || !decide (e5=0)))) (w5:n5≤9223372036854775807→sz=n5)
  (h6:rdNum ⟨L5,e5⟩=(n6,⟨L6,e6⟩)) (q6:b3=(b2||(decide (9223372036854775807<n6) || !decide (e6=0)))) (w6:n6≤9223372036854775807→ct=n6)
  (h7:rdStr 1024 ⟨L6,e6⟩=(M7,t7)) (h8:rdStr 1024 t7=(M8,t8)) (h9:ByR t8 t9 b3 rt) (hl:rt.length=32) (hr:root=fun i=>((rt.getD i 0).toNat:Int)) :
  MetaT s t9 b0 b3 ⟨lv,n2,n3,n4,sz,ct,bstr M7,bstr M8,root⟩:=by
 intro α O k h
 subst hr
 unfold pMeta at h
 have a1:=h.upE (K:=pNum fun g=>pNum fun ep=>pNum fun nu=>pUp 9223372036854775807 fun sz=>pUp 9223372036854775807 fun ct=>pStr 1024 fun mn=>pStr 1024 fun mx=>pRep pByte 32 fun rt =>
  k ⟨lv,g,ep,nu,sz,ct,bstr mn,bstr mx,fun i=>((rt.getD i 0).toNat:Int)⟩) h1 q1 (fun hn=>by rw [w1 hn])
 have a2:=a1.numE h2
 have a3:=a2.numE h3
 have a4:=a3.numE h4
 have a5:=a4.upE (K:=pUp 9223372036854775807 fun ct=>pStr 1024 fun mn=>pStr 1024 fun mx=>pRep pByte 32 fun rt =>
  k ⟨lv,n2,n3,n4,sz,ct,bstr mn,bstr mx,fun i=>((rt.getD i 0).toNat:Int)⟩) h5 q5 (fun hn=>by rw [w5 hn])
 have a6:=a5.upE (K:=pStr 1024 fun mn=>pStr 1024 fun mx=>pRep pByte 32 fun rt =>
  k ⟨lv,n2,n3,n4,sz,ct,bstr mn,bstr mx,fun i=>((rt.getD i 0).toNat:Int)⟩) h6 q6 (fun hn=>by rw [w6 hn])
 have a7:=a6.strE h7
 have a8:=a7.strE h8
 exact h9.all hl a8
theorem w_u8 {n:Nat} (h:n≤255):IntKind.u8.wrap (n:Int)=n:=wrap_u8 (by omega) (by omega)
theorem w_i64 {n:Nat} (h:n≤9223372036854775807):IntKind.i64.wrap (n:Int)=n:=wrap_i64 (by omega) (by omega)
theorem rt_step {rt:List Y} {k:Nat} {f:Nat→Y} {y:Y} (hr:rt.length=k) (ef:∀ i,f i=rt.getD i 0):∀ i,upd f k ((y.setWidth 64).setWidth 8) i=(rt++[y]).getD i 0:=by
 intro i
 have hy:(y.setWidth 64).setWidth 8=y:=by
  apply BitVec.eq_of_toNat_eq
  have:=y.isLt
  simp only [BitVec.toNat_setWidth]; omega
 unfold upd
 by_cases h:i=k
 ·rw [if_pos h,hy,h,←hr]; simp
 ·rw [if_neg h,ef i]
  simp only [List.getD_eq_getElem?_getD]
  rcases Nat.lt_or_ge i rt.length with h1 | h1
  ·rw [List.getElem?_append_left h1]
  ·rw [List.getElem?_eq_none h1,List.getElem?_eq_none (by simp; omega)]
theorem mset {a b c d e g h i:Value} {f:Nat→Y} {k m:Nat} {y:Y} (hm:m=8+k):([a,b,c,d,e,g,h,i]++ba 32 f).set m (V y)=[a,b,c,d,e,g,h,i]++ba 32 (upd f k y):=by
 subst hm
 rw [List.set_append_right _ _ (by simp)]
 congr 1
 simp only [List.length_cons,List.length_nil]
 rw [show 8+k-(0+1+1+1+1+1+1+1+1)=k by omega]
 exact ba_set
theorem mone {a b c d e g h i:Value} {f:Nat→Y} (h1:a.oneCell'=true) (h2:b.oneCell'=true) (h3:c.oneCell'=true) (h4:d.oneCell'=true) (h5:e.oneCell'=true) (h6:g.oneCell'=true) (h7:h.oneCell'=true) (h8:i.oneCell'=true):∀ u∈[a,b,c,d,e,g,h,i]++ba 32 f,u.oneCell'=true:=by
 intro u hu
 rcases List.mem_append.1 hu with hu | hu
 ·simp only [List.mem_cons,List.not_mem_nil,or_false] at hu
  rcases hu with rfl|rfl|rfl|rfl|rfl|rfl|rfl|rfl<;>assumption
 ·unfold ba at hu
  obtain ⟨j,_,rfl⟩:=List.mem_map.1 hu
  rfl
theorem Conf.rep {k:CK} {f:Nat→Value}:∀ (l:List Nat),(∀ i∈l,CkOk k (f i))→Conf (List.replicate l.length k) (l.map f)
 | [],_=>.nil
 | i :: l,h=>.cons (h i (List.mem_cons_self ..)) (Conf.rep l fun j hj=>h j (List.mem_cons_of_mem _ hj))
def metaKs:List CK:=[.int .u8,.int .u64,.int .u64,.int .u64,.int .i64,.int .i64,.str,.str]++List.replicate 32 (.int .u8)
theorem meta_conf {m:Meta} (h:m.wf):Conf metaKs m.cells:=by
 have l1:=h.level; have l2:=h.gen; have l3:=h.epoch; have l4:=h.number; have l5:=h.size; have l6:=h.count; have l7:=h.minL; have l8:=h.maxL
 refine Conf.app ?_ ?_
 ·refine .cons (.int ?_ ?_) (.cons (.int ?_ ?_) (.cons (.int ?_ ?_) (.cons (.int ?_ ?_) (.cons (.int ?_ ?_) (.cons (.int ?_ ?_) (.cons (.str ?_) (.cons (.str ?_) .nil)))))))
  all_goals first
   | (simp only [IntKind.min,IntKind.max,IntKind.bits,IntKind.signed]; simp; omega)
   | (simp only [maxLen]; omega)
 have:=Conf.rep (k:=.int .u8) (f:=fun i=>.int .u8 (m.root i)) (List.range 32) (fun i hi=>by
  have hr:=h.root i (List.mem_range.1 hi)
  refine .int ?_ ?_
  all_goals (simp only [IntKind.min,IntKind.max,IntKind.bits,IntKind.signed]; simp; omega))
 rw [List.length_range] at this
 exact this
open Classical in
noncomputable def eqM (a b:Meta):Bool:=decide (a.cells=b.cells)
theorem eqM_iff {a b:Meta}:eqM a b=true↔a.cells=b.cells:=by unfold eqM; simp
open Classical in
noncomputable def sameM (a b:List Meta):Bool:=decide (a.map Meta.cells=b.map Meta.cells)
theorem sameM_iff {a b:List Meta}:sameM a b=true↔a.map Meta.cells=b.map Meta.cells:=by unfold sameM; simp
theorem sameM_refl (a:List Meta):sameM a a=true:=by unfold sameM; simp
theorem sameM_len {a b:List Meta} (h:a.length≠b.length):sameM a b=false:=by
 refine Bool.eq_false_iff.2 fun e0=>?_
 have e:=sameM_iff.1 e0
 exact h (by have:=congrArg List.length e; simpa using this)
theorem sameM_no {a b:List Meta} {k:Nat} (hk:k<a.length) (hl:a.length=b.length) (h:eqM (a.getD k Meta.zero) (b.getD k Meta.zero)=false):sameM a b=false:=by
 refine Bool.eq_false_iff.2 fun e0=>?_
 have e:=sameM_iff.1 e0
 have h1:=congrArg (fun l=>l[k]?) e
 have hb:k<b.length:=by omega
 simp only [List.getElem?_map,List.getElem?_eq_getElem hk,List.getElem?_eq_getElem hb,Option.map_some,Option.some.injEq] at h1
 have:eqM (a.getD k Meta.zero) (b.getD k Meta.zero)=true:=eqM_iff.2 (by simpa [hk,hb] using h1)
 rw [h] at this; cases this
theorem sameM_yes {a b:List Meta} (hl:a.length=b.length) (h:∀ j,j<a.length→eqM (a.getD j Meta.zero) (b.getD j Meta.zero)=true):sameM a b=true:=by
 refine sameM_iff.2 (List.ext_getElem (by simpa using hl) fun i h1 h2=>?_)
 simp only [List.length_map] at h1 h2
 have:=eqM_iff.1 (h i h1)
 simpa [h1,h2] using this
structure RpR {β:Type} (f:∀ α:Type,(β→List Y→Option α)→List Y→Option α) (N:Nat) (s0 s:Rd') (bad0 bad:Bool) (rt:List β):Prop where
 len:rt.length≤N
 tk:∀ (α:Type) (O:Option α) (K:List β→List Y→Option α),Tk O s0 bad0 (pRep (f α) N K)→Tk O s bad (pRep (f α) (N-rt.length) fun r=>K (rt++r))
section
variable {β:Type} {f:∀ α:Type,(β→List Y→Option α)→List Y→Option α} {N:Nat} {s0 s t:Rd'} {bad0 bad bad':Bool} {rt:List β} {x:β}
theorem RpR.zero:RpR f N s0 s0 bad0 bad0 []:=⟨by simp,fun _ _ _ h=>h⟩
theorem RpR.step (h:RpR f N s0 s bad0 bad rt) (hl:rt.length<N) (hx:∀ (α:Type) (O:Option α) (k:β→List Y→Option α),Tk O s bad (f α k)→Tk O t bad' (k x)):RpR f N s0 t bad0 bad' (rt++[x]):=by
 refine ⟨by simp; omega,fun α O K hK=>?_⟩
 have h1:=h.tk α O K hK
 obtain ⟨m,hm⟩ : ∃ m,N-rt.length=m+1:=⟨N-1-rt.length,by omega⟩
 rw [hm,pRep] at h1
 have h2:=hx α O _ h1
 have hm2:N-(rt++[x]).length=m:=by simp; omega
 rw [hm2]
 have e:(fun r=>K (rt++[x]++r))=fun xs=>K (rt++x :: xs):=by funext r; simp
 rw [e]; exact h2
theorem RpR.all (h:RpR f N s0 s bad0 bad rt) (hl:rt.length=N) {α:Type} {O:Option α} {K:List β→List Y→Option α} (hK:Tk O s0 bad0 (pRep (f α) N K)):Tk O s bad (K rt):=by
 have h1:=h.tk α O K hK
 rw [hl,Nat.sub_self,pRep,List.append_nil] at h1
 exact h1
theorem RpR.stop (h:RpR f N s0 s bad0 bad rt) (hb:bad=true) {α:Type} {O:Option α} {K:List β→List Y→Option α} {k':List Y→Option α} (hK:Tk O s0 bad0 (pRep (f α) N K)):Tk O s bad k' :=
 (h.tk α O K hK).lost (.inl hb) (.inl hb)
end
def nine (g:Nat→Int):List Value:=(List.range 9).map fun i=>.int .u64 (g i)
theorem nine_len (g:Nat→Int):(nine g).length=9:=by simp [nine]
theorem nine_set {g:Nat→Int} {k:Nat} {x:Int} {v w:Value} (hk:k<9):(nine g++[v,w]).set k (.int .u64 x)=nine (upd g k x)++[v,w]:=by
 rw [List.set_append_left _ _ (by rw [nine_len]; exact hk)]
 congr 1
 refine List.ext_getElem? fun i=>?_
 rw [List.getElem?_set,nine_len]
 unfold nine upd
 by_cases h:k=i
 ·subst h; simp [hk]
 rw [if_neg h,List.getElem?_map,List.getElem?_map]
 by_cases hi:i<9
 ·rw [List.getElem?_range hi]; simp [Ne.symm h]
 rw [List.getElem?_eq_none (by simp; omega)]; rfl
def decK (gs:List Nat):List Y→Option Edit :=
 pUp 1024 fun na=>pRep pMeta na fun add=>pUp 1024 fun nd=>pRep pGone nd fun drop =>
  pEnd ⟨(gs.getD 0 0:Nat),(gs.getD 1 0:Nat),(gs.getD 2 0:Nat),(gs.getD 3 0:Nat),fun i=>((gs.getD (i+4) 0:Nat):Int),add,drop⟩
theorem decO9:decO=pRep pNum 9 decK:=rfl
instance {g:Nat→Int}:QLen (nine g) 9:=⟨nine_len g⟩
theorem nine_a {g:Nat→Int} {a b:Value}:(nine g++[a,b])[9]? = some a:=rfl
theorem nine_d {g:Nat→Int} {a b:Value}:(nine g++[a,b])[10]? = some b:=rfl
theorem nine_sa {g:Nat→Int} {a b v:Value}:(nine g++[a,b]).set 9 v=nine g++[v,b]:=rfl
theorem nine_sd {g:Nat→Int} {a b v:Value}:(nine g++[a,b]).set 10 v=nine g++[a,v]:=rfl
theorem nine2_len {g:Nat→Int} {a b:Value}:(nine g++[a,b]).length=11:=by rw [List.length_append,nine_len]; rfl
theorem nine_one {g:Nat→Int} {a b:Value} (ha:a.oneCell'=true) (hb:b.oneCell'=true):∀ u∈nine g++[a,b],u.oneCell'=true:=by
 intro u hu
 rcases List.mem_append.1 hu with hu | hu
 ·unfold nine at hu
  obtain ⟨j,_,rfl⟩:=List.mem_map.1 hu
  rfl
 ·simp only [List.mem_cons,List.not_mem_nil,or_false] at hu
  rcases hu with rfl|rfl<;>assumption
theorem nine_st {g:Nat→Int} {k m:Nat} {x:Int} {v w:Value} (hm:m=k) (hk:k<9):(nine g++[v,w]).set m (.int .u64 x)=nine (upd g k x)++[v,w]:=by subst hm; exact nine_set hk
theorem four_at {b k:Nat} {j:Int} (hj:j=k) (hk:k<4):([.pointer (some ⟨b,0,none⟩),.pointer (some ⟨b,1,none⟩),.pointer (some ⟨b,2,none⟩),.pointer (some ⟨b,3,none⟩)]:List Value)[0+j.toNat*1]? = some (.pointer (some ⟨b,k,none⟩)):=by
 subst hj
 rcases (show k=0∨k=1∨k=2∨k=3 by omega) with rfl|rfl|rfl|rfl<;>rfl
theorem gs_step {rt:List Nat} {k:Nat} {g:Nat→Int} {y:Nat} (hr:rt.length=k) (ef:∀ i,g i=((rt.getD i 0:Nat):Int)):∀ i,upd g k (y:Int) i=(((rt++[y]).getD i 0:Nat):Int):=by
 intro i
 unfold upd
 by_cases h:i=k
 ·rw [if_pos h,h,←hr]; simp
 ·rw [if_neg h,ef i]
  simp only [List.getD_eq_getElem?_getD]
  rcases Nat.lt_or_ge i rt.length with h1 | h1
  ·rw [List.getElem?_append_left h1]
  ·rw [List.getElem?_eq_none h1,List.getElem?_eq_none (by simp; omega)]
def edE (gs:List Nat) (add:List Meta) (drop:List Gone):Edit:=⟨(gs.getD 0 0:Nat),(gs.getD 1 0:Nat),(gs.getD 2 0:Nat),(gs.getD 3 0:Nat),fun i=>((gs.getD (i+4) 0:Nat):Int),add,drop⟩
def decK2 (gs:List Nat) (add:List Meta):List Y→Option Edit:=pUp 1024 fun nd=>pRep pGone nd fun drop=>pEnd (edE gs add drop)
theorem edE_cells {gs:List Nat} {add:List Meta} {drop:List Gone} {g:Nat→Int} {ha hd:Sh} (hg:∀ i,g i=((gs.getD i 0:Nat):Int)):nine g++[ha.val add.length,hd.val drop.length]=(edE gs add drop).cells ha hd:=by
 obtain rfl:g=fun i=>((gs.getD i 0:Nat):Int):=funext hg
 rfl
section
variable {O:Option Edit} {xs L:List Y} {gs:List Nat} {add:List Meta} {drop:List Gone} {e:Int} {s t:Rd'} {bad bad':Bool} {n N:Nat}
theorem dec_a (h:RpR (fun α=>@pNum α) 9 ⟨xs,0⟩ t false false gs) (hl:gs.length=9):Tk (decO xs) t false (decK gs):=by
 refine h.all hl ?_
 rw [decO9]; exact Tk.start
theorem dec_b (h:Tk O s bad (decK gs)) (hN:rdNum s=(n,⟨L,e⟩)) (hb:bad'=(bad||(decide (1024<n) || !decide (e=0)))):Tk O ⟨L,e⟩ bad' (pRep pMeta n (decK2 gs)) :=
 Tk.upE (k:=fun n=>pRep pMeta n (decK2 gs)) h hN hb (fun _=>rfl)
theorem dec_c (h:Tk O s bad (pRep pMeta N (decK2 gs))) (hR:RpR (fun α=>@pMeta α) N s t bad bad' add) (hn:n+add.length=N) (he:n=0∨bad'=true):Tk O t bad' (decK2 gs add):=by
 rcases he with he | he
 ·exact hR.all (by omega) h
 ·exact hR.stop he h
theorem dec_d (h:Tk O s bad (decK2 gs add)) (hN:rdNum s=(n,⟨L,e⟩)) (hb:bad'=(bad||(decide (1024<n) || !decide (e=0)))):Tk O ⟨L,e⟩ bad' (pRep pGone n fun drop=>pEnd (edE gs add drop)) :=
 Tk.upE (k:=fun n=>pRep pGone n fun drop=>pEnd (edE gs add drop)) h hN hb (fun _=>rfl)
theorem dec_e (h:Tk O s bad (pRep pGone N fun drop=>pEnd (edE gs add drop))) (hR:RpR (fun α=>@pGone α) N s t bad bad' drop) (hn:n+drop.length=N) (he:n=0∨bad'=true):Tk O t bad' (pEnd (edE gs add drop)):=by
 rcases he with he | he
 ·exact hR.all (by omega) h
 ·exact hR.stop he h
theorem dec_no (h:Tk O ⟨L,e⟩ bad (pEnd (edE gs add drop))) (hc:bad=true∨endI L e≠0):O=none:=by
 rw [h.fin,if_neg]
 rintro ⟨h1,h2,h3⟩
 rcases hc with hc | hc
 ·rw [h1] at hc; cases hc
 refine hc ?_
 simp only at h2 h3
 subst h2; subst h3; rfl
theorem dec_yes (h:Tk O ⟨L,e⟩ bad (pEnd (edE gs add drop))) (hb:bad=false) (hc:endI L e=0):O=some (edE gs add drop):=by
 rw [h.fin,if_pos]
 unfold endI at hc
 split at hc
 ·cases hc
 rename_i hn
 refine ⟨hb,hc,?_⟩
 cases L with
 | nil=>rfl
 | cons y L=>exact absurd ⟨hc,by simp⟩ hn
end
theorem up_le {bad bad':Bool} {n most:Nat} {e:Int} (hb:bad'=(bad||(decide (most<n) || !decide (e=0)))) (h:bad'=false):n≤most:=by
 rw [h] at hb
 simp at hb
 omega
theorem goneT {s t:Rd'} {L:List Y} {e:Int} {b0 b1:Bool} {n1 n2:Nat} {lv:Int} (h1:rdNum s=(n1,⟨L,e⟩)) (q1:b1=(b0||(decide (255<n1) || !decide (e=0)))) (w1:n1≤255→lv=n1) (h2:rdNum ⟨L,e⟩=(n2,t)) :
  ∀ (α:Type) (O:Option α) (k:Gone→List Y→Option α),Tk O s b0 (pGone k)→Tk O t b1 (k ⟨lv,n2⟩):=by
 intro α O k h
 unfold pGone at h
 have a1:=h.upE (K:=pNum fun n=>k ⟨lv,n⟩) h1 q1 (fun hn=>by rw [w1 hn])
 exact a1.numE h2
theorem gones1 {g:Gone}:∀ u∈g.cells,u.oneCell'=true:=by
 intro u hu
 simp only [Gone.cells,List.mem_cons,List.not_mem_nil,or_false] at hu
 rcases hu with rfl|rfl<;>rfl
def DecR (xs:List Y) (e:Edit) (err:Int):Prop:=(decO xs=some e∧err=0)∨(decO xs=none∧e=Edit.zero∧err=180)
theorem Edit.zero_wf:Edit.zero.wf:=⟨⟨by decide,by decide⟩,⟨by decide,by decide⟩,⟨by decide,by decide⟩,⟨by decide,by decide⟩,(fun _ _=>⟨show (0:Int)≤0 by decide,show (0:Int)<18446744073709551616 by decide⟩),(fun _ h=>by cases h),(fun _ h=>by cases h)⟩
theorem EdR.zero {G:PM}:EdR G Edit.zero ⟨none,0⟩ ⟨none,0⟩:=⟨SlR.nul,SlR.nul,Edit.zero_wf⟩
section
variable {dr:Bool} {mc:Md} {P:Program} {n:Nat} {l:List Oper} {K:Env→PM→Mem→Prop} {i:Nat} {σ:List Nat} {ρ:Env} {G:PM} {μ:Mem}
variable {d t:Nat} {p:String} {af:Array Edge} {g:Option (Nat×Bool)} {c:Bool}
theorem bSf {T E sz by' len:Nat} {ps:List (Nat×Operand)} {vs:List (Nat×Value)} {cs:List Value} (ho:nth l i=some ⟨some d,.buildSlice T len ps.toArray,t,p,af,none⟩) (hT:slE P T=some (E,sz,by')) (hv:∀ a,Ag n ρ a→true=true→ps.map (fun q=>(q.1,a.eval q.2))=vs) (hb:builtSl P T len vs=some cs)
  (h:∀ b G',PM.le G G'→PB G' b (cl cs E)→Wo dr mc P n l K σ ((d,true,.slice (some ⟨b,0,none⟩) len len) :: ρ) G' μ):Wo dr mc P n l K (i :: σ) ρ G μ:=by
 refine .fresh (μ₁:=[]) (μ₂:=μ) (post:=fun G' μa μb v=>μa=[]∧μb=[]∧∃ b,v=.slice (some ⟨b,0,none⟩) len len∧PB G' b (cl cs E)) ho (.inl rfl) rfl (List.Perm.refl _) (fun a w ha hs=>?_) ?_ ?_
 ·have hrun:(execOp a.eval ⟨some d,.buildSlice T len ps.toArray,t,p,af,none⟩).run P w=.ok (.value (.slice (some ⟨w.heap.size,0,none⟩) len len)) (w.alloc (cl cs E)):=by
   obtain ⟨hu,inf,hi,hs1,_⟩:=slE_some hT
   have h1:=hv a ha rfl
   simp only [builtSl,hu,hi] at hb
   cases hz:inf.zero with
   | none=>rw [hz] at hb; cases hb
   | some z =>
    rw [hz] at hb
    simp only at hb
    split at hb
    ·cases hb
    rename_i hle
    simp only [not_or] at hle
    obtain ⟨hle,h0⟩:=hle
    cases hf:Instr.fill (fun j=>some (j*inf.size,inf.size)) ((Array.range (len*inf.size)).map (z.cells[·%z.cells.size]!)) vs with
    | none=>rw [hf] at hb; cases hb
    | some r =>
     rw [hf] at hb
     simp only [Option.map_some,Option.some.injEq] at hb
     subst hb
     simp [execOp,Instr.buildSlice,run_underlying hu,sizeOf,typeInfo,hi,h0,hle,zeroValue,hz,hf,h1,newRow,cl]
  have hs0:Sat G [] w:=⟨hs.sub,by simp,by simp [keys],by simp [keys]⟩
  have ht:=((Tr.begin hs0).alloc (cl cs E)).freeze (by simp [keys])
  exact ⟨_,_,_,[],[],hrun,ht,rfl,rfl,_,rfl,⟨PM.add_same _ _ _⟩⟩
 ·rintro v G' μa μb ⟨rfl,rfl,_⟩
  exact ⟨(fun w _ r hr=>by cases hr),(fun b hb=>by cases hb),by simp [keys]⟩
 rintro v G' μa μb hle ⟨rfl,rfl,b,rfl,hb⟩
 have:=h b G' hle hb
 simp only [List.nil_append,List.append_nil]
 exact this
theorem PB.slq {b cap:Nat} {ns:List Int} {T:TypeId} (h:PB G b (cl (ns.map (Value.int .u64)) T)) (hc:ns.length≤cap):SlR G 1 encQ ⟨some ⟨b,0,none⟩,cap⟩ ns:=by
 refine ⟨fun _=>rfl,hc,fun i x hx j v hj=>?_⟩
 have h0:j=0∧v=.int .u64 x:=by
  cases j with
  | zero=>simp [encQ] at hj; exact ⟨rfl,hj.symm⟩
  | succ j=>simp [encQ] at hj
 obtain ⟨rfl,rfl⟩:=h0
 have:=h.rd (o:=i) (v:=.int .u64 x) (by rw [List.getElem?_map,hx]; rfl)
 simpa [Sh.b,Sh.o] using this
theorem bQ {T E by' len:Nat} {ps:List (Nat×Operand)} {us:List Value} {z:Value} (ns:List Int) (ho:nth l i=some ⟨some d,.buildSlice T len ps.toArray,t,p,af,none⟩) (hT:slE P T=some (E,1,by')) (hz:(P.info? E).bind (·.zero)=some z) (hv:∀ a,Ag n ρ a→true=true→ps.map (fun q=>(q.1,a.eval q.2))=parts 0 us) (hus:us=ns.map (Value.int .u64)) (hl:ns.length=len) (h0:0<len∧len≤16777216)
  (h:∀ G' s,PM.le G G'→SlR G' 1 encQ s ns→Wo dr mc P n l K σ ((d,true,s.val ns.length) :: ρ) G' μ):Wo dr mc P n l K (i :: σ) ρ G μ:=by
 subst hus
 refine bSf (vs:=parts 0 (ns.map (Value.int .u64))) (cs:=ns.map (Value.int .u64)) ho hT hv ?_ (fun b G' hle hb=>?_)
 ·obtain ⟨hu,inf,hi,hs1,_⟩:=slE_some hT
  rw [hi] at hz
  simp only [Option.bind_some] at hz
  simp only [builtSl,hu,hi,hz,hs1]
  rw [if_neg (by omega)]
  generalize ha:(Array.range (len*1)).map (z.cells[·%z.cells.size]!)=arr
  have hs:arr.toList.length=len:=by rw [← ha]; simp
  have h2:=fill_parts (ns.map (Value.int .u64)) 0 arr.toList (fun u hu=>by obtain ⟨x,_,rfl⟩:=List.mem_map.1 hu; rfl) (by rw [List.length_map]; omega)
  simp only [Array.toArray_toList] at h2
  rw [h2]
  have h3:arr.toList.drop (0+(ns.map (Value.int .u64)).length)=[]:=List.drop_of_length_le (by rw [List.length_map]; omega)
  rw [h3]
  simp
 have:=h G' ⟨some ⟨b,0,none⟩,len⟩ hle (hb.slq (by omega))
 rw [Sh.val,hl] at this
 exact this
end
theorem q1 {a:Int} (h:u64 a):∀ x∈[a],u64 x:=by intro x hx; rw [List.mem_singleton.1 hx]; exact h
theorem q2 {a b:Int} (h:u64 a) (h2:u64 b):∀ x∈[a,b],u64 x:=by
 intro x hx; simp only [List.mem_cons,List.not_mem_nil,or_false] at hx; rcases hx with rfl|rfl<;>assumption
theorem q4 {a b c d:Int} (h:u64 a) (h2:u64 b) (h3:u64 c) (h4:u64 d):∀ x∈[a,b,c,d],u64 x:=by
 intro x hx; simp only [List.mem_cons,List.not_mem_nil,or_false] at hx; rcases hx with rfl|rfl|rfl|rfl<;>assumption
theorem q6 {a b c d e f:Int} (h:u64 a) (h2:u64 b) (h3:u64 c) (h4:u64 d) (h5:u64 e) (h6:u64 f):∀ x∈[a,b,c,d,e,f],u64 x:=by
 intro x hx; simp only [List.mem_cons,List.not_mem_nil,or_false] at hx; rcases hx with rfl|rfl|rfl|rfl|rfl|rfl<;>assumption
theorem u64_len {n:Nat} (h:n<18446744073709551616):u64 (n:Int):=⟨by omega,by omega⟩
theorem wrap_q (x:Int):(IntKind.u64.wrap x).toNat=u64N x:=by
 unfold u64N IntKind.wrap
 simp [IntKind.signed,IntKind.bits]
theorem u64_wrap (x:Int):u64 (IntKind.u64.wrap x):=by
 unfold u64 IntKind.wrap
 simp [IntKind.signed,IntKind.bits]; omega
theorem u64_6 {m:Meta} (h:m.wf):∀ x∈[m.level,m.gen,m.epoch,m.number,IntKind.u64.wrap m.size,IntKind.u64.wrap m.count],u64 x:=by
 have l1:=h.level; have l2:=h.gen; have l3:=h.epoch; have l4:=h.number
 exact q6 ⟨by omega,by omega⟩ ⟨by omega,by omega⟩ ⟨by omega,by omega⟩ ⟨by omega,by omega⟩ (u64_wrap _) (u64_wrap _)
def gensL (e:Edit):List Int:=(List.range 5).map e.gens
theorem gens_u {e:Edit} (h:e.wf):∀ x∈gensL e,u64 x:=by
 intro x hx
 obtain ⟨i,hi,rfl⟩:=List.mem_map.1 hx
 exact h.gens i (List.mem_range.1 hi)
theorem gens_sl {G:PM} {e:Edit} {ha hd:Sh} {b:Nat} {T:TypeId} (h:PB G b (cl (e.cells ha hd) T)):SlR G 1 encQ ⟨some ⟨b,4,none⟩,5⟩ (gensL e):=by
 refine SlR.part (cs:=e.cells ha hd) (fun j v hj=>?_) rfl (Nat.le_refl 5)
 have:=h.rd hj
 simpa using this
theorem meta_ba {m:Meta} (h:m.wf):(m.cells.drop 8).take 32=ba 32 (fun i=>BitVec.ofInt 8 (m.root i)):=by
 have e:m.cells.drop 8=(List.range 32).map fun i=>.int .u8 (m.root i):=rfl
 rw [e,List.take_of_length_le (by simp)]
 unfold ba
 refine List.map_congr_left fun i hi=>?_
 have hr:=h.root i (List.mem_range.1 hi)
 show Value.int .u8 (m.root i)=V (BitVec.ofInt 8 (m.root i))
 have e2:(((BitVec.ofInt 8 (m.root i)).toNat:Nat):Int)=m.root i:=by rw [BitVec.toNat_ofInt]; omega
 show Value.int .u8 (m.root i)=Value.int .u8 (((BitVec.ofInt 8 (m.root i)).toNat:Nat):Int)
 rw [e2]
theorem numsL_nil:numsL []=[]:=rfl
theorem numsL_cons (x:Int) (ns:List Int):numsL (x :: ns)=numN x.toNat++numsL ns:=by simp [numsL]
theorem encM_eq (m:Meta) (A:List Y):A++numsL [m.level,m.gen,m.epoch,m.number,IntKind.u64.wrap m.size,IntKind.u64.wrap m.count]++strL (yb m.min)++strL (yb m.max)++yl 32 (fun i=>BitVec.ofInt 8 (m.root i))=A++encM m:=by
 unfold encM
 simp only [numsL_cons,numsL_nil,wrap_q,List.append_assoc,List.append_nil]
 rfl
theorem encG_eq (g:Gone) (A:List Y):A++numsL [g.level,g.number]=A++encG g:=by
 unfold encG
 simp only [numsL_cons,numsL_nil,List.append_nil]
theorem encE_eq (e:Edit):numsL [e.log,e.next,e.seq,e.least]++numsL (gensL e)++numsL [(e.add.length:Int)]++e.add.flatMap encM++numsL [(e.drop.length:Int)]++e.drop.flatMap encG=encE e:=by
 have h:numsL (gensL e)=(List.range 5).flatMap fun i=>numN (e.gens i).toNat:=by unfold numsL gensL; rw [List.flatMap_map]
 unfold encE
 rw [h]
 simp only [numsL_cons,numsL_nil,List.append_assoc,List.append_nil,Int.toNat_natCast]
theorem flat_snoc {α β:Type} {f:α→List β} {xs:List α} {k:Nat} {x:α} (h:xs[k]? = some x):(xs.take (k+1)).flatMap f=(xs.take k).flatMap f++f x:=by
 rw [List.take_add_one,h]; simp
theorem flat_take {α β:Type} {f:α→List β} {xs:List α} {k:Nat} {x:α} (h:xs[k]? = some x):((xs.take k).flatMap f).length+(f x).length≤(xs.flatMap f).length:=by
 have h1:xs.flatMap f=(xs.take (k+1)).flatMap f++(xs.drop (k+1)).flatMap f:=by rw [← List.flatMap_append,List.take_append_drop]
 rw [h1,flat_snoc h]; simp only [List.length_append]; omega
theorem flat_take_le {α β:Type} {f:α→List β} {xs:List α} (k:Nat):((xs.take k).flatMap f).length≤(xs.flatMap f).length:=by
 have h1:xs.flatMap f=(xs.take k).flatMap f++(xs.drop k).flatMap f:=by rw [← List.flatMap_append,List.take_append_drop]
 rw [h1]; simp only [List.length_append]; omega
theorem strL_len {xs:List Y} (h:xs.length<18446744073709551616):(strL xs).length≤xs.length+10:=by
 have:=num_len10 h
 unfold strL; rw [List.length_append]; omega
theorem strL_ge (xs:List Y):xs.length≤(strL xs).length:=by unfold strL; rw [List.length_append]; omega
theorem encM_ge (m:Meta):m.min.size+m.max.size≤(encM m).length:=by
 have h1:=strL_ge (yb m.min); have h2:=strL_ge (yb m.max)
 rw [yb_len] at h1 h2
 unfold encM
 simp only [List.length_append]; omega
theorem encG_len {g:Gone} (h:g.wf):(encG g).length≤20:=by
 have h1:=h.level; have h2:=h.number
 have n1:=num_len10 (n:=g.level.toNat) (by omega); have n2:=num_len10 (n:=g.number.toNat) (by omega)
 unfold encG; rw [List.length_append]; omega
theorem gonesL {gs:List Gone} (h:∀ g∈gs,g.wf):(gs.flatMap encG).length≤20*gs.length:=by
 induction gs with
 | nil=>simp
 | cons g gs ih =>
  have h1:=encG_len (h g (List.mem_cons_self ..))
  have h2:=ih fun x hx=>h x (List.mem_cons_of_mem _ hx)
  rw [List.flatMap_cons,List.length_append,List.length_cons]; omega
section
variable {α:Type} {O:Option α} {s t:Rd'} {bad:Bool}
theorem Tk.seen {k:List Y→Option α} (h:Tk O s bad k):Tk O s (bad || !decide (s.bad=0)) k :=
 h.bad_of (fun h0 _ hc=>by rw [h0] at hc; simp at hc)
end
section
variable {dr:Bool} {mc:Md} {P:Program} {n:Nat} {l:List Oper} {K:Env→PM→Mem→Prop} {i:Nat} {σ:List Nat} {ρ:Env} {G:PM} {μ:Mem}
variable {d t:Nat} {p:String} {af:Array Edge} {g:Option (Nat×Bool)} {c:Bool}
end
def beforeB (s:State) (e:Edit):Bool:=((List.range 5).any fun i=>decide (e.gens i<s.gens i))||(((decide (e.log<s.log)||decide (e.next<s.next))||decide (e.seq<s.seq))||decide (e.least<s.least))
theorem bef_yes {s:State} {e:Edit} {i:Nat} (hi:i<5) (h:e.gens i<s.gens i):beforeB s e=true:=by
 unfold beforeB
 rw [List.any_eq_true.2 ⟨i,List.mem_range.2 hi,by simpa using h⟩]; rfl
theorem bef_no {s:State} {e:Edit} (h:∀ i,i<5→¬ e.gens i<s.gens i):beforeB s e=(((decide (e.log<s.log)||decide (e.next<s.next))||decide (e.seq<s.seq))||decide (e.least<s.least)):=by
 unfold beforeB
 rw [show ((List.range 5).any fun i=>decide (e.gens i<s.gens i))=false from List.any_eq_false.2 (fun i hi=>by simpa using h i (List.mem_range.1 hi)),Bool.false_or]
theorem State.len {s:State} {hd:Nat→Sh}:(s.cells hd).length=14:=by simp [State.cells]
theorem State.one' {s:State} {hd:Nat→Sh}:∀ u∈s.cells hd,u.oneCell'=true:=by
 intro u hu
 simp only [State.cells,List.mem_append,List.mem_map,List.mem_cons,List.not_mem_nil,or_false] at hu
 rcases hu with (⟨i,_,rfl⟩ | (rfl|rfl|rfl|rfl)) | ⟨i,_,rfl⟩<;>rfl
theorem Edit.len {e:Edit} {ha hd:Sh}:(e.cells ha hd).length=11:=by simp [Edit.cells]
theorem Edit.one' {e:Edit} {ha hd:Sh}:∀ u∈e.cells ha hd,u.oneCell'=true:=by
 intro u hu
 simp only [Edit.cells,List.mem_append,List.mem_map,List.mem_cons,List.not_mem_nil,or_false] at hu
 rcases hu with ((rfl|rfl|rfl|rfl) | ⟨i,_,rfl⟩) | (rfl|rfl)<;>rfl
theorem gens_at {e:Edit} {j:Int} {k:Nat} (hj:j.toNat=k) (h:k<5):((List.range 5).map (fun i=>Value.int .u64 (e.gens i)))[j.toNat]? = some (.int .u64 (e.gens k)):=by
 subst hj
 simp [h]
instance {s:State} {hd:Nat→Sh}:QLen (s.cells hd) 14:=⟨State.len⟩
instance {e:Edit} {ha hd:Sh}:QLen (e.cells ha hd) 11:=⟨Edit.len⟩
theorem u8_lt {a b:UInt8}:(a<b)↔a.toNat<b.toNat:=UInt8.lt_iff_toNat_lt
theorem bl_irr:∀ (x:List UInt8),Op.bytesLess x x=false
 | []=>rfl
 | a :: x=>by
  have h:¬ a<a:=by rw [u8_lt]; omega
  simp [Op.bytesLess,h,bl_irr x]
theorem bl_trans:∀ {x y z:List UInt8},Op.bytesLess x y=true→Op.bytesLess y z=true→Op.bytesLess x z=true
 | [],[],_,h,_=>by simp [Op.bytesLess] at h
 | [],_ :: _,[],_,h=>by simp [Op.bytesLess] at h
 | [],_ :: _,_ :: _,_,_=>by simp [Op.bytesLess]
 | _ :: _,[],_,h,_=>by simp [Op.bytesLess] at h
 | _ :: _,_ :: _,[],_,h=>by simp [Op.bytesLess] at h
 | a :: x,b :: y,c :: z,h,h'=>by
  simp only [Op.bytesLess,Bool.or_eq_true,Bool.and_eq_true,decide_eq_true_eq,beq_iff_eq] at h h' ⊢
  rcases h with h | ⟨rfl,h⟩
  ·rcases h' with h' | ⟨rfl,_⟩
   ·left; rw [u8_lt] at *; omega
   ·exact .inl h
  ·rcases h' with h' | ⟨rfl,h'⟩
   ·exact .inl h'
   ·exact .inr ⟨rfl,bl_trans h h'⟩
theorem bl_tri:∀ (x y:List UInt8),Op.bytesLess x y=true∨x=y∨Op.bytesLess y x=true
 | [],[]=>.inr (.inl rfl)
 | [],_ :: _=>.inl (by simp [Op.bytesLess])
 | _ :: _,[]=>.inr (.inr (by simp [Op.bytesLess]))
 | a :: x,b :: y=>by
  simp only [Op.bytesLess,Bool.or_eq_true,Bool.and_eq_true,decide_eq_true_eq,beq_iff_eq,List.cons.injEq]
  have hab:a.toNat<b.toNat∨a=b∨b.toNat<a.toNat:=by
   rcases Nat.lt_trichotomy a.toNat b.toNat with h | h | h
   ·exact .inl h
   ·exact .inr (.inl (UInt8.toNat_inj.1 h))
   ·exact .inr (.inr h)
  rcases hab with h|rfl | h
  ·exact .inl (.inl (u8_lt.2 h))
  ·rcases bl_tri x y with h|rfl | h
   ·exact .inl (.inr ⟨rfl,h⟩)
   ·exact .inr (.inl ⟨rfl,rfl⟩)
   ·exact .inr (.inr (.inr ⟨rfl,h⟩))
  ·exact .inr (.inr (.inl (u8_lt.2 h)))
theorem bytes_inj {a b:ByteArray} (h:a.toList=b.toList):a=b:=by
 rw [ByteArray.toList_eq,ByteArray.toList_eq] at h
 cases a with | mk a=>cases b with | mk b =>
 congr 1
 exact Array.toList_inj.1 h
theorem lt_irr (a:ByteArray):lt a a=false:=bl_irr _
theorem lt_tr {a b c:ByteArray} (h:lt a b=true) (h':lt b c=true):lt a c=true:=bl_trans h h'
theorem lt_tri (a b:ByteArray):lt a b=true∨a=b∨lt b a=true:=by
 rcases bl_tri a.toList b.toList with h | h | h
 ·exact .inl h
 ·exact .inr (.inl (bytes_inj h))
 ·exact .inr (.inr h)
theorem lt_as {a b:ByteArray} (h:lt a b=true):lt b a=false:=by
 cases h':lt b a with
 | false=>rfl
 | true=>have:=lt_tr h h'; rw [lt_irr] at this; cases this
theorem le_not (a b:ByteArray):le a b = !lt b a:=by
 have e:le a b=(lt a b||a.toList == b.toList):=rfl
 rw [e]
 rcases lt_tri a b with h|rfl | h
 ·rw [h,lt_as h]; rfl
 ·rw [lt_irr]; simp
 ·rw [h,lt_as h]
  have hne:(a.toList == b.toList)=false:=by
   rw [beq_eq_false_iff_ne]
   intro e
   rw [bytes_inj e,lt_irr] at h; cases h
  rw [hne]; rfl
theorem lv_tot (s:State) {i:Nat} (h:i<5):((s.lv i).length:Int)≤tot s 5:=by
 have h1:=tot_mono s (show i+1≤5 by omega)
 have h2:=tot_nonneg s i
 rw [show tot s (i+1)=tot s i+(s.lv i).length from rfl] at h1
 omega
inductive Ck (lt:Meta→Meta→Bool) (bs:Nat):List TM→List TM→Prop
 | last {s o:List TM} (h:s.length≤bs) (hs:Srt lt s) (hp:s.Perm o):Ck lt bs s o
 | cons {s o T O:List TM} (h:s.length=bs) (hs:Srt lt s) (hp:s.Perm o) (hT:Ck lt bs T O):Ck lt bs (s++T) (o++O)
section
variable {lt:Meta→Meta→Bool} {bs:Nat} {T O:List TM}
theorem Ck.perm (h:Ck lt bs T O):T.Perm O:=by
 induction h with
 | last h hs hp=>exact hp
 | cons h hs hp hT ih=>exact hp.append ih
theorem Ck.big (h:Ck lt bs T O) (hb:0<bs) (hl:T.length≤bs):Srt lt T∧T.Perm O:=by
 refine ⟨?_,h.perm⟩
 cases h with
 | last h hs hp=>exact hs
 | @cons s o T O h hs hp hT =>
  rw [List.length_append] at hl
  have:T=[]:=List.eq_nil_of_length_eq_zero (by omega)
  rw [this,List.append_nil]; exact hs
theorem Ck.one (h:Ck lt bs T O) (hb:0<bs) (hl:bs<T.length):∃ s o T' O',T=s++T'∧O=o++O'∧s.length=bs∧o.length=bs∧Srt lt s∧s.Perm o∧Ck lt bs T' O'∧0<T'.length:=by
 cases h with
 | last h hs hp=>omega
 | @cons s o T O h hs hp hT=>exact ⟨s,o,T,O,rfl,rfl,h,by rw [← hp.length_eq]; exact h,hs,hp,hT,by rw [List.length_append] at hl; omega⟩
theorem Ck.two (h:Ck lt bs T O) (hb:0<bs) (hl:bs+bs≤T.length):∃ s1 s2 o1 o2 T' O',T=s1++s2++T'∧O=o1++o2++O'∧s1.length=bs∧s2.length=bs∧o1.length=bs∧o2.length=bs∧Srt lt s1∧Srt lt s2∧s1.Perm o1∧s2.Perm o2∧Ck lt bs T' O':=by
 obtain ⟨s1,o1,T1,O1,rfl,rfl,h1,h2,h3,h4,h5,h6⟩:=h.one hb (by omega)
 rw [List.length_append] at hl
 cases h5 with
 | last g hs hp=>exact ⟨s1,T1,o1,O1,[],[],by simp,by simp,h1,by omega,h2,by rw [← hp.length_eq]; omega,h3,hs,h4,hp,.last (Nat.zero_le _) .nil (List.Perm.refl _)⟩
 | @cons s o T O g hs hp hT=>exact ⟨s1,s,o1,o,T,O,by simp,by simp,h1,g,h2,by rw [← hp.length_eq]; exact g,h3,hs,h4,hp,hT⟩
theorem Ck.rest (h:Ck lt bs T O) (hb:0<bs) (hl:bs<T.length) (h2:T.length<bs+bs):∃ s1 s2 o1 o2,T=s1++s2∧O=o1++o2∧s1.length=bs∧0<s2.length∧o1.length=bs∧Srt lt s1∧Srt lt s2∧s1.Perm o1∧s2.Perm o2:=by
 obtain ⟨s1,o1,T1,O1,rfl,rfl,h1,h3,h4,h5,h6,h7⟩:=h.one hb hl
 rw [List.length_append] at h2
 obtain ⟨h8,h9⟩:=h6.big hb (by omega)
 exact ⟨s1,T1,o1,O1,rfl,rfl,h1,h7,h3,h4,h8,h5,h9⟩
theorem tag_lt {X Z s1 s2 o1 o2 T0:List TM} (hT:T0.Pairwise fun x y=>x.2<y.2) (e:X++(o1++o2++Z)=T0) (h1:s1.Perm o1) (h2:s2.Perm o2):∀ x∈s1,∀ y∈s2,x.2<y.2:=by
 intro x hx y hy
 rw [← e] at hT
 have h3:=(List.pairwise_append.1 hT).2.1
 have h4:=(List.pairwise_append.1 h3).1
 exact (List.pairwise_append.1 h4).2.2 x (h1.mem_iff.1 hx) y (h2.mem_iff.1 hy)
theorem tag_sub {X Y Z T0:List TM} (hT:T0.Pairwise fun x y=>x.2<y.2) (e:X++(Y++Z)=T0):Y.Pairwise fun x y=>x.2<y.2:=by
 rw [← e] at hT
 exact (List.pairwise_append.1 (List.pairwise_append.1 hT).2.1).1
theorem ms_tags (xs:List Meta):ms (xs.zipIdx 0)=xs:=by unfold ms; simp
theorem tags_srt (xs:List Meta):(xs.zipIdx 0).Pairwise fun x y=>x.2<y.2:=by
 refine List.pairwise_iff_getElem.2 fun i j hi hj hij=>?_
 simp only [List.getElem_zipIdx]
 show 0+i<0+j
 omega
theorem ms_sort (h:Wk0 lt) {xs:List Meta} {T:List TM} (hs:Srt lt T) (hp:T.Perm (xs.zipIdx 0)):ms T=sortS lt xs:=sortS_of h hs hp
end
def cmpN (x y:Int):Int:=if x<y then -1 else if y<x then 1 else 0
def cmpT (x y:ByteArray):Int:=if lt x y then -1 else if lt y x then 1 else 0
def lvC (i:Int) (a b:Meta):Int:=if i=0 then cmpN b.number a.number else cmpT a.min b.min
def lvLt (i:Int) (a b:Meta):Bool:=if i=0 then decide (b.number<a.number) else lt a.min b.min
theorem ltv_lvC (i:Int):ltv (lvC i)=lvLt i:=by
 funext a b
 unfold ltv lvC lvLt cmpN cmpT
 by_cases h:i=0
 ·simp only [h,if_true]
  split
  ·rename_i h1; simp [h1]
  ·rename_i h1
   split<;>simp [h1]
 ·simp only [h,if_false]
  cases h1:lt a.min b.min with
  | true=>rfl
  | false=>cases lt b.min a.min<;>rfl
theorem lvLt_wk (i:Int):Wk0 (lvLt i):=by
 unfold lvLt
 by_cases h:i=0
 ·simp only [h,if_true]
  refine ⟨fun a=>by simp,fun {a b c} h1 h2=>?_,fun {a b} c h1=>?_⟩
  ·simp only [decide_eq_true_eq] at *; omega
  simp only [decide_eq_true_eq] at *; omega
 simp only [h,if_false]
 refine ⟨fun a=>lt_irr _,fun {a b c} h1 h2=>lt_tr h1 h2,fun {a b} c h1=>?_⟩
 rcases lt_tri a.min c.min with h2 | h2 | h2
 ·exact .inl h2
 ·right; rw [← h2]; exact h1
 right; exact lt_tr h2 h1
theorem cmpT_lt {x y:ByteArray} (h:Op.bytesLess x.toList y.toList=true):cmpT x y = -1:=by unfold cmpT; rw [if_pos (show lt x y=true from h)]
theorem cmpT_gt {x y:ByteArray} (h:Op.bytesLess x.toList y.toList=false) (h2:(!(Op.bytesLess x.toList y.toList||x.toList == y.toList))=true):cmpT x y=1:=by
 have h3:lt y x=true:=by
  have:le x y=false:=by simpa [le] using h2
  rw [le_not] at this; simpa using this
 unfold cmpT; rw [if_neg (by rw [show lt x y=false from h]; decide),if_pos h3]
theorem cmpT_eq {x y:ByteArray} (h:Op.bytesLess x.toList y.toList=false) (h2:(!(Op.bytesLess x.toList y.toList||x.toList == y.toList))=false):cmpT x y=0:=by
 have h3:lt y x=false:=by
  have:le x y=true:=by unfold le; simpa only [Bool.not_eq_false'] using h2
  rw [le_not] at this; simpa using this
 unfold cmpT; rw [if_neg (by rw [show lt x y=false from h]; decide),if_neg (by rw [h3]; decide)]
def gensKs:List CK:=List.replicate 5 (.int .u64)
def fitB (m:Meta):Bool:=((decide (m.size≥0)&&decide (m.count≥0))&&decide ((m.min.size:Int)≤1024))&&decide ((m.max.size:Int)≤1024)
def fitA (e:Edit) (k:Nat):Bool:=(e.add.take k).all fitB
theorem fitB_iff {m:Meta}:fitB m=true↔m.fits:=by
 unfold fitB Meta.fits
 simp only [Bool.and_eq_true,decide_eq_true_eq]
 constructor
 ·rintro ⟨⟨⟨h1,h2⟩,h3⟩,h4⟩; exact ⟨h1,h2,by omega,by omega⟩
 ·rintro ⟨h1,h2,h3,h4⟩; exact ⟨⟨⟨h1,h2⟩,by omega⟩,by omega⟩
theorem fitA_yes {e:Edit} {k:Nat} (hk:e.add.length≤k) (h:fitA e k=true):∀ m∈e.add,m.fits:=by
 unfold fitA at h
 rw [List.take_of_length_le hk] at h
 exact fun m hm=>fitB_iff.1 (List.all_eq_true.1 h m hm)
theorem fitA_no {e:Edit} {k:Nat} (hk:e.add.length≤k) (h:fitA e k=false):∃ m∈e.add,¬ m.fits:=by
 unfold fitA at h
 rw [List.take_of_length_le hk] at h
 obtain ⟨m,hm,h2⟩:=List.all_eq_false.1 h
 exact ⟨m,hm,fun hf=>h2 (fitB_iff.2 hf)⟩
theorem encM_len {m:Meta} (h:m.wf):(encM m).length≤m.min.size+m.max.size+112:=by
 have l1:=h.level; have l2:=h.gen; have l3:=h.epoch; have l4:=h.number; have l7:=h.minL; have l8:=h.maxL
 have n1:=num_len10 (n:=m.level.toNat) (by omega); have n2:=num_len10 (n:=m.gen.toNat) (by omega); have n3:=num_len10 (n:=m.epoch.toNat) (by omega); have n4:=num_len10 (n:=m.number.toNat) (by omega)
 have n5:=num_len10 (u64N_lt m.size); have n6:=num_len10 (u64N_lt m.count)
 have y1:=yb_len m.min; have y2:=yb_len m.max
 have s1:=strL_len (xs:=yb m.min) (by omega); have s2:=strL_len (xs:=yb m.max) (by omega)
 unfold encM
 simp only [List.length_append,List.length_map,List.length_range]
 omega
theorem metas_len' {R:Nat}:∀ (l:List Meta),(∀ m∈l,m.wf∧m.min.size≤R∧m.max.size≤R)→(l.flatMap encM).length≤l.length*(2*R+112)
 | [],_=>by simp
 | m :: l,h=>by
  have h1:=h m (List.mem_cons_self ..)
  have h2:=encM_len h1.1
  have h3:=metas_len' l fun x hx=>h x (List.mem_cons_of_mem _ hx)
  rw [List.flatMap_cons,List.length_append,List.length_cons,Nat.succ_mul]; omega
theorem encE_len {e:Edit} (h:e.wf) (ha:e.add.length≤1000000) (hd:e.drop.length≤1000000):(encE e).length≤(e.add.flatMap encM).length+20*e.drop.length+110:=by
 have l1:=h.log; have l2:=h.next; have l3:=h.seq; have l4:=h.least
 unfold u64 at l1 l2 l3 l4
 have n1:=num_len10 (n:=e.log.toNat) (by omega); have n2:=num_len10 (n:=e.next.toNat) (by omega); have n3:=num_len10 (n:=e.seq.toNat) (by omega); have n4:=num_len10 (n:=e.least.toNat) (by omega)
 have n5:=num_len10 (n:=e.add.length) (by omega); have n6:=num_len10 (n:=e.drop.length) (by omega)
 have g:((List.range 5).flatMap fun i=>numN (e.gens i).toNat).length≤10*5:=by
  have:=numsL_len (ns:=gensL e) (gens_u h)
  unfold numsL gensL at this
  rw [List.flatMap_map] at this
  simpa using this
 have d:=gonesL h.drop
 unfold encE
 simp only [List.length_append]
 omega
theorem DecR.back {e x:Edit} {r:Int} {k:Nat} (h:DecR (encE e) x r) (hw:e.wf) (ha:e.add.length≤1024) (hd:e.drop.length≤1024) (hk:e.add.length≤k) :
  (fitA e k=true∧r=0∧x=e.canon)∨(fitA e k=false∧r=180∧x=Edit.zero):=by
 cases hf:fitA e k with
 | true =>
  have h1:=edit_k hw ha hd (fitA_yes hk hf)
  rcases h with ⟨h2,h3⟩ | ⟨h2,_⟩
  ·rw [h1] at h2; exact .inl ⟨rfl,h3,(Option.some.inj h2).symm⟩
  ·rw [h1] at h2; cases h2
 | false =>
  have h1:=edit_no hw ha (fitA_no hk hf)
  rcases h with ⟨h2,h3⟩ | ⟨h2,h3,h4⟩
  ·rw [h1] at h2; cases h2
  ·exact .inr ⟨rfl,h4,h3⟩
abbrev Lvs:=Nat→List Meta
def updL (L:Lvs) (k:Nat) (l:List Meta):Lvs:=fun i=>if i=k then l else L i
theorem updL_same (L:Lvs) (k:Nat) (l:List Meta):updL L k l k=l:=by simp [updL]
theorem updL_other {L:Lvs} {k i:Nat} {l:List Meta} (h:i≠k):updL L k l i=L i:=by simp [updL,h]
def isN (g:Gone) (m:Meta):Bool:=m.number == g.number
def dropF (g:Gone) (L:Lvs):Option Lvs :=
 if g.level<5 then (if idxI (isN g) (L g.level.toNat)<0 then none else some (updL L g.level.toNat ((L g.level.toNat).take (idxI (isN g) (L g.level.toNat)).toNat++(L g.level.toNat).drop ((idxI (isN g) (L g.level.toNat)).toNat+1)))) else none
def addF (m:Meta) (L:Lvs):Option Lvs:=if m.level<5 then some (updL L m.level.toNat (L m.level.toNat++[m])) else none
def insF (m:Meta) (L:Lvs):Option Lvs:=if m.level<5 then some (updL L m.level.toNat (insS (lvLt m.level) (L m.level.toNat) m)) else none
def foldO {β:Type} (f:β→Lvs→Option Lvs):List β→Lvs→Option Lvs
 | [],L=>some L
 | b :: bs,L=>(f b L).bind (foldO f bs)
theorem foldO_snoc {β:Type} {f:β→Lvs→Option Lvs}:∀ {bs:List β} {b:β} {L:Lvs},foldO f (bs++[b]) L=(foldO f bs L).bind (f b)
 | [],b,L=>by simp [foldO]
 | c :: bs,b,L=>by
  simp only [List.cons_append,foldO]
  cases f c L with
  | none=>rfl
  | some L1=>exact foldO_snoc
theorem foldO_take {β:Type} {f:β→Lvs→Option Lvs} {bs:List β} {k:Nat} {b:β} {L:Lvs} (h:bs[k]? = some b):foldO f (bs.take (k+1)) L=(foldO f (bs.take k) L).bind (f b):=by
 rw [List.take_add_one,h]; exact foldO_snoc
theorem foldO_app {β:Type} {f:β→Lvs→Option Lvs}:∀ {bs cs:List β} {L:Lvs},foldO f (bs++cs) L=(foldO f bs L).bind (foldO f cs)
 | [],cs,L=>rfl
 | b :: bs,cs,L=>by
  simp only [List.cons_append,foldO]
  cases f b L with
  | none=>rfl
  | some L1=>exact foldO_app
theorem foldO_none {β:Type} {f:β→Lvs→Option Lvs} {bs:List β} {k:Nat} {L:Lvs} (h:foldO f (bs.take k) L=none):foldO f bs L=none:=by
 rw [← List.take_append_drop k bs,foldO_app,h]; rfl
def mkX (e:Edit) (L:Lvs):State:=⟨L,e.log,e.next,e.seq,e.least,e.gens⟩
noncomputable def chk (X:State):Option State:=if rightS X then some X else none
def okB (s:State) (e:Edit):Bool := !beforeB s e&&(decide ((e.add.length:Int)≤1024)&&decide ((e.drop.length:Int)≤1024))
def srtL (L:Lvs):Lvs:=fun i=>sortS (lvLt i) (L i)
noncomputable def applyO (s:State) (e:Edit):Option State :=
 if okB s e then (foldO dropF e.drop s.lv).bind fun L1=>(foldO addF e.add L1).bind fun L2=>chk (mkX e (srtL L2)) else none
structure EqS (X Y:State):Prop where
 lv:∀ i,i<5→X.lv i=Y.lv i
 log:X.log=Y.log
 next:X.next=Y.next
 seq:X.seq=Y.seq
 least:X.least=Y.least
 gens:X.gens=Y.gens
theorem EqS.refl (X:State):EqS X X:=⟨fun _ _=>rfl,rfl,rfl,rfl,rfl,rfl⟩
theorem EqS.tot {X Y:State} (h:EqS X Y):∀ n,n≤5→tot X n=tot Y n
 | 0,_=>rfl
 | n+1,hn=>by simp only [Go.Tan.tot,h.tot n (by omega),h.lv n (by omega)]
theorem EqS.all {X Y:State} (h:EqS X Y):∀ n,n≤5→allM X n=allM Y n
 | 0,_=>rfl
 | n+1,hn=>by simp only [allM,h.all n (by omega),h.lv n (by omega)]
theorem EqS.good {X Y:State} (h:EqS X Y) (m:Meta):Go.Tan.good X m=Go.Tan.good Y m:=by unfold Go.Tan.good; rw [h.next,h.gens]
theorem EqS.right' {X Y:State} (h:EqS X Y) (hr:RightP X):RightP Y:=by
 refine ⟨h.seq▸hr.seq,h.least▸hr.least,by rw [← h.log,←h.next]; exact hr.log,by rw [← h.tot 5 (Nat.le_refl _)]; exact hr.few,fun i hi=>?_,?_⟩
 ·have:=hr.lv i hi
  rw [h.lv i hi] at this
  exact ⟨fun m hm=>⟨(this.1 m hm).1,by rw [← h.good]; exact (this.1 m hm).2⟩,this.2⟩
 rw [← h.all 5 (Nat.le_refl _)]; exact hr.apart
theorem EqS.symm {X Y:State} (h:EqS X Y):EqS Y X:=⟨fun i hi=>(h.lv i hi).symm,h.log.symm,h.next.symm,h.seq.symm,h.least.symm,h.gens.symm⟩
theorem EqS.right {X Y:State} (h:EqS X Y):rightS X=rightS Y:=by
 cases hx:rightS X with
 | true=>exact (rightS_true (h.right' (rightP_of hx))).symm
 | false =>
  cases hy:rightS Y with
  | false=>rfl
  | true=>have:=rightS_true (h.symm.right' (rightP_of hy)); rw [hx] at this; cases this
def AppR (s:State) (e:Edit) (X:State) (err:Int):Prop :=
 (rightS s=false∧err=1∧X=State.zero)∨(rightS s=true∧applyO s e=none∧err=180∧X=State.zero)∨(rightS s=true∧err=0∧∃ Y,applyO s e=some Y∧EqS X Y)
theorem ap_not {s:State} {e:Edit} (h:okB s e=false):applyO s e=none:=by unfold applyO; rw [h]; rfl
theorem ap_drop {s:State} {e:Edit} (h:foldO dropF e.drop s.lv=none):applyO s e=none:=by
 unfold applyO; split
 ·rw [h]; rfl
 ·rfl
theorem ap_add {s:State} {e:Edit} {L1:Lvs} (h1:foldO dropF e.drop s.lv=some L1) (h:foldO addF e.add L1=none):applyO s e=none:=by
 unfold applyO; split
 ·rw [h1]; simp only [Option.bind_some]; rw [h]; rfl
 ·rfl
theorem ap_end {s:State} {e:Edit} {L1 L2:Lvs} (h0:okB s e=true) (h1:foldO dropF e.drop s.lv=some L1) (h2:foldO addF e.add L1=some L2):applyO s e=chk (mkX e (srtL L2)):=by
 unfold applyO; rw [h0,h1]; simp only [if_true,Option.bind_some]; rw [h2]; rfl
theorem chk_eq {X Y:State} (h:EqS X Y) (hx:rightS X=true):chk Y=some Y:=by unfold chk; rw [← h.right,hx]; rfl
theorem chk_no {X Y:State} (h:EqS X Y) (hx:rightS X=false):chk Y=none:=by unfold chk; rw [← h.right,hx]; rfl
theorem idx_lt {p:Meta→Bool} {l:List Meta} (h:¬ idxI p l<0):(idxI p l).toNat<l.length∧idxI p l=((idxI p l).toNat:Int):=by
 unfold idxI at *
 cases hf:l.findIdx? p with
 | none=>rw [hf] at h; simp at h
 | some i =>
  rw [List.findIdx?_eq_some_iff_getElem] at hf
  simp; exact hf.1
theorem dropF_sub {g:Gone} {L L':Lvs} (h:dropF g L=some L'):∀ i,(L' i).Sublist (L i):=by
 unfold dropF at h
 split at h
 ·split at h
  ·cases h
  ·simp only [Option.some.injEq] at h
   subst h
   intro i
   by_cases hi:i=g.level.toNat
   ·subst hi
    rw [updL_same]
    have:=(List.Sublist.refl ((L g.level.toNat).take (idxI (isN g) (L g.level.toNat)).toNat)).append (List.drop_sublist_drop_left (L g.level.toNat) (Nat.le_succ (idxI (isN g) (L g.level.toNat)).toNat))
    rwa [List.take_append_drop] at this
   ·rw [updL_other hi]; exact List.Sublist.refl _
 ·cases h
theorem dropL_sub:∀ {gs:List Gone} {L L':Lvs},foldO dropF gs L=some L'→∀ i,(L' i).Sublist (L i)
 | [],L,L',h,i=>by simp only [foldO,Option.some.injEq] at h; subst h; exact List.Sublist.refl _
 | g :: gs,L,L',h,i=>by
  simp only [foldO] at h
  cases hf:dropF g L with
  | none=>rw [hf] at h; cases h
  | some L1=>rw [hf] at h; exact (dropL_sub h i).trans (dropF_sub hf i)
def atLv (i:Nat) (m:Meta):Bool:=m.level.toNat == i
theorem addL_eq:∀ {ms:List Meta} {L L':Lvs},foldO addF ms L=some L'→∀ i,L' i=L i++ms.filter (atLv i)
 | [],L,L',h,i=>by simp only [foldO,Option.some.injEq] at h; subst h; simp
 | m :: ms,L,L',h,i=>by
  simp only [foldO] at h
  unfold addF at h
  split at h
  ·simp only [Option.bind_some] at h
   rw [addL_eq h i]
   by_cases hi:i=m.level.toNat
   ·subst hi
    rw [updL_same,List.filter_cons_of_pos (by simp [atLv])]; simp
   ·rw [updL_other hi,List.filter_cons_of_neg (by simp [atLv]; omega)]
  ·cases h
theorem dropL_len {s:State} {gs:List Gone} {L:Lvs} (hr:RightP s) (h:foldO dropF gs s.lv=some L) {i:Nat} (hi:i<5):(L i).length≤1024:=by
 have h1:=(dropL_sub h i).length_le
 have h2:=lv_tot s hi
 have h3:=hr.few
 omega
theorem addL_len {ms:List Meta} {L L':Lvs} {N:Nat} (h:foldO addF ms L=some L') {i:Nat} (hN:(L i).length≤N):(L' i).length≤N+ms.length:=by
 rw [addL_eq h i,List.length_append]
 have:=List.length_filter_le (atLv i) ms
 omega
theorem dropL_wf {s:State} {gs:List Gone} {L:Lvs} (hw:∀ i,i<5→∀ m∈s.lv i,m.wf) (h:foldO dropF gs s.lv=some L):∀ i,i<5→∀ m∈L i,m.wf:=fun i hi m hm=>hw i hi m ((dropL_sub h i).subset hm)
theorem addL_wf {ms:List Meta} {L L':Lvs} (hw:∀ i,i<5→∀ m∈L i,m.wf) (hm:∀ m∈ms,m.wf) (h:foldO addF ms L=some L'):∀ i,i<5→∀ m∈L' i,m.wf:=by
 intro i hi m hx
 rw [addL_eq h i] at hx
 rcases List.mem_append.1 hx with hx | hx
 ·exact hw i hi m hx
 ·exact hm m (List.mem_filter.1 hx).1
theorem srtL_len (L:Lvs) (i:Nat):(srtL L i).length=(L i).length:=sortS_len _
theorem srtL_mem {L:Lvs} {i:Nat} {m:Meta}:m∈srtL L i↔m∈L i:=(sortS_perm _).mem_iff
def xC (w0 w1 w2 w3 w4:Value) (e:Edit):List Value:=[w0,w1,w2,w3,w4,.int .u64 e.log,.int .u64 e.next,.int .u64 e.seq,.int .u64 e.least]++(List.range 5).map fun i=>.int .u64 (e.gens i)
def pk {α:Type} (k i:Nat) (a b:α):α:=if i<k then a else b
def hx5 (a b c d f:Sh):Nat→Sh:=fun i=>match i with | 0=>a | 1=>b | 2=>c | 3=>d | _=>f
theorem stR5 {G:PM} {X:State} {a b c d f:Sh} (h0:SlR G 40 Meta.cells a (X.lv 0)) (h1:SlR G 40 Meta.cells b (X.lv 1)) (h2:SlR G 40 Meta.cells c (X.lv 2)) (h3:SlR G 40 Meta.cells d (X.lv 3)) (h4:SlR G 40 Meta.cells f (X.lv 4)) (hl:∀ i,i<5→(X.lv i).length≤1000000) (hw:∀ i,i<5→∀ m∈X.lv i,m.wf):StR G X (hx5 a b c d f):=by
 refine ⟨fun i hi=>?_,fun i hi=>?_,hw⟩
 ·match i,hi with
  | 0,_=>exact h0
  | 1,_=>exact h1
  | 2,_=>exact h2
  | 3,_=>exact h3
  | 4,_=>exact h4
 have:=hl i hi; omega
theorem xC_cells {a b c d f:Sh} {e:Edit} {L:Lvs}:xC (a.val (L 0).length) (b.val (L 1).length) (c.val (L 2).length) (d.val (L 3).length) (f.val (L 4).length) e=(mkX e L).cells (hx5 a b c d f):=rfl
theorem xC_one {w0 w1 w2 w3 w4:Value} {e:Edit} (h0:w0.oneCell'=true) (h1:w1.oneCell'=true) (h2:w2.oneCell'=true) (h3:w3.oneCell'=true) (h4:w4.oneCell'=true):∀ u∈xC w0 w1 w2 w3 w4 e,u.oneCell'=true:=by
 intro u hu
 simp only [xC,List.mem_append,List.mem_map,List.mem_cons,List.not_mem_nil,or_false] at hu
 rcases hu with (rfl|rfl|rfl|rfl|rfl|rfl|rfl|rfl|rfl) | ⟨i,_,rfl⟩<;>first|assumption|rfl
theorem dropF_hit {g:Gone} {L:Lvs} {q k:Nat} (h:g.level=(q:Int)) (h5:q<5) (hk:idxI (isN g) (L q)=(k:Int)):dropF g L=some (updL L q ((L q).take k++(L q).drop (k+1))):=by
 unfold dropF
 rw [h,if_pos (by omega),Int.toNat_natCast,hk,if_neg (by omega),Int.toNat_natCast]
theorem dropF_miss {g:Gone} {L:Lvs} {q:Nat} (h:g.level=(q:Int)) (hk:idxI (isN g) (L q)<0):dropF g L=none:=by
 unfold dropF
 split
 ·rw [h,Int.toNat_natCast,if_pos hk]
 ·rfl
theorem dropF_high {g:Gone} {L:Lvs} (h:5≤g.level):dropF g L=none:=by unfold dropF; rw [if_neg (by omega)]
theorem addF_hit {m:Meta} {L:Lvs} {q:Nat} (h:m.level=(q:Int)) (h5:q<5):addF m L=some (updL L q (L q++[m])):=by
 unfold addF
 rw [h,if_pos (by omega),Int.toNat_natCast]
theorem addF_high {m:Meta} {L:Lvs} (h:5≤m.level):addF m L=none:=by unfold addF; rw [if_neg (by omega)]
theorem fold_step {β:Type} {f:β→Lvs→Option Lvs} {bs:List β} {j:Nat} {b:β} {L0 L L':Lvs} (hb:bs[j]? = some b) (hL:foldO f (bs.take j) L0=some L) (h:f b L=some L'):foldO f (bs.take (j+1)) L0=some L':=by rw [foldO_take hb,hL]; exact h
theorem fold_stop {β:Type} {f:β→Lvs→Option Lvs} {bs:List β} {j:Nat} {b:β} {L0 L:Lvs} (hb:bs[j]? = some b) (hL:foldO f (bs.take j) L0=some L) (h:f b L=none):foldO f bs L0=none:=foldO_none (k:=j+1) (by rw [foldO_take hb,hL]; exact h)
theorem srt_step5 {M L2:Lvs} {k:Nat} (h:∀ i,M i=if i<k then srtL L2 i else L2 i):∀ i,updL M k (sortS (ltv (lvC (k:Int))) (M k)) i=if i<k+1 then srtL L2 i else L2 i:=by
 intro i
 by_cases hi:i=k
 ·subst hi
  rw [updL_same,if_pos (by omega),ltv_lvC,h i,if_neg (by omega)]; rfl
 ·rw [updL_other hi,h i]
  by_cases h2:i<k
  ·rw [if_pos h2,if_pos (by omega)]
  ·rw [if_neg h2,if_neg (by omega)]
theorem ap_head {s:State} {e:Edit} (h:((decide ((e.add.length:Int) > 1024)||decide ((e.drop.length:Int) > 1024))||beforeB s e)=true):applyO s e=none:=by
 refine ap_not ?_
 unfold okB
 cases hb:beforeB s e with
 | true=>rfl
 | false =>
  rw [hb] at h
  simp only [Bool.or_false,Bool.or_eq_true,decide_eq_true_eq] at h
  simp only [Bool.not_false,Bool.true_and,Bool.and_eq_false_iff,decide_eq_false_iff_not]
  omega
theorem ok_head {s:State} {e:Edit} (h:((decide ((e.add.length:Int) > 1024)||decide ((e.drop.length:Int) > 1024))||beforeB s e)=false):okB s e=true∧e.add.length≤1024∧e.drop.length≤1024:=by
 simp only [Bool.or_eq_false_iff,decide_eq_false_iff_not] at h
 obtain ⟨⟨h1,h2⟩,h3⟩:=h
 refine ⟨?_,by omega,by omega⟩
 unfold okB
 rw [h3,decide_eq_true (by omega),decide_eq_true (by omega)]; rfl
abbrev Shs:=Nat→Sh
def updS (S:Shs) (k:Nat) (h:Sh):Shs:=fun i=>if i=k then h else S i
structure LvR (G:PM) (S:Shs) (L:Lvs) (n:Nat):Prop where
 lv:∀ i,i<n→SlR G 40 Meta.cells (S i) (L i)
theorem LvR.mono {G G':PM} {S:Shs} {L:Lvs} {n:Nat} (h:LvR G S L n) (hle:PM.le G G'):LvR G' S L n:=⟨fun i hi=>(h.lv i hi).mono hle⟩
theorem LvR.upd {G:PM} {S:Shs} {L:Lvs} {n k:Nat} {hh:Sh} {l:List Meta} (h:LvR G S L n) (hs:SlR G 40 Meta.cells hh l):LvR G (updS S k hh) (updL L k l) n:=⟨fun i hi=>by
 unfold updS updL
 by_cases e:i=k
 ·rw [if_pos e,if_pos e]; exact hs
 ·rw [if_neg e,if_neg e]; exact h.lv i hi⟩
theorem LvR.next {G:PM} {S:Shs} {L:Lvs} {k:Nat} {hh:Sh} {l:List Meta} (h:LvR G S L k) (hs:SlR G 40 Meta.cells hh l):LvR G (updS S k hh) (updL L k l) (k+1):=⟨fun i hi=>by
 unfold updS updL
 by_cases e:i=k
 ·rw [if_pos e,if_pos e]; exact hs
 ·rw [if_neg e,if_neg e]; exact h.lv i (by omega)⟩
theorem LvR.congr {G:PM} {S:Shs} {L L':Lvs} {n:Nat} (h:LvR G S L n) (e:∀ i,i<n→L i=L' i):LvR G S L' n:=⟨fun i hi=>by rw [← e i hi]; exact h.lv i hi⟩
theorem Edit.cell_gen (e:Edit) (ha hd:Sh) {k:Nat} (h:k<5):(e.cells ha hd)[4+k*1]? = some (.int .u64 (e.gens k)):=by
 match k,h with
 | 0,_=>rfl | 1,_=>rfl | 2,_=>rfl | 3,_=>rfl | 4,_=>rfl
def okBase (s:State) (e:Edit):Bool:=((((decide (e.log≥s.log)&&decide (e.next≥s.next))&&decide (e.seq≥s.seq))&&decide (e.least≥s.least))&&decide ((e.add.length:Int)≤1024))&&decide ((e.drop.length:Int)≤1024)
def okU (s:State) (e:Edit):Nat→Bool
 | 0=>okBase s e
 | k+1=>okU s e k&&decide (e.gens k≥s.gens k)
theorem okU_all {s:State} {e:Edit}:∀ {k:Nat},okU s e k=true↔okBase s e=true∧∀ i,i<k→¬ e.gens i<s.gens i
 | 0=>by simp [okU]
 | k+1=>by
  simp only [okU,Bool.and_eq_true,okU_all (k:=k),decide_eq_true_eq]
  constructor
  ·rintro ⟨⟨h1,h2⟩,h3⟩
   exact ⟨h1,fun i hi=>by
    by_cases e:i=k
    ·subst e; omega
    ·exact h2 i (by omega)⟩
  ·rintro ⟨h1,h2⟩
   exact ⟨⟨h1,fun i hi=>h2 i (by omega)⟩,by have:=h2 k (by omega); omega⟩
theorem okU_okB {s:State} {e:Edit}:okU s e 5=okB s e:=by
 cases h:okU s e 5 with
 | true =>
  obtain ⟨h1,h2⟩:=okU_all.1 h
  unfold okBase at h1
  simp only [Bool.and_eq_true,decide_eq_true_eq] at h1
  obtain ⟨⟨⟨⟨⟨a1,a2⟩,a3⟩,a4⟩,a5⟩,a6⟩:=h1
  unfold okB
  rw [bef_no h2,decide_eq_true a5,decide_eq_true a6,decide_eq_false (by omega),decide_eq_false (by omega),decide_eq_false (by omega),decide_eq_false (by omega)]; rfl
 | false =>
  cases h':okB s e with
  | false=>rfl
  | true =>
   unfold okB at h'
   simp only [Bool.and_eq_true,Bool.not_eq_true',decide_eq_true_eq] at h'
   obtain ⟨b1,b2,b3⟩:=h'
   have hg:∀ i,i<5→¬ e.gens i<s.gens i:=fun i hi hc=>by rw [bef_yes hi hc] at b1; cases b1
   rw [bef_no hg] at b1
   simp only [Bool.or_eq_false_iff,decide_eq_false_iff_not] at b1
   have:okU s e 5=true:=okU_all.2 ⟨by
    unfold okBase
    simp only [Bool.and_eq_true,decide_eq_true_eq]
    omega,hg⟩
   rw [h] at this; cases this
theorem insF_hit {m:Meta} {L:Lvs} (h:m.level<5):insF m L=some (updL L m.level.toNat (insS (lvLt m.level) (L m.level.toNat) m)):=by unfold insF; rw [if_pos h]
theorem dropF_ok {g:Gone} {L:Lvs} {k:Nat} (h:g.level<5) (hk:idxI (isN g) (L g.level.toNat)=(k:Int)):dropF g L=some (updL L g.level.toNat ((L g.level.toNat).take k++(L g.level.toNat).drop (k+1))):=by
 unfold dropF
 rw [if_pos h,hk,if_neg (by omega),Int.toNat_natCast]
theorem dropF_non {g:Gone} {L:Lvs} (hk:idxI (isN g) (L g.level.toNat)<0):dropF g L=none:=by
 unfold dropF
 split<;>first|rfl | rw [if_pos hk]
def WithoutR (g:Gone) (l L:List Meta) (ok:Bool):Prop:=(ok=false∧L=[]∧idxI (isN g) l<0)∨(ok=true∧∃ k:Nat,idxI (isN g) l=(k:Int)∧k<l.length∧L=l.take k++l.drop (k+1))
theorem WithoutR.len {g:Gone} {l L:List Meta} {ok:Bool} (h:WithoutR g l L ok):L.length≤l.length:=by
 rcases h with ⟨_,rfl,_⟩ | ⟨_,k,_,hk,rfl⟩
 ·simp
 ·simp; omega
def RefT (s:State) (e:Edit) (f:Option Lvs) (L:Lvs) (ok:Bool):Prop:=(ok=true∧okB s e=true∧f=some L)∨(ok=false∧applyO s e=none)
theorem RefT.start {s:State} {e:Edit} {ok:Bool} {f:Option Lvs} {L:Lvs} (h:ok=okU s e 5) (hf:f=some L):RefT s e f L ok:=by
 rw [okU_okB] at h
 cases hk:okB s e with
 | true=>exact .inl ⟨by rw [h,hk],hk,hf⟩
 | false=>exact .inr ⟨by rw [h,hk],ap_not hk⟩
theorem RefT.drop {s:State} {e:Edit} {g:Gone} {j:Nat} {L:Lvs} {l:List Meta} {ok:Bool} (h:RefT s e (foldO dropF (e.drop.take j) s.lv) L true) (eg:e.drop[j]? = some g) (h5:g.level<5) (hw:WithoutR g (L g.level.toNat) l ok):RefT s e (foldO dropF (e.drop.take (j+1)) s.lv) (updL L g.level.toNat l) ok:=by
 rcases h with ⟨_,h1,h2⟩ | ⟨h,_⟩
 ·rcases hw with ⟨rfl,_,hn⟩ | ⟨rfl,k,hk,_,rfl⟩
  ·exact .inr ⟨rfl,ap_drop (fold_stop eg h2 (dropF_non hn))⟩
  ·exact .inl ⟨rfl,h1,fold_step eg h2 (dropF_ok h5 hk)⟩
 ·cases h
theorem okB_bd {s:State} {e:Edit} (h:okB s e=true):e.add.length≤1024∧e.drop.length≤1024:=by
 unfold okB at h
 simp only [Bool.and_eq_true,decide_eq_true_eq] at h
 omega
structure RefA (s:State) (e:Edit) (j:Nat) (L:Lvs) (ok:Bool):Prop where
 out:(ok=true∧okB s e=true∧∃ L1,foldO dropF e.drop s.lv=some L1∧foldO insF (e.add.take j) L1=some L)∨(ok=false∧applyO s e=none)
theorem RefA.start {s:State} {e:Edit} {L:Lvs} {ok:Bool} (h:RefT s e (foldO dropF e.drop s.lv) L ok):RefA s e 0 L ok:=by
 rcases h with ⟨rfl,h1,h2⟩ | ⟨rfl,h⟩
 ·exact ⟨.inl ⟨rfl,h1,L,h2,rfl⟩⟩
 ·exact ⟨.inr ⟨rfl,h⟩⟩
theorem RefA.add {s:State} {e:Edit} {m:Meta} {j:Nat} {L:Lvs} (h:RefA s e j L true) (em:e.add[j]? = some m) (h5:m.level<5):RefA s e (j+1) (updL L m.level.toNat (insS (lvLt m.level) (L m.level.toNat) m)) true:=by
 rcases h.out with ⟨_,h1,L1,h2,h3⟩ | ⟨h,_⟩
 ·exact ⟨.inl ⟨rfl,h1,L1,h2,fold_step em h3 (insF_hit h5)⟩⟩
 ·cases h
theorem RefA.no {s:State} {e:Edit} {j:Nat} {L:Lvs} (h:RefA s e j L false):applyO s e=none:=by
 rcases h.out with ⟨h,_⟩ | ⟨_,h⟩
 ·cases h
 ·exact h
noncomputable def eqGenS (a b:State):Bool:=B (((List.range 5).map fun i=>Value.int .u64 (a.gens i))=(List.range 5).map fun i=>Value.int .u64 (b.gens i))
theorem eqGenS_iff {a b:State}:eqGenS a b=true↔((List.range 5).map fun i=>Value.int .u64 (a.gens i))=(List.range 5).map fun i=>Value.int .u64 (b.gens i):=B_iff
noncomputable def sameS (a b:State):Bool:=B (∀ i,i<5→sameM (a.lv i) (b.lv i)=true)&&((((a.log == b.log)&&(a.next == b.next))&&(a.seq == b.seq))&&eqGenS a b)
theorem sameS_no {a b:State} {i:Nat} (hi:i<5) (h:sameM (a.lv i) (b.lv i)=false):sameS a b=false:=by
 unfold sameS
 rw [show B (∀ i,i<5→sameM (a.lv i) (b.lv i)=true)=false from B_false fun hc=>by have:=hc i hi; rw [h] at this; cases this]; rfl
theorem sameS_yes {a b:State} (h:∀ i,i<5→sameM (a.lv i) (b.lv i)=true):sameS a b=((((a.log == b.log)&&(a.next == b.next))&&(a.seq == b.seq))&&eqGenS a b):=by
 unfold sameS
 rw [show B (∀ i,i<5→sameM (a.lv i) (b.lv i)=true)=true from B_true h]; rfl
theorem sameS_of {a b:State} (h:EqS a b):sameS a b=true:=by
 rw [sameS_yes fun i hi=>by rw [h.lv i hi]; exact sameM_refl _,h.log,h.next,h.seq,show eqGenS a b=true from B_true (by rw [h.gens])]
 simp
theorem EqS.trans {X Y Z:State} (h:EqS X Y) (h':EqS Y Z):EqS X Z:=⟨fun i hi=>(h.lv i hi).trans (h'.lv i hi),h.log.trans h'.log,h.next.trans h'.next,h.seq.trans h'.seq,h.least.trans h'.least,h.gens.trans h'.gens⟩
def StW (s:State):Prop:=(u64 s.log∧u64 s.next∧u64 s.seq∧u64 s.least)∧∀ i,i<5→u64 (s.gens i)
theorem gensS_conf {s:State} (h:∀ i,i<5→u64 (s.gens i)):Conf gensKs ((List.range 5).map fun i=>Value.int .u64 (s.gens i)):=by
 have:=Conf.rep (k:=.int .u64) (f:=fun i=>Value.int .u64 (s.gens i)) (List.range 5) (fun i hi=>by
  have hr:=h i (List.mem_range.1 hi)
  unfold u64 at hr
  refine .int ?_ ?_
  all_goals (simp only [IntKind.min,IntKind.max,IntKind.bits,IntKind.signed]; simp; omega))
 rw [List.length_range] at this
 exact this
theorem StW.zero:∀ i,i<5→u64 (State.zero.gens i):=fun _ _=>⟨show (0:Int)≤0 by decide,show (0:Int)<18446744073709551616 by decide⟩
theorem AppR.gens {s:State} {e:Edit} {X:State} {r:Int} (h:AppR s e X r) (hw:e.wf):∀ i,i<5→u64 (X.gens i):=by
 rcases h with ⟨_,_,rfl⟩ | ⟨_,_,_,rfl⟩ | ⟨_,_,Y,h1,h2⟩
 ·exact StW.zero
 ·exact StW.zero
 ·rw [h2.gens]
  unfold applyO at h1
  split at h1
  ·cases hd:foldO dropF e.drop s.lv with
   | none=>rw [hd] at h1; cases h1
   | some L1 =>
    rw [hd] at h1
    simp only [Option.bind_some] at h1
    cases ha:foldO addF e.add L1 with
    | none=>rw [ha] at h1; cases h1
    | some L2 =>
     rw [ha] at h1
     simp only [Option.bind_some] at h1
     unfold chk at h1
     split at h1
     ·cases h1; exact hw.gens
     ·cases h1
  ·cases h1
theorem applyO_inv {s:State} {e:Edit} {Y:State} (h:applyO s e=some Y):okB s e=true∧rightS Y=true∧∃ L1 L2,foldO dropF e.drop s.lv=some L1∧foldO addF e.add L1=some L2∧Y=mkX e (srtL L2):=by
 unfold applyO at h
 split at h
 ·rename_i hk
  cases hd:foldO dropF e.drop s.lv with
  | none=>rw [hd] at h; cases h
  | some L1 =>
   rw [hd] at h
   simp only [Option.bind_some] at h
   cases ha:foldO addF e.add L1 with
   | none=>rw [ha] at h; cases h
   | some L2 =>
    rw [ha] at h
    simp only [Option.bind_some] at h
    unfold chk at h
    split at h
    ·rename_i hr
     cases h
     exact ⟨hk,hr,L1,L2,rfl,ha,rfl⟩
    ·cases h
 ·cases h
theorem AppR.len {s:State} {e:Edit} {X:State} {r:Int} (h:AppR s e X r) {i:Nat} (hi:i<5):(X.lv i).length≤1024:=by
 rcases h with ⟨_,_,rfl⟩ | ⟨_,_,_,rfl⟩ | ⟨_,_,Y,h1,h2⟩
 ·exact Nat.zero_le _
 ·exact Nat.zero_le _
 ·rw [h2.lv i hi]
  have h3:=(rightP_of (applyO_inv h1).2.1).few
  have h4:=lv_tot Y hi
  omega
def pieceN (r:List Y):Nat:=(r.getD 4 0).toNat+256*(r.getD 5 0).toNat
def wrongP (kind:Y) (n:Nat) (begun:Bool):Bool :=
 if kind=1#8 then begun else if kind=2#8 then begun||decide (n<128) else if kind=3#8 then !begun||decide (n<128) else if kind=4#8 then !begun else true
def readL (op:Nat→List Y→Option (List Y)) (tot:Nat) (r parts:List Y) (recs:List (List Y)) (used:Nat):Option (List (List Y)×Nat) :=
 if h7:r.length<7 then some (recs,used)
 else if pieceN r=0∨128<pieceN r then none
 else if h:r.length<7+pieceN r then some (recs,used)
 else if frameL (r.getD 6 0) ((r.drop 7).take (pieceN r))≠r.take 7∨wrongP (r.getD 6 0) (pieceN r) (!parts.isEmpty)=true then none
 else if r.getD 6 0=1#8∨r.getD 6 0=4#8 then
  match op recs.length (parts++(r.drop 7).take (pieceN r)) with
  | none=>none
  | some x=>readL op tot (r.drop (7+pieceN r)) [] (recs++[x]) (tot-(r.drop (7+pieceN r)).length)
 else readL op tot (r.drop (7+pieceN r)) (parts++(r.drop 7).take (pieceN r)) recs used
termination_by r.length
decreasing_by all_goals (simp only [List.length_drop]; omega)
section
variable {op:Nat→List Y→Option (List Y)} {tot:Nat} {r parts:List Y} {recs:List (List Y)} {used:Nat}
theorem rd_short (h:r.length<7):readL op tot r parts recs used=some (recs,used):=by rw [readL,dif_pos h]
theorem rd_bad (h:¬ r.length<7) (hn:pieceN r=0∨128<pieceN r):readL op tot r parts recs used=none:=by rw [readL,dif_neg h,if_pos hn]
theorem rd_torn (h:¬ r.length<7) (hn:¬ (pieceN r=0∨128<pieceN r)) (ht:r.length<7+pieceN r):readL op tot r parts recs used=some (recs,used):=by rw [readL,dif_neg h,if_neg hn,dif_pos ht]
theorem rd_no (h:¬ r.length<7) (hn:¬ (pieceN r=0∨128<pieceN r)) (ht:¬ r.length<7+pieceN r) (hf:frameL (r.getD 6 0) ((r.drop 7).take (pieceN r))≠r.take 7∨wrongP (r.getD 6 0) (pieceN r) (!parts.isEmpty)=true):readL op tot r parts recs used=none:=by
 rw [readL,dif_neg h,if_neg hn,dif_neg ht,if_pos hf]
theorem rd_go (h:¬ r.length<7) (hn:¬ (pieceN r=0∨128<pieceN r)) (ht:¬ r.length<7+pieceN r) (hf:¬ (frameL (r.getD 6 0) ((r.drop 7).take (pieceN r))≠r.take 7∨wrongP (r.getD 6 0) (pieceN r) (!parts.isEmpty)=true)) (hk:¬ (r.getD 6 0=1#8∨r.getD 6 0=4#8)) :
  readL op tot r parts recs used=readL op tot (r.drop (7+pieceN r)) (parts++(r.drop 7).take (pieceN r)) recs used:=by
 conv=>lhs; rw [readL,dif_neg h,if_neg hn,dif_neg ht,if_neg hf,if_neg hk]
theorem rd_rec {x:List Y} (h:¬ r.length<7) (hn:¬ (pieceN r=0∨128<pieceN r)) (ht:¬ r.length<7+pieceN r) (hf:¬ (frameL (r.getD 6 0) ((r.drop 7).take (pieceN r))≠r.take 7∨wrongP (r.getD 6 0) (pieceN r) (!parts.isEmpty)=true)) (hk:r.getD 6 0=1#8∨r.getD 6 0=4#8) (hx:op recs.length (parts++(r.drop 7).take (pieceN r))=some x) :
  readL op tot r parts recs used=readL op tot (r.drop (7+pieceN r)) [] (recs++[x]) (tot-(r.drop (7+pieceN r)).length):=by
 conv=>lhs; rw [readL,dif_neg h,if_neg hn,dif_neg ht,if_neg hf,if_pos hk,hx]
theorem rd_shut (h:¬ r.length<7) (hn:¬ (pieceN r=0∨128<pieceN r)) (ht:¬ r.length<7+pieceN r) (hf:¬ (frameL (r.getD 6 0) ((r.drop 7).take (pieceN r))≠r.take 7∨wrongP (r.getD 6 0) (pieceN r) (!parts.isEmpty)=true)) (hk:r.getD 6 0=1#8∨r.getD 6 0=4#8) (hx:op recs.length (parts++(r.drop 7).take (pieceN r))=none) :
  readL op tot r parts recs used=none:=by
 rw [readL,dif_neg h,if_neg hn,dif_neg ht,if_neg hf,if_pos hk,hx]
theorem fix_at {n:BitVec 64} {m j:Nat} (h:j<m):(fixL n m)[j]? = some ((n >>> (8*j)).setWidth 8):=by simp [fixL,h]
theorem frame_at4 (kind:Y) (p:List Y):(frameL kind p)[4]? = some ((BitVec.ofInt 64 (p.length:Int)).setWidth 8):=by
 unfold frameL
 rw [List.append_assoc,List.getElem?_append_right (by simp [fix_len]),fix_len,List.getElem?_append_left (by simp [fix_len]),fix_at (by decide)]; simp
theorem frame_at5 (kind:Y) (p:List Y):(frameL kind p)[5]? = some ((BitVec.ofInt 64 (p.length:Int) >>> 8).setWidth 8):=by
 unfold frameL
 rw [List.append_assoc,List.getElem?_append_right (by simp [fix_len]),fix_len,List.getElem?_append_left (by simp [fix_len]),fix_at (by decide)]
theorem frame_at6 (kind:Y) (p:List Y):(frameL kind p)[6]? = some kind:=by
 unfold frameL
 rw [List.getElem?_append_right (by simp [fix_len])]; simp [fix_len]
theorem getD_of {xs:List Y} {j:Nat} {y:Y} (h:xs[j]? = some y):xs.getD j 0=y:=by rw [List.getD_eq_getElem?_getD,h]; rfl
theorem pieceN_of {r:List Y} {kind:Y} {p:List Y} (h4:r[4]? = (frameL kind p)[4]?) (h5:r[5]? = (frameL kind p)[5]?) (hp:p.length≤128):pieceN r=p.length:=by
 unfold pieceN
 rw [frame_at4] at h4
 rw [frame_at5] at h5
 rw [getD_of h4,getD_of h5]
 have e:BitVec.ofInt 64 (p.length:Int)=BitVec.ofNat 64 p.length:=by simp
 rw [e]
 simp only [BitVec.toNat_setWidth,BitVec.toNat_ushiftRight,BitVec.toNat_ofNat,Nat.shiftRight_eq_div_pow]
 omega
theorem pieceN_app {kind:Y} {p t:List Y} (hp:p.length≤128):pieceN (frameL kind p++p++t)=p.length :=
 pieceN_of (kind:=kind) (p:=p) (by rw [List.append_assoc,List.getElem?_append_left (by rw [frame_len]; decide)]) (by rw [List.append_assoc,List.getElem?_append_left (by rw [frame_len]; decide)]) hp
theorem kind_app {kind:Y} {p t:List Y}:(frameL kind p++p++t).getD 6 0=kind :=
 getD_of (by rw [List.append_assoc,List.getElem?_append_left (by rw [frame_len]; decide),frame_at6])
theorem take_app7 {kind:Y} {p t:List Y}:(frameL kind p++p++t).take 7=frameL kind p:=by
 rw [List.append_assoc,List.take_left' (frame_len _ _)]
theorem text_app {kind:Y} {p t:List Y}:((frameL kind p++p++t).drop 7).take p.length=p:=by
 rw [List.append_assoc,List.drop_left' (frame_len _ _),List.take_left]
theorem drop_app {kind:Y} {p t:List Y}:(frameL kind p++p++t).drop (7+p.length)=t:=by
 rw [List.drop_left' (by rw [List.length_append,frame_len])]
theorem go_app {kind:Y} {p t:List Y} (hp:p.length≤128) (h0:0<p.length) (hw:wrongP kind p.length (!parts.isEmpty)=false) (hk:¬ (kind=1#8∨kind=4#8)) :
  readL op tot (frameL kind p++p++t) parts recs used=readL op tot t (parts++p) recs used:=by
 have hN:=pieceN_app (kind:=kind) (t:=t) hp
 have hl:(frameL kind p++p++t).length=7+p.length+t.length:=by rw [List.length_append,List.length_append,frame_len]
 have h:=rd_go (op:=op) (tot:=tot) (r:=frameL kind p++p++t) (parts:=parts) (recs:=recs) (used:=used) (by omega) (by omega) (by omega) (by rw [kind_app,hN,text_app,take_app7,hw]; simp) (by rw [kind_app]; exact hk)
 rw [hN,text_app,drop_app] at h
 exact h
theorem rec_app {kind:Y} {p t x:List Y} (hp:p.length≤128) (h0:0<p.length) (hw:wrongP kind p.length (!parts.isEmpty)=false) (hk:kind=1#8∨kind=4#8) (hx:op recs.length (parts++p)=some x) :
  readL op tot (frameL kind p++p++t) parts recs used=readL op tot t [] (recs++[x]) (tot-t.length):=by
 have hN:=pieceN_app (kind:=kind) (t:=t) hp
 have hl:(frameL kind p++p++t).length=7+p.length+t.length:=by rw [List.length_append,List.length_append,frame_len]
 have h:=rd_rec (op:=op) (tot:=tot) (r:=frameL kind p++p++t) (parts:=parts) (recs:=recs) (used:=used) (x:=x) (by omega) (by omega) (by omega) (by rw [kind_app,hN,text_app,take_app7,hw]; simp) (by rw [kind_app]; exact hk) (by rw [hN,text_app]; exact hx)
 rw [hN,drop_app] at h
 exact h
theorem torn_app {kind:Y} {p:List Y} {k:Nat} (hp:p.length≤128) (h0:0<p.length) (hk:k<7+p.length):readL op tot ((frameL kind p++p).take k) parts recs used=some (recs,used):=by
 have hl:((frameL kind p++p).take k).length=k:=by rw [List.length_take,List.length_append,frame_len]; omega
 by_cases h7:k<7
 ·exact rd_short (by omega)
 ·have hN:pieceN ((frameL kind p++p).take k)=p.length:=pieceN_of (kind:=kind) (p:=p)
   (by rw [List.getElem?_take,if_pos (by omega),List.getElem?_append_left (by rw [frame_len]; decide)]) (by rw [List.getElem?_take,if_pos (by omega),List.getElem?_append_left (by rw [frame_len]; decide)]) hp
  exact rd_torn (by omega) (by omega) (by omega)
end
def pcL (s:List Y) (j:Nat):List Y:=frameL (kindAt s.length j) ((s.drop (128*j)).take 128)++(s.drop (128*j)).take 128
def tlL (s:List Y):Nat→Nat→List Y
 | _,0=>[]
 | j,m+1=>pcL s j++tlL s (j+1) m
theorem out_tl (s:List Y):∀ (m j:Nat),outL s j++tlL s j m=outL s (j+m)
 | 0,j=>by simp [tlL]
 | m+1,j=>by
  have:=out_tl s m (j+1)
  rw [show j+(m+1)=j+1+m by omega,←this,tlL,pcL,outL]
  simp only [List.append_assoc]
theorem rec_tl (s:List Y):recL s=tlL s 0 ((s.length+127) / 128):=by
 have:=out_tl s ((s.length+127) / 128) 0
 rw [Nat.zero_add] at this
 unfold recL
 rw [← this]; rfl
theorem chunk_len (s:List Y) (j:Nat):((s.drop (128*j)).take 128).length=min 128 (s.length-128*j):=by rw [List.length_take,List.length_drop]
theorem pc_len (s:List Y) (j:Nat):(pcL s j).length=7+min 128 (s.length-128*j):=by rw [pcL,List.length_append,frame_len,chunk_len]
theorem chunk_app (s:List Y) (j:Nat):s.take (128*j)++(s.drop (128*j)).take 128=s.take (128*(j+1)):=by
 rw [show 128*(j+1)=128*j+128 by omega,List.take_add]
theorem begun_at {s:List Y} {j:Nat} (h:128*j<s.length):(!(s.take (128*j)).isEmpty)=decide (0<j):=by
 cases j with
 | zero=>simp
 | succ j =>
  have:(s.take (128*(j+1))).isEmpty=false:=by
   cases hq:s.take (128*(j+1)) with
   | nil =>
    have:=congrArg List.length hq
    rw [List.length_take,List.length_nil] at this
    omega
   | cons a l=>rfl
  rw [this]; simp
theorem right_at {n j m:Nat} (hj:128*j<n) (hm:m=min 128 (n-128*j)):wrongP (kindAt n j) m (decide (0<j))=false:=by
 unfold kindAt
 by_cases h0:j=0
 ·subst h0
  by_cases hn:n≤128
  ·rw [if_pos rfl,if_pos hn]; simp [wrongP]
  ·rw [if_pos rfl,if_neg hn]; simp [wrongP]; omega
 ·by_cases hn:n-128*j≤128
  ·rw [if_neg h0,if_pos hn]; simp [wrongP]; omega
  ·rw [if_neg h0,if_neg hn]; simp [wrongP]; omega
theorem kind_end {n j:Nat}:(kindAt n j=1#8∨kindAt n j=4#8)↔n-128*j≤128:=by
 unfold kindAt
 by_cases h0:j=0
 ·subst h0
  by_cases hn:n≤128
  ·rw [if_pos rfl,if_pos hn]; simp; omega
  ·rw [if_pos rfl,if_neg hn]; simp; omega
 ·by_cases hn:n-128*j≤128
  ·rw [if_neg h0,if_pos hn]; simp; omega
  ·rw [if_neg h0,if_neg hn]; simp; omega
section
variable {op:Nat→List Y→Option (List Y)} {tot:Nat} {recs:List (List Y)} {used:Nat} {s:List Y}
theorem read_tl {x t:List Y} (hx:op recs.length s=some x):∀ (m j:Nat),128*j<s.length→j+m=(s.length+127) / 128 →
  readL op tot (tlL s j m++t) (s.take (128*j)) recs used=readL op tot t [] (recs++[x]) (tot-t.length)
 | 0,j,h1,h2=>by omega
 | m+1,j,h1,h2=>by
  have hl:=chunk_len s j
  rw [tlL,pcL,List.append_assoc]
  by_cases hk:s.length-128*j≤128
  ·have hm:m=0:=by omega
   subst hm
   have:=rec_app (op:=op) (tot:=tot) (recs:=recs) (used:=used) (parts:=s.take (128*j)) (kind:=kindAt s.length j) (p:=(s.drop (128*j)).take 128) (t:=tlL s (j+1) 0++t) (x:=x)
    (by omega) (by omega) (by rw [begun_at h1]; exact right_at h1 hl) (kind_end.2 hk) (by rw [chunk_app,List.take_of_length_le (by omega)]; exact hx)
   rw [this]
   rfl
  ·have:=go_app (op:=op) (tot:=tot) (recs:=recs) (used:=used) (parts:=s.take (128*j)) (kind:=kindAt s.length j) (p:=(s.drop (128*j)).take 128) (t:=tlL s (j+1) m++t)
    (by omega) (by omega) (by rw [begun_at h1]; exact right_at h1 hl) (fun h=>hk (kind_end.1 h))
   rw [this,chunk_app]
   exact read_tl hx m (j+1) (by omega) (by omega)
theorem read_rec {x t:List Y} (h0:0<s.length) (hx:op recs.length s=some x):readL op tot (recL s++t) [] recs used=readL op tot t [] (recs++[x]) (tot-t.length):=by
 rw [rec_tl]
 have:=read_tl (op:=op) (tot:=tot) (used:=used) (t:=t) hx ((s.length+127) / 128) 0 (by omega) (by omega)
 simpa using this
theorem cut_tl:∀ (m j k:Nat),128*j<s.length→j+m=(s.length+127) / 128→k<(tlL s j m).length →
  readL op tot ((tlL s j m).take k) (s.take (128*j)) recs used=some (recs,used)
 | 0,j,k,h1,h2,h3=>by simp [tlL] at h3
 | m+1,j,k,h1,h2,h3=>by
  have hl:=chunk_len s j
  have hp:=pc_len s j
  rw [tlL,List.length_append] at h3
  rw [tlL]
  by_cases hk:k<(pcL s j).length
  ·rw [List.take_append_of_le_length (by omega),pcL]
   exact torn_app (by omega) (by omega) (by omega)
  have hm:¬ s.length-128*j≤128:=fun hc=>by
   have:m=0:=by omega
   subst this
   simp [tlL] at h3; omega
  rw [List.take_append,List.take_of_length_le (by omega),pcL]
  have:=go_app (op:=op) (tot:=tot) (recs:=recs) (used:=used) (parts:=s.take (128*j)) (kind:=kindAt s.length j) (p:=(s.drop (128*j)).take 128) (t:=(tlL s (j+1) m).take (k-(pcL s j).length))
   (by omega) (by omega) (by rw [begun_at h1]; exact right_at h1 hl) (fun h=>hm (kind_end.1 h))
  rw [pcL] at this
  rw [this,chunk_app]
  refine cut_tl m (j+1) _ (by omega) (by omega) ?_
  rw [← pcL]; omega
theorem cut_rec {k:Nat} (hk:k<(recL s).length):readL op tot ((recL s).take k) [] recs used=some (recs,used):=by
 rw [rec_tl] at hk ⊢
 have h0:0<s.length:=by
  by_cases h:s.length=0
  ·rw [h] at hk; simp [tlL] at hk
  ·omega
 have:=cut_tl (op:=op) (tot:=tot) (recs:=recs) (used:=used) ((s.length+127) / 128) 0 k (by omega) (by omega) hk
 simpa using this
end
def bodyL (sl:Nat→List Y→List Y):Nat→List (List Y)→List Y
 | _,[]=>[]
 | i,p :: ps=>recL (sl i p)++bodyL sl (i+1) ps
theorem body_app (sl:Nat→List Y→List Y):∀ (ps qs:List (List Y)) (i:Nat),bodyL sl i (ps++qs)=bodyL sl i ps++bodyL sl (i+ps.length) qs
 | [],qs,i=>by simp [bodyL]
 | p :: ps,qs,i=>by
  rw [List.cons_append,bodyL,bodyL,body_app sl ps qs (i+1),List.append_assoc,List.length_cons,show i+1+ps.length=i+(ps.length+1) by omega]
def endL (sl:Nat→List Y→List Y) (i:Nat) (rs:List (List Y)) (n:Nat):Nat:=(bodyL sl i (rs.take n)).length
theorem end_zero (sl:Nat→List Y→List Y) (i:Nat) (rs:List (List Y)):endL sl i rs 0=0:=by simp [endL,bodyL]
theorem end_cons (sl:Nat→List Y→List Y) (i:Nat) (p:List Y) (rs:List (List Y)) (n:Nat):endL sl i (p :: rs) (n+1)=(recL (sl i p)).length+endL sl (i+1) rs n:=by simp [endL,bodyL]
theorem end_all (sl:Nat→List Y→List Y) (i:Nat) (rs:List (List Y)):endL sl i rs rs.length=(bodyL sl i rs).length:=by simp [endL]
theorem end_mono (sl:Nat→List Y→List Y) (i:Nat) (rs:List (List Y)) {m n:Nat} (h:m≤n):endL sl i rs m≤endL sl i rs n:=by
 unfold endL
 have:rs.take n=rs.take m++(rs.take n).drop m:=by
  have:=List.take_append_drop m (rs.take n)
  rw [List.take_take,Nat.min_eq_left h] at this
  exact this.symm
 rw [this,body_app,List.length_append]; omega
theorem read_cut {op:Nat→List Y→Option (List Y)} {sl:Nat→List Y→List Y} {tot:Nat}:∀ (rs:List (List Y)) (recs:List (List Y)) (base k i:Nat),(∀ j p,rs[j]? = some p→op (i+j) (sl (i+j) p)=some p∧0<(sl (i+j) p).length) →
  recs.length=i→k≤(bodyL sl i rs).length→tot=base+k →
  ∃ n,n≤rs.length∧endL sl i rs n≤k∧(n<rs.length→k<endL sl i rs (n+1))∧readL op tot ((bodyL sl i rs).take k) [] recs base=some (recs++rs.take n,base+endL sl i rs n)
 | [],recs,base,k,i,_,hi,hk,ht=>by
  refine ⟨0,Nat.le_refl _,by rw [end_zero]; exact Nat.zero_le _,fun h=>absurd h (by simp),?_⟩
  rw [end_zero]
  simp only [bodyL,List.take_nil]
  rw [rd_short (by simp)]; simp
 | p :: rs,recs,base,k,i,ho,hi,hk,ht=>by
  obtain ⟨hop,hpos⟩:=ho 0 p rfl
  rw [Nat.add_zero] at hop hpos
  have hlen:(bodyL sl i (p :: rs)).length=(recL (sl i p)).length+(bodyL sl (i+1) rs).length:=by rw [bodyL,List.length_append]
  rw [bodyL]
  by_cases hlt:k<(recL (sl i p)).length
  ·refine ⟨0,Nat.zero_le _,by rw [end_zero]; exact Nat.zero_le _,fun _=>by rw [Nat.zero_add,end_cons,end_zero]; exact hlt,?_⟩
   rw [List.take_append_of_le_length (by omega),cut_rec hlt,end_zero]; simp
  rw [List.take_append,List.take_of_length_le (by omega),read_rec (x:=p) hpos (by rw [hi]; exact hop)]
  have hl2:((bodyL sl (i+1) rs).take (k-(recL (sl i p)).length)).length=k-(recL (sl i p)).length:=by rw [List.length_take]; omega
  rw [hl2]
  obtain ⟨n,h1,h2,h3,h4⟩:=read_cut (op:=op) (sl:=sl) (tot:=tot) rs (recs++[p]) (base+(recL (sl i p)).length) (k-(recL (sl i p)).length) (i+1)
   (fun j q hq=>by have:=ho (j+1) q hq; rwa [show i+(j+1)=i+1+j by omega] at this) (by simp [hi]) (by omega) (by omega)
  refine ⟨n+1,by simp; omega,by rw [end_cons]; omega,fun h=>?_,?_⟩
  ·have:=h3 (by simpa using h)
   rw [end_cons]; omega
  rw [show tot-(k-(recL (sl i p)).length)=base+(recL (sl i p)).length by omega,h4,end_cons]
  simp [List.append_assoc,Nat.add_assoc]
section
variable {op:Nat→List Y→Option (List Y)} {tot:Nat} {recs:List (List Y)} {used:Nat} {s:List Y}
end
structure LogV where
 hd:Hd
 recs:List (List Y)
 used:Nat
 torn:Bool
def openAt (root:Nat→Y) (h:Hd) (i:Nat) (s:List Y):Option (List Y):=openL (keyEnc root (headL h)) (keyMac root (headL h)) (nonceF (BitVec.ofInt 64 (i:Int))) (headL h) s
def sealAt (root:Nat→Y) (h:Hd) (i:Nat) (p:List Y):List Y:=sealL (keyEnc root (headL h)) (keyMac root (headL h)) (nonceF (BitVec.ofInt 64 (i:Int))) (headL h) p
def bodyR (root:Nat→Y) (h:Hd) (xs:List Y):Option (List (List Y)×Nat):=readL (openAt root h) xs.length (xs.drop 30) [] [] 30
def readP (root:Nat→Y) (xs:List Y):LogV×Int :=
 if xs.length<30 then (⟨Hd.zero,[],0,true⟩,0)
 else if (takeH xs).2≠0 then (⟨Hd.zero,[],0,false⟩,(takeH xs).2)
 else match bodyR root (takeH xs).1 xs with
  | none=>(⟨Hd.zero,[],0,false⟩,160)
  | some (recs,used)=>(⟨(takeH xs).1,recs,used,decide (used<xs.length)⟩,0)
theorem read_short {root:Nat→Y} {xs:List Y} (h:xs.length<30):readP root xs=(⟨Hd.zero,[],0,true⟩,0):=by unfold readP; rw [if_pos h]
theorem read_head {root:Nat→Y} {xs:List Y} (h:¬ xs.length<30) (he:(takeH xs).2≠0):readP root xs=(⟨Hd.zero,[],0,false⟩,(takeH xs).2):=by unfold readP; rw [if_neg h,if_pos he]
theorem read_none {root:Nat→Y} {xs:List Y} (h:¬ xs.length<30) (he:(takeH xs).2=0) (hb:bodyR root (takeH xs).1 xs=none):readP root xs=(⟨Hd.zero,[],0,false⟩,160):=by unfold readP; rw [if_neg h,if_neg (fun k=>k he),hb]
theorem read_some {root:Nat→Y} {xs:List Y} {recs:List (List Y)} {used:Nat} (h:¬ xs.length<30) (he:(takeH xs).2=0) (hb:bodyR root (takeH xs).1 xs=some (recs,used)):readP root xs=(⟨(takeH xs).1,recs,used,decide (used<xs.length)⟩,0):=by unfold readP; rw [if_neg h,if_neg (fun k=>k he),hb]
theorem unf_fix (n:BitVec 64) (t:List Y):unfK (fixL n 8++t) 8=n:=by
 have key:∀ k,k≤8→∀ i,i<64→(unfK (fixL n 8++t) k).getLsbD i=(decide (i<8*k)&&n.getLsbD i):=by
  intro k
  induction k with
  | zero=>intro _ i _; simp [unfK]
  | succ k ih =>
   intro hk i hi
   have hg:(fixL n 8++t).getD k 0=(n >>> (8*k)).setWidth 8:=getD_of (by rw [List.getElem?_append_left (by rw [fix_len]; omega),fix_at (by omega)])
   rw [unfK,BitVec.getLsbD_or,ih (by omega) i hi,hg]
   simp only [BitVec.getLsbD_shiftLeft,BitVec.getLsbD_setWidth,BitVec.getLsbD_ushiftRight,hi,decide_true,Bool.true_and]
   by_cases h1:i<8*k
   ·simp [h1,show i<8*(k+1) by omega]
   ·by_cases h2:i<8*(k+1)
    ·simp [h1,h2,show i-8*k<8 by omega,show i-8*k<64 by omega,show 8*k+(i-8*k)=i by omega]
    ·simp [h1,h2,show ¬ i-8*k<8 by omega]
 apply BitVec.eq_of_getLsbD_eq
 intro i hi
 rw [key 8 (Nat.le_refl _) i hi]
 simp [hi]
theorem head_back (h:Hd) (t:List Y):headOf (headL h++t)=h:=by
 have e:headL h++t=[116#8,97#8,110#8,116#8,h.kind,h.level]++(fixL h.gen 8++(fixL h.epoch 8++(fixL h.num 8++t))):=by simp [headL]
 have d6:(headL h++t).drop 6=fixL h.gen 8++(fixL h.epoch 8++(fixL h.num 8++t)):=by rw [e]; rfl
 have d14:(headL h++t).drop 14=fixL h.epoch 8++(fixL h.num 8++t):=by
  rw [show 14=6+8 by rfl,←List.drop_drop,d6,List.drop_left' (fix_len _ _)]
 have d22:(headL h++t).drop 22=fixL h.num 8++t:=by
  rw [show 22=14+8 by rfl,←List.drop_drop,d14,List.drop_left' (fix_len _ _)]
 unfold headOf
 rw [d6,d14,d22,unf_fix,unf_fix,unf_fix]
 rw [e]
 rfl
theorem take_head (h:Hd) (t:List Y):takeH (headL h++t)=if h.right=true then (h,0) else (Hd.zero,70):=by
 have hl:¬ (headL h++t).length<30:=by rw [List.length_append,head_len]; omega
 have h4:(headL h++t).take 4=[116#8,97#8,110#8,116#8]:=by simp [headL]
 unfold takeH
 rw [if_neg hl,head_back,h4]
 simp
theorem seal_at_ok (root:Nat→Y) (h:Hd) (i:Nat) (p:List Y):openAt root h i (sealAt root h i p)=some p∧0<(sealAt root h i p).length:=by
 refine ⟨open_seal _ _ _ _ _,?_⟩
 rw [sealAt,seal_len]; omega
def logL (root:Nat→Y) (h:Hd) (rs:List (List Y)):List Y:=headL h++bodyL (sealAt root h) 0 rs
theorem log_cut {root:Nat→Y} {h:Hd} (rs:List (List Y)) {k:Nat} (hr:h.right=true) (h30:30≤k) (hk:k≤(logL root h rs).length) :
  ∃ n,n≤rs.length∧30+endL (sealAt root h) 0 rs n≤k∧(n<rs.length→k<30+endL (sealAt root h) 0 rs (n+1)) ∧
   readP root ((logL root h rs).take k)=(⟨h,rs.take n,30+endL (sealAt root h) 0 rs n,decide (30+endL (sealAt root h) 0 rs n<k)⟩,0):=by
 have hlen:(logL root h rs).length=30+(bodyL (sealAt root h) 0 rs).length:=by rw [logL,List.length_append,head_len]
 have e:(logL root h rs).take k=headL h++(bodyL (sealAt root h) 0 rs).take (k-30):=by
  rw [logL,List.take_append,List.take_of_length_le (by rw [head_len]; exact h30),head_len]
 have hl:((logL root h rs).take k).length=k:=by rw [List.length_take]; omega
 obtain ⟨n,h1,h2,h3,h4⟩:=read_cut (op:=openAt root h) (sl:=sealAt root h) (tot:=k) rs [] 30 (k-30) 0 (fun j p _=>seal_at_ok root h _ p) rfl (by omega) (by omega)
 refine ⟨n,h1,by omega,fun hn=>by have:=h3 hn; omega,?_⟩
 have ht:takeH ((logL root h rs).take k)=(h,0):=by rw [e,take_head,if_pos hr]
 have hb:bodyR root (takeH ((logL root h rs).take k)).1 ((logL root h rs).take k)=some (rs.take n,30+endL (sealAt root h) 0 rs n):=by
  unfold bodyR
  rw [hl,ht,e,List.drop_left' (head_len h)]
  simpa using h4
 rw [read_some (by omega) (by rw [ht]) hb,ht,hl]
theorem log_back {root:Nat→Y} {h:Hd} (rs:List (List Y)) (hr:h.right=true):readP root (logL root h rs)=(⟨h,rs,(logL root h rs).length,false⟩,0):=by
 have hlen:(logL root h rs).length=30+(bodyL (sealAt root h) 0 rs).length:=by rw [logL,List.length_append,head_len]
 obtain ⟨n,h1,h2,h3,h4⟩:=log_cut (root:=root) (h:=h) rs (k:=(logL root h rs).length) hr (by omega) (Nat.le_refl _)
 have hn:n=rs.length:=by
  rcases Nat.lt_or_ge n rs.length with hlt | hge
  ·have:=h3 hlt
   have:=end_mono (sealAt root h) 0 rs (show n+1≤rs.length by omega)
   rw [end_all] at this
   omega
  ·omega
 rw [List.take_length,hn,List.take_length,end_all,←hlen] at h4
 rw [h4]; simp
theorem log_wrong {root:Nat→Y} {h:Hd} (rs:List (List Y)) (hr:h.right=false):readP root (logL root h rs)=(⟨Hd.zero,[],0,false⟩,70):=by
 have hlen:(logL root h rs).length=30+(bodyL (sealAt root h) 0 rs).length:=by rw [logL,List.length_append,head_len]
 have ht:takeH (logL root h rs)=(Hd.zero,70):=by rw [logL,take_head,hr]; rfl
 rw [read_head (by omega) (by rw [ht]; decide),ht]
def rdC (enc mac:Nat→Y) (va:Value) (h:Hd) (vr:Value) (used:Int) (torn:Bool) (vp:Value):List Value :=
 ba 32 enc++ba 32 mac++[va,V h.kind,V h.level,uv .u64 h.gen,uv .u64 h.epoch,uv .u64 h.num,vr,.int .i64 used,.bool torn,vp]
section
variable {enc mac:Nat→Y} {va vr vp v:Value} {h:Hd} {used u:Int} {torn b:Bool}
theorem rdc_len:(rdC enc mac va h vr used torn vp).length=74:=by simp [rdC,ba_len]
theorem k64:(ba 32 enc++ba 32 mac).length=64:=key_len enc mac
theorem rdc_key:((rdC enc mac va h vr used torn vp).drop 0).take 64=ba 32 enc++ba 32 mac:=by rw [rdC,List.drop_zero,List.take_left' k64]
theorem rdc_ad:(rdC enc mac va h vr used torn vp)[64]? = some va:=by rw [rdC,List.getElem?_append_right (by rw [k64]; decide),k64]; rfl
theorem rdc_rec:(rdC enc mac va h vr used torn vp)[70]? = some vr:=by rw [rdC,List.getElem?_append_right (by rw [k64]; decide),k64]; rfl
theorem rdc_used:(rdC enc mac va h vr used torn vp)[71]? = some (.int .i64 used):=by rw [rdC,List.getElem?_append_right (by rw [k64]; decide),k64]; rfl
theorem rdc_parts:(rdC enc mac va h vr used torn vp)[73]? = some vp:=by rw [rdC,List.getElem?_append_right (by rw [k64]; decide),k64]; rfl
theorem rds_rec:(rdC enc mac va h vr used torn vp).set 70 v=rdC enc mac va h v used torn vp:=by rw [rdC,List.set_append_right _ _ (by rw [k64]; decide),k64]; rfl
theorem rds_used:(rdC enc mac va h vr used torn vp).set 71 (.int .i64 u)=rdC enc mac va h vr u torn vp:=by rw [rdC,List.set_append_right _ _ (by rw [k64]; decide),k64]; rfl
theorem rds_torn:(rdC enc mac va h vr used torn vp).set 72 (.bool b)=rdC enc mac va h vr used b vp:=by rw [rdC,List.set_append_right _ _ (by rw [k64]; decide),k64]; rfl
theorem rds_parts:(rdC enc mac va h vr used torn vp).set 73 v=rdC enc mac va h vr used torn v:=by rw [rdC,List.set_append_right _ _ (by rw [k64]; decide),k64]; rfl
theorem rdc_log:((rdC enc mac va h vr used torn vp).drop 65).take 8=[V h.kind,V h.level,uv .u64 h.gen,uv .u64 h.epoch,uv .u64 h.num,vr,.int .i64 used,.bool torn]:=by
 rw [rdC,List.drop_append,List.drop_of_length_le (by rw [k64]; decide),k64]; rfl
theorem rdc_one (h1:va.oneCell'=true) (h2:vr.oneCell'=true) (h3:vp.oneCell'=true):∀ u∈rdC enc mac va h vr used torn vp,u.oneCell'=true:=by
 intro u hu
 rcases List.mem_append.1 hu with hu | hu
 ·exact key_one _ _ u hu
 ·simp only [List.mem_cons,List.not_mem_nil,or_false] at hu
  rcases hu with rfl|rfl|rfl|rfl|rfl|rfl|rfl|rfl|rfl|rfl<;>first|assumption|rfl
end
theorem rd_build {zs A B Z:List Value} {v w:Value} (hz:zs=A++(Z++[w])) (hA:A.length=64) (hZ:Z.length=9) (f g:Nat→Y) (hB:B.length=8):put (put (put zs 0 (ba 32 f++ba 32 g)) 64 [v]) 65 B=ba 32 f++ba 32 g++(v :: B++[w]):=by
 subst hz
 have h64:(ba 32 f++ba 32 g).length=64:=key_len f g
 have e1:put (A++(Z++[w])) 0 (ba 32 f++ba 32 g)=(ba 32 f++ba 32 g)++(Z++[w]):=by
  unfold put; rw [List.take_zero,List.nil_append,h64,Nat.zero_add,List.drop_left' hA]
 rw [e1]
 generalize hK:ba 32 f++ba 32 g=K at h64 ⊢
 obtain ⟨z,Z',rfl⟩ : ∃ z Z',Z=z :: Z':=by cases Z with | nil=>cases hZ | cons z Z'=>exact ⟨z,Z',rfl⟩
 have hZ':Z'.length=8:=by simpa using hZ
 have e2:put (K++(z :: Z'++[w])) 64 [v]=K++(v :: Z'++[w]):=by
  unfold put
  rw [List.take_left' h64,List.drop_append,List.drop_of_length_le (by omega),h64]
  simp
 rw [e2]
 have e3:put (K++(v :: Z'++[w])) 65 B=K++(v :: B++[w]):=by
  unfold put
  have hv:K++(v :: Z'++[w])=(K++[v])++(Z'++[w]):=by simp
  have h65:(K++[v]).length=65:=by simp [h64]
  rw [hv,List.take_left' h65,List.drop_append,List.drop_of_length_le (by omega),h65,hB,List.drop_left' (by omega)]
  simp
 exact e3
theorem rd_built {zs A B:List Value} {v w z0 z1 z2 z3 z4 z5 z6 z7 z8:Value} (hz:zs=A++[z0,z1,z2,z3,z4,z5,z6,z7,z8,w]) (hA:A.length=64) (f g:Nat→Y) (hB:B.length=8):put (put (put zs 0 (ba 32 f++ba 32 g)) 64 [v]) 65 B=ba 32 f++ba 32 g++(v :: B++[w]) :=
 rd_build (Z:=[z0,z1,z2,z3,z4,z5,z6,z7,z8]) hz hA rfl f g hB
theorem rd_ok {zs A B:List Value} {v:Value} (hz:zs.length=74) (hA:A.length=64) (hB:B.length=8):bOk zs.length [(0,64),(64,1),(65,8)] [A,[v],B]=true:=by
 simp [bOk,hz,hA,hB]
theorem rdz_len {f g:Nat→Y} {z0 z1 z2 z3 z4 z5 z6 z7 z8 w:Value}:(ba 32 f++ba 32 g++[z0,z1,z2,z3,z4,z5,z6,z7,z8,w]).length=74:=by
 rw [List.length_append,key_len]; rfl
def takeS (op:Nat→List Y→Option (List Y)) (parts:List Y) (recs:List (List Y)) (kind:Y) (p:List Y):Option (List Y×List (List Y)) :=
 if wrongP kind p.length (!parts.isEmpty)=true then none
 else if kind=1#8∨kind=4#8 then (op recs.length (parts++p)).map (fun x=>([],recs++[x]))
 else some (parts++p,recs)
theorem rd_take {op:Nat→List Y→Option (List Y)} {tot:Nat} {r parts p:List Y} {recs:List (List Y)} {used n:Nat} (h:¬ r.length<7) (en:n=pieceN r) (hn:¬ (n=0∨128<n)) (ht:¬ r.length<7+n) (ep:p=(r.drop 7).take n) (hf:frameL (r.getD 6 0) p=r.take 7) :
  readL op tot r parts recs used=match takeS op parts recs (r.getD 6 0) p with
   | none=>none
   | some (a,b)=>readL op tot (r.drop (7+n)) a b (if a.isEmpty then tot-(r.drop (7+n)).length else used):=by
 subst en; subst ep
 have hpl:((r.drop 7).take (pieceN r)).length=pieceN r:=by rw [List.length_take,List.length_drop]; omega
 unfold takeS
 rw [hpl]
 by_cases hw:wrongP (r.getD 6 0) (pieceN r) (!parts.isEmpty)=true
 ·rw [if_pos hw,rd_no h hn ht (.inr hw)]
 ·rw [if_neg hw]
  have hc:¬ (frameL (r.getD 6 0) ((r.drop 7).take (pieceN r))≠r.take 7∨wrongP (r.getD 6 0) (pieceN r) (!parts.isEmpty)=true):=by
   rintro (h1 | h1)
   ·exact h1 hf
   ·exact hw h1
  by_cases hk:r.getD 6 0=1#8∨r.getD 6 0=4#8
  ·rw [if_pos hk]
   cases hx:op recs.length (parts++(r.drop 7).take (pieceN r)) with
   | none=>rw [rd_shut h hn ht hc hk hx]; rfl
   | some x=>rw [rd_rec h hn ht hc hk hx]; rfl
  ·rw [if_neg hk,rd_go h hn ht hc hk]
   have:(parts++(r.drop 7).take (pieceN r)).isEmpty=false:=by
    cases hq:parts++(r.drop 7).take (pieceN r) with
    | nil =>
     have:=congrArg List.length hq
     rw [List.length_append,hpl,List.length_nil] at this
     omega
    | cons a l=>rfl
   simp only [this]
   rfl
theorem emp_oa {G:PM} {s:Sh} {parts:List Y} (hs:SlR G 1 encY s parts) (h0:parts=[]→s=⟨none,0⟩):s.oa.isNone=parts.isEmpty:=by
 cases parts with
 | nil=>rw [h0 rfl]; rfl
 | cons a l=>rw [hs.there (by simp)]; rfl
theorem take_full {op:Nat→List Y→Option (List Y)} {parts p:List Y} {recs:List (List Y)} {kind:Y} (hk:kind=1#8) (hb:parts.isEmpty=false):takeS op parts recs kind p=none:=by
 subst hk; unfold takeS wrongP; simp [hb]
theorem take_first {op:Nat→List Y→Option (List Y)} {parts p:List Y} {recs:List (List Y)} {kind:Y} (hk:kind=2#8) (hb:parts.isEmpty=false∨p.length<128):takeS op parts recs kind p=none:=by
 subst hk; unfold takeS wrongP; rcases hb with hb | hb<;>simp [hb]
theorem take_mid {op:Nat→List Y→Option (List Y)} {parts p:List Y} {recs:List (List Y)} {kind:Y} (hk:kind=3#8) (hb:parts.isEmpty=true∨p.length<128):takeS op parts recs kind p=none:=by
 subst hk; unfold takeS wrongP; rcases hb with hb | hb<;>simp [hb]
theorem wtake_last {op:Nat→List Y→Option (List Y)} {parts p:List Y} {recs:List (List Y)} {kind:Y} (hk:kind=4#8) (hb:parts.isEmpty=true):takeS op parts recs kind p=none:=by
 subst hk; unfold takeS wrongP; simp [hb]
theorem take_other {op:Nat→List Y→Option (List Y)} {parts p:List Y} {recs:List (List Y)} {kind:Y} (h1:¬ kind=1#8) (h2:¬ kind=2#8) (h3:¬ kind=3#8) (h4:¬ kind=4#8):takeS op parts recs kind p=none:=by
 unfold takeS wrongP; simp [h1,h2,h3,h4]
theorem take_go {op:Nat→List Y→Option (List Y)} {parts p:List Y} {recs:List (List Y)} {kind:Y} (hk:kind=2#8∧parts.isEmpty=true∨kind=3#8∧parts.isEmpty=false) (hp:¬ p.length<128):takeS op parts recs kind p=some (parts++p,recs):=by
 rcases hk with ⟨rfl,hb⟩ | ⟨rfl,hb⟩<;>(unfold takeS wrongP; simp [hb,hp])
theorem take_end {op:Nat→List Y→Option (List Y)} {parts p:List Y} {recs:List (List Y)} {kind:Y} (hk:kind=1#8∧parts.isEmpty=true∨kind=4#8∧parts.isEmpty=false):takeS op parts recs kind p=(op recs.length (parts++p)).map (fun x=>([],recs++[x])):=by
 rcases hk with ⟨rfl,hb⟩ | ⟨rfl,hb⟩<;>(unfold takeS wrongP; simp [hb])
theorem byte_eq {x:Y} {n:Nat} (hn:n<256):((x.toNat:Int)=(n:Int))↔x=BitVec.ofNat 8 n:=by
 constructor
 ·intro h
  apply BitVec.eq_of_toNat_eq
  rw [BitVec.toNat_ofNat]; omega
 ·intro h; rw [h,BitVec.toNat_ofNat,Nat.mod_eq_of_lt (by omega)]
theorem rec_len (s:List Y):(recL s).length≤135*((s.length+127) / 128):=out_len s _
theorem log_len (root:Nat→Y) (h:Hd) (rs:List (List Y)) (k:Nat):(logL root h (rs.take k)).length=30+endL (sealAt root h) 0 rs k:=by rw [logL,List.length_append,head_len]; rfl
def endsL (root:Nat→Y) (h:Hd) (rs:List (List Y)) (k:Nat):List Nat:=(List.range k).map fun j=>30+endL (sealAt root h) 0 rs (j+1)
theorem ends_succ (root:Nat→Y) (h:Hd) (rs:List (List Y)) (k:Nat):endsL root h rs (k+1)=endsL root h rs k++[30+endL (sealAt root h) 0 rs (k+1)]:=by simp [endsL,List.range_succ]
theorem ends_len (root:Nat→Y) (h:Hd) (rs:List (List Y)) (k:Nat):(endsL root h rs k).length=k:=by simp [endsL]
theorem ends_at {root:Nat→Y} {h:Hd} {rs:List (List Y)} {k j x:Nat} (hx:(endsL root h rs k)[j]? = some x):x=30+endL (sealAt root h) 0 rs (j+1):=by
 have hj:j<k:=by have:=(List.getElem?_eq_some_iff.1 hx).1; rwa [ends_len] at this
 simp [endsL,hj] at hx
 exact hx.symm
theorem hd_ext {a b:Hd} (h:a.kind=b.kind∧a.level=b.level∧a.gen=b.gen∧a.epoch=b.epoch∧a.num=b.num):a=b:=by
 obtain ⟨a1,a2,a3,a4,a5⟩:=a
 obtain ⟨b1,b2,b3,b4,b5⟩:=b
 obtain ⟨h1,h2,h3,h4,h5⟩:=h
 simp only at h1 h2 h3 h4 h5
 subst h1 h2 h3 h4 h5
 rfl
instance:DecidableEq Hd:=fun a b=>decidable_of_iff (a.kind=b.kind∧a.level=b.level∧a.gen=b.gen∧a.epoch=b.epoch∧a.num=b.num) ⟨hd_ext,fun h=>by subst h; exact ⟨rfl,rfl,rfl,rfl,rfl⟩⟩
theorem map_at {ps:List (Sh×List Y)} {k:Nat} {p:Sh×List Y} (h:ps[k]? = some p):(ps.map (·.2))[k]? = some p.2:=by rw [List.getElem?_map,h]; rfl
theorem cut_same {root:Nat→Y} {h:Hd} {rs:List (List Y)} {k n n':Nat} (h1:n=0∨30+endL (sealAt root h) 0 rs n≤k) (h2:∀ j,n≤j→j<rs.length→k<30+endL (sealAt root h) 0 rs (j+1)) (hn:n≤rs.length)
  (h3:n'≤rs.length) (h4:30+endL (sealAt root h) 0 rs n'≤k) (h5:n'<rs.length→k<30+endL (sealAt root h) 0 rs (n'+1)):n=n':=by
 rcases Nat.lt_trichotomy n n' with hlt | he | hlt
 ·have:=h2 n (Nat.le_refl _) (by omega)
  have:=end_mono (sealAt root h) 0 rs (show n+1≤n' by omega)
  omega
 ·exact he
 ·have:=h5 (by omega)
  have:=end_mono (sealAt root h) 0 rs (show n'+1≤n by omega)
  omega
theorem nz64 {m:Nat} (h0:0<m) (h:m≤1000000000):BitVec.ofInt 64 (m:Int)≠0#64:=by
 intro e
 have:=congrArg BitVec.toNat e
 rw [BitVec.ofInt_natCast,BitVec.toNat_ofNat,Nat.mod_eq_of_lt (by omega)] at this
 simp at this; omega
theorem modu {a:BitVec 64} {m:Nat} (h0:0<m) (h:m≤1000000000):(a%BitVec.ofInt 64 (m:Int)).toNat<m:=by
 have e:(BitVec.ofInt 64 (m:Int)).toNat=m:=by rw [BitVec.ofInt_natCast,BitVec.toNat_ofNat,Nat.mod_eq_of_lt (by omega)]
 rw [BitVec.toNat_umod,e]
 exact Nat.mod_lt _ h0
def headE (s:State):Edit:=⟨s.log,s.next,s.seq,s.least,s.gens,[],[]⟩
def oneE (m:Meta):Edit:=⟨0,0,0,0,fun _=>0,[m],[]⟩
def leafE (e:Edit):Dg:=leafD (encE e)
def leavesS (s:State):List Dg:=leafE (headE s) :: (allM s 5).map fun m=>leafE (oneE m)
def rootS (s:State):Dg:=rootD (leavesS s)
theorem headE_congr {X Y:State} (h:EqS X Y):headE X=headE Y:=by unfold headE; rw [h.log,h.next,h.seq,h.least,h.gens]
theorem rootS_congr {X Y:State} (h:EqS X Y):rootS X=rootS Y:=by
 unfold rootS leavesS; rw [headE_congr h,h.all 5 (Nat.le_refl _)]
def recP (mark:BitVec 64) (x:State) (e:Edit):List Y:=fixL mark 8++yl 32 (rootS x)++encE e
theorem recP_len (mark:BitVec 64) (x:State) (e:Edit):(recP mark x e).length=40+(encE e).length:=by
 unfold recP; rw [List.length_append,List.length_append,fix_len,yl_len]
theorem recP_mid (mark:BitVec 64) (x:State) (e:Edit):((recP mark x e).drop 8).take 32=yl 32 (rootS x):=by
 unfold recP; rw [List.append_assoc,List.drop_left' (fix_len _ _),List.take_left' (yl_len _ _)]
theorem recP_drop (mark:BitVec 64) (x:State) (e:Edit):(recP mark x e).drop 40=encE e:=by
 unfold recP; rw [List.drop_left' (by rw [List.length_append,fix_len,yl_len])]
structure Mn where
 st:State
 mark:BitVec 64
 n:Nat
def Mn.zero:Mn:=⟨State.zero,0#64,0⟩
noncomputable def stepM (m:Mn) (p:List Y):Option Mn :=
 if p.length<40 then none else (decO (p.drop 40)).bind fun e=>if unfK p 8≤m.mark then none else (applyO m.st e).bind fun x =>
  if yl 32 (rootS x)=(p.drop 8).take 32 then some ⟨x,unfK p 8,m.n+1⟩ else none
noncomputable def stepsM:List (List Y)→Mn→Option Mn
 | [],m=>some m
 | p :: ps,m=>(stepM m p).bind (stepsM ps)
theorem stepsM_snoc:∀ {ps:List (List Y)} {p:List Y} {m:Mn},stepsM (ps++[p]) m=(stepsM ps m).bind fun x=>stepM x p
 | [],p,m=>by simp [stepsM]
 | q :: ps,p,m=>by
  simp only [List.cons_append,stepsM]
  cases stepM m q with
  | none=>rfl
  | some x=>exact stepsM_snoc
theorem stepsM_app:∀ {ps qs:List (List Y)} {m:Mn},stepsM (ps++qs) m=(stepsM ps m).bind (stepsM qs)
 | [],qs,m=>rfl
 | q :: ps,qs,m=>by
  simp only [List.cons_append,stepsM]
  cases stepM m q with
  | none=>rfl
  | some x=>exact stepsM_app
theorem stepsM_take {ps:List (List Y)} {k:Nat} {p:List Y} {m:Mn} (h:ps[k]? = some p):stepsM (ps.take (k+1)) m=(stepsM (ps.take k) m).bind fun x=>stepM x p:=by
 rw [List.take_add_one,h]; exact stepsM_snoc
theorem stepsM_none {ps:List (List Y)} {k:Nat} {m:Mn} (h:stepsM (ps.take k) m=none):stepsM ps m=none:=by
 rw [← List.take_append_drop k ps,stepsM_app,h]; rfl
section
variable {m:Mn} {p:List Y} {e:Edit} {x:State}
theorem st_short (h:p.length<40):stepM m p=none:=by unfold stepM; rw [if_pos h]
theorem st_dec (h:¬ p.length<40) (hd:decO (p.drop 40)=none):stepM m p=none:=by unfold stepM; rw [if_neg h,hd]; rfl
theorem st_mark (h:¬ p.length<40) (hm:unfK p 8≤m.mark):stepM m p=none:=by
 unfold stepM; rw [if_neg h]
 cases decO (p.drop 40) with
 | none=>rfl
 | some e=>simp only [Option.bind_some]; rw [if_pos hm]
theorem st_app (h:¬ p.length<40) (hd:decO (p.drop 40)=some e) (ha:applyO m.st e=none):stepM m p=none:=by
 unfold stepM; rw [if_neg h,hd]; simp only [Option.bind_some]
 split
 ·rfl
 ·rw [ha]; rfl
theorem st_root (h:¬ p.length<40) (hd:decO (p.drop 40)=some e) (ha:applyO m.st e=some x) (hr:¬ yl 32 (rootS x)=(p.drop 8).take 32):stepM m p=none:=by
 unfold stepM; rw [if_neg h,hd]; simp only [Option.bind_some]
 split
 ·rfl
 ·rw [ha]; simp only [Option.bind_some]; rw [if_neg hr]
theorem st_good (h:¬ p.length<40) (hd:decO (p.drop 40)=some e) (hm:¬ unfK p 8≤m.mark) (ha:applyO m.st e=some x) (hr:yl 32 (rootS x)=(p.drop 8).take 32):stepM m p=some ⟨x,unfK p 8,m.n+1⟩:=by
 unfold stepM; rw [if_neg h,hd]; simp only [Option.bind_some]
 rw [if_neg hm,ha]; simp only [Option.bind_some]; rw [if_pos hr]
end
def Lq (L L':Lvs):Prop:=∀ i,i<5→L i=L' i
inductive OptR:Option Lvs→Option Lvs→Prop
 | none:OptR none none
 | some {L L':Lvs} (h:Lq L L'):OptR (some L) (some L')
theorem Lq.upd {L L':Lvs} {k:Nat} {l:List Meta} (h:Lq L L'):Lq (updL L k l) (updL L' k l):=fun i hi=>by
 by_cases e:i=k
 ·subst e; rw [updL_same,updL_same]
 ·rw [updL_other e,updL_other e,h i hi]
theorem dropF_cg {g:Gone} {L L':Lvs} (h:Lq L L'):OptR (dropF g L) (dropF g L'):=by
 unfold dropF
 by_cases h5:g.level<5
 ·rw [if_pos h5,if_pos h5,h g.level.toNat (by omega)]
  split
  ·exact .none
  ·exact .some h.upd
 ·rw [if_neg h5,if_neg h5]; exact .none
theorem addF_cg {m:Meta} {L L':Lvs} (h:Lq L L'):OptR (addF m L) (addF m L'):=by
 unfold addF
 by_cases h5:m.level<5
 ·rw [if_pos h5,if_pos h5,h m.level.toNat (by omega)]; exact .some h.upd
 ·rw [if_neg h5,if_neg h5]; exact .none
theorem foldO_cg {β:Type} {f:β→Lvs→Option Lvs} (hf:∀ b L L',Lq L L'→OptR (f b L) (f b L')):∀ {bs:List β} {L L':Lvs},Lq L L'→OptR (foldO f bs L) (foldO f bs L')
 | [],L,L',h=>.some h
 | b :: bs,L,L',h=>by
  simp only [foldO]
  have:=hf b L L' h
  revert this
  generalize f b L=x
  generalize f b L'=y
  intro hxy
  cases hxy with
  | none=>exact .none
  | some h2=>exact foldO_cg hf h2
theorem okB_cg {s s':State} {e:Edit} (h:EqS s s'):okB s e=okB s' e:=by
 unfold okB beforeB; rw [h.log,h.next,h.seq,h.least,h.gens]
theorem mkX_cg {e:Edit} {L L':Lvs} (h:Lq L L'):EqS (mkX e L) (mkX e L'):=⟨h,rfl,rfl,rfl,rfl,rfl⟩
theorem srtL_cg {L L':Lvs} (h:Lq L L'):Lq (srtL L) (srtL L'):=fun i hi=>by unfold srtL; rw [h i hi]
theorem applyO_cg {s s':State} {e:Edit} (h:EqS s s'):(applyO s e=none∧applyO s' e=none)∨∃ Z Z',applyO s e=some Z∧applyO s' e=some Z'∧EqS Z Z':=by
 unfold applyO
 rw [okB_cg h]
 by_cases hk:okB s' e=true
 ·rw [if_pos hk,if_pos hk]
  have h1:=foldO_cg (f:=dropF) (fun b L L' h=>dropF_cg h) (bs:=e.drop) h.lv
  revert h1
  generalize foldO dropF e.drop s.lv=x
  generalize foldO dropF e.drop s'.lv=y
  intro h1
  cases h1 with
  | none=>exact .inl ⟨rfl,rfl⟩
  | @some L1 L1' h1 =>
   simp only [Option.bind_some]
   have h2:=foldO_cg (f:=addF) (fun b L L' h=>addF_cg h) (bs:=e.add) h1
   revert h2
   generalize foldO addF e.add L1=x
   generalize foldO addF e.add L1'=y
   intro h2
   cases h2 with
   | none=>exact .inl ⟨rfl,rfl⟩
   | @some L2 L2' h2 =>
    simp only [Option.bind_some]
    have h3:=mkX_cg (e:=e) (srtL_cg h2)
    unfold chk
    rw [h3.right]
    split
    ·exact .inr ⟨_,_,rfl,rfl,h3⟩
    ·exact .inl ⟨rfl,rfl⟩
 ·rw [if_neg hk,if_neg hk]; exact .inl ⟨rfl,rfl⟩
theorem AppR.cg {s s':State} {e:Edit} {X:State} {r:Int} (h:EqS s s') (ha:AppR s e X r):AppR s' e X r:=by
 rcases ha with ⟨h1,h2,h3⟩ | ⟨h1,h2,h3⟩ | ⟨h1,h2,Z,h3,h4⟩
 ·exact .inl ⟨by rw [← h.right]; exact h1,h2,h3⟩
 ·refine .inr (.inl ⟨by rw [← h.right]; exact h1,?_,h3⟩)
  rcases applyO_cg (e:=e) h with ⟨_,q⟩ | ⟨Z,Z',q,_⟩
  ·exact q
  rw [h2] at q; cases q
 refine .inr (.inr ⟨by rw [← h.right]; exact h1,h2,?_⟩)
 rcases applyO_cg (e:=e) h with ⟨q,_⟩ | ⟨W,Z',q,q',h5⟩
 ·rw [h3] at q; cases q
 rw [h3] at q; cases q; exact ⟨Z',q',h4.trans h5⟩
theorem AppR.right {s:State} {e:Edit} {X:State} (h:AppR s e X 0):rightS s=true∧∃ Z,applyO s e=some Z∧EqS X Z∧rightS Z=true∧rightS X=true:=by
 rcases h with ⟨_,h,_⟩ | ⟨_,_,h,_⟩ | ⟨h1,_,Z,h3,h4⟩
 ·cases h
 ·cases h
 ·obtain ⟨_,h5,_⟩:=applyO_inv h3
  exact ⟨h1,Z,h3,h4,h5,by rw [h4.right]; exact h5⟩
theorem addL_lt:∀ {ms:List Meta} {L L':Lvs},foldO addF ms L=some L'→∀ m∈ms,m.level<5
 | [],L,L',_,m,hm=>by cases hm
 | x :: ms,L,L',h,m,hm=>by
  simp only [foldO] at h
  unfold addF at h
  split at h
  ·rename_i h5
   rcases List.mem_cons.1 hm with rfl | hm
   ·exact h5
   ·exact addL_lt h m hm
  ·cases h
theorem added {s:State} {e:Edit} {Z:State} (h:applyO s e=some Z):(∀ m∈e.add,m.fits)∧e.add.length≤1024∧e.drop.length≤1024:=by
 obtain ⟨h1,h2,L1,L2,h3,h4,rfl⟩:=applyO_inv h
 refine ⟨fun m hm=>?_,(okB_bd h1).1,(okB_bd h1).2⟩
 have h5:=addL_lt h4 m hm
 have hi:m.level.toNat<5:=by omega
 have hm2:m∈L2 m.level.toNat:=by
  rw [addL_eq h4]
  exact List.mem_append_right _ (List.mem_filter.2 ⟨hm,by simp [atLv]⟩)
 have hm3:m∈(mkX e (srtL L2)).lv m.level.toNat:=srtL_mem.2 hm2
 have hg:=(((rightP_of h2).lv _ hi).1 m hm3).2
 unfold good at hg
 simp only [Bool.and_eq_true,decide_eq_true_eq] at hg
 exact ⟨by omega,by omega,by omega,by omega⟩
theorem right_fits {s:State} (h:rightS s=true) {i:Nat} (hi:i<5):∀ m∈s.lv i,m.min.size≤1024∧m.max.size≤1024:=by
 intro m hm
 have hg:=(((rightP_of h).lv _ hi).1 m hm).2
 unfold good at hg
 simp only [Bool.and_eq_true,decide_eq_true_eq] at hg
 exact ⟨by omega,by omega⟩
theorem step_laid {m:Mn} {s X:State} {e:Edit} {mark:BitVec 64} (hs:EqS s m.st) (ha:AppR s e X 0) (hw:e.wf) (hc:e.canon=e) (hm:¬ mark≤m.mark) :
  ∃ Z,EqS X Z∧stepM m (recP mark X e)=some ⟨Z,mark,m.n+1⟩:=by
 obtain ⟨_,Z,h1,h2,_,_⟩:=(ha.cg hs).right
 obtain ⟨a1,a2,a3⟩:=added h1
 have hu:unfK (recP mark X e) 8=mark:=by unfold recP; rw [List.append_assoc]; exact unf_fix _ _
 have hd:decO ((recP mark X e).drop 40)=some e:=by rw [recP_drop,edit_k hw a2 a3 a1,hc]
 refine ⟨Z,h2,?_⟩
 have:=st_good (m:=m) (p:=recP mark X e) (e:=e) (x:=Z) (by rw [recP_len]; omega) hd (by rw [hu]; exact hm) h1 (by rw [recP_mid,rootS_congr h2])
 rw [hu] at this
 exact this
structure Laid (R:List (List Y)) (S:List State) (M:List (BitVec 64)) (s:State) (last:BitVec 64):Prop where
 len:S.length=R.length∧M.length=R.length
 at':∀ j,j<R.length→∃ Z,EqS (S.getD j State.zero) Z∧stepsM (R.take (j+1)) Mn.zero=some ⟨Z,M.getD j 0#64,j+1⟩∧rightS Z=true
 all:∃ Z,EqS s Z∧stepsM R Mn.zero=some ⟨Z,last,R.length⟩
theorem Laid.nil:Laid [] [] [] State.zero 0#64:=⟨⟨rfl,rfl⟩,fun j h=>absurd h (Nat.not_lt_zero _),State.zero,EqS.refl _,rfl⟩
theorem Laid.snoc {R:List (List Y)} {S:List State} {M:List (BitVec 64)} {s X:State} {last mark:BitVec 64} {e:Edit} (h:Laid R S M s last) (ha:AppR s e X 0) (hw:e.wf) (hc:e.canon=e) (hm:¬ mark≤last) :
  Laid (R++[recP mark X e]) (S++[X]) (M++[mark]) X mark:=by
 obtain ⟨Z,h1,h2⟩:=h.all
 obtain ⟨W,h3,h4⟩:=step_laid (m:=⟨Z,last,R.length⟩) h1 ha hw hc hm
 obtain ⟨_,Z',q1,q2,q3,q4⟩:=ha.right
 have hall:stepsM (R++[recP mark X e]) Mn.zero=some ⟨W,mark,R.length+1⟩:=by rw [stepsM_snoc,h2]; exact h4
 refine ⟨⟨by simp [h.len.1],by simp [h.len.2]⟩,fun j hj=>?_,W,h3,by rw [hall]; simp⟩
 rw [List.length_append,List.length_cons,List.length_nil] at hj
 by_cases hj2:j<R.length
 ·obtain ⟨Z2,r1,r2,r3⟩:=h.at' j hj2
  refine ⟨Z2,?_,?_,r3⟩
  ·rw [List.getD_eq_getElem?_getD,List.getElem?_append_left (by rw [h.len.1]; exact hj2),←List.getD_eq_getElem?_getD]; exact r1
  rw [List.take_append_of_le_length (by omega),List.getD_eq_getElem?_getD,List.getElem?_append_left (by rw [h.len.2]; exact hj2),←List.getD_eq_getElem?_getD]; exact r2
 obtain rfl:j=R.length:=by omega
 refine ⟨W,?_,?_,by rw [← h3.right]; exact q4⟩
 ·rw [List.getD_eq_getElem?_getD,List.getElem?_append_right (by rw [h.len.1]; exact Nat.le_refl _),h.len.1,Nat.sub_self]; exact h3
 rw [List.take_of_length_le (by simp),List.getD_eq_getElem?_getD,List.getElem?_append_right (by rw [h.len.2]; exact Nat.le_refl _),h.len.2,Nat.sub_self]; exact hall
def LayR (root:Nat→Y) (h:Hd) (n mark:BitVec 64) (s:State) (e:Edit) (L:List Y) (X:State) (r:Int):Prop :=
 ∃ X0 r0,AppR s e X0 r0∧((r0≠0∧L=[]∧X=State.zero∧r=r0)∨(r0=0∧∃ L1 r1,(L1,r1)=layP root h n (recP mark X0 e)∧((r1≠0∧L=[]∧X=State.zero∧r=r1)∨(r1=0∧L=L1∧X=X0∧r=0))))
theorem LayR.good {root:Nat→Y} {h:Hd} {n mark:BitVec 64} {s:State} {e:Edit} {L:List Y} {X:State} (h1:LayR root h n mark s e L X 0):AppR s e X 0∧(L,(0:Int))=layP root h n (recP mark X e):=by
 obtain ⟨A,a,ha,⟨q,_,_,q'⟩ | ⟨q,L1,r1,e1,⟨q1,_,_,q'⟩ | ⟨q1,rfl,rfl,_⟩⟩⟩:=h1
 ·exact absurd q'.symm q
 ·exact absurd q'.symm q1
 ·subst q; subst q1; exact ⟨ha,e1⟩
theorem Tr.cutRow {G0 G:PM} {K0:List Nat} {w0 w:World} {μ:Mem} {b E sz m cap q:Nat} {xs:List Value} (h:Tr G0 K0 w0 G (.row (.slice (some ⟨b,0,none⟩) m cap) E sz m xs :: μ) w) (hq:q≤m) :
  Tr G0 K0 w0 G (.row (.slice (some ⟨b,0,none⟩) q cap) E sz q (xs.take (q*sz)) :: μ) w:=by
 have hk:keys (.row (.slice (some ⟨b,0,none⟩) q cap) E sz q (xs.take (q*sz)) :: μ)=keys (.row (.slice (some ⟨b,0,none⟩) m cap) E sz m xs :: μ):=by simp [keys,Res.keys,Value.ownBlock]
 have hrow:w.ownsRow 0 E sz (.slice (some ⟨b,0,none⟩) m cap) m xs:=h.sat.own _ (List.mem_cons_self ..)
 refine { h with sat:=⟨h.sat.sub,fun r hr=>?_,by rw [hk]; exact h.sat.apart,by rw [hk]; exact h.sat.nodup⟩,mine:=by rw [hk]; exact h.mine }
 rcases List.mem_cons.1 hr with rfl | hr
 ·have hl:=hrow.1
  have hqs:q*sz≤m*sz:=Nat.mul_le_mul_right _ hq
  rcases hrow.2 with ⟨e,_⟩ | ⟨g,cap',cur,e,h0,hg,hnc,hcm,hcs,htake⟩
  ·cases e
  simp only [Value.slice.injEq,Option.some.injEq,Addr.mk.injEq,and_true,true_and] at e
  obtain ⟨rfl,rfl⟩:=e
  refine ⟨by rw [List.length_take,hl,Nat.min_eq_left hqs],.inr ⟨b,cap,cur,rfl,h0,hg,by omega,hcm,hcs,?_⟩⟩
  rw [← htake,List.take_take,Nat.min_eq_left hqs]
 exact h.sat.own r (List.mem_cons_of_mem _ hr)
theorem wk_popS {α:Type} {enc:α→List Value} {sz:Nat} {X:Cx} {cd:Code} {k:List KI} {ρ:Env} {G:PM} {μ μ':Mem} {b cap E:Nat} {xs:List α} (A B:List α) (hsz:∀ x∈xs,(enc x).length=sz) (hm:MTake μ (rS sz enc (.slice (some ⟨b,0,none⟩) xs.length cap) E xs) μ') (e:xs=A++B)
  (h:Wk X cd k ρ G (rS sz enc (.slice (some ⟨b,0,none⟩) A.length cap) E A :: μ')):Wk X cd k ρ G μ :=
 ⟨fun a w ha ht=>h.out a w ha (by
  subst e
  have:=(ht.perm hm.perm).cutRow (q:=A.length) (by rw [List.length_append]; omega)
  rw [← flat_tk hsz,List.take_left] at this
  exact this)⟩
section
variable {dr:Bool} {mc:Md} {P:Program} {n:Nat} {l:List Oper} {K:Env→PM→Mem→Prop} {i:Nat} {σ:List Nat} {ρ:Env} {G:PM} {μ:Mem}
variable {d t:Nat} {p:String} {af:Array Edge} {g:Option (Nat×Bool)} {c:Bool}
theorem and1 (A:Nat):BitVec.ofNat 64 A &&& BitVec.ofNat 64 1=BitVec.ofNat 64 (A%2):=by
 apply BitVec.eq_of_toNat_eq
 rw [BitVec.toNat_and,BitVec.toNat_ofNat,BitVec.toNat_ofNat,BitVec.toNat_ofNat,show 1%2^64=1 from rfl,Nat.and_one_is_mod]
 omega
theorem an1 {T T':TypeId} {x y:Operand} {a1 a2:Int} (A:Nat) (ho:nth l i=some ⟨some d,.binOp .and T x y T',t,p,af,g⟩) (hg:Gd l ρ g c) (hx:Ev ρ c x (.int .i64 a1)) (hy:Ev ρ c y (.int .i64 a2)) (e1:a1=A) (e2:a2=1)
  (h:Wo dr mc P n l K σ ((d,c,.int .i64 ((A%2:Nat):Int)) :: ρ) G μ):Wo dr mc P n l K (i :: σ) ρ G μ :=
 .pure ho (.inl rfl) hg (fun hc q w ha=>by
  subst e1; subst e2
  have hb:(binOp .and T (.int .i64 (A:Int)) (.int .i64 1)).run P w=.ok (.int .i64 ((A%2:Nat):Int)) w:=by
   have e1:BitVec.ofInt 64 (A:Int)=BitVec.ofNat 64 A:=by simp
   have e2:BitVec.ofInt 64 (1:Int)=BitVec.ofNat 64 1:=rfl
   have h4:IntKind.i64.wrap ((BitVec.ofNat 64 (A%2)).toNat:Int)=((A%2:Nat):Int):=by
    rw [BitVec.toNat_ofNat,Nat.mod_eq_of_lt (by omega)]
    exact wrap_i64 (by omega) (by omega)
   have h5:(Op.intBits .and .i64 (A:Int) 1)=pure (.int .i64 (IntKind.i64.wrap ((BitVec.ofInt 64 (A:Int) &&& BitVec.ofInt 64 (1:Int)).toNat:Int))):=rfl
   have h6:binOp .and T (.int .i64 (A:Int)) (.int .i64 1)=Op.intBits .and .i64 (A:Int) 1:=rfl
   rw [h6,h5,e1,e2,and1,h4]; rfl
  simp only [execOp,hx.eval ha hc,hy.eval ha hc,Sem.run_bind,eqGuard_int,Result.andThen_ok,hb]; rfl) h
end
def stkL (S:List (Nat×Dg)):List Dg:=(S.map (·.2)).reverse
theorem stkL_cons (a:Nat) (r:Dg) (S:List (Nat×Dg)):stkL ((a,r) :: S)=stkL S++[r]:=by simp [stkL]
theorem stkL_len (S:List (Nat×Dg)):(stkL S).length=S.length:=by simp [stkL]
def zD:Dg:=fun _=>0#8
theorem stkL_last (a:Nat) (r:Dg) (S:List (Nat×Dg)):(stkL ((a,r) :: S)).getD S.length zD=r:=by
 rw [stkL_cons,List.getD_eq_getElem?_getD,List.getElem?_append_right (by rw [stkL_len]; omega),stkL_len,Nat.sub_self]; rfl
def finB (d:Dg) (L:List Dg):Nat→Dg
 | 0=>d
 | j+1=>finB (joinD (L.getD j zD) d) L j
theorem finB_app:∀ (j:Nat) (d x:Dg) (L:List Dg),j≤L.length→finB d (L++[x]) j=finB d L j
 | 0,_,_,_,_=>rfl
 | j+1,d,x,L,h=>by
  have e:(L++[x]).getD j zD=L.getD j zD:=by rw [List.getD_eq_getElem?_getD,List.getElem?_append_left (by omega),←List.getD_eq_getElem?_getD]
  simp only [finB,e]; exact finB_app j _ x L (by omega)
theorem finB_pred {j:Nat} {d:Dg} {L:List Dg} (h:0<j):finB d L j=finB (joinD (L.getD (j-1) zD) d) L (j-1):=by
 obtain ⟨i,rfl⟩ : ∃ i,j=i+1:=⟨j-1,by omega⟩
 rfl
theorem stk_top {S S3:List (Nat×Dg)} {a:Nat} {s:Dg} (h:S=(a,s) :: S3):(stkL S).getD ((stkL S).length-1) zD=s:=by
 subst h; rw [stkL_len]; exact stkL_last a s S3
theorem finB_eq:∀ (S:List (Nat×Dg)) (d:Dg),finB d (stkL S) S.length=finD d S
 | [],d=>rfl
 | (a,r) :: S,d=>by
  simp only [List.length_cons,finB,finD,stkL_last]
  rw [stkL_cons,finB_app _ _ _ _ (by rw [stkL_len]; exact Nat.le_refl _),finB_eq S]
theorem stk_done {S:List (Nat×Dg)} {L:List Dg} (h:Stk S L) (h0:0<L.length):0<(stkL S).length∧rootD L=finB ((stkL S).getD ((stkL S).length-1) zD) (stkL S) ((stkL S).length-1):=by
 rw [stkL_len]
 match S,h with
 | [],h=>cases h; cases h0
 | (a,r) :: S,h =>
  refine ⟨Nat.succ_pos _,?_⟩
  rw [h.done,←finB_eq S r]
  have e:((a,r) :: S).length-1=S.length:=rfl
  rw [e,stkL_last,stkL_cons,finB_app _ _ _ _ (by rw [stkL_len]; exact Nat.le_refl _)]
theorem pend_even {S:List (Nat×Dg)} {d:Dg} {a q:Nat} {l:List Dg} (h:Pend S d a l) (eq:q=l.length / 2^a) (he:q%2=0):∃ s S',S=(a,s) :: S'∧Pend S' (joinD s d) (a+1) l∧q / 2=l.length / 2^(a+1):=by
 subst eq; exact h.even he
theorem pend_odd {S:List (Nat×Dg)} {d:Dg} {a q:Nat} {l:List Dg} (h:Pend S d a l) (eq:q=l.length / 2^a) (he:¬ q%2=0):Stk ((a,d) :: S) l:=by
 subst eq; exact h.odd (by omega)
theorem pend_pos {S:List (Nat×Dg)} {d:Dg} {a q:Nat} {l:List Dg} (h:Pend S d a l) (eq:q=l.length / 2^a):0<q:=by
 obtain ⟨L,seg,hS,hl,hr,he',hb⟩:=h.out
 subst eq
 exact Nat.div_pos (by rw [← he',List.length_append,hl]; omega) (Nat.pow_pos (by decide))
theorem pend_len {S:List (Nat×Dg)} {d:Dg} {a:Nat} {l:List Dg} (h:Pend S d a l):S.length≤l.length:=by
 obtain ⟨L,seg,hS,hl,hr,he',hb⟩:=h.out
 have:=hS.short
 rw [← he',List.length_append]; omega
end Go.Tan
namespace Go.Proofs.YtdeobooblmjlfaaDoor
open Go.Tan Go.RowKit
theorem leafS_ok {G:PM} {b7 b9 T7 T9:Nat} {kind:Y} {h:Sh} {p:List Y} (hle:PM.le G ((G.add b7 (cl [V kind] T7)).add b9 (cl [.slice (some ⟨b7,0,none⟩) 1 1,h.val p.length] T9))) (hq:PM.le (G.add b7 (cl [V kind] T7)) ((G.add b7 (cl [V kind] T7)).add b9 (cl [.slice (some ⟨b7,0,none⟩) 1 1,h.val p.length] T9))) (hs:SlR G 1 encY h p) (hK:RdNP G 1 0 (wa 64 kW)) (hl:p.length≤100000000000000) :
  Ct Tryd.prog 32 ([.slice (some ⟨b9,0,none⟩) 2 2]:List Value).toArray ((G.add b7 (cl [V kind] T7)).add b9 (cl [.slice (some ⟨b7,0,none⟩) 1 1,h.val p.length] T9)) [] (fun _ μ' u=>μ'=[]∧u=.agg (ba 32 (shaD (kind :: p))).toArray):=by
 have h1:SlR (G.add b7 (cl [V kind] T7)) 1 encY ⟨some ⟨b7,0,none⟩,1⟩ [kind]:=SlR.ofBlk (T:=T7) (PM.add_same _ _ _) (fun _ _=>rfl) (by simp)
 have hP:SlP ((G.add b7 (cl [V kind] T7)).add b9 (cl [.slice (some ⟨b7,0,none⟩) 1 1,h.val p.length] T9)) ⟨some ⟨b9,0,none⟩,2⟩ [(⟨some ⟨b7,0,none⟩,1⟩,[kind]),(h,p)] :=
  ⟨SlR.ofBlk (T:=T9) (PM.add_same _ _ _) (fun _ _=>rfl) (by simp),fun q hq'=>by
   rcases List.mem_cons.1 hq' with rfl | hq'
   ·exact h1.mono hq
   ·rw [List.mem_singleton.1 hq']; exact hs.mono hle⟩
 have hh:=shaSum_ok _ ⟨some ⟨b9,0,none⟩,2⟩ _ hP (hK.mono hle) (by simp [catL]; omega) (by simp)
 rw [show catL [((⟨some ⟨b7,0,none⟩,1⟩ : Sh),[kind]),(h,p)]=kind :: p by simp [catL]] at hh
 exact hh
theorem emptyS_ok {G:PM} {b7 b9 T7 T9:Nat} {kind:Y} (hle:PM.le G ((G.add b7 (cl [V kind] T7)).add b9 (cl [.slice (some ⟨b7,0,none⟩) 1 1] T9))) (hq:PM.le (G.add b7 (cl [V kind] T7)) ((G.add b7 (cl [V kind] T7)).add b9 (cl [.slice (some ⟨b7,0,none⟩) 1 1] T9))) (hK:RdNP G 1 0 (wa 64 kW)) :
  Ct Tryd.prog 32 ([.slice (some ⟨b9,0,none⟩) 1 1]:List Value).toArray ((G.add b7 (cl [V kind] T7)).add b9 (cl [.slice (some ⟨b7,0,none⟩) 1 1] T9)) [] (fun _ μ' u=>μ'=[]∧u=.agg (ba 32 (shaD [kind])).toArray):=by
 have h1:SlR (G.add b7 (cl [V kind] T7)) 1 encY ⟨some ⟨b7,0,none⟩,1⟩ [kind]:=SlR.ofBlk (T:=T7) (PM.add_same _ _ _) (fun _ _=>rfl) (by simp)
 have hP:SlP ((G.add b7 (cl [V kind] T7)).add b9 (cl [.slice (some ⟨b7,0,none⟩) 1 1] T9)) ⟨some ⟨b9,0,none⟩,1⟩ [(⟨some ⟨b7,0,none⟩,1⟩,[kind])] :=
  ⟨SlR.ofBlk (T:=T9) (PM.add_same _ _ _) (fun _ _=>rfl) (by simp),fun q hq'=>by rw [List.mem_singleton.1 hq']; exact h1.mono hq⟩
 have hh:=shaSum_ok _ ⟨some ⟨b9,0,none⟩,1⟩ _ hP (hK.mono hle) (by simp [catL]) (by simp)
 rw [show catL [((⟨some ⟨b7,0,none⟩,1⟩ : Sh),[kind])]=[kind] by simp [catL]] at hh
 exact hh
theorem joinS_ok {G G2 G3 G5:PM} {b2 b3 b5 b8 T2 T3 T5 T8:Nat} {a b:Nat→Y} (e2:G2=G.add b2 (cl (ba 32 a) T2)) (e3:G3=G2.add b3 (cl (ba 32 b) T3)) (e5:G5=G3.add b5 (cl [V 1#8] T5))
  (hle:PM.le G (G5.add b8 (cl [.slice (some ⟨b5,0,none⟩) 1 1,.slice (some ⟨b2,0,none⟩) 32 32,.slice (some ⟨b3,0,none⟩) 32 32] T8))) (hq:PM.le G5 (G5.add b8 (cl [.slice (some ⟨b5,0,none⟩) 1 1,.slice (some ⟨b2,0,none⟩) 32 32,.slice (some ⟨b3,0,none⟩) 32 32] T8))∧PM.le G3 G5∧PM.le G2 G3∧PM.le G G2∧True) (hK:RdNP G 1 0 (wa 64 kW)) :
  Ct Tryd.prog 32 ([.slice (some ⟨b8,0,none⟩) 3 3]:List Value).toArray (G5.add b8 (cl [.slice (some ⟨b5,0,none⟩) 1 1,.slice (some ⟨b2,0,none⟩) 32 32,.slice (some ⟨b3,0,none⟩) 32 32] T8)) [] (fun _ μ' u=>μ'=[]∧u=.agg (ba 32 (joinD a b)).toArray):=by
 have h1:SlR G5 1 encY ⟨some ⟨b5,0,none⟩,1⟩ [1#8]:=by rw [e5]; exact SlR.ofBlk (T:=T5) (PM.add_same _ _ _) (fun _ _=>rfl) (by simp)
 have h2:SlR G2 1 encY ⟨some ⟨b2,0,none⟩,32⟩ (yl 32 a):=by rw [e2]; exact ba_sl
 have h3:SlR G3 1 encY ⟨some ⟨b3,0,none⟩,32⟩ (yl 32 b):=by rw [e3]; exact ba_sl
 have l1:=yl_len 32 a
 have l2:=yl_len 32 b
 have hP:SlP (G5.add b8 (cl [.slice (some ⟨b5,0,none⟩) 1 1,.slice (some ⟨b2,0,none⟩) 32 32,.slice (some ⟨b3,0,none⟩) 32 32] T8)) ⟨some ⟨b8,0,none⟩,3⟩ [(⟨some ⟨b5,0,none⟩,1⟩,[1#8]),(⟨some ⟨b2,0,none⟩,32⟩,yl 32 a),(⟨some ⟨b3,0,none⟩,32⟩,yl 32 b)] :=
  ⟨SlR.ofBlk (T:=T8) (by simp [encP,l1,l2,Sh.val]; exact PM.add_same _ _ _) (fun _ _=>rfl) (by simp),fun q hq'=>by
   simp only [List.mem_cons,List.not_mem_nil,or_false] at hq'
   rcases hq' with rfl|rfl|rfl
   ·exact h1.mono hq.1
   ·exact h2.mono (hq.2.2.1.trans (hq.2.1.trans hq.1))
   ·exact h3.mono (hq.2.1.trans hq.1)⟩
 have hh:=shaSum_ok _ ⟨some ⟨b8,0,none⟩,3⟩ _ hP (hK.mono hle) (by simp [catL,l1,l2]) (by simp)
 rw [show catL [((⟨some ⟨b5,0,none⟩,1⟩ : Sh),[1#8]),(⟨some ⟨b2,0,none⟩,32⟩,yl 32 a),(⟨some ⟨b3,0,none⟩,32⟩,yl 32 b)]=1#8 :: (yl 32 a++yl 32 b) by simp [catL]] at hh
 exact hh
theorem leaf_ok (p:List Y) (h:Sh) (G:PM) (hs:SlR G 1 encY h p) (hK:RdNP G 1 0 (wa 64 kW)) (hl:p.length≤100000000000000):Ct Tryd.prog 19 ([h.val p.length]:List Value).toArray G [] (fun _ μ' u=>μ'=[]∧u=.agg (ba 32 (leafD p)).toArray):=by
 refine Ct.of Tryd.func19 rfl Tryd.ntmps19 rfl fun w0 hs0=>?_
 refine .seq (Wk.rg [0] rfl rfl ?_)
 refine al rfl Fx.zq34 ?_; intro b2
 refine .nil (.code (.seq (Wk.rg [0,1,2,3,4] rfl rfl ?_)))
 refine Go.Tan.b1 rfl Fx.se42 Fx.zv5 (.u rfl) rfl rfl (by decide) ?_; intro b3
 refine mv rfl .no (.u rfl) ?_
 refine Go.Tan.bN rfl Fx.se72 Fx.zv42 (Evp.cons (.u rfl) (Evp.cons (.u rfl) Evp.nil)) rfl (by decide) (by simp [Value.oneCell',Sh.val]) ?_; intro b5
 refine kp rfl .no Fx.go32 (Evc rfl Evn) (Gp.add .here (Gp.add .here Gp.nil)) (fun _ hle hq=>leafS_ok (kind:=0#8) hle hq.1 hs hK hl) ?_
 refine sw rfl (.u rfl) (.u rfl) rfl Fx.sz34 (.there (.there .here)) (by first|exact qE|exact qL|rfl) (by first|exact ba_one _ _|exact wa_one _ _|exact one_V _|decide|exact one_app (wa_one _ _) (by simp [Value.oneCell'])) ?_
 refine .nil (.code (.ret (We.fin0 Tryd.results19 (.cell rfl (fun w hw=>run_loadVarN Fx.ag34 (RdN.own .here) ((by first|exact qE|exact qL|rfl)) hw) .nil) ?_)))
 exact ⟨rfl,rfl⟩
theorem join_ok (a b:Dg) (G:PM) (hK:RdNP G 1 0 (wa 64 kW)):Ct Tryd.prog 35 ([.agg (ba 32 a).toArray,.agg (ba 32 b).toArray]:List Value).toArray G [] (fun _ μ' u=>μ'=[]∧u=.agg (ba 32 (joinD a b)).toArray):=by
 refine Ct.of Tryd.func35 rfl Tryd.ntmps35 rfl fun w0 hs0=>?_
 refine .seq (Wk.rg [0,1,2] rfl rfl ?_)
 refine bx rfl (.u rfl) rfl ?_; intro b2
 refine bx rfl (.u rfl) rfl ?_; intro b3
 refine al rfl Fx.zq34 ?_; intro b4
 refine .nil (.code (.seq (Wk.draw (mc:=⟨false,false⟩) [1,2,0,3,4,5] Fx.mix (by kernel_rfl) ?_)))
 refine sa0 rfl .no Fx.ar34 (.u rfl) (sa0 rfl .no Fx.ar34 (.u rfl) ?_)
 refine Go.Tan.b1 rfl Fx.se42 Fx.zv5 (.u rfl) rfl rfl (by decide) ?_; intro b5
 refine Go.Tan.bN rfl Fx.se72 Fx.zv42 (Evp.cons (.u rfl) (Evp.cons (.u rfl) (Evp.cons (.u rfl) Evp.nil))) rfl (by decide) (by simp [Value.oneCell',Sh.val]) ?_; intro b8
 refine kp rfl .no Fx.go32 (Evc rfl Evn) (Gp.add .here (Gp.add .here (Gp.add (.there .here) (Gp.add (.there .here) Gp.nil)))) (fun _ hle hq=>joinS_ok rfl rfl rfl hle hq hK) ?_
 refine sw rfl (.u rfl) (.u rfl) rfl Fx.sz34 (.there (.there .here)) (by first|exact qE|exact qL|rfl) (by first|exact ba_one _ _|exact wa_one _ _|exact one_V _|decide|exact one_app (wa_one _ _) (by simp [Value.oneCell'])) ?_
 refine .nil (.code (.ret (We.fin0 Tryd.results35 (.cell rfl (fun w hw=>run_loadVarN Fx.ag34 (RdN.own .here) ((by first|exact qE|exact qL|rfl)) hw) .nil) ?_)))
 exact ⟨rfl,rfl⟩
namespace Fx
theorem se62:slE Tryd.prog 62=some (34,32,32):=by kernel_rfl
theorem sn62:(slE Tryd.prog 62).isSome=true:=by kernel_rfl
theorem go35:goFn Tryd.prog 35=true:=by kernel_rfl
theorem zw34:(Tryd.prog.info? 34).bind (·.zero)=some (.agg (ba 32 (fun _=>0#8)).toArray):=by kernel_rfl
end Fx
theorem root_ok (ds:List Dg) (h:Sh) (G:PM) (hs:SlR G 32 (ba 32) h ds) (hK:RdNP G 1 0 (wa 64 kW)) (hl:ds.length≤1000000):Ct Tryd.prog 21 ([h.val ds.length]:List Value).toArray G [] (fun _ μ' u=>μ'=[]∧u=.agg (ba 32 (rootD ds)).toArray):=by
 refine Ct.of Tryd.func21 rfl Tryd.ntmps21 rfl fun w0 hs0=>?_
 refine .seq (Wk.rg [0] rfl rfl ?_)
 refine al rfl Fx.zq34 ?_; intro b2
 refine .nil (.code (.seq (.seq (Wk.rg [0,1,2] rfl rfl (mv rfl .no (.u rfl) (ln rfl .no Fx.sn62 (.u rfl) (cp rfl .no (.u rfl) (.u rfl) rfl (.nil (.code (.cond rfl (fun c1=>?_) (fun c1=>?_)))))))))))
 ·have c1k:=c1
  try simp only [qcA,qcC,qcB] at c1
  refine .seq (Wk.rg [0,1,2,3] rfl rfl ?_)
  refine Go.Tan.b1 rfl Fx.se42 Fx.zv5 (.u rfl) rfl rfl (by decide) ?_; intro b12
  refine Go.Tan.b1 rfl Fx.se72 Fx.zv42 (.u rfl) rfl rfl (by decide) ?_; intro b13
  refine kp rfl .no Fx.go32 (Evc rfl Evn) (Gp.add .here (Gp.add .here Gp.nil)) (fun _ hle hq=>emptyS_ok (kind:=2#8) hle hq.1 hK) ?_
  refine sw rfl (.u rfl) (.u rfl) rfl Fx.sz34 (.there (.there .here)) (by first|exact qE|exact qL|rfl) (by first|exact ba_one _ _|exact wa_one _ _|exact one_V _|decide|exact one_app (wa_one _ _) (by simp [Value.oneCell'])) ?_
  refine .nil (.code (.ret (We.fin0 Tryd.results21 (.cell rfl (fun w hw=>run_loadVarN Fx.ag34 (RdN.own .here) ((by first|exact qE|exact qL|rfl)) hw) .nil) ?_)))
  obtain rfl:ds=[]:=List.eq_nil_of_length_eq_zero (by omega)
  exact ⟨rfl,by rw [root_nil]; rfl⟩
 have c1k:=c1
 try simp only [qcA,qcC,qcB] at c1
 refine .skip (.code (.seq (Wk.rg [0] rfl rfl (asg rfl .no (.u rfl) (.nil (.code (.seq (.seq (wk_nilS 32 (ba 32) 34 ?_)))))))))
 refine Wk.rg [0,1,2] rfl rfl (mv rfl .no (.u rfl) (ln rfl .no Fx.sn62 (.u rfl) (mv rfl .no (.u rfl) (.nil (.code (.block ?_))))))
 refine Wk.lop (α:=Nat×List (Nat×Dg)×Value) (fun gh=>[(3,true,gh.2.2),(17,true,.int .i64 (gh.1:Int))]) (fun gh=>[rS 32 (ba 32) gh.2.2 34 (stkL gh.2.1)])
  (fun gh Gl=>(gh.1≤ds.length)∧(Stk gh.2.1 (ds.take gh.1))) (fun gh=>ds.length-gh.1) (0,[],.slice none 0 0) [(2,true,_),(15,true,_),(16,true,_)] [_]
  (ESub.c rfl (ESub.cons rfl (by first|rfl|exact evi (by omega)) (ESub.c rfl (ESub.c rfl (ESub.c rfl ESub.nil)))))
  (MSub.cons .here rfl (MSub.cons .here rfl MSub.nil)) ?_ ?_
 ·refine ⟨?_,?_⟩
  ·(try dsimp only)<;>(first|omega|rfl|assumption|(simp; done))
  (try dsimp only)<;>(exact Stk.nil)
 intro gh N0 Gl0 hN0 hGl0 hF0
 obtain ⟨k,S,v⟩:=gh; dsimp only at hF0 hN0 ⊢
 obtain ⟨hk,hS⟩:=hF0
 have hs:=hs.mono hGl0
 have hK:=hK.mono hGl0
 refine .seq (Wk.rg [0] rfl rfl (cp rfl .no (.u rfl) (.u rfl) rfl (.nil (.code (.seq (.cond rfl (fun c2=>?_) (fun c2=>?_)))))))
 ·have c2k:=c2
  try simp only [qcA,qcC,qcB] at c2
  refine .skip (.code (.seq (.block (.seq (Wk.rg [0,1,2,3,4,5] rfl rfl (mv rfl .no (.u rfl) ?_))))))
  obtain ⟨x,ex⟩:=getx (k:=k) (xs:=ds) (by omega)
  refine ih rfl .no Fx.se62 (.u rfl) (.u rfl) (fun _=>by omega) (fun _=>by omega) (fun _=>hs.nn (k:=k) (by first|omega|(simp only [Bool.and_eq_true,decide_eq_true_eq] at hc; omega)|(simp only [List.length_cons,List.length_nil]; omega))) ?_
  refine lA rfl .no Fx.ag34 (.u rfl) (fun _=>(hs.at (by omega) ex).rd) (fun _=>ba_len _ _) ?_
  refine al rfl Fx.zq34 ?_; intro b5
  refine asg rfl .no (.u rfl) (sw rfl (.u rfl) (.u rfl) rfl Fx.sz34 .here rfl (ba_one _ _) ?_)
  refine .nil (.code (.seq (.seq (Wk.rg [0,1,2] rfl rfl (mv rfl .no (.u rfl) (arn (((k+1):Nat):Int) rfl .no (.u rfl) (.u rfl) rfl (fun _=>by omega) (fun _=>wrap_i64 (by omega) (by omega)) ?_))))))
  refine asg rfl .no (.u rfl) (.nil (.code (.block ?_)))
  refine Wk.lop (α:=Nat×Nat×List (Nat×Dg)×Dg×Value) (fun gh=>[(3,true,gh.2.2.2.2),(6,true,.int .i64 (gh.1:Int))]) (fun gh=>[.blk b5 (cl (ba 32 gh.2.2.2.1) 34),rS 32 (ba 32) gh.2.2.2.2 34 (stkL gh.2.2.1)])
   (fun gh Gl=>(Pend gh.2.2.1 gh.2.2.2.1 gh.2.1 (ds.take (k+1)))∧(gh.1=(ds.take (k+1)).length / 2^gh.2.1)∧(gh.1≤k+1)) (fun gh=>gh.1) (k+1,0,S,x,v) [(2,true,_),(5,true,_),(15,true,_),(16,true,_),(17,true,_)] [_]
   (ESub.c rfl (ESub.cons rfl (by first|rfl|exact evi (by omega)) (ESub.c rfl (ESub.c rfl (ESub.c rfl (ESub.c rfl (ESub.c rfl ESub.nil)))))))
   (MSub.cons .here rfl (MSub.cons .here rfl (MSub.cons .here rfl MSub.nil))) ?_ ?_
  ·refine ⟨?_,?_,?_⟩
   ·(try dsimp only)<;>(rw [List.take_add_one,ex]; exact Pend.start hS x)
   ·(try dsimp only)<;>(rw [Nat.pow_zero,Nat.div_one,List.length_take]; omega)
   (try dsimp only)<;>(first|omega|rfl|assumption|(simp; done))
  intro gh N1 Gl1 hN1 hGl1 hF1
  obtain ⟨q,a,S2,dd,v2⟩:=gh; dsimp only at hF1 hN1 ⊢
  obtain ⟨hP,eq,hqk⟩:=hF1
  have hK:=hK.mono hGl1
  have hq0:=pend_pos hP eq
  have hl2:=pend_len hP
  rw [← stkL_len,List.length_take] at hl2
  refine .seq (.seq (Wk.rg [0,1,2] rfl rfl (mv rfl .no (.u rfl) (an1 q rfl .no (.u rfl) (.u rfl) rfl rfl ?_))))
  refine cp rfl .no (.u rfl) (.u rfl) rfl (.nil (.code (.cond rfl (fun c3=>?_) (fun c3=>?_))))
  ·have c3k:=c3
   try simp only [qcA,qcC,qcB] at c3
   refine .skip (.code (.seq (.block (.seq ?_))))
   obtain ⟨s,S3,hS3,hP3,hq3⟩:=pend_even hP eq (by omega)
   have hl3:(stkL S2).length=(stkL S3).length+1:=by rw [hS3,stkL_cons,List.length_append]; rfl
   refine wk_rv (.there .here) (by omega) ?_; intro bbRS capRS evRS lcRS; subst evRS
   refine Wk.draw (mc:=⟨false,false⟩) [0,1,2,3,4,5,6,7,8] Fx.mix (by kernel_rfl) ?_
   refine mv rfl .no (.u rfl) (mv rfl .no (.u rfl) (lr rfl .no Fx.sn62 (.u rfl) (.there .here) ?_))
   refine arn ((((stkL S2).length-1):Nat):Int) rfl .no (.u rfl) (.u rfl) rfl (fun _=>by omega) (fun _=>wrap_i64 (by omega) (by omega)) ?_
   refine ia rfl .no Fx.se62 (.u rfl) (.u rfl) (fun _=>by omega) (fun _=>by omega) ?_
   refine lA rfl .no Fx.ag34 (.u rfl) (fun _=>RdN.rowS (.there .here) (fun _ _=>ba_len _ _) (gd_at (z:=zD) (k:=((stkL S2).length-1)) (by omega)) (by omega)) (fun _=>ba_len _ _) ?_
   refine lA rfl .no Fx.ag34 (.u rfl) (fun _=>RdN.own .here) (fun _=>(by first|exact qE|exact qL|rfl)) ?_
   refine kv rfl .no Fx.go35 (Evc rfl (Evc rfl Evn)) (fun _=>join_ok _ _ _ hK) ?_
   refine sw rfl (.u rfl) (.u rfl) rfl Fx.sz34 .here (by first|exact qE|exact qL|rfl) (ba_one _ _) ?_
   refine .nil (.code (Wk.rg [0,1,2,3,4,5] rfl rfl (mv rfl .no (.u rfl) (mv rfl .no (.u rfl) (lr rfl .no Fx.sn62 (.u rfl) (.there .here) ?_)))))
   refine ar rfl .no (.u rfl) (.u rfl) rfl (fun _=>wrap_i64 (by omega) (by omega)) ?_
   refine srh (stkL S3).length rfl Fx.se62 (.u rfl) (.u rfl) (by omega) (by omega) ?_
   refine asg rfl .no (.u rfl) (.nil (.blk (.code (wk_popS (stkL S3) [s] (fun _ _=>ba_len _ _) (.there .here) (by rw [hS3,stkL_cons]) ?_))))
   refine Wk.rg [0,1,2] rfl rfl (mv rfl .no (.u rfl) (sr1 (q) rfl .no (.u rfl) (.u rfl) (by first|rfl|omega) rfl (by decide) ?_))
   refine asg rfl .no (.u rfl) (.nil (We.lpo (q / 2,a+1,S3,joinD ((stkL S2).getD ((stkL S2).length-1) zD) dd,.slice (some ⟨bbRS,0,none⟩) (stkL S3).length capRS) ?_ ?_ ?_ ?_ ?_))
   ·exact (ESub.c rfl (ESub.cons rfl (by first|rfl|exact evi (by omega)) (ESub.c rfl (ESub.c rfl (ESub.c rfl (ESub.c rfl (ESub.c rfl ESub.nil)))))))
   ·exact (MSub.cons (.there .here) rfl (MSub.cons .here rfl (MSub.cons .here rfl MSub.nil)))
   ·first|omega|(dsimp only; omega)
   ·exact hGl1
   refine ⟨?_,?_,?_⟩
   ·(try dsimp only)<;>(rw [stk_top hS3]; exact hP3)
   ·(try dsimp only)<;>(exact hq3)
   (try dsimp only)<;>(first|omega|rfl|assumption|(simp; done))
  have c3k:=c3
  try simp only [qcA,qcC,qcB] at c3
  refine .exit (.xcode (.xlp (.xblk (.code (Wk.rg [0,1,2,3,4] rfl rfl (mv rfl .no (.u rfl) (lA rfl .no Fx.ag34 (.u rfl) (fun _=>RdN.own .here) (fun _=>(by first|exact qE|exact qL|rfl)) ?_)))))))
  refine Go.Tan.b1 rfl Fx.se62 Fx.zw34 (.u rfl) rfl rfl (by decide) ?_; intro b44
  refine apS (xs:=(stkL S2)) (dd) rfl Fx.se62 Fx.zw34 rfl (.u rfl) (.u rfl) (.there (.there .here)) .here (ba_len _ _) (ba_one _ _) (by omega) (by unfold maxLen; omega) ?_; intro v45 ov45
  refine asg rfl .no (.u rfl) (.nil (.blk (.code (Wk.rg [0,1] rfl rfl (arn (((k+1):Nat):Int) rfl .no (.u rfl) (.u rfl) rfl (fun _=>by omega) (fun _=>wrap_i64 (by omega) (by omega)) ?_)))))
  refine mv rfl .no (.u rfl) (.nil (We.lpo (k+1,(a,dd) :: S2,v45) ?_ ?_ ?_ ?_ ?_))
  ·exact (ESub.c rfl (ESub.cons rfl (by first|rfl|exact evi (by omega)) (ESub.c rfl (ESub.c rfl (ESub.c rfl ESub.nil)))))
  ·exact (MSub.cons .here (by rw [stkL_cons]) (MSub.cons (.there (.there .here)) rfl MSub.nil))
  ·first|omega|(dsimp only; omega)
  ·exact (hGl0).trans hGl1
  refine ⟨?_,?_⟩
  ·(try dsimp only)<;>(first|omega|rfl|assumption|(simp; done))
  (try dsimp only)<;>(exact pend_odd hP eq (by omega))
 have c2k:=c2
 try simp only [qcA,qcC,qcB] at c2
 refine .exit (.xcode (.xlp (.xblk (.code (.seq ?_)))))
 obtain rfl:k=ds.length:=by omega
 rw [List.take_length] at hS
 obtain ⟨hs0,hroot⟩:=stk_done hS (by omega)
 have hsl:=hS.short
 rw [← stkL_len] at hsl
 refine wk_rv .here (by omega) ?_; intro bbRS capRS evRS lcRS; subst evRS
 refine Wk.rg [0,1,2,3,4,5,6,7] rfl rfl (mv rfl .no (.u rfl) (mv rfl .no (.u rfl) (lr rfl .no Fx.sn62 (.u rfl) .here ?_)))
 refine arn ((((stkL S).length-1):Nat):Int) rfl .no (.u rfl) (.u rfl) rfl (fun _=>by omega) (fun _=>wrap_i64 (by omega) (by omega)) ?_
 refine ia rfl .no Fx.se62 (.u rfl) (.u rfl) (fun _=>by omega) (fun _=>by omega) ?_
 refine lA rfl .no Fx.ag34 (.u rfl) (fun _=>RdN.rowS .here (fun _ _=>ba_len _ _) (gd_at (z:=zD) (k:=((stkL S).length-1)) (by omega)) (by omega)) (fun _=>ba_len _ _) ?_
 refine al rfl Fx.zq34 ?_; intro b7
 refine sw rfl (.u rfl) (.u rfl) rfl Fx.sz34 .here rfl (ba_one _ _) ?_
 refine .nil (.code (.seq (.seq (Wk.rg [0,1,2,3] rfl rfl (mv rfl .no (.u rfl) (lr rfl .no Fx.sn62 (.u rfl) (.there .here) ?_))))))
 refine ar rfl .no (.u rfl) (.u rfl) rfl (fun _=>wrap_i64 (by omega) (by omega)) ?_
 refine asg rfl .no (.u rfl) (.nil (.code (.block ?_)))
 refine Wk.lop (α:=Nat×Dg) (fun gh=>[(8,true,.int .i64 ((gh.1:Int)-1))]) (fun gh=>[.blk b7 (cl (ba 32 gh.2) 34)])
  (fun gh Gl=>(gh.1≤(stkL S).length-1)∧(rootD ds=finB gh.2 (stkL S) gh.1)) (fun gh=>gh.1) ((stkL S).length-1,(stkL S).getD ((stkL S).length-1) zD) [(2,true,_),(3,true,_),(7,true,_)] [_,_]
  (ESub.cons rfl (evi (by omega)) (ESub.c rfl (ESub.c rfl (ESub.c rfl ESub.nil))))
  (MSub.cons .here rfl (MSub.cons .here rfl (MSub.cons .here rfl MSub.nil))) ?_ ?_
 ·refine ⟨?_,?_⟩
  ·(try dsimp only)<;>(first|omega|rfl|assumption|(simp; done))
  (try dsimp only)<;>(exact hroot)
 intro gh N2 Gl2 hN2 hGl2 hF2
 obtain ⟨j,d⟩:=gh; dsimp only at hF2 hN2 ⊢
 obtain ⟨hj,hd⟩:=hF2
 have hK:=hK.mono hGl2
 refine .seq (.seq (Wk.rg [0,1] rfl rfl (mv rfl .no (.u rfl) (cp rfl .no (.u rfl) (.u rfl) rfl (.nil (.code (.cond rfl (fun c4=>?_) (fun c4=>?_))))))))
 ·have c4k:=c4
  try simp only [qcA,qcC,qcB] at c4
  refine .skip (.code (.seq (.block (Wk.draw (mc:=⟨false,false⟩) [0,1,2,3,4,5,6] Fx.mix (by kernel_rfl) ?_))))
  refine mv rfl .no (.u rfl) (mv rfl .no (.u rfl) (ia rfl .no Fx.se62 (.u rfl) (.u rfl) (fun _=>by omega) (fun _=>by omega) ?_))
  refine lA rfl .no Fx.ag34 (.u rfl) (fun _=>RdN.rowS (.there .here) (fun _ _=>ba_len _ _) (gd_at (z:=zD) (k:=(j-1)) (by omega)) (by omega)) (fun _=>ba_len _ _) ?_
  refine lA rfl .no Fx.ag34 (.u rfl) (fun _=>RdN.own .here) (fun _=>(by first|exact qE|exact qL|rfl)) ?_
  refine kv rfl .no Fx.go35 (Evc rfl (Evc rfl Evn)) (fun _=>join_ok _ _ _ hK) ?_
  refine sw rfl (.u rfl) (.u rfl) rfl Fx.sz34 .here (by first|exact qE|exact qL|rfl) (ba_one _ _) ?_
  refine .nil (.blk (.code (Wk.rg [0,1,2] rfl rfl (mv rfl .no (.u rfl) (ar rfl .no (.u rfl) (.u rfl) rfl (fun _=>wrap_i64 (by omega) (by omega)) ?_)))))
  refine asg rfl .no (.u rfl) (.nil (We.lpo (j-1,joinD ((stkL S).getD (j-1) zD) d) ?_ ?_ ?_ ?_ ?_))
  ·exact (ESub.cons rfl (evi (by omega)) (ESub.c rfl (ESub.c rfl (ESub.c rfl ESub.nil))))
  ·exact (MSub.cons .here rfl (MSub.cons .here rfl (MSub.cons .here rfl MSub.nil)))
  ·first|omega|(dsimp only; omega)
  ·exact hGl2
  refine ⟨?_,?_⟩
  ·(try dsimp only)<;>(first|omega|rfl|assumption|(simp; done))
  (try dsimp only)<;>(rw [hd,finB_pred (by omega)])
 have c4k:=c4
 try simp only [qcA,qcC,qcB] at c4
 refine .exit (.xcode (.xlp (.xblk (.code (.seq (Wk.rg [0,1] rfl rfl (lA rfl .no Fx.ag34 (.u rfl) (fun _=>RdN.own .here) (fun _=>(by first|exact qE|exact qL|rfl)) ?_)))))))
 refine sw rfl (.u rfl) (.u rfl) rfl Fx.sz34 (.there (.there .here)) rfl (ba_one _ _) ?_
 refine .nil (.code (.ret (We.fin0 Tryd.results21 (.cell rfl (fun w hw=>run_loadVarN Fx.ag34 (RdN.own .here) ((by first|exact qE|exact qL|rfl)) hw) .nil) ?_)))
 obtain rfl:j=0:=by omega
 exact ⟨rfl,by rw [hd]; rfl⟩
end Go.Proofs.YtdeobooblmjlfaaDoor
namespace Go.Tan
open Go.RowKit
section
variable {dr:Bool} {mc:Md} {P:Program} {n:Nat} {l:List Oper} {K:Env→PM→Mem→Prop} {i:Nat} {σ:List Nat} {ρ:Env} {G:PM} {μ:Mem}
variable {d t:Nat} {p:String} {af:Array Edge} {g:Option (Nat×Bool)} {c:Bool}
theorem kaf {f:FuncId} {fv:Operand} {xs:List Operand} {tys:Array TypeId} {vs vc:List Value} {μ₁ μ₂:Mem} {post:PM→Mem→Value→Prop} {dd:Option Nat} (ho:nth l i=some ⟨dd,.call { callee:=.value fv,args:=xs.toArray,argTypes:=tys },t,p,af,none⟩) (hm:mc.c=true∨dr=false) (hfv:Ev ρ true fv (.func (.func f) #[] vc.toArray)) (hf:goFn P f=true)
  (hv:∀ a,Ag n ρ a→true=true→xs.map a.eval=vs) (hp:μ.Perm (μ₁++μ₂)) (hk:Ct P f (vs++vc).toArray G μ₁ post) (h:∀ v G' μ',PM.le G G'→post G' μ' v→Wo dr mc P n l K σ (lay ρ dd true v) G' (μ'++μ₂)):Wo dr mc P n l K (i :: σ) ρ G μ :=
 .act ho (by rcases hm with h|rfl<;>simp_all [kindOf]) .no hp (fun a w ha _=>.inr ⟨f,_,by
  have h1:=hv a ha rfl
  simp [execOp,resolve,Deferred.ofValue,hfv.eval ha rfl,invoke,run_callFunc hf]
  rw [← h1],hk⟩) h
end
theorem SlR.one1 {α:Type} {enc:α→List Value} {sz:Nat} {G:PM} {b:Nat} {x:α} {T:TypeId}:SlR (G.add b (cl (enc x) T)) sz enc ⟨some ⟨b,0,none⟩,1⟩ [x]:=by
 refine ⟨fun _=>rfl,Nat.le_refl _,fun i y hy j v hj=>?_⟩
 cases i with
 | succ i=>simp at hy
 | zero =>
  simp only [List.getElem?_cons_zero,Option.some.injEq] at hy
  subst hy
  rw [Nat.zero_mul,Nat.add_zero]
  exact RdP.blk (PM.add_same _ _ _) (by show (enc x)[0+j]? = _; rw [Nat.zero_add]; exact hj)
structure StN (s:State):Prop where
 log:u64 s.log
 next:u64 s.next
 seq:u64 s.seq
 least:u64 s.least
 gens:∀ i,i<5→u64 (s.gens i)
theorem headE_wf {s:State} (h:StN s):(headE s).wf:=⟨h.log,h.next,h.seq,h.least,h.gens,(fun m hm=>absurd hm List.not_mem_nil),(fun g hg=>absurd hg List.not_mem_nil)⟩
theorem oneE_wf {m:Meta} (h:m.wf):(oneE m).wf:=by
 have z:u64 0:=⟨by decide,by decide⟩
 refine ⟨z,z,z,z,fun _ _=>z,fun x hx=>?_,(fun g hg=>absurd hg List.not_mem_nil)⟩
 rw [show x=m from List.mem_singleton.1 hx]; exact h
theorem oneE_len {m:Meta} (h:m.wf):((oneE m).add.flatMap encM).length≤m.min.size+m.max.size+112:=by
 show ([m].flatMap encM).length≤_
 rw [List.flatMap_cons,List.flatMap_nil,List.append_nil]; exact encM_len h
theorem headE_len {s:State}:((headE s).add.flatMap encM).length≤10:=by show ([]:List Y).length≤_; decide
def leavesT (s:State) (k j:Nat):List Dg:=leafE (headE s) :: ((allM s k++(s.lv k).take j).map fun m=>leafE (oneE m))
theorem leavesT_0 (s:State):leavesT s 0 0=[]++[leafE (headE s)]:=by simp [leavesT,allM]
theorem leavesT_snoc {s:State} {k j:Nat} {m:Meta} (h:(s.lv k)[j]? = some m):leavesT s k j++[leafE (oneE m)]=leavesT s k (j+1):=by
 unfold leavesT; rw [List.take_add_one,h]; simp
theorem leavesT_next {s:State} {k j:Nat} (h:(s.lv k).length≤j):leavesT s k j=leavesT s (k+1) 0:=by
 unfold leavesT; rw [List.take_of_length_le h]; simp [allM]
theorem leavesT_5 (s:State):leavesT s 5 0=leavesS s:=by unfold leavesT leavesS; simp
theorem leavesT_len (s:State) (k j:Nat):((leavesT s k j).length:Int)≤1+tot s k+(s.lv k).length:=by
 have h1:=allM_len s k
 unfold leavesT
 simp only [List.length_cons,List.length_map,List.length_append,List.length_take]
 omega
theorem tot_lt {s:State} {k:Nat} (h:k<5):tot s k+(s.lv k).length≤tot s 5:=tot_mono s (show k+1≤5 by omega)
theorem lvs_at (s:State) (hd:Nat→Sh) {k:Nat} {j:Int} (h:k<5) (e:j.toNat=k):((List.range 5).map fun i=>(hd i).val (s.lv i).length)[j.toNat]? = some ((hd k).val (s.lv k).length):=by
 rw [e]
 match k,h with
 | 0,_=>rfl | 1,_=>rfl | 2,_=>rfl | 3,_=>rfl | 4,_=>rfl
theorem leavesS_len (s:State):((leavesS s).length:Int)=1+tot s 5:=by
 have h1:=allM_len s 5
 unfold leavesS
 simp only [List.length_cons,List.length_map]
 omega
def lightP (s:State) (e:Edit):Bool:=decide (tot s 5≤200)&&(decide ((e.add.length:Int)≤200)&&decide ((e.drop.length:Int)≤200))
theorem light_no {s:State} {e:Edit} (h:200<tot s 5):lightP s e=false:=by unfold lightP; rw [decide_eq_false (by omega)]; rfl
theorem light_yes {s:State} {e:Edit} (h:tot s 5≤200):lightP s e=(decide ((e.add.length:Int)≤200)&&decide ((e.drop.length:Int)≤200)):=by unfold lightP; rw [decide_eq_true h]; rfl
structure StL (s:State):Prop where
 few:tot s 5≤100000
 short:∀ i,i<5→∀ m∈s.lv i,m.min.size+m.max.size≤900000000000
end Go.Tan
