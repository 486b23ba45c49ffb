/- Lemmas and contracts of functions, joined. -/
import Derived.Test.YtjkkbmdonbcccaaGreatDoorGa1
import Derived.Laws.CopyRow
import Derived.Lib.AppendStr
import Derived.Laws.IdiomStrings
import Derived.KernelRfl
set_option linter.unusedSimpArgs false
set_option linter.unusedVariables false
set_option linter.defProp false
set_option linter.unusedSectionVars false
open Array renaming range->ze,length_toList->qaA
open BitVec renaming ofNat->qb,ofInt->qk,eq_of_toNat_eq->wj,toNat_ofInt->zi,toNat_ushiftRight->jc,toNat_ofNat->jz,toNat_setWidth->kb
open Bool renaming and_eq_true->qi,not_eq_true'->wv,or_eq_true->x4,or_eq_false_iff->xf,not_eq_false'->zy
open ByteArray renaming empty->xc
open Int renaming toNat_natCast->yc
open List renaming length_append->qa,mem_singleton->qd,mem_cons->qe,not_mem_nil->qf,range->qg,mem_cons_self->qh,mem_cons_of_mem->qj,mem_map->ql,mem_append->qn,length_cons->qp,append_assoc->qr,getElem?_eq_getElem->qv,length_map->qw,length_drop->qx,nil_append->qy,getD_eq_getElem?_getD->wc,take_of_length_le->wd,take_add_one->we,all_eq_true->wg,append_nil->wh,take_append_drop->wn,eq_nil_of_length_eq_zero->wo,map_cons->wu,cons_append->ww,pairwise_cons->wz,map_append->x7,nodup_cons->xa,length_pos_iff->xd,mem_range->xh,replicate->xl,mem_flatMap->xo,flatMap_cons->xp,ext_getElem?->xq,getElem?_take->xr,length_set->xt,getElem_of_mem->xz,drop_of_length_le->yf,mem_filter->yh,pairwise_append->yi,drop_drop->yk,getElem?_append_left->ym,range_succ->yn,takeWhile_append_dropWhile->yq,drop_eq_getElem_cons->yr,getElem?_set->zk,map_congr_left->zq,drop_left->jb,flatten_cons->je,getElem?_map->jg,set_append_right->ke,take_append->ku,getElem?_drop->ky,getD_cons_zero->v6,filter_append->ve,map_toArray->qa8,drop_take->qa9,filter_cons->qaB,filter_congr->qaC
open Nat renaming le_refl->qc,zero_le->qo,zero_add->wb,mul_le_mul_right->xi,lt_or_ge->xk,succ_mul->xy,not_lt_zero->yg,add_zero->yj,mod_eq_of_lt->yp,pow_le_pow_right->yw,pow_succ->yx,shiftRight_eq_div_pow->zj,add_comm->ju,shiftLeft_eq->jw,pow_pos->ki
open Option renaming bind_some->qu,map_some->wx
namespace Go.Tan
open Go.RowKit
variable {args:Array Value} {q:BitVec 64} {X:Cx} {cs' vs:List Value} {xs L:List Y} {f sz n m p c ty j E i cap T most:Nat} {w:Nat→Nat} {x y:Operand} {post:PM→aB→Value→Prop} {Q:Prop}
inductive TI where
 | i (k:IntKind)
 | b
 | s
 | p
 | o
 | sl (e sz by':Nat)
 | st (n:Nat) (offs:List Nat)
 | ar (n m e sz:Nat)
def TI.agg:TI->Option Nat
 | .st n _=>some n
 | .ar n ..=>some n
 | _=>none
def TI.cells:TI->Nat
 | .st n _=>n
 | .ar n ..=>n
 | _=>1
def aBq (P:Program) (t:Nat):Nat->List Nat->Bool
 | _,[]=>true
 | j,k :: r=>decide (zN P t j=some k)&&aBq P t (j+1) r
def TI.ok (P:Program) (t:Nat) (x:TI):Bool :=
 decide (nA P t=some x.agg)&&decide (jC P t=some x.cells)&&match x with
 | .i k=>decide (rY P t t=some k)
 | .b=>aIW P t
 | .s=>nU P t
 | .p=>pN P t
 | .o=>true
 | .sl e sz by'=>decide (bY P t=some (e,sz,by'))
 | .st _ offs=>aBq P t 0 offs
 | .ar _ m e sz=>decide (nD P t=some (m,e,sz))
class TTab (P:Program) where
 l:List (Nat×TI)
 n:Nat
 x:List Nat
 ok:(l.all fun e=>e.2.ok P e.1)=true
 okg:((List.range n).all fun f=>eT P f||x.elem f)=true
def fB:List (Nat×TI)->Nat->Option TI
 | [],_=>none
 | (u,x) :: r,t=>match Nat.beq u t with
  | true=>some x
  | false=>fB r t
def pF:List Nat->Nat->Bool
 | [],_=>false
 | u :: r,t=>match Nat.beq u t with
  | true=>true
  | false=>pF r t
section
variable {P:Program} [T:TTab P] {t:Nat}
def aNm {x:TI}:∀ {l:List (Nat×TI)},(l.all fun e=>e.2.ok P e.1)=true->fB l t=some x->x.ok P t=true
 | [],_,h=>by cases h
 | (u,y) :: r,ha,h=>by
  rw [List.all_cons,Bool.and_eq_true] at ha;rw [fB] at h;split at h
  ·simp_all
  ·exact aNm ha.2 h
def tC {x:TI} (h:fB T.l t=some x):x.ok P t=true:=aNm T.ok h
theorem aLW {k:Nat}:∀ {offs:List Nat} {j f:Nat},aBq P t j offs=true->offs[f]? = some k->zN P t (j+f)=some k
 | [],_,_,_,h=>by grind
 | a :: r,j,0,h,e=>by
  simp_all[aBq]
 | a :: r,j,f+1,h,e=>by
  simp only [aBq,Bool.and_eq_true] at h;have:=aLW h.2 (f:=f) (by simpa using e);grind
def foT:Option TI->Nat->Option Nat
 | some (.st _ offs),f=>offs[f]?
 | _,_=>none
theorem zo {k:Nat} (h:foT (fB T.l t) f=some k):zN P t f=some k:=by
 unfold foT at h;split at h
 ·rename_i e;have:=tC e;simp only [TI.ok,qi] at this;have:=aLW this.2 h;simp_all
 grind
def za {a:Option Nat} (h:(fB T.l t).map TI.agg=some a):nA P t=some a:=by
 cases e:fB T.l t with
 | none=>simp_all
 | some x =>
  rw [e] at h; simp only [wx,Option.some.injEq] at h; subst h;have:=tC e;simp_all[TI.ok]
def zs {a:Nat} (h:(fB T.l t).map TI.cells=some a):jC P t=some a:=by
 cases e:fB T.l t with
 | none=>simp_all
 | some x =>
  rw [e] at h; simp only [wx,Option.some.injEq] at h; subst h;have:=tC e;simp_all[TI.ok]
def zl {e a:Nat} (h:fB T.l t=some (.sl e sz a)):bY P t=some (e,sz,a):=by
 have:=tC h; simp_all[TI.ok]
def aKB:Option TI->Bool
 | some (.sl ..)=>true
 | _=>false
theorem zn (h:aKB (fB T.l t)=true):(bY P t).isSome=true:=by
 unfold aKB at h;split at h
 ·rename_i e; rw [zl e]; rfl
 grind
def zr {e:Nat} (h:fB T.l t=some (.ar n m e sz)):nD P t=some (m,e,sz):=by
 have:=tC h; simp_all[TI.ok]
theorem zv {S D:Nat} {k a:IntKind} (h:fB T.l S=some (.i k)) (f:fB T.l D=some (.i a)):rY P S D=some a:=by
 have e:=tC h; have c:=tC f;simp only [TI.ok,dT] at e c;grind[rY]
theorem zp (h:fB T.l t=some .p):pN P t=true:=by
 have:=tC h; simp_all[TI.ok]
def zt (h:fB T.l t=some .s):nU P t=true:=by
 have:=tC h; simp_all[TI.ok]
def zb (h:fB T.l t=some .b):aIW P t=true:=by
 have:=tC h; simp_all[TI.ok]
theorem aSr {l:List Nat} (h:l.elem f=true):pF l f=true:=by
 induction l with
 | nil=>grind
 | cons u r ih =>
  rw [pF];cases e:Nat.beq u f with
  | true=>rfl
  | false =>
   simp only [List.elem_eq_contains,List.contains_cons,x4,beq_iff_eq] at h;rcases h with h | h
   ·simp_all
   simp_all
theorem zf (h:(Nat.blt f T.n && !pF T.x f)=true):eT P f=true:=by
 simp only [qi,wv,Nat.blt_eq] at h;have:=wg.1 T.okg f (xh.2 h.1);rw [x4] at this;grind[aSr]
end
def kQ {P X:Prop} (k:Q->X) (h:P->Q:=by intro h; (try simp only [dR,qcB] at h); exact h):P->X:=fun p=>k (h p)
def aC {P X:Prop} (k:Q->X) (h:P->Q:=by intro h; (try simp only [dR,qcC,qcB] at h); exact h):P->X:=fun p=>k (h p)
def iB {P X:Prop} (k:P->Q->X) (h:P->Q:=by intro h; (try simp only [dR,qcB] at h); exact h):P->X:=fun p=>k p (h p)
def iP {P X:Prop} (k:P->Q->X) (h:P->Q:=by intro h; (try simp only [dR,qcC,qcB] at h); exact h):P->X:=fun p=>k p (h p)
structure Cn (n:Nat) (B:Prop):Prop where
 out:B
def Cn.s {p q:Prop} (f:p->q) (h:Cn n p):Cn (n+1) q:=⟨f h.out⟩
def upL:Nat->List Oper->List Nat
 | _,[]=>[]
 | k,_ :: l=>k :: upL (k+1) l
def aNr:∀ (l:List Oper) (k:Nat),upL k l=List.range' k l.length
 | [],_=>rfl
 | _ :: l,k=>by rw [upL,aNr l,List.length_cons,List.range'_succ]
def aPk {k:List KI} {ρ:aF} {G:PM} {μ:aB} {l:List Oper} (a:tR X.n l=true) (h:Wo false ⟨false,false⟩ X.P X.n l (fun ρ G μ=>We X .normal k ρ G μ) (upL 0 l) ρ G μ) :
  Wk X (.region c l.toArray false) k ρ G μ:=Wk.region a (by simp_all[aNr,List.range_eq_range'])
def oM {μ:aB} {r a:Res}:MTake (a :: r :: μ) r (a :: μ):=.there .here
def oP {μ:aB} {r a s1:Res}:MTake (a :: s1 :: r :: μ) r (a :: s1 :: μ):=.there aE
def oQ {μ:aB} {r c s1 a:Res}:MTake (c :: s1 :: a :: r :: μ) r (c :: s1 :: a :: μ):=.there aL
def oR {μ:aB} {r c s1 a s3:Res}:MTake (c :: s1 :: a :: s3 :: r :: μ) r (c :: s1 :: a :: s3 :: μ):=.there bU
def oS {μ:aB} {r e s1 c s3 a:Res}:MTake (e :: s1 :: c :: s3 :: a :: r :: μ) r (e :: s1 :: c :: s3 :: a :: μ):=.there gM
def oT {μ:aB} {r f s1 e s3 c a:Res}:MTake (f :: s1 :: e :: s3 :: c :: a :: r :: μ) r (f :: s1 :: e :: s3 :: c :: a :: μ):=.there jD
def oU {μ:aB} {r g s1 f s3 e c a:Res}:MTake (g :: s1 :: f :: s3 :: e :: c :: a :: r :: μ) r (g :: s1 :: f :: s3 :: e :: c :: a :: μ):=.there kZ
def oV {μ:aB} {r h s1 g s3 f e c a:Res}:MTake (h :: s1 :: g :: s3 :: f :: e :: c :: a :: r :: μ) r (h :: s1 :: g :: s3 :: f :: e :: c :: a :: μ):=.there mD
class QLen (cs:List Value) (n:outParam Nat):Prop where
 h:cs.length=n
def qL {cs:List Value} [k:QLen cs n]:cs.length=n:=k.h
def qE {cs:List Value} [k:QLen cs n] [a:QLen cs' n]:cs.length=cs'.length:=k.h.trans a.h.symm
def qF {cs:List Value} {o:Nat} [k:QLen cs n] (h:Nat.blt o n=true):o<cs.length:=by rw [k.h]; simp_all
instance:QLen [] 0:=⟨rfl⟩
instance {v:Value} {cs:List Value} {n:Nat} [k:QLen cs n]:QLen (v :: cs) (n+1):=⟨by rw [qp,k.h]⟩
instance {cs cs':List Value} {n m:Nat} [k:QLen cs n] [k':QLen cs' m]:QLen (cs++cs') (n+m):=⟨by rw [qa,k.h,k'.h]⟩
instance {cs:List Value} {n i:Nat} {v:Value} [k:QLen cs n]:QLen (cs.set i v) n:=⟨by rw [xt,k.h]⟩
instance {n:Nat} {f:Nat->Y}:QLen (ba n f) n:=⟨bT n f⟩
instance {n:Nat} {f:Nat->W}:QLen (wa n f) n:=⟨cO n f⟩
class QO1 (v:Value):Prop where
 h:v.oneCell'=true
class QOne (cs:List Value):Prop where
 h:∀ u∈cs,u.oneCell'=true
def qO {cs:List Value} [k:QOne cs]:∀ u∈cs,u.oneCell'=true:=k.h
instance {k:IntKind} {n:Int}:QO1 (.int k n):=⟨rfl⟩
instance {b:Bool}:QO1 (.bool b):=⟨rfl⟩
instance {s:ByteArray}:QO1 (.string s):=⟨rfl⟩
instance {a:Option Addr}:QO1 (.pointer a):=⟨rfl⟩
instance {a:Option Addr} {n c:Nat}:QO1 (.slice a n c):=⟨rfl⟩
instance {m:Option Nat}:QO1 (.map m):=⟨rfl⟩
instance {k:IntKind} {x:BitVec k.bits}:QO1 (uv k x):=⟨rfl⟩
instance {y:Y}:QO1 (V y):=⟨rfl⟩
instance {y:W}:QO1 (U y):=⟨rfl⟩
instance {s:Sh} {n:Nat}:QO1 (s.val n):=⟨rfl⟩
instance:QOne []:=⟨fun _ h=>by cases h⟩
instance {v:Value} {cs:List Value} [h1:QO1 v] [h:QOne cs]:QOne (v :: cs):=⟨fun u hu=>by
 rcases qe.1 hu with rfl | hu
 ·exact h1.h
 ·exact h.h u hu⟩
instance {cs cs':List Value} [h1:QOne cs] [h:QOne cs']:QOne (cs++cs'):=⟨fun u hu=>by
 rcases qn.1 hu with hu | hu
 ·exact h1.h u hu
 ·exact h.h u hu⟩
instance {n:Nat} {f:Nat->Y}:QOne (ba n f):=⟨pE n f⟩
instance {n:Nat} {f:Nat->W}:QOne (wa n f):=⟨yM n f⟩
instance {xs:List Y}:QOne (xs.map V):=⟨aDk xs⟩
def oE (ρ:aF) (x:Operand):Option Value :=
 match ev ρ x with
 | some (true,v)=>some v
 | _=>none
theorem jU {ρ:aF} {v:Value} (h:oE ρ x=some v):ev ρ x=some (true,v):=by
 grind[oE]
def isP:Option TI->Bool
 | some .p=>true
 | _=>false
def aIh (ty:Option TI) (op:BinOp):Option Value->Option Value->Option Value
 | some (.int k a),some (.int k' b)=>match decide (k=k') with
  | true=>(aCo op a b).map .bool
  | false=>none
 | some (.pointer (some _)),some (.pointer none)=>match isP ty,op with
  | true,.eql=>some (.bool false)
  | true,.neq=>some (.bool true)
  | _,_=>none
 | _,_=>none
def plV (l:List (Nat×TI)) (ρ:aF):Op->Option Value
 | .assign x=>oE ρ x
 | .move x=>oE ρ x
 | .nilCheck x=>match oE ρ x with
  | some (.pointer (some ad))=>some (.pointer (some ad))
  | _=>none
 | .fieldAddr s x f=>match oE ρ x with
  | some (.pointer (some ⟨b,0,none⟩))=>match foT (fB l s) f with
   | some k=>some (.pointer (some ⟨b,k,none⟩))
   | none=>none
  | some (.pointer (some ⟨b,o,none⟩))=>match foT (fB l s) f with
   | some k=>some (.pointer (some ⟨b,o+k,none⟩))
   | none=>none
  | _=>none
 | .extract x j=>match oE ρ x with
  | some (.tuple vs)=>vs.toList[j]?
  | _=>none
 | .unOp .not _ x=>match oE ρ x with
  | some (.bool b)=>some (.bool !b)
  | _=>none
 | .binOp op t x y _=>aIh (fB l t) op (oE ρ x) (oE ρ y)
 | _=>none
section
variable {dr:Bool} {mc:Md} {P:Program} {n:Fm} {l:List Oper} {K:aF→PM→aB→Prop} {i:Nat} {σ:List Nat} {ρ:aF} {G:PM} {μ:aB}
variable {d t:Nat} {p:String} {af:Array Edge} {m:Nat}
theorem pl [T:TTab P] {g:Op} {v:Value} (c:nth l i=some ⟨some d,g,t,p,af,none⟩) (h:plV T.l ρ g=some v) (e:Wo dr mc P n l K σ ((d,true,v) :: ρ) G μ):Wo dr mc P n l K (i :: σ) ρ G μ:=by
 unfold plV at h;split at h
 ·exact asg c .no (.u (jU h)) e
 ·exact mv c .no (.u (jU h)) e
 ·split at h
  ·rename_i a; cases h; exact nc c .no (.u (jU a)) e
  grind
 ·split at h
  ·rename_i a;split at h
   ·rename_i k; cases h; exact fz c .no (zo k) (.u (jU a)) e
   grind
  ·rename_i a;split at h
   ·rename_i k; cases h; exact fa c .no (zo k) (.u (jU a)) e
   grind
  grind
 ·split at h
  ·rename_i vs a;have:=jU a;exact ex (vs:=vs.toList) c .no (.u om) h e
  grind
 ·split at h
  ·rename_i a; cases h; exact nt c .no (.u (jU a)) e
  grind
 ·rename_i g m x y q;unfold aIh at h;split at h
  ·rename_i a f;split at h
   ·rename_i C;obtain rfl:=of_decide_eq_true C;simp only [Option.map_eq_some_iff] at h;obtain ⟨r,w,rfl⟩:=h;exact cp c .no (.u (jU a)) (.u (jU f)) w e
   grind
  ·rename_i a f;split at h
   ·rename_i A;cases h;have j:pN P m=true:=by
     grind[isP,zp]
    exact pe c .no j (.u (jU a)) (.u (jU f)) e
   ·rename_i A;cases h;have j:pN P m=true:=by
     grind[isP,zp]
    exact pn c .no j (.u (jU a)) (.u (jU f)) e
   grind
  grind
 grind
def aH3 (op:BinOp):Option Value->Option Value->Option Nat
 | some (.int .i64 (.ofNat a)),some (.int .i64 (.ofNat b))=>match op with
  | .add=>some (a+b)
  | .mul=>some (a*b)
  | _=>none
 | _,_=>none
theorem aN {op:BinOp} {r:Nat} (g:nth l i=some ⟨some d,.binOp op ty x y c,t,p,af,none⟩) (h:aH3 op (oE ρ x) (oE ρ y)=some r) (k:r<=9223372036854775807) (j:Wo dr mc P n l K σ ((d,true,.int .i64 (r:Int)) :: ρ) G μ):Wo dr mc P n l K (i :: σ) ρ G μ:=by
 unfold aH3 at h;split at h
 ·rename_i a b f e;split at h
  ·cases h;exact ar (r:=((a+b:Nat):Int)) g .no (.u (jU f)) (.u (jU e)) rfl (fun _=>cP om om) j
  ·cases h;exact ar (r:=((a*b:Nat):Int)) g .no (.u (jU f)) (.u (jU e)) rfl (fun _=>cP om om) j
  grind
 grind
def lAo [T:TTab P] {q:Nat} {b:Nat} {cs:List Value} {c:TypeId} {a:aB} (f:nth l i=some ⟨some d,.load ty x,t,p,af,none⟩) (j:(fB T.l ty).map TI.agg=some (some q)) (e:ev ρ x=some (true,.pointer (some ⟨b,0,none⟩))) (hm:MTake μ (.blk b (cl cs c)) a) (g:cs.length=q) (h:Wo dr mc P n l K σ ((d,true,.agg cs.toArray) :: ρ) G μ):Wo dr mc P n l K (i :: σ) ρ G μ:=lA f .no (za j) (.u e) (fun _=>RdN.own hm) (fun _=>g) h
def lAp [T:TTab P] {q:Nat} {b o:Nat} {cs:List Value} {c:TypeId} {a:aB} (f:nth l i=some ⟨some d,.load ty x,t,p,af,none⟩) (k:(fB T.l ty).map TI.agg=some (some q)) (e:ev ρ x=some (true,.pointer (some ⟨b,o,none⟩))) (hm:MTake μ (.blk b (cl cs c)) a) (j:(cs.drop o).take q=cs') (g:cs'.length=q) (h:Wo dr mc P n l K σ ((d,true,.agg cs'.toArray) :: ρ) G μ):Wo dr mc P n l K (i :: σ) ρ G μ:=lA f .no (za k) (.u e) (fun _=>RdN.part hm j) (fun _=>g) h
def sW [T:TTab P] {b:Nat} {v:Value} {cs:List Value} {a:aB} (k:nth l i=some ⟨none,.store ty x y,t,p,af,none⟩) (g:ev ρ x=some (true,.pointer (some ⟨b,0,none⟩))) (f:ev ρ y=some (true,v)) (j:v.cells=vs.toArray) (e:(fB T.l ty).map TI.cells=some vs.length) (hm:MTake μ (.blk b (cl cs c)) a) (m:vs.length=cs.length) (h1:∀ u∈vs,u.oneCell'=true) (h:Wo dr mc P n l K σ ρ G (.blk b (cl vs c) :: a)):Wo dr mc P n l K (i :: σ) ρ G μ :=
 sw k (.u g) (.u f) j (zs e) hm m h1 h
def s1z [T:TTab P] {b o:Nat} {v:Value} {cs:List Value} {a:aB} (m:nth l i=some ⟨none,.store ty x y,t,p,af,none⟩) (j:ev ρ x=some (true,.pointer (some ⟨b,o,none⟩))) (g:ev ρ y=some (true,v)) (k:v.oneCell'=true) (f:(fB T.l ty).map TI.cells=some 1) (hm:MTake μ (.blk b (cl cs c)) a) (q:o<cs.length) (e:cs.set o v=cs') (h:Wo dr mc P n l K σ ρ G (.blk b (cl cs' c) :: a)):Wo dr mc P n l K (i :: σ) ρ G μ :=
 s1 m (.u j) (.u g) k (zs f) hm q e h
def bwc {op:BinOp} {k:IntKind} {a r:BitVec k.bits} {m:Nat} (g:nth l i=some ⟨some d,.binOp op ty x y c,t,p,af,none⟩) (j:k.signed=false) (e:ev ρ x=some (true,uv k a)) (q:ev ρ y=some (true,.int k (.ofNat m))) (hm:(BitVec.ofNat k.bits m).toNat=m) (f:aCf op a (BitVec.ofNat k.bits m)=some r) (h:Wo dr mc P n l K σ ((d,true,uv k r) :: ρ) G μ):Wo dr mc P n l K (i :: σ) ρ G μ :=
 bw g .no j (.u e) (.u (by simp_all[uv])) f h
def aUU (h:Cn m (Wo dr mc P n l K σ ρ G μ)):Cn m (Wo dr mc P n l K σ ρ G μ):=h
def aUT {c:Code} {k:List KI} (h:Cn m (Wk X c k ρ G μ)):Cn m (Wk X c k ρ G μ):=h
def aUS {e:Exit} {k:List KI} (h:Cn m (We X e k ρ G μ)):Cn m (We X e k ρ G μ):=h
def aUO (_:nth l i=some ⟨some d,.load ty x,t,p,af,none⟩) (h:Cn m (Wo dr mc P n l K (i :: σ) ρ G μ)):Cn m (Wo dr mc P n l K (i :: σ) ρ G μ):=h
def aUQ {z:Operand} (_:nth l i=some ⟨some d,.pick x y z,t,p,af,none⟩) (h:Cn m (Wo dr mc P n l K (i :: σ) ρ G μ)):Cn m (Wo dr mc P n l K (i :: σ) ρ G μ):=h
def aUJ {op:BinOp} {a:Nat} (_:nth l i=some ⟨some d,.binOp op ty x y a,t,p,af,none⟩) (h:Cn m (Wo dr mc P n l K (i :: σ) ρ G μ)):Cn m (Wo dr mc P n l K (i :: σ) ρ G μ):=h
def aUL {s:Nat} (_:nth l i=some ⟨some d,.fieldAddr s x f,t,p,af,none⟩) (h:Cn m (Wo dr mc P n l K (i :: σ) ρ G μ)):Cn m (Wo dr mc P n l K (i :: σ) ρ G μ):=h
def aUP (_:nth l i=some ⟨some d,.call { callee:=.builtin .len,args:=#[x],argTypes:=#[ty] },t,p,af,none⟩) (h:Cn m (Wo dr mc P n l K (i :: σ) ρ G μ)):Cn m (Wo dr mc P n l K (i :: σ) ρ G μ):=h
def aUR (_:nth l i=some ⟨none,.store ty x y,t,p,af,none⟩) (h:Cn m (Wo dr mc P n l K (i :: σ) ρ G μ)):Cn m (Wo dr mc P n l K (i :: σ) ρ G μ):=h
def aUN (_:nth l i=some ⟨some d,.indexAddr ty x y,t,p,af,none⟩) (h:Cn m (Wo dr mc P n l K (i :: σ) ρ G μ)):Cn m (Wo dr mc P n l K (i :: σ) ρ G μ):=h
def aUM {a:Option Nat} {op:Op} {g:Nat×Bool} (_:nth l i=some ⟨a,op,t,p,af,some g⟩) (h:Cn m (Wo dr mc P n l K (i :: σ) ρ G μ)):Cn m (Wo dr mc P n l K (i :: σ) ρ G μ):=h
def aUK {a:Nat} (_:nth l i=some ⟨some d,.convert ty a x,t,p,af,none⟩) (h:Cn m (Wo dr mc P n l K (i :: σ) ρ G μ)):Cn m (Wo dr mc P n l K (i :: σ) ρ G μ):=h
end
inductive ZS where
 | c (c:Code)
 | e (e:Exit)
def plS:ZS->List KI->Option (ZS×List KI)
 | .c (.seq a b),k=>some (.c a,.code b :: k)
 | .c .skip,k=>some (.e .normal,k)
 | .c (.block id a),k=>some (.c a,.blk id :: k)
 | .c (.exit id),k=>some (.e (.exit id),k)
 | .c .ret,_=>some (.e .ret,[])
 | .e .normal,[]=>some (.e .ret,[])
 | .e .normal,.code c :: k=>some (.c c,k)
 | .e .normal,.blk _ :: k=>some (.e .normal,k)
 | .e (.exit id),.code _ :: k=>some (.e (.exit id),k)
 | .e (.exit id),.lp _ :: k=>some (.e (.exit id),k)
 | .e (.exit id),.blk id' :: k=>match Nat.beq id id' with
  | true=>some (.e .normal,k)
  | false=>some (.e (.exit id),k)
 | _,_=>none
def aCX (X:Cx) (ρ:aF) (G:PM) (μ:aB):ZS->List KI->Prop
 | .c c,k=>Wk X c k ρ G μ
 | .e e,k=>We X e k ρ G μ
def aDp {ρ:aF} {G:PM} {μ:aB} {s s':ZS} {k c:List KI} (h:plS s k=some (s',c)) (a:aCX X ρ G μ s' c):aCX X ρ G μ s k:=by
 unfold plS at h;split at h<;>(try (split at h))<;>first|(cases h; done) | (cases h)
 ·exact Wk.seq a
 ·exact Wk.skip a
 ·exact Wk.block a
 ·exact Wk.exit a
 ·exact Wk.ret a
 ·exact We.nil a
 ·exact We.code a
 ·exact We.blk a
 ·exact aPg a
 ·exact aPh a
 ·simp_all[aPf,aCX]
 simp_all[aPi,aCX]
section
variable {X:Cx} {ρ:aF} {G:PM} {μ:aB} {k k':List KI} {c c':Code} {e e':Exit}
def zkk (h:plS (.c c) k=some (.c c',k')) (a:Wk X c' k' ρ G μ):Wk X c k ρ G μ:=aDp (s:=.c c) (s':=.c c') h a
def zke (h:plS (.c c) k=some (.e e',k')) (a:We X e' k' ρ G μ):Wk X c k ρ G μ:=aDp (s:=.c c) (s':=.e e') h a
def zek (h:plS (.e e) k=some (.c c',k')) (a:Wk X c' k' ρ G μ):We X e k ρ G μ:=aDp (s:=.e e) (s':=.c c') h a
def zee (h:plS (.e e) k=some (.e e',k')) (a:We X e' k' ρ G μ):We X e k ρ G μ:=aDp (s:=.e e) (s':=.e e') h a
end
def fd {p:Prop} (h:p:=by (try dsimp only)<;>(first|omega|rfl|assumption|trivial|(simp; done))):p:=h
section
variable {X:Cx} {ρ:aF} {G:PM} {μ:aB} {k:List KI}
def lop {c:Code} {α:Type} (E:α->aF) (M:α->aB) (F:α->PM->Prop) (m:α->Nat) (x0:α) (e:aF) (f:aB)
  (h:∀ x N G',m x=N->PM.le G G'->F x G'->Wk X c (.lp (fun a w=>∃ y,m y<N∧Inv X G (fun x=>E x++e) (fun x=>M x++f) F y a w) :: k) (E x++e) G' (M x++f))
  (hE:ESub (E x0++e) ρ:=by (repeat (first|exact eZ | refine jG rfl ?_ | refine cB rfl (fE (by omega)) ?_))) (hM:MSub (M x0++f) μ:=by (repeat (first|exact mN | refine mS .here rfl ?_ | refine mS oM rfl ?_ | refine mS oP rfl ?_ | refine mS oQ rfl ?_ | refine mS oR rfl ?_ | refine mS oS rfl ?_ | refine mS oT rfl ?_ | refine mS oU rfl ?_ | refine mS oV rfl ?_ | refine mS oW rfl ?_ | refine mS oN rfl ?_ | refine mS oO rfl ?_))) (hF:F x0 G:=by (try dsimp only)<;>((repeat' refine And.intro ?_ ?_)<;>(first|omega|rfl|assumption|trivial|(simp; done)))):Wk X (.loop c) k ρ G μ:=Wk.lop E M F m x0 e f hE hM hF h
def lpo {α:Type} {g:PM} {E:α->aF} {M:α->aB} {F:α->PM->Prop} {m:α->Nat} {N:Nat} {c:aF} {e:aB} (y:α)
  (hE:ESub (E y++c) ρ:=by (repeat (first|exact eZ | refine jG rfl ?_ | refine cB rfl (fE (by omega)) ?_))) (hM:MSub (M y++e) μ:=by (repeat (first|exact mN | refine mS .here rfl ?_ | refine mS oM rfl ?_ | refine mS oP rfl ?_ | refine mS oQ rfl ?_ | refine mS oR rfl ?_ | refine mS oS rfl ?_ | refine mS oT rfl ?_ | refine mS oU rfl ?_ | refine mS oV rfl ?_ | refine mS oW rfl ?_ | refine mS oN rfl ?_ | refine mS oO rfl ?_))) (hm:m y<N:=by first|omega|(dsimp only; omega)) (f:PM.le g G:=by (repeat (first|assumption|exact PM.le.refl _ | refine PM.le.trans ?_ (by assumption)))) (hF:F y G:=by (try dsimp only)<;>((repeat' refine And.intro ?_ ?_)<;>(first|omega|rfl|assumption|trivial|(simp; done)))) :
  We X .normal (.lp (fun a w=>∃ y,m y<N∧Inv X g (fun x=>E x++c) (fun x=>M x++e) F y a w) :: k) ρ G μ:=We.lpo y hE hM hm f hF
def aI {a:List ResultVar} (e:X.post G [] (fX vs)) (c:X.fn.results=a.toArray:=by rfl) (h:Rs X.P ρ G μ a vs:=by first|exact .nil|exact .tmp rfl .nil|exact .tmp rfl (.tmp rfl .nil)|exact .tmp rfl (.tmp rfl (.tmp rfl .nil))|exact .tmp rfl (.tmp rfl (.tmp rfl (.tmp rfl .nil)))) (hd:X.n.ds=[]:=by rfl):We X .ret [] ρ G μ:=aAx c h e hd
def aR {c:List ResultVar} {a:aB} (hM:MSub a μ) (f:X.post G a (fX vs)) (e:X.fn.results=c.toArray:=by rfl) (h:Rs X.P ρ G μ c vs:=by first|exact .nil|exact .tmp rfl .nil|exact .tmp rfl (.tmp rfl .nil)|exact .tmp rfl (.tmp rfl (.tmp rfl .nil))|exact .tmp rfl (.tmp rfl (.tmp rfl (.tmp rfl .nil)))) (hd:X.n.ds=[]:=by rfl):We X .ret [] ρ G μ:=We.fin e h hM f hd
def jK {a:List ResultVar} (e:X.post G [] (fX vs)) (c:X.fn.results=a.toArray:=by rfl) (h:Rs X.P ρ G μ a vs:=by exact .cell rfl (fun w hw=>mW (za rfl) (RdN.own (by (first|exact .here|exact oM|exact oP|exact oQ|exact oR|exact oS|exact oT|exact oU|exact oV|exact oW|exact oN|exact oO))) (by first|exact qL|rfl) hw) .nil) (hd:X.n.ds=[]:=by rfl):We X .ret [] ρ G μ:=We.fin c h mN e hd
def kN {a:List ResultVar} (e:X.post G [] (fX vs)) (c:X.fn.results=a.toArray:=by rfl) (h:Rs X.P ρ G μ a vs:=by exact .cell rfl (fun w hw=>mW (za rfl) (RdN.own (by (first|exact .here|exact oM|exact oP|exact oQ|exact oR|exact oS|exact oT|exact oU|exact oV|exact oW|exact oN|exact oO))) (by first|exact qL|rfl) hw) (.tmp rfl .nil)) (hd:X.n.ds=[]:=by rfl):We X .ret [] ρ G μ:=We.fin c h mN e hd
def zS {a:List ResultVar} (e:X.post G [] (fX vs)) (c:X.fn.results=a.toArray:=by rfl) (h:Rs X.P ρ G μ a vs:=by exact .cell rfl (fun w hw=>mW (za rfl) (RdN.own (by (first|exact .here|exact oM|exact oP|exact oQ|exact oR|exact oS|exact oT|exact oU|exact oV|exact oW|exact oN|exact oO))) (by first|exact qL|rfl) hw) (.cell rfl (fun w hw=>mW (za rfl) (RdN.own (by (first|exact .here|exact oM|exact oP|exact oQ|exact oR|exact oS|exact oT|exact oU|exact oV|exact oW|exact oN|exact oO))) (by first|exact qL|rfl) hw) .nil)) (hd:X.n.ds=[]:=by rfl):We X .ret [] ρ G μ:=We.fin c h mN e hd
def fMc {c:List ResultVar} {a:aB} (hM:MSub a μ) (f:X.post G a (fX vs)) (e:X.fn.results=c.toArray:=by rfl) (h:Rs X.P ρ G μ c vs:=by exact .cell rfl (fun w hw=>mW (za rfl) (RdN.own (by (first|exact .here|exact oM|exact oP|exact oQ|exact oR|exact oS|exact oT|exact oU|exact oV|exact oW|exact oN|exact oO))) (by first|exact qL|rfl) hw) .nil) (hd:X.n.ds=[]:=by rfl):We X .ret [] ρ G μ:=We.fin e h hM f hd
end
def aD {P:Program} {f:FuncId} {fn:Func} {c:Code} {G:PM} {μ:aB} (g:P.funcs[f]? = some fn) (a:fn.ntmps=n) (h:∀ w0,Sat G μ w0->Wk ⟨P,fn,zR n (fun _ _ _=>False),G,keys μ,w0,post,fun _ _ _=>False,aFX⟩ c [] (zM 0 vs) G μ) (i:fn.body=some c:=by rfl) (e:Nat.ble vs.length n=true:=by rfl):Ct P f vs.toArray G μ post:=Ct.of g i a e h
def lT (ρ:aF):List Operand->Option (List Value)
 | []=>some []
 | x :: r=>match oE ρ x,lT ρ r with
  | some v,some vs=>some (v :: vs)
  | _,_=>none
theorem xG {ρ:aF} {n:Fm} {c:Bool}:∀ {xs:List Operand} {vs:List Value},lT ρ xs=some vs->∀ a,Ag n ρ a->c=true->xs.map a.eval=vs
 | [],vs,h=>by cases h; simp
 | x :: r,vs,h=>by
  rw [lT] at h;split at h
  ·rename_i h1 h2; cases h; exact Eva.cons (.u (jU h1)) (xG h2)
  grind
section
variable {dr:Bool} {mc:Md} {P:Program} {n:Fm} {l:List Oper} {K:aF→PM→aB→Prop} {i:Nat} {σ:List Nat} {ρ:aF} {G:PM} {μ:aB}
variable {d t:Nat} {p:String} {af:Array Edge} {f:FuncId} {xs:List Operand} {tys:Array TypeId} {vs:List Value} {dd:Option Nat} [T:TTab P]
def kV {v:Value} (c:nth l i=some ⟨some d,.call { callee:=.value (.func f),args:=xs.toArray,argTypes:=tys },t,p,af,none⟩) (g:(Nat.blt f T.n && !pF T.x f)=true) (a:lT ρ xs=some vs)
  (e:Ct P f vs.toArray G [] fun _ μ' u=>μ'=[]∧u=v) (h:Wo dr mc P n l K σ ((d,true,v) :: ρ) G μ):Wo dr mc P n l K (i :: σ) ρ G μ:=kv c .no (zf g) (xG a) (fun _=>e) h
def kC (c:nth l i=some ⟨dd,.call { callee:=.value (.func f),args:=xs.toArray,argTypes:=tys },t,p,af,none⟩) (g:(Nat.blt f T.n && !pF T.x f)=true) (a:lT ρ xs=some vs) (e:Ct P f vs.toArray G [] post) (h:∀ v G' μ',PM.le G G'->post G' μ' v->Wo dr mc P n l K σ (bV ρ dd true v) G' (μ'++μ)):Wo dr mc P n l K (i :: σ) ρ G μ:=kc c (zf g) (xG a) e h
def dH {μ₁ μ₂:aB} (g:nth l i=some ⟨dd,.call { callee:=.value (.func f),args:=xs.toArray,argTypes:=tys },t,p,af,none⟩) (hm:mc.c=true∨dr=false) (k:(Nat.blt f T.n && !pF T.x f)=true) (a:lT ρ xs=some vs) (e:μ.Perm (μ₁++μ₂)) (j:Ct P f vs.toArray G μ₁ post) (h:∀ v G' μ',PM.le G G'->post G' μ' v->Wo dr mc P n l K σ (bV ρ dd true v) G' (μ'++μ₂)):Wo dr mc P n l K (i :: σ) ρ G μ:=ka g hm (zf k) (xG a) e j h
def kP {v:Value} {Gp:PM} (e:nth l i=some ⟨some d,.call { callee:=.value (.func f),args:=xs.toArray,argTypes:=tys },t,p,af,none⟩) (j:(Nat.blt f T.n && !pF T.x f)=true) (a:lT ρ xs=some vs) (c:GpR G μ Gp Q) (g:PM.le G Gp->Q->Ct P f vs.toArray Gp [] fun _ μ' u=>μ'=[]∧u=v) (h:Wo dr mc P n l K σ ((d,true,v) :: ρ) G μ):Wo dr mc P n l K (i :: σ) ρ G μ:=kp e .no (zf j) (xG a) c (fun _=>g) h
end
def zg (n:Nat) {A B:Prop} (a:A) (h:Cn 0 A->Cn n B:=by
  intro h;(repeat (first
   |exact h
    | (refine aUU ?_
       first
       | refine Cn.s (pl rfl rfl) ?_
       | refine Cn.s .nil ?_
       | (refine aUO rfl ?_
          first
          | refine Cn.s (ld rfl .no (za rfl) (.u rfl) (fun _=>Rd.own (by first|exact .here|exact oM|exact oP|exact oQ|exact oR|exact oS|exact oT|exact oU|exact oV|exact oW|exact oN|exact oO) (by first|rfl|exact wap_f rfl))) ?_
          | refine Cn.s (ld rfl .no (za rfl) (.u rfl) (fun _=>(PB.rd (by assumption) (by first|rfl|exact wap_f rfl)).rd)) ?_
          | refine Cn.s (lAo rfl rfl rfl (by first|exact .here|exact oM|exact oP|exact oQ|exact oR|exact oS|exact oT|exact oU|exact oV|exact oW|exact oN|exact oO) (by first|exact qL|rfl)) ?_
          | refine Cn.s (lAp rfl rfl rfl (by first|exact .here|exact oM|exact oP|exact oQ|exact oR|exact oS|exact oT|exact oU|exact oV|exact oW|exact oN|exact oO) rfl (by first|exact qL|rfl)) ?_
          | refine Cn.s (lA rfl .no (za rfl) (.u rfl) (fun _=>(PB.rdn (by assumption) rfl).rd) (fun _=>(by first|exact qL|rfl))) ?_)
       | (refine aUR rfl ?_
          first
          | refine Cn.s (s1z rfl rfl rfl rfl rfl (by first|exact .here|exact oM|exact oP|exact oQ|exact oR|exact oS|exact oT|exact oU|exact oV|exact oW|exact oN|exact oO) (by first|exact qF rfl|decide) rfl) ?_
          | refine Cn.s (sW rfl rfl rfl rfl rfl (by first|exact .here|exact oM|exact oP|exact oQ|exact oR|exact oS|exact oT|exact oU|exact oV|exact oW|exact oN|exact oO) (by first|exact qE|rfl) (by first|exact qO|decide)) ?_)
       | (refine aUN rfl ?_
          refine Cn.s (iA rfl .no (zr rfl) (.u rfl) (.u rfl) (fun _=>by first|omega|decide) (fun _=>by first|omega|decide)) ?_)
       | (refine aUQ rfl ?_
          first
          | refine Cn.s (jA rfl .no (.u rfl) (.s rfl)) ?_
          | refine Cn.s (oI rfl .no (.u rfl) (.s rfl)) ?_)
       | (refine aUL rfl ?_
          refine Cn.s (fa rfl .no (zo rfl) (.u rfl)) ?_)
       | (refine aUP rfl ?_
          first
          | refine Cn.s (ln rfl .no (zn rfl) (.u rfl)) ?_
          | refine Cn.s (ls rfl .no (zt rfl) (.u rfl)) ?_)
       | (refine aUJ rfl ?_
          first
          | refine Cn.s (bw rfl .no rfl (.u rfl) (.u rfl) rfl) ?_
          | refine Cn.s (bwc rfl rfl rfl rfl rfl rfl) ?_
          | refine Cn.s (aN rfl rfl (by omega)) ?_
          | refine Cn.s (ar rfl .no (.u rfl) (.u rfl) rfl (fun _=>cP (by omega) (by omega))) ?_
          | refine Cn.s (ar rfl .no (.u rfl) (.u rfl) rfl (fun _=>lC (by omega) (by omega))) ?_)
       | (refine aUK rfl ?_
          first
          | refine Cn.s (cu rfl .no rfl (zv rfl rfl) (.u rfl)) ?_
          | refine Cn.s (ci rfl .no rfl (zv rfl rfl) (.u rfl)) ?_)
       | (refine aUM rfl ?_
          first
          | refine Cn.s (mv rfl (by first|exact .t rfl rfl|exact .f rfl rfl|exact .tc rfl rfl|exact .fc rfl rfl) (by first|exact .u rfl|exact .s rfl|exact .l (.s rfl)|exact .l (.l (.s rfl))|exact .l (.l (.l (.s rfl))))) ?_
          | refine Cn.s (asg rfl (by first|exact .t rfl rfl|exact .f rfl rfl|exact .tc rfl rfl|exact .fc rfl rfl) (by first|exact .u rfl|exact .s rfl|exact .l (.s rfl)|exact .l (.l (.s rfl))|exact .l (.l (.l (.s rfl))))) ?_
          | refine Cn.s (fz rfl (by first|exact .t rfl rfl|exact .f rfl rfl|exact .tc rfl rfl|exact .fc rfl rfl) (zo rfl) (by first|exact .u rfl|exact .s rfl|exact .l (.s rfl)|exact .l (.l (.s rfl))|exact .l (.l (.l (.s rfl))))) ?_
          | refine Cn.s (nc rfl (by first|exact .t rfl rfl|exact .f rfl rfl|exact .tc rfl rfl|exact .fc rfl rfl) (by first|exact .u rfl|exact .s rfl|exact .l (.s rfl)|exact .l (.l (.s rfl))|exact .l (.l (.l (.s rfl))))) ?_
          | refine Cn.s (cp rfl (by first|exact .t rfl rfl|exact .f rfl rfl|exact .tc rfl rfl|exact .fc rfl rfl) (by first|exact .u rfl|exact .s rfl|exact .l (.s rfl)|exact .l (.l (.s rfl))|exact .l (.l (.l (.s rfl)))) (by first|exact .u rfl|exact .s rfl|exact .l (.s rfl)|exact .l (.l (.s rfl))|exact .l (.l (.l (.s rfl)))) rfl) ?_
          | refine Cn.s (ld rfl (by first|exact .t rfl rfl|exact .f rfl rfl|exact .tc rfl rfl|exact .fc rfl rfl) (za rfl) (by first|exact .u rfl|exact .s rfl|exact .l (.s rfl)|exact .l (.l (.s rfl))|exact .l (.l (.l (.s rfl)))) (fun _=>Rd.own (by first|exact .here|exact oM|exact oP|exact oQ|exact oR|exact oS|exact oT|exact oU|exact oV|exact oW|exact oN|exact oO) (by first|rfl|exact wap_f rfl))) ?_
          | refine Cn.s (ld rfl (by first|exact .t rfl rfl|exact .f rfl rfl|exact .tc rfl rfl|exact .fc rfl rfl) (za rfl) (by first|exact .u rfl|exact .s rfl|exact .l (.s rfl)|exact .l (.l (.s rfl))|exact .l (.l (.l (.s rfl)))) (fun _=>(PB.rd (by assumption) (by first|rfl|exact wap_f rfl)).rd)) ?_
          | refine Cn.s (fa rfl (by first|exact .t rfl rfl|exact .f rfl rfl|exact .tc rfl rfl|exact .fc rfl rfl) (zo rfl) (by first|exact .u rfl|exact .s rfl|exact .l (.s rfl)|exact .l (.l (.s rfl))|exact .l (.l (.l (.s rfl))))) ?_
          | refine Cn.s (nt rfl (by first|exact .t rfl rfl|exact .f rfl rfl|exact .tc rfl rfl|exact .fc rfl rfl) (by first|exact .u rfl|exact .s rfl|exact .l (.s rfl)|exact .l (.l (.s rfl))|exact .l (.l (.l (.s rfl))))) ?_
          | refine Cn.s (ln rfl (by first|exact .t rfl rfl|exact .f rfl rfl|exact .tc rfl rfl|exact .fc rfl rfl) (zn rfl) (by first|exact .u rfl|exact .s rfl|exact .l (.s rfl)|exact .l (.l (.s rfl))|exact .l (.l (.l (.s rfl))))) ?_
          | refine Cn.s (ls rfl (by first|exact .t rfl rfl|exact .f rfl rfl|exact .tc rfl rfl|exact .fc rfl rfl) (zt rfl) (by first|exact .u rfl|exact .s rfl|exact .l (.s rfl)|exact .l (.l (.s rfl))|exact .l (.l (.l (.s rfl))))) ?_))
    | (refine aUT ?_
       first
       | refine Cn.s (zkk rfl) ?_
       | refine Cn.s (aPk rfl) ?_
       | refine Cn.s (zke rfl) ?_
       | refine Cn.s (aPj rfl rfl) ?_
       | refine Cn.s (vF rfl rfl) ?_)
    | (refine aUS ?_
       first
       | refine Cn.s (zek rfl) ?_
       | refine Cn.s (zee rfl) ?_)))):B:=(h ⟨a⟩).out
def bH {a:Res} {μ:aB}:MSub [a] (a :: μ):=mS .here rfl mN
def dG {c a:Res} {μ:aB}:MSub [c,a] (c :: a :: μ):=mS .here rfl bH
def ms3 {e c a:Res} {μ:aB}:MSub [e,c,a] (e :: c :: a :: μ):=mS .here rfl dG
def wD {f e c a:Res} {μ:aB}:MSub [f,e,c,a] (f :: e :: c :: a :: μ):=mS .here rfl ms3
def ms5 {g f e c a:Res} {μ:aB}:MSub [g,f,e,c,a] (g :: f :: e :: c :: a :: μ):=mS .here rfl wD
def ms6 {h g f e c a:Res} {μ:aB}:MSub [h,g,f,e,c,a] (h :: g :: f :: e :: c :: a :: μ):=mS .here rfl ms5
def es {a ρ:aF} (h:ESub a ρ:=by (repeat (first | exact eZ | refine jG rfl ?_))):ESub a ρ:=h
def o3 {p:Prop} (h:p:=by first | omega | ((try simp only [Bool.and_eq_true,decide_eq_true_eq,Bool.or_eq_false_iff,decide_eq_false_iff_not] at *); omega) | (simp only [List.length_cons,List.length_nil]; omega)):p:=h
section
variable {dr:Bool} {mc:Md} {P:Program} {n:Fm} {l:List Oper} {K:aF→PM→aB→Prop} {i:Nat} {σ:List Nat} {ρ:aF} {G:PM} {μ:aB}
variable {d t:Nat} {p:String} {af:Array Edge} {f:FuncId} {xs:List Operand} {tys:Array TypeId} {vs:List Value} {dd:Option Nat} [T:TTab P]
def aK {v:Value} (e:(nth l i,Nat.blt f T.n && !pF T.x f,lT ρ xs)=(some ⟨some d,.call { callee:=.value (.func f),args:=xs.toArray,argTypes:=tys },t,p,af,none⟩,true,some vs))
  (a:Ct P f vs.toArray G [] fun _ μ' u=>μ'=[]∧u=v) (h:Wo dr mc P n l K σ ((d,true,v) :: ρ) G μ):Wo dr mc P n l K (i :: σ) ρ G μ:=by
 simp only [Prod.mk.injEq] at e; exact kV e.1 e.2.1 e.2.2 a h
def aS (e:(nth l i,Nat.blt f T.n && !pF T.x f,lT ρ xs)=(some ⟨dd,.call { callee:=.value (.func f),args:=xs.toArray,argTypes:=tys },t,p,af,none⟩,true,some vs)) (a:Ct P f vs.toArray G [] post) (h:∀ v G' μ',PM.le G G'->post G' μ' v->Wo dr mc P n l K σ (bV ρ dd true v) G' (μ'++μ)):Wo dr mc P n l K (i :: σ) ρ G μ:=by
 simp only [Prod.mk.injEq] at e; exact kC e.1 e.2.1 e.2.2 a h
def eX {v:Value} {Gp:PM} (e:(nth l i,Nat.blt f T.n && !pF T.x f,lT ρ xs)=(some ⟨some d,.call { callee:=.value (.func f),args:=xs.toArray,argTypes:=tys },t,p,af,none⟩,true,some vs)) (a:GpR G μ Gp Q) (c:PM.le G Gp->Q->Ct P f vs.toArray Gp [] fun _ μ' u=>μ'=[]∧u=v) (h:Wo dr mc P n l K σ ((d,true,v) :: ρ) G μ):Wo dr mc P n l K (i :: σ) ρ G μ:=by
 simp only [Prod.mk.injEq] at e; exact kP e.1 e.2.1 e.2.2 a c h
def aP {μ₁ μ₂:aB} (e:(nth l i,Nat.blt f T.n && !pF T.x f,lT ρ xs)=(some ⟨dd,.call { callee:=.value (.func f),args:=xs.toArray,argTypes:=tys },t,p,af,none⟩,true,some vs)) (a:μ.Perm (μ₁++μ₂)) (g:Ct P f vs.toArray G μ₁ post) (h:∀ v G' μ',PM.le G G'->post G' μ' v->Wo dr mc P n l K σ (bV ρ dd true v) G' (μ'++μ₂)) (hm:mc.c=true∨dr=false:=by first | exact .inl rfl | exact .inr rfl):Wo dr mc P n l K (i :: σ) ρ G μ:=by
 simp only [Prod.mk.injEq] at e; exact dH e.1 hm e.2.1 e.2.2 a g h
def aM {a:Addr} {v:Value} (e:(nth l i,(fB T.l ty).map TI.agg,ev ρ x)=(some ⟨some d,.load ty x,t,p,af,none⟩,some none,some (true,.pointer (some a)))) (c:Rd G μ a v) (h:Wo dr mc P n l K σ ((d,true,v) :: ρ) G μ):Wo dr mc P n l K (i :: σ) ρ G μ:=by
 simp only [Prod.mk.injEq] at e; exact ld e.1 .no (za e.2.1) (.u e.2.2) (fun _=>c) h
def aY {b o:Nat} {cs:List Value} (e:(nth l i,(fB T.l ty).map TI.agg,ev ρ x)=(some ⟨some d,.load ty x,t,p,af,none⟩,some (some m),some (true,.pointer (some ⟨b,o,none⟩)))) (a:RdN G μ b o cs) (c:cs.length=m) (h:Wo dr mc P n l K σ ((d,true,.agg cs.toArray) :: ρ) G μ):Wo dr mc P n l K (i :: σ) ρ G μ:=by
 simp only [Prod.mk.injEq] at e; exact lA e.1 .no (za e.2.1) (.u e.2.2) (fun _=>a) (fun _=>c) h
def qG {g a:Nat} {k:IntKind} {s:Sh} {j:Int} (e:(nth l i,fB T.l ty,ev ρ x,ev ρ y)=(some ⟨some d,.indexAddr ty x y,t,p,af,none⟩,some (.sl g sz a),some (true,s.val m),some (true,.int k j))) (f:0<=j) (h1:j<m) (c:s.oa=some ⟨s.b,s.o,none⟩) (h:Wo dr mc P n l K σ ((d,true,.pointer (some ⟨s.b,s.o+j.toNat*sz,none⟩)) :: ρ) G μ):Wo dr mc P n l K (i :: σ) ρ G μ:=by
 simp only [Prod.mk.injEq] at e; exact ih e.1 .no (zl e.2.1) (.u e.2.2.1) (.u e.2.2.2) (fun _=>f) (fun _=>h1) (fun _=>c) h
def cN {α:Type} {enc:α->List Value} {a:Nat} {ys:List α} {v:Nat} {k:IntKind} {s:Sh} {j:Int} (e:(nth l i,fB T.l ty,ev ρ x,ev ρ y)=(some ⟨some d,.indexAddr ty x y,t,p,af,none⟩,some (.sl v sz c),some (true,s.val m),some (true,.int k j))) (f:SlR G a enc s ys) (q:Nat) (h:Wo dr mc P n l K σ ((d,true,.pointer (some ⟨s.b,s.o+j.toNat*sz,none⟩)) :: ρ) G μ) (r:0<=j:=by exact o3) (h1:j<m:=by exact o3) (g:q<ys.length:=by exact o3):Wo dr mc P n l K (i :: σ) ρ G μ:=qG e r h1 (f.nn g) h
def iO {f a:Nat} {k:IntKind} {b o cp:Nat} {j:Int} (e:(nth l i,fB T.l ty,ev ρ x,ev ρ y)=(some ⟨some d,.indexAddr ty x y,t,p,af,none⟩,some (.sl f sz a),some (true,.slice (some ⟨b,o,none⟩) m cp),some (true,.int k j))) (c:0<=j) (h1:j<m) (h:Wo dr mc P n l K σ ((d,true,.pointer (some ⟨b,o+j.toNat*sz,none⟩)) :: ρ) G μ):Wo dr mc P n l K (i :: σ) ρ G μ:=by
 simp only [Prod.mk.injEq] at e; exact ia e.1 .no (zl e.2.1) (.u e.2.2.1) (.u e.2.2.2) (fun _=>c) (fun _=>h1) h
def bD {ty:TypeId} {v:Value} {cs:List Value} (e:(nth l i,ev ρ x,v.cells)=(some ⟨some d,.box ty x,t,p,af,none⟩,some (true,v),cs.toArray)) (h:∀ b,Wo dr mc P n l K σ ((d,true,.pointer (some ⟨b,0,none⟩)) :: ρ) G (.blk b (cl cs ty) :: μ)):Wo dr mc P n l K (i :: σ) ρ G μ:=by
 simp only [Prod.mk.injEq] at e; exact bx e.1 (.u e.2.1) e.2.2 h
def dS {b:Nat} {v:Value} {cs vs:List Value} {a:aB} (e:(nth l i,ev ρ x,ev ρ y,v.cells,(fB T.l ty).map TI.cells)=(some ⟨none,.store ty x y,t,p,af,none⟩,some (true,.pointer (some ⟨b,0,none⟩)),some (true,v),vs.toArray,some vs.length)) (hm:MTake μ (.blk b (cl cs c)) a) (f:vs.length=cs.length) (h1:∀ u∈vs,u.oneCell'=true) (h:Wo dr mc P n l K σ ρ G (.blk b (cl vs c) :: a)):Wo dr mc P n l K (i :: σ) ρ G μ:=by
 simp only [Prod.mk.injEq] at e; exact sw e.1 (.u e.2.1) (.u e.2.2.1) e.2.2.2.1 (zs e.2.2.2.2) hm f h1 h
def cL {b o:Nat} {v:Value} {cs:List Value} {a:aB} (e:(nth l i,ev ρ x,ev ρ y,v.oneCell',(fB T.l ty).map TI.cells)=(some ⟨none,.store ty x y,t,p,af,none⟩,some (true,.pointer (some ⟨b,o,none⟩)),some (true,v),true,some 1)) (hm:MTake μ (.blk b (cl cs c)) a) (g:o<cs.length) (f:cs.set o v=cs') (h:Wo dr mc P n l K σ ρ G (.blk b (cl cs' c) :: a)):Wo dr mc P n l K (i :: σ) ρ G μ:=by
 simp only [Prod.mk.injEq] at e; exact s1 e.1 (.u e.2.1) (.u e.2.2.1) e.2.2.2.1 (zs e.2.2.2.2) hm g f h
def cW {b o:Nat} {v:Value} {ys cs:List Value} {a f:aB} (e:(nth l i,ev ρ x,ev ρ y,(fB T.l ty).map TI.cells)=(some ⟨none,.store ty x y,t,p,af,none⟩,some (true,.pointer (some ⟨b,o,none⟩)),some (true,v),some 1)) (j:MTake μ (.row v E sz m ys) f) (hm:MTake μ (.blk b (cl cs c)) a) (k:o<cs.length) (g:cs.set o v=cs') (h:Wo dr mc P n l K σ ρ G (.blk b (cl cs' c) :: a)):Wo dr mc P n l K (i :: σ) ρ G μ:=by
 simp only [Prod.mk.injEq] at e; exact s1v e.1 (.u e.2.1) (.u e.2.2.1) j (zs e.2.2.2) hm k g h
def kJ {S D:Nat} {k c:IntKind} {a:Int} (e:(nth l i,fB T.l S,fB T.l D,ev ρ x)=(some ⟨some d,.convert S D x,t,p,af,none⟩,some (.i k),some (.i c),some (true,.int k a))) (f:c.wrap a=a) (h:Wo dr mc P n l K σ ((d,true,.int c a) :: ρ) G μ):Wo dr mc P n l K (i :: σ) ρ G μ:=by
 simp only [Prod.mk.injEq] at e; exact cw e.1 .no (zv e.2.1 e.2.2.1) (.u e.2.2.2) (fun _=>f) h
def eN {op:BinOp} {k:IntKind} {g f r:Int} (a:Int) (e:(nth l i,ev ρ x,ev ρ y,yY op g f)=(some ⟨some d,.binOp op ty x y c,t,p,af,none⟩,some (true,.int k g),some (true,.int k f),some r)) (m:r=a) (j:k.wrap a=a) (h:Wo dr mc P n l K σ ((d,true,.int k a) :: ρ) G μ):Wo dr mc P n l K (i :: σ) ρ G μ:=by
 simp only [Prod.mk.injEq] at e; exact arn a e.1 .no (.u e.2.1) (.u e.2.2.1) e.2.2.2 (fun _=>m) (fun _=>j) h
def wC {fn:Go.Fn} {g cs:List Operand} {vf vc:List Value} (e:(nth l i,lT ρ g,lT ρ cs)=(some ⟨some d,.makeFunc fn g.toArray cs.toArray,t,p,af,none⟩,some vf,some vc))
  (h:Wo dr mc P n l K σ ((d,true,.func fn vf.toArray vc.toArray) :: ρ) G μ):Wo dr mc P n l K (i :: σ) ρ G μ:=by
 simp only [Prod.mk.injEq] at e;exact mf e.1 .no (fun a f _=>by rw [qa8,xG (c:=true) e.2.1 a f rfl]) (fun a f _=>by rw [qa8,xG (c:=true) e.2.2 a f rfl]) h
end
section
variable {X:Cx} {k:List KI} {ρ:aF} {G:PM} {μ:aB} {x y:Code}
def cz {e c:Prop} {b:Bool} {a:Operand} (g:ev ρ a=some (true,.bool b)) (ht:e->Wk X x k ρ G μ) (f:c->Wk X y k ρ G μ) (h1:b=true->e:=by intro h; (try simp only [decide_eq_true_eq,decide_eq_false_iff_not,Int.not_lt,Int.not_le,gt_iff_lt,ge_iff_le,Bool.or_eq_true,Bool.and_eq_true,Bool.or_eq_false_iff,Bool.not_eq_true',Bool.not_eq_false',Int.toNat_natCast,bne_iff_ne,beq_iff_eq,bne_eq_false_iff_eq,beq_eq_false_iff_ne,ne_eq] at h); exact h)
  (h2:b=false->c:=by intro h; (try simp only [decide_eq_true_eq,decide_eq_false_iff_not,Int.not_lt,Int.not_le,gt_iff_lt,ge_iff_le,Bool.or_eq_true,Bool.and_eq_true,Bool.or_eq_false_iff,Bool.not_eq_true',Bool.not_eq_false',Int.toNat_natCast,bne_iff_ne,beq_iff_eq,bne_eq_false_iff_eq,beq_eq_false_iff_ne,ne_eq] at h); exact h):Wk X (.cond a x y) k ρ G μ:=.cond g (fun h=>ht (h1 h)) (fun h=>f (h2 h))
end
def clL (v:Value):List Value:=v.cells.toList
def aJR {n:Fm} {ρ:aF}:∀ {ps:List (Nat×Operand)} {vs:List Value},lT ρ (ps.map (·.2))=some vs->EvC n ρ true ps vs (vs.map clL)
 | [],vs,h=>by cases h; exact .nil
 | (j,x) :: r,vs,h=>by
  rw [List.map_cons,lT] at h;split at h
  ·rename_i h1 h2; cases h; exact .cons (.u (jU h1)) (by simp [clL]) (aJR h2)
  cases h
def fD {dr:Bool} {mc:Md} {P:Program} {n:Fm} {l:List Oper} {K:aF->PM->aB->Prop} {σ:List Nat} {ρ:aF} {G:PM} {μ:aB} {d t:Nat} {p:String} {af:Array Edge} {ps:List (Nat×Operand)} {js:List Nat} {zs:List Value} {pls:List (Nat×Nat)} (cs:List Value) (hF:cU P ty js=some (zs,pls)) (e:(nth l i,ps.map (·.1),lT ρ (ps.map (·.2)),yZ zs.length pls (vs.map clL),rR zs pls (vs.map clL))=(some ⟨some d,.build ty ps.toArray,t,p,af,none⟩,js,some vs,true,cs)) (h:Wo dr mc P n l K σ ((d,true,.agg cs.toArray) :: ρ) G μ):Wo dr mc P n l K (i :: σ) ρ G μ:=by
 simp only [Prod.mk.injEq] at e; exact eH cs e.1 .no (e.2.1 ▸ hF) (aJR e.2.2.1) e.2.2.2.1 e.2.2.2.2 h
theorem uE {xs ys:List Value} (h1:∀ u∈xs,u.oneCell'=true) (h2:∀ u∈ys,u.oneCell'=true):∀ u∈xs++ys,u.oneCell'=true:=by
 grind
theorem jE {y:Nat->W} {r:List Value} {j:Int} {o:Nat} (a:Nat) (c:o+j.toNat*1=a) (h:a<n):(wa n y++r)[o+j.toNat*1]? = some (U (y a)):=by
 grind[cO,aEC]
def uP {y:Nat->W} {r:List Value} {j:Int} {z:W} {o:Nat} (a:Nat) (c:o+j.toNat*1=a) (h:a<n):(wa n y++r).set (o+j.toNat*1) (U z)=wa n (bA y a z)++r:=by
 simp_all[cO,aN6]
def aN8 {o:Nat} {y:Nat->W} {r a:List Value} {v:Value} (h:r.set (o-n) v=a) (c:n<=o:=by decide):(wa n y++r).set o v=wa n y++a:=by
 simp_all[cO]
def aKm {j:Int} {o:Nat} (a:Nat) (c:o+j.toNat*1=a) (h:a<xs.length):(xs.map V)[o+j.toNat*1]? = some (V (xs.getD a 0)):=by
 simp_all
def bBP {f f':Nat->W} (h:∀ i,i<n->f i=f' i):wa n f=wa n f':=by
 simp_all[wa]
def pO (x:W) (k:Nat):W:=x <<< (32-k) ||| x >>> k
def aYE {x:W} {k:Nat} (h:k∈[2,6,7,11,13,17,18,19,22,25]):aMF x (-(k:Int))=pO x k:=by
 simp only [qe,qf,or_false] at h;rcases h with rfl|rfl|rfl|rfl|rfl|rfl|rfl|rfl|rfl|rfl<;>rfl
def kL:List W:=[0x428a2f98,0x71374491,0xb5c0fbcf,0xe9b5dba5,0x3956c25b,0x59f111f1,0x923f82a4,0xab1c5ed5,0xd807aa98,0x12835b01,0x243185be,0x550c7dc3,0x72be5d74,0x80deb1fe,0x9bdc06a7,0xc19bf174,0xe49b69c1,0xefbe4786,0x0fc19dc6,0x240ca1cc,0x2de92c6f,0x4a7484aa,0x5cb0a9dc,0x76f988da,0x983e5152,0xa831c66d,0xb00327c8,0xbf597fc7,0xc6e00bf3,0xd5a79147,0x06ca6351,0x14292967,0x27b70a85,0x2e1b2138,0x4d2c6dfc,0x53380d13,0x650a7354,0x766a0abb,0x81c2c92e,0x92722c85,0xa2bfe8a1,0xa81a664b,0xc24b8b70,0xc76c51a3,0xd192e819,0xd6990624,0xf40e3585,0x106aa070,0x19a4c116,0x1e376c08,0x2748774c,0x34b0bcb5,0x391c0cb3,0x4ed8aa4a,0x5b9cca4f,0x682e6ff3,0x748f82ee,0x78a5636f,0x84c87814,0x8cc70208,0x90befffa,0xa4506ceb,0xbef9a3f7,0xc67178f2]
def kW:Nat->W:=fun i=>kL.getD i 0
def ivL:List W:=[1779033703,3144134277,1013904242,2773480762,1359893119,2600822924,528734635,1541459225]
def ivW:Nat->W:=fun i=>ivL.getD i 0
def beW (b:Nat->Y) (i:Nat):W:=(b i).setWidth 32 <<< 24 ||| (b (i+1)).setWidth 32 <<< 16 ||| (b (i+2)).setWidth 32 <<< 8 ||| (b (i+3)).setWidth 32
def shB (f:Nat->Y) (i:Nat):Nat->W
 | 0=>0#32
 | c+1=>shB f i c <<< 8 ||| (f (4*i+c)).setWidth 32
def aYv (f:Nat->Y) (i:Nat):shB f i 4=beW f (4*i):=by
 simp[shB,beW,BitVec.shiftLeft_or_distrib]
def s0W (x:W):W:=pO x 7 ^^^ pO x 18 ^^^ x >>> 3
def s1W (x:W):W:=pO x 17 ^^^ pO x 19 ^^^ x >>> 10
def rG (b:Nat->Y):Nat->Nat->W
 | 0=>fun _=>0#32
 | k+1=>bA (rG b k) k (beW b (4*k))
def pQ (b:Nat->Y):Nat->Nat->W
 | 0=>rG b 16
 | k+1=>bA (pQ b k) (16+k) (pQ b k k+pQ b k (9+k)+s0W (pQ b k (1+k))+s1W (pQ b k (14+k)))
def chW (e f g:W):W:=g ^^^ (e &&& (f ^^^ g))
def aVk (a b c:W):W:=a &&& b ||| c &&& (a ||| b)
def tW (x:Nat->W) (k w:W):W:=x 7+(pO (x 4) 6 ^^^ pO (x 4) 11 ^^^ pO (x 4) 25)+chW (x 4) (x 5) (x 6)+k+w
def uW (x:Nat->W):W:=(pO (x 0) 2 ^^^ pO (x 0) 13 ^^^ pO (x 0) 22)+aVk (x 0) (x 1) (x 2)
def aMB (x:Nat->W) (k w:W):Nat->W:=fun i=>match i with
 | 0=>tW x k w+uW x | 1=>x 0 | 2=>x 1 | 3=>x 2 | 4=>x 3+tW x k w | 5=>x 4 | 6=>x 5 | _=>x 6
def aD0 (w s:Nat->W):Nat->Nat->W
 | 0=>s
 | k+1=>aMB (aD0 w s k) (kW k) (w k)
def uK (s:Nat->W) (b:Nat->Y):Nat->W:=fun i=>s i+aD0 (pQ b 48) s 64 i
def aCh (xs:List Y) (k:Nat):Nat->Y:=fun i=>xs.getD (64*k+i) 0
def gU (xs:List Y):Nat->Nat->W
 | 0=>ivW
 | k+1=>uK (gU xs k) (aCh xs k)
def aN0 {b b':Nat->Y} (h:∀ i,i<64->b i=b' i):∀ k,k<=16->rG b k=rG b' k
 | 0,_=>rfl
 | k+1,hk=>by
  rw [rG,rG,aN0 h k (by omega)];unfold beW;rw [h _ (by omega),h _ (by omega),h _ (by omega),h _ (by omega)]
theorem aMc {b b':Nat->Y} (h:∀ i,i<64->b i=b' i):∀ k,pQ b k=pQ b' k
 | 0=>aN0 h 16 (by omega)
 | k+1=>by rw [pQ,pQ,aMc h k]
theorem aGk {s:Nat->W} {b b':Nat->Y} (h:∀ i,i<64->b i=b' i):uK s b=uK s b':=by
 grind[uK,aMc]
def aYw {ys:List Y} {k:Nat} (h:∀ i,i<64*k->xs.getD i 0=ys.getD i 0):gU xs k=gU ys k:=by
 induction k with
 | zero=>rfl
 | succ k ih =>
  rw [gU,gU,ih (fun i a=>h i om)];exact aGk fun i a=>h _ om
theorem aGm {ys:List Y} {k:Nat} (h:64*k<=xs.length):gU (xs++ys) k=gU xs k :=
 aYw fun i a=>by grind
def tG (n:Nat):Nat:=(119-n%64)%64
def aVP (n:Nat):BitVec 64:=qk 64 (n:Int)*8#64
def aFw (n:Nat) (j:Nat):Y:=(aVP n >>> (56-8*j)).setWidth 8
def vV (n j:Nat):List Y:=(qg j).map (aFw n)
def aCB (n:Nat):List Y:=128#8 :: xl (tG n) 0#8++vV n 8
def aLf (xs:List Y):List Y:=xs++aCB xs.length
def aKW (n j:Nat):(vV n j).length=j:=by simp [vV]
def aVR (n j:Nat):vV n (j+1)=vV n j++[aFw n j]:=by simp [vV,yn]
def bAC (n:Nat):(aCB n).length=tG n+9:=by simp [aCB,aKW]
def nT (xs:List Y):Nat->Y:=fun i=>((gU (aLf xs) ((aLf xs).length / 64) (i / 4)) >>> (24-8*(i%4))).setWidth 8
def aGl (xs:List Y):List Y:=yl 32 (nT xs)
def jQ (xs:List Y) (vp:Value):List Value:=wa 8 (gU xs (xs.length / 64))++[vp,.int .i64 (xs.length:Int)]
def fS (xs:List Y):List Y:=xs.drop (64*(xs.length / 64))
theorem aAR (xs:List Y):(fS xs).length=xs.length%64:=by grind[fS]
theorem aN1 (b:Nat->Y):∀ (k j:Nat),k<=j->rG b k j=0#32
 | 0,_,_=>rfl
 | k+1,j,h=>by rw [rG,bA,if_neg (by omega)]; exact aN1 b k j (by omega)
theorem bBA (b:Nat->Y) {k:Nat} (h:k<=j):bA (rG b k) j 0#32=rG b k:=by
 grind[aNs,aN1]
def aTi {lo:Nat} (h:c<m):((xs.drop lo).take m).getD c 0=xs.getD (lo+c) 0:=by
 simp_all
theorem bA9 {s x:Nat->W} {k:Nat}:bA (fun i=>if i<k then s i+x i else s i) k ((if k<k then s k+x k else s k)+x k)=fun i=>if i<k+1 then s i+x i else s i:=by
 funext i;unfold bA;grind
def cM (n:BitVec 64) (many:Nat):List Y:=(qg many).map fun j=>(n >>> (8*j)).setWidth 8
theorem jJ (n:BitVec 64) (a:Nat):(cM n a).length=a:=by simp [cM]
def aTQ (n:BitVec 64) (k:Nat):cM n (k+1)=cM n k++[(n >>> (8*k)).setWidth 8]:=by simp [cM,yn]
def nF (key nonce:Nat->Y) (count:W) (xs:List Y) (m:Nat):List Y:=yl xs.length fun i=>if i<m then crF key nonce count xs i else xs.getD i 0
def aIp (e a:Nat->Y) (c:W) (xs:List Y) (m:Nat):(nF e a c xs m).length=xs.length:=bL _ _
def aEI {f f':Nat->Y} (h:∀ i,i<n->f i=f' i):yl n f=yl n f':=by
 simp_all[yl]
theorem aEJ (xs:List Y):yl xs.length (fun i=>xs.getD i 0)=xs:=by
 refine xq fun i=>?_;grind[yl]
theorem bBu {f:Nat->Y} {z:Y}:(yl n f).set j z=yl n (bA f j z):=by
 refine xq fun i=>?_;rw [zk];by_cases h:j=i
 ·grind[yl,bA]
 simp only [if_neg h];grind[yl,bA]
theorem aRo (e a:Nat->Y) (c:W) (xs:List Y):nF e a c xs 0=xs:=by
 grind[nF,aEJ]
theorem aRm {e a:Nat->Y} {c:W} (h:xs.length<=m):nF e a c xs m=qA e a c xs:=by
 unfold nF qA;exact aEI fun i f=>by grind
theorem aRn {e a:Nat->Y} {c:W} (k:i<64) (f:64*j+i<xs.length) :
  (nF e a c xs (64*j+i)).set (64*j+i) ((nF e a c xs (64*j+i)).getD (64*j+i) 0 ^^^ tN e a (c+BitVec.ofNat 32 j) i)=nF e a c xs (64*j+(i+1)):=by
 unfold nF;rw [aOT f,if_neg om,bBu];refine aEI fun q g=>?_;unfold bA;by_cases h:q=64*j+i
 ·rw [if_pos h,if_pos om,h];grind[crF]
 grind
def xR (key:List Y):List Y:=if key.length > 64 then aGl key else key
def gD (key:List Y) (by':Y):Nat->Y:=fun i=>if i<(xR key).length then by' ^^^ (xR key).getD i 0 else by'
def vZ (key xs:List Y):Nat->Y:=nT (yl 64 (gD key 92#8)++aGl (yl 64 (gD key 54#8)++xs))
def aZ9 (ad nonce crossed:List Y):List Y:=cM (qk 64 (ad.length:Int)) 8++ad++nonce++crossed
def aAd (mac nonce:Nat->Y) (ad crossed:List Y):Nat->Y:=vZ (yl 32 mac) (aZ9 ad (yl 12 nonce) crossed)
def kB (enc mac nonce:Nat->Y) (ad text:List Y):List Y:=qA enc nonce 1#32 text++yl 16 (aAd mac nonce ad (qA enc nonce 1#32 text))
def qT (enc mac nonce:Nat->Y) (ad s:List Y):Option (List Y) :=
 if s.length<16 then none
 else if yl 16 (aAd mac nonce ad (s.take (s.length-16)))=s.drop (s.length-16) then some (qA enc nonce 1#32 (s.take (s.length-16))) else none
theorem zG (e a:Nat->Y) (c:W) (xs:List Y):(qA e a c xs).length=xs.length:=bL _ _
def uJ (enc e c:Nat->Y) (f a:List Y):(kB enc e c f a).length=a.length+16:=by simp[kB,zG,bL]
theorem aRp {e a:Nat->Y} {c:W} (h:i=min (xs.length-64*j) 64):nF e a c xs (64*j+i)=nF e a c xs (64*(j+1)):=by
 unfold nF;refine aEI fun q f=>?_;grind
theorem aRv {b o lo:Nat} (h:lo<cap) {q:Nat} (a:q=o+lo):(Sh.cut ⟨some ⟨b,o,none⟩,cap⟩ lo 1).oa=some ⟨b,q,none⟩:=by
 subst a;unfold Sh.cut;rw [if_neg (by grind)];simp [jS]
def aW1 {enc c a:Nat->Y} {e s:List Y} (h:s.length<16):qT enc c a e s=none:=by simp_all[qT]
def aWz {enc c a:Nat->Y} {e s:List Y} (h:16<=s.length) (f:¬ yl 16 (aAd c a e (s.take (s.length-16)))=s.drop (s.length-16)):qT enc c a e s=none:=by
 simp_all[qT]
theorem aLa {enc c a:Nat->Y} {e s:List Y} (h:16<=s.length) (f:yl 16 (aAd c a e (s.take (s.length-16)))=s.drop (s.length-16)):qT enc c a e s=some (qA enc a 1#32 (s.take (s.length-16))):=by
 simp_all[qT]
theorem aIr (e a:Nat->Y) (c:W) (xs:List Y):qA e a c (qA e a c xs)=xs:=by
 grind[aEJ,qA,zG,crF,aOT]
theorem aW0 (enc e a:Nat->Y) (f c:List Y):qT enc e a f (kB enc e a f c)=some c:=by
 grind[kB,yl,jb,aLa,aIr]
theorem aMd {enc c a:Nat->Y} {e s:List Y} (h:qT enc c a e s=some L):kB enc c a e L=s∧16<=s.length∧L.length=s.length-16:=by
 unfold qT at h;split at h
 ·cases h
 ·split at h
  ·rename_i g f;obtain rfl:=Option.some.inj h;simp_all[zG,kB,aIr]
  grind
def OpenR (o:Option (List Y)) (L:List Y) (e:Int):Prop:=(o=some L∧e=0)∨(o=none∧L=[]∧e=60)
def OpenR.some {a:List Y} {e:Int} (h:OpenR (some a) L e):L=a∧e=0:=by
 simp_all[OpenR]
section
variable {dr:Bool} {mc:Md} {P:Program} {n:Fm} {l:List Oper} {K:aF→PM→aB→Prop} {i:Nat} {σ:List Nat} {ρ:aF} {G:PM} {μ:aB}
variable {d t:Nat} {p:String} {af:Array Edge} {g:Option (Nat×Bool)} {c:Bool}
theorem apF {b o:Nat} {u:Value} {ys:List Y} (a3:mc.a=false∨dr=false) (ho:nth l i=some ⟨some d,.call { callee:=.builtin .append,args:=#[x,y],argTypes:=#[T,T] },t,p,af,none⟩) (hT:bY P T=some (E,1,1)) (Q:(P.info? E).bind (·.zero)=some (.int .u8 0)) (X:Ev ρ true x (.slice (some ⟨b,o,none⟩) m cap)) (S:Ev ρ true y u) (r:SlR G 1 aH ⟨some ⟨b,o,none⟩,cap⟩ xs) (hm:xs.length=m) (k:Sc G μ u ys) (h0:0<ys.length) (hg:cap<m+ys.length) (hb:xs.length+ys.length<=140737488355328) (h:∀ c L,c.oneCell'=true->L=xs++ys->Wo dr mc P n l K σ ((d,true,c) :: ρ) G (rB c E L :: μ)):Wo dr mc P n l K (i :: σ) ρ G μ:=by
 subst hm;obtain ⟨oa,cp,rfl,hr⟩:=k.ex;clear k;obtain ⟨b2,J,rfl,D⟩:=hr h0;refine .act (μ₁:=[]) (μ₂:=μ) (post:=fun O A c=>O=G∧c.oneCell'=true∧A=[rB c E (xs++ys)]) ho (by simp_all[bB]) .no (.refl _) (fun a w N k=>.inl ?_) ?_
 ·obtain ⟨Z,C,M,a0,a4⟩:=fW hT;have e:=Q;rw [M] at e;simp only [qu] at e;have g:∀ j u,(ys.map V)[j]? = some u->w.cell? ((⟨b2,J,none⟩ : Addr).add j)=some u:=fun j u F=>by rw [jS]; exact D j u F w k
  have f:∀ j u,(xs.map V)[j]? = some u->w.cell? ((⟨b,o,none⟩ : Addr).add j)=some u:=fun j u F=>by
   rw [jS];have v:=SlR.flat (enc:=aH) (fun _ _=>rfl) r;rw [tV] at v;exact v j u F w k.sub
  have q:=run_append_grow (P:=P) w T t E C _ Z M e ⟨b,o,none⟩ xs.length cap (xs.map V) (by simp_all) f ⟨b2,J,none⟩ ys.length cp (ys.map V) (by simp_all) g om om (growslice_fits om (by simp_all));have h2:=((gX (Sat.left (μ:=[]) k)).drew).alloc (.cells ((xs.map V).toArray++(ys.map V).toArray++Builtin.zeroCells (Value.int .u8 0).cells (grownCap w (xs.length+ys.length) cap E-(xs.length+ys.length))) E);have H:=grownCap_ge w (xs.length+ys.length) cap E;have h3:=h2.asRow (m:=xs.length+ys.length) (cap:=grownCap w (xs.length+ys.length) cap E) (sz:=1) (xs:=(xs++ys).map V) (by simp) H (grownCap_le_maxLen w (xs.length+ys.length) cap E (by grind[maxLen])) (by
   simp only [Array.size_append,List.size_toArray,size_zeroCells,qw];have:(Value.int .u8 0).cells.size=1:=rfl;simp_all) (by grind)
  refine ⟨_,_,G,_,.inl (by simp [execOp,resolve,invoke,builtin,X.eval N rfl,S.eval N rfl,q]; rfl),h3,rfl,rfl,?_⟩;simp
 rintro c O I _ ⟨rfl,v,rfl⟩;exact h c _ v rfl
def kM {α:Type} {enc:α->List Value} {e D:Nat} {z:Operand} {s:Sh} {xs:List α} (c:Nat) (O:nth l i=some ⟨some d,.slice T x none (some y) (some z),t,p,af,none⟩) (Q:bY P T=some (e,sz,D)) (m:SlR G sz enc s xs) (M:Ev ρ true x (s.val xs.length)) (J:Ev ρ true y (.int .i64 c)) (I:Ev ρ true z (.int .i64 c)) (h1:c<=xs.length) (h:∀ s' L,L=xs.take c->L.length=c->SlR G sz enc s' L->Wo dr mc P n l K σ ((d,true,s'.val L.length) :: ρ) G μ):Wo dr mc P n l K (i :: σ) ρ G μ:=by
 have E:(xs.take c).length=c:=by simp_all
 have f:SlR G sz enc ⟨s.oa,c⟩ (xs.take c):=by
  refine ⟨fun q=>m.there (fun e=>q (by simp_all)),by simp_all,fun j u k=>?_⟩;rw [xr] at k;split at k
  ·exact m.rd j u k
  cases k
 have F:=h _ _ rfl E f;rw [E] at F;refine .pure O (.inl rfl) .no (fun A a w C=>?_) F;obtain ⟨N,H,v,rfl,rfl⟩:=fW Q;have g:=M.eval C A;simp only [Sh.val] at g;have X:=m.le;have r:∀ oa:Option Addr,oa.map (fun a=>a.add 0)=oa:=fun oa=>by simp[aA1]
 have S:c<=s.cap:=by omega
 simp [execOp,g,J.eval C A,I.eval C A,Instr.sliceAt,run_underlying N,Instr.slice,Instr.sliceBounds,Instr.sliceBound,asIntOf,S,sizeOf,typeInfo,v,Sh.val,r]
def mAq {T j:TypeId} {k:IntKind} {c a:Int} (q:Int) (g:nth l i=some ⟨some d,.call { callee:=.builtin .max,args:=#[x,y],argTypes:=#[T,j] },t,p,af,none⟩) (f:Ev ρ true x (.int k c)) (e:Ev ρ true y (.int k a)) (m:(if a > c then a else c)=q) (h:Wo dr mc P n l K σ ((d,true,.int k q) :: ρ) G μ):Wo dr mc P n l K (i :: σ) ρ G μ:=mA g .no f e (by simp_all)
def aHT {f:FuncId} {b:Nat} {o:Obj} {Q:aB->Value->Prop} (h:PM.le G (G.add b o)->Ct P f args (G.add b o) μ (fun _ μ' u=>Q μ' u)):Ct P f args G (.blk b o :: μ) (fun _ μ' u=>∃ ν,μ'=.blk b o :: ν∧Q ν u):=by
 intro w a;exact uT (h (PM.le_add (a.apart b (by simp [keys,Res.keys])))) w a
def aPU {s s':Sh} (h:s.val m=s'.val m):s=s':=by
 cases s<;>simp_all[Sh.val]
end
section
variable {dr:Bool} {mc:Md} {P:Program} {n:Fm} {l:List Oper} {K:aF→PM→aB→Prop} {i:Nat} {σ:List Nat} {ρ:aF} {G:PM} {μ:aB}
variable {d t:Nat} {p:String} {af:Array Edge} {g:Option (Nat×Bool)} {c:Bool}
def aYa {s:Sh} (a:(bY P T).isSome=true) (w:World):(Op.equal T (s.val m) (.slice none 0 0)).run P w=.ok s.oa.isNone w:=by
 unfold bY at a;split at a
 ·rename_i e c;unfold Op.equal;rw [show Op.maxDepth=9999+1 from rfl,Op.equalIn];obtain ⟨oa,f⟩:=s;cases oa<;>simp [run_underlying c,Sh.val]
 ·cases a
def yK {D:Nat} {s:Sh} (r:nth l i=some ⟨some d,.binOp .eql T x y D,t,p,af,g⟩) (v:Gd l ρ g c) (C:(bY P T).isSome=true) (j:Ev ρ c x (s.val m)) (f:Ev ρ c y (.slice none 0 0)) (h:Wo dr mc P n l K σ ((d,c,.bool s.oa.isNone) :: ρ) G μ):Wo dr mc P n l K (i :: σ) ρ G μ :=
 .pure r (.inl rfl) v (fun a q w e=>by
  have k:(eqGuard .eql T x y (s.val m) (.slice none 0 0)).run P w=.ok () w:=by rfl
  have A:(binOp .eql T (s.val m) (.slice none 0 0)).run P w=.ok (.bool s.oa.isNone) w:=by
   have:=aYa (P:=P) (s:=s) (m:=m) C w;simp_all[binOp]
  simp [execOp,j.eval e a,f.eval e a,k,A]) h
theorem aZB {A C:List Value} {o:Nat} (h1:o+C.length<=m) (h2:m<=A.length):(A.take o++C++A.drop (o+C.length)).take m=(A.take m).take o++C++(A.take m).drop (o+C.length):=by
 have a:(A.take o++C).length=o+C.length:=by grind
 grind[ku,wd,qa9]
abbrev rS {α:Type} (sz:Nat) (enc:α→List Value) (v:Value) (E:Nat) (xs:List α):Res:=.row v E sz xs.length (xs.flatMap enc)
theorem aIF {α:Type} {enc:α->List Value} {b cp:Nat} {v z:Value} {xs:List α} {c r:aB} (a:α) (S:nth l i=some ⟨some d,.call { callee:=.builtin .append,args:=#[x,y],argTypes:=#[T,T] },t,p,af,g⟩) (hg:Gd l ρ g true) (hT:bY P T=some (E,sz,m)) (M:(P.info? E).bind (·.zero)=some z) (A:z.cells.size=sz) (O:Ev ρ true x v) (N:Ev ρ true y (.slice (some ⟨b,0,none⟩) 1 cp)) (hm:MTake μ (rS sz enc v E xs) c) (hb:MTake μ (.blk b (cl (enc a) E)) r) (ha:(enc a).length=sz) (D:∀ u∈enc a,u.oneCell'=true) (X:(xs.length+1)*m<=140737488355328) (C:xs.length+1<=maxLen) (h:∀ e,e.oneCell'=true->Wo dr mc P n l K σ ((d,true,e) :: ρ) G (rS sz enc e E (xs++[a]) :: c)) (hmc:mc.a=false∨dr=false:=by first|exact .inl rfl|exact .inr rfl):Wo dr mc P n l K (i :: σ) ρ G μ:=by
 refine .act (μ₁:=[rS sz enc v E xs]) (μ₂:=c) (post:=fun J c e=>J=G∧e.oneCell'=true∧c=[rS sz enc e E (xs++[a])]) S (by simp_all[bB]) hg hm.perm (fun q w I H=>.inl ?_) ?_
 ·obtain ⟨e,L,f,Q⟩:=aAU (ty:=t) (cp:=cp) (news:=enc a) (k:=1) (oa:=some ⟨b,0,none⟩) hT M A H.left om (fun _=>⟨b,0,rfl,fun j u Z=>(RdN.own hb) j u Z w (H.perm hm.perm.symm)⟩) D X C;refine ⟨e,L,G,[rS sz enc e E (xs++[a])],.inl (by simp [execOp,resolve,invoke,builtin,O.eval I rfl,N.eval I rfl,f]),?_,rfl,Q.sat.rowOne,rfl⟩;grind
 rintro e J F _ ⟨rfl,D,rfl⟩;exact h e D
def dN {α:Type} {enc:α->List Value} {e b cp:Nat} {v z:Value} {xs:List α} {c f:aB} (a:α) (r:nth l i=some ⟨some d,.call { callee:=.builtin .append,args:=#[x,y],argTypes:=#[T,T] },t,p,af,none⟩) (D:bY P T=some (E,sz,e)) (k:(P.info? E).bind (·.zero)=some z) (g:z.cells.size=sz) (q:Ev ρ true x v) (m:Ev ρ true y (.slice (some ⟨b,0,none⟩) 1 cp)) (hm:MTake μ (rS sz enc v E xs) c) (A:MTake μ (.blk b (cl (enc a) E)) f) (C:(enc a).length=sz) (h1:∀ u∈enc a,u.oneCell'=true) (w:(xs.length+1)*e<=140737488355328) (j:xs.length+1<=maxLen) (h:∀ v',v'.oneCell'=true->Wo dr mc P n l K σ ((d,true,v') :: ρ) G (rS sz enc v' E (xs++[a]) :: c)) (hmc:mc.a=false∨dr=false:=by first|exact .inl rfl|exact .inr rfl):Wo dr mc P n l K (i :: σ) ρ G μ:=aIF a r .no D k g q m hm A C h1 w j h hmc
theorem Tr.frzS {α:Type} {enc:α->List Value} {c:PM} {K0:List Nat} {w0 w:World} {v:Value} {xs:List α} (e:∀ x∈xs,(enc x).length=sz) (h:Tr c K0 w0 G (rS sz enc v E xs :: μ) w) :
  ∃ a s,PM.le G a∧v=Sh.val s xs.length∧SlR a sz enc s xs∧Tr c K0 w0 a μ w:=by
 obtain ⟨a,s,l,k,j,i,g,f⟩:=h.freezeRow;grind[rO]
def tE {α:Type} {enc:α->List Value} {e:Exit} {k:List KI} {v:Value} {xs:List α} {c:aB} (hm:MTake μ (rS sz enc v E xs) c) (g:∀ x∈xs,(enc x).length=sz) (h:∀ f s,PM.le G f->v=Sh.val s xs.length->SlR f sz enc s xs->We X e k ρ f c):We X e k ρ G μ :=
 ⟨fun a w j i=>by
  obtain ⟨f,s,p,n,m,l⟩:=(i.perm hm.perm).frzS g;exact (h f s p n m).out a w j l⟩
def lK {α:Type} {enc:α->List Value} {g:Code} {k:List KI} {v:Value} {xs:List α} {c:aB} (hm:MTake μ (rS sz enc v E xs) c) (f:∀ x∈xs,(enc x).length=sz) (h:∀ e s,PM.le G e->v=Sh.val s xs.length->SlR e sz enc s xs->Wk X g k ρ e c):Wk X g k ρ G μ :=
 ⟨fun a w j i=>by
  obtain ⟨e,s,p,n,m,l⟩:=(i.perm hm.perm).frzS f;exact (h e s p n m).out a w j l⟩
def gG {α:Type} (sz:Nat) (enc:α->List Value) {a:Code} {k:List KI} (E:Nat) (h:Wk X a k ρ G (rS sz enc (.slice none 0 0) E [] :: μ)):Wk X a k ρ G μ:=aOF E sz h
def aHI {α:Type} (sz:Nat) (enc:α->List Value) {e:Exit} {k:List KI} (E:Nat) (h:We X e k ρ G (rS sz enc (.slice none 0 0) E [] :: μ)):We X e k ρ G μ:=aN9 E sz h
def aBI (n:Nat):List Value:=[.int .i64 (n:Int)]
structure AllS (G:PM) (ps:List (Sh×List Y)):Prop where
 all:∀ p∈ps,SlR G 1 aH p.1 p.2
def AllS.mono {G e:PM} {c:List (Sh×List Y)} (h:AllS G c) (a:PM.le G e):AllS e c:=⟨fun p f=>(h.all p f).mono a⟩
theorem AllS.nil {G:PM}:AllS G []:=⟨fun p a=>by cases a⟩
def AllS.snoc {G:PM} {c:List (Sh×List Y)} {s:Sh} (h:AllS G c) (e:SlR G 1 aH s L):AllS G (c++[(s,L)]):=⟨fun p a=>by
 rcases qn.1 a with a | a
 ·exact h.all p a
 simp_all⟩
def SlP.of {G:PM} {s:Sh} {a:List (Sh×List Y)} (h:SlR G 1 aBJ s a) (c:AllS G a):SlP G s a:=⟨h,c.all⟩
def slr {e b:Nat} {k:IntKind} {lo:Int} (q:Nat) (D:nth l i=some ⟨some d,.slice T x (some y) none none,t,p,af,none⟩) (H:bY P T=some (e,sz,f)) (v:Ev ρ true x (.slice (some ⟨b,0,none⟩) m cap)) (r:Ev ρ true y (.int k lo)) (C:lo=q) (h1:q<=m) (h2:m<=cap) (h3:q<cap) (h:Wo dr mc P n l K σ ((d,true,.slice (some ⟨b,q*sz,none⟩) (m-q) (cap-q)) :: ρ) G μ):Wo dr mc P n l K (i :: σ) ρ G μ :=
 .pure D (.inl rfl) .no (fun _ a w g=>by
  obtain ⟨A,j,F,rfl,rfl⟩:=fW H;subst C;have c:=v.eval g rfl;have E:¬ cap=q:=by omega
  simp [execOp,c,r.eval g rfl,Instr.sliceAt,run_underlying A,Instr.slice,Instr.sliceBounds,Instr.sliceBound,asIntOf,sizeOf,typeInfo,F,h1,h2,E,jS]) h
theorem wX {α:Type} {enc:α->List Value} {A:Nat} {v z:Value} {s:Sh} {xs ys:List α} {c:aB} (X:nth l i=some ⟨some d,.call { callee:=.builtin .append,args:=#[x,y],argTypes:=#[T,T] },t,p,af,none⟩) (hT:bY P T=some (E,sz,A)) (N:(P.info? E).bind (·.zero)=some z) (C:z.cells.size=sz) (Q:Ev ρ true x v) (O:Ev ρ true y (s.val ys.length)) (hm:MTake μ (rS sz enc v E xs) c) (I:SlR G sz enc s ys) (g:∀ a∈ys,(enc a).length=sz) (F:∀ u∈ys.flatMap enc,u.oneCell'=true) (Z:(xs.length+ys.length)*A<=140737488355328) (D:xs.length+ys.length<=maxLen) (h:∀ e,e.oneCell'=true->Wo dr mc P n l K σ ((d,true,e) :: ρ) G (rS sz enc e E (xs++ys) :: c)) (hmc:mc.a=false∨dr=false:=by first|exact .inl rfl|exact .inr rfl):Wo dr mc P n l K (i :: σ) ρ G μ:=by
 refine .act (μ₁:=[rS sz enc v E xs]) (μ₂:=c) (post:=fun L c e=>L=G∧e.oneCell'=true∧c=[rS sz enc e E (xs++ys)]) X (by simp_all[bB]) .no hm.perm (fun q w J m=>.inl ?_) ?_
 ·obtain ⟨e,M,r,S⟩:=aAU (ty:=t) (cp:=s.cap) (news:=ys.flatMap enc) (k:=ys.length) (oa:=s.oa) hT N C m.left (tX g) (fun h0=>⟨s.b,s.o,I.nn h0,fun j u hj=>((SlR.flat g I).rd (μ:=μ)) j u hj w (m.perm hm.perm.symm)⟩) F Z D;refine ⟨e,M,G,[rS sz enc e E (xs++ys)],.inl ?_,?_,rfl,S.sat.rowOne,rfl⟩
  ·have f:=O.eval J rfl;simp only [Sh.val] at f;simp [execOp,resolve,invoke,builtin,Q.eval J rfl,f,r]
  grind
 rintro e L H _ ⟨rfl,F,rfl⟩;exact h e F
end
inductive CK where
 | int (k:IntKind)
 | str
 | bool
 deriving DecidableEq
def nM:Value->Lit
 | .int k n=>.int k n
 | .string s=>.string s.data.toList
 | .bool b=>.bool b
 | _=>.bool false
inductive CkOk:CK→Value→Prop where
 | int {k:IntKind} {n:Int} (h1:k.min≤n) (h2:n≤k.max):CkOk (.int k) (.int k n)
 | str {s:ByteArray} (h:s.size≤maxLen):CkOk .str (.string s)
 | bool {b:Bool}:CkOk .bool (.bool b)
inductive Conf:List CK→List Value→Prop where
 | nil:Conf [] []
 | cons {k v ks cs} (h:CkOk k v) (r:Conf ks cs):Conf (k :: ks) (v :: cs)
theorem CkOk.u {k:IntKind} (a:k.signed=false) (x:BitVec k.bits):CkOk (.int k) (uv k x):=by
 have:=x.isLt;grind[int,aKu,aKo,uv]
def Conf.len {a:List CK} {cs:List Value} (h:Conf a cs):cs.length=a.length:=by
 induction h<;>simp_all
def Conf.split {a c:List CK}:∀ {cs:List Value},Conf (a++c) cs->Conf a (cs.take a.length)∧Conf c (cs.drop a.length):=by
 induction a with
 | nil=>simp[Conf.nil]
 | cons k a ih =>
  intro cs h;cases h<;>simp_all[cons]
def Conf.inj {a:List CK} {cs:List Value} (h:Conf a cs) (c:Conf a cs') (e:cs.map nM=cs'.map nM):cs=cs':=by
 induction h generalizing cs' with
 | nil=>simp_all
 | cons h1 _ ih =>
  cases c with
  | cons h2 r2 =>
   simp only [wu,List.cons.injEq] at e;rw [ih r2 e.2];congr 1;cases h1 with
   | int _ _=>cases h2<;>simp_all[nM]
   | @str s1 _=>cases h2 with
    | @str s2 _ =>
     have:=e.1;simp only [nM,Lit.string.injEq] at this;have f:s1.data=s2.data:=by
      simp_all
     obtain ⟨d1⟩:=s1;simp_all
   | bool=>cases h2<;>simp_all[nM]
def aAY (P:Program) (f:TypeId->Option (List CK)):Nat->List Field->Option (List CK)
 | _,[]=>some []
 | o,fl :: r=>match f fl.type with
  | some ks=>if fl.offset=o∧P.cellsOf fl.type=ks.length then (aAY P f (o+ks.length) r).map (ks++·) else none
  | none=>none
def uL (P:Program):Nat->TypeId->Option (List CK)
 | 0,_=>none
 | d+1,t=>match P.underlying t with
  | some (.int k)=>some [.int k]
  | some .string=>some [.str]
  | some .bool=>some [.bool]
  | some (.array n e)=>match uL P d e with
   | some ks=>if P.cellsOf e=ks.length∧P.cellsOf t=n*ks.length then some (List.replicate n ks).flatten else none
   | none=>none
  | some (.struct fs)=>match aAY P (uL P d) 0 fs.toList with
   | some ks=>if P.cellsOf t=ks.length∧fs.all (·.name != "_")=true then some ks else none
   | none=>none
  | _=>none
def aIm {a:List CK}:∀ {n:Nat} {cs:List Value},Conf (List.replicate n a).flatten cs->∀ i,i<n->Conf a ((cs.drop (i*a.length)).take a.length)
 | 0,_,_,i,hi=>by omega
 | n+1,cs,h,i,hi=>by
  rw [List.replicate_succ,List.flatten_cons] at h;obtain ⟨h1,h2⟩:=h.split;cases i with
  | zero=>simpa using h1
  | succ i =>
   have:=aIm h2 i om;rw [yk] at this;rwa [xy,ju]
theorem aId {α:Type} {f:Value->α} {L:Nat}:∀ {n:Nat} {cs:List Value},cs.length=n*L->((List.range n).map fun i=>((cs.drop (i*L)).take L).map f).flatten=cs.map f
 | 0,cs,h=>by
  simp_all
 | n+1,cs,h=>by
  rw [List.range_succ_eq_map,List.map_cons,List.flatten_cons,List.map_map,Nat.zero_mul,List.drop_zero];have h2:=aId (f:=f) (L:=L) (n:=n) (cs:=cs.drop L) (by grind);have e:(List.map ((fun i=>List.map f (List.take L (List.drop (i*L) cs))) ∘ Nat.succ) (qg n))=(qg n).map fun i=>(((cs.drop L).drop (i*L)).take L).map f:=by
   simp[xy,ju]
  grind[wn]
def aKl {α a:Type} {f:α->Option a} {g:α->a}:∀ {l:List α},(∀ x∈l,f x=some (g x))->l.mapM f=some (l.map g)
 | [],_=>by simp
 | x :: l,h=>by simp [List.mapM_cons,h x (List.mem_cons_self ..),aKl (l:=l) fun z hz=>h z (List.mem_cons_of_mem _ hz)]
section
variable {P:Program}
theorem aIl {d:Nat} (ih:∀ t ks cs,uL P d t=some ks->Conf ks cs->P.keyLits d t cs=some (cs.map nM)):∀ (fs:List Field) (o:Nat) (ks:List CK) (cs:List Value),aAY P (uL P d) o fs=some ks->Conf ks (cs.drop o) ->
  ∃ r,fs.mapM (fun f=>P.keyLits d f.type ((cs.drop f.offset).take (P.cellsOf f.type)))=some r∧r.flatten=(cs.drop o).map nM
 | [],o,ks,cs,h,hc=>by
  simp only [aAY,Option.some.injEq] at h;subst h;have:=hc.len;simp_all[wo]
 | fl :: r,o,ks,cs,h,hc=>by
  simp only [aAY] at h;split at h
  ·rename_i a l;split at h
   ·rename_i k;cases c:aAY P (uL P d) (o+a.length) r with
    | none=>simp_all
    | some ks2 =>
     rw [c] at h;simp only [wx,Option.some.injEq] at h;subst h;obtain ⟨m,e⟩:=hc.split;rw [yk] at e;obtain ⟨j,i,g⟩:=aIl ih r (o+a.length) ks2 cs c e;grind[je,yk,wn]
   grind
  grind
theorem aCu:∀ (d:Nat) (t:TypeId) (ks:List CK) (cs:List Value),uL P d t=some ks->Conf ks cs->P.keyLits d t cs=some (cs.map nM)
 | 0,_,_,_,h,_=>by cases h
 | d+1,t,ks,cs,h,hc=>by
  simp only [uL] at h;unfold Program.keyLits;split at h
  ·rename_i k j;simp only [Option.some.injEq] at h;subst h;cases hc with
   | cons c r=>cases r; cases c<;>simp_all[Lit.wf,nM]
  ·rename_i j;simp only [Option.some.injEq] at h;subst h;cases hc with
   | cons c r=>cases r; cases c<;>simp_all[nM]
  ·rename_i j;simp only [Option.some.injEq] at h;subst h;cases hc with
   | cons c r=>cases r; cases c<;>simp_all[nM]
  ·rename_i n e j;split at h
   ·rename_i a c;split at h
    ·rename_i m;simp only [Option.some.injEq] at h;subst h;have hl:cs.length=n*a.length:=by
      rw [hc.len]; simp
     have v:=aKl (l:=qg n) (f:=fun i=>P.keyLits d e ((cs.drop (i*P.cellsOf e)).take (P.cellsOf e))) (g:=fun i=>((cs.drop (i*a.length)).take a.length).map nM)
      (fun i w=>by rw [m.1]; exact aCu d e a _ c (aIm hc i (xh.1 w)))
     rw [j];simp only [hl,m.2,if_true,v,wx,aId hl]
    grind
   grind
  ·rename_i x j;split at h
   ·rename_i a c;split at h
    ·rename_i m;simp only [Option.some.injEq] at h;subst h;obtain ⟨r,q,p⟩:=aIl (aCu d) x.toList 0 a cs c (by simp_all);rw [j];simp only [hc.len,m.1,m.2,and_self,if_true,q,wx,p,List.drop_zero]
    grind
   grind
  grind
def vP (P:Program) (m:Nat) (T:TypeId) (ks:List CK):Bool :=
 (match uL P m T with | some k=>k == ks | none=>false)&&P.keyTypeAt m T && !P.eqGuardType P.depth T&&Nat.ble m 10000&&(match P.underlying T with | some (.struct _) | some (.array _ _)=>Nat.beq (P.cellsOf T) ks.length | _=>false)
theorem aMR {c:List CK} {cs:List Value} {r:Bool} (j:vP P m T c=true) (h1:Conf c cs) (h2:Conf c cs') (l:r=true↔cs=cs') (w:World) :
  (Op.equal T (.agg cs.toArray) (.agg cs'.toArray)).run P w=.ok r w∧P.eqGuardType P.depth T=false:=by
 simp only [vP,qi,wv] at j;obtain ⟨⟨⟨⟨q,n⟩,v⟩,i⟩,x⟩:=j;have k:uL P m T=some c:=by
  grind
 have i:=Nat.le_of_ble_eq_true i;have a:∀ cs:List Value,Conf c cs->(Value.agg cs.toArray).formed P T=true:=by
  intro cs p;have t:=p.len;grind[Value.formed,Nat.eq_of_beq_eq_true]
 obtain ⟨h,g,f⟩:=run_equalIn_deep (10000-m) m T n w m m (.agg cs.toArray) (.agg cs'.toArray) (cs.map nM) (cs'.map nM) (a _ h1) (a _ h2) (by simp_all[Value.cells,aCu]) (by simp_all[Value.cells,aCu]);rw [show 10000-m+m=10000 by omega] at g;have e:h=r:=by
  have y:h=true↔r=true:=by
   rw [f,l];exact ⟨fun e=>h1.inj h2 e,fun e=>by rw [e]⟩
  grind
 subst e;trivial
variable {dr:Bool} {mc:Md} {n:Fm} {l:List Oper} {K:aF→PM→aB→Prop} {i:Nat} {σ:List Nat} {ρ:aF} {G:PM} {μ:aB}
variable {d t:Nat} {p:String} {af:Array Edge} {g:Option (Nat×Bool)} {c:Bool}
def eqC {H:Nat} {f:List CK} {cs:List Value} (r:Bool) (A:nth l i=some ⟨some d,.binOp .eql T x y H,t,p,af,g⟩) (C:Gd l ρ g c) (D:vP P m T f=true) (q:Ev ρ c x (.agg cs.toArray)) (k:Ev ρ c y (.agg cs'.toArray)) (h1:c=true->Conf f cs) (h2:c=true->Conf f cs') (v:c=true->(r=true↔cs=cs')) (h:Wo dr mc P n l K σ ((d,c,.bool r) :: ρ) G μ):Wo dr mc P n l K (i :: σ) ρ G μ :=
 .pure A (.inl rfl) C (fun e a w j=>by
  obtain ⟨F,E⟩:=aMR D (h1 e) (h2 e) (v e) w;simp [execOp,q.eval j e,k.eval j e,aDB E,binOp,F]) h
end
def Conf.u8 {y:Y} {a:List CK} {cs:List Value} (h:Conf a cs):Conf (.int .u8 :: a) (V y :: cs):=.cons (CkOk.u (k:=.u8) rfl y) h
theorem Conf.u64 {y:BitVec 64} {a:List CK} {cs:List Value} (h:Conf a cs):Conf (.int .u64 :: a) (uv .u64 y :: cs):=.cons (CkOk.u (k:=.u64) rfl y) h
open Go.Lib
def yb (s:ByteArray):List Y:=s.toList.map fun x=>qb 8 x.toNat
theorem rV (s:ByteArray):aQ (yb s)=s:=by
 have h:(aQ (yb s)).data.toList=s.data.toList:=by
  simp[vI,yb,ByteArray.toList_eq,zq]
 have c:(aQ (yb s)).data=s.data:=by
  simp_all
 obtain ⟨d⟩:=s;cases a:aQ (yb ⟨d⟩)<;>simp_all
theorem iE (xs:List Y):yb (aQ xs)=xs:=xA (rV _)
theorem bM (s:ByteArray):(yb s).length=s.size:=by simp[yb,ByteArray.toList_eq]
def aOP (s:ByteArray):(yb s).map V=strCells s:=by
 unfold yb strCells;rw [List.map_map,ByteArray.toList_eq];refine zq fun x _=>?_;have:=x.toNat_lt;have e:(qb 8 x.toNat).toNat=x.toNat:=by simp
 show Value.int .u8 (((qb 8 x.toNat).toNat:Nat):Int)=_;rw [e]
section
variable {dr:Bool} {mc:Md} {P:Program} {n:Fm} {l:List Oper} {K:aF→PM→aB→Prop} {i:Nat} {σ:List Nat} {ρ:aF} {G:PM} {μ:aB}
variable {d t:Nat} {p:String} {af:Array Edge} {g:Option (Nat×Bool)} {c:Bool}
theorem aYX {U:Nat} {v:Value} {s:ByteArray} {w:World} (hT:bY P T=some (E,1,1)) (hU:nU P U=true) (A:(P.info? E).bind (·.zero)=some (.int .u8 0)) (C:Sat G [rB v E xs] w) (hb:xs.length+s.size<=140737488355328) :
  ∃ v' w',(Builtin.append_ #[T,U] ty #[v,.string s]).run P w=.ok v' w'∧Tr G (keys [rB v E xs]) w G [rB v' E (xs++yb s)] w':=by
 obtain ⟨F,n,D,H,a9⟩:=fW hT;have p:P.underlying U=some .string:=by
  grind[nU]
 rw [D] at A;simp only [qu] at A;have h:w.ownsRow 0 E 1 v xs.length (xs.map V):=C.own _ (qd.2 rfl);have k:=gX C;have Z:=bM s;have a0:=aOP s;have a7:(xs.map V).length=xs.length:=qw ..;have a3:(strCells s).length=s.size:=strCells_length s;have a6:maxLen=9223372036854775807:=rfl;have eR:rB v E (xs++yb s)=.row v E 1 (xs.length+s.size) (xs.map V++strCells s):=by simp_all
 have l:(xs.map V++strCells s).length=(xs.length+s.size)*1:=by simp_all
 by_cases hk:s.size=0
 ·have hn:strCells s=[]:=wo om;have a1:yb s=[]:=wo om;refine ⟨v,w,?_,by simp_all⟩;have Q:=run_firstCells_string (P:=P) w 1 s;rw [hk,hn] at Q;rcases h.2 with ⟨rfl,O⟩ | ⟨g,cap,i,rfl,_,K,I,_,_,_⟩
  ·simp[*,Builtin.append_,run_underlying,sizeOf,typeInfo,Builtin.lenOf]
  simp[*,Builtin.append_,run_underlying,sizeOf,typeInfo,Builtin.lenOf,storeCells]
 have x:∀ (a:Nat),Tr G (keys [rB v E xs]) w G [.row (.slice (some ⟨w.heap.size,0,none⟩) (xs.length+s.size) (grownCap w (xs.length+s.size) a E)) E 1 (xs.length+s.size) (xs.map V++strCells s)]
   (w.drew.alloc (.cells ((xs.map V).toArray++(strCells s).toArray++Builtin.zeroCells (Value.int .u8 0).cells (grownCap w (xs.length+s.size) a E-(xs.length+s.size))) E)):=by
  intro a;have N:=(k.drew).alloc (.cells ((xs.map V).toArray++(strCells s).toArray++Builtin.zeroCells (Value.int .u8 0).cells (grownCap w (xs.length+s.size) a E-(xs.length+s.size))) E);have S:Tr G (keys [rB v E xs]) w G [.blk w.heap.size (.cells ((xs.map V).toArray++(strCells s).toArray++Builtin.zeroCells (Value.int .u8 0).cells (grownCap w (xs.length+s.size) a E-(xs.length+s.size))) E)] _:=Tr.left (ν:=[rB v E xs]) N;have J:=grownCap_ge w (xs.length+s.size) a E;refine S.asRow l J (grownCap_le_maxLen w (xs.length+s.size) a E om) ?_ ?_
  ·have X:(Value.int IntKind.u8 0).cells.size=1:=rfl;simp_all[size_zeroCells]
  grind
 rcases h.2 with ⟨rfl,O⟩ | ⟨g,cap,i,rfl,_,K,I,M,L,q⟩
 ·have hx:xs=[]:=wo O;subst hx;have e:=run_append_nil_string (P:=P) w T U ty E n (.int .u8 0) F p D A s om om (by grind);have Q:=x 0;have e1:(s.data.map fun b=>Value.int .u8 b.toNat)=(strCells s).toArray:=by
   grind[strCells]
  grind
 by_cases f:xs.length+s.size<=cap
 ·simp only [Nat.mul_one] at L q;have e:=run_append_room_string (P:=P) w T U ty E n F p D H g xs.length cap i K s f om;have y:Sat G [.blk g (.cells i E (0,0))] w:=⟨C.sub,fun r hr=>by rw [qd.1 hr]; exact K,fun c hc=>C.apart c (by trivial),by simp [keys,Res.keys]⟩;refine ⟨_,_,e,?_⟩;have N:=wW (cs':=(i.toList.take xs.length++strCells s++i.toList.drop (xs.length+s.size)).toArray) y;have S:=N.asRow (m:=xs.length+s.size) (cap:=cap) (sz:=1) (xs:=xs.map V++strCells s) l f M ?_ ?_
  ·simp_all[rB,keys,Res.keys,Value.ownBlock]
  ·grind
  grind
 have t:∀ j u,(xs.map V)[j]? = some u->w.cell? ((⟨g,0,none⟩ : Addr).add j)=some u:=h.cells (g:=g) rfl;have e:=run_append_grow_string (P:=P) w T U ty E n (.int .u8 0) F p D A ⟨g,0,none⟩ xs.length cap (xs.map V) (by simp_all) t s om om (growslice_fits om (by simp_all));grind
def nY {U:Nat} {v:Value} {s:ByteArray} {c:aB} (F:nth l i=some ⟨some d,.call { callee:=.builtin .append,args:=#[x,y],argTypes:=#[T,U] },t,p,af,none⟩) (J:bY P T=some (E,1,1)) (I:nU P U=true) (r:(P.info? E).bind (·.zero)=some (.int .u8 0)) (C:Ev ρ true x v) (A:Ev ρ true y (.string s)) (hm:MTake μ (rB v E xs) c) (H:xs.length+s.size<=140737488355328) (h:∀ e L,e.oneCell'=true->L=xs++yb s->Wo dr mc P n l K σ ((d,true,e) :: ρ) G (rB e E L :: c)) (hmc:mc.a=false∨dr=false:=by first|exact .inl rfl|exact .inr rfl):Wo dr mc P n l K (i :: σ) ρ G μ:=by
 refine .act (μ₁:=[rB v E xs]) (μ₂:=c) (post:=fun m c e=>m=G∧e.oneCell'=true∧c=[rB e E (xs++yb s)]) F (by simp_all[bB]) .no hm.perm (fun a w k D=>.inl ?_) ?_
 ·obtain ⟨e,q,f,j⟩:=aYX (ty:=t) (s:=s) J I r D.left H;exact ⟨e,q,G,[rB e E (xs++yb s)],.inl (by simp [execOp,resolve,invoke,builtin,C.eval k rfl,A.eval k rfl,f]),j,rfl,j.sat.rowOne,rfl⟩
 rintro e m g _ ⟨rfl,M,rfl⟩;exact h e _ M rfl
def sbT (P:Program) (S D:TypeId):Bool:=match P.underlying S,P.underlying D with
 | some .string,some (.slice e)=>match P.underlying e with | some (.int .u8)=>true | _=>false
 | _,_=>false
theorem cvS {S D:TypeId} {s:ByteArray} (y:dr=false) (F:nth l i=some ⟨some d,.convert S D x,t,p,af,none⟩) (k:sbT P S D=true) (C:Ev ρ true x (.string s)) (h:∀ f c,PM.le G f->SlR f 1 aH c (yb s)->Wo dr mc P n l K σ ((d,true,c.val (yb s).length) :: ρ) f μ):Wo dr mc P n l K (i :: σ) ρ G μ:=by
 refine .act (μ₁:=[]) (μ₂:=μ) (post:=fun f m v=>m=[]∧∃ c,v=c.val (yb s).length∧SlR f 1 aH c (yb s)) F (.inr y) .no (.refl _) (fun a w J E=>.inl ?_) ?_
 ·unfold sbT at k;split at k
  ·rename_i e Q O;split at k
   ·rename_i N;have g:=run_bytes_of_string (P:=P) w S D e s Q O N;have I:=grownCap_ge w s.size 0 e;have T:Tr G (keys []) w G [] w:=gX (Sat.left (μ:=[]) E);have M:=(T.drew).alloc (.cells (bytesRow s (grownCap w s.size 0 e)) e ((bytesRow s (grownCap w s.size 0 e)).size,(bytesRow s (grownCap w s.size 0 e)).size+1));have L:=M.freeze;refine ⟨.slice (some ⟨w.heap.size,0,none⟩) s.size (grownCap w s.size 0 e),_,_,[],.inl (by simp [execOp,C.eval J rfl,g]),L,rfl,⟨some ⟨w.heap.size,0,none⟩,grownCap w s.size 0 e⟩,by rw [bM]; rfl,?_⟩;refine rO (fun _ _=>rfl) (by simp_all[bM]) (fun _=>rfl) (fun j v H=>?_);rw [tV,aOP] at H;show RdP _ ⟨w.heap.size,0+j,none⟩ v;rw [wb];refine RdP.blk (cs:=(bytesRow s (grownCap w s.size 0 e)).toList) (by rw [Array.toArray_toList]; exact bI _ _ _) ?_;grind[strCells,bytesRow]
   cases k
  cases k
 rintro v f A r ⟨rfl,c,rfl,q⟩;exact h f c r q
theorem aDI {α:Type} {enc:α->List Value} {sz:Nat}:∀ {xs:List α} {k:Nat} {x:α},(∀ y∈xs,(enc y).length=sz)->xs[k]? = some x->((xs.flatMap enc).drop (k*sz)).take sz=enc x
 | y :: ys,0,x,hsz,hx=>by
  simp_all
 | y :: ys,k+1,x,hsz,hx=>by
  rw [List.flatMap_cons,Nat.succ_mul,Nat.add_comm,←List.drop_drop,List.drop_left' (hsz y (List.mem_cons_self ..))];exact aDI (fun z hz=>hsz z (List.mem_cons_of_mem _ hz)) (by simpa using hx)
 | [],_,_,_,hx=>by grind
theorem aJg {α:Type} {enc:α->List Value} {sz:Nat} {y:α}:∀ {xs:List α} {k:Nat},(∀ z∈xs,(enc z).length=sz)->(enc y).length=sz->k<xs.length->put (xs.flatMap enc) (k*sz) (enc y)=(xs.set k y).flatMap enc
 | z :: zs,0,hsz,hy,_=>by
  simp_all[put]
 | z :: zs,k+1,hsz,hy,hk=>by
  have ih:=aJg (xs:=zs) (k:=k) (fun u a=>hsz u (qj _ a)) hy (by simp_all);have c:=hsz z (qh ..);simp_all[put,xy,ku,wd,List.drop_append,yf]
 | [],_,_,_,hk=>by grind
def rN {α:Type} {enc:α->List Value} {b k:Nat} {xs:List α} {x:α} {a:aB} (h:MTake μ (rS sz enc (.slice (some ⟨b,0,none⟩) m cap) E xs) a) (c:∀ y∈xs,(enc y).length=sz) (e:xs[k]? = some x) {q:Nat} (f:q=k*sz):RdN G μ b q (enc x):=by
 subst f;intro j v g;refine Rd.row h ?_;rw [← aDI c e,xr] at g;simp_all
theorem stS {α:Type} {enc:α->List Value} {b o k:Nat} {v:Value} {xs:List α} {u:α} {f:aB} (ho:nth l i=some ⟨none,.store T x y,t,p,af,none⟩) (hx:Ev ρ true x (.pointer (some ⟨b,o,none⟩))) (hy:Ev ρ true y v) (hv:v.cells=(enc u).toArray) (hz:jC P T=some sz) (hm:MTake μ (rS sz enc (.slice (some ⟨b,0,none⟩) m cap) E xs) f) (F:∀ y∈xs,(enc y).length=sz) (M:(enc u).length=sz) (h1:∀ c∈enc u,c.oneCell'=true) (hq:o=k*sz) (Q:k<xs.length) (h:Wo dr mc P n l K σ ρ G (rS sz enc (.slice (some ⟨b,0,none⟩) m cap) E (xs.set k u) :: f)):Wo dr mc P n l K (i :: σ) ρ G μ:=by
 subst hq;refine .act (μ₁:=[rS sz enc (.slice (some ⟨b,0,none⟩) m cap) E xs]) (μ₂:=f) (post:=fun G' f v=>G'=G∧f=[rS sz enc (.slice (some ⟨b,0,none⟩) m cap) E (xs.set k u)]∧v=undef) ho (.inl rfl) .no hm.perm (fun a w Z hs=>.inl ?_) ?_
 ·have D:=hs.left;have I:w.ownsRow 0 E sz (.slice (some ⟨b,0,none⟩) m cap) xs.length (xs.flatMap enc):=D.own _ (qd.2 rfl);have b6:=tX F;rcases I.2 with ⟨e,_⟩ | ⟨g,a0,j,e,_,S,J,O,b7,q⟩
  ·cases e
  simp only [Value.slice.injEq,Option.some.injEq,Addr.mk.injEq,and_true,true_and] at e;obtain ⟨rfl,rfl,rfl⟩:=e;have L:keys [rS sz enc (.slice (some ⟨b,0,none⟩) xs.length cap) E xs]=[b]:=by rfl
  have H:Sat G [.blk b (.cells j E (0,0))] w:=⟨D.sub,fun r hr=>by rw [qd.1 hr]; exact S,fun c hc=>D.apart c (by trivial),by simp [keys,Res.keys]⟩;have a9:k*sz+sz<=xs.length*sz:=by rw [← xy]; exact xi _ Q
  have X:xs.length*sz<=cap*sz:=xi _ J;have N:=run_storeCells_at P b (k*sz) E (enc u) 0 j w S om h1;simp only [yj,M] at N;have h2:=(wW (cs':=(j.toList.take (k*sz)++enc u++j.toList.drop (k*sz+sz)).toArray) H).asRow (m:=xs.length) (cap:=cap) (sz:=sz) (xs:=(xs.set k u).flatMap enc) ?_ J O ?_ ?_
  ·refine ⟨undef,_,G,_,.inr ⟨?_,rfl⟩,by rw [L]; exact h2,rfl,by simp,rfl⟩;cases hi:P.info? T with
   | none=>simp_all[jC]
   | some inf =>
    simp only [jC,hi,wx,Option.some.injEq] at hz;simp only [execOp,hx.eval Z rfl,hy.eval Z rfl];simp_all[Instr.storeAt,Instr.sureAddr,storeVar,sizeOf,typeInfo]
  ·rw [tX (sz:=sz) (fun z a1=>by
    grind),xt]
  ·grind
  have:=aZB (A:=j.toList) (C:=enc u) (o:=k*sz) (m:=xs.length*sz) om (by simp_all);rw [M,q] at this;rw [this];have h5:=aJg (xs:=xs) F M Q;simp_all[put]
 simp_all[bV]
end
theorem bBr (s:ByteArray):s.data.toList=(yb s).map fun y=>UInt8.ofNat y.toNat:=by
 grind[rV,vI]
def aEk {s:ByteArray} (h:s.data.toList=xs.map fun y=>UInt8.ofNat y.toNat):s=aQ xs :=
 ByteArray.ext (Array.toList_inj.1 (by rw [h,vI]))
def aQs (xs ys:List Y):aQ xs++aQ ys=aQ (xs++ys):=aEk (by simp[vI])
theorem aIX (xs:List Y) (lo a:Nat):(aQ xs).extract lo a=aQ ((xs.take a).drop lo):=aEk (by
 simp[vI,qa9])
theorem aQ5 {s:ByteArray} (h:j<s.size):s[j]? = some (UInt8.ofNat ((yb s).getD j 0).toNat):=by
 have a:s[j]? = s.data.toList[j]?:=by
  rw [getElem?_pos s j h,qv (show j<s.data.toList.length by simp_all)]; rfl
 grind[bBr]
section
variable {dr:Bool} {mc:Md} {P:Program} {n:Fm} {l:List Oper} {K:aF→PM→aB→Prop} {i:Nat} {σ:List Nat} {ρ:aF} {G:PM} {μ:aB}
variable {d t:Nat} {p:String} {af:Array Edge} {g:Option (Nat×Bool)} {c:Bool}
theorem sI {T:TypeId} {k:IntKind} {a:Int} {s:ByteArray} (j:Nat) (A:nth l i=some ⟨some d,.index T x y,t,p,af,g⟩) (C:Gd l ρ g c) (E:nU P T=true) (r:Ev ρ c x (.string s)) (q:Ev ρ c y (.int k a)) (D:c=true->a=j) (h1:c=true->j<s.size) (h:Wo dr mc P n l K σ ((d,c,V ((yb s).getD j 0)) :: ρ) G μ):Wo dr mc P n l K (i :: σ) ρ G μ :=
 .pure A (.inl rfl) C (fun f F w e=>by
  obtain rfl:=D f;have v:P.underlying T=some .string:=by grind[nU]
  have m:((yb s).getD j 0).toNat<256:=((yb s).getD j 0).isLt;simp only [execOp,r.eval e f,q.eval e f,Instr.index,asIntOf,Sem.run_bind,Sem.run_pure,Result.andThen_ok,run_underlying v];rw [if_pos (Int.natCast_nonneg j),yc,aQ5 (h1 f)];dsimp only;rw [show (UInt8.ofNat ((yb s).getD j 0).toNat).toNat=((yb s).getD j 0).toNat by simp];rfl) h
def aMO {P:Program} {k:IntKind} {a:Nat} {code:BoundsCode} (h:a<=m) (w:World):(Instr.sliceBound (.int k (a:Int)) m code).run P w=.ok a w:=by
 simp[*,Instr.sliceBound,asIntOf]
theorem sD {T:TypeId} {k:IntKind} {a:Int} {s:ByteArray} (lo:Nat) (r:nth l i=some ⟨some d,.slice T x (some y) none none,t,p,af,g⟩) (v:Gd l ρ g c) (D:nU P T=true) (m:Ev ρ c x (.string s)) (j:Ev ρ c y (.int k a)) (C:c=true->a=lo) (h1:c=true->lo<=s.size) (h:Wo dr mc P n l K σ ((d,c,.string (aQ ((yb s).drop lo))) :: ρ) G μ):Wo dr mc P n l K (i :: σ) ρ G μ :=
 .pure r (.inl rfl) v (fun f E w e=>by
  obtain rfl:=C f;have q:P.underlying T=some .string:=by grind[nU]
  have A:aQ ((yb s).drop lo)=s.extract lo s.size:=by
   grind[rV,aIX,fJ]
  rw [A];simp [execOp,m.eval e f,j.eval e f,Instr.sliceAt,Instr.slice,Instr.sliceBounds,run_underlying q,aMO (h1 f)]) h
theorem sE {T:TypeId} {k:IntKind} {a:Int} {s:ByteArray} (e:Nat) (v:nth l i=some ⟨some d,.slice T x none (some y) none,t,p,af,g⟩) (A:Gd l ρ g c) (E:nU P T=true) (q:Ev ρ c x (.string s)) (m:Ev ρ c y (.int k a)) (D:c=true->a=e) (h1:c=true->e<=s.size) (h:Wo dr mc P n l K σ ((d,c,.string (aQ ((yb s).take e))) :: ρ) G μ):Wo dr mc P n l K (i :: σ) ρ G μ :=
 .pure v (.inl rfl) A (fun j F w f=>by
  obtain rfl:=D j;have r:P.underlying T=some .string:=by grind[nU]
  have C:aQ ((yb s).take e)=s.extract 0 e:=by
   grind[rV,aIX]
  rw [C];simp [execOp,q.eval f j,m.eval f j,Instr.sliceAt,Instr.slice,Instr.sliceBounds,run_underlying r,aMO (h1 j)]) h
theorem sP {T v:TypeId} {s1 a:ByteArray} (m:nth l i=some ⟨some d,.binOp .add T x y v,t,p,af,g⟩) (r:Gd l ρ g c) (k:Ev ρ c x (.string s1)) (j:Ev ρ c y (.string a)) (A:c=true->s1.size+a.size<=9223372036854775807) (h:Wo dr mc P n l K σ ((d,c,.string (aQ (yb s1++yb a))) :: ρ) G μ):Wo dr mc P n l K (i :: σ) ρ G μ :=
 .pure m (.inl rfl) r (fun f C w e=>by
  have q:¬ (((s1.size+a.size:Nat):Int) > IntKind.i64.max):=by
   grind[IntKind.max,IntKind.bits]
  rw [← aQs,rV,rV];have:(eqGuard .add T x y (.string s1) (.string a)).run P w=.ok () w:=by rfl
  simp only [execOp,k.eval e f,j.eval e f];simp_all[binOp,Op.stringOp]) h
end
def aXL:W:=2197175160#32
def aJw (x:W):W:=x >>> 1 ^^^ (aXL &&& -(x &&& 1#32))
def sJ:Nat->W->W
 | 0,x=>x
 | n+1,x=>aJw (sJ n x)
def aTk (m n:Nat) (x:W):sJ m (sJ n x)=sJ (m+n) x:=by
 induction m<;>simp_all[sJ,Nat.succ_add]
def aBB (x:W) (c:Y):W:=sJ 8 (x ^^^ c.setWidth 32)
def mK (sum:W) (xs:List Y):W := ~~~(xs.foldl aBB (~~~sum))
def aRt (a:W) (xs ys:List Y):mK (mK a xs) ys=mK a (xs++ys):=by
 simp[mK]
def aRu (a:W):mK a []=a:=by simp [mK]
theorem aTV {k:Nat} {x:W} (h:k<xs.length):(xs.take (k+1)).foldl aBB x=aBB ((xs.take k).foldl aBB x) (xs.getD k 0):=by
 grind[List.take_succ_eq_append_getElem]
def aF6 (x:W):W:=tB x 17+2726488792#32
def fx0 {n:BitVec 64} (e:L=[]++cM n m):L.length=m:=by rw [e,qy,jJ]
def fx2 {A:List Y} {n:BitVec 64} (e:L=A++cM n m):L.length=A.length+m:=by rw [e,qa,jJ]
structure Hd where
 kind:Y
 level:Y
 gen:BitVec 64
 epoch:BitVec 64
 num:BitVec 64
 deriving DecidableEq
def Hd.cells (h:Hd):List Value:=[V h.kind,V h.level,uv .u64 h.gen,uv .u64 h.epoch,uv .u64 h.num]
def Hd.zero:Hd:=⟨0,0,0,0,0⟩
def Hd.right (h:Hd):Bool:=if (h.kind.toNat:Int)=2 then decide ((h.level.toNat:Int)<5) else if (h.kind.toNat:Int)=1∨(h.kind.toNat:Int)=3 then decide ((h.level.toNat:Int)=0)&&decide ((h.gen.toNat:Int)=0) else false
def aHh {h:Hd} (c:(h.kind.toNat:Int)=2):h.right=decide ((h.level.toNat:Int)<5):=by simp_all[Hd.right]
def aPK {h:Hd} (c:(h.kind.toNat:Int)=1):h.right=(decide ((h.level.toNat:Int)=0)&&decide ((h.gen.toNat:Int)=0)):=by
 simp_all[Hd.right]
def aPL {h:Hd} (c:(h.kind.toNat:Int)=3):h.right=(decide ((h.level.toNat:Int)=0)&&decide ((h.gen.toNat:Int)=0)):=by
 simp_all[Hd.right]
def aPJ {h:Hd} (e:¬ (h.kind.toNat:Int)=1) (c:¬ (h.kind.toNat:Int)=2) (a:¬ (h.kind.toNat:Int)=3):h.right=false:=by
 simp_all[Hd.right]
def Hd.three (h:Hd) (k:Nat):BitVec 64:=if k=0 then h.gen else if k=1 then h.epoch else h.num
def Hd.some (h:Hd) (k:Nat):List Y:=[116#8,97#8,110#8,116#8,h.kind,h.level]++(qg k).flatMap (fun i=>cM (h.three i) 8)
theorem aHi (h:Hd) (k:Nat):h.some (k+1)=h.some k++cM (h.three k) 8:=by
 simp[Hd.some,yn]
theorem aPN {h:Hd} {k:Nat} (a:k<3) : [uv .u64 h.gen,uv .u64 h.epoch,uv .u64 h.num][k]? = Option.some (uv .u64 (h.three k)):=by
 grind[Hd.three]
def aU (h:Hd):List Y:=[116#8,97#8,110#8,116#8,h.kind,h.level]++cM h.gen 8++cM h.epoch 8++cM h.num 8
def aPM (h:Hd):h.some 3=aU h:=by rfl
theorem Hd.some_len (h:Hd) (k:Nat):(h.some k).length=6+8*k:=by
 induction k with
 | zero=>rfl
 | succ k ih=>grind[aHi,jJ]
theorem iX (h:Hd):(aU h).length=30:=by rfl
def eA (xs:List Y):Nat->BitVec 64
 | 0=>0
 | k+1=>eA xs k ||| (xs.getD k 0).setWidth 64 <<< (8*k)
def iQ (n:BitVec 64):Nat->Y:=fun i=>if i<8 then (n >>> (8*i)).setWidth 8 else 0#8
theorem aWQ (n:BitVec 64) (h:i<12):iZ (iQ n) 8 i=iQ n i:=by
 by_cases c:i<8
 ·grind[mR]
 ·have:∀ k,k<=i->iZ (iQ n) k i=0#8:=fun k=>by
   induction k with
   | zero=>intro _; rfl
   | succ k ih=>intro a; show bA (iZ (iQ n) k) k _ i=_; unfold bA; grind
  simp_all[iQ,if_neg]
def aDC (key use:List Y):Nat->List Y
 | 0=>[]
 | k+1=>shaL' key (aDC key use k) use k
where shaL' (key last use:List Y) (k:Nat):List Y:=yl 32 (vZ key (last++use++[qb 8 (k+1)]))
def vQ (key use:List Y):Nat->List Y
 | 0=>[]
 | k+1=>vQ key use k++aDC key use (k+1)
theorem aS9 (c a:List Y) (k:Nat):(aDC c a (k+1)).length=32:=bL _ _
theorem aDD (c a:List Y) (k:Nat):(vQ c a k).length=32*k:=by
 induction k with
 | zero=>rfl
 | succ k ih=>grind[vQ,aS9]
theorem aTA (c a:List Y) (k:Nat):(vQ c a k).drop (32*k-32)=aDC c a k:=by
 cases k with
 | zero=>rfl
 | succ k=>grind[vQ,aDD]
def aMa:List Y:=[116#8,97#8,110#8,116#8,97#8,108#8,117#8,115#8]
def aC0 (root:Nat->Y) (use:List Y):List Y:=vQ (yl 32 (vZ aMa (yl 32 root))) use 2
def fF (root:Nat->Y) (use:List Y):Nat->Y:=fun i=>(aC0 root use).getD i 0
def fG (root:Nat->Y) (use:List Y):Nat->Y:=fun i=>(aC0 root use).getD (32+i) 0
def aUq {root:Nat->Y} {a A B:List Y} (e:L=aC0 root a) (f:A=L.take 32) (c:B=L.drop 32) :
  ba 32 (fun i=>A.getD i 0)++ba 32 (fun i=>B.getD i 0)=ba 32 (fF root a)++ba 32 (fG root a):=by
 simp_all[ba,fF,fG]
def aUs {zs:List Value} (a:zs.length=64) (f g:Nat->Y):put (put zs 0 (ba 32 f)) 32 (ba 32 g)=ba 32 f++ba 32 g:=by
 simp_all[put,bT]
def tY (f g:Nat->Y):(ba 32 f++ba 32 g).length=64:=by rfl
def aKL (f g:Nat->Y):∀ u∈ba 32 f++ba 32 g,u.oneCell'=true:=uE (pE _ _) (pE _ _)
def oF (xs:List Y):Hd:=⟨xs.getD 4 0,xs.getD 5 0,eA (xs.drop 6) 8,eA (xs.drop 14) 8,eA (xs.drop 22) 8⟩
def mY (xs:List Y):Hd×Int:=if xs.length<30 then (Hd.zero,10) else if xs.take 4=[116#8,97#8,110#8,116#8]∧(oF xs).right=true then (oF xs,0) else (Hd.zero,70)
def bAO (h:xs.length<30):mY xs=(Hd.zero,10):=by simp_all[mY]
def bAE (h:¬ xs.length<30) (c:¬ (xs.take 4=[116#8,97#8,110#8,116#8]∧(oF xs).right=true)):mY xs=(Hd.zero,70):=by simp_all[mY,if_neg]
def bAJ (h:¬ xs.length<30) (c:xs.take 4=[116#8,97#8,110#8,116#8]∧(oF xs).right=true):mY xs=(oF xs,0):=by simp_all[mY]
def iS {a b c d e:Value} (h1:a.oneCell'=true) (h2:b.oneCell'=true) (h3:c.oneCell'=true) (g:d.oneCell'=true) (f:e.oneCell'=true):∀ u∈[a,b,c,d,e],u.oneCell'=true:=by
 simp_all
def aFf (e:L=(xs.drop 6).take (30-6)):(⟨xs.getD 4 0,xs.getD 5 0,eA L 8,eA (L.drop 8) 8,eA ((L.drop 8).drop 8) 8⟩ : Hd)=oF xs:=by
 simp_all[oF,eA]
theorem aNV (L:List Y):((aQ L).toList == (⟨#[116,97,110,116]⟩ : ByteArray).toList)=decide (L=[116#8,97#8,110#8,116#8]):=by
 have e:(⟨#[116,97,110,116]⟩ : ByteArray).toList=(aQ [116#8,97#8,110#8,116#8]).toList:=by rfl
 rw [e,aQt]
theorem bAF (a:L=xs.take 4) (c:(!((aQ L).toList == (⟨#[116,97,110,116]⟩ : ByteArray).toList) || !(oF xs).right)=true) (h:xs.take 4=[116#8,97#8,110#8,116#8]∧(oF xs).right=true):False:=by
 grind[aNV]
def bAG (a:L=xs.take 4) (c:(!((aQ L).toList == (⟨#[116,97,110,116]⟩ : ByteArray).toList) || !(oF xs).right)=false):xs.take 4=[116#8,97#8,110#8,116#8]∧(oF xs).right=true:=by
 rw [aNV,a,xf,zy,zy,decide_eq_true_eq] at c;exact c
def bK (n:Nat):List Y:=if h:n<128 then [qb 8 n] else qb 8 (n%128+128) :: bK (n / 128)
termination_by n
decreasing_by omega
theorem xZ (h:n<128):bK n=[BitVec.ofNat 8 n]:=by rw [bK,dif_pos h]
theorem aBo (h:¬ n<128):bK n=BitVec.ofNat 8 (n%128+128) :: bK (n / 128):=by rw [bK,dif_neg h]
theorem aGI (n:Nat):0<(bK n).length:=by
 grind[xZ,aBo]
def aBp:∀ (k n:Nat),n<128^k->0<k->(bK n).length<=k
 | 0,_,_,h=>by omega
 | k+1,n,h,_=>by
  by_cases hn:n<128
  ·simp_all[xZ]
  ·rw [aBo hn];by_cases hk:k=0
   ·simp_all
   ·have:=aBp k (n / 128) om om;simp_all
theorem iJ (h:n<18446744073709551616):(bK n).length<=10:=aBp 10 n om dc
def iC:Nat->Nat->List Y->Nat×Nat×Int
 | _,_,[]=>(0,0,10)
 | k,acc,x :: r =>
  if k=9∧1<x.toNat then (0,0,11)
  else if x.toNat<128 then (if 0<k∧x.toNat=0 then (0,0,11) else (acc+x.toNat*128^k,k+1,0))
  else iC (k+1) (acc+(x.toNat-128)*128^k) r
def eY (b:List Y):Nat×Nat×Int:=iC 0 0 b
def toN (h:n<256):(BitVec.ofNat 8 n).toNat=n:=by simp_all
theorem aWZ:∀ (m n k a:Nat) (r:List Y),n<=m->a+n*128^k<18446744073709551616->(k=0∨0<n)->k<=9->iC k a (bK n++r)=(a+n*128^k,k+(bK n).length,0):=by
 intro m;induction m with
 | zero =>
  simp_all[xZ,iC]
 | succ m ih =>
  intro n k a r h q p l;by_cases f:n<128
  ·rw [xZ f];have c:=toN (n:=n) om;have j:¬ (k=9∧1<(qb 8 n).toNat):=by
    grind
   simp only [ww,qy,iC];grind
  ·rw [aBo f];have c:=toN (n:=n%128+128) om;have i:k<9:=by
    grind
   simp only [ww,iC];rw [if_neg om,if_neg om,c,Nat.add_sub_cancel];have e:a+n%128*128^k+n / 128*128^(k+1)=a+n*128^k:=by
    rw [yx,Nat.add_assoc];congr 1;have g:n / 128*(128^k*128)=(n / 128*128)*128^k:=by grind
    rw [g,←Nat.add_mul];grind
   grind
def aWa (h:n<18446744073709551616) (r:List Y):eY (bK n++r)=(n,(bK n).length,0):=by
 have:=aWZ n n 0 0 r (qc _) om (.inl rfl) om;simp_all[eY]
def aXO {k:Nat} (h:j<=k):(128:Nat)^j<=128^k:=yw dc h
theorem aLN:∀ (b:List Y) (k acc v j:Nat),acc<128^k->k<=9->iC k acc b=(v,j,0)->∃ n,v=acc+n*128^k∧(0<k->0<n)∧j=k+(bK n).length∧b=bK n++b.drop (bK n).length∧v<18446744073709551616
 | [],k,acc,v,j,_,_,h=>by grind[iC]
 | x :: r,k,acc,v,j,ha,hk,h=>by
  simp only [iC] at h;have hx:=x.isLt;split at h
  ·grind
  rename_i t;split at h
  ·rename_i c;split at h
   ·grind
   rename_i A;simp only [Prod.mk.injEq,and_true] at h;obtain ⟨rfl,rfl⟩:=h;have q:qb 8 x.toNat=x:=by simp
   refine ⟨x.toNat,rfl,fun i=>om,by simp_all[xZ],by simp_all[xZ],?_⟩;rcases xk k 9 with f | l
   ·have y:acc+x.toNat*128^k<128^(k+1):=by
     rw [yx];have:x.toNat*128^k<=127*128^k:=xi _ om;omega
    have w:=aXO (show k+1<=9 by omega);omega
   grind
  rename_i c;have g:k<9:=by omega
  obtain ⟨n,F,m,E,D,C⟩:=aLN r (k+1) (acc+(x.toNat-128)*128^k) v j (by
   rw [yx];have:(x.toNat-128)*128^k<=127*128^k:=xi _ om;omega) om h
  have p:=m om;have a:¬ (n*128+(x.toNat-128))<128:=by omega
  have e:bK (n*128+(x.toNat-128))=x :: bK n:=by
   rw [aBo a];have q1:(n*128+(x.toNat-128))%128+128=x.toNat:=by omega
   grind
  grind
theorem aLO {b:List Y} {v:Nat} (h:eY b=(v,j,0)):b=bK v++b.drop j∧v<18446744073709551616∧j=(bK v).length∧j<=b.length:=by
 obtain ⟨n,f,_,e,c,a⟩:=aLN b 0 0 v j (by simp) om h;grind
theorem aLP:∀ (b:List Y) (k acc v j:Nat) (e:Int),iC k acc b=(v,j,e)->e≠0->v=0∧j=0
 | [],k,acc,v,j,e,h,he=>by
  grind[iC]
 | x :: r,k,acc,v,j,e,h,he=>by
  simp only [iC] at h;split at h
  ·simp only [Prod.mk.injEq] at h; exact ⟨h.1.symm,h.2.1.symm⟩
  ·split at h
   ·split at h
    ·simp only [Prod.mk.injEq] at h; exact ⟨h.1.symm,h.2.1.symm⟩
    ·simp only [Prod.mk.injEq] at h; exact absurd h.2.2.symm he
   ·exact aLP r _ _ _ _ _ h he
structure Rd' where
 rest:List Y
 bad:Int
def gK (s:Rd'):Nat×Rd':=if s.bad≠0 then (0,s) else ((eY s.rest).1,⟨s.rest.drop (eY s.rest).2.1,(eY s.rest).2.2⟩)
def lH (most:Nat) (s:Rd'):List Y×Rd' :=
 if s.bad≠0 then ([],s)
 else if (eY s.rest).2.2≠0 then ([],⟨s.rest,(eY s.rest).2.2⟩)
 else if most<(eY s.rest).1 then ([],⟨s.rest,4⟩)
 else if s.rest.length-(eY s.rest).2.1<(eY s.rest).1 then ([],⟨s.rest,10⟩)
 else ((s.rest.drop (eY s.rest).2.1).take (eY s.rest).1,⟨s.rest.drop ((eY s.rest).2.1+(eY s.rest).1),0⟩)
def kR (s:Rd'):Y×Rd':=if s.bad≠0 then (0,s) else if s.rest.length<1 then (0,⟨s.rest,10⟩) else (s.rest.getD 0 0,⟨s.rest.drop 1,0⟩)
def gF (xs:List Y):List Y:=bK xs.length++xs
noncomputable def B (p:Prop):Bool:=@decide p (Classical.propDecidable p)
def aHO {p:Prop}:B p=true↔p:=by simp[B]
theorem uS {p:Prop} (h:p):B p=true:=aHO.2 h
def aCK {p:Prop} (h:¬ p):B p=false:=by
 simp_all[B]
structure Opts where
 mem:Int
 table:Int
 zero:Int
 base:Int
 block:Int
 every:Int
 bits:Int
def Opts.cells (o:Opts):List Value:=[.int .i64 o.mem,.int .i64 o.table,.int .i64 o.zero,.int .i64 o.base,.int .i64 o.block,.int .i64 o.every,.int .i64 o.bits]
def Opts.val (o:Opts):Value:=.agg o.cells.toArray
def uQ (n m:Int):Bool:=decide (0<n)&&decide (n<=m)
def aDz (o:Opts):Bool :=
 uQ o.mem 1048576&&uQ o.table 1048576&&uQ o.block 262144&&uQ o.zero 64&&uQ o.base 1073741824&&uQ o.every 1024&&uQ o.bits 64
structure Meta where
 level:Int
 gen:Int
 epoch:Int
 number:Int
 size:Int
 count:Int
 min:ByteArray
 max:ByteArray
 root:Nat→Int
def Meta.cells (m:Meta):List Value :=
 [.int .u8 m.level,.int .u64 m.gen,.int .u64 m.epoch,.int .u64 m.number,.int .i64 m.size,.int .i64 m.count,.string m.min,.string m.max]++(qg 32).map fun i=>.int .u8 (m.root i)
def Meta.val (m:Meta):Value:=.agg m.cells.toArray
def Meta.zero:Meta:=⟨0,0,0,0,0,0,xc,xc,fun _=>0⟩
def Meta.len (m:Meta):m.cells.length=40:=rfl
def Meta.one (m:Meta):∀ u∈m.cells,u.oneCell'=true:=by
 intro u a;simp only [Meta.cells,qn,qe,qf,or_false,ql] at a;rcases a with (rfl|rfl|rfl|rfl|rfl|rfl|rfl|rfl) | ⟨i,_,rfl⟩<;>rfl
instance qo14 {m:Meta}:QOne m.cells:=⟨Meta.one m⟩
instance ql15 {m:Meta}:QLen m.cells 40:=⟨rfl⟩
structure Meta.wf (m:Meta):Prop where
 level:0≤m.level∧m.level<256
 number:0≤m.number∧m.number<18446744073709551616
 size : -9223372036854775808≤m.size∧m.size≤9223372036854775807
 minL:m.min.size≤9223372036854775807
 maxL:m.max.size≤9223372036854775807
 gen:0≤m.gen∧m.gen≤18446744073709551615
 epoch:0≤m.epoch∧m.epoch≤18446744073709551615
 count : -9223372036854775808≤m.count∧m.count≤9223372036854775807
 root:∀ j,j<32→0≤m.root j∧m.root j≤255
structure State where
 lv:Nat→List Meta
 log:Int
 next:Int
 seq:Int
 least:Int
 gens:Nat→Int
def State.cells (s:State) (hd:Nat->Sh):List Value :=
 (qg 5).map (fun i=>(hd i).val (s.lv i).length)++[.int .u64 s.log,.int .u64 s.next,.int .u64 s.seq,.int .u64 s.least]++(qg 5).map fun i=>.int .u64 (s.gens i)
def State.val (s:State) (hd:Nat->Sh):Value:=.agg (s.cells hd).toArray
def State.cell_gen (s:State) (hd:Nat->Sh) {k:Nat} (h:k<5):(s.cells hd)[9+k*1]? = some (.int .u64 (s.gens k)):=by
 match k,h with
 | 0,_=>rfl | 1,_=>rfl | 2,_=>rfl | 3,_=>rfl | 4,_=>rfl
structure StR (G:PM) (s:State) (hd:Nat→Sh):Prop where
 lv:∀ i,i<5→SlR G 40 Meta.cells (hd i) (s.lv i)
 len:∀ i,i<5→(s.lv i).length*112≤140737488351232
 wf:∀ i,i<5→∀ m∈s.lv i,m.wf
def StR.mono {G c:PM} {s:State} {hd:Nat->Sh} (h:StR G s hd) (a:PM.le G c):StR c s hd:=⟨fun i e=>(h.lv i e).mono a,h.len,h.wf⟩
theorem SlR.get {G:PM} {h:Sh} {xs:List Meta} (s:SlR G 40 Meta.cells h xs) {k:Nat} (a:k<xs.length):RdNP G h.b (h.o+k*40) (xs.getD k Meta.zero).cells :=
 s.rd k _ (by grind)
def SlR.gat {G:PM} {h:Sh} {xs:List Meta} (s:SlR G 40 Meta.cells h xs) {j:Int} (k:Nat) (c:j.toNat=k) (a:k<xs.length):RdNP G h.b (h.o+j.toNat*40) (xs.getD k Meta.zero).cells:=by
 rw [c]; exact s.get a
def aDM {xs:List Meta} {k:Nat} (h:k<xs.length):xs.getD k Meta.zero∈xs:=by simp [h]
def lt (a b:ByteArray):Bool:=Op.bytesLess a.toList b.toList
def le (a b:ByteArray):Bool:=Op.bytesLess a.toList b.toList||a.toList == b.toList
def good (s:State) (m:Meta):Bool :=
 decide (m.level<5)&&le m.min m.max&&decide ((m.min.size:Int)<=1024)&&decide ((m.max.size:Int)<=1024)&&decide (m.count>=1)&&decide (m.size>=1)&&decide (m.number<s.next)&&decide (m.gen<=s.gens m.level.toNat)
def qW (level:Int) (a b:Meta):Bool:=if level=0 then decide (b.number<a.number) else lt a.max b.min
def aMx (a b:Meta) (c:0<=a.level):(if (a.level == 0)=true then decide (a.number > b.number) else lt a.max b.min)=qW a.level a b:=by
 simp[qW]
theorem aTN {s:State} {m:Meta} (h1:m.level<5) (h2:(!(Op.bytesLess m.min.toList m.max.toList||m.min.toList == m.max.toList))=false)
  (h3:(if ((m.max.size:Nat):Int) > ((m.min.size:Nat):Int) then ((m.max.size:Nat):Int) else ((m.min.size:Nat):Int))<=1024) (f:1<=m.count) (e:1<=m.size) :
  fX [.bool (decide (m.number<s.next)&&decide (m.gen<=s.gens m.level.toNat))]=.bool (good s m):=by
 have a:le m.min m.max=true:=by grind[le]
 have c:((m.min.size:Nat):Int)<=1024∧((m.max.size:Nat):Int)<=1024:=by omega
 simp_all[fX,good]
def tot (s:State):Nat->Int
 | 0=>0
 | n+1=>tot s n+(s.lv n).length
theorem wP (s:State):∀ n,0<=tot s n
 | 0=>Int.le_refl _
 | n+1=>by have:=wP s n; grind[tot]
theorem aCC (s:State):∀ {n m:Nat},n<=m->tot s n<=tot s m:=by
 intro n m h;induction h with
 | refl=>omega
 | step _ ih=>grind[tot]
def nums (l:List Meta):List Int:=l.map (·.number)
def cS (s:State):Nat->List Meta
 | 0=>[]
 | n+1=>cS s n++s.lv n
theorem aCZ (s:State):∀ n,((cS s n).length:Int)=tot s n
 | 0=>rfl
 | n+1=>by simp only [cS,tot,List.length_append,←aCZ s n]; omega
def aF7 {s:State} {m:Meta}:∀ {n:Nat},m∈cS s n↔∃ i,i<n∧m∈s.lv i
 | 0=>by simp [cS]
 | n+1=>by
  simp only [cS,List.mem_append,aF7 (n:=n)];constructor
  ·rintro (⟨i,hi,hm⟩ | hm)
   ·exact ⟨i,by omega,hm⟩
   ·exact ⟨n,by omega,hm⟩
  ·rintro ⟨i,hi,hm⟩;by_cases h:i=n
   ·subst h; exact .inr hm
   ·exact .inl ⟨i,by omega,hm⟩
def uZ (s:State) (i:Nat) (l:List Meta):Prop :=
 (∀ m∈l,m.level=i∧good s m=true)∧∀ j,j+1<l.length->qW i (l.getD j Meta.zero) (l.getD (j+1) Meta.zero)=true
structure RightP (s:State):Prop where
 seq:s.seq≤72057594037927935
 least:s.least≤72057594037927935
 log:s.log≤s.next
 few:tot s 5≤1024
 lv:∀ i,i<5→uZ s i (s.lv i)
 apart:∀ a b,a<(cS s 5).length→b<a→((cS s 5).getD a Meta.zero).number≠((cS s 5).getD b Meta.zero).number
noncomputable def fT (s:State):Bool:=B (RightP s)
def yF {s:State} (h:RightP s):fT s=true:=uS h
def aX3 {s:State} (h:¬ RightP s):fT s=false:=aCK h
def mU {s:State} (h:fT s=true):RightP s:=aHO.1 h
def aKt (l:List Meta):∀ u∈l.flatMap Meta.cells,u.oneCell'=true:=fun u a=>by
 obtain ⟨m,_,c⟩:=xo.1 a;exact m.one u c
def aFU {s:State} (h:¬ RightP s):fX [.bool false]=.bool (fT s):=by rw [aX3 h]; rfl
def aTH {s:State} (h:RightP s):fX [.bool true]=.bool (fT s):=by rw [yF h]; rfl
theorem aMK {s:State} {k:Nat} (e:i<5) (c:k<(s.lv i).length) (h:(((s.lv i).getD k Meta.zero).level != (i:Int))=true∨good s ((s.lv i).getD k Meta.zero)=false):¬ RightP s:=by
 intro a;have:=(a.lv i e).1 _ (aDM c);simp_all
def State.arr_lv (s:State) (hd:Nat->Sh) {k:Nat} (h:k<5):(((s.cells hd).drop 0).take 5)[k]? = some ((hd k).val (s.lv k).length):=by
 simp_all[State.cells]
def RdNP.add {G:PM} {b:Nat} {cs:List Value} {T:TypeId}:RdNP (G.add b (cl cs T)) b 0 cs:=fun j v a=>by
 rw [wb]; exact RdP.blk (bI _ _ _) a
def cnt (L:List Int) (x:Int):Int:=if x∈L then 1 else 0
def oA (L:List Int) (x:Int):Option Value:=if x∈L then some (.int .i64 1) else none
theorem aRT (L:List Int) (x:Int):(oA L x).getD (.int .i64 0)=.int .i64 (cnt L x):=by grind[oA,cnt]
theorem aRS (L:List Int) (x:Int):0<=cnt L x∧cnt L x<=1:=by grind[cnt]
def aRZ (m:Int->Option Value) (x:Int) (u z:Value):((fun j=>if j=x then some u else m j) x).getD z=u:=by simp
theorem aRX {L:List Int} {x:Int} (h:x∉L):(fun j=>if j=x then some (Value.int .i64 (cnt L x+1)) else oA L j)=oA (L++[x]):=by
 grind[oA,cnt]
theorem aRW {L:List Int} {x:Int} (h:cnt L x+1<=1):x∉L:=by grind[cnt]
theorem aRU {L:List Int} {x:Int} (h:1<cnt L x+1):x∈L:=by
 grind[cnt]
def tH (l:List Meta):Prop:=∀ a b,a<l.length->b<a->(l.getD a Meta.zero).number≠(l.getD b Meta.zero).number
theorem aSR:tH []:=fun a b h=>by grind
theorem aSS {l:List Meta} {m:Meta} (h:tH l) (hm:m.number∉nums l):tH (l++[m]):=by
 grind[tH,nums]
def aIA (s:State) {i:Nat}:∀ {n:Nat},i<n->∃ r,cS s n=cS s i++s.lv i++r
 | 0,h=>by omega
 | n+1,h=>by
  by_cases e:i=n
  ·simp_all[cS]
  ·obtain ⟨r,hr⟩:=aIA s (i:=i) (n:=n) om;simp_all[cS]
def aNT {l:List Meta} {k:Nat} (h:k<l.length):l.take (k+1)=l.take k++[l.getD k Meta.zero]:=by
 simp_all
theorem aYN {s:State} {k:Nat} (j:i<5) (n:k<(s.lv i).length) (h:((s.lv i).getD k Meta.zero).number∈nums (cS s i++(s.lv i).take k)):¬ RightP s:=by
 intro e;obtain ⟨r,c⟩:=aIA _ j;have a:cS s 5=(cS s i++(s.lv i).take k)++((s.lv i).getD k Meta.zero) :: ((s.lv i).drop (k+1)++r):=by
  rw [c];have:s.lv i=(s.lv i).take k++(s.lv i).getD k Meta.zero :: (s.lv i).drop (k+1):=by
   simp_all
  grind
 obtain ⟨m,g,f⟩:=ql.1 h;obtain ⟨b,l,rfl⟩:=xz g;have:=e.apart (cS s i++(s.lv i).take k).length b (by grind) l;grind
def aRa (s:State) (i b:Nat):Res.mp b .u64 (oA (nums (cS s i)))=Res.mp b .u64 (oA (nums (cS s i++(s.lv i).take 0))):=by simp
def aRV {s:State} {k b:Nat} (h:(s.lv i).length<=k):Res.mp b .u64 (oA (nums (cS s i++(s.lv i).take k)))=Res.mp b .u64 (oA (nums (cS s (i+1)))):=by
 rw [wd h]; rfl
def aRY {s:State} {k b:Nat} (a:k<(s.lv i).length) (h:((s.lv i).getD k Meta.zero).number∉nums (cS s i++(s.lv i).take k)) :
  Res.mp b .u64 (fun j=>if j=((s.lv i).getD k Meta.zero).number then some (Value.int .i64 (cnt (nums (cS s i++(s.lv i).take k)) ((s.lv i).getD k Meta.zero).number+1)) else oA (nums (cS s i++(s.lv i).take k)) j) =
   Res.mp b .u64 (oA (nums (cS s i++(s.lv i).take (k+1)))):=by
 rw [aRX h,aNT a];simp [nums]
structure Part (s:State) (i k:Nat):Prop where
 le:k≤(s.lv i).length
 good:∀ j,j<k→((s.lv i).getD j Meta.zero).level=i∧good s ((s.lv i).getD j Meta.zero)=true
 pair:∀ j,j+1<k→qW i ((s.lv i).getD j Meta.zero) ((s.lv i).getD (j+1) Meta.zero)=true
 dist:tH (cS s i++(s.lv i).take k)
def Part.zero {s:State} (h:tH (cS s i)):Part s i 0:=⟨qo _,fun j a=>om,fun j a=>om,by simp_all⟩
theorem Part.step {s:State} {k:Nat} (h:Part s i k) (a:k<(s.lv i).length) (h1:((s.lv i).getD k Meta.zero).level=i∧Go.Tan.good s ((s.lv i).getD k Meta.zero)=true) (h2:((s.lv i).getD k Meta.zero).number∉nums (cS s i++(s.lv i).take k)) (h3:0<k->qW i ((s.lv i).getD (k-1) Meta.zero) ((s.lv i).getD k Meta.zero)=true):Part s i (k+1):=by
 refine ⟨om,fun j c=>?_,fun j c=>?_,?_⟩
 ·grind[good]
 ·by_cases e:j+1=k
  ·grind
  exact h.pair j om
 rw [aNT a,←qr]; exact aSS h.dist h2
def Part.lvOk {s:State} {k:Nat} (h:Part s i k) (e:(s.lv i).length<=k):uZ s i (s.lv i) :=
 ⟨fun m a=>by
  obtain ⟨q,c,rfl⟩:=xz a;have:=h.good q om;simp_all,fun j f=>h.pair j om⟩
def Part.next {s:State} {k:Nat} (h:Part s i k) (a:(s.lv i).length<=k):tH (cS s (i+1)):=by
 have:=h.dist; simp_all[wd,cS]
def aYO {s:State} (e:i<5) (h:1024-tot s i<(s.lv i).length):¬ RightP s:=by
 intro a;have c:=aCC s (show i+1<=5 by omega);rw [show tot s (i+1)=tot s i+(s.lv i).length from rfl] at c;have:=a.few;omega
def aYP {s:State} (h:72057594037927935<(if s.least > s.seq then s.least else s.seq)∨s.next<s.log):¬ RightP s:=by
 intro a;have f:=a.seq; have e:=a.least; have c:=a.log;omega
def aYM {s:State} (h1:(if s.least > s.seq then s.least else s.seq)<=72057594037927935∧s.log<=s.next) (c:i=5) (ht:tot s i<=1024) (a:∀ j,j<i->uZ s j (s.lv j)) (hd:tH (cS s i)):RightP s:=by
 subst c;refine ⟨?_,?_,h1.2,ht,a,hd⟩
 ·omega
 omega
theorem aYS {s:State} {k:Nat} (g:i<5) (j:k<(s.lv i).length) (f:Part s i k) (h:((((s.lv i).getD k Meta.zero).level != (i:Int)) || !good s ((s.lv i).getD k Meta.zero)||decide (cnt (nums (cS s i++(s.lv i).take k)) ((s.lv i).getD k Meta.zero).number+1 > 1) ||
   (decide ((k:Int) > 0) && !qW ((s.lv i).getD (k-1) Meta.zero).level ((s.lv i).getD (k-1) Meta.zero) ((s.lv i).getD k Meta.zero)))=true):¬ RightP s:=by
 simp only [x4,dT,wv] at h;rcases h with ((h | h) | h) | ⟨l,c⟩
 ·grind[aMK]
 ·grind[aMK]
 ·grind[aYN,aRU]
 ·intro e;have a:=(e.lv i g).2 (k-1) om;rw [show k-1+1=k by omega] at a;rw [(f.good (k-1) om).1,a] at c;cases c
def aYT {s:State} {k:Nat} (f:k<(s.lv i).length) (c:Part s i k) (h:((((s.lv i).getD k Meta.zero).level != (i:Int)) || !good s ((s.lv i).getD k Meta.zero)||decide (cnt (nums (cS s i++(s.lv i).take k)) ((s.lv i).getD k Meta.zero).number+1 > 1) ||
   (decide ((k:Int) > 0) && !qW ((s.lv i).getD (k-1) Meta.zero).level ((s.lv i).getD (k-1) Meta.zero) ((s.lv i).getD k Meta.zero)))=false) :
  Part s i (k+1)∧((s.lv i).getD k Meta.zero).number∉nums (cS s i++(s.lv i).take k):=by
 simp only [xf,Bool.and_eq_false_iff,decide_eq_false_iff_not,zy,bne_eq_false_iff_eq] at h;obtain ⟨⟨⟨j,g⟩,l⟩,a⟩:=h;have e:=aRW (show cnt (nums (cS s i++(s.lv i).take k)) ((s.lv i).getD k Meta.zero).number+1<=1 by omega);refine ⟨c.step f ⟨j,g⟩ e fun m=>?_,e⟩;rcases a with a | a
 ·omega
 rw [(c.good (k-1) om).1] at a; exact a
def over:Int->List Meta->Bool
 | _,[]=>false
 | r,m :: ms=>if m.size > r then true else over (r-m.size) ms
def fP (p:Meta->Bool) (l:List Meta):Int:=match l.findIdx? p with | some i=>i | none => -1
theorem aTy {p:Meta->Bool} {l:List Meta} {k:Nat} (h:∀ j,j<k->p (l.getD j Meta.zero)=false) (a:p (l.getD k Meta.zero)=false):∀ j,j<k+1->p (l.getD j Meta.zero)=false:=by
 grind
theorem aTx {p:Meta->Bool} {l:List Meta} {k:Nat} (e:l.length<=k) (h:∀ j,j<k->p (l.getD j Meta.zero)=false):fX [.int .i64 (-1)]=.int .i64 (fP p l):=by
 have:l.findIdx? p=none:=by
  rw [List.findIdx?_eq_none_iff];intro m a;obtain ⟨q,c,rfl⟩:=xz a;have:=h q om;simp_all
 grind[fP,fX]
theorem aTw {p:Meta->Bool} {l:List Meta} {k:Nat} (c:k<l.length) (h:∀ j,j<k->p (l.getD j Meta.zero)=false) (a:p (l.getD k Meta.zero)=true):fX [.int .i64 (k:Int)]=.int .i64 (fP p l):=by
 have:l.findIdx? p=some k:=by
  grind[List.findIdx?_eq_some_iff_getElem]
 simp_all[fP,fX]
def State.zero:State:=⟨fun _=>[],0,0,0,0,fun _=>0⟩
def eE:Nat->Sh:=fun _=>⟨none,0⟩
def oL {G:PM}:StR G State.zero eE:=⟨fun _ _=>dD,fun _ _=>qo _,fun _ _ m a=>nomatch a⟩
def aX7:fT State.zero=true:=by
 refine yF ⟨dc,dc,dc,dc,fun i _=>⟨fun m c=>(nomatch c),fun j e=>absurd e (yg _)⟩,fun a b f=>absurd f (yg _)⟩
section
variable {α β:Type}
def eJ (k:Nat->List Y->Option α) (r:List Y):Option α:=if (eY r).2.2=0 then k (eY r).1 (r.drop (eY r).2.1) else none
def pUp (most:Nat) (k:Nat->List Y->Option α):List Y->Option α:=eJ fun n r=>if n<=most then k n r else none
def uG (most:Nat) (k:List Y->List Y->Option α):List Y->Option α:=pUp most fun n r=>if n<=r.length then k (r.take n) (r.drop n) else none
def mB (k:Y->List Y->Option α) (r:List Y):Option α:=if r.length<1 then none else k (r.getD 0 0) (r.drop 1)
def nQ (f:(β->List Y->Option α)->List Y->Option α):Nat->(List β->List Y->Option α)->List Y->Option α
 | 0,k=>k []
 | n+1,k=>f fun x=>nQ f n fun xs=>k (x :: xs)
def uD (h:n<18446744073709551616) (k:Nat->List Y->Option α) (r:List Y):eJ k (bK n++r)=k n r:=by
 simp_all[eJ,aWa]
def bA8 (h:n<18446744073709551616) (a:n<=most) (k:Nat->List Y->Option α) (r:List Y):pUp most k (bK n++r)=k n r:=by
 simp_all[pUp,uD]
def aZm (h:xs.length<18446744073709551616) (a:xs.length<=most) (k:List Y->List Y->Option α) (r:List Y):uG most k (gF xs++r)=k xs r:=by
 simp_all[uG,gF,bA8]
theorem wF {k:Nat->List Y->Option α} {r:List Y} {a:α} (h:eJ k r=some a):∃ n r',r=bK n++r'∧n<18446744073709551616∧k n r'=some a:=by
 grind[eJ,aLO]
theorem bA7 {k:Nat->List Y->Option α} {r:List Y} {a:α} (h:pUp most k r=some a):∃ n c,r=bK n++c∧n<18446744073709551616∧n<=most∧k n c=some a:=by
 obtain ⟨n,c,g,f,e⟩:=wF h;grind
theorem aZl {k:List Y->List Y->Option α} {r:List Y} {a:α} (h:uG most k r=some a):∃ xs c,r=gF xs++c∧xs.length<=most∧k xs c=some a:=by
 obtain ⟨n,c,i,g,f,e⟩:=bA7 h;grind[gF,wn]
theorem aQ6 {k:Y->List Y->Option α} {r:List Y} {a:α} (h:mB k r=some a):∃ x r',r=x :: r'∧k x r'=some a:=by
 unfold mB at h;split at h
 ·cases h
 ·cases r with
  | nil=>simp_all
  | cons x r=>grind
end
def Tk {α:Type} (O:Option α) (s:Rd') (bad:Bool) (k:List Y->Option α):Prop:=(s.bad=0∧bad=false∧O=k s.rest)∨(O=none∧(bad=true∨s.bad≠0))
section
variable {α β:Type} {O:Option α} {s:Rd'} {bad:Bool}
def aHr {b:List Y} {k:List Y->Option α}:Tk (k b) ⟨b,0⟩ false k:=.inl ⟨rfl,rfl,rfl⟩
def Tk.num {k:Nat->List Y->Option α} (h:Tk O s bad (eJ k)):Tk O (gK s).2 bad (k (gK s).1):=by
 unfold gK;rcases h with ⟨e,c,a⟩ | ⟨e,c⟩
 ·rw [if_neg om];unfold eJ at a;split at a
  ·simp_all[Tk]
  simp_all[Tk]
 ·split
  ·simp_all[Tk]
  simp_all[Tk]
def Tk.str {most:Nat} {k:List Y->List Y->Option α} (h:Tk O s bad (uG most k)):Tk O (lH most s).2 bad (k (lH most s).1):=by
 unfold lH;rcases h with ⟨f,e,a⟩ | ⟨f,e⟩
 ·rw [if_neg om];unfold uG pUp eJ at a;split at a
  ·rename_i i;rw [if_neg om];simp only at a;split at a
   ·rename_i g;rw [if_neg om];split at a
    ·rename_i c;rw [qx] at c;rw [if_neg om];simp_all[Tk]
    simp_all[Tk]
   simp_all[Tk]
  simp_all[Tk]
 ·split
  ·simp_all[Tk]
  simp_all[Tk]
def Tk.byte {k:Y->List Y->Option α} (h:Tk O s bad (mB k)):Tk O (kR s).2 bad (k (kR s).1):=by
 unfold kR;rcases h with ⟨e,c,a⟩ | ⟨e,c⟩
 ·rw [if_neg om];unfold mB at a;split at a
  ·simp_all[Tk]
  simp_all[Tk]
 ·split
  ·simp_all[Tk]
  simp_all[Tk]
end
structure Gone where
 level:Int
 number:Int
def Gone.cells (g:Gone):List Value:=[.int .u8 g.level,.int .u64 g.number]
structure Gone.wf (g:Gone):Prop where
 level:0≤g.level∧g.level<256
 number:0≤g.number∧g.number<18446744073709551616
structure Edit where
 log:Int
 next:Int
 seq:Int
 least:Int
 gens:Nat→Int
 add:List Meta
 drop:List Gone
def Edit.cells (e:Edit) (ha hd:Sh):List Value :=
 [.int .u64 e.log,.int .u64 e.next,.int .u64 e.seq,.int .u64 e.least]++(qg 5).map (fun i=>.int .u64 (e.gens i))++[ha.val e.add.length,hd.val e.drop.length]
def Edit.val (e:Edit) (ha hd:Sh):Value:=.agg (e.cells ha hd).toArray
def u64 (x:Int):Prop:=0<=x∧x<18446744073709551616
structure Edit.wf (e:Edit):Prop where
 log:u64 e.log
 next:u64 e.next
 seq:u64 e.seq
 least:u64 e.least
 gens:∀ i,i<5→u64 (e.gens i)
 add:∀ m∈e.add,m.wf
 drop:∀ g∈e.drop,g.wf
structure EdR (G:PM) (e:Edit) (ha hd:Sh):Prop where
 add:SlR G 40 Meta.cells ha e.add
 drop:SlR G 2 Gone.cells hd e.drop
 wf:e.wf
def EdR.mono {G f:PM} {e:Edit} {c hd:Sh} (h:EdR G e c hd) (a:PM.le G f):EdR f e c hd:=⟨h.add.mono a,h.drop.mono a,h.wf⟩
def aCD (x:Int):Nat:=(x%18446744073709551616).toNat
theorem bA3 (x:Int):aCD x<18446744073709551616:=by grind[aCD]
def fU (m:Meta):List Y :=
 bK m.level.toNat++bK m.gen.toNat++bK m.epoch.toNat++bK m.number.toNat++bK (aCD m.size)++bK (aCD m.count)++gF (yb m.min)++gF (yb m.max)++(qg 32).map fun i=>qk 8 (m.root i)
def mL (g:Gone):List Y:=bK g.level.toNat++bK g.number.toNat
def iR (l:List Int):List Y:=l.flatMap fun x=>bK x.toNat
def oC (e:Edit):List Y :=
 bK e.log.toNat++bK e.next.toNat++bK e.seq.toNat++bK e.least.toNat++((qg 5).flatMap fun i=>bK (e.gens i).toNat)++bK e.add.length++e.add.flatMap fU++bK e.drop.length++e.drop.flatMap mL
def Meta.fits (m:Meta):Prop:=0<=m.size∧0<=m.count∧m.min.size<=1024∧m.max.size<=1024
theorem aW3 (x:Y):(x ||| 128#8).toNat=x.toNat%128+128:=by
 have h:=x.isLt;have hd:∀ y:Y,(y ||| 128#8).toNat=y.toNat%128+128:=by decide
 grind
theorem aP9 (x:Y):(x &&& 127#8).toNat=x.toNat%128:=by
 have hd:∀ y:Y,(y &&& 127#8).toNat=y.toNat%128:=by decide
 grind
theorem aWc {m:BitVec 64} (h:¬ m.toNat<128):bK m.toNat=(m.setWidth 8 ||| 128#8) :: bK (m >>> 7).toNat:=by
 grind[aBo,wj,aW3,jz,zj]
def aWb {m:BitVec 64} (h:m.toNat<128):bK m.toNat=[m.setWidth 8]:=by
 simp_all[xZ]
def aYy (m:BitVec 64):(m >>> 7).toNat=m.toNat / 128:=by rw [jc,zj]
theorem uvI {x:Int} (h:u64 x):Value.int .u64 x=uv .u64 (BitVec.ofInt 64 x):=by
 unfold u64 at h;show Value.int .u64 x=Value.int .u64 (((qk 64 x).toNat:Nat):Int);grind[zi]
theorem ofI {x:Int} (h:u64 x):(BitVec.ofInt 64 x).toNat=x.toNat:=by
 grind[u64]
theorem aXN (k:Nat):(128:Nat)^k=2^(7*k):=by rw [Nat.pow_mul]
theorem aH0 {w:BitVec 64} {x:Y} {k:Nat} (f:w.toNat<128^k) (g:k<=9) (e:k=9->x.toNat<=1):(w ||| (x &&& 127#8).setWidth 64 <<< (7*k)).toNat=w.toNat+(x.toNat%128)*128^k:=by
 have c:=x.isLt;have i:((x &&& 127#8).setWidth 64 <<< (7*k)).toNat=2^(7*k)*(x.toNat%128):=by
  rw [BitVec.toNat_shiftLeft,kb,aP9,yp (a:=x.toNat%128) om,jw,Nat.mul_comm];refine yp ?_;rcases xk k 9 with h | h
  ·grind[Nat]
  grind
 grind[Nat.two_pow_add_eq_or_of_lt,aXN]
def aC5 {k:Nat} (h:k<xs.length):xs.drop k=xs.getD k 0 :: xs.drop (k+1):=by
 simp_all
section
variable {xs:List Y} {k:Nat} {w:BitVec 64}
def aWT (e:eY xs=iC k w.toNat (xs.drop k)) (h:k<xs.length) (c:k=9) (a:1<(xs.getD k 0).toNat):eY xs=(0,0,11):=by
 rw [e,aC5 h,iC,if_pos ⟨c,a⟩]
def aWV (e:eY xs=iC k w.toNat (xs.drop k)) (h:k<xs.length) (c:0<k) (a:(xs.getD k 0).toNat=0):eY xs=(0,0,11):=by
 rw [e,aC5 h,iC,if_neg om,if_pos om,if_pos ⟨c,a⟩]
def aWS (e:eY xs=iC k w.toNat (xs.drop k)) (f:w.toNat<128^k) (i:k<=9) (h:k<xs.length) (g:¬ (k=9∧1<(xs.getD k 0).toNat)) (a:(xs.getD k 0).toNat<128) (c:¬ (0<k∧(xs.getD k 0).toNat=0)) :
  eY xs=((w ||| (xs.getD k 0 &&& 127#8).setWidth 64 <<< (7*k)).toNat,k+1,0):=by
 rw [e,aC5 h,iC,if_neg g,if_pos a,if_neg c,aH0 f i om,yp a]
def aGH (e:eY xs=iC k w.toNat (xs.drop k)) (f:w.toNat<128^k) (j:k<=9) (h:k<xs.length) (i:¬ (k=9∧1<(xs.getD k 0).toNat)) (c:¬ (xs.getD k 0).toNat<128) :
  eY xs=iC (k+1) (w ||| (xs.getD k 0 &&& 127#8).setWidth 64 <<< (7*k)).toNat (xs.drop (k+1))∧(w ||| (xs.getD k 0 &&& 127#8).setWidth 64 <<< (7*k)).toNat<128^(k+1)∧k+1<=9:=by
 have a:=(xs.getD k 0).isLt;have g:(xs.getD k 0).toNat%128=(xs.getD k 0).toNat-128:=by omega
 rw [aH0 f j om,g];refine ⟨by rw [e,aC5 h,iC,if_neg i,if_neg c],?_,om⟩;rw [yx];have:((xs.getD k 0).toNat-128)*128^k<=127*128^k:=xi _ om;omega
theorem aWU (e:eY xs=iC k w.toNat (xs.drop k)) (h:xs.length<=k):eY xs=(0,0,10):=by
 grind[yf,iC]
end
structure NumR (xs:List Y) (n k:Nat) (e:Int):Prop where
 eq:eY xs=(n,k,e)
 lt:n<18446744073709551616
 le:k≤xs.length
def NumR.of {k:Nat} {e:Int} (h:eY xs=(n,k,e)):NumR xs n k e:=by
 by_cases a:e=0
 ·subst a;obtain ⟨_,f,_,c⟩:=aLO h;exact ⟨h,f,c⟩
 ·obtain ⟨rfl,rfl⟩:=aLP xs 0 0 n k e h a;exact ⟨h,dc,qo _⟩
def aXk {e:Int} (h:¬ e=0):gK ⟨xs,e⟩=(0,⟨xs,e⟩):=by simp_all[gK]
def aXl {e a:Int} {k:Nat} (h:e=0) (c:NumR xs n k a) (f:L=xs.drop k):gK ⟨xs,e⟩=(n,⟨L,a⟩):=by
 unfold gK; rw [if_neg (by simp [h])]; simp only [c.eq,f]
def aXm {e:Int} (h:¬ e=0):lH most ⟨xs,e⟩=([],⟨xs,e⟩):=by simp_all[lH]
def aXn {k:Nat} {e a:Int} (h:e=0) (c:NumR xs n k a) (f:¬ a=0):lH most ⟨xs,e⟩=([],⟨xs,a⟩):=by
 unfold lH; rw [if_neg (by simp [h])]; simp only [c.eq]; simp_all
def aXo {k:Nat} {e a:Int} (h:e=0) (c:NumR xs n k a) (g:a=0) (f:most<n):lH most ⟨xs,e⟩=([],⟨xs,4⟩):=by
 unfold lH; rw [if_neg (by simp [h])]; simp only [c.eq]; simp_all
def aXq {k:Nat} {e a:Int} (h:e=0) (c:NumR xs n k a) (i:a=0) (f:¬ most<n) (g:xs.length-k<n):lH most ⟨xs,e⟩=([],⟨xs,10⟩):=by
 unfold lH; rw [if_neg (by simp [h])]; simp only [c.eq]; simp_all
theorem aXp {k:Nat} {M:List Y} {e a:Int} (h:e=0) (c:NumR xs n k a) (i:a=0) (f:¬ most<n) (g:¬ xs.length-k<n) (l:L=(xs.drop k).take (k+n-k)) (j:M=xs.drop (k+n)):lH most ⟨xs,e⟩=(L,⟨M,0⟩):=by
 unfold lH; rw [if_neg (by simp [h])]; simp only [c.eq]; grind
def aXh {e:Int} (h:¬ e=0):kR ⟨xs,e⟩=(0,⟨xs,e⟩):=by simp_all[kR]
def aXj {e:Int} (h:e=0) (a:xs.length<1):kR ⟨xs,e⟩=(0,⟨xs,10⟩):=by simp_all[kR]
def aXi {e:Int} (h:e=0) (a:¬ xs.length<1) (c:L=xs.drop 1):kR ⟨xs,e⟩=(xs.getD 0 0,⟨L,0⟩):=by simp_all[kR]
def aFH (xs:List Y) (e:Int):Int:=if e=0∧0<xs.length then 12 else e
theorem wL {s:Rd'} {t:Rd'} (h:gK s=(n,t)):n<18446744073709551616:=by
 unfold gK at h;split at h
 ·grind
 ·simp only [Prod.mk.injEq] at h;have:=NumR.of (xs:=s.rest) (n:=(eY s.rest).1) (k:=(eY s.rest).2.1) (e:=(eY s.rest).2.2) rfl;have:=this.lt;omega
section
variable {P:Program} {G:PM} {μ:aB}
def rI {f:FuncId} {b:Nat} {o:Obj} (h:PM.le G (G.add b o)->Ct P f args (G.add b o) μ post):Ct P f args G (.blk b o :: μ) post:=by
 intro w k;have m:keys (.blk b o :: μ)=b :: keys μ:=by rfl
 have i:=k.nodup;rw [m] at i;have l:=(xa.1 i).1;have A:w.heap[b]? = some o:=k.own _ (qh ..);have p:Sat (G.add b o) μ w:=by
  refine ⟨fun c u a=>?_,fun r y=>k.own r (qj _ y),fun c a=>?_,(xa.1 i).2⟩
  ·unfold PM.add at a;split at a
   ·simp_all
   exact k.sub c u a
  unfold PM.add;rw [if_neg (fun (e:c=b)=>l (e▸a))];exact k.apart c (by simp_all)
 refine (h (PM.le_add (k.apart b (by simp_all))) w p).mono ?_;rintro e E ⟨v,D,n,rfl,g,C⟩;refine ⟨v,D,n,rfl,⟨g.sat,g.os,g.tape,g.output,g.size,fun c a j=>?_,fun c a=>?_,fun c u j a=>?_⟩,C⟩
 ·rw [m] at j;have q:c≠b:=fun e=>j (by simp_all);have x:=g.old c a (fun t=>j (qj _ t));simp_all[PM.add]
 ·rw [m];rcases g.mine c a with x | x
  ·simp_all
  omega
 rw [m] at j;have q:c≠b:=fun e=>j (by simp_all);exact g.le c u (fun t=>j (qj _ t)) (by simp_all[PM.add])
end
def sF (x:Int):List Value:=[.int .u64 x]
def aJI:∀ ns:List Int,ns.flatMap sF=ns.map (Value.int .u64)
 | []=>rfl
 | x :: ns=>by rw [List.flatMap_cons,aJI ns]; rfl
def SlR.u1 {G:PM} {s:Sh} {xs:List Int} (h:SlR G 1 sF s xs) {j:Int} (k:Nat) {x:Int} (c:j.toNat=k) (a:xs[k]? = some x):RdP G ⟨s.b,s.o+j.toNat*1,none⟩ (.int .u64 x):=by
 have:=(h.nth k c a) 0 _ rfl;omega
theorem SlR.part {G:PM} {b o:Nat} {ns:List Int} {cs:List Value} (g:RdNP G b 0 cs) (e:(cs.drop o).take ns.length=ns.flatMap sF) (h:ns.length<=cap):SlR G 1 sF ⟨some ⟨b,o,none⟩,cap⟩ ns:=by
 refine ⟨fun _=>rfl,h,fun i x a j v k=>?_⟩;have f:j=0∧v=.int .u64 x:=by
  cases j<;>simp_all[sF]
 obtain ⟨rfl,rfl⟩:=f;have c:i<ns.length:=by
  grind
 have m:cs[o+i]? = some (.int .u64 x):=by
  have:=congrArg (fun l=>l[i]?) e;simp only [aJI,jg,a,xr,if_pos c,ky] at this;grind
 simp_all[Sh.b,Sh.o,RdNP]
def aWd {ns:List Int} {k:Nat} {x:Int} (h:ns[k]? = some x):iR (ns.take (k+1))=iR (ns.take k)++bK x.toNat:=by
 simp_all[we,iR]
theorem nP:∀ {ns:List Int},(∀ x∈ns,u64 x)->(iR ns).length<=10*ns.length
 | [],_=>by trivial
 | x :: ns,h=>by
  have h1:=h x (qh ..);unfold u64 at h1;have e:=iJ (n:=x.toNat) om;have c:=nP (ns:=ns) (fun y a=>h y (qj _ a));have:iR (x :: ns)=bK x.toNat++iR ns:=by simp [iR]
  rw [this,qa,qp]; omega
theorem aWe {ns:List Int} (h:∀ x∈ns,u64 x) (k:Nat):(iR (ns.take k)).length<=10*ns.length:=by
 grind[nP]
section
variable {α:Type} {O:Option α} {s t:Rd'} {bad:Bool}
theorem Tk.numE {k:Nat->List Y->Option α} (h:Tk O s bad (eJ k)) (a:gK s=(n,t)):Tk O t bad (k n):=by
 grind[Tk,eJ,gK]
def Tk.strE {k:List Y->List Y->Option α} {M:List Y} (h:Tk O s bad (uG most k)) (a:lH most s=(M,t)):Tk O t bad (k M):=by
 have:=h.str; simp_all
def Tk.byteE {k:Y->List Y->Option α} {y:Y} (h:Tk O s bad (mB k)) (a:kR s=(y,t)):Tk O t bad (k y):=by
 have:=h.byte; simp_all
end
theorem wJ {s t:Rd'} (h:gK s=(n,t)):t.rest.length<=s.rest.length:=by
 unfold gK at h;grind
theorem aXr {s t:Rd'} {M:List Y} (h:lH most s=(M,t)):t.rest.length<=s.rest.length:=by
 grind[lH]
theorem aL2 {s t:Rd'} {y:Y} (h:kR s=(y,t)):t.rest.length<=s.rest.length:=by
 grind[kR]
structure ByR (s0 s:Rd') (bad:Bool) (rt:List Y):Prop where
 len:rt.length≤32
 tk:∀ (α:Type) (O:Option α) (K:List Y→List Y→Option α),Tk O s0 bad (nQ mB 32 K)→Tk O s bad (nQ mB (32-rt.length) fun r=>K (rt++r))
def ByR.zero {c:Rd'} {a:Bool}:ByR c c a []:=⟨by simp,fun _ _ _ h=>h⟩
theorem ByR.step {e s t:Rd'} {c:Bool} {a:List Y} {y:Y} (h:ByR e s c a) (l:a.length<32) (j:kR s=(y,t)):ByR e t c (a++[y]):=by
 refine ⟨by grind,fun g O K k=>?_⟩;have f:=h.tk g O K k;obtain ⟨m,i⟩ : ∃ m,32-a.length=m+1:=⟨31-a.length,om⟩;rw [i,nQ] at f;have n:=f.byteE j;grind
def ByR.all {e s:Rd'} {a:Bool} {c:List Y} (h:ByR e s a c) (g:c.length=32) {α:Type} {O:Option α} {K:List Y->List Y->Option α} (f:Tk O e a (nQ mB 32 K)):Tk O s a (K c):=by
 have i:=h.tk α O K f;simp_all[nQ]
theorem aML {a:List Y} {k:Nat} {f:Nat->Y} {y:Y} (e:a.length=k) (g:∀ i,f i=a.getD i 0):∀ i,bA f k ((y.setWidth 64).setWidth 8) i=(a++[y]).getD i 0:=by
 intro i;have c:(y.setWidth 64).setWidth 8=y:=by
  simp
 unfold bA;grind
theorem aVy {a b c d e g h i:Value} {f:Nat->Y} (h1:a.oneCell'=true) (h2:b.oneCell'=true) (h3:c.oneCell'=true) (q:d.oneCell'=true) (p:e.oneCell'=true) (n:g.oneCell'=true) (m:h.oneCell'=true) (l:i.oneCell'=true):∀ u∈[a,b,c,d,e,g,h,i]++ba 32 f,u.oneCell'=true:=by
 intro u k;rcases qn.1 k with k | k
 ·simp only [qe,qf,or_false] at k;grind
 ·unfold ba at k;obtain ⟨j,_,rfl⟩:=ql.1 k;rfl
def xX (g:Nat->Int):List Value:=(qg 9).map fun i=>.int .u64 (g i)
def aWF (g:Nat->Int):(xX g).length=9:=by rfl
instance ql26 {g:Nat->Int}:QLen (xX g) 9:=⟨aWF g⟩
def aFc {g:Gone}:∀ u∈g.cells,u.oneCell'=true:=by
 intro u a;simp only [Gone.cells,qe,qf,or_false] at a;rcases a with rfl|rfl<;>rfl
section
variable {P:Program} {n:Fm} {l:List Oper} {K K':aF→PM→aB→Prop} {dr:Bool} {mc:Md}
theorem Wo.bind1 {e:List Nat} {ρ:aF} {G:PM} {μ:aB} (hm:∀ ρ G μ,K ρ G μ->Wo dr mc P n l K' e ρ G μ) (H:Wo dr mc P n l K [i] ρ G μ):Wo dr mc P n l K' (i :: e) ρ G μ:=by
 have c:∀ {ρ G μ},Wo dr mc P n l K [] ρ G μ->Wo dr mc P n l K' e ρ G μ:=fun h=>by cases h<;>simp_all
 cases H with
 | pure ho hk hg hr h=>grind[pure]
 | read ho hk hg hr h=>grind[read]
 | make ho hk hg hr h=>exact .make ho hk hg hr fun b=>c (h b)
 | box ho hk hg hr h=>exact .box ho hk hg hr fun b=>c (h b)
 | callv ho hk hg hr hf h=>exact .callv ho hk hg hr hf (c h)
 | call ho hk hg hr hf h=>grind[call]
 | callg hd ho hg hr hf h=>grind[callg]
 | callp hd ho hg hp hr hf hx h=>grind[callp]
 | pan hd ho hg hr hx=>simp_all[pan]
 | fresh ho hk hg hp hr hw h=>exact .fresh ho hk hg hp hr hw fun v k g f a b=>c (h v k g f a b)
 | act ho hk hg hp hr h=>exact .act ho hk hg hp hr fun v k j a b=>c (h v k j a b)
theorem Wo.cut1 {i:List Nat} {ρ:aF} {G:PM} {μ:aB} (H:Wo dr mc P n l K (j :: i) ρ G μ):Wo dr mc P n l (fun ρ G μ=>Wo dr mc P n l K i ρ G μ) [j] ρ G μ:=by
 cases H with
 | pure ho hk hg hr h=>grind[pure,nil]
 | read ho hk hg hr h=>grind[read,nil]
 | make ho hk hg hr h=>exact .make ho hk hg hr fun b=>.nil (h b)
 | box ho hk hg hr h=>exact .box ho hk hg hr fun b=>.nil (h b)
 | callv ho hk hg hr hf h=>exact .callv ho hk hg hr hf (.nil h)
 | call ho hk hg hr hf h=>grind[call,nil]
 | callg hd ho hg hr hf h=>grind[callg,nil]
 | callp hd ho hg hp hr hf hx h=>grind[callp,nil]
 | pan hd ho hg hr hx=>simp_all[pan]
 | fresh ho hk hg hp hr hw h=>exact .fresh ho hk hg hp hr hw fun v g e c a b=>.nil (h v g e c a b)
 | act ho hk hg hp hr h=>exact .act ho hk hg hp hr fun v g f a b=>.nil (h v g f a b)
def mQ (mc:Md) (l:List Oper) (listed:Array Bool) (i:Nat):Bool :=
 (cJ l listed).contains i&&match nth l i with
 | some oi=>(bB mc oi.op == .pure||bB mc oi.op == .read)&&(qg l.length).all fun j=>listed.getD j true||j == i||match nth l j with
  | some oj=>rZ l l.length j i||(oi.apart l.toArray oj&&(bB mc oi.op == .pure||bB mc oj.op != .act))
  | none=>false
 | none=>false
def Wt (mc:Md) (P:Program) (n:Fm) (l:List Oper) (K:aF->PM->aB->Prop):Nat->Array Bool->aF->PM->aB->Prop
 | 0,listed,ρ,G,μ=>cJ l listed=[]∧K ρ G μ
 | m+1,listed,ρ,G,μ=>(∃ i,mQ mc l listed i=true∧Wo true mc P n l (fun ρ' G' μ'=>Wt mc P n l K m (listed.setIfInBounds i true) ρ' G' μ') [i] ρ G μ) ∨
   (cJ l listed≠[]∧∀ j∈cJ l listed,Wo true mc P n l (fun ρ' G' μ'=>Wt mc P n l K m (listed.setIfInBounds j true) ρ' G' μ') [j] ρ G μ)
def aAz (a:lQ K):∀ (m:Nat) (listed:Array Bool),lQ (fun ρ G μ=>Wt mc P n l K m listed ρ G μ)
 | 0,listed=>⟨fun ρ ρ' G μ e h=>⟨h.1,a.1 _ _ _ _ e h.2⟩,fun ρ G μ μ' p h=>⟨h.1,a.2 _ _ _ _ p h.2⟩⟩
 | m+1,listed=>by
  refine ⟨fun ρ ρ' G μ e h=>?_,fun ρ G μ μ' p h=>?_⟩
  ·rcases h with ⟨i,h1,h2⟩ | ⟨h1,h2⟩
   ·exact .inl ⟨i,h1,h2.congr (aAz a m _) e⟩
   exact .inr ⟨h1,fun j hj=>(h2 j hj).congr (aAz a m _) e⟩
  rcases h with ⟨i,h1,h2⟩ | ⟨h1,h2⟩
  ·exact .inl ⟨i,h1,h2.perm (aAz a m _) p⟩
  exact .inr ⟨h1,fun j hj=>(h2 j hj).perm (aAz a m _) p⟩
def pS (listed:Array Bool):Nat:=listed.toList.count false
theorem aAg {a:Array Bool} (h:a.getD i true=false):pS (a.setIfInBounds i true)+1=pS a:=by
 rcases xk i a.size with c | c
 ·have e:a.toList[i]'om=false:=by simp_all
  unfold pS;grind
 simp_all
theorem aHB {a:Array Bool} (h:a.getD i true=false):0<pS a:=by
 grind[aAg]
def aLZ {a:Array Bool} (f:i≠j) (h:mQ mc l a i=true):mQ mc l (a.setIfInBounds j true) i=true:=by
 unfold mQ at h ⊢;simp only [qi] at h ⊢;obtain ⟨p,c⟩:=h;refine ⟨by simp_all[wM],?_⟩;cases m:nth l i with
 | none=>simp_all
 | some oi =>
  simp only [m,qi] at c ⊢;refine ⟨c.1,wg.2 fun k g=>?_⟩;have n:=wg.1 c.2 k g;by_cases e:j=k
  ·simp_all
  simp_all
theorem Wt.front (M:lQ K) (L:Region.noSelect l.toArray=true) (x:∀ j g,nth l j=some g->bB mc g.op=.make->vB P g) (A:∀ j g,nth l j=some g->iV n g.dst) :
  ∀ (m:Nat) (listed:Array Bool) (j:Nat) (ρ:aF) (G:PM) (μ:aB),pS listed=m+1->Closed l listed->j∈cJ l listed->Wt mc P n l K (m+1) listed ρ G μ->Wo true mc P n l (fun a t c=>Wt mc P n l K m (listed.setIfInBounds j true) a t c) [j] ρ G μ
 | m,listed,j,ρ,G,μ,hu,hcl,hj,H=>by
  rcases H with ⟨i,h1,h2⟩ | ⟨_,h2⟩
  ·by_cases e:j=i
   ·simp_all
   have hi:i∈cJ l listed:=by simp_all[mQ]
   have I:=wM hj e;have k:=(jZ.1 hi).1;have y:=(jZ.1 hj).1;have O:=aAg k;have q:(listed.setIfInBounds i true).getD j true=false:=by simp_all[Ne.symm]
   have T:=aHB q;obtain ⟨v,rfl⟩ : ∃ v,m=v+1:=⟨m-1,om⟩;obtain ⟨_,J,p,_⟩:=jZ.1 hi;obtain ⟨_,g,f,_⟩:=jZ.1 hj;have S:Wo true mc P n l (fun a t c=>Wt mc P n l K v ((listed.setIfInBounds i true).setIfInBounds j true) a t c) (i :: [j]) ρ G μ :=
    h2.bind1 fun a t c h=>Wt.front M L x A v (listed.setIfInBounds i true) j a t c om (hcl.set hi) I h
   have w:=aBn hcl k hj l.length;have F:j<l.length:=by
    have:=(jY _ _).trans f;grind
   have r:=h1;unfold mQ at r;simp only [qi,p] at r;obtain ⟨_,E,C⟩:=r;have N:=wg.1 C j (xh.2 F);simp only [y,f,w,Bool.false_or,x4,beq_iff_eq,e,false_or,qi,bne_iff_ne] at N;simp only [x4,beq_iff_eq] at E;have D:bB mc J.op=.pure∨(bB mc J.op=.read∧bB mc g.op≠.act)∨bB mc g.op=.make:=by
    grind
   have Q:=Wo.swap (aAz M v _) rfl p f (yX L p f N.1) A (x j g f) D S;refine Q.cut1.bind1 fun a t c h=>.nil (.inl ⟨i,aLZ (Ne.symm e) h1,?_⟩);grind[Array.setIfInBounds_comm]
  simp_all
theorem Wt.any {Q:Exit->Act->World->Prop} {x:PM} {K0:List Nat} {w0:World} (v:lQ K) (q:Region.noSelect l.toArray=true) (e:∀ j oj,nth l j=some oj->bB mc oj.op=.make->vB P oj) (c:∀ j oj,nth l j=some oj->iV n oj.dst)
  (t:∀ ρ G μ,K ρ G μ->∀ a w,Ag n ρ a->Tr x K0 w0 G μ w->Q .normal a w) :
  ∀ (m:Nat) (listed:Array Bool) (ρ:aF) (G:PM) (μ:aB) (a:Act) (w:World),pS listed=m->Closed l listed->Wt mc P n l K m listed ρ G μ->Ag n ρ a->Tr x K0 w0 G μ w->wpAny P .any l.toArray Q m listed a w
 | 0,listed,ρ,G,μ,a,w,_,_,H,ha,ht=>⟨H.1,t _ _ _ H.2 a w ha ht⟩
 | m+1,listed,ρ,G,μ,a,w,hu,hcl,H,ha,ht=>by
  refine ⟨fun h0=>?_,fun j hj=>?_⟩
  ·rcases H with ⟨i,h1,_⟩ | ⟨h1,_⟩
   ·simp_all[cJ,mQ]
   trivial
  have hj':j∈cJ l listed:=hj;have A:=aAg (jZ.1 hj').1;obtain ⟨o,C,h⟩:=(Wt.front v q e c m listed j ρ G μ hu hcl hj' H).head ha ht (next:=wpAny P .any l.toArray Q m (listed.setIfInBounds j true)) (Q:=Q) c (fun r=>by simp_all)
   (fun f F g D y E p k=>by cases E with | nil h=>exact Wt.any v q e c t m _ f F g D y om (hcl.set hj') h p k)
  simp only [wpOp,jY,C];grind
def aBh (P:Program) (n:Nat) (l:List Oper):Bool:=Region.noSelect l.toArray&&(l.all fun o=>match o.dst with | some d=>decide (d<n) | none=>true)&&aID P l
def Wk.mix {k:List KI} {ρ:aF} {G:PM} {μ:aB} (mc:Md) (hm:X.P.follows .mixedOrders=true) (c:aBh X.P X.n.n l=true) (h:Wt mc X.P X.n l (fun ρ G μ=>We X .normal k ρ G μ) l.length (Array.replicate l.length false) ρ G μ):Wk X (.region m l.toArray true) k ρ G μ:=by
 simp only [aBh,qi] at c;obtain ⟨⟨v,t⟩,r⟩:=c;refine ⟨fun a w i f=>wp_region_any hm ?_⟩;have p:pS (Array.replicate l.length false)=l.length:=by simp [pS]
 have:=Wt.any (Q:=gH X k) (aEV .normal) v (fun j e g q=>aF4 q (wg.1 r e (aAH g)))
  (fun j e g=>by
   have:=wg.1 t e (aAH g);cases hd:e.dst with
   | none=>trivial
   | some d=>rw [hd] at this; show d<X.n.n; simp_all) (fun _ _ _ h a w i f=>h.out a w i f) l.length _ ρ G μ a _ p (Closed.none _) h i f.drew
 omega
variable {ρ:aF} {G:PM} {μ:aB} {m:Nat} {listed:Array Bool}
def Wt.last (a:cJ l listed=[]) (h:K ρ G μ):Wt mc P n l K 0 listed ρ G μ:=⟨a,h⟩
def Wt.one (i:Nat) (a:mQ mc l listed i=true) (h:Wo true mc P n l (fun ρ' G' μ'=>Wt mc P n l K m (listed.setIfInBounds i true) ρ' G' μ') [i] ρ G μ):Wt mc P n l K (m+1) listed ρ G μ:=.inl ⟨i,a,h⟩
def Wt.b1 (j:Nat) (e:cJ l listed=[j]) (h:Wo true mc P n l (fun ρ' G' μ'=>Wt mc P n l K m (listed.setIfInBounds j true) ρ' G' μ') [j] ρ G μ):Wt mc P n l K (m+1) listed ρ G μ :=
 .inr ⟨by simp_all,fun c a=>by simp_all⟩
theorem Wt.b2 (j a:Nat) (f:cJ l listed=[j,a]) (h:Wo true mc P n l (fun ρ' G' μ'=>Wt mc P n l K m (listed.setIfInBounds j true) ρ' G' μ') [j] ρ G μ)
  (h2:Wo true mc P n l (fun ρ' G' μ'=>Wt mc P n l K m (listed.setIfInBounds a true) ρ' G' μ') [a] ρ G μ):Wt mc P n l K (m+1) listed ρ G μ :=
 .inr ⟨by simp_all,fun e c=>by
  grind⟩
def bR (i:Nat) (h:Wo true mc P n l (fun ρ' G' μ'=>Wt mc P n l K m (listed.setIfInBounds i true) ρ' G' μ') [i] ρ G μ) (a:mQ mc l listed i=true:=by kernel_rfl):Wt mc P n l K (m+1) listed ρ G μ:=Wt.one i a h
def fC (j:Nat) (h:Wo true mc P n l (fun ρ' G' μ'=>Wt mc P n l K m (listed.setIfInBounds j true) ρ' G' μ') [j] ρ G μ) (a:cJ l listed=[j]:=by kernel_rfl):Wt mc P n l K (m+1) listed ρ G μ:=Wt.b1 j a h
def lN (h:K ρ G μ) (a:cJ l listed=[]:=by kernel_rfl):Wt mc P n l K 0 listed ρ G μ:=Wt.last a h
end
section
variable {dr:Bool} {mc:Md} {P:Program} {n:Fm} {l:List Oper} {K:aF→PM→aB→Prop} {i:Nat} {σ:List Nat} {ρ:aF} {G:PM} {μ:aB}
variable {d t:Nat} {p:String} {af:Array Edge} {g:Option (Nat×Bool)} {c:Bool}
def bSf {C len:Nat} {y:List (Nat×Operand)} {vs:List (Nat×Value)} {cs:List Value} (Q:nth l i=some ⟨some d,.buildSlice T len y.toArray,t,p,af,none⟩) (X:bY P T=some (E,sz,C)) (J:∀ a,Ag n ρ a->true=true->y.map (fun q=>(q.1,a.eval q.2))=vs) (c:vJ P T len vs=some cs) (h:∀ b g,PM.le G g->PB g b (cl cs E)->Wo dr mc P n l K σ ((d,true,.slice (some ⟨b,0,none⟩) len len) :: ρ) g μ):Wo dr mc P n l K (i :: σ) ρ G μ:=by
 refine .fresh (μ₁:=[]) (μ₂:=μ) (post:=fun g m k v=>m=[]∧k=[]∧∃ b,v=.slice (some ⟨b,0,none⟩) len len∧PB g b (cl cs E)) Q (.inl rfl) rfl (List.Perm.refl _) (fun a w S N=>?_) ?_ ?_
 ·have x:(execOp a.eval ⟨some d,.buildSlice T len y.toArray,t,p,af,none⟩).run P w=.ok (.value (.slice (some ⟨w.heap.size,0,none⟩) len len)) (w.alloc (cl cs E)):=by
   obtain ⟨F,e,H,M,_⟩:=fW X;have Z:=J a S rfl;simp only [vJ,F,H] at c;cases D:e.zero with
   | none=>simp_all
   | some z =>
    rw [D] at c;simp only at c;split at c
    ·cases c
    rename_i f;simp only [not_or] at f;obtain ⟨f,h0⟩:=f;cases I:Instr.fill (fun j=>some (j*e.size,e.size)) ((ze (len*e.size)).map (z.cells[·%z.cells.size]!)) vs with
    | none=>simp_all
    | some r =>
     rw [I] at c;simp only [wx,Option.some.injEq] at c;subst c;simp [execOp,Instr.buildSlice,run_underlying F,sizeOf,typeInfo,H,h0,f,zeroValue,D,I,Z,newRow,cl]
  have A:Sat G [] w:=⟨N.sub,by simp,by simp [keys],by trivial⟩;have L:=((gX A).alloc (cl cs E)).freeze;exact ⟨_,_,_,[],[],x,L,rfl,rfl,_,rfl,⟨bI _ _ _⟩⟩
 ·rintro v g m k ⟨rfl,rfl,_⟩;exact ⟨(fun w _ r O=>by cases O),(fun b c=>by cases c),by trivial⟩
 simp_all[bV]
def PB.slq {b:Nat} {ns:List Int} {T:TypeId} (h:PB G b (cl (ns.map (Value.int .u64)) T)) (a:ns.length<=cap):SlR G 1 sF ⟨some ⟨b,0,none⟩,cap⟩ ns:=by
 refine ⟨fun _=>rfl,a,fun i x e j v f=>?_⟩;have c:j=0∧v=.int .u64 x:=by
  cases j<;>simp_all[sF]
 obtain ⟨rfl,rfl⟩:=c;have:=h.rd (o:=i) (v:=.int .u64 x) (by simp_all);simp_all[Sh.b,Sh.o]
theorem bQ {len:Nat} {v:List (Nat×Operand)} {r:List Value} {z:Value} (ns:List Int) (D:nth l i=some ⟨some d,.buildSlice T len v.toArray,t,p,af,none⟩) (y:bY P T=some (E,1,m)) (e:(P.info? E).bind (·.zero)=some z) (C:∀ a,Ag n ρ a->true=true->v.map (fun q=>(q.1,a.eval q.2))=mT 0 r) (f:r=ns.map (Value.int .u64)) (I:ns.length=len) (M:0<len∧len<=16777216) (h:∀ c s,PM.le G c->SlR c 1 sF s ns->Wo dr mc P n l K σ ((d,true,s.val ns.length) :: ρ) c μ):Wo dr mc P n l K (i :: σ) ρ G μ:=by
 subst f;refine bSf (vs:=mT 0 (ns.map (Value.int .u64))) (cs:=ns.map (Value.int .u64)) D y C ?_ (fun b c k F=>?_)
 ·obtain ⟨g,A,w,j,_⟩:=fW y;rw [w] at e;simp only [qu] at e;simp only [vJ,g,w,e,j];rw [if_neg om];generalize J:(ze (len*1)).map (z.cells[·%z.cells.size]!)=arr;have H:arr.toList.length=len:=by grind
  have L:=aFR (ns.map (Value.int .u64)) 0 arr.toList (fun u g=>by obtain ⟨x,_,rfl⟩:=ql.1 g; rfl) (by simp_all);simp_all
 have:=h c ⟨some ⟨b,0,none⟩,len⟩ k (F.slq om);simp_all[Sh.val]
end
def q1 {a:Int} (h:u64 a):∀ x∈[a],u64 x:=by simp_all
def q2 {a b:Int} (h:u64 a) (h2:u64 b):∀ x∈[a,b],u64 x:=by
 simp_all
def q4 {a b c d:Int} (h:u64 a) (h2:u64 b) (h3:u64 c) (e:u64 d):∀ x∈[a,b,c,d],u64 x:=by
 simp_all
def q6 {a b c d e f:Int} (h:u64 a) (h2:u64 b) (h3:u64 c) (j:u64 d) (i:u64 e) (g:u64 f):∀ x∈[a,b,c,d,e,f],u64 x:=by
 simp_all
def wQ (h:n<18446744073709551616):u64 (n:Int):=⟨om,om⟩
def bBg (x:Int):(IntKind.u64.wrap x).toNat=aCD x:=by
 rfl
theorem aNq (x:Int):u64 (IntKind.u64.wrap x):=by
 grind[u64,IntKind.wrap,IntKind.signed,IntKind.bits]
def aNp {m:Meta} (h:m.wf):∀ x∈[m.level,m.gen,m.epoch,m.number,IntKind.u64.wrap m.size,IntKind.u64.wrap m.count],u64 x:=by
 have f:=h.level; have e:=h.gen; have c:=h.epoch; have a:=h.number;exact q6 ⟨om,om⟩ ⟨om,om⟩ ⟨om,om⟩ ⟨om,om⟩ (aNq _) (aNq _)
def pJ (e:Edit):List Int:=(qg 5).map e.gens
def aBT {e:Edit} (h:e.wf):∀ x∈pJ e,u64 x:=by
 intro x a;obtain ⟨i,c,rfl⟩:=ql.1 a;exact h.gens i (xh.1 c)
def aTe {G:PM} {e:Edit} {a hd:Sh} {b:Nat} {T:TypeId} (h:PB G b (cl (e.cells a hd) T)):SlR G 1 sF ⟨some ⟨b,4,none⟩,5⟩ (pJ e):=by
 refine SlR.part (cs:=e.cells a hd) (fun j v c=>?_) rfl (qc 5);have:=h.rd c;simp_all
theorem aKr {m:Meta} (h:m.wf):(m.cells.drop 8).take 32=ba 32 (fun i=>BitVec.ofInt 8 (m.root i)):=by
 have e:m.cells.drop 8=(qg 32).map fun i=>.int .u8 (m.root i):=rfl;rw [e,wd (by simp)];unfold ba;refine zq fun i a=>?_;have f:=h.root i (xh.1 a);show Value.int .u8 (m.root i)=V (qk 8 (m.root i));have c:(((qk 8 (m.root i)).toNat:Nat):Int)=m.root i:=by grind[zi]
 show Value.int .u8 (m.root i)=Value.int .u8 (((qk 8 (m.root i)).toNat:Nat):Int);rw [c]
def aLR:iR []=[]:=rfl
theorem aGJ (x:Int) (ns:List Int):iR (x :: ns)=bK x.toNat++iR ns:=by rfl
def aJG (m:Meta) (A:List Y):A++iR [m.level,m.gen,m.epoch,m.number,IntKind.u64.wrap m.size,IntKind.u64.wrap m.count]++gF (yb m.min)++gF (yb m.max)++yl 32 (fun i=>BitVec.ofInt 8 (m.root i))=A++fU m:=by
 unfold fU;simp only [aGJ,aLR,bBg,qr,wh];rfl
def aJF (g:Gone) (A:List Y):A++iR [g.level,g.number]=A++mL g:=by
 simp[mL,aGJ,aLR]
theorem aJE (e:Edit):iR [e.log,e.next,e.seq,e.least]++iR (pJ e)++iR [(e.add.length:Int)]++e.add.flatMap fU++iR [(e.drop.length:Int)]++e.drop.flatMap mL=oC e:=by
 grind[iR,pJ,List.flatMap_map,oC,aGJ]
def aBQ {α a:Type} {f:α->List a} {xs:List α} {k:Nat} {x:α} (h:xs[k]? = some x):(xs.take (k+1)).flatMap f=(xs.take k).flatMap f++f x:=by
 simp_all[we]
theorem aDJ {α a:Type} {f:α->List a} {xs:List α} {k:Nat} {x:α} (h:xs[k]? = some x):((xs.take k).flatMap f).length+(f x).length<=(xs.flatMap f).length:=by
 have c:xs.flatMap f=(xs.take (k+1)).flatMap f++(xs.drop (k+1)).flatMap f:=by grind[wn]
 simp_all[aBQ]
theorem aDK {α a:Type} {f:α->List a} {xs:List α} (k:Nat):((xs.take k).flatMap f).length<=(xs.flatMap f).length:=by
 grind[wn]
theorem aB8 (h:xs.length<18446744073709551616):(gF xs).length<=xs.length+10:=by
 grind[iJ,gF]
theorem aZi (xs:List Y):xs.length<=(gF xs).length:=by simp[gF]
theorem aJH (m:Meta):m.min.size+m.max.size<=(fU m).length:=by
 grind[aZi,bM,fU]
theorem aSw {g:Gone} (h:g.wf):(mL g).length<=20:=by
 have c:=h.level; have a:=h.number;grind[iJ,mL]
theorem aFd {a:List Gone} (h:∀ g∈a,g.wf):(a.flatMap mL).length<=20*a.length:=by
 induction a with
 | nil=>simp
 | cons g a ih =>
  grind[aSw]
def SlR.fat {α:Type} {G:PM} {enc:α->List Value} {h:Sh} {xs:List α} (s:SlR G sz enc h xs) {j:Int} {k:Nat} {x:α} (e:j.toNat=k) (a:xs[k]? = some x) (q:Nat) {v:Value} (c:(enc x)[q]? = some v):RdP G ⟨h.b,h.o+j.toNat*sz+q,none⟩ v:=s.at e a q v c
def rT (s:State) (e:Edit):Bool:=((qg 5).any fun i=>decide (e.gens i<s.gens i))||(((decide (e.log<s.log)||decide (e.next<s.next))||decide (e.seq<s.seq))||decide (e.least<s.least))
theorem aQb {s:State} {e:Edit} (a:i<5) (h:e.gens i<s.gens i):rT s e=true:=by
 grind[rT]
theorem aEe {s:State} {e:Edit} (h:∀ i,i<5->¬ e.gens i<s.gens i):rT s e=(((decide (e.log<s.log)||decide (e.next<s.next))||decide (e.seq<s.seq))||decide (e.least<s.least)):=by
 unfold rT;grind
def State.len {s:State} {hd:Nat->Sh}:(s.cells hd).length=14:=by rfl
def aEU {s:State} {hd:Nat->Sh}:∀ u∈s.cells hd,u.oneCell'=true:=by
 intro u a;simp only [State.cells,qn,ql,qe,qf,or_false] at a;rcases a with (⟨i,_,rfl⟩ | (rfl|rfl|rfl|rfl)) | ⟨i,_,rfl⟩<;>rfl
instance qo19 {s:State} {hd:Nat->Sh}:QOne (s.cells hd):=⟨aEU⟩
instance ql20 {s:State} {hd:Nat->Sh}:QLen (s.cells hd) 14:=⟨State.len⟩
def Edit.len {e:Edit} {a hd:Sh}:(e.cells a hd).length=11:=by rfl
def aOj {e:Edit} {c hd:Sh}:∀ u∈e.cells c hd,u.oneCell'=true:=by
 intro u a;simp only [Edit.cells,qn,ql,qe,qf,or_false] at a;rcases a with ((rfl|rfl|rfl|rfl) | ⟨i,_,rfl⟩) | (rfl|rfl)<;>rfl
instance qo21 {e:Edit} {ha hd:Sh}:QOne (e.cells ha hd):=⟨aOj⟩
instance ql22 {e:Edit} {ha hd:Sh}:QLen (e.cells ha hd) 11:=⟨Edit.len⟩
def aTd {e:Edit} {j:Int} {k:Nat} (a:j.toNat=k) (h:k<5):((List.range 5).map (fun i=>Value.int .u64 (e.gens i)))[j.toNat]? = some (.int .u64 (e.gens k)):=by
 simp_all
def bA5 {a b:UInt8}:(a<b)↔a.toNat<b.toNat:=UInt8.lt_iff_toNat_lt
def aCg:∀ (x:List UInt8),Op.bytesLess x x=false
 | []=>rfl
 | a :: x=>by
  have h:¬ a<a:=by rw [bA5]; omega
  simp [Op.bytesLess,h,aCg x]
theorem aIU:∀ {x y z:List UInt8},Op.bytesLess x y=true->Op.bytesLess y z=true->Op.bytesLess x z=true
 | [],[],_,h,_=>by omega
 | [],_ :: _,[],_,h=>by trivial
 | [],_ :: _,_ :: _,_,_=>by rfl
 | _ :: _,[],_,h,_=>by trivial
 | _ :: _,_ :: _,[],_,h=>by trivial
 | a :: x,b :: y,c :: z,h,h'=>by
  simp only [Op.bytesLess,Bool.or_eq_true,Bool.and_eq_true,decide_eq_true_eq,beq_iff_eq] at h h' ⊢;rcases h with h | ⟨rfl,h⟩
  ·grind
  ·rcases h' with h' | ⟨rfl,h'⟩
   ·simp_all
   ·exact .inr ⟨rfl,aIU h h'⟩
theorem aIV:∀ (x y:List UInt8),Op.bytesLess x y=true∨x=y∨Op.bytesLess y x=true
 | [],[]=>.inr (.inl rfl)
 | [],_ :: _=>.inl (by rfl)
 | _ :: _,[]=>.inr (.inr (by rfl))
 | a :: x,b :: y=>by
  simp only [Op.bytesLess,Bool.or_eq_true,Bool.and_eq_true,decide_eq_true_eq,beq_iff_eq,List.cons.injEq];have hab:a.toNat<b.toNat∨a=b∨b.toNat<a.toNat:=by
   grind[UInt8.toNat_inj]
  rcases hab with h|rfl | h
  ·grind
  ·rcases aIV x y with h|rfl | h
   ·exact .inl (.inr ⟨rfl,h⟩)
   ·exact .inr (.inl ⟨rfl,rfl⟩)
   ·exact .inr (.inr (.inr ⟨rfl,h⟩))
  grind
theorem zC {a b:ByteArray} (h:a.toList=b.toList):a=b:=by
 rw [ByteArray.toList_eq,ByteArray.toList_eq] at h;cases a<;>simp_all
theorem vY (a:ByteArray):lt a a=false:=aCg _
theorem aAD {a b c:ByteArray} (h:lt a b=true) (e:lt b c=true):lt a c=true:=aIU h e
theorem aBb (a b:ByteArray):lt a b=true∨a=b∨lt b a=true:=by
 grind[aIV,zC,lt]
theorem aAC {a b:ByteArray} (h:lt a b=true):lt b a=false:=by
 grind[aAD,vY]
theorem aKT (a b:ByteArray):le a b = !lt b a:=by
 have e:le a b=(lt a b||a.toList == b.toList):=rfl;rw [e];rcases aBb a b with h|rfl | h
 ·simp_all[aAC]
 ·simp[vY]
 grind[aAC,zC]
def aAE (s:State) (h:i<5):((s.lv i).length:Int)<=tot s 5:=by
 have a:=aCC s (show i+1<=5 by omega);have c:=wP s i;rw [show tot s (i+1)=tot s i+(s.lv i).length from rfl] at a;omega
structure Ent where
 user:ByteArray
 seq:BitVec 64
 kind:Y
 value:ByteArray
variable {e:Ent} {l:List Ent}
def Ent.cells (e:Ent):List Value:=[.string e.user,uv .u64 e.seq,V e.kind,.string e.value]
def Ent.val (e:Ent):Value:=.agg e.cells.toArray
def Ent.zero:Ent:=⟨xc,0,0,xc⟩
theorem Ent.len (e:Ent):e.cells.length=4:=rfl
theorem Ent.one (e:Ent):∀ u∈e.cells,u.oneCell'=true:=by
 intro u a;simp only [Ent.cells,qe,qf,or_false] at a;rcases a with rfl|rfl|rfl|rfl<;>rfl
instance qo17 {e:Ent}:QOne e.cells:=⟨Ent.one e⟩
instance ql18 {e:Ent}:QLen e.cells 4:=⟨rfl⟩
def cC (e:Ent):Bool:=(decide ((e.user.size:Int)<=1024)&&decide ((e.value.size:Int)<=65536))&&decide (e.seq.toNat<=72057594037927935)&&(if e.kind=0#8 then e.value.toList == [] else decide (e.kind=1#8))
def cR (a b:Ent):Bool:=lt a.user b.user||(a.user.toList == b.user.toList&&decide (b.seq.toNat<a.seq.toNat))
noncomputable def cA (l:List Ent):Bool:=B (∀ i,i+1<l.length->cR (l.getD i Ent.zero) (l.getD (i+1) Ent.zero)=true)
def aX8 (h:i+1<l.length) (a:cR (l.getD i Ent.zero) (l.getD (i+1) Ent.zero)=false):cA l=false:=aCK fun c=>by simp_all
def aX9 {k:Nat} (a:l.length<=k+1) (h:∀ i,i<k->cR (l.getD i Ent.zero) (l.getD (i+1) Ent.zero)=true):cA l=true:=uS fun i c=>h i om
def dA (e:Ent):List Y:=yb e.user++cM (e.seq <<< 8+e.kind.setWidth 64) 8
theorem zX (e:Ent):(dA e).length=e.user.size+8:=by simp[dA,bM,jJ]
def aBY (s:List Y):BitVec 64:=eA (s.drop (s.length-8)) 8
def tT (s:List Y):Ent:=⟨aQ (s.take (s.length-8)),aBY s >>> 8,(aBY s).setWidth 8,xc⟩
def iK (s:List Y):Ent×Int:=if s.length<8 then (Ent.zero,80) else if cC (tT s) then (tT s,0) else (Ent.zero,80)
def gA:List Y->List Y->Nat
 | x :: a,y :: b=>if x=y then gA a b+1 else 0
 | _,_=>0
theorem aCt:∀ a b:List Y,gA a b<=a.length∧gA a b<=b.length
 | [],_=>⟨Nat.zero_le _,Nat.zero_le _⟩
 | _ :: _,[]=>⟨Nat.zero_le _,Nat.zero_le _⟩
 | x :: a,y :: b=>by
  have:=aCt a b;unfold gA;split<;>simp only [qp]<;>omega
theorem aCs:∀ {a b:List Y} {k:Nat},k<=a.length->k<=b.length->(∀ j,j<k->a.getD j 0=b.getD j 0)->(k=a.length∨k=b.length∨a.getD k 0≠b.getD k 0)->gA a b=k
 | [],b,k,h1,_,_,_=>by simp_all[gA]
 | x :: a,[],k,_,h2,_,_=>by simp_all[gA]
 | x :: a,y :: b,0,_,_,_,h=>by
  simp_all[gA]
 | x :: a,y :: b,k+1,h1,h2,hj,h=>by
  have h0:=hj 0 om;simp only [v6] at h0;unfold gA;rw [if_pos h0,aCs (a:=a) (b:=b) (k:=k) (by simp_all) (by simp_all) (fun j c=>by grind) ?_];simp_all
def pZ (a b:List Y):List Y :=
 if gA a b<a.length∧gA a b<b.length∧(a.getD (gA a b) 0).toNat+2<=(b.getD (gA a b) 0).toNat then a.take (gA a b)++[a.getD (gA a b) 0+1#8] else a
theorem aFW {α:Type} {enc:α->List Value} {sz:Nat}:∀ {xs:List α} {q:Nat},(∀ y∈xs,(enc y).length=sz)->(xs.take q).flatMap enc=(xs.flatMap enc).take (q*sz)
 | [],q,_=>by simp
 | x :: xs,0,_=>by simp
 | x :: xs,q+1,h=>by
  have hx:=h x (qh ..);rw [List.take_succ_cons,xp,xp,show (q+1)*sz=(enc x).length+q*sz by rw [hx,xy]; omega,List.take_length_add_append,aFW (fun y a=>h y (qj _ a))]
def aJf {α:Type} {enc:α->List Value} {sz:Nat}:∀ {xs:List α} {q:Nat},(∀ y∈xs,(enc y).length=sz)->(xs.drop q).flatMap enc=(xs.flatMap enc).drop (q*sz)
 | [],q,_=>by simp
 | x :: xs,0,_=>by simp
 | x :: xs,q+1,h=>by
  have hx:=h x (qh ..);rw [List.drop_succ_cons,xp,show (q+1)*sz=(enc x).length+q*sz by rw [hx,xy]; omega,List.drop_length_add_append,aJf (fun y a=>h y (qj _ a))]
section
variable {dr:Bool} {mc:Md} {P:Program} {n:Fm} {l:List Oper} {K:aF→PM→aB→Prop} {i:Nat} {σ:List Nat} {ρ:aF} {G:PM} {μ:aB}
variable {d t:Nat} {p:String} {af:Array Edge} {g:Option (Nat×Bool)} {c:Bool}
theorem sr1 {T C:TypeId} {k f:IntKind} {e a:Int} (A:Nat) (q:nth l i=some ⟨some d,.binOp .shr T x y C,t,p,af,g⟩) (r:Gd l ρ g c) (m:Ev ρ c x (.int k e)) (j:Ev ρ c y (.int f a)) (w:e=A) (v:a=1) (D:1<=k.bits) (h:Wo dr mc P n l K σ ((d,c,.int k ((A / 2:Nat):Int)) :: ρ) G μ):Wo dr mc P n l K (i :: σ) ρ G μ:=by
 subst w; subst v;refine sr q r m j (fun _=>dc) ?_;grind
theorem s3 {e r:Nat} {z u:Operand} {b:Nat} {D C A:IntKind} {lo f c:Int} (L:nth l i=some ⟨some d,.slice T x (some y) (some z) (some u),t,p,af,none⟩) (N:bY P T=some (e,sz,r)) (H:Ev ρ true x (.slice (some ⟨b,0,none⟩) m cap)) (F:Ev ρ true y (.int D lo)) (E:Ev ρ true z (.int C f)) (I:Ev ρ true u (.int A c)) (O:0<=lo) (h1:lo<=f) (h2:f<=c) (h3:c<=cap) (h:∀ v,Wo dr mc P n l K σ ((d,true,v) :: ρ) G μ):Wo dr mc P n l K (i :: σ) ρ G μ:=by
 obtain ⟨k,j,q,J,M⟩:=fW N;refine .pure (v:=.slice (if c.toNat=lo.toNat then (some ⟨b,0,none⟩ : Option Addr) else (some ⟨b,0,none⟩ : Option Addr).map (·.add (lo.toNat*j.size))) (f.toNat-lo.toNat) (c.toNat-lo.toNat)) L (.inl rfl) .no (fun Q a w g=>?_) (h _);simp [execOp,H.eval g rfl,F.eval g rfl,E.eval g rfl,I.eval g rfl,Instr.sliceAt,run_underlying k,Instr.slice,Instr.sliceBounds,Instr.sliceBound,asIntOf,show 0<=f by omega,show 0<=c by omega,O,sizeOf,typeInfo,q];grind
def srh {e a:Nat} {z:Operand} {b:Nat} {k:IntKind} {c:Int} (q:Nat) (r:nth l i=some ⟨some d,.slice T x none (some z) none,t,p,af,none⟩) (v:bY P T=some (e,sz,a)) (g:Ev ρ true x (.slice (some ⟨b,0,none⟩) m cap)) (f:Ev ρ true z (.int k c)) (j:c=q) (h1:q<=cap) (h:Wo dr mc P n l K σ ((d,true,.slice (some ⟨b,0,none⟩) q cap) :: ρ) G μ):Wo dr mc P n l K (i :: σ) ρ G μ:=by
 subst j;exact se (s:=⟨some ⟨b,0,none⟩,cap⟩) (m:=m) r .no v g f om (fun _=>by simp_all) (by trivial)
def slz {e b:Nat} {k:IntKind} {lo:Int} (q:Nat) (v:nth l i=some ⟨some d,.slice T x (some y) none none,t,p,af,none⟩) (C:bY P T=some (e,sz,f)) (j:Ev ρ true x (.slice (some ⟨b,0,none⟩) m cap)) (g:Ev ρ true y (.int k lo)) (r:lo=q) (h1:q<=m) (h2:m<=cap) (h:∀ oa,(q<m->oa=some ⟨b,q*sz,none⟩)->Wo dr mc P n l K σ ((d,true,.slice oa (m-q) (cap-q)) :: ρ) G μ):Wo dr mc P n l K (i :: σ) ρ G μ:=by
 by_cases J:q<cap
 ·exact slr q v C j g r h1 h2 J (h _ fun _=>rfl)
 refine .pure v (.inl rfl) .no (fun _ a w A=>?_) (h (some ⟨b,0,none⟩) (fun I=>absurd I om));obtain ⟨E,D,H,rfl,rfl⟩:=fW C;subst r;have c:=j.eval A rfl;have F:cap=q:=by omega
 simp [execOp,c,g.eval A rfl,Instr.sliceAt,run_underlying E,Instr.slice,Instr.sliceBounds,Instr.sliceBound,asIntOf,sizeOf,typeInfo,H,h1,h2,F];try omega
def sll {e a b:Nat} {z:Operand} {k f:IntKind} {lo c:Int} (q r:Nat) (C:nth l i=some ⟨some d,.slice T x (some y) (some z) none,t,p,af,none⟩) (D:bY P T=some (e,sz,a)) (v:Ev ρ true x (.slice (some ⟨b,0,none⟩) m cap)) (j:Ev ρ true y (.int k lo)) (g:Ev ρ true z (.int f c)) (A:lo=q) (w:c=r) (h1:q<=r) (h2:r<=cap) (h3:q<cap) (h:Wo dr mc P n l K σ ((d,true,.slice (some ⟨b,q*sz,none⟩) (r-q) (cap-q)) :: ρ) G μ):Wo dr mc P n l K (i :: σ) ρ G μ:=by
 subst A; subst w;refine sc (s:=⟨some ⟨b,0,none⟩,cap⟩) (m:=m) C .no D v j g om om (fun _=>by simp_all) ?_;have E:(Sh.cut ⟨some ⟨b,0,none⟩,cap⟩ (q:Int).toNat sz).val ((r:Int).toNat-(q:Int).toNat)=.slice (some ⟨b,q*sz,none⟩) (r-q) (cap-q):=by
  simp only [yc,Sh.cut,Sh.val,if_neg (show ¬ cap=q by omega),wx,jS,wb]
 simp_all
theorem aYW {L b q r cp:Nat} {xs:List Value} {oa:Option Addr} {w:World} (hT:bY P T=some (E,sz,L)) (C:Sat G [.row (.slice (some ⟨b,0,none⟩) m cap) E sz m xs] w) (hq:q<=r) (D:r<=m) (H:r<m->oa=some ⟨b,r*sz,none⟩) (h1:∀ u∈xs,u.oneCell'=true) :
  ∃ w',(Builtin.append_ #[T,T] ty #[.slice (some ⟨b,0,none⟩) q cap,.slice oa (m-r) cp]).run P w=.ok (.slice (some ⟨b,0,none⟩) (q+(m-r)) cap) w'∧Tr G [b] w G [.row (.slice (some ⟨b,0,none⟩) (q+(m-r)) cap) E sz (q+(m-r)) (xs.take (q*sz)++xs.drop (r*sz))] w':=by
 obtain ⟨y,a,O,rfl,rfl⟩:=fW hT;have i:w.ownsRow 0 E a.size (.slice (some ⟨b,0,none⟩) m cap) m xs:=C.own _ (qd.2 rfl);have X:=i.1;rcases i.2 with ⟨e,_⟩ | ⟨g,S,f,e,_,Q,J,x,K,A⟩
 ·cases e
 simp only [Value.slice.injEq,Option.some.injEq,Addr.mk.injEq,and_true,true_and] at e;obtain ⟨rfl,rfl⟩:=e;have k:Sat G [.blk b (.cells f E (0,0))] w:=⟨C.sub,fun r D=>by rw [qd.1 D]; exact Q,fun c hc=>C.apart c (by trivial),by simp [keys,Res.keys]⟩;have a0:q*a.size<=r*a.size:=xi _ hq;have Z:r*a.size<=m*a.size:=xi _ D;have a2:m*a.size<=cap*a.size:=xi _ J;have a4:f.toList.length=f.size:=qaA ..;have I:(xs.drop (r*a.size)).length=(m-r)*a.size:=by grind[Nat.sub_mul]
 have M:(m-r)*a.size=m*a.size-r*a.size:=Nat.sub_mul ..;have t:(xs.take (q*a.size)++xs.drop (r*a.size)).length=(q+(m-r))*a.size:=by
  grind
 have p:f.toList.take (q*a.size)=xs.take (q*a.size):=by
  grind
 by_cases hk:m-r=0
 ·rw [hk];have hd:xs.drop (r*a.size)=[]:=yf (by grind);rw [hd,wh,yj];refine ⟨w,?_,?_⟩
  ·have F:q<=cap:=by omega
   cases oa<;>simp [Builtin.append_,run_underlying y,sizeOf,typeInfo,O,Builtin.lenOf,Builtin.firstCells,loadCells,loadCellsFrom,F,storeCells]
  have:=(gX k).asRow (m:=q) (cap:=cap) (sz:=a.size) (xs:=xs.take (q*a.size)) (by grind) om x K p;trivial
 obtain rfl:=H om;have l:∀ j u,(xs.drop (r*a.size))[j]? = some u->w.cell? ((⟨b,r*a.size,none⟩ : Addr).add j)=some u:=by
  intro j u N;rw [ky] at N;have:=i.cells (g:=b) rfl (r*a.size+j) u N;simp_all[jS]
 have h:q+(m-r)<=cap:=by omega
 have v:q*a.size+(xs.drop (r*a.size)).length<=f.size:=by omega
 have n:=run_append_room (P:=P) w T ty E a y O b q cap f Q ⟨b,r*a.size,none⟩ (m-r) cp (xs.drop (r*a.size)) I l (fun u y=>h1 u (List.mem_of_mem_drop y)) h v;refine ⟨_,n,?_⟩;have h2:=wW (cs':=(f.toList.take (q*a.size)++xs.drop (r*a.size)++f.toList.drop (q*a.size+(xs.drop (r*a.size)).length)).toArray) k;refine h2.asRow (m:=q+(m-r)) (cap:=cap) (sz:=a.size) t h x ?_ ?_
 ·grind
 grind
theorem apD {α:Type} {enc:α->List Value} {b q r cp:Nat} {xs:List α} {oa:Option Addr} {c:aB} (J:nth l i=some ⟨some d,.call { callee:=.builtin .append,args:=#[x,y],argTypes:=#[T,T] },t,p,af,none⟩) (L:bY P T=some (E,sz,j)) (C:Ev ρ true x (.slice (some ⟨b,0,none⟩) q cap)) (A:Ev ρ true y (.slice oa (xs.length-r) cp)) (hm:MTake μ (rS sz enc (.slice (some ⟨b,0,none⟩) xs.length cap) E xs) c) (f:r<xs.length->oa=some ⟨b,r*sz,none⟩) (D:∀ y∈xs,(enc y).length=sz) (h1:∀ u∈xs.flatMap enc,u.oneCell'=true) (I:q<=r) (H:r<=xs.length) (h:Wo dr mc P n l K σ ((d,true,.slice (some ⟨b,0,none⟩) (xs.take q++xs.drop r).length cap) :: ρ) G (rS sz enc (.slice (some ⟨b,0,none⟩) (xs.take q++xs.drop r).length cap) E (xs.take q++xs.drop r) :: c)) (hmc:mc.a=false∨dr=false:=by first|exact .inl rfl|exact .inr rfl):Wo dr mc P n l K (i :: σ) ρ G μ:=by
 have g:(xs.take q++xs.drop r).length=q+(xs.length-r):=by grind
 rw [g] at h;refine .act (μ₁:=[rS sz enc (.slice (some ⟨b,0,none⟩) xs.length cap) E xs]) (μ₂:=c) (post:=fun M c v=>M=G∧v=.slice (some ⟨b,0,none⟩) (q+(xs.length-r)) cap∧c=[rS sz enc (.slice (some ⟨b,0,none⟩) (q+(xs.length-r)) cap) E (xs.take q++xs.drop r)]) J (by simp_all[bB]) .no hm.perm (fun a w k F=>.inl ?_) ?_
 ·obtain ⟨m,e,N⟩:=aYW (ty:=t) (cp:=cp) L F.left I H f h1;refine ⟨_,m,G,_,.inl (by simp [execOp,resolve,invoke,builtin,C.eval k rfl,A.eval k rfl,e]),?_,rfl,rfl,rfl⟩;simp_all[aFW,aJf,keys,rS,Res.keys,Value.ownBlock]
 simp_all[bV]
theorem clT {α:Type} {enc:α->List Value} {S b k cp:Nat} {z:Value} {xs:List α} {v:aB} {dd:Option Nat} (ho:nth l i=some ⟨dd,.call { callee:=.builtin .clear,args:=#[x],argTypes:=#[T] },t,p,af,none⟩) (hT:bY P T=some (E,sz,S)) (J:(P.info? E).bind (·.zero)=some z) (a3:z.cells.size=sz) (a5:∀ u∈z.cells,u.oneCell'=true) (hx:Ev ρ true x (.slice (some ⟨b,xs.length*sz,none⟩) k cp)) (hm:MTake μ (rS sz enc (.slice (some ⟨b,0,none⟩) xs.length cap) E xs) v) (h0:0<k) (hk:xs.length+k<=cap) (M:∀ y∈xs,(enc y).length=sz) (h:Wo dr mc P n l K σ (bV ρ dd true (.tuple #[])) G (rS sz enc (.slice (some ⟨b,0,none⟩) xs.length cap) E xs :: v)):Wo dr mc P n l K (i :: σ) ρ G μ:=by
 refine .act (μ₁:=[rS sz enc (.slice (some ⟨b,0,none⟩) xs.length cap) E xs]) (μ₂:=v) (post:=fun G' v v'=>G'=G∧v'=.tuple #[]∧v=[rS sz enc (.slice (some ⟨b,0,none⟩) xs.length cap) E xs]) ho (.inl rfl) .no hm.perm (fun a w ha hs=>.inl ?_) ?_
 ·have A:=hs.left;have H:w.ownsRow 0 E sz (.slice (some ⟨b,0,none⟩) xs.length cap) xs.length (xs.flatMap enc):=A.own _ (qd.2 rfl);have O:=tX M;obtain ⟨C,f,X,rfl,rfl⟩:=fW hT;rw [X] at J;simp only [qu] at J;rcases H.2 with ⟨e,_⟩ | ⟨g,a1,q,e,_,Z,b5,Q,b8,L⟩
  ·cases e
  simp only [Value.slice.injEq,Option.some.injEq,Addr.mk.injEq,and_true,true_and] at e;obtain ⟨rfl,rfl⟩:=e;have F:Sat G [.blk b (.cells q E (0,0))] w:=⟨A.sub,fun r hr=>by rw [qd.1 hr]; exact Z,fun c hc=>A.apart c (by trivial),by simp [keys,Res.keys]⟩;have a4:(Builtin.zeroCells z.cells k).toList.length=k*f.size:=by grind[size_zeroCells]
  have b7:xs.length*f.size+k*f.size<=cap*f.size:=by rw [← Nat.add_mul]; simp[*,xi]
  have I:∀ u∈(Builtin.zeroCells z.cells k).toList,u.oneCell'=true:=by
   intro u C;rw [Array.mem_toList_iff] at C;unfold Builtin.zeroCells at C;obtain ⟨j,hj,rfl⟩:=Array.mem_map.1 C;grind[Nat.mod_lt]
  have D:=run_storeCells_at P b (xs.length*f.size) E (Builtin.zeroCells z.cells k).toList 0 q w Z om I;simp only [yj] at D;refine ⟨.tuple #[],w.setRow b (q.toList.take (xs.length*f.size)++(Builtin.zeroCells z.cells k).toList++q.toList.drop (xs.length*f.size+(Builtin.zeroCells z.cells k).toList.length)).toArray,G,_,.inl (by
   have b6:k≠0:=by omega
   simp [execOp,resolve,invoke,builtin,hx.eval ha rfl,Builtin.clear_,run_underlying C,zeroValue,typeInfo,X,J,D]),?_,rfl,rfl,rfl⟩
  have N:keys [rS f.size enc (.slice (some ⟨b,0,none⟩) xs.length cap) E xs]=[b]:=by rfl
  rw [N];have h2:=wW (cs':=(q.toList.take (xs.length*f.size)++(Builtin.zeroCells z.cells k).toList++q.toList.drop (xs.length*f.size+(Builtin.zeroCells z.cells k).toList.length)).toArray) F;have b9:q.toList.length=q.size:=qaA ..;refine h2.asRow (m:=xs.length) (cap:=cap) (sz:=f.size) O om Q ?_ ?_
  ·grind
  simp_all
 simp_all
end
theorem pV {α:Type} {enc:α->List Value} {P:Program} {G:PM} {μ:aB} {f:FuncId} {v:Value} {xs:List α} {Q:aB->Value->Prop} (n:∀ x∈xs,(enc x).length=sz) (h:∀ (s:Sh) (G2:PM),PM.le G G2->v=s.val xs.length->SlR G2 sz enc s xs->Ct P f args G2 μ (fun _ a u=>Q a u)):Ct P f args G (rS sz enc v E xs :: μ) (fun _ a u=>∃ A,a=rS sz enc v E xs :: A∧Q A u):=by
 intro w k;have p:w.ownsRow 0 E sz v xs.length (xs.flatMap enc):=k.own _ (qh ..);have O:=k.nodup;rcases p.2 with ⟨rfl,T⟩ | ⟨g,m,i,rfl,_,S,t,J,I,l⟩
 ·have N:xs=[]:=wo T;subst N;have y:keys (rS sz enc (.slice none 0 0) E ([]:List α) :: μ)=keys μ:=by rfl
  have c:Sat G μ w:=⟨k.sub,fun r q=>k.own r (qj _ q),by rw [← y]; exact k.apart,by simp_all⟩;refine (h ⟨none,0⟩ G (PM.le.refl _) rfl dD w c).mono ?_;rintro e C ⟨u,M,a,rfl,D,K⟩;refine ⟨u,M,_,rfl,?_,a,rfl,K⟩;rw [y]; exact D.nilRow
 have y:keys (rS sz enc (.slice (some ⟨g,0,none⟩) xs.length m) E xs :: μ)=keys (.blk g (.cells i E (0,0)) :: μ):=by rfl
 have c:Sat G (.blk g (.cells i E (0,0)) :: μ) w:=by
  refine ⟨k.sub,fun r q=>?_,by rw [← y]; exact k.apart,by simp_all⟩;rcases qe.1 q with rfl | q
  ·exact S
  exact k.own r (qj _ q)
 have L:G g=none:=c.apart g (by simp [keys,Res.keys]);have F:SlR (G.add g (.cells i E (0,0))) sz enc ⟨some ⟨g,0,none⟩,m⟩ xs:=by
  refine rO n t (fun _=>rfl) ?_;intro j u X C H;show C.cell? ⟨g,0+j,none⟩=some u;rw [wb,cell_of_row C g j i E (0,0) (H g _ (bI _ _ _))];grind
 refine (uT (h ⟨some ⟨g,0,none⟩,m⟩ _ (PM.le_add L) rfl F) w c).mono ?_;rintro e C ⟨u,M,a,rfl,D,A,rfl,K⟩;refine ⟨u,M,_,rfl,?_,A,rfl,K⟩;rw [y];exact D.asRow (tX n) t J I l
abbrev Nd:=Ent×(Nat→Nat)
def Nd.cells (x:Nd):List Value:=x.1.cells++(qg 12).map fun k=>.int .i64 (x.2 k:Int)
def Nd.z:Nd:=(Ent.zero,fun _=>0)
theorem Nd.len (x:Nd):x.cells.length=16:=rfl
def Nd.one (x:Nd):∀ u∈x.cells,u.oneCell'=true:=by
 intro u a;rcases qn.1 a with h | h
 ·exact x.1.one u h
 ·obtain ⟨k,_,rfl⟩:=ql.1 h; rfl
def bF (xs:List Nd) (a k:Nat):Nat:=(xs.getD a Nd.z).2 k
def eG (e:Ent) (u:ByteArray) (q:BitVec 64):Bool:=lt e.user u||(e.user.toList == u.toList&&decide (q.toNat<e.seq.toNat))
def uN (xs:List Nd) (u:ByteArray) (q:BitVec 64) (a k:Nat):Prop:=bF xs a k=0∨eG (xs.getD (bF xs a k) Nd.z).1 u q=false
structure WayN (xs:List Nd) (u:ByteArray) (q:BitVec 64) (w:Nat→Nat):Prop where
 top:w 12=0
 lt:∀ k,k≤12→w k<xs.length
 step:∀ k,k<12→(w k=w (k+1)∧uN xs u q (w (k+1)) k)∨(w k=bF xs (w (k+1)) k∧0<bF xs (w (k+1)) k∧eG (xs.getD (bF xs (w (k+1)) k) Nd.z).1 u q=true∧uN xs u q (w k) k)
 inb:∀ a,a<xs.length→∀ k,k<12→bF xs a k<xs.length
def uC (x:Nd) (k v:Nat):Nd:=(x.1,fun j=>if j=k then v else x.2 j)
def vX (last:Nat->Nat) (fresh:Nat) (xs:List Nd) (k:Nat):List Nd:=xs.set fresh (uC (xs.getD fresh Nd.z) k (bF xs (last k) k))
def aDW (last:Nat->Nat) (fresh:Nat) (ys:List Nd) (k:Nat):List Nd:=ys.set (last k) (uC (ys.getD (last k) Nd.z) k fresh)
def gZ (last:Nat->Nat) (fresh:Nat) (xs:List Nd):Nat->List Nd
 | 0=>xs
 | k+1=>aDW last fresh (vX last fresh (gZ last fresh xs k) k) k
def sM {last:Nat->Nat} {a:Nat} {xs:List Nd}:∀ {k:Nat},(gZ last a xs k).length=xs.length
 | 0=>rfl
 | k+1=>by simp only [gZ,vX,aDW,List.length_set]; exact sM
def aJh {α:Type} {enc:α->List Value} {sz q:Nat} {v:Value} {u:α}:∀ {xs:List α} {k:Nat} {x:α},(∀ y∈xs,(enc y).length=sz)->xs[k]? = some x->enc u=(enc x).set q v->q<sz->(xs.set k u).flatMap enc=(xs.flatMap enc).set (k*sz+q) v
 | [],k,x,_,h,_,_=>by rfl
 | y :: r,0,x,hs,h,hu,hq=>by
  simp_all
 | y :: r,k+1,x,hs,h,hu,hq=>by
  rw [List.getElem?_cons_succ] at h;have hl:=hs y (qh ..);rw [List.set_cons_succ,xp,xp,aJh (fun z a=>hs z (qj _ a)) h hu hq,ke _ _ (by rw [hl,xy]; omega)];congr 2;rw [hl,xy]; omega
section
variable {dr:Bool} {mc:Md} {P:Program} {n:Fm} {l:List Oper} {K:aF→PM→aB→Prop} {i:Nat} {σ:List Nat} {ρ:aF} {G:PM} {μ:aB}
variable {t:Nat} {p:String} {af:Array Edge}
theorem stE {α:Type} {enc:α->List Value} {b o k q:Nat} {v:Value} {xs:List α} {u e:α} {j:aB} (ho:nth l i=some ⟨none,.store T x y,t,p,af,none⟩) (hx:Ev ρ true x (.pointer (some ⟨b,o,none⟩))) (hy:Ev ρ true y v) (hz:jC P T=some 1) (hm:MTake μ (rS sz enc (.slice (some ⟨b,0,none⟩) m cap) E xs) j) (C:∀ y∈xs,(enc y).length=sz) (X:xs[k]? = some e) (hu:enc u=(enc e).set q v) (hq:o=k*sz+q) (M:q<sz) (h1:v.oneCell'=true) (h:Wo dr mc P n l K σ ρ G (rS sz enc (.slice (some ⟨b,0,none⟩) m cap) E (xs.set k u) :: j)):Wo dr mc P n l K (i :: σ) ρ G μ:=by
 subst hq;have hk:k<xs.length:=(List.getElem?_eq_some_iff.1 X).1;refine .act (μ₁:=[rS sz enc (.slice (some ⟨b,0,none⟩) m cap) E xs]) (μ₂:=j) (post:=fun G' j v=>G'=G∧j=[rS sz enc (.slice (some ⟨b,0,none⟩) m cap) E (xs.set k u)]∧v=undef) ho (.inl rfl) .no hm.perm (fun a w ha hs=>.inl ?_) ?_
 ·have A:=hs.left;have F:w.ownsRow 0 E sz (.slice (some ⟨b,0,none⟩) m cap) xs.length (xs.flatMap enc):=A.own _ (qd.2 rfl);have b9:=tX C;rcases F.2 with ⟨e,_⟩ | ⟨g,a1,f,e,_,S,H,N,c0,J⟩
  ·cases e
  simp only [Value.slice.injEq,Option.some.injEq,Addr.mk.injEq,and_true,true_and] at e;obtain ⟨rfl,rfl,rfl⟩:=e;have I:keys [rS sz enc (.slice (some ⟨b,0,none⟩) xs.length cap) E xs]=[b]:=by rfl
  have D:Sat G [.blk b (.cells f E (0,0))] w:=⟨A.sub,fun r hr=>by rw [qd.1 hr]; exact S,fun c hc=>A.apart c (by trivial),by simp [keys,Res.keys]⟩;have b6:k*sz+sz<=xs.length*sz:=by rw [← xy]; exact xi _ hk
  have Z:xs.length*sz<=cap*sz:=xi _ H;have L:=run_storeCells_at P b (k*sz+q) E [v] 0 f w S (by grind) (fun c hc=>by simp_all);simp only [yj,List.length_singleton] at L;have Q:k*sz+q<f.toList.length:=by grind
  have O:f.toList.take (k*sz+q)++[v]++f.toList.drop (k*sz+q+1)=f.toList.set (k*sz+q) v:=by
   simp_all[List.set_eq_take_append_cons_drop]
  have b8:=aJh C X hu M;have h2:=(wW (cs':=(f.toList.take (k*sz+q)++[v]++f.toList.drop (k*sz+q+1)).toArray) D).asRow (m:=xs.length) (cap:=cap) (sz:=sz) (xs:=(xs.set k u).flatMap enc) (by simp_all) H N (by simp_all) (by
   simp_all[List.take_set])
  refine ⟨undef,_,G,_,.inr ⟨?_,rfl⟩,by rw [I]; exact h2,rfl,by simp,rfl⟩;cases hi:P.info? T with
  | none=>simp_all[jC]
  | some inf =>
   simp only [jC,hi,wx,Option.some.injEq] at hz;simp only [execOp,hx.eval ha rfl,hy.eval ha rfl];simp_all[Instr.storeAt,Instr.sureAddr,storeVar,tM,sizeOf,typeInfo]
 simp_all[bV]
end
theorem aK9 {xs:List Nd} {a k:Nat} (i:a<xs.length) (n:k<12) (g:p=a*16+4+k*1):(xs.flatMap Nd.cells)[p]? = some (.int .i64 (bF xs a k:Int)):=by
 subst g;obtain ⟨x,f⟩ : ∃ x,xs[a]? = some x:=⟨_,qv i⟩;have e:∀ {c:List Nd} {a:Nat} {x:Nd},c[a]? = some x->∀ j,j<16->(c.flatMap Nd.cells)[a*16+j]? = (x.cells)[j]?:=by
  intro c;induction c with
  | nil=>simp
  | cons y r ih =>
   intro a x h j q;rw [xp];cases a with
   | zero =>
    simp only [List.getElem?_cons_zero,Option.some.injEq] at h;subst h;rw [Nat.zero_mul,wb,ym (by trivial)]
   | succ a =>
    grind[Nd.len]
 have m:=e f (4+k) om;rw [show a*16+4+k*1=a*16+(4+k) by omega,m];have l:xs.getD a Nd.z=x:=by simp_all
 unfold bF;rw [l];show (x.1.cells++(qg 12).map fun k=>Value.int .i64 (x.2 k:Int))[4+k]? = _;grind[Ent.len]
theorem aLL {x:Nd} {k v:Nat} (a:k<12):Nd.cells (uC x k v)=(Nd.cells x).set (4+k) (.int .i64 (v:Int)):=by
 unfold Nd.cells uC;rw [ke _ _ (by simp[Ent.len]),Ent.len,show 4+k-4=k by omega];congr 1;refine xq fun j=>?_;grind
def wA (w:Nat->Nat):List Value:=(qg 12).map fun j=>.int .i64 (w j:Int)
def rH:(wA w).length=12:=by rfl
def aHG (w:Nat->Nat):∀ u∈wA w,u.oneCell'=true:=fun u a=>by
 obtain ⟨k,_,rfl⟩:=ql.1 a; rfl
instance ql6 {w:Nat->Nat}:QLen (wA w) 12:=⟨rH⟩
def aCF {k:Nat} (c:k<12) (a:p=k):(wA w)[p]? = some (.int .i64 (w k:Int)):=by
 simp_all[wA]
theorem aN2 {w':Nat->Nat} {k:Nat} {v:Value} (f:k<12) (c:p=k) (a:v=.int .i64 (w' k:Int)) (e:∀ j,j≠k->w' j=w j):(wA w).set p v=wA w':=by
 subst c; subst a;refine xq fun j=>?_;rw [wA,wA,zk,jg,jg,qw,List.length_range];grind
def wK (w:Nat->Nat) (k:Nat):Nat->Nat:=fun j=>if j<k then 0 else w j
def aN3:wA (wK w 0)=wA w:=by rfl
def wq (w:Nat->Nat) (j q:Nat):Nat:=if q=0 then w (j+1) else w j
def bBT {xs:List Nd} {u:ByteArray} (l:WayN xs u q w) (k:j<12) (i:p=0∨p=1∧uN xs u q (w j) j) (h:(decide (((bF xs (wq w j p) j:Nat):Int) > 0)&&eG (xs.getD (bF xs (wq w j p) j) Nd.z).1 u q)=true):p=0∧uN xs u q (w j) j∧w j=bF xs (w (j+1)) j:=by
 simp only [dT] at h;have f:∀ a,wq w j p=a->¬ uN xs u q a j:=fun a e c=>by
  subst e;rcases c with c | c
  ·omega
  simp_all
 rcases i with rfl | ⟨rfl,c⟩
 ·rcases l.step j k with ⟨_,g⟩ | ⟨r,g,n,m⟩
  ·exact absurd g (f _ rfl)
  simp_all
 ·exact absurd c (f _ rfl)
def bBS {xs:List Nd} {u:ByteArray} (f:WayN xs u q w) (e:j<12) (c:p=0∨p=1∧uN xs u q (w j) j) (h:(decide (((bF xs (wq w j p) j:Nat):Int) > 0)&&eG (xs.getD (bF xs (wq w j p) j) Nd.z).1 u q)=false):wq w j p=w j:=by
 rcases c with rfl | ⟨rfl,_⟩
 ·rcases f.step j e with ⟨a,_⟩ | ⟨a,k,i,g⟩
  ·exact a.symm
  simp_all[wq]
 ·rfl
def wU {G:PM} {h:Sh} {xs:List Nd} (c:SlR G 16 Nd.cells h xs) {a k:Nat} (g:a<xs.length) (f:k<12) (e:p=h.o+(a*16+4+k*1)):RdP G ⟨h.b,p,none⟩ (.int .i64 (bF xs a k:Int)):=by
 subst e;exact SlR.flat (fun x _=>Nd.len x) c _ _ (aK9 g f rfl)
theorem aES {G:PM} {h:Sh} {xs:List Nd} (f:SlR G 16 Nd.cells h xs) {a:Nat} (i:a<xs.length) (g:p=h.o+a*16):RdNP G h.b p (xs.getD a Nd.z).1.cells:=by
 subst g;obtain ⟨x,e⟩ : ∃ x,xs[a]? = some x:=⟨_,qv i⟩;have l:xs.getD a Nd.z=x:=by simp_all
 rw [l];have c:=f.at (j:=(a:Int)) (k:=a) (by simp) e;rw [show ((a:Int)).toNat=a by simp] at c;intro j v m;refine c j v ?_;grind[Nd.cells]
def aHk {G:PM} {μ c:aB} {xs:List Nd} {b a k:Nat} (h:MTake μ (rS 16 Nd.cells (.slice (some ⟨b,0,none⟩) m cap) E xs) c) (g:a<xs.length) (f:k<12) (e:p=a*16+4+k*1):Rd G μ ⟨b,p,none⟩ (.int .i64 (bF xs a k:Int)):=Rd.row h (aK9 g f e)
def aDV {k:Nat} {xs:List Nd}:(vX w f xs k).length=xs.length:=by simp [vX]
def aDy (h:cC e=true):e.user.size<=1024∧e.value.size<=65536:=by
 simp only [cC,dT] at h;omega
def aJu {xs:List Nd} {a:Nat} (h:a<xs.length):xs[a]? = some (xs.getD a Nd.z):=by
 simp_all
def aVT {P:Program} {G:PM} {f:FuncId} {e:Nat} {v sz:Value} {xs:List Nd} {r:Value} (h:∀ (s:Sh) (c:PM),v=s.val xs.length->SlR c 16 Nd.cells s xs->PB c e (cl [v,sz] T)->Ct P f args c [] (fun _ a u=>a=[]∧u=r)) :
  Ct P f args G [.blk e (cl [v,sz] T),rS 16 Nd.cells v E xs] (fun _ a u=>a=[.blk e (cl [v,sz] T),rS 16 Nd.cells v E xs]∧u=r):=by
 have p:Ct P f args (G.add e (cl [v,sz] T)) [rS 16 Nd.cells v E xs] (fun _ a u=>a=[rS 16 Nd.cells v E xs]∧u=r) :=
  (pV (Q:=fun g u=>g=[]∧u=r) (fun x _=>Nd.len x) fun s c i k l=>h s c k l ⟨i _ _ (bI _ _ _)⟩).mono
   fun q a u ⟨g,n,m,j⟩=>⟨by simp_all,j⟩
 exact (uT (Q:=fun a u=>a=[rS 16 Nd.cells v E xs]∧u=r) p).mono fun q a u ⟨g,n,m,j⟩=>⟨by simp_all,j⟩
section
variable {dr:Bool} {mc:Md} {P:Program} {n:Fm} {l:List Oper} {K:aF→PM→aB→Prop} {i:Nat} {σ:List Nat} {ρ:aF} {G:PM} {μ:aB}
variable {d t:Nat} {p:String} {af:Array Edge}
theorem aVs {α:Type} {enc:α->List Value} {e:Nat} {z:Value} (u:α) (L:nth l i=some ⟨some d,.makeSlice T x y,t,p,af,none⟩) (O:bY P T=some (E,sz,e)) (g:(P.info? E).bind (·.zero)=some z) (H:Ev ρ true x (.int .i64 1)) (F:Ev ρ true y (.int .i64 1)) (I:z.cells=(enc u).toArray) (J:(enc u).length=sz) (X:e<=1000000) (h:∀ b,Wo dr mc P n l K σ ((d,true,.slice (some ⟨b,0,none⟩) 1 1) :: ρ) G (rS sz enc (.slice (some ⟨b,0,none⟩) 1 1) E [u] :: μ)):Wo dr mc P n l K (i :: σ) ρ G μ:=by
 refine .act (μ₁:=[]) (μ₂:=μ) (post:=fun S f v=>∃ b,S=G∧v=.slice (some ⟨b,0,none⟩) 1 1∧f=[rS sz enc (.slice (some ⟨b,0,none⟩) 1 1) E [u]]) L (.inl rfl) .no (.refl _) (fun q w C A=>.inl ?_) ?_
 ·obtain ⟨k,c,D,r,N⟩:=fW O;rw [D] at g;simp only [qu] at g;have a:=run_make (P:=P) w T E c _ k D g .i64 .i64 1 1 om om om om;simp at a;have Q:Tr G (keys []) w G [.blk w.heap.size (.cells (madeCells z.cells c.size) E (0,0))] _:=(gX (Sat.left (μ:=[]) A)).alloc _;have M:(madeCells z.cells c.size).toList=enc u:=by
   rw [r,I,←J];unfold madeCells;refine xq fun j=>?_;grind[yp]
  refine ⟨_,_,G,_,.inl (by simp [execOp,H.eval C rfl,F.eval C rfl,a]),Q.asRow (m:=1) (cap:=1) (sz:=sz) (xs:=enc u) om (qc _) (by trivial) (by grind) ?_,w.heap.size,rfl,rfl,by simp⟩;grind
 simp_all[bV]
end
theorem aIb {a b:ByteArray} (h:(a.toList == b.toList)=true):a=b:=by
 rw [beq_iff_eq] at h;rcases aBb a b with c | c | c
 ·simp_all[lt,aCg]
 ·exact c
 simp_all[lt,aCg]
theorem aH7 {u:ByteArray}:eG e u q=true↔lt e.user u=true∨e.user=u∧q.toNat<e.seq.toNat:=by
 unfold eG;rw [x4,qi,decide_eq_true_eq];grind[aIb]
theorem pC {a b:Ent}:cR a b=true↔lt a.user b.user=true∨a.user=b.user∧b.seq.toNat<a.seq.toNat:=aH7 (e:=a) (u:=b.user) (q:=b.seq)
theorem aH8 {a b:Ent} {u:ByteArray} (h:cR a b=true) (c:eG b u q=true):eG a u q=true:=by
 grind[pC,aH7,aAD]
theorem aEZ {a b c:Ent} (h:cR a b=true) (e:cR b c=true):cR a c=true:=aH8 h e
theorem aH6 {a b:Ent} (h:cR a b=true):cR b a=false:=by
 grind[aEZ,pC,vY]
theorem aEY {a b:Ent} (h:cR a b=false) (c:¬ (a.user=b.user∧a.seq=b.seq)):cR b a=true:=by
 grind[pC,aBb,wj]
def SrE (l:List Ent):Prop:=l.Pairwise fun a b=>cR a b=true
theorem SrE.rises (h:SrE l):cA l=true :=
 aX9 (k:=l.length-1) om fun i a=>by
  grind[List.pairwise_iff_getElem,SrE]
def wV (xs:List Nd) (u:ByteArray) (q:BitVec 64) (k:Nat):Nat->List Nat->Nat->Prop
 | a,[],z=>z=a∧uN xs u q a k
 | a,b :: r,z=>b=bF xs a k∧0<b∧eG (xs.getD b Nd.z).1 u q=true∧wV xs u q k b r z
structure WayG (xs:List Nd) (u:ByteArray) (q:BitVec 64) (w:Nat→Nat):Prop where
 top:w 12=0
 lt:∀ k,k≤12→w k<xs.length
 path:∀ k,k<12→∃ l,wV xs u q k (w (k+1)) l (w k)
 inb:∀ a,a<xs.length→∀ k,k<12→bF xs a k<xs.length
def aXU {xs:List Nd} {u:ByteArray} {k a z:Nat} {l:List Nat} (h:wV xs u q k a l z) (c:(decide (((bF xs a k:Nat):Int) > 0)&&eG (xs.getD (bF xs a k) Nd.z).1 u q)=true):∃ r,l=bF xs a k :: r∧wV xs u q k (bF xs a k) r z:=by
 simp only [dT] at c;cases l with
 | nil =>
  rcases h.2 with e | e
  ·omega
  simp_all
 | cons b r=>obtain ⟨rfl,_,_,f⟩:=h; simp_all
def aXT {xs:List Nd} {u:ByteArray} {k a z:Nat} {l:List Nat} (h:wV xs u q k a l z) (c:(decide (((bF xs a k:Nat):Int) > 0)&&eG (xs.getD (bF xs a k) Nd.z).1 u q)=false):a=z:=by
 cases l with
 | nil=>exact h.1.symm
 | cons b r =>
  obtain ⟨rfl,f,e,_⟩:=h;simp_all
def Chn (xs:List Nd) (k:Nat):Nat->List Nat->Prop
 | a,[]=>bF xs a k=0
 | a,b :: r=>bF xs a k=b∧Chn xs k b r
def cI (xs:List Nd) (i:Nat):Ent:=(xs.getD i Nd.z).1
structure Skp (xs:List Nd) (o:List Nat) (hgt:Nat→Nat):Prop where
 len:xs.length=o.length+1
 nd:o.Nodup
 mem:∀ i∈o,0<i∧i<xs.length
 h1:∀ i∈o,0<hgt i∧hgt i≤12
 chn:∀ k,k<12→Chn xs k 0 (o.filter fun i=>decide (k<hgt i))
 srt:SrE (o.map (cI xs))
 inb:∀ a,a<xs.length→∀ k,k<12→bF xs a k<xs.length
def bX (xs:List Nd) (o:List Nat):List Ent:=o.map (cI xs)
def gO (xs:List Nd) (u:ByteArray) (q:BitVec 64) (o:List Nat):List Nat:=o.takeWhile fun i=>eG (cI xs i) u q
def gQ (a:Nat):List Nat->Nat
 | []=>a
 | b :: r=>gQ b r
theorem aKR {a:Nat}:∀ {s r:List Nat},gQ a (s++r)=gQ (gQ a s) r
 | [],_=>rfl
 | b :: s,r=>by rw [List.cons_append,gQ,gQ,aKR]
def aFt {a:Nat}:∀ {s:List Nat},gQ a s=a∨gQ a s∈s
 | []=>.inl rfl
 | b :: s=>by
  rw [gQ];rcases aFt (a:=b) (s:=s) with h | h
  ·rw [h]; exact .inr (List.mem_cons_self ..)
  ·exact .inr (List.mem_cons_of_mem _ h)
def iL (xs:List Nd) (u:ByteArray) (q:BitVec 64) (o:List Nat) (hgt:Nat->Nat) (k:Nat):Nat:=gQ 0 ((gO xs u q o).filter fun i=>decide (k<hgt i))
def Chn.drop {xs:List Nd} {k:Nat}:∀ {s r:List Nat} {a:Nat},Chn xs k a (s++r)->Chn xs k (gQ a s) r
 | [],_,_,h=>h
 | b :: s,r,a,h=>Chn.drop (s:=s) h.2
theorem aU8 {p:Nat->Bool}:∀ (t:List Nat) (a:Nat),∃ s r,t=s++r∧gQ a s=gQ a (t.filter p):=by
 intro t;induction t with
 | nil=>simp
 | cons b t ih =>
  intro a;cases h:p b with
  | true =>
   obtain ⟨s,r,g,e⟩:=ih b;exact ⟨b :: s,r,by simp_all,by simp_all[gQ]⟩
  | false =>
   rw [qaB,if_neg (by simp_all)];cases i:t.filter p with
   | nil=>exact ⟨[],b :: t,rfl,rfl⟩
   | cons c f =>
    obtain ⟨s,r,g,e⟩:=ih b;grind[gQ]
def aLp {xs:List Nd} {u:ByteArray} {q:BitVec 64} {k:Nat} {d:List Nat} (hd:∀ b r,d=b :: r->eG (cI xs b) u q=false) :
  ∀ {r:List Nat} {a:Nat},Chn xs k a (r++d)->(∀ i∈r,0<i∧eG (cI xs i) u q=true)->wV xs u q k a r (gQ a r)
 | [],a,h,_=>by
  refine ⟨rfl,?_⟩;cases d<;>simp_all[uN,cI,Chn]
 | b :: r,a,h,hr=>⟨h.1.symm,(hr b (List.mem_cons_self ..)).1,(hr b (List.mem_cons_self ..)).2,aLp hd h.2 fun i hi=>hr i (List.mem_cons_of_mem _ hi)⟩
theorem yV {xs:List Nd} {u:ByteArray} {o:List Nat} (h:i∈gO xs u q o):i∈o∧eG (cI xs i) u q=true :=
 ⟨(List.takeWhile_sublist _).subset h,by grind[List.all_takeWhile,gO]⟩
theorem aMt {xs:List Nd} {u:ByteArray} {o:List Nat} (h:SrE (o.map (cI xs))):∀ i∈o.dropWhile (fun i=>eG (cI xs i) u q),eG (cI xs i) u q=false:=by
 induction o with
 | nil=>simp
 | cons b o ih =>
  intro i a;rw [wu,SrE,wz] at h;rw [List.dropWhile_cons] at a;split at a
  ·exact ih h.2 i a
  ·rename_i c;rcases qe.1 a with rfl | a
   ·simp_all
   grind[aH8,List.mem_map_of_mem]
theorem Skp.way {xs:List Nd} {o:List Nat} {c:Nat->Nat} (h:Skp xs o c) (u:ByteArray) (q:BitVec 64):WayG xs u q (iL xs u q o c):=by
 have f:∀ k,iL xs u q o c k<xs.length:=fun k=>by
  unfold iL;rcases aFt (a:=0) (s:=(gO xs u q o).filter fun i=>decide (k<c i)) with e | e
  ·rw [e,h.len]; omega
  exact (h.mem _ (yV (yh.1 e).1).1).2
 refine ⟨?_,fun k _=>f k,fun k n=>?_,h.inb⟩
 ·have:(gO xs u q o).filter (fun i=>decide (12<c i))=[]:=List.filter_eq_nil_iff.2 fun i l=>by have:=(h.h1 i (yV l).1).2; simp_all
  rw [iL,this]; rfl
 have g:o=gO xs u q o++o.dropWhile (fun i=>eG (cI xs i) u q):=(yq ..).symm;have j:=h.chn k n;rw [g,ve] at j;have t:(gO xs u q o).filter (fun i=>decide (k+1<c i))=((gO xs u q o).filter fun i=>decide (k<c i)).filter fun i=>decide (k+1<c i):=by
  rw [List.filter_filter];grind
 obtain ⟨s,r,y,D⟩:=aU8 (p:=fun i=>decide (k+1<c i)) ((gO xs u q o).filter fun i=>decide (k<c i)) 0;refine ⟨r,?_⟩;have x:iL xs u q o c (k+1)=gQ 0 s:=by grind[iL]
 have w:iL xs u q o c k=gQ (gQ 0 s) r:=by grind[iL,aKR]
 rw [x,w];refine aLp (d:=(o.dropWhile fun i=>eG (cI xs i) u q).filter fun i=>decide (k<c i)) (fun b A C=>?_) ?_ fun i l=>?_
 ·have:b∈(o.dropWhile fun i=>eG (cI xs i) u q).filter fun i=>decide (k<c i):=by grind
  exact aMt h.srt b (yh.1 this).1
 ·rw [y,qr] at j; exact j.drop
 have v:i∈(gO xs u q o).filter fun i=>decide (k<c i):=by grind
 have m:=yV (yh.1 v).1;exact ⟨(h.mem _ m.1).1,m.2⟩
def Skp.chn0 {xs:List Nd} {o:List Nat} {a:Nat->Nat} (h:Skp xs o a):Chn xs 0 0 o:=by
 have:=h.chn 0 dc;rwa [List.filter_eq_self.2 fun i c=>by simpa using (h.h1 i c).1] at this
theorem aMh {zs:List Nd} {k v a:Nat} (c:i<zs.length):bF (zs.set i (uC (zs.getD i Nd.z) k v)) a j=if a=i∧j=k then v else bF zs a j:=by
 unfold bF;rw [wc,zk];by_cases h:i=a
 ·simp_all[uC]
 grind
def aMg {zs:List Nd} {k v a:Nat}:cI (zs.set i (uC (zs.getD i Nd.z) k v)) a=cI zs a:=by
 unfold cI;rw [wc,zk];by_cases h:i=a
 ·subst h;rw [if_pos rfl];split
  ·rfl
  simp_all
 simp_all
theorem aDX {w:Nat->Nat} {f:Nat} {ys:List Nd} (c:f<ys.length) {a k:Nat}:∀ {K:Nat},(∀ j,j<K->w j<ys.length∧w j≠f) ->
  bF (gZ w f ys K) a k=if k<K then (if a=f then bF ys (w k) k else if a=w k then f else bF ys a k) else bF ys a k
 | 0,_=>by rfl
 | K+1,hw=>by
  have ih:∀ {a k:Nat},_:=fun {a k}=>aDX c (a:=a) (k:=k) (K:=K) fun j g=>hw j om;have e:(gZ w f ys K).length=ys.length:=sM;obtain ⟨i,h⟩:=hw K om;rw [gZ,aDW,aMh (by simp_all[aDV]),vX,aMh om,ih,ih];grind
theorem aFz {w:Nat->Nat} {f:Nat} {ys:List Nd} {a:Nat}:∀ {K:Nat},cI (gZ w f ys K) a=cI ys a
 | 0=>rfl
 | K+1=>by rw [gZ,aDW,aMg,vX,aMg,aFz]
def aIH {xs:List Nd} {x:Nd} {a k:Nat} (h:a<xs.length):bF (xs++[x]) a k=bF xs a k:=by
 simp_all[bF,ym]
def aQK {xs:List Nd} {x:Nd} {a:Nat} (h:a<xs.length):cI (xs++[x]) a=cI xs a:=by
 simp_all[cI,ym]
def Chn.congr {xs ys:List Nd} {k:Nat}:∀ {s:List Nat} {a:Nat},(∀ b∈a :: s,bF ys b k=bF xs b k)->Chn xs k a s->Chn ys k a s
 | [],a,h,hc=>(h a (List.mem_cons_self ..)).trans hc
 | b :: s,a,h,hc=>⟨(h a (List.mem_cons_self ..)).trans hc.1,Chn.congr (fun c hc=>h c (List.mem_cons_of_mem _ hc)) hc.2⟩
def aHP {xs ys:List Nd} {k f:Nat} {d:List Nat}:∀ {s:List Nat} {a:Nat},Chn xs k a (s++d)->(a :: (s++d)).Nodup->(∀ b∈a :: (s++d),b≠gQ a s->bF ys b k=bF xs b k) ->
  bF ys (gQ a s) k=f->bF ys f k=bF xs (gQ a s) k->Chn ys k a (s++f :: d)
 | [],a,hc,hn,hu,h1,h2=>by
  refine ⟨h1,?_⟩;cases d with
  | nil=>exact h2.trans hc
  | cons b r =>
   refine ⟨h2.trans hc.1,hc.2.congr fun c hm=>hu c (List.mem_cons_of_mem _ hm) fun e=>?_⟩;have e:c=a:=e;subst e;exact (xa.1 hn).1 hm
 | c :: s,a,hc,hn,hu,h1,h2=>by
  have g:=xa.1 hn;refine ⟨(hu a (qh ..) fun e=>?_).trans hc.1,aHP hc.2 g.2 (fun b i=>hu b (qj _ i)) h1 h2⟩;refine g.1 ?_;have e:a=gQ c s:=e;rcases aFt (a:=c) (s:=s) with h | h
  ·rw [e,h]; exact qh ..
  rw [e]; exact qj _ (List.mem_append_left _ h)
def nK (xs:List Nd) (e:Ent) (o:List Nat):List Nat:=gO xs e.user e.seq o++xs.length :: o.dropWhile fun i=>eG (cI xs i) e.user e.seq
def sK (e:Ent) (l:List Ent):List Ent:=l.takeWhile (fun x=>cR x e)++e :: l.dropWhile fun x=>cR x e
def aG4 {α a:Type} {f:α->a} {p:a->Bool}:∀ {l:List α},(l.map f).takeWhile p=(l.takeWhile fun x=>p (f x)).map f
 | []=>rfl
 | x :: l=>by
  rw [List.map_cons,List.takeWhile_cons,List.takeWhile_cons];cases p (f x) with
  | true=>simp [aG4]
  | false=>simp
def aE9 {α a:Type} {f:α->a} {p:a->Bool}:∀ {l:List α},(l.map f).dropWhile p=(l.dropWhile fun x=>p (f x)).map f
 | []=>rfl
 | x :: l=>by
  rw [List.map_cons,List.dropWhile_cons,List.dropWhile_cons];cases p (f x) with
  | true=>simp [aE9]
  | false=>simp
theorem Skp.put {xs:List Nd} {o:List Nat} {c:Nat->Nat} (h:Skp xs o c) {ht:Nat} (h1:1<=ht) (a6:ht<=12) (M:∀ i∈o,¬ ((cI xs i).user=e.user∧(cI xs i).seq=e.seq)) :
  Skp (gZ (iL xs e.user e.seq o c) xs.length (xs++[(e,fun _=>0)]) ht) (nK xs e o) (fun i=>if i=xs.length then ht else c i) ∧
  bX (gZ (iL xs e.user e.seq o c) xs.length (xs++[(e,fun _=>0)]) ht) (nK xs e o)=sK e (bX xs o):=by
 generalize Z:iL xs e.user e.seq o c=w;have H:=h.way e.user e.seq;rw [Z] at H;have p:(xs++[((e,fun _=>0):Nd)]).length=xs.length+1:=by simp
 have q:∀ j,j<ht->w j<(xs++[((e,fun _=>0):Nd)]).length∧w j≠xs.length:=fun j hj=>by have:=H.lt j om; omega
 have Q:xs.length<(xs++[((e,fun _=>0):Nd)]).length:=by omega
 have J:∀ a k,a<xs.length->bF (gZ w xs.length (xs++[(e,fun _=>0)]) ht) a k=if k<ht then (if a=w k then xs.length else bF xs a k) else bF xs a k:=fun a k G=>by
  rw [aDX Q q,if_neg (by omega:¬ a=xs.length),aIH G]
 have L:∀ k,k<ht->bF (gZ w xs.length (xs++[(e,fun _=>0)]) ht) xs.length k=bF xs (w k) k:=fun k A=>by
  rw [aDX Q q,if_pos A,if_pos rfl,aIH (H.lt k om)]
 have E:∀ a,a<xs.length->cI (gZ w xs.length (xs++[(e,fun _=>0)]) ht) a=cI xs a:=fun a G=>by rw [aFz,aQK G]
 have S:cI (gZ w xs.length (xs++[(e,fun _=>0)]) ht) xs.length=e:=by grind[aFz,cI]
 have r:o=gO xs e.user e.seq o++o.dropWhile (fun i=>eG (cI xs i) e.user e.seq):=(yq ..).symm;have m:∀ i∈gO xs e.user e.seq o,i∈o:=fun i f=>(yV f).1;have g:∀ i∈o.dropWhile (fun i=>eG (cI xs i) e.user e.seq),i∈o:=fun i f=>by grind
 have N:=h.nd;rw [r] at N;have D:∀ i,i∈nK xs e o↔i∈o∨i=xs.length:=fun i=>by
  grind[nK]
 have a4:xs.length∉o:=fun f=>by have:=(h.mem _ f).2; omega
 have K:∀ i∈o,¬ i=xs.length:=fun i f x=>by grind
 have O:∀ k,((gO xs e.user e.seq o).filter fun i=>decide (k<if i=xs.length then ht else c i))=(gO xs e.user e.seq o).filter fun i=>decide (k<c i):=fun k =>
  qaC fun i f=>by grind
 have P:∀ k,((o.dropWhile fun i=>eG (cI xs i) e.user e.seq).filter fun i=>decide (k<if i=xs.length then ht else c i))=(o.dropWhile fun i=>eG (cI xs i) e.user e.seq).filter fun i=>decide (k<c i):=fun k =>
  qaC fun i f=>by grind
 have l:bX (gZ w xs.length (xs++[(e,fun _=>0)]) ht) (nK xs e o)=sK e (bX xs o):=by
  unfold bX sK nK;rw [x7,wu,S,aG4,aE9];congr 1
  ·exact zq fun i f=>E i (h.mem i (m i f)).2
  congr 1;exact zq fun i f=>E i (h.mem i (g i f)).2
 refine ⟨⟨?_,?_,fun i f=>?_,fun i f=>?_,fun k A=>?_,?_,fun a G k A=>?_⟩,l⟩
 ·rw [sM,p,h.len,nK,qa,qp];grind
 ·rw [nK];grind
 ·rw [sM,p];rcases (D i).1 f with f|rfl
  ·have:=h.mem i f; omega
  grind
 ·rcases (D i).1 f with f|rfl
  ·rw [if_neg (K i f)]; exact h.h1 i f
  grind
 ·have T:=h.chn k A;have a3:w k=gQ 0 ((gO xs e.user e.seq o).filter fun i=>decide (k<c i)):=by rw [← Z]; rfl
  rw [r,ve] at T;rw [nK,ve,qaB,O,P];have n:∀ b∈(gO xs e.user e.seq o).filter (fun i=>decide (k<c i))++(o.dropWhile fun i=>eG (cI xs i) e.user e.seq).filter fun i=>decide (k<c i),b∈o:=fun b C=>by
   grind
  have a5:∀ b∈0 :: ((gO xs e.user e.seq o).filter (fun i=>decide (k<c i))++(o.dropWhile fun i=>eG (cI xs i) e.user e.seq).filter fun i=>decide (k<c i)),b<xs.length:=fun b C=>by
   rcases qe.1 C with rfl | C
   ·grind
   exact (h.mem b (n b C)).2
  simp only [if_true];by_cases t:k<ht
  ·rw [if_pos (by grind)];refine aHP T ?_ (fun b C a1=>?_) ?_ ?_
   ·refine xa.2 ⟨fun h0=>absurd (h.mem 0 (n 0 h0)).1 om,?_⟩;grind
   ·grind
   ·grind
   grind
  rw [if_neg (by grind)];refine T.congr fun b C=>?_;grind
 ·show SrE (bX _ _);rw [l];have hs:=h.srt;unfold sK bX;rw [aG4,aE9];rw [r,x7] at hs;obtain ⟨s1,s2,s3⟩:=yi.1 hs;have F:∀ x∈(gO xs e.user e.seq o).map (cI xs),cR x e=true:=fun x v=>by
   obtain ⟨i,f,rfl⟩:=ql.1 v;exact (yV f).2
  refine yi.2 ⟨s1,wz.2 ⟨fun x v=>?_,s2⟩,fun x v y I=>?_⟩
  ·obtain ⟨i,f,rfl⟩:=ql.1 v;exact aEY (aMt h.srt i f) (M i (g i f))
  rcases qe.1 I with rfl | I
  ·exact F x v
  exact s3 x v y I
 rw [sM,p] at G ⊢;by_cases X:a=xs.length
 ·subst X;by_cases t:k<ht
  ·rw [L k t]; have:=h.inb (w k) (H.lt k om) k A; omega
  rw [aDX Q q,if_neg t];simp[bF]
 rw [J a k om];have:=h.inb a om k A;grind
def Chn.hd {xs:List Nd} {k a:Nat} {o:List Nat} (h:Chn xs k a o):bF xs a k=o.getD 0 0:=by
 cases o<;>simp_all[Chn]
def Chn.at {xs:List Nd} {k:Nat}:∀ {o:List Nat} {a j:Nat},Chn xs k a o->j<o.length->bF xs (o.getD j 0) k=o.getD (j+1) 0
 | [],_,_,_,h=>by simp at h
 | b :: r,a,0,hc,_=>by
  have:=hc.2.hd;simpa using this
 | b :: r,a,j+1,hc,hj=>by
  have:=Chn.at hc.2 (j:=j) (by simpa using hj);simpa using this
def aJt {o:List Nat} {k:Nat} (h:k<o.length):o.getD k 0∈o:=by simp [h]
theorem aS1 {xs:List Nd} {o:List Nat} {k:Nat} (h:k<o.length):bX xs (o.take k)++[cI xs (o.getD k 0)]=bX xs (o.take (k+1)):=by
 grind[bX,we]
theorem tU {xs:List Nd} {o:List Nat}:(bX xs o).length=o.length:=by simp [bX]
theorem aWC {xs:List Nd} {a:Nat} {v:Value} (g:a<xs.length) (i:j<16) (f:p=a*16+j) (e:(Nd.cells (xs.getD a Nd.z))[j]? = some v):(xs.flatMap Nd.cells)[p]? = some v:=by
 subst f;obtain ⟨x,c⟩ : ∃ x,xs[a]? = some x:=⟨_,qv g⟩;have h:xs.getD a Nd.z=x:=by simp_all
 rw [h] at e;have k:=aDI (enc:=Nd.cells) (sz:=16) (fun y _=>Nd.len y) c;grind
def aHj {G:PM} {μ c:aB} {xs:List Nd} {b a:Nat} {v:Value} (h:MTake μ (rS 16 Nd.cells (.slice (some ⟨b,0,none⟩) m cap) E xs) c) (i:a<xs.length) (g:j<16) (f:p=a*16+j) (e:(Nd.cells (xs.getD a Nd.z))[j]? = some v):Rd G μ ⟨b,p,none⟩ v:=Rd.row h (aWC i g f e)
def aXY {xs:List Nd} (h:n=0∨¬ ((cI xs n).user=e.user∧(cI xs n).seq=e.seq)) (a:(decide (((n:Nat):Int) > 0)&&((xs.getD n Nd.z).1.user.toList == e.user.toList)&&(((xs.getD n Nd.z).1.seq.toNat:Int) == (e.seq.toNat:Int)))=true):False:=by
 simp only [dT] at a;obtain ⟨⟨g,f⟩,c⟩:=a;rcases h with h | h
 ·omega
 ·exact h ⟨aIb f,wj (Int.ofNat.inj (beq_iff_eq.1 c))⟩
def aPv {xs:List Nd} {u:ByteArray} {o:List Nat} (a:∀ i∈o,eG (cI xs i) u q=false):gO xs u q o=[]:=by
 cases o<;>simp_all[gO]
def bBo {xs:List Nd} {o:List Nat} {a:Nat->Nat} {u:ByteArray} (h:Skp xs o a) (c:∀ i∈o,eG (cI xs i) u q=false):Chn xs 0 (iL xs u q o a 0) o:=by
 have:iL xs u q o a 0=0:=by unfold iL; rw [aPv c]; rfl
 rw [this]; exact h.chn0
def aVb (a:ByteArray):lt a ⟨#[]⟩=false:=by
 have e:(⟨#[]⟩ : ByteArray).toList=[]:=by simp
 unfold lt; rw [e];cases a.toList<;>rfl
def aWO (h:e.seq.toNat<=18446744073709551615):eG e ⟨#[]⟩ 18446744073709551615#64=false:=by
 simp_all[eG,aVb]
theorem Skp.nil {e:Nat->Nat}:Skp [Nd.z] [] e :=
 ⟨rfl,List.nodup_nil,fun i c=>(by cases c),fun i c=>(by cases c),fun k _=>rfl,List.Pairwise.nil,fun a f k _=>by
  simp_all[bF,Nd.z]⟩
abbrev Pe:=Sh×List Ent
variable {qs:List Pe}
def jT (p:Pe):List Value:=[p.1.val p.2.length]
def AllE (G:PM) (ps:List Pe):Prop:=∀ p,p∈ps->SlR G 4 Ent.cells p.1 p.2
def AllE.mono {G e:PM} {c:List Pe} (h:AllE G c) (a:PM.le G e):AllE e c:=fun p f=>(h p f).mono a
def AllE.set {G:PM} {c:List Pe} {k:Nat} {p:Pe} (h:AllE G c) (e:SlR G 4 Ent.cells p.1 p.2):AllE G (c.set k p):=fun x a=>by
 rcases List.mem_or_eq_of_mem_set a with a | a
 ·exact h x a
 simp_all
def aXI (l:List Pe):∀ u∈l.flatMap jT,u.oneCell'=true:=fun u a=>by
 obtain ⟨x,_,h⟩:=xo.1 a; rw [qd.1 h]; rfl
def aDu {G:PM} {μ a:aB} {b k q:Nat} {p:Pe} (h:MTake μ (rS 1 jT (.slice (some ⟨b,0,none⟩) m cap) E qs) a) (c:qs[k]? = some p) (e:q=k):Rd G μ ⟨b,q,none⟩ (p.1.val p.2.length):=by
 have:=rN (G:=G) h (fun _ _=>rfl) c (q:=q) om 0 _ rfl;omega
abbrev aO (ps:List Pe):List (List Ent):=ps.map (·.2)
def aKc {a:List Pe} {k:Nat} {p:Pe} (h:a[k]? = some p):(aO a).getD k []=p.2:=by
 simp_all
def bJ (l:List Ent):Ent:=l.getD 0 Ent.zero
def SlR.hdR {G:PM} {h:Sh} {xs:List Ent} (a:SlR G 4 Ent.cells h xs) (c:0<xs.length):RdNP G h.b (h.o+(0:Int).toNat*4) (bJ xs).cells:=by
 refine a.at (j:=0) (k:=0) rfl ?_;simp_all[bJ]
def aPW {G:PM} {h:Sh} {xs:List Ent} (c:bJ xs=e) (a:SlR G 4 Ent.cells h xs) (f:0<xs.length):RdNP G h.b (h.o+(0:Int).toNat*4) e.cells:=c▸a.hdR f
def tP (ls:List (List Ent)) (b i:Nat):Bool:=decide (0<(ls.getD i []).length)&&(decide (b=0)||cR (bJ (ls.getD i [])) (bJ (ls.getD (b-1) [])))
def cX (ls:List (List Ent)):Nat->Nat
 | 0=>0
 | i+1=>if tP ls (cX ls i) i=true then i+1 else cX ls i
def dU (e:Ent) (l:List Ent):List Ent:=if (decide (0<l.length) && !cR e (bJ l))=true then l.drop 1 else l
def lY:Nat->List (List Ent)->List Ent
 | 0,_=>[]
 | f+1,ls=>if cX ls ls.length=0 then [] else bJ (ls.getD (cX ls ls.length-1) []) :: lY f (ls.map (dU (bJ (ls.getD (cX ls ls.length-1) []))))
def dI:List (List Ent)->Nat
 | []=>0
 | l :: r=>l.length+dI r
def gJ (ls:List (List Ent)):List Ent:=lY (dI ls) ls
def aA4 {ls:List (List Ent)}:∀ {i:Nat},cX ls i<=i
 | 0=>Nat.le_refl _
 | i+1=>by rw [cX]; split; exact Nat.le_refl _; exact Nat.le_succ_of_le aA4
def aA6 {ls:List (List Ent)}:∀ {i:Nat},cX ls i=0∨0<(ls.getD (cX ls i-1) []).length
 | 0=>.inl rfl
 | i+1=>by
  rw [cX];split
  ·simp_all[tP]
  ·exact aA6
def aVn {ls:List (List Ent)} (h:cX ls ls.length=0):lY f ls=[]:=by
 cases f<;>simp_all[lY]
theorem aI8:(dU e l).length<=l.length:=by
 unfold dU; grind
def aNj {e:Ent}:∀ {ls:List (List Ent)},dI (ls.map (dU e))<=dI ls
 | []=>Nat.le_refl _
 | l :: r=>by have:=aNj (e:=e) (ls:=r); have:=aI8 (e:=e) (l:=l); rw [wu,dI,dI]; omega
theorem aEX (e:Ent):cR e e=false:=by
 grind[aH6]
theorem aNi:∀ {ls:List (List Ent)} {b:Nat},0<(ls.getD b []).length->dI (ls.map (dU (bJ (ls.getD b []))))<dI ls
 | [],b,h=>by simp at h
 | l :: r,0,h=>by
  have a:=aNj (e:=bJ ((l :: r).getD 0 [])) (ls:=r);have c:(dU (bJ ((l :: r).getD 0 [])) l).length<l.length:=by
   have h:0<l.length:=h;show (dU (bJ l) l).length<_;unfold dU;rw [aEX,decide_eq_true h,if_pos (by rfl),qx]; omega
  grind[dI]
 | l :: r,b+1,h=>by
  have a:=aNi (ls:=r) (b:=b) (by simp_all);have e:(l :: r).getD (b+1) []=r.getD b []:=rfl;grind[dI,aI8]
def aF8 {ls:List (List Ent)} (h:cX ls ls.length≠0) (a:bJ (ls.getD (cX ls ls.length-1) [])=e) (j:dI ls<=f) :
  ∃ f',f=f'+1∧lY f ls=e :: lY f' (ls.map (dU e))∧dI (ls.map (dU e))<=f'∧dI (ls.map (dU e))<dI ls:=by
 have g:=(aA6 (ls:=ls) (i:=ls.length)).resolve_left h;have c:=aNi g;rw [a] at c;cases f with
 | zero=>omega
 | succ f=>exact ⟨f,rfl,by rw [lY,if_neg h,a],om,c⟩
def aQf {G:PM} (c:AllE G qs) (e:i<qs.length):∃ P:Pe,SlR G 4 Ent.cells P.1 P.2∧(cX (aO qs) i≠0->qs[cX (aO qs) i-1]? = some P∧0<P.2.length∧(aO qs).getD (cX (aO qs) i-1) []=P.2):=by
 have g:=aA4 (ls:=aO qs) (i:=i);obtain ⟨P,a⟩:=cE (k:=cX (aO qs) i-1) (xs:=qs) om;refine ⟨P,c P (List.mem_of_getElem? a),fun h=>⟨a,?_,aKc a⟩⟩;have f:=(aA6 (ls:=aO qs) (i:=i)).resolve_left h;simp_all
def aVp (c:i=qs.length) (h:cX (aO qs) i≠0) (g:dI (aO qs)<=f) :
  ∃ (Q:Pe) (a:Nat),qs[cX (aO qs) i-1]? = some Q∧0<Q.2.length∧cX (aO qs) i-1<qs.length∧f=a+1 ∧
   lY f (aO qs)=bJ Q.2 :: lY a ((aO qs).map (dU (bJ Q.2)))∧dI ((aO qs).map (dU (bJ Q.2)))<=a∧dI ((aO qs).map (dU (bJ Q.2)))<dI (aO qs):=by
 subst c;have n:(aO qs).length=qs.length:=qw _;have p:=aA4 (ls:=aO qs) (i:=qs.length);have j:cX (aO qs) qs.length-1<qs.length:=by omega
 obtain ⟨Q,m⟩:=cE (k:=cX (aO qs) qs.length-1) (xs:=qs) j;have l:=(aA6 (ls:=aO qs) (i:=qs.length)).resolve_left h;rw [aKc m] at l;obtain ⟨a,v,t,r,q⟩:=aF8 (ls:=aO qs) (f:=f) (e:=bJ Q.2) (by simp_all) (by simp_all) g;simp_all
def aVo {O:List Ent} {R:List Ent} (a:i=qs.length) (h:cX (aO qs) i=0) (c:O++lY f (aO qs)=R):O=R:=by
 simp_all[aVn]
theorem aQg {p P:Pe} (a:qs[i]? = some p) (e:cX (aO qs) i≠0->qs[cX (aO qs) i-1]? = some P∧0<P.2.length∧(aO qs).getD (cX (aO qs) i-1) []=P.2) (c:(0:Int)<(p.2.length:Nat)∧(((cX (aO qs) i:Nat):Int)-1<0∨cR (bJ p.2) (bJ P.2)=true)):cX (aO qs) (i+1)=i+1:=by
 have:tP (aO qs) (cX (aO qs) i) i=true:=by
  unfold tP;grind
 simp[*,cX]
theorem aQe {p P:Pe} (a:qs[i]? = some p) (e:cX (aO qs) i≠0->qs[cX (aO qs) i-1]? = some P∧0<P.2.length∧(aO qs).getD (cX (aO qs) i-1) []=P.2) (c:(p.2.length:Int)<=0∨0<=((cX (aO qs) i:Nat):Int)-1∧cR (bJ p.2) (bJ P.2)=false):cX (aO qs) (i+1)=cX (aO qs) i:=by
 have:¬ tP (aO qs) (cX (aO qs) i) i=true:=by
  unfold tP;grind
 simp[*,cX]
theorem aJA {ls r:List (List Ent)} (f:r=(ls.take j).map (dU e)++ls.drop j) (g:r[j]? = some l) (i:j<ls.length):ls[j]? = some l∧∀ {a},dU e l=a->r.set j a=(ls.take (j+1)).map (dU e)++ls.drop (j+1):=by
 have h:((ls.take j).map (dU e)).length=j:=by grind
 have c:ls[j]? = some l:=by
  grind
 refine ⟨c,fun {a} m=>?_⟩;have k:ls.drop j=l :: ls.drop (j+1):=by
  grind[yr]
 grind
def aSf (c:(0:Int)<(l.length:Nat)∧cR e (bJ l)=false):dU e l=l.drop 1:=by
 simp_all[dU]
theorem aSb (c:(l.length:Int)<=0∨cR e (bJ l)=true):dU e l=l:=by
 unfold dU; grind
theorem aYt {α} {r:List α} {l:α} (h:r[j]? = some l):r.set j l=r:=by
 grind[List.set_getElem_self]
theorem aSe {a:List Pe} {p:Pe} (h:aO a=((aO qs).take j).map (dU e)++(aO qs).drop j) (g:a[j]? = some p) (f:j<qs.length) (c:(0:Int)<(p.2.length:Nat)∧cR e (bJ p.2)=false) (x:Sh) :
  aO (a.set j (x,p.2.drop 1))=((aO qs).take (j+1)).map (dU e)++(aO qs).drop (j+1):=by
 rw [show aO (a.set j (x,p.2.drop 1))=(aO a).set j (p.2.drop 1) from List.map_set];exact (aJA h (by grind) (by simp_all)).2 (aSf c)
theorem aSd {a:List Pe} {p:Pe} (h:aO a=((aO qs).take j).map (dU e)++(aO qs).drop j) (i:a[j]? = some p) (f:j<qs.length) (c:(p.2.length:Int)<=0∨cR e (bJ p.2)=true) :
  aO a=((aO qs).take (j+1)).map (dU e)++(aO qs).drop (j+1):=by
 have g:(aO a)[j]? = some p.2:=by grind
 grind[aJA,qw,aSb,aYt]
theorem aSZ {a:List Pe} (h:aO a=((aO qs).take j).map (dU e)++(aO qs).drop j) (f:j=qs.length):aO a=(aO qs).map (dU e):=by
 have c:(aO qs).length=j:=by simp_all
 grind
def lF (last key:List Y) (anew:Bool):Nat:=if anew then 0 else gA last key
theorem aEy (last a:List Y) (anew:Bool):lF last a anew<=a.length:=by unfold lF; split; exact qo _; simp[aCt]
def qB (last:List Y) (anew:Bool) (e:Ent):List Y :=
 bK (lF last (dA e) anew)++bK ((dA e).length-lF last (dA e) anew)++bK e.value.size++(dA e).drop (lF last (dA e) anew)++yb e.value
def qJ (l:List Ent):Nat->List Y
 | 0=>[]
 | k+1=>dA (l.getD k Ent.zero)
def fV (every:Nat) (l:List Ent):Nat->List Y
 | 0=>bK every++bK l.length
 | k+1=>fV every l k++qB (qJ l k) (k%every == 0) (l.getD k Ent.zero)
def oJ (every:Nat) (l:List Ent):Nat->List Y
 | 0=>[]
 | k+1=>if k%every=0 then oJ every l k++cM (BitVec.ofInt 64 ((fV every l k).length:Int)) 4 else oJ every l k
def mV (every:Nat):Nat->Nat
 | 0=>0
 | k+1=>if k%every=0 then mV every k+1 else mV every k
theorem aGe (every:Nat):∀ k,mV every k<=k
 | 0=>Nat.le_refl _
 | k+1=>by have:=aGe every k; unfold mV; split<;>omega
theorem aGQ (every:Nat) (l:List Ent):∀ k,(oJ every l k).length=4*mV every k
 | 0=>rfl
 | k+1=>by
  have:=aGQ every l k;unfold oJ mV;split
  ·rw [qa,jJ,this]; omega
  ·exact this
def gP (every:Nat) (l:List Ent):List Y:=fV every l l.length++oJ every l l.length++cM (qk 64 (mV every l.length:Int)) 4
noncomputable def gY (l:List Ent) (every:Int):List Y×Int :=
 if B (every<1∨1024<every∨cA l=false∨∃ e∈l,cC e=false) then ([],1)
 else if B ((∃ k,k<l.length∧1048576<(fV every.toNat l (k+1)).length)∨1048576<(gP every.toNat l).length) then ([],4) else (gP every.toNat l,0)
def aQ1 {every:Int} (h:every<1∨1024<every∨cA l=false∨∃ e∈l,cC e=false):gY l every=([],1):=by simp_all[gY,uS]
def aIZ {every:Int} (h:¬ (every<1∨1024<every∨cA l=false∨∃ e∈l,cC e=false)) (h2:(∃ k,k<l.length∧1048576<(fV every.toNat l (k+1)).length)∨1048576<(gP every.toNat l).length):gY l every=([],4):=by
 simp_all[gY,aCK,uS]
theorem aEp {every:Int} (h:¬ (every<1∨1024<every∨cA l=false∨∃ e∈l,cC e=false)) (h2:¬ ((∃ k,k<l.length∧1048576<(fV every.toNat l (k+1)).length)∨1048576<(gP every.toNat l).length)):gY l every=(gP every.toNat l,0):=by
 simp_all[gY,aCK]
def xF {α:Type} (last:List Y) (k:Ent->List Y->List Y->Option α):List Y->Option α :=
 eJ fun sh=>eJ fun rest=>eJ fun v r =>
  if sh<=last.length∧rest<=r.length∧v<=r.length-rest then
   (if (iK (last.take sh++r.take rest)).2=0 then k { (iK (last.take sh++r.take rest)).1 with value:=aQ ((r.drop rest).take v) } (last.take sh++r.take rest) ((r.drop rest).drop v) else none)
  else none
def jF:Nat->List Y->List Ent->List Y->Option (List Ent)
 | 0,_,acc,_=>some acc
 | n+1,last,acc,r=>xF last (fun e key r=>jF n key (acc++[e]) r) r
noncomputable def nR (xs:List Y):List Ent×Int :=
 match (eJ fun every=>eJ fun n r=>if every<=1024 then (jF n [] [] r).bind fun l=>if gY l every=(xs,0) then some l else none else none) xs with
 | some l=>(l,0)
 | none=>([],100)
def fR (bits:Int):Nat:=(max 1 (min bits 64)).toNat
def qX (bits:Int):Nat:=max 1 (min (fR bits*69 / 100) 30)
theorem aDo (bits:Int):1<=fR bits∧fR bits<=64:=by grind[fR]
theorem aXS (bits:Int):1<=qX bits∧qX bits<=30:=by grind[qX]
def aJx (s:ByteArray):W:=mK 0#32 (yb s)
def hJ (s:ByteArray):Nat->W
 | 0=>aJx s
 | k+1=>hJ s k+tB (aJx s) 15
def wH (s:ByteArray) (n j:Nat):W:=hJ s j%qk 32 ((8*n:Nat):Int)
def aGj (b:List Y) (p:W):List Y:=b.set (p.toNat / 8) (b.getD (p.toNat / 8) 0 ||| 1#8 <<< (p.toNat%8))
def rA (s:ByteArray) (b:List Y):Nat->List Y
 | 0=>b
 | k+1=>aGj (rA s b k) (wH s b.length k)
def aH1 (pr:Nat) (b:List Y) (s:ByteArray):List Y:=rA s b pr
def aOU (n:Nat) (bits:Int):List Y:=xl ((max 64 (n*fR bits)+7) / 8) 0#8
def xS (l:List ByteArray) (bits:Int) (k:Nat):List Y:=(l.take k).foldl (aH1 (qX bits)) (aOU l.length bits)
def aAF (l:List ByteArray) (bits:Int):List Y:=xS l bits l.length++[qb 8 (qX bits)]
def aYr (b:List Y) (p:W):(aGj b p).length=b.length:=by simp[aGj]
def aMf (s:ByteArray) (b:List Y):∀ k,(rA s b k).length=b.length
 | 0=>rfl
 | k+1=>by unfold rA; rw [aYr,aMf s b k]
def aJn (pr:Nat):∀ (l:List ByteArray) (b:List Y),(l.foldl (aH1 pr) b).length=b.length
 | [],b=>rfl
 | s :: l,b=>by rw [List.foldl_cons,aJn pr l]; exact aMf s b pr
def bBx (n:Nat) (bits:Int):(aOU n bits).length=(max 64 (n*fR bits)+7) / 8:=List.length_replicate
def aKN (l:List ByteArray) (bits:Int) (k:Nat):(xS l bits k).length=(max 64 (l.length*fR bits)+7) / 8:=by simp[xS,aJn,bBx]
def aXJ (s:ByteArray) (e:0<n) (c:n<500000000) (j:Nat):(wH s n j).toNat / 8<n:=by
 unfold wH;rw [BitVec.ofInt_natCast,BitVec.toNat_umod,jz,yp (a:=8*n) om];have:=Nat.mod_lt (hJ s j).toNat (show 0<8*n by omega);omega
theorem aF3 (l:List ByteArray) (bits:Int):(aAF l bits).length=(max 64 (l.length*fR bits)+7) / 8+1:=by simp[aAF,aKN]
def aUu {l:List ByteArray} {bits:Int} {k:Nat} {s:ByteArray} (h:l[k]? = some s):xS l bits (k+1)=rA s (xS l bits k) (qX bits):=by
 unfold xS; rw [we,h,Option.toList_some,List.foldl_append]; rfl
def aMj (p:W):(p >>> 3).toNat=p.toNat / 8:=by rw [jc,zj]
def aQA (p:W):(p &&& 7#32).toNat=p.toNat%8:=by rw [BitVec.toNat_and]; exact Nat.and_two_pow_sub_one_eq_mod p.toNat 3
def aFZ (kind:Y) (p:List Y):List Y:=cM ((aF6 (mK 0#32 ([kind]++p))).setWidth 64) 4++cM (qk 64 (p.length:Int)) 2++[kind]
def sL (n j:Nat):Y:=if j=0 then (if n<=128 then 1#8 else 2#8) else if n-128*j<=128 then 4#8 else 3#8
def qV (s:List Y):Nat->List Y
 | 0=>[]
 | j+1=>qV s j++aFZ (sL s.length j) ((s.drop (128*j)).take 128)++(s.drop (128*j)).take 128
def aGV (s:List Y):List Y:=qV s ((s.length+127) / 128)
theorem bAM (M:List Y):M.take (min M.length 128)=M.take 128:=by
 grind
def aDx {S M O A B C D E:List Y} {kind:Y} (c:O=qV S j) (e:M=S.drop (128*j)) (k:A=M.take (min M.length 128)) (i:B=M.take (min M.length 128)) (h:C=aFZ kind A) (g:D=O++C) (f:E=D++B) (a:kind=sL S.length j):E=qV S (j+1):=by
 rw [f,g,h,k,i,bAM,c,e,a]; rfl
theorem aC6 {S:List Y}:(S.drop (128*j)).drop (min (S.drop (128*j)).length 128)=S.drop (128*(j+1)):=by
 grind[yk,yf]
theorem aBR (kind:Y) (p:List Y):(aFZ kind p).length=7:=by rfl
theorem aGP (S:List Y) (j:Nat):(qV S j).length<=135*j:=by
 induction j with
 | zero=>exact qo _
 | succ j ih=>grind[qV,aBR]
def aU0 (h:j=0) (a:n<=128):1#8=sL n j:=by simp_all[sL]
def aUz (h:j=0) (a:¬ n<=128):2#8=sL n j:=by simp_all[sL]
def aU1 (h:¬ j=0) (a:n-128*j<=128):4#8=sL n j:=by simp_all[sL]
def aU2 (h:¬ j=0) (a:¬ n-128*j<=128):3#8=sL n j:=by simp_all[sL]
def lW (root:Nat->Y) (h:Hd) (n:BitVec 64) (p:List Y):List Y×Int:=if p.length<=4194304 then (aGV (kB (fF root (aU h)) (fG root (aU h)) (iQ n) (aU h) p),0) else ([],4)
def aVF {root:Nat->Y} {h:Hd} {n:BitVec 64} {p:List Y} (c:¬ p.length<=4194304):([],4)=lW root h n p:=by simp_all[lW]
def aVE {root:Nat->Y} {h:Hd} {n:BitVec 64} {p S O:List Y} (c:p.length<=4194304) (e:S=kB (fF root (aU h)) (fG root (aU h)) (iQ n) (aU h) p) (f:O=qV S j) (a:j=(S.length+127) / 128):(O,0)=lW root h n p:=by
 unfold lW; rw [if_pos c,f,a,e]; rfl
section
variable {op:Nat→List Y→Option (List Y)} {tot:Nat} {r mT:List Y} {recs:List (List Y)} {used:Nat}
theorem aTP {n:BitVec 64} (h:j<m):(cM n m)[j]? = some ((n >>> (8*j)).setWidth 8):=by grind[cM]
def aTh {y:Y} (h:xs[j]? = some y):xs.getD j 0=y:=by simp_all
end
def wG (root:Nat->Y) (h:Hd) (i:Nat) (s:List Y):Option (List Y):=qT (fF root (aU h)) (fG root (aU h)) (iQ (qk 64 (i:Int))) (aU h) s
def aAW (root:Nat->Y) (h:Hd) (i:Nat) (p:List Y):List Y:=kB (fF root (aU h)) (fG root (aU h)) (iQ (qk 64 (i:Int))) (aU h) p
theorem aHA (n:BitVec 64) (t:List Y):eA (cM n 8++t) 8=n:=by
 have c:∀ k,k<=8->∀ i,i<64->(eA (cM n 8++t) k).getLsbD i=(decide (i<8*k)&&n.getLsbD i):=by
  intro k;induction k with
  | zero=>simp[eA]
  | succ k ih =>
   intro f i a;have e:(cM n 8++t).getD k 0=(n >>> (8*k)).setWidth 8:=aTh (by grind[jJ,aTP]);rw [eA,BitVec.getLsbD_or,ih om i a,e];simp only [BitVec.getLsbD_shiftLeft,BitVec.getLsbD_setWidth,BitVec.getLsbD_ushiftRight,a,decide_true,Bool.true_and];grind
 apply BitVec.eq_of_getLsbD_eq;simp_all
def aTp (h:Hd) (t:List Y):oF (aU h++t)=h:=by
 have e:aU h++t=[116#8,97#8,110#8,116#8,h.kind,h.level]++(cM h.gen 8++(cM h.epoch 8++(cM h.num 8++t))):=by rfl
 have f:(aU h++t).drop 6=cM h.gen 8++(cM h.epoch 8++(cM h.num 8++t)):=by rfl
 have c:(aU h++t).drop 14=cM h.epoch 8++(cM h.num 8++t):=by
  rfl
 have a:(aU h++t).drop 22=cM h.num 8++t:=by
  rfl
 simp_all[oF,aHA]
def bAK (h:Hd) (t:List Y):mY (aU h++t)=if h.right=true then (h,0) else (Hd.zero,70):=by
 have a:¬ (aU h++t).length<30:=by simp[iX]
 have c:(aU h++t).take 4=[116#8,97#8,110#8,116#8]:=by rfl
 simp_all[mY,if_neg,aTp]
abbrev Dg:=Nat→Y
variable {S:List (Nat×Dg)}
def gB (xs:List Y):Dg:=nT (0#8 :: xs)
def oG (a b:Dg):Dg:=nT (1#8 :: (yl 32 a++yl 32 b))
def aJC:Dg:=nT [2#8]
def yB (k n:Nat):Nat->Nat
 | 0=>k
 | f+1=>if k+k<n then yB (k*2) n f else k
def sY (n:Nat):Nat:=yB 1 n n
theorem aLg:∀ (f k n:Nat),0<k->n<=k*2^f->k<n->(∃ a,k=2^a)->(∃ b,yB k n f=2^b)∧yB k n f<n∧n<=yB k n f+yB k n f
 | 0,k,n,h0,hn,hk,ha=>by omega
 | f+1,k,n,h0,hn,hk,⟨a,ha⟩=>by
  unfold yB;split
  ·rename_i h;refine aLg f (k*2) n (by omega) ?_ (by omega) ⟨a+1,by omega⟩;grind
  grind
def aDn (h:2<=n):(∃ b,sY n=2^b)∧sY n<n∧n<=sY n+sY n :=
 aLg n 1 n dc (by simp[Nat.le_of_lt,Nat.lt_two_pow_self]) om ⟨0,rfl⟩
theorem aLh (h:2<=n):0<sY n:=by have:=(aDn h).2.2; omega
def aXP {a b:Nat} (h1:2^a<n) (h2:n<=2^a+2^a) (h3:2^b<n) (c:n<=2^b+2^b):a=b:=by
 rcases Nat.lt_trichotomy a b with h | h | h
 ·have:=yw (n:=2) dc (show a+1<=b by omega);omega
 ·exact h
 ·have:=yw (n:=2) dc (show b+1<=a by omega);omega
theorem aXA {a:Nat} (h:0<m) (hm:m<=2^a):sY (2^a+m)=2^a:=by
 have g:0<2^a:=ki dc;obtain ⟨⟨b,f⟩,e,c⟩:=aDn (n:=2^a+m) om;rw [f] at e c ⊢;rw [aXP e c (show 2^a<2^a+m by omega) om]
def fH (l:List Dg):Dg :=
 match l with
 | []=>aJC
 | [d]=>d
 | a :: b :: r=>oG (fH ((a :: b :: r).take (sY (r.length+2)))) (fH ((a :: b :: r).drop (sY (r.length+2))))
termination_by l.length
decreasing_by
 ·have:=aDn (n:=r.length+2) (by omega)
  grind
 grind[aLh]
def aYC:fH []=aJC:=by rw [fH]
def aME (d:Dg):fH [d]=d:=by rw [fH]
theorem aGa {l:List Dg} (h:2<=l.length):fH l=oG (fH (l.take (sY l.length))) (fH (l.drop (sY l.length))):=by
 match l,h with
 | a :: b :: r,_=>simp[fH]
theorem aMD {s t:List Dg} {a:Nat} (c:s.length=2^a) (e:0<t.length) (ht:t.length<=2^a):fH (s++t)=oG (fH s) (fH t):=by
 grind[aGa,aXA,jb]
inductive Stk:List (Nat×Dg)→List Dg→Prop
 | nil:Stk [] []
 | cons {a:Nat} {r:Dg} {S:List (Nat×Dg)} {L seg:List Dg} (hS:Stk S L) (hl:seg.length=2^a) (hr:fH seg=r) (hlt:∀ b s S',S=(b,s) :: S'→a<b):Stk ((a,r) :: S) (L++seg)
def finD (d:Dg):List (Nat×Dg)->Dg
 | []=>d
 | p :: S=>finD (oG p.2 d) S
theorem Stk.root:∀ {S:List (Nat×Dg)} {L T:List Dg},Stk S L->0<T.length->(∀ b s S',S=(b,s) :: S'->T.length<=2^b)->fH (L++T)=finD (fH T) S
 | [],L,T,h,h0,_=>by cases h; rfl
 | (a,r) :: S,L,T,h,h0,hb=>by
  cases h with
  | @cons _ _ _ L seg hS hl hr hlt =>
   rw [List.append_assoc,Stk.root hS (by grind) (fun b s S' e=>by
    have h1:=hlt b s S' e;have h2:=hb a r S rfl;have h3:=Nat.pow_le_pow_right (n:=2) (by decide) (show a+1<=b by omega);grind),aMD hl h0 (hb a r S rfl),hr]
   rfl
theorem Stk.done {a:Nat} {r:Dg} {L:List Dg} (h:Stk ((a,r) :: S) L):fH L=finD r S:=by
 cases h with
 | @cons _ _ _ L seg hS hl hr hlt =>
  grind[Stk.root,yw]
theorem aLn (a d t:Nat):2^(a+1+d)*t+2^a=2^a*(2*(2^d*t)+1):=by
 grind
theorem Stk.len:∀ {S:List (Nat×Dg)} {L:List Dg} {a:Nat} {r:Dg},Stk ((a,r) :: S) L->∃ m,L.length=2^a*(2*m+1)
 | [],L,a,r,h=>by
  cases h with
  | @cons _ _ _ L seg hS hl hr hlt=>cases hS; exact ⟨0,by simp_all⟩
 | (b,s) :: S,L,a,r,h=>by
  cases h with
  | @cons _ _ _ L seg hS hl hr hlt =>
   obtain ⟨m,hm⟩:=Stk.len hS;have c:=hlt b s S rfl;obtain ⟨d,rfl⟩ : ∃ d,b=a+1+d:=⟨b-a-1,om⟩;grind[aLn]
structure Pend (S:List (Nat×Dg)) (d:Dg) (a:Nat) (l:List Dg):Prop where
 out:∃ L seg,Stk S L∧seg.length=2^a∧fH seg=d∧L++seg=l∧∀ b s S',S=(b,s) :: S'→a≤b
def aPS {L:List Dg} (h:Stk S L) (d:Dg):Pend S d 0 (L++[d]):=⟨L,[d],h,rfl,aME _,rfl,fun _ _ _ _=>qo _⟩
theorem Pend.even {d:Dg} {a:Nat} {l:List Dg} (h:Pend S d a l) (x:(l.length / 2^a)%2=0):∃ s S',S=(a,s) :: S'∧Pend S' (oG s d) (a+1) l∧l.length / 2^a / 2=l.length / 2^(a+1):=by
 obtain ⟨L,i,c,w,r,p,g⟩:=h.out;have t:0<2^a:=ki dc;have f:l.length / 2^a / 2=l.length / 2^(a+1):=by rw [Nat.div_div_eq_div_mul,yx]
 have k:l.length=L.length+2^a:=by grind
 match S,c,g with
 | [],c,g =>
  cases c;simp_all
 | (b,s) :: S',c,g =>
  obtain ⟨m,v⟩:=c.len;have q:=g b s S' rfl;by_cases e:a=b
  ·subst e;refine ⟨s,S',rfl,?_,f⟩;cases c with
   | @cons _ _ _ L0 seg0 hS0 hl0 hr0 hlt =>
    refine ⟨L0,seg0++i,hS0,by grind,?_,by simp_all,fun b s j e=>hlt b s j e⟩;grind[aMD]
  exfalso;obtain ⟨n,rfl⟩ : ∃ n,b=a+1+n:=⟨b-a-1,om⟩;simp_all[aLn]
def Pend.odd {d:Dg} {a:Nat} {l:List Dg} (h:Pend S d a l) (r:(l.length / 2^a)%2=1):Stk ((a,d) :: S) l:=by
 obtain ⟨L,k,j,i,n,c,t⟩:=h.out;have p:0<2^a:=ki dc;subst c;refine .cons j i n fun b s v e=>?_;have f:=t b s v e;rcases Nat.lt_or_eq_of_le f with g | g
 ·exact g
 exfalso;subst e; subst g;obtain ⟨m,q⟩:=j.len;rw [qa,i,q,show 2^a*(2*m+1)+2^a=2^a*(2*m+2) by rfl,Nat.mul_div_cancel_left _ p] at r;omega
theorem Stk.short:∀ {S:List (Nat×Dg)} {L:List Dg},Stk S L->S.length<=L.length
 | [],_,_=>Nat.zero_le _
 | (a,r) :: S,L,h=>by
  cases h with
  | @cons _ _ _ L seg hS hl hr hlt =>
   have:=Stk.short hS;grind
def bO:List Ent->Nat
 | []=>0
 | e :: l=>e.user.size+e.value.size+bO l
theorem pU:∀ a b:List Ent,bO (a++b)=bO a+bO b
 | [],b=>by simp [bO]
 | e :: a,b=>by simp only [List.cons_append,bO,pU a b]; omega
theorem yO:∀ {l:List Ent} {k:Nat},k<l.length->(l.getD k Ent.zero).user.size+(l.getD k Ent.zero).value.size<=bO l
 | e :: l,0,_=>by simp[bO]
 | e :: l,k+1,h=>by have:=yO (l:=l) (k:=k) (by simp_all); grind[bO]
theorem aON {k:Nat} (h:k<l.length):bO (l.take (k+1))=bO (l.take k)+((l.getD k Ent.zero).user.size+(l.getD k Ent.zero).value.size):=by
 grind[we,pU,bO]
theorem aEH (l:List Ent) (k:Nat):bO (l.take k)<=bO l:=by
 grind[pU,wn]
def lightE (l:List Ent):Prop:=l.length<=2000∧bO l<=50000
theorem lightE.take {l:List Ent} (h:lightE l) (k:Nat):lightE (l.take k):=⟨by have:=h.1; grind,Nat.le_trans (aEH _ _) h.2⟩
theorem aSz {last:List Y} {anew:Bool} (c:e.user.size<=100000) (a:e.value.size<=100000):(qB last anew e).length<=e.user.size+e.value.size+38:=by
 grind[aEy,zX,iJ,qB,bM]
theorem aDl {every:Nat} {l:List Ent} (f:every<18446744073709551616) (c:l.length<18446744073709551616) (a:bO l<=100000):∀ k,k<=l.length->(fV every l k).length<=20+bO (l.take k)+38*k
 | 0,_=>by
  grind[iJ,fV]
 | k+1,h=>by
  have ih:=aDl f c a k om;have i:=yO (l:=l) (k:=k) om;have g:=aSz (last:=qJ l k) (anew:=k%every == 0) (e:=l.getD k Ent.zero) om om;unfold fV; rw [qa,aON om]; omega
theorem aCi {every:Nat} (e:every<18446744073709551616) (c:l.length<18446744073709551616) (a:bO l<=100000):(gP every l).length<=24+bO l+42*l.length:=by
 have f:=aDl e c a l.length (qc _);grind[aGe,gP,jJ,aGQ]
def iG (least:Int):Int->List Ent->Nat
 | _,[]=>0
 | n,e :: l=>if least<=n+((e.user.size:Int)+e.value.size+8) then 1 else iG least (n+((e.user.size:Int)+e.value.size+8)) l+1
def aE3 (a:Int):∀ (l:List Ent) (n:Int),iG a n l<=l.length
 | [],n=>Nat.le_refl _
 | e :: l,n=>by
  unfold iG;split
  ·simp
  ·have:=aE3 a l (n+((e.user.size:Int)+e.value.size+8)); simp only [qp]; omega
theorem zH (a:Int) (n:Int) (h:l≠[]):0<iG a n l:=by
 cases l with
 | nil=>simp_all
 | cons e l=>grind[iG]
def gV (l:List Ent):Nat->Int
 | 0=>0
 | k+1=>gV l k+(((l.getD k Ent.zero).user.size:Int)+(l.getD k Ent.zero).value.size+8)
theorem aD5 (e:Ent) (l:List Ent):∀ k,gV (e :: l) (k+1)=((e.user.size:Int)+e.value.size+8)+gV l k
 | 0=>by simp [gV]
 | k+1=>by
  have:=aD5 e l k;rw [gV,this,List.getD_cons_succ,gV]; omega
theorem aM8 (l:List Ent):∀ k,k<=l.length->gV l k=((bO (l.take k)+8*k:Nat):Int)
 | 0,_=>by rfl
 | k+1,h=>by rw [gV,aM8 l k (by omega),aON (by omega)]; omega
theorem aIt (a:Int):∀ (l:List Ent) (n:Int) (k:Nat),k<l.length->(∀ j,j<k->n+gV l (j+1)<a)->a<=n+gV l (k+1)->iG a n l=k+1
 | [],n,k,h,_,_=>by grind
 | e :: l,n,0,_,_,h=>by
  simp_all[iG,gV]
 | e :: l,n,k+1,hk,hj,h=>by
  have h0:=hj 0 om;simp only [gV,v6] at h0;unfold iG;rw [if_neg om,aIt _ l _ k (by simp_all) (fun j c=>by grind[aD5]) (by grind[aD5])]
theorem aIs (a:Int):∀ (l:List Ent) (n:Int),(∀ j,j<l.length->n+gV l (j+1)<a)->iG a n l=l.length
 | [],n,_=>rfl
 | e :: l,n,hj=>by
  have h0:=hj 0 (by simp);simp only [gV,v6] at h0;unfold iG;rw [if_neg om,aIs _ l _ (fun j c=>by grind[aD5,gV])];rfl
def dP (least:Int) (l:List Ent):List (List Ent) :=
 if h:l=[] then [] else l.take (iG least 0 l) :: dP least (l.drop (iG least 0 l))
termination_by l.length
decreasing_by
 grind[zH,xd]
def aCx (a:Int):dP a []=[]:=by simp[dP]
theorem aCw {a:Int} (h:l≠[]):dP a l=l.take (iG a 0 l) :: dP a (l.drop (iG a 0 l)):=by rw [dP,dif_neg h]
theorem oB (a:Int) (l:List Ent):(dP a l).flatten=l:=by
 by_cases h:l=[]
 ·subst h; rw [aCx]; rfl
 ·rw [aCw h,je,oB _ _,wn]
termination_by l.length
decreasing_by
 grind[zH,xd]
theorem aE4 (a:Int) (l:List Ent):∀ c∈dP a l,c≠[]:=by
 by_cases h:l=[]
 ·simp_all[aCx]
 ·rw [aCw h];intro c e;rcases qe.1 e with rfl | e
  ·grind[zH,List.length_take]
  ·exact aE4 _ _ c e
termination_by l.length
decreasing_by
 grind[zH,xd]
theorem aIu (a:Int):∀ (k:Nat) (l:List Ent),dP a (((dP a l).drop k).flatten)=(dP a l).drop k
 | 0,l=>by rw [List.drop_zero,oB]
 | k+1,l=>by
  by_cases h:l=[]
  ·subst h; rw [aCx]; simp [aCx]
  ·rw [aCw h,List.drop_succ_cons]; exact aIu a k _
theorem aIw {a:Int} {rest:List Ent} {k:Nat} (c:rest=((dP a l).drop k).flatten) (e:rest≠[]) :
  k<(dP a l).length∧(dP a l).getD k []=rest.take (iG a 0 rest)∧((dP a l).drop (k+1)).flatten=rest.drop (iG a 0 rest):=by
 grind[yf,aIu,aCw,yr,oB]
theorem aIv {a:Int} {rest:List Ent} {k:Nat} (c:rest=((dP a l).drop k).flatten) (e:rest=[]):(dP a l).length<=k:=by
 grind[aE4,List.getElem_mem,yr,List.append_eq_nil_iff]
def gR (c:List Ent):ByteArray:=(c.getD (c.length-1) Ent.zero).user
def kK (c:List Ent):ByteArray:=(c.getD 0 Ent.zero).user
def nE (cs:List (List Ent)) (i:Nat):List Y:=if i+1<cs.length then pZ (yb (gR (cs.getD i []))) (yb (kK (cs.getD (i+1) []))) else yb (gR (cs.getD i []))
def rX:ByteArray->List ByteArray->List ByteArray
 | _,[]=>[]
 | p,b :: l=>if b=p then rX p l else b :: rX b l
def iU:List ByteArray->List ByteArray
 | []=>[]
 | a :: l=>a :: rX a l
def aEv:∀ (l:List ByteArray) (p:ByteArray),(rX p l).length<=l.length
 | [],p=>Nat.le_refl _
 | b :: l,p=>by
  unfold rX;split
  ·have:=aEv l p; simp only [qp]; omega
  ·have:=aEv l b; simp only [qp]; omega
def aEu:∀ l:List ByteArray,(iU l).length<=l.length
 | []=>Nat.le_refl _
 | a :: l=>by have:=aEv l a; simp only [iU,qp]; omega
structure Tab where
 root:Nat→Y
 h:Hd
 every:Nat
 bits:Int
 cs:List (List Ent)
namespace Tab
variable (t:Tab)
def ents:List Ent:=t.cs.flatten
def prt (i:Nat):List Y:=aAW t.root t.h (2+i) (gP t.every (t.cs.getD i []))
end Tab
def jO (x:List Y):List Y:=bK x.length++yl 32 (gB x)
namespace Tab
variable (t:Tab)
def out (k:Nat):List Y:=aU t.h++(qg k).flatMap t.prt
def rows (k:Nat):List Y:=(qg k).flatMap fun i=>gF (nE t.cs i)++jO (t.prt i)
def lvs (k:Nat):List Dg:=(qg k).map fun i=>gB (t.prt i)
def users:List ByteArray:=t.ents.map (·.user)
def filt:List Y:=aAW t.root t.h 1 (aAF (iU t.users) t.bits)
def idx:List Y:=bK t.cs.length++(t.rows t.cs.length++jO t.filt)
def sidx:List Y:=aAW t.root t.h 0 t.idx
def bytes:List Y:=t.out t.cs.length++t.filt++t.sidx++cM (qk 64 (t.sidx.length:Int)) 8
def leaves:List Dg:=t.lvs t.cs.length++[gB t.filt]++[gB t.sidx]
def info:Meta:=⟨(t.h.level.toNat:Int),(t.h.gen.toNat:Int),(t.h.epoch.toNat:Int),(t.h.num.toNat:Int),(t.bytes.length:Int),(t.ents.length:Int),kK t.ents,gR t.ents,fun i=>((fH t.leaves i).toNat:Int)⟩
def out_succ (k:Nat):t.out (k+1)=t.out k++t.prt k:=by simp [out,yn]
def rows_succ (k:Nat):t.rows (k+1)=t.rows k++(gF (nE t.cs k)++jO (t.prt k)):=by simp [rows,yn]
def lvs_succ (k:Nat):t.lvs (k+1)=t.lvs k++[gB (t.prt k)]:=by simp [lvs,yn]
def lvs_len (k:Nat):(t.lvs k).length=k:=by simp [lvs]
end Tab
theorem aAX (root:Nat->Y) (h:Hd) (i:Nat) (p:List Y):(aAW root h i p).length=p.length+16:=uJ ..
theorem aEg (a b:List Y):(pZ a b).length<=a.length:=by
 unfold pZ;grind
theorem aU9 {c:List Ent} (h:c≠[]):(gR c).size<=bO c:=by
 have:=xd.2 h;have:=yO (l:=c) (k:=c.length-1) om;grind[gR]
theorem aE2 {cs:List (List Ent)} {k:Nat} (h:k<cs.length):(cs.take (k+1)).flatten=(cs.take k).flatten++cs.getD k []:=by
 grind[we]
def nJ {cs:List (List Ent)} {k:Nat} (h:k<cs.length):cs.getD k []∈cs:=by
 simp_all
theorem aHL {cs:List (List Ent)} (k:Nat):bO ((cs.take k).flatten)<=bO cs.flatten∧((cs.take k).flatten).length<=cs.flatten.length:=by
 grind[wn,pU]
def aAm:∀ {cs:List (List Ent)} {c:List Ent},c∈cs->bO c<=bO cs.flatten∧c.length<=cs.flatten.length
 | d :: cs,c,h=>by
  have h1:=pU d cs.flatten;rw [je,h1,qa];rcases qe.1 h with rfl | h
  ·omega
  ·have:=aAm h; omega
structure Tab.Ok (t:Tab):Prop where
 light:lightE t.ents
 ne:∀ c∈t.cs,c≠[]
 every:t.every≤1024
namespace Tab.Ok
variable {t:Tab} (o:t.Ok)
include o
theorem blk {k:Nat} (h:k<t.cs.length):(gP t.every (t.cs.getD k [])).length<=24+bO (t.cs.getD k [])+42*(t.cs.getD k []).length:=by
 have g:=aAm (nJ h);have a:=o.light;have f:=o.every;have e:bO t.cs.flatten<=50000:=a.2;have c:t.cs.flatten.length<=2000:=a.1;grind[aCi]
theorem prt_le {k:Nat} (h:k<t.cs.length):(t.prt k).length<=40+bO (t.cs.getD k [])+42*(t.cs.getD k []).length:=by
 have:=o.blk h;grind[Tab.prt,aAX]
def out_le:∀ k,k<=t.cs.length->(t.out k).length<=30+bO ((t.cs.take k).flatten)+82*((t.cs.take k).flatten).length
 | 0,_=>by simp [Tab.out,iX]
 | k+1,h=>by
  have h1:=out_le k om;have c:=o.prt_le (k:=k) om;have a:=xd.2 (o.ne _ (nJ (k:=k) om));rw [t.out_succ,aE2 om,qa,qa,pU]; omega
def out_small {k:Nat} (h:k<=t.cs.length):(t.out k).length<=220000:=by
 have f:=o.out_le k h;have e:=aHL (cs:=t.cs) k;have c:bO t.cs.flatten<=50000:=o.light.2;have a:t.cs.flatten.length<=2000:=o.light.1;omega
theorem bnd_le {k:Nat} (h:k<t.cs.length):(nE t.cs k).length<=bO (t.cs.getD k []):=by
 have a:=aU9 (o.ne _ (nJ (k:=k) h));grind[nE,aEg,bM]
theorem rows_le:∀ k,k<=t.cs.length->(t.rows k).length<=bO ((t.cs.take k).flatten)+52*((t.cs.take k).flatten).length
 | 0,_=>by simp [Tab.rows]
 | k+1,h=>by
  have h1:=rows_le k om;have l:=o.prt_le (k:=k) om;have j:=xd.2 (o.ne _ (nJ (k:=k) om));have i:=o.bnd_le (k:=k) om;have g:=aAm (nJ (cs:=t.cs) (k:=k) om);have f:bO t.cs.flatten<=50000:=o.light.2;have e:t.cs.flatten.length<=2000:=o.light.1;have c:=iJ (n:=(nE t.cs k).length) om;have a:=iJ (n:=(t.prt k).length) om;rw [t.rows_succ,aE2 om];grind[pU,gF,jO,bL]
def rows_small {k:Nat} (h:k<=t.cs.length):(t.rows k).length<=160000:=by
 have f:=o.rows_le k h;have e:=aHL (cs:=t.cs) k;have c:bO t.cs.flatten<=50000:=o.light.2;have a:t.cs.flatten.length<=2000:=o.light.1;omega
theorem cs_le:t.cs.length<=2000:=by
 have e:∀ cs:List (List Ent),(∀ c∈cs,c≠[])->cs.length<=cs.flatten.length:=by
  intro cs;induction cs with
  | nil=>simp
  | cons c cs ih =>
   intro h;have:=ih fun c a=>h c (qj _ a);have:=xd.2 (h c (qh ..));grind
 have f:t.cs.flatten.length<=2000:=o.light.1;have:=e _ o.ne;omega
theorem filt_le:t.filt.length<=20000:=by
 have f:=aEu t.users;have e:t.users.length<=2000:=by unfold Tab.users; rw [qw]; exact o.light.1
 have a:=aDo t.bits;have c:(iU t.users).length*fR t.bits<=2000*64:=Nat.mul_le_mul om a.2;grind[Tab.filt,aAX,aF3]
theorem idx_le:t.idx.length<=160100:=by
 have e:=o.rows_small (qc _);have c:=o.filt_le;have a:=o.cs_le;grind[iJ,Tab.idx,jO,bL]
theorem bytes_le:t.bytes.length<=1000000:=by
 have e:=o.out_small (qc _);have c:=o.filt_le;have a:=o.idx_le;grind[Tab.bytes,Tab.sidx,aAX,jJ]
end Tab.Ok
structure RowT where
 bound:List Y
 bytes:List Y
 leaf:Dg
def dV (m:Meta):Hd:=⟨2#8,qk 8 m.level,qk 64 m.gen,qk 64 m.epoch,qk 64 m.number⟩
def wO {α:Type} (last:Bool) (k:List Y->Nat->Dg->List Y->Option α):List Y->Option α :=
 (if last then fun K=>K [] else uG 1024) fun bd=>eJ fun size=>nQ mB 32 fun xs=>k bd size (fun i=>xs.getD i 0)
def gT:Nat->List RowT->List Y->List Y->Option (List RowT)
 | 0,acc,rest=>fun r=>if r=[]∧rest=[] then some acc else none
 | n+1,acc,rest=>wO (n == 0) fun bd size d r=>if size<=rest.length then gT n (acc++[⟨bd,rest.take size,d⟩]) (rest.drop size) r else none
def rU (root:Nat->Y) (m:Meta) (b:List Y):Option (List RowT×List Y) :=
 if (mY b).2=0∧(b.length:Int)=m.size∧(mY b).1=dV m∧38<=b.length∧(eA (b.drop (b.length-8)) 8).toNat<=b.length-38 then
  let rest:=(b.drop 30).take (b.length-38)
  let at':=b.length-38-(eA (b.drop (b.length-8)) 8).toNat
  (wG root (dV m) 0 (rest.drop at')).bind fun y =>
   ((eJ fun n r=>if 0<n then gT (n+1) [] (rest.take at') r else none) y).bind fun rows =>
    if (yl 32 (fH (rows.map (·.leaf)++[gB (rest.drop at')]))).map (fun y=>((y.toNat:Nat):Int))=(qg 32).map m.root then some (rows,rest.drop at') else none
 else none
def pP:RowT:=⟨[],[],fun _=>0⟩
def lJ (root:Nat->Y) (h:Hd) (x:RowT) (part:Nat):Option (List Y):=if yl 32 (gB x.bytes)=yl 32 x.leaf then wG root h part x.bytes else none
noncomputable def vN (root:Nat->Y) (h:Hd) (rows:List RowT) (i:Nat):Option (List Ent) :=
 (lJ root h (rows.getD i pP) (2+i)).bind fun y=>if (nR y).2=0 then some (nR y).1 else none
noncomputable def nB (root:Nat->Y) (h:Hd) (rows:List RowT):Nat->Nat->List Ent->Option (List Ent)
 | 0,_,acc=>some acc
 | n+1,i,acc=>(vN root h rows i).bind fun l=>nB root h rows n (i+1) (acc++l)
noncomputable def pX (root:Nat->Y) (m:Meta) (b:List Y):Option (List Ent) :=
 (rU root m b).bind fun p=>(lJ root (dV m) (p.1.getD (p.1.length-1) pP) 1).bind fun _ =>
  (nB root (dV m) p.1 (p.1.length-1) 0 []).bind fun l =>
   if cA l=true∧(l.length:Int)=m.count∧(l=[]∨kK l=m.min∧gR l=m.max) then some l else none
theorem bAD (h:cC e=true):iK (dA e)=({ e with value:=ByteArray.empty },0):=by
 have j:=zX e;have a:(dA e).length-8=e.user.size:=by omega
 have i:e.seq.toNat<72057594037927936:=by
  simp only [cC,dT] at h; omega
 have hd:(dA e).drop e.user.size=cM (e.seq <<< 8+e.kind.setWidth 64) 8:=by
  simp[dA,bM]
 have f:aBY (dA e)=e.seq <<< 8+e.kind.setWidth 64:=by
  unfold aBY; rw [a,hd];have:=aHA (e.seq <<< 8+e.kind.setWidth 64) [];simp_all
 have c:(e.seq <<< 8+e.kind.setWidth 64).toNat=e.seq.toNat*256+e.kind.toNat:=by
  have:=e.kind.isLt;grind[jw]
 have g:tT (dA e) = { e with value:=xc }:=by
  unfold tT;rw [a,f];have n:(dA e).take e.user.size=yb e.user:=by simp[dA,bM]
  have m:(e.seq <<< 8+e.kind.setWidth 64) >>> 8=e.seq:=by
   apply wj;rw [jc,c,zj];omega
  have l:(e.seq <<< 8+e.kind.setWidth 64).setWidth 8=e.kind:=by
   grind[wj,kb]
  simp_all[rV]
 unfold iK;rw [if_neg om,g,if_pos];simp only [cC,dT] at h ⊢;refine ⟨⟨⟨h.1.1.1,by simp⟩,h.1.2⟩,?_⟩;have k:=h.2;split
 ·simp
 simp_all
theorem aIk:∀ a b:List Y,a.take (gA a b)=b.take (gA a b)
 | [],b=>by rfl
 | x :: a,[]=>by rfl
 | x :: a,y :: b=>by
  unfold gA;split
  ·rename_i h; subst h; rw [List.take_succ_cons,List.take_succ_cons,aIk a b]
  ·rfl
theorem aRg (last a:List Y) (anew:Bool):last.take (lF last a anew)=a.take (lF last a anew)∧lF last a anew<=last.length:=by
 unfold lF;split
 ·simp
 grind[aIk,aCt]
def aS0 {α:Type} {last t:List Y} {anew:Bool} {k:Ent->List Y->List Y->Option α} (f:cC e=true):xF last k (qB last anew e++t)=k e (dA e) t:=by
 have a:=f;simp only [cC,dT] at a;have m:=aEy last (dA e) anew;have l:=zX e;obtain ⟨j,i⟩:=aRg last (dA e) anew;have c:last.take (lF last (dA e) anew)++(dA e).drop (lF last (dA e) anew)=dA e:=by simp_all
 unfold xF qB;simp only [qr];rw [uD om,uD om,uD om];have h:((dA e).drop (lF last (dA e) anew)).length=(dA e).length-lF last (dA e) anew:=qx ..;have g:(yb e.value).length=e.value.size:=bM _;simp_all[bAD,rV]
def aJO {every:Nat} {l:List Ent} (a:∀ e∈l,cC e=true):∀ (n k:Nat) (t:List Y),k+n=l.length->∃ X,fV every l l.length=fV every l k++X∧jF n (qJ l k) (l.take k) (X++t)=some l
 | 0,k,t,h=>⟨[],by simp_all,by simp_all[jF]⟩
 | n+1,k,t,h=>by
  obtain ⟨X,h1,h2⟩:=aJO (every:=every) a n (k+1) t om;have g:k<l.length:=by omega
  have c:l.getD k Ent.zero∈l:=by simp_all
  refine ⟨qB (qJ l k) (k%every == 0) (l.getD k Ent.zero)++X,?_,?_⟩
  ·rw [h1,←qr]; rfl
  rw [jF,qr,aS0 (a _ c)];have f:l.take k++[l.getD k Ent.zero]=l.take (k+1):=by
   simp_all
  rw [f]; exact h2
def aXv {every:Nat} (i:gY l every=(gP every l,0)) (p:1<=every) (c:every<=1024) (h:l.length<18446744073709551616) (g:∀ e∈l,cC e=true):nR (gP every l)=(l,0):=by
 obtain ⟨X,q,k⟩:=aJO (every:=every) g l.length 0 (oJ every l l.length++cM (qk 64 (mV every l.length:Int)) 4) om;have m:gP every l=bK every++(bK l.length++(X++(oJ every l l.length++cM (qk 64 (mV every l.length:Int)) 4))):=by
  simp_all[gP,fV]
 have j:jF l.length [] [] (X++(oJ every l l.length++cM (qk 64 (mV every l.length:Int)) 4))=some l:=k;unfold nR;have a:(eJ fun ev=>eJ fun n r=>if ev<=1024 then (jF n [] [] r).bind fun f=>if gY f ev=(gP every l,0) then some f else none else none) (gP every l)=some l:=by
  conv=>lhs; arg 2; rw [m]
  rw [uD om,uD h,if_pos c,j,qu,if_pos i]
 rw [a]
end Go.Tan
