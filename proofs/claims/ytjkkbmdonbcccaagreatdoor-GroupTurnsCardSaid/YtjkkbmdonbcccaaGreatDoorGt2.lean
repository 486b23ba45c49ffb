/- Lemmas and contracts of functions, joined. -/
import Derived.Test.YtjkkbmdonbcccaaGreatDoorGt1
import Derived.Laws.CopyRow
import Derived.Lib.AppendStr
import Derived.Laws.IdiomStrings
import Derived.KernelRfl
set_option linter.unusedSimpArgs false
set_option linter.unusedVariables false
set_option linter.unusedSectionVars false
open Array renaming range->zj,length_toList->qa9
open BitVec renaming ofNat->qb,ofInt->qh,eq_of_toNat_eq->wl,toNat_ofInt->zm,toNat_ushiftRight->jd,toNat_ofNat->jz,toNat_setWidth->kb
open Bool renaming and_eq_true->qq,or_eq_true->wv,not_eq_true'->xm,or_eq_false_iff->zc,not_eq_false'->jj
open ByteArray renaming empty->xe
open Int renaming toNat_natCast->ym
open List renaming length_append->qa,range->qe,mem_singleton->qf,mem_cons->qg,mem_map->qi,not_mem_nil->qj,append_assoc->qk,mem_cons_self->ql,length_map->qm,mem_cons_of_mem->qo,length_drop->qt,nil_append->qu,mem_append->qv,take_append_drop->qx,take_of_length_le->qz,map_append->wc,all_eq_true->wd,append_nil->we,take_add_one->wg,getElem?_eq_getElem->wi,length_cons->wj,eq_nil_of_length_eq_zero->wo,map_cons->wr,cons_append->ww,length_set->wx,nodup_cons->wy,length_pos_iff->xi,replicate->xl,mem_range->xo,flatMap_cons->xp,ext_getElem?->xr,drop_of_length_le->xt,findIdx?_eq_some_iff_getElem->xu,getD_eq_getElem?_getD->xx,mem_flatMap->xy,pairwise_cons->yd,pairwise_append->ye,drop_drop->yg,getElem?_append_left->yh,getElem_of_mem->yo,drop_eq_getElem_cons->yq,getElem?_take->yw,range_succ->yx,mem_filter->yz,takeWhile_append_dropWhile->z8,getElem?_set->zu,map_congr_left->zw,getElem?_map->zx,drop_left->jc,flatten_cons->jf,set_append_right->ke,take_append->kq,getElem?_drop->ky,getD_cons_zero->vb,filter_append->vg,map_toArray->qa7,drop_take->qa8,filter_cons->qaA,filter_congr->qaB
open Nat renaming le_refl->qd,zero_le->qr,zero_add->wb,le_trans->wh,mul_le_mul_right->xc,not_lt_zero->xv,lt_or_ge->ya,succ_mul->yc,add_zero->yn,mod_eq_of_lt->yp,pow_le_pow_right->yv,pow_succ->yy,add_comm->zk,shiftRight_eq_div_pow->zq,shiftLeft_eq->ju,pow_pos->kh
open Option renaming bind_some->qw,map_some->wu
namespace Go.Tan
open Go.RowKit
variable {q:BitVec 64} {lo:ByteArray} {X:Cx} {cs' vs:List Value} {L:List Y} {m ty j E T:Nat} {w:Nat→Nat} {y:Operand} {Q:Prop} {r g:Res}
inductive TI where
 | i (k:IntKind)
 | b
 | s
 | p
 | o
 | sl (e sz by':Nat)
 | st (n:Nat) (offs:List Nat)
 | ar (n m e sz:Nat)
def TI.agg:TI->Option Nat
 | .st n _=>some n
 | .ar n ..=>some n
 | _=>none
def TI.cells:TI->Nat
 | .st n _=>n
 | .ar n ..=>n
 | _=>1
def aCG (P:Program) (t:Nat):Nat->List Nat->Bool
 | _,[]=>true
 | j,k :: r=>decide (xY P t j=some k)&&aCG P t (j+1) r
def TI.ok (P:Program) (t:Nat) (x:TI):Bool :=
 decide (nX P t=some x.agg)&&decide (iU P t=some x.cells)&&match x with
 | .i k=>decide (pT P t t=some k)
 | .b=>aC8 P t
 | .s=>oP P t
 | .p=>rP P t
 | .o=>true
 | .sl e sz by'=>decide (cI P t=some (e,sz,by'))
 | .st _ offs=>aCG P t 0 offs
 | .ar _ m e sz=>decide (oA P t=some (m,e,sz))
class TTab (P:Program) where
 l:List (Nat×TI)
 n:Nat
 x:List Nat
 ok:(l.all fun e=>e.2.ok P e.1)=true
 okg:((List.range n).all fun f=>dW P f||x.elem f)=true
def fK:List (Nat×TI)->Nat->Option TI
 | [],_=>none
 | (u,x) :: r,t=>match Nat.beq u t with
  | true=>some x
  | false=>fK r t
def oY:List Nat->Nat->Bool
 | [],_=>false
 | u :: r,t=>match Nat.beq u t with
  | true=>true
  | false=>oY r t
section
variable {P:Program} [T:TTab P] {t:Nat}
theorem aOw {x:TI}:∀ {l:List (Nat×TI)},(l.all fun e=>e.2.ok P e.1)=true->fK l t=some x->x.ok P t=true
 | [],_,h=>by cases h
 | (u,y) :: r,ha,h=>by
  rw [List.all_cons,Bool.and_eq_true] at ha;rw [fK] at h;split at h
  ·simp_all
  ·exact aOw ha.2 h
theorem tT {x:TI} (h:fK T.l t=some x):x.ok P t=true:=aOw T.ok h
theorem aMZ {k:Nat}:∀ {offs:List Nat} {j f:Nat},aCG P t j offs=true->offs[f]? = some k->xY P t (j+f)=some k
 | [],_,_,_,h=>by grind
 | a :: r,j,0,h,e=>by
  simp_all[aCG]
 | a :: r,j,f+1,h,e=>by
  simp only [aCG,Bool.and_eq_true] at h;have:=aMZ h.2 (f:=f) (by simpa using e);grind
def foT:Option TI->Nat->Option Nat
 | some (.st _ offs),f=>offs[f]?
 | _,_=>none
theorem zo {f k:Nat} (h:foT (fK T.l t) f=some k):xY P t f=some k:=by
 unfold foT at h;split at h
 ·rename_i e;have:=tT e;simp only [TI.ok,qq] at this;have:=aMZ this.2 h;simp_all
 grind
theorem za {a:Option Nat} (h:(fK T.l t).map TI.agg=some a):nX P t=some a:=by
 cases e:fK T.l t with
 | none=>simp_all
 | some x =>
  rw [e] at h; simp only [wu,Option.some.injEq] at h; subst h;have:=tT e;simp_all[TI.ok]
theorem zs {a:Nat} (h:(fK T.l t).map TI.cells=some a):iU P t=some a:=by
 cases e:fK T.l t with
 | none=>simp_all
 | some x =>
  rw [e] at h; simp only [wu,Option.some.injEq] at h; subst h;have:=tT e;simp_all[TI.ok]
theorem zl {e sz a:Nat} (h:fK T.l t=some (.sl e sz a)):cI P t=some (e,sz,a):=by
 have:=tT h; simp_all[TI.ok]
def aLE:Option TI->Bool
 | some (.sl ..)=>true
 | _=>false
theorem zn (h:aLE (fK T.l t)=true):(cI P t).isSome=true:=by
 unfold aLE at h;split at h
 ·rename_i e; rw [zl e]; rfl
 grind
theorem zr {n e sz:Nat} (h:fK T.l t=some (.ar n m e sz)):oA P t=some (m,e,sz):=by
 have:=tT h; simp_all[TI.ok]
theorem bEh {S D:Nat} {k:IntKind} (h:pT P S D=some k):(∃ k',P.underlying S=some (.int k'))∧P.underlying D=some (.int k):=by
 grind[pT]
theorem zv {S D:Nat} {k a:IntKind} (h:fK T.l S=some (.i k)) (f:fK T.l D=some (.i a)):pT P S D=some a:=by
 have e:=tT h; have c:=tT f;simp only [TI.ok,dP] at e c;grind[pT]
theorem zp (h:fK T.l t=some .p):rP P t=true:=by
 have:=tT h; simp_all[TI.ok]
theorem zt (h:fK T.l t=some .s):oP P t=true:=by
 have:=tT h; simp_all[TI.ok]
theorem zb (h:fK T.l t=some .b):aC8 P t=true:=by
 have:=tT h; simp_all[TI.ok]
theorem aTu {l:List Nat} {f:Nat} (h:l.elem f=true):oY l f=true:=by
 induction l with
 | nil=>grind
 | cons u r ih =>
  rw [oY];cases e:Nat.beq u f with
  | true=>rfl
  | false =>
   simp only [List.elem_eq_contains,List.contains_cons,wv,beq_iff_eq] at h;rcases h with h | h
   ·simp_all
   simp_all
theorem zf {f:Nat} (h:(Nat.blt f T.n && !oY T.x f)=true):dW P f=true:=by
 simp only [qq,xm,Nat.blt_eq] at h;have:=wd.1 T.okg f (xo.2 h.1);rw [wv] at this;grind[aTu]
end
theorem lB {P X:Prop} (k:Q->X) (h:P->Q:=by intro h; (try simp only [bW,qcB] at h); exact h):P->X:=fun p=>k (h p)
theorem aD {P X:Prop} (k:Q->X) (h:P->Q:=by intro h; (try simp only [bW,qcC,qcB] at h); exact h):P->X:=fun p=>k (h p)
theorem gU {P X:Prop} (k:P->Q->X) (h:P->Q:=by intro h; (try simp only [bW,qcB] at h); exact h):P->X:=fun p=>k p (h p)
theorem iG {P X:Prop} (k:P->Q->X) (h:P->Q:=by intro h; (try simp only [bW,qcC,qcB] at h); exact h):P->X:=fun p=>k p (h p)
structure Cn (n:Nat) (B:Prop):Prop where
 out:B
theorem Cn.s {n:Nat} {p q:Prop} (f:p->q) (h:Cn n p):Cn (n+1) q:=⟨f h.out⟩
def upL:Nat->List Oper->List Nat
 | _,[]=>[]
 | k,_ :: l=>k :: upL (k+1) l
theorem aO1:∀ (l:List Oper) (k:Nat),upL k l=List.range' k l.length
 | [],_=>rfl
 | _ :: l,k=>by rw [upL,aO1 l,List.length_cons,List.range'_succ]
theorem aQl {k:List KI} {ρ:aG} {G:PM} {μ:aB} {c:Nat} {l:List Oper} (a:jP X.n l=true) (h:Wo false ⟨false,false⟩ X.P X.n l (fun ρ G μ=>We X .normal k ρ G μ) (upL 0 l) ρ G μ) :
  Wk X (.region c l.toArray false) k ρ G μ:=Wk.region a (by simp_all[aO1,List.range_eq_range'])
theorem nN {μ:aB} {a:Res}:MTake (a :: r :: μ) r (a :: μ):=.there .here
theorem nO {μ:aB} {a s1:Res}:MTake (a :: s1 :: r :: μ) r (a :: s1 :: μ):=.there aC
theorem nP {μ:aB} {c s1 a:Res}:MTake (c :: s1 :: a :: r :: μ) r (c :: s1 :: a :: μ):=.there aF
theorem nQ {μ:aB} {c s1 a s3:Res}:MTake (c :: s1 :: a :: s3 :: r :: μ) r (c :: s1 :: a :: s3 :: μ):=.there aX
theorem nR {μ:aB} {e s1 c s3 a:Res}:MTake (e :: s1 :: c :: s3 :: a :: r :: μ) r (e :: s1 :: c :: s3 :: a :: μ):=.there dK
theorem nS {μ:aB} {f s1 e s3 c a:Res}:MTake (f :: s1 :: e :: s3 :: c :: a :: r :: μ) r (f :: s1 :: e :: s3 :: c :: a :: μ):=.there gV
theorem nT {μ:aB} {s1 f s3 e c a:Res}:MTake (g :: s1 :: f :: s3 :: e :: c :: a :: r :: μ) r (g :: s1 :: f :: s3 :: e :: c :: a :: μ):=.there gW
theorem nU {μ:aB} {h s1 s3 f e c a:Res}:MTake (h :: s1 :: g :: s3 :: f :: e :: c :: a :: r :: μ) r (h :: s1 :: g :: s3 :: f :: e :: c :: a :: μ):=.there kU
class QLen (cs:List Value) (n:outParam Nat):Prop where
 h:cs.length=n
theorem qL {cs:List Value} {n:Nat} [k:QLen cs n]:cs.length=n:=k.h
theorem qE {cs:List Value} {n:Nat} [k:QLen cs n] [a:QLen cs' n]:cs.length=cs'.length:=k.h.trans a.h.symm
theorem qF {cs:List Value} {n o:Nat} [k:QLen cs n] (h:Nat.blt o n=true):o<cs.length:=by rw [k.h]; simp_all
instance:QLen [] 0:=⟨rfl⟩
instance {v:Value} {cs:List Value} {n:Nat} [k:QLen cs n]:QLen (v :: cs) (n+1):=⟨by rw [wj,k.h]⟩
instance {cs cs':List Value} {n m:Nat} [k:QLen cs n] [k':QLen cs' m]:QLen (cs++cs') (n+m):=⟨by rw [qa,k.h,k'.h]⟩
instance {cs:List Value} {n i:Nat} {v:Value} [k:QLen cs n]:QLen (cs.set i v) n:=⟨by rw [wx,k.h]⟩
instance {n:Nat} {f:Nat->Y}:QLen (ba n f) n:=⟨cF n f⟩
instance {n:Nat} {f:Nat->W}:QLen (wa n f) n:=⟨dB n f⟩
class QO1 (v:Value):Prop where
 h:v.oneCell'=true
class QOne (cs:List Value):Prop where
 h:∀ u∈cs,u.oneCell'=true
theorem qO {cs:List Value} [k:QOne cs]:∀ u∈cs,u.oneCell'=true:=k.h
instance {k:IntKind} {n:Int}:QO1 (.int k n):=⟨rfl⟩
instance {b:Bool}:QO1 (.bool b):=⟨rfl⟩
instance {s:ByteArray}:QO1 (.string s):=⟨rfl⟩
instance {a:Option Addr}:QO1 (.pointer a):=⟨rfl⟩
instance {a:Option Addr} {n c:Nat}:QO1 (.slice a n c):=⟨rfl⟩
instance {m:Option Nat}:QO1 (.map m):=⟨rfl⟩
instance {k:IntKind} {x:BitVec k.bits}:QO1 (uv k x):=⟨rfl⟩
instance {y:Y}:QO1 (V y):=⟨rfl⟩
instance {y:W}:QO1 (U y):=⟨rfl⟩
instance {s:Sh} {n:Nat}:QO1 (s.val n):=⟨rfl⟩
instance:QOne []:=⟨fun _ h=>by cases h⟩
instance {v:Value} {cs:List Value} [h1:QO1 v] [h:QOne cs]:QOne (v :: cs):=⟨fun u hu=>by
 rcases qg.1 hu with rfl | hu
 ·exact h1.h
 ·exact h.h u hu⟩
instance {cs cs':List Value} [h1:QOne cs] [h:QOne cs']:QOne (cs++cs'):=⟨fun u hu=>by
 rcases qv.1 hu with hu | hu
 ·exact h1.h u hu
 ·exact h.h u hu⟩
instance {n:Nat} {f:Nat->Y}:QOne (ba n f):=⟨pR n f⟩
instance {n:Nat} {f:Nat->W}:QOne (wa n f):=⟨zF n f⟩
instance {xs:List Y}:QOne (xs.map V):=⟨aEI xs⟩
def pA (ρ:aG) (x:Operand):Option Value :=
 match ev ρ x with
 | some (true,v)=>some v
 | _=>none
theorem kH {ρ:aG} {x:Operand} {v:Value} (h:pA ρ x=some v):ev ρ x=some (true,v):=by
 grind[pA]
def isP:Option TI->Bool
 | some .p=>true
 | _=>false
def aJe (ty:Option TI) (op:BinOp):Option Value->Option Value->Option Value
 | some (.int k a),some (.int k' b)=>match decide (k=k') with
  | true=>(aDE op a b).map .bool
  | false=>none
 | some (.pointer (some _)),some (.pointer none)=>match isP ty,op with
  | true,.eql=>some (.bool false)
  | true,.neq=>some (.bool true)
  | _,_=>none
 | _,_=>none
def plV (l:List (Nat×TI)) (ρ:aG):Op->Option Value
 | .assign x=>pA ρ x
 | .move x=>pA ρ x
 | .nilCheck x=>match pA ρ x with
  | some (.pointer (some ad))=>some (.pointer (some ad))
  | _=>none
 | .fieldAddr s x f=>match pA ρ x with
  | some (.pointer (some ⟨b,0,none⟩))=>match foT (fK l s) f with
   | some k=>some (.pointer (some ⟨b,k,none⟩))
   | none=>none
  | some (.pointer (some ⟨b,o,none⟩))=>match foT (fK l s) f with
   | some k=>some (.pointer (some ⟨b,o+k,none⟩))
   | none=>none
  | _=>none
 | .extract x j=>match pA ρ x with
  | some (.tuple vs)=>vs.toList[j]?
  | _=>none
 | .unOp .not _ x=>match pA ρ x with
  | some (.bool b)=>some (.bool !b)
  | _=>none
 | .binOp op t x y _=>aJe (fK l t) op (pA ρ x) (pA ρ y)
 | _=>none
section
variable {dr:Bool} {mc:Md} {P:Program} {n:Fm} {l:List Oper} {K:aG→PM→aB→Prop} {i:Nat} {σ:List Nat} {ρ:aG} {G:PM} {μ:aB}
variable {d t:Nat} {p:String} {af:Array Edge} {m:Nat}
theorem pl [T:TTab P] {g:Op} {v:Value} (c:nth l i=some ⟨some d,g,t,p,af,none⟩) (h:plV T.l ρ g=some v) (e:Wo dr mc P n l K σ ((d,true,v) :: ρ) G μ):Wo dr mc P n l K (i :: σ) ρ G μ:=by
 unfold plV at h;split at h
 ·exact asg c .no (.u (kH h)) e
 ·exact mv c .no (.u (kH h)) e
 ·split at h
  ·rename_i a; cases h; exact nc c .no (.u (kH a)) e
  grind
 ·split at h
  ·rename_i a;split at h
   ·rename_i k; cases h; exact fz c .no (zo k) (.u (kH a)) e
   grind
  ·rename_i a;split at h
   ·rename_i k; cases h; exact fa c .no (zo k) (.u (kH a)) e
   grind
  grind
 ·split at h
  ·rename_i vs a;have:=kH a;exact ex (vs:=vs.toList) c .no (.u om) h e
  grind
 ·split at h
  ·rename_i a; cases h; exact nt c .no (.u (kH a)) e
  grind
 ·rename_i g m x y q;unfold aJe at h;split at h
  ·rename_i a f;split at h
   ·rename_i C;obtain rfl:=of_decide_eq_true C;simp only [Option.map_eq_some_iff] at h;obtain ⟨r,w,rfl⟩:=h;exact cp c .no (.u (kH a)) (.u (kH f)) w e
   grind
  ·rename_i a f;split at h
   ·rename_i A;cases h;have j:rP P m=true:=by
     grind[isP,zp]
    exact pe c .no j (.u (kH a)) (.u (kH f)) e
   ·rename_i A;cases h;have j:rP P m=true:=by
     grind[isP,zp]
    exact pn c .no j (.u (kH a)) (.u (kH f)) e
   grind
  grind
 grind
def aIv (op:BinOp):Option Value->Option Value->Option Nat
 | some (.int .i64 (.ofNat a)),some (.int .i64 (.ofNat b))=>match op with
  | .add=>some (a+b)
  | .mul=>some (a*b)
  | _=>none
 | _,_=>none
theorem aN {op:BinOp} {c:Nat} {x:Operand} {r:Nat} (g:nth l i=some ⟨some d,.binOp op ty x y c,t,p,af,none⟩) (h:aIv op (pA ρ x) (pA ρ y)=some r) (k:r<=9223372036854775807) (j:Wo dr mc P n l K σ ((d,true,.int .i64 (r:Int)) :: ρ) G μ):Wo dr mc P n l K (i :: σ) ρ G μ:=by
 unfold aIv at h;split at h
 ·rename_i a b f e;split at h
  ·cases h;exact ar (r:=((a+b:Nat):Int)) g .no (.u (kH f)) (.u (kH e)) rfl (fun _=>bL om om) j
  ·cases h;exact ar (r:=((a*b:Nat):Int)) g .no (.u (kH f)) (.u (kH e)) rfl (fun _=>bL om om) j
  grind
 grind
theorem lAo [T:TTab P] {q:Nat} {x:Operand} {b:Nat} {cs:List Value} {c:TypeId} {a:aB} (f:nth l i=some ⟨some d,.load ty x,t,p,af,none⟩) (j:(fK T.l ty).map TI.agg=some (some q)) (e:ev ρ x=some (true,.pointer (some ⟨b,0,none⟩))) (hm:MTake μ (.blk b (cl cs c)) a) (g:cs.length=q) (h:Wo dr mc P n l K σ ((d,true,.agg cs.toArray) :: ρ) G μ):Wo dr mc P n l K (i :: σ) ρ G μ:=lA f .no (za j) (.u e) (fun _=>RdN.own hm) (fun _=>g) h
theorem lAp [T:TTab P] {q:Nat} {x:Operand} {b o:Nat} {cs:List Value} {c:TypeId} {a:aB} (f:nth l i=some ⟨some d,.load ty x,t,p,af,none⟩) (k:(fK T.l ty).map TI.agg=some (some q)) (e:ev ρ x=some (true,.pointer (some ⟨b,o,none⟩))) (hm:MTake μ (.blk b (cl cs c)) a) (j:(cs.drop o).take q=cs') (g:cs'.length=q) (h:Wo dr mc P n l K σ ((d,true,.agg cs'.toArray) :: ρ) G μ):Wo dr mc P n l K (i :: σ) ρ G μ:=lA f .no (za k) (.u e) (fun _=>RdN.part hm j) (fun _=>g) h
theorem sW [T:TTab P] {c:Nat} {x:Operand} {b:Nat} {v:Value} {cs:List Value} {a:aB} (k:nth l i=some ⟨none,.store ty x y,t,p,af,none⟩) (g:ev ρ x=some (true,.pointer (some ⟨b,0,none⟩))) (f:ev ρ y=some (true,v)) (j:v.cells=vs.toArray) (e:(fK T.l ty).map TI.cells=some vs.length) (hm:MTake μ (.blk b (cl cs c)) a) (m:vs.length=cs.length) (h1:∀ u∈vs,u.oneCell'=true) (h:Wo dr mc P n l K σ ρ G (.blk b (cl vs c) :: a)):Wo dr mc P n l K (i :: σ) ρ G μ :=
 sw k (.u g) (.u f) j (zs e) hm m h1 h
theorem s1z [T:TTab P] {c:Nat} {x:Operand} {b o:Nat} {v:Value} {cs:List Value} {a:aB} (m:nth l i=some ⟨none,.store ty x y,t,p,af,none⟩) (j:ev ρ x=some (true,.pointer (some ⟨b,o,none⟩))) (g:ev ρ y=some (true,v)) (k:v.oneCell'=true) (f:(fK T.l ty).map TI.cells=some 1) (hm:MTake μ (.blk b (cl cs c)) a) (q:o<cs.length) (e:cs.set o v=cs') (h:Wo dr mc P n l K σ ρ G (.blk b (cl cs' c) :: a)):Wo dr mc P n l K (i :: σ) ρ G μ :=
 s1 m (.u j) (.u g) k (zs f) hm q e h
theorem bwc {op:BinOp} {c:Nat} {x:Operand} {k:IntKind} {a r:BitVec k.bits} {m:Nat} (g:nth l i=some ⟨some d,.binOp op ty x y c,t,p,af,none⟩) (j:k.signed=false) (e:ev ρ x=some (true,uv k a)) (q:ev ρ y=some (true,.int k (.ofNat m))) (hm:(BitVec.ofNat k.bits m).toNat=m) (f:aC3 op a (BitVec.ofNat k.bits m)=some r) (h:Wo dr mc P n l K σ ((d,true,uv k r) :: ρ) G μ):Wo dr mc P n l K (i :: σ) ρ G μ :=
 bw g .no j (.u e) (.u (by simp_all[uv])) f h
theorem aVd (h:Cn m (Wo dr mc P n l K σ ρ G μ)):Cn m (Wo dr mc P n l K σ ρ G μ):=h
theorem aVc {c:Code} {k:List KI} (h:Cn m (Wk X c k ρ G μ)):Cn m (Wk X c k ρ G μ):=h
theorem aVb {e:Exit} {k:List KI} (h:Cn m (We X e k ρ G μ)):Cn m (We X e k ρ G μ):=h
theorem aVX {x:Operand} (_:nth l i=some ⟨some d,.load ty x,t,p,af,none⟩) (h:Cn m (Wo dr mc P n l K (i :: σ) ρ G μ)):Cn m (Wo dr mc P n l K (i :: σ) ρ G μ):=h
theorem aVZ {x z:Operand} (_:nth l i=some ⟨some d,.pick x y z,t,p,af,none⟩) (h:Cn m (Wo dr mc P n l K (i :: σ) ρ G μ)):Cn m (Wo dr mc P n l K (i :: σ) ρ G μ):=h
theorem aVS {op:BinOp} {a:Nat} {x:Operand} (_:nth l i=some ⟨some d,.binOp op ty x y a,t,p,af,none⟩) (h:Cn m (Wo dr mc P n l K (i :: σ) ρ G μ)):Cn m (Wo dr mc P n l K (i :: σ) ρ G μ):=h
theorem aVU {s f:Nat} {x:Operand} (_:nth l i=some ⟨some d,.fieldAddr s x f,t,p,af,none⟩) (h:Cn m (Wo dr mc P n l K (i :: σ) ρ G μ)):Cn m (Wo dr mc P n l K (i :: σ) ρ G μ):=h
theorem aVY {x:Operand} (_:nth l i=some ⟨some d,.call { callee:=.builtin .len,args:=#[x],argTypes:=#[ty] },t,p,af,none⟩) (h:Cn m (Wo dr mc P n l K (i :: σ) ρ G μ)):Cn m (Wo dr mc P n l K (i :: σ) ρ G μ):=h
theorem aVa {x:Operand} (_:nth l i=some ⟨none,.store ty x y,t,p,af,none⟩) (h:Cn m (Wo dr mc P n l K (i :: σ) ρ G μ)):Cn m (Wo dr mc P n l K (i :: σ) ρ G μ):=h
theorem aVW {x:Operand} (_:nth l i=some ⟨some d,.indexAddr ty x y,t,p,af,none⟩) (h:Cn m (Wo dr mc P n l K (i :: σ) ρ G μ)):Cn m (Wo dr mc P n l K (i :: σ) ρ G μ):=h
theorem aVV {a:Option Nat} {op:Op} {g:Nat×Bool} (_:nth l i=some ⟨a,op,t,p,af,some g⟩) (h:Cn m (Wo dr mc P n l K (i :: σ) ρ G μ)):Cn m (Wo dr mc P n l K (i :: σ) ρ G μ):=h
theorem aVT {a:Nat} {x:Operand} (_:nth l i=some ⟨some d,.convert ty a x,t,p,af,none⟩) (h:Cn m (Wo dr mc P n l K (i :: σ) ρ G μ)):Cn m (Wo dr mc P n l K (i :: σ) ρ G μ):=h
end
inductive ZS where
 | c (c:Code)
 | e (e:Exit)
def plS:ZS->List KI->Option (ZS×List KI)
 | .c (.seq a b),k=>some (.c a,.code b :: k)
 | .c .skip,k=>some (.e .normal,k)
 | .c (.block id a),k=>some (.c a,.blk id :: k)
 | .c (.exit id),k=>some (.e (.exit id),k)
 | .c .ret,_=>some (.e .ret,[])
 | .e .normal,[]=>some (.e .ret,[])
 | .e .normal,.code c :: k=>some (.c c,k)
 | .e .normal,.blk _ :: k=>some (.e .normal,k)
 | .e (.exit id),.code _ :: k=>some (.e (.exit id),k)
 | .e (.exit id),.lp _ :: k=>some (.e (.exit id),k)
 | .e (.exit id),.blk id' :: k=>match Nat.beq id id' with
  | true=>some (.e .normal,k)
  | false=>some (.e (.exit id),k)
 | _,_=>none
def aCw (X:Cx) (ρ:aG) (G:PM) (μ:aB):ZS->List KI->Prop
 | .c c,k=>Wk X c k ρ G μ
 | .e e,k=>We X e k ρ G μ
theorem aEO {ρ:aG} {G:PM} {μ:aB} {s s':ZS} {k c:List KI} (h:plS s k=some (s',c)) (a:aCw X ρ G μ s' c):aCw X ρ G μ s k:=by
 unfold plS at h;split at h<;>(try (split at h))<;>first|(cases h; done) | (cases h)
 ·exact Wk.seq a
 ·exact Wk.skip a
 ·exact Wk.block a
 ·exact Wk.exit a
 ·exact Wk.ret a
 ·exact We.nil a
 ·exact We.code a
 ·exact We.blk a
 ·exact aQh a
 ·exact aQi a
 ·simp_all[aQg,aCw]
 simp_all[aQj,aCw]
section
variable {X:Cx} {ρ:aG} {G:PM} {μ:aB} {k k':List KI} {c c':Code} {e e':Exit}
theorem zkk (h:plS (.c c) k=some (.c c',k')) (a:Wk X c' k' ρ G μ):Wk X c k ρ G μ:=aEO (s:=.c c) (s':=.c c') h a
theorem zke (h:plS (.c c) k=some (.e e',k')) (a:We X e' k' ρ G μ):Wk X c k ρ G μ:=aEO (s:=.c c) (s':=.e e') h a
theorem zek (h:plS (.e e) k=some (.c c',k')) (a:Wk X c' k' ρ G μ):We X e k ρ G μ:=aEO (s:=.e e) (s':=.c c') h a
theorem zee (h:plS (.e e) k=some (.e e',k')) (a:We X e' k' ρ G μ):We X e k ρ G μ:=aEO (s:=.e e) (s':=.e e') h a
end
theorem fd {p:Prop} (h:p:=by (try dsimp only)<;>(first|omega|rfl|assumption|trivial|(simp; done))):p:=h
section
variable {X:Cx} {ρ:aG} {G:PM} {μ:aB} {k:List KI}
theorem lop {c:Code} {α:Type} (E:α->aG) (M:α->aB) (F:α->PM->Prop) (m:α->Nat) (x0:α) (e:aG) (f:aB)
  (h:∀ x N G',m x=N->PM.le G G'->F x G'->Wk X c (.lp (fun a w=>∃ y,m y<N∧Inv X G (fun x=>E x++e) (fun x=>M x++f) F y a w) :: k) (E x++e) G' (M x++f))
  (hE:ESub (E x0++e) ρ:=by (repeat (first|exact eZ | refine gH rfl ?_ | refine bE rfl (cQ (by omega)) ?_))) (hM:MSub (M x0++f) μ:=by (repeat (first|exact mN | refine mS .here rfl ?_ | refine mS nN rfl ?_ | refine mS nO rfl ?_ | refine mS nP rfl ?_ | refine mS nQ rfl ?_ | refine mS nR rfl ?_ | refine mS nS rfl ?_ | refine mS nT rfl ?_ | refine mS nU rfl ?_ | refine mS tj9 rfl ?_ | refine mS tj10 rfl ?_ | refine mS tj11 rfl ?_))) (hF:F x0 G:=by (try dsimp only)<;>((repeat' refine And.intro ?_ ?_)<;>(first|omega|rfl|assumption|trivial|(simp; done)))):Wk X (.loop c) k ρ G μ:=Wk.lop E M F m x0 e f hE hM hF h
theorem lpo {α:Type} {g:PM} {E:α->aG} {M:α->aB} {F:α->PM->Prop} {m:α->Nat} {N:Nat} {c:aG} {e:aB} (y:α)
  (hE:ESub (E y++c) ρ:=by (repeat (first|exact eZ | refine gH rfl ?_ | refine bE rfl (cQ (by omega)) ?_))) (hM:MSub (M y++e) μ:=by (repeat (first|exact mN | refine mS .here rfl ?_ | refine mS nN rfl ?_ | refine mS nO rfl ?_ | refine mS nP rfl ?_ | refine mS nQ rfl ?_ | refine mS nR rfl ?_ | refine mS nS rfl ?_ | refine mS nT rfl ?_ | refine mS nU rfl ?_ | refine mS tj9 rfl ?_ | refine mS tj10 rfl ?_ | refine mS tj11 rfl ?_))) (hm:m y<N:=by first|omega|(dsimp only; omega)) (f:PM.le g G:=by (repeat (first|assumption|exact PM.le.refl _ | refine PM.le.trans ?_ (by assumption)))) (hF:F y G:=by (try dsimp only)<;>((repeat' refine And.intro ?_ ?_)<;>(first|omega|rfl|assumption|trivial|(simp; done)))) :
  We X .normal (.lp (fun a w=>∃ y,m y<N∧Inv X g (fun x=>E x++c) (fun x=>M x++e) F y a w) :: k) ρ G μ:=We.lpo y hE hM hm f hF
theorem aH {a:List ResultVar} (e:X.post G [] (eV vs)) (c:X.fn.results=a.toArray:=by rfl) (h:Rs X.P ρ G μ a vs:=by first|exact .nil|exact .tmp rfl .nil|exact .tmp rfl (.tmp rfl .nil)|exact .tmp rfl (.tmp rfl (.tmp rfl .nil))|exact .tmp rfl (.tmp rfl (.tmp rfl (.tmp rfl .nil)))) (hd:X.n.ds=[]:=by rfl):We X .ret [] ρ G μ:=aBG c h e hd
theorem aR {c:List ResultVar} {a:aB} (hM:MSub a μ) (f:X.post G a (eV vs)) (e:X.fn.results=c.toArray:=by rfl) (h:Rs X.P ρ G μ c vs:=by first|exact .nil|exact .tmp rfl .nil|exact .tmp rfl (.tmp rfl .nil)|exact .tmp rfl (.tmp rfl (.tmp rfl .nil))|exact .tmp rfl (.tmp rfl (.tmp rfl (.tmp rfl .nil)))) (hd:X.n.ds=[]:=by rfl):We X .ret [] ρ G μ:=We.fin e h hM f hd
theorem jH {a:List ResultVar} (e:X.post G [] (eV vs)) (c:X.fn.results=a.toArray:=by rfl) (h:Rs X.P ρ G μ a vs:=by exact .cell rfl (fun w hw=>nK (za rfl) (RdN.own (by (first|exact .here|exact nN|exact nO|exact nP|exact nQ|exact nR|exact nS|exact nT|exact nU|exact tj9|exact tj10|exact tj11))) (by first|exact qL|rfl) hw) .nil) (hd:X.n.ds=[]:=by rfl):We X .ret [] ρ G μ:=We.fin c h mN e hd
theorem gZ {a:List ResultVar} (e:X.post G [] (eV vs)) (c:X.fn.results=a.toArray:=by rfl) (h:Rs X.P ρ G μ a vs:=by exact .cell rfl (fun w hw=>nK (za rfl) (RdN.own (by (first|exact .here|exact nN|exact nO|exact nP|exact nQ|exact nR|exact nS|exact nT|exact nU|exact tj9|exact tj10|exact tj11))) (by first|exact qL|rfl) hw) (.tmp rfl .nil)) (hd:X.n.ds=[]:=by rfl):We X .ret [] ρ G μ:=We.fin c h mN e hd
theorem aAL {a:List ResultVar} (e:X.post G [] (eV vs)) (c:X.fn.results=a.toArray:=by rfl) (h:Rs X.P ρ G μ a vs:=by exact .cell rfl (fun w hw=>nK (za rfl) (RdN.own (by (first|exact .here|exact nN|exact nO|exact nP|exact nQ|exact nR|exact nS|exact nT|exact nU|exact tj9|exact tj10|exact tj11))) (by first|exact qL|rfl) hw) (.cell rfl (fun w hw=>nK (za rfl) (RdN.own (by (first|exact .here|exact nN|exact nO|exact nP|exact nQ|exact nR|exact nS|exact nT|exact nU|exact tj9|exact tj10|exact tj11))) (by first|exact qL|rfl) hw) .nil)) (hd:X.n.ds=[]:=by rfl):We X .ret [] ρ G μ:=We.fin c h mN e hd
theorem fMc {c:List ResultVar} {a:aB} (hM:MSub a μ) (f:X.post G a (eV vs)) (e:X.fn.results=c.toArray:=by rfl) (h:Rs X.P ρ G μ c vs:=by exact .cell rfl (fun w hw=>nK (za rfl) (RdN.own (by (first|exact .here|exact nN|exact nO|exact nP|exact nQ|exact nR|exact nS|exact nT|exact nU|exact tj9|exact tj10|exact tj11))) (by first|exact qL|rfl) hw) .nil) (hd:X.n.ds=[]:=by rfl):We X .ret [] ρ G μ:=We.fin e h hM f hd
end
theorem aE {P:Program} {f:FuncId} {fn:Func} {c:Code} {n:Nat} {G:PM} {μ:aB} {post:PM->aB->Value->Prop} (g:P.funcs[f]? = some fn) (a:fn.ntmps=n) (h:∀ w0,Sat G μ w0->Wk ⟨P,fn,sX n (fun _ _ _=>False),G,keys μ,w0,post,fun _ _ _=>False,aBl⟩ c [] (xW 0 vs) G μ) (i:fn.body=some c:=by rfl) (e:Nat.ble vs.length n=true:=by rfl):Ct P f vs.toArray G μ post:=Ct.of g i a e h
def lQ (ρ:aG):List Operand->Option (List Value)
 | []=>some []
 | x :: r=>match pA ρ x,lQ ρ r with
  | some v,some vs=>some (v :: vs)
  | _,_=>none
theorem xX {ρ:aG} {n:Fm} {c:Bool}:∀ {xs:List Operand} {vs:List Value},lQ ρ xs=some vs->∀ a,Ag n ρ a->c=true->xs.map a.eval=vs
 | [],vs,h=>by cases h; simp
 | x :: r,vs,h=>by
  rw [lQ] at h;split at h
  ·rename_i h1 h2; cases h; exact Eva.cons (.u (kH h1)) (xX h2)
  grind
section
variable {dr:Bool} {mc:Md} {P:Program} {n:Fm} {l:List Oper} {K:aG→PM→aB→Prop} {i:Nat} {σ:List Nat} {ρ:aG} {G:PM} {μ:aB}
variable {d t:Nat} {p:String} {af:Array Edge} {f:FuncId} {xs:List Operand} {tys:Array TypeId} {vs:List Value} {dd:Option Nat} [T:TTab P]
theorem kV {v:Value} (c:nth l i=some ⟨some d,.call { callee:=.value (.func f),args:=xs.toArray,argTypes:=tys },t,p,af,none⟩) (g:(Nat.blt f T.n && !oY T.x f)=true) (a:lQ ρ xs=some vs)
  (e:Ct P f vs.toArray G [] fun _ μ' u=>μ'=[]∧u=v) (h:Wo dr mc P n l K σ ((d,true,v) :: ρ) G μ):Wo dr mc P n l K (i :: σ) ρ G μ:=kv c .no (zf g) (xX a) (fun _=>e) h
theorem kC {post:PM->aB->Value->Prop} (c:nth l i=some ⟨dd,.call { callee:=.value (.func f),args:=xs.toArray,argTypes:=tys },t,p,af,none⟩) (g:(Nat.blt f T.n && !oY T.x f)=true) (a:lQ ρ xs=some vs)
  (e:Ct P f vs.toArray G [] post) (h:∀ v G' μ',PM.le G G'->post G' μ' v->Wo dr mc P n l K σ (bT ρ dd true v) G' (μ'++μ)):Wo dr mc P n l K (i :: σ) ρ G μ:=kc c (zf g) (xX a) e h
theorem kA' {post:PM->aB->Value->Prop} {μ₁ μ₂:aB} (g:nth l i=some ⟨dd,.call { callee:=.value (.func f),args:=xs.toArray,argTypes:=tys },t,p,af,none⟩) (hm:mc.c=true∨dr=false) (k:(Nat.blt f T.n && !oY T.x f)=true) (a:lQ ρ xs=some vs)
  (e:μ.Perm (μ₁++μ₂)) (j:Ct P f vs.toArray G μ₁ post) (h:∀ v G' μ',PM.le G G'->post G' μ' v->Wo dr mc P n l K σ (bT ρ dd true v) G' (μ'++μ₂)):Wo dr mc P n l K (i :: σ) ρ G μ:=ka g hm (zf k) (xX a) e j h
theorem kP {v:Value} {Gp:PM} (e:nth l i=some ⟨some d,.call { callee:=.value (.func f),args:=xs.toArray,argTypes:=tys },t,p,af,none⟩) (j:(Nat.blt f T.n && !oY T.x f)=true) (a:lQ ρ xs=some vs) (c:GpR G μ Gp Q) (g:PM.le G Gp->Q->Ct P f vs.toArray Gp [] fun _ μ' u=>μ'=[]∧u=v) (h:Wo dr mc P n l K σ ((d,true,v) :: ρ) G μ):Wo dr mc P n l K (i :: σ) ρ G μ:=kp e .no (zf j) (xX a) c (fun _=>g) h
end
theorem zg (n:Nat) {A B:Prop} (a:A) (h:Cn 0 A->Cn n B:=by
  intro h;(repeat (first
   |exact h
    | (refine aVd ?_
       first
       | refine Cn.s (pl rfl rfl) ?_
       | refine Cn.s .nil ?_
       | (refine aVX rfl ?_
          first
          | refine Cn.s (ld rfl .no (za rfl) (.u rfl) (fun _=>Rd.own (by first|exact .here|exact nN|exact nO|exact nP|exact nQ|exact nR|exact nS|exact nT|exact nU|exact tj9|exact tj10|exact tj11) (by first|rfl|exact wap_f rfl))) ?_
          | refine Cn.s (ld rfl .no (za rfl) (.u rfl) (fun _=>(PB.rd (by assumption) (by first|rfl|exact wap_f rfl)).rd)) ?_
          | refine Cn.s (lAo rfl rfl rfl (by first|exact .here|exact nN|exact nO|exact nP|exact nQ|exact nR|exact nS|exact nT|exact nU|exact tj9|exact tj10|exact tj11) (by first|exact qL|rfl)) ?_
          | refine Cn.s (lAp rfl rfl rfl (by first|exact .here|exact nN|exact nO|exact nP|exact nQ|exact nR|exact nS|exact nT|exact nU|exact tj9|exact tj10|exact tj11) rfl (by first|exact qL|rfl)) ?_
          | refine Cn.s (lA rfl .no (za rfl) (.u rfl) (fun _=>(PB.rdn (by assumption) rfl).rd) (fun _=>(by first|exact qL|rfl))) ?_)
       | (refine aVa rfl ?_
          first
          | refine Cn.s (s1z rfl rfl rfl rfl rfl (by first|exact .here|exact nN|exact nO|exact nP|exact nQ|exact nR|exact nS|exact nT|exact nU|exact tj9|exact tj10|exact tj11) (by first|exact qF rfl|decide) rfl) ?_
          | refine Cn.s (sW rfl rfl rfl rfl rfl (by first|exact .here|exact nN|exact nO|exact nP|exact nQ|exact nR|exact nS|exact nT|exact nU|exact tj9|exact tj10|exact tj11) (by first|exact qE|rfl) (by first|exact qO|decide)) ?_)
       | (refine aVW rfl ?_
          refine Cn.s (iA rfl .no (zr rfl) (.u rfl) (.u rfl) (fun _=>by first|omega|decide) (fun _=>by first|omega|decide)) ?_)
       | (refine aVZ rfl ?_
          first
          | refine Cn.s (pE rfl .no (.u rfl) (.s rfl)) ?_
          | refine Cn.s (rN rfl .no (.u rfl) (.s rfl)) ?_)
       | (refine aVU rfl ?_
          refine Cn.s (fa rfl .no (zo rfl) (.u rfl)) ?_)
       | (refine aVY rfl ?_
          first
          | refine Cn.s (ln rfl .no (zn rfl) (.u rfl)) ?_
          | refine Cn.s (ls rfl .no (zt rfl) (.u rfl)) ?_)
       | (refine aVS rfl ?_
          first
          | refine Cn.s (bw rfl .no rfl (.u rfl) (.u rfl) rfl) ?_
          | refine Cn.s (bwc rfl rfl rfl rfl rfl rfl) ?_
          | refine Cn.s (aN rfl rfl (by omega)) ?_
          | refine Cn.s (ar rfl .no (.u rfl) (.u rfl) rfl (fun _=>bL (by omega) (by omega))) ?_
          | refine Cn.s (ar rfl .no (.u rfl) (.u rfl) rfl (fun _=>iW (by omega) (by omega))) ?_)
       | (refine aVT rfl ?_
          first
          | refine Cn.s (cu rfl .no rfl (zv rfl rfl) (.u rfl)) ?_
          | refine Cn.s (ci rfl .no rfl (zv rfl rfl) (.u rfl)) ?_)
       | (refine aVV rfl ?_
          first
          | refine Cn.s (mv rfl (by first|exact .t rfl rfl|exact .f rfl rfl|exact .tc rfl rfl|exact .fc rfl rfl) (by first|exact .u rfl|exact .s rfl|exact .l (.s rfl)|exact .l (.l (.s rfl))|exact .l (.l (.l (.s rfl))))) ?_
          | refine Cn.s (asg rfl (by first|exact .t rfl rfl|exact .f rfl rfl|exact .tc rfl rfl|exact .fc rfl rfl) (by first|exact .u rfl|exact .s rfl|exact .l (.s rfl)|exact .l (.l (.s rfl))|exact .l (.l (.l (.s rfl))))) ?_
          | refine Cn.s (fz rfl (by first|exact .t rfl rfl|exact .f rfl rfl|exact .tc rfl rfl|exact .fc rfl rfl) (zo rfl) (by first|exact .u rfl|exact .s rfl|exact .l (.s rfl)|exact .l (.l (.s rfl))|exact .l (.l (.l (.s rfl))))) ?_
          | refine Cn.s (nc rfl (by first|exact .t rfl rfl|exact .f rfl rfl|exact .tc rfl rfl|exact .fc rfl rfl) (by first|exact .u rfl|exact .s rfl|exact .l (.s rfl)|exact .l (.l (.s rfl))|exact .l (.l (.l (.s rfl))))) ?_
          | refine Cn.s (cp rfl (by first|exact .t rfl rfl|exact .f rfl rfl|exact .tc rfl rfl|exact .fc rfl rfl) (by first|exact .u rfl|exact .s rfl|exact .l (.s rfl)|exact .l (.l (.s rfl))|exact .l (.l (.l (.s rfl)))) (by first|exact .u rfl|exact .s rfl|exact .l (.s rfl)|exact .l (.l (.s rfl))|exact .l (.l (.l (.s rfl)))) rfl) ?_
          | refine Cn.s (ld rfl (by first|exact .t rfl rfl|exact .f rfl rfl|exact .tc rfl rfl|exact .fc rfl rfl) (za rfl) (by first|exact .u rfl|exact .s rfl|exact .l (.s rfl)|exact .l (.l (.s rfl))|exact .l (.l (.l (.s rfl)))) (fun _=>Rd.own (by first|exact .here|exact nN|exact nO|exact nP|exact nQ|exact nR|exact nS|exact nT|exact nU|exact tj9|exact tj10|exact tj11) (by first|rfl|exact wap_f rfl))) ?_
          | refine Cn.s (ld rfl (by first|exact .t rfl rfl|exact .f rfl rfl|exact .tc rfl rfl|exact .fc rfl rfl) (za rfl) (by first|exact .u rfl|exact .s rfl|exact .l (.s rfl)|exact .l (.l (.s rfl))|exact .l (.l (.l (.s rfl)))) (fun _=>(PB.rd (by assumption) (by first|rfl|exact wap_f rfl)).rd)) ?_
          | refine Cn.s (fa rfl (by first|exact .t rfl rfl|exact .f rfl rfl|exact .tc rfl rfl|exact .fc rfl rfl) (zo rfl) (by first|exact .u rfl|exact .s rfl|exact .l (.s rfl)|exact .l (.l (.s rfl))|exact .l (.l (.l (.s rfl))))) ?_
          | refine Cn.s (nt rfl (by first|exact .t rfl rfl|exact .f rfl rfl|exact .tc rfl rfl|exact .fc rfl rfl) (by first|exact .u rfl|exact .s rfl|exact .l (.s rfl)|exact .l (.l (.s rfl))|exact .l (.l (.l (.s rfl))))) ?_
          | refine Cn.s (ln rfl (by first|exact .t rfl rfl|exact .f rfl rfl|exact .tc rfl rfl|exact .fc rfl rfl) (zn rfl) (by first|exact .u rfl|exact .s rfl|exact .l (.s rfl)|exact .l (.l (.s rfl))|exact .l (.l (.l (.s rfl))))) ?_
          | refine Cn.s (ls rfl (by first|exact .t rfl rfl|exact .f rfl rfl|exact .tc rfl rfl|exact .fc rfl rfl) (zt rfl) (by first|exact .u rfl|exact .s rfl|exact .l (.s rfl)|exact .l (.l (.s rfl))|exact .l (.l (.l (.s rfl))))) ?_))
    | (refine aVc ?_
       first
       | refine Cn.s (zkk rfl) ?_
       | refine Cn.s (aQl rfl) ?_
       | refine Cn.s (zke rfl) ?_
       | refine Cn.s (aQk rfl rfl) ?_
       | refine Cn.s (vQ rfl rfl) ?_)
    | (refine aVb ?_
       first
       | refine Cn.s (zek rfl) ?_
       | refine Cn.s (zee rfl) ?_)))):B:=(h ⟨a⟩).out
theorem bJ {a:Res} {μ:aB}:MSub [a] (a :: μ):=mS .here rfl mN
theorem dD {c a:Res} {μ:aB}:MSub [c,a] (c :: a :: μ):=mS .here rfl bJ
theorem pZ {e c a:Res} {μ:aB}:MSub [e,c,a] (e :: c :: a :: μ):=mS .here rfl dD
theorem tI {f e c a:Res} {μ:aB}:MSub [f,e,c,a] (f :: e :: c :: a :: μ):=mS .here rfl pZ
theorem yM {f e c a:Res} {μ:aB}:MSub [g,f,e,c,a] (g :: f :: e :: c :: a :: μ):=mS .here rfl tI
theorem ms6 {h f e c a:Res} {μ:aB}:MSub [h,g,f,e,c,a] (h :: g :: f :: e :: c :: a :: μ):=mS .here rfl yM
theorem ms7 {i h f e c a:Res} {μ:aB}:MSub [i,h,g,f,e,c,a] (i :: h :: g :: f :: e :: c :: a :: μ):=mS .here rfl ms6
theorem ms8 {j i h f e c a:Res} {μ:aB}:MSub [j,i,h,g,f,e,c,a] (j :: i :: h :: g :: f :: e :: c :: a :: μ):=mS .here rfl ms7
theorem ms9 {k j i h f e c a:Res} {μ:aB}:MSub [k,j,i,h,g,f,e,c,a] (k :: j :: i :: h :: g :: f :: e :: c :: a :: μ):=mS .here rfl ms8
theorem mt {μ a:aB} (h:MTake μ r a:=by first | exact .here | exact nN | exact nO | exact nP | exact nQ | exact nR | exact nS | exact nT | exact nU | exact tj9 | exact tj10 | exact tj11):MTake μ r a:=h
structure Pm (μ μ₁ μ₂:aB):Prop where
 out:μ.Perm (μ₁++μ₂)
theorem qD {μ a μ₂ c:aB} (h:MTake μ r a) (h2:Pm a c μ₂):Pm μ (r :: c) μ₂:=⟨h.perm.trans (h2.out.cons _)⟩
theorem pmn {μ:aB}:Pm μ [] μ:=⟨.refl _⟩
theorem es {a ρ:aG} (h:ESub a ρ:=by (repeat (first | exact eZ | refine gH rfl ?_))):ESub a ρ:=h
theorem o3 {p:Prop} (h:p:=by first | omega | ((try simp only [Bool.and_eq_true,decide_eq_true_eq,Bool.or_eq_false_iff,decide_eq_false_iff_not] at *); omega) | (simp only [List.length_cons,List.length_nil]; omega)):p:=h
section
variable {dr:Bool} {mc:Md} {P:Program} {n:Fm} {l:List Oper} {K:aG→PM→aB→Prop} {i:Nat} {σ:List Nat} {ρ:aG} {G:PM} {μ:aB}
variable {d t:Nat} {p:String} {af:Array Edge} {f:FuncId} {xs:List Operand} {tys:Array TypeId} {vs:List Value} {dd:Option Nat} [T:TTab P]
theorem aL {v:Value} (e:(nth l i,Nat.blt f T.n && !oY T.x f,lQ ρ xs)=(some ⟨some d,.call { callee:=.value (.func f),args:=xs.toArray,argTypes:=tys },t,p,af,none⟩,true,some vs))
  (a:Ct P f vs.toArray G [] fun _ μ' u=>μ'=[]∧u=v) (h:Wo dr mc P n l K σ ((d,true,v) :: ρ) G μ):Wo dr mc P n l K (i :: σ) ρ G μ:=by
 simp only [Prod.mk.injEq] at e; exact kV e.1 e.2.1 e.2.2 a h
theorem aQ {post:PM->aB->Value->Prop} (e:(nth l i,Nat.blt f T.n && !oY T.x f,lQ ρ xs)=(some ⟨dd,.call { callee:=.value (.func f),args:=xs.toArray,argTypes:=tys },t,p,af,none⟩,true,some vs))
  (a:Ct P f vs.toArray G [] post) (h:∀ v G' μ',PM.le G G'->post G' μ' v->Wo dr mc P n l K σ (bT ρ dd true v) G' (μ'++μ)):Wo dr mc P n l K (i :: σ) ρ G μ:=by
 simp only [Prod.mk.injEq] at e; exact kC e.1 e.2.1 e.2.2 a h
theorem cU {v:Value} {Gp:PM} (e:(nth l i,Nat.blt f T.n && !oY T.x f,lQ ρ xs)=(some ⟨some d,.call { callee:=.value (.func f),args:=xs.toArray,argTypes:=tys },t,p,af,none⟩,true,some vs)) (a:GpR G μ Gp Q) (c:PM.le G Gp->Q->Ct P f vs.toArray Gp [] fun _ μ' u=>μ'=[]∧u=v) (h:Wo dr mc P n l K σ ((d,true,v) :: ρ) G μ):Wo dr mc P n l K (i :: σ) ρ G μ:=by
 simp only [Prod.mk.injEq] at e; exact kP e.1 e.2.1 e.2.2 a c h
theorem aJ {post:PM->aB->Value->Prop} {μ₁ μ₂:aB} (e:(nth l i,Nat.blt f T.n && !oY T.x f,lQ ρ xs)=(some ⟨dd,.call { callee:=.value (.func f),args:=xs.toArray,argTypes:=tys },t,p,af,none⟩,true,some vs))
  (a:μ.Perm (μ₁++μ₂)) (g:Ct P f vs.toArray G μ₁ post) (h:∀ v G' μ',PM.le G G'->post G' μ' v->Wo dr mc P n l K σ (bT ρ dd true v) G' (μ'++μ₂)) (hm:mc.c=true∨dr=false:=by first | exact .inl rfl | exact .inr rfl):Wo dr mc P n l K (i :: σ) ρ G μ:=by
 simp only [Prod.mk.injEq] at e; exact kA' e.1 hm e.2.1 e.2.2 a g h
theorem kAz {post:PM->aB->Value->Prop} {μ₁ μ₂:aB} (e:(nth l i,Nat.blt f T.n && !oY T.x f,lQ ρ xs)=(some ⟨dd,.call { callee:=.value (.func f),args:=xs.toArray,argTypes:=tys },t,p,af,none⟩,true,some vs))
  (g:Ct P f vs.toArray G μ₁ post) (h:∀ v G' μ',PM.le G G'->post G' μ' v->Wo dr mc P n l K σ (bT ρ dd true v) G' (μ'++μ₂)) (a:Pm μ μ₁ μ₂:=by (repeat (first | exact pmn | refine qD .here ?_ | refine qD nN ?_ | refine qD nO ?_ | refine qD nP ?_ | refine qD nQ ?_ | refine qD nR ?_ | refine qD nS ?_ | refine qD nT ?_ | refine qD nU ?_ | refine qD tj9 ?_ | refine qD tj10 ?_ | refine qD tj11 ?_)))
  (hm:mc.c=true∨dr=false:=by first | exact .inl rfl | exact .inr rfl):Wo dr mc P n l K (i :: σ) ρ G μ:=by
 simp only [Prod.mk.injEq] at e; exact kA' e.1 hm e.2.1 e.2.2 a.out g h
theorem aP {x:Operand} {a:Addr} {v:Value} (e:(nth l i,(fK T.l ty).map TI.agg,ev ρ x)=(some ⟨some d,.load ty x,t,p,af,none⟩,some none,some (true,.pointer (some a)))) (c:Rd G μ a v) (h:Wo dr mc P n l K σ ((d,true,v) :: ρ) G μ):Wo dr mc P n l K (i :: σ) ρ G μ:=by
 simp only [Prod.mk.injEq] at e; exact ld e.1 .no (za e.2.1) (.u e.2.2) (fun _=>c) h
theorem aT {x:Operand} {b o:Nat} {cs:List Value} (e:(nth l i,(fK T.l ty).map TI.agg,ev ρ x)=(some ⟨some d,.load ty x,t,p,af,none⟩,some (some m),some (true,.pointer (some ⟨b,o,none⟩)))) (a:RdN G μ b o cs) (c:cs.length=m) (h:Wo dr mc P n l K σ ((d,true,.agg cs.toArray) :: ρ) G μ):Wo dr mc P n l K (i :: σ) ρ G μ:=by
 simp only [Prod.mk.injEq] at e; exact lA e.1 .no (za e.2.1) (.u e.2.2) (fun _=>a) (fun _=>c) h
theorem lS {g sz a:Nat} {x:Operand} {k:IntKind} {s:Sh} {j:Int} (e:(nth l i,fK T.l ty,ev ρ x,ev ρ y)=(some ⟨some d,.indexAddr ty x y,t,p,af,none⟩,some (.sl g sz a),some (true,s.val m),some (true,.int k j))) (f:0<=j) (h1:j<m) (c:s.oa=some ⟨s.b,s.o,none⟩) (h:Wo dr mc P n l K σ ((d,true,.pointer (some ⟨s.b,s.o+j.toNat*sz,none⟩)) :: ρ) G μ):Wo dr mc P n l K (i :: σ) ρ G μ:=by
 simp only [Prod.mk.injEq] at e; exact ih e.1 .no (zl e.2.1) (.u e.2.2.1) (.u e.2.2.2) (fun _=>f) (fun _=>h1) (fun _=>c) h
theorem cK {α:Type} {enc:α->List Value} {a:Nat} {ys:List α} {v sz c:Nat} {x:Operand} {k:IntKind} {s:Sh} {j:Int} (e:(nth l i,fK T.l ty,ev ρ x,ev ρ y)=(some ⟨some d,.indexAddr ty x y,t,p,af,none⟩,some (.sl v sz c),some (true,s.val m),some (true,.int k j))) (f:SlR G a enc s ys) (q:Nat) (h:Wo dr mc P n l K σ ((d,true,.pointer (some ⟨s.b,s.o+j.toNat*sz,none⟩)) :: ρ) G μ) (r:0<=j:=by exact o3) (h1:j<m:=by exact o3) (g:q<ys.length:=by exact o3):Wo dr mc P n l K (i :: σ) ρ G μ:=lS e r h1 (f.nn g) h
theorem eA {f sz a:Nat} {x:Operand} {k:IntKind} {b o cp:Nat} {j:Int} (e:(nth l i,fK T.l ty,ev ρ x,ev ρ y)=(some ⟨some d,.indexAddr ty x y,t,p,af,none⟩,some (.sl f sz a),some (true,.slice (some ⟨b,o,none⟩) m cp),some (true,.int k j))) (c:0<=j) (h1:j<m) (h:Wo dr mc P n l K σ ((d,true,.pointer (some ⟨b,o+j.toNat*sz,none⟩)) :: ρ) G μ):Wo dr mc P n l K (i :: σ) ρ G μ:=by
 simp only [Prod.mk.injEq] at e; exact ia e.1 .no (zl e.2.1) (.u e.2.2.1) (.u e.2.2.2) (fun _=>c) (fun _=>h1) h
theorem bF {ty:TypeId} {x:Operand} {v:Value} {cs:List Value} (e:(nth l i,ev ρ x,v.cells)=(some ⟨some d,.box ty x,t,p,af,none⟩,some (true,v),cs.toArray)) (h:∀ b,Wo dr mc P n l K σ ((d,true,.pointer (some ⟨b,0,none⟩)) :: ρ) G (.blk b (cl cs ty) :: μ)):Wo dr mc P n l K (i :: σ) ρ G μ:=by
 simp only [Prod.mk.injEq] at e; exact bx e.1 (.u e.2.1) e.2.2 h
theorem dF {c:Nat} {x:Operand} {b:Nat} {v:Value} {cs vs:List Value} {a:aB} (e:(nth l i,ev ρ x,ev ρ y,v.cells,(fK T.l ty).map TI.cells)=(some ⟨none,.store ty x y,t,p,af,none⟩,some (true,.pointer (some ⟨b,0,none⟩)),some (true,v),vs.toArray,some vs.length)) (hm:MTake μ (.blk b (cl cs c)) a) (f:vs.length=cs.length) (h1:∀ u∈vs,u.oneCell'=true) (h:Wo dr mc P n l K σ ρ G (.blk b (cl vs c) :: a)):Wo dr mc P n l K (i :: σ) ρ G μ:=by
 simp only [Prod.mk.injEq] at e; exact sw e.1 (.u e.2.1) (.u e.2.2.1) e.2.2.2.1 (zs e.2.2.2.2) hm f h1 h
theorem cB {c:Nat} {x:Operand} {b o:Nat} {v:Value} {cs:List Value} {a:aB} (e:(nth l i,ev ρ x,ev ρ y,v.oneCell',(fK T.l ty).map TI.cells)=(some ⟨none,.store ty x y,t,p,af,none⟩,some (true,.pointer (some ⟨b,o,none⟩)),some (true,v),true,some 1)) (hm:MTake μ (.blk b (cl cs c)) a) (g:o<cs.length) (f:cs.set o v=cs') (h:Wo dr mc P n l K σ ρ G (.blk b (cl cs' c) :: a)):Wo dr mc P n l K (i :: σ) ρ G μ:=by
 simp only [Prod.mk.injEq] at e; exact s1 e.1 (.u e.2.1) (.u e.2.2.1) e.2.2.2.1 (zs e.2.2.2.2) hm g f h
theorem dE {c sz:Nat} {x:Operand} {b o:Nat} {v:Value} {ys cs:List Value} {a f:aB} (e:(nth l i,ev ρ x,ev ρ y,(fK T.l ty).map TI.cells)=(some ⟨none,.store ty x y,t,p,af,none⟩,some (true,.pointer (some ⟨b,o,none⟩)),some (true,v),some 1)) (j:MTake μ (.row v E sz m ys) f) (hm:MTake μ (.blk b (cl cs c)) a) (k:o<cs.length) (g:cs.set o v=cs') (h:Wo dr mc P n l K σ ρ G (.blk b (cl cs' c) :: a)):Wo dr mc P n l K (i :: σ) ρ G μ:=by
 simp only [Prod.mk.injEq] at e; exact s1v e.1 (.u e.2.1) (.u e.2.2.1) j (zs e.2.2.2) hm k g h
theorem gG {S D:Nat} {x:Operand} {k c:IntKind} {a:Int} (e:(nth l i,fK T.l S,fK T.l D,ev ρ x)=(some ⟨some d,.convert S D x,t,p,af,none⟩,some (.i k),some (.i c),some (true,.int k a))) (f:c.wrap a=a)
  (h:Wo dr mc P n l K σ ((d,true,.int c a) :: ρ) G μ):Wo dr mc P n l K (i :: σ) ρ G μ:=by
 simp only [Prod.mk.injEq] at e; exact cw e.1 .no (zv e.2.1 e.2.2.1) (.u e.2.2.2) (fun _=>f) h
theorem cJ {op:BinOp} {c:Nat} {x:Operand} {k:IntKind} {g f r:Int} (a:Int) (e:(nth l i,ev ρ x,ev ρ y,zU op g f)=(some ⟨some d,.binOp op ty x y c,t,p,af,none⟩,some (true,.int k g),some (true,.int k f),some r)) (m:r=a) (j:k.wrap a=a) (h:Wo dr mc P n l K σ ((d,true,.int k a) :: ρ) G μ):Wo dr mc P n l K (i :: σ) ρ G μ:=by
 simp only [Prod.mk.injEq] at e; exact arn a e.1 .no (.u e.2.1) (.u e.2.2.1) e.2.2.2 (fun _=>m) (fun _=>j) h
theorem tG {fn:Go.Fn} {g cs:List Operand} {vf vc:List Value} (e:(nth l i,lQ ρ g,lQ ρ cs)=(some ⟨some d,.makeFunc fn g.toArray cs.toArray,t,p,af,none⟩,some vf,some vc))
  (h:Wo dr mc P n l K σ ((d,true,.func fn vf.toArray vc.toArray) :: ρ) G μ):Wo dr mc P n l K (i :: σ) ρ G μ:=by
 simp only [Prod.mk.injEq] at e;exact mf e.1 .no (fun a f _=>by rw [qa7,xX (c:=true) e.2.1 a f rfl]) (fun a f _=>by rw [qa7,xX (c:=true) e.2.2 a f rfl]) h
end
section
variable {X:Cx} {k:List KI} {ρ:aG} {G:PM} {μ:aB} {x y:Code}
theorem cz {e c:Prop} {b:Bool} {a:Operand} (g:ev ρ a=some (true,.bool b)) (ht:e->Wk X x k ρ G μ) (f:c->Wk X y k ρ G μ) (h1:b=true->e:=by intro h; (try simp only [decide_eq_true_eq,decide_eq_false_iff_not,Int.not_lt,Int.not_le,gt_iff_lt,ge_iff_le,Bool.or_eq_true,Bool.and_eq_true,Bool.or_eq_false_iff,Bool.not_eq_true',Bool.not_eq_false',Int.toNat_natCast,bne_iff_ne,beq_iff_eq,bne_eq_false_iff_eq,beq_eq_false_iff_ne,ne_eq] at h); exact h)
  (h2:b=false->c:=by intro h; (try simp only [decide_eq_true_eq,decide_eq_false_iff_not,Int.not_lt,Int.not_le,gt_iff_lt,ge_iff_le,Bool.or_eq_true,Bool.and_eq_true,Bool.or_eq_false_iff,Bool.not_eq_true',Bool.not_eq_false',Int.toNat_natCast,bne_iff_ne,beq_iff_eq,bne_eq_false_iff_eq,beq_eq_false_iff_ne,ne_eq] at h); exact h):Wk X (.cond a x y) k ρ G μ:=.cond g (fun h=>ht (h1 h)) (fun h=>f (h2 h))
end
def clL (v:Value):List Value:=v.cells.toList
theorem aKR {n:Fm} {ρ:aG}:∀ {ps:List (Nat×Operand)} {vs:List Value},lQ ρ (ps.map (·.2))=some vs->EvC n ρ true ps vs (vs.map clL)
 | [],vs,h=>by cases h; exact .nil
 | (j,x) :: r,vs,h=>by
  rw [List.map_cons,lQ] at h;split at h
  ·rename_i h1 h2; cases h; exact .cons (.u (kH h1)) (by simp [clL]) (aKR h2)
  cases h
theorem fB {dr:Bool} {mc:Md} {P:Program} {n:Fm} {l:List Oper} {K:aG->PM->aB->Prop} {i:Nat} {σ:List Nat} {ρ:aG} {G:PM} {μ:aB} {d t:Nat} {p:String} {af:Array Edge} {ps:List (Nat×Operand)} {js:List Nat} {zs:List Value} {pls:List (Nat×Nat)} (cs:List Value) (hF:dC P ty js=some (zs,pls)) (e:(nth l i,ps.map (·.1),lQ ρ (ps.map (·.2)),zV zs.length pls (vs.map clL),oB zs pls (vs.map clL))=(some ⟨some d,.build ty ps.toArray,t,p,af,none⟩,js,some vs,true,cs)) (h:Wo dr mc P n l K σ ((d,true,.agg cs.toArray) :: ρ) G μ):Wo dr mc P n l K (i :: σ) ρ G μ:=by
 simp only [Prod.mk.injEq] at e; exact fU cs e.1 .no (e.2.1 ▸ hF) (aKR e.2.2.1) e.2.2.2.1 e.2.2.2.2 h
theorem uU {xs ys:List Value} (h1:∀ u∈xs,u.oneCell'=true) (h2:∀ u∈ys,u.oneCell'=true):∀ u∈xs++ys,u.oneCell'=true:=by
 grind
theorem jN {n:Nat} {y:Nat->W} {r:List Value} {j:Int} {o:Nat} (a:Nat) (c:o+j.toNat*1=a) (h:a<n):(wa n y++r)[o+j.toNat*1]? = some (U (y a)):=by
 grind[dB,aEl]
theorem vD {n:Nat} {y:Nat->W} {r:List Value} {j:Int} {z:W} {o:Nat} (a:Nat) (c:o+j.toNat*1=a) (h:a<n):(wa n y++r).set (o+j.toNat*1) (U z)=wa n (bM y a z)++r:=by
 simp_all[dB,aPD]
theorem aPE {n o:Nat} {y:Nat->W} {r a:List Value} {v:Value} (h:r.set (o-n) v=a) (c:n<=o:=by decide):(wa n y++r).set o v=wa n y++a:=by
 simp_all[dB]
theorem aLn {xs:List Y} {j:Int} {o:Nat} (a:Nat) (c:o+j.toNat*1=a) (h:a<xs.length):(xs.map V)[o+j.toNat*1]? = some (V (xs.getD a 0)):=by
 simp_all
theorem bCu {n:Nat} {f f':Nat->W} (h:∀ i,i<n->f i=f' i):wa n f=wa n f':=by
 simp_all[wa]
def qG (x:W) (k:Nat):W:=x <<< (32-k) ||| x >>> k
theorem aZf {x:W} {k:Nat} (h:k∈[2,6,7,11,13,17,18,19,22,25]):aNP x (-(k:Int))=qG x k:=by
 simp only [qg,qj,or_false] at h;rcases h with rfl|rfl|rfl|rfl|rfl|rfl|rfl|rfl|rfl|rfl<;>rfl
def kL:List W:=[0x428a2f98,0x71374491,0xb5c0fbcf,0xe9b5dba5,0x3956c25b,0x59f111f1,0x923f82a4,0xab1c5ed5,0xd807aa98,0x12835b01,0x243185be,0x550c7dc3,0x72be5d74,0x80deb1fe,0x9bdc06a7,0xc19bf174,0xe49b69c1,0xefbe4786,0x0fc19dc6,0x240ca1cc,0x2de92c6f,0x4a7484aa,0x5cb0a9dc,0x76f988da,0x983e5152,0xa831c66d,0xb00327c8,0xbf597fc7,0xc6e00bf3,0xd5a79147,0x06ca6351,0x14292967,0x27b70a85,0x2e1b2138,0x4d2c6dfc,0x53380d13,0x650a7354,0x766a0abb,0x81c2c92e,0x92722c85,0xa2bfe8a1,0xa81a664b,0xc24b8b70,0xc76c51a3,0xd192e819,0xd6990624,0xf40e3585,0x106aa070,0x19a4c116,0x1e376c08,0x2748774c,0x34b0bcb5,0x391c0cb3,0x4ed8aa4a,0x5b9cca4f,0x682e6ff3,0x748f82ee,0x78a5636f,0x84c87814,0x8cc70208,0x90befffa,0xa4506ceb,0xbef9a3f7,0xc67178f2]
def kW:Nat->W:=fun i=>kL.getD i 0
def ivL:List W:=[1779033703,3144134277,1013904242,2773480762,1359893119,2600822924,528734635,1541459225]
def ivW:Nat->W:=fun i=>ivL.getD i 0
def beW (b:Nat->Y) (i:Nat):W:=(b i).setWidth 32 <<< 24 ||| (b (i+1)).setWidth 32 <<< 16 ||| (b (i+2)).setWidth 32 <<< 8 ||| (b (i+3)).setWidth 32
def shB (f:Nat->Y) (i:Nat):Nat->W
 | 0=>0#32
 | c+1=>shB f i c <<< 8 ||| (f (4*i+c)).setWidth 32
theorem bAP (f:Nat->Y) (i:Nat):shB f i 4=beW f (4*i):=by
 simp[shB,beW,BitVec.shiftLeft_or_distrib]
def s0W (x:W):W:=qG x 7 ^^^ qG x 18 ^^^ x >>> 3
def s1W (x:W):W:=qG x 17 ^^^ qG x 19 ^^^ x >>> 10
def rW (b:Nat->Y):Nat->Nat->W
 | 0=>fun _=>0#32
 | k+1=>bM (rW b k) k (beW b (4*k))
def qJ (b:Nat->Y):Nat->Nat->W
 | 0=>rW b 16
 | k+1=>bM (qJ b k) (16+k) (qJ b k k+qJ b k (9+k)+s0W (qJ b k (1+k))+s1W (qJ b k (14+k)))
def chW (e f g:W):W:=g ^^^ (e &&& (f ^^^ g))
def aWu (a b c:W):W:=a &&& b ||| c &&& (a ||| b)
def tW (x:Nat->W) (k w:W):W:=x 7+(qG (x 4) 6 ^^^ qG (x 4) 11 ^^^ qG (x 4) 25)+chW (x 4) (x 5) (x 6)+k+w
def uW (x:Nat->W):W:=(qG (x 0) 2 ^^^ qG (x 0) 13 ^^^ qG (x 0) 22)+aWu (x 0) (x 1) (x 2)
def aNL (x:Nat->W) (k w:W):Nat->W:=fun i=>match i with
 | 0=>tW x k w+uW x | 1=>x 0 | 2=>x 1 | 3=>x 2 | 4=>x 3+tW x k w | 5=>x 4 | 6=>x 5 | _=>x 6
def aEX (w s:Nat->W):Nat->Nat->W
 | 0=>s
 | k+1=>aNL (aEX w s k) (kW k) (w k)
def uZ (s:Nat->W) (b:Nat->Y):Nat->W:=fun i=>s i+aEX (qJ b 48) s 64 i
def aC5 (xs:List Y) (k:Nat):Nat->Y:=fun i=>xs.getD (64*k+i) 0
def iC (xs:List Y):Nat->Nat->W
 | 0=>ivW
 | k+1=>uZ (iC xs k) (aC5 xs k)
theorem aO7 {b b':Nat->Y} (h:∀ i,i<64->b i=b' i):∀ k,k<=16->rW b k=rW b' k
 | 0,_=>rfl
 | k+1,hk=>by
  rw [rW,rW,aO7 h k (by omega)];unfold beW;rw [h _ (by omega),h _ (by omega),h _ (by omega),h _ (by omega)]
theorem aNk {b b':Nat->Y} (h:∀ i,i<64->b i=b' i):∀ k,qJ b k=qJ b' k
 | 0=>aO7 h 16 (by omega)
 | k+1=>by rw [qJ,qJ,aNk h k]
theorem aHZ {s:Nat->W} {b b':Nat->Y} (h:∀ i,i<64->b i=b' i):uZ s b=uZ s b':=by
 grind[uZ,aNk]
theorem bAS {xs ys:List Y} {k:Nat} (h:∀ i,i<64*k->xs.getD i 0=ys.getD i 0):iC xs k=iC ys k:=by
 induction k with
 | zero=>rfl
 | succ k ih =>
  rw [iC,iC,ih (fun i a=>h i om)];exact aHZ fun i a=>h _ om
theorem aHb {xs ys:List Y} {k:Nat} (h:64*k<=xs.length):iC (xs++ys) k=iC xs k :=
 bAS fun i a=>by grind
def tY (n:Nat):Nat:=(119-n%64)%64
def aWX (n:Nat):BitVec 64:=qh 64 (n:Int)*8#64
def aGW (n:Nat) (j:Nat):Y:=(aWX n >>> (56-8*j)).setWidth 8
def wH (n j:Nat):List Y:=(qe j).map (aGW n)
def aCZ (n:Nat):List Y:=128#8 :: xl (tY n) 0#8++wH n 8
def aMo (xs:List Y):List Y:=xs++aCZ xs.length
theorem aLZ (n j:Nat):(wH n j).length=j:=by simp [wH]
theorem aWZ (n j:Nat):wH n (j+1)=wH n j++[aGW n j]:=by simp [wH,yx]
theorem bBj (n:Nat):(aCZ n).length=tY n+9:=by simp [aCZ,aLZ]
def oO (xs:List Y):Nat->Y:=fun i=>((iC (aMo xs) ((aMo xs).length / 64) (i / 4)) >>> (24-8*(i%4))).setWidth 8
def aHa (xs:List Y):List Y:=yl 32 (oO xs)
def kB (xs:List Y) (vp:Value):List Value:=wa 8 (iC xs (xs.length / 64))++[vp,.int .i64 (xs.length:Int)]
def fZ (xs:List Y):List Y:=xs.drop (64*(xs.length / 64))
theorem aAj (xs:List Y):(fZ xs).length=xs.length%64:=by grind[fZ]
theorem aO8 (b:Nat->Y):∀ (k j:Nat),k<=j->rW b k j=0#32
 | 0,_,_=>rfl
 | k+1,j,h=>by rw [rW,bM,if_neg (by omega)]; exact aO8 b k j (by omega)
theorem bCl (b:Nat->Y) {k:Nat} (h:k<=j):bM (rW b k) j 0#32=rW b k:=by
 grind[aO2,aO8]
theorem aUm {xs:List Y} {lo c:Nat} (h:c<m):((xs.drop lo).take m).getD c 0=xs.getD (lo+c) 0:=by
 simp_all
theorem bCk {s x:Nat->W} {k:Nat}:bM (fun i=>if i<k then s i+x i else s i) k ((if k<k then s k+x k else s k)+x k)=fun i=>if i<k+1 then s i+x i else s i:=by
 funext i;unfold bM;grind
def cY (n:BitVec 64) (many:Nat):List Y:=(qe many).map fun j=>(n >>> (8*j)).setWidth 8
theorem kI (n:BitVec 64) (a:Nat):(cY n a).length=a:=by simp [cY]
theorem aUW (n:BitVec 64) (k:Nat):cY n (k+1)=cY n k++[(n >>> (8*k)).setWidth 8]:=by simp [cY,yx]
def oE (key nonce:Nat->Y) (count:W) (xs:List Y) (m:Nat):List Y:=yl xs.length fun i=>if i<m then crF key nonce count xs i else xs.getD i 0
theorem aJl (e a:Nat->Y) (c:W) (xs:List Y) (m:Nat):(oE e a c xs m).length=xs.length:=bY _ _
theorem aEr {n:Nat} {f f':Nat->Y} (h:∀ i,i<n->f i=f' i):yl n f=yl n f':=by
 simp_all[yl]
theorem aEs (xs:List Y):yl xs.length (fun i=>xs.getD i 0)=xs:=by
 refine xr fun i=>?_;grind[yl]
theorem bDQ {n:Nat} {f:Nat->Y} {z:Y}:(yl n f).set j z=yl n (bM f j z):=by
 refine xr fun i=>?_;rw [zu];by_cases h:j=i
 ·grind[yl,bM]
 simp only [if_neg h];grind[yl,bM]
theorem aSn (e a:Nat->Y) (c:W) (xs:List Y):oE e a c xs 0=xs:=by
 grind[oE,aEs]
theorem aSl {e a:Nat->Y} {c:W} {xs:List Y} (h:xs.length<=m):oE e a c xs m=qV e a c xs:=by
 unfold oE qV;exact aEr fun i f=>by grind
theorem aSm {e a:Nat->Y} {c:W} {xs:List Y} {i:Nat} (k:i<64) (f:64*j+i<xs.length) :
  (oE e a c xs (64*j+i)).set (64*j+i) ((oE e a c xs (64*j+i)).getD (64*j+i) 0 ^^^ uG e a (c+BitVec.ofNat 32 j) i)=oE e a c xs (64*j+(i+1)):=by
 unfold oE;rw [aPZ f,if_neg om,bDQ];refine aEr fun q g=>?_;unfold bM;by_cases h:q=64*j+i
 ·rw [if_pos h,if_pos om,h];grind[crF]
 grind
def yH (key:List Y):List Y:=if key.length > 64 then aHa key else key
def gJ (key:List Y) (by':Y):Nat->Y:=fun i=>if i<(yH key).length then by' ^^^ (yH key).getD i 0 else by'
def wM (key xs:List Y):Nat->Y:=oO (yl 64 (gJ key 92#8)++aHa (yl 64 (gJ key 54#8)++xs))
def bBg (ad nonce crossed:List Y):List Y:=cY (qh 64 (ad.length:Int)) 8++ad++nonce++crossed
def aAw (mac nonce:Nat->Y) (ad crossed:List Y):Nat->Y:=wM (yl 32 mac) (bBg ad (yl 12 nonce) crossed)
def kR (enc mac nonce:Nat->Y) (ad text:List Y):List Y:=qV enc nonce 1#32 text++yl 16 (aAw mac nonce ad (qV enc nonce 1#32 text))
def rK (enc mac nonce:Nat->Y) (ad s:List Y):Option (List Y) :=
 if s.length<16 then none
 else if yl 16 (aAw mac nonce ad (s.take (s.length-16)))=s.drop (s.length-16) then some (qV enc nonce 1#32 (s.take (s.length-16))) else none
theorem zZ (e a:Nat->Y) (c:W) (xs:List Y):(qV e a c xs).length=xs.length:=bY _ _
theorem uY (enc e c:Nat->Y) (f a:List Y):(kR enc e c f a).length=a.length+16:=by simp[kR,zZ,bY]
theorem aSo {e a:Nat->Y} {c:W} {xs:List Y} {i:Nat} (h:i=min (xs.length-64*j) 64):oE e a c xs (64*j+i)=oE e a c xs (64*(j+1)):=by
 unfold oE;refine aEr fun q f=>?_;grind
theorem aSv {b o lo cap:Nat} (h:lo<cap) {q:Nat} (a:q=o+lo):(Sh.cut ⟨some ⟨b,o,none⟩,cap⟩ lo 1).oa=some ⟨b,q,none⟩:=by
 subst a;unfold Sh.cut;rw [if_neg (by grind)];simp [kG]
theorem aX9 {enc c a:Nat->Y} {e s:List Y} (h:s.length<16):rK enc c a e s=none:=by simp_all[rK]
theorem aX7 {enc c a:Nat->Y} {e s:List Y} (h:16<=s.length) (f:¬ yl 16 (aAw c a e (s.take (s.length-16)))=s.drop (s.length-16)):rK enc c a e s=none:=by
 simp_all[rK]
theorem aMe {enc c a:Nat->Y} {e s:List Y} (h:16<=s.length) (f:yl 16 (aAw c a e (s.take (s.length-16)))=s.drop (s.length-16)):rK enc c a e s=some (qV enc a 1#32 (s.take (s.length-16))):=by
 simp_all[rK]
theorem aJn (e a:Nat->Y) (c:W) (xs:List Y):qV e a c (qV e a c xs)=xs:=by
 grind[aEs,qV,zZ,crF,aPZ]
theorem aX8 (enc e a:Nat->Y) (f c:List Y):rK enc e a f (kR enc e a f c)=some c:=by
 grind[kR,yl,jc,aMe,aJn]
theorem aNl {enc c a:Nat->Y} {e s:List Y} (h:rK enc c a e s=some L):kR enc c a e L=s∧16<=s.length∧L.length=s.length-16:=by
 unfold rK at h;split at h
 ·cases h
 ·split at h
  ·rename_i g f;obtain rfl:=Option.some.inj h;simp_all[zZ,kR,aJn]
  grind
def OpenR (o:Option (List Y)) (L:List Y) (e:Int):Prop:=(o=some L∧e=0)∨(o=none∧L=[]∧e=60)
theorem OpenR.some {a:List Y} {e:Int} (h:OpenR (some a) L e):L=a∧e=0:=by
 simp_all[OpenR]
section
variable {dr:Bool} {mc:Md} {P:Program} {n:Fm} {l:List Oper} {K:aG→PM→aB→Prop} {i:Nat} {σ:List Nat} {ρ:aG} {G:PM} {μ:aB}
variable {d t:Nat} {p:String} {af:Array Edge} {g:Option (Nat×Bool)} {c:Bool}
theorem apF {b o cap:Nat} {x:Operand} {u:Value} {xs ys:List Y} (a3:mc.a=false∨dr=false) (ho:nth l i=some ⟨some d,.call { callee:=.builtin .append,args:=#[x,y],argTypes:=#[T,T] },t,p,af,none⟩) (hT:cI P T=some (E,1,1)) (Q:(P.info? E).bind (·.zero)=some (.int .u8 0)) (X:Ev ρ true x (.slice (some ⟨b,o,none⟩) m cap)) (S:Ev ρ true y u) (r:SlR G 1 aK ⟨some ⟨b,o,none⟩,cap⟩ xs) (hm:xs.length=m) (k:Sc G μ u ys) (h0:0<ys.length) (hg:cap<m+ys.length) (hb:xs.length+ys.length<=140737488355328) (h:∀ c L,c.oneCell'=true->L=xs++ys->Wo dr mc P n l K σ ((d,true,c) :: ρ) G (rB c E L :: μ)):Wo dr mc P n l K (i :: σ) ρ G μ:=by
 subst hm;obtain ⟨oa,cp,rfl,hr⟩:=k.ex;clear k;obtain ⟨b2,J,rfl,D⟩:=hr h0;refine .act (μ₁:=[]) (μ₂:=μ) (post:=fun O A c=>O=G∧c.oneCell'=true∧A=[rB c E (xs++ys)]) ho (by simp_all[bK]) .no (.refl _) (fun a w N k=>.inl ?_) ?_
 ·obtain ⟨Z,C,M,a0,a4⟩:=gE hT;have e:=Q;rw [M] at e;simp only [qw] at e;have g:∀ j u,(ys.map V)[j]? = some u->w.cell? ((⟨b2,J,none⟩ : Addr).add j)=some u:=fun j u F=>by rw [kG]; exact D j u F w k
  have f:∀ j u,(xs.map V)[j]? = some u->w.cell? ((⟨b,o,none⟩ : Addr).add j)=some u:=fun j u F=>by
   rw [kG];have v:=SlR.flat (enc:=aK) (fun _ _=>rfl) r;rw [uN] at v;exact v j u F w k.sub
  have q:=run_append_grow (P:=P) w T t E C _ Z M e ⟨b,o,none⟩ xs.length cap (xs.map V) (by simp_all) f ⟨b2,J,none⟩ ys.length cp (ys.map V) (by simp_all) g om om (growslice_fits om (by simp_all));have h2:=((gR (Sat.left (μ:=[]) k)).drew).alloc (.cells ((xs.map V).toArray++(ys.map V).toArray++Builtin.zeroCells (Value.int .u8 0).cells (grownCap w (xs.length+ys.length) cap E-(xs.length+ys.length))) E);have H:=grownCap_ge w (xs.length+ys.length) cap E;have h3:=h2.asRow (m:=xs.length+ys.length) (cap:=grownCap w (xs.length+ys.length) cap E) (sz:=1) (xs:=(xs++ys).map V) (by simp) H (grownCap_le_maxLen w (xs.length+ys.length) cap E (by grind[maxLen])) (by
   simp only [Array.size_append,List.size_toArray,size_zeroCells,qm];have:(Value.int .u8 0).cells.size=1:=rfl;simp_all) (by grind)
  refine ⟨_,_,G,_,.inl (by simp [execOp,resolve,invoke,builtin,X.eval N rfl,S.eval N rfl,q]; rfl),h3,rfl,rfl,?_⟩;simp
 rintro c O I _ ⟨rfl,v,rfl⟩;exact h c _ v rfl
theorem kM {α:Type} {enc:α->List Value} {e sz D:Nat} {x z:Operand} {s:Sh} {xs:List α} (c:Nat) (O:nth l i=some ⟨some d,.slice T x none (some y) (some z),t,p,af,none⟩) (Q:cI P T=some (e,sz,D)) (m:SlR G sz enc s xs) (M:Ev ρ true x (s.val xs.length)) (J:Ev ρ true y (.int .i64 c)) (I:Ev ρ true z (.int .i64 c)) (h1:c<=xs.length) (h:∀ s' L,L=xs.take c->L.length=c->SlR G sz enc s' L->Wo dr mc P n l K σ ((d,true,s'.val L.length) :: ρ) G μ):Wo dr mc P n l K (i :: σ) ρ G μ:=by
 have E:(xs.take c).length=c:=by simp_all
 have f:SlR G sz enc ⟨s.oa,c⟩ (xs.take c):=by
  refine ⟨fun q=>m.there (fun e=>q (by simp_all)),by simp_all,fun j u k=>?_⟩;rw [yw] at k;split at k
  ·exact m.rd j u k
  cases k
 have F:=h _ _ rfl E f;rw [E] at F;refine .pure O (.inl rfl) .no (fun A a w C=>?_) F;obtain ⟨N,H,v,rfl,rfl⟩:=gE Q;have g:=M.eval C A;simp only [Sh.val] at g;have X:=m.le;have r:∀ oa:Option Addr,oa.map (fun a=>a.add 0)=oa:=fun oa=>by simp[aBK]
 have S:c<=s.cap:=by omega
 simp [execOp,g,J.eval C A,I.eval C A,Instr.sliceAt,run_underlying N,Instr.slice,Instr.sliceBounds,Instr.sliceBound,asIntOf,S,sizeOf,typeInfo,v,Sh.val,r]
theorem mAq {T j:TypeId} {x:Operand} {k:IntKind} {c a:Int} (q:Int) (g:nth l i=some ⟨some d,.call { callee:=.builtin .max,args:=#[x,y],argTypes:=#[T,j] },t,p,af,none⟩) (f:Ev ρ true x (.int k c)) (e:Ev ρ true y (.int k a)) (m:(if a > c then a else c)=q) (h:Wo dr mc P n l K σ ((d,true,.int k q) :: ρ) G μ):Wo dr mc P n l K (i :: σ) ρ G μ:=mA g .no f e (by simp_all)
theorem aIH {f:FuncId} {args:Array Value} {b:Nat} {o:Obj} {Q:aB->Value->Prop} (h:PM.le G (G.add b o)->Ct P f args (G.add b o) μ (fun _ μ' u=>Q μ' u)):Ct P f args G (.blk b o :: μ) (fun _ μ' u=>∃ ν,μ'=.blk b o :: ν∧Q ν u):=by
 intro w a;exact vH (h (PM.le_add (a.apart b (by simp [keys,Res.keys])))) w a
theorem aQX {s s':Sh} (h:s.val m=s'.val m):s=s':=by
 cases s<;>simp_all[Sh.val]
end
section
variable {dr:Bool} {mc:Md} {P:Program} {n:Fm} {l:List Oper} {K:aG→PM→aB→Prop} {i:Nat} {σ:List Nat} {ρ:aG} {G:PM} {μ:aB}
variable {d t:Nat} {p:String} {af:Array Edge} {g:Option (Nat×Bool)} {c:Bool}
theorem aZ4 {s:Sh} (a:(cI P T).isSome=true) (w:World):(Op.equal T (s.val m) (.slice none 0 0)).run P w=.ok s.oa.isNone w:=by
 unfold cI at a;split at a
 ·rename_i e c;unfold Op.equal;rw [show Op.maxDepth=9999+1 from rfl,Op.equalIn];obtain ⟨oa,f⟩:=s;cases oa<;>simp [run_underlying c,Sh.val]
 ·cases a
theorem xD {D:Nat} {x:Operand} {s:Sh} (r:nth l i=some ⟨some d,.binOp .eql T x y D,t,p,af,g⟩) (v:Gd l ρ g c) (C:(cI P T).isSome=true) (j:Ev ρ c x (s.val m)) (f:Ev ρ c y (.slice none 0 0)) (h:Wo dr mc P n l K σ ((d,c,.bool s.oa.isNone) :: ρ) G μ):Wo dr mc P n l K (i :: σ) ρ G μ :=
 .pure r (.inl rfl) v (fun a q w e=>by
  have k:(eqGuard .eql T x y (s.val m) (.slice none 0 0)).run P w=.ok () w:=by rfl
  have A:(binOp .eql T (s.val m) (.slice none 0 0)).run P w=.ok (.bool s.oa.isNone) w:=by
   have:=aZ4 (P:=P) (s:=s) (m:=m) C w;simp_all[binOp]
  simp [execOp,j.eval e a,f.eval e a,k,A]) h
theorem bAg {A C:List Value} {o:Nat} (h1:o+C.length<=m) (h2:m<=A.length):(A.take o++C++A.drop (o+C.length)).take m=(A.take m).take o++C++(A.take m).drop (o+C.length):=by
 have a:(A.take o++C).length=o+C.length:=by grind
 grind[kq,qz,qa8]
abbrev rS {α:Type} (sz:Nat) (enc:α→List Value) (v:Value) (E:Nat) (xs:List α):Res:=.row v E sz xs.length (xs.flatMap enc)
theorem aI9 {α:Type} {enc:α->List Value} {sz b cp:Nat} {x:Operand} {v z:Value} {xs:List α} {c r:aB} (a:α) (S:nth l i=some ⟨some d,.call { callee:=.builtin .append,args:=#[x,y],argTypes:=#[T,T] },t,p,af,g⟩) (hg:Gd l ρ g true) (hT:cI P T=some (E,sz,m)) (M:(P.info? E).bind (·.zero)=some z) (A:z.cells.size=sz) (O:Ev ρ true x v) (N:Ev ρ true y (.slice (some ⟨b,0,none⟩) 1 cp)) (hm:MTake μ (rS sz enc v E xs) c) (hb:MTake μ (.blk b (cl (enc a) E)) r) (ha:(enc a).length=sz) (D:∀ u∈enc a,u.oneCell'=true) (X:(xs.length+1)*m<=140737488355328) (C:xs.length+1<=maxLen) (h:∀ e,e.oneCell'=true->Wo dr mc P n l K σ ((d,true,e) :: ρ) G (rS sz enc e E (xs++[a]) :: c)) (hmc:mc.a=false∨dr=false:=by first|exact .inl rfl|exact .inr rfl):Wo dr mc P n l K (i :: σ) ρ G μ:=by
 refine .act (μ₁:=[rS sz enc v E xs]) (μ₂:=c) (post:=fun J c e=>J=G∧e.oneCell'=true∧c=[rS sz enc e E (xs++[a])]) S (by simp_all[bK]) hg hm.perm (fun q w I H=>.inl ?_) ?_
 ·obtain ⟨e,L,f,Q⟩:=yZ (ty:=t) (cp:=cp) (news:=enc a) (k:=1) (oa:=some ⟨b,0,none⟩) hT M A H.left om (fun _=>⟨b,0,rfl,fun j u Z=>(RdN.own hb) j u Z w (H.perm hm.perm.symm)⟩) D X C;refine ⟨e,L,G,[rS sz enc e E (xs++[a])],.inl (by simp [execOp,resolve,invoke,builtin,O.eval I rfl,N.eval I rfl,f]),?_,rfl,Q.sat.rowOne,rfl⟩;grind
 rintro e J F _ ⟨rfl,D,rfl⟩;exact h e D
theorem eH {α:Type} {enc:α->List Value} {sz e b cp:Nat} {x:Operand} {v z:Value} {xs:List α} {c f:aB} (a:α) (r:nth l i=some ⟨some d,.call { callee:=.builtin .append,args:=#[x,y],argTypes:=#[T,T] },t,p,af,none⟩) (D:cI P T=some (E,sz,e)) (k:(P.info? E).bind (·.zero)=some z) (g:z.cells.size=sz) (q:Ev ρ true x v) (m:Ev ρ true y (.slice (some ⟨b,0,none⟩) 1 cp)) (hm:MTake μ (rS sz enc v E xs) c) (A:MTake μ (.blk b (cl (enc a) E)) f) (C:(enc a).length=sz) (h1:∀ u∈enc a,u.oneCell'=true) (w:(xs.length+1)*e<=140737488355328) (j:xs.length+1<=maxLen) (h:∀ v',v'.oneCell'=true->Wo dr mc P n l K σ ((d,true,v') :: ρ) G (rS sz enc v' E (xs++[a]) :: c)) (hmc:mc.a=false∨dr=false:=by first|exact .inl rfl|exact .inr rfl):Wo dr mc P n l K (i :: σ) ρ G μ:=aI9 a r .no D k g q m hm A C h1 w j h hmc
theorem Tr.frzS {α:Type} {enc:α->List Value} {sz:Nat} {c:PM} {K0:List Nat} {w0 w:World} {v:Value} {xs:List α} (e:∀ x∈xs,(enc x).length=sz) (h:Tr c K0 w0 G (rS sz enc v E xs :: μ) w) :
  ∃ a s,PM.le G a∧v=Sh.val s xs.length∧SlR a sz enc s xs∧Tr c K0 w0 a μ w:=by
 obtain ⟨a,s,l,k,j,i,g,f⟩:=h.freezeRow;grind[pP]
theorem tV {α:Type} {enc:α->List Value} {sz:Nat} {e:Exit} {k:List KI} {v:Value} {xs:List α} {c:aB} (hm:MTake μ (rS sz enc v E xs) c) (g:∀ x∈xs,(enc x).length=sz) (h:∀ f s,PM.le G f->v=Sh.val s xs.length->SlR f sz enc s xs->We X e k ρ f c):We X e k ρ G μ :=
 ⟨fun a w j i=>by
  obtain ⟨f,s,p,n,m,l⟩:=(i.perm hm.perm).frzS g;exact (h f s p n m).out a w j l⟩
theorem mM {α:Type} {enc:α->List Value} {sz:Nat} {g:Code} {k:List KI} {v:Value} {xs:List α} {c:aB} (hm:MTake μ (rS sz enc v E xs) c) (f:∀ x∈xs,(enc x).length=sz) (h:∀ e s,PM.le G e->v=Sh.val s xs.length->SlR e sz enc s xs->Wk X g k ρ e c):Wk X g k ρ G μ :=
 ⟨fun a w j i=>by
  obtain ⟨e,s,p,n,m,l⟩:=(i.perm hm.perm).frzS f;exact (h e s p n m).out a w j l⟩
theorem gP {α:Type} (sz:Nat) (enc:α->List Value) {a:Code} {k:List KI} (E:Nat) (h:Wk X a k ρ G (rS sz enc (.slice none 0 0) E [] :: μ)):Wk X a k ρ G μ:=aEn E sz h
theorem aH5 {α:Type} (sz:Nat) (enc:α->List Value) {e:Exit} {k:List KI} (E:Nat) (h:We X e k ρ G (rS sz enc (.slice none 0 0) E [] :: μ)):We X e k ρ G μ:=aPG E sz h
def xU (n:Nat):List Value:=[.int .i64 (n:Int)]
structure AllS (G:PM) (ps:List (Sh×List Y)):Prop where
 all:∀ p∈ps,SlR G 1 aK p.1 p.2
theorem AllS.mono {G e:PM} {c:List (Sh×List Y)} (h:AllS G c) (a:PM.le G e):AllS e c:=⟨fun p f=>(h.all p f).mono a⟩
theorem AllS.nil {G:PM}:AllS G []:=⟨fun p a=>by cases a⟩
theorem AllS.snoc {G:PM} {c:List (Sh×List Y)} {s:Sh} (h:AllS G c) (e:SlR G 1 aK s L):AllS G (c++[(s,L)]):=⟨fun p a=>by
 rcases qv.1 a with a | a
 ·exact h.all p a
 simp_all⟩
theorem SlP.of {G:PM} {s:Sh} {a:List (Sh×List Y)} (h:SlR G 1 aBc s a) (c:AllS G a):SlP G s a:=⟨h,c.all⟩
theorem slr {e sz f b cap:Nat} {x:Operand} {k:IntKind} {lo:Int} (q:Nat) (D:nth l i=some ⟨some d,.slice T x (some y) none none,t,p,af,none⟩) (H:cI P T=some (e,sz,f)) (v:Ev ρ true x (.slice (some ⟨b,0,none⟩) m cap)) (r:Ev ρ true y (.int k lo)) (C:lo=q) (h1:q<=m) (h2:m<=cap) (h3:q<cap) (h:Wo dr mc P n l K σ ((d,true,.slice (some ⟨b,q*sz,none⟩) (m-q) (cap-q)) :: ρ) G μ):Wo dr mc P n l K (i :: σ) ρ G μ :=
 .pure D (.inl rfl) .no (fun _ a w g=>by
  obtain ⟨A,j,F,rfl,rfl⟩:=gE H;subst C;have c:=v.eval g rfl;have E:¬ cap=q:=by omega
  simp [execOp,c,r.eval g rfl,Instr.sliceAt,run_underlying A,Instr.slice,Instr.sliceBounds,Instr.sliceBound,asIntOf,sizeOf,typeInfo,F,h1,h2,E,kG]) h
theorem vS {α:Type} {enc:α->List Value} {sz A:Nat} {x:Operand} {v z:Value} {s:Sh} {xs ys:List α} {c:aB} (X:nth l i=some ⟨some d,.call { callee:=.builtin .append,args:=#[x,y],argTypes:=#[T,T] },t,p,af,none⟩) (hT:cI P T=some (E,sz,A)) (N:(P.info? E).bind (·.zero)=some z) (C:z.cells.size=sz) (Q:Ev ρ true x v) (O:Ev ρ true y (s.val ys.length)) (hm:MTake μ (rS sz enc v E xs) c) (I:SlR G sz enc s ys) (g:∀ a∈ys,(enc a).length=sz) (F:∀ u∈ys.flatMap enc,u.oneCell'=true) (Z:(xs.length+ys.length)*A<=140737488355328) (D:xs.length+ys.length<=maxLen) (h:∀ e,e.oneCell'=true->Wo dr mc P n l K σ ((d,true,e) :: ρ) G (rS sz enc e E (xs++ys) :: c)) (hmc:mc.a=false∨dr=false:=by first|exact .inl rfl|exact .inr rfl):Wo dr mc P n l K (i :: σ) ρ G μ:=by
 refine .act (μ₁:=[rS sz enc v E xs]) (μ₂:=c) (post:=fun L c e=>L=G∧e.oneCell'=true∧c=[rS sz enc e E (xs++ys)]) X (by simp_all[bK]) .no hm.perm (fun q w J m=>.inl ?_) ?_
 ·obtain ⟨e,M,r,S⟩:=yZ (ty:=t) (cp:=s.cap) (news:=ys.flatMap enc) (k:=ys.length) (oa:=s.oa) hT N C m.left (uO g) (fun h0=>⟨s.b,s.o,I.nn h0,fun j u hj=>((SlR.flat g I).rd (μ:=μ)) j u hj w (m.perm hm.perm.symm)⟩) F Z D;refine ⟨e,M,G,[rS sz enc e E (xs++ys)],.inl ?_,?_,rfl,S.sat.rowOne,rfl⟩
  ·have f:=O.eval J rfl;simp only [Sh.val] at f;simp [execOp,resolve,invoke,builtin,Q.eval J rfl,f,r]
  grind
 rintro e L H _ ⟨rfl,F,rfl⟩;exact h e F
end
inductive CK where
 | int (k:IntKind)
 | str
 | bool
 deriving DecidableEq
def oJ:Value->Lit
 | .int k n=>.int k n
 | .string s=>.string s.data.toList
 | .bool b=>.bool b
 | _=>.bool false
inductive CkOk:CK→Value→Prop where
 | int {k:IntKind} {n:Int} (h1:k.min≤n) (h2:n≤k.max):CkOk (.int k) (.int k n)
 | str {s:ByteArray} (h:s.size≤maxLen):CkOk .str (.string s)
 | bool {b:Bool}:CkOk .bool (.bool b)
inductive Conf:List CK→List Value→Prop where
 | nil:Conf [] []
 | cons {k v ks cs} (h:CkOk k v) (r:Conf ks cs):Conf (k :: ks) (v :: cs)
theorem CkOk.u {k:IntKind} (a:k.signed=false) (x:BitVec k.bits):CkOk (.int k) (uv k x):=by
 have:=x.isLt;grind[int,aLv,aLp,uv]
theorem Conf.len {a:List CK} {cs:List Value} (h:Conf a cs):cs.length=a.length:=by
 induction h<;>simp_all
theorem Conf.split {a c:List CK}:∀ {cs:List Value},Conf (a++c) cs->Conf a (cs.take a.length)∧Conf c (cs.drop a.length):=by
 induction a with
 | nil=>simp[Conf.nil]
 | cons k a ih =>
  intro cs h;cases h<;>simp_all[cons]
theorem Conf.inj {a:List CK} {cs:List Value} (h:Conf a cs) (c:Conf a cs') (e:cs.map oJ=cs'.map oJ):cs=cs':=by
 induction h generalizing cs' with
 | nil=>simp_all
 | cons h1 _ ih =>
  cases c with
  | cons h2 r2 =>
   simp only [wr,List.cons.injEq] at e;rw [ih r2 e.2];congr 1;cases h1 with
   | int _ _=>cases h2<;>simp_all[oJ]
   | @str s1 _=>cases h2 with
    | @str s2 _ =>
     have:=e.1;simp only [oJ,Lit.string.injEq] at this;have f:s1.data=s2.data:=by
      simp_all
     obtain ⟨d1⟩:=s1;simp_all
   | bool=>cases h2<;>simp_all[oJ]
def aAr (P:Program) (f:TypeId->Option (List CK)):Nat->List Field->Option (List CK)
 | _,[]=>some []
 | o,fl :: r=>match f fl.type with
  | some ks=>if fl.offset=o∧P.cellsOf fl.type=ks.length then (aAr P f (o+ks.length) r).map (ks++·) else none
  | none=>none
def vA (P:Program):Nat->TypeId->Option (List CK)
 | 0,_=>none
 | d+1,t=>match P.underlying t with
  | some (.int k)=>some [.int k]
  | some .string=>some [.str]
  | some .bool=>some [.bool]
  | some (.array n e)=>match vA P d e with
   | some ks=>if P.cellsOf e=ks.length∧P.cellsOf t=n*ks.length then some (List.replicate n ks).flatten else none
   | none=>none
  | some (.struct fs)=>match aAr P (vA P d) 0 fs.toList with
   | some ks=>if P.cellsOf t=ks.length∧fs.all (·.name != "_")=true then some ks else none
   | none=>none
  | _=>none
theorem aJi {a:List CK}:∀ {n:Nat} {cs:List Value},Conf (List.replicate n a).flatten cs->∀ i,i<n->Conf a ((cs.drop (i*a.length)).take a.length)
 | 0,_,_,i,hi=>by omega
 | n+1,cs,h,i,hi=>by
  rw [List.replicate_succ,List.flatten_cons] at h;obtain ⟨h1,h2⟩:=h.split;cases i with
  | zero=>simpa using h1
  | succ i =>
   have:=aJi h2 i om;rw [yg] at this;rwa [yc,zk]
theorem aJb {α:Type} {f:Value->α} {L:Nat}:∀ {n:Nat} {cs:List Value},cs.length=n*L->((List.range n).map fun i=>((cs.drop (i*L)).take L).map f).flatten=cs.map f
 | 0,cs,h=>by
  simp_all
 | n+1,cs,h=>by
  rw [List.range_succ_eq_map,List.map_cons,List.flatten_cons,List.map_map,Nat.zero_mul,List.drop_zero];have h2:=aJb (f:=f) (L:=L) (n:=n) (cs:=cs.drop L) (by grind);have e:(List.map ((fun i=>List.map f (List.take L (List.drop (i*L) cs))) ∘ Nat.succ) (qe n))=(qe n).map fun i=>(((cs.drop L).drop (i*L)).take L).map f:=by
   simp[yc,zk]
  grind[qx]
theorem aLm {α a:Type} {f:α->Option a} {g:α->a}:∀ {l:List α},(∀ x∈l,f x=some (g x))->l.mapM f=some (l.map g)
 | [],_=>by simp
 | x :: l,h=>by simp [List.mapM_cons,h x (List.mem_cons_self ..),aLm (l:=l) fun z hz=>h z (List.mem_cons_of_mem _ hz)]
section
variable {P:Program}
theorem aJh {d:Nat} (ih:∀ t ks cs,vA P d t=some ks->Conf ks cs->P.keyLits d t cs=some (cs.map oJ)):∀ (fs:List Field) (o:Nat) (ks:List CK) (cs:List Value),aAr P (vA P d) o fs=some ks->Conf ks (cs.drop o) ->
  ∃ r,fs.mapM (fun f=>P.keyLits d f.type ((cs.drop f.offset).take (P.cellsOf f.type)))=some r∧r.flatten=(cs.drop o).map oJ
 | [],o,ks,cs,h,hc=>by
  simp only [aAr,Option.some.injEq] at h;subst h;have:=hc.len;simp_all[wo]
 | fl :: r,o,ks,cs,h,hc=>by
  simp only [aAr] at h;split at h
  ·rename_i a l;split at h
   ·rename_i k;cases c:aAr P (vA P d) (o+a.length) r with
    | none=>simp_all
    | some ks2 =>
     rw [c] at h;simp only [wu,Option.some.injEq] at h;subst h;obtain ⟨m,e⟩:=hc.split;rw [yg] at e;obtain ⟨j,i,g⟩:=aJh ih r (o+a.length) ks2 cs c e;grind[jf,yg,qx]
   grind
  grind
theorem aDJ:∀ (d:Nat) (t:TypeId) (ks:List CK) (cs:List Value),vA P d t=some ks->Conf ks cs->P.keyLits d t cs=some (cs.map oJ)
 | 0,_,_,_,h,_=>by cases h
 | d+1,t,ks,cs,h,hc=>by
  simp only [vA] at h;unfold Program.keyLits;split at h
  ·rename_i k j;simp only [Option.some.injEq] at h;subst h;cases hc with
   | cons c r=>cases r; cases c<;>simp_all[Lit.wf,oJ]
  ·rename_i j;simp only [Option.some.injEq] at h;subst h;cases hc with
   | cons c r=>cases r; cases c<;>simp_all[oJ]
  ·rename_i j;simp only [Option.some.injEq] at h;subst h;cases hc with
   | cons c r=>cases r; cases c<;>simp_all[oJ]
  ·rename_i n e j;split at h
   ·rename_i a c;split at h
    ·rename_i m;simp only [Option.some.injEq] at h;subst h;have hl:cs.length=n*a.length:=by
      rw [hc.len]; simp
     have v:=aLm (l:=qe n) (f:=fun i=>P.keyLits d e ((cs.drop (i*P.cellsOf e)).take (P.cellsOf e))) (g:=fun i=>((cs.drop (i*a.length)).take a.length).map oJ)
      (fun i w=>by rw [m.1]; exact aDJ d e a _ c (aJi hc i (xo.1 w)))
     rw [j];simp only [hl,m.2,if_true,v,wu,aJb hl]
    grind
   grind
  ·rename_i x j;split at h
   ·rename_i a c;split at h
    ·rename_i m;simp only [Option.some.injEq] at h;subst h;obtain ⟨r,q,p⟩:=aJh (aDJ d) x.toList 0 a cs c (by simp_all);rw [j];simp only [hc.len,m.1,m.2,and_self,if_true,q,wu,p,List.drop_zero]
    grind
   grind
  grind
def eqT (P:Program) (m:Nat) (T:TypeId) (ks:List CK):Bool :=
 (match vA P m T with | some k=>k == ks | none=>false)&&P.keyTypeAt m T && !P.eqGuardType P.depth T&&Nat.ble m 10000&&(match P.underlying T with | some (.struct _) | some (.array _ _)=>Nat.beq (P.cellsOf T) ks.length | _=>false)
theorem aZ3 {c:List CK} {cs:List Value} {r:Bool} (j:eqT P m T c=true) (h1:Conf c cs) (h2:Conf c cs') (l:r=true↔cs=cs') (w:World) :
  (Op.equal T (.agg cs.toArray) (.agg cs'.toArray)).run P w=.ok r w∧P.eqGuardType P.depth T=false:=by
 simp only [eqT,qq,xm] at j;obtain ⟨⟨⟨⟨q,n⟩,v⟩,i⟩,x⟩:=j;have k:vA P m T=some c:=by
  grind
 have i:=Nat.le_of_ble_eq_true i;have a:∀ cs:List Value,Conf c cs->(Value.agg cs.toArray).formed P T=true:=by
  intro cs p;have t:=p.len;grind[Value.formed,Nat.eq_of_beq_eq_true]
 obtain ⟨h,g,f⟩:=run_equalIn_deep (10000-m) m T n w m m (.agg cs.toArray) (.agg cs'.toArray) (cs.map oJ) (cs'.map oJ) (a _ h1) (a _ h2) (by simp_all[Value.cells,aDJ]) (by simp_all[Value.cells,aDJ]);rw [show 10000-m+m=10000 by omega] at g;have e:h=r:=by
  have y:h=true↔r=true:=by
   rw [f,l];exact ⟨fun e=>h1.inj h2 e,fun e=>by rw [e]⟩
  grind
 subst e;trivial
variable {dr:Bool} {mc:Md} {n:Fm} {l:List Oper} {K:aG→PM→aB→Prop} {i:Nat} {σ:List Nat} {ρ:aG} {G:PM} {μ:aB}
variable {d t:Nat} {p:String} {af:Array Edge} {g:Option (Nat×Bool)} {c:Bool}
theorem eqC {H:Nat} {x:Operand} {f:List CK} {cs:List Value} (r:Bool) (A:nth l i=some ⟨some d,.binOp .eql T x y H,t,p,af,g⟩) (C:Gd l ρ g c) (D:eqT P m T f=true) (q:Ev ρ c x (.agg cs.toArray)) (k:Ev ρ c y (.agg cs'.toArray)) (h1:c=true->Conf f cs) (h2:c=true->Conf f cs') (v:c=true->(r=true↔cs=cs')) (h:Wo dr mc P n l K σ ((d,c,.bool r) :: ρ) G μ):Wo dr mc P n l K (i :: σ) ρ G μ :=
 .pure A (.inl rfl) C (fun e a w j=>by
  obtain ⟨F,E⟩:=aZ3 D (h1 e) (h2 e) (v e) w;simp [execOp,q.eval j e,k.eval j e,aFu E,binOp,F]) h
theorem nb {T A:TypeId} {x:Operand} {b1 b2:Bool} (q:nth l i=some ⟨some d,.binOp .neq T x y A,t,p,af,g⟩) (r:Gd l ρ g c) (e:aC8 P T=true) (m:Ev ρ c x (.bool b1)) (k:Ev ρ c y (.bool b2)) (h:Wo dr mc P n l K σ ((d,c,.bool (!(b1 == b2))) :: ρ) G μ):Wo dr mc P n l K (i :: σ) ρ G μ :=
 .pure q (.inl rfl) r (fun f a w j=>by
  unfold aC8 at e;split at e
  ·rename_i C;have D:∀ w,(Op.equalIn (9999+1) T (.bool b1) (.bool b2)).run P w=.ok (b1 == b2) w:=fun w=>by
    rw [Op.equalIn]; simp_all[run_underlying]
   have v:(eqGuard .neq T x y (.bool b1) (.bool b2)).run P w=.ok () w:=by rfl
   simp only [execOp,m.eval j f,k.eval j f,Sem.run_bind,v,Result.andThen_ok,binOp,Op.equal,Op.maxDepth];simp_all
  ·cases e) h
end
theorem Conf.u8 {y:Y} {a:List CK} {cs:List Value} (h:Conf a cs):Conf (.int .u8 :: a) (V y :: cs):=.cons (CkOk.u (k:=.u8) rfl y) h
theorem Conf.u64 {y:BitVec 64} {a:List CK} {cs:List Value} (h:Conf a cs):Conf (.int .u64 :: a) (uv .u64 y :: cs):=.cons (CkOk.u (k:=.u64) rfl y) h
open Go.Lib
def yb (s:ByteArray):List Y:=s.toList.map fun x=>qb 8 x.toNat
theorem sM (s:ByteArray):aV (yb s)=s:=by
 have h:(aV (yb s)).data.toList=s.data.toList:=by
  simp[vX,yb,ByteArray.toList_eq,zw]
 have c:(aV (yb s)).data=s.data:=by
  simp_all
 obtain ⟨d⟩:=s;cases a:aV (yb ⟨d⟩)<;>simp_all
theorem iI (xs:List Y):yb (aV xs)=xs:=xP (sM _)
theorem bZ (s:ByteArray):(yb s).length=s.size:=by simp[yb,ByteArray.toList_eq]
theorem aPV (s:ByteArray):(yb s).map V=strCells s:=by
 unfold yb strCells;rw [List.map_map,ByteArray.toList_eq];refine zw fun x _=>?_;have:=x.toNat_lt;have e:(qb 8 x.toNat).toNat=x.toNat:=by simp
 show Value.int .u8 (((qb 8 x.toNat).toNat:Nat):Int)=_;rw [e]
section
variable {dr:Bool} {mc:Md} {P:Program} {n:Fm} {l:List Oper} {K:aG→PM→aB→Prop} {i:Nat} {σ:List Nat} {ρ:aG} {G:PM} {μ:aB}
variable {d t:Nat} {p:String} {af:Array Edge} {g:Option (Nat×Bool)} {c:Bool}
theorem aZ0 {U:Nat} {v:Value} {xs:List Y} {s:ByteArray} {w:World} (hT:cI P T=some (E,1,1)) (hU:oP P U=true) (A:(P.info? E).bind (·.zero)=some (.int .u8 0)) (C:Sat G [rB v E xs] w) (hb:xs.length+s.size<=140737488355328) :
  ∃ v' w',(Builtin.append_ #[T,U] ty #[v,.string s]).run P w=.ok v' w'∧Tr G (keys [rB v E xs]) w G [rB v' E (xs++yb s)] w':=by
 obtain ⟨F,n,D,H,a9⟩:=gE hT;have p:P.underlying U=some .string:=by
  grind[oP]
 rw [D] at A;simp only [qw] at A;have h:w.ownsRow 0 E 1 v xs.length (xs.map V):=C.own _ (qf.2 rfl);have k:=gR C;have Z:=bZ s;have a0:=aPV s;have a7:(xs.map V).length=xs.length:=qm ..;have a3:(strCells s).length=s.size:=strCells_length s;have a6:maxLen=9223372036854775807:=rfl;have eR:rB v E (xs++yb s)=.row v E 1 (xs.length+s.size) (xs.map V++strCells s):=by simp_all
 have l:(xs.map V++strCells s).length=(xs.length+s.size)*1:=by simp_all
 by_cases hk:s.size=0
 ·have hn:strCells s=[]:=wo om;have a1:yb s=[]:=wo om;refine ⟨v,w,?_,by simp_all⟩;have Q:=run_firstCells_string (P:=P) w 1 s;rw [hk,hn] at Q;rcases h.2 with ⟨rfl,O⟩ | ⟨g,cap,i,rfl,_,K,I,_,_,_⟩
  ·simp[*,Builtin.append_,run_underlying,sizeOf,typeInfo,Builtin.lenOf]
  simp[*,Builtin.append_,run_underlying,sizeOf,typeInfo,Builtin.lenOf,storeCells]
 have x:∀ (a:Nat),Tr G (keys [rB v E xs]) w G [.row (.slice (some ⟨w.heap.size,0,none⟩) (xs.length+s.size) (grownCap w (xs.length+s.size) a E)) E 1 (xs.length+s.size) (xs.map V++strCells s)]
   (w.drew.alloc (.cells ((xs.map V).toArray++(strCells s).toArray++Builtin.zeroCells (Value.int .u8 0).cells (grownCap w (xs.length+s.size) a E-(xs.length+s.size))) E)):=by
  intro a;have N:=(k.drew).alloc (.cells ((xs.map V).toArray++(strCells s).toArray++Builtin.zeroCells (Value.int .u8 0).cells (grownCap w (xs.length+s.size) a E-(xs.length+s.size))) E);have S:Tr G (keys [rB v E xs]) w G [.blk w.heap.size (.cells ((xs.map V).toArray++(strCells s).toArray++Builtin.zeroCells (Value.int .u8 0).cells (grownCap w (xs.length+s.size) a E-(xs.length+s.size))) E)] _:=Tr.left (ν:=[rB v E xs]) N;have J:=grownCap_ge w (xs.length+s.size) a E;refine S.asRow l J (grownCap_le_maxLen w (xs.length+s.size) a E om) ?_ ?_
  ·have X:(Value.int IntKind.u8 0).cells.size=1:=rfl;simp_all[size_zeroCells]
  grind
 rcases h.2 with ⟨rfl,O⟩ | ⟨g,cap,i,rfl,_,K,I,M,L,q⟩
 ·have hx:xs=[]:=wo O;subst hx;have e:=run_append_nil_string (P:=P) w T U ty E n (.int .u8 0) F p D A s om om (by grind);have Q:=x 0;have e1:(s.data.map fun b=>Value.int .u8 b.toNat)=(strCells s).toArray:=by
   grind[strCells]
  grind
 by_cases f:xs.length+s.size<=cap
 ·simp only [Nat.mul_one] at L q;have e:=run_append_room_string (P:=P) w T U ty E n F p D H g xs.length cap i K s f om;have y:Sat G [.blk g (.cells i E (0,0))] w:=⟨C.sub,fun r hr=>by rw [qf.1 hr]; exact K,fun c hc=>C.apart c (by trivial),by simp [keys,Res.keys]⟩;refine ⟨_,_,e,?_⟩;have N:=xM (cs':=(i.toList.take xs.length++strCells s++i.toList.drop (xs.length+s.size)).toArray) y;have S:=N.asRow (m:=xs.length+s.size) (cap:=cap) (sz:=1) (xs:=xs.map V++strCells s) l f M ?_ ?_
  ·simp_all[rB,keys,Res.keys,Value.ownBlock]
  ·grind
  grind
 have t:∀ j u,(xs.map V)[j]? = some u->w.cell? ((⟨g,0,none⟩ : Addr).add j)=some u:=h.cells (g:=g) rfl;have e:=run_append_grow_string (P:=P) w T U ty E n (.int .u8 0) F p D A ⟨g,0,none⟩ xs.length cap (xs.map V) (by simp_all) t s om om (growslice_fits om (by simp_all));grind
theorem oV {U:Nat} {x:Operand} {v:Value} {s:ByteArray} {xs:List Y} {c:aB} (F:nth l i=some ⟨some d,.call { callee:=.builtin .append,args:=#[x,y],argTypes:=#[T,U] },t,p,af,none⟩) (J:cI P T=some (E,1,1)) (I:oP P U=true) (r:(P.info? E).bind (·.zero)=some (.int .u8 0)) (C:Ev ρ true x v) (A:Ev ρ true y (.string s)) (hm:MTake μ (rB v E xs) c) (H:xs.length+s.size<=140737488355328) (h:∀ e L,e.oneCell'=true->L=xs++yb s->Wo dr mc P n l K σ ((d,true,e) :: ρ) G (rB e E L :: c)) (hmc:mc.a=false∨dr=false:=by first|exact .inl rfl|exact .inr rfl):Wo dr mc P n l K (i :: σ) ρ G μ:=by
 refine .act (μ₁:=[rB v E xs]) (μ₂:=c) (post:=fun m c e=>m=G∧e.oneCell'=true∧c=[rB e E (xs++yb s)]) F (by simp_all[bK]) .no hm.perm (fun a w k D=>.inl ?_) ?_
 ·obtain ⟨e,q,f,j⟩:=aZ0 (ty:=t) (s:=s) J I r D.left H;exact ⟨e,q,G,[rB e E (xs++yb s)],.inl (by simp [execOp,resolve,invoke,builtin,C.eval k rfl,A.eval k rfl,f]),j,rfl,j.sat.rowOne,rfl⟩
 rintro e m g _ ⟨rfl,M,rfl⟩;exact h e _ M rfl
def sbT (P:Program) (S D:TypeId):Bool:=match P.underlying S,P.underlying D with
 | some .string,some (.slice e)=>match P.underlying e with | some (.int .u8)=>true | _=>false
 | _,_=>false
theorem cvS {S D:TypeId} {x:Operand} {s:ByteArray} (y:dr=false) (F:nth l i=some ⟨some d,.convert S D x,t,p,af,none⟩) (k:sbT P S D=true) (C:Ev ρ true x (.string s))
  (h:∀ f c,PM.le G f->SlR f 1 aK c (yb s)->Wo dr mc P n l K σ ((d,true,c.val (yb s).length) :: ρ) f μ):Wo dr mc P n l K (i :: σ) ρ G μ:=by
 refine .act (μ₁:=[]) (μ₂:=μ) (post:=fun f m v=>m=[]∧∃ c,v=c.val (yb s).length∧SlR f 1 aK c (yb s)) F (.inr y) .no (.refl _) (fun a w J E=>.inl ?_) ?_
 ·unfold sbT at k;split at k
  ·rename_i e Q O;split at k
   ·rename_i N;have g:=run_bytes_of_string (P:=P) w S D e s Q O N;have I:=grownCap_ge w s.size 0 e;have T:Tr G (keys []) w G [] w:=gR (Sat.left (μ:=[]) E);have M:=(T.drew).alloc (.cells (bytesRow s (grownCap w s.size 0 e)) e ((bytesRow s (grownCap w s.size 0 e)).size,(bytesRow s (grownCap w s.size 0 e)).size+1));have L:=M.freeze;refine ⟨.slice (some ⟨w.heap.size,0,none⟩) s.size (grownCap w s.size 0 e),_,_,[],.inl (by simp [execOp,C.eval J rfl,g]),L,rfl,⟨some ⟨w.heap.size,0,none⟩,grownCap w s.size 0 e⟩,by rw [bZ]; rfl,?_⟩;refine pP (fun _ _=>rfl) (by simp_all[bZ]) (fun _=>rfl) (fun j v H=>?_);rw [uN,aPV] at H;show RdP _ ⟨w.heap.size,0+j,none⟩ v;rw [wb];refine RdP.blk (cs:=(bytesRow s (grownCap w s.size 0 e)).toList) (by rw [Array.toArray_toList]; exact bP _ _ _) ?_;grind[strCells,bytesRow]
   cases k
  cases k
 rintro v f A r ⟨rfl,c,rfl,q⟩;exact h f c r q
theorem aDf {α:Type} {enc:α->List Value} {sz:Nat}:∀ {xs:List α} {k:Nat} {x:α},(∀ y∈xs,(enc y).length=sz)->xs[k]? = some x->((xs.flatMap enc).drop (k*sz)).take sz=enc x
 | y :: ys,0,x,hsz,hx=>by
  simp_all
 | y :: ys,k+1,x,hsz,hx=>by
  rw [List.flatMap_cons,Nat.succ_mul,Nat.add_comm,←List.drop_drop,List.drop_left' (hsz y (List.mem_cons_self ..))];exact aDf (fun z hz=>hsz z (List.mem_cons_of_mem _ hz)) (by simpa using hx)
 | [],_,_,_,hx=>by grind
theorem aKh {α:Type} {enc:α->List Value} {sz:Nat} {y:α}:∀ {xs:List α} {k:Nat},(∀ z∈xs,(enc z).length=sz)->(enc y).length=sz->k<xs.length->put (xs.flatMap enc) (k*sz) (enc y)=(xs.set k y).flatMap enc
 | z :: zs,0,hsz,hy,_=>by
  simp_all[put]
 | z :: zs,k+1,hsz,hy,hk=>by
  have ih:=aKh (xs:=zs) (k:=k) (fun u a=>hsz u (qo _ a)) hy (by simp_all);have c:=hsz z (ql ..);simp_all[put,yc,kq,qz,List.drop_append,xt]
 | [],_,_,_,hk=>by grind
theorem iK {α:Type} {enc:α->List Value} {sz b cap k:Nat} {xs:List α} {x:α} {a:aB} (h:MTake μ (rS sz enc (.slice (some ⟨b,0,none⟩) m cap) E xs) a) (c:∀ y∈xs,(enc y).length=sz) (e:xs[k]? = some x) {q:Nat} (f:q=k*sz):RdN G μ b q (enc x):=by
 subst f;intro j v g;refine Rd.row h ?_;rw [← aDf c e,yw] at g;simp_all
theorem qK {α:Type} {enc:α->List Value} {sz cap b o k:Nat} {x:Operand} {v:Value} {xs:List α} {u:α} {f:aB} (ho:nth l i=some ⟨none,.store T x y,t,p,af,none⟩) (hx:Ev ρ true x (.pointer (some ⟨b,o,none⟩))) (hy:Ev ρ true y v) (hv:v.cells=(enc u).toArray) (hz:iU P T=some sz) (hm:MTake μ (rS sz enc (.slice (some ⟨b,0,none⟩) m cap) E xs) f) (F:∀ y∈xs,(enc y).length=sz) (M:(enc u).length=sz) (h1:∀ c∈enc u,c.oneCell'=true) (hq:o=k*sz) (Q:k<xs.length) (h:Wo dr mc P n l K σ ρ G (rS sz enc (.slice (some ⟨b,0,none⟩) m cap) E (xs.set k u) :: f)):Wo dr mc P n l K (i :: σ) ρ G μ:=by
 subst hq;refine .act (μ₁:=[rS sz enc (.slice (some ⟨b,0,none⟩) m cap) E xs]) (μ₂:=f) (post:=fun G' f v=>G'=G∧f=[rS sz enc (.slice (some ⟨b,0,none⟩) m cap) E (xs.set k u)]∧v=undef) ho (.inl rfl) .no hm.perm (fun a w Z hs=>.inl ?_) ?_
 ·have D:=hs.left;have I:w.ownsRow 0 E sz (.slice (some ⟨b,0,none⟩) m cap) xs.length (xs.flatMap enc):=D.own _ (qf.2 rfl);have b6:=uO F;rcases I.2 with ⟨e,_⟩ | ⟨g,a0,j,e,_,S,J,O,b7,q⟩
  ·cases e
  simp only [Value.slice.injEq,Option.some.injEq,Addr.mk.injEq,and_true,true_and] at e;obtain ⟨rfl,rfl,rfl⟩:=e;have L:keys [rS sz enc (.slice (some ⟨b,0,none⟩) xs.length cap) E xs]=[b]:=by rfl
  have H:Sat G [.blk b (.cells j E (0,0))] w:=⟨D.sub,fun r hr=>by rw [qf.1 hr]; exact S,fun c hc=>D.apart c (by trivial),by simp [keys,Res.keys]⟩;have a9:k*sz+sz<=xs.length*sz:=by rw [← yc]; exact xc _ Q
  have X:xs.length*sz<=cap*sz:=xc _ J;have N:=run_storeCells_at P b (k*sz) E (enc u) 0 j w S om h1;simp only [yn,M] at N;have h2:=(xM (cs':=(j.toList.take (k*sz)++enc u++j.toList.drop (k*sz+sz)).toArray) H).asRow (m:=xs.length) (cap:=cap) (sz:=sz) (xs:=(xs.set k u).flatMap enc) ?_ J O ?_ ?_
  ·refine ⟨undef,_,G,_,.inr ⟨?_,rfl⟩,by rw [L]; exact h2,rfl,by simp,rfl⟩;cases hi:P.info? T with
   | none=>simp_all[iU]
   | some inf =>
    simp only [iU,hi,wu,Option.some.injEq] at hz;simp only [execOp,hx.eval Z rfl,hy.eval Z rfl];simp_all[Instr.storeAt,Instr.sureAddr,storeVar,sizeOf,typeInfo]
  ·rw [uO (sz:=sz) (fun z a1=>by
    grind),wx]
  ·grind
  have:=bAg (A:=j.toList) (C:=enc u) (o:=k*sz) (m:=xs.length*sz) om (by simp_all);rw [M,q] at this;rw [this];have h5:=aKh (xs:=xs) F M Q;simp_all[put]
 simp_all[bT]
end
theorem bDN (s:ByteArray):s.data.toList=(yb s).map fun y=>UInt8.ofNat y.toNat:=by
 grind[sM,vX]
theorem aFI {s:ByteArray} {xs:List Y} (h:s.data.toList=xs.map fun y=>UInt8.ofNat y.toNat):s=aV xs :=
 ByteArray.ext (Array.toList_inj.1 (by rw [h,vX]))
theorem aRo (xs ys:List Y):aV xs++aV ys=aV (xs++ys):=aFI (by simp[vX])
theorem aJS (xs:List Y) (lo a:Nat):(aV xs).extract lo a=aV ((xs.take a).drop lo):=aFI (by
 simp[vX,qa8])
theorem aR1 {s:ByteArray} (h:j<s.size):s[j]? = some (UInt8.ofNat ((yb s).getD j 0).toNat):=by
 have a:s[j]? = s.data.toList[j]?:=by
  rw [getElem?_pos s j h,wi (show j<s.data.toList.length by simp_all)]; rfl
 grind[bDN]
section
variable {dr:Bool} {mc:Md} {P:Program} {n:Fm} {l:List Oper} {K:aG→PM→aB→Prop} {i:Nat} {σ:List Nat} {ρ:aG} {G:PM} {μ:aB}
variable {d t:Nat} {p:String} {af:Array Edge} {g:Option (Nat×Bool)} {c:Bool}
theorem sI {T:TypeId} {x:Operand} {k:IntKind} {a:Int} {s:ByteArray} (j:Nat) (A:nth l i=some ⟨some d,.index T x y,t,p,af,g⟩) (C:Gd l ρ g c) (E:oP P T=true) (r:Ev ρ c x (.string s)) (q:Ev ρ c y (.int k a)) (D:c=true->a=j) (h1:c=true->j<s.size) (h:Wo dr mc P n l K σ ((d,c,V ((yb s).getD j 0)) :: ρ) G μ):Wo dr mc P n l K (i :: σ) ρ G μ :=
 .pure A (.inl rfl) C (fun f F w e=>by
  obtain rfl:=D f;have v:P.underlying T=some .string:=by grind[oP]
  have m:((yb s).getD j 0).toNat<256:=((yb s).getD j 0).isLt;simp only [execOp,r.eval e f,q.eval e f,Instr.index,asIntOf,Sem.run_bind,Sem.run_pure,Result.andThen_ok,run_underlying v];rw [if_pos (Int.natCast_nonneg j),ym,aR1 (h1 f)];dsimp only;rw [show (UInt8.ofNat ((yb s).getD j 0).toNat).toNat=((yb s).getD j 0).toNat by simp];rfl) h
theorem aNZ {P:Program} {k:IntKind} {a:Nat} {code:BoundsCode} (h:a<=m) (w:World):(Instr.sliceBound (.int k (a:Int)) m code).run P w=.ok a w:=by
 simp[*,Instr.sliceBound,asIntOf]
theorem sD {T:TypeId} {x:Operand} {k:IntKind} {a:Int} {s:ByteArray} (lo:Nat) (r:nth l i=some ⟨some d,.slice T x (some y) none none,t,p,af,g⟩) (v:Gd l ρ g c) (D:oP P T=true) (m:Ev ρ c x (.string s)) (j:Ev ρ c y (.int k a)) (C:c=true->a=lo) (h1:c=true->lo<=s.size) (h:Wo dr mc P n l K σ ((d,c,.string (aV ((yb s).drop lo))) :: ρ) G μ):Wo dr mc P n l K (i :: σ) ρ G μ :=
 .pure r (.inl rfl) v (fun f E w e=>by
  obtain rfl:=C f;have q:P.underlying T=some .string:=by grind[oP]
  have A:aV ((yb s).drop lo)=s.extract lo s.size:=by
   grind[sM,aJS,fS]
  rw [A];simp [execOp,m.eval e f,j.eval e f,Instr.sliceAt,Instr.slice,Instr.sliceBounds,run_underlying q,aNZ (h1 f)]) h
theorem sE {T:TypeId} {x:Operand} {k:IntKind} {a:Int} {s:ByteArray} (e:Nat) (v:nth l i=some ⟨some d,.slice T x none (some y) none,t,p,af,g⟩) (A:Gd l ρ g c) (E:oP P T=true) (q:Ev ρ c x (.string s)) (m:Ev ρ c y (.int k a)) (D:c=true->a=e) (h1:c=true->e<=s.size) (h:Wo dr mc P n l K σ ((d,c,.string (aV ((yb s).take e))) :: ρ) G μ):Wo dr mc P n l K (i :: σ) ρ G μ :=
 .pure v (.inl rfl) A (fun j F w f=>by
  obtain rfl:=D j;have r:P.underlying T=some .string:=by grind[oP]
  have C:aV ((yb s).take e)=s.extract 0 e:=by
   grind[sM,aJS]
  rw [C];simp [execOp,q.eval f j,m.eval f j,Instr.sliceAt,Instr.slice,Instr.sliceBounds,run_underlying r,aNZ (h1 j)]) h
theorem sP {T v:TypeId} {x:Operand} {s1 a:ByteArray} (m:nth l i=some ⟨some d,.binOp .add T x y v,t,p,af,g⟩) (r:Gd l ρ g c) (k:Ev ρ c x (.string s1)) (j:Ev ρ c y (.string a)) (A:c=true->s1.size+a.size<=9223372036854775807) (h:Wo dr mc P n l K σ ((d,c,.string (aV (yb s1++yb a))) :: ρ) G μ):Wo dr mc P n l K (i :: σ) ρ G μ :=
 .pure m (.inl rfl) r (fun f C w e=>by
  have q:¬ (((s1.size+a.size:Nat):Int) > IntKind.i64.max):=by
   grind[IntKind.max,IntKind.bits]
  rw [← aRo,sM,sM];have:(eqGuard .add T x y (.string s1) (.string a)).run P w=.ok () w:=by rfl
  simp only [execOp,k.eval e f,j.eval e f];simp_all[binOp,Op.stringOp]) h
end
def aYi:W:=2197175160#32
def aKy (x:W):W:=x >>> 1 ^^^ (aYi &&& -(x &&& 1#32))
def sZ:Nat->W->W
 | 0,x=>x
 | n+1,x=>aKy (sZ n x)
theorem aUp (m n:Nat) (x:W):sZ m (sZ n x)=sZ (m+n) x:=by
 induction m<;>simp_all[sZ,Nat.succ_add]
def aBU (x:W) (c:Y):W:=sZ 8 (x ^^^ c.setWidth 32)
def mW (sum:W) (xs:List Y):W := ~~~(xs.foldl aBU (~~~sum))
theorem aSs (a:W) (xs ys:List Y):mW (mW a xs) ys=mW a (xs++ys):=by
 simp[mW]
theorem aSt (a:W):mW a []=a:=by simp [mW]
theorem aUb {xs:List Y} {k:Nat} {x:W} (h:k<xs.length):(xs.take (k+1)).foldl aBU x=aBU ((xs.take k).foldl aBU x) (xs.getD k 0):=by
 grind[List.take_succ_eq_append_getElem]
def aGi (x:W):W:=tS x 17+2726488792#32
theorem fx0 {n:BitVec 64} (e:L=[]++cY n m):L.length=m:=by rw [e,qu,kI]
theorem fx2 {A:List Y} {n:BitVec 64} (e:L=A++cY n m):L.length=A.length+m:=by rw [e,qa,kI]
structure Hd where
 kind:Y
 level:Y
 gen:BitVec 64
 epoch:BitVec 64
 num:BitVec 64
 deriving DecidableEq
def Hd.cells (h:Hd):List Value:=[V h.kind,V h.level,uv .u64 h.gen,uv .u64 h.epoch,uv .u64 h.num]
def Hd.zero:Hd:=⟨0,0,0,0,0⟩
def Hd.right (h:Hd):Bool:=if (h.kind.toNat:Int)=2 then decide ((h.level.toNat:Int)<5) else if (h.kind.toNat:Int)=1∨(h.kind.toNat:Int)=3 then decide ((h.level.toNat:Int)=0)&&decide ((h.gen.toNat:Int)=0) else false
theorem aIU {h:Hd} (c:(h.kind.toNat:Int)=2):h.right=decide ((h.level.toNat:Int)<5):=by simp_all[Hd.right]
theorem aQO {h:Hd} (c:(h.kind.toNat:Int)=1):h.right=(decide ((h.level.toNat:Int)=0)&&decide ((h.gen.toNat:Int)=0)):=by
 simp_all[Hd.right]
theorem aQP {h:Hd} (c:(h.kind.toNat:Int)=3):h.right=(decide ((h.level.toNat:Int)=0)&&decide ((h.gen.toNat:Int)=0)):=by
 simp_all[Hd.right]
theorem aQN {h:Hd} (e:¬ (h.kind.toNat:Int)=1) (c:¬ (h.kind.toNat:Int)=2) (a:¬ (h.kind.toNat:Int)=3):h.right=false:=by
 simp_all[Hd.right]
def Hd.three (h:Hd) (k:Nat):BitVec 64:=if k=0 then h.gen else if k=1 then h.epoch else h.num
def Hd.some (h:Hd) (k:Nat):List Y:=[116#8,97#8,110#8,116#8,h.kind,h.level]++(qe k).flatMap (fun i=>cY (h.three i) 8)
theorem aIV (h:Hd) (k:Nat):h.some (k+1)=h.some k++cY (h.three k) 8:=by
 simp[Hd.some,yx]
theorem aQR {h:Hd} {k:Nat} (a:k<3) : [uv .u64 h.gen,uv .u64 h.epoch,uv .u64 h.num][k]? = Option.some (uv .u64 (h.three k)):=by
 grind[Hd.three]
def bG (h:Hd):List Y:=[116#8,97#8,110#8,116#8,h.kind,h.level]++cY h.gen 8++cY h.epoch 8++cY h.num 8
theorem aQQ (h:Hd):h.some 3=bG h:=by rfl
theorem Hd.some_len (h:Hd) (k:Nat):(h.some k).length=6+8*k:=by
 induction k with
 | zero=>rfl
 | succ k ih=>grind[aIV,kI]
theorem jI (h:Hd):(bG h).length=30:=by rfl
def eC (xs:List Y):Nat->BitVec 64
 | 0=>0
 | k+1=>eC xs k ||| (xs.getD k 0).setWidth 64 <<< (8*k)
def jA (n:BitVec 64):Nat->Y:=fun i=>if i<8 then (n >>> (8*i)).setWidth 8 else 0#8
theorem aXc (n:BitVec 64) {i:Nat} (h:i<12):jL (jA n) 8 i=jA n i:=by
 by_cases c:i<8
 ·grind[nE]
 ·have:∀ k,k<=i->jL (jA n) k i=0#8:=fun k=>by
   induction k with
   | zero=>intro _; rfl
   | succ k ih=>intro a; show bM (jL (jA n) k) k _ i=_; unfold bM; grind
  simp_all[jA,if_neg]
def aDZ (key use:List Y):Nat->List Y
 | 0=>[]
 | k+1=>shaL' key (aDZ key use k) use k
where shaL' (key last use:List Y) (k:Nat):List Y:=yl 32 (wM key (last++use++[qb 8 (k+1)]))
def wC (key use:List Y):Nat->List Y
 | 0=>[]
 | k+1=>wC key use k++aDZ key use (k+1)
theorem aUE (c a:List Y) (k:Nat):(aDZ c a (k+1)).length=32:=bY _ _
theorem aDa (c a:List Y) (k:Nat):(wC c a k).length=32*k:=by
 induction k with
 | zero=>rfl
 | succ k ih=>grind[wC,aUE]
theorem aUF (c a:List Y) (k:Nat):(wC c a k).drop (32*k-32)=aDZ c a k:=by
 cases k with
 | zero=>rfl
 | succ k=>grind[wC,aDa]
def aNi:List Y:=[116#8,97#8,110#8,116#8,97#8,108#8,117#8,115#8]
def aDQ (root:Nat->Y) (use:List Y):List Y:=wC (yl 32 (wM aNi (yl 32 root))) use 2
def fN (root:Nat->Y) (use:List Y):Nat->Y:=fun i=>(aDQ root use).getD i 0
def fO (root:Nat->Y) (use:List Y):Nat->Y:=fun i=>(aDQ root use).getD (32+i) 0
theorem aV0 {root:Nat->Y} {a A B:List Y} (e:L=aDQ root a) (f:A=L.take 32) (c:B=L.drop 32) :
  ba 32 (fun i=>A.getD i 0)++ba 32 (fun i=>B.getD i 0)=ba 32 (fN root a)++ba 32 (fO root a):=by
 simp_all[ba,fN,fO]
theorem aV2 {zs:List Value} (a:zs.length=64) (f g:Nat->Y):put (put zs 0 (ba 32 f)) 32 (ba 32 g)=ba 32 f++ba 32 g:=by
 simp_all[put,cF]
theorem tC (f g:Nat->Y):(ba 32 f++ba 32 g).length=64:=by rfl
theorem aLP (f g:Nat->Y):∀ u∈ba 32 f++ba 32 g,u.oneCell'=true:=uU (pR _ _) (pR _ _)
def pB (xs:List Y):Hd:=⟨xs.getD 4 0,xs.getD 5 0,eC (xs.drop 6) 8,eC (xs.drop 14) 8,eC (xs.drop 22) 8⟩
def nM (xs:List Y):Hd×Int:=if xs.length<30 then (Hd.zero,10) else if xs.take 4=[116#8,97#8,110#8,116#8]∧(pB xs).right=true then (pB xs,0) else (Hd.zero,70)
theorem bBv {xs:List Y} (h:xs.length<30):nM xs=(Hd.zero,10):=by simp_all[nM]
theorem bBl {xs:List Y} (h:¬ xs.length<30) (c:¬ (xs.take 4=[116#8,97#8,110#8,116#8]∧(pB xs).right=true)):nM xs=(Hd.zero,70):=by simp_all[nM,if_neg]
theorem bBq {xs:List Y} (h:¬ xs.length<30) (c:xs.take 4=[116#8,97#8,110#8,116#8]∧(pB xs).right=true):nM xs=(pB xs,0):=by simp_all[nM]
theorem jC {a b c d e:Value} (h1:a.oneCell'=true) (h2:b.oneCell'=true) (h3:c.oneCell'=true) (g:d.oneCell'=true) (f:e.oneCell'=true):∀ u∈[a,b,c,d,e],u.oneCell'=true:=by
 simp_all
theorem bE0 {A B:List Y} {k:Nat} (h:∀ i,i<k->A.getD i 0=B.getD i 0):eC A k=eC B k:=by
 induction k with
 | zero=>rfl
 | succ k ih=>grind[eC]
theorem aGG {xs:List Y} (e:L=(xs.drop 6).take (30-6)):(⟨xs.getD 4 0,xs.getD 5 0,eC L 8,eC (L.drop 8) 8,eC ((L.drop 8).drop 8) 8⟩ : Hd)=pB xs:=by
 simp_all[pB,eC]
theorem aOg (L:List Y):((aV L).toList == (⟨#[116,97,110,116]⟩ : ByteArray).toList)=decide (L=[116#8,97#8,110#8,116#8]):=by
 have e:(⟨#[116,97,110,116]⟩ : ByteArray).toList=(aV [116#8,97#8,110#8,116#8]).toList:=by rfl
 rw [e,aRp]
theorem bBm {xs:List Y} (a:L=xs.take 4) (c:(!((aV L).toList == (⟨#[116,97,110,116]⟩ : ByteArray).toList) || !(pB xs).right)=true) (h:xs.take 4=[116#8,97#8,110#8,116#8]∧(pB xs).right=true):False:=by
 grind[aOg]
theorem bBn {xs:List Y} (a:L=xs.take 4) (c:(!((aV L).toList == (⟨#[116,97,110,116]⟩ : ByteArray).toList) || !(pB xs).right)=false):xs.take 4=[116#8,97#8,110#8,116#8]∧(pB xs).right=true:=by
 rw [aOg,a,zc,jj,jj,decide_eq_true_eq] at c;exact c
def bV (n:Nat):List Y:=if h:n<128 then [qb 8 n] else qb 8 (n%128+128) :: bV (n / 128)
termination_by n
decreasing_by omega
theorem yR {n:Nat} (h:n<128):bV n=[BitVec.ofNat 8 n]:=by rw [bV,dif_pos h]
theorem aCE {n:Nat} (h:¬ n<128):bV n=BitVec.ofNat 8 (n%128+128) :: bV (n / 128):=by rw [bV,dif_neg h]
theorem aGv (n:Nat):0<(bV n).length:=by
 grind[yR,aCE]
theorem aCF:∀ (k n:Nat),n<128^k->0<k->(bV n).length<=k
 | 0,_,_,h=>by omega
 | k+1,n,h,_=>by
  by_cases hn:n<128
  ·simp_all[yR]
  ·rw [aCE hn];by_cases hk:k=0
   ·simp_all
   ·have:=aCF k (n / 128) om om;simp_all
theorem iR {n:Nat} (h:n<18446744073709551616):(bV n).length<=10:=aCF 10 n om dc
def iH:Nat->Nat->List Y->Nat×Nat×Int
 | _,_,[]=>(0,0,10)
 | k,acc,x :: r =>
  if k=9∧1<x.toNat then (0,0,11)
  else if x.toNat<128 then (if 0<k∧x.toNat=0 then (0,0,11) else (acc+x.toNat*128^k,k+1,0))
  else iH (k+1) (acc+(x.toNat-128)*128^k) r
def fH (b:List Y):Nat×Nat×Int:=iH 0 0 b
theorem toN {n:Nat} (h:n<256):(BitVec.ofNat 8 n).toNat=n:=by simp_all
theorem bEq:(128:Nat)^9=9223372036854775808:=by decide
theorem aXk:∀ (m n k a:Nat) (r:List Y),n<=m->a+n*128^k<18446744073709551616->(k=0∨0<n)->k<=9->iH k a (bV n++r)=(a+n*128^k,k+(bV n).length,0):=by
 intro m;induction m with
 | zero =>
  simp_all[yR,iH]
 | succ m ih =>
  intro n k a r h q p l;by_cases f:n<128
  ·rw [yR f];have c:=toN (n:=n) om;have j:¬ (k=9∧1<(qb 8 n).toNat):=by
    grind
   simp only [ww,qu,iH];grind
  ·rw [aCE f];have c:=toN (n:=n%128+128) om;have i:k<9:=by
    grind
   simp only [ww,iH];rw [if_neg om,if_neg om,c,Nat.add_sub_cancel];have e:a+n%128*128^k+n / 128*128^(k+1)=a+n*128^k:=by
    rw [yy,Nat.add_assoc];congr 1;have g:n / 128*(128^k*128)=(n / 128*128)*128^k:=by grind
    rw [g,←Nat.add_mul];grind
   grind
theorem aXl {n:Nat} (h:n<18446744073709551616) (r:List Y):fH (bV n++r)=(n,(bV n).length,0):=by
 have:=aXk n n 0 0 r (qd _) om (.inl rfl) om;simp_all[fH]
theorem aYl {k:Nat} (h:j<=k):(128:Nat)^j<=128^k:=yv dc h
theorem aMP:∀ (b:List Y) (k acc v j:Nat),acc<128^k->k<=9->iH k acc b=(v,j,0)->∃ n,v=acc+n*128^k∧(0<k->0<n)∧j=k+(bV n).length∧b=bV n++b.drop (bV n).length∧v<18446744073709551616
 | [],k,acc,v,j,_,_,h=>by grind[iH]
 | x :: r,k,acc,v,j,ha,hk,h=>by
  simp only [iH] at h;have hx:=x.isLt;split at h
  ·grind
  rename_i t;split at h
  ·rename_i c;split at h
   ·grind
   rename_i A;simp only [Prod.mk.injEq,and_true] at h;obtain ⟨rfl,rfl⟩:=h;have q:qb 8 x.toNat=x:=by simp
   refine ⟨x.toNat,rfl,fun i=>om,by simp_all[yR],by simp_all[yR],?_⟩;rcases ya k 9 with f | l
   ·have y:acc+x.toNat*128^k<128^(k+1):=by
     rw [yy];have:x.toNat*128^k<=127*128^k:=xc _ om;omega
    have w:=aYl (show k+1<=9 by omega);omega
   grind
  rename_i c;have g:k<9:=by omega
  obtain ⟨n,F,m,E,D,C⟩:=aMP r (k+1) (acc+(x.toNat-128)*128^k) v j (by
   rw [yy];have:(x.toNat-128)*128^k<=127*128^k:=xc _ om;omega) om h
  have p:=m om;have a:¬ (n*128+(x.toNat-128))<128:=by omega
  have e:bV (n*128+(x.toNat-128))=x :: bV n:=by
   rw [aCE a];have q1:(n*128+(x.toNat-128))%128+128=x.toNat:=by omega
   grind
  grind
theorem aMQ {b:List Y} {v:Nat} (h:fH b=(v,j,0)):b=bV v++b.drop j∧v<18446744073709551616∧j=(bV v).length∧j<=b.length:=by
 obtain ⟨n,f,_,e,c,a⟩:=aMP b 0 0 v j (by simp) om h;grind
theorem aMR:∀ (b:List Y) (k acc v j:Nat) (e:Int),iH k acc b=(v,j,e)->e≠0->v=0∧j=0
 | [],k,acc,v,j,e,h,he=>by
  grind[iH]
 | x :: r,k,acc,v,j,e,h,he=>by
  simp only [iH] at h;split at h
  ·simp only [Prod.mk.injEq] at h; exact ⟨h.1.symm,h.2.1.symm⟩
  ·split at h
   ·split at h
    ·simp only [Prod.mk.injEq] at h; exact ⟨h.1.symm,h.2.1.symm⟩
    ·simp only [Prod.mk.injEq] at h; exact absurd h.2.2.symm he
   ·exact aMR r _ _ _ _ _ h he
structure Rd' where
 rest:List Y
 bad:Int
def gN (s:Rd'):Nat×Rd':=if s.bad≠0 then (0,s) else ((fH s.rest).1,⟨s.rest.drop (fH s.rest).2.1,(fH s.rest).2.2⟩)
def lV (most:Nat) (s:Rd'):List Y×Rd' :=
 if s.bad≠0 then ([],s)
 else if (fH s.rest).2.2≠0 then ([],⟨s.rest,(fH s.rest).2.2⟩)
 else if most<(fH s.rest).1 then ([],⟨s.rest,4⟩)
 else if s.rest.length-(fH s.rest).2.1<(fH s.rest).1 then ([],⟨s.rest,10⟩)
 else ((s.rest.drop (fH s.rest).2.1).take (fH s.rest).1,⟨s.rest.drop ((fH s.rest).2.1+(fH s.rest).1),0⟩)
def lF (s:Rd'):Y×Rd':=if s.bad≠0 then (0,s) else if s.rest.length<1 then (0,⟨s.rest,10⟩) else (s.rest.getD 0 0,⟨s.rest.drop 1,0⟩)
def gL (xs:List Y):List Y:=bV xs.length++xs
noncomputable def B (p:Prop):Bool:=@decide p (Classical.propDecidable p)
theorem aIC {p:Prop}:B p=true↔p:=by simp[B]
theorem vF {p:Prop} (h:p):B p=true:=aIC.2 h
theorem aCj {p:Prop} (h:¬ p):B p=false:=by
 simp_all[B]
structure Opts where
 mem:Int
 table:Int
 zero:Int
 base:Int
 block:Int
 every:Int
 bits:Int
def Opts.cells (o:Opts):List Value:=[.int .i64 o.mem,.int .i64 o.table,.int .i64 o.zero,.int .i64 o.base,.int .i64 o.block,.int .i64 o.every,.int .i64 o.bits]
def Opts.val (o:Opts):Value:=.agg o.cells.toArray
def rY (n m:Int):Bool:=decide (0<n)&&decide (n<=m)
def nI (o:Opts):Bool :=
 rY o.mem 1048576&&rY o.table 1048576&&rY o.block 262144&&rY o.zero 64&&rY o.base 1073741824&&rY o.every 1024&&rY o.bits 64
theorem aNF {o:Opts} (h:nI o=true):0<o.base∧o.base<=1073741824:=by
 simp_all[nI,rY]
def tE (o:Opts) (level:Int):Int:=if level<1∨3<level∨nI o=false then 0 else o.base*4^(level-1).toNat
theorem aWd {o:Opts} {a:Int} (h1:1<=a) (h2:a<=3) (h:nI o=true):eV [.int .i64 (IntKind.i64.wrap (o.base*2^(min (2*(a-1)).toNat IntKind.i64.bits)))]=.int .i64 (tE o a):=by
 have c:=aNF h;have:a=1∨a=2∨a=3:=by omega
 rw [tE,if_neg (by simp_all)];rcases this with rfl|rfl|rfl
 ·show Value.int .i64 (IntKind.i64.wrap (o.base*2^0))=.int .i64 (o.base*4^0);grind[bL]
 ·show Value.int .i64 (IntKind.i64.wrap (o.base*2^2))=.int .i64 (o.base*4^1);grind[bL]
 ·show Value.int .i64 (IntKind.i64.wrap (o.base*2^4))=.int .i64 (o.base*4^2);grind[bL]
theorem aYm (o:Opts) (k:Nat) (h:nI o=true) (a:(k:Int)<=2):0<=o.base*4^k∧o.base*4^k<=17179869184:=by
 have c:=aNF h;match k,a with
 | 0,_=>omega
 | 1,_=>omega
 | 2,_=>omega
 | n+3,a=>omega
structure Meta where
 level:Int
 gen:Int
 epoch:Int
 number:Int
 size:Int
 count:Int
 min:ByteArray
 max:ByteArray
 root:Nat→Int
def Meta.cells (m:Meta):List Value :=
 [.int .u8 m.level,.int .u64 m.gen,.int .u64 m.epoch,.int .u64 m.number,.int .i64 m.size,.int .i64 m.count,.string m.min,.string m.max]++(qe 32).map fun i=>.int .u8 (m.root i)
def Meta.val (m:Meta):Value:=.agg m.cells.toArray
def Meta.zero:Meta:=⟨0,0,0,0,0,0,xe,xe,fun _=>0⟩
theorem Meta.len (m:Meta):m.cells.length=40:=rfl
theorem Meta.one (m:Meta):∀ u∈m.cells,u.oneCell'=true:=by
 intro u a;simp only [Meta.cells,qv,qg,qj,or_false,qi] at a;rcases a with (rfl|rfl|rfl|rfl|rfl|rfl|rfl|rfl) | ⟨i,_,rfl⟩<;>rfl
instance qo14 {m:Meta}:QOne m.cells:=⟨Meta.one m⟩
instance ql15 {m:Meta}:QLen m.cells 40:=⟨rfl⟩
structure Meta.wf (m:Meta):Prop where
 level:0≤m.level∧m.level<256
 number:0≤m.number∧m.number<18446744073709551616
 size : -9223372036854775808≤m.size∧m.size≤9223372036854775807
 minL:m.min.size≤9223372036854775807
 maxL:m.max.size≤9223372036854775807
 gen:0≤m.gen∧m.gen≤18446744073709551615
 epoch:0≤m.epoch∧m.epoch≤18446744073709551615
 count : -9223372036854775808≤m.count∧m.count≤9223372036854775807
 root:∀ j,j<32→0≤m.root j∧m.root j≤255
structure State where
 lv:Nat→List Meta
 log:Int
 next:Int
 seq:Int
 least:Int
 gens:Nat→Int
def State.cells (s:State) (hd:Nat->Sh):List Value :=
 (qe 5).map (fun i=>(hd i).val (s.lv i).length)++[.int .u64 s.log,.int .u64 s.next,.int .u64 s.seq,.int .u64 s.least]++(qe 5).map fun i=>.int .u64 (s.gens i)
def State.val (s:State) (hd:Nat->Sh):Value:=.agg (s.cells hd).toArray
theorem State.cell_lv (s:State) (hd:Nat->Sh) {k:Nat} (h:k<5):(s.cells hd)[0+k*1]? = some ((hd k).val (s.lv k).length):=by
 grind[State.cells]
theorem State.cell_gen (s:State) (hd:Nat->Sh) {k:Nat} (h:k<5):(s.cells hd)[9+k*1]? = some (.int .u64 (s.gens k)):=by
 match k,h with
 | 0,_=>rfl | 1,_=>rfl | 2,_=>rfl | 3,_=>rfl | 4,_=>rfl
structure StR (G:PM) (s:State) (hd:Nat→Sh):Prop where
 lv:∀ i,i<5→SlR G 40 Meta.cells (hd i) (s.lv i)
 len:∀ i,i<5→(s.lv i).length*112≤140737488351232
 wf:∀ i,i<5→∀ m∈s.lv i,m.wf
theorem StR.mono {G c:PM} {s:State} {hd:Nat->Sh} (h:StR G s hd) (a:PM.le G c):StR c s hd:=⟨fun i e=>(h.lv i e).mono a,h.len,h.wf⟩
theorem SlR.get {G:PM} {h:Sh} {xs:List Meta} (s:SlR G 40 Meta.cells h xs) {k:Nat} (a:k<xs.length):RdNP G h.b (h.o+k*40) (xs.getD k Meta.zero).cells :=
 s.rd k _ (by grind)
theorem SlR.gat {G:PM} {h:Sh} {xs:List Meta} (s:SlR G 40 Meta.cells h xs) {j:Int} (k:Nat) (c:j.toNat=k) (a:k<xs.length):RdNP G h.b (h.o+j.toNat*40) (xs.getD k Meta.zero).cells:=by
 rw [c]; exact s.get a
theorem yD {xs:List Meta} {k:Nat} (h:k<xs.length):xs.getD k Meta.zero∈xs:=by simp [h]
def lt (a b:ByteArray):Bool:=Op.bytesLess a.toList b.toList
def le (a b:ByteArray):Bool:=Op.bytesLess a.toList b.toList||a.toList == b.toList
def good (s:State) (m:Meta):Bool :=
 decide (m.level<5)&&le m.min m.max&&decide ((m.min.size:Int)<=1024)&&decide ((m.max.size:Int)<=1024)&&decide (m.count>=1)&&decide (m.size>=1)&&decide (m.number<s.next)&&decide (m.gen<=s.gens m.level.toNat)
def wT (level:Int) (a b:Meta):Bool:=if level=0 then decide (b.number<a.number) else lt a.max b.min
theorem aN8 (a b:Meta) (c:0<=a.level):(if (a.level == 0)=true then decide (a.number > b.number) else lt a.max b.min)=wT a.level a b:=by
 simp[wT]
theorem aUT {s:State} {m:Meta} (h1:m.level<5) (h2:(!(Op.bytesLess m.min.toList m.max.toList||m.min.toList == m.max.toList))=false)
  (h3:(if ((m.max.size:Nat):Int) > ((m.min.size:Nat):Int) then ((m.max.size:Nat):Int) else ((m.min.size:Nat):Int))<=1024) (f:1<=m.count) (e:1<=m.size) :
  eV [.bool (decide (m.number<s.next)&&decide (m.gen<=s.gens m.level.toNat))]=.bool (good s m):=by
 have a:le m.min m.max=true:=by grind[le]
 have c:((m.min.size:Nat):Int)<=1024∧((m.max.size:Nat):Int)<=1024:=by omega
 simp_all[eV,good]
def tot (s:State):Nat->Int
 | 0=>0
 | n+1=>tot s n+(s.lv n).length
theorem aCa (s:State):∀ n,0<=tot s n
 | 0=>Int.le_refl _
 | n+1=>by have:=aCa s n; grind[tot]
theorem aEg (s:State):∀ {n m:Nat},n<=m->tot s n<=tot s m:=by
 intro n m h;induction h with
 | refl=>omega
 | step _ ih=>grind[tot]
def nums (l:List Meta):List Int:=l.map (·.number)
def dI (s:State):Nat->List Meta
 | 0=>[]
 | n+1=>dI s n++s.lv n
theorem aE8 (s:State):∀ n,((dI s n).length:Int)=tot s n
 | 0=>rfl
 | n+1=>by simp only [dI,tot,List.length_append,←aE8 s n]; omega
theorem aGk {s:State} {m:Meta}:∀ {n:Nat},m∈dI s n↔∃ i,i<n∧m∈s.lv i
 | 0=>by simp [dI]
 | n+1=>by
  simp only [dI,List.mem_append,aGk (n:=n)];constructor
  ·rintro (⟨i,hi,hm⟩ | hm)
   ·exact ⟨i,by omega,hm⟩
   ·exact ⟨n,by omega,hm⟩
  ·rintro ⟨i,hi,hm⟩;by_cases h:i=n
   ·subst h; exact .inr hm
   ·exact .inl ⟨i,by omega,hm⟩
def zM (s:State) (i:Nat) (l:List Meta):Prop :=
 (∀ m∈l,m.level=i∧good s m=true)∧∀ j,j+1<l.length->wT i (l.getD j Meta.zero) (l.getD (j+1) Meta.zero)=true
structure RightP (s:State):Prop where
 seq:s.seq≤72057594037927935
 least:s.least≤72057594037927935
 log:s.log≤s.next
 few:tot s 5≤1024
 lv:∀ i,i<5→zM s i (s.lv i)
 apart:∀ a b,a<(dI s 5).length→b<a→((dI s 5).getD a Meta.zero).number≠((dI s 5).getD b Meta.zero).number
noncomputable def fE (s:State):Bool:=B (RightP s)
theorem aAk {s:State} (h:RightP s):fE s=true:=vF h
theorem aZU {s:State} (h:¬ RightP s):fE s=false:=aCj h
theorem oN {s:State} (h:fE s=true):RightP s:=aIC.1 h
theorem aW3 (l:List Meta):∀ x∈l,x.cells.length=40:=fun x _=>x.len
theorem aLt (l:List Meta):∀ u∈l.flatMap Meta.cells,u.oneCell'=true:=fun u a=>by
 obtain ⟨m,_,c⟩:=xy.1 a;exact m.one u c
theorem aF5 {s:State} (h:¬ RightP s):eV [.bool false]=.bool (fE s):=by rw [aZU h]; rfl
theorem aUM {s:State} (h:RightP s):eV [.bool true]=.bool (fE s):=by rw [aAk h]; rfl
theorem aNV {s:State} {i k:Nat} (e:i<5) (c:k<(s.lv i).length) (h:(((s.lv i).getD k Meta.zero).level != (i:Int))=true∨good s ((s.lv i).getD k Meta.zero)=false):¬ RightP s:=by
 intro a;have:=(a.lv i e).1 _ (yD c);simp_all
theorem State.arr_lv (s:State) (hd:Nat->Sh) {k:Nat} (h:k<5):(((s.cells hd).drop 0).take 5)[k]? = some ((hd k).val (s.lv k).length):=by
 simp_all[State.cells]
theorem RdNP.add {G:PM} {b:Nat} {cs:List Value} {T:TypeId}:RdNP (G.add b (cl cs T)) b 0 cs:=fun j v a=>by
 rw [wb]; exact RdP.blk (bP _ _ _) a
def cnt (L:List Int) (x:Int):Int:=if x∈L then 1 else 0
def oX (L:List Int) (x:Int):Option Value:=if x∈L then some (.int .i64 1) else none
theorem aSS (L:List Int) (x:Int):(oX L x).getD (.int .i64 0)=.int .i64 (cnt L x):=by grind[oX,cnt]
theorem aSR (L:List Int) (x:Int):0<=cnt L x∧cnt L x<=1:=by grind[cnt]
theorem aSY (m:Int->Option Value) (x:Int) (u z:Value):((fun j=>if j=x then some u else m j) x).getD z=u:=by simp
theorem aSW {L:List Int} {x:Int} (h:x∉L):(fun j=>if j=x then some (Value.int .i64 (cnt L x+1)) else oX L j)=oX (L++[x]):=by
 grind[oX,cnt]
theorem aSV {L:List Int} {x:Int} (h:cnt L x+1<=1):x∉L:=by grind[cnt]
theorem aST {L:List Int} {x:Int} (h:1<cnt L x+1):x∈L:=by
 grind[cnt]
def tZ (l:List Meta):Prop:=∀ a b,a<l.length->b<a->(l.getD a Meta.zero).number≠(l.getD b Meta.zero).number
theorem bEk {l r:List Meta} {k:Nat} (h:k<l.length):(l++r).getD k Meta.zero=l.getD k Meta.zero:=by
 grind
theorem bEj {l r:List Meta} {m:Meta}:(l++m :: r).getD l.length Meta.zero=m:=by simp
theorem aTW:tZ []:=fun a b h=>by grind
theorem aTX {l:List Meta} {m:Meta} (h:tZ l) (hm:m.number∉nums l):tZ (l++[m]):=by
 grind[tZ,nums]
theorem aI4 (s:State) {i:Nat}:∀ {n:Nat},i<n->∃ r,dI s n=dI s i++s.lv i++r
 | 0,h=>by omega
 | n+1,h=>by
  by_cases e:i=n
  ·simp_all[dI]
  ·obtain ⟨r,hr⟩:=aI4 s (i:=i) (n:=n) om;simp_all[dI]
theorem zE {l:List Meta} {k:Nat} (h:k<l.length):l.take (k+1)=l.take k++[l.getD k Meta.zero]:=by
 simp_all
theorem aZq {s:State} {i k:Nat} (j:i<5) (n:k<(s.lv i).length) (h:((s.lv i).getD k Meta.zero).number∈nums (dI s i++(s.lv i).take k)):¬ RightP s:=by
 intro e;obtain ⟨r,c⟩:=aI4 _ j;have a:dI s 5=(dI s i++(s.lv i).take k)++((s.lv i).getD k Meta.zero) :: ((s.lv i).drop (k+1)++r):=by
  rw [c];have:s.lv i=(s.lv i).take k++(s.lv i).getD k Meta.zero :: (s.lv i).drop (k+1):=by
   simp_all
  grind
 obtain ⟨m,g,f⟩:=qi.1 h;obtain ⟨b,l,rfl⟩:=yo g;have:=e.apart (dI s i++(s.lv i).take k).length b (by grind) l;grind
theorem aSZ (s:State) (i b:Nat):Res.mp b .u64 (oX (nums (dI s i)))=Res.mp b .u64 (oX (nums (dI s i++(s.lv i).take 0))):=by simp
theorem aSU {s:State} {i k b:Nat} (h:(s.lv i).length<=k):Res.mp b .u64 (oX (nums (dI s i++(s.lv i).take k)))=Res.mp b .u64 (oX (nums (dI s (i+1)))):=by
 rw [qz h]; rfl
theorem aSX {s:State} {i k b:Nat} (a:k<(s.lv i).length) (h:((s.lv i).getD k Meta.zero).number∉nums (dI s i++(s.lv i).take k)) :
  Res.mp b .u64 (fun j=>if j=((s.lv i).getD k Meta.zero).number then some (Value.int .i64 (cnt (nums (dI s i++(s.lv i).take k)) ((s.lv i).getD k Meta.zero).number+1)) else oX (nums (dI s i++(s.lv i).take k)) j) =
   Res.mp b .u64 (oX (nums (dI s i++(s.lv i).take (k+1)))):=by
 rw [aSW h,zE a];simp [nums]
structure Part (s:State) (i k:Nat):Prop where
 le:k≤(s.lv i).length
 good:∀ j,j<k→((s.lv i).getD j Meta.zero).level=i∧good s ((s.lv i).getD j Meta.zero)=true
 pair:∀ j,j+1<k→wT i ((s.lv i).getD j Meta.zero) ((s.lv i).getD (j+1) Meta.zero)=true
 dist:tZ (dI s i++(s.lv i).take k)
theorem Part.zero {s:State} {i:Nat} (h:tZ (dI s i)):Part s i 0:=⟨qr _,fun j a=>om,fun j a=>om,by simp_all⟩
theorem Part.step {s:State} {i k:Nat} (h:Part s i k) (a:k<(s.lv i).length) (h1:((s.lv i).getD k Meta.zero).level=i∧Go.Tan.good s ((s.lv i).getD k Meta.zero)=true)
  (h2:((s.lv i).getD k Meta.zero).number∉nums (dI s i++(s.lv i).take k)) (h3:0<k->wT i ((s.lv i).getD (k-1) Meta.zero) ((s.lv i).getD k Meta.zero)=true):Part s i (k+1):=by
 refine ⟨om,fun j c=>?_,fun j c=>?_,?_⟩
 ·grind[good]
 ·by_cases e:j+1=k
  ·grind
  exact h.pair j om
 rw [zE a,←qk]; exact aTX h.dist h2
theorem Part.lvOk {s:State} {i k:Nat} (h:Part s i k) (e:(s.lv i).length<=k):zM s i (s.lv i) :=
 ⟨fun m a=>by
  obtain ⟨q,c,rfl⟩:=yo a;have:=h.good q om;simp_all,fun j f=>h.pair j om⟩
theorem Part.next {s:State} {i k:Nat} (h:Part s i k) (a:(s.lv i).length<=k):tZ (dI s (i+1)):=by
 have:=h.dist; simp_all[qz,dI]
theorem aZr {s:State} {i:Nat} (e:i<5) (h:1024-tot s i<(s.lv i).length):¬ RightP s:=by
 intro a;have c:=aEg s (show i+1<=5 by omega);rw [show tot s (i+1)=tot s i+(s.lv i).length from rfl] at c;have:=a.few;omega
theorem aZs {s:State} (h:72057594037927935<(if s.least > s.seq then s.least else s.seq)∨s.next<s.log):¬ RightP s:=by
 intro a;have f:=a.seq; have e:=a.least; have c:=a.log;omega
theorem aZp {s:State} {i:Nat} (h1:(if s.least > s.seq then s.least else s.seq)<=72057594037927935∧s.log<=s.next) (c:i=5) (ht:tot s i<=1024) (a:∀ j,j<i->zM s j (s.lv j)) (hd:tZ (dI s i)):RightP s:=by
 subst c;refine ⟨?_,?_,h1.2,ht,a,hd⟩
 ·omega
 omega
theorem aZv {s:State} {i k:Nat} (g:i<5) (j:k<(s.lv i).length) (f:Part s i k)
  (h:((((s.lv i).getD k Meta.zero).level != (i:Int)) || !good s ((s.lv i).getD k Meta.zero)||decide (cnt (nums (dI s i++(s.lv i).take k)) ((s.lv i).getD k Meta.zero).number+1 > 1) ||
   (decide ((k:Int) > 0) && !wT ((s.lv i).getD (k-1) Meta.zero).level ((s.lv i).getD (k-1) Meta.zero) ((s.lv i).getD k Meta.zero)))=true):¬ RightP s:=by
 simp only [wv,dP,xm] at h;rcases h with ((h | h) | h) | ⟨l,c⟩
 ·grind[aNV]
 ·grind[aNV]
 ·grind[aZq,aST]
 ·intro e;have a:=(e.lv i g).2 (k-1) om;rw [show k-1+1=k by omega] at a;rw [(f.good (k-1) om).1,a] at c;cases c
theorem aZw {s:State} {i k:Nat} (f:k<(s.lv i).length) (c:Part s i k)
  (h:((((s.lv i).getD k Meta.zero).level != (i:Int)) || !good s ((s.lv i).getD k Meta.zero)||decide (cnt (nums (dI s i++(s.lv i).take k)) ((s.lv i).getD k Meta.zero).number+1 > 1) ||
   (decide ((k:Int) > 0) && !wT ((s.lv i).getD (k-1) Meta.zero).level ((s.lv i).getD (k-1) Meta.zero) ((s.lv i).getD k Meta.zero)))=false) :
  Part s i (k+1)∧((s.lv i).getD k Meta.zero).number∉nums (dI s i++(s.lv i).take k):=by
 simp only [zc,Bool.and_eq_false_iff,decide_eq_false_iff_not,jj,bne_eq_false_iff_eq] at h;obtain ⟨⟨⟨j,g⟩,l⟩,a⟩:=h;have e:=aSV (show cnt (nums (dI s i++(s.lv i).take k)) ((s.lv i).getD k Meta.zero).number+1<=1 by omega);refine ⟨c.step f ⟨j,g⟩ e fun m=>?_,e⟩;rcases a with a | a
 ·omega
 rw [(c.good (k-1) om).1] at a; exact a
def over:Int->List Meta->Bool
 | _,[]=>false
 | r,m :: ms=>if m.size > r then true else over (r-m.size) ms
def sY (s:State) (o:Opts) (level:Int):Bool:=if level=0 then decide (((s.lv 0).length:Int)>=o.zero) else over (tE o level) (s.lv level.toNat)
theorem aWe (o:Opts) (a:Int):0<=tE o a∧tE o a<=1000000000000:=by
 unfold tE;split
 ·omega
 ·rename_i h;simp only [not_or,Bool.not_eq_false] at h;have:=aYm o (a-1).toNat h.2.2 om;omega
theorem aJ7 {l:List Meta} {k:Nat} (h:k<l.length):l.drop k=l.getD k Meta.zero :: l.drop (k+1):=by
 simp_all
theorem aYJ {L r:Int} {l:List Meta} {k:Nat} (h:over L l=over r (l.drop k)) (a:k<l.length) (c:(l.getD k Meta.zero).size<=r):over L l=over (r-(l.getD k Meta.zero).size) (l.drop (k+1)):=by
 rw [h,aJ7 a]; simp_all[over,if_neg]
theorem aYI {r:Int} {l:List Meta} {k:Nat} (a:k<l.length) (c:r<(l.getD k Meta.zero).size):over r (l.drop k)=true:=by
 rw [aJ7 a]; simp_all[over]
theorem aYH {r:Int} {l:List Meta} {k:Nat} (a:l.length<=k):over r (l.drop k)=false:=by
 rw [xt a]; rfl
theorem aZW {s:State} {a:Int} (h:fE s=true) (e:a<5):∀ m∈s.lv a.toNat,1<=m.size:=by
 intro m c;have:=((oN h).lv a.toNat om).1 m c;simp_all[good]
def aAQ (s:State) (level:Int) (m:Meta):Bool:=decide (m.gen<s.gens level.toNat)
def eK (p:Meta->Bool) (l:List Meta):Int:=match l.findIdx? p with | some i=>i | none => -1
theorem aU6 {p:Meta->Bool} {l:List Meta} {k:Nat} (h:∀ j,j<k->p (l.getD j Meta.zero)=false) (a:p (l.getD k Meta.zero)=false):∀ j,j<k+1->p (l.getD j Meta.zero)=false:=by
 grind
theorem aU5 {p:Meta->Bool} {l:List Meta} {k:Nat} (e:l.length<=k) (h:∀ j,j<k->p (l.getD j Meta.zero)=false):eV [.int .i64 (-1)]=.int .i64 (eK p l):=by
 have:l.findIdx? p=none:=by
  rw [List.findIdx?_eq_none_iff];intro m a;obtain ⟨q,c,rfl⟩:=yo a;have:=h q om;simp_all
 grind[eK,eV]
theorem aU3 {p:Meta->Bool} {l:List Meta} {k:Nat} (c:k<l.length) (h:∀ j,j<k->p (l.getD j Meta.zero)=false) (a:p (l.getD k Meta.zero)=true):eV [.int .i64 (k:Int)]=.int .i64 (eK p l):=by
 have:l.findIdx? p=some k:=by
  grind[xu]
 simp_all[eK,eV]
def lO (x:Int):List Value:=[.int .u64 x]
theorem aXo {l:List Meta} {k:Nat} {v:Value} (a:k<l.length):Res.row v E 1 (k+1) ((nums (l.take k)).flatMap lO++[.int .u64 (l.getD k Meta.zero).number])=Res.row v E 1 (k+1) ((nums (l.take (k+1))).flatMap lO):=by
 grind[zE,nums,lO]
theorem aXp (l:List Meta) (h:Sh):eV [h.val l.length]=h.val (nums l).length:=by simp [eV,nums]
def nF (lo hi:ByteArray) (m:Meta):Bool := !lt m.max lo&&le m.min hi
def mH (s:State) (level:Int) (lo hi:ByteArray):List Meta:=if 0<=level∧level<5 then (s.lv level.toNat).filter (nF lo hi) else []
theorem aMl {s:State} {a:Int} {c:ByteArray} (h:0<=a∧a<5):mH s a lo c=(s.lv a.toNat).filter (nF lo c):=by rw [mH,if_pos h]
theorem aMn {s:State} {a:Int} {c:ByteArray} (h:a<0∨5<=a):mH s a lo c=[]:=by rw [mH,if_neg om]
theorem aUK (l:List Meta) (p:Meta->Bool) (k:Nat):((l.take k).filter p).length<=l.length:=wh (List.length_filter_le _ _) (by grind)
theorem aYG {l:List Meta} {a:ByteArray} {k:Nat} {v:Value} (c:k<l.length) (h:nF lo a (l.getD k Meta.zero)=true) :
  Res.row v E 40 (((l.take k).filter (nF lo a)).length+1) (((l.take k).filter (nF lo a)).flatMap Meta.cells++(l.getD k Meta.zero).cells)=Res.row v E 40 ((l.take (k+1)).filter (nF lo a)).length (((l.take (k+1)).filter (nF lo a)).flatMap Meta.cells):=by
 grind[zE]
theorem aYF {l:List Meta} {a:ByteArray} {k:Nat} {v:Value} (c:k<l.length) (h:nF lo a (l.getD k Meta.zero)=false) :
  Res.row v E 40 ((l.take k).filter (nF lo a)).length (((l.take k).filter (nF lo a)).flatMap Meta.cells)=Res.row v E 40 ((l.take (k+1)).filter (nF lo a)).length (((l.take (k+1)).filter (nF lo a)).flatMap Meta.cells):=by
 grind[zE]
structure Job where
 why:Int
 level:Int
 to:Int
 low:List Int
 high:List Int
def Job.cells (j:Job) (h1 h2:Sh):List Value:=[.int .u8 j.why,.int .i64 j.level,.int .i64 j.to,h1.val j.low.length,h2.val j.high.length]
def Job.val (j:Job) (h1 h2:Sh):Value:=.agg (j.cells h1 h2).toArray
def Job.zero:Job:=⟨0,0,0,[],[]⟩
structure JobR (G:PM) (j:Job) (h1 h2:Sh):Prop where
 low:SlR G 1 lO h1 j.low
 high:SlR G 1 lO h2 j.high
 lenL:j.low.length*112≤140737488351232
 lenH:j.high.length*112≤140737488351232
theorem JobR.mono {G c:PM} {j:Job} {h1 h2:Sh} (h:JobR G j h1 h2) (a:PM.le G c):JobR c j h1 h2:=⟨h.low.mono a,h.high.mono a,h.lenL,h.lenH⟩
theorem JobR.zero {G:PM}:JobR G Job.zero ⟨none,0⟩ ⟨none,0⟩:=⟨dG,dG,dc,dc⟩
def aBn (l:List Meta) (a:ByteArray):ByteArray:=l.foldl (fun x m=>aD4 x m.min) a
def aBm (l:List Meta) (a:ByteArray):ByteArray:=l.foldl (fun x m=>aD2 x m.max) a
def aDz (l:List Meta):ByteArray:=aBn l (l.getD 0 Meta.zero).min
def aDy (l:List Meta):ByteArray:=aBm l (l.getD 0 Meta.zero).max
theorem aUZ {l:List Meta} {a:ByteArray} {k:Nat} (h:k<l.length):aBn (l.take (k+1)) a=aD4 (aBn (l.take k) a) (l.getD k Meta.zero).min:=by
 grind[zE,aBn]
theorem aUY {l:List Meta} {a:ByteArray} {k:Nat} (h:k<l.length):aBm (l.take (k+1)) a=aD2 (aBm (l.take k) a) (l.getD k Meta.zero).max:=by
 grind[zE,aBm]
def jO (s:State) (why level:Int) (low:List Meta):Job:=⟨why,level,level+1,nums low,nums (mH s (level+1) (aDz low) (aDy low))⟩
theorem aMm {s:State} {G:PM} {hd:Nat->Sh} (c:StR G s hd) (a:Int) (lo e:ByteArray):(mH s a lo e).length*112<=140737488351232:=by
 unfold mH;split
 ·rename_i h;have f:=c.len a.toNat om;grind
 ·simp
theorem uT (l:List Meta):(nums l).length=l.length:=by simp [nums]
theorem aTa {G:PM} {s:State} {hd:Nat->Sh} {f e:Int} {c:List Meta} {h1 h2:Sh} (g:StR G s hd) (h:c.length*112<=140737488351232) (a:SlR G 1 lO h1 (nums c)) (b:SlR G 1 lO h2 (nums (mH s (e+1) (aDz c) (aDy c)))):JobR G (jO s f e c) h1 h2 :=
 ⟨a,b,by simp_all[uT,jO],by show (nums _).length*112<=_; rw [uT]; exact aMm g _ _ _⟩
theorem Job.one (j:Job) (h1 h2:Sh):∀ u∈j.cells h1 h2,u.oneCell'=true:=by
 intro u a;simp only [Job.cells,qg,qj,or_false] at a;rcases a with rfl|rfl|rfl|rfl|rfl<;>rfl
def wL (s:State) (turn:Int) (i:Nat):List Meta:=if i=0 then s.lv 0 else [(s.lv i).getD (turn.tmod ((s.lv i).length:Int)).toNat Meta.zero]
def jM (s:State) (o:Opts) (turn:Int):Nat->Nat->Option Job
 | 0,_=>none
 | n+1,i=>if sY s o (i:Int)=true then some (jO s 1 i (wL s turn i)) else jM s o turn n (i+1)
def rH (s:State) (i:Nat):Int:=eK (aAQ s (i:Int)) (s.lv (i:Int).toNat)
def wR (s:State) (i:Nat):Job:=if i=0 then jO s 2 0 (s.lv 0) else ⟨2,i,i,nums [(s.lv i).getD (rH s i).toNat Meta.zero],[]⟩
def lE (s:State):Nat->Nat->Option Job
 | 0,_=>none
 | n+1,i=>if rH s i<0 then lE s n (i+1) else some (wR s i)
noncomputable def lC (s:State) (o:Opts) (turn:Int):Job×Bool :=
 if nI o=true∧fE s=true then
  match jM s o turn 4 0 with
  | some j=>(j,true)
  | none=>match lE s 5 0 with
   | some j=>(j,true)
   | none=>(Job.zero,false)
 else (Job.zero,false)
def aIZ (s:State) (o:Opts) (turn:Int) (G:PM) (u:Value):Prop :=
 ∃ h1 h2:Sh,u=.tuple #[(lC s o turn).1.val h1 h2,.bool (lC s o turn).2]∧JobR G (lC s o turn).1 h1 h2
theorem aAh {s:State} {o:Opts} {turn:Int} {j:Job} {b:Bool} {h1 h2:Sh} {G:PM} (h:lC s o turn=(j,b)) (a:JobR G j h1 h2):aIZ s o turn G (eV [.agg (j.cells h1 h2).toArray,.bool b]) :=
 ⟨h1,h2,by rw [h]; rfl,by simp_all⟩
theorem aYa {s:State} {o:Opts} {turn:Int} (h:nI o=false∨fE s=false):lC s o turn=(Job.zero,false):=by
 unfold lC; grind
theorem aMt {s:State} {o:Opts} {turn:Int} {k:Nat} (h:nI o=true∧fE s=true) (a:jM s o turn 4 0=jM s o turn (4-k) k) (e:k<4) (c:sY s o (k:Int)=true):lC s o turn=(jO s 1 k (wL s turn k),true):=by
 have:jM s o turn 4 0=some (jO s 1 k (wL s turn k)):=by
  rw [a,show 4-k=(3-k)+1 by omega,jM,if_pos c]
 unfold lC; grind
theorem aYW {s:State} {o:Opts} {turn:Int} {k:Nat} (a:jM s o turn 4 0=jM s o turn (4-k) k) (e:k<4->sY s o (k:Int)=false):jM s o turn 4 0=jM s o turn (4-(k+1)) (k+1):=by
 by_cases c:k<4
 ·rw [a,show 4-k=(4-(k+1))+1 by omega,jM,if_neg (by simp_all)]
 ·rw [a,show 4-k=0 by omega,show 4-(k+1)=0 by omega]; rfl
theorem aMu {s:State} {o:Opts} {turn:Int} {k:Nat} (h:nI o=true∧fE s=true) (c:jM s o turn 4 0=jM s o turn (4-k) k) (e:4<=k) (a:lE s 5 0=lE s (5-j) j) (f:j<5) (g:0<=rH s j):lC s o turn=(wR s j,true):=by
 have l:jM s o turn 4 0=none:=by rw [c,show 4-k=0 by omega]; rfl
 have i:lE s 5 0=some (wR s j):=by rw [a,show 5-j=(4-j)+1 by omega,lE,if_neg om]
 unfold lC; grind
theorem aYX {s:State} (a:lE s 5 0=lE s (5-j) j) (e:j<5) (c:rH s j<0):lE s 5 0=lE s (5-(j+1)) (j+1):=by
 rw [a,show 5-j=(5-(j+1))+1 by omega,lE,if_pos c]
theorem aYb {s:State} {o:Opts} {turn:Int} {k:Nat} (f:jM s o turn 4 0=jM s o turn (4-k) k) (c:4<=k) (a:lE s 5 0=lE s (5-j) j) (e:5<=j):lC s o turn=(Job.zero,false):=by
 simp_all[jM,lE,lC]
theorem aGb {s:State} {turn:Int} {k:Nat} (h:k=0):wL s turn k=s.lv k:=by simp_all[wL]
theorem aGa {s:State} {turn:Int} {k:Nat} (h:k≠0):wL s turn k=[(s.lv k).getD (turn.tmod ((s.lv k).length:Int)).toNat Meta.zero]:=by grind[wL]
theorem aG2 {s:State} {k:Nat} (h:k=0):wR s k=jO s 2 0 (s.lv 0):=by grind[wR]
theorem aG1 {s:State} {k:Nat} (h:k≠0):wR s k=⟨2,k,k,nums [(s.lv k).getD (rH s k).toNat Meta.zero],[]⟩:=by grind[wR]
theorem aKt {s:State} {o:Opts} {k:Nat} (h:nI o=true) (a:sY s o (k:Int)=true):0<(s.lv k).length:=by
 unfold sY at a;split at a
 ·rename_i c;obtain rfl:k=0:=by omega
  simp only [nI,rY,dP] at h a;omega
 grind[over]
theorem aOq {n:Nat} {turn:Int} (a:0<=turn) (c:0<n):0<=turn.tmod (n:Int)∧turn.tmod (n:Int)<n :=
 ⟨Int.tmod_nonneg _ a,Int.tmod_lt_of_pos _ om⟩
theorem aU2 {p:Meta->Bool} {l:List Meta} (h:0<=eK p l):(eK p l).toNat<l.length:=by
 grind[eK,xu]
theorem aG0 {s:State} (h:0<=rH s j):(rH s j).toNat<(s.lv j).length:=aU2 h
theorem aJD {l:List Meta} {k:Nat} (h:k<l.length):l[k]? = some (l.getD k Meta.zero):=by simp [h]
def State.zero:State:=⟨fun _=>[],0,0,0,0,fun _=>0⟩
def eT:Nat->Sh:=fun _=>⟨none,0⟩
theorem pH {G:PM}:StR G State.zero eT:=⟨fun _ _=>dG,fun _ _=>qr _,fun _ _ m a=>nomatch a⟩
theorem aZY:fE State.zero=true:=by
 refine aAk ⟨dc,dc,dc,dc,fun i _=>⟨fun m c=>(nomatch c),fun j e=>absurd e (xv _)⟩,fun a b f=>absurd f (xv _)⟩
section
variable {α β:Type}
def fD (k:Nat->List Y->Option α) (r:List Y):Option α:=if (fH r).2.2=0 then k (fH r).1 (r.drop (fH r).2.1) else none
def pUp (most:Nat) (k:Nat->List Y->Option α):List Y->Option α:=fD fun n r=>if n<=most then k n r else none
def uX (most:Nat) (k:List Y->List Y->Option α):List Y->Option α:=pUp most fun n r=>if n<=r.length then k (r.take n) (r.drop n) else none
def lT (k:Y->List Y->Option α) (r:List Y):Option α:=if r.length<1 then none else k (r.getD 0 0) (r.drop 1)
def oL (f:(β->List Y->Option α)->List Y->Option α):Nat->(List β->List Y->Option α)->List Y->Option α
 | 0,k=>k []
 | n+1,k=>f fun x=>oL f n fun xs=>k (x :: xs)
theorem uS {n:Nat} (h:n<18446744073709551616) (k:Nat->List Y->Option α) (r:List Y):fD k (bV n++r)=k n r:=by
 simp_all[fD,aXl]
theorem bCj {most n:Nat} (h:n<18446744073709551616) (a:n<=most) (k:Nat->List Y->Option α) (r:List Y):pUp most k (bV n++r)=k n r:=by
 simp_all[pUp,uS]
theorem bBB {most:Nat} {xs:List Y} (h:xs.length<18446744073709551616) (a:xs.length<=most) (k:List Y->List Y->Option α) (r:List Y):uX most k (gL xs++r)=k xs r:=by
 simp_all[uX,gL,bCj]
theorem bEg (x:Y) (k:Y->List Y->Option α) (r:List Y):lT k (x :: r)=k x r:=by rfl
theorem wQ {k:Nat->List Y->Option α} {r:List Y} {a:α} (h:fD k r=some a):∃ n r',r=bV n++r'∧n<18446744073709551616∧k n r'=some a:=by
 grind[fD,aMQ]
theorem bCi {most:Nat} {k:Nat->List Y->Option α} {r:List Y} {a:α} (h:pUp most k r=some a):∃ n c,r=bV n++c∧n<18446744073709551616∧n<=most∧k n c=some a:=by
 obtain ⟨n,c,g,f,e⟩:=wQ h;grind
theorem bBA {most:Nat} {k:List Y->List Y->Option α} {r:List Y} {a:α} (h:uX most k r=some a):∃ xs c,r=gL xs++c∧xs.length<=most∧k xs c=some a:=by
 obtain ⟨n,c,i,g,f,e⟩:=bCi h;grind[gL,qx]
theorem aR2 {k:Y->List Y->Option α} {r:List Y} {a:α} (h:lT k r=some a):∃ x r',r=x :: r'∧k x r'=some a:=by
 unfold lT at h;split at h
 ·cases h
 ·cases r with
  | nil=>simp_all
  | cons x r=>grind
end
def Tk {α:Type} (O:Option α) (s:Rd') (bad:Bool) (k:List Y->Option α):Prop:=(s.bad=0∧bad=false∧O=k s.rest)∨(O=none∧(bad=true∨s.bad≠0))
section
variable {α β:Type} {O:Option α} {s:Rd'} {bad:Bool}
theorem aIh {b:List Y} {k:List Y->Option α}:Tk (k b) ⟨b,0⟩ false k:=.inl ⟨rfl,rfl,rfl⟩
theorem Tk.num {k:Nat->List Y->Option α} (h:Tk O s bad (fD k)):Tk O (gN s).2 bad (k (gN s).1):=by
 unfold gN;rcases h with ⟨e,c,a⟩ | ⟨e,c⟩
 ·rw [if_neg om];unfold fD at a;split at a
  ·simp_all[Tk]
  simp_all[Tk]
 ·split
  ·simp_all[Tk]
  simp_all[Tk]
theorem Tk.str {most:Nat} {k:List Y->List Y->Option α} (h:Tk O s bad (uX most k)):Tk O (lV most s).2 bad (k (lV most s).1):=by
 unfold lV;rcases h with ⟨f,e,a⟩ | ⟨f,e⟩
 ·rw [if_neg om];unfold uX pUp fD at a;split at a
  ·rename_i i;rw [if_neg om];simp only at a;split at a
   ·rename_i g;rw [if_neg om];split at a
    ·rename_i c;rw [qt] at c;rw [if_neg om];simp_all[Tk]
    simp_all[Tk]
   simp_all[Tk]
  simp_all[Tk]
 ·split
  ·simp_all[Tk]
  simp_all[Tk]
theorem Tk.byte {k:Y->List Y->Option α} (h:Tk O s bad (lT k)):Tk O (lF s).2 bad (k (lF s).1):=by
 unfold lF;rcases h with ⟨e,c,a⟩ | ⟨e,c⟩
 ·rw [if_neg om];unfold lT at a;split at a
  ·simp_all[Tk]
  simp_all[Tk]
 ·split
  ·simp_all[Tk]
  simp_all[Tk]
end
structure Gone where
 level:Int
 number:Int
def Gone.cells (g:Gone):List Value:=[.int .u8 g.level,.int .u64 g.number]
structure Gone.wf (g:Gone):Prop where
 level:0≤g.level∧g.level<256
 number:0≤g.number∧g.number<18446744073709551616
structure Edit where
 log:Int
 next:Int
 seq:Int
 least:Int
 gens:Nat→Int
 add:List Meta
 drop:List Gone
def Edit.cells (e:Edit) (ha hd:Sh):List Value :=
 [.int .u64 e.log,.int .u64 e.next,.int .u64 e.seq,.int .u64 e.least]++(qe 5).map (fun i=>.int .u64 (e.gens i))++[ha.val e.add.length,hd.val e.drop.length]
def Edit.val (e:Edit) (ha hd:Sh):Value:=.agg (e.cells ha hd).toArray
def u64 (x:Int):Prop:=0<=x∧x<18446744073709551616
structure Edit.wf (e:Edit):Prop where
 log:u64 e.log
 next:u64 e.next
 seq:u64 e.seq
 least:u64 e.least
 gens:∀ i,i<5→u64 (e.gens i)
 add:∀ m∈e.add,m.wf
 drop:∀ g∈e.drop,g.wf
structure EdR (G:PM) (e:Edit) (ha hd:Sh):Prop where
 add:SlR G 40 Meta.cells ha e.add
 drop:SlR G 2 Gone.cells hd e.drop
 wf:e.wf
theorem EdR.mono {G f:PM} {e:Edit} {c hd:Sh} (h:EdR G e c hd) (a:PM.le G f):EdR f e c hd:=⟨h.add.mono a,h.drop.mono a,h.wf⟩
def aCc (x:Int):Nat:=(x%18446744073709551616).toNat
theorem bCc (x:Int):aCc x<18446744073709551616:=by grind[aCc]
def gA (m:Meta):List Y :=
 bV m.level.toNat++bV m.gen.toNat++bV m.epoch.toNat++bV m.number.toNat++bV (aCc m.size)++bV (aCc m.count)++gL (yb m.min)++gL (yb m.max)++(qe 32).map fun i=>qh 8 (m.root i)
def mX (g:Gone):List Y:=bV g.level.toNat++bV g.number.toNat
def jB (l:List Int):List Y:=l.flatMap fun x=>bV x.toNat
def sT (e:Edit):List Y :=
 bV e.log.toNat++bV e.next.toNat++bV e.seq.toNat++bV e.least.toNat++((qe 5).flatMap fun i=>bV (e.gens i).toNat)++bV e.add.length++e.add.flatMap gA++bV e.drop.length++e.drop.flatMap mX
def Meta.fits (m:Meta):Prop:=0<=m.size∧0<=m.count∧m.min.size<=1024∧m.max.size<=1024
theorem aYB (x:Y):(x ||| 128#8).toNat=x.toNat%128+128:=by
 have h:=x.isLt;have hd:∀ y:Y,(y ||| 128#8).toNat=y.toNat%128+128:=by decide
 grind
theorem aQ8 (x:Y):(x &&& 127#8).toNat=x.toNat%128:=by
 have hd:∀ y:Y,(y &&& 127#8).toNat=y.toNat%128:=by decide
 grind
theorem aXn {m:BitVec 64} (h:¬ m.toNat<128):bV m.toNat=(m.setWidth 8 ||| 128#8) :: bV (m >>> 7).toNat:=by
 grind[aCE,wl,aYB,jz,zq]
theorem aXm {m:BitVec 64} (h:m.toNat<128):bV m.toNat=[m.setWidth 8]:=by
 simp_all[yR]
theorem bAU (m:BitVec 64):(m >>> 7).toNat=m.toNat / 128:=by rw [jd,zq]
theorem uvI {x:Int} (h:u64 x):Value.int .u64 x=uv .u64 (BitVec.ofInt 64 x):=by
 unfold u64 at h;show Value.int .u64 x=Value.int .u64 (((qh 64 x).toNat:Nat):Int);grind[zm]
theorem ofI {x:Int} (h:u64 x):(BitVec.ofInt 64 x).toNat=x.toNat:=by
 grind[u64]
theorem aYk (k:Nat):(128:Nat)^k=2^(7*k):=by rw [Nat.pow_mul]
theorem aIs {w:BitVec 64} {x:Y} {k:Nat} (f:w.toNat<128^k) (g:k<=9) (e:k=9->x.toNat<=1):(w ||| (x &&& 127#8).setWidth 64 <<< (7*k)).toNat=w.toNat+(x.toNat%128)*128^k:=by
 have c:=x.isLt;have i:((x &&& 127#8).setWidth 64 <<< (7*k)).toNat=2^(7*k)*(x.toNat%128):=by
  rw [BitVec.toNat_shiftLeft,kb,aQ8,yp (a:=x.toNat%128) om,ju,Nat.mul_comm];refine yp ?_;rcases ya k 9 with h | h
  ·grind[Nat]
  grind
 grind[Nat.two_pow_add_eq_or_of_lt,aYk]
theorem aDT {xs:List Y} {k:Nat} (h:k<xs.length):xs.drop k=xs.getD k 0 :: xs.drop (k+1):=by
 simp_all
section
variable {xs:List Y} {k:Nat} {w:BitVec 64}
theorem aXf (e:fH xs=iH k w.toNat (xs.drop k)) (h:k<xs.length) (c:k=9) (a:1<(xs.getD k 0).toNat):fH xs=(0,0,11):=by
 rw [e,aDT h,iH,if_pos ⟨c,a⟩]
theorem aXh (e:fH xs=iH k w.toNat (xs.drop k)) (h:k<xs.length) (c:0<k) (a:(xs.getD k 0).toNat=0):fH xs=(0,0,11):=by
 rw [e,aDT h,iH,if_neg om,if_pos om,if_pos ⟨c,a⟩]
theorem aXe (e:fH xs=iH k w.toNat (xs.drop k)) (f:w.toNat<128^k) (i:k<=9) (h:k<xs.length) (g:¬ (k=9∧1<(xs.getD k 0).toNat)) (a:(xs.getD k 0).toNat<128) (c:¬ (0<k∧(xs.getD k 0).toNat=0)) :
  fH xs=((w ||| (xs.getD k 0 &&& 127#8).setWidth 64 <<< (7*k)).toNat,k+1,0):=by
 rw [e,aDT h,iH,if_neg g,if_pos a,if_neg c,aIs f i om,yp a]
theorem aGu (e:fH xs=iH k w.toNat (xs.drop k)) (f:w.toNat<128^k) (j:k<=9) (h:k<xs.length) (i:¬ (k=9∧1<(xs.getD k 0).toNat)) (c:¬ (xs.getD k 0).toNat<128) :
  fH xs=iH (k+1) (w ||| (xs.getD k 0 &&& 127#8).setWidth 64 <<< (7*k)).toNat (xs.drop (k+1))∧(w ||| (xs.getD k 0 &&& 127#8).setWidth 64 <<< (7*k)).toNat<128^(k+1)∧k+1<=9:=by
 have a:=(xs.getD k 0).isLt;have g:(xs.getD k 0).toNat%128=(xs.getD k 0).toNat-128:=by omega
 rw [aIs f j om,g];refine ⟨by rw [e,aDT h,iH,if_neg i,if_neg c],?_,om⟩;rw [yy];have:((xs.getD k 0).toNat-128)*128^k<=127*128^k:=xc _ om;omega
theorem aXg (e:fH xs=iH k w.toNat (xs.drop k)) (h:xs.length<=k):fH xs=(0,0,10):=by
 grind[xt,iH]
end
structure NumR (xs:List Y) (n k:Nat) (e:Int):Prop where
 eq:fH xs=(n,k,e)
 lt:n<18446744073709551616
 le:k≤xs.length
theorem NumR.of {xs:List Y} {n k:Nat} {e:Int} (h:fH xs=(n,k,e)):NumR xs n k e:=by
 by_cases a:e=0
 ·subst a;obtain ⟨_,f,_,c⟩:=aMQ h;exact ⟨h,f,c⟩
 ·obtain ⟨rfl,rfl⟩:=aMR xs 0 0 n k e h a;exact ⟨h,dc,qr _⟩
theorem aZA {xs:List Y} {e:Int} (h:¬ e=0):gN ⟨xs,e⟩=(0,⟨xs,e⟩):=by simp_all[gN]
theorem aZB {xs:List Y} {e a:Int} {n k:Nat} (h:e=0) (c:NumR xs n k a) (f:L=xs.drop k):gN ⟨xs,e⟩=(n,⟨L,a⟩):=by
 unfold gN; rw [if_neg (by simp [h])]; simp only [c.eq,f]
theorem aZC {most:Nat} {xs:List Y} {e:Int} (h:¬ e=0):lV most ⟨xs,e⟩=([],⟨xs,e⟩):=by simp_all[lV]
theorem aZD {most n k:Nat} {xs:List Y} {e a:Int} (h:e=0) (c:NumR xs n k a) (f:¬ a=0):lV most ⟨xs,e⟩=([],⟨xs,a⟩):=by
 unfold lV; rw [if_neg (by simp [h])]; simp only [c.eq]; simp_all
theorem aZE {most n k:Nat} {xs:List Y} {e a:Int} (h:e=0) (c:NumR xs n k a) (g:a=0) (f:most<n):lV most ⟨xs,e⟩=([],⟨xs,4⟩):=by
 unfold lV; rw [if_neg (by simp [h])]; simp only [c.eq]; simp_all
theorem aZG {most n k:Nat} {xs:List Y} {e a:Int} (h:e=0) (c:NumR xs n k a) (i:a=0) (f:¬ most<n) (g:xs.length-k<n):lV most ⟨xs,e⟩=([],⟨xs,10⟩):=by
 unfold lV; rw [if_neg (by simp [h])]; simp only [c.eq]; simp_all
theorem aZF {most n k:Nat} {xs M:List Y} {e a:Int} (h:e=0) (c:NumR xs n k a) (i:a=0) (f:¬ most<n) (g:¬ xs.length-k<n) (l:L=(xs.drop k).take (k+n-k)) (j:M=xs.drop (k+n)):lV most ⟨xs,e⟩=(L,⟨M,0⟩):=by
 unfold lV; rw [if_neg (by simp [h])]; simp only [c.eq]; grind
theorem aY7 {xs:List Y} {e:Int} (h:¬ e=0):lF ⟨xs,e⟩=(0,⟨xs,e⟩):=by simp_all[lF]
theorem aY9 {xs:List Y} {e:Int} (h:e=0) (a:xs.length<1):lF ⟨xs,e⟩=(0,⟨xs,10⟩):=by simp_all[lF]
theorem aY8 {xs:List Y} {e:Int} (h:e=0) (a:¬ xs.length<1) (c:L=xs.drop 1):lF ⟨xs,e⟩=(xs.getD 0 0,⟨L,0⟩):=by simp_all[lF]
def aFs (xs:List Y) (e:Int):Int:=if e=0∧0<xs.length then 12 else e
theorem wX {s:Rd'} {n:Nat} {t:Rd'} (h:gN s=(n,t)):n<18446744073709551616:=by
 unfold gN at h;split at h
 ·grind
 ·simp only [Prod.mk.injEq] at h;have:=NumR.of (xs:=s.rest) (n:=(fH s.rest).1) (k:=(fH s.rest).2.1) (e:=(fH s.rest).2.2) rfl;have:=this.lt;omega
section
variable {P:Program} {G:PM} {μ:aB}
theorem rZ {f:FuncId} {args:Array Value} {b:Nat} {o:Obj} {post:PM->aB->Value->Prop} (h:PM.le G (G.add b o)->Ct P f args (G.add b o) μ post):Ct P f args G (.blk b o :: μ) post:=by
 intro w k;have m:keys (.blk b o :: μ)=b :: keys μ:=by rfl
 have i:=k.nodup;rw [m] at i;have l:=(wy.1 i).1;have A:w.heap[b]? = some o:=k.own _ (ql ..);have p:Sat (G.add b o) μ w:=by
  refine ⟨fun c u a=>?_,fun r y=>k.own r (qo _ y),fun c a=>?_,(wy.1 i).2⟩
  ·unfold PM.add at a;split at a
   ·simp_all
   exact k.sub c u a
  unfold PM.add;rw [if_neg (fun (e:c=b)=>l (e▸a))];exact k.apart c (by simp_all)
 refine (h (PM.le_add (k.apart b (by simp_all))) w p).mono ?_;rintro e E ⟨v,D,n,rfl,g,C⟩;refine ⟨v,D,n,rfl,⟨g.sat,g.os,g.tape,g.output,g.size,fun c a j=>?_,fun c a=>?_,fun c u j a=>?_⟩,C⟩
 ·rw [m] at j;have q:c≠b:=fun e=>j (by simp_all);have x:=g.old c a (fun t=>j (qo _ t));simp_all[PM.add]
 ·rw [m];rcases g.mine c a with x | x
  ·simp_all
  omega
 rw [m] at j;have q:c≠b:=fun e=>j (by simp_all);exact g.le c u (fun t=>j (qo _ t)) (by simp_all[PM.add])
end
def sU (x:Int):List Value:=[.int .u64 x]
theorem aKJ:∀ ns:List Int,ns.flatMap sU=ns.map (Value.int .u64)
 | []=>rfl
 | x :: ns=>by rw [List.flatMap_cons,aKJ ns]; rfl
theorem SlR.u1 {G:PM} {s:Sh} {xs:List Int} (h:SlR G 1 sU s xs) {j:Int} (k:Nat) {x:Int} (c:j.toNat=k) (a:xs[k]? = some x):RdP G ⟨s.b,s.o+j.toNat*1,none⟩ (.int .u64 x):=by
 have:=(h.nth k c a) 0 _ rfl;omega
theorem SlR.part {G:PM} {b o cap:Nat} {ns:List Int} {cs:List Value} (g:RdNP G b 0 cs) (e:(cs.drop o).take ns.length=ns.flatMap sU) (h:ns.length<=cap):SlR G 1 sU ⟨some ⟨b,o,none⟩,cap⟩ ns:=by
 refine ⟨fun _=>rfl,h,fun i x a j v k=>?_⟩;have f:j=0∧v=.int .u64 x:=by
  cases j<;>simp_all[sU]
 obtain ⟨rfl,rfl⟩:=f;have c:i<ns.length:=by
  grind
 have m:cs[o+i]? = some (.int .u64 x):=by
  have:=congrArg (fun l=>l[i]?) e;simp only [aKJ,zx,a,yw,if_pos c,ky] at this;grind
 simp_all[Sh.b,Sh.o,RdNP]
theorem aXq {ns:List Int} {k:Nat} {x:Int} (h:ns[k]? = some x):jB (ns.take (k+1))=jB (ns.take k)++bV x.toNat:=by
 simp_all[wg,jB]
theorem oK:∀ {ns:List Int},(∀ x∈ns,u64 x)->(jB ns).length<=10*ns.length
 | [],_=>by trivial
 | x :: ns,h=>by
  have h1:=h x (ql ..);unfold u64 at h1;have e:=iR (n:=x.toNat) om;have c:=oK (ns:=ns) (fun y a=>h y (qo _ a));have:jB (x :: ns)=bV x.toNat++jB ns:=by simp [jB]
  rw [this,qa,wj]; omega
theorem aXr {ns:List Int} (h:∀ x∈ns,u64 x) (k:Nat):(jB (ns.take k)).length<=10*ns.length:=by
 grind[oK]
section
variable {α:Type} {O:Option α} {s t:Rd'} {bad:Bool}
theorem Tk.numE {k:Nat->List Y->Option α} {n:Nat} (h:Tk O s bad (fD k)) (a:gN s=(n,t)):Tk O t bad (k n):=by
 grind[Tk,fD,gN]
theorem Tk.strE {most:Nat} {k:List Y->List Y->Option α} {M:List Y} (h:Tk O s bad (uX most k)) (a:lV most s=(M,t)):Tk O t bad (k M):=by
 have:=h.str; simp_all
theorem Tk.byteE {k:Y->List Y->Option α} {y:Y} (h:Tk O s bad (lT k)) (a:lF s=(y,t)):Tk O t bad (k y):=by
 have:=h.byte; simp_all
end
theorem wW {s t:Rd'} {n:Nat} (h:gN s=(n,t)):t.rest.length<=s.rest.length:=by
 unfold gN at h;grind
theorem aZH {s t:Rd'} {most:Nat} {M:List Y} (h:lV most s=(M,t)):t.rest.length<=s.rest.length:=by
 grind[lV]
theorem aNA {s t:Rd'} {y:Y} (h:lF s=(y,t)):t.rest.length<=s.rest.length:=by
 grind[lF]
structure ByR (s0 s:Rd') (bad:Bool) (rt:List Y):Prop where
 len:rt.length≤32
 tk:∀ (α:Type) (O:Option α) (K:List Y→List Y→Option α),Tk O s0 bad (oL lT 32 K)→Tk O s bad (oL lT (32-rt.length) fun r=>K (rt++r))
theorem ByR.zero {c:Rd'} {a:Bool}:ByR c c a []:=⟨by simp,fun _ _ _ h=>h⟩
theorem ByR.step {e s t:Rd'} {c:Bool} {a:List Y} {y:Y} (h:ByR e s c a) (l:a.length<32) (j:lF s=(y,t)):ByR e t c (a++[y]):=by
 refine ⟨by grind,fun g O K k=>?_⟩;have f:=h.tk g O K k;obtain ⟨m,i⟩ : ∃ m,32-a.length=m+1:=⟨31-a.length,om⟩;rw [i,oL] at f;have n:=f.byteE j;grind
theorem ByR.all {e s:Rd'} {a:Bool} {c:List Y} (h:ByR e s a c) (g:c.length=32) {α:Type} {O:Option α} {K:List Y->List Y->Option α} (f:Tk O e a (oL lT 32 K)):Tk O s a (K c):=by
 have i:=h.tk α O K f;simp_all[oL]
theorem aNW {a:List Y} {k:Nat} {f:Nat->Y} {y:Y} (e:a.length=k) (g:∀ i,f i=a.getD i 0):∀ i,bM f k ((y.setWidth 64).setWidth 8) i=(a++[y]).getD i 0:=by
 intro i;have c:(y.setWidth 64).setWidth 8=y:=by
  simp
 unfold bM;grind
theorem aW9 {a b c d e g h i:Value} {f:Nat->Y} (h1:a.oneCell'=true) (h2:b.oneCell'=true) (h3:c.oneCell'=true) (q:d.oneCell'=true) (p:e.oneCell'=true) (n:g.oneCell'=true) (m:h.oneCell'=true) (l:i.oneCell'=true):∀ u∈[a,b,c,d,e,g,h,i]++ba 32 f,u.oneCell'=true:=by
 intro u k;rcases qv.1 k with k | k
 ·simp only [qg,qj,or_false] at k;grind
 ·unfold ba at k;obtain ⟨j,_,rfl⟩:=qi.1 k;rfl
def aAd (g:Nat->Int):List Value:=(qe 9).map fun i=>.int .u64 (g i)
theorem aXR (g:Nat->Int):(aAd g).length=9:=by rfl
instance ql26 {g:Nat->Int}:QLen (aAd g) 9:=⟨aXR g⟩
theorem aGB {g:Gone}:∀ u∈g.cells,u.oneCell'=true:=by
 intro u a;simp only [Gone.cells,qg,qj,or_false] at a;rcases a with rfl|rfl<;>rfl
section
variable {P:Program} {n:Fm} {l:List Oper} {K K':aG→PM→aB→Prop} {dr:Bool} {mc:Md}
theorem Wo.bind1 {i:Nat} {e:List Nat} {ρ:aG} {G:PM} {μ:aB} (hm:∀ ρ G μ,K ρ G μ->Wo dr mc P n l K' e ρ G μ) (H:Wo dr mc P n l K [i] ρ G μ):Wo dr mc P n l K' (i :: e) ρ G μ:=by
 have c:∀ {ρ G μ},Wo dr mc P n l K [] ρ G μ->Wo dr mc P n l K' e ρ G μ:=fun h=>by cases h<;>simp_all
 cases H with
 | pure ho hk hg hr h=>grind[pure]
 | read ho hk hg hr h=>grind[read]
 | make ho hk hg hr h=>exact .make ho hk hg hr fun b=>c (h b)
 | box ho hk hg hr h=>exact .box ho hk hg hr fun b=>c (h b)
 | callv ho hk hg hr hf h=>exact .callv ho hk hg hr hf (c h)
 | call ho hk hg hr hf h=>grind[call]
 | callg hd ho hg hr hf h=>grind[callg]
 | callp hd ho hg hp hr hf hx h=>grind[callp]
 | pan hd ho hg hr hx=>simp_all[pan]
 | fresh ho hk hg hp hr hw h=>exact .fresh ho hk hg hp hr hw fun v k g f a b=>c (h v k g f a b)
 | act ho hk hg hp hr h=>exact .act ho hk hg hp hr fun v k j a b=>c (h v k j a b)
theorem Wo.cut1 {i:List Nat} {ρ:aG} {G:PM} {μ:aB} (H:Wo dr mc P n l K (j :: i) ρ G μ):Wo dr mc P n l (fun ρ G μ=>Wo dr mc P n l K i ρ G μ) [j] ρ G μ:=by
 cases H with
 | pure ho hk hg hr h=>grind[pure,nil]
 | read ho hk hg hr h=>grind[read,nil]
 | make ho hk hg hr h=>exact .make ho hk hg hr fun b=>.nil (h b)
 | box ho hk hg hr h=>exact .box ho hk hg hr fun b=>.nil (h b)
 | callv ho hk hg hr hf h=>exact .callv ho hk hg hr hf (.nil h)
 | call ho hk hg hr hf h=>grind[call,nil]
 | callg hd ho hg hr hf h=>grind[callg,nil]
 | callp hd ho hg hp hr hf hx h=>grind[callp,nil]
 | pan hd ho hg hr hx=>simp_all[pan]
 | fresh ho hk hg hp hr hw h=>exact .fresh ho hk hg hp hr hw fun v g e c a b=>.nil (h v g e c a b)
 | act ho hk hg hp hr h=>exact .act ho hk hg hp hr fun v g f a b=>.nil (h v g f a b)
def nD (mc:Md) (l:List Oper) (listed:Array Bool) (i:Nat):Bool :=
 (cT l listed).contains i&&match nth l i with
 | some oi=>(bK mc oi.op == .pure||bK mc oi.op == .read)&&(qe l.length).all fun j=>listed.getD j true||j == i||match nth l j with
  | some oj=>sQ l l.length j i||(oi.apart l.toArray oj&&(bK mc oi.op == .pure||bK mc oj.op != .act))
  | none=>false
 | none=>false
def Wt (mc:Md) (P:Program) (n:Fm) (l:List Oper) (K:aG->PM->aB->Prop):Nat->Array Bool->aG->PM->aB->Prop
 | 0,listed,ρ,G,μ=>cT l listed=[]∧K ρ G μ
 | m+1,listed,ρ,G,μ=>(∃ i,nD mc l listed i=true∧Wo true mc P n l (fun ρ' G' μ'=>Wt mc P n l K m (listed.setIfInBounds i true) ρ' G' μ') [i] ρ G μ) ∨
   (cT l listed≠[]∧∀ j∈cT l listed,Wo true mc P n l (fun ρ' G' μ'=>Wt mc P n l K m (listed.setIfInBounds j true) ρ' G' μ') [j] ρ G μ)
theorem aBI (a:mC K):∀ (m:Nat) (listed:Array Bool),mC (fun ρ G μ=>Wt mc P n l K m listed ρ G μ)
 | 0,listed=>⟨fun ρ ρ' G μ e h=>⟨h.1,a.1 _ _ _ _ e h.2⟩,fun ρ G μ μ' p h=>⟨h.1,a.2 _ _ _ _ p h.2⟩⟩
 | m+1,listed=>by
  refine ⟨fun ρ ρ' G μ e h=>?_,fun ρ G μ μ' p h=>?_⟩
  ·rcases h with ⟨i,h1,h2⟩ | ⟨h1,h2⟩
   ·exact .inl ⟨i,h1,h2.congr (aBI a m _) e⟩
   exact .inr ⟨h1,fun j hj=>(h2 j hj).congr (aBI a m _) e⟩
  rcases h with ⟨i,h1,h2⟩ | ⟨h1,h2⟩
  ·exact .inl ⟨i,h1,h2.perm (aBI a m _) p⟩
  exact .inr ⟨h1,fun j hj=>(h2 j hj).perm (aBI a m _) p⟩
def qP (listed:Array Bool):Nat:=listed.toList.count false
theorem aAy {a:Array Bool} {i:Nat} (h:a.getD i true=false):qP (a.setIfInBounds i true)+1=qP a:=by
 rcases ya i a.size with c | c
 ·have e:a.toList[i]'om=false:=by simp_all
  unfold qP;grind
 simp_all
theorem aHy {a:Array Bool} {i:Nat} (h:a.getD i true=false):0<qP a:=by
 grind[aAy]
theorem aMc {a:Array Bool} {i:Nat} (f:i≠j) (h:nD mc l a i=true):nD mc l (a.setIfInBounds j true) i=true:=by
 unfold nD at h ⊢;simp only [qq] at h ⊢;obtain ⟨p,c⟩:=h;refine ⟨by simp_all[wY],?_⟩;cases m:nth l i with
 | none=>simp_all
 | some oi =>
  simp only [m,qq] at c ⊢;refine ⟨c.1,wd.2 fun k g=>?_⟩;have n:=wd.1 c.2 k g;by_cases e:j=k
  ·simp_all
  simp_all
theorem Wt.front (M:mC K) (L:Region.noSelect l.toArray=true) (x:∀ j g,nth l j=some g->bK mc g.op=.make->vK P g) (A:∀ j g,nth l j=some g->jF n g.dst) :
  ∀ (m:Nat) (listed:Array Bool) (j:Nat) (ρ:aG) (G:PM) (μ:aB),qP listed=m+1->Closed l listed->j∈cT l listed->Wt mc P n l K (m+1) listed ρ G μ->Wo true mc P n l (fun a t c=>Wt mc P n l K m (listed.setIfInBounds j true) a t c) [j] ρ G μ
 | m,listed,j,ρ,G,μ,hu,hcl,hj,H=>by
  rcases H with ⟨i,h1,h2⟩ | ⟨_,h2⟩
  ·by_cases e:j=i
   ·simp_all
   have hi:i∈cT l listed:=by simp_all[nD]
   have I:=wY hj e;have k:=(kO.1 hi).1;have y:=(kO.1 hj).1;have O:=aAy k;have q:(listed.setIfInBounds i true).getD j true=false:=by simp_all[Ne.symm]
   have T:=aHy q;obtain ⟨v,rfl⟩ : ∃ v,m=v+1:=⟨m-1,om⟩;obtain ⟨_,J,p,_⟩:=kO.1 hi;obtain ⟨_,g,f,_⟩:=kO.1 hj;have S:Wo true mc P n l (fun a t c=>Wt mc P n l K v ((listed.setIfInBounds i true).setIfInBounds j true) a t c) (i :: [j]) ρ G μ :=
    h2.bind1 fun a t c h=>Wt.front M L x A v (listed.setIfInBounds i true) j a t c om (hcl.set hi) I h
   have w:=aCD hcl k hj l.length;have F:j<l.length:=by
    have:=(kN _ _).trans f;grind
   have r:=h1;unfold nD at r;simp only [qq,p] at r;obtain ⟨_,E,C⟩:=r;have N:=wd.1 C j (xo.2 F);simp only [y,f,w,Bool.false_or,wv,beq_iff_eq,e,false_or,qq,bne_iff_ne] at N;simp only [wv,beq_iff_eq] at E;have D:bK mc J.op=.pure∨(bK mc J.op=.read∧bK mc g.op≠.act)∨bK mc g.op=.make:=by
    grind
   have Q:=Wo.swap (aBI M v _) rfl p f (zT L p f N.1) A (x j g f) D S;refine Q.cut1.bind1 fun a t c h=>.nil (.inl ⟨i,aMc (Ne.symm e) h1,?_⟩);grind[Array.setIfInBounds_comm]
  simp_all
theorem Wt.any {Q:Exit->Act->World->Prop} {x:PM} {K0:List Nat} {w0:World} (v:mC K) (q:Region.noSelect l.toArray=true) (e:∀ j oj,nth l j=some oj->bK mc oj.op=.make->vK P oj) (c:∀ j oj,nth l j=some oj->jF n oj.dst)
  (t:∀ ρ G μ,K ρ G μ->∀ a w,Ag n ρ a->Tr x K0 w0 G μ w->Q .normal a w) :
  ∀ (m:Nat) (listed:Array Bool) (ρ:aG) (G:PM) (μ:aB) (a:Act) (w:World),qP listed=m->Closed l listed->Wt mc P n l K m listed ρ G μ->Ag n ρ a->Tr x K0 w0 G μ w->wpAny P .any l.toArray Q m listed a w
 | 0,listed,ρ,G,μ,a,w,_,_,H,ha,ht=>⟨H.1,t _ _ _ H.2 a w ha ht⟩
 | m+1,listed,ρ,G,μ,a,w,hu,hcl,H,ha,ht=>by
  refine ⟨fun h0=>?_,fun j hj=>?_⟩
  ·rcases H with ⟨i,h1,_⟩ | ⟨h1,_⟩
   ·simp_all[cT,nD]
   trivial
  have hj':j∈cT l listed:=hj;have A:=aAy (kO.1 hj').1;obtain ⟨o,C,h⟩:=(Wt.front v q e c m listed j ρ G μ hu hcl hj' H).head ha ht (next:=wpAny P .any l.toArray Q m (listed.setIfInBounds j true)) (Q:=Q) c (fun r=>by simp_all)
   (fun f F g D y E p k=>by cases E with | nil h=>exact Wt.any v q e c t m _ f F g D y om (hcl.set hj') h p k)
  simp only [wpOp,kN,C];grind
def aD5 (P:Program) (n:Nat) (l:List Oper):Bool:=Region.noSelect l.toArray&&(l.all fun o=>match o.dst with | some d=>decide (d<n) | none=>true)&&aI6 P l
theorem Wk.mix {k:List KI} {ρ:aG} {G:PM} {μ:aB} (mc:Md) (hm:X.P.follows .mixedOrders=true) (c:aD5 X.P X.n.n l=true) (h:Wt mc X.P X.n l (fun ρ G μ=>We X .normal k ρ G μ) l.length (Array.replicate l.length false) ρ G μ):Wk X (.region m l.toArray true) k ρ G μ:=by
 simp only [aD5,qq] at c;obtain ⟨⟨v,t⟩,r⟩:=c;refine ⟨fun a w i f=>wp_region_any hm ?_⟩;have p:qP (Array.replicate l.length false)=l.length:=by simp [qP]
 have:=Wt.any (Q:=gM X k) (aE3 .normal) v (fun j e g q=>aGg q (wd.1 r e (aAb g)))
  (fun j e g=>by
   have:=wd.1 t e (aAb g);cases hd:e.dst with
   | none=>trivial
   | some d=>rw [hd] at this; show d<X.n.n; simp_all) (fun _ _ _ h a w i f=>h.out a w i f) l.length _ ρ G μ a _ p (Closed.none _) h i f.drew
 omega
variable {ρ:aG} {G:PM} {μ:aB} {m:Nat} {listed:Array Bool}
theorem Wt.last (a:cT l listed=[]) (h:K ρ G μ):Wt mc P n l K 0 listed ρ G μ:=⟨a,h⟩
theorem Wt.one (i:Nat) (a:nD mc l listed i=true) (h:Wo true mc P n l (fun ρ' G' μ'=>Wt mc P n l K m (listed.setIfInBounds i true) ρ' G' μ') [i] ρ G μ):Wt mc P n l K (m+1) listed ρ G μ:=.inl ⟨i,a,h⟩
theorem Wt.b1 (j:Nat) (e:cT l listed=[j]) (h:Wo true mc P n l (fun ρ' G' μ'=>Wt mc P n l K m (listed.setIfInBounds j true) ρ' G' μ') [j] ρ G μ):Wt mc P n l K (m+1) listed ρ G μ :=
 .inr ⟨by simp_all,fun c a=>by simp_all⟩
theorem Wt.b2 (j a:Nat) (f:cT l listed=[j,a]) (h:Wo true mc P n l (fun ρ' G' μ'=>Wt mc P n l K m (listed.setIfInBounds j true) ρ' G' μ') [j] ρ G μ)
  (h2:Wo true mc P n l (fun ρ' G' μ'=>Wt mc P n l K m (listed.setIfInBounds a true) ρ' G' μ') [a] ρ G μ):Wt mc P n l K (m+1) listed ρ G μ :=
 .inr ⟨by simp_all,fun e c=>by
  grind⟩
theorem cH (i:Nat) (h:Wo true mc P n l (fun ρ' G' μ'=>Wt mc P n l K m (listed.setIfInBounds i true) ρ' G' μ') [i] ρ G μ) (a:nD mc l listed i=true:=by kernel_rfl):Wt mc P n l K (m+1) listed ρ G μ:=Wt.one i a h
theorem fL (j:Nat) (h:Wo true mc P n l (fun ρ' G' μ'=>Wt mc P n l K m (listed.setIfInBounds j true) ρ' G' μ') [j] ρ G μ) (a:cT l listed=[j]:=by kernel_rfl):Wt mc P n l K (m+1) listed ρ G μ:=Wt.b1 j a h
theorem lZ (h:K ρ G μ) (a:cT l listed=[]:=by kernel_rfl):Wt mc P n l K 0 listed ρ G μ:=Wt.last a h
end
section
variable {dr:Bool} {mc:Md} {P:Program} {n:Fm} {l:List Oper} {K:aG→PM→aB→Prop} {i:Nat} {σ:List Nat} {ρ:aG} {G:PM} {μ:aB}
variable {d t:Nat} {p:String} {af:Array Edge} {g:Option (Nat×Bool)} {c:Bool}
theorem bSf {sz C len:Nat} {y:List (Nat×Operand)} {vs:List (Nat×Value)} {cs:List Value} (Q:nth l i=some ⟨some d,.buildSlice T len y.toArray,t,p,af,none⟩) (X:cI P T=some (E,sz,C)) (J:∀ a,Ag n ρ a->true=true->y.map (fun q=>(q.1,a.eval q.2))=vs) (c:vY P T len vs=some cs) (h:∀ b g,PM.le G g->PB g b (cl cs E)->Wo dr mc P n l K σ ((d,true,.slice (some ⟨b,0,none⟩) len len) :: ρ) g μ):Wo dr mc P n l K (i :: σ) ρ G μ:=by
 refine .fresh (μ₁:=[]) (μ₂:=μ) (post:=fun g m k v=>m=[]∧k=[]∧∃ b,v=.slice (some ⟨b,0,none⟩) len len∧PB g b (cl cs E)) Q (.inl rfl) rfl (List.Perm.refl _) (fun a w S N=>?_) ?_ ?_
 ·have x:(execOp a.eval ⟨some d,.buildSlice T len y.toArray,t,p,af,none⟩).run P w=.ok (.value (.slice (some ⟨w.heap.size,0,none⟩) len len)) (w.alloc (cl cs E)):=by
   obtain ⟨F,e,H,M,_⟩:=gE X;have Z:=J a S rfl;simp only [vY,F,H] at c;cases D:e.zero with
   | none=>simp_all
   | some z =>
    rw [D] at c;simp only at c;split at c
    ·cases c
    rename_i f;simp only [not_or] at f;obtain ⟨f,h0⟩:=f;cases I:Instr.fill (fun j=>some (j*e.size,e.size)) ((zj (len*e.size)).map (z.cells[·%z.cells.size]!)) vs with
    | none=>simp_all
    | some r =>
     rw [I] at c;simp only [wu,Option.some.injEq] at c;subst c;simp [execOp,Instr.buildSlice,run_underlying F,sizeOf,typeInfo,H,h0,f,zeroValue,D,I,Z,newRow,cl]
  have A:Sat G [] w:=⟨N.sub,by simp,by simp [keys],by trivial⟩;have L:=((gR A).alloc (cl cs E)).freeze;exact ⟨_,_,_,[],[],x,L,rfl,rfl,_,rfl,⟨bP _ _ _⟩⟩
 ·rintro v g m k ⟨rfl,rfl,_⟩;exact ⟨(fun w _ r O=>by cases O),(fun b c=>by cases c),by trivial⟩
 simp_all[bT]
theorem PB.slq {b cap:Nat} {ns:List Int} {T:TypeId} (h:PB G b (cl (ns.map (Value.int .u64)) T)) (a:ns.length<=cap):SlR G 1 sU ⟨some ⟨b,0,none⟩,cap⟩ ns:=by
 refine ⟨fun _=>rfl,a,fun i x e j v f=>?_⟩;have c:j=0∧v=.int .u64 x:=by
  cases j<;>simp_all[sU]
 obtain ⟨rfl,rfl⟩:=c;have:=h.rd (o:=i) (v:=.int .u64 x) (by simp_all);simp_all[Sh.b,Sh.o]
theorem bQ {len:Nat} {v:List (Nat×Operand)} {r:List Value} {z:Value} (ns:List Int) (D:nth l i=some ⟨some d,.buildSlice T len v.toArray,t,p,af,none⟩) (y:cI P T=some (E,1,m)) (e:(P.info? E).bind (·.zero)=some z) (C:∀ a,Ag n ρ a->true=true->v.map (fun q=>(q.1,a.eval q.2))=nH 0 r) (f:r=ns.map (Value.int .u64)) (I:ns.length=len) (M:0<len∧len<=16777216) (h:∀ c s,PM.le G c->SlR c 1 sU s ns->Wo dr mc P n l K σ ((d,true,s.val ns.length) :: ρ) c μ):Wo dr mc P n l K (i :: σ) ρ G μ:=by
 subst f;refine bSf (vs:=nH 0 (ns.map (Value.int .u64))) (cs:=ns.map (Value.int .u64)) D y C ?_ (fun b c k F=>?_)
 ·obtain ⟨g,A,w,j,_⟩:=gE y;rw [w] at e;simp only [qw] at e;simp only [vY,g,w,e,j];rw [if_neg om];generalize J:(zj (len*1)).map (z.cells[·%z.cells.size]!)=arr;have H:arr.toList.length=len:=by grind
  have L:=aF2 (ns.map (Value.int .u64)) 0 arr.toList (fun u g=>by obtain ⟨x,_,rfl⟩:=qi.1 g; rfl) (by simp_all);simp_all
 have:=h c ⟨some ⟨b,0,none⟩,len⟩ k (F.slq om);simp_all[Sh.val]
end
theorem q1 {a:Int} (h:u64 a):∀ x∈[a],u64 x:=by simp_all
theorem q2 {a b:Int} (h:u64 a) (h2:u64 b):∀ x∈[a,b],u64 x:=by
 simp_all
theorem q4 {a b c d:Int} (h:u64 a) (h2:u64 b) (h3:u64 c) (e:u64 d):∀ x∈[a,b,c,d],u64 x:=by
 simp_all
theorem q6 {a b c d e f:Int} (h:u64 a) (h2:u64 b) (h3:u64 c) (j:u64 d) (i:u64 e) (g:u64 f):∀ x∈[a,b,c,d,e,f],u64 x:=by
 simp_all
theorem xE {n:Nat} (h:n<18446744073709551616):u64 (n:Int):=⟨om,om⟩
theorem bDE (x:Int):(IntKind.u64.wrap x).toNat=aCc x:=by
 rfl
theorem aO0 (x:Int):u64 (IntKind.u64.wrap x):=by
 grind[u64,IntKind.wrap,IntKind.signed,IntKind.bits]
theorem aOz {m:Meta} (h:m.wf):∀ x∈[m.level,m.gen,m.epoch,m.number,IntKind.u64.wrap m.size,IntKind.u64.wrap m.count],u64 x:=by
 have f:=h.level; have e:=h.gen; have c:=h.epoch; have a:=h.number;exact q6 ⟨om,om⟩ ⟨om,om⟩ ⟨om,om⟩ ⟨om,om⟩ (aO0 _) (aO0 _)
def pX (e:Edit):List Int:=(qe 5).map e.gens
theorem aBq {e:Edit} (h:e.wf):∀ x∈pX e,u64 x:=by
 intro x a;obtain ⟨i,c,rfl⟩:=qi.1 a;exact h.gens i (xo.1 c)
theorem aUi {G:PM} {e:Edit} {a hd:Sh} {b:Nat} {T:TypeId} (h:PB G b (cl (e.cells a hd) T)):SlR G 1 sU ⟨some ⟨b,4,none⟩,5⟩ (pX e):=by
 refine SlR.part (cs:=e.cells a hd) (fun j v c=>?_) rfl (qd 5);have:=h.rd c;simp_all
theorem aLr {m:Meta} (h:m.wf):(m.cells.drop 8).take 32=ba 32 (fun i=>BitVec.ofInt 8 (m.root i)):=by
 have e:m.cells.drop 8=(qe 32).map fun i=>.int .u8 (m.root i):=rfl;rw [e,qz (by simp)];unfold ba;refine zw fun i a=>?_;have f:=h.root i (xo.1 a);show Value.int .u8 (m.root i)=V (qh 8 (m.root i));have c:(((qh 8 (m.root i)).toNat:Nat):Int)=m.root i:=by grind[zm]
 show Value.int .u8 (m.root i)=Value.int .u8 (((qh 8 (m.root i)).toNat:Nat):Int);rw [c]
theorem aMT:jB []=[]:=rfl
theorem aGw (x:Int) (ns:List Int):jB (x :: ns)=bV x.toNat++jB ns:=by rfl
theorem aKH (m:Meta) (A:List Y):A++jB [m.level,m.gen,m.epoch,m.number,IntKind.u64.wrap m.size,IntKind.u64.wrap m.count]++gL (yb m.min)++gL (yb m.max)++yl 32 (fun i=>BitVec.ofInt 8 (m.root i))=A++gA m:=by
 unfold gA;simp only [aGw,aMT,bDE,qk,we];rfl
theorem aKG (g:Gone) (A:List Y):A++jB [g.level,g.number]=A++mX g:=by
 simp[mX,aGw,aMT]
theorem aKF (e:Edit):jB [e.log,e.next,e.seq,e.least]++jB (pX e)++jB [(e.add.length:Int)]++e.add.flatMap gA++jB [(e.drop.length:Int)]++e.drop.flatMap mX=sT e:=by
 grind[jB,pX,List.flatMap_map,sT,aGw]
theorem aBk {α a:Type} {f:α->List a} {xs:List α} {k:Nat} {x:α} (h:xs[k]? = some x):(xs.take (k+1)).flatMap f=(xs.take k).flatMap f++f x:=by
 simp_all[wg]
theorem aDg {α a:Type} {f:α->List a} {xs:List α} {k:Nat} {x:α} (h:xs[k]? = some x):((xs.take k).flatMap f).length+(f x).length<=(xs.flatMap f).length:=by
 have c:xs.flatMap f=(xs.take (k+1)).flatMap f++(xs.drop (k+1)).flatMap f:=by grind[qx]
 simp_all[aBk]
theorem aDh {α a:Type} {f:α->List a} {xs:List α} (k:Nat):((xs.take k).flatMap f).length<=(xs.flatMap f).length:=by
 grind[qx]
theorem aCY {xs:List Y} (h:xs.length<18446744073709551616):(gL xs).length<=xs.length+10:=by
 grind[iR,gL]
theorem bA7 (xs:List Y):xs.length<=(gL xs).length:=by simp[gL]
theorem aKI (m:Meta):m.min.size+m.max.size<=(gA m).length:=by
 grind[bA7,bZ,gA]
theorem aTz {g:Gone} (h:g.wf):(mX g).length<=20:=by
 have c:=h.level; have a:=h.number;grind[iR,mX]
theorem aGC {a:List Gone} (h:∀ g∈a,g.wf):(a.flatMap mX).length<=20*a.length:=by
 induction a with
 | nil=>simp
 | cons g a ih =>
  grind[aTz]
theorem SlR.fat {α:Type} {G:PM} {sz:Nat} {enc:α->List Value} {h:Sh} {xs:List α} (s:SlR G sz enc h xs) {j:Int} {k:Nat} {x:α} (e:j.toNat=k) (a:xs[k]? = some x) (q:Nat) {v:Value} (c:(enc x)[q]? = some v):RdP G ⟨h.b,h.o+j.toNat*sz+q,none⟩ v:=s.at e a q v c
def uD (s:State) (e:Edit):Bool:=((qe 5).any fun i=>decide (e.gens i<s.gens i))||(((decide (e.log<s.log)||decide (e.next<s.next))||decide (e.seq<s.seq))||decide (e.least<s.least))
theorem aRX {s:State} {e:Edit} {i:Nat} (a:i<5) (h:e.gens i<s.gens i):uD s e=true:=by
 grind[uD]
theorem aJM {s:State} {e:Edit} (h:∀ i,i<5->¬ e.gens i<s.gens i):uD s e=(((decide (e.log<s.log)||decide (e.next<s.next))||decide (e.seq<s.seq))||decide (e.least<s.least)):=by
 unfold uD;grind
theorem State.len {s:State} {hd:Nat->Sh}:(s.cells hd).length=14:=by rfl
theorem aE2 {s:State} {hd:Nat->Sh}:∀ u∈s.cells hd,u.oneCell'=true:=by
 intro u a;simp only [State.cells,qv,qi,qg,qj,or_false] at a;rcases a with (⟨i,_,rfl⟩ | (rfl|rfl|rfl|rfl)) | ⟨i,_,rfl⟩<;>rfl
instance qo19 {s:State} {hd:Nat->Sh}:QOne (s.cells hd):=⟨aE2⟩
instance ql20 {s:State} {hd:Nat->Sh}:QLen (s.cells hd) 14:=⟨State.len⟩
theorem Edit.len {e:Edit} {a hd:Sh}:(e.cells a hd).length=11:=by rfl
theorem aPq {e:Edit} {c hd:Sh}:∀ u∈e.cells c hd,u.oneCell'=true:=by
 intro u a;simp only [Edit.cells,qv,qi,qg,qj,or_false] at a;rcases a with ((rfl|rfl|rfl|rfl) | ⟨i,_,rfl⟩) | (rfl|rfl)<;>rfl
instance qo21 {e:Edit} {ha hd:Sh}:QOne (e.cells ha hd):=⟨aPq⟩
instance ql22 {e:Edit} {ha hd:Sh}:QLen (e.cells ha hd) 11:=⟨Edit.len⟩
theorem aUh {e:Edit} {j:Int} {k:Nat} (a:j.toNat=k) (h:k<5):((List.range 5).map (fun i=>Value.int .u64 (e.gens i)))[j.toNat]? = some (.int .u64 (e.gens k)):=by
 simp_all
theorem bCf {a b:UInt8}:(a<b)↔a.toNat<b.toNat:=UInt8.lt_iff_toNat_lt
theorem aC4:∀ (x:List UInt8),Op.bytesLess x x=false
 | []=>rfl
 | a :: x=>by
  have h:¬ a<a:=by rw [bCf]; omega
  simp [Op.bytesLess,h,aC4 x]
theorem aJQ:∀ {x y z:List UInt8},Op.bytesLess x y=true->Op.bytesLess y z=true->Op.bytesLess x z=true
 | [],[],_,h,_=>by omega
 | [],_ :: _,[],_,h=>by trivial
 | [],_ :: _,_ :: _,_,_=>by rfl
 | _ :: _,[],_,h,_=>by trivial
 | _ :: _,_ :: _,[],_,h=>by trivial
 | a :: x,b :: y,c :: z,h,h'=>by
  simp only [Op.bytesLess,Bool.or_eq_true,Bool.and_eq_true,decide_eq_true_eq,beq_iff_eq] at h h' ⊢;rcases h with h | ⟨rfl,h⟩
  ·grind
  ·rcases h' with h' | ⟨rfl,h'⟩
   ·simp_all
   ·exact .inr ⟨rfl,aJQ h h'⟩
theorem aJR:∀ (x y:List UInt8),Op.bytesLess x y=true∨x=y∨Op.bytesLess y x=true
 | [],[]=>.inr (.inl rfl)
 | [],_ :: _=>.inl (by rfl)
 | _ :: _,[]=>.inr (.inr (by rfl))
 | a :: x,b :: y=>by
  simp only [Op.bytesLess,Bool.or_eq_true,Bool.and_eq_true,decide_eq_true_eq,beq_iff_eq,List.cons.injEq];have hab:a.toNat<b.toNat∨a=b∨b.toNat<a.toNat:=by
   grind[UInt8.toNat_inj]
  rcases hab with h|rfl | h
  ·grind
  ·rcases aJR x y with h|rfl | h
   ·exact .inl (.inr ⟨rfl,h⟩)
   ·exact .inr (.inl ⟨rfl,rfl⟩)
   ·exact .inr (.inr (.inr ⟨rfl,h⟩))
  grind
theorem aC9 {a b:ByteArray} (h:a.toList=b.toList):a=b:=by
 rw [ByteArray.toList_eq,ByteArray.toList_eq] at h;cases a<;>simp_all
theorem yJ (a:ByteArray):lt a a=false:=aC4 _
theorem aAX {a b c:ByteArray} (h:lt a b=true) (e:lt b c=true):lt a c=true:=aJQ h e
theorem aB1 (a b:ByteArray):lt a b=true∨a=b∨lt b a=true:=by
 grind[aJR,aC9,lt]
theorem aD0 {a b:ByteArray} (h:lt a b=true):lt b a=false:=by
 grind[aAX,yJ]
theorem aLX (a b:ByteArray):le a b = !lt b a:=by
 have e:le a b=(lt a b||a.toList == b.toList):=rfl;rw [e];rcases aB1 a b with h|rfl | h
 ·simp_all[aD0]
 ·simp[yJ]
 grind[aD0,aC9]
theorem aAY (s:State) {i:Nat} (h:i<5):((s.lv i).length:Int)<=tot s 5:=by
 have a:=aEg s (show i+1<=5 by omega);have c:=aCa s i;rw [show tot s (i+1)=tot s i+(s.lv i).length from rfl] at a;omega
structure Ent where
 user:ByteArray
 seq:BitVec 64
 kind:Y
 value:ByteArray
def Ent.cells (e:Ent):List Value:=[.string e.user,uv .u64 e.seq,V e.kind,.string e.value]
def Ent.val (e:Ent):Value:=.agg e.cells.toArray
def Ent.zero:Ent:=⟨xe,0,0,xe⟩
theorem Ent.len (e:Ent):e.cells.length=4:=rfl
theorem Ent.one (e:Ent):∀ u∈e.cells,u.oneCell'=true:=by
 intro u a;simp only [Ent.cells,qg,qj,or_false] at a;rcases a with rfl|rfl|rfl|rfl<;>rfl
instance qo17 {e:Ent}:QOne e.cells:=⟨Ent.one e⟩
instance ql18 {e:Ent}:QLen e.cells 4:=⟨rfl⟩
def cM (e:Ent):Bool:=(decide ((e.user.size:Int)<=1024)&&decide ((e.value.size:Int)<=65536))&&decide (e.seq.toNat<=72057594037927935)&&(if e.kind=0#8 then e.value.toList == [] else decide (e.kind=1#8))
def dH (a b:Ent):Bool:=lt a.user b.user||(a.user.toList == b.user.toList&&decide (b.seq.toNat<a.seq.toNat))
noncomputable def cR (l:List Ent):Bool:=B (∀ i,i+1<l.length->dH (l.getD i Ent.zero) (l.getD (i+1) Ent.zero)=true)
theorem aZZ {l:List Ent} {i:Nat} (h:i+1<l.length) (a:dH (l.getD i Ent.zero) (l.getD (i+1) Ent.zero)=false):cR l=false:=aCj fun c=>by simp_all
theorem aZa {l:List Ent} {k:Nat} (a:l.length<=k+1) (h:∀ i,i<k->dH (l.getD i Ent.zero) (l.getD (i+1) Ent.zero)=true):cR l=true:=vF fun i c=>h i om
def dM (e:Ent):List Y:=yb e.user++cY (e.seq <<< 8+e.kind.setWidth 64) 8
theorem aAR (e:Ent):(dM e).length=e.user.size+8:=by simp[dM,bZ,kI]
def aBy (s:List Y):BitVec 64:=eC (s.drop (s.length-8)) 8
def uL (s:List Y):Ent:=⟨aV (s.take (s.length-8)),aBy s >>> 8,(aBy s).setWidth 8,xe⟩
def iV (s:List Y):Ent×Int:=if s.length<8 then (Ent.zero,80) else if cM (uL s) then (uL s,0) else (Ent.zero,80)
def gF:List Y->List Y->Nat
 | x :: a,y :: b=>if x=y then gF a b+1 else 0
 | _,_=>0
theorem aDI:∀ a b:List Y,gF a b<=a.length∧gF a b<=b.length
 | [],_=>⟨Nat.zero_le _,Nat.zero_le _⟩
 | _ :: _,[]=>⟨Nat.zero_le _,Nat.zero_le _⟩
 | x :: a,y :: b=>by
  have:=aDI a b;unfold gF;split<;>simp only [wj]<;>omega
theorem aDH:∀ {a b:List Y} {k:Nat},k<=a.length->k<=b.length->(∀ j,j<k->a.getD j 0=b.getD j 0)->(k=a.length∨k=b.length∨a.getD k 0≠b.getD k 0)->gF a b=k
 | [],b,k,h1,_,_,_=>by simp_all[gF]
 | x :: a,[],k,_,h2,_,_=>by simp_all[gF]
 | x :: a,y :: b,0,_,_,_,h=>by
  simp_all[gF]
 | x :: a,y :: b,k+1,h1,h2,hj,h=>by
  have h0:=hj 0 om;simp only [vb] at h0;unfold gF;rw [if_pos h0,aDH (a:=a) (b:=b) (k:=k) (by simp_all) (by simp_all) (fun j c=>by grind) ?_];simp_all
def qU (a b:List Y):List Y :=
 if gF a b<a.length∧gF a b<b.length∧(a.getD (gF a b) 0).toNat+2<=(b.getD (gF a b) 0).toNat then a.take (gF a b)++[a.getD (gF a b) 0+1#8] else a
theorem aF7 {α:Type} {enc:α->List Value} {sz:Nat}:∀ {xs:List α} {q:Nat},(∀ y∈xs,(enc y).length=sz)->(xs.take q).flatMap enc=(xs.flatMap enc).take (q*sz)
 | [],q,_=>by simp
 | x :: xs,0,_=>by simp
 | x :: xs,q+1,h=>by
  have hx:=h x (ql ..);rw [List.take_succ_cons,xp,xp,show (q+1)*sz=(enc x).length+q*sz by rw [hx,yc]; omega,List.take_length_add_append,aF7 (fun y a=>h y (qo _ a))]
theorem aKg {α:Type} {enc:α->List Value} {sz:Nat}:∀ {xs:List α} {q:Nat},(∀ y∈xs,(enc y).length=sz)->(xs.drop q).flatMap enc=(xs.flatMap enc).drop (q*sz)
 | [],q,_=>by simp
 | x :: xs,0,_=>by simp
 | x :: xs,q+1,h=>by
  have hx:=h x (ql ..);rw [List.drop_succ_cons,xp,show (q+1)*sz=(enc x).length+q*sz by rw [hx,yc]; omega,List.drop_length_add_append,aKg (fun y a=>h y (qo _ a))]
section
variable {dr:Bool} {mc:Md} {P:Program} {n:Fm} {l:List Oper} {K:aG→PM→aB→Prop} {i:Nat} {σ:List Nat} {ρ:aG} {G:PM} {μ:aB}
variable {d t:Nat} {p:String} {af:Array Edge} {g:Option (Nat×Bool)} {c:Bool}
theorem sr1 {T C:TypeId} {x:Operand} {k f:IntKind} {e a:Int} (A:Nat) (q:nth l i=some ⟨some d,.binOp .shr T x y C,t,p,af,g⟩) (r:Gd l ρ g c) (m:Ev ρ c x (.int k e)) (j:Ev ρ c y (.int f a)) (w:e=A) (v:a=1) (D:1<=k.bits) (h:Wo dr mc P n l K σ ((d,c,.int k ((A / 2:Nat):Int)) :: ρ) G μ):Wo dr mc P n l K (i :: σ) ρ G μ:=by
 subst w; subst v;refine sr q r m j (fun _=>dc) ?_;grind
theorem s3 {e sz r:Nat} {x z u:Operand} {b cap:Nat} {D C A:IntKind} {lo f c:Int} (L:nth l i=some ⟨some d,.slice T x (some y) (some z) (some u),t,p,af,none⟩) (N:cI P T=some (e,sz,r)) (H:Ev ρ true x (.slice (some ⟨b,0,none⟩) m cap)) (F:Ev ρ true y (.int D lo)) (E:Ev ρ true z (.int C f)) (I:Ev ρ true u (.int A c)) (O:0<=lo) (h1:lo<=f) (h2:f<=c) (h3:c<=cap) (h:∀ v,Wo dr mc P n l K σ ((d,true,v) :: ρ) G μ):Wo dr mc P n l K (i :: σ) ρ G μ:=by
 obtain ⟨k,j,q,J,M⟩:=gE N;refine .pure (v:=.slice (if c.toNat=lo.toNat then (some ⟨b,0,none⟩ : Option Addr) else (some ⟨b,0,none⟩ : Option Addr).map (·.add (lo.toNat*j.size))) (f.toNat-lo.toNat) (c.toNat-lo.toNat)) L (.inl rfl) .no (fun Q a w g=>?_) (h _);simp [execOp,H.eval g rfl,F.eval g rfl,E.eval g rfl,I.eval g rfl,Instr.sliceAt,run_underlying k,Instr.slice,Instr.sliceBounds,Instr.sliceBound,asIntOf,show 0<=f by omega,show 0<=c by omega,O,sizeOf,typeInfo,q];grind
theorem srh {e sz a:Nat} {x z:Operand} {b cap:Nat} {k:IntKind} {c:Int} (q:Nat) (r:nth l i=some ⟨some d,.slice T x none (some z) none,t,p,af,none⟩) (v:cI P T=some (e,sz,a)) (g:Ev ρ true x (.slice (some ⟨b,0,none⟩) m cap)) (f:Ev ρ true z (.int k c)) (j:c=q) (h1:q<=cap) (h:Wo dr mc P n l K σ ((d,true,.slice (some ⟨b,0,none⟩) q cap) :: ρ) G μ):Wo dr mc P n l K (i :: σ) ρ G μ:=by
 subst j;exact se (s:=⟨some ⟨b,0,none⟩,cap⟩) (m:=m) r .no v g f om (fun _=>by simp_all) (by trivial)
theorem slz {e sz f b cap:Nat} {x:Operand} {k:IntKind} {lo:Int} (q:Nat) (v:nth l i=some ⟨some d,.slice T x (some y) none none,t,p,af,none⟩) (C:cI P T=some (e,sz,f)) (j:Ev ρ true x (.slice (some ⟨b,0,none⟩) m cap)) (g:Ev ρ true y (.int k lo)) (r:lo=q) (h1:q<=m) (h2:m<=cap) (h:∀ oa,(q<m->oa=some ⟨b,q*sz,none⟩)->Wo dr mc P n l K σ ((d,true,.slice oa (m-q) (cap-q)) :: ρ) G μ):Wo dr mc P n l K (i :: σ) ρ G μ:=by
 by_cases J:q<cap
 ·exact slr q v C j g r h1 h2 J (h _ fun _=>rfl)
 refine .pure v (.inl rfl) .no (fun _ a w A=>?_) (h (some ⟨b,0,none⟩) (fun I=>absurd I om));obtain ⟨E,D,H,rfl,rfl⟩:=gE C;subst r;have c:=j.eval A rfl;have F:cap=q:=by omega
 simp [execOp,c,g.eval A rfl,Instr.sliceAt,run_underlying E,Instr.slice,Instr.sliceBounds,Instr.sliceBound,asIntOf,sizeOf,typeInfo,H,h1,h2,F];try omega
theorem sll {e sz a b cap:Nat} {x z:Operand} {k f:IntKind} {lo c:Int} (q r:Nat) (C:nth l i=some ⟨some d,.slice T x (some y) (some z) none,t,p,af,none⟩) (D:cI P T=some (e,sz,a)) (v:Ev ρ true x (.slice (some ⟨b,0,none⟩) m cap)) (j:Ev ρ true y (.int k lo)) (g:Ev ρ true z (.int f c)) (A:lo=q) (w:c=r) (h1:q<=r) (h2:r<=cap) (h3:q<cap) (h:Wo dr mc P n l K σ ((d,true,.slice (some ⟨b,q*sz,none⟩) (r-q) (cap-q)) :: ρ) G μ):Wo dr mc P n l K (i :: σ) ρ G μ:=by
 subst A; subst w;refine sc (s:=⟨some ⟨b,0,none⟩,cap⟩) (m:=m) C .no D v j g om om (fun _=>by simp_all) ?_;have E:(Sh.cut ⟨some ⟨b,0,none⟩,cap⟩ (q:Int).toNat sz).val ((r:Int).toNat-(q:Int).toNat)=.slice (some ⟨b,q*sz,none⟩) (r-q) (cap-q):=by
  simp only [ym,Sh.cut,Sh.val,if_neg (show ¬ cap=q by omega),wu,kG,wb]
 simp_all
theorem aZz {L sz b cap q r cp:Nat} {xs:List Value} {oa:Option Addr} {w:World} (hT:cI P T=some (E,sz,L)) (C:Sat G [.row (.slice (some ⟨b,0,none⟩) m cap) E sz m xs] w) (hq:q<=r) (D:r<=m) (H:r<m->oa=some ⟨b,r*sz,none⟩) (h1:∀ u∈xs,u.oneCell'=true) :
  ∃ w',(Builtin.append_ #[T,T] ty #[.slice (some ⟨b,0,none⟩) q cap,.slice oa (m-r) cp]).run P w=.ok (.slice (some ⟨b,0,none⟩) (q+(m-r)) cap) w'∧Tr G [b] w G [.row (.slice (some ⟨b,0,none⟩) (q+(m-r)) cap) E sz (q+(m-r)) (xs.take (q*sz)++xs.drop (r*sz))] w':=by
 obtain ⟨y,a,O,rfl,rfl⟩:=gE hT;have i:w.ownsRow 0 E a.size (.slice (some ⟨b,0,none⟩) m cap) m xs:=C.own _ (qf.2 rfl);have X:=i.1;rcases i.2 with ⟨e,_⟩ | ⟨g,S,f,e,_,Q,J,x,K,A⟩
 ·cases e
 simp only [Value.slice.injEq,Option.some.injEq,Addr.mk.injEq,and_true,true_and] at e;obtain ⟨rfl,rfl⟩:=e;have k:Sat G [.blk b (.cells f E (0,0))] w:=⟨C.sub,fun r D=>by rw [qf.1 D]; exact Q,fun c hc=>C.apart c (by trivial),by simp [keys,Res.keys]⟩;have a0:q*a.size<=r*a.size:=xc _ hq;have Z:r*a.size<=m*a.size:=xc _ D;have a2:m*a.size<=cap*a.size:=xc _ J;have a4:f.toList.length=f.size:=qa9 ..;have I:(xs.drop (r*a.size)).length=(m-r)*a.size:=by grind[Nat.sub_mul]
 have M:(m-r)*a.size=m*a.size-r*a.size:=Nat.sub_mul ..;have t:(xs.take (q*a.size)++xs.drop (r*a.size)).length=(q+(m-r))*a.size:=by
  grind
 have p:f.toList.take (q*a.size)=xs.take (q*a.size):=by
  grind
 by_cases hk:m-r=0
 ·rw [hk];have hd:xs.drop (r*a.size)=[]:=xt (by grind);rw [hd,we,yn];refine ⟨w,?_,?_⟩
  ·have F:q<=cap:=by omega
   cases oa<;>simp [Builtin.append_,run_underlying y,sizeOf,typeInfo,O,Builtin.lenOf,Builtin.firstCells,loadCells,loadCellsFrom,F,storeCells]
  have:=(gR k).asRow (m:=q) (cap:=cap) (sz:=a.size) (xs:=xs.take (q*a.size)) (by grind) om x K p;trivial
 obtain rfl:=H om;have l:∀ j u,(xs.drop (r*a.size))[j]? = some u->w.cell? ((⟨b,r*a.size,none⟩ : Addr).add j)=some u:=by
  intro j u N;rw [ky] at N;have:=i.cells (g:=b) rfl (r*a.size+j) u N;simp_all[kG]
 have h:q+(m-r)<=cap:=by omega
 have v:q*a.size+(xs.drop (r*a.size)).length<=f.size:=by omega
 have n:=run_append_room (P:=P) w T ty E a y O b q cap f Q ⟨b,r*a.size,none⟩ (m-r) cp (xs.drop (r*a.size)) I l (fun u y=>h1 u (List.mem_of_mem_drop y)) h v;refine ⟨_,n,?_⟩;have h2:=xM (cs':=(f.toList.take (q*a.size)++xs.drop (r*a.size)++f.toList.drop (q*a.size+(xs.drop (r*a.size)).length)).toArray) k;refine h2.asRow (m:=q+(m-r)) (cap:=cap) (sz:=a.size) t h x ?_ ?_
 ·grind
 grind
theorem apD {α:Type} {enc:α->List Value} {sz b cap q r cp:Nat} {x:Operand} {xs:List α} {oa:Option Addr} {c:aB} (J:nth l i=some ⟨some d,.call { callee:=.builtin .append,args:=#[x,y],argTypes:=#[T,T] },t,p,af,none⟩) (L:cI P T=some (E,sz,j)) (C:Ev ρ true x (.slice (some ⟨b,0,none⟩) q cap)) (A:Ev ρ true y (.slice oa (xs.length-r) cp)) (hm:MTake μ (rS sz enc (.slice (some ⟨b,0,none⟩) xs.length cap) E xs) c) (f:r<xs.length->oa=some ⟨b,r*sz,none⟩) (D:∀ y∈xs,(enc y).length=sz) (h1:∀ u∈xs.flatMap enc,u.oneCell'=true) (I:q<=r) (H:r<=xs.length) (h:Wo dr mc P n l K σ ((d,true,.slice (some ⟨b,0,none⟩) (xs.take q++xs.drop r).length cap) :: ρ) G (rS sz enc (.slice (some ⟨b,0,none⟩) (xs.take q++xs.drop r).length cap) E (xs.take q++xs.drop r) :: c)) (hmc:mc.a=false∨dr=false:=by first|exact .inl rfl|exact .inr rfl):Wo dr mc P n l K (i :: σ) ρ G μ:=by
 have g:(xs.take q++xs.drop r).length=q+(xs.length-r):=by grind
 rw [g] at h;refine .act (μ₁:=[rS sz enc (.slice (some ⟨b,0,none⟩) xs.length cap) E xs]) (μ₂:=c) (post:=fun M c v=>M=G∧v=.slice (some ⟨b,0,none⟩) (q+(xs.length-r)) cap∧c=[rS sz enc (.slice (some ⟨b,0,none⟩) (q+(xs.length-r)) cap) E (xs.take q++xs.drop r)]) J (by simp_all[bK]) .no hm.perm (fun a w k F=>.inl ?_) ?_
 ·obtain ⟨m,e,N⟩:=aZz (ty:=t) (cp:=cp) L F.left I H f h1;refine ⟨_,m,G,_,.inl (by simp [execOp,resolve,invoke,builtin,C.eval k rfl,A.eval k rfl,e]),?_,rfl,rfl,rfl⟩;simp_all[aF7,aKg,keys,rS,Res.keys,Value.ownBlock]
 simp_all[bT]
theorem clT {α:Type} {enc:α->List Value} {sz S b cap k cp:Nat} {x:Operand} {z:Value} {xs:List α} {v:aB} {dd:Option Nat} (ho:nth l i=some ⟨dd,.call { callee:=.builtin .clear,args:=#[x],argTypes:=#[T] },t,p,af,none⟩) (hT:cI P T=some (E,sz,S)) (J:(P.info? E).bind (·.zero)=some z) (a3:z.cells.size=sz) (a5:∀ u∈z.cells,u.oneCell'=true) (hx:Ev ρ true x (.slice (some ⟨b,xs.length*sz,none⟩) k cp)) (hm:MTake μ (rS sz enc (.slice (some ⟨b,0,none⟩) xs.length cap) E xs) v) (h0:0<k) (hk:xs.length+k<=cap) (M:∀ y∈xs,(enc y).length=sz) (h:Wo dr mc P n l K σ (bT ρ dd true (.tuple #[])) G (rS sz enc (.slice (some ⟨b,0,none⟩) xs.length cap) E xs :: v)):Wo dr mc P n l K (i :: σ) ρ G μ:=by
 refine .act (μ₁:=[rS sz enc (.slice (some ⟨b,0,none⟩) xs.length cap) E xs]) (μ₂:=v) (post:=fun G' v v'=>G'=G∧v'=.tuple #[]∧v=[rS sz enc (.slice (some ⟨b,0,none⟩) xs.length cap) E xs]) ho (.inl rfl) .no hm.perm (fun a w ha hs=>.inl ?_) ?_
 ·have A:=hs.left;have H:w.ownsRow 0 E sz (.slice (some ⟨b,0,none⟩) xs.length cap) xs.length (xs.flatMap enc):=A.own _ (qf.2 rfl);have O:=uO M;obtain ⟨C,f,X,rfl,rfl⟩:=gE hT;rw [X] at J;simp only [qw] at J;rcases H.2 with ⟨e,_⟩ | ⟨g,a1,q,e,_,Z,b5,Q,b8,L⟩
  ·cases e
  simp only [Value.slice.injEq,Option.some.injEq,Addr.mk.injEq,and_true,true_and] at e;obtain ⟨rfl,rfl⟩:=e;have F:Sat G [.blk b (.cells q E (0,0))] w:=⟨A.sub,fun r hr=>by rw [qf.1 hr]; exact Z,fun c hc=>A.apart c (by trivial),by simp [keys,Res.keys]⟩;have a4:(Builtin.zeroCells z.cells k).toList.length=k*f.size:=by grind[size_zeroCells]
  have b7:xs.length*f.size+k*f.size<=cap*f.size:=by rw [← Nat.add_mul]; simp[*,xc]
  have I:∀ u∈(Builtin.zeroCells z.cells k).toList,u.oneCell'=true:=by
   intro u C;rw [Array.mem_toList_iff] at C;unfold Builtin.zeroCells at C;obtain ⟨j,hj,rfl⟩:=Array.mem_map.1 C;grind[Nat.mod_lt]
  have D:=run_storeCells_at P b (xs.length*f.size) E (Builtin.zeroCells z.cells k).toList 0 q w Z om I;simp only [yn] at D;refine ⟨.tuple #[],w.setRow b (q.toList.take (xs.length*f.size)++(Builtin.zeroCells z.cells k).toList++q.toList.drop (xs.length*f.size+(Builtin.zeroCells z.cells k).toList.length)).toArray,G,_,.inl (by
   have b6:k≠0:=by omega
   simp [execOp,resolve,invoke,builtin,hx.eval ha rfl,Builtin.clear_,run_underlying C,zeroValue,typeInfo,X,J,D]),?_,rfl,rfl,rfl⟩
  have N:keys [rS f.size enc (.slice (some ⟨b,0,none⟩) xs.length cap) E xs]=[b]:=by rfl
  rw [N];have h2:=xM (cs':=(q.toList.take (xs.length*f.size)++(Builtin.zeroCells z.cells k).toList++q.toList.drop (xs.length*f.size+(Builtin.zeroCells z.cells k).toList.length)).toArray) F;have b9:q.toList.length=q.size:=qa9 ..;refine h2.asRow (m:=xs.length) (cap:=cap) (sz:=f.size) O om Q ?_ ?_
  ·grind
  simp_all
 simp_all
end
theorem sC {α:Type} {enc:α->List Value} {sz:Nat} {P:Program} {G:PM} {μ:aB} {f:FuncId} {args:Array Value} {v:Value} {xs:List α} {Q:aB->Value->Prop} (n:∀ x∈xs,(enc x).length=sz) (h:∀ (s:Sh) (G2:PM),PM.le G G2->v=s.val xs.length->SlR G2 sz enc s xs->Ct P f args G2 μ (fun _ a u=>Q a u)):Ct P f args G (rS sz enc v E xs :: μ) (fun _ a u=>∃ A,a=rS sz enc v E xs :: A∧Q A u):=by
 intro w k;have p:w.ownsRow 0 E sz v xs.length (xs.flatMap enc):=k.own _ (ql ..);have O:=k.nodup;rcases p.2 with ⟨rfl,T⟩ | ⟨g,m,i,rfl,_,S,t,J,I,l⟩
 ·have N:xs=[]:=wo T;subst N;have y:keys (rS sz enc (.slice none 0 0) E ([]:List α) :: μ)=keys μ:=by rfl
  have c:Sat G μ w:=⟨k.sub,fun r q=>k.own r (qo _ q),by rw [← y]; exact k.apart,by simp_all⟩;refine (h ⟨none,0⟩ G (PM.le.refl _) rfl dG w c).mono ?_;rintro e C ⟨u,M,a,rfl,D,K⟩;refine ⟨u,M,_,rfl,?_,a,rfl,K⟩;rw [y]; exact D.nilRow
 have y:keys (rS sz enc (.slice (some ⟨g,0,none⟩) xs.length m) E xs :: μ)=keys (.blk g (.cells i E (0,0)) :: μ):=by rfl
 have c:Sat G (.blk g (.cells i E (0,0)) :: μ) w:=by
  refine ⟨k.sub,fun r q=>?_,by rw [← y]; exact k.apart,by simp_all⟩;rcases qg.1 q with rfl | q
  ·exact S
  exact k.own r (qo _ q)
 have L:G g=none:=c.apart g (by simp [keys,Res.keys]);have F:SlR (G.add g (.cells i E (0,0))) sz enc ⟨some ⟨g,0,none⟩,m⟩ xs:=by
  refine pP n t (fun _=>rfl) ?_;intro j u X C H;show C.cell? ⟨g,0+j,none⟩=some u;rw [wb,cell_of_row C g j i E (0,0) (H g _ (bP _ _ _))];grind
 refine (vH (h ⟨some ⟨g,0,none⟩,m⟩ _ (PM.le_add L) rfl F) w c).mono ?_;rintro e C ⟨u,M,a,rfl,D,A,rfl,K⟩;refine ⟨u,M,_,rfl,?_,A,rfl,K⟩;rw [y];exact D.asRow (uO n) t J I l
abbrev Nd:=Ent×(Nat→Nat)
def Nd.cells (x:Nd):List Value:=x.1.cells++(qe 12).map fun k=>.int .i64 (x.2 k:Int)
def Nd.z:Nd:=(Ent.zero,fun _=>0)
theorem Nd.len (x:Nd):x.cells.length=16:=rfl
theorem Nd.one (x:Nd):∀ u∈x.cells,u.oneCell'=true:=by
 intro u a;rcases qv.1 a with h | h
 ·exact x.1.one u h
 ·obtain ⟨k,_,rfl⟩:=qi.1 h; rfl
def bR (xs:List Nd) (a k:Nat):Nat:=(xs.getD a Nd.z).2 k
def fA (e:Ent) (u:ByteArray) (q:BitVec 64):Bool:=lt e.user u||(e.user.toList == u.toList&&decide (q.toNat<e.seq.toNat))
def vB (xs:List Nd) (u:ByteArray) (q:BitVec 64) (a k:Nat):Prop:=bR xs a k=0∨fA (xs.getD (bR xs a k) Nd.z).1 u q=false
structure WayN (xs:List Nd) (u:ByteArray) (q:BitVec 64) (w:Nat→Nat):Prop where
 top:w 12=0
 lt:∀ k,k≤12→w k<xs.length
 step:∀ k,k<12→(w k=w (k+1)∧vB xs u q (w (k+1)) k)∨(w k=bR xs (w (k+1)) k∧0<bR xs (w (k+1)) k∧fA (xs.getD (bR xs (w (k+1)) k) Nd.z).1 u q=true∧vB xs u q (w k) k)
 inb:∀ a,a<xs.length→∀ k,k<12→bR xs a k<xs.length
def uR (x:Nd) (k v:Nat):Nd:=(x.1,fun j=>if j=k then v else x.2 j)
def wI (last:Nat->Nat) (fresh:Nat) (xs:List Nd) (k:Nat):List Nd:=xs.set fresh (uR (xs.getD fresh Nd.z) k (bR xs (last k) k))
def aDw (last:Nat->Nat) (fresh:Nat) (ys:List Nd) (k:Nat):List Nd:=ys.set (last k) (uR (ys.getD (last k) Nd.z) k fresh)
def iP (last:Nat->Nat) (fresh:Nat) (xs:List Nd):Nat->List Nd
 | 0=>xs
 | k+1=>aDw last fresh (wI last fresh (iP last fresh xs k) k) k
theorem tF {last:Nat->Nat} {a:Nat} {xs:List Nd}:∀ {k:Nat},(iP last a xs k).length=xs.length
 | 0=>rfl
 | k+1=>by simp only [iP,wI,aDw,List.length_set]; exact tF
theorem aKi {α:Type} {enc:α->List Value} {sz q:Nat} {v:Value} {u:α}:∀ {xs:List α} {k:Nat} {x:α},(∀ y∈xs,(enc y).length=sz)->xs[k]? = some x->enc u=(enc x).set q v->q<sz->(xs.set k u).flatMap enc=(xs.flatMap enc).set (k*sz+q) v
 | [],k,x,_,h,_,_=>by rfl
 | y :: r,0,x,hs,h,hu,hq=>by
  simp_all
 | y :: r,k+1,x,hs,h,hu,hq=>by
  rw [List.getElem?_cons_succ] at h;have hl:=hs y (ql ..);rw [List.set_cons_succ,xp,xp,aKi (fun z a=>hs z (qo _ a)) h hu hq,ke _ _ (by rw [hl,yc]; omega)];congr 2;rw [hl,yc]; omega
section
variable {dr:Bool} {mc:Md} {P:Program} {n:Fm} {l:List Oper} {K:aG→PM→aB→Prop} {i:Nat} {σ:List Nat} {ρ:aG} {G:PM} {μ:aB}
variable {t:Nat} {p:String} {af:Array Edge}
theorem stE {α:Type} {enc:α->List Value} {sz cap b o k q:Nat} {x:Operand} {v:Value} {xs:List α} {u e:α} {j:aB} (ho:nth l i=some ⟨none,.store T x y,t,p,af,none⟩) (hx:Ev ρ true x (.pointer (some ⟨b,o,none⟩))) (hy:Ev ρ true y v) (hz:iU P T=some 1) (hm:MTake μ (rS sz enc (.slice (some ⟨b,0,none⟩) m cap) E xs) j) (C:∀ y∈xs,(enc y).length=sz) (X:xs[k]? = some e) (hu:enc u=(enc e).set q v) (hq:o=k*sz+q) (M:q<sz) (h1:v.oneCell'=true) (h:Wo dr mc P n l K σ ρ G (rS sz enc (.slice (some ⟨b,0,none⟩) m cap) E (xs.set k u) :: j)):Wo dr mc P n l K (i :: σ) ρ G μ:=by
 subst hq;have hk:k<xs.length:=(List.getElem?_eq_some_iff.1 X).1;refine .act (μ₁:=[rS sz enc (.slice (some ⟨b,0,none⟩) m cap) E xs]) (μ₂:=j) (post:=fun G' j v=>G'=G∧j=[rS sz enc (.slice (some ⟨b,0,none⟩) m cap) E (xs.set k u)]∧v=undef) ho (.inl rfl) .no hm.perm (fun a w ha hs=>.inl ?_) ?_
 ·have A:=hs.left;have F:w.ownsRow 0 E sz (.slice (some ⟨b,0,none⟩) m cap) xs.length (xs.flatMap enc):=A.own _ (qf.2 rfl);have b9:=uO C;rcases F.2 with ⟨e,_⟩ | ⟨g,a1,f,e,_,S,H,N,c0,J⟩
  ·cases e
  simp only [Value.slice.injEq,Option.some.injEq,Addr.mk.injEq,and_true,true_and] at e;obtain ⟨rfl,rfl,rfl⟩:=e;have I:keys [rS sz enc (.slice (some ⟨b,0,none⟩) xs.length cap) E xs]=[b]:=by rfl
  have D:Sat G [.blk b (.cells f E (0,0))] w:=⟨A.sub,fun r hr=>by rw [qf.1 hr]; exact S,fun c hc=>A.apart c (by trivial),by simp [keys,Res.keys]⟩;have b6:k*sz+sz<=xs.length*sz:=by rw [← yc]; exact xc _ hk
  have Z:xs.length*sz<=cap*sz:=xc _ H;have L:=run_storeCells_at P b (k*sz+q) E [v] 0 f w S (by grind) (fun c hc=>by simp_all);simp only [yn,List.length_singleton] at L;have Q:k*sz+q<f.toList.length:=by grind
  have O:f.toList.take (k*sz+q)++[v]++f.toList.drop (k*sz+q+1)=f.toList.set (k*sz+q) v:=by
   simp_all[List.set_eq_take_append_cons_drop]
  have b8:=aKi C X hu M;have h2:=(xM (cs':=(f.toList.take (k*sz+q)++[v]++f.toList.drop (k*sz+q+1)).toArray) D).asRow (m:=xs.length) (cap:=cap) (sz:=sz) (xs:=(xs.set k u).flatMap enc) (by simp_all) H N (by simp_all) (by
   simp_all[List.take_set])
  refine ⟨undef,_,G,_,.inr ⟨?_,rfl⟩,by rw [I]; exact h2,rfl,by simp,rfl⟩;cases hi:P.info? T with
  | none=>simp_all[iU]
  | some inf =>
   simp only [iU,hi,wu,Option.some.injEq] at hz;simp only [execOp,hx.eval ha rfl,hy.eval ha rfl];simp_all[Instr.storeAt,Instr.sureAddr,storeVar,uF,sizeOf,typeInfo]
 simp_all[bT]
end
theorem aMA {xs:List Nd} {a k p:Nat} (i:a<xs.length) (n:k<12) (g:p=a*16+4+k*1):(xs.flatMap Nd.cells)[p]? = some (.int .i64 (bR xs a k:Int)):=by
 subst g;obtain ⟨x,f⟩ : ∃ x,xs[a]? = some x:=⟨_,wi i⟩;have e:∀ {c:List Nd} {a:Nat} {x:Nd},c[a]? = some x->∀ j,j<16->(c.flatMap Nd.cells)[a*16+j]? = (x.cells)[j]?:=by
  intro c;induction c with
  | nil=>simp
  | cons y r ih =>
   intro a x h j q;rw [xp];cases a with
   | zero =>
    simp only [List.getElem?_cons_zero,Option.some.injEq] at h;subst h;rw [Nat.zero_mul,wb,yh (by trivial)]
   | succ a =>
    grind[Nd.len]
 have m:=e f (4+k) om;rw [show a*16+4+k*1=a*16+(4+k) by omega,m];have l:xs.getD a Nd.z=x:=by simp_all
 unfold bR;rw [l];show (x.1.cells++(qe 12).map fun k=>Value.int .i64 (x.2 k:Int))[4+k]? = _;grind[Ent.len]
theorem aMN {x:Nd} {k v:Nat} (a:k<12):Nd.cells (uR x k v)=(Nd.cells x).set (4+k) (.int .i64 (v:Int)):=by
 unfold Nd.cells uR;rw [ke _ _ (by simp[Ent.len]),Ent.len,show 4+k-4=k by omega];congr 1;refine xr fun j=>?_;grind
def wA (w:Nat->Nat):List Value:=(qe 12).map fun j=>.int .i64 (w j:Int)
theorem rX:(wA w).length=12:=by rfl
theorem aH3 (w:Nat->Nat):∀ u∈wA w,u.oneCell'=true:=fun u a=>by
 obtain ⟨k,_,rfl⟩:=qi.1 a; rfl
instance ql6 {w:Nat->Nat}:QLen (wA w) 12:=⟨rX⟩
theorem aCe {k p:Nat} (c:k<12) (a:p=k):(wA w)[p]? = some (.int .i64 (w k:Int)):=by
 simp_all[wA]
theorem aO9 {w':Nat->Nat} {k p:Nat} {v:Value} (f:k<12) (c:p=k) (a:v=.int .i64 (w' k:Int)) (e:∀ j,j≠k->w' j=w j):(wA w).set p v=wA w':=by
 subst c; subst a;refine xr fun j=>?_;rw [wA,wA,zu,zx,zx,qm,List.length_range];grind
def wK (w:Nat->Nat) (k:Nat):Nat->Nat:=fun j=>if j<k then 0 else w j
theorem aPA:wA (wK w 0)=wA w:=by rfl
def wq (w:Nat->Nat) (j q:Nat):Nat:=if q=0 then w (j+1) else w j
theorem bCy {xs:List Nd} {u:ByteArray} {p:Nat} (l:WayN xs u q w) (k:j<12) (i:p=0∨p=1∧vB xs u q (w j) j) (h:(decide (((bR xs (wq w j p) j:Nat):Int) > 0)&&fA (xs.getD (bR xs (wq w j p) j) Nd.z).1 u q)=true):p=0∧vB xs u q (w j) j∧w j=bR xs (w (j+1)) j:=by
 simp only [dP] at h;have f:∀ a,wq w j p=a->¬ vB xs u q a j:=fun a e c=>by
  subst e;rcases c with c | c
  ·omega
  simp_all
 rcases i with rfl | ⟨rfl,c⟩
 ·rcases l.step j k with ⟨_,g⟩ | ⟨r,g,n,m⟩
  ·exact absurd g (f _ rfl)
  simp_all
 ·exact absurd c (f _ rfl)
theorem bCx {xs:List Nd} {u:ByteArray} {p:Nat} (f:WayN xs u q w) (e:j<12) (c:p=0∨p=1∧vB xs u q (w j) j) (h:(decide (((bR xs (wq w j p) j:Nat):Int) > 0)&&fA (xs.getD (bR xs (wq w j p) j) Nd.z).1 u q)=false):wq w j p=w j:=by
 rcases c with rfl | ⟨rfl,_⟩
 ·rcases f.step j e with ⟨a,_⟩ | ⟨a,k,i,g⟩
  ·exact a.symm
  simp_all[wq]
 ·rfl
theorem xK {G:PM} {h:Sh} {xs:List Nd} (c:SlR G 16 Nd.cells h xs) {a k p:Nat} (g:a<xs.length) (f:k<12) (e:p=h.o+(a*16+4+k*1)):RdP G ⟨h.b,p,none⟩ (.int .i64 (bR xs a k:Int)):=by
 subst e;exact SlR.flat (fun x _=>Nd.len x) c _ _ (aMA g f rfl)
theorem aE0 {G:PM} {h:Sh} {xs:List Nd} (f:SlR G 16 Nd.cells h xs) {a p:Nat} (i:a<xs.length) (g:p=h.o+a*16):RdNP G h.b p (xs.getD a Nd.z).1.cells:=by
 subst g;obtain ⟨x,e⟩ : ∃ x,xs[a]? = some x:=⟨_,wi i⟩;have l:xs.getD a Nd.z=x:=by simp_all
 rw [l];have c:=f.at (j:=(a:Int)) (k:=a) (by simp) e;rw [show ((a:Int)).toNat=a by simp] at c;intro j v m;refine c j v ?_;grind[Nd.cells]
theorem aIX {G:PM} {μ c:aB} {xs:List Nd} {b cap a k p:Nat} (h:MTake μ (rS 16 Nd.cells (.slice (some ⟨b,0,none⟩) m cap) E xs) c) (g:a<xs.length) (f:k<12) (e:p=a*16+4+k*1):Rd G μ ⟨b,p,none⟩ (.int .i64 (bR xs a k:Int)):=Rd.row h (aMA g f e)
theorem aDv {f k:Nat} {xs:List Nd}:(wI w f xs k).length=xs.length:=by simp [wI]
theorem aNE {e:Ent} (h:cM e=true):e.user.size<=1024∧e.value.size<=65536:=by
 simp only [cM,dP] at h;omega
theorem aKw {xs:List Nd} {a:Nat} (h:a<xs.length):xs[a]? = some (xs.getD a Nd.z):=by
 simp_all
theorem aWb {P:Program} {G:PM} {f:FuncId} {args:Array Value} {e:Nat} {v sz:Value} {xs:List Nd} {r:Value} (h:∀ (s:Sh) (c:PM),v=s.val xs.length->SlR c 16 Nd.cells s xs->PB c e (cl [v,sz] T)->Ct P f args c [] (fun _ a u=>a=[]∧u=r)) :
  Ct P f args G [.blk e (cl [v,sz] T),rS 16 Nd.cells v E xs] (fun _ a u=>a=[.blk e (cl [v,sz] T),rS 16 Nd.cells v E xs]∧u=r):=by
 have p:Ct P f args (G.add e (cl [v,sz] T)) [rS 16 Nd.cells v E xs] (fun _ a u=>a=[rS 16 Nd.cells v E xs]∧u=r) :=
  (sC (Q:=fun g u=>g=[]∧u=r) (fun x _=>Nd.len x) fun s c i k l=>h s c k l ⟨i _ _ (bP _ _ _)⟩).mono
   fun q a u ⟨g,n,m,j⟩=>⟨by simp_all,j⟩
 exact (vH (Q:=fun a u=>a=[rS 16 Nd.cells v E xs]∧u=r) p).mono fun q a u ⟨g,n,m,j⟩=>⟨by simp_all,j⟩
section
variable {dr:Bool} {mc:Md} {P:Program} {n:Fm} {l:List Oper} {K:aG→PM→aB→Prop} {i:Nat} {σ:List Nat} {ρ:aG} {G:PM} {μ:aB}
variable {d t:Nat} {p:String} {af:Array Edge}
theorem aW5 {α:Type} {enc:α->List Value} {sz e:Nat} {x:Operand} {z:Value} (u:α) (L:nth l i=some ⟨some d,.makeSlice T x y,t,p,af,none⟩) (O:cI P T=some (E,sz,e)) (g:(P.info? E).bind (·.zero)=some z) (H:Ev ρ true x (.int .i64 1)) (F:Ev ρ true y (.int .i64 1)) (I:z.cells=(enc u).toArray) (J:(enc u).length=sz) (X:e<=1000000) (h:∀ b,Wo dr mc P n l K σ ((d,true,.slice (some ⟨b,0,none⟩) 1 1) :: ρ) G (rS sz enc (.slice (some ⟨b,0,none⟩) 1 1) E [u] :: μ)):Wo dr mc P n l K (i :: σ) ρ G μ:=by
 refine .act (μ₁:=[]) (μ₂:=μ) (post:=fun S f v=>∃ b,S=G∧v=.slice (some ⟨b,0,none⟩) 1 1∧f=[rS sz enc (.slice (some ⟨b,0,none⟩) 1 1) E [u]]) L (.inl rfl) .no (.refl _) (fun q w C A=>.inl ?_) ?_
 ·obtain ⟨k,c,D,r,N⟩:=gE O;rw [D] at g;simp only [qw] at g;have a:=run_make (P:=P) w T E c _ k D g .i64 .i64 1 1 om om om om;simp at a;have Q:Tr G (keys []) w G [.blk w.heap.size (.cells (madeCells z.cells c.size) E (0,0))] _:=(gR (Sat.left (μ:=[]) A)).alloc _;have M:(madeCells z.cells c.size).toList=enc u:=by
   rw [r,I,←J];unfold madeCells;refine xr fun j=>?_;grind[yp]
  refine ⟨_,_,G,_,.inl (by simp [execOp,H.eval C rfl,F.eval C rfl,a]),Q.asRow (m:=1) (cap:=1) (sz:=sz) (xs:=enc u) om (qd _) (by trivial) (by grind) ?_,w.heap.size,rfl,rfl,by simp⟩;grind
 simp_all[bT]
end
theorem aJX {a b:ByteArray} (h:(a.toList == b.toList)=true):a=b:=by
 rw [beq_iff_eq] at h;rcases aB1 a b with c | c | c
 ·simp_all[lt,aC4]
 ·exact c
 simp_all[lt,aC4]
theorem aI1 {e:Ent} {u:ByteArray}:fA e u q=true↔lt e.user u=true∨e.user=u∧q.toNat<e.seq.toNat:=by
 unfold fA;rw [wv,qq,decide_eq_true_eq];grind[aJX]
theorem zR {a b:Ent}:dH a b=true↔lt a.user b.user=true∨a.user=b.user∧b.seq.toNat<a.seq.toNat:=aI1 (e:=a) (u:=b.user) (q:=b.seq)
theorem aI2 {a b:Ent} {u:ByteArray} (h:dH a b=true) (c:fA b u q=true):fA a u q=true:=by
 grind[zR,aI1,aAX]
theorem aE7 {a b c:Ent} (h:dH a b=true) (e:dH b c=true):dH a c=true:=aI2 h e
theorem aIy {a b:Ent} (h:dH a b=true):dH b a=false:=by
 grind[aE7,zR,yJ]
theorem aI0 {a b:Ent} (h:dH a b=false) (c:¬ (a.user=b.user∧a.seq=b.seq)):dH b a=true:=by
 grind[zR,aB1,wl]
def SrE (l:List Ent):Prop:=l.Pairwise fun a b=>dH a b=true
theorem SrE.rises {l:List Ent} (h:SrE l):cR l=true :=
 aZa (k:=l.length-1) om fun i a=>by
  grind[List.pairwise_iff_getElem,SrE]
def xL (xs:List Nd) (u:ByteArray) (q:BitVec 64) (k:Nat):Nat->List Nat->Nat->Prop
 | a,[],z=>z=a∧vB xs u q a k
 | a,b :: r,z=>b=bR xs a k∧0<b∧fA (xs.getD b Nd.z).1 u q=true∧xL xs u q k b r z
structure WayG (xs:List Nd) (u:ByteArray) (q:BitVec 64) (w:Nat→Nat):Prop where
 top:w 12=0
 lt:∀ k,k≤12→w k<xs.length
 path:∀ k,k<12→∃ l,xL xs u q k (w (k+1)) l (w k)
 inb:∀ a,a<xs.length→∀ k,k<12→bR xs a k<xs.length
theorem aYr {xs:List Nd} {u:ByteArray} {k a z:Nat} {l:List Nat} (h:xL xs u q k a l z) (c:(decide (((bR xs a k:Nat):Int) > 0)&&fA (xs.getD (bR xs a k) Nd.z).1 u q)=true):∃ r,l=bR xs a k :: r∧xL xs u q k (bR xs a k) r z:=by
 simp only [dP] at c;cases l with
 | nil =>
  rcases h.2 with e | e
  ·omega
  simp_all
 | cons b r=>obtain ⟨rfl,_,_,f⟩:=h; simp_all
theorem aYq {xs:List Nd} {u:ByteArray} {k a z:Nat} {l:List Nat} (h:xL xs u q k a l z) (c:(decide (((bR xs a k:Nat):Int) > 0)&&fA (xs.getD (bR xs a k) Nd.z).1 u q)=false):a=z:=by
 cases l with
 | nil=>exact h.1.symm
 | cons b r =>
  obtain ⟨rfl,f,e,_⟩:=h;simp_all
def Chn (xs:List Nd) (k:Nat):Nat->List Nat->Prop
 | a,[]=>bR xs a k=0
 | a,b :: r=>bR xs a k=b∧Chn xs k b r
def cV (xs:List Nd) (i:Nat):Ent:=(xs.getD i Nd.z).1
structure Skp (xs:List Nd) (o:List Nat) (hgt:Nat→Nat):Prop where
 len:xs.length=o.length+1
 nd:o.Nodup
 mem:∀ i∈o,0<i∧i<xs.length
 h1:∀ i∈o,0<hgt i∧hgt i≤12
 chn:∀ k,k<12→Chn xs k 0 (o.filter fun i=>decide (k<hgt i))
 srt:SrE (o.map (cV xs))
 inb:∀ a,a<xs.length→∀ k,k<12→bR xs a k<xs.length
def gB (xs:List Nd) (o:List Nat):List Ent:=o.map (cV xs)
def gX (xs:List Nd) (u:ByteArray) (q:BitVec 64) (o:List Nat):List Nat:=o.takeWhile fun i=>fA (cV xs i) u q
def hY (a:Nat):List Nat->Nat
 | []=>a
 | b :: r=>hY b r
theorem aLV {a:Nat}:∀ {s r:List Nat},hY a (s++r)=hY (hY a s) r
 | [],_=>rfl
 | b :: s,r=>by rw [List.cons_append,hY,hY,aLV]
theorem aGT {a:Nat}:∀ {s:List Nat},hY a s=a∨hY a s∈s
 | []=>.inl rfl
 | b :: s=>by
  rw [hY];rcases aGT (a:=b) (s:=s) with h | h
  ·rw [h]; exact .inr (List.mem_cons_self ..)
  ·exact .inr (List.mem_cons_of_mem _ h)
def jD (xs:List Nd) (u:ByteArray) (q:BitVec 64) (o:List Nat) (hgt:Nat->Nat) (k:Nat):Nat:=hY 0 ((gX xs u q o).filter fun i=>decide (k<hgt i))
theorem Chn.drop {xs:List Nd} {k:Nat}:∀ {s r:List Nat} {a:Nat},Chn xs k a (s++r)->Chn xs k (hY a s) r
 | [],_,_,h=>h
 | b :: s,r,a,h=>Chn.drop (s:=s) h.2
theorem aWI {p:Nat->Bool}:∀ (t:List Nat) (a:Nat),∃ s r,t=s++r∧hY a s=hY a (t.filter p):=by
 intro t;induction t with
 | nil=>simp
 | cons b t ih =>
  intro a;cases h:p b with
  | true =>
   obtain ⟨s,r,g,e⟩:=ih b;exact ⟨b :: s,r,by simp_all,by simp_all[hY]⟩
  | false =>
   rw [qaA,if_neg (by simp_all)];cases i:t.filter p with
   | nil=>exact ⟨[],b :: t,rfl,rfl⟩
   | cons c f =>
    obtain ⟨s,r,g,e⟩:=ih b;grind[hY]
theorem aMz {xs:List Nd} {u:ByteArray} {q:BitVec 64} {k:Nat} {d:List Nat} (hd:∀ b r,d=b :: r->fA (cV xs b) u q=false) :
  ∀ {r:List Nat} {a:Nat},Chn xs k a (r++d)->(∀ i∈r,0<i∧fA (cV xs i) u q=true)->xL xs u q k a r (hY a r)
 | [],a,h,_=>by
  refine ⟨rfl,?_⟩;cases d<;>simp_all[vB,cV,Chn]
 | b :: r,a,h,hr=>⟨h.1.symm,(hr b (List.mem_cons_self ..)).1,(hr b (List.mem_cons_self ..)).2,aMz hd h.2 fun i hi=>hr i (List.mem_cons_of_mem _ hi)⟩
theorem zQ {xs:List Nd} {u:ByteArray} {o:List Nat} {i:Nat} (h:i∈gX xs u q o):i∈o∧fA (cV xs i) u q=true :=
 ⟨(List.takeWhile_sublist _).subset h,by grind[List.all_takeWhile,gX]⟩
theorem aN5 {xs:List Nd} {u:ByteArray} {o:List Nat} (h:SrE (o.map (cV xs))):∀ i∈o.dropWhile (fun i=>fA (cV xs i) u q),fA (cV xs i) u q=false:=by
 induction o with
 | nil=>simp
 | cons b o ih =>
  intro i a;rw [wr,SrE,yd] at h;rw [List.dropWhile_cons] at a;split at a
  ·exact ih h.2 i a
  ·rename_i c;rcases qg.1 a with rfl | a
   ·simp_all
   grind[aI2,List.mem_map_of_mem]
theorem Skp.way {xs:List Nd} {o:List Nat} {c:Nat->Nat} (h:Skp xs o c) (u:ByteArray) (q:BitVec 64):WayG xs u q (jD xs u q o c):=by
 have f:∀ k,jD xs u q o c k<xs.length:=fun k=>by
  unfold jD;rcases aGT (a:=0) (s:=(gX xs u q o).filter fun i=>decide (k<c i)) with e | e
  ·rw [e,h.len]; omega
  exact (h.mem _ (zQ (yz.1 e).1).1).2
 refine ⟨?_,fun k _=>f k,fun k n=>?_,h.inb⟩
 ·have:(gX xs u q o).filter (fun i=>decide (12<c i))=[]:=List.filter_eq_nil_iff.2 fun i l=>by have:=(h.h1 i (zQ l).1).2; simp_all
  rw [jD,this]; rfl
 have g:o=gX xs u q o++o.dropWhile (fun i=>fA (cV xs i) u q):=(z8 ..).symm;have j:=h.chn k n;rw [g,vg] at j;have t:(gX xs u q o).filter (fun i=>decide (k+1<c i))=((gX xs u q o).filter fun i=>decide (k<c i)).filter fun i=>decide (k+1<c i):=by
  rw [List.filter_filter];grind
 obtain ⟨s,r,y,D⟩:=aWI (p:=fun i=>decide (k+1<c i)) ((gX xs u q o).filter fun i=>decide (k<c i)) 0;refine ⟨r,?_⟩;have x:jD xs u q o c (k+1)=hY 0 s:=by grind[jD]
 have w:jD xs u q o c k=hY (hY 0 s) r:=by grind[jD,aLV]
 rw [x,w];refine aMz (d:=(o.dropWhile fun i=>fA (cV xs i) u q).filter fun i=>decide (k<c i)) (fun b A C=>?_) ?_ fun i l=>?_
 ·have:b∈(o.dropWhile fun i=>fA (cV xs i) u q).filter fun i=>decide (k<c i):=by grind
  exact aN5 h.srt b (yz.1 this).1
 ·rw [y,qk] at j; exact j.drop
 have v:i∈(gX xs u q o).filter fun i=>decide (k<c i):=by grind
 have m:=zQ (yz.1 v).1;exact ⟨(h.mem _ m.1).1,m.2⟩
theorem Skp.chn0 {xs:List Nd} {o:List Nat} {a:Nat->Nat} (h:Skp xs o a):Chn xs 0 0 o:=by
 have:=h.chn 0 dc;rwa [List.filter_eq_self.2 fun i c=>by simpa using (h.h1 i c).1] at this
theorem aNq {zs:List Nd} {i k v a:Nat} (c:i<zs.length):bR (zs.set i (uR (zs.getD i Nd.z) k v)) a j=if a=i∧j=k then v else bR zs a j:=by
 unfold bR;rw [xx,zu];by_cases h:i=a
 ·simp_all[uR]
 grind
theorem aNp {zs:List Nd} {i k v a:Nat}:cV (zs.set i (uR (zs.getD i Nd.z) k v)) a=cV zs a:=by
 unfold cV;rw [xx,zu];by_cases h:i=a
 ·subst h;rw [if_pos rfl];split
  ·rfl
  simp_all
 simp_all
theorem aDx {w:Nat->Nat} {f:Nat} {ys:List Nd} (c:f<ys.length) {a k:Nat}:∀ {K:Nat},(∀ j,j<K->w j<ys.length∧w j≠f) ->
  bR (iP w f ys K) a k=if k<K then (if a=f then bR ys (w k) k else if a=w k then f else bR ys a k) else bR ys a k
 | 0,_=>by rfl
 | K+1,hw=>by
  have ih:∀ {a k:Nat},_:=fun {a k}=>aDx c (a:=a) (k:=k) (K:=K) fun j g=>hw j om;have e:(iP w f ys K).length=ys.length:=tF;obtain ⟨i,h⟩:=hw K om;rw [iP,aDw,aNq (by simp_all[aDv]),wI,aNq om,ih,ih];grind
theorem aGZ {w:Nat->Nat} {f:Nat} {ys:List Nd} {a:Nat}:∀ {K:Nat},cV (iP w f ys K) a=cV ys a
 | 0=>rfl
 | K+1=>by rw [iP,aDw,aNp,wI,aNp,aGZ]
theorem aJC {xs:List Nd} {x:Nd} {a k:Nat} (h:a<xs.length):bR (xs++[x]) a k=bR xs a k:=by
 simp_all[bR,yh]
theorem aRI {xs:List Nd} {x:Nd} {a:Nat} (h:a<xs.length):cV (xs++[x]) a=cV xs a:=by
 simp_all[cV,yh]
theorem bEf {xs:List Nd} {x:Nd}:(xs++[x]).getD xs.length Nd.z=x:=by simp
theorem Chn.congr {xs ys:List Nd} {k:Nat}:∀ {s:List Nat} {a:Nat},(∀ b∈a :: s,bR ys b k=bR xs b k)->Chn xs k a s->Chn ys k a s
 | [],a,h,hc=>(h a (List.mem_cons_self ..)).trans hc
 | b :: s,a,h,hc=>⟨(h a (List.mem_cons_self ..)).trans hc.1,Chn.congr (fun c hc=>h c (List.mem_cons_of_mem _ hc)) hc.2⟩
theorem aID {xs ys:List Nd} {k f:Nat} {d:List Nat}:∀ {s:List Nat} {a:Nat},Chn xs k a (s++d)->(a :: (s++d)).Nodup->(∀ b∈a :: (s++d),b≠hY a s->bR ys b k=bR xs b k) ->
  bR ys (hY a s) k=f->bR ys f k=bR xs (hY a s) k->Chn ys k a (s++f :: d)
 | [],a,hc,hn,hu,h1,h2=>by
  refine ⟨h1,?_⟩;cases d with
  | nil=>exact h2.trans hc
  | cons b r =>
   refine ⟨h2.trans hc.1,hc.2.congr fun c hm=>hu c (List.mem_cons_of_mem _ hm) fun e=>?_⟩;have e:c=a:=e;subst e;exact (wy.1 hn).1 hm
 | c :: s,a,hc,hn,hu,h1,h2=>by
  have g:=wy.1 hn;refine ⟨(hu a (ql ..) fun e=>?_).trans hc.1,aID hc.2 g.2 (fun b i=>hu b (qo _ i)) h1 h2⟩;refine g.1 ?_;have e:a=hY c s:=e;rcases aGT (a:=c) (s:=s) with h | h
  ·rw [e,h]; exact ql ..
  rw [e]; exact qo _ (List.mem_append_left _ h)
def pC (xs:List Nd) (e:Ent) (o:List Nat):List Nat:=gX xs e.user e.seq o++xs.length :: o.dropWhile fun i=>fA (cV xs i) e.user e.seq
def wE (e:Ent) (l:List Ent):List Ent:=l.takeWhile (fun x=>dH x e)++e :: l.dropWhile fun x=>dH x e
theorem aHt {α a:Type} {f:α->a} {p:a->Bool}:∀ {l:List α},(l.map f).takeWhile p=(l.takeWhile fun x=>p (f x)).map f
 | []=>rfl
 | x :: l=>by
  rw [List.map_cons,List.takeWhile_cons,List.takeWhile_cons];cases p (f x) with
  | true=>simp [aHt]
  | false=>simp
theorem aFk {α a:Type} {f:α->a} {p:a->Bool}:∀ {l:List α},(l.map f).dropWhile p=(l.dropWhile fun x=>p (f x)).map f
 | []=>rfl
 | x :: l=>by
  rw [List.map_cons,List.dropWhile_cons,List.dropWhile_cons];cases p (f x) with
  | true=>simp [aFk]
  | false=>simp
theorem Skp.put {xs:List Nd} {o:List Nat} {c:Nat->Nat} (h:Skp xs o c) {e:Ent} {ht:Nat} (h1:1<=ht) (a6:ht<=12) (M:∀ i∈o,¬ ((cV xs i).user=e.user∧(cV xs i).seq=e.seq)) :
  Skp (iP (jD xs e.user e.seq o c) xs.length (xs++[(e,fun _=>0)]) ht) (pC xs e o) (fun i=>if i=xs.length then ht else c i) ∧
  gB (iP (jD xs e.user e.seq o c) xs.length (xs++[(e,fun _=>0)]) ht) (pC xs e o)=wE e (gB xs o):=by
 generalize Z:jD xs e.user e.seq o c=w;have H:=h.way e.user e.seq;rw [Z] at H;have p:(xs++[((e,fun _=>0):Nd)]).length=xs.length+1:=by simp
 have q:∀ j,j<ht->w j<(xs++[((e,fun _=>0):Nd)]).length∧w j≠xs.length:=fun j hj=>by have:=H.lt j om; omega
 have Q:xs.length<(xs++[((e,fun _=>0):Nd)]).length:=by omega
 have J:∀ a k,a<xs.length->bR (iP w xs.length (xs++[(e,fun _=>0)]) ht) a k=if k<ht then (if a=w k then xs.length else bR xs a k) else bR xs a k:=fun a k G=>by
  rw [aDx Q q,if_neg (by omega:¬ a=xs.length),aJC G]
 have L:∀ k,k<ht->bR (iP w xs.length (xs++[(e,fun _=>0)]) ht) xs.length k=bR xs (w k) k:=fun k A=>by
  rw [aDx Q q,if_pos A,if_pos rfl,aJC (H.lt k om)]
 have E:∀ a,a<xs.length->cV (iP w xs.length (xs++[(e,fun _=>0)]) ht) a=cV xs a:=fun a G=>by rw [aGZ,aRI G]
 have S:cV (iP w xs.length (xs++[(e,fun _=>0)]) ht) xs.length=e:=by grind[aGZ,cV]
 have r:o=gX xs e.user e.seq o++o.dropWhile (fun i=>fA (cV xs i) e.user e.seq):=(z8 ..).symm;have m:∀ i∈gX xs e.user e.seq o,i∈o:=fun i f=>(zQ f).1;have g:∀ i∈o.dropWhile (fun i=>fA (cV xs i) e.user e.seq),i∈o:=fun i f=>by grind
 have N:=h.nd;rw [r] at N;have D:∀ i,i∈pC xs e o↔i∈o∨i=xs.length:=fun i=>by
  grind[pC]
 have a4:xs.length∉o:=fun f=>by have:=(h.mem _ f).2; omega
 have K:∀ i∈o,¬ i=xs.length:=fun i f x=>by grind
 have O:∀ k,((gX xs e.user e.seq o).filter fun i=>decide (k<if i=xs.length then ht else c i))=(gX xs e.user e.seq o).filter fun i=>decide (k<c i):=fun k =>
  qaB fun i f=>by grind
 have P:∀ k,((o.dropWhile fun i=>fA (cV xs i) e.user e.seq).filter fun i=>decide (k<if i=xs.length then ht else c i))=(o.dropWhile fun i=>fA (cV xs i) e.user e.seq).filter fun i=>decide (k<c i):=fun k =>
  qaB fun i f=>by grind
 have l:gB (iP w xs.length (xs++[(e,fun _=>0)]) ht) (pC xs e o)=wE e (gB xs o):=by
  unfold gB wE pC;rw [wc,wr,S,aHt,aFk];congr 1
  ·exact zw fun i f=>E i (h.mem i (m i f)).2
  congr 1;exact zw fun i f=>E i (h.mem i (g i f)).2
 refine ⟨⟨?_,?_,fun i f=>?_,fun i f=>?_,fun k A=>?_,?_,fun a G k A=>?_⟩,l⟩
 ·rw [tF,p,h.len,pC,qa,wj];grind
 ·rw [pC];grind
 ·rw [tF,p];rcases (D i).1 f with f|rfl
  ·have:=h.mem i f; omega
  grind
 ·rcases (D i).1 f with f|rfl
  ·rw [if_neg (K i f)]; exact h.h1 i f
  grind
 ·have T:=h.chn k A;have a3:w k=hY 0 ((gX xs e.user e.seq o).filter fun i=>decide (k<c i)):=by rw [← Z]; rfl
  rw [r,vg] at T;rw [pC,vg,qaA,O,P];have n:∀ b∈(gX xs e.user e.seq o).filter (fun i=>decide (k<c i))++(o.dropWhile fun i=>fA (cV xs i) e.user e.seq).filter fun i=>decide (k<c i),b∈o:=fun b C=>by
   grind
  have a5:∀ b∈0 :: ((gX xs e.user e.seq o).filter (fun i=>decide (k<c i))++(o.dropWhile fun i=>fA (cV xs i) e.user e.seq).filter fun i=>decide (k<c i)),b<xs.length:=fun b C=>by
   rcases qg.1 C with rfl | C
   ·grind
   exact (h.mem b (n b C)).2
  simp only [if_true];by_cases t:k<ht
  ·rw [if_pos (by grind)];refine aID T ?_ (fun b C a1=>?_) ?_ ?_
   ·refine wy.2 ⟨fun h0=>absurd (h.mem 0 (n 0 h0)).1 om,?_⟩;grind
   ·grind
   ·grind
   grind
  rw [if_neg (by grind)];refine T.congr fun b C=>?_;grind
 ·show SrE (gB _ _);rw [l];have hs:=h.srt;unfold wE gB;rw [aHt,aFk];rw [r,wc] at hs;obtain ⟨s1,s2,s3⟩:=ye.1 hs;have F:∀ x∈(gX xs e.user e.seq o).map (cV xs),dH x e=true:=fun x v=>by
   obtain ⟨i,f,rfl⟩:=qi.1 v;exact (zQ f).2
  refine ye.2 ⟨s1,yd.2 ⟨fun x v=>?_,s2⟩,fun x v y I=>?_⟩
  ·obtain ⟨i,f,rfl⟩:=qi.1 v;exact aI0 (aN5 h.srt i f) (M i (g i f))
  rcases qg.1 I with rfl | I
  ·exact F x v
  exact s3 x v y I
 rw [tF,p] at G ⊢;by_cases X:a=xs.length
 ·subst X;by_cases t:k<ht
  ·rw [L k t]; have:=h.inb (w k) (H.lt k om) k A; omega
  rw [aDx Q q,if_neg t];simp[bR]
 rw [J a k om];have:=h.inb a om k A;grind
theorem Chn.hd {xs:List Nd} {k a:Nat} {o:List Nat} (h:Chn xs k a o):bR xs a k=o.getD 0 0:=by
 cases o<;>simp_all[Chn]
theorem Chn.at {xs:List Nd} {k:Nat}:∀ {o:List Nat} {a j:Nat},Chn xs k a o->j<o.length->bR xs (o.getD j 0) k=o.getD (j+1) 0
 | [],_,_,_,h=>by simp at h
 | b :: r,a,0,hc,_=>by
  have:=hc.2.hd;simpa using this
 | b :: r,a,j+1,hc,hj=>by
  have:=Chn.at hc.2 (j:=j) (by simpa using hj);simpa using this
theorem aKv {o:List Nat} {k:Nat} (h:k<o.length):o.getD k 0∈o:=by simp [h]
theorem aT6 {xs:List Nd} {o:List Nat} {k:Nat} (h:k<o.length):gB xs (o.take k)++[cV xs (o.getD k 0)]=gB xs (o.take (k+1)):=by
 grind[gB,wg]
theorem aAF {xs:List Nd} {o:List Nat}:(gB xs o).length=o.length:=by simp [gB]
theorem aXP {xs:List Nd} {a p:Nat} {v:Value} (g:a<xs.length) (i:j<16) (f:p=a*16+j) (e:(Nd.cells (xs.getD a Nd.z))[j]? = some v):(xs.flatMap Nd.cells)[p]? = some v:=by
 subst f;obtain ⟨x,c⟩ : ∃ x,xs[a]? = some x:=⟨_,wi g⟩;have h:xs.getD a Nd.z=x:=by simp_all
 rw [h] at e;have k:=aDf (enc:=Nd.cells) (sz:=16) (fun y _=>Nd.len y) c;grind
theorem aIW {G:PM} {μ c:aB} {xs:List Nd} {b cap a p:Nat} {v:Value} (h:MTake μ (rS 16 Nd.cells (.slice (some ⟨b,0,none⟩) m cap) E xs) c) (i:a<xs.length) (g:j<16) (f:p=a*16+j) (e:(Nd.cells (xs.getD a Nd.z))[j]? = some v):Rd G μ ⟨b,p,none⟩ v:=Rd.row h (aXP i g f e)
theorem aYw {xs:List Nd} {e:Ent} {n:Nat} (h:n=0∨¬ ((cV xs n).user=e.user∧(cV xs n).seq=e.seq))
  (a:(decide (((n:Nat):Int) > 0)&&((xs.getD n Nd.z).1.user.toList == e.user.toList)&&(((xs.getD n Nd.z).1.seq.toNat:Int) == (e.seq.toNat:Int)))=true):False:=by
 simp only [dP] at a;obtain ⟨⟨g,f⟩,c⟩:=a;rcases h with h | h
 ·omega
 ·exact h ⟨aJX f,wl (Int.ofNat.inj (beq_iff_eq.1 c))⟩
theorem aQv {xs:List Nd} {u:ByteArray} {o:List Nat} (a:∀ i∈o,fA (cV xs i) u q=false):gX xs u q o=[]:=by
 cases o<;>simp_all[gX]
theorem bDK {xs:List Nd} {o:List Nat} {a:Nat->Nat} {u:ByteArray} (h:Skp xs o a) (c:∀ i∈o,fA (cV xs i) u q=false):Chn xs 0 (jD xs u q o a 0) o:=by
 have:jD xs u q o a 0=0:=by unfold jD; rw [aQv c]; rfl
 rw [this]; exact h.chn0
theorem aWk (a:ByteArray):lt a ⟨#[]⟩=false:=by
 have e:(⟨#[]⟩ : ByteArray).toList=[]:=by simp
 unfold lt; rw [e];cases a.toList<;>rfl
theorem aXa {e:Ent} (h:e.seq.toNat<=18446744073709551615):fA e ⟨#[]⟩ 18446744073709551615#64=false:=by
 simp_all[fA,aWk]
theorem Skp.nil {e:Nat->Nat}:Skp [Nd.z] [] e :=
 ⟨rfl,List.nodup_nil,fun i c=>(by cases c),fun i c=>(by cases c),fun k _=>rfl,List.Pairwise.nil,fun a f k _=>by
  simp_all[bR,Nd.z]⟩
abbrev Pe:=Sh×List Ent
variable {qs:List Pe}
def jQ (p:Pe):List Value:=[p.1.val p.2.length]
def AllE (G:PM) (ps:List Pe):Prop:=∀ p,p∈ps->SlR G 4 Ent.cells p.1 p.2
theorem AllE.mono {G e:PM} {c:List Pe} (h:AllE G c) (a:PM.le G e):AllE e c:=fun p f=>(h p f).mono a
theorem AllE.set {G:PM} {c:List Pe} {k:Nat} {p:Pe} (h:AllE G c) (e:SlR G 4 Ent.cells p.1 p.2):AllE G (c.set k p):=fun x a=>by
 rcases List.mem_or_eq_of_mem_set a with a | a
 ·exact h x a
 simp_all
theorem aYT (l:List Pe):∀ u∈l.flatMap jQ,u.oneCell'=true:=fun u a=>by
 obtain ⟨x,_,h⟩:=xy.1 a; rw [qf.1 h]; rfl
theorem aER {G:PM} {μ a:aB} {b cap k q:Nat} {p:Pe} (h:MTake μ (rS 1 jQ (.slice (some ⟨b,0,none⟩) m cap) E qs) a) (c:qs[k]? = some p) (e:q=k):Rd G μ ⟨b,q,none⟩ (p.1.val p.2.length):=by
 have:=iK (G:=G) h (fun _ _=>rfl) c (q:=q) om 0 _ rfl;omega
abbrev aU (ps:List Pe):List (List Ent):=ps.map (·.2)
theorem aLg {a:List Pe} {k:Nat} {p:Pe} (h:a[k]? = some p):(aU a).getD k []=p.2:=by
 simp_all
def bU (l:List Ent):Ent:=l.getD 0 Ent.zero
theorem SlR.hdR {G:PM} {h:Sh} {xs:List Ent} (a:SlR G 4 Ent.cells h xs) (c:0<xs.length):RdNP G h.b (h.o+(0:Int).toNat*4) (bU xs).cells:=by
 refine a.at (j:=0) (k:=0) rfl ?_;simp_all[bU]
theorem aQY {G:PM} {h:Sh} {xs:List Ent} {e:Ent} (c:bU xs=e) (a:SlR G 4 Ent.cells h xs) (f:0<xs.length):RdNP G h.b (h.o+(0:Int).toNat*4) e.cells:=c▸a.hdR f
def uI (ls:List (List Ent)) (b i:Nat):Bool:=decide (0<(ls.getD i []).length)&&(decide (b=0)||dH (bU (ls.getD i [])) (bU (ls.getD (b-1) [])))
def dU (ls:List (List Ent)):Nat->Nat
 | 0=>0
 | i+1=>if uI ls (dU ls i) i=true then i+1 else dU ls i
def eX (e:Ent) (l:List Ent):List Ent:=if (decide (0<l.length) && !dH e (bU l))=true then l.drop 1 else l
def nB:Nat->List (List Ent)->List Ent
 | 0,_=>[]
 | f+1,ls=>if dU ls ls.length=0 then [] else bU (ls.getD (dU ls ls.length-1) []) :: nB f (ls.map (eX (bU (ls.getD (dU ls ls.length-1) []))))
def fQ:List (List Ent)->Nat
 | []=>0
 | l :: r=>l.length+fQ r
def jK (ls:List (List Ent)):List Ent:=nB (fQ ls) ls
theorem aBO {ls:List (List Ent)}:∀ {i:Nat},dU ls i<=i
 | 0=>Nat.le_refl _
 | i+1=>by rw [dU]; split; exact Nat.le_refl _; exact Nat.le_succ_of_le aBO
theorem aBP {ls:List (List Ent)}:∀ {i:Nat},dU ls i=0∨0<(ls.getD (dU ls i-1) []).length
 | 0=>.inl rfl
 | i+1=>by
  rw [dU];split
  ·simp_all[uI]
  ·exact aBP
theorem aWy {f:Nat} {ls:List (List Ent)} (h:dU ls ls.length=0):nB f ls=[]:=by
 cases f<;>simp_all[nB]
theorem aJ6 {e:Ent} {l:List Ent}:(eX e l).length<=l.length:=by
 unfold eX; grind
theorem aOu {e:Ent}:∀ {ls:List (List Ent)},fQ (ls.map (eX e))<=fQ ls
 | []=>Nat.le_refl _
 | l :: r=>by have:=aOu (e:=e) (ls:=r); have:=aJ6 (e:=e) (l:=l); rw [wr,fQ,fQ]; omega
theorem aIz (e:Ent):dH e e=false:=by
 grind[aIy]
theorem aOt:∀ {ls:List (List Ent)} {b:Nat},0<(ls.getD b []).length->fQ (ls.map (eX (bU (ls.getD b []))))<fQ ls
 | [],b,h=>by simp at h
 | l :: r,0,h=>by
  have a:=aOu (e:=bU ((l :: r).getD 0 [])) (ls:=r);have c:(eX (bU ((l :: r).getD 0 [])) l).length<l.length:=by
   have h:0<l.length:=h;show (eX (bU l) l).length<_;unfold eX;rw [aIz,decide_eq_true h,if_pos (by rfl),qt]; omega
  grind[fQ]
 | l :: r,b+1,h=>by
  have a:=aOt (ls:=r) (b:=b) (by simp_all);have e:(l :: r).getD (b+1) []=r.getD b []:=rfl;grind[fQ,aJ6]
theorem aLq {f:Nat} {ls:List (List Ent)} {e:Ent} (h:dU ls ls.length≠0) (a:bU (ls.getD (dU ls ls.length-1) [])=e) (j:fQ ls<=f) :
  ∃ f',f=f'+1∧nB f ls=e :: nB f' (ls.map (eX e))∧fQ (ls.map (eX e))<=f'∧fQ (ls.map (eX e))<fQ ls:=by
 have g:=(aBP (ls:=ls) (i:=ls.length)).resolve_left h;have c:=aOt g;rw [a] at c;cases f with
 | zero=>omega
 | succ f=>exact ⟨f,rfl,by rw [nB,if_neg h,a],om,c⟩
theorem aRb {G:PM} {i:Nat} (c:AllE G qs) (e:i<qs.length):∃ P:Pe,SlR G 4 Ent.cells P.1 P.2∧(dU (aU qs) i≠0->qs[dU (aU qs) i-1]? = some P∧0<P.2.length∧(aU qs).getD (dU (aU qs) i-1) []=P.2):=by
 have g:=aBO (ls:=aU qs) (i:=i);obtain ⟨P,a⟩:=cN (k:=dU (aU qs) i-1) (xs:=qs) om;refine ⟨P,c P (List.mem_of_getElem? a),fun h=>⟨a,?_,aLg a⟩⟩;have f:=(aBP (ls:=aU qs) (i:=i)).resolve_left h;simp_all
theorem aW2 {f i:Nat} (c:i=qs.length) (h:dU (aU qs) i≠0) (g:fQ (aU qs)<=f) :
  ∃ (Q:Pe) (a:Nat),qs[dU (aU qs) i-1]? = some Q∧0<Q.2.length∧dU (aU qs) i-1<qs.length∧f=a+1 ∧
   nB f (aU qs)=bU Q.2 :: nB a ((aU qs).map (eX (bU Q.2)))∧fQ ((aU qs).map (eX (bU Q.2)))<=a∧fQ ((aU qs).map (eX (bU Q.2)))<fQ (aU qs):=by
 subst c;have n:(aU qs).length=qs.length:=qm _;have p:=aBO (ls:=aU qs) (i:=qs.length);have j:dU (aU qs) qs.length-1<qs.length:=by omega
 obtain ⟨Q,m⟩:=cN (k:=dU (aU qs) qs.length-1) (xs:=qs) j;have l:=(aBP (ls:=aU qs) (i:=qs.length)).resolve_left h;rw [aLg m] at l;obtain ⟨a,v,t,r,q⟩:=aLq (ls:=aU qs) (f:=f) (e:=bU Q.2) (by simp_all) (by simp_all) g;simp_all
theorem aWz {f i:Nat} {O:List Ent} {R:List Ent} (a:i=qs.length) (h:dU (aU qs) i=0) (c:O++nB f (aU qs)=R):O=R:=by
 simp_all[aWy]
theorem aRc {i:Nat} {p P:Pe} (a:qs[i]? = some p) (e:dU (aU qs) i≠0->qs[dU (aU qs) i-1]? = some P∧0<P.2.length∧(aU qs).getD (dU (aU qs) i-1) []=P.2) (c:(0:Int)<(p.2.length:Nat)∧(((dU (aU qs) i:Nat):Int)-1<0∨dH (bU p.2) (bU P.2)=true)):dU (aU qs) (i+1)=i+1:=by
 have:uI (aU qs) (dU (aU qs) i) i=true:=by
  unfold uI;grind
 simp[*,dU]
theorem aRa {i:Nat} {p P:Pe} (a:qs[i]? = some p) (e:dU (aU qs) i≠0->qs[dU (aU qs) i-1]? = some P∧0<P.2.length∧(aU qs).getD (dU (aU qs) i-1) []=P.2) (c:(p.2.length:Int)<=0∨0<=((dU (aU qs) i:Nat):Int)-1∧dH (bU p.2) (bU P.2)=false):dU (aU qs) (i+1)=dU (aU qs) i:=by
 have:¬ uI (aU qs) (dU (aU qs) i) i=true:=by
  unfold uI;grind
 simp[*,dU]
theorem aJ8 {ls r:List (List Ent)} {e:Ent} {l:List Ent} (f:r=(ls.take j).map (eX e)++ls.drop j) (g:r[j]? = some l) (i:j<ls.length):ls[j]? = some l∧∀ {a},eX e l=a->r.set j a=(ls.take (j+1)).map (eX e)++ls.drop (j+1):=by
 have h:((ls.take j).map (eX e)).length=j:=by grind
 have c:ls[j]? = some l:=by
  grind
 refine ⟨c,fun {a} m=>?_⟩;have k:ls.drop j=l :: ls.drop (j+1):=by
  grind[yq]
 grind
theorem aTl {e:Ent} {l:List Ent} (c:(0:Int)<(l.length:Nat)∧dH e (bU l)=false):eX e l=l.drop 1:=by
 simp_all[eX]
theorem aTh {e:Ent} {l:List Ent} (c:(l.length:Int)<=0∨dH e (bU l)=true):eX e l=l:=by
 unfold eX; grind
theorem bAN {α} {r:List α} {l:α} (h:r[j]? = some l):r.set j l=r:=by
 grind[List.set_getElem_self]
theorem aTk {a:List Pe} {e:Ent} {p:Pe} (h:aU a=((aU qs).take j).map (eX e)++(aU qs).drop j) (g:a[j]? = some p) (f:j<qs.length) (c:(0:Int)<(p.2.length:Nat)∧dH e (bU p.2)=false) (x:Sh) :
  aU (a.set j (x,p.2.drop 1))=((aU qs).take (j+1)).map (eX e)++(aU qs).drop (j+1):=by
 rw [show aU (a.set j (x,p.2.drop 1))=(aU a).set j (p.2.drop 1) from List.map_set];exact (aJ8 h (by grind) (by simp_all)).2 (aTl c)
theorem aTj {a:List Pe} {e:Ent} {p:Pe} (h:aU a=((aU qs).take j).map (eX e)++(aU qs).drop j) (i:a[j]? = some p) (f:j<qs.length) (c:(p.2.length:Int)<=0∨dH e (bU p.2)=true) :
  aU a=((aU qs).take (j+1)).map (eX e)++(aU qs).drop (j+1):=by
 have g:(aU a)[j]? = some p.2:=by grind
 grind[aJ8,qm,aTh,bAN]
theorem aTg {a:List Pe} {e:Ent} (h:aU a=((aU qs).take j).map (eX e)++(aU qs).drop j) (f:j=qs.length):aU a=(aU qs).map (eX e):=by
 have c:(aU qs).length=j:=by simp_all
 grind
def lK (last key:List Y) (anew:Bool):Nat:=if anew then 0 else gF last key
theorem aFW (last a:List Y) (anew:Bool):lK last a anew<=a.length:=by unfold lK; split; exact qr _; simp[aDI]
def qX (last:List Y) (anew:Bool) (e:Ent):List Y :=
 bV (lK last (dM e) anew)++bV ((dM e).length-lK last (dM e) anew)++bV e.value.size++(dM e).drop (lK last (dM e) anew)++yb e.value
def rA (l:List Ent):Nat->List Y
 | 0=>[]
 | k+1=>dM (l.getD k Ent.zero)
def gD (every:Nat) (l:List Ent):Nat->List Y
 | 0=>bV every++bV l.length
 | k+1=>gD every l k++qX (rA l k) (k%every == 0) (l.getD k Ent.zero)
def pF (every:Nat) (l:List Ent):Nat->List Y
 | 0=>[]
 | k+1=>if k%every=0 then pF every l k++cY (BitVec.ofInt 64 ((gD every l k).length:Int)) 4 else pF every l k
def nJ (every:Nat):Nat->Nat
 | 0=>0
 | k+1=>if k%every=0 then nJ every k+1 else nJ every k
theorem aHQ (every:Nat):∀ k,nJ every k<=k
 | 0=>Nat.le_refl _
 | k+1=>by have:=aHQ every k; unfold nJ; split<;>omega
theorem aHC (every:Nat) (l:List Ent):∀ k,(pF every l k).length=4*nJ every k
 | 0=>rfl
 | k+1=>by
  have:=aHC every l k;unfold pF nJ;split
  ·rw [qa,kI,this]; omega
  ·exact this
def gY (every:Nat) (l:List Ent):List Y:=gD every l l.length++pF every l l.length++cY (qh 64 (nJ every l.length:Int)) 4
noncomputable def iF (l:List Ent) (every:Int):List Y×Int :=
 if B (every<1∨1024<every∨cR l=false∨∃ e∈l,cM e=false) then ([],1)
 else if B ((∃ k,k<l.length∧1048576<(gD every.toNat l (k+1)).length)∨1048576<(gY every.toNat l).length) then ([],4) else (gY every.toNat l,0)
theorem aRx {l:List Ent} {every:Int} (h:every<1∨1024<every∨cR l=false∨∃ e∈l,cM e=false):iF l every=([],1):=by simp_all[iF,vF]
theorem aJU {l:List Ent} {every:Int} (h:¬ (every<1∨1024<every∨cR l=false∨∃ e∈l,cM e=false)) (h2:(∃ k,k<l.length∧1048576<(gD every.toNat l (k+1)).length)∨1048576<(gY every.toNat l).length):iF l every=([],4):=by
 simp_all[iF,aCj,vF]
theorem aFN {l:List Ent} {every:Int} (h:¬ (every<1∨1024<every∨cR l=false∨∃ e∈l,cM e=false)) (h2:¬ ((∃ k,k<l.length∧1048576<(gD every.toNat l (k+1)).length)∨1048576<(gY every.toNat l).length)):iF l every=(gY every.toNat l,0):=by
 simp_all[iF,aCj]
def xV {α:Type} (last:List Y) (k:Ent->List Y->List Y->Option α):List Y->Option α :=
 fD fun sh=>fD fun rest=>fD fun v r =>
  if sh<=last.length∧rest<=r.length∧v<=r.length-rest then
   (if (iV (last.take sh++r.take rest)).2=0 then k { (iV (last.take sh++r.take rest)).1 with value:=aV ((r.drop rest).take v) } (last.take sh++r.take rest) ((r.drop rest).drop v) else none)
  else none
def jR:Nat->List Y->List Ent->List Y->Option (List Ent)
 | 0,_,acc,_=>some acc
 | n+1,last,acc,r=>xV last (fun e key r=>jR n key (acc++[e]) r) r
noncomputable def oM (xs:List Y):List Ent×Int :=
 match (fD fun every=>fD fun n r=>if every<=1024 then (jR n [] [] r).bind fun l=>if iF l every=(xs,0) then some l else none else none) xs with
 | some l=>(l,0)
 | none=>([],100)
def fY (bits:Int):Nat:=(max 1 (min bits 64)).toNat
def rO (bits:Int):Nat:=max 1 (min (fY bits*69 / 100) 30)
theorem aEN (bits:Int):1<=fY bits∧fY bits<=64:=by grind[fY]
theorem aYo (bits:Int):1<=rO bits∧rO bits<=30:=by grind[rO]
def aK0 (s:ByteArray):W:=mW 0#32 (yb s)
def hJ (s:ByteArray):Nat->W
 | 0=>aK0 s
 | k+1=>hJ s k+tS (aK0 s) 15
def wU (s:ByteArray) (n j:Nat):W:=hJ s j%qh 32 ((8*n:Nat):Int)
def aHY (b:List Y) (p:W):List Y:=b.set (p.toNat / 8) (b.getD (p.toNat / 8) 0 ||| 1#8 <<< (p.toNat%8))
def rR (s:ByteArray) (b:List Y):Nat->List Y
 | 0=>b
 | k+1=>aHY (rR s b k) (wU s b.length k)
def aIt (pr:Nat) (b:List Y) (s:ByteArray):List Y:=rR s b pr
def aPa (n:Nat) (bits:Int):List Y:=xl ((max 64 (n*fY bits)+7) / 8) 0#8
def yI (l:List ByteArray) (bits:Int) (k:Nat):List Y:=(l.take k).foldl (aIt (rO bits)) (aPa l.length bits)
def aAZ (l:List ByteArray) (bits:Int):List Y:=yI l bits l.length++[qb 8 (rO bits)]
theorem bAL (b:List Y) (p:W):(aHY b p).length=b.length:=by simp[aHY]
theorem aNo (s:ByteArray) (b:List Y):∀ k,(rR s b k).length=b.length
 | 0=>rfl
 | k+1=>by unfold rR; rw [bAL,aNo s b k]
theorem aKo (pr:Nat):∀ (l:List ByteArray) (b:List Y),(l.foldl (aIt pr) b).length=b.length
 | [],b=>rfl
 | s :: l,b=>by rw [List.foldl_cons,aKo pr l]; exact aNo s b pr
theorem bDT (n:Nat) (bits:Int):(aPa n bits).length=(max 64 (n*fY bits)+7) / 8:=List.length_replicate
theorem aLR (l:List ByteArray) (bits:Int) (k:Nat):(yI l bits k).length=(max 64 (l.length*fY bits)+7) / 8:=by simp[yI,aKo,bDT]
theorem aYc (s:ByteArray) {n:Nat} (e:0<n) (c:n<500000000) (j:Nat):(wU s n j).toNat / 8<n:=by
 unfold wU;rw [BitVec.ofInt_natCast,BitVec.toNat_umod,jz,yp (a:=8*n) om];have:=Nat.mod_lt (hJ s j).toNat (show 0<8*n by omega);omega
theorem aGf (l:List ByteArray) (bits:Int):(aAZ l bits).length=(max 64 (l.length*fY bits)+7) / 8+1:=by simp[aAZ,aLR]
theorem aV4 {l:List ByteArray} {bits:Int} {k:Nat} {s:ByteArray} (h:l[k]? = some s):yI l bits (k+1)=rR s (yI l bits k) (rO bits):=by
 unfold yI; rw [wg,h,Option.toList_some,List.foldl_append]; rfl
theorem aNs (p:W):(p >>> 3).toNat=p.toNat / 8:=by rw [jd,zq]
theorem aQ9 (p:W):(p &&& 7#32).toNat=p.toNat%8:=by rw [BitVec.toNat_and]; exact Nat.and_two_pow_sub_one_eq_mod p.toNat 3
def aF9 (kind:Y) (p:List Y):List Y:=cY ((aGi (mW 0#32 ([kind]++p))).setWidth 64) 4++cY (qh 64 (p.length:Int)) 2++[kind]
def tD (n j:Nat):Y:=if j=0 then (if n<=128 then 1#8 else 2#8) else if n-128*j<=128 then 4#8 else 3#8
def rM (s:List Y):Nat->List Y
 | 0=>[]
 | j+1=>rM s j++aF9 (tD s.length j) ((s.drop (128*j)).take 128)++(s.drop (128*j)).take 128
def aHI (s:List Y):List Y:=rM s ((s.length+127) / 128)
theorem bBt (M:List Y):M.take (min M.length 128)=M.take 128:=by
 grind
theorem aEU {S M O A B C D E:List Y} {kind:Y} (c:O=rM S j) (e:M=S.drop (128*j)) (k:A=M.take (min M.length 128)) (i:B=M.take (min M.length 128)) (h:C=aF9 kind A) (g:D=O++C) (f:E=D++B) (a:kind=tD S.length j):E=rM S (j+1):=by
 rw [f,g,h,k,i,bBt,c,e,a]; rfl
theorem aDU {S:List Y}:(S.drop (128*j)).drop (min (S.drop (128*j)).length 128)=S.drop (128*(j+1)):=by
 grind[yg,xt]
theorem aBo (kind:Y) (p:List Y):(aF9 kind p).length=7:=by rfl
theorem aG6 (S:List Y) (j:Nat):(rM S j).length<=135*j:=by
 induction j with
 | zero=>exact qr _
 | succ j ih=>grind[rM,aBo]
theorem aWA {n:Nat} (h:j=0) (a:n<=128):1#8=tD n j:=by simp_all[tD]
theorem aV9 {n:Nat} (h:j=0) (a:¬ n<=128):2#8=tD n j:=by simp_all[tD]
theorem aWB {n:Nat} (h:¬ j=0) (a:n-128*j<=128):4#8=tD n j:=by simp_all[tD]
theorem aWC {n:Nat} (h:¬ j=0) (a:¬ n-128*j<=128):3#8=tD n j:=by simp_all[tD]
def mZ (root:Nat->Y) (h:Hd) (n:BitVec 64) (p:List Y):List Y×Int:=if p.length<=4194304 then (aHI (kR (fN root (bG h)) (fO root (bG h)) (jA n) (bG h) p),0) else ([],4)
theorem aWP {root:Nat->Y} {h:Hd} {n:BitVec 64} {p:List Y} (c:¬ p.length<=4194304):([],4)=mZ root h n p:=by simp_all[mZ]
theorem aWO {root:Nat->Y} {h:Hd} {n:BitVec 64} {p S O:List Y} (c:p.length<=4194304) (e:S=kR (fN root (bG h)) (fO root (bG h)) (jA n) (bG h) p) (f:O=rM S j) (a:j=(S.length+127) / 128):(O,0)=mZ root h n p:=by
 unfold mZ; rw [if_pos c,f,a,e]; rfl
section
variable {op:Nat→List Y→Option (List Y)} {tot:Nat} {r nH:List Y} {recs:List (List Y)} {used:Nat}
theorem aUV {n:BitVec 64} (h:j<m):(cY n m)[j]? = some ((n >>> (8*j)).setWidth 8):=by grind[cY]
theorem aUl {xs:List Y} {y:Y} (h:xs[j]? = some y):xs.getD j 0=y:=by simp_all
end
def wS (root:Nat->Y) (h:Hd) (i:Nat) (s:List Y):Option (List Y):=rK (fN root (bG h)) (fO root (bG h)) (jA (qh 64 (i:Int))) (bG h) s
def aAp (root:Nat->Y) (h:Hd) (i:Nat) (p:List Y):List Y:=kR (fN root (bG h)) (fO root (bG h)) (jA (qh 64 (i:Int))) (bG h) p
theorem aHx (n:BitVec 64) (t:List Y):eC (cY n 8++t) 8=n:=by
 have c:∀ k,k<=8->∀ i,i<64->(eC (cY n 8++t) k).getLsbD i=(decide (i<8*k)&&n.getLsbD i):=by
  intro k;induction k with
  | zero=>simp[eC]
  | succ k ih =>
   intro f i a;have e:(cY n 8++t).getD k 0=(n >>> (8*k)).setWidth 8:=aUl (by grind[kI,aUV]);rw [eC,BitVec.getLsbD_or,ih om i a,e];simp only [BitVec.getLsbD_shiftLeft,BitVec.getLsbD_setWidth,BitVec.getLsbD_ushiftRight,a,decide_true,Bool.true_and];grind
 apply BitVec.eq_of_getLsbD_eq;simp_all
theorem aUu (h:Hd) (t:List Y):pB (bG h++t)=h:=by
 have e:bG h++t=[116#8,97#8,110#8,116#8,h.kind,h.level]++(cY h.gen 8++(cY h.epoch 8++(cY h.num 8++t))):=by rfl
 have f:(bG h++t).drop 6=cY h.gen 8++(cY h.epoch 8++(cY h.num 8++t)):=by rfl
 have c:(bG h++t).drop 14=cY h.epoch 8++(cY h.num 8++t):=by
  rfl
 have a:(bG h++t).drop 22=cY h.num 8++t:=by
  rfl
 simp_all[pB,aHx]
theorem bBr (h:Hd) (t:List Y):nM (bG h++t)=if h.right=true then (h,0) else (Hd.zero,70):=by
 have a:¬ (bG h++t).length<30:=by simp[jI]
 have c:(bG h++t).take 4=[116#8,97#8,110#8,116#8]:=by rfl
 simp_all[nM,if_neg,aUu]
abbrev Dg:=Nat→Y
variable {S:List (Nat×Dg)}
def gI (xs:List Y):Dg:=oO (0#8 :: xs)
def pD (a b:Dg):Dg:=oO (1#8 :: (yl 32 a++yl 32 b))
def aKD:Dg:=oO [2#8]
def yS (k n:Nat):Nat->Nat
 | 0=>k
 | f+1=>if k+k<n then yS (k*2) n f else k
def tQ (n:Nat):Nat:=yS 1 n n
theorem aMp:∀ (f k n:Nat),0<k->n<=k*2^f->k<n->(∃ a,k=2^a)->(∃ b,yS k n f=2^b)∧yS k n f<n∧n<=yS k n f+yS k n f
 | 0,k,n,h0,hn,hk,ha=>by omega
 | f+1,k,n,h0,hn,hk,⟨a,ha⟩=>by
  unfold yS;split
  ·rename_i h;refine aMp f (k*2) n (by omega) ?_ (by omega) ⟨a+1,by omega⟩;grind
  grind
theorem aEM {n:Nat} (h:2<=n):(∃ b,tQ n=2^b)∧tQ n<n∧n<=tQ n+tQ n :=
 aMp n 1 n dc (by simp[Nat.le_of_lt,Nat.lt_two_pow_self]) om ⟨0,rfl⟩
theorem aMq {n:Nat} (h:2<=n):0<tQ n:=by have:=(aEM h).2.2; omega
theorem aYn {a b n:Nat} (h1:2^a<n) (h2:n<=2^a+2^a) (h3:2^b<n) (c:n<=2^b+2^b):a=b:=by
 rcases Nat.lt_trichotomy a b with h | h | h
 ·have:=yv (n:=2) dc (show a+1<=b by omega);omega
 ·exact h
 ·have:=yv (n:=2) dc (show b+1<=a by omega);omega
theorem aYN {a:Nat} (h:0<m) (hm:m<=2^a):tQ (2^a+m)=2^a:=by
 have g:0<2^a:=kh dc;obtain ⟨⟨b,f⟩,e,c⟩:=aEM (n:=2^a+m) om;rw [f] at e c ⊢;rw [aYn e c (show 2^a<2^a+m by omega) om]
def fP (l:List Dg):Dg :=
 match l with
 | []=>aKD
 | [d]=>d
 | a :: b :: r=>pD (fP ((a :: b :: r).take (tQ (r.length+2)))) (fP ((a :: b :: r).drop (tQ (r.length+2))))
termination_by l.length
decreasing_by
 ·have:=aEM (n:=r.length+2) (by omega)
  grind
 grind[aMq]
theorem aZd:fP []=aKD:=by rw [fP]
theorem aNO (d:Dg):fP [d]=d:=by rw [fP]
theorem aHM {l:List Dg} (h:2<=l.length):fP l=pD (fP (l.take (tQ l.length))) (fP (l.drop (tQ l.length))):=by
 match l,h with
 | a :: b :: r,_=>simp[fP]
theorem aNN {s t:List Dg} {a:Nat} (c:s.length=2^a) (e:0<t.length) (ht:t.length<=2^a):fP (s++t)=pD (fP s) (fP t):=by
 grind[aHM,aYN,jc]
inductive Stk:List (Nat×Dg)→List Dg→Prop
 | nil:Stk [] []
 | cons {a:Nat} {r:Dg} {S:List (Nat×Dg)} {L seg:List Dg} (hS:Stk S L) (hl:seg.length=2^a) (hr:fP seg=r) (hlt:∀ b s S',S=(b,s) :: S'→a<b):Stk ((a,r) :: S) (L++seg)
def finD (d:Dg):List (Nat×Dg)->Dg
 | []=>d
 | p :: S=>finD (pD p.2 d) S
theorem Stk.root:∀ {S:List (Nat×Dg)} {L T:List Dg},Stk S L->0<T.length->(∀ b s S',S=(b,s) :: S'->T.length<=2^b)->fP (L++T)=finD (fP T) S
 | [],L,T,h,h0,_=>by cases h; rfl
 | (a,r) :: S,L,T,h,h0,hb=>by
  cases h with
  | @cons _ _ _ L seg hS hl hr hlt =>
   rw [List.append_assoc,Stk.root hS (by grind) (fun b s S' e=>by
    have h1:=hlt b s S' e;have h2:=hb a r S rfl;have h3:=Nat.pow_le_pow_right (n:=2) (by decide) (show a+1<=b by omega);grind),aNN hl h0 (hb a r S rfl),hr]
   rfl
theorem Stk.done {a:Nat} {r:Dg} {L:List Dg} (h:Stk ((a,r) :: S) L):fP L=finD r S:=by
 cases h with
 | @cons _ _ _ L seg hS hl hr hlt =>
  grind[Stk.root,yv]
theorem aMy (a d t:Nat):2^(a+1+d)*t+2^a=2^a*(2*(2^d*t)+1):=by
 grind
theorem Stk.len:∀ {S:List (Nat×Dg)} {L:List Dg} {a:Nat} {r:Dg},Stk ((a,r) :: S) L->∃ m,L.length=2^a*(2*m+1)
 | [],L,a,r,h=>by
  cases h with
  | @cons _ _ _ L seg hS hl hr hlt=>cases hS; exact ⟨0,by simp_all⟩
 | (b,s) :: S,L,a,r,h=>by
  cases h with
  | @cons _ _ _ L seg hS hl hr hlt =>
   obtain ⟨m,hm⟩:=Stk.len hS;have c:=hlt b s S rfl;obtain ⟨d,rfl⟩ : ∃ d,b=a+1+d:=⟨b-a-1,om⟩;grind[aMy]
structure Pend (S:List (Nat×Dg)) (d:Dg) (a:Nat) (l:List Dg):Prop where
 out:∃ L seg,Stk S L∧seg.length=2^a∧fP seg=d∧L++seg=l∧∀ b s S',S=(b,s) :: S'→a≤b
theorem aQW {L:List Dg} (h:Stk S L) (d:Dg):Pend S d 0 (L++[d]):=⟨L,[d],h,rfl,aNO _,rfl,fun _ _ _ _=>qr _⟩
theorem Pend.even {d:Dg} {a:Nat} {l:List Dg} (h:Pend S d a l) (x:(l.length / 2^a)%2=0):∃ s S',S=(a,s) :: S'∧Pend S' (pD s d) (a+1) l∧l.length / 2^a / 2=l.length / 2^(a+1):=by
 obtain ⟨L,i,c,w,r,p,g⟩:=h.out;have t:0<2^a:=kh dc;have f:l.length / 2^a / 2=l.length / 2^(a+1):=by rw [Nat.div_div_eq_div_mul,yy]
 have k:l.length=L.length+2^a:=by grind
 match S,c,g with
 | [],c,g =>
  cases c;simp_all
 | (b,s) :: S',c,g =>
  obtain ⟨m,v⟩:=c.len;have q:=g b s S' rfl;by_cases e:a=b
  ·subst e;refine ⟨s,S',rfl,?_,f⟩;cases c with
   | @cons _ _ _ L0 seg0 hS0 hl0 hr0 hlt =>
    refine ⟨L0,seg0++i,hS0,by grind,?_,by simp_all,fun b s j e=>hlt b s j e⟩;grind[aNN]
  exfalso;obtain ⟨n,rfl⟩ : ∃ n,b=a+1+n:=⟨b-a-1,om⟩;simp_all[aMy]
theorem Pend.odd {d:Dg} {a:Nat} {l:List Dg} (h:Pend S d a l) (r:(l.length / 2^a)%2=1):Stk ((a,d) :: S) l:=by
 obtain ⟨L,k,j,i,n,c,t⟩:=h.out;have p:0<2^a:=kh dc;subst c;refine .cons j i n fun b s v e=>?_;have f:=t b s v e;rcases Nat.lt_or_eq_of_le f with g | g
 ·exact g
 exfalso;subst e; subst g;obtain ⟨m,q⟩:=j.len;rw [qa,i,q,show 2^a*(2*m+1)+2^a=2^a*(2*m+2) by rfl,Nat.mul_div_cancel_left _ p] at r;omega
theorem Stk.short:∀ {S:List (Nat×Dg)} {L:List Dg},Stk S L->S.length<=L.length
 | [],_,_=>Nat.zero_le _
 | (a,r) :: S,L,h=>by
  cases h with
  | @cons _ _ _ L seg hS hl hr hlt =>
   have:=Stk.short hS;grind
def cC:List Ent->Nat
 | []=>0
 | e :: l=>e.user.size+e.value.size+cC l
theorem qQ:∀ a b:List Ent,cC (a++b)=cC a+cC b
 | [],b=>by simp [cC]
 | e :: a,b=>by simp only [List.cons_append,cC,qQ a b]; omega
theorem zH:∀ {l:List Ent} {k:Nat},k<l.length->(l.getD k Ent.zero).user.size+(l.getD k Ent.zero).value.size<=cC l
 | e :: l,0,_=>by simp[cC]
 | e :: l,k+1,h=>by have:=zH (l:=l) (k:=k) (by simp_all); grind[cC]
theorem aPS {l:List Ent} {k:Nat} (h:k<l.length):cC (l.take (k+1))=cC (l.take k)+((l.getD k Ent.zero).user.size+(l.getD k Ent.zero).value.size):=by
 grind[wg,qQ,cC]
theorem aEq (l:List Ent) (k:Nat):cC (l.take k)<=cC l:=by
 grind[qQ,qx]
def lightE (l:List Ent):Prop:=l.length<=2000∧cC l<=50000
theorem lightE.take {l:List Ent} (h:lightE l) (k:Nat):lightE (l.take k):=⟨by have:=h.1; grind,wh (aEq _ _) h.2⟩
theorem aT3 {last:List Y} {anew:Bool} {e:Ent} (c:e.user.size<=100000) (a:e.value.size<=100000):(qX last anew e).length<=e.user.size+e.value.size+38:=by
 grind[aFW,aAR,iR,qX,bZ]
theorem aEK {every:Nat} {l:List Ent} (f:every<18446744073709551616) (c:l.length<18446744073709551616) (a:cC l<=100000):∀ k,k<=l.length->(gD every l k).length<=20+cC (l.take k)+38*k
 | 0,_=>by
  grind[iR,gD]
 | k+1,h=>by
  have ih:=aEK f c a k om;have i:=zH (l:=l) (k:=k) om;have g:=aT3 (last:=rA l k) (anew:=k%every == 0) (e:=l.getD k Ent.zero) om om;unfold gD; rw [qa,aPS om]; omega
theorem aC6 {every:Nat} {l:List Ent} (e:every<18446744073709551616) (c:l.length<18446744073709551616) (a:cC l<=100000):(gY every l).length<=24+cC l+42*l.length:=by
 have f:=aEK e c a l.length (qd _);grind[aHQ,gY,kI,aHC]
def iL (least:Int):Int->List Ent->Nat
 | _,[]=>0
 | n,e :: l=>if least<=n+((e.user.size:Int)+e.value.size+8) then 1 else iL least (n+((e.user.size:Int)+e.value.size+8)) l+1
theorem aFc (a:Int):∀ (l:List Ent) (n:Int),iL a n l<=l.length
 | [],n=>Nat.le_refl _
 | e :: l,n=>by
  unfold iL;split
  ·simp
  ·have:=aFc a l (n+((e.user.size:Int)+e.value.size+8)); simp only [wj]; omega
theorem aAA (a:Int) {l:List Ent} (n:Int) (h:l≠[]):0<iL a n l:=by
 cases l with
 | nil=>simp_all
 | cons e l=>grind[iL]
def iD (l:List Ent):Nat->Int
 | 0=>0
 | k+1=>iD l k+(((l.getD k Ent.zero).user.size:Int)+(l.getD k Ent.zero).value.size+8)
theorem aEc (e:Ent) (l:List Ent):∀ k,iD (e :: l) (k+1)=((e.user.size:Int)+e.value.size+8)+iD l k
 | 0=>by simp [iD]
 | k+1=>by
  have:=aEc e l k;rw [iD,this,List.getD_cons_succ,iD]; omega
theorem aOH (l:List Ent):∀ k,k<=l.length->iD l k=((cC (l.take k)+8*k:Nat):Int)
 | 0,_=>by rfl
 | k+1,h=>by rw [iD,aOH l k (by omega),aPS (by omega)]; omega
theorem aJp (a:Int):∀ (l:List Ent) (n:Int) (k:Nat),k<l.length->(∀ j,j<k->n+iD l (j+1)<a)->a<=n+iD l (k+1)->iL a n l=k+1
 | [],n,k,h,_,_=>by grind
 | e :: l,n,0,_,_,h=>by
  simp_all[iL,iD]
 | e :: l,n,k+1,hk,hj,h=>by
  have h0:=hj 0 om;simp only [iD,vb] at h0;unfold iL;rw [if_neg om,aJp _ l _ k (by simp_all) (fun j c=>by grind[aEc]) (by grind[aEc])]
theorem aJo (a:Int):∀ (l:List Ent) (n:Int),(∀ j,j<l.length->n+iD l (j+1)<a)->iL a n l=l.length
 | [],n,_=>rfl
 | e :: l,n,hj=>by
  have h0:=hj 0 (by simp);simp only [iD,vb] at h0;unfold iL;rw [if_neg om,aJo _ l _ (fun j c=>by grind[aEc,iD])];rfl
def dZ (least:Int) (l:List Ent):List (List Ent) :=
 if h:l=[] then [] else l.take (iL least 0 l) :: dZ least (l.drop (iL least 0 l))
termination_by l.length
decreasing_by
 grind[aAA,xi]
theorem aDM (a:Int):dZ a []=[]:=by simp[dZ]
theorem aDL {a:Int} {l:List Ent} (h:l≠[]):dZ a l=l.take (iL a 0 l) :: dZ a (l.drop (iL a 0 l)):=by rw [dZ,dif_neg h]
theorem pS (a:Int) (l:List Ent):(dZ a l).flatten=l:=by
 by_cases h:l=[]
 ·subst h; rw [aDM]; rfl
 ·rw [aDL h,jf,pS _ _,qx]
termination_by l.length
decreasing_by
 grind[aAA,xi]
theorem aFd (a:Int) (l:List Ent):∀ c∈dZ a l,c≠[]:=by
 by_cases h:l=[]
 ·simp_all[aDM]
 ·rw [aDL h];intro c e;rcases qg.1 e with rfl | e
  ·grind[aAA,List.length_take]
  ·exact aFd _ _ c e
termination_by l.length
decreasing_by
 grind[aAA,xi]
theorem aJq (a:Int):∀ (k:Nat) (l:List Ent),dZ a (((dZ a l).drop k).flatten)=(dZ a l).drop k
 | 0,l=>by rw [List.drop_zero,pS]
 | k+1,l=>by
  by_cases h:l=[]
  ·subst h; rw [aDM]; simp [aDM]
  ·rw [aDL h,List.drop_succ_cons]; exact aJq a k _
theorem aJs {a:Int} {l rest:List Ent} {k:Nat} (c:rest=((dZ a l).drop k).flatten) (e:rest≠[]) :
  k<(dZ a l).length∧(dZ a l).getD k []=rest.take (iL a 0 rest)∧((dZ a l).drop (k+1)).flatten=rest.drop (iL a 0 rest):=by
 grind[xt,aJq,aDL,yq,pS]
theorem aJr {a:Int} {l rest:List Ent} {k:Nat} (c:rest=((dZ a l).drop k).flatten) (e:rest=[]):(dZ a l).length<=k:=by
 grind[aFd,List.getElem_mem,yq,List.append_eq_nil_iff]
def jV (c:List Ent):ByteArray:=(c.getD (c.length-1) Ent.zero).user
def oG (c:List Ent):ByteArray:=(c.getD 0 Ent.zero).user
def oD (cs:List (List Ent)) (i:Nat):List Y:=if i+1<cs.length then qU (yb (jV (cs.getD i []))) (yb (oG (cs.getD (i+1) []))) else yb (jV (cs.getD i []))
def sO:ByteArray->List ByteArray->List ByteArray
 | _,[]=>[]
 | p,b :: l=>if b=p then sO p l else b :: sO b l
def jE:List ByteArray->List ByteArray
 | []=>[]
 | a :: l=>a :: sO a l
theorem aFT:∀ (l:List ByteArray) (p:ByteArray),(sO p l).length<=l.length
 | [],p=>Nat.le_refl _
 | b :: l,p=>by
  unfold sO;split
  ·have:=aFT l p; simp only [wj]; omega
  ·have:=aFT l b; simp only [wj]; omega
theorem aFS:∀ l:List ByteArray,(jE l).length<=l.length
 | []=>Nat.le_refl _
 | a :: l=>by have:=aFT l a; simp only [jE,wj]; omega
structure Tab where
 root:Nat→Y
 h:Hd
 every:Nat
 bits:Int
 cs:List (List Ent)
namespace Tab
variable (t:Tab)
def ents:List Ent:=t.cs.flatten
def prt (i:Nat):List Y:=aAp t.root t.h (2+i) (gY t.every (t.cs.getD i []))
end Tab
def jY (x:List Y):List Y:=bV x.length++yl 32 (gI x)
namespace Tab
variable (t:Tab)
def out (k:Nat):List Y:=bG t.h++(qe k).flatMap t.prt
def rows (k:Nat):List Y:=(qe k).flatMap fun i=>gL (oD t.cs i)++jY (t.prt i)
def lvs (k:Nat):List Dg:=(qe k).map fun i=>gI (t.prt i)
def users:List ByteArray:=t.ents.map (·.user)
def filt:List Y:=aAp t.root t.h 1 (aAZ (jE t.users) t.bits)
def idx:List Y:=bV t.cs.length++(t.rows t.cs.length++jY t.filt)
def sidx:List Y:=aAp t.root t.h 0 t.idx
def bytes:List Y:=t.out t.cs.length++t.filt++t.sidx++cY (qh 64 (t.sidx.length:Int)) 8
def leaves:List Dg:=t.lvs t.cs.length++[gI t.filt]++[gI t.sidx]
def info:Meta:=⟨(t.h.level.toNat:Int),(t.h.gen.toNat:Int),(t.h.epoch.toNat:Int),(t.h.num.toNat:Int),(t.bytes.length:Int),(t.ents.length:Int),oG t.ents,jV t.ents,fun i=>((fP t.leaves i).toNat:Int)⟩
theorem out_succ (k:Nat):t.out (k+1)=t.out k++t.prt k:=by simp [out,yx]
theorem rows_succ (k:Nat):t.rows (k+1)=t.rows k++(gL (oD t.cs k)++jY (t.prt k)):=by simp [rows,yx]
theorem lvs_succ (k:Nat):t.lvs (k+1)=t.lvs k++[gI (t.prt k)]:=by simp [lvs,yx]
theorem lvs_len (k:Nat):(t.lvs k).length=k:=by simp [lvs]
end Tab
theorem aAq (root:Nat->Y) (h:Hd) (i:Nat) (p:List Y):(aAp root h i p).length=p.length+16:=uY ..
theorem aFE (a b:List Y):(qU a b).length<=a.length:=by
 unfold qU;grind
theorem aWJ {c:List Ent} (h:c≠[]):(jV c).size<=cC c:=by
 have:=xi.2 h;have:=zH (l:=c) (k:=c.length-1) om;grind[jV]
theorem aFb {cs:List (List Ent)} {k:Nat} (h:k<cs.length):(cs.take (k+1)).flatten=(cs.take k).flatten++cs.getD k []:=by
 grind[wg]
theorem oH {cs:List (List Ent)} {k:Nat} (h:k<cs.length):cs.getD k []∈cs:=by
 simp_all
theorem aH9 {cs:List (List Ent)} (k:Nat):cC ((cs.take k).flatten)<=cC cs.flatten∧((cs.take k).flatten).length<=cs.flatten.length:=by
 grind[qx,qQ]
theorem aA6:∀ {cs:List (List Ent)} {c:List Ent},c∈cs->cC c<=cC cs.flatten∧c.length<=cs.flatten.length
 | d :: cs,c,h=>by
  have h1:=qQ d cs.flatten;rw [jf,h1,qa];rcases qg.1 h with rfl | h
  ·omega
  ·have:=aA6 h; omega
structure Tab.Ok (t:Tab):Prop where
 light:lightE t.ents
 ne:∀ c∈t.cs,c≠[]
 every:t.every≤1024
namespace Tab.Ok
variable {t:Tab} (o:t.Ok)
include o
theorem blk {k:Nat} (h:k<t.cs.length):(gY t.every (t.cs.getD k [])).length<=24+cC (t.cs.getD k [])+42*(t.cs.getD k []).length:=by
 have g:=aA6 (oH h);have a:=o.light;have f:=o.every;have e:cC t.cs.flatten<=50000:=a.2;have c:t.cs.flatten.length<=2000:=a.1;grind[aC6]
theorem prt_le {k:Nat} (h:k<t.cs.length):(t.prt k).length<=40+cC (t.cs.getD k [])+42*(t.cs.getD k []).length:=by
 have:=o.blk h;grind[Tab.prt,aAq]
theorem out_le:∀ k,k<=t.cs.length->(t.out k).length<=30+cC ((t.cs.take k).flatten)+82*((t.cs.take k).flatten).length
 | 0,_=>by simp [Tab.out,jI]
 | k+1,h=>by
  have h1:=out_le k om;have c:=o.prt_le (k:=k) om;have a:=xi.2 (o.ne _ (oH (k:=k) om));rw [t.out_succ,aFb om,qa,qa,qQ]; omega
theorem out_small {k:Nat} (h:k<=t.cs.length):(t.out k).length<=220000:=by
 have f:=o.out_le k h;have e:=aH9 (cs:=t.cs) k;have c:cC t.cs.flatten<=50000:=o.light.2;have a:t.cs.flatten.length<=2000:=o.light.1;omega
theorem bnd_le {k:Nat} (h:k<t.cs.length):(oD t.cs k).length<=cC (t.cs.getD k []):=by
 have a:=aWJ (o.ne _ (oH (k:=k) h));grind[oD,aFE,bZ]
theorem rows_le:∀ k,k<=t.cs.length->(t.rows k).length<=cC ((t.cs.take k).flatten)+52*((t.cs.take k).flatten).length
 | 0,_=>by simp [Tab.rows]
 | k+1,h=>by
  have h1:=rows_le k om;have l:=o.prt_le (k:=k) om;have j:=xi.2 (o.ne _ (oH (k:=k) om));have i:=o.bnd_le (k:=k) om;have g:=aA6 (oH (cs:=t.cs) (k:=k) om);have f:cC t.cs.flatten<=50000:=o.light.2;have e:t.cs.flatten.length<=2000:=o.light.1;have c:=iR (n:=(oD t.cs k).length) om;have a:=iR (n:=(t.prt k).length) om;rw [t.rows_succ,aFb om];grind[qQ,gL,jY,bY]
theorem rows_small {k:Nat} (h:k<=t.cs.length):(t.rows k).length<=160000:=by
 have f:=o.rows_le k h;have e:=aH9 (cs:=t.cs) k;have c:cC t.cs.flatten<=50000:=o.light.2;have a:t.cs.flatten.length<=2000:=o.light.1;omega
theorem cs_le:t.cs.length<=2000:=by
 have e:∀ cs:List (List Ent),(∀ c∈cs,c≠[])->cs.length<=cs.flatten.length:=by
  intro cs;induction cs with
  | nil=>simp
  | cons c cs ih =>
   intro h;have:=ih fun c a=>h c (qo _ a);have:=xi.2 (h c (ql ..));grind
 have f:t.cs.flatten.length<=2000:=o.light.1;have:=e _ o.ne;omega
theorem filt_le:t.filt.length<=20000:=by
 have f:=aFS t.users;have e:t.users.length<=2000:=by unfold Tab.users; rw [qm]; exact o.light.1
 have a:=aEN t.bits;have c:(jE t.users).length*fY t.bits<=2000*64:=Nat.mul_le_mul om a.2;grind[Tab.filt,aAq,aGf]
theorem idx_le:t.idx.length<=160100:=by
 have e:=o.rows_small (qd _);have c:=o.filt_le;have a:=o.cs_le;grind[iR,Tab.idx,jY,bY]
theorem bytes_le:t.bytes.length<=1000000:=by
 have e:=o.out_small (qd _);have c:=o.filt_le;have a:=o.idx_le;grind[Tab.bytes,Tab.sidx,aAq,kI]
end Tab.Ok
structure RowT where
 bound:List Y
 bytes:List Y
 leaf:Dg
def eG (m:Meta):Hd:=⟨2#8,qh 8 m.level,qh 64 m.gen,qh 64 m.epoch,qh 64 m.number⟩
def xA {α:Type} (last:Bool) (k:List Y->Nat->Dg->List Y->Option α):List Y->Option α :=
 (if last then fun K=>K [] else uX 1024) fun bd=>fD fun size=>oL lT 32 fun xs=>k bd size (fun i=>xs.getD i 0)
def iB:Nat->List RowT->List Y->List Y->Option (List RowT)
 | 0,acc,rest=>fun r=>if r=[]∧rest=[] then some acc else none
 | n+1,acc,rest=>xA (n == 0) fun bd size d r=>if size<=rest.length then iB n (acc++[⟨bd,rest.take size,d⟩]) (rest.drop size) r else none
def sL (root:Nat->Y) (m:Meta) (b:List Y):Option (List RowT×List Y) :=
 if (nM b).2=0∧(b.length:Int)=m.size∧(nM b).1=eG m∧38<=b.length∧(eC (b.drop (b.length-8)) 8).toNat<=b.length-38 then
  let rest:=(b.drop 30).take (b.length-38)
  let at':=b.length-38-(eC (b.drop (b.length-8)) 8).toNat
  (wS root (eG m) 0 (rest.drop at')).bind fun y =>
   ((fD fun n r=>if 0<n then iB (n+1) [] (rest.take at') r else none) y).bind fun rows =>
    if (yl 32 (fP (rows.map (·.leaf)++[gI (rest.drop at')]))).map (fun y=>((y.toNat:Nat):Int))=(qe 32).map m.root then some (rows,rest.drop at') else none
 else none
def qH:RowT:=⟨[],[],fun _=>0⟩
def lY (root:Nat->Y) (h:Hd) (x:RowT) (part:Nat):Option (List Y):=if yl 32 (gI x.bytes)=yl 32 x.leaf then wS root h part x.bytes else none
noncomputable def wB (root:Nat->Y) (h:Hd) (rows:List RowT) (i:Nat):Option (List Ent) :=
 (lY root h (rows.getD i qH) (2+i)).bind fun y=>if (oM y).2=0 then some (oM y).1 else none
noncomputable def nY (root:Nat->Y) (h:Hd) (rows:List RowT):Nat->Nat->List Ent->Option (List Ent)
 | 0,_,acc=>some acc
 | n+1,i,acc=>(wB root h rows i).bind fun l=>nY root h rows n (i+1) (acc++l)
noncomputable def sK (root:Nat->Y) (m:Meta) (b:List Y):Option (List Ent) :=
 (sL root m b).bind fun p=>(lY root (eG m) (p.1.getD (p.1.length-1) qH) 1).bind fun _ =>
  (nY root (eG m) p.1 (p.1.length-1) 0 []).bind fun l =>
   if cR l=true∧(l.length:Int)=m.count∧(l=[]∨oG l=m.min∧jV l=m.max) then some l else none
theorem bBk {e:Ent} (h:cM e=true):iV (dM e)=({ e with value:=ByteArray.empty },0):=by
 have j:=aAR e;have a:(dM e).length-8=e.user.size:=by omega
 have i:e.seq.toNat<72057594037927936:=by
  simp only [cM,dP] at h; omega
 have hd:(dM e).drop e.user.size=cY (e.seq <<< 8+e.kind.setWidth 64) 8:=by
  simp[dM,bZ]
 have f:aBy (dM e)=e.seq <<< 8+e.kind.setWidth 64:=by
  unfold aBy; rw [a,hd];have:=aHx (e.seq <<< 8+e.kind.setWidth 64) [];simp_all
 have c:(e.seq <<< 8+e.kind.setWidth 64).toNat=e.seq.toNat*256+e.kind.toNat:=by
  have:=e.kind.isLt;grind[ju]
 have g:uL (dM e) = { e with value:=xe }:=by
  unfold uL;rw [a,f];have n:(dM e).take e.user.size=yb e.user:=by simp[dM,bZ]
  have m:(e.seq <<< 8+e.kind.setWidth 64) >>> 8=e.seq:=by
   apply wl;rw [jd,c,zq];omega
  have l:(e.seq <<< 8+e.kind.setWidth 64).setWidth 8=e.kind:=by
   grind[wl,kb]
  simp_all[sM]
 unfold iV;rw [if_neg om,g,if_pos];simp only [cM,dP] at h ⊢;refine ⟨⟨⟨h.1.1.1,by simp⟩,h.1.2⟩,?_⟩;have k:=h.2;split
 ·simp
 simp_all
theorem aJg:∀ a b:List Y,a.take (gF a b)=b.take (gF a b)
 | [],b=>by rfl
 | x :: a,[]=>by rfl
 | x :: a,y :: b=>by
  unfold gF;split
  ·rename_i h; subst h; rw [List.take_succ_cons,List.take_succ_cons,aJg a b]
  ·rfl
theorem aSe (last a:List Y) (anew:Bool):last.take (lK last a anew)=a.take (lK last a anew)∧lK last a anew<=last.length:=by
 unfold lK;split
 ·simp
 grind[aJg,aDI]
theorem aT5 {α:Type} {last t:List Y} {anew:Bool} {e:Ent} {k:Ent->List Y->List Y->Option α} (f:cM e=true):xV last k (qX last anew e++t)=k e (dM e) t:=by
 have a:=f;simp only [cM,dP] at a;have m:=aFW last (dM e) anew;have l:=aAR e;obtain ⟨j,i⟩:=aSe last (dM e) anew;have c:last.take (lK last (dM e) anew)++(dM e).drop (lK last (dM e) anew)=dM e:=by simp_all
 unfold xV qX;simp only [qk];rw [uS om,uS om,uS om];have h:((dM e).drop (lK last (dM e) anew)).length=(dM e).length-lK last (dM e) anew:=qt ..;have g:(yb e.value).length=e.value.size:=bZ _;simp_all[bBk,sM]
theorem aKO {every:Nat} {l:List Ent} (a:∀ e∈l,cM e=true):∀ (n k:Nat) (t:List Y),k+n=l.length->∃ X,gD every l l.length=gD every l k++X∧jR n (rA l k) (l.take k) (X++t)=some l
 | 0,k,t,h=>⟨[],by simp_all,by simp_all[jR]⟩
 | n+1,k,t,h=>by
  obtain ⟨X,h1,h2⟩:=aKO (every:=every) a n (k+1) t om;have g:k<l.length:=by omega
  have c:l.getD k Ent.zero∈l:=by simp_all
  refine ⟨qX (rA l k) (k%every == 0) (l.getD k Ent.zero)++X,?_,?_⟩
  ·rw [h1,←qk]; rfl
  rw [jR,qk,aT5 (a _ c)];have f:l.take k++[l.getD k Ent.zero]=l.take (k+1):=by
   simp_all
  rw [f]; exact h2
theorem aZL {every:Nat} {l:List Ent} (i:iF l every=(gY every l,0)) (p:1<=every) (c:every<=1024) (h:l.length<18446744073709551616) (g:∀ e∈l,cM e=true):oM (gY every l)=(l,0):=by
 obtain ⟨X,q,k⟩:=aKO (every:=every) g l.length 0 (pF every l l.length++cY (qh 64 (nJ every l.length:Int)) 4) om;have m:gY every l=bV every++(bV l.length++(X++(pF every l l.length++cY (qh 64 (nJ every l.length:Int)) 4))):=by
  simp_all[gY,gD]
 have j:jR l.length [] [] (X++(pF every l l.length++cY (qh 64 (nJ every l.length:Int)) 4))=some l:=k;unfold oM;have a:(fD fun ev=>fD fun n r=>if ev<=1024 then (jR n [] [] r).bind fun f=>if iF f ev=(gY every l,0) then some f else none else none) (gY every l)=some l:=by
  conv=>lhs; arg 2; rw [m]
  rw [uS om,uS h,if_pos c,j,qw,if_pos i]
 rw [a]
end Go.Tan
