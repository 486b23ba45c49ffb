/- Lemmas and contracts of functions, joined. -/
import Derived.WalkKit
import Derived.WalkSpells
import Derived.WalkLawsBesides
import Derived.Recover
import Derived.Deep.AppendSrc
import Derived.Laws.AppendOwnNone
import Derived.DeepKeys
import Derived.Laws.BytesString
import Derived.Laws.MakeOwn
import Derived.ProofKit
import Derived.Lib.LaidTab
set_option linter.unusedSimpArgs false
set_option linter.unusedVariables false
set_option linter.defProp false
set_option linter.unusedSectionVars false
open Array renaming getElem?_eq_some_iff->xg,replicate->zc,range->ze,getElem?_setIfInBounds_ne->jo,size_append->jt
open BitVec renaming ofNat->qb,ofInt->qk,eq_of_toNat_eq->wj,ofInt_add->qa3,ofInt_neg->qa4,allOnes->qa7
open Bool renaming and_eq_true->qi,not_eq_true'->wv,or_eq_true->x4,or_eq_false_iff->xf,false_or->zz
open Int renaming toNat_natCast->yc,emod_eq_of_lt->qa2,natCast_ediv->qa6
open List renaming length_append->qa,mem_singleton->qd,mem_cons->qe,range->qg,mem_cons_self->qh,mem_cons_of_mem->qj,mem_map->ql,mem_append->qn,length_cons->qp,length_nil->qt,getElem?_eq_getElem->qv,take_of_length_le->wd,all_eq_true->wg,mem_append_left->wi,length->wm,eq_nil_of_length_eq_zero->wo,getElem?_eq_some_iff->wr,map_cons->wu,cons_append->ww,length_singleton->wy,perm_append_comm->x5,mem_append_right->x8,nodup_cons->xa,mem_range->xh,replicate->xl,mem_flatMap->xo,ext_getElem?->xq,getElem?_take->xr,nodup_nil->xx,nodup_append->yd,perm_middle->ye,drop_drop->yk,size_toArray->zd,getElem?_set->zk,set_eq_take_append_cons_drop->ja
open Nat renaming le_refl->qc,zero_le->qo,zero_add->wb,le_trans->wl,lt_or_ge->xk,add_zero->yj,lt_of_lt_of_le->yu,add_mul->yv,pow_le_pow_right->yw,beq->yz,eq_of_beq_eq_true->z8,eq_zero_or_pos->zm,sub_zero->jq,shiftLeft_eq->jw,div_eq_of_lt->jx,lt_irrefl->ko,le_of_ble_eq_true->kq,min_eq_right->qa5
open Option renaming bind_some->qu,map_some->wx
namespace Go.Tan
variable {op:BinOp} {Q:Exit→Act→World→Prop} {k q:IntKind} {K0:List Nat} {l:List Oper} {cs' xs:List Value} {n off E m e sz cap:Nat} {y:Operand} {P:Program} {α:Type} {S D C:TypeId} {w0:World} {enc:α→List Value}
def om {p : Prop} (h : p := by omega) : p := h
def dc {p : Prop} (h : p := by decide) : p := h
def kr {p : Prop} (h : p := by kernel_rfl) : p := h
def Mo (l A B:Prop):Prop:=l->A->B
def bE {l Z A0 A1 X0 X1:Prop} (k:l) (a0:A0) (a1:A1) (z:X0->X1->Z) (h0:Mo l A0 X0:=by intro k a;exact a.mono k) (h1:Mo l A1 X1:=by intro k a;exact a.mono k):Z:=z (h0 k a0) (h1 k a1)
def aX {l Z A0 A1 A2 X0 X1 X2:Prop} (k:l) (a0:A0) (a1:A1) (a2:A2) (z:X0->X1->X2->Z) (h0:Mo l A0 X0:=by intro k a;exact a.mono k) (h1:Mo l A1 X1:=by intro k a;exact a.mono k) (h2:Mo l A2 X2:=by intro k a;exact a.mono k):Z:=z (h0 k a0) (h1 k a1) (h2 k a2)
def bW {l Z A0 A1 A2 A3 X0 X1 X2 X3:Prop} (k:l) (a0:A0) (a1:A1) (a2:A2) (a3:A3) (z:X0->X1->X2->X3->Z) (h0:Mo l A0 X0:=by intro k a;exact a.mono k) (h1:Mo l A1 X1:=by intro k a;exact a.mono k) (h2:Mo l A2 X2:=by intro k a;exact a.mono k) (h3:Mo l A3 X3:=by intro k a;exact a.mono k):Z:=z (h0 k a0) (h1 k a1) (h2 k a2) (h3 k a3)
def cV {l Z A0 A1 A2 A3 A4 X0 X1 X2 X3 X4:Prop} (k:l) (a0:A0) (a1:A1) (a2:A2) (a3:A3) (a4:A4) (z:X0->X1->X2->X3->X4->Z) (h0:Mo l A0 X0:=by intro k a;exact a.mono k) (h1:Mo l A1 X1:=by intro k a;exact a.mono k) (h2:Mo l A2 X2:=by intro k a;exact a.mono k) (h3:Mo l A3 X3:=by intro k a;exact a.mono k) (h4:Mo l A4 X4:=by intro k a;exact a.mono k):Z:=z (h0 k a0) (h1 k a1) (h2 k a2) (h3 k a3) (h4 k a4)
def lZ {l Z A0 A1 A2 A3 A4 A5 X0 X1 X2 X3 X4 X5:Prop} (k:l) (a0:A0) (a1:A1) (a2:A2) (a3:A3) (a4:A4) (a5:A5) (z:X0->X1->X2->X3->X4->X5->Z) (h0:Mo l A0 X0:=by intro k a;exact a.mono k) (h1:Mo l A1 X1:=by intro k a;exact a.mono k) (h2:Mo l A2 X2:=by intro k a;exact a.mono k) (h3:Mo l A3 X3:=by intro k a;exact a.mono k) (h4:Mo l A4 X4:=by intro k a;exact a.mono k) (h5:Mo l A5 X5:=by intro k a;exact a.mono k):Z:=z (h0 k a0) (h1 k a1) (h2 k a2) (h3 k a3) (h4 k a4) (h5 k a5)
def dT:(∀ a b:Bool,((a&&b)=true)=(a=true∧b=true))∧(∀ {p:Prop} [Decidable p],(decide p=true)=p):=⟨qi,decide_eq_true_eq⟩
def nZ:(∀ a b:Bool,((a&&b)=true)=(a=true∧b=true))∧(∀ {p:Prop} [Decidable p],(decide p=true)=p)∧(∀ b:Bool,((!b)=true)=(b=false))∧(∀ {a b:Bool},(a||b)=false↔a=false∧b=false)∧(∀ {p:Prop} {x:Decidable p},decide p=false↔¬p):=⟨qi,decide_eq_true_eq,wv,xf,decide_eq_false_iff_not⟩
def dO:(∀ a b:Bool,((a&&b)=true)=(a=true∧b=true))∧(∀ {p:Prop} [Decidable p],(decide p=true)=p)∧(∀ b:Bool,((!b)=true)=(b=false))∧(∀ {a b:Bool},(a||b)=false↔a=false∧b=false)∧(∀ {p:Prop} {x:Decidable p},decide p=false↔¬p)∧(∀ {α:Type} [BEq α] [LawfulBEq α] {a b:α},(a==b)=true↔a=b)∧(∀ {α:Type} [BEq α] [LawfulBEq α] {a b:α},(a==b)=false↔a≠b)∧(∀ {α:Type} (a b:α),(a≠b)=¬a=b):=⟨qi,decide_eq_true_eq,wv,xf,decide_eq_false_iff_not,beq_iff_eq,beq_eq_false_iff_ne,ne_eq⟩
def dX:(∀ {α:Type} {a:α} {l:List α},(a::l).length=l.length+1)∧(∀ {α:Type},([]:List α).length=0):=⟨qp,qt⟩
def dR : (∀ {p : Prop} [Decidable p], (decide p = true) = p) ∧ (∀ {p : Prop} {x : Decidable p}, decide p = false ↔ ¬p) ∧ (∀ {a b : Int}, ¬a < b ↔ b <= a) ∧ (∀ {a b : Int}, ¬a <= b ↔ b < a) ∧ (∀ {α : Type} [LT α] {x y : α}, x > y ↔ y < x) ∧ (∀ {α : Type} [LE α] {x y : α}, x >= y ↔ y <= x) ∧ (∀ a b : Bool, ((a || b) = true) = (a = true ∨ b = true)) ∧ (∀ a b : Bool, ((a && b) = true) = (a = true ∧ b = true)) ∧ (∀ {x y : Bool}, (x || y) = false ↔ x = false ∧ y = false) ∧ (∀ b : Bool, ((!b) = true) = (b = false)) ∧ (∀ b : Bool, ((!b) = false) = (b = true)) ∧ (∀ n : Nat, ((n : Int)).toNat = n) :=
  ⟨decide_eq_true_eq, decide_eq_false_iff_not, Int.not_lt, Int.not_le, gt_iff_lt, ge_iff_le, x4, qi, xf, wv, Bool.not_eq_false', yc⟩
def qcB : (∀ {α : Type} [BEq α] [LawfulBEq α] {a b : α}, (a != b) = true ↔ a ≠ b) ∧ (∀ {α : Type} [BEq α] [LawfulBEq α] {a b : α}, (a == b) = true ↔ a = b) ∧ (∀ {α : Type} [BEq α] [LawfulBEq α] {a b : α}, (a != b) = false ↔ a = b) ∧ (∀ {α : Type} [BEq α] [LawfulBEq α] {a b : α}, (a == b) = false ↔ a ≠ b) ∧ (∀ {α : Type} (a b : α), (a ≠ b) = ¬a = b) := ⟨bne_iff_ne, beq_iff_eq, bne_eq_false_iff_eq, beq_eq_false_iff_ne, ne_eq⟩
def qcC : ∀ {x y : Bool}, (x && y) = false ↔ x = false ∨ y = false := Bool.and_eq_false_iff
def bP : (∀ {α : Type} {xs ys : List α}, (xs ++ ys).length = xs.length + ys.length) ∧ (∀ {α : Type} {a : α} {xs : List α}, (a :: xs).length = xs.length + 1) ∧ (∀ {α : Type}, ([] : List α).length = 0) := ⟨qa, qp, qt⟩
def qlB : (∀ {α : Type} {xs ys : List α}, (xs ++ ys).length = xs.length + ys.length) ∧ (∀ {α : Type} {i : Nat} {l : List α}, (l.take i).length = min i l.length) ∧ (∀ {α : Type} {i : Nat} {l : List α}, (l.drop i).length = l.length - i) := ⟨qa, List.length_take, List.length_drop⟩
open Go.RowKit
abbrev PM:=Nat→Option Obj
def PM.le (G G':PM):Prop:=∀ b o,G b=some o->G' b=some o
def PM.le.refl (G:PM):PM.le G G:=fun _ _ h=>h
def PM.le.trans {G c a:PM} (h:PM.le G c) (k:PM.le c a):PM.le G a:=fun b o e=>k b o (h b o e)
inductive Res where
 | blk (b:Nat) (o:Obj)
 | row (v:Value) (E size n:Nat) (xs:List Value)
 | mp (b:Nat) (q:IntKind) (m:Int→Option Value)
def jN (q:IntKind) (es:List MapEntry) (k:Int):Option Value :=
 match es with
 | []=>none
 | e :: r=>if e.key matches .int _ _ then (match e.key with | .int _ a=>if a=k then some e.val else jN q r k | _=>none) else none
def qN (q:IntKind) (es:List MapEntry):Prop:=∀ e∈es,∃ a,e.key=.int q a
def Res.keys:Res->List Nat
 | .blk b _=>[b]
 | .row v ..=>v.ownBlock.toList
 | .mp b _ _=>[b]
def Res.sat (w:World):Res->Prop
 | .blk b o=>w.heap[b]? = some o
 | .row v E size n xs=>w.ownsRow 0 E size v n xs
 | .mp b q m=>∃ es clock,w.heap[b]? = some (.map es clock)∧qN q es.toList∧∀ k,jN q es.toList k=m k
abbrev aB:=List Res
variable {post:PM→aB→Value→Prop}
def keys (μ:aB):List Nat:=μ.flatMap Res.keys
structure Sat (G:PM) (μ:aB) (w:World):Prop where
 sub:∀ b o,G b=some o→w.heap[b]? = some o
 own:∀ r∈μ,r.sat w
 apart:∀ b∈keys μ,G b=none
 nodup:(keys μ).Nodup
structure Tr (G0:PM) (K0:List Nat) (w0:World) (G:PM) (μ:aB) (w:World):Prop where
 sat:Sat G μ w
 os:w.os=w0.os
 tape:w.tape=w0.tape
 output:w.output=w0.output
 size:w0.heap.size≤w.heap.size
 old:∀ b,b<w0.heap.size→b∉K0→w.heap[b]? = w0.heap[b]?∧G b=G0 b
 mine:∀ b∈keys μ,b∈K0∨w0.heap.size≤b
 le:∀ b o,b∉K0→G0 b=some o→G b=some o
theorem Res.key_lt {w:World} {r:Res} (h:r.sat w):∀ b∈r.keys,b<w.heap.size:=by
 intro b a;cases r with
 | blk b' o=>grind[Res.keys,Res.sat]
 | row v E size n xs =>
  simp only [Res.keys,Option.mem_toList] at a;exact (World.ownsRow.lt h b a).2
 | mp b' q m =>
  grind[Res.keys,Res.sat]
def Sat.key_lt {G:PM} {μ:aB} {w:World} (h:Sat G μ w):∀ b∈keys μ,b<w.heap.size:=by
 intro b e;obtain ⟨r,c,a⟩:=xo.1 e;exact Res.key_lt (h.own r c) b a
def aCW {w w':World} {r:Res} (h:r.sat w) (i:∀ b∈r.keys,w'.heap[b]? = w.heap[b]?):r.sat w':=by
 cases r with
 | blk b o=>simp_all[Res.keys,Res.sat]
 | row v E size n xs =>
  refine ⟨h.1,?_⟩;rcases h.2 with f | ⟨g,c,a,rfl,e,j,rest⟩
  ·simp_all
  exact .inr ⟨g,c,a,rfl,e,by simp_all[Res.keys,Value.ownBlock],rest⟩
 | mp b q m =>
  simp_all[Res.keys,Res.sat]
def gX {G:PM} {μ:aB} {w:World} (h:Sat G μ w):Tr G (keys μ) w G μ w :=
 ⟨h,rfl,rfl,rfl,qc _,fun _ _ _=>⟨rfl,rfl⟩,fun _ a=>.inl a,fun _ _ _ h=>h⟩
def zY {μ a:aB} (h:μ.Perm a):(keys μ).Perm (keys a):=h.flatMap_right _
def Sat.perm {G:PM} {μ a:aB} {w:World} (h:Sat G μ w) (p:μ.Perm a):Sat G a w :=
 ⟨h.sub,fun r c=>h.own r (p.mem_iff.2 c),fun b e=>h.apart b ((zY p).mem_iff.2 e),(zY p).nodup_iff.1 h.nodup⟩
def Tr.perm {c G:PM} {K0:List Nat} {w0 w:World} {μ a:aB} (h:Tr c K0 w0 G μ w) (p:μ.Perm a):Tr c K0 w0 G a w :=
 { h with sat:=h.sat.perm p,mine:=fun b e=>h.mine b ((zY p).mem_iff.2 e) }
theorem jM (a b:aB):keys (a++b)=keys a++keys b:=by simp [keys]
def Sat.left {G:PM} {μ ν:aB} {w:World} (h:Sat G (μ++ν) w):Sat G μ w :=
 ⟨h.sub,fun r a=>h.own r (wi _ a),fun b c=>h.apart b (by simp_all[jM]),
  by have:=h.nodup; simp_all[jM,yd]⟩
def Tr.left {a G:PM} {K0:List Nat} {w0 w:World} {μ ν:aB} (h:Tr a K0 w0 G (μ++ν) w):Tr a K0 w0 G μ w :=
 { h with sat:=h.sat.left,mine:=fun b c=>h.mine b (by simp_all[jM]) }
theorem Tr.step {t G v:PM} {w w':World} {μ ν c:aB} (h:Tr t K0 w0 G (μ++ν) w) (k:Tr G (keys μ) w v c w') :
  Tr t K0 w0 v (c++ν) w':=by
 have l:=h.sat.key_lt;have e:=h.sat.nodup;rw [jM] at e l;have m:=(yd.1 e).2.2;have i:∀ b∈keys ν,b<w.heap.size∧b∉keys μ:=fun b a=>⟨l b (x8 _ a),fun g=>m b g b a rfl⟩;have j:∀ b∈keys c,b∈keys μ∨w.heap.size<=b:=k.mine;refine ⟨⟨k.sat.sub,?_,?_,?_⟩,k.os.trans h.os,k.tape.trans h.tape,k.output.trans h.output,wl h.size k.size,?_,?_,?_⟩
 ·intro r f;rcases qn.1 f with f | f
  ·exact k.sat.own r f
  refine aCW (h.sat.own r (x8 _ f)) fun b a=>?_;have:=i b (xo.2 ⟨r,f,a⟩);exact (k.old b this.1 this.2).1
 ·intro b a;rw [jM] at a;rcases qn.1 a with a | a
  ·exact k.sat.apart b a
  have:=i b a;rw [(k.old b this.1 this.2).2];exact h.sat.apart b (by simp_all[jM])
 ·rw [jM];refine yd.2 ⟨k.sat.nodup,(yd.1 e).2.1,fun x D y C A=>?_⟩;grind
 ·intro b a q;have p:b∉keys μ:=fun g=>by
   rcases h.mine b (by simp_all[jM]) with n | n
   ·simp_all
   omega
  have n:=h.old b a q;have E:=k.old b (yu a h.size) p;simp_all
 ·intro b a;rw [jM] at a;rcases qn.1 a with a | a
  ·rcases j b a with g | g
   ·exact h.mine b (by simp_all[jM])
   exact .inr (wl h.size g)
  exact h.mine b (by simp_all[jM])
 intro b o q a;have n:=h.le b o q a;refine k.le b o (fun g=>?_) n;have:=h.sat.apart b (by simp_all[jM]);simp_all
def Tr.mono {a G:PM} {w:World} {μ:aB} (h:Tr a K0 w0 G μ w) (f:∀ b∈K0,a b=none):PM.le a G :=
 fun b o c=>h.le b o (fun e=>by simp_all) c
def Tr.forget {i G Gp l:PM} {w w':World} {μ:aB} (h:Tr i K0 w0 G μ w) (k:Tr Gp [] w l [] w'):Tr i K0 w0 G μ w':=by
 have a:∀ b,b<w.heap.size->w'.heap[b]? = w.heap[b]?:=fun b c=>(k.old b c (by simp)).1;have e:∀ b o,G b=some o->b<w.heap.size:=fun b o c=>(xg.1 (h.sat.sub b o c)).1;have f:=h.sat.key_lt;refine ⟨⟨fun b o c=>by rw [a b (e b o c)]; exact h.sat.sub b o c,fun r g=>aCW (h.sat.own r g) fun b c=>a b (f b (xo.2 ⟨r,g,c⟩)),h.sat.apart,h.sat.nodup⟩,
  k.os.trans h.os,k.tape.trans h.tape,k.output.trans h.output,wl h.size k.size,fun b c j=>?_,h.mine,h.le⟩
 rw [a b (yu c h.size)];exact h.old b c j
def Tr.drew {a G:PM} {w:World} {μ:aB} (h:Tr a K0 w0 G μ w):Tr a K0 w0 G μ { w with drawn:=w.drawn+1 } :=
 ⟨⟨h.sat.sub,fun r c=>aCW (h.sat.own r c) fun _ _=>rfl,h.sat.apart,h.sat.nodup⟩,h.os,h.tape,h.output,h.size,h.old,h.mine,h.le⟩
def PM.add (G:PM) (b:Nat) (o:Obj):PM:=fun c=>if c=b then some o else G c
def bI (G:PM) (b:Nat) (o:Obj):G.add b o b=some o:=by simp [PM.add]
theorem PM.le_add {G:PM} {b:Nat} {o:Obj} (h:G b=none):PM.le G (G.add b o):=by
 grind[PM.add,PM.le]
def Tr.freeze {j G:PM} {w:World} {μ:aB} {b:Nat} {o:Obj} (h:Tr j K0 w0 G (.blk b o :: μ) w):Tr j K0 w0 (G.add b o) μ w:=by
 have m:w.heap[b]? = some o:=h.sat.own _ (qh ..);have l:keys (.blk b o :: μ)=b :: keys μ:=by rfl
 have f:=h.sat.nodup;rw [l] at f;have i:G b=none:=h.sat.apart b (by simp_all);refine ⟨⟨?_,fun r k=>h.sat.own r (qj _ k),?_,(xa.1 f).2⟩,h.os,h.tape,h.output,h.size,?_,fun c a=>h.mine c (by simp_all),?_⟩
 ·intro c u a;unfold PM.add at a;split at a
  ·simp_all
  exact h.sat.sub c u a
 ·intro c a;unfold PM.add;rw [if_neg (fun (e:c=b)=>(xa.1 f).1 (e▸a))];exact h.sat.apart c (by simp_all)
 ·intro c a g;have:=h.old c a g;refine ⟨this.1,?_⟩;unfold PM.add;rw [if_neg (fun (e:c=b)=>(h.mine b (by simp_all)).elim (fun q=>g (e▸q)) (fun q=>om))];simp_all
 intro c u g a;exact PM.le_add i c u (h.le c u g a)
abbrev aF:=List (Nat×Bool×Value)
def cT:aF->Nat->Option (Bool×Value)
 | [],_=>none
 | (j,cv) :: r,i=>match Nat.beq j i with | true=>some cv | false=>cT r i
def ev (ρ:aF):Operand->Option (Bool×Value)
 | .tmp t=>cT ρ t
 | .const v=>some (true,v)
 | .global g=>some (true,.pointer (some ⟨g,0,none⟩))
 | .func f=>some (true,.func (.func f) #[] #[])
structure Fm where
 n:Nat
 ds:List Deferred
 die:List PanicEntry→aF→PM→aB→Prop
structure Ag (n:Fm) (ρ:aF) (a:Act):Prop where
 size:a.tmps.size=n.n
 defers:a.defers=n.ds
 get:∀ i c v,cT ρ i=some (c,v)→a.tmps[i]? = some (cond c v undef)
theorem xT (j:Nat) (cv:Bool×Value) (r:aF) (i:Nat):cT ((j,cv) :: r) i=if j=i then some cv else cT r i:=by
 by_cases h:j=i
 ·simp_all[cT]
 ·have a:yz j i=false:=by
   grind[z8]
  simp_all[cT]
theorem Ag.put {n:Fm} {ρ:aF} {a:Act} (h:Ag n ρ a) {d:Nat} (hd:d<n.n) (c:Bool) (v:Value):Ag n ((d,c,v) :: ρ) (a.put (some d) (cond c v undef)):=by
 refine ⟨by simp [Act.put,h.size],by simp [Act.put,h.defers],fun i j g f=>?_⟩;rw [xT] at f;simp only [Act.put];split at f
 ·rename_i e; subst e;simp only [Option.some.injEq,Prod.mk.injEq] at f;obtain ⟨rfl,rfl⟩:=f;simp [h.size,hd]
 rename_i e;rw [jo e];exact h.get i j g f
def Ag.sub {n:Fm} {ρ e:aF} {a:Act} (h:Ag n ρ a) (f:∀ i cv,cT e i=some cv->cT ρ i=some cv):Ag n e a :=
 ⟨h.size,h.defers,fun i c v g=>h.get i c v (f i _ g)⟩
def Ag.eval {n:Fm} {ρ:aF} {a:Act} (h:Ag n ρ a) {x:Operand} {c:Bool} {v:Value} (e:ev ρ x=some (c,v)) (i:c=true):a.eval x=v:=by
 subst i;cases x with
 | tmp t=>simp only [ev] at e; simp [Act.eval,h.get t _ _ e]
 | const u=>simp only [ev,Option.some.injEq,Prod.mk.injEq] at e; exact e.2
 | global g=>simp only [ev,Option.some.injEq,Prod.mk.injEq] at e; exact e.2
 | func f=>simp only [ev,Option.some.injEq,Prod.mk.injEq] at e; exact e.2
def Ev (ρ:aF) (c:Bool) (x:Operand) (v:Value):Prop:=∃ cx,ev ρ x=some (cx,v)∧(c=true->cx=true)
def Ev.u {ρ:aF} {c:Bool} {x:Operand} {v:Value} (h:ev ρ x=some (true,v)):Ev ρ c x v:=⟨true,h,fun _=>rfl⟩
def Ev.v {ρ:aF} {c:Bool} {x:Operand} {v:Value} (h:ev ρ x=some (true,v):=by rfl):Ev ρ c x v:=.u h
def Ev.s {ρ:aF} {c:Bool} {x:Operand} {v:Value} (h:ev ρ x=some (c,v)):Ev ρ c x v:=⟨c,h,id⟩
def Ev.eval {n:Fm} {ρ:aF} {a:Act} {c:Bool} {x:Operand} {v:Value} (h:Ev ρ c x v) (f:Ag n ρ a) (e:c=true):a.eval x=v:=by
 obtain ⟨j,i,g⟩:=h;exact f.eval i (g e)
def nth:List Oper->Nat->Option Oper
 | [],_=>none
 | o :: _,0=>some o
 | _ :: l,i+1=>nth l i
theorem jY (l:List Oper) (i:Nat):l.toArray[i]? = nth l i:=by
 rw [List.getElem?_toArray];induction l generalizing i with
 | nil=>rfl
 | cons o l ih=>cases i<;>simp_all[nth]
inductive Gd (l:List Oper) (ρ:aF):Option (Nat×Bool)→Bool→Prop where
 | no:Gd l ρ none true
 | t {j t:Nat} {b:Bool} (h:(nth l j).bind (·.dst)=some t) (hl:cT ρ t=some (true,.bool b)):Gd l ρ (some (j,true)) b
 | f {j t:Nat} {b:Bool} (h:(nth l j).bind (·.dst)=some t) (hl:cT ρ t=some (true,.bool b)):Gd l ρ (some (j,false)) (!b)
 | tc {j t:Nat} {c b:Bool} (h:(nth l j).bind (·.dst)=some t) (hl:cT ρ t=some (c,.bool b)):Gd l ρ (some (j,true)) (c&&b)
 | fc {j t:Nat} {c b:Bool} (h:(nth l j).bind (·.dst)=some t) (hl:cT ρ t=some (c,.bool b)):Gd l ρ (some (j,false)) (c && !b)
theorem Gd.wanted {l:List Oper} {ρ:aF} {o:Oper} {c:Bool} (h:Gd l ρ o.guard c) {n:Fm} {a:Act} (k:Ag n ρ a) :
  Region.wanted o (yielded l.toArray a.tmps)=c:=by
 unfold Region.wanted;generalize o.guard=g at h;have i:∀ {j t:Nat} {c b:Bool},(nth l j).bind (·.dst)=some t->cT ρ t=some (c,.bool b)->yielded l.toArray a.tmps j=if c then some b else none:=by
  intro j t c b h e;have:=k.get t c _ e;grind[yielded,jY,undef]
 cases h with
 | no=>rfl
 | t h e=>simp only [i h e]; simp
 | f h e=>grind
 | tc h e=>grind
 | fc h e=>grind
def Ct (P:Program) (f:FuncId) (args:Array Value) (G:PM) (μ:aB) (post:PM->aB->Value->Prop):Prop :=
 ∀ w,Sat G μ w->Calls P f args w fun e w'=>∃ v G' μ',e=.returned v∧Tr G (keys μ) w G' μ' w'∧post G' μ' v
def Cq (P:Program) (f:FuncId) (args:Array Value) (G:PM) (μ:aB) (post:PM->aB->Value->Prop) (die:PM->aB->List PanicEntry->Prop):Prop :=
 ∀ w,Sat G μ w->Calls P f args w fun e w'=>(∃ v G' μ',e=.returned v∧Tr G (keys μ) w G' μ' w'∧post G' μ' v)∨(∃ ch G' μ',e=.panicked ch∧Tr G (keys μ) w G' μ' w'∧die G' μ' ch)
inductive Kind where
 | pure | read | call | make | act
 deriving DecidableEq
structure Md where
 c:Bool
 a:Bool
def bB (mc:Md):Op->Kind
 | .move _ | .assign _ | .pick .. | .unOp .. | .binOp .. | .fieldAddr .. | .field .. | .indexAddr .. | .index .. | .extract .. | .slice .. | .build .. | .nilCheck _ | .makeFunc .. | .sliceToArrayPointer ..=>.pure
 | .load .. | .convert .. | .lookup .. | .makeInterface ..=>.read
 | .alloc _=>.make
 | .box .. | .buildSlice ..=>.call
 | .call { callee:=.builtin .len,.. } | .call { callee:=.builtin .min,.. } | .call { callee:=.builtin .max,.. }=>.read
 | .call { callee:=.builtin .append,.. }=>if mc.a then .call else .act
 | .call { callee:=.builtin _,.. }=>.act
 | .call _=>if mc.c then .act else .call
 | _=>.act
def bV (ρ:aF) (d:Option Nat) (c:Bool) (v:Value):aF:=match d with | some d=>(d,c,v) :: ρ | none=>ρ
def iV (n:Fm):Option Nat->Prop | some d=>d<n.n | none=>True
structure Weak (μ' μ₁:aB):Prop where
 sat:∀ w,(∀ r∈μ',r.sat w)→∀ r∈μ₁,r.sat w
 keys:∀ b∈keys μ₁,b∈keys μ'
 nodup:(Go.Tan.keys μ₁).Nodup
def Weak.of {G:PM} {e μ₁ ν:aB} {w:World} (h:Weak e μ₁) (f:Sat G (e++ν) w):Sat G (μ₁++ν) w:=by
 have c:=f.nodup;rw [jM] at c;refine ⟨f.sub,fun r a=>?_,fun b g=>?_,?_⟩
 ·rcases qn.1 a with a | a
  ·exact h.sat w (fun r a=>f.own r (wi _ a)) r a
  exact f.own r (x8 _ a)
 ·rw [jM] at g;refine f.apart b ?_;rw [jM];rcases qn.1 g with g | g
  ·exact wi _ (h.keys b g)
  simp_all
 rw [jM];exact yd.2 ⟨h.nodup,(yd.1 c).2.1,fun x j y i=>(yd.1 c).2.2 x (h.keys x j) y i⟩
inductive Wo (dr:Bool) (mc:Md) (P:Program) (n:Fm) (l:List Oper) (K:aF→PM→aB→Prop):List Nat→aF→PM→aB→Prop where
 | nil {ρ G μ} (h:K ρ G μ):Wo dr mc P n l K [] ρ G μ
 | pure {i σ ρ G μ o c v} (ho:nth l i=some o) (hk:bB mc o.op=.pure∨dr=false) (hg:Gd l ρ o.guard c)
   (hr:c=true→∀ a w,Ag n ρ a→(execOp a.eval o).run P w=.ok (.value v) w) (h:Wo dr mc P n l K σ (bV ρ o.dst c v) G μ):Wo dr mc P n l K (i :: σ) ρ G μ
 | read {i σ ρ G μ o c v} (ho:nth l i=some o) (hk:bB mc o.op=.read∨dr=false) (hg:Gd l ρ o.guard c)
   (hr:c=true→∀ a w,Ag n ρ a→Sat G μ w→(execOp a.eval o).run P w=.ok (.value v) w) (h:Wo dr mc P n l K σ (bV ρ o.dst c v) G μ):Wo dr mc P n l K (i :: σ) ρ G μ
 | make {i σ ρ G μ o} {ob:Obj} {mkv:Nat→Value} (ho:nth l i=some o) (hk:bB mc o.op=.make∨dr=false) (hg:o.guard=none)
   (hr:∀ e w,(execOp e o).run P w=.ok (.value (mkv w.heap.size)) (w.alloc ob))
   (h:∀ b,Wo dr mc P n l K σ (bV ρ o.dst true (mkv b)) G (.blk b ob :: μ)):Wo dr mc P n l K (i :: σ) ρ G μ
 | box {i σ ρ G μ o} {ob:Obj} {mkv:Nat→Value} (ho:nth l i=some o) (hk:bB mc o.op=.call∨dr=false) (hg:Gd l ρ o.guard true)
   (hr:∀ a w,Ag n ρ a→(execOp a.eval o).run P w=.ok (.value (mkv w.heap.size)) (w.alloc ob))
   (h:∀ b,Wo dr mc P n l K σ (bV ρ o.dst true (mkv b)) G (.blk b ob :: μ)):Wo dr mc P n l K (i :: σ) ρ G μ
 | callv {i σ ρ G μ o c f args v} {Gp:PM} (ho:nth l i=some o) (hk:bB mc o.op=.call∨bB mc o.op=.act∨dr=false) (hg:Gd l ρ o.guard c)
   (hr:c=true→∀ a w,Ag n ρ a→(execOp a.eval o).run P w=.ok (.enter f args) w)
   (hf:c=true→∀ w,Sat G μ w→(∀ b o,Gp b=some o→w.heap[b]? = some o)∧Ct P f args Gp [] fun _ μ' u=>μ'=[]∧u=v)
   (h:Wo dr mc P n l K σ (bV ρ o.dst c v) G μ):Wo dr mc P n l K (i :: σ) ρ G μ
 | call {i σ ρ G μ o f args} {post:PM→aB→Value→Prop} (ho:nth l i=some o) (hk:bB mc o.op=.call∨bB mc o.op=.act∨dr=false) (hg:Gd l ρ o.guard true)
   (hr:∀ a w,Ag n ρ a→(execOp a.eval o).run P w=.ok (.enter f args) w)
   (hf:Ct P f args G [] post)
   (h:∀ v G' μ',PM.le G G'→post G' μ' v→Wo dr mc P n l K σ (bV ρ o.dst true v) G' (μ'++μ)):Wo dr mc P n l K (i :: σ) ρ G μ
 | callg {i σ ρ G μ o f args} {post:PM→aB→Value→Prop} (hd:dr=false) (ho:nth l i=some o) (hg:Gd l ρ o.guard true)
   (hr:∀ a w,Ag n ρ a→(execOp a.eval o).run P w=.ok (.enter f args) w)
   (hf:Ct P f args G [] post)
   (h:∀ v G' μ',PM.le G G'→post G' μ' v→Wo dr mc P n l K σ (bV ρ o.dst true v) G' (μ'++μ)):Wo dr mc P n l K (i :: σ) ρ G μ
 | callp {i σ ρ G μ o f args μ₁ μ₂} {post:PM→aB→Value→Prop} {die:PM→aB→List PanicEntry→Prop} (hd:dr=false) (ho:nth l i=some o) (hg:Gd l ρ o.guard true) (hp:μ.Perm (μ₁++μ₂))
   (hr:∀ a w,Ag n ρ a→(execOp a.eval o).run P w=.ok (.enter f args) w)
   (hf:Cq P f args G μ₁ post die)
   (hx:∀ ch G' ν ρ' μ',PM.le G G'→die G' ν ch→(∀ i,cT ρ' i=cT ρ i)→μ'.Perm (ν++μ₂)→n.die ch ρ' G' μ')
   (h:∀ v G' μ',PM.le G G'→post G' μ' v→Wo dr mc P n l K σ (bV ρ o.dst true v) G' (μ'++μ₂)):Wo dr mc P n l K (i :: σ) ρ G μ
 | pan {i σ ρ G μ o v} (hd:dr=false) (ho:nth l i=some o) (hg:Gd l ρ o.guard true)
   (hr:∀ a w,Ag n ρ a→(execOp a.eval o).run P w=.halt (.panic v) w)
   (hx:∀ ρ' μ',(∀ i,cT ρ' i=cT ρ i)→μ'.Perm μ→n.die [{ v:=v,recovered:=false }] ρ' G μ'):Wo dr mc P n l K (i :: σ) ρ G μ
 | fresh {i σ ρ G μ o μ₁ μ₂} {post:PM→aB→aB→Value→Prop} (ho:nth l i=some o) (hk:bB mc o.op=.call∨dr=false) (hg:o.guard=none) (hp:μ.Perm (μ₁++μ₂))
   (hr:∀ a w,Ag n ρ a→Sat G (μ₁++μ₂) w→∃ v w' G' μa μb,(execOp a.eval o).run P w=.ok (.value v) w'∧Tr G (keys μ₁) w G' (μa++μb) w'∧post G' μa μb v)
   (hw:∀ v G' μa μb,post G' μa μb v→Weak (μa++μb) μ₁)
   (h:∀ v G' μa μb,PM.le G G'→post G' μa μb v→Wo dr mc P n l K σ (bV ρ o.dst true v) G' (μa++(μ₂++μb))):Wo dr mc P n l K (i :: σ) ρ G μ
 | act {i σ ρ G μ o μ₁ μ₂} {post:PM→aB→Value→Prop} (ho:nth l i=some o) (hk:bB mc o.op=.act∨dr=false) (hg:Gd l ρ o.guard true) (hp:μ.Perm (μ₁++μ₂))
   (hr:∀ a w,Ag n ρ a→Sat G (μ₁++μ₂) w →
    (∃ v w' G' μ',((execOp a.eval o).run P w=.ok (.value v) w'∨(execOp a.eval o).run P w=.ok .skip w'∧v=undef)∧Tr G (keys μ₁) w G' μ' w'∧post G' μ' v) ∨
    (∃ f args,(execOp a.eval o).run P w=.ok (.enter f args) w∧Ct P f args G μ₁ post))
   (h:∀ v G' μ',PM.le G G'→post G' μ' v→Wo dr mc P n l K σ (bV ρ o.dst true v) G' (μ'++μ₂)):Wo dr mc P n l K (i :: σ) ρ G μ
def Ag.laid {n:Fm} {ρ:aF} {a:Act} (h:Ag n ρ a) {d:Option Nat} (hd:iV n d) (c:Bool) (v:Value):Ag n (bV ρ d c v) (a.put d (cond c v undef)):=by
 cases d with
 | none=>exact h
 | some d=>exact h.put hd c v
theorem Tr.alloc {j G:PM} {K0:List Nat} {w0 w:World} {μ:aB} (h:Tr j K0 w0 G μ w) (ob:Obj):Tr j K0 w0 G (.blk w.heap.size ob :: μ) (w.alloc ob):=by
 have i:keys (.blk w.heap.size ob :: μ)=w.heap.size :: keys μ:=by rfl
 have f:=h.sat.key_lt;have c:∀ b,b<w.heap.size->(w.alloc ob).heap[b]? = w.heap[b]?:=fun b a=>Below.heap_alloc w ob b a;have e:∀ b o,G b=some o->b<w.heap.size:=fun b o a=>(xg.1 (h.sat.sub b o a)).1;refine ⟨⟨fun b o a=>by rw [c b (e b o a)]; exact h.sat.sub b o a,?_,?_,?_⟩,h.os,h.tape,h.output,wl h.size (by simp),?_,?_,h.le⟩
 ·intro r g;rcases qe.1 g with rfl | g
  ·exact heap_alloc_new w ob
  exact aCW (h.sat.own r g) fun b a=>c b (f b (xo.2 ⟨r,g,a⟩))
 ·intro b a;rw [i] at a;rcases qe.1 a with rfl | a
  ·cases m:G w.heap.size with
   | none=>rfl
   | some o=>grind
  exact h.sat.apart b a
 ·rw [i];exact xa.2 ⟨fun k=>absurd (f _ k) (ko _),h.sat.nodup⟩
 ·intro b a l;rw [c b (yu a h.size)];exact h.old b a l
 intro b a;rw [i] at a;rcases qe.1 a with rfl | a
 ·exact .inr h.size
 exact h.mine b a
theorem aD9 {f:FuncId} {args:Array Value} {G:PM} {μ:aB} (g:Ct P f args G μ post) {w:World} (c:Sat G μ w) {o:Oper} {a:Act} {next:Act->World->Prop} (e:(execOp a.eval o).run P w=.ok (.enter f args) w) (h:∀ v G' μ' w',Tr G (keys μ) w G' μ' w'->post G' μ' v->next (a.put o.dst v) w'):o.wp P a w next Q:=by
 unfold Oper.wp;rw [e];simp only [Oper.upon];refine (g w c).mono ?_;grind
theorem bBB {f:FuncId} {args:Array Value} {G:PM} {μ:aB} {c:PM->aB->List PanicEntry->Prop} (i:Cq P f args G μ post c) {w:World} (e:Sat G μ w) {o:Oper} {a:Act} {next:Act->World->Prop} (g:(execOp a.eval o).run P w=.ok (.enter f args) w) (h:∀ v G' μ' w',Tr G (keys μ) w G' μ' w'->post G' μ' v->next (a.put o.dst v) w') (hd:∀ ch G' ν w',Tr G (keys μ) w G' ν w'->c G' ν ch->Q (.panic ch) a w'):o.wp P a w next Q:=by
 unfold Oper.wp;rw [g];simp only [Oper.upon];refine (i w e).mono ?_;grind
def aLk (a b c:List α):(a++b++c).Perm (a++(c++b)):=by
 rw [List.append_assoc]; exact (x5 (l₁:=b) (l₂:=c)).append_left a
theorem Wo.head {T:Bool} {mc:Md} {n:Fm} {K:aF->PM->aB->Prop} {i:Nat} {Z:List Nat} {ρ:aF} {G:PM} {μ:aB} (H:Wo T mc P n l K (i :: Z) ρ G μ) {X:PM} {a:Act} {w:World} (e:Ag n ρ a) (ht:Tr X K0 w0 G μ w) {next:Act->World->Prop} (q:∀ j o,nth l j=some o->iV n o.dst) (hD:T=false->∀ J ρ G μ a w,n.die J ρ G μ->Ag n ρ a->Tr X K0 w0 G μ w->Q (.panic J) a w) (A:∀ ρ' y r a' D,Wo T mc P n l K Z ρ' y r->Ag n ρ' a'->Tr X K0 w0 y r D->next a' D) :
  ∃ o,nth l i=some o∧if Region.wanted o (yielded l.toArray a.tmps) then o.wp P a w next Q else next (a.put o.dst undef) w:=by
 have E:∀ {o:Oper},o.guard=none->Region.wanted o (yielded l.toArray a.tmps)=true:=fun x=>by grind[Region.wanted]
 cases H with
 | @pure _ _ _ _ _ o c v ho k x hr h =>
  refine ⟨o,ho,?_⟩;rw [x.wanted e];cases c with
  | false=>exact A _ _ _ _ _ h (by simpa using e.laid (q i o ho) false v) ht
  | true=>simp only [if_true,Oper.wp,hr rfl a w e,Oper.upon]; exact A _ _ _ _ _ h (e.laid (q i o ho) true v) ht
 | @read _ _ _ _ _ o c v ho k x hr h =>
  refine ⟨o,ho,?_⟩;rw [x.wanted e];cases c with
  | false=>exact A _ _ _ _ _ h (by simpa using e.laid (q i o ho) false v) ht
  | true=>simp only [if_true,Oper.wp,hr rfl a w e ht.sat,Oper.upon]; exact A _ _ _ _ _ h (e.laid (q i o ho) true v) ht
 | @make _ _ _ _ _ o ob mkv ho k x hr h =>
  refine ⟨o,ho,?_⟩;rw [E x];simp only [if_true,Oper.wp,hr a.eval w,Oper.upon];exact A _ _ _ _ _ (h w.heap.size) (e.laid (q i o ho) true _) (ht.alloc ob)
 | @box _ _ _ _ _ o ob mkv ho k x hr h =>
  refine ⟨o,ho,?_⟩;rw [x.wanted e];simp only [if_true,Oper.wp,hr a w e,Oper.upon];exact A _ _ _ _ _ (h w.heap.size) (e.laid (q i o ho) true _) (ht.alloc ob)
 | @callv _ _ _ _ _ o c f C v Gp ho k x hr I h =>
  refine ⟨o,ho,?_⟩;rw [x.wanted e];cases c with
  | false=>exact A _ _ _ _ _ h (by simpa using e.laid (q i o ho) false v) ht
  | true =>
   simp only [if_true];obtain ⟨S,O⟩:=I rfl w ht.sat;refine aD9 O ⟨S,by simp,by simp [keys],by trivial⟩ (hr rfl a w e) ?_;rintro u y r D k ⟨rfl,rfl⟩;exact A _ _ _ _ _ h (e.laid (q i o ho) true _) (ht.forget k)
 | @call _ _ _ _ _ o f C post ho k x hr I h =>
  refine ⟨o,ho,?_⟩;rw [x.wanted e];simp only [if_true];refine aD9 I ⟨ht.sat.sub,by simp,by simp [keys],by trivial⟩ (hr a w e) ?_;intro u y r D k F;exact A _ _ _ _ _ (h u y r (k.mono (by simp [keys])) F) (e.laid (q i o ho) true _) (Tr.step (μ:=[]) (ν:=μ) (by simp_all) k)
 | @callg _ _ _ _ _ o f C post hd ho x hr I h =>
  refine ⟨o,ho,?_⟩;rw [x.wanted e];simp only [if_true];refine aD9 I ⟨ht.sat.sub,by simp,by simp [keys],by trivial⟩ (hr a w e) ?_;intro u y r D k F;exact A _ _ _ _ _ (h u y r (k.mono (by simp [keys])) F) (e.laid (q i o ho) true _) (Tr.step (μ:=[]) (ν:=μ) (by simp_all) k)
 | @callp _ _ _ _ _ o f C μ₁ μ₂ post die hd ho x F hr I hx h =>
  refine ⟨o,ho,?_⟩;rw [x.wanted e];simp only [if_true];have m:=ht.perm F;have g:∀ b∈keys μ₁,G b=none:=fun b hb=>m.sat.apart b (by simp_all[jM]);refine bBB I m.sat.left (hr a w e) ?_ ?_
  ·intro u y r D k N;exact A _ _ _ _ _ (h u y r (k.mono g) N) (e.laid (q i o ho) true _) (m.step k)
  intro J y ν D k N;exact hD hd J ρ y (ν++μ₂) a D (hx J y ν ρ (ν++μ₂) (k.mono g) N (fun _=>rfl) (.refl _)) e (m.step k)
 | @pan _ _ _ _ _ o v hd ho x hr hx =>
  refine ⟨o,ho,?_⟩;rw [x.wanted e];simp only [if_true];unfold Oper.wp;rw [hr a w e];exact hD hd _ ρ G μ a w (hx ρ μ (fun _=>rfl) (.refl _)) e ht
 | @fresh _ _ _ _ _ o μ₁ μ₂ post ho k x F hr hw h =>
  refine ⟨o,ho,?_⟩;rw [E x];simp only [if_true];have m:=ht.perm F;have g:∀ b∈keys μ₁,G b=none:=fun b hb=>m.sat.apart b (by simp_all[jM]);obtain ⟨v,D,y,M,L,p,k,t⟩:=hr a w e m.sat;have:=A _ _ _ _ _ (h v y M L (k.mono g) t) (e.laid (q i o ho) true v) ((m.step k).perm (aLk _ _ _));unfold Oper.wp;rw [p]; trivial
 | @act _ _ _ _ _ o μ₁ μ₂ post ho k x F hr h =>
  refine ⟨o,ho,?_⟩;rw [x.wanted e];simp only [if_true];have m:=ht.perm F;have g:∀ b∈keys μ₁,G b=none:=fun b hb=>m.sat.apart b (by simp_all[jM]);rcases hr a w e m.sat with ⟨v,D,y,r,p,k,t⟩ | ⟨f,C,p,I⟩
  ·have:=A _ _ _ _ _ (h v y r (k.mono g) t) (e.laid (q i o ho) true v) (m.step k);unfold Oper.wp;rcases p with p | ⟨p,rfl⟩
   ·rw [p]; trivial
   rw [p]; trivial
  refine aD9 I m.sat.left p ?_;intro v y r D k t;exact A _ _ _ _ _ (h v y r (k.mono g) t) (e.laid (q i o ho) true v) (m.step k)
theorem Wo.run {r:Bool} {mc:Md} {P:Program} {n:Fm} {l:List Oper} {K:aF->PM->aB->Prop} {Q:Exit->Act->World->Prop} {m:PM} {K0:List Nat} {w0:World}
  (c:∀ j o,nth l j=some o->iV n o.dst) (q:r=false->∀ ch ρ G μ a w,n.die ch ρ G μ->Ag n ρ a->Tr m K0 w0 G μ w->Q (.panic ch) a w) (p:∀ ρ G μ,K ρ G μ->∀ a w,Ag n ρ a->Tr m K0 w0 G μ w->Q .normal a w) :
  ∀ (σ:List Nat) (ρ:aF) (G:PM) (μ:aB) (a:Act) (w:World),Wo r mc P n l K σ ρ G μ->Ag n ρ a->Tr m K0 w0 G μ w->wpOps P l.toArray Q σ a w
 | [],ρ,G,μ,a,w,H,ha,ht=>by cases H with | nil h=>exact p _ _ _ h a w ha ht
 | i :: σ,ρ,G,μ,a,w,H,ha,ht=>by
  obtain ⟨o,ho,h⟩:=H.head ha ht (next:=wpOps P l.toArray Q σ) (Q:=Q) c q (fun e y f v t x k g=>Wo.run c q p σ e y f v t x k g);simp only [wpOps,jY,ho];grind
section
variable {P:Program} {n:Fm} {l:List Oper} {K:aF→PM→aB→Prop} {dr:Bool} {mc:Md}
def lQ (K:aF->PM->aB->Prop):Prop :=
 (∀ ρ ρ' G μ,(∀ i,cT ρ i=cT ρ' i)->K ρ G μ->K ρ' G μ)∧(∀ ρ G μ μ',μ.Perm μ'->K ρ G μ->K ρ G μ')
def Gd.congr {ρ a:aF} {g:Option (Nat×Bool)} {c:Bool} (h:Gd l ρ g c) (e:∀ j t w,g=some (j,w)->(nth l j).bind (·.dst)=some t->cT ρ t=cT a t):Gd l a g c:=by
 cases h<;>simp_all[no,t,f,tc,fc]
def Ag.congr {ρ c:aF} {a:Act} (h:Ag n c a) (e:∀ i,cT ρ i=cT c i):Ag n ρ a:=h.sub fun i _ f=>(e i)▸f
def qK {ρ a:aF} (e:∀ i,cT ρ i=cT a i) (d:Option Nat) (c:Bool) (v:Value):∀ i,cT (bV ρ d c v) i=cT (bV a d c v) i:=by
 intro i;cases d<;>simp_all[bV,cT]
def Wo.congr (E:lQ K) {C:List Nat} {ρ:aF} {G:PM} {μ:aB} (H:Wo dr mc P n l K C ρ G μ):∀ {j:aF},(∀ i,cT ρ i=cT j i)->Wo dr mc P n l K C j G μ:=by
 induction H with
 | nil h=>exact fun e=>.nil (E.1 _ _ _ _ e h)
 | pure ho hk hg hr _ ih=>exact fun e=>.pure ho hk (hg.congr fun _ t _ _ _=>e t) (fun q a w g=>hr q a w (g.congr e)) (ih (qK e _ _ _))
 | read ho hk hg hr _ ih=>exact fun e=>.read ho hk (hg.congr fun _ t _ _ _=>e t) (fun q a w g=>hr q a w (g.congr e)) (ih (qK e _ _ _))
 | make ho hk hg hr _ ih=>exact fun e=>.make ho hk hg hr (fun b=>ih b (qK e _ _ _))
 | box ho hk hg hr _ ih=>exact fun e=>.box ho hk (hg.congr fun _ t _ _ _=>e t) (fun a w g=>hr a w (g.congr e)) (fun b=>ih b (qK e _ _ _))
 | callv ho hk hg hr hf _ ih=>exact fun e=>.callv ho hk (hg.congr fun _ t _ _ _=>e t) (fun q a w g=>hr q a w (g.congr e)) hf (ih (qK e _ _ _))
 | call ho hk hg hr hf _ ih=>exact fun e=>.call ho hk (hg.congr fun _ t _ _ _=>e t) (fun a w g=>hr a w (g.congr e)) hf (fun v m c f k=>ih v m c f k (qK e _ _ _))
 | callg hd ho hg hr hf _ ih=>exact fun e=>.callg hd ho (hg.congr fun _ t _ _ _=>e t) (fun a w g=>hr a w (g.congr e)) hf (fun v m c f k=>ih v m c f k (qK e _ _ _))
 | callp hd ho hg k hr hf hx _ ih=>exact fun e=>.callp hd ho (hg.congr fun _ t _ _ _=>e t) k (fun a w g=>hr a w (g.congr e)) hf (fun F m D j c f p A y=>hx F m D j c f p (fun i=>(A i).trans (e i).symm) y) (fun v m c f k=>ih v m c f k (qK e _ _ _))
 | pan hd ho hg hr hx=>exact fun e=>.pan hd ho (hg.congr fun _ t _ _ _=>e t) (fun a w g=>hr a w (g.congr e)) (fun j c A y=>hx j c (fun i=>(A i).trans (e i).symm) y)
 | fresh ho hk hg k hr hw _ ih=>exact fun e=>.fresh ho hk hg k (fun a w g=>hr a w (g.congr e)) hw (fun v m x r f p=>ih v m x r f p (qK e _ _ _))
 | act ho hk hg k hr _ ih=>exact fun e=>.act ho hk (hg.congr fun _ t _ _ _=>e t) k (fun a w g=>hr a w (g.congr e)) (fun v m c f p=>ih v m c f p (qK e _ _ _))
theorem Wo.perm (x:lQ K) {m:List Nat} {ρ:aF} {G:PM} {μ:aB} (H:Wo dr mc P n l K m ρ G μ):∀ {c:aB},μ.Perm c->Wo dr mc P n l K m ρ G c:=by
 induction H with
 | nil h=>exact fun p=>.nil (x.2 _ _ _ _ p h)
 | pure ho hk hg hr _ ih=>grind[pure]
 | read ho hk hg hr _ ih=>exact fun p=>.read ho hk hg (fun j a w t i=>hr j a w t (i.perm p.symm)) (ih p)
 | make ho hk hg hr _ ih=>exact fun p=>.make ho hk hg hr (fun b=>ih b (p.cons _))
 | box ho hk hg hr _ ih=>exact fun p=>.box ho hk hg hr (fun b=>ih b (p.cons _))
 | callv ho hk hg hr hf _ ih=>exact fun p=>.callv ho hk hg hr (fun j w i=>hf j w (i.perm p.symm)) (ih p)
 | call ho hk hg hr hf _ ih=>exact fun p=>.call ho hk hg hr hf (fun v k c f e=>ih v k c f e (p.append_left _))
 | callg hd ho hg hr hf _ ih=>exact fun p=>.callg hd ho hg hr hf (fun v k c f e=>ih v k c f e (p.append_left _))
 | callp hd ho hg e hr hf hx h _=>exact fun p=>.callp hd ho hg (p.symm.trans e) hr hf hx h
 | pan hd ho hg hr hx=>exact fun p=>.pan hd ho hg hr (fun g c r q=>hx g c r (q.trans p.symm))
 | fresh ho hk hg e hr hw h _=>exact fun p=>.fresh ho hk hg (p.symm.trans e) hr hw h
 | act ho hk hg e hr h _=>exact fun p=>.act ho hk hg (p.symm.trans e) hr h
theorem aOW {ρ:aF} {a:Act} {d:Option Nat} {c:Bool} {v:Value} (hd:iV n d) (h:Ag n (bV ρ d c v) a) :
  ∃ a0,Ag n ρ a0∧∀ o:Oper,(∀ cs b,o.op≠.select cs b)->(∀ e,d=some e->e∉o.looksAt l.toArray)->execOp a0.eval o=execOp a.eval o:=by
 cases d with
 | none=>exact ⟨a,h,fun _ _ _=>rfl⟩
 | some d =>
  cases p:cT ρ d with
  | none =>
   refine ⟨a,h.sub fun i cv f=>?_,fun _ _ _=>rfl⟩;simp only [bV,xT];grind
  | some cv =>
   obtain ⟨q,g⟩:=cv;refine ⟨a.put (some d) (cond q g undef),⟨by simp [Act.put,h.size],by simp [Act.put,h.defers],fun i r j f=>?_⟩,fun o k m=>execOp_put o k a (some d) _ m⟩;simp only [Act.put];by_cases e:d=i
   ·subst e;rw [p] at f;simp only [Option.some.injEq,Prod.mk.injEq] at f;obtain ⟨rfl,rfl⟩:=f;simp [h.size,show d<n.n from hd]
   rw [jo e];refine h.get i r j ?_;simp_all[bV,xT]
theorem vT {ρ:aF} {d:Option Nat} {c:Bool} {v:Value} (hd:iV n d) {o:Oper} (g:∀ cs b,o.op≠.select cs b) (i:∀ e,d=some e->e∉o.looksAt l.toArray)
  {Φ:Sem Next->Prop} (h:∀ a,Ag n ρ a->Φ (execOp a.eval o)):∀ a,Ag n (bV ρ d c v) a->Φ (execOp a.eval o):=by
 intro a f;obtain ⟨m,k,j⟩:=aOW (l:=l) hd f;grind
def nH {ρ:aF} {d:Option Nat} {c:Bool} {v:Value} (hd:iV n d) {o:Oper} (f:∀ cs b,o.op≠.select cs b) (g:∀ e,d=some e->e∉o.looksAt l.toArray)
  {Φ:Sem Next->Prop} (h:∀ a,Ag n (bV ρ d c v) a->Φ (execOp a.eval o)):∀ a,Ag n ρ a->Φ (execOp a.eval o):=by
 intro a i;have:=h _ (i.laid hd c v);rwa [execOp_put o f a d _ g] at this
def aKb {ρ:aF} {d:Option Nat} {c:Bool} {v:Value} {t:Nat} (h:d≠some t):cT (bV ρ d c v) t=cT ρ t:=by
 cases d<;>simp_all[bV,xT]
theorem aJv {o:Oper} {j t:Nat} {w:Bool} (a:o.guard=some (j,w)) (ht:(nth l j).bind (·.dst)=some t):t∈o.looksAt l.toArray:=by
 grind[Oper.looksAt,jY]
def xL {ρ:aF} {d:Option Nat} {c a:Bool} {v:Value} {o:Oper} (g:∀ e,d=some e->e∉o.looksAt l.toArray) (h:Gd l ρ o.guard a):Gd l (bV ρ d c v) o.guard a :=
 h.congr fun _ t _ i f=>(aKb fun e=>g t e (aJv i f)).symm
def pI {ρ:aF} {d:Option Nat} {c a:Bool} {v:Value} {o:Oper} (g:∀ e,d=some e->e∉o.looksAt l.toArray) (h:Gd l (bV ρ d c v) o.guard a):Gd l ρ o.guard a :=
 h.congr fun _ t _ i f=>aKb fun e=>g t e (aJv i f)
theorem mP {ρ:aF} {d e:Option Nat} {c f:Bool} {v a:Value} (h:∀ x,d=some x->e≠some x) :
  ∀ i,cT (bV (bV ρ d c v) e f a) i=cT (bV (bV ρ e f a) d c v) i:=by
 intro i;cases d with
 | none=>rfl
 | some d =>
  cases e with
  | none=>rfl
  | some e =>
   have g:e≠d:=fun j=>h d rfl (by rw [j]);simp only [bV,xT];grind
structure Apart (l:List Oper) (oi oj:Oper):Prop where
 si:∀ cs b,oi.op≠.select cs b
 sj:∀ cs b,oj.op≠.select cs b
 ij:∀ d,oi.dst=some d→d∉oj.looksAt l.toArray
 dd:∀ d,oi.dst=some d→oj.dst≠some d
 ji:∀ d,oj.dst=some d→d∉oi.looksAt l.toArray
theorem yX {c a:Oper} {i j:Nat} (e:Region.noSelect l.toArray=true) (n:nth l i=some c) (m:nth l j=some a) (h:c.apart l.toArray a=true):Apart l c a:=by
 obtain ⟨k,g,f⟩:=Oper.apart_spec h;exact ⟨fun cs b=>Region.noSelect_spec e i c cs b (by grind[jY]),fun cs b=>Region.noSelect_spec e j a cs b (by grind[jY]),k,g,f⟩
theorem aNB {i j:Nat} {Q:List Nat} {ρ:aF} {G:PM} {μ:aB} {I y:Oper} {c:Bool} {v:Value} (F:lQ K) (x:∀ j o,nth l j=some o->iV n o.dst) (g:nth l j=some y) (e:Apart l I y)
  (hd:iV n I.dst)
  (m:∀ {ρ':aF} {r:PM} {q:aB} {d:Option Nat} {c':Bool} {E:Value},d=y.dst->iV n d->PM.le G r->(q=μ∨bB mc y.op≠.act∧(∀ w,Sat r q w->Sat r μ w)∨bB mc I.op=.pure) ->
   ρ'=bV ρ d c' E->Wo dr mc P n l K Q (bV ρ' I.dst c v) r q->Wo dr mc P n l K (i :: Q) ρ' r q)
  (X:dr=true) (M:bB mc y.op≠.act∨bB mc I.op=.pure)
  (H:Wo dr mc P n l K (j :: Q) (bV ρ I.dst c v) G μ):Wo dr mc P n l K (j :: i :: Q) ρ G μ:=by
 have T:∀ {k:Kind},bB mc y.op=k∨dr=false->bB mc y.op=k:=fun h=>h.resolve_right (by grind);cases H with
 | @pure _ _ _ _ _ o cj vj ho hk hg hr h =>
  obtain rfl:y=o:=Option.some.inj (g.symm.trans ho);refine .pure g hk (pI e.ij hg) (fun O a w p=>nH hd e.sj e.ij (Φ:=fun s=>s.run P w=.ok (.value vj) w) (fun a p=>hr O a w p) a p) ?_;exact m rfl (x j _ g) (PM.le.refl _) (.inl rfl) rfl (h.congr F (mP e.dd))
 | @read _ _ _ _ _ o cj vj ho hk hg hr h =>
  obtain rfl:y=o:=Option.some.inj (g.symm.trans ho);refine .read g hk (pI e.ij hg) (fun O a w p A=>nH hd e.sj e.ij (Φ:=fun s=>s.run P w=.ok (.value vj) w) (fun a p=>hr O a w p A) a p) ?_;exact m rfl (x j _ g) (PM.le.refl _) (.inl rfl) rfl (h.congr F (mP e.dd))
 | @make _ _ _ _ _ o ob mkv ho hk hg hr h =>
  obtain rfl:y=o:=Option.some.inj (g.symm.trans ho);refine .make g hk hg hr fun b=>?_;exact m rfl (x j _ g) (PM.le.refl _) (.inr (.inl ⟨by simp_all,fun w A=>Sat.left (ν:=[.blk b ob]) (A.perm (x5 (l₁:=[Res.blk b ob])))⟩)) rfl ((h b).congr F (mP e.dd))
 | @box _ _ _ _ _ o ob mkv ho hk hg hr h =>
  obtain rfl:y=o:=Option.some.inj (g.symm.trans ho);refine .box g hk (pI e.ij hg) (fun a w p=>nH hd e.sj e.ij (Φ:=fun s=>s.run P w=.ok (.value (mkv w.heap.size)) (w.alloc ob)) (fun a p=>hr a w p) a p) fun b=>?_;exact m rfl (x j _ g) (PM.le.refl _) (.inr (.inl ⟨by simp_all,fun w A=>Sat.left (ν:=[.blk b ob]) (A.perm (x5 (l₁:=[Res.blk b ob])))⟩)) rfl ((h b).congr F (mP e.dd))
 | @callv _ _ _ _ _ o cj f args vj Gp ho hk hg hr hf h =>
  obtain rfl:y=o:=Option.some.inj (g.symm.trans ho);refine .callv g hk (pI e.ij hg) (fun O a w p=>nH hd e.sj e.ij (Φ:=fun s=>s.run P w=.ok (.enter f args) w) (fun a p=>hr O a w p) a p) hf ?_;exact m rfl (x j _ g) (PM.le.refl _) (.inl rfl) rfl (h.congr F (mP e.dd))
 | @call _ _ _ _ _ o f args post ho hk hg hr hf h =>
  obtain rfl:y=o:=Option.some.inj (g.symm.trans ho);refine .call g hk (pI e.ij hg) (fun a w p=>nH hd e.sj e.ij (Φ:=fun s=>s.run P w=.ok (.enter f args) w) (fun a p=>hr a w p) a p) hf fun E r q t L=>?_;refine m rfl (x j _ g) t ?_ rfl ((h E r q t L).congr F (mP e.dd));rcases M with N | N
  ·exact .inr (.inl ⟨N,fun w A=>Sat.left (A.perm x5)⟩)
  simp_all
 | callg hdf _ _ _ _ _=>simp_all
 | callp hdf _ _ _ _ _ _ _=>simp_all
 | pan hdf _ _ _ _=>simp_all
 | @fresh _ _ _ _ _ o μ₁ μ₂ post ho hk hg L hr hw h =>
  obtain rfl:y=o:=Option.some.inj (g.symm.trans ho);refine .fresh g hk hg L (fun a w p A=>nH hd e.sj e.ij (Φ:=fun s=>∃ v w' r D C,s.run P w=.ok (.value v) w'∧Tr G (keys μ₁) w r (D++C) w'∧post r D C v) (fun a p=>hr a w p A) a p) hw fun E r D C t S=>?_;refine m rfl (x j _ g) t ?_ rfl ((h E r D C t S).congr F (mP e.dd));exact .inr (.inl ⟨by simp_all,fun w A=>((hw E r D C S).of (A.perm (aLk _ _ _).symm)).perm L.symm⟩)
 | @act _ _ _ _ _ o μ₁ μ₂ post ho hk hg L hr h =>
  obtain rfl:y=o:=Option.some.inj (g.symm.trans ho);have J:bB mc I.op=.pure:=M.resolve_left (by simp_all);refine .act g hk (pI e.ij hg) L (fun a w p A=>nH hd e.sj e.ij (Φ:=fun s=>(∃ v w' r q,(s.run P w=.ok (.value v) w'∨s.run P w=.ok .skip w'∧v=undef)∧Tr G (keys μ₁) w r q w'∧post r q v) ∨
    (∃ f args,s.run P w=.ok (.enter f args) w∧Ct P f args G μ₁ post)) (fun a p=>hr a w p A) a p) fun E r q t S=>?_
  exact m rfl (x j _ g) t (.inr (.inr J)) rfl ((h E r q t S).congr F (mP e.dd))
theorem Sat.mono {G e:PM} {μ:aB} {w:World} (h:Sat e μ w) (a:PM.le G e):Sat G μ w:=by
 refine ⟨fun b o c=>h.sub b o (a b o c),h.own,fun b c=>?_,h.nodup⟩;cases f:G b with
 | none=>rfl
 | some o=>have:=a b o f; rw [h.apart b c] at this; grind
theorem aP5 {w:World} {x y:Obj} (h:w.alloc x=w.alloc y):x=y:=by
 grind[heap_alloc_new]
def aAZ (m:Nat):World:={ (default:World) with heap:=zc m default }
def aY1 (m:Nat):(aAZ m).heap.size=m:=by simp [aAZ]
def vB (P:Program) (o:Oper):Prop:=True∧o.guard=none∧∃ (ob:Obj) (mkv:Nat->Value),∀ e w,(execOp e o).run P w=.ok (.value (mkv w.heap.size)) (w.alloc ob)
theorem zW {j:Nat} {g:List Nat} {a:Oper} {ρ:aF} {G:PM} {μ:aB} (p:dr=true) (c:nth l j=some a) (hm:bB mc a.op=.make)
  {ob:Obj} {mkv:Nat->Value} (i:∀ e w,(execOp e a).run P w=.ok (.value (mkv w.heap.size)) (w.alloc ob)) (H:Wo dr mc P n l K (j :: g) ρ G μ) :
  ∀ b,Wo dr mc P n l K g (bV ρ a.dst true (mkv b)) G (.blk b ob :: μ):=by
 have m:∀ {q k:Kind},q=k∨dr=false->q=k:=fun h=>h.resolve_right (by grind);cases H with
 | @make _ _ _ _ _ o ob2 mkv2 ho hk hg hr2 h =>
  obtain rfl:a=o:=Option.some.inj (c.symm.trans ho);intro b;have t:ob2=ob:=by
   have:=(hr2 (fun _=>undef) (aAZ 0)).symm.trans (i (fun _=>undef) (aAZ 0));grind[aP5]
  have r:mkv2 b=mkv b:=by
   have:=(hr2 (fun _=>undef) (aAZ b)).symm.trans (i (fun _=>undef) (aAZ b));simp_all[aY1]
  grind
 | @pure _ _ _ _ _ o cj vj ho hk _ _ _=>simp_all
 | @read _ _ _ _ _ o cj vj ho hk _ _ _=>simp_all
 | @box _ _ _ _ _ o _ _ ho hk _ _ _=>simp_all
 | @callv _ _ _ _ _ o cj f args vj Gp ho hk _ _ _ _=>simp_all
 | @call _ _ _ _ _ o f args post ho hk _ _ _ _=>simp_all
 | callg hdf _ _ _ _ _=>simp_all
 | callp hdf _ _ _ _ _ _ _=>simp_all
 | pan hdf _ _ _ _=>simp_all
 | @fresh _ _ _ _ _ o μ₁ μ₂ post ho hk _ _ _ _ _=>simp_all
 | @act _ _ _ _ _ o μ₁ μ₂ post ho hk _ _ _ _=>simp_all
theorem Wo.swap {i j:Nat} {σ:List Nat} {ρ:aF} {G:PM} {μ:aB} {M L:Oper} (Q:lQ K) (F:dr=true) (p:nth l i=some M) (r:nth l j=some L) (e:Apart l M L)
  (Z:∀ j o,nth l j=some o->iV n o.dst) (O:bB mc L.op=.make->vB P L)
  (hk:bB mc M.op=.pure∨(bB mc M.op=.read∧bB mc L.op≠.act)∨bB mc L.op=.make)
  (H:Wo dr mc P n l K (i :: j :: σ) ρ G μ):Wo dr mc P n l K (j :: i :: σ) ρ G μ:=by
 have N:∀ {q k:Kind},q=k∨dr=false->q=k:=fun h=>h.resolve_right (by grind);have hd:=Z i M p;have I:=Z j L r;cases H with
 | @pure _ _ _ _ _ o c v ho hk' hg hr h =>
  obtain rfl:M=o:=Option.some.inj (p.symm.trans ho);refine aNB Q Z r e hd ?_ F (.inr (N hk')) h;intro a6 S D d c' v' a3 a2 A J a1 H';subst a3; subst a1;exact .pure p hk' (xL e.ji hg) (fun hc a w x=>vT a2 e.si e.ji (Φ:=fun s=>s.run P w=.ok (.value v) w) (fun a x=>hr hc a w x) a x) H'
 | @read _ _ _ _ _ o c v ho hk' hg hr h =>
  obtain rfl:M=o:=Option.some.inj (p.symm.trans ho);have b9:=N hk';have a9:bB mc L.op≠.act:=by
   grind
  refine aNB Q Z r e hd ?_ F (.inl a9) h;intro a6 S D d c' v' a3 a2 A J a1 H';subst a3; subst a1;refine .read p hk' (xL e.ji hg) (fun hc a w x hs=>vT a2 e.si e.ji (Φ:=fun s=>s.run P w=.ok (.value v) w) (fun a x=>hr hc a w x ?_) a x) H';rcases J with J | ⟨_,J⟩ | J
  ·subst J; exact hs.mono A
  ·exact (J w hs).mono A
  simp_all
 | @make _ _ _ _ _ o ob mkv ho hk' hg hr h =>
  obtain rfl:M=o:=Option.some.inj (p.symm.trans ho);have a8:=N hk';have g:bB mc L.op=.make:=by simp_all
  obtain ⟨_,y,t,E,m⟩:=O g;refine .make r (.inl g) y m fun C=>?_;refine .make p hk' hg hr fun b=>?_;exact (((zW F r g m (h b)) C).congr Q (mP e.dd)).perm Q (.swap ..)
 | @box _ _ _ _ _ o ob mkv ho hk' hg hr h =>
  obtain rfl:M=o:=Option.some.inj (p.symm.trans ho);have a8:=N hk';have g:bB mc L.op=.make:=by simp_all
  obtain ⟨_,y,t,E,m⟩:=O g;refine .make r (.inl g) y m fun C=>?_;refine .box p hk' (xL e.ji hg) (fun a w x=>vT I e.si e.ji (Φ:=fun s=>s.run P w=.ok (.value (mkv w.heap.size)) (w.alloc ob)) (fun a x=>hr a w x) a x) fun b=>?_;exact (((zW F r g m (h b)) C).congr Q (mP e.dd)).perm Q (.swap ..)
 | @callv _ _ _ _ _ o c f args v Gp ho hk' hg hr hf h =>
  obtain rfl:M=o:=Option.some.inj (p.symm.trans ho);have g:bB mc L.op=.make:=by grind
  obtain ⟨_,y,t,E,m⟩:=O g;refine .make r (.inl g) y m fun C=>?_;exact .callv p hk' (xL e.ji hg) (fun hc a w x=>vT I e.si e.ji (Φ:=fun s=>s.run P w=.ok (.enter f args) w) (fun a x=>hr hc a w x) a x) (fun hc w hs=>hf hc w (Sat.left (ν:=[.blk C t]) (hs.perm (x5 (l₁:=[Res.blk C t])))))
   (((zW F r g m h) C).congr Q (mP e.dd))
 | @call _ _ _ _ _ o f args post ho hk' hg hr hf h =>
  obtain rfl:M=o:=Option.some.inj (p.symm.trans ho);have g:bB mc L.op=.make:=by grind
  obtain ⟨_,y,t,E,m⟩:=O g;refine .make r (.inl g) y m fun C=>?_;refine .call p hk' (xL e.ji hg) (fun a w x=>vT I e.si e.ji (Φ:=fun s=>s.run P w=.ok (.enter f args) w) (fun a x=>hr a w x) a x) hf fun v S D A hp=>?_;exact (((zW F r g m (h v S D A hp)) C).congr Q (mP e.dd)).perm Q ye.symm
 | callg hdf _ _ _ _ _=>simp_all
 | callp hdf _ _ _ _ _ _ _=>simp_all
 | pan hdf _ _ _ _=>simp_all
 | @fresh _ _ _ _ _ o μ₁ μ₂ post ho hk' hg hp hr hw h =>
  obtain rfl:M=o:=Option.some.inj (p.symm.trans ho);have b5:=N hk';have g:bB mc L.op=.make:=by simp_all
  obtain ⟨_,y,t,E,m⟩:=O g;refine .make r (.inl g) y m fun C=>?_;refine .fresh (post:=post) (μ₁:=μ₁) (μ₂:=.blk C t :: μ₂) p hk' hg ((hp.cons _).trans ye.symm) (fun a w x hs=>?_) hw fun v S X T A hq=>?_
  ·refine vT I e.si e.ji (Φ:=fun s=>∃ v w' S X T,s.run P w=.ok (.value v) w'∧Tr G (keys μ₁) w S (X++T) w'∧post S X T v) (fun a x=>hr a w x ?_) a x;exact Sat.left (ν:=[.blk C t]) (hs.perm (ye.trans (x5 (l₁:=[Res.blk C t]))))
  exact (((zW F r g m (h v S X T A hq)) C).congr Q (mP e.dd)).perm Q ye.symm
 | @act _ _ _ _ _ o μ₁ μ₂ post ho hk' hg hp hr h =>
  obtain rfl:M=o:=Option.some.inj (p.symm.trans ho);have b5:=N hk';have g:bB mc L.op=.make:=by simp_all
  obtain ⟨_,y,t,E,m⟩:=O g;refine .make r (.inl g) y m fun C=>?_;refine .act (post:=post) (μ₁:=μ₁) (μ₂:=.blk C t :: μ₂) p hk' (xL e.ji hg) ((hp.cons _).trans ye.symm) (fun a w x hs=>?_) fun v S D A hq=>?_
  ·refine vT I e.si e.ji (Φ:=fun s=>(∃ v w' S D,(s.run P w=.ok (.value v) w'∨s.run P w=.ok .skip w'∧v=undef)∧Tr G (keys μ₁) w S D w'∧post S D v) ∨
    (∃ f args,s.run P w=.ok (.enter f args) w∧Ct P f args G μ₁ post)) (fun a x=>hr a w x ?_) a x
   exact Sat.left (ν:=[.blk C t]) (hs.perm (ye.trans (x5 (l₁:=[Res.blk C t]))))
  exact (((zW F r g m (h v S D A hq)) C).congr Q (mP e.dd)).perm Q ye.symm
theorem Wo.map {i:Nat} {k c:List Nat} {ρ:aF} {G:PM} {μ:aB} (hm:∀ ρ G μ,Wo dr mc P n l K k ρ G μ->Wo dr mc P n l K c ρ G μ) (H:Wo dr mc P n l K (i :: k) ρ G μ) :
  Wo dr mc P n l K (i :: c) ρ G μ:=by
 cases H with
 | pure ho hk hg hr h=>grind[pure]
 | read ho hk hg hr h=>grind[read]
 | make ho hk hg hr h=>exact .make ho hk hg hr fun b=>hm _ _ _ (h b)
 | box ho hk hg hr h=>exact .box ho hk hg hr fun b=>hm _ _ _ (h b)
 | callv ho hk hg hr hf h=>exact .callv ho hk hg hr hf (hm _ _ _ h)
 | call ho hk hg hr hf h=>grind[call]
 | callg hd ho hg hr hf h=>grind[callg]
 | callp hd ho hg hp hr hf hx h=>grind[callp]
 | pan hd ho hg hr hx=>simp_all[pan]
 | fresh ho hk hg hp hr hw h=>exact .fresh ho hk hg hp hr hw fun v j f e a b=>hm _ _ _ (h v j f e a b)
 | act ho hk hg hp hr h=>exact .act ho hk hg hp hr fun v j g a b=>hm _ _ _ (h v j g a b)
theorem aCb {es:Array Edge} {p:Edge->Bool}:es.any p=true↔∃ e,e∈es∧p e=true:=by
 rw [← Array.any_toList,List.any_eq_true]; simp
def tS (oj:Oper) (i:Nat):Bool:=oj.after.any fun e=>Region.binds .any e&&e.on == i
def cJ (l:List Oper) (listed:Array Bool):List Nat:=Region.ready .any l.toArray listed
def rZ (l:List Oper):Nat->Nat->Nat->Bool
 | 0,_,_=>false
 | f+1,j,i=>match nth l j with | some oj=>oj.after.any fun e=>Region.binds .any e&&(e.on == i||rZ l f e.on i) | none=>false
def aGM (mc:Md) (l:List Oper) (i:Nat) (oi:Oper) (σ:List Nat) (listed:Array Bool):Bool :=
 match bB mc oi.op with
 | .pure=>σ.all fun j=>match nth l j with | some oj=>rZ l l.length j i||oi.apart l.toArray oj | none=>false
 | .read=>σ.all fun j=>match nth l j with | some oj=>rZ l l.length j i||(oi.apart l.toArray oj&&(bB mc oj.op != .act)) | none=>false
 | _=>(cJ l listed).all fun j=>j == i||match nth l j with
   | some oj=>(bB mc oj.op == .make)&&oi.apart l.toArray oj&&(qg l.length).all fun k=>match nth l k with | some ok => !tS ok j||tS ok i | none=>true
   | none=>false
def pM (mc:Md) (l:List Oper):List Nat->Array Bool->Bool
 | [],listed=>(cJ l listed).isEmpty
 | i :: σ,listed=>(cJ l listed).contains i&&(match nth l i with | some oi=>aGM mc l i oi σ listed | none=>false)&&pM mc l σ (listed.setIfInBounds i true)
theorem jZ {j:Nat} {a:Array Bool}:j∈cJ l a↔a.getD j true=false∧∃ o,nth l j=some o∧∀ e∈o.after,Region.binds .any e=true->a.getD e.on false=true:=by
 grind[cJ,mem_ready,jY]
def wM {i j:Nat} {a:Array Bool} (e:j∈cJ l a) (c:j≠i):j∈cJ l (a.setIfInBounds i true):=ready_mono e c
def aLY:∀ {σ:List Nat} {listed:Array Bool} {j:Nat},pM mc l σ listed=true->j∈cJ l listed->j∈σ
 | [],listed,j,h,hj=>by simp_all[pM]
 | i :: σ,listed,j,h,hj=>by
  simp only [pM,Bool.and_eq_true] at h;by_cases e:j=i
  ·subst e; exact List.mem_cons_self ..
  ·exact List.mem_cons_of_mem _ (aLY h.2 (wM hj e))
theorem aXs {i j k:Nat} {a:Array Bool} {v:Oper} (D:a.getD i true=false) (n:j≠i)
  (h:((List.range l.length).all fun k=>match nth l k with | some ok => !tS ok j||tS ok i | none=>true)=true)
  (w:k∈cJ l (a.setIfInBounds j true)) (_:nth l j=some v):k∈cJ l a:=by
 obtain ⟨g,o,m,c⟩:=jZ.1 w;have q:j≠k:=fun e=>by
  simp_all
 rw [getD_set_ne true q] at g;refine jZ.2 ⟨g,o,m,fun e x y=>?_⟩;have E:=c e x y;by_cases F:j=e.on
 ·exfalso;have p:k<l.length:=by
   have:=(jY _ _).trans m;grind
  have:=wg.1 h k (xh.2 p);simp only [m,x4,wv] at this;rcases this with t | t
  ·grind[tS,aCb]
  obtain ⟨C,r,f⟩:=aCb.1 t;simp only [qi,beq_iff_eq] at f;have A:=c C r f.1;rw [f.2,getD_set_ne false n] at A;grind
 simp_all
def Closed (l:List Oper) (listed:Array Bool):Prop:=∀ k,listed.getD k false=true->∀ ok,nth l k=some ok->∀ e∈ok.after,Region.binds .any e=true->listed.getD e.on false=true
theorem unl {a:Array Bool} {i:Nat} (c:a.getD i true=false):a.getD i false=false:=by
 grind
theorem aI2 {a:Array Bool} {i:Nat} (m:Closed l a) (j:a.getD i true=false):∀ (f k:Nat),a.getD k false=true->rZ l f k i=false
 | 0,_,_=>rfl
 | f+1,k,hk=>by
  unfold rZ;cases ho:nth l k with
  | none=>rfl
  | some ok =>
   simp only;rw [Bool.eq_false_iff];intro h;obtain ⟨e,he,hb⟩:=aCb.1 h;simp only [qi,x4,beq_iff_eq] at hb;have g:=m k hk ok ho e he hb.1;rcases hb.2 with c | c
   ·rw [c,unl j] at g; cases g
   ·rw [aI2 m j f e.on g] at c; cases c
theorem aBn {a:Array Bool} {i j:Nat} (n:Closed l a) (k:a.getD i true=false) (c:j∈cJ l a):∀ f,rZ l f j i=false
 | 0=>rfl
 | f+1=>by
  obtain ⟨_,o,ho,hall⟩:=jZ.1 c;unfold rZ;rw [ho];simp only;rw [Bool.eq_false_iff];intro h;obtain ⟨e,m,g⟩:=aCb.1 h;simp only [qi,x4,beq_iff_eq] at g;grind[aI2]
def aMi {a:Array Bool} {j x:Nat} (h:a.getD x false=true):(a.setIfInBounds j true).getD x false=true:=by
 by_cases e:j=x
 ·subst e;rcases xk j a.size with c | c
  ·simp [c]
  simp_all
 simp_all
def Closed.set {a:Array Bool} {j:Nat} (q:Closed l a) (p:j∈cJ l a):Closed l (a.setIfInBounds j true):=by
 intro k g ok c e h i;by_cases m:j=k
 ·subst m;obtain ⟨_,o,n,f⟩:=jZ.1 p;obtain rfl:ok=o:=Option.some.inj (c.symm.trans n);exact aMi (f e h i)
 ·rw [getD_set_ne false m] at g;exact aMi (q k g ok c e h i)
def Closed.none (m:Nat):Closed l (Array.replicate m false):=by
 intro k c;rcases xk k m with a | a
 ·simp_all
 simp_all
theorem front (O:lQ K) (E:dr=true) (M:Region.noSelect l.toArray=true) (w:∀ j a,nth l j=some a->bB mc a.op=.make->vB P a) (D:∀ j a,nth l j=some a->iV n a.dst) {j:Nat} {post:List Nat} :
  ∀ (pre:List Nat) (listed:Array Bool),Closed l listed->j∉pre->pM mc l (pre++j :: post) listed=true->j∈cJ l listed ->
   pM mc l (pre++post) (listed.setIfInBounds j true)=true∧∀ I G J,Wo dr mc P n l K (pre++j :: post) I G J->Wo dr mc P n l K (j :: (pre++post)) I G J
 | [],listed,_,_,hok,_=>by
  simp_all[pM]
 | i :: pre,listed,hcl,hnp,hok,hj=>by
  have hne:j≠i:=fun e=>hnp (by simp_all);simp only [ww,pM,qi] at hok ⊢;obtain ⟨⟨S,f⟩,v⟩:=hok;have p:i∈cJ l listed:=by simp_all
  have N:=wM hj hne;obtain ⟨Q,L⟩:=front O E M w D pre (listed.setIfInBounds i true) (hcl.set p) (fun h=>hnp (qj _ h)) v N;obtain ⟨_,a,c,_⟩:=jZ.1 hj;obtain ⟨C,m,g,_⟩:=jZ.1 p;simp only [g] at f ⊢;have q:=aBn hcl C hj l.length;have A:j∈pre++j :: post:=x8 _ (qh ..);have sub:∀ x,x∈pre++post->x∈pre++j :: post:=fun x F=>by
   grind
  have t:(Apart l m a∧(bB mc m.op=.pure∨(bB mc m.op=.read∧bB mc a.op≠.act)∨bB mc a.op=.make)) ∧
    aGM mc l i m (pre++post) (listed.setIfInBounds j true)=true:=by
   have last:((cJ l listed).all fun j=>j == i||match nth l j with
     | some a=>(bB mc a.op == .make)&&m.apart l.toArray a&&(qg l.length).all fun k=>match nth l k with | some ok => !tS ok j||tS ok i | none=>true
     | none=>false)=true ->
     (Apart l m a∧bB mc a.op=.make)∧((cJ l (listed.setIfInBounds j true)).all fun j=>j == i||match nth l j with
     | some a=>(bB mc a.op == .make)&&m.apart l.toArray a&&(qg l.length).all fun k=>match nth l k with | some ok => !tS ok j||tS ok i | none=>true
     | none=>false)=true:=by
    intro f;have r:=wg.1 f j hj;simp only [c,x4,beq_iff_eq,hne,false_or,qi] at r;grind[yX,aXs]
   unfold aGM at f ⊢;cases y:bB mc m.op with
   | pure =>
    simp only [y] at f ⊢;have r:=wg.1 f j A;simp only [c,q,zz] at r;exact ⟨⟨yX M g c r,.inl trivial⟩,wg.2 fun x F=>wg.1 f x (sub x F)⟩
   | read =>
    simp only [y] at f ⊢;have r:=wg.1 f j A;simp only [c,q,zz,qi,bne_iff_ne] at r;exact ⟨⟨yX M g c r.1,.inr (.inl ⟨trivial,r.2⟩)⟩,wg.2 fun x F=>wg.1 f x (sub x F)⟩
   | call=>simp_all
   | make=>simp_all
   | act=>simp_all
  refine ⟨⟨⟨by simp_all[wM,Ne.symm],t.2⟩,by grind[Array.setIfInBounds_comm]⟩,fun I G J H=>?_⟩;exact Wo.swap O E g c t.1.1 D (w j a c) t.1.2 (H.map L)
def aJe {j:Nat}:∀ {σ:List Nat},j∈σ->∃ pre post,σ=pre++j :: post∧j∉pre
 | i :: σ,h=>by
  by_cases e:j=i
  ·exact ⟨[],σ,by rw [e]; rfl,by simp⟩
  ·obtain ⟨pre,post,h1,h2⟩:=aJe ((qe.1 h).resolve_left e);exact ⟨i :: pre,post,by rw [h1]; rfl,by simp [e,h2]⟩
theorem Wo.any {Q:Exit->Act->World->Prop} {D:PM} {K0:List Nat} {w0:World} (C:lQ K) (i:dr=true) (x:Region.noSelect l.toArray=true)
  (g:∀ j oj,nth l j=some oj->bB mc oj.op=.make->vB P oj) (e:∀ j oj,nth l j=some oj->iV n oj.dst)
  (A:∀ ρ G μ,K ρ G μ->∀ a w,Ag n ρ a->Tr D K0 w0 G μ w->Q .normal a w) :
  ∀ (m:Nat) (σ:List Nat) (listed:Array Bool) (ρ:aF) (G:PM) (μ:aB) (a:Act) (w:World),σ.length=m->Closed l listed->pM mc l σ listed=true->Wo dr mc P n l K σ ρ G μ->Ag n ρ a->Tr D K0 w0 G μ w ->
   wpAny P .any l.toArray Q m listed a w
 | 0,σ,listed,ρ,G,μ,a,w,hlen,_,hok,H,ha,ht=>by
  obtain rfl:σ=[]:=wo hlen;simp only [pM,List.isEmpty_iff] at hok;cases H with | nil h=>exact ⟨hok,A _ _ _ h a w ha ht⟩
 | m+1,σ,listed,ρ,G,μ,a,w,hlen,hcl,hok,H,ha,ht=>by
  refine ⟨fun S=>?_,fun j I=>?_⟩
  ·cases σ<;>simp_all[pM,cJ]
  have c:j∈cJ l listed:=I;obtain ⟨pre,f,q,t⟩:=aJe (aLY hok c);subst q;obtain ⟨L,J⟩:=front C i x g e pre listed hcl t hok c;obtain ⟨o,F,h⟩:=(J ρ G μ H).head ha ht (next:=wpAny P .any l.toArray Q m (listed.setIfInBounds j true)) (Q:=Q) e (fun y=>by simp_all)
   (fun k O p M E N v r=>Wo.any C i x g e A m (pre++f) _ k O p M E (by grind) (hcl.set c) L N v r)
  simp only [wpOp,jY,F];grind
end
def RR (post:PM->aB->Value->Prop) (die:PM->aB->List PanicEntry->Prop) (G0:PM) (K0:List Nat) (w0:World):Ending->World->Prop :=
 fun e w'=>(∃ v G' μ',e=.returned v∧Tr G0 K0 w0 G' μ' w'∧post G' μ' v)∨(∃ ch G' μ',e=.panicked ch∧Tr G0 K0 w0 G' μ' w'∧die G' μ' ch)
structure Cx where
 P:Program
 fn:Func
 n:Fm
 G0:PM
 K0:List Nat
 w0:World
 post:PM→aB→Value→Prop
 die:PM→aB→List PanicEntry→Prop
 ok:∀ ch ρ G μ a w,n.die ch ρ G μ→Ag n ρ a→Tr G0 K0 w0 G μ w→Leaves P fn a.tmps (RR post die G0 K0 w0) a.defers (.panicking ch) w
variable {X:Cx}
def Cx.R (X:Cx):Ending->World->Prop:=RR X.post X.die X.G0 X.K0 X.w0
inductive KI where
 | code (c:Code)
 | blk (id:Nat)
 | lp (I:Act→World→Prop)
def gH (X:Cx):List KI->Exit->Act->World->Prop
 | []=>bodyPostD X.P X.fn X.R
 | .code c :: k=>Exit.then (c.wp X.P (gH X k)) (gH X k)
 | .blk id :: k=>Exit.inBlock id (gH X k)
 | .lp I :: k=>Exit.then I (gH X k)
structure Wk (X:Cx) (c:Code) (k:List KI) (ρ:aF) (G:PM) (μ:aB):Prop where
 out:∀ a w,Ag X.n ρ a→Tr X.G0 X.K0 X.w0 G μ w→c.wp X.P (gH X k) a w
structure We (X:Cx) (e:Exit) (k:List KI) (ρ:aF) (G:PM) (μ:aB):Prop where
 out:∀ a w,Ag X.n ρ a→Tr X.G0 X.K0 X.w0 G μ w→gH X k e a w
section
variable {X:Cx} {k:List KI} {ρ:aF} {G:PM} {μ:aB} {x y c:Code}
def Wk.seq (h:Wk X x (.code y :: k) ρ G μ):Wk X (.seq x y) k ρ G μ:=⟨fun a w e c=>wp_seq (h.out a w e c)⟩
def Wk.block {e:Nat} (h:Wk X c (.blk e :: k) ρ G μ):Wk X (.block e c) k ρ G μ:=⟨fun a w g f=>wp_block (h.out a w g f)⟩
def Wk.skip (h:We X .normal k ρ G μ):Wk X .skip k ρ G μ:=⟨fun a w e c=>wp_skip (h.out a w e c)⟩
def Wk.exit {c:Nat} (h:We X (.exit c) k ρ G μ):Wk X (.exit c) k ρ G μ:=⟨fun a w f e=>wp_exit (h.out a w f e)⟩
def Wk.ret (h:We X .ret [] ρ G μ):Wk X .ret k ρ G μ:=by
 refine ⟨fun a w e c=>wp_ret ?_⟩;have:=h.out a w e c;induction k with
 | nil=>omega
 | cons i k ih=>cases i<;>exact ih
def Wk.cond {f:Operand} {b:Bool} (i:ev ρ f=some (true,.bool b)) (ht:b=true->Wk X x k ρ G μ) (g:b=false->Wk X y k ρ G μ):Wk X (.cond f x y) k ρ G μ :=
 ⟨fun a w c e=>wp_cond_split (c.eval i rfl) (fun h=>(ht h).out a w c e) (fun h=>(g h).out a w c e)⟩
def We.code (h:Wk X c k ρ G μ):We X .normal (.code c :: k) ρ G μ:=⟨h.out⟩
def We.blk {a:Nat} (h:We X .normal k ρ G μ):We X .normal (.blk a :: k) ρ G μ:=⟨h.out⟩
def aPg {a:Nat} (h:We X (.exit a) k ρ G μ):We X (.exit a) (.code c :: k) ρ G μ:=⟨h.out⟩
def aPh {a:Nat} {I:Act->World->Prop} (h:We X (.exit a) k ρ G μ):We X (.exit a) (.lp I :: k) ρ G μ:=⟨h.out⟩
def aPf {c:Nat} (h:We X .normal k ρ G μ):We X (.exit c) (.blk c :: k) ρ G μ :=
 ⟨fun a w f e=>by have:=h.out a w f e; simp_all[gH,Exit.inBlock]⟩
def aPi {f c:Nat} (i:Nat.beq f c=false) (h:We X (.exit f) k ρ G μ):We X (.exit f) (.blk c :: k) ρ G μ :=
 ⟨fun a w j g=>by
  have:=h.out a w j g;simp only [gH,Exit.inBlock];rw [if_neg (fun e=>by simp_all)];omega⟩
def aEV (e:Exit):lQ (fun ρ G μ=>We X e k ρ G μ) :=
 ⟨fun _ _ _ _ g h=>⟨fun a w f c=>h.out a w (f.congr g) c⟩,fun _ _ _ _ p h=>⟨fun a w f c=>h.out a w f (c.perm p.symm)⟩⟩
def tR (n:Fm):List Oper->Bool
 | []=>true
 | o :: l=>(match o.dst with | some d=>Nat.blt d n.n | none=>true)&&tR n l
def aC7 {n:Fm} (h:tR n l=true):∀ j o,nth l j=some o->iV n o.dst:=by
 induction l with
 | nil=>intro j o a; cases a
 | cons o' l ih =>
  simp only [tR,qi] at h;intro j o a;cases j with
  | zero =>
   simp only [nth,Option.some.injEq] at a;subst a;cases hd:o'.dst<;>simp_all[iV]
  | succ j=>exact ih h.2 j o a
def vC (X:Cx):∀ (k:List KI) (ch:List PanicEntry) (ρ:aF) (G:PM) (μ:aB) (a:Act) (w:World),X.n.die ch ρ G μ->Ag X.n ρ a->Tr X.G0 X.K0 X.w0 G μ w->gH X k (.panic ch) a w
 | [],ch,ρ,G,μ,a,w,h,ha,ht=>X.ok ch ρ G μ a w h ha ht
 | .code _ :: k,ch,ρ,G,μ,a,w,h,ha,ht=>vC X k ch ρ G μ a w h ha ht
 | .blk _ :: k,ch,ρ,G,μ,a,w,h,ha,ht=>vC X k ch ρ G μ a w h ha ht
 | .lp _ :: k,ch,ρ,G,μ,a,w,h,ha,ht=>vC X k ch ρ G μ a w h ha ht
def Wk.region {g:Nat} {l:List Oper} (e:tR X.n l=true) (h:Wo false ⟨false,false⟩ X.P X.n l (fun ρ G μ=>We X .normal k ρ G μ) (List.range l.length) ρ G μ):Wk X (.region g l.toArray false) k ρ G μ :=
 ⟨fun a w f c=>wp_region (by simpa using Wo.run (Q:=gH X k) (aC7 e) (fun _=>vC _ k) (fun _ _ _ h a w f c=>h.out a w f c) _ _ _ _ a w h f c)⟩
def aMN {T:TypeId} {z:Value} (h:(P.info? T).bind (·.zero)=some z) (e:Operand->Value) (d:Option Nat) (t:TypeId) (p:String) (a:Array Edge) (g:Option (Nat×Bool)) (w:World) :
  (execOp e ⟨d,.alloc T,t,p,a,g⟩).run P w=.ok (.value (.pointer (some ⟨w.heap.size,0,none⟩))) (w.alloc (.cells z.cells T)):=by
 cases c:P.info? T<;>simp_all[execOp,Instr.alloc,zeroValue,typeInfo,newVar,newRow]
def aID (P:Program) (l:List Oper):Bool:=l.all fun o=>match o.op with | .alloc T=>((P.info? T).bind (·.zero)).isSome&&o.guard.isNone | _=>true
def aC3 (mc:Md) (P:Program) (n:Nat) (l:List Oper) (σ:List Nat):Bool :=
 Region.noSelect l.toArray&&(l.all fun o=>match o.dst with | some d=>decide (d<n) | none=>true)&&aID P l&&(σ.length == l.length)&&pM mc l σ (zc l.length false)
theorem aAH {j:Nat} {o:Oper} (h:nth l j=some o):o∈l:=by
 rw [← jY] at h; grind
theorem aF4 {mc:Md} {o:Oper} (i:bB mc o.op=.make) (h:(match o.op with | .alloc T=>((P.info? T).bind (·.zero)).isSome&&o.guard.isNone | _=>true)=true):vB P o:=by
 obtain ⟨d,op,t,p,l,g⟩:=o;cases op<;>first|(simp [bB] at i; done)|skip
 case alloc T =>
  simp only [qi,Option.isNone_iff_eq_none] at h;cases a:(P.info? T).bind (·.zero) with
  | none=>simp_all
  | some z=>exact ⟨trivial,h.2,.cells z.cells T,fun b=>.pointer (some ⟨b,0,none⟩),fun e w=>aMN a _ _ _ _ _ _ _⟩
 case call c =>
  obtain ⟨f,j,k⟩:=c;cases f<;>simp only [bB] at i;case builtin b=>grind
  all_goals grind
def Wk.draw {mc:Md} {p:Nat} (f:List Nat) (hm:X.P.follows .mixedOrders=true) (c:aC3 mc X.P X.n.n l f=true) (h:Wo true mc X.P X.n l (fun ρ G μ=>We X .normal k ρ G μ) f ρ G μ):Wk X (.region p l.toArray true) k ρ G μ:=by
 simp only [aC3,qi,beq_iff_eq] at c;obtain ⟨⟨⟨⟨y,x⟩,v⟩,t⟩,r⟩:=c;refine ⟨fun a w m g=>wp_region_any hm ?_⟩;have:=Wo.any (Q:=gH X k) (aEV .normal) rfl y (fun j e i q=>aF4 q (wg.1 v e (aAH i)))
  (fun j e i=>by
   have:=wg.1 x e (aAH i);cases hd:e.dst<;>simp_all[iV]) (fun _ _ _ h a w m g=>h.out a w m g) l.length f _ ρ G μ a _ t (Closed.none _) r h m g.drew
 omega
def Wk.d0 {p:Nat} (f:Nat) (h:Wo true ⟨false,false⟩ X.P X.n l (fun ρ G μ=>We X .normal k ρ G μ) (List.range f) ρ G μ) (hm:X.P.follows .mixedOrders=true:=by kernel_rfl) (c:aC3 ⟨false,false⟩ X.P X.n.n l (List.range f)=true:=by kernel_rfl):Wk X (.region p l.toArray true) k ρ G μ:=.draw _ hm c h
def Wk.d1 {p:Nat} (f:Nat) (h:Wo true ⟨true,false⟩ X.P X.n l (fun ρ G μ=>We X .normal k ρ G μ) (List.range f) ρ G μ) (hm:X.P.follows .mixedOrders=true:=by kernel_rfl) (c:aC3 ⟨true,false⟩ X.P X.n.n l (List.range f)=true:=by kernel_rfl):Wk X (.region p l.toArray true) k ρ G μ:=.draw _ hm c h
def ESub (ρ' ρ:aF):Prop:=∀ i cv,cT ρ' i=some cv->cT ρ i=some cv
theorem ESub.nil {ρ:aF}:ESub [] ρ:=fun _ _ h=>by cases h
theorem ESub.cons {a ρ:aF} {i:Nat} {c:Bool} {v e:Value} (h:cT ρ i=some (c,e)) (f:e=v) (g:ESub a ρ):ESub ((i,c,v) :: a) ρ:=by
 grind[xT,ESub]
inductive MTake:aB→Res→aB→Prop where
 | here {r μ}:MTake (r :: μ) r μ
 | there {r s μ μ'} (h:MTake μ r μ'):MTake (s :: μ) r (s :: μ')
def MTake.perm {μ a:aB} {r:Res} (h:MTake μ r a):μ.Perm (r :: a):=by
 induction h with
 | here=>rfl
 | there _ ih=>exact (ih.cons _).trans (.swap ..)
def MSub (μ' μ:aB):Prop:=∃ ν,μ.Perm (μ'++ν)
theorem MSub.nil {μ:aB}:MSub [] μ:=⟨μ,.refl _⟩
def MSub.cons {μ μ₁ ν:aB} {r c:Res} (h:MTake μ c μ₁) (e:c=r) (g:MSub ν μ₁):MSub (r :: ν) μ:=by
 subst e;obtain ⟨f,a⟩:=g;exact ⟨f,h.perm.trans (a.cons _)⟩
def MSub.tr {μ a:aB} {e:PM} {w:World} (h:MSub a μ) (ht:Tr e K0 w0 G μ w):Tr e K0 w0 G a w:=by
 obtain ⟨f,c⟩:=h;exact (ht.perm c).left
structure Inv (X:Cx) (G:PM) {α:Type} (E:α→aF) (M:α→aB) (F:α→PM→Prop) (x:α) (a:Act) (w:World):Prop where
 of:∃ G',PM.le G G'∧F x G'∧Ag X.n (E x) a∧Tr X.G0 X.K0 X.w0 G' (M x) w
def Wk.loop {α:Type} (E:α->aF) (M:α->aB) (F:α->PM->Prop) (m:α->Nat) (x0:α) (hF:F x0 G) (hE:ESub (E x0) ρ) (hM:MSub (M x0) μ)
  (n:∀ x G',PM.le G G'->F x G'->Wk X c (.lp (fun a w=>∃ y,m y<m x∧Inv X G E M F y a w) :: k) (E x) G' (M x)):Wk X (.loop c) k ρ G μ:=by
 refine ⟨fun a w I H=>?_⟩;intro b C cs;have D:∀ (N:Nat) (x:α),m x<N->∀ a w,Inv X G E M F x a w ->
   ∃ e A v,gH X k e A v∧Arrives X.P (lone (b.at a (.code c :: .inLoop c :: C)) cs w) b C cs e A v:=by
  intro N;induction N with
  | zero=>omega
  | succ N ih =>
   intro x L a w ⟨G',hle,hf,I,H⟩;obtain ⟨e,h,g,j,f⟩:=(n x G' hle hf).out a w I H b (.inLoop c :: C) cs;cases e with
   | normal =>
    obtain ⟨y,K,J⟩:=j;obtain ⟨r,t,q,p,i⟩:=ih y om h g J;exact ⟨r,t,q,p,.of_steps (Steps.trans f (.one step_inLoop)) i⟩
   | exit id=>exact ⟨_,h,g,j,.pass (x:=.inLoop c) rfl (fun _ _=>.inl (by simp)) f⟩
   | goto l=>exact ⟨_,h,g,j,.pass (x:=.inLoop c) rfl (fun _ _=>.inl (by simp)) f⟩
   | ret=>exact ⟨_,h,g,j,.pass (x:=.inLoop c) rfl (fun _ _=>.inl (by simp)) f⟩
   | panic ch=>exact ⟨_,h,g,j,.pass (x:=.inLoop c) rfl (fun _ _=>.inl (by simp)) f⟩
   | outgrown=>exact ⟨_,h,g,j,.pass (x:=.inLoop c) rfl (fun _ _=>.inl (by simp)) f⟩
 obtain ⟨e,A,v,j,f⟩:=D (m x0+1) x0 om a w ⟨G,PM.le.refl _,hF,I.sub hE,hM.tr H⟩;exact ⟨e,A,v,j,.of_steps (.one step_loop) f⟩
inductive Rs (P:Program) (ρ:aF) (G:PM) (μ:aB):List ResultVar→List Value→Prop where
 | nil:Rs P ρ G μ [] []
 | tmp {t r v vs} (h:cT ρ t=some (true,v)) (k:Rs P ρ G μ r vs):Rs P ρ G μ (.tmp t :: r) (v :: vs)
 | cell {t T r v vs a} (h:cT ρ t=some (true,.pointer (some a))) (hw:∀ w,Sat G μ w→(loadVar T a).run P w=.ok v w) (k:Rs P ρ G μ r vs):Rs P ρ G μ (.cell t T :: r) (v :: vs)
def fX:List Value->Value
 | [v]=>v
 | vs=>.tuple vs.toArray
def aGW {fn:Func} {n:Fm} {a:Act} {c:List Value} {w:World} (h:Rs P ρ G μ fn.results.toList c) (k:Ag n ρ a) (m:Sat G μ w) :
  (results fn a.tmps).run P w=.ok (fX c) w:=by
 have g:∀ (f:ResultVar->Sem Value),(∀ t v,cT ρ t=some (true,v)->(f (.tmp t)).run P w=.ok v w) ->
   (∀ t T j v,cT ρ t=some (true,.pointer (some j))->(loadVar T j).run P w=.ok v w->(f (.cell t T)).run P w=.ok v w) ->
   ∀ (e:List ResultVar) (c:List Value),Rs P ρ G μ e c->(e.mapM f).run P w=.ok c w:=by
  intro f q p e c h;induction h<;>simp_all
 unfold results;rw [Array.mapM_eq_mapM_toList];simp only [Sem.run_bind,Sem.run_map];rw [g _ (fun t v i=>by simp [k.get t true v i]) (fun t T j v i l=>by simp [k.get t true _ i,asAddr,l]) _ _ h];simp only [Result.andThen_ok];cases c with
 | nil=>rfl
 | cons v c=>cases c<;>simp_all[fX]
def We.fin {vs:List Value} {e:List ResultVar} {c:aB} (j:X.fn.results=e.toArray) (h:Rs X.P ρ G μ e vs) (hM:MSub c μ) (i:X.post G c (fX vs)) (hd:X.n.ds=[]:=by rfl):We X .ret [] ρ G μ :=
 ⟨fun a w g f=>by
  show Leaves X.P X.fn a.tmps X.R a.defers .returning w;rw [g.defers,hd];exact ⟨_,aGW (by simp_all) g f.sat,.inl ⟨_,G,c,rfl,hM.tr f,i⟩⟩⟩
def aAx {vs:List Value} {a:List ResultVar} (c:X.fn.results=a.toArray) (h:Rs X.P ρ G μ a vs) (e:X.post G [] (fX vs)) (hd:X.n.ds=[]:=by rfl):We X .ret [] ρ G μ:=We.fin c h MSub.nil e hd
theorem We.nil (h:We X .ret [] ρ G μ):We X .normal [] ρ G μ:=⟨h.out⟩
def zM (i:Nat):List Value->aF
 | []=>[]
 | v :: vs=>(i,true,v) :: zM (i+1) vs
theorem aKa:∀ (vs:List Value) (i j:Nat) (c:Bool) (v:Value),cT (zM i vs) j=some (c,v)->i<=j∧c=true∧vs[j-i]? = some v
 | [],_,_,_,_,h=>by cases h
 | u :: vs,i,j,c,v,h=>by
  simp only [zM,xT] at h;split at h
  ·simp_all
  ·rename_i e;obtain ⟨h1,h2,h3⟩:=aKa vs (i+1) j c v h;grind
def zR (n:Nat) (die:PM->aB->List PanicEntry->Prop):Fm:=⟨n,[],fun ch _ G μ=>die G μ ch⟩
def aFX {fn:Func} {G:PM} {die:PM->aB->List PanicEntry->Prop} :
  ∀ e g f c a w,(zR n die).die e g f c->Ag (zR n die) g a->Tr G K0 w0 f c w->Leaves P fn a.tmps (RR post die G K0 w0) a.defers (.panicking e) w:=by
 intro e g f c a w h j i;rw [j.defers];exact .inr ⟨e,f,c,rfl,i,h⟩
def Cq.of {f:FuncId} {fn:Func} {c:Code} {vs:List Value} {G:PM} {μ:aB} {a:PM->aB->List PanicEntry->Prop} (p:P.funcs[f]? = some fn) (q:fn.body=some c) (k:fn.ntmps=n) (l:Nat.ble vs.length n=true) (h:∀ w0,Sat G μ w0->Wk ⟨P,fn,zR n a,G,keys μ,w0,post,a,aFX⟩ c [] (zM 0 vs) G μ):Cq P f vs.toArray G μ post a:=by
 intro w j;refine calls_of_wp_defers p q ?_;have:=(h w j).out { tmps:=vs.toArray++zc (fn.ntmps-vs.toArray.size) undef,defers:=[] } w ⟨?_,rfl,?_⟩ (gX j)
 ·exact this
 ·have:=kq l;simp [k,zR]; omega
 intro i c v m;obtain ⟨_,rfl,g⟩:=aKa vs 0 i c v m;simp only [jq] at g;have e:i<vs.length:=(wr.1 g).1;rw [Array.getElem?_append_left (by simpa using e)];simpa using g
def Ct.of {P:Program} {f:FuncId} {fn:Func} {c:Code} {n:Nat} {vs:List Value} {G:PM} {μ:aB} {post:PM->aB->Value->Prop}
  (i:P.funcs[f]? = some fn) (j:fn.body=some c) (e:fn.ntmps=n) (g:Nat.ble vs.length n=true)
  (h:∀ w0,Sat G μ w0->Wk ⟨P,fn,zR n (fun _ _ _=>False),G,keys μ,w0,post,fun _ _ _=>False,aFX⟩ c [] (zM 0 vs) G μ):Ct P f vs.toArray G μ post:=fun w a =>
 (Cq.of i j e g h w a).mono fun _ _ h=>by
  rcases h with h | ⟨_,_,_,_,_,h⟩
  ·exact h
  ·exact h.elim
end
def aE {μ:aB} {r a:Res}:MTake (a :: r :: μ) r (a :: μ):=.there .here
def aL {μ:aB} {r a s1:Res}:MTake (a :: s1 :: r :: μ) r (a :: s1 :: μ):=.there (.there .here)
def bU {μ:aB} {r c s1 a:Res}:MTake (c :: s1 :: a :: r :: μ) r (c :: s1 :: a :: μ):=.there (.there (.there .here))
def gM {μ:aB} {r c s1 a s3:Res}:MTake (c :: s1 :: a :: s3 :: r :: μ) r (c :: s1 :: a :: s3 :: μ):=.there (.there (.there (.there .here)))
def jD {μ:aB} {r e s1 c s3 a:Res}:MTake (e :: s1 :: c :: s3 :: a :: r :: μ) r (e :: s1 :: c :: s3 :: a :: μ):=.there (.there (.there (.there (.there .here))))
def kZ {μ:aB} {r f s1 e s3 c a:Res}:MTake (f :: s1 :: e :: s3 :: c :: a :: r :: μ) r (f :: s1 :: e :: s3 :: c :: a :: μ):=.there (.there (.there (.there (.there (.there .here)))))
def mD {μ:aB} {r g s1 f s3 e c a:Res}:MTake (g :: s1 :: f :: s3 :: e :: c :: a :: r :: μ) r (g :: s1 :: f :: s3 :: e :: c :: a :: μ):=.there (.there (.there (.there (.there (.there (.there .here))))))
def mS {μ μ₁ ν:aB} {r a:Res} (h:MTake μ a μ₁) (e:a=r) (c:MSub ν μ₁):MSub (r :: ν) μ:=MSub.cons h e c
def mN {μ:aB}:MSub [] μ:=MSub.nil
def cB {a ρ:aF} {i:Nat} {c:Bool} {v e:Value} (h:cT ρ i=some (c,e)) (f:e=v) (g:ESub a ρ):ESub ((i,c,v) :: a) ρ:=ESub.cons h f g
def eZ {ρ:aF}:ESub [] ρ:=ESub.nil
def jG {a ρ:aF} {i:Nat} {c:Bool} {v:Value} (h:cT ρ i=some (c,v)) (e:ESub a ρ):ESub ((i,c,v) :: a) ρ:=ESub.cons h rfl e
def zN (P:Program) (s f:Nat):Option Nat :=
 match P.underlying s with
 | some (.struct fs)=>match fs[f]? with
  | some fl=>match P.info? fl.type with
   | some i=>if i.size=0 then none else some fl.offset
   | none=>none
  | none=>none
 | _=>none
def nA (P:Program) (T:TypeId):Option (Option Nat) :=
 match P.underlying T,P.info? T with
 | some (.struct _),some i | some (.array _ _),some i=>some (some i.size)
 | some _,some _=>some none
 | _,_=>none
def bY (P:Program) (T:TypeId):Option (TypeId×Nat×Nat) :=
 match P.underlying T with
 | some (.slice e)=>(P.info? e).map fun i=>(e,i.size,i.bytes)
 | _=>none
def nD (P:Program) (T:TypeId):Option (Nat×TypeId×Nat) :=
 match P.underlying T with
 | some (.array n e)=>(P.info? e).map fun i=>(n,e,i.size)
 | _=>none
def dK (P:Program) (T:TypeId):Option (List Value):=((P.info? T).bind (·.zero)).map (·.cells.toList)
def jC (P:Program) (T:TypeId):Option Nat:=(P.info? T).map (·.size)
abbrev cl (cs:List Value) (T:TypeId):Obj:=.cells cs.toArray T (0,0)
def Sub (G:PM) (w:World):Prop:=∀ b o,G b=some o->w.heap[b]? = some o
def Sub.mono {G c:PM} {w:World} (h:Sub c w) (a:PM.le G c):Sub G w:=fun b o e=>h b o (a b o e)
def Rd (G:PM) (μ:aB) (a:Addr) (v:Value):Prop:=∀ w,Sat G μ w->w.cell? a=some v
def RdP (G:PM) (a:Addr) (v:Value):Prop:=∀ w,Sub G w->w.cell? a=some v
def RdP.rd {G:PM} {μ:aB} {a:Addr} {v:Value} (h:RdP G a v):Rd G μ a v:=fun w c=>h w c.sub
def RdP.mono {G e:PM} {a:Addr} {v:Value} (h:RdP G a v) (c:PM.le G e):RdP e a v:=fun w f=>h w (f.mono c)
theorem Rd.own {G:PM} {μ a:aB} {b off:Nat} {cs:List Value} {T:TypeId} {v:Value} (h:MTake μ (.blk b (cl cs T)) a) (e:cs[off]? = some v):Rd G μ ⟨b,off,none⟩ v:=by
 intro w c;have:=c.own (.blk b (cl cs T)) (h.perm.mem_iff.2 (qh ..));rw [cell_of_row w b off _ T _ this];simp_all
def RdP.blk {G:PM} {b:Nat} {cs:List Value} {T:TypeId} {v:Value} {fr:Nat×Nat} (h:G b=some (.cells cs.toArray T fr)) (c:cs[off]? = some v):RdP G ⟨b,off,none⟩ v:=by
 intro w a;rw [cell_of_row w b off _ T _ (a b _ h)];simp_all
def RdN (G:PM) (μ:aB) (b off:Nat) (cs:List Value):Prop:=∀ j v,cs[j]? = some v->Rd G μ ⟨b,off+j,none⟩ v
def RdNP (G:PM) (b off:Nat) (cs:List Value):Prop:=∀ j v,cs[j]? = some v->RdP G ⟨b,off+j,none⟩ v
def RdNP.rd {G:PM} {μ:aB} {b off:Nat} {cs:List Value} (h:RdNP G b off cs):RdN G μ b off cs:=fun j v a=>(h j v a).rd
def RdNP.mono {G c:PM} {b off:Nat} {cs:List Value} (h:RdNP G b off cs) (a:PM.le G c):RdNP c b off cs:=fun j v e=>(h j v e).mono a
theorem RdN.own {G:PM} {μ a:aB} {b:Nat} {cs:List Value} {T:TypeId} (h:MTake μ (.blk b (cl cs T)) a):RdN G μ b 0 cs:=fun j v c=>by
 rw [wb]; grind[Rd.own]
theorem RdN.part {G:PM} {μ a:aB} {b:Nat} {cs:List Value} {T:TypeId} (h:MTake μ (.blk b (cl cs T)) a) (e:(cs.drop off).take n=cs'):RdN G μ b off cs':=fun j v c=>by
 grind[Rd.own]
def jS (b o j:Nat):(⟨b,o,none⟩ : Addr).add j=⟨b,o+j,none⟩:=by simp[Addr.add]
theorem aMU {w:World} {G:PM} {μ:aB} {b:Nat} {cs:List Value} (h:RdN G μ b off cs) (a:Sat G μ w) (c:cs.length=n):(loadCells ⟨b,off,none⟩ n).run P w=.ok cs.toArray w:=by
 subst c;exact run_loadCells_list w ⟨b,off,none⟩ cs fun j v e=>by rw [jS]; exact h j v e w a
theorem aH5 {T:TypeId} (h:nA P T=some none):∀ w,(isAgg T).run P w=.ok false w:=by
 intro w;unfold nA at h;unfold isAgg;cases a:P.underlying T with
 | none=>simp_all
 | some d =>
  rw [a] at h;simp only [Sem.run_bind,run_underlying a,Result.andThen_ok];cases d<;>first|rfl | grind
def aPu {T:TypeId} (h:nA P T=some (some n)):(∀ w,(isAgg T).run P w=.ok true w)∧(P.info? T).map (·.size)=some n:=by
 unfold nA at h;unfold isAgg;cases a:P.underlying T with
 | none=>simp_all
 | some d =>
  rw [a] at h;cases d<;>cases c:P.info? T<;>rw [c] at h<;>simp at h;all_goals simp_all[run_underlying]
theorem uI {T:TypeId} (c:nA P T=some none) {w:World} {a:Addr} {v:Value} (h:w.cell? a=some v):(loadVar T a).run P w=.ok v w:=by
 simp_all[loadVar,aH5]
def mW {T:TypeId} (g:nA P T=some (some n)) {G:PM} {μ:aB} {w:World} {b:Nat} {cs:List Value} (h:RdN G μ b off cs) (f:cs.length=n) (e:Sat G μ w) :
  (loadVar T ⟨b,off,none⟩).run P w=.ok (.agg cs.toArray) w:=by
 obtain ⟨j,a⟩:=aPu g;cases c:P.info? T with
 | none=>simp_all
 | some i =>
  rw [c] at a;simp only [wx,Option.some.injEq] at a;unfold loadVar;simp [j w,sizeOf,typeInfo,c,a,aMU h e f]
section
variable {dr:Bool} {mc:Md} {P:Program} {n:Fm} {l:List Oper} {K:aF→PM→aB→Prop} {i:Nat} {σ:List Nat} {ρ:aF} {G:PM} {μ:aB}
variable {d t:Nat} {p:String} {af:Array Edge} {g:Option (Nat×Bool)} {c:Bool}
def mv {x:Operand} {v:Value} (f:nth l i=some ⟨some d,.move x,t,p,af,g⟩) (j:Gd l ρ g c) (e:Ev ρ c x v) (h:Wo dr mc P n l K σ ((d,c,v) :: ρ) G μ):Wo dr mc P n l K (i :: σ) ρ G μ :=
 .pure f (.inl rfl) j (fun k a w m=>by simp [execOp,e.eval m k]) h
def asg {x:Operand} {v:Value} (f:nth l i=some ⟨some d,.assign x,t,p,af,g⟩) (j:Gd l ρ g c) (e:Ev ρ c x v) (h:Wo dr mc P n l K σ ((d,c,v) :: ρ) G μ):Wo dr mc P n l K (i :: σ) ρ G μ :=
 .pure f (.inl rfl) j (fun k a w m=>by simp [execOp,e.eval m k]) h
theorem jA {x:Operand} {b1 b2:Bool} (k:nth l i=some ⟨some d,.pick x y (.const (.bool false)),t,p,af,g⟩) (m:Gd l ρ g c) (j:Ev ρ c x (.bool b1)) (f:Ev ρ (c&&b1) y (.bool b2)) (h:Wo dr mc P n l K σ ((d,c,.bool (b1&&b2)) :: ρ) G μ):Wo dr mc P n l K (i :: σ) ρ G μ :=
 .pure k (.inl rfl) m (fun q a w e=>by
  simp only [execOp,j.eval e q,asBool];cases b1 with
  | false=>rfl
  | true=>simp [f.eval e (by grind)]) h
theorem oI {x:Operand} {b1 b2:Bool} (k:nth l i=some ⟨some d,.pick x (.const (.bool true)) y,t,p,af,g⟩) (m:Gd l ρ g c) (j:Ev ρ c x (.bool b1)) (f:Ev ρ (c && !b1) y (.bool b2)) (h:Wo dr mc P n l K σ ((d,c,.bool (b1||b2)) :: ρ) G μ):Wo dr mc P n l K (i :: σ) ρ G μ :=
 .pure k (.inl rfl) m (fun q a w e=>by
  simp only [execOp,j.eval e q,asBool];cases b1 with
  | true=>rfl
  | false=>simp [f.eval e (by grind)]) h
def nt {T:TypeId} {x:Operand} {b:Bool} (f:nth l i=some ⟨some d,.unOp .not T x,t,p,af,g⟩) (j:Gd l ρ g c) (e:Ev ρ c x (.bool b)) (h:Wo dr mc P n l K σ ((d,c,.bool !b) :: ρ) G μ):Wo dr mc P n l K (i :: σ) ρ G μ :=
 .pure f (.inl rfl) j (fun k a w m=>by simp [execOp,e.eval m k,Op.unary]) h
def ex {x:Operand} {vs:List Value} {j:Nat} {v:Value} (k:nth l i=some ⟨some d,.extract x j,t,p,af,g⟩) (m:Gd l ρ g c) (e:Ev ρ c x (.tuple vs.toArray)) (f:vs[j]? = some v)
  (h:Wo dr mc P n l K σ ((d,c,v) :: ρ) G μ):Wo dr mc P n l K (i :: σ) ρ G μ :=
 .pure k (.inl rfl) m (fun q a w r=>by simp [execOp,e.eval r q,Instr.extract,f]) h
def nc {x:Operand} {e:Addr} (j:nth l i=some ⟨some d,.nilCheck x,t,p,af,g⟩) (k:Gd l ρ g c) (f:Ev ρ c x (.pointer (some e))) (h:Wo dr mc P n l K σ ((d,c,.pointer (some e)) :: ρ) G μ):Wo dr mc P n l K (i :: σ) ρ G μ :=
 .pure j (.inl rfl) k (fun m a w q=>by simp [execOp,f.eval q m]) h
def mf {fn:Go.Fn} {e cs:Array Operand} {vf vc:Array Value} (f:nth l i=some ⟨some d,.makeFunc fn e cs,t,p,af,g⟩) (j:Gd l ρ g c) (m:∀ a,Ag n ρ a->c=true->e.map a.eval=vf) (k:∀ a,Ag n ρ a->c=true->cs.map a.eval=vc)
  (h:Wo dr mc P n l K σ ((d,c,.func fn vf vc) :: ρ) G μ):Wo dr mc P n l K (i :: σ) ρ G μ :=
 .pure f (.inl rfl) j (fun q a w r=>by simp_all[execOp,Instr.makeFunc]) h
def aCo:BinOp->Int->Int->Option Bool
 | .eql,a,b=>some (a == b)
 | .neq,a,b=>some (a != b)
 | .lss,a,b=>some (decide (a<b))
 | .leq,a,b=>some (decide (a<=b))
 | .gtr,a,b=>some (decide (a > b))
 | .geq,a,b=>some (decide (a>=b))
 | _,_,_=>none
def mM {P:Program} (op:BinOp) (T:TypeId) (x y:Operand) (k c:IntKind) (a b:Int) (w:World):(eqGuard op T x y (.int k a) (.int c b)).run P w=.ok () w:=by
 simp[eqGuard]
def aMP {P:Program} {a b:Int} {r:Bool} (T:TypeId) (h:aCo op a b=some r) (w:World):(binOp op T (.int k a) (.int k b)).run P w=.ok (.bool r) w:=by
 cases op<;>simp [aCo] at h<;>subst h<;>simp [binOp,Op.intCmp]
def cp {T E:TypeId} {x:Operand} {m j:Int} {r:Bool} (C:nth l i=some ⟨some d,.binOp op T x y E,t,p,af,g⟩) (D:Gd l ρ g c) (v:Ev ρ c x (.int k m)) (q:Ev ρ c y (.int k j)) (A:aCo op m j=some r) (h:Wo dr mc P n l K σ ((d,c,.bool r) :: ρ) G μ):Wo dr mc P n l K (i :: σ) ρ G μ :=
 .pure C (.inl rfl) D (fun e a w f=>by simp [execOp,v.eval f e,q.eval f e,mM,aMP _ A _]) h
def yY:BinOp->Int->Int->Option Int
 | .add,a,b=>some (a+b)
 | .sub,a,b=>some (a-b)
 | .mul,a,b=>some (a*b)
 | _,_,_=>none
def aGf {P:Program} {a b r:Int} (T:TypeId) (h:yY op a b=some r) (w:World):(binOp op T (.int k a) (.int k b)).run P w=.ok (.int k (k.wrap r)) w:=by
 cases op<;>simp [yY] at h<;>subst h<;>simp [binOp,Op.intArith]
def aw {T E:TypeId} {x:Operand} {m j r:Int} (C:nth l i=some ⟨some d,.binOp op T x y E,t,p,af,g⟩) (D:Gd l ρ g c) (v:Ev ρ c x (.int k m)) (q:Ev ρ c y (.int k j)) (A:yY op m j=some r) (h:Wo dr mc P n l K σ ((d,c,.int k (k.wrap r)) :: ρ) G μ):Wo dr mc P n l K (i :: σ) ρ G μ :=
 .pure C (.inl rfl) D (fun e a w f=>by simp [execOp,v.eval f e,q.eval f e,mM,aGf _ A _]) h
def ar {T F:TypeId} {x:Operand} {m j r:Int} (D:nth l i=some ⟨some d,.binOp op T x y F,t,p,af,g⟩) (E:Gd l ρ g c) (v:Ev ρ c x (.int k m)) (q:Ev ρ c y (.int k j)) (C:yY op m j=some r) (A:c=true->k.wrap r=r) (h:Wo dr mc P n l K σ ((d,c,.int k r) :: ρ) G μ):Wo dr mc P n l K (i :: σ) ρ G μ :=
 .pure D (.inl rfl) E (fun e a w f=>by simp [execOp,v.eval f e,q.eval f e,mM,aGf _ C _,A e]) h
theorem cP {r:Int} (h1 : -9223372036854775808<=r) (h2:r<=9223372036854775807):IntKind.i64.wrap r=r:=by
 unfold IntKind.wrap;show (if (true&&decide (r%(2^64:Int)>=(2^63:Int)))=true then r%(2^64:Int)-(2^64:Int) else r%(2^64:Int))=r;grind
def lC {r:Int} (h1:0<=r) (h2:r<18446744073709551616):IntKind.u64.wrap r=r:=by
 simp_all[IntKind.wrap,IntKind.bits,IntKind.signed,qa2]
def bBh {r:Int} (h1:0<=r) (h2:r<256):IntKind.u8.wrap r=r:=by
 simp_all[IntKind.wrap,IntKind.bits,IntKind.signed,qa2]
def sl {T E:TypeId} {x:Operand} {m e:Int} (A:nth l i=some ⟨some d,.binOp .shl T x y E,t,p,af,g⟩) (C:Gd l ρ g c) (v:Ev ρ c x (.int k m)) (r:Ev ρ c y (.int q e)) (D:c=true->0<=e) (h:Wo dr mc P n l K σ ((d,c,.int k (k.wrap (m*2^(min e.toNat k.bits)))) :: ρ) G μ):Wo dr mc P n l K (i :: σ) ρ G μ :=
 .pure A (.inl rfl) C (fun f a w j=>by have:=D f; simp [execOp,v.eval j f,r.eval j f,mM,binOp,Op.shift,show ¬ e<0 by omega]) h
def sr {T E:TypeId} {x:Operand} {m e:Int} (A:nth l i=some ⟨some d,.binOp .shr T x y E,t,p,af,g⟩) (C:Gd l ρ g c) (v:Ev ρ c x (.int k m)) (r:Ev ρ c y (.int q e)) (D:c=true->0<=e) (h:Wo dr mc P n l K σ ((d,c,.int k (m.fdiv (2^(min e.toNat k.bits)))) :: ρ) G μ):Wo dr mc P n l K (i :: σ) ρ G μ :=
 .pure A (.inl rfl) C (fun f a w j=>by have:=D f; simp [execOp,v.eval j f,r.eval j f,mM,binOp,Op.shift,show ¬ e<0 by omega]) h
def rY (P:Program) (S D:TypeId):Option IntKind:=match P.underlying S,P.underlying D with | some (.int _),some (.int k)=>some k | _,_=>none
def cv {x:Operand} {f:IntKind} {j:Int} (q:nth l i=some ⟨some d,.convert S D x,t,p,af,g⟩) (r:Gd l ρ g c) (e:rY P S D=some f) (m:Ev ρ c x (.int k j)) (h:Wo dr mc P n l K σ ((d,c,.int f (f.wrap j)) :: ρ) G μ):Wo dr mc P n l K (i :: σ) ρ G μ :=
 .read q (.inl rfl) r (fun v a w y _=>by
  unfold rY at e;split at e
  ·rename_i F E A C;simp only [Option.some.injEq] at e;subst e;simp [execOp,m.eval y v,convert,run_underlying A,run_underlying C,Conv.intToInt]
  ·cases e) h
def cw {x:Operand} {j:IntKind} {f:Int} (v:nth l i=some ⟨some d,.convert S D x,t,p,af,g⟩) (y:Gd l ρ g c) (e:rY P S D=some j) (q:Ev ρ c x (.int k f)) (r:c=true->j.wrap f=f) (h:Wo dr mc P n l K σ ((d,c,.int j f) :: ρ) G μ):Wo dr mc P n l K (i :: σ) ρ G μ :=
 .read v (.inl rfl) y (fun m a w A _=>by
  unfold rY at e;split at e
  ·rename_i H F C E;simp only [Option.some.injEq] at e;subst e;simp [execOp,q.eval A m,convert,run_underlying C,run_underlying E,Conv.intToInt,r m]
  ·cases e) h
def aIW (P:Program) (T:TypeId):Bool:=match P.underlying T with | some .bool=>true | _=>false
def aIg:BinOp->ByteArray->ByteArray->Option Bool
 | .eql,x,y=>some (x.toList == y.toList)
 | .neq,x,y=>some (!(x.toList == y.toList))
 | .lss,x,y=>some (Op.bytesLess x.toList y.toList)
 | .leq,x,y=>some (Op.bytesLess x.toList y.toList||x.toList == y.toList)
 | .gtr,x,y=>some (!(Op.bytesLess x.toList y.toList||x.toList == y.toList))
 | .geq,x,y=>some (!(Op.bytesLess x.toList y.toList))
 | _,_,_=>none
def cs {T:TypeId} {x:Operand} {s1 e:ByteArray} {r:Bool} (v:nth l i=some ⟨some d,.binOp op T x y C,t,p,af,g⟩) (A:Gd l ρ g c) (q:Ev ρ c x (.string s1)) (m:Ev ρ c y (.string e)) (f:aIg op s1 e=some r) (h:Wo dr mc P n l K σ ((d,c,.bool r) :: ρ) G μ):Wo dr mc P n l K (i :: σ) ρ G μ :=
 .pure v (.inl rfl) A (fun j a w k=>by
  simp only [execOp,q.eval k j,m.eval k j];have:(eqGuard op T x y (.string s1) (.string e)).run P w=.ok () w:=by simp[eqGuard]
  cases op<;>simp only [aIg,Option.some.injEq,reduceCtorEq] at f<;>subst f<;>simp [this,binOp,Op.stringOp]) h
def ln {T:TypeId} {x:Operand} {oa:Option Addr} {cp:Nat} (q:nth l i=some ⟨some d,.call { callee:=.builtin .len,args:=#[x],argTypes:=#[T] },t,p,af,g⟩) (r:Gd l ρ g c) (f:(bY P T).isSome=true) (j:Ev ρ c x (.slice oa m cp)) (h:Wo dr mc P n l K σ ((d,c,.int .i64 m) :: ρ) G μ):Wo dr mc P n l K (i :: σ) ρ G μ :=
 .read q (.inl rfl) r (fun v a w y _=>by
  unfold bY at f;split at f
  ·rename_i e k;simp [execOp,resolve,invoke,builtin,j.eval y v,Builtin.len_,run_underlying k,goInt]
  ·cases f) h
def nU (P:Program) (T:TypeId):Bool:=match P.underlying T with | some .string=>true | _=>false
def ls {T:TypeId} {x:Operand} {s:ByteArray} (k:nth l i=some ⟨some d,.call { callee:=.builtin .len,args:=#[x],argTypes:=#[T] },t,p,af,g⟩) (m:Gd l ρ g c) (e:nU P T=true) (f:Ev ρ c x (.string s))
  (h:Wo dr mc P n l K σ ((d,c,.int .i64 s.size) :: ρ) G μ):Wo dr mc P n l K (i :: σ) ρ G μ :=
 .read k (.inl rfl) m (fun q a w r _=>by
  unfold nU at e;split at e
  ·rename_i j;simp [execOp,resolve,invoke,builtin,f.eval r q,Builtin.len_,run_underlying j,goInt]
  ·cases e) h
def fa {s f k:Nat} {x:Operand} {b o:Nat} (v:nth l i=some ⟨some d,.fieldAddr s x f,t,p,af,g⟩) (A:Gd l ρ g c) (hF:zN P s f=some k) (q:Ev ρ c x (.pointer (some ⟨b,o,none⟩)))
  (h:Wo dr mc P n l K σ ((d,c,.pointer (some ⟨b,o+k,none⟩)) :: ρ) G μ):Wo dr mc P n l K (i :: σ) ρ G μ :=
 .pure v (.inl rfl) A (fun C a w D=>by
  unfold zN at hF;split at hF
  ·rename_i E r;split at hF
   ·rename_i F e;split at hF
    ·rename_i j y;split at hF
     ·cases hF
     ·rename_i m;simp only [Option.some.injEq] at hF;subst hF;simp [execOp,q.eval D C,Instr.fieldAt,run_underlying r,e,Instr.sureAddr,fieldPlace,sizeOf,typeInfo,y,m,jS]
    ·cases hF
   ·cases hF
  ·cases hF) h
def fz {s f k:Nat} {x:Operand} {b:Nat} (e:nth l i=some ⟨some d,.fieldAddr s x f,t,p,af,g⟩) (j:Gd l ρ g c) (hF:zN P s f=some k) (a:Ev ρ c x (.pointer (some ⟨b,0,none⟩)))
  (h:Wo dr mc P n l K σ ((d,c,.pointer (some ⟨b,k,none⟩)) :: ρ) G μ):Wo dr mc P n l K (i :: σ) ρ G μ :=
 fa e j hF a (by simp_all)
theorem fW {P:Program} {T a:Nat} (h:bY P T=some (e,sz,a)):P.underlying T=some (.slice e)∧∃ inf,P.info? e=some inf∧inf.size=sz∧inf.bytes=a:=by
 unfold bY at h;split at h
 ·rename_i c f;cases g:P.info? c<;>simp_all
 grind
theorem vH {P:Program} {T:Nat} (h:nD P T=some (m,e,sz)):P.underlying T=some (.array m e)∧∃ inf,P.info? e=some inf∧inf.size=sz:=by
 unfold nD at h;split at h
 ·rename_i c a f;cases g:P.info? a<;>simp_all
 grind
def ia {T q:Nat} {x:Operand} {b o cp:Nat} {j:Int} (E:nth l i=some ⟨some d,.indexAddr T x y,t,p,af,g⟩) (H:Gd l ρ g c) (I:bY P T=some (e,sz,q)) (C:Ev ρ c x (.slice (some ⟨b,o,none⟩) m cp)) (A:Ev ρ c y (.int k j)) (J:c=true->0<=j) (h1:c=true->j<m) (h:Wo dr mc P n l K σ ((d,c,.pointer (some ⟨b,o+j.toNat*sz,none⟩)) :: ρ) G μ):Wo dr mc P n l K (i :: σ) ρ G μ :=
 .pure E (.inl rfl) H (fun f a w r=>by
  obtain ⟨D,v,F,rfl,rfl⟩:=fW I;simp [execOp,C.eval r f,A.eval r f,Instr.indexAt,asIntOf,run_underlying D,J f,h1 f,sizeOf,typeInfo,F,jS]) h
def iA {T:Nat} {x:Operand} {b o:Nat} {j:Int} (D:nth l i=some ⟨some d,.indexAddr T x y,t,p,af,g⟩) (F:Gd l ρ g c) (H:nD P T=some (m,e,sz)) (A:Ev ρ c x (.pointer (some ⟨b,o,none⟩))) (v:Ev ρ c y (.int k j)) (I:c=true->0<=j) (h1:c=true->j<m) (h:Wo dr mc P n l K σ ((d,c,.pointer (some ⟨b,o+j.toNat*sz,none⟩)) :: ρ) G μ):Wo dr mc P n l K (i :: σ) ρ G μ :=
 .pure D (.inl rfl) F (fun f a w q=>by
  obtain ⟨C,r,E,rfl⟩:=vH H;simp [execOp,A.eval q f,v.eval q f,Instr.indexAt,asIntOf,run_underlying C,I f,h1 f,sizeOf,typeInfo,E,jS,Instr.sureAddr]) h
def ld {T:TypeId} {x:Operand} {f:Addr} {v:Value} (q:nth l i=some ⟨some d,.load T x,t,p,af,g⟩) (r:Gd l ρ g c) (A:nA P T=some none) (j:Ev ρ c x (.pointer (some f))) (m:c=true->Rd G μ f v)
  (h:Wo dr mc P n l K σ ((d,c,v) :: ρ) G μ):Wo dr mc P n l K (i :: σ) ρ G μ :=
 .read q (.inl rfl) r (fun e a w y k=>by simp [execOp,j.eval y e,Instr.loadAt,Instr.sureAddr,uI A (m e w k)]) h
def lA {T m:TypeId} {x:Operand} {b o:Nat} {cs:List Value} (q:nth l i=some ⟨some d,.load T x,t,p,af,g⟩) (v:Gd l ρ g c) (A:nA P T=some (some m)) (f:Ev ρ c x (.pointer (some ⟨b,o,none⟩))) (k:c=true->RdN G μ b o cs) (r:c=true->cs.length=m)
  (h:Wo dr mc P n l K σ ((d,c,.agg cs.toArray) :: ρ) G μ):Wo dr mc P n l K (i :: σ) ρ G μ :=
 .read q (.inl rfl) v (fun e a w y j=>by simp [execOp,f.eval y e,Instr.loadAt,Instr.sureAddr,mW A (k e) (r e) j]) h
def al {T:TypeId} {cs:List Value} (f:nth l i=some ⟨some d,.alloc T,t,p,af,none⟩) (c:dK P T=some cs) (h:∀ b,Wo dr mc P n l K σ ((d,true,.pointer (some ⟨b,0,none⟩)) :: ρ) G (.blk b (cl cs T) :: μ)):Wo dr mc P n l K (i :: σ) ρ G μ:=by
 unfold dK at c;cases a:(P.info? T).bind (·.zero) with
 | none=>simp_all
 | some z =>
  rw [a] at c;simp only [wx,Option.some.injEq] at c;subst c;refine .make (ob:=cl z.cells.toList T) (mkv:=fun b=>.pointer (some ⟨b,0,none⟩)) f (.inl rfl) rfl (fun e w=>?_) h;rw [aMN a]
def bx {T:TypeId} {x:Operand} {v:Value} {cs:List Value} (f:nth l i=some ⟨some d,.box T x,t,p,af,none⟩) (c:Ev ρ true x v) (e:v.cells=cs.toArray) (h:∀ b,Wo dr mc P n l K σ ((d,true,.pointer (some ⟨b,0,none⟩)) :: ρ) G (.blk b (cl cs T) :: μ)):Wo dr mc P n l K (i :: σ) ρ G μ :=
 .box (ob:=cl cs T) (mkv:=fun b=>.pointer (some ⟨b,0,none⟩)) f (.inl rfl) .no (fun a w g=>by simp [execOp,c.eval g rfl,Instr.box,newVar,newRow,e,cl]) h
def put (cs:List Value) (o:Nat) (vs:List Value):List Value:=cs.take o++vs++cs.drop (o+vs.length)
def Tr.setRow {G:PM} {w:World} {b:Nat} {cs cs':List Value} {T:TypeId} (h:Sat G [.blk b (cl cs T)] w):Tr G [b] w G [.blk b (cl cs' T)] (w.setRow b cs'.toArray):=by
 have f:w.heap[b]? = some (cl cs T):=h.own _ (qd.2 rfl);have g:G b=none:=h.apart b (by simp [keys,Res.keys]);refine ⟨⟨fun k o a=>?_,?_,fun k a=>?_,by simp [keys,Res.keys]⟩,rfl,rfl,rfl,by simp,fun k _ a=>⟨setRow_other w b k _ (by simp_all),rfl⟩,fun k a=>.inl (by trivial),fun _ _ _ h=>h⟩
 ·rw [setRow_other w b k _ (fun e=>by simp_all)]; exact h.sub k o a
 ·intro r c;rw [qd.1 c];exact setRow_heap w b cs.toArray cs'.toArray T (0,0) f
 simp_all[keys,Res.keys]
theorem st {T e:TypeId} {x:Operand} {b o:Nat} {v:Value} {cs vs:List Value} {c:aB} (E:nth l i=some ⟨none,.store T x y,t,p,af,none⟩) (A:Ev ρ true x (.pointer (some ⟨b,o,none⟩))) (r:Ev ρ true y v) (C:v.cells=vs.toArray) (j:jC P T=some vs.length) (hm:MTake μ (.blk b (cl cs e)) c) (H:o+vs.length<=cs.length) (h1:∀ u∈vs,u.oneCell'=true) (h:Wo dr mc P n l K σ ρ G (.blk b (cl (put cs o vs) e) :: c)):Wo dr mc P n l K (i :: σ) ρ G μ:=by
 refine .act (μ₁:=[.blk b (cl cs e)]) (μ₂:=c) (post:=fun q c v=>q=G∧c=[.blk b (cl (put cs o vs) e)]∧v=undef) E (.inl rfl) .no hm.perm (fun a w m D=>.inl ?_) ?_
 ·have f:=D.left;have F:w.heap[b]? = some (cl cs e):=f.own _ (qd.2 rfl);refine ⟨undef,w.setRow b (put cs o vs).toArray,G,_,.inr ⟨?_,rfl⟩,Tr.setRow f,rfl,rfl,rfl⟩;cases k:P.info? T with
  | none=>simp_all[jC]
  | some inf =>
   simp only [jC,k,wx,Option.some.injEq] at j;have:=run_storeCells_at P b o e vs 0 cs.toArray w F om h1;simp only [yj] at this;simp [execOp,A.eval m rfl,r.eval m rfl,Instr.storeAt,Instr.sureAddr,storeVar,C,sizeOf,typeInfo,k,j,this,put]
 rintro v q g _ ⟨rfl,rfl,rfl⟩;exact h
theorem sw {T c:TypeId} {x:Operand} {b:Nat} {v:Value} {cs vs:List Value} {a:aB} (k:nth l i=some ⟨none,.store T x y,t,p,af,none⟩) (g:Ev ρ true x (.pointer (some ⟨b,0,none⟩))) (f:Ev ρ true y v) (j:v.cells=vs.toArray) (e:jC P T=some vs.length) (hm:MTake μ (.blk b (cl cs c)) a) (m:vs.length=cs.length) (h1:∀ u∈vs,u.oneCell'=true) (h:Wo dr mc P n l K σ ρ G (.blk b (cl vs c) :: a)):Wo dr mc P n l K (i :: σ) ρ G μ:=by
 grind[st,put]
theorem s1 {T e:TypeId} {x:Operand} {b o:Nat} {v:Value} {cs:List Value} {a:aB} (m:nth l i=some ⟨none,.store T x y,t,p,af,none⟩) (j:Ev ρ true x (.pointer (some ⟨b,o,none⟩))) (g:Ev ρ true y v) (k:v.oneCell'=true) (f:jC P T=some 1) (hm:MTake μ (.blk b (cl cs e)) a) (w:o<cs.length) (q:cs.set o v=cs') (h:Wo dr mc P n l K σ ρ G (.blk b (cl cs' e) :: a)):Wo dr mc P n l K (i :: σ) ρ G μ:=by
 have c:v.cells=[v].toArray:=by cases v<;>first|rfl | cases k
 refine st m j g c f hm (by grind) (fun u r=>by simp_all) ?_;simp_all[put,ja]
def dL {ρ:aF} {n:Fm} {c:Bool}:∀ a,Ag n ρ a->c=true->([]:List Operand).map a.eval=[]:=fun _ _ _=>rfl
def Eva.cons {ρ:aF} {n:Fm} {c:Bool} {x:Operand} {v:Value} {e:List Operand} {vs:List Value} (f:Ev ρ c x v) (h:∀ a,Ag n ρ a->c=true->e.map a.eval=vs) :
  ∀ a,Ag n ρ a->c=true->(x :: e).map a.eval=v :: vs:=fun a i g=>by simp [f.eval i g]; simp_all
def eT (P:Program) (f:FuncId):Bool:=match P.funcs[f]? with | some fn => !(fn.name == "runtime.NumGoroutine")&&fn.body.isSome | none=>false
theorem aBz {P:Program} {f:FuncId} {vs:Array Value} (a:eT P f=true) (w:World):(callFunc f vs).run P w=.ok (.enter f vs) w:=by
 unfold eT at a;split at a
 ·rename_i fn e;simp only [qi,wv] at a;unfold callFunc;cases c:fn.body<;>simp_all[]
 ·cases a
def aBy {P:Program} {f:FuncId} {xs:List Operand} {c:Array TypeId} {vs:List Value} {a:Act} (i:eT P f=true) (h:xs.map a.eval=vs) (d:Option Nat) (t:TypeId) (p:String) (e:Array Edge) (g:Option (Nat×Bool)) (w:World) :
  (execOp a.eval ⟨d,.call { callee:=.value (.func f),args:=xs.toArray,argTypes:=c },t,p,e,g⟩).run P w=.ok (.enter f vs.toArray) w:=by
 simp_all[execOp,resolve,Deferred.ofValue,Act.eval,invoke,aBz]
theorem kv {f:FuncId} {xs:List Operand} {e:Array TypeId} {vs:List Value} {v:Value} (q:nth l i=some ⟨some d,.call { callee:=.value (.func f),args:=xs.toArray,argTypes:=e },t,p,af,g⟩) (x:Gd l ρ g c) (y:eT P f=true)
  (k:∀ a,Ag n ρ a->c=true->xs.map a.eval=vs) (r:c=true->Ct P f vs.toArray G [] fun _ μ' u=>μ'=[]∧u=v) (h:Wo dr mc P n l K σ ((d,c,v) :: ρ) G μ):Wo dr mc P n l K (i :: σ) ρ G μ :=
 .callv q (by grind[bB]) x (fun j a w A=>aBy y (k a A j) _ _ _ _ _ _) (fun j _ m=>⟨m.sub,r j⟩) h
structure GpR (G:PM) (μ:aB) (Gp:PM) (Q:Prop):Prop where
 ok:∀ w,Sat G μ w→PM.le G Gp∧Q∧(∀ b o,Gp b=some o→w.heap[b]? = some o)∧∀ b,b∉keys μ→Gp b=G b
theorem kp {f:FuncId} {xs:List Operand} {e:Array TypeId} {vs:List Value} {v:Value} {Gp:PM} {Q:Prop} (r:nth l i=some ⟨some d,.call { callee:=.value (.func f),args:=xs.toArray,argTypes:=e },t,p,af,g⟩) (y:Gd l ρ g c) (A:eT P f=true)
  (q:∀ a,Ag n ρ a->c=true->xs.map a.eval=vs) (k:GpR G μ Gp Q) (x:c=true->PM.le G Gp->Q->Ct P f vs.toArray Gp [] fun _ μ' u=>μ'=[]∧u=v) (h:Wo dr mc P n l K σ ((d,c,v) :: ρ) G μ):Wo dr mc P n l K (i :: σ) ρ G μ :=
 .callv r (by grind[bB]) y (fun m a w C=>aBy A (q a C m) _ _ _ _ _ _) (fun m w j=>⟨(k.ok w j).2.2.1,x m (k.ok w j).1 (k.ok w j).2.1⟩) h
theorem Gp.nil {G:PM} {μ:aB}:GpR G μ G True:=⟨fun _ a=>⟨PM.le.refl _,trivial,a.sub,fun _ _=>rfl⟩⟩
theorem Gp.add {G G1:PM} {μ a:aB} {b:Nat} {o:Obj} {Q:Prop} (hm:MTake μ (.blk b o) a) (h:GpR G a G1 Q):GpR G μ (G1.add b o) (PM.le G1 (G1.add b o)∧Q):=by
 refine ⟨fun w j=>?_⟩;have e:=j.perm hm.perm;have r:keys (.blk b o :: a)=b :: keys a:=by rfl
 have g:Sat G a w:=Sat.left (ν:=[.blk b o]) (e.perm (x5 (l₁:=[Res.blk b o])));obtain ⟨q,p,y,x⟩:=h.ok w g;have t:w.heap[b]? = some o:=e.own _ (qh ..);have n:G b=none:=e.apart b (by simp_all);have k:b∉keys a:=by have:=e.nodup; simp_all
 have f:PM.le G1 (G1.add b o):=PM.le_add (by simp_all);refine ⟨q.trans f,⟨f,p⟩,fun c u i=>?_,fun c i=>?_⟩
 ·grind[PM.add]
 have m:c≠b∧c∉keys a:=by
  have v:c∉b :: keys a:=fun l=>i ((zY hm.perm).mem_iff.2 (by simp_all));simp_all
 simp_all[PM.add]
theorem kc {f:FuncId} {xs:List Operand} {c:Array TypeId} {vs:List Value} {e:Option Nat} (j:nth l i=some ⟨e,.call { callee:=.value (.func f),args:=xs.toArray,argTypes:=c },t,p,af,none⟩) (m:eT P f=true) (g:∀ a,Ag n ρ a->true=true->xs.map a.eval=vs) (k:Ct P f vs.toArray G [] post) (h:∀ v G' μ',PM.le G G'->post G' μ' v->Wo dr mc P n l K σ (bV ρ e true v) G' (μ'++μ)):Wo dr mc P n l K (i :: σ) ρ G μ :=
 .call j (by grind[bB]) .no (fun a w q=>aBy m (g a q rfl) _ _ _ _ _ _) k h
def ka {f:FuncId} {xs:List Operand} {e:Array TypeId} {vs:List Value} {μ₁ μ₂:aB} {g:Option Nat} (m:nth l i=some ⟨g,.call { callee:=.value (.func f),args:=xs.toArray,argTypes:=e },t,p,af,none⟩) (hm:mc.c=true∨dr=false) (r:eT P f=true) (j:∀ a,Ag n ρ a->true=true->xs.map a.eval=vs) (k:μ.Perm (μ₁++μ₂)) (q:Ct P f vs.toArray G μ₁ post) (h:∀ v G' μ',PM.le G G'->post G' μ' v->Wo dr mc P n l K σ (bV ρ g true v) G' (μ'++μ₂)):Wo dr mc P n l K (i :: σ) ρ G μ :=
 .act m (by simp_all[bB]) .no k (fun a w x _=>.inr ⟨f,_,aBy r (j a x rfl) _ _ _ _ _ _,q⟩) h
def xQ {f:FuncId} {xs:List Operand} {e:Array TypeId} {vs:List Value} {μ₁ μ₂:aB} {j:Option Nat} (q:nth l i=some ⟨j,.call { callee:=.value (.func f),args:=xs.toArray,argTypes:=e },t,p,af,g⟩) (x:Gd l ρ g true) (hm:mc.c=true∨dr=false) (y:eT P f=true) (k:∀ a,Ag n ρ a->true=true->xs.map a.eval=vs) (m:μ.Perm (μ₁++μ₂)) (r:Ct P f vs.toArray G μ₁ post) (h:∀ v G' μ',PM.le G G'->post G' μ' v->Wo dr mc P n l K σ (bV ρ j true v) G' (μ'++μ₂)):Wo dr mc P n l K (i :: σ) ρ G μ :=
 .act q (by simp_all[bB]) x m (fun a w A _=>.inr ⟨f,_,aBy y (k a A rfl) _ _ _ _ _ _,r⟩) h
end
def iT {ρ:aF} {n:Fm} {c:Bool} {x:Operand} {v:Value} {e:List Operand} {vs:List Value} (f:ev ρ x=some (true,v)) (h:∀ a,Ag n ρ a->c=true->e.map a.eval=vs):∀ a,Ag n ρ a->c=true->(x :: e).map a.eval=v :: vs:=Eva.cons (.u f) h
def Wk.lop {k:List KI} {ρ:aF} {G:PM} {μ:aB} {c:Code} (E:α->aF) (M:α->aB) (F:α->PM->Prop) (m:α->Nat) (x0:α) (e:aF) (f:aB) (hE:ESub (E x0++e) ρ) (hM:MSub (M x0++f) μ) (j:F x0 G) (g:∀ x N h,m x=N->PM.le G h->F x h->Wk X c (.lp (fun a w=>∃ y,m y<N∧Inv X G (fun x=>E x++e) (fun x=>M x++f) F y a w) :: k) (E x++e) h (M x++f)):Wk X (.loop c) k ρ G μ :=
 Wk.loop (fun x=>E x++e) (fun x=>M x++f) F m x0 j hE hM fun x h i j=>g x (m x) h rfl i j
def We.lpo {k:List KI} {ρ:aF} {G:PM} {μ:aB} {g:PM} {E:α->aF} {M:α->aB} {F:α->PM->Prop} {m:α->Nat} {N:Nat} {c:aF} {e:aB} (y:α) (hE:ESub (E y++c) ρ) (hM:MSub (M y++e) μ) (hm:m y<N) (f:PM.le g G) (hF:F y G) :
  We X .normal (.lp (fun a w=>∃ y,m y<N∧Inv X g (fun x=>E x++c) (fun x=>M x++e) F y a w) :: k) ρ G μ :=
 ⟨fun _ _ i h=>⟨y,hm,⟨G,f,hF,i.sub hE,hM.tr h⟩⟩⟩
def vF {k:List KI} {ρ:aF} {G:PM} {μ:aB} {x y:Code} {a:Operand} {b:Bool} (c:ev ρ a=some (true,.bool b)) (e:b=true) (h:Wk X x k ρ G μ):Wk X (.cond a x y) k ρ G μ :=
 Wk.cond c (fun _=>h) (fun f=>by simp_all)
def aPj {k:List KI} {ρ:aF} {G:PM} {μ:aB} {x y:Code} {a:Operand} {b:Bool} (c:ev ρ a=some (true,.bool b)) (e:b=false) (h:Wk X y k ρ G μ):Wk X (.cond a x y) k ρ G μ :=
 Wk.cond c (fun f=>by simp_all) (fun _=>h)
def Wk.rg {k:List KI} {ρ:aF} {G:PM} {μ:aB} {f:Nat} (e:List Nat) (a:List.range l.length=e) (c:tR X.n l=true) (h:Wo false ⟨false,false⟩ X.P X.n l (fun ρ G μ=>We X .normal k ρ G μ) e ρ G μ) :
  Wk X (.region f l.toArray false) k ρ G μ:=Wk.region c (a▸h)
def RdNP.z {G:PM} {b k:Nat} {cs:List Value} {v:Value} (h:RdNP G b 0 cs) (a:cs[k]? = some v):RdP G ⟨b,k,none⟩ v:=by have:=h k v a; simp_all
structure Sh where
 oa:Option Addr
 cap:Nat
def Sh.b (h:Sh):Nat:=(h.oa.getD ⟨0,0,none⟩).block
def Sh.o (h:Sh):Nat:=(h.oa.getD ⟨0,0,none⟩).off
def Sh.val (h:Sh) (n:Nat):Value:=.slice h.oa n h.cap
structure SlR {α:Type} (G:PM) (sz:Nat) (enc:α→List Value) (h:Sh) (xs:List α):Prop where
 there:xs≠[]→h.oa=some ⟨h.b,h.o,none⟩
 le:xs.length≤h.cap
 rd:∀ i x,xs[i]? = some x→RdNP G h.b (h.o+i*sz) (enc x)
def SlR.mono {α:Type} {G c:PM} {sz:Nat} {enc:α->List Value} {h:Sh} {xs:List α} (s:SlR G sz enc h xs) (a:PM.le G c):SlR c sz enc h xs :=
 ⟨s.there,s.le,fun i x e=>(s.rd i x e).mono a⟩
def SlR.nn {G:PM} {h:Sh} {xs:List α} (s:SlR G sz enc h xs) {k:Nat} (a:k<xs.length):h.oa=some ⟨h.b,h.o,none⟩:=s.there (fun e=>by simp_all)
def SlR.at {G:PM} {h:Sh} {xs:List α} (s:SlR G sz enc h xs) {j:Int} {k:Nat} {x:α} (c:j.toNat=k) (a:xs[k]? = some x):RdNP G h.b (h.o+j.toNat*sz) (enc x):=by
 subst c; exact s.rd _ x a
theorem dD {G:PM}:SlR G sz enc ⟨Option.none,0⟩ ([]:List α):=⟨fun h=>absurd rfl h,by simp,fun i x h=>by grind⟩
section
variable {dr:Bool} {mc:Md} {P:Program} {n:Fm} {l:List Oper} {K:aF→PM→aB→Prop} {i:Nat} {σ:List Nat} {ρ:aF} {G:PM} {μ:aB}
variable {d t:Nat} {p:String} {af:Array Edge} {g:Option (Nat×Bool)} {c:Bool}
def ih {T r:Nat} {x:Operand} {s:Sh} {j:Int} (F:nth l i=some ⟨some d,.indexAddr T x y,t,p,af,g⟩) (J:Gd l ρ g c) (L:bY P T=some (e,sz,r)) (D:Ev ρ c x (s.val m)) (C:Ev ρ c y (.int k j)) (M:c=true->0<=j) (h1:c=true->j<m) (H:c=true->s.oa=some ⟨s.b,s.o,none⟩) (h:Wo dr mc P n l K σ ((d,c,.pointer (some ⟨s.b,s.o+j.toNat*sz,none⟩)) :: ρ) G μ):Wo dr mc P n l K (i :: σ) ρ G μ :=
 .pure F (.inl rfl) J (fun q a w v=>by
  obtain ⟨E,A,I,rfl,rfl⟩:=fW L;have f:=D.eval v q;simp only [Sh.val] at f;rw [H q] at f;simp [execOp,f,C.eval v q,Instr.indexAt,asIntOf,run_underlying E,M q,h1 q,sizeOf,typeInfo,I,jS]) h
def Sh.cut (s:Sh) (lo sz:Nat):Sh:=⟨if s.cap=lo then s.oa else s.oa.map (·.add (lo*sz)),s.cap-lo⟩
def sc {T A:Nat} {x z:Operand} {D:IntKind} {s:Sh} {lo q:Int} (L:nth l i=some ⟨some d,.slice T x (some y) (some z) none,t,p,af,g⟩) (M:Gd l ρ g c) (N:bY P T=some (e,sz,A)) (I:Ev ρ c x (s.val m)) (H:Ev ρ c y (.int k lo)) (F:Ev ρ c z (.int D q)) (C:c=true->0<=lo) (h1:c=true->lo<=q) (h2:c=true->q<=s.cap) (h:Wo dr mc P n l K σ ((d,c,(s.cut lo.toNat sz).val (q.toNat-lo.toNat)) :: ρ) G μ):Wo dr mc P n l K (i :: σ) ρ G μ :=
 .pure L (.inl rfl) M (fun f a w v=>by
  obtain ⟨J,E,r,rfl,rfl⟩:=fW N;have j:=I.eval v f;simp only [Sh.val] at j;have:=C f; have:=h1 f; have:=h2 f;simp [execOp,j,H.eval v f,F.eval v f,Instr.sliceAt,run_underlying J,Instr.slice,Instr.sliceBounds,Instr.sliceBound,asIntOf,show 0<=q by omega,C f,h2 f,sizeOf,typeInfo,r,Sh.val,Sh.cut];omega) h
def scn {T C q:Nat} {x z:Operand} {E:IntKind} {s:Sh} {lo r:Int} (N:nth l i=some ⟨some d,.slice T x (some y) (some z) none,t,p,af,g⟩) (O:Gd l ρ g c) (Q:bY P T=some (e,sz,C)) (J:Ev ρ c x (s.val m)) (I:Ev ρ c y (.int k lo)) (H:Ev ρ c z (.int E r)) (D:c=true->0<=lo) (h1:c=true->lo<=r) (h2:c=true->r<=s.cap) (M:c=true->r.toNat-lo.toNat=q) (h:Wo dr mc P n l K σ ((d,c,(s.cut lo.toNat sz).val q) :: ρ) G μ):Wo dr mc P n l K (i :: σ) ρ G μ :=
 .pure N (.inl rfl) O (fun f a w A=>by
  obtain ⟨L,F,v,rfl,rfl⟩:=fW Q;have j:=J.eval A f;simp only [Sh.val] at j;have:=D f; have:=h1 f; have:=h2 f;rw [← M f];simp [execOp,j,I.eval A f,H.eval A f,Instr.sliceAt,run_underlying L,Instr.slice,Instr.sliceBounds,Instr.sliceBound,asIntOf,show 0<=r by omega,D f,h2 f,sizeOf,typeInfo,v,Sh.val,Sh.cut];omega) h
def ix {T:Nat} {x:Operand} {cs:List Value} {j:Int} {v:Value} (H:nth l i=some ⟨some d,.index T x y,t,p,af,g⟩) (J:Gd l ρ g c) (L:nD P T=some (m,e,1)) (hE:nA P e=some none) (C:Ev ρ c x (.agg cs.toArray)) (A:Ev ρ c y (.int k j)) (M:c=true->0<=j) (h1:c=true->j<m) (D:c=true->cs[j.toNat]? = some v) (h:Wo dr mc P n l K σ ((d,c,v) :: ρ) G μ):Wo dr mc P n l K (i :: σ) ρ G μ :=
 .pure H (.inl rfl) J (fun f a w q=>by
  obtain ⟨E,r,I,F⟩:=vH L;simp [execOp,C.eval q f,A.eval q f,Instr.index,asIntOf,run_underlying E,M f,h1 f,sizeOf,typeInfo,I,F,part,aH5 hE,D f]) h
def mA {T:TypeId} {x:Operand} {f e:Int} (v:nth l i=some ⟨some d,.call { callee:=.builtin .max,args:=#[x,y],argTypes:=#[T,C] },t,p,af,g⟩) (A:Gd l ρ g c) (r:Ev ρ c x (.int k f)) (q:Ev ρ c y (.int k e)) (h:Wo dr mc P n l K σ ((d,c,.int k (if e > f then e else f)) :: ρ) G μ):Wo dr mc P n l K (i :: σ) ρ G μ :=
 .read v (.inl rfl) A (fun j a w m _=>by
  simp [execOp,resolve,invoke,builtin,r.eval m j,q.eval m j,Builtin.max_,Builtin.max2]) h
def mI {T:TypeId} {x:Operand} {f e:Int} (v:nth l i=some ⟨some d,.call { callee:=.builtin .min,args:=#[x,y],argTypes:=#[T,C] },t,p,af,g⟩) (A:Gd l ρ g c) (r:Ev ρ c x (.int k f)) (q:Ev ρ c y (.int k e)) (h:Wo dr mc P n l K σ ((d,c,.int k (if e<f then e else f)) :: ρ) G μ):Wo dr mc P n l K (i :: σ) ρ G μ :=
 .read v (.inl rfl) A (fun j a w m _=>by
  simp [execOp,resolve,invoke,builtin,r.eval m j,q.eval m j,Builtin.min_,Builtin.min2]) h
theorem kf {f:FuncId} {q:Operand} {xs:List Operand} {j:Array TypeId} {vs vc:List Value} {v:Value} (y:nth l i=some ⟨some d,.call { callee:=.value q,args:=xs.toArray,argTypes:=j },t,p,af,g⟩) (C:Gd l ρ g c) (k:Ev ρ c q (.func (.func f) #[] vc.toArray)) (D:eT P f=true)
  (r:∀ a,Ag n ρ a->c=true->xs.map a.eval=vs) (A:c=true->Ct P f (vs++vc).toArray G [] fun _ μ' u=>μ'=[]∧u=v) (h:Wo dr mc P n l K σ ((d,c,v) :: ρ) G μ):Wo dr mc P n l K (i :: σ) ρ G μ :=
 .callv y (by grind[bB]) C (fun e a w m=>by
  have E:=r a m e;simp [execOp,resolve,Deferred.ofValue,k.eval m e,invoke,aBz D];omega) (fun e _ x=>⟨x.sub,A e⟩) h
def Sat.mapOf {b:Nat} {m:Int->Option Value} {a:aB} {w:World} (c:Sat G μ w) (hm:MTake μ (.mp b q m) a):∃ es clock,w.heap[b]? = some (.map es clock)∧qN q es.toList∧∀ k,jN q es.toList k=m k :=
 c.own (.mp b q m) (hm.perm.mem_iff.2 (qh ..))
theorem aFV {q:IntKind} {k:Int}:∀ (es:List MapEntry) (i:Nat),qN q es ->
  ∃ r,Instr.findNow (.int q) (.int q k) es i=some r∧r.map (·.2)=jN q es k∧∀ j v,r=some (j,v)->i<=j∧∃ e,es[j-i]? = some e∧e.key=.int q k∧e.val=v
 | [],i,_=>⟨none,rfl,rfl,fun _ _ h=>by cases h⟩
 | e :: es,i,h=>by
  obtain ⟨a,ha⟩:=h e (qh ..);by_cases f:a=k
  ·simp_all[Instr.findNow,Instr.sameNow,jN]
  ·obtain ⟨r,m,l,g⟩:=aFV (k:=k) es (i+1) (fun e c=>h e (qj _ c));grind[Instr.findNow,Instr.sameNow,jN]
def aEs {P:Program} {T:TypeId} (a:P.underlying T=some (.int q)) (e:Bool) (n:Nat) (k:Int) (w:World):(Instr.checkKey e (n+1) T (.int q k)).run P w=.ok () w:=by
 simp_all[Instr.checkKey,run_underlying]
def mpE (P:Program) (T:TypeId):Option (IntKind×TypeId) :=
 match P.underlying T with
 | some (.map k e)=>match P.underlying k with
  | some (.int q)=>some (q,e)
  | _=>none
 | _=>none
theorem aKy {P:Program} {T e:TypeId} (h:mpE P T=some (q,e)):∃ k,P.underlying T=some (.map k e)∧P.underlying k=some (.int q):=by
 unfold mpE at h;grind
theorem mk {T:TypeId} (m:nth l i=some ⟨some d,.makeMap T none,t,p,af,none⟩) (q:IntKind) (h:∀ b,Wo dr mc P n l K σ ((d,true,.map (some b)) :: ρ) G (.mp b q (fun _=>none) :: μ)):Wo dr mc P n l K (i :: σ) ρ G μ:=by
 refine .act (μ₁:=[]) (μ₂:=μ) (post:=fun x f v=>∃ b,x=G∧f=[.mp b q (fun _=>none)]∧v=.map (some b)) m (.inl rfl) .no (.refl _) (fun a w A g=>.inl ?_) ?_
 ·have c:Tr G (keys []) w G (.blk w.heap.size (.map #[] 0) :: []) (w.alloc (.map #[] 0)):=(gX (Sat.left (μ:=[]) g)).alloc _;refine ⟨.map (some w.heap.size),w.alloc (.map #[] 0),G,[.mp w.heap.size q (fun _=>none)],.inl (by rfl),?_,w.heap.size,rfl,rfl,rfl⟩;refine { c with sat:=⟨c.sat.sub,fun r j=>?_,c.sat.apart,c.sat.nodup⟩,mine:=c.mine };rw [qd.1 j];exact ⟨#[],0,heap_alloc_new w _,fun e y=>by grind,fun k=>rfl⟩
 simp_all[bV]
theorem lk {T e:TypeId} {x:Operand} {b:Nat} {m:Int->Option Value} {k:Int} {z:Value} {A:aB} (Q:nth l i=some ⟨some d,.lookup T x y false,t,p,af,g⟩) (S:Gd l ρ g c) (X:mpE P T=some (q,e)) (hz:(P.info? e).bind (·.zero)=some z) (N:Ev ρ c x (.map (some b))) (M:Ev ρ c y (.int q k)) (hm:MTake μ (.mp b q m) A) {v:Value} (F:(m k).getD z=v) (h:Wo dr mc P n l K σ ((d,c,v) :: ρ) G μ):Wo dr mc P n l K (i :: σ) ρ G μ :=
 .read Q (.inl rfl) S (fun H a w I O=>by
  obtain ⟨kt,h1,L⟩:=aKy X;obtain ⟨es,f,h3,h4,J⟩:=O.mapOf hm;obtain ⟨r,Z,h7,_⟩:=aFV (k:=k) es.toList 0 h4;have C:(zeroValue e).run P w=.ok z w:=by
   cases hi:P.info? e<;>simp_all[zeroValue,typeInfo]
  have D:(getObj b).run P w=.ok (.map es f) w:=by grind[getObj,Sem.run]
  simp only [execOp,N.eval I H,M.eval I H,Instr.lookup,Sem.run_bind,run_underlying h1,Result.andThen_ok,D,Sem.run_pure,aEs L,Instr.findKey,run_underlying L,Z];cases r with
  | none =>
   have E:jN q es.toList k=none:=by simp_all
   simp [C,←F,←J k,E]
  | some jv =>
   obtain ⟨j,v⟩:=jv;have E:jN q es.toList k=some v:=by simp_all
   simp [← F,←J k,E]) h
theorem aKk {q:IntKind} {k:Int} {v:Value} {c:Nat}:∀ (es:List MapEntry),qN q es->jN q es k=none->∀ k',jN q (es++[⟨.int q k,v,c⟩]) k'=if k'=k then some v else jN q es k'
 | [],_,_,k'=>by
  grind[jN]
 | e :: es,h,hn,k'=>by
  obtain ⟨a,ha⟩:=h e (qh ..);have j:qN q es:=fun e i=>h e (qj _ i);simp only [jN,ha] at hn;by_cases f:a=k
  ·simp_all
  ·simp only [f,if_false] at hn;simp only [ww,jN,ha,aKk es j hn k'];by_cases g:a=k'
   ·subst g; simp [f]
   ·simp [g]
theorem aKj {q:IntKind} {k:Int} {v f:Value}:∀ (es:List MapEntry) (i j:Nat),qN q es->Instr.findNow (.int q) (.int q k) es i=some (some (j,f)) ->
  i<=j∧(∀ c,jN q (es.modify (j-i) fun e=>{ e with key:=.int q k,val:=v }) c=if c=k then some v else jN q es c)∧qN q (es.modify (j-i) fun e=>{ e with key:=.int q k,val:=v })
 | [],i,j,_,h=>by grind[Instr.findNow]
 | e :: es,i,j,ho,h=>by
  obtain ⟨a,ha⟩:=ho e (qh ..);have n:qN q es:=fun e l=>ho e (qj _ l);by_cases g:a=k
  ·subst g;simp only [Instr.findNow,Instr.sameNow,ha,if_true,beq_self_eq_true,Option.some.injEq,Prod.mk.injEq] at h;obtain ⟨rfl,rfl⟩:=h;refine ⟨qc _,fun c=>?_,?_⟩
   ·simp only [Nat.sub_self,List.modify_zero_cons,jN,ha];grind
   simp_all[qN]
  have m:(k == a)=false:=by grind
  simp only [Instr.findNow,Instr.sameNow,ha,if_true,m] at h;obtain ⟨t,r,p⟩:=aKj (v:=v) es (i+1) j n h;rw [show j-i=(j-(i+1))+1 by omega];refine ⟨om,fun c=>?_,?_⟩
  ·grind[jN]
  simp_all[qN]
theorem mu {T e:TypeId} {x z:Operand} {b:Nat} {m:Int->Option Value} {k:Int} {v:Value} {μ':aB} (ho:nth l i=some ⟨none,.mapUpdate T x y z,t,p,af,none⟩) (hT:mpE P T=some (q,e)) (hx:Ev ρ true x (.map (some b))) (hy:Ev ρ true y (.int q k)) (hz:Ev ρ true z v) (hm:MTake μ (.mp b q m) μ') (h:Wo dr mc P n l K σ ρ G (.mp b q (fun j=>if j=k then some v else m j) :: μ')):Wo dr mc P n l K (i :: σ) ρ G μ:=by
 refine .act (μ₁:=[.mp b q m]) (μ₂:=μ') (post:=fun G' μ' u=>G'=G∧μ'=[.mp b q (fun j=>if j=k then some v else m j)]∧u=undef) ho (.inl rfl) .no hm.perm (fun a w ha hs=>.inl ?_) ?_
 ·have hs':=hs.left;obtain ⟨es,clock,h3,h4,h5⟩:=hs'.own (.mp b q m) (qd.2 rfl);obtain ⟨kt,h1,h2⟩:=aKy hT;obtain ⟨r,h6,h7,h8⟩:=aFV (k:=k) es.toList 0 h4;have hgo:(getObj b).run P w=.ok (.map es clock) w:=by grind[getObj,Sem.run]
  have hset:∀ o,(setObj b o).run P w=.ok () { w with heap:=w.heap.setIfInBounds b o }:=fun o=>by grind[setObj,Sem.run]
  have hlt:b<w.heap.size:=(xg.1 h3).1;have hG:G b=none:=hs'.apart b (by simp [keys,Res.keys]);have key:∀ es' clock',qN q es'.toList->(∀ k',jN q es'.toList k'=if k'=k then some v else m k') ->
    Tr G (keys [.mp b q m]) w G [.mp b q (fun j=>if j=k then some v else m j)] { w with heap:=w.heap.setIfInBounds b (.map es' clock') }:=by
   intro es' clock' hok hget;refine ⟨⟨fun c o hc=>?_,fun r hr=>?_,fun c hc=>?_,by simp [keys,Res.keys]⟩,rfl,rfl,rfl,by simp,fun c _ hc=>⟨?_,rfl⟩,fun c hc=>.inl hc,fun _ _ _ h=>h⟩
   ·show (w.heap.setIfInBounds b _)[c]? = _;rw [jo (fun e=>by simp_all)];exact hs'.sub c o hc
   ·simp_all[Res.sat]
   ·simp_all[keys,Res.keys]
   grind[keys,Res.keys]
  cases r with
  | none =>
   have h9:jN q es.toList k=none:=by simp_all
   refine ⟨undef,_,G,_,.inr ⟨?_,rfl⟩,key (es.push ⟨.int q k,v,clock⟩) (clock+1) ?_ ?_,rfl,rfl,rfl⟩
   ·simp only [execOp,hx.eval ha rfl,hy.eval ha rfl,hz.eval ha rfl,Instr.mapUpdate,Sem.run_bind,run_underlying h1,Result.andThen_ok,hgo,Sem.run_pure,aEs h2,Instr.findKey,run_underlying h2,h6,hset]
   ·intro e' he';rw [Array.toList_push] at he';rcases qn.1 he' with he' | he'
    ·exact h4 e' he'
    simp_all
   simp_all[aKk]
  | some jv =>
   obtain ⟨j,v0⟩:=jv;obtain ⟨_,hg2,hok2⟩:=aKj (v:=v) es.toList 0 j h4 h6;obtain ⟨_,e',he1,he2,_⟩:=h8 j v0 rfl;rw [jq] at hg2 hok2 he1;have he3:es[j]? = some e':=by simp_all
   refine ⟨undef,_,G,_,.inr ⟨?_,rfl⟩,key (es.modify j fun e=>{ e with key:=.int q k,val:=v }) clock ?_ ?_,rfl,rfl,rfl⟩
   ·have hsb:Instr.sameBits 10000 (.int q k) (.int q k)=true:=by simp[Instr.sameBits]
    simp only [execOp,hx.eval ha rfl,hy.eval ha rfl,hz.eval ha rfl,Instr.mapUpdate,Sem.run_bind,run_underlying h1,Result.andThen_ok,hgo,Sem.run_pure,aEs h2,Instr.findKey,run_underlying h2,h6,hset,he3,wx,Option.getD_some,he2,Instr.keyThatStays,hsb,if_true]
   ·simp_all
   simp_all
 simp_all[bV]
def wW {G:PM} {w:World} {b:Nat} {cs cs':Array Value} {T:TypeId} (h:Sat G [.blk b (.cells cs T (0,0))] w):Tr G [b] w G [.blk b (.cells cs' T (0,0))] (w.setRow b cs'):=by
 have:=Tr.setRow (cs':=cs'.toList) (h:=(by omega:Sat G [.blk b (cl cs.toList T)] w));omega
def Tr.asRow {f G:PM} {w:World} {μ:aB} {b:Nat} {a:Array Value} (h:Tr f K0 w0 G (.blk b (.cells a E (0,0)) :: μ) w) (i:xs.length=m*sz) (j:m<=cap) (hm:cap<=maxLen) (g:a.size=cap*sz) (ht:a.toList.take (m*sz)=xs) :
  Tr f K0 w0 G (.row (.slice (some ⟨b,0,none⟩) m cap) E sz m xs :: μ) w:=by
 have e:keys (.row (.slice (some ⟨b,0,none⟩) m cap) E sz m xs :: μ)=keys (.blk b (.cells a E (0,0)) :: μ):=by rfl
 have k:w.heap[b]? = some (.cells a E (0,0)):=h.sat.own _ (qh ..);refine { h with sat:=⟨h.sat.sub,fun r c=>?_,by rw [e]; exact h.sat.apart,by rw [e]; exact h.sat.nodup⟩,mine:=by rw [e]; exact h.mine };rcases qe.1 c with rfl | c
 ·exact ⟨i,.inr ⟨b,cap,a,rfl,qo _,k,j,hm,g,ht⟩⟩
 exact h.sat.own r (qj _ c)
def Tr.nilRow {e G:PM} {w:World} {μ:aB} (h:Tr e K0 w0 G μ w):Tr e K0 w0 G (.row (.slice none 0 0) E sz 0 [] :: μ) w:=by
 have c:keys (.row (.slice none 0 0) E sz 0 [] :: μ)=keys μ:=by rfl
 refine { h with sat:=⟨h.sat.sub,fun r a=>?_,by rw [c]; exact h.sat.apart,by rw [c]; exact h.sat.nodup⟩,mine:=by rw [c]; exact h.mine };rcases qe.1 a with rfl | a
 ·exact World.ownsRow_nil w 0 E sz
 exact h.sat.own r a
def aOF {c:Code} {k:List KI} (E sz:Nat) (h:Wk X c k ρ G (.row (.slice none 0 0) E sz 0 [] :: μ)):Wk X c k ρ G μ:=⟨fun a w f e=>h.out a w f e.nilRow⟩
def aN9 {e:Exit} {k:List KI} (E sz:Nat) (h:We X e k ρ G (.row (.slice none 0 0) E sz 0 [] :: μ)):We X e k ρ G μ:=⟨fun a w f c=>h.out a w f c.nilRow⟩
theorem aAU {T ty H:Nat} {v:Value} {k cp:Nat} {news:List Value} {oa:Option Addr} {z:Value} {w:World} (hT:bY P T=some (E,sz,H)) (I:(P.info? E).bind (·.zero)=some z) (L:z.cells.size=sz) (K:Sat G [.row v E sz m xs] w) (x:news.length=k*sz) (N:0<k->∃ b o,oa=some ⟨b,o,none⟩∧∀ j u,news[j]? = some u->w.cell? ⟨b,o+j,none⟩=some u) (h1:∀ u∈news,u.oneCell'=true) (hb:(m+k)*H<=140737488355328) (a0:m+k<=maxLen) :
  ∃ v' w',(Builtin.append_ #[T,T] ty #[v,.slice oa k cp]).run P w=.ok v' w'∧Tr G (keys [.row v E sz m xs]) w G [.row v' E sz (m+k) (xs++news)] w':=by
 obtain ⟨A,a,y,rfl,rfl⟩:=fW hT;rw [y] at I;simp only [qu] at I;have e:w.ownsRow 0 E a.size v m xs:=K.own _ (qd.2 rfl);have p:=gX K;have J:m+k<=9223372036854775807:=by trivial
 by_cases hk:k=0
 ·
  subst hk;have hn:news=[]:=wo om;subst hn;refine ⟨v,w,?_,by simp_all⟩;rcases e.2 with ⟨rfl,rfl⟩ | ⟨g,cap,i,rfl,_,Q,D,_,_,_⟩
  ·cases oa<;>simp [Builtin.append_,run_underlying A,sizeOf,typeInfo,y,Builtin.lenOf,Builtin.firstCells,loadCells,loadCellsFrom]
  cases oa<;>simp [Builtin.append_,run_underlying A,sizeOf,typeInfo,y,Builtin.lenOf,Builtin.firstCells,loadCells,loadCellsFrom,D,storeCells]
 obtain ⟨b,o,rfl,Z⟩:=N om;have h:∀ j u,news[j]? = some u->w.cell? ((⟨b,o,none⟩ : Addr).add j)=some u:=fun j u hj=>by simp_all[jS]
 have q:(xs++news).length=(m+k)*a.size:=by rw [qa,e.1,x,yv]
 have a2:∀ (f:Nat),Tr G (keys [.row v E a.size m xs]) w G [.row (.slice (some ⟨w.heap.size,0,none⟩) (m+k) (grownCap w (m+k) f E)) E a.size (m+k) (xs++news)]
   (w.drew.alloc (.cells (xs.toArray++news.toArray++Builtin.zeroCells z.cells (grownCap w (m+k) f E-(m+k))) E)):=by
  intro f;have h2:=(p.drew).alloc (.cells (xs.toArray++news.toArray++Builtin.zeroCells z.cells (grownCap w (m+k) f E-(m+k))) E);have h3:Tr G (keys [.row v E a.size m xs]) w G [.blk w.heap.size (.cells (xs.toArray++news.toArray++Builtin.zeroCells z.cells (grownCap w (m+k) f E-(m+k))) E)] _:=Tr.left (ν:=[.row v E a.size m xs]) h2;have O:=grownCap_ge w (m+k) f E;refine h3.asRow q O (grownCap_le_maxLen w (m+k) f E a0) ?_ ?_
  ·simp only [jt,zd,size_zeroCells,L,e.1,x,←yv];simp_all
  grind
 rcases e.2 with ⟨rfl,rfl⟩ | ⟨g,cap,i,rfl,_,Q,D,X,S,M⟩
 ·have hx:xs=[]:=wo (by simp_all);subst hx;have l:=run_append_nil (P:=P) w T ty E a z A y I ⟨b,o,none⟩ k cp news x h om om (by grind);grind
 by_cases n:m+k<=cap
 ·have F:m*a.size+news.length<=i.size:=by rw [x,S,←yv]; simp_all[Nat.mul_le_mul_right]
  have l:=run_append_room (P:=P) w T ty E a A y g m cap i Q ⟨b,o,none⟩ k cp news x h h1 n F;have C:Sat G [.blk g (.cells i E (0,0))] w:=⟨K.sub,fun r N=>by rw [qd.1 N]; exact Q,fun c hc=>K.apart c (by trivial),by simp [keys,Res.keys]⟩;refine ⟨_,_,l,?_⟩;have h2:=wW (cs':=(i.toList.take (m*a.size)++news++i.toList.drop (m*a.size+news.length)).toArray) C;have h3:=h2.asRow (m:=m+k) (cap:=cap) (sz:=a.size) (xs:=xs++news) q n X ?_ ?_
  ·trivial
  ·grind
  grind
 have t:∀ j u,xs[j]? = some u->w.cell? ((⟨g,0,none⟩ : Addr).add j)=some u:=e.cells (g:=g) rfl;have l:=run_append_grow (P:=P) w T ty E a z A y I ⟨g,0,none⟩ m cap xs e.1 t ⟨b,o,none⟩ k cp news x h om om (growslice_fits om hb);grind
def vJ (P:Program) (T len:Nat) (mT:List (Nat×Value)):Option (List Value) :=
 match P.underlying T with
 | some (.slice e)=>match P.info? e with
  | some i=>match i.zero with
   | some z=>if len*i.size > 2^24∨len*i.size=0 then none else
    (Instr.fill (fun j=>some (j*i.size,i.size)) ((ze (len*i.size)).map (z.cells[·%z.cells.size]!)) mT).map (·.toList)
   | none=>none
  | none=>none
 | _=>none
def bSg {T k len:Nat} {m:List (Nat×Operand)} {vs:List (Nat×Value)} {cs:List Value} (F:nth l i=some ⟨some d,.buildSlice T len m.toArray,t,p,af,g⟩) (H:Gd l ρ g true) (J:bY P T=some (E,sz,k)) (C:∀ a,Ag n ρ a->true=true->m.map (fun q=>(q.1,a.eval q.2))=vs) (f:vJ P T len vs=some cs) (h:∀ b,Wo dr mc P n l K σ ((d,true,.slice (some ⟨b,0,none⟩) len len) :: ρ) G (.blk b (cl cs E) :: μ)):Wo dr mc P n l K (i :: σ) ρ G μ :=
 .box (ob:=cl cs E) (mkv:=fun b=>.slice (some ⟨b,0,none⟩) len len) F (.inl rfl) H (fun a w I=>by
  obtain ⟨x,c,y,D,_⟩:=fW J;have L:=C a I rfl;simp only [vJ,x,y] at f;cases v:c.zero with
  | none=>simp_all
  | some z =>
   rw [v] at f;simp only at f;split at f
   ·cases f
   ·rename_i e;simp only [not_or] at e;obtain ⟨e,M⟩:=e;cases A:Instr.fill (fun j=>some (j*c.size,c.size)) ((ze (len*c.size)).map (z.cells[·%z.cells.size]!)) vs with
    | none=>simp_all
    | some r =>
     rw [A] at f;simp only [wx,Option.some.injEq] at f;subst f;simp [execOp,Instr.buildSlice,run_underlying x,sizeOf,typeInfo,y,M,e,zeroValue,v,A,L,newRow,cl]) h
def bS {T c len:Nat} {e:List (Nat×Operand)} {vs:List (Nat×Value)} {cs:List Value} (g:nth l i=some ⟨some d,.buildSlice T len e.toArray,t,p,af,none⟩) (k:bY P T=some (E,sz,c)) (f:∀ a,Ag n ρ a->true=true->e.map (fun q=>(q.1,a.eval q.2))=vs) (j:vJ P T len vs=some cs) (h:∀ b,Wo dr mc P n l K σ ((d,true,.slice (some ⟨b,0,none⟩) len len) :: ρ) G (.blk b (cl cs E) :: μ)):Wo dr mc P n l K (i :: σ) ρ G μ:=bSg g .no k f j h
def tM {v:Value} (h:v.oneCell'=true):v.cells = #[v]:=by cases v<;>first|rfl | cases h
theorem aYs:∀ (c:List Value) (cs:List Value) (o:Nat),o+c.length<=cs.length ->
  ((c.zipIdx 0).foldl (fun (a:Array Value) (x:Value×Nat)=>a.setIfInBounds (o+x.2) x.1) cs.toArray)=(cs.take o++c++cs.drop (o+c.length)).toArray:=by
 have f:∀ (c:List Value) (cs:List Value) (o j:Nat),o+j+c.length<=cs.length ->
   ((c.zipIdx j).foldl (fun (a:Array Value) (x:Value×Nat)=>a.setIfInBounds (o+x.2) x.1) cs.toArray)=(cs.take (o+j)++c++cs.drop (o+j+c.length)).toArray:=by
  intro c;induction c with
  | nil=>simp
  | cons w c ih =>
   intro cs o j h;simp only [qp] at h;simp only [List.zipIdx_cons,List.foldl_cons];have e:cs.toArray.setIfInBounds (o+j) w=(cs.set (o+j) w).toArray:=by simp
   rw [e,ih (cs.set (o+j) w) o (j+1) (by grind)];congr 1;rw [show o+(j+1)=o+j+1 by omega,qp,show o+j+(c.length+1)=o+j+1+c.length by omega];rw [ja,if_pos om];have g:(cs.take (o+j)).length=o+j:=by grind
   simp_all[List.take_append,wd,List.drop_append,Nat.add_comm,Nat.add_left_comm]
 simp_all
theorem aFS {place:Nat->Option (Nat×Nat)} {cs:List Value} {j size:Nat} {v:Value} {ws:List Value} {rest:List (Nat×Value)} (c:place j=some (off,size)) (a:v.cells=ws.toArray) (e:ws.length=size) (f:off+size<=cs.length) :
  Instr.fill place cs.toArray ((j,v) :: rest)=Instr.fill place (cs.take off++ws++cs.drop (off+ws.length)).toArray rest:=by
 simp_all[Instr.fill,if_neg,aYs]
theorem b1g {T f:Nat} {x:Operand} {v z:Value} {cs:List Value} (A:nth l i=some ⟨some d,.buildSlice T 1 #[(0,x)],t,p,af,g⟩) (D:Gd l ρ g true) (q:bY P T=some (E,sz,f)) (e:(P.info? E).bind (·.zero)=some z) (r:Ev ρ true x v) (w:v.cells=cs.toArray) (C:cs.length=sz) (J:0<sz∧sz<=16777216) (h:∀ b,Wo dr mc P n l K σ ((d,true,.slice (some ⟨b,0,none⟩) 1 1) :: ρ) G (.blk b (cl cs E) :: μ)):Wo dr mc P n l K (i :: σ) ρ G μ:=by
 refine bSg (vs:=[(0,v)]) (cs:=cs) A D q (fun a m F=>by simp [r.eval m F]) ?_ h;obtain ⟨y,c,k,rfl,_⟩:=fW q;rw [k] at e;simp only [qu] at e;simp only [vJ,y,k,e];rw [if_neg om];generalize m:(ze (1*c.size)).map (z.cells[·%z.cells.size]!)=arr;have H:arr.toList.length=c.size:=by grind
 have I:=aFS (place:=fun j=>some (j*c.size,c.size)) (cs:=arr.toList) (j:=0) (off:=0) (size:=c.size) (rest:=[]) (by simp) w C om;simp_all[Instr.fill]
def mT:Nat->List Value->List (Nat×Value)
 | _,[]=>[]
 | k,u :: us=>(k,u) :: mT (k+1) us
def b1 {T a:Nat} {x:Operand} {v z:Value} {cs:List Value} (g:nth l i=some ⟨some d,.buildSlice T 1 #[(0,x)],t,p,af,none⟩) (k:bY P T=some (E,sz,a)) (c:(P.info? E).bind (·.zero)=some z) (e:Ev ρ true x v) (f:v.cells=cs.toArray) (j:cs.length=sz) (m:0<sz∧sz<=16777216) (h:∀ b,Wo dr mc P n l K σ ((d,true,.slice (some ⟨b,0,none⟩) 1 1) :: ρ) G (.blk b (cl cs E) :: μ)):Wo dr mc P n l K (i :: σ) ρ G μ:=b1g g .no k c e f j m h
theorem Evp.nil {ρ:aF} {n:Fm} {k:Nat} {c:Bool}:∀ a,Ag n ρ a->c=true->([]:List (Nat×Operand)).map (fun q=>(q.1,a.eval q.2))=mT k []:=fun _ _ _=>rfl
def Evp.cons {ρ:aF} {n:Fm} {k:Nat} {c:Bool} {x:Operand} {v:Value} {f:List (Nat×Operand)} {e:List Value} (j:Ev ρ c x v) (h:∀ a,Ag n ρ a->c=true->f.map (fun q=>(q.1,a.eval q.2))=mT (k+1) e) :
  ∀ a,Ag n ρ a->c=true->((k,x) :: f).map (fun q=>(q.1,a.eval q.2))=mT k (v :: e):=fun a i g=>by simp only [wu,j.eval i g,h a i g,mT]
theorem aFR:∀ (us:List Value) (k:Nat) (cs:List Value),(∀ u∈us,u.oneCell'=true)->k+us.length<=cs.length ->
  Instr.fill (fun j=>some (j*1,1)) cs.toArray (mT k us)=some (cs.take k++us++cs.drop (k+us.length)).toArray
 | [],k,cs,_,_=>by simp [mT,Instr.fill]
 | u :: us,k,cs,h1,hl=>by
  simp only [List.length_cons] at hl;rw [mT,aFS (off:=k) (size:=1) (ws:=[u]) (by simp) (tM (h1 u (List.mem_cons_self ..))) rfl (by omega)];rw [aFR us (k+1) _ (fun u' hu=>h1 u' (List.mem_cons_of_mem _ hu)) (by grind)];congr 2;have hk:(cs.take k).length=k:=by grind
  have a:(cs.take k++[u]).length=k+1:=by grind
  have e:(cs.take k++[u]++cs.drop (k+[u].length)).take (k+1)=cs.take k++[u]:=by grind
  have c:(cs.take k++[u]++cs.drop (k+[u].length)).drop (k+1+us.length)=cs.drop (k+(us.length+1)):=by
   rw [← yk,←a,List.drop_left,yk];grind
  simp_all
theorem bN {T g len:Nat} {j:List (Nat×Operand)} {c:List Value} {z:Value} (x:nth l i=some ⟨some d,.buildSlice T len j.toArray,t,p,af,none⟩) (m:bY P T=some (E,1,g)) (e:(P.info? E).bind (·.zero)=some z) (v:∀ a,Ag n ρ a->true=true->j.map (fun q=>(q.1,a.eval q.2))=mT 0 c) (A:c.length=len) (F:0<len∧len<=16777216) (h1:∀ u∈c,u.oneCell'=true) (h:∀ b,Wo dr mc P n l K σ ((d,true,.slice (some ⟨b,0,none⟩) len len) :: ρ) G (.blk b (cl c E) :: μ)):Wo dr mc P n l K (i :: σ) ρ G μ:=by
 refine bS (vs:=mT 0 c) (cs:=c) x m v ?_ h;obtain ⟨w,r,k,f,_⟩:=fW m;rw [k] at e;simp only [qu] at e;simp only [vJ,w,k,e,f];rw [if_neg om];generalize C:(ze (len*1)).map (z.cells[·%z.cells.size]!)=arr;have y:arr.toList.length=len:=by grind
 have D:=aFR c 0 arr.toList h1 om;simp_all
def cU (P:Program) (T:TypeId) (js:List Nat):Option (List Value×List (Nat×Nat)) :=
 match P.info? T,P.underlying T with
 | some it,some (.array _ e)=>match it.zero,P.info? e with
  | some z,some ie=>some (z.cells.toList,js.map fun j=>(j*ie.size,ie.size))
  | _,_=>none
 | some it,some (.struct fields)=>match it.zero,fields.toList.mapM (fun f=>(P.info? f.type).map fun i=>(f.offset,i.size)) with
  | some z,some places=>(js.mapM fun j=>places[j]?).map fun pls=>(z.cells.toList,pls)
  | _,_=>none
 | _,_=>none
def rR:List Value->List (Nat×Nat)->List (List Value)->List Value
 | zs,(o,_) :: pl,w :: ws=>rR (put zs o w) pl ws
 | zs,_,_=>zs
def yZ (n:Nat):List (Nat×Nat)->List (List Value)->Bool
 | (o,s) :: pl,w :: ws=>Nat.beq w.length s&&Nat.ble (o+s) n&&yZ n pl ws
 | [],[]=>true
 | _,_=>false
inductive EvC (n:Fm) (ρ:aF) (c:Bool):List (Nat×Operand)→List Value→List (List Value)→Prop where
 | nil:EvC n ρ c [] [] []
 | cons {j x v w ps vs ws} (hx:Ev ρ c x v) (hw:v.cells=w.toArray) (h:EvC n ρ c ps vs ws):EvC n ρ c ((j,x) :: ps) (v :: vs) (w :: ws)
theorem put_len {cs ws:List Value} {o:Nat} (h:o+ws.length<=cs.length):(put cs o ws).length=cs.length:=by grind[put]
theorem aJc {place:Nat->Option (Nat×Nat)} {n:Fm} {ρ:aF} {c:Bool}:∀ {f:List (Nat×Operand)} {k:List Value} {i:List (List Value)},EvC n ρ c f k i->∀ (zs:List Value) (e:List (Nat×Nat)),(f.map (·.1)).mapM place=some e->yZ zs.length e i=true ->
  ∀ a,Ag n ρ a->c=true->Instr.fill place zs.toArray (f.map fun q=>(q.1,a.eval q.2))=some (rR zs e i).toArray:=by
 intro f k i h;induction h with
 | nil=>simp[Instr.fill,rR]
 | @cons j x v w f k i hx hw _ ih =>
  intro zs e g l a t r;simp only [wu,List.mapM_cons,Option.bind_eq_bind,Option.pure_def] at g;cases p:place j with
  | none=>simp_all
  | some os =>
   obtain ⟨o,s⟩:=os;rw [p] at g;simp only [qu] at g;cases m:(f.map (·.1)).mapM place with
   | none=>simp_all
   | some pl =>
    rw [m] at g;simp only [qu,Option.some.injEq] at g;subst g;simp only [yZ,qi] at l;have A:=z8 l.1.1;have y:=kq l.1.2;simp only [wu,hx.eval t r];grind[aFS,put,rR]
def bC {T:TypeId} {r:List (Nat×Operand)} {vs:List Value} {ws:List (List Value)} {zs:List Value} {k:List (Nat×Nat)} (M:nth l i=some ⟨some d,.build T r.toArray,t,p,af,g⟩) (N:Gd l ρ g c) (hF:cU P T (r.map (·.1))=some (zs,k)) (H:EvC n ρ c r vs ws) (A:yZ zs.length k ws=true)
  (h:Wo dr mc P n l K σ ((d,c,.agg (rR zs k ws).toArray) :: ρ) G μ):Wo dr mc P n l K (i :: σ) ρ G μ :=
 .pure M (.inl rfl) N (fun I a w J=>by
  have x:P.built T (r.map fun q=>(q.1,a.eval q.2))=some (rR zs k ws).toArray:=by
   unfold cU at hF;split at hF
   ·rename_i L m e F E;split at hF
    ·rename_i z v D C;simp only [Option.some.injEq,Prod.mk.injEq] at hF;obtain ⟨rfl,rfl⟩:=hF;simp only [Program.built,F,E,D,C];have:=aJc H z.cells.toList ((r.map (·.1)).map fun j=>(j*v.size,v.size)) (place:=fun j=>some (j*v.size,v.size)) (by
      clear A h;generalize r.map (·.1)=js;induction js<;>simp_all) A a J I
     omega
    ·cases hF
   ·rename_i L y F E;split at hF
    ·rename_i z f D C;cases O:((r.map (·.1)).mapM fun j=>f[j]?) with
     | none=>simp_all
     | some pl =>
      rw [O] at hF;simp only [wx,Option.some.injEq,Prod.mk.injEq] at hF;obtain ⟨rfl,rfl⟩:=hF;simp only [Program.built,F,E,D,C];have:=aJc H z.cells.toList pl (place:=fun j=>f.toArray[j]?) (by simp_all) A a J I;omega
    ·cases hF
   ·cases hF
  simp_all[run_build,execOp]) h
def bBU {e:Exit} {k:List KI} {b:Nat} {o:Obj} {c:aB} (hm:MTake μ (.blk b o) c) (h:∀ G',PM.le G G'->G' b=some o->We X e k ρ G' c):We X e k ρ G μ :=
 ⟨fun a w l i=>by
  have f:=i.perm hm.perm;have j:keys (.blk b o :: c)=b :: keys c:=by rfl
  have g:=f.sat.nodup;rw [j] at g;have m:G b=none:=f.sat.apart b (by simp_all);exact (h _ (PM.le_add m) (bI _ _ _)).out a w l f.freeze⟩
theorem Tr.freezeRow {t:PM} {w:World} {v:Value} (h:Tr t K0 w0 G (.row v E sz m xs :: μ) w) :
  ∃ G' s,PM.le G G'∧v=Sh.val s m∧m<=s.cap∧(m≠0->s.oa=some ⟨s.b,s.o,none⟩)∧RdNP G' s.b s.o xs∧Tr t K0 w0 G' μ w:=by
 have c:w.ownsRow 0 E sz v m xs:=h.sat.own _ (qh ..);have l:=h.sat.nodup;rcases c.2 with ⟨rfl,rfl⟩ | ⟨g,cap,a,rfl,_,C,n,F,D,f⟩
 ·have y:xs=[]:=wo (by simpa using c.1);subst y;exact ⟨G,⟨none,0⟩,PM.le.refl _,rfl,qc _,fun h=>absurd rfl h,fun j v A=>by grind,Tr.left (ν:=[.row (.slice none 0 0) E sz 0 []]) (h.perm (x5 (l₁:=[Res.row (.slice none 0 0) E sz 0 []])))⟩
 have p:keys (.row (.slice (some ⟨g,0,none⟩) m cap) E sz m xs :: μ)=g :: keys μ:=by rfl
 have e:keys (.blk g (.cells a E (0,0)) :: μ)=g :: keys μ:=by rfl
 rw [p] at l;have H:Tr t K0 w0 G (.blk g (.cells a E (0,0)) :: μ) w:=by
  refine { h with sat:=⟨h.sat.sub,fun r k=>?_,by rw [e,←p]; exact h.sat.apart,by simp_all⟩,mine:=by rw [e,←p]; exact h.mine };rcases qe.1 k with rfl | k
  ·exact C
  exact h.sat.own r (qj _ k)
 have q:G g=none:=h.sat.apart g (by simp_all);refine ⟨G.add g (.cells a E (0,0)),⟨some ⟨g,0,none⟩,cap⟩,PM.le_add q,rfl,n,fun _=>rfl,fun j u A=>?_,H.freeze⟩;intro x i;have I:=i g _ (bI _ _ _);show x.cell? ⟨g,0+j,none⟩=some u;rw [wb,cell_of_row x g j a E (0,0) I];grind
theorem SlR.flat {G:PM} {s:Sh} {xs:List α} (f:∀ x∈xs,(enc x).length=sz) (h:SlR G sz enc s xs):RdNP G s.b s.o (xs.flatMap enc):=by
 have e:∀ (a:List α) (o:Nat),(∀ x∈a,(enc x).length=sz)->(∀ i x,a[i]? = some x->RdNP G s.b (o+i*sz) (enc x))->RdNP G s.b o (a.flatMap enc):=by
  intro a;induction a with
  | nil=>simp_all[RdNP]
  | cons y a ih =>
   intro o l k j v c;have m:=l y (qh ..);simp only [List.flatMap_cons] at c;by_cases n:j<sz
   ·rw [List.getElem?_append_left om] at c;have:=k 0 y (by simp) j v c;simp_all
   ·rw [List.getElem?_append_right om,m] at c;have:=ih (o+sz) (fun x g=>l x (qj _ g)) (fun i x g=>by
     have:=k (i+1) x (by simp_all);grind) (j-sz) v c
    grind
 exact e xs s.o f h.rd
def tX {α:Type} {sz:Nat} {enc:α->List Value}:∀ {xs:List α},(∀ x∈xs,(enc x).length=sz)->(xs.flatMap enc).length=xs.length*sz
 | [],_=>by simp
 | x :: xs,h=>by
  simp only [List.flatMap_cons,List.length_append,h x (List.mem_cons_self ..),tX (fun y hy=>h y (List.mem_cons_of_mem _ hy)),List.length_cons,Nat.add_mul,Nat.one_mul];omega
theorem rO {G:PM} {s:Sh} {xs:List α} (a:∀ x∈xs,(enc x).length=sz) (g:xs.length<=s.cap) (f:xs.length≠0->s.oa=some ⟨s.b,s.o,none⟩) (c:RdNP G s.b s.o (xs.flatMap enc)):SlR G sz enc s xs:=by
 refine ⟨fun h=>f (fun e=>h (wo e)),g,fun i x l j v m=>?_⟩;rw [Nat.add_assoc];refine c (i*sz+j) v ?_;clear c f g;induction xs generalizing i with
 | nil=>grind
 | cons y ys ih =>
  have k:=a y (qh ..);cases i with
  | zero =>
   grind
  | succ i =>
   grind
def gN {G:PM} {b:Nat} {T:TypeId} {xs:List α} (e:G b=some (cl (xs.flatMap enc) T)) (a:∀ x∈xs,(enc x).length=sz) (c:xs.length<=cap):SlR G sz enc ⟨some ⟨b,0,none⟩,cap⟩ xs :=
 rO a c (fun _=>rfl) (fun j v f=>RdP.blk e (by simp_all[Sh.o]))
theorem SlR.cut {α:Type} {G:PM} {sz:Nat} {enc:α->List Value} {s:Sh} {xs:List α} {k:Nat} {x:α} (h:SlR G sz enc s xs) (g:xs[k]? = some x):SlR G sz enc (s.cut k sz) [x]:=by
 have e:k<xs.length:=(wr.1 g).1;have j:=h.le;have c:=h.nn e;have a:s.cut k sz=⟨some ⟨s.b,s.o+k*sz,none⟩,s.cap-k⟩:=by
  unfold Sh.cut;rw [if_neg om,c];simp [jS]
 rw [a];refine ⟨fun _=>rfl,by grind,fun i y f=>?_⟩;cases i with
 | zero =>
  simp only [List.getElem?_cons_zero,Option.some.injEq] at f;subst f;have:=h.rd k x g;grind[Sh.b,Sh.o]
 | succ i=>grind
end
section
variable {dr:Bool} {mc:Md} {P:Program} {n:Fm} {l:List Oper} {K:aF→PM→aB→Prop} {i:Nat} {σ:List Nat} {ρ:aF} {G:PM} {μ:aB}
variable {d t:Nat} {p:String} {af:Array Edge} {g:Option (Nat×Bool)} {c:Bool}
def lr {T:Nat} {x:Operand} {v:Value} {j:aB} (D:nth l i=some ⟨some d,.call { callee:=.builtin .len,args:=#[x],argTypes:=#[T] },t,p,af,g⟩) (F:Gd l ρ g c) (k:(bY P T).isSome=true) (q:Ev ρ c x v) (hm:MTake μ (.row v E sz m xs) j) (h:Wo dr mc P n l K σ ((d,c,.int .i64 m) :: ρ) G μ):Wo dr mc P n l K (i :: σ) ρ G μ :=
 .read D (.inl rfl) F (fun y a w A C=>by
  have f:w.ownsRow 0 E sz v m xs:=C.own _ (hm.perm.mem_iff.2 (qh ..));unfold bY at k;split at k
  ·rename_i e r;rcases f.2 with ⟨rfl,rfl⟩ | ⟨g,I,H,rfl,_⟩
   ·simp [execOp,resolve,invoke,builtin,q.eval A y,Builtin.len_,run_underlying r,goInt]
   ·simp [execOp,resolve,invoke,builtin,q.eval A y,Builtin.len_,run_underlying r,goInt]
  ·cases k) h
def aDB {T:TypeId} {x:Operand} {a b:Array Value} {w:World} (h:P.eqGuardType P.depth T=false):(eqGuard op T x y (.agg a) (.agg b)).run P w=.ok () w:=by
 simp_all[Sem.run,eqGuard]
end
def uv (k:IntKind) (x:BitVec k.bits):Value:=.int k (x.toNat:Int)
theorem aHJ (a:k.signed=false) (n:Nat):k.wrap (n:Int)=((BitVec.ofNat k.bits n).toNat:Int):=by
 grind[IntKind.wrap]
section
variable {dr:Bool} {mc:Md} {P:Program} {n:Fm} {l:List Oper} {K:aF→PM→aB→Prop} {i:Nat} {σ:List Nat} {ρ:aF} {G:PM} {μ:aB}
variable {d t:Nat} {p:String} {af:Array Edge} {g:Option (Nat×Bool)} {c:Bool}
def aCf (op:BinOp) {w:Nat} (x y:BitVec w):Option (BitVec w) :=
 match op with
 | .and=>some (x &&& y)
 | .or=>some (x ||| y)
 | .xor=>some (x ^^^ y)
 | .andNot=>some (x &&& ~~~y)
 | .add=>some (x+y)
 | .sub=>some (x-y)
 | .mul=>some (x*y)
 | _=>none
theorem aAl (a:k.signed=false) (z:BitVec k.bits):k.wrap (z.toNat:Int)=(z.toNat:Int):=by simp_all[aHJ]
def aCJ (a:k.signed=false) (z:Int):k.wrap z=((BitVec.ofInt k.bits z).toNat:Int):=by
 simp [IntKind.wrap,a,BitVec.toNat_ofInt];omega
def aYY {x y r:BitVec k.bits} (c:k.signed=false) (T:TypeId) (h:aCf op x y=some r) (w:World):(binOp op T (uv k x) (uv k y)).run P w=.ok (uv k r) w:=by
 have a:∀ z:BitVec k.bits,qk k.bits (z.toNat:Int)=z:=fun z=>by simp
 cases op<;>simp only [aCf,Option.some.injEq,reduceCtorEq] at h<;>subst h;case and=>simp only [binOp,uv,Op.intBits,a,aAl c,ne_eq,not_true_eq_false,if_false]; rfl
 case or=>simp only [binOp,uv,Op.intBits,a,aAl c,ne_eq,not_true_eq_false,if_false]; rfl
 case xor=>simp only [binOp,uv,Op.intBits,a,aAl c,ne_eq,not_true_eq_false,if_false]; rfl
 case andNot=>simp only [binOp,uv,Op.intBits,a,aAl c,ne_eq,not_true_eq_false,if_false]; rfl
 case add =>
  simp_all[aCJ,qa3,binOp,uv,Op.intArith]
 case sub =>
  simp_all[aCJ,Int.sub_eq_add_neg,qa3,qa4,BitVec.sub_eq_add_neg,binOp,uv,Op.intArith]
 simp_all[aCJ,BitVec.ofInt_mul,binOp,uv,Op.intArith]
theorem aYb {a:IntKind} {x:BitVec k.bits} {m:Int} (c:k.signed=false) (e:0<=m) (T:TypeId) (w:World):(binOp .shl T (uv k x) (.int a m)).run P w=.ok (uv k (x <<< m.toNat)) w:=by
 have:k.wrap ((x.toNat:Int)*2^(min m.toNat k.bits))=((x <<< m.toNat).toNat:Int):=by
  rw [show (x.toNat:Int)*2^(min m.toNat k.bits)=((x.toNat*2^(min m.toNat k.bits):Nat):Int) by simp,aHJ c];grind[jw,qa5,Nat.mul_mod_left,Nat.le.dest]
 simp_all[binOp,uv,Op.shift,if_neg]
def aYc {a:IntKind} {x:BitVec k.bits} {m:Int} (c:0<=m) (T:TypeId) (w:World):(binOp .shr T (uv k x) (.int a m)).run P w=.ok (uv k (x >>> m.toNat)) w:=by
 have:(x.toNat:Int).fdiv (2^(min m.toNat k.bits))=((x >>> m.toNat).toNat:Int):=by
  rw [show ((2:Int)^(min m.toNat k.bits))=((2^(min m.toNat k.bits):Nat):Int) by simp,Int.fdiv_eq_ediv_of_nonneg _ (Int.natCast_nonneg _),←qa6,BitVec.toNat_ushiftRight,Nat.shiftRight_eq_div_pow];congr 1;rcases Nat.le_total m.toNat k.bits with h | h
  ·simp_all
  ·rw [qa5 h,jx x.isLt,jx (yu x.isLt (yw dc h))]
 simp_all[binOp,uv,Op.shift,if_neg]
def bw {T:TypeId} {x:Operand} {a b r:BitVec k.bits} (v:nth l i=some ⟨some d,.binOp op T x y C,t,p,af,g⟩) (A:Gd l ρ g c) (F:k.signed=false) (m:Ev ρ c x (uv k a)) (j:Ev ρ c y (uv k b)) (D:aCf op a b=some r) (h:Wo dr mc P n l K σ ((d,c,uv k r) :: ρ) G μ):Wo dr mc P n l K (i :: σ) ρ G μ :=
 .pure v (.inl rfl) A (fun e q w f=>by
  have I:=m.eval f e; have H:=j.eval f e;have E:(eqGuard op T x y (uv k a) (uv k b)).run P w=.ok () w:=mM ..;simp_all[execOp,aYY]) h
def lw {T:TypeId} {x:Operand} {e:IntKind} {a:BitVec k.bits} {m:Int} (A:nth l i=some ⟨some d,.binOp .shl T x y D,t,p,af,g⟩) (C:Gd l ρ g c) (F:k.signed=false) (v:Ev ρ c x (uv k a)) (r:Ev ρ c y (.int e m)) (H:c=true->0<=m) (h:Wo dr mc P n l K σ ((d,c,uv k (a <<< m.toNat)) :: ρ) G μ):Wo dr mc P n l K (i :: σ) ρ G μ :=
 .pure A (.inl rfl) C (fun f q w j=>by
  have J:=v.eval j f; have I:=r.eval j f;have E:(eqGuard .shl T x y (uv k a) (.int e m)).run P w=.ok () w:=mM ..;simp_all[execOp,aYb]) h
def oK {T:TypeId} {x:Operand} {e:IntKind} {a:BitVec k.bits} {m:Int} (A:nth l i=some ⟨some d,.binOp .shr T x y D,t,p,af,g⟩) (C:Gd l ρ g c) (v:Ev ρ c x (uv k a)) (r:Ev ρ c y (.int e m)) (F:c=true->0<=m) (h:Wo dr mc P n l K σ ((d,c,uv k (a >>> m.toNat)) :: ρ) G μ):Wo dr mc P n l K (i :: σ) ρ G μ :=
 .pure A (.inl rfl) C (fun f q w j=>by
  have I:=v.eval j f; have H:=r.eval j f;have E:(eqGuard .shr T x y (uv k a) (.int e m)).run P w=.ok () w:=mM ..;simp_all[execOp,aYc]) h
def cu {x:Operand} {e:IntKind} {a:BitVec k.bits} (j:nth l i=some ⟨some d,.convert S D x,t,p,af,g⟩) (r:Gd l ρ g c) (m:e.signed=false) (q:rY P S D=some e) (f:Ev ρ c x (uv k a)) (h:Wo dr mc P n l K σ ((d,c,uv e (a.setWidth e.bits)) :: ρ) G μ):Wo dr mc P n l K (i :: σ) ρ G μ :=
 cv j r q f (by
  simp_all[aHJ,uv])
def ci {x:Operand} {e:IntKind} {a:Int} (m:nth l i=some ⟨some d,.convert S D x,t,p,af,g⟩) (r:Gd l ρ g c) (f:e.signed=false) (q:rY P S D=some e) (j:Ev ρ c x (.int k a)) (h:Wo dr mc P n l K σ ((d,c,uv e (BitVec.ofInt e.bits a)) :: ρ) G μ):Wo dr mc P n l K (i :: σ) ρ G μ :=
 cv m r q j (by rw [aCJ f]; exact h)
def aA1 (a:Addr):a.add 0=a:=by rfl
def qZ {T:Nat} {x:Operand} {b o:Nat} (q:nth l i=some ⟨some d,.slice T x none none none,t,p,af,g⟩) (v:Gd l ρ g c) (C:nD P T=some (m,e,sz)) (j:Ev ρ c x (.pointer (some ⟨b,o,none⟩))) (h:Wo dr mc P n l K σ ((d,c,.slice (some ⟨b,o,none⟩) m m) :: ρ) G μ):Wo dr mc P n l K (i :: σ) ρ G μ :=
 .pure q (.inl rfl) v (fun y a w A=>by
  obtain ⟨k,f,r,D⟩:=vH C;simp [execOp,j.eval A y,Instr.sliceAt,run_underlying k,Instr.sureAddr,Instr.sliceBounds,sizeOf,typeInfo,r,aA1]) h
def sal {T:Nat} {x:Operand} {b o:Nat} {lo:Int} (F:nth l i=some ⟨some d,.slice T x (some y) none none,t,p,af,g⟩) (I:Gd l ρ g c) (J:nD P T=some (m,e,sz)) (C:Ev ρ c x (.pointer (some ⟨b,o,none⟩))) (A:Ev ρ c y (.int k lo)) (L:c=true->0<=lo) (h1:c=true->lo<m) (h:Wo dr mc P n l K σ ((d,c,.slice (some ⟨b,o+lo.toNat*sz,none⟩) (m-lo.toNat) (m-lo.toNat)) :: ρ) G μ):Wo dr mc P n l K (i :: σ) ρ G μ :=
 .pure F (.inl rfl) I (fun f a w r=>by
  obtain ⟨D,v,H,E⟩:=vH J;have M:=L f; have N:=h1 f;have j:m≠lo.toNat:=by omega
  have q:lo<=(m:Int):=by omega
  simp [execOp,C.eval r f,A.eval r f,Instr.sliceAt,run_underlying D,Instr.sureAddr,Instr.sliceBounds,Instr.sliceBound,asIntOf,sizeOf,typeInfo,H,M,q,j,jS,E]) h
def sab {T:Nat} {x z:Operand} {C:IntKind} {b o:Nat} {lo j:Int} (L:nth l i=some ⟨some d,.slice T x (some y) (some z) none,t,p,af,g⟩) (M:Gd l ρ g c) (N:nD P T=some (m,e,sz)) (H:Ev ρ c x (.pointer (some ⟨b,o,none⟩))) (F:Ev ρ c y (.int k lo)) (E:Ev ρ c z (.int C j)) (O:c=true->0<=lo) (h1:c=true->lo<=j) (h2:c=true->j<=m) (h3:c=true->lo<m) (h:Wo dr mc P n l K σ ((d,c,.slice (some ⟨b,o+lo.toNat*sz,none⟩) (j.toNat-lo.toNat) (m-lo.toNat)) :: ρ) G μ):Wo dr mc P n l K (i :: σ) ρ G μ :=
 .pure L (.inl rfl) M (fun f a w A=>by
  obtain ⟨I,D,r,J⟩:=vH N;have S:=O f; have Z:=h1 f; have Q:=h2 f; have X:=h3 f;have q:m≠lo.toNat:=by omega
  have v:0<=j:=by omega
  simp [execOp,H.eval A f,F.eval A f,E.eval A f,Instr.sliceAt,run_underlying I,Instr.sureAddr,Instr.sliceBounds,Instr.sliceBound,asIntOf,sizeOf,typeInfo,r,S,Q,v,q,jS,J];omega) h
def sd {T r:Nat} {x:Operand} {s:Sh} {lo:Int} (F:nth l i=some ⟨some d,.slice T x (some y) none none,t,p,af,g⟩) (H:Gd l ρ g c) (I:bY P T=some (e,sz,r)) (D:Ev ρ c x (s.val m)) (C:Ev ρ c y (.int k lo)) (J:c=true->0<=lo) (h1:c=true->lo<=m) (h:Wo dr mc P n l K σ ((d,c,(s.cut lo.toNat sz).val (m-lo.toNat)) :: ρ) G μ):Wo dr mc P n l K (i :: σ) ρ G μ :=
 .pure F (.inl rfl) H (fun j a w v=>by
  obtain ⟨E,A,q,rfl,rfl⟩:=fW I;have f:=D.eval v j;simp only [Sh.val] at f;have M:=J j; have L:=h1 j;simp [execOp,f,C.eval v j,Instr.sliceAt,run_underlying E,Instr.slice,Instr.sliceBounds,Instr.sliceBound,asIntOf,M,L,sizeOf,typeInfo,q,Sh.val,Sh.cut]) h
def se {T A:Nat} {x z:Operand} {s:Sh} {j:Int} (I:nth l i=some ⟨some d,.slice T x none (some z) none,t,p,af,g⟩) (J:Gd l ρ g c) (L:bY P T=some (e,sz,A)) (F:Ev ρ c x (s.val m)) (E:Ev ρ c z (.int k j)) (M:c=true->0<=j) (h1:c=true->j<=s.cap) (h:Wo dr mc P n l K σ ((d,c,s.val j.toNat) :: ρ) G μ):Wo dr mc P n l K (i :: σ) ρ G μ :=
 .pure I (.inl rfl) J (fun q a w C=>by
  obtain ⟨H,D,y,rfl,rfl⟩:=fW L;have f:=F.eval C q;simp only [Sh.val] at f;have O:=M q; have N:=h1 q;have v:∀ r:Option Addr,r.map (fun a=>a.add 0)=r:=fun r=>by simp[aA1]
  simp [execOp,f,E.eval C q,Instr.sliceAt,run_underlying H,Instr.slice,Instr.sliceBounds,Instr.sliceBound,asIntOf,O,N,sizeOf,typeInfo,y,Sh.val,v]) h
theorem Tr.toRow {f:PM} {w:World} {g:Nat} (h:Tr f K0 w0 G (.blk g (cl xs E) :: μ) w) (i:xs.length=m*sz) (hm:m<=maxLen):Tr f K0 w0 G (.row (.slice (some ⟨g,0,none⟩) m m) E sz m xs :: μ) w:=by
 have e:keys (.row (.slice (some ⟨g,0,none⟩) m m) E sz m xs :: μ)=g :: keys μ:=by rfl
 have a:keys (.blk g (cl xs E) :: μ)=g :: keys μ:=by rfl
 have j:w.heap[g]? = some (cl xs E):=h.sat.own _ (qh ..);refine { h with sat:=⟨h.sat.sub,fun r c=>?_,by rw [e,←a]; exact h.sat.apart,by rw [e,←a]; exact h.sat.nodup⟩,mine:=by rw [e,←a]; exact h.mine };rcases qe.1 c with rfl | c
 ·exact ⟨i,.inr ⟨g,m,xs.toArray,rfl,qo _,j,qc _,hm,om,by grind⟩⟩
 exact h.sat.own r (qj _ c)
theorem b0 {T j:Nat} (g:dr=false) (A:nth l i=some ⟨some d,.buildSlice T 0 #[],t,p,af,none⟩) (D:bY P T=some (E,sz,j)) (h:∀ v,Wo dr mc P n l K σ ((d,true,v) :: ρ) G (.row v E sz 0 [] :: μ)):Wo dr mc P n l K (i :: σ) ρ G μ:=by
 refine .act (μ₁:=[]) (μ₂:=μ) (post:=fun F e v=>F=G∧e=[.row v E sz 0 []]) A (.inr g) .no (List.Perm.refl _) (fun a w H x=>.inl ?_) ?_
 ·obtain ⟨m,k,C,q,_⟩:=fW D;have f:Tr G [] w G [] w:=⟨⟨x.sub,(fun r y=>nomatch y),(fun b c=>nomatch c),xx⟩,rfl,rfl,rfl,qc _,fun b _ _=>⟨rfl,rfl⟩,(fun b c=>nomatch c),fun b o _ c=>c⟩;refine ⟨.slice (some ⟨w.heap.size,0,none⟩) 0 0,w.alloc (cl [] E),G,[.row (.slice (some ⟨w.heap.size,0,none⟩) 0 0) E sz 0 []],.inl ?_,Tr.toRow (f.alloc (cl [] E)) (by simp) (qo _),rfl,rfl⟩;simp [execOp,Instr.buildSlice,run_underlying m,sizeOf,typeInfo,C,Instr.fill,newRow,cl];grind
 simp_all[bV]
end
abbrev W:=BitVec 32
abbrev U (x:W):Value:=uv .u32 x
def aMF (x:W) (k:Int):W:=x <<< (qk 64 k &&& 31#64).toNat ||| x >>> (32#64-(qk 64 k &&& 31#64)).toNat
def tB (x:W) (k:Nat):W:=x <<< k ||| x >>> (32-k)
def aAI (a b c d:W):W×W×W×W :=
 let a:=a+b
 let d:=tB (d ^^^ a) 16
 let c:=c+d
 let b:=tB (b ^^^ c) 12
 let a:=a+b
 let d:=tB (d ^^^ a) 8
 let c:=c+d
 let b:=tB (b ^^^ c) 7
 (a,b,c,d)
def aVr (m:W×W×W×W):Value:=.tuple #[U m.1,U m.2.1,U m.2.2.1,U m.2.2.2]
def wa (n:Nat) (y:Nat->W):List Value:=(qg n).map fun i=>U (y i)
abbrev Y:=BitVec 8
variable {ys:List Y} {f':Nat→Y}
abbrev V (x:Y):Value:=uv .u8 x
def ba (n:Nat) (y:Nat->Y):List Value:=(qg n).map fun i=>V (y i)
def bA {α:Type} (y:Nat->α) (j:Nat) (z:α):Nat->α:=fun i=>if i=j then z else y i
theorem cO (n:Nat) (y:Nat->W):(wa n y).length=n:=by simp [wa]
theorem bT (n:Nat) (y:Nat->Y):(ba n y).length=n:=by simp [ba]
theorem aEC {y:Nat->W} {j:Nat} (h:j<n):(wa n y)[j]? = some (U (y j)):=by grind[wa]
theorem aA3 {y:Nat->Y} {j:Nat} (h:j<n):(ba n y)[j]? = some (V (y j)):=by grind[ba]
theorem aN6 {y:Nat->W} {j:Nat} {z:W}:(wa n y).set j (U z)=wa n (bA y j z):=by
 refine xq fun i=>?_;rw [zk];by_cases h:j=i
 ·grind[wa,bA]
 simp only [if_neg h];grind[wa,bA]
theorem aQX {y:Nat->Y} {j:Nat} {z:Y}:(ba n y).set j (V z)=ba n (bA y j z):=by
 refine xq fun i=>?_;rw [zk];by_cases h:j=i
 ·grind[ba,bA]
 simp only [if_neg h];grind[ba,bA]
def yM (n:Nat) (y:Nat->W):∀ u∈wa n y,u.oneCell'=true:=by
 intro u a; obtain ⟨i,_,rfl⟩:=ql.1 a; rfl
def pE (n:Nat) (y:Nat->Y):∀ u∈ba n y,u.oneCell'=true:=by
 intro u a; obtain ⟨i,_,rfl⟩:=ql.1 a; rfl
def yC (y:Nat->W) (a b c d:Nat):Nat->W :=
 let y:=bA y a (y a+y b)
 let y:=bA y d (tB (y d ^^^ y a) 16)
 let y:=bA y c (y c+y d)
 let y:=bA y b (tB (y b ^^^ y c) 12)
 let y:=bA y a (y a+y b)
 let y:=bA y d (tB (y d ^^^ y a) 8)
 let y:=bA y c (y c+y d)
 bA y b (tB (y b ^^^ y c) 7)
def mixed (y:Nat->W) (a b c d:Nat):Nat->W :=
 let m:=aAI (y a) (y b) (y c) (y d)
 bA (bA (bA (bA y a m.1) b m.2.1) c m.2.2.1) d m.2.2.2
def aLw (y:Nat->W) {a b c d:Nat} (h1:a≠b) (h2:a≠c) (h3:a≠d) (k:b≠c) (j:b≠d) (h:c≠d):yC y a b c d=mixed y a b c d:=by
 funext i;by_cases g:i=a
 ·simp_all[yC,mixed,bA,aAI,Ne.symm]
 ·by_cases f:i=b
  ·simp_all[yC,mixed,bA,aAI,Ne.symm]
  ·by_cases e:i=c
   ·simp_all[yC,mixed,bA,aAI,Ne.symm]
   simp_all[yC,mixed,bA,aAI,Ne.symm]
def dJ {y:Nat->W} {j:Int} {o:Nat} (a:Nat) (c:o+j.toNat*1=a) (h:a<n):(wa n y)[o+j.toNat*1]? = some (U (y a)):=by simp_all[aEC]
def iM {y:Nat->Y} {j:Int} {o:Nat} (a:Nat) (c:o+j.toNat*1=a) (h:a<n):(ba n y)[o+j.toNat*1]? = some (V (y a)):=by simp_all[aA3]
def eK {y:Nat->W} {j:Int} {z:W} {o:Nat} (a:Nat) (c:o+j.toNat*1=a):(wa n y).set (o+j.toNat*1) (U z)=wa n (bA y a z):=by simp_all[aN6]
def mH {y:Nat->Y} {j:Int} {z:Y} {o:Nat} (a:Nat) (c:o+j.toNat*1=a):(ba n y).set (o+j.toNat*1) (V z)=ba n (bA y a z):=by simp_all[aQX]
def aCH (f:Nat->Y) (i:Nat):W:=(f i).setWidth 32+(f (i+1)).setWidth 32*256#32+(f (i+2)).setWidth 32*65536#32+(f (i+3)).setWidth 32*16777216#32
def aH (b:Y):List Value:=[V b]
def yl (n:Nat) (f:Nat->Y):List Y:=(qg n).map f
theorem bL (n:Nat) (f:Nat->Y):(yl n f).length=n:=by simp [yl]
theorem aOT {f:Nat->Y} {k:Nat} (h:k<n):(yl n f).getD k 0=f k:=by grind[yl]
theorem aHN (n:Nat) (f:Nat->Y):(yl n f).flatMap aH=ba n f:=by
 unfold yl ba;generalize qg n=r;induction r<;>simp_all[aH]
theorem SlR.yat {G:PM} {h:Sh} {xs:List Y} (s:SlR G 1 aH h xs) {j:Int} (k:Nat) (c:j.toNat=k) (a:k<xs.length):RdP G ⟨h.b,h.o+j.toNat*1,none⟩ (V (xs.getD k 0)):=by
 have:=s.rd k (xs.getD k 0) (by grind) 0 _ rfl;simp_all
def aIP {G:PM} {b:Nat} {f:Nat->Y} {T:TypeId}:SlR (G.add b (cl (ba n f) T)) 1 aH ⟨some ⟨b,0,none⟩,n⟩ (yl n f) :=
 gN (T:=T) (by simp[aHN,bI]) (fun _ _=>rfl) (by simp[bL])
def x0:Nat->W:=fun i=>match i with | 0=>1634760805#32 | 1=>857760878#32 | 2=>2036477234#32 | 3=>1797285236#32 | _=>0#32
def x1 (key:Nat->Y):Nat->Nat->W
 | 0=>x0
 | k+1=>bA (x1 key k) (4+k) (aCH key (4*k))
def x2 (key nonce:Nat->Y) (count:W):Nat->Nat->W
 | 0=>bA (x1 key 8) 12 count
 | k+1=>bA (x2 key nonce count k) (13+k) (aCH nonce (4*k))
def aBA (y:Nat->W):Nat->Nat->W
 | 0=>y
 | k+1=>yC (aBA y k) k (4+k) (8+k) (12+k)
def aC2 (y:Nat->W):Nat->Nat->W
 | 0=>y
 | k+1=>yC (aC2 y k) k (4+(k+1)%4) (8+(k+2)%4) (12+(k+3)%4)
def yI (y:Nat->W):Nat->Nat->W
 | 0=>y
 | k+1=>aC2 (aBA (yI y k) 4) 4
def aCl (key nonce:Nat->Y) (count:W):Nat->W:=fun i=>yI (x2 key nonce count 3) 10 i+x2 key nonce count 3 i
def tN (key nonce:Nat->Y) (count:W):Nat->Y:=fun i=>((aCl key nonce count (i / 4)) >>> (8*(i%4))).setWidth 8
def iZ (f:Nat->Y):Nat->Nat->Y
 | 0=>fun _=>0#8
 | k+1=>bA (iZ f k) k (f k)
theorem mR (f:Nat->Y) {i:Nat} (h:i<n):iZ f n i=f i:=by
 induction n with
 | zero=>omega
 | succ n ih =>
  unfold iZ bA;grind
def mG {f:Nat->Y} (h:∀ i,i<n->f i=f' i):ba n f=ba n f':=by
 simp_all[ba]
def crF (key nonce:Nat->Y) (count:W) (xs:List Y):Nat->Y:=fun i=>xs.getD i 0 ^^^ tN key nonce (count+qb 32 (i / 64)) (i%64)
def qA (key nonce:Nat->Y) (count:W) (xs:List Y):List Y:=yl xs.length (crF key nonce count xs)
def rC (o:W) (f:Nat->Y) (i:Nat):Nat->W
 | 0=>o
 | c+1=>rC o f i c <<< 8 ||| (f (4*i+(3-c))).setWidth 32
def mX (y:Nat->W) (f:Nat->Y) (off:Nat):Nat->Nat->W
 | 0=>y
 | i+1=>bA (mX y f off i) (off+i) (aCH f (4*i))
theorem aNs (z:Nat->α) (p:Nat):bA z p (z p)=z:=by
 grind[bA]
theorem aHD (z:Nat->α) (p:Nat) (a b:α):bA (bA z p a) p b=bA z p b:=by
 grind[bA]
def aAh (z:Nat->α) (p:Nat) (a:α):bA z p a p=a:=by simp [bA]
theorem aW4 (x:W) (b:Y):x <<< 8 ||| b.setWidth 32=x*256#32+b.setWidth 32:=by
 have a:x <<< 8 &&& b.setWidth 32=0#32:=by
  grind
 rw [← BitVec.add_eq_or_of_and_eq_zero _ _ a];congr 1;apply wj;simp[jw]
theorem bBc (o:W) (f:Nat->Y) (i:Nat):rC o f i 4=aCH f (4*i):=by
 have e:rC o f i 4=(((o*256#32+(f (4*i+3)).setWidth 32)*256#32+(f (4*i+2)).setWidth 32)*256#32+(f (4*i+1)).setWidth 32)*256#32+(f (4*i)).setWidth 32:=by
  grind[rC,aW4]
 grind[aCH]
def bBl {y:Nat->W} {f:Nat->Y} {i b:Nat} {T:TypeId}:Res.blk b (cl (wa m (mX y f off i)) T)=Res.blk b (cl (wa m (bA (mX y f off i) (off+i) (rC (mX y f off i (off+i)) f i 0))) T):=by
 rw [rC,aNs]
def bBm {z:Nat->W} {f:Nat->Y} {p i c b:Nat} {T:TypeId} {o x:W} (a:x=rC o f i (c+1)):Res.blk b (cl (wa m (bA (bA z p (rC o f i c)) p x)) T)=Res.blk b (cl (wa m (bA z p (rC o f i (c+1)))) T):=by
 rw [aHD,a]
def bBk {y:Nat->W} {f:Nat->Y} {i c b:Nat} {T:TypeId} (a:c=4):Res.blk b (cl (wa m (bA (mX y f off i) (off+i) (rC (mX y f off i (off+i)) f i c))) T)=Res.blk b (cl (wa m (mX y f off (i+1))) T):=by
 subst a; rw [bBc]; rfl
def aGh (a:Nat->Y):∀ k,mX x0 a 4 k=x1 a k
 | 0=>rfl
 | k+1=>by rw [mX,x1,aGh a k]
def aGi (e a:Nat->Y) (c:W):∀ k,mX (bA (x1 e 8) 12 c) a 13 k=x2 e a c k
 | 0=>rfl
 | k+1=>by rw [mX,x2,aGi e a c k]
def aNQ {μ c a:aB} {f e:Res} (h1:MTake μ f c) (h2:MTake c e a):μ.Perm ([f,e]++a):=h1.perm.trans (h2.perm.cons _)
def aCq (y:Nat->W):Nat->Nat->W
 | 0=>y
 | k+1=>mixed (aCq y k) k (4+k) (8+k) (12+k)
def aIj (y:Nat->W):∀ k,k<=4->aCq y k=aBA y k
 | 0,_=>rfl
 | k+1,h=>by rw [aCq,aBA,aIj y k (by omega),aLw _ (by omega) (by omega) (by omega) (by omega) (by omega) (by omega)]
def aI3 (y:Nat->W):Nat->W:=mixed (mixed (mixed (mixed y 0 5 10 15) 1 6 11 12) 2 7 8 13) 3 4 9 14
def aSJ (y:Nat->W):aI3 y=aC2 y 4:=by
 simp_all[aC2,aLw,aI3]
def aY0 {e a:Nat->Y} {c:W} {i:Nat}:U (yI (x2 e a c 3) 10 i+x2 e a c 3 i)=U (aCl e a c i >>> (8*0)):=by rfl
def aYz {x:W} {c:Nat}:U ((x >>> (8*c)) >>> (Int.toNat 8))=U (x >>> (8*(c+1))):=by
 rfl
theorem aW7 {f a:Nat->Y} {e:W} {i c b:Nat} {T:TypeId} (g:c<4) :
  Res.blk b (cl (ba 64 (bA (iZ (tN f a e) (4*i+c)) (4*i+c) ((aCl f a e i >>> (8*c)).setWidth 8))) T)=Res.blk b (cl (ba 64 (iZ (tN f a e) (4*i+(c+1)))) T):=by
 grind[iZ,tN]
theorem tV (xs:List Y):xs.flatMap aH=xs.map V:=by
 induction xs<;>simp_all[aH]
def aDk (xs:List Y):∀ u∈xs.map V,u.oneCell'=true:=by
 intro u a; obtain ⟨y,_,rfl⟩:=ql.1 a; rfl
abbrev rB (v:Value) (E:Nat) (xs:List Y):Res:=.row v E 1 xs.length (xs.map V)
structure Sc (G:PM) (μ:aB) (v:Value) (ys:List Y):Prop where
 ex:∃ oa cap,v=.slice oa ys.length cap∧(0<ys.length→∃ b o,oa=some ⟨b,o,none⟩∧RdN G μ b o (ys.map V))
def SlR.sc {G:PM} {μ:aB} {s:Sh} (h:SlR G 1 aH s ys):Sc G μ (s.val ys.length) ys :=
 ⟨s.oa,s.cap,rfl,fun a=>⟨s.b,s.o,h.nn a,by rw [← tV]; exact (SlR.flat (enc:=aH) (fun _ _=>rfl) h).rd⟩⟩
def Sc.blk {G:PM} {μ a:aB} {b o:Nat} {cs:List Value} {T:TypeId} (hm:MTake μ (.blk b (cl cs T)) a) (c:ys.length=m) (e:(cs.drop o).take m=ys.map V):Sc G μ (.slice (some ⟨b,o,none⟩) m cap) ys:=by
 subst c; exact ⟨_,_,rfl,fun _=>⟨b,o,rfl,RdN.part hm e⟩⟩
theorem bBt (n:Nat) (f:Nat->Y):(yl n f).map V=ba n f:=by grind[tV,aHN]
def Sc.arr {G:PM} {μ a:aB} {b:Nat} {f:Nat->Y} {T:TypeId} (hm:MTake μ (.blk b (cl (ba m f) T)) a):Sc G μ (.slice (some ⟨b,0,none⟩) m cap) (yl m f) :=
 Sc.blk hm (bL _ _) (by simp[bBt,wd,bT])
def Sc.one {G:PM} {μ a:aB} {b:Nat} {y:Y} {T:TypeId} (hm:MTake μ (.blk b (cl [V y] T)) a):Sc G μ (.slice (some ⟨b,0,none⟩) 1 1) [y] :=
 Sc.blk hm rfl rfl
def Rd.row {G:PM} {μ c:aB} {b o:Nat} {v:Value} (h:MTake μ (.row (.slice (some ⟨b,0,none⟩) m cap) E sz e xs) c) (f:xs[o]? = some v):Rd G μ ⟨b,o,none⟩ v:=by
 intro w i;have a:w.ownsRow 0 E sz _ e xs:=i.own _ (h.perm.mem_iff.2 (qh ..));have:=World.ownsRow.cells a (g:=b) rfl o v f;simp_all[jS]
def Sc.row {G:PM} {μ a:aB} {b cap E:Nat} {ys:List Y} (hm:MTake μ (rB (.slice (some ⟨b,0,none⟩) ys.length cap) E ys) a):Sc G μ (.slice (some ⟨b,0,none⟩) ys.length cap) ys :=
 ⟨_,_,rfl,fun _=>⟨b,0,rfl,fun j v c=>Rd.row hm (by simp_all)⟩⟩
theorem SlR.cutn {G:PM} {s:Sh} {xs:List α} (h:SlR G sz enc s xs) {lo:Nat} (h1:lo+m<=xs.length):SlR G sz enc (s.cut lo sz) ((xs.drop lo).take m):=by
 have j:=h.le;by_cases g:lo<xs.length
 ·have a:s.cut lo sz=⟨some ⟨s.b,s.o+lo*sz,none⟩,s.cap-lo⟩:=by
   unfold Sh.cut; rw [if_neg om,h.nn g]; simp [jS]
  rw [a];refine ⟨fun _=>rfl,by grind,fun i x f=>?_⟩;have c:xs[lo+i]? = some x:=by
   grind
  have:=h.rd (lo+i) x c;grind[Sh.b,Sh.o]
 have e:(xs.drop lo).take m=[]:=by simp_all
 rw [e]; exact ⟨fun h=>absurd rfl h,by simp,fun i x f=>by grind⟩
theorem SlR.cutx {G:PM} {s:Sh} {xs:List α} (h:SlR G sz enc s xs) (lo m:Nat):∃ s',SlR G sz enc s' ((xs.drop lo).take m):=by
 by_cases a:lo<=xs.length
 ·have e:(xs.drop lo).take m=(xs.drop lo).take (min m (xs.length-lo)):=by
   simp
  exact ⟨_,by rw [e]; exact h.cutn om⟩
 ·exact ⟨⟨none,0⟩,by grind[List.drop_of_length_le,dD]⟩
def SlR.nth {G:PM} {s:Sh} {xs:List α} (h:SlR G sz enc s xs) {j:Int} (k:Nat) {x:α} (c:j.toNat=k) (a:xs[k]? = some x):RdNP G s.b (s.o+j.toNat*sz) (enc x):=by
 rw [c]; exact h.rd k x a
section
variable {dr:Bool} {mc:Md} {P:Program} {n:Fm} {l:List Oper} {K:aF→PM→aB→Prop} {i:Nat} {σ:List Nat} {ρ:aF} {G:PM} {μ:aB}
variable {d t:Nat} {p:String} {af:Array Edge} {g:Option (Nat×Bool)} {c:Bool}
theorem kS {T w:Nat} {x z:Operand} {D:IntKind} {s:Sh} {xs:List α} {a b:Int} (lo f:Nat) (A:nth l i=some ⟨some d,.slice T x (some y) (some z) none,t,p,af,g⟩) (C:Gd l ρ g c) (N:bY P T=some (e,sz,w)) (r:SlR G sz enc s xs) (H:Ev ρ c x (s.val xs.length)) (F:Ev ρ c y (.int k a)) (E:Ev ρ c z (.int D b)) (M:c=true->a=lo) (J:c=true->b=f) (h1:c=true->lo<=f) (h2:c=true->f<=xs.length) (h:∀ j L,L=(xs.drop lo).take (f-lo)->(c=true->L.length=f-lo)->SlR G sz enc j L->Wo dr mc P n l K σ ((d,c,j.val L.length) :: ρ) G μ):Wo dr mc P n l K (i :: σ) ρ G μ:=by
 cases c with
 | false =>
  obtain ⟨j,m⟩:=r.cutx lo (f-lo);exact .pure A (.inl rfl) C (fun v=>nomatch v) (h j _ rfl (fun v=>nomatch v) m)
 | true =>
  obtain rfl:=M rfl; obtain rfl:=J rfl;have S:=h1 rfl; have Q:=h2 rfl; have O:=r.le;have I:((xs.drop lo).take (f-lo)).length=f-lo:=by grind
  refine scn (q:=((xs.drop lo).take (f-lo)).length) A C N H F E om om om om ?_;rw [yc];exact h _ _ rfl (fun _=>I) (r.cutn om)
def kD {T r:Nat} {x:Operand} {s:Sh} {xs:List α} {a:Int} (lo:Nat) (w:nth l i=some ⟨some d,.slice T x (some y) none none,t,p,af,g⟩) (C:Gd l ρ g c) (H:bY P T=some (e,sz,r)) (m:SlR G sz enc s xs) (E:Ev ρ c x (s.val xs.length)) (D:Ev ρ c y (.int k a)) (F:c=true->a=lo) (h1:c=true->lo<=xs.length) (h:∀ j L,L=xs.drop lo->(c=true->L.length=xs.length-lo)->SlR G sz enc j L->Wo dr mc P n l K σ ((d,c,j.val L.length) :: ρ) G μ):Wo dr mc P n l K (i :: σ) ρ G μ:=by
 have v:(xs.drop lo).take (xs.length-lo)=xs.drop lo:=wd (by simp);cases c with
 | false =>
  obtain ⟨j,f⟩:=m.cutx lo (xs.length-lo);rw [v] at f;exact .pure w (.inl rfl) C (fun q=>nomatch q) (h j _ rfl (fun q=>nomatch q) f)
 | true =>
  obtain rfl:=F rfl;have J:=h1 rfl; have I:=m.le;have A:(xs.drop lo).length=xs.length-lo:=by simp
  refine sd w C H E D om om ?_;rw [yc,←A];refine h _ _ rfl (fun _=>A) ?_;rw [← v]; exact m.cutn om
theorem kE {T A:Nat} {x:Operand} {s:Sh} {xs:List α} {a:Int} (m:Nat) (C:nth l i=some ⟨some d,.slice T x none (some y) none,t,p,af,g⟩) (D:Gd l ρ g c) (I:bY P T=some (e,sz,A)) (q:SlR G sz enc s xs) (F:Ev ρ c x (s.val xs.length)) (E:Ev ρ c y (.int k a)) (H:c=true->a=m) (h1:c=true->m<=xs.length) (h:∀ s' L,L=xs.take m->(c=true->L.length=m)->SlR G sz enc s' L->Wo dr mc P n l K σ ((d,c,s'.val L.length) :: ρ) G μ):Wo dr mc P n l K (i :: σ) ρ G μ:=by
 have f:SlR G sz enc s (xs.take m):=by
  refine ⟨fun v=>q.there (fun e=>v (by simp_all)),by have:=q.le; grind,fun j u r=>?_⟩;rw [xr] at r;split at r
  ·exact q.rd j u r
  cases r
 cases c with
 | false=>exact .pure C (.inl rfl) D (fun w=>nomatch w) (h s _ rfl (fun w=>nomatch w) f)
 | true =>
  obtain rfl:=H rfl;have N:=h1 rfl; have M:=q.le;have J:(xs.take m).length=m:=by simp_all
  refine se C D I F E om om ?_;simp_all
def arn {T I:TypeId} {x:Operand} {q m r:Int} (e:Int) (E:nth l i=some ⟨some d,.binOp op T x y I,t,p,af,g⟩) (F:Gd l ρ g c) (A:Ev ρ c x (.int k q)) (v:Ev ρ c y (.int k m)) (D:yY op q m=some r) (H:c=true->r=e) (C:c=true->k.wrap e=e) (h:Wo dr mc P n l K σ ((d,c,.int k e) :: ρ) G μ):Wo dr mc P n l K (i :: σ) ρ G μ :=
 .pure E (.inl rfl) F (fun f a w j=>by obtain rfl:=H f; simp [execOp,A.eval j f,v.eval j f,mM,aGf _ D _,C f]) h
def rmn {T F:TypeId} {x:Operand} {v r:Int} (a b:Nat) (D:nth l i=some ⟨some d,.binOp .rem T x y F,t,p,af,g⟩) (E:Gd l ρ g c) (C:Ev ρ c x (.int k v)) (A:Ev ρ c y (.int k r)) (h1:c=true->v=a) (h2:c=true->r=b) (m:c=true->b≠0) (h:Wo dr mc P n l K σ ((d,c,.int k ((a%b:Nat):Int)) :: ρ) G μ):Wo dr mc P n l K (i :: σ) ρ G μ :=
 .pure D (.inl rfl) E (fun f q w j=>by
  obtain rfl:=h1 f; obtain rfl:=h2 f;have:=m f;have e:((a:Int).tmod (b:Int))=((a%b:Nat):Int):=rfl;simp [execOp,C.eval j f,A.eval j f,mM,binOp,Op.intDiv,m f,e]) h
theorem qun {T I:TypeId} {x:Operand} {v r:Int} (a b:Nat) (D:nth l i=some ⟨some d,.binOp .quo T x y I,t,p,af,g⟩) (F:Gd l ρ g c) (C:Ev ρ c x (.int .i64 v)) (A:Ev ρ c y (.int .i64 r)) (h1:c=true->v=a) (h2:c=true->r=b) (H:c=true->b≠0) (m:c=true->a<=9223372036854775807) (h:Wo dr mc P n l K σ ((d,c,.int .i64 ((a / b:Nat):Int)) :: ρ) G μ):Wo dr mc P n l K (i :: σ) ρ G μ :=
 .pure D (.inl rfl) F (fun f q w k=>by
  obtain rfl:=h1 f; obtain rfl:=h2 f;have m:=m f;have e:((a:Int).tdiv (b:Int))=((a / b:Nat):Int):=rfl;have E:a / b<=a:=Nat.div_le_self a b;have j:IntKind.i64.wrap ((a / b:Nat):Int)=((a / b:Nat):Int):=by
   grind[cP]
  simp only [qa6] at j;simp [execOp,C.eval k f,A.eval k f,mM,binOp,Op.intDiv,H f,e,j]) h
def sN {T E:TypeId} {x:Operand} {r m:Int} (a b:Nat) (C:nth l i=some ⟨some d,.call { callee:=.builtin .min,args:=#[x,y],argTypes:=#[T,E] },t,p,af,g⟩) (D:Gd l ρ g c) (A:Ev ρ c x (.int k r)) (v:Ev ρ c y (.int k m)) (h1:c=true->r=a) (h2:c=true->m=b) (h:Wo dr mc P n l K σ ((d,c,.int k ((min a b:Nat):Int)) :: ρ) G μ):Wo dr mc P n l K (i :: σ) ρ G μ :=
 .read C (.inl rfl) D (fun f q w j _=>by
  obtain rfl:=h1 f; obtain rfl:=h2 f;have e:(if (b:Int)<(a:Int) then (b:Int) else (a:Int))=((min a b:Nat):Int):=by omega
  simp [execOp,resolve,invoke,builtin,A.eval j f,v.eval j f,Builtin.min_,Builtin.min2];omega) h
def xU {T E:TypeId} {x:Operand} {r m:Int} (a b:Nat) (C:nth l i=some ⟨some d,.call { callee:=.builtin .max,args:=#[x,y],argTypes:=#[T,E] },t,p,af,g⟩) (D:Gd l ρ g c) (A:Ev ρ c x (.int k r)) (v:Ev ρ c y (.int k m)) (h1:c=true->r=a) (h2:c=true->m=b) (h:Wo dr mc P n l K σ ((d,c,.int k ((max a b:Nat):Int)) :: ρ) G μ):Wo dr mc P n l K (i :: σ) ρ G μ :=
 .read C (.inl rfl) D (fun f q w j _=>by
  obtain rfl:=h1 f; obtain rfl:=h2 f;have e:(if (b:Int) > (a:Int) then (b:Int) else (a:Int))=((max a b:Nat):Int):=by omega
  simp [execOp,resolve,invoke,builtin,A.eval j f,v.eval j f,Builtin.max_,Builtin.max2];omega) h
def ng {T:TypeId} {x:Operand} {a:Int} (m:nth l i=some ⟨some d,.unOp .neg T x,t,p,af,g⟩) (r:Gd l ρ g c) (f:Ev ρ c x (.int k a)) (j:c=true->k.wrap (-a) = -a) (h:Wo dr mc P n l K σ ((d,c,.int k (-a)) :: ρ) G μ):Wo dr mc P n l K (i :: σ) ρ G μ :=
 .pure m (.inl rfl) r (fun e q w v=>by simp [execOp,f.eval v e,Op.unary,Op.intArith,j e]) h
def nw {T:TypeId} {x:Operand} {a:BitVec k.bits} (f:nth l i=some ⟨some d,.unOp .neg T x,t,p,af,g⟩) (j:Gd l ρ g c) (v:k.signed=false) (e:Ev ρ c x (uv k a)) (h:Wo dr mc P n l K σ ((d,c,uv k (-a)) :: ρ) G μ):Wo dr mc P n l K (i :: σ) ρ G μ :=
 .pure f (.inl rfl) j (fun m q w r=>by
  have y:=e.eval r m;simp_all[aCJ,qa4,execOp,uv,Op.unary,Op.intArith]) h
def xw {T:TypeId} {x:Operand} {a:BitVec k.bits} (m:nth l i=some ⟨some d,.unOp .xor T x,t,p,af,g⟩) (r:Gd l ρ g c) (f:k.signed=false) (j:Ev ρ c x (uv k a)) (h:Wo dr mc P n l K σ ((d,c,uv k (~~~a)) :: ρ) G μ):Wo dr mc P n l K (i :: σ) ρ G μ :=
 .pure m (.inl rfl) r (fun v q w y=>by
  have D:=j.eval y v;have C:qk k.bits k.max=qa7 k.bits:=by
   cases k<;>first|rfl | cases f
  have A:qa7 k.bits ^^^ a = ~~~a:=by simp
  have e:k.wrap (((~~~a).toNat:Nat):Int)=((~~~a).toNat:Int):=aAl f _;simp_all[execOp,uv,Op.unary,Op.intBits]) h
def Sat.rowOne {v:Value} {w:World} (c:Sat G [.row v E sz m xs] w):v.oneCell'=true:=by
 have a:w.ownsRow 0 E sz v m xs:=c.own _ (qd.2 rfl);rcases a.2 with ⟨rfl,_⟩ | ⟨g,f,e,rfl,_⟩<;>rfl
theorem dE {T:Nat} {x:Operand} {v u:Value} {xs:List Y} {c:aB} (N:nth l i=some ⟨some d,.call { callee:=.builtin .append,args:=#[x,y],argTypes:=#[T,T] },t,p,af,none⟩) (S:bY P T=some (E,1,1)) (F:(P.info? E).bind (·.zero)=some (.int .u8 0)) (I:Ev ρ true x v) (H:Ev ρ true y u) (hm:MTake μ (rB v E xs) c) (g:Sc G μ u ys) (Z:xs.length+ys.length<=140737488355328) (h:∀ e L,e.oneCell'=true->L=xs++ys->Wo dr mc P n l K σ ((d,true,e) :: ρ) G (rB e E L :: c)) (hmc:mc.a=false∨dr=false:=by first|exact .inl rfl|exact .inr rfl):Wo dr mc P n l K (i :: σ) ρ G μ:=by
 obtain ⟨oa,q,rfl,M⟩:=g.ex;refine .act (μ₁:=[rB v E xs]) (μ₂:=c) (post:=fun C c e=>C=G∧e.oneCell'=true∧c=[rB e E (xs++ys)]) N (by simp_all[bB]) .no hm.perm (fun a w A g=>.inl ?_) ?_
 ·obtain ⟨e,D,f,J⟩:=aAU (ty:=t) (cp:=q) (news:=ys.map V) (k:=ys.length) (oa:=oa) S F rfl g.left (by simp) (fun O=>by
   obtain ⟨b,o,m,X⟩:=M O;exact ⟨b,o,m,fun j u Q=>X j u Q w (g.perm hm.perm.symm)⟩) (aDk _) om (by grind[maxLen])
  refine ⟨e,D,G,[rB e E (xs++ys)],.inl (by simp [execOp,resolve,invoke,builtin,I.eval A rfl,H.eval A rfl,f]),?_,rfl,J.sat.rowOne,rfl⟩;grind
 rintro e C r _ ⟨rfl,m,rfl⟩;exact h e _ m rfl
theorem Sat.rowVal {v:Value} {w:World} (e:Sat G μ w) (hm : .row v E sz m xs∈μ) (j:0<m):∃ b a,v=.slice (some ⟨b,0,none⟩) m a∧m<=a:=by
 have c:w.ownsRow 0 E sz v m xs:=e.own _ hm;rcases c.2 with ⟨rfl,rfl⟩ | ⟨g,a,h,rfl,_,i,f,_⟩
 ·omega
 grind
def bBV {e:Exit} {k:List KI} {v:Value} {f:aB} (hm:MTake μ (.row v E sz m xs) f) (n:0<m) (h:∀ b c,v=.slice (some ⟨b,0,none⟩) m c->m<=c->We X e k ρ G μ):We X e k ρ G μ :=
 ⟨fun a w i g=>by
  obtain ⟨b,c,l,j⟩:=g.sat.rowVal (hm.perm.mem_iff.2 (qh ..)) n;exact (h b c l j).out a w i g⟩
def pT {g:Code} {k:List KI} {v:Value} {e:aB} (hm:MTake μ (.row v E sz m xs) e) (n:0<m) (h:∀ b c,v=.slice (some ⟨b,0,none⟩) m c->m<=c->Wk X g k ρ G μ):Wk X g k ρ G μ :=
 ⟨fun a w i f=>by
  obtain ⟨b,c,l,j⟩:=f.sat.rowVal (hm.perm.mem_iff.2 (qh ..)) n;exact (h b c l j).out a w i f⟩
def Tr.frzB {c:PM} {w:World} {v:Value} {xs:List Y} (h:Tr c K0 w0 G (rB v E xs :: μ) w) :
  ∃ a s,PM.le G a∧v=Sh.val s xs.length∧SlR a 1 aH s xs∧Tr c K0 w0 a μ w:=by
 obtain ⟨a,s,j,i,g,f,k,e⟩:=h.freezeRow;exact ⟨a,s,j,i,rO (fun _ _=>rfl) g f (by simp_all[tV]),e⟩
def aHH {e:Exit} {k:List KI} {v:Value} {xs:List Y} {c:aB} (hm:MTake μ (rB v E xs) c) (h:∀ f s,PM.le G f->v=Sh.val s xs.length->SlR f 1 aH s xs->We X e k ρ f c):We X e k ρ G μ :=
 ⟨fun a w i g=>by
  obtain ⟨f,s,n,m,l,j⟩:=(g.perm hm.perm).frzB;exact (h f s n m l).out a w i j⟩
def lB {f:Code} {k:List KI} {v:Value} {xs:List Y} {c:aB} (hm:MTake μ (rB v E xs) c) (h:∀ e s,PM.le G e->v=Sh.val s xs.length->SlR e 1 aH s xs->Wk X f k ρ e c):Wk X f k ρ G μ :=
 ⟨fun a w i g=>by
  obtain ⟨e,s,n,m,l,j⟩:=(g.perm hm.perm).frzB;exact (h e s n m l).out a w i j⟩
theorem aOZ {f:FuncId} {args:Array Value} {μ0:aB} {Q:PM->aB->Value->Prop} (h:Ct P f args G [] Q) {R:List Y->Prop} (k:∀ c a u,Q c a u->∃ L,R L∧a=[rB u E L]) :
  Ct P f args G [] (fun c a u=>∃ (s:Sh) (L:List Y),R L∧a=[]∧u=s.val L.length∧SlR c 1 aH s L):=by
 intro w i;refine (h w i).mono ?_;rintro e l ⟨v,c,a,rfl,g,j⟩;obtain ⟨L,m,rfl⟩:=k _ _ _ j;obtain ⟨t,s,r,q,p,n⟩:=g.frzB;grind
def aVj (m:Nat):(madeCells (Value.int .u8 0).cells m).toList=(List.replicate m (0#8)).map V:=by
 have c:(Value.int .u8 0).cells = #[.int .u8 0]:=rfl;rw [c];unfold madeCells;rw [Array.toList_map];refine xq fun j=>?_;by_cases a:j<m
 ·simp [a,Nat.mod_one]; rfl
 simp_all
def mkY {T:Nat} {x:Operand} {a b:Int} {C:IntKind} (lo cap:Nat) (N:nth l i=some ⟨some d,.makeSlice T x y,t,p,af,none⟩) (S:bY P T=some (E,1,1)) (g:(P.info? E).bind (·.zero)=some (.int .u8 0)) (J:Ev ρ true x (.int k a)) (I:Ev ρ true y (.int C b)) (Q:a=lo) (O:b=cap) (h1:lo<=cap) (h2:cap<=140737488355328) (h:∀ b,Wo dr mc P n l K σ ((d,true,.slice (some ⟨b,0,none⟩) lo cap) :: ρ) G (rB (.slice (some ⟨b,0,none⟩) lo cap) E (List.replicate lo 0#8) :: μ)):Wo dr mc P n l K (i :: σ) ρ G μ:=by
 subst Q; subst O;refine .act (μ₁:=[]) (μ₂:=μ) (post:=fun H e v=>∃ b,H=G∧v=.slice (some ⟨b,0,none⟩) lo cap∧e=[rB (.slice (some ⟨b,0,none⟩) lo cap) E (xl lo 0#8)]) N (.inl rfl) .no (.refl _) (fun q w D M=>.inl ?_) ?_
 ·obtain ⟨L,f,F,j,r⟩:=fW S;rw [F] at g;simp only [qu] at g;have c:=run_make (P:=P) w T E f _ L F g k C lo cap om om (by rw [r]; omega) om;simp only [yc,j,Nat.mul_one] at c;have X:Tr G (keys []) w G [.blk w.heap.size (.cells (madeCells (Value.int .u8 0).cells cap) E (0,0))] _:=(gX (Sat.left (μ:=[]) M)).alloc _;refine ⟨_,_,G,_,.inl (by simp [execOp,J.eval D rfl,I.eval D rfl,c]),X.asRow (m:=lo) (cap:=cap) (sz:=1) (xs:=(xl lo 0#8).map V) (by simp) h1 (by unfold maxLen; omega) (by simp[size_madeCells]) ?_,w.heap.size,rfl,rfl,by simp⟩;simp_all[aVj]
 rintro v H A _ ⟨b,rfl,rfl,rfl⟩;exact h b
theorem s1r {T b o:Nat} {x:Operand} {z:Y} {xs:List Y} {k:aB} (ho:nth l i=some ⟨none,.store T x y,t,p,af,none⟩) (Z:Ev ρ true x (.pointer (some ⟨b,o,none⟩))) (X:Ev ρ true y (V z)) (S:jC P T=some 1) (hm:MTake μ (rB (.slice (some ⟨b,0,none⟩) m cap) E xs) k) (hl:o<xs.length) (h:∀ L,L=xs.set o z->L.length=xs.length->Wo dr mc P n l K σ ρ G (rB (.slice (some ⟨b,0,none⟩) m cap) E L :: k)):Wo dr mc P n l K (i :: σ) ρ G μ:=by
 refine .act (μ₁:=[rB (.slice (some ⟨b,0,none⟩) m cap) E xs]) (μ₂:=k) (post:=fun Q k v=>Q=G∧k=[rB (.slice (some ⟨b,0,none⟩) m cap) E (xs.set o z)]∧v=undef) ho (.inl rfl) .no hm.perm (fun a w N hs=>.inl ?_) ?_
 ·have A:=hs.left;have D:w.ownsRow 0 E 1 (.slice (some ⟨b,0,none⟩) m cap) xs.length (xs.map V):=A.own _ (qd.2 rfl);rcases D.2 with ⟨e,_⟩ | ⟨g,O,f,e,_,M,H,I,a8,q⟩
  ·cases e
  simp only [Value.slice.injEq,Option.some.injEq,Addr.mk.injEq,and_true,true_and] at e;obtain ⟨rfl,rfl,rfl⟩:=e;have hk:keys [rB (.slice (some ⟨b,0,none⟩) xs.length cap) E xs]=[b]:=by rfl
  have C:Sat G [.blk b (.cells f E (0,0))] w:=⟨A.sub,fun r hr=>by rw [qd.1 hr]; exact M,fun c hc=>A.apart c (by trivial),by simp [keys,Res.keys]⟩;have a2:o<f.size:=by omega
  have F:=run_storeCells_at P b o E [V z] 0 f w M (by grind) (by intro v hv; rw [qd.1 hv]; rfl);simp only [yj,wy] at F;have h2:=(wW (cs':=(f.toList.take o++[V z]++f.toList.drop (o+1)).toArray) C).asRow (m:=xs.length) (cap:=cap) (sz:=1) (xs:=(xs.set o z).map V) (by simp) H I ?_ ?_
  ·refine ⟨undef,_,G,_,.inr ⟨?_,rfl⟩,by rw [hk]; exact h2,rfl,by simp,rfl⟩;cases hi:P.info? T with
   | none=>simp_all[jC]
   | some inf =>
    simp only [jC,hi,wx,Option.some.injEq] at S;have a0:(V z).cells = #[V z]:=rfl;simp only [execOp,Z.eval N rfl,X.eval N rfl];simp_all[Instr.storeAt,Instr.sureAddr,storeVar,sizeOf,typeInfo]
  ·grind
  have h3:f.toList.take o++[V z]++f.toList.drop (o+1)=f.toList.set o (V z):=by
   simp_all[ja]
  rw [h3,List.map_set,←q];refine xq fun j=>?_;grind
 rintro v Q J _ ⟨rfl,rfl,rfl⟩;exact h _ rfl (by simp)
def aQ (xs:List Y):ByteArray:=(xs.map fun y=>(y.toNat:Int)).foldl (fun r n=>r.push (UInt8.ofNat n.toNat)) ByteArray.empty
theorem vI (xs:List Y):(aQ xs).data.toList=xs.map fun y=>UInt8.ofNat y.toNat:=by
 have c:∀ (a:List Int) (s:ByteArray),(a.foldl (fun r n=>r.push (UInt8.ofNat n.toNat)) s).data.toList=s.data.toList++a.map fun n=>UInt8.ofNat n.toNat:=by
  intro a;induction a<;>simp_all
 simp_all[aQ]
theorem xA {xs:List Y} (h:aQ xs=aQ ys):xs=ys:=by
 have e:(aQ xs).data.toList=(aQ ys).data.toList:=by rw [h]
 rw [vI,vI] at e;have c:∀ a b:Y,UInt8.ofNat a.toNat=UInt8.ofNat b.toNat->a=b:=by
  simp
 clear h;induction xs generalizing ys with
 | nil=>simp_all
 | cons a xs ih=>cases ys with
  | nil=>grind
  | cons b ys =>
   grind
theorem aQt (xs ys:List Y):((aQ xs).toList == (aQ ys).toList)=decide (xs=ys):=by
 grind[ByteArray.toList_eq,xA,ByteArray.ext,Array.toList_inj]
theorem fJ (xs:List Y):(aQ xs).size=xs.length:=by
 have:=congrArg wm (vI xs);simp_all
def bsT (P:Program) (S D:TypeId):Bool:=match P.underlying S,P.underlying D with
 | some (.slice e),some .string=>match P.underlying e with | some (.int .u8)=>true | _=>false
 | _,_=>false
theorem sB {x:Operand} {u:Value} (C:nth l i=some ⟨some d,.convert S D x,t,p,af,g⟩) (F:Gd l ρ g c) (k:bsT P S D=true) (v:Ev ρ c x u) (A:c=true->Sc G μ u ys) (h:Wo dr mc P n l K σ ((d,c,.string (aQ ys)) :: ρ) G μ):Wo dr mc P n l K (i :: σ) ρ G μ :=
 .read C (.inl rfl) F (fun r a w I q=>by
  unfold bsT at k;split at k
  ·rename_i e M L;split at k
   ·rename_i J;obtain ⟨m,j,rfl,Q⟩:=(A r).ex;have f:=run_convert_bytes_string w S D e m ys.length j M J L;have H:(Conv.bytesToString (.slice m ys.length j)).run P w=.ok (.string (aQ ys)) w:=by
     cases m with
     | none =>
      simp_all[Conv.bytesToString,aQ]
     | some ad =>
      have E:(loadCells ad ys.length).run P w=.ok ((ys.map fun y=>(y.toNat:Int)).map (Value.int .u8)).toArray w:=by
       have O:(ys.map fun y=>(y.toNat:Int)).map (Value.int .u8)=ys.map V:=by rw [List.map_map]; rfl
       rw [O];rcases zm ys.length with N | N
       ·simp_all[loadCells,loadCellsFrom]
       grind[aMU]
      exact run_bytesToString w ad ys.length j _ E
    simp [execOp,v.eval I r,f,H]
   ·cases k
  ·cases k) h
def pN (P:Program) (T:TypeId):Bool:=match P.underlying T with | some (.pointer _)=>true | _=>false
def aMS {T:TypeId} {a:Addr} (c:pN P T=true) (w:World):(Op.equal T (.pointer (some a)) (.pointer none)).run P w=.ok false w:=by
 unfold pN at c;split at c
 ·rename_i e f;unfold Op.equal;rw [show Op.maxDepth=9999+1 from rfl,Op.equalIn];simp [run_underlying f]
 ·cases c
def pn {T:TypeId} {x:Operand} {a:Addr} (r:nth l i=some ⟨some d,.binOp .neq T x y C,t,p,af,g⟩) (v:Gd l ρ g c) (A:pN P T=true) (k:Ev ρ c x (.pointer (some a))) (j:Ev ρ c y (.pointer none)) (h:Wo dr mc P n l K σ ((d,c,.bool true) :: ρ) G μ):Wo dr mc P n l K (i :: σ) ρ G μ :=
 .pure r (.inl rfl) v (fun e q w f=>by
  have m:(eqGuard .neq T x y (.pointer (some a)) (.pointer none)).run P w=.ok () w:=by rfl
  simp [execOp,k.eval f e,j.eval f e,m,binOp,aMS A]) h
def pe {T:TypeId} {x:Operand} {a:Addr} (r:nth l i=some ⟨some d,.binOp .eql T x y C,t,p,af,g⟩) (v:Gd l ρ g c) (A:pN P T=true) (k:Ev ρ c x (.pointer (some a))) (j:Ev ρ c y (.pointer none)) (h:Wo dr mc P n l K σ ((d,c,.bool false) :: ρ) G μ):Wo dr mc P n l K (i :: σ) ρ G μ :=
 .pure r (.inl rfl) v (fun e q w f=>by
  have m:(eqGuard .eql T x y (.pointer (some a)) (.pointer none)).run P w=.ok () w:=by rfl
  simp [execOp,k.eval f e,j.eval f e,m,binOp,aMS A]) h
theorem rQ {T c:Nat} (j:nth l i=some ⟨some d,.buildSlice T 0 #[],t,p,af,none⟩) (m:bY P T=some (E,sz,c)) (h:∀ b,Wo dr mc P n l K σ ((d,true,.slice (some ⟨b,0,none⟩) 0 0) :: ρ) G (.blk b (cl [] E) :: μ)):Wo dr mc P n l K (i :: σ) ρ G μ :=
 .box (ob:=cl [] E) (mkv:=fun b=>.slice (some ⟨b,0,none⟩) 0 0) j (.inl rfl) .no (fun a w q=>by
  obtain ⟨f,e,k,g,_⟩:=fW m;simp [execOp,Instr.buildSlice,run_underlying f,sizeOf,typeInfo,k,Instr.fill,newRow,cl];grind) h
def Sat.toRow {E b:Nat} {w:World} (h:Sat G [.blk b (cl [] E)] w):Sat G [rB (.slice (some ⟨b,0,none⟩) 0 0) E []] w :=
 ((gX h).toRow (m:=0) (sz:=1) (by simp) (qo _)).sat
theorem vG {T b:Nat} {x:Operand} {u:Value} {A:aB} (ho:nth l i=some ⟨some d,.call { callee:=.builtin .append,args:=#[x,y],argTypes:=#[T,T] },t,p,af,none⟩) (hT:bY P T=some (E,1,1)) (hz:(P.info? E).bind (·.zero)=some (.int .u8 0)) (hx:Ev ρ true x (.slice (some ⟨b,0,none⟩) 0 0)) (hy:Ev ρ true y u) (hm:MTake μ (.blk b (cl [] E)) A) (C:Sc G μ u ys) (hb:ys.length<=140737488355328) (h:∀ f L ν,f.oneCell'=true->L=ys->Wo dr mc P n l K σ ((d,true,f) :: ρ) G (rB f E L :: (A++ν))):Wo dr mc P n l K (i :: σ) ρ G μ:=by
 obtain ⟨oa,cap,rfl,hr⟩:=C.ex;clear C;have F:∀ a w,Ag n ρ a->Sat G ([.blk b (cl [] E)]++A) w->∃ f O,(execOp a.eval ⟨some d,.call { callee:=.builtin .append,args:=#[x,y],argTypes:=#[T,T] },t,p,af,none⟩).run P w=.ok (.value f) O∧Tr G (keys [.blk b (cl [] E)]) w G [rB f E ys] O:=by
  intro a w D C;have H:=Sat.toRow C.left;obtain ⟨f,O,q,ht⟩:=aAU (ty:=t) (cp:=cap) (m:=0) (xs:=[]) (news:=ys.map V) (k:=ys.length) (oa:=oa) hT hz rfl H (by simp) (fun hk=>by
   obtain ⟨b,o,N,M⟩:=hr hk;exact ⟨b,o,N,fun j u hj=>M j u hj w (C.perm hm.perm.symm)⟩) (aDk _) om (by grind[maxLen])
  refine ⟨f,O,by simp [execOp,resolve,invoke,builtin,hx.eval D rfl,hy.eval D rfl,q],?_⟩;simp_all[keys,Res.keys,Value.ownBlock]
 by_cases d4:mc.a=true
 ·refine .fresh (μ₁:=[.blk b (cl [] E)]) (μ₂:=A) (post:=fun G' J I f=>G'=G∧f.oneCell'=true∧J=[rB f E ys]∧Weak (J++I) [.blk b (cl [] E)]) ho (.inl (by grind[bB])) rfl hm.perm (fun a w D C=>?_) (fun v G' J I hq=>hq.2.2.2) ?_
  ·by_cases a7:ys.length=0
   ·
    obtain ⟨f,O,N,M⟩:=F a w D C;have a6:ys=[]:=wo a7;subst a6;have b8:w.heap[b]? = some (cl [] E):=C.own _ (wi _ (qd.2 rfl));obtain ⟨hu,a1,hi,b5,b7⟩:=fW hT;have hv:f=.slice (some ⟨b,0,none⟩) 0 0:=by
     have q:(execOp a.eval ⟨some d,.call { callee:=.builtin .append,args:=#[x,y],argTypes:=#[T,T] },t,p,af,none⟩).run P w=.ok (.value (.slice (some ⟨b,0,none⟩) 0 0)) w:=by
      simp only [execOp,resolve,invoke,builtin,hx.eval D rfl,hy.eval D rfl];cases oa<;>simp [hx.eval D rfl,hy.eval D rfl,Builtin.append_,run_underlying hu,sizeOf,typeInfo,hi,Builtin.lenOf,Builtin.firstCells,loadCells,loadCellsFrom,storeCells]
     simp_all
    refine ⟨f,O,G,[rB f E []],[],N,M,rfl,M.sat.rowOne,rfl,?_⟩;subst hv;refine ⟨fun w1 S r X=>?_,fun c hc=>?_,by simp [keys,Res.keys]⟩
    ·rw [qd.1 X];have H:w1.ownsRow 0 E 1 (.slice (some ⟨b,0,none⟩) 0 0) 0 []:=S _ (qd.2 rfl);rcases H.2 with ⟨e,_⟩ | ⟨g,c7,c0,e,_,hg,d0,d9,d8,a9⟩
     ·cases e
     simp only [Value.slice.injEq,Option.some.injEq,Addr.mk.injEq,and_true,true_and] at e;obtain ⟨rfl,rfl⟩:=e;have:c0 = #[]:=Array.eq_empty_of_size_eq_zero om;subst this;exact hg
    trivial
   have b8:w.heap[b]? = some (cl [] E):=C.own _ (wi _ (qd.2 rfl));obtain ⟨hu,a1,hi,b5,b7⟩:=fW hT;have Q:=hz;rw [hi] at Q;simp only [qu] at Q;obtain ⟨b2,o2,rfl,b6⟩:=hr om;have Z:∀ j u,(ys.map V)[j]? = some u->w.cell? ((⟨b2,o2,none⟩ : Addr).add j)=some u:=fun j u hj=>by rw [jS]; exact b6 j u hj w (C.perm hm.perm.symm)
   have q:=run_append_grow (P:=P) w T t E a1 _ hu hi Q ⟨b,0,none⟩ 0 0 [] (by simp) (fun j u hj=>by grind) ⟨b2,o2,none⟩ ys.length cap (ys.map V) (by simp_all) Z om om (growslice_fits om (by simp_all));have M:=((gX C.left).drew).alloc (.cells (([]:List Value).toArray++(ys.map V).toArray++Builtin.zeroCells (Value.int .u8 0).cells (grownCap w (0+ys.length) 0 E-(0+ys.length))) E);have d6:=grownCap_ge w (0+ys.length) 0 E;have h3:=M.asRow (m:=ys.length) (cap:=grownCap w (0+ys.length) 0 E) (sz:=1) (xs:=ys.map V) (by simp) om (grownCap_le_maxLen w (0+ys.length) 0 E (by grind[maxLen])) (by
    simp only [jt,zd,size_zeroCells,List.length_map,qt];have:(Value.int .u8 0).cells.size=1:=rfl;simp_all) (by simp)
   refine ⟨_,_,G,[_],[.blk b (cl [] E)],?_,h3,rfl,?_,rfl,?_⟩
   ·simp only [wb] at q ⊢;simp [execOp,resolve,invoke,builtin,hx.eval D rfl,hy.eval D rfl,q]
   ·rfl
   refine ⟨fun w1 S r X=>S r (qj _ X),fun c hc=>?_,by simp [keys,Res.keys]⟩;grind[jM]
  rintro f G' J I _ ⟨rfl,N,rfl,_⟩;exact h f _ I N rfl
 refine .act (μ₁:=[.blk b (cl [] E)]) (μ₂:=A) (post:=fun G' A f=>G'=G∧f.oneCell'=true∧A=[rB f E ys]) ho (.inl (by grind[bB])) .no hm.perm (fun a w D C=>.inl ?_) ?_
 ·obtain ⟨f,O,N,M⟩:=F a w D C;exact ⟨f,O,G,[rB f E ys],.inl N,M,rfl,M.sat.rowOne,rfl⟩
 rintro f G' c1 _ ⟨rfl,N,rfl⟩;have:=h f _ [] N rfl;rwa [List.append_nil] at this
def aAk {a:Code} {k:List KI} (E:Nat) (h:Wk X a k ρ G (rB (.slice none 0 0) E [] :: μ)):Wk X a k ρ G μ:=aOF E 1 h
def nW {e:Exit} {k:List KI} (E:Nat) (h:We X e k ρ G (rB (.slice none 0 0) E [] :: μ)):We X e k ρ G μ:=aN9 E 1 h
def fE {a b:Int} (h:a=b):Value.int k a=Value.int k b:=by rw [h]
abbrev PR (E:Nat) (R:List Y→Prop):PM→aB→Value→Prop:=fun _ μ' u=>∃ L,R L∧μ'=[rB u E L]
abbrev PS (R:List Y→Prop):PM→aB→Value→Prop:=fun G' μ' u=>∃ (s:Sh) (L:List Y),R L∧μ'=[]∧u=s.val L.length∧SlR G' 1 aH s L
def Ct.frzB {f:FuncId} {args:Array Value} {R:List Y->Prop} (h:Ct P f args G [] (PR E R)):Ct P f args G [] (PS R):=aOZ (μ0:=[]) h (fun _ _ _ h=>h)
def RdNP.wat {b:Nat} {y:Nat->W} (h:RdNP G b 0 (wa m y)) {j:Int} (a:Nat) (c:0+j.toNat*1=a) (e:a<m):RdP G ⟨b,0+j.toNat*1,none⟩ (U (y a)):=by
 simp_all[RdNP,wa]
def cn {x:Operand} {a:BitVec k.bits} (f:nth l i=some ⟨some d,.convert S D x,t,p,af,g⟩) (q:Gd l ρ g c) (j:rY P S D=some .i64) (r:k.bits<=32) (e:Ev ρ c x (uv k a)) (h:∀ m:Nat,m=a.toNat->m<2^k.bits->Wo dr mc P n l K σ ((d,c,.int .i64 (m:Int)) :: ρ) G μ):Wo dr mc P n l K (i :: σ) ρ G μ :=
 cw f q j e (fun _=>cP om (by
  have w:=a.isLt;have v:2^k.bits<=2^32:=yw dc r;omega)) (h a.toNat rfl a.isLt)
def PM.del (G:PM) (b:Nat):PM:=fun c=>if c=b then none else G c
def aZ {μ a:aB} {c:Res} (h1:MTake μ c a):μ.Perm ([c]++a):=h1.perm
def dY {μ c a:aB} {f e:Res} (h1:MTake μ f c) (h2:MTake c e a):μ.Perm ([f,e]++a):=h1.perm.trans (h2.perm.cons _)
def fK {μ e c a:aB} {h g f:Res} (h1:MTake μ h e) (h2:MTake e g c) (h3:MTake c f a):μ.Perm ([h,g,f]++a):=h1.perm.trans ((h2.perm.trans (h3.perm.cons _)).cons _)
def uT {f:FuncId} {args:Array Value} {b:Nat} {o:Obj} {Q:aB->Value->Prop} (h:Ct P f args (G.add b o) μ (fun _ g u=>Q g u)):Ct P f args G (.blk b o :: μ) (fun _ g u=>∃ ν,g=.blk b o :: ν∧Q ν u):=by
 intro w q;have y:keys (.blk b o :: μ)=b :: keys μ:=by rfl
 have l:=q.nodup;rw [y] at l;have j:=(xa.1 l).1;have F:w.heap[b]? = some o:=q.own _ (qh ..);have A:Sat (G.add b o) μ w:=by
  refine ⟨fun c u a=>?_,fun r t=>q.own r (qj _ t),fun c a=>?_,(xa.1 l).2⟩
  ·unfold PM.add at a;split at a
   ·simp_all
   exact q.sub c u a
  unfold PM.add;rw [if_neg (fun (e:c=b)=>j (e▸a))];exact q.apart c (by simp_all)
 refine (h w A).mono ?_;rintro e I ⟨v,E,g,rfl,i,H⟩;have C:E b=some o:=i.le b o j (bI _ _ _);have m:keys (.blk b o :: g)=b :: keys g:=by rfl
 have n:b∉keys g:=fun x=>by have:=i.sat.apart b x; simp_all
 refine ⟨v,E.del b,.blk b o :: g,rfl,⟨⟨fun c u a=>?_,fun r t=>?_,fun c a=>?_,?_⟩,i.os,i.tape,i.output,i.size,fun c a p=>?_,fun c a=>?_,fun c u p a=>?_⟩,g,rfl,H⟩
 ·unfold PM.del at a;split at a
  ·cases a
  exact i.sat.sub c u a
 ·rcases qe.1 t with rfl | t
  ·exact i.sat.sub b o C
  exact i.sat.own r t
 ·rw [m] at a;unfold PM.del;split
  ·rfl
  rename_i k;rcases qe.1 a with e | a
  ·omega
  exact i.sat.apart c a
 ·rw [m]; exact xa.2 ⟨n,i.sat.nodup⟩
 ·rw [y] at p;have k:c≠b:=fun e=>p (by simp_all);have D:=i.old c a (fun x=>p (qj _ x));simp_all[PM.del,PM.add]
 ·rw [m] at a;rw [y];rcases qe.1 a with rfl | a
  ·simp
  rcases i.mine c a with D | D
  ·simp_all
  omega
 rw [y] at p;have k:c≠b:=fun e=>p (by simp_all);unfold PM.del;rw [if_neg k];exact i.le c u (fun x=>p (qj _ x)) (by simp_all[PM.add])
theorem aAp {f:FuncId} {args:Array Value} {v:Value} {xs:List Y} {Q:aB->Value->Prop} (h:∀ (s:Sh) (G2:PM),PM.le G G2->v=s.val xs.length->SlR G2 1 aH s xs->Ct P f args G2 μ (fun _ a u=>Q a u)):Ct P f args G (rB v E xs :: μ) (fun _ a u=>∃ x,a=rB v E xs :: x∧Q x u):=by
 intro w k;have n:w.ownsRow 0 E 1 v xs.length (xs.map V):=k.own _ (qh ..);have M:=k.nodup;rcases n.2 with ⟨rfl,O⟩ | ⟨g,m,i,rfl,_,N,q,H,F,l⟩
 ·have L:xs=[]:=wo O;subst L;have t:keys (rB (.slice none 0 0) E [] :: μ)=keys μ:=by rfl
  have c:Sat G μ w:=⟨k.sub,fun r p=>k.own r (qj _ p),by rw [← t]; exact k.apart,by simp_all⟩;refine (h ⟨none,0⟩ G (PM.le.refl _) rfl dD w c).mono ?_;rintro e y ⟨u,K,a,rfl,A,I⟩;refine ⟨u,K,_,rfl,?_,a,rfl,I⟩;rw [t]; exact A.nilRow
 have t:keys (rB (.slice (some ⟨g,0,none⟩) xs.length m) E xs :: μ)=keys (.blk g (.cells i E (0,0)) :: μ):=by rfl
 have c:Sat G (.blk g (.cells i E (0,0)) :: μ) w:=by
  refine ⟨k.sub,fun r p=>?_,by rw [← t]; exact k.apart,by simp_all⟩;rcases qe.1 p with rfl | p
  ·exact N
  exact k.own r (qj _ p)
 have J:G g=none:=c.apart g (by simp [keys,Res.keys]);have C:SlR (G.add g (.cells i E (0,0))) 1 aH ⟨some ⟨g,0,none⟩,m⟩ xs:=by
  refine rO (fun _ _=>rfl) q (fun _=>rfl) ?_;rw [tV];intro j u S y D;show y.cell? ⟨g,0+j,none⟩=some u;rw [wb,cell_of_row y g j i E (0,0) (D g _ (bI _ _ _))];grind
 refine (uT (h ⟨some ⟨g,0,none⟩,m⟩ _ (PM.le_add J) rfl C) w c).mono ?_;rintro e y ⟨u,K,a,rfl,A,x,rfl,I⟩;refine ⟨u,K,_,rfl,?_,x,rfl,I⟩;rw [t];exact A.asRow (by simp) q H F l
theorem Ct.perm {f:FuncId} {args:Array Value} {c:aB} {Q:PM->aB->Value->Prop} (p:μ.Perm c) (h:Ct P f args G μ Q):Ct P f args G c Q:=by
 intro w l;refine (h w (l.perm p.symm)).mono ?_;rintro e r ⟨u,q,k,rfl,a,m⟩;refine ⟨u,q,k,rfl,⟨a.sat,a.os,a.tape,a.output,a.size,fun b g j=>a.old b g (fun i=>j ((zY p).mem_iff.1 i)),fun b g=>?_,fun b o j g=>a.le b o (fun i=>j ((zY p).mem_iff.1 i)) g⟩,m⟩;rcases a.mine b g with n | n
 ·grind[keys]
 omega
theorem Ct.mono {f:FuncId} {args:Array Value} {Q a:PM->aB->Value->Prop} (h:Ct P f args G μ Q) (e:∀ G' μ' u,Q G' μ' u->a G' μ' u):Ct P f args G μ a:=by
 intro w c;refine (h w c).mono ?_;grind
def eH {T:TypeId} {e:List (Nat×Operand)} {vs:List Value} {ws:List (List Value)} {zs:List Value} {a:List (Nat×Nat)} (cs:List Value) (j:nth l i=some ⟨some d,.build T e.toArray,t,p,af,g⟩) (k:Gd l ρ g c) (hF:cU P T (e.map (·.1))=some (zs,a)) (f:EvC n ρ c e vs ws) (m:yZ zs.length a ws=true) (q:rR zs a ws=cs)
  (h:Wo dr mc P n l K σ ((d,c,.agg cs.toArray) :: ρ) G μ):Wo dr mc P n l K (i :: σ) ρ G μ:=bC j k hF f m (by simp_all)
theorem s1v {T f E sz m:TypeId} {x:Operand} {b o:Nat} {v:Value} {cs:List Value} {c q:aB} (M:nth l i=some ⟨none,.store T x y,t,p,af,none⟩) (I:Ev ρ true x (.pointer (some ⟨b,o,none⟩))) (H:Ev ρ true y v) (L:MTake μ (.row v E sz m xs) q) (A:jC P T=some 1) (hm:MTake μ (.blk b (cl cs f)) c) (hl:o<cs.length) (N:cs.set o v=cs') (h:Wo dr mc P n l K σ ρ G (.blk b (cl cs' f) :: c)):Wo dr mc P n l K (i :: σ) ρ G μ:=by
 refine .act (μ₁:=[.blk b (cl cs f)]) (μ₂:=c) (post:=fun Z c v=>Z=G∧c=[.blk b (cl cs' f)]∧v=undef) M (.inl rfl) .no hm.perm (fun a w F C=>.inl ?_) ?_
 ·have j:=C.left;have k:w.ownsRow 0 E sz v m xs:=(C.perm hm.perm.symm).own _ (L.perm.mem_iff.2 (qh ..));have J:v.oneCell'=true:=by rcases k.2 with ⟨rfl,_⟩ | ⟨g,X,S,rfl,_⟩<;>rfl
  have O:w.heap[b]? = some (cl cs f):=j.own _ (qd.2 rfl);have r:v.cells = #[v]:=by cases v<;>first|rfl | cases J
  have Q:=Tr.setRow (cs':=cs') j;refine ⟨undef,w.setRow b cs'.toArray,G,_,.inr ⟨?_,rfl⟩,Q,rfl,rfl,rfl⟩;cases D:P.info? T with
  | none=>simp_all[jC]
  | some inf =>
   simp only [jC,D,wx,Option.some.injEq] at A;have:=run_storeCells_at P b o f [v] 0 cs.toArray w O (by grind) (by simp_all);simp only [yj,wy] at this;have e:cs.take o++[v]++cs.drop (o+1)=cs':=by simp_all[ja]
   simp only [e] at this;simp [execOp,I.eval F rfl,H.eval F rfl,Instr.storeAt,Instr.sureAddr,storeVar,r,sizeOf,typeInfo,D,A,this]
 simp_all[bV]
def Sat.rowSh {v:Value} {w:World} (e:Sat G μ w) (hm : .row v E sz m xs∈μ):∃ (s:Sh) (b:Nat),v=s.val m∧m<=s.cap∧(0<m->s.oa=some ⟨b,0,none⟩):=by
 have a:w.ownsRow 0 E sz v m xs:=e.own _ hm;rcases a.2 with ⟨rfl,rfl⟩ | ⟨g,cap,f,rfl,_,i,c,_⟩
 ·exact ⟨⟨none,0⟩,0,rfl,qc _,fun h=>absurd h (ko _)⟩
 ·exact ⟨⟨some ⟨g,0,none⟩,cap⟩,g,rfl,c,fun _=>rfl⟩
def uR {f:Code} {k:List KI} {v:Value} {c:aB} (hm:MTake μ (.row v E sz m xs) c) (h:∀ (s:Sh) (b:Nat),v=s.val m->m<=s.cap->(0<m->s.oa=some ⟨b,0,none⟩)->Wk X f k ρ G μ):Wk X f k ρ G μ :=
 ⟨fun a w g e=>by
  obtain ⟨s,b,l,j,i⟩:=e.sat.rowSh (hm.perm.mem_iff.2 (qh ..));exact (h s b l j i).out a w g e⟩
def vD {a:aB} {s:Sh} {b:Nat} (hm:MTake μ (rB (s.val ys.length) E ys) a) (c:0<ys.length->s.oa=some ⟨b,0,none⟩):Sc G μ (s.val ys.length) ys:=by
 refine ⟨s.oa,s.cap,rfl,fun h=>⟨b,0,c h,fun j v g=>?_⟩⟩;have e:=c h;have f:s.val ys.length=.slice (some ⟨b,0,none⟩) ys.length s.cap:=by simp_all[Sh.val]
 rw [f] at hm;exact Rd.row hm (by simp_all)
abbrev PRc (E:Nat) (R:List Y→Prop):PM→aB→Value→Prop:=fun _ μ' u=>∃ L,u.oneCell'=true∧R L∧μ'=[rB u E L]
def iF {f:FuncId} {args:Array Value} {R:List Y->Prop} (h:Ct P f args G μ (PR E R)):Ct P f args G μ (PRc E R):=by
 intro w c;refine (h w c).mono ?_;rintro e k ⟨u,i,j,rfl,a,L,g,rfl⟩;exact ⟨u,i,_,rfl,a,L,a.sat.rowOne,g,rfl⟩
def one1 {a:Value} (h:a.oneCell'=true):∀ u∈[a],u.oneCell'=true:=by simp_all
def oH {a b:Value} (h:a.oneCell'=true) (h2:b.oneCell'=true):∀ u∈[a,b],u.oneCell'=true:=by
 simp_all
end
structure PB (G:PM) (b:Nat) (o:Obj):Prop where
 h:G b=some o
def PB.mono {G c:PM} {b:Nat} {o:Obj} (h:PB G b o) (a:PM.le G c):PB c b o:=⟨a b o h.h⟩
theorem PB.rdn {G:PM} {b o:Nat} {cs:List Value} {T:TypeId} (h:PB G b (cl cs T)) (a:(cs.drop o).take m=cs'):RdNP G b o cs':=fun j v c=>by
 subst a;refine RdP.blk h.h ?_;grind
def PB.rd {G:PM} {b o:Nat} {cs:List Value} {T:TypeId} {v:Value} (h:PB G b (cl cs T)) (a:cs[o]? = some v):RdP G ⟨b,o,none⟩ v:=RdP.blk h.h a
def PB.sl {G:PM} {b o:Nat} {cs:List Value} {T:TypeId} {f:Nat->Y} (h:PB G b (cl cs T)) (a:(cs.drop o).take m=ba m f) (hm:m<=cap):SlR G 1 aH ⟨some ⟨b,o,none⟩,cap⟩ (yl m f) :=
 rO (fun _ _=>rfl) (by simp_all[bL]) (fun _=>rfl) (by rw [aHN]; exact h.rdn a)
theorem SlR.arr {G:PM} {s:Sh} {xs:List Y} (h:SlR G 1 aH s xs) (hm:m<=xs.length):RdNP G s.b s.o (ba m (fun i=>xs.getD i 0)):=by
 intro j v c;have a:j<m:=by grind[bT]
 rw [aA3 a] at c;obtain rfl:=Option.some.inj c;have:=h.rd j (xs.getD j 0) (by grind) 0 _ rfl;simp_all
def aIQ {q:Nat} {f:Nat->Y} (h:q<=m):((ba m f).drop 0).take q=ba q f:=by
 rw [List.drop_zero];refine xq fun j=>?_;rw [xr];by_cases a:j<q
 ·rw [if_pos a,aA3 a,aA3 om]
 simp_all[if_neg,bT]
def pD {f:Nat->Y}:((ba m f).drop 0).take m=ba m f:=aIQ (qc m)
def nC {f:Nat->Y} {r:List Value}:((ba m f++r).drop 0).take m=ba m f:=by
 simp[bT]
def aBJ (p:Sh×List Y):List Value:=[p.1.val p.2.length]
structure SlP (G:PM) (h:Sh) (ps:List (Sh×List Y)):Prop where
 sl:SlR G 1 aBJ h ps
 all:∀ p∈ps,SlR G 1 aH p.1 p.2
def SlP.mono {G e:PM} {h:Sh} {c:List (Sh×List Y)} (s:SlP G h c) (a:PM.le G e):SlP e h c:=⟨s.sl.mono a,fun p f=>(s.all p f).mono a⟩
def cE {k:Nat} {xs:List α} (h:k<xs.length):∃ x,xs[k]? = some x:=⟨xs[k],by simp [h]⟩
def SlP.at {G:PM} {h:Sh} {a:List (Sh×List Y)} (s:SlP G h a) {j:Int} (k:Nat) {p:Sh×List Y} (e:j.toNat=k) (c:a[k]? = some p):RdP G ⟨h.b,h.o+j.toNat*1,none⟩ (p.1.val p.2.length):=by
 have:=(s.sl.nth k e c) 0 _ rfl;omega
def SlP.get {G:PM} {h:Sh} {a:List (Sh×List Y)} (s:SlP G h a) {k:Nat} {p:Sh×List Y} (c:a[k]? = some p):SlR G 1 aH p.1 p.2:=s.all p (List.mem_of_getElem? c)
def cY (ps:List (Sh×List Y)):List Y:=ps.flatMap (·.2)
theorem zE {a:List (Sh×List Y)} {k:Nat} {p:Sh×List Y} (c:a[k]? = some p):cY (a.take (k+1))=cY (a.take k)++p.2:=by
 grind[cY,List.take_succ_eq_append_getElem]
theorem aEr {a:List (Sh×List Y)} {k:Nat} {p:Sh×List Y} (c:a[k]? = some p):(cY (a.take k)).length+p.2.length<=(cY a).length:=by
 have e:=congrArg wm (zE c);grind[List.take_append_drop,cY]
section
variable {dr:Bool} {mc:Md} {P:Program} {n:Fm} {l:List Oper} {K:aF→PM→aB→Prop} {i:Nat} {σ:List Nat} {ρ:aF} {G:PM} {μ:aB}
variable {d t:Nat} {p:String} {af:Array Edge} {g:Option (Nat×Bool)} {c:Bool}
def dC {g:Code} {k:List KI} {b:Nat} {o:Obj} {c:aB} (hm:MTake μ (.blk b o) c) (h:∀ G',PM.le G G'->PB G' b o->Wk X g k ρ G' c):Wk X g k ρ G μ :=
 ⟨fun a w l i=>by
  have e:=i.perm hm.perm;have j:keys (.blk b o :: c)=b :: keys c:=by rfl
  have f:=e.sat.nodup;rw [j] at f;have m:G b=none:=e.sat.apart b (by simp_all);exact (h _ (PM.le_add m) ⟨bI _ _ _⟩).out a w l e.freeze⟩
def kA {T w b o:Nat} {x:Operand} {cs:List Value} {f:Nat->Y} (j:nth l i=some ⟨some d,.slice T x none none none,t,p,af,g⟩) (k:Gd l ρ g c) (r:nD P T=some (m,e,1)) (a:Ev ρ c x (.pointer (some ⟨b,o,none⟩))) (v:PB G b (cl cs w)) (q:(cs.drop o).take m=ba m f) (h:∀ s' L,L=yl m f->L.length=m->SlR G 1 aH s' L->Wo dr mc P n l K σ ((d,c,s'.val L.length) :: ρ) G μ):Wo dr mc P n l K (i :: σ) ρ G μ:=by
 refine qZ j k r a ?_;have:=h ⟨some ⟨b,o,none⟩,m⟩ (yl m f) rfl (bL _ _) (v.sl q (qc m));rw [bL] at this;trivial
def sah {T:Nat} {x z:Operand} {b o:Nat} {f:Int} (D:nth l i=some ⟨some d,.slice T x none (some z) none,t,p,af,g⟩) (E:Gd l ρ g c) (F:nD P T=some (m,e,sz)) (A:Ev ρ c x (.pointer (some ⟨b,o,none⟩))) (y:Ev ρ c z (.int k f)) (H:c=true->0<=f) (h1:c=true->f<=m) (h:Wo dr mc P n l K σ ((d,c,.slice (some ⟨b,o,none⟩) f.toNat m) :: ρ) G μ):Wo dr mc P n l K (i :: σ) ρ G μ :=
 .pure D (.inl rfl) E (fun j a w r=>by
  obtain ⟨C,v,q,L⟩:=vH F;have J:=H j; have I:=h1 j;simp [execOp,A.eval r j,y.eval r j,Instr.sliceAt,run_underlying C,Instr.sureAddr,Instr.sliceBounds,Instr.sliceBound,asIntOf,sizeOf,typeInfo,q,J,I,aA1]) h
def sp {T k:Nat} {x:Operand} {j:Addr} (y:nth l i=some ⟨some d,.sliceToArrayPointer T x,t,p,af,g⟩) (C:Gd l ρ g c) (E:nD P T=some (m,e,sz)) (r:Ev ρ c x (.slice (some j) k cap)) (hm:c=true->m<=k) (h:Wo dr mc P n l K σ ((d,c,.pointer (some j)) :: ρ) G μ):Wo dr mc P n l K (i :: σ) ρ G μ :=
 .pure y (.inl rfl) C (fun f a w D=>by
  obtain ⟨v,q,A,F⟩:=vH E;have:=hm f;simp [execOp,r.eval D f,Instr.arrayAt,run_underlying v,show ¬ k<m by omega]) h
def spS {T:Nat} {x:Operand} {s:Sh} {xs:List Y} (C:nth l i=some ⟨some d,.sliceToArrayPointer T x,t,p,af,g⟩) (E:Gd l ρ g c) (H:nD P T=some (m,e,sz)) (A:SlR G 1 aH s xs) (r:Ev ρ c x (s.val xs.length)) (hm:c=true->m<=xs.length) (J:0<m) (h:Wo dr mc P n l K σ ((d,c,.pointer (some ⟨s.b,s.o,none⟩)) :: ρ) G μ):Wo dr mc P n l K (i :: σ) ρ G μ :=
 .pure C (.inl rfl) E (fun j a w F=>by
  obtain ⟨v,q,D,y⟩:=vH H;have I:=hm j;have e:=A.nn (k:=0) om;have f:=r.eval F j;simp only [Sh.val] at f;rw [e] at f;simp [execOp,f,Instr.arrayAt,run_underlying v,show ¬ xs.length<m by omega]) h
def wY (P:Program) (T m:Nat):Bool:=match P.underlying T with
 | some (.array k e)=>(match P.underlying e with | some (.int .u8)=>true | _=>false)&&yz k m&&yz (P.cellsOf e) 1&&yz (P.cellsOf T) m&&P.keyTypeAt 2 T && !P.eqGuardType P.depth T
 | _=>false
theorem aCd {T:Nat} {f:Nat->Y} (h:wY P T m=true):P.keyLits 2 T (ba m f)=some ((yl m f).map fun y=>Lit.int .u8 y.toNat)∧(Value.agg (ba m f).toArray).formed P T=true∧P.keyTypeAt 2 T=true∧P.eqGuardType P.depth T=false:=by
 unfold wY at h;split at h
 ·rename_i k e C;simp only [qi,wv] at h;obtain ⟨⟨⟨⟨⟨w,l⟩,a⟩,c⟩,i⟩,n⟩:=h;split at w
  ·rename_i g;have l:=z8 l;have a:=z8 a;have c:=z8 c;subst l;refine ⟨?_,?_,i,n⟩
   ·have t:∀ q∈qg k,P.keyLits 1 e (((ba k f).drop (q*P.cellsOf e)).take (P.cellsOf e))=some [Lit.int .u8 (f q).toNat]:=by
     intro q p;have p:=xh.1 p;rw [a,Nat.mul_one];have hd:((ba k f).drop q).take 1=[V (f q)]:=by
      refine xq fun j=>?_;grind[aA3]
     rw [hd];have x:=(f q).isLt;unfold Program.keyLits;simp [g,Lit.wf,V,uv,IntKind.min,IntKind.max,IntKind.signed,IntKind.bits];omega
    have v:∀ (r:List Nat),(∀ q∈r,P.keyLits 1 e (((ba k f).drop (q*P.cellsOf e)).take (P.cellsOf e))=some [Lit.int .u8 (f q).toNat]) ->
      r.mapM (fun q=>P.keyLits 1 e (((ba k f).drop (q*P.cellsOf e)).take (P.cellsOf e)))=some (r.map fun q=>[Lit.int .u8 (f q).toNat]):=by
     intro r;induction r<;>simp_all
    have A:∀ r:List Nat,(r.map fun q=>[Lit.int .u8 (f q).toNat]).flatten=(r.map f).map fun y=>Lit.int .u8 y.toNat:=by
     intro r;induction r<;>simp_all
    simp_all[Program.keyLits,ba,yl]
   simp_all[Value.formed,bT]
  cases w
 grind
theorem aVX {f:Nat->Y} (h:((yl m f).map fun y=>Lit.int .u8 y.toNat)=(yl m f').map fun y=>Lit.int .u8 y.toNat):yl m f=yl m f':=by
 have e:∀ (c a:List Y),(c.map fun y=>Lit.int .u8 y.toNat)=(a.map fun y=>Lit.int .u8 y.toNat)->c=a:=by
  intro c;induction c with
  | nil=>simp
  | cons x c ih=>intro a h; cases a with
   | nil=>grind
   | cons y a =>
    simp only [wu,List.cons.injEq,Lit.int.injEq,true_and] at h;grind[wj]
 grind
def aMQ {T:Nat} {f:Nat->Y} (h:wY P T m=true) (w:World):(Op.equal T (.agg (ba m f).toArray) (.agg (ba m f').toArray)).run P w=.ok (decide (yl m f=yl m f')) w:=by
 obtain ⟨l,k,j,n⟩:=aCd (f:=f) h;obtain ⟨g,c,_,_⟩:=aCd (f:=f') h;obtain ⟨r,i,a⟩:=run_equalIn_deep 9998 2 T j w 2 2 _ _ _ _ k c (by simpa [Value.cells] using l) (by simpa [Value.cells] using g);have:r=decide (yl m f=yl m f'):=by
  by_cases e:yl m f=yl m f'
  ·simp_all
  ·rw [decide_eq_false e];cases r with
   | false=>rfl
   | true=>exact absurd (aVX (a.1 rfl)) e
 rw [← this]; exact i
def nqB {T C:Nat} {x:Operand} {f:Nat->Y} (v:nth l i=some ⟨some d,.binOp .neq T x y C,t,p,af,g⟩) (A:Gd l ρ g c) (k:wY P T m=true) (r:Ev ρ c x (.agg (ba m f).toArray)) (q:Ev ρ c y (.agg (ba m f').toArray)) (h:Wo dr mc P n l K σ ((d,c,.bool (!decide (yl m f=yl m f'))) :: ρ) G μ):Wo dr mc P n l K (i :: σ) ρ G μ :=
 .pure v (.inl rfl) A (fun e a w j=>by
  simp [execOp,r.eval j e,q.eval j e,aDB (aCd (f:=f) k).2.2.2,binOp,aMQ k]) h
def eqB {T C:Nat} {x:Operand} {f:Nat->Y} (v:nth l i=some ⟨some d,.binOp .eql T x y C,t,p,af,g⟩) (A:Gd l ρ g c) (k:wY P T m=true) (r:Ev ρ c x (.agg (ba m f).toArray)) (q:Ev ρ c y (.agg (ba m f').toArray)) (h:Wo dr mc P n l K σ ((d,c,.bool (decide (yl m f=yl m f'))) :: ρ) G μ):Wo dr mc P n l K (i :: σ) ρ G μ :=
 .pure v (.inl rfl) A (fun e a w j=>by
  simp [execOp,r.eval j e,q.eval j e,aDB (aCd (f:=f) k).2.2.2,binOp,aMQ k]) h
def WoT (P:Program) (n:Fm) (l:List Oper) (K:aF->PM->aB->Prop):Nat->Array Bool->aF->PM->aB->Prop
 | 0,listed,ρ,G,μ=>cJ l listed=[]∧K ρ G μ
 | m+1,listed,ρ,G,μ=>cJ l listed≠[]∧∀ j∈cJ l listed,Wo false (⟨false,false⟩ : Md) P n l (fun ρ' G' μ'=>WoT P n l K m (listed.setIfInBounds j true) ρ' G' μ') [j] ρ G μ
def WoT.any {K:aF->PM->aB->Prop} {Q:Exit->Act->World->Prop} {p:PM} {K0:List Nat} {w0:World} (c:∀ j oj,nth l j=some oj->iV n oj.dst)
  (q:∀ ρ G μ,K ρ G μ->∀ a w,Ag n ρ a->Tr p K0 w0 G μ w->Q .normal a w) (r:∀ ch ρ G μ a w,n.die ch ρ G μ->Ag n ρ a->Tr p K0 w0 G μ w->Q (.panic ch) a w) :
  ∀ (m:Nat) (listed:Array Bool) (ρ:aF) (G:PM) (μ:aB) (a:Act) (w:World),WoT P n l K m listed ρ G μ->Ag n ρ a->Tr p K0 w0 G μ w->wpAny P .any l.toArray Q m listed a w
 | 0,listed,ρ,G,μ,a,w,H,ha,ht=>⟨H.1,q _ _ _ H.2 a w ha ht⟩
 | m+1,listed,ρ,G,μ,a,w,H,ha,ht=>by
  refine ⟨fun h0=>absurd h0 H.1,fun j hj=>?_⟩;obtain ⟨o,ho,h⟩:=(H.2 j hj).head ha ht (next:=wpAny P .any l.toArray Q m (listed.setIfInBounds j true)) (Q:=Q) c (fun _=>r)
   (fun e y f v t x k i=>by cases x with | nil h=>exact WoT.any c q r m _ e y f v t h k i)
  simp only [wpOp,jY,ho];split
  ·rename_i g; rw [if_pos g] at h; exact .inl h
  rename_i g; rw [if_neg g] at h; exact h
def aHy {k:List KI} {g:Nat} {ρ:aF} {G:PM} {μ:aB} {l:List Oper} (hm:X.P.follows .mixedOrders=true) (e:tR X.n l=true) (h:WoT X.P X.n l (fun ρ G μ=>We X .normal k ρ G μ) l.length (Array.replicate l.length false) ρ G μ):Wk X (.region g l.toArray true) k ρ G μ:=by
 refine ⟨fun a w f c=>wp_region_any hm ?_⟩;have:=WoT.any (Q:=gH X k) (aC7 e) (fun _ _ _ h a w f c=>h.out a w f c) (vC _ k) l.length (zc l.length false) ρ G μ a _ h f c.drew;omega
def WoT.last {K:aF->PM->aB->Prop} {a:Array Bool} (c:cJ l a=[]) (h:K ρ G μ):WoT P n l K 0 a ρ G μ:=⟨c,h⟩
def WoT.n1 {K:aF->PM->aB->Prop} {a:Array Bool} (j:Nat) (f:cJ l a=[j]) (h:Wo false (⟨false,false⟩ : Md) P n l (fun ρ' G' μ'=>WoT P n l K m (a.setIfInBounds j true) ρ' G' μ') [j] ρ G μ):WoT P n l K (m+1) a ρ G μ :=
 ⟨by simp_all,fun e c=>by simp_all⟩
theorem WoT.n2 {K:aF->PM->aB->Prop} {a:Array Bool} (j c:Nat) (g:cJ l a=[j,c]) (h:Wo false (⟨false,false⟩ : Md) P n l (fun ρ' G' μ'=>WoT P n l K m (a.setIfInBounds j true) ρ' G' μ') [j] ρ G μ) (h2:Wo false (⟨false,false⟩ : Md) P n l (fun ρ' G' μ'=>WoT P n l K m (a.setIfInBounds c true) ρ' G' μ') [c] ρ G μ):WoT P n l K (m+1) a ρ G μ :=
 ⟨by simp_all,fun f e=>by
  grind⟩
def csT (P:Program) (S:TypeId):Bool:=match P.underlying S with
 | some (.slice e)=>match P.underlying e with | some (.int .u8)=>true | _=>false
 | _=>false
theorem aTW {w:World} {b k:Nat} {C:Array Value} (a:w.heap[b]? = some (.cells C E (0,0))):∃ fr,(w.freeze ⟨b,k,none⟩ 1).heap[b]? = some (.cells C E fr)∧(∀ c,c≠b->(w.freeze ⟨b,k,none⟩ 1).heap[c]? = w.heap[c]?)∧(w.freeze ⟨b,k,none⟩ 1).heap.size=w.heap.size∧(w.freeze ⟨b,k,none⟩ 1).os=w.os∧(w.freeze ⟨b,k,none⟩ 1).tape=w.tape∧(w.freeze ⟨b,k,none⟩ 1).output=w.output:=by
 unfold World.freeze;grind
theorem mkS {S b:Nat} {x:Operand} {cs:List Value} {f:aB} (ys:List Y) (M:dr=false) (ho:nth l i=some ⟨some d,.convert S S x,t,p,af,none⟩) (F:csT P S=true) (Z:Ev ρ true x (.slice (some ⟨b,0,none⟩) m cap)) (hm:MTake μ (.blk b (cl cs E)) f) (N:cs=ys.map V) (hn:ys.length=m) (D:m<=cap) (h:∀ y,PM.le G y->SlR y 1 aH ⟨some ⟨b,0,none⟩,cap⟩ ys->Wo dr mc P n l K σ ((d,true,Sh.val ⟨some ⟨b,0,none⟩,cap⟩ ys.length) :: ρ) y f):Wo dr mc P n l K (i :: σ) ρ G μ:=by
 subst hn; subst N;refine .act (μ₁:=[.blk b (cl (ys.map V) E)]) (μ₂:=f) (post:=fun y f v=>f=[]∧v=.slice (some ⟨b,0,none⟩) ys.length cap∧∃ A,y b=some (.cells (ys.map V).toArray E A)) ho (.inr M) .no hm.perm (fun a w ha H=>.inl ?_) ?_
 ·unfold csT at F;split at F
  ·rename_i e hu;split at F
   ·rename_i I;have C:=H.left;have hb:w.heap[b]? = some (cl (ys.map V) E):=C.own _ (qd.2 rfl);have hG:G b=none:=C.apart b (by simp [keys,Res.keys]);obtain ⟨A,h1,X,h3,h4,h5,h6⟩:=aTW (k:=(ys.map V).toArray.size) hb;have J:w.shape? b=some (E,(ys.map V).toArray.size):=by simp_all[World.shape?]
    refine ⟨_,w.freeze ⟨b,(ys.map V).toArray.size,none⟩ 1,G.add b (.cells (ys.map V).toArray E A),[],.inl ?_,?_,rfl,rfl,A,bI _ _ _⟩
    ·simp [execOp,Z.eval ha rfl,convert,run_underlying hu,run_underlying I,markStringish,J]
    refine ⟨⟨fun c u g=>?_,(fun r hr=>nomatch hr),(fun c g=>nomatch g),xx⟩,h4,h5,h6,om,fun c g T=>?_,(fun c g=>nomatch g),fun c u T g=>?_⟩
    ·unfold PM.add at g;split at g
     ·simp_all
     rename_i q; rw [X c q]; exact H.sub c u g
    ·have q:c≠b:=fun e=>T (by grind[keys,Res.keys]);exact ⟨X c q,by simp_all[PM.add]⟩
    simp_all[keys,Res.keys,PM.add]
   cases F
  cases F
 rintro v y Q L ⟨rfl,rfl,A,O⟩;refine h y L (rO (fun _ _=>rfl) D (fun _=>rfl) ?_);rw [tV];intro j u hj w H;show w.cell? ⟨b,0+j,none⟩=some u;rw [wb,cell_of_row w b j _ E A (H b _ O)];simp_all
def jR {e:Bool} {f:Nat} (a:Bool) (h:e=a) (H:Wo dr mc P n l K σ ((f,c,.bool a) :: ρ) G μ):Wo dr mc P n l K σ ((f,c,.bool e) :: ρ) G μ:=by simp_all
def skp {o:Oper} (v:Value) (a:nth l i=some o) (c:bB mc o.op=.pure) (e:Gd l ρ o.guard false) (h:Wo dr mc P n l K σ (bV ρ o.dst false v) G μ):Wo dr mc P n l K (i :: σ) ρ G μ :=
 .pure a (.inl c) e (fun f=>nomatch f) h
def uM {o:Oper} (v:Value) (a:nth l i=some o) (c:bB mc o.op=.read) (e:Gd l ρ o.guard false) (h:Wo dr mc P n l K σ (bV ρ o.dst false v) G μ):Wo dr mc P n l K (i :: σ) ρ G μ :=
 .read a (.inl c) e (fun f=>nomatch f) h
def skc {o:Oper} (v:Value) (c:nth l i=some o) (e:bB mc o.op=.call) (g:Gd l ρ o.guard false) (h:Wo dr mc P n l K σ (bV ρ o.dst false v) G μ):Wo dr mc P n l K (i :: σ) ρ G μ :=
 .callv (f:=0) (args:=#[]) (Gp:=G) c (.inl e) g (fun a=>nomatch a) (fun a=>nomatch a) h
def mw {T:TypeId} {x:Operand} {a b:BitVec k.bits} (v:nth l i=some ⟨some d,.binOp .rem T x y D,t,p,af,g⟩) (A:Gd l ρ g c) (r:Ev ρ c x (uv k a)) (m:Ev ρ c y (uv k b)) (C:c=true->b≠0#k.bits) (h:Wo dr mc P n l K σ ((d,c,uv k (a%b)) :: ρ) G μ):Wo dr mc P n l K (i :: σ) ρ G μ :=
 .pure v (.inl rfl) A (fun f q w j=>by
  have J:=r.eval j f; have I:=m.eval j f;have E:(eqGuard .rem T x y (uv k a) (uv k b)).run P w=.ok () w:=mM ..;have F:(b.toNat:Int)≠0:=fun e=>C f (wj (by simp_all));have H:((a.toNat:Int).tmod (b.toNat:Int))=(((a%b).toNat:Nat):Int):=by rfl
  simp_all[execOp,binOp,uv,Op.intDiv]) h
theorem dw {T:TypeId} {x:Operand} {a b:BitVec k.bits} (v:nth l i=some ⟨some d,.binOp .quo T x y D,t,p,af,g⟩) (A:Gd l ρ g c) (F:k.signed=false) (r:Ev ρ c x (uv k a)) (m:Ev ρ c y (uv k b)) (C:c=true->b≠0#k.bits) (h:Wo dr mc P n l K σ ((d,c,uv k (a / b)) :: ρ) G μ):Wo dr mc P n l K (i :: σ) ρ G μ :=
 .pure v (.inl rfl) A (fun f q w j=>by
  have L:=r.eval j f; have J:=m.eval j f;have E:(eqGuard .quo T x y (uv k a) (uv k b)).run P w=.ok () w:=mM ..;have H:(b.toNat:Int)≠0:=fun e=>C f (wj (by simp_all));have I:k.wrap ((a.toNat:Int).tdiv (b.toNat:Int))=(((a / b).toNat:Nat):Int):=by
   have:((a.toNat:Int).tdiv (b.toNat:Int))=(((a / b).toNat:Nat):Int):=by rfl
   grind[aAl]
  simp_all[execOp,binOp,uv,Op.intDiv]) h
end
open Go.ChangeShapes
section
variable {H:Type} {R:Nat} {enc:TypeId×Value→H} {P:Program} {w:World} {base:Nat} {sp:Nat→Bool} {held:Bool} {fuel:Nat} {t:TypeId} {cs:List Value} {x:DataW H×List MemPlace}
theorem aOA {c:List TypeId} {e:List (DataW H)} {i:Nat} {d:DataW H} {t:TypeId} (ht:c[i]? = some t) (hd:e[i]? = some d) (f:n∈d.weights P t):n∈DataW.weightsEach P c e:=by
 induction i generalizing c e with
 | zero =>
  cases c with
  | nil=>grind
  | cons a r =>
   cases e<;>simp_all[DataW.weightsEach]
 | succ i ih =>
  cases c with
  | nil=>grind
  | cons a r =>
   cases e<;>simp_all[DataW.weightsEach]
def bBW {e:TypeId} {a:List (DataW H)} {i:Nat} {d:DataW H} (hd:a[i]? = some d) (c:n∈d.weights P e):n∈DataW.weightsAll P e a:=by
 induction i generalizing a with
 | zero =>
  cases a<;>simp_all[DataW.weightsAll]
 | succ i ih =>
  cases a<;>simp_all[DataW.weightsAll]
def Rg (R:Nat) (enc:TypeId×Value->H) (P:Program) (w:World) (t:TypeId) (cs:List Value):Prop :=
 ∃ fuel x,DataW.trod enc P w 0 (fun _=>true) true fuel t cs=some x∧∀ n∈x.1.weights P t,n<=R
def Rg.len {e:Array Field} (ht:P.underlying t=some (.struct e)) (h:Rg R enc P w t cs):cs.length=P.cellsOf t:=by
 obtain ⟨a,x,h,_⟩:=h;obtain ⟨f,n,_,_,c,_⟩:=DataW.trod_struct ht h;exact c
theorem Rg.fld {m:Array Field} (ht:P.underlying t=some (.struct m)) (h:Rg R enc P w t cs) (i T o:Nat) (e:(m[i]?).map (fun f=>(f.type,f.offset))=some (T,o)) (c:P.cellsOf T=sz):Rg R enc P w T ((cs.drop o).take sz):=by
 obtain ⟨f,y,A⟩:=Option.map_eq_some_iff.1 e;obtain ⟨rfl,rfl⟩:=Prod.mk.inj A;obtain ⟨l,x,h,q⟩:=h;obtain ⟨g,n,rfl,rfl,C,p,a⟩:=DataW.trod_struct ht h;have v:i<g.length:=by grind
 have j:=a i f y;rw [qv v] at j;rw [← c];refine ⟨n,_,j,fun k r=>q k ?_⟩;simp only [DataW.weights,ht];refine aOA (i:=i) (t:=f.type) (d:=g[i].1) ?_ ?_ r
 ·grind
 grind
theorem Rg.int {k:IntKind} (ht:P.underlying t=some (.int k)) (h:Rg R enc P w t cs):∃ n,cs=[.int k n]∧k.min<=n∧n<=k.max:=by
 obtain ⟨a,x,h,_⟩:=h;obtain ⟨n,rfl,_,c⟩:=DataW.trod_int ht h;simp_all[Lit.wf]
def Rg.bool (ht:P.underlying t=some .bool) (h:Rg R enc P w t cs):∃ b,cs=[.bool b]:=by
 obtain ⟨a,x,h,_⟩:=h;obtain ⟨b,rfl,_⟩:=DataW.trod_bool ht h;simp
def Rg.str (ht:P.underlying t=some .string) (h:Rg R enc P w t cs):∃ s:ByteArray,cs=[.string s]∧s.size<=R:=by
 obtain ⟨a,x,h,c⟩:=h;obtain ⟨s,rfl,rfl,_⟩:=DataW.trod_string ht h;simp_all[DataW.weights]
theorem aIc {a:Addr} (h:w.cells? base a n=some cs):cs.length=n∧∀ j,j<n->w.cell? (a.add j)=cs[j]?:=by
 unfold World.cells? at h;split at h
 ·exact ⟨by simpa using mapM_some_length h,fun j c=>mapM_some_get h j j (by grind)⟩
 grind
theorem RdP.heap {a:Addr} {v:Value} (h:w.cell? a=some v):RdP (fun b=>w.heap[b]?) a v:=by
 intro c e;grind[World.cell?,Sub]
theorem aZJ {a:Addr} {v:Value} (h:w.cell? a=some v):a.spot=none:=by
 unfold World.cell? at h;split at h
 ·simp_all
 grind
theorem Rg.sl {e:TypeId} {C:Nat} (H:α->List Value) (Q:α->Prop) (ht:P.underlying t=some (.slice e)) (h:Rg R enc P w t cs) (L:P.cellsOf e=sz) (h0:0<sz) (a7:P.bytesOf e=C) (S:∀ p,Rg R enc P w e p->∃ a,p=H a∧Q a):∃ (hd:Sh) (l:List α),cs=[hd.val l.length]∧SlR (fun b=>w.heap[b]?) sz H hd l∧hd.cap*C<=R∧∀ a∈l,Q a:=by
 obtain ⟨a0,x,h,hw⟩:=h;rcases DataW.trod_slice ht h with ⟨rfl,rfl⟩ | ⟨a,len,cap,A,rest,n,rfl,rfl,rfl,_,a4,_,E,G,r,_⟩
 ·exact ⟨⟨none,0⟩,[],rfl,dD,by simp,fun a ha=>by cases ha⟩
 have g:(A.length+rest.length)*C<=R:=by
  simp_all[DataW.weights]
 rw [(r rfl).1,E,show len+(cap-len)=cap by omega] at g;have q:∀ i,i<len->∃ m:α,w.cells? 0 (a.add (i*sz)) sz=some (H m)∧Q m:=by
  intro i O;have D:=G i O;rw [qv om,L,Option.bind_eq_some_iff] at D;obtain ⟨p,Z,J⟩:=D;obtain ⟨m,rfl,hm⟩:=S p ⟨n,_,J,fun k hk=>hw k (by
   simp only [DataW.weights,ht,qe,qn];exact .inr (.inl (bBW (i:=i) (by simp_all) hk)))⟩
  grind
 have f:0<len->a.spot=none:=by
  intro c;obtain ⟨m,D,_⟩:=q 0 c;obtain ⟨Z,J⟩:=aIc D;grind[aZJ,Addr.add]
 rcases zm len with hz | c
 ·refine ⟨⟨some a,cap⟩,[],by rw [hz]; rfl,⟨fun h=>absurd rfl h,by simp,fun i y I=>by grind⟩,g,fun y I=>by cases I⟩
 have a3:Nonempty α:=⟨Classical.choose (q 0 c)⟩;have F:∀ i,∃ m:α,i<len->w.cells? 0 (a.add (i*sz)) sz=some (H m)∧Q m:=by
  grind
 obtain ⟨M,hM⟩ : ∃ M:Nat->α,∀ i,i<len->w.cells? 0 (a.add (i*sz)) sz=some (H (M i))∧Q (M i):=⟨fun i=>Classical.choose (F i),fun i=>Classical.choose_spec (F i)⟩;refine ⟨⟨some a,cap⟩,(qg len).map M,by simp [Sh.val],⟨fun _=>?_,by simp_all,fun i y I j v hj=>?_⟩,g,fun y I=>?_⟩
 ·have:=f c;show some a=some ⟨a.block,a.off,none⟩;cases a; simp_all
 ·have O:i<len:=by
   grind
  have K:y=M i:=by
   simp_all
  subst K;obtain ⟨D,_⟩:=hM i O;obtain ⟨Z,J⟩:=aIc D;have N:j<sz:=by grind
  have X:=J j N;rw [hj] at X;have h5:=RdP.heap X;have T:(a.add (i*sz)).add j=⟨a.block,a.off+i*sz+j,none⟩:=by
   have hs:=f c;cases a with
   | mk b o s =>
    grind[Addr.add]
  simp_all[Sh.b,Sh.o]
 grind
theorem Rg.arg {W:World} {v:Value} {d:DataW H} {f:List MemPlace} {a:List TypeId} {e:List (DataW H)} {i:Nat} (h:DataW.Trod enc P W 0 (fun _=>true) true t v d f) (g:(DataW.weightsEach P a e).all (·<=reachBytes)=true) (ht:a[i]? = some t) (hd:e[i]? = some d):Rg 140737488351232 enc P W t v.cells.toList:=by
 obtain ⟨c,h⟩:=h;grind[aOA,reachBytes,Rg]
end
variable {H:Type} {R:Nat} {enc:TypeId×Value→H} {P:Program} {w:World} {t:TypeId} {cs:List Value}
theorem aKu (a:k.signed=false):k.min=0:=by cases k<;>first|rfl | cases a
theorem aKo (a:k.signed=false):k.max=2^k.bits-1:=by cases k<;>first|rfl | cases a
theorem Rg.uw (a:k.signed=false) (ht:P.underlying t=some (.int k)) (h:Rg R enc P w t cs):∃ x:BitVec k.bits,cs=[uv k x]:=by
 obtain ⟨n,rfl,e,c⟩:=h.int ht;rw [aKu a] at e;rw [aKo a] at c;refine ⟨qb k.bits n.toNat,?_⟩;grind[uv]
theorem aZ4 {w:World} {a:String} {zs:List Int} {g:Nat} {y:Nat->W} (h:Lib.TabIs P w a .u32 zs) (k:P.globalNamed a=some g) (l:zs.length=m) (i:∀ j,j<m->zs.getD j 0=((y j).toNat:Int)):RdNP (fun b=>w.heap[b]?) g 0 (wa m y):=by
 intro j v e;have c:j<m:=by grind[cO]
 rw [aEC c] at e;obtain rfl:=Option.some.inj e;have f:=h.cell k j om;rw [i j c] at f;rw [wb];exact RdP.heap f
end Go.Tan
