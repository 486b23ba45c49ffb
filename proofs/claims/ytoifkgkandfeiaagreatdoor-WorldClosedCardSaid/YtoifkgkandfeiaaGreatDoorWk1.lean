/- Lemmas and contracts of functions, joined. -/
import Derived.WalkKit
import Derived.WalkSpells
import Derived.WalkLawsBesides
import Derived.Recover
import Derived.Deep.AppendSrc
import Derived.Laws.AppendOwnNone
import Derived.DeepKeys
import Derived.Laws.BytesString
import Derived.Laws.MakeOwn
import Derived.ProofKit
import Derived.Lib.LaidTab
set_option linter.unusedSimpArgs false
set_option linter.unusedVariables false
set_option linter.unusedSectionVars false
namespace Go.Tan
theorem aD : (∀ {p : Prop} [Decidable p], (decide p = true) = p) ∧ (∀ {p : Prop} {x : Decidable p}, decide p = false ↔ ¬p) ∧ (∀ {a b : Int}, ¬a < b ↔ b ≤ a) ∧ (∀ {a b : Int}, ¬a ≤ b ↔ b < a) ∧ (∀ {α : Type} [LT α] {x y : α}, x > y ↔ y < x) ∧ (∀ {α : Type} [LE α] {x y : α}, x ≥ y ↔ y ≤ x) ∧ (∀ a b : Bool, ((a || b) = true) = (a = true ∨ b = true)) ∧ (∀ a b : Bool, ((a && b) = true) = (a = true ∧ b = true)) ∧ (∀ {x y : Bool}, (x || y) = false ↔ x = false ∧ y = false) ∧ (∀ b : Bool, ((!b) = true) = (b = false)) ∧ (∀ b : Bool, ((!b) = false) = (b = true)) ∧ (∀ n : Nat, ((n : Int)).toNat = n) :=
  ⟨decide_eq_true_eq, decide_eq_false_iff_not, Int.not_lt, Int.not_le, gt_iff_lt, ge_iff_le, Bool.or_eq_true, Bool.and_eq_true, Bool.or_eq_false_iff, Bool.not_eq_true', Bool.not_eq_false', Int.toNat_natCast⟩
theorem aE : (∀ {α : Type} [BEq α] [LawfulBEq α] {a b : α}, (a != b) = true ↔ a ≠ b) ∧ (∀ {α : Type} [BEq α] [LawfulBEq α] {a b : α}, (a == b) = true ↔ a = b) ∧ (∀ {α : Type} [BEq α] [LawfulBEq α] {a b : α}, (a != b) = false ↔ a = b) ∧ (∀ {α : Type} [BEq α] [LawfulBEq α] {a b : α}, (a == b) = false ↔ a ≠ b) ∧ (∀ {α : Type} (a b : α), (a ≠ b) = ¬a = b) := ⟨bne_iff_ne, beq_iff_eq, bne_eq_false_iff_eq, beq_eq_false_iff_ne, ne_eq⟩
theorem aH : ∀ {x y : Bool}, (x && y) = false ↔ x = false ∨ y = false := Bool.and_eq_false_iff
theorem cI : (∀ {α : Type} {xs ys : List α}, (xs ++ ys).length = xs.length + ys.length) ∧ (∀ {α : Type} {a : α} {xs : List α}, (a :: xs).length = xs.length + 1) ∧ (∀ {α : Type}, ([] : List α).length = 0) := ⟨List.length_append, List.length_cons, List.length_nil⟩
theorem qlB : (∀ {α : Type} {xs ys : List α}, (xs ++ ys).length = xs.length + ys.length) ∧ (∀ {α : Type} {i : Nat} {l : List α}, (l.take i).length = min i l.length) ∧ (∀ {α : Type} {i : Nat} {l : List α}, (l.drop i).length = l.length - i) := ⟨List.length_append, List.length_take, List.length_drop⟩
end Go.Tan
namespace Go.Tan
open Go.RowKit
abbrev PM:=Nat→Option Obj
def PM.le (G G':PM):Prop:=∀ b o,G b=some o→G' b=some o
theorem PM.le.refl (G:PM):PM.le G G:=fun _ _ h=>h
theorem PM.le.trans {G G' G'':PM} (h:PM.le G G') (k:PM.le G' G''):PM.le G G'':=fun b o e=>k b o (h b o e)
inductive Res where
 | blk (b:Nat) (o:Obj)
 | row (v:Value) (E size n:Nat) (xs:List Value)
 | mp (b:Nat) (q:IntKind) (m:Int→Option Value)
def gZ (q:IntKind) (es:List MapEntry) (k:Int):Option Value :=
 match es with
 | []=>none
 | e :: r=>if e.key matches .int _ _ then (match e.key with | .int _ a=>if a=k then some e.val else gZ q r k | _=>none) else none
def qW (q:IntKind) (es:List MapEntry):Prop:=∀ e∈es,∃ a,e.key=.int q a
def Res.keys:Res→List Nat
 | .blk b _=>[b]
 | .row v ..=>v.ownBlock.toList
 | .mp b _ _=>[b]
def Res.sat (w:World):Res→Prop
 | .blk b o=>w.heap[b]? = some o
 | .row v E size n xs=>w.ownsRow 0 E size v n xs
 | .mp b q m=>∃ es clock,w.heap[b]? = some (.map es clock)∧qW q es.toList∧∀ k,gZ q es.toList k=m k
abbrev aG:=List Res
def keys (μ:aG):List Nat:=μ.flatMap Res.keys
structure Sat (G:PM) (μ:aG) (w:World):Prop where
 sub:∀ b o,G b=some o→w.heap[b]? = some o
 own:∀ r∈μ,r.sat w
 apart:∀ b∈keys μ,G b=none
 nodup:(keys μ).Nodup
structure Tr (G0:PM) (K0:List Nat) (w0:World) (G:PM) (μ:aG) (w:World):Prop where
 sat:Sat G μ w
 os:w.os=w0.os
 tape:w.tape=w0.tape
 output:w.output=w0.output
 size:w0.heap.size≤w.heap.size
 old:∀ b,b<w0.heap.size→b∉K0→w.heap[b]? = w0.heap[b]?∧G b=G0 b
 mine:∀ b∈keys μ,b∈K0∨w0.heap.size≤b
 le:∀ b o,b∉K0→G0 b=some o→G b=some o
theorem Res.key_lt {w:World} {r:Res} (h:r.sat w):∀ b∈r.keys,b<w.heap.size:=by
 intro b hb
 cases r with
 | blk b' o=>simp only [Res.keys,List.mem_singleton] at hb; subst hb; exact (Array.getElem?_eq_some_iff.1 h).1
 | row v E size n xs =>
  simp only [Res.keys,Option.mem_toList] at hb
  exact (World.ownsRow.lt h b hb).2
 | mp b' q m =>
  simp only [Res.keys,List.mem_singleton] at hb
  subst hb
  obtain ⟨es,clock,h1,_⟩:=h
  exact (Array.getElem?_eq_some_iff.1 h1).1
theorem Sat.key_lt {G:PM} {μ:aG} {w:World} (h:Sat G μ w):∀ b∈keys μ,b<w.heap.size:=by
 intro b hb
 obtain ⟨r,hr,hbr⟩:=List.mem_flatMap.1 hb
 exact Res.key_lt (h.own r hr) b hbr
theorem aBg {w w':World} {r:Res} (h:r.sat w) (hk:∀ b∈r.keys,w'.heap[b]? = w.heap[b]?):r.sat w':=by
 cases r with
 | blk b o=>show w'.heap[b]? = some o; rw [hk b (by simp [Res.keys])]; exact h
 | row v E size n xs =>
  refine ⟨h.1,?_⟩
  rcases h.2 with hn | ⟨g,cap,cur,rfl,hb,hg,rest⟩
  ·exact .inl hn
  exact .inr ⟨g,cap,cur,rfl,hb,by rw [hk g (by simp [Res.keys,Value.ownBlock])]; exact hg,rest⟩
 | mp b q m =>
  obtain ⟨es,clock,h1,h2⟩:=h
  exact ⟨es,clock,by rw [hk b (by simp [Res.keys])]; exact h1,h2⟩
theorem eQ {G:PM} {μ:aG} {w:World} (h:Sat G μ w):Tr G (keys μ) w G μ w :=
 ⟨h,rfl,rfl,rfl,Nat.le_refl _,fun _ _ _=>⟨rfl,rfl⟩,fun _ hb=>.inl hb,fun _ _ _ h=>h⟩
theorem xG {μ μ':aG} (h:μ.Perm μ'):(keys μ).Perm (keys μ'):=h.flatMap_right _
theorem Sat.perm {G:PM} {μ μ':aG} {w:World} (h:Sat G μ w) (p:μ.Perm μ'):Sat G μ' w :=
 ⟨h.sub,fun r hr=>h.own r (p.mem_iff.2 hr),fun b hb=>h.apart b ((xG p).mem_iff.2 hb),(xG p).nodup_iff.1 h.nodup⟩
theorem Tr.perm {G0 G:PM} {K0:List Nat} {w0 w:World} {μ μ':aG} (h:Tr G0 K0 w0 G μ w) (p:μ.Perm μ'):Tr G0 K0 w0 G μ' w :=
 { h with sat:=h.sat.perm p,mine:=fun b hb=>h.mine b ((xG p).mem_iff.2 hb) }
theorem gO (a b:aG):keys (a++b)=keys a++keys b:=by simp [keys]
theorem Sat.left {G:PM} {μ ν:aG} {w:World} (h:Sat G (μ++ν) w):Sat G μ w :=
 ⟨h.sub,fun r hr=>h.own r (List.mem_append_left _ hr),fun b hb=>h.apart b (by rw [gO]; exact List.mem_append_left _ hb),
  by have:=h.nodup; rw [gO] at this; exact (List.nodup_append.1 this).1⟩
theorem Tr.left {G0 G:PM} {K0:List Nat} {w0 w:World} {μ ν:aG} (h:Tr G0 K0 w0 G (μ++ν) w):Tr G0 K0 w0 G μ w :=
 { h with sat:=h.sat.left,mine:=fun b hb=>h.mine b (by rw [gO]; exact List.mem_append_left _ hb) }
theorem Tr.step {G0 G G':PM} {K0:List Nat} {w0 w w':World} {μ ν μ':aG} (h:Tr G0 K0 w0 G (μ++ν) w) (k:Tr G (keys μ) w G' μ' w') :
  Tr G0 K0 w0 G' (μ'++ν) w':=by
 have hlt:=h.sat.key_lt
 have hnd:=h.sat.nodup
 rw [gO] at hnd hlt
 have hdis:=(List.nodup_append.1 hnd).2.2
 have hν:∀ b∈keys ν,b<w.heap.size∧b∉keys μ:=fun b hb=>⟨hlt b (List.mem_append_right _ hb),fun hm=>hdis b hm b hb rfl⟩
 have hμ':∀ b∈keys μ',b∈keys μ∨w.heap.size≤b:=k.mine
 refine ⟨⟨k.sat.sub,?_,?_,?_⟩,k.os.trans h.os,k.tape.trans h.tape,k.output.trans h.output,Nat.le_trans h.size k.size,?_,?_,?_⟩
 ·intro r hr
  rcases List.mem_append.1 hr with hr | hr
  ·exact k.sat.own r hr
  refine aBg (h.sat.own r (List.mem_append_right _ hr)) fun b hb=>?_
  have:=hν b (List.mem_flatMap.2 ⟨r,hr,hb⟩)
  exact (k.old b this.1 this.2).1
 ·intro b hb
  rw [gO] at hb
  rcases List.mem_append.1 hb with hb | hb
  ·exact k.sat.apart b hb
  have:=hν b hb
  rw [(k.old b this.1 this.2).2]
  exact h.sat.apart b (by rw [gO]; exact List.mem_append_right _ hb)
 ·rw [gO]
  refine List.nodup_append.2 ⟨k.sat.nodup,(List.nodup_append.1 hnd).2.1,fun x hx y hy hxy=>?_⟩
  subst hxy
  have:=hν x hy
  rcases hμ' x hx with hm | hm
  ·exact this.2 hm
  omega
 ·intro b hb hK
  have hb':b∉keys μ:=fun hm=>by
   rcases h.mine b (by rw [gO]; exact List.mem_append_left _ hm) with h1 | h1
   ·exact hK h1
   omega
  have h1:=h.old b hb hK
  have h2:=k.old b (Nat.lt_of_lt_of_le hb h.size) hb'
  exact ⟨h2.1.trans h1.1,h2.2.trans h1.2⟩
 ·intro b hb
  rw [gO] at hb
  rcases List.mem_append.1 hb with hb | hb
  ·rcases hμ' b hb with hm | hm
   ·exact h.mine b (by rw [gO]; exact List.mem_append_left _ hm)
   exact .inr (Nat.le_trans h.size hm)
  exact h.mine b (by rw [gO]; exact List.mem_append_right _ hb)
 intro b o hK hb
 have h1:=h.le b o hK hb
 refine k.le b o (fun hm=>?_) h1
 have:=h.sat.apart b (by rw [gO]; exact List.mem_append_left _ hm)
 rw [h1] at this; cases this
theorem Tr.mono {G0 G:PM} {K0:List Nat} {w0 w:World} {μ:aG} (h:Tr G0 K0 w0 G μ w) (hK:∀ b∈K0,G0 b=none):PM.le G0 G :=
 fun b o hb=>h.le b o (fun hm=>by rw [hK b hm] at hb; cases hb) hb
theorem Tr.forget {G0 G Gp G':PM} {K0:List Nat} {w0 w w':World} {μ:aG} (h:Tr G0 K0 w0 G μ w) (k:Tr Gp [] w G' [] w'):Tr G0 K0 w0 G μ w':=by
 have hold:∀ b,b<w.heap.size→w'.heap[b]? = w.heap[b]?:=fun b hb=>(k.old b hb (by simp)).1
 have hsub:∀ b o,G b=some o→b<w.heap.size:=fun b o hb=>(Array.getElem?_eq_some_iff.1 (h.sat.sub b o hb)).1
 have hlt:=h.sat.key_lt
 refine ⟨⟨fun b o hb=>by rw [hold b (hsub b o hb)]; exact h.sat.sub b o hb,fun r hr=>aBg (h.sat.own r hr) fun b hb=>hold b (hlt b (List.mem_flatMap.2 ⟨r,hr,hb⟩)),h.sat.apart,h.sat.nodup⟩,
  k.os.trans h.os,k.tape.trans h.tape,k.output.trans h.output,Nat.le_trans h.size k.size,fun b hb hK=>?_,h.mine,h.le⟩
 rw [hold b (Nat.lt_of_lt_of_le hb h.size)]
 exact h.old b hb hK
theorem Tr.drew {G0 G:PM} {K0:List Nat} {w0 w:World} {μ:aG} (h:Tr G0 K0 w0 G μ w):Tr G0 K0 w0 G μ { w with drawn:=w.drawn+1 } :=
 ⟨⟨h.sat.sub,fun r hr=>aBg (h.sat.own r hr) fun _ _=>rfl,h.sat.apart,h.sat.nodup⟩,h.os,h.tape,h.output,h.size,h.old,h.mine,h.le⟩
def PM.add (G:PM) (b:Nat) (o:Obj):PM:=fun c=>if c=b then some o else G c
theorem bU (G:PM) (b:Nat) (o:Obj):G.add b o b=some o:=by simp [PM.add]
theorem PM.le_add {G:PM} {b:Nat} {o:Obj} (h:G b=none):PM.le G (G.add b o):=by
 intro c u hc
 unfold PM.add
 split
 ·rename_i e; subst e; rw [h] at hc; cases hc
 ·exact hc
theorem Tr.freeze {G0 G:PM} {K0:List Nat} {w0 w:World} {μ:aG} {b:Nat} {o:Obj} (h:Tr G0 K0 w0 G (.blk b o :: μ) w) (hb:b∉K0):Tr G0 K0 w0 (G.add b o) μ w:=by
 have hbo:w.heap[b]? = some o:=h.sat.own _ (List.mem_cons_self ..)
 have hk:keys (.blk b o :: μ)=b :: keys μ:=by simp [keys,Res.keys]
 have hnd:=h.sat.nodup
 rw [hk] at hnd
 have hGb:G b=none:=h.sat.apart b (by rw [hk]; exact List.mem_cons_self ..)
 have hw0:w0.heap.size≤b:=(h.mine b (by rw [hk]; exact List.mem_cons_self ..)).resolve_left hb
 refine ⟨⟨?_,fun r hr=>h.sat.own r (List.mem_cons_of_mem _ hr),?_,(List.nodup_cons.1 hnd).2⟩,h.os,h.tape,h.output,h.size,?_,fun c hc=>h.mine c (by rw [hk]; exact List.mem_cons_of_mem _ hc),?_⟩
 ·intro c u hc
  unfold PM.add at hc
  split at hc
  ·rename_i e; subst e; cases hc; exact hbo
  exact h.sat.sub c u hc
 ·intro c hc
  unfold PM.add
  rw [if_neg (fun (e:c=b)=>(List.nodup_cons.1 hnd).1 (e▸hc))]
  exact h.sat.apart c (by rw [hk]; exact List.mem_cons_of_mem _ hc)
 ·intro c hc hK
  have:=h.old c hc hK
  refine ⟨this.1,?_⟩
  unfold PM.add
  rw [if_neg (by omega)]
  exact this.2
 intro c u hK hc
 exact PM.le_add hGb c u (h.le c u hK hc)
abbrev aJ:=List (Nat×Bool×Value)
def cF:aJ→Nat→Option (Bool×Value)
 | [],_=>none
 | (j,cv) :: r,i=>match Nat.beq j i with | true=>some cv | false=>cF r i
def ev (ρ:aJ):Operand→Option (Bool×Value)
 | .tmp t=>cF ρ t
 | .const v=>some (true,v)
 | .global g=>some (true,.pointer (some ⟨g,0,none⟩))
 | .func f=>some (true,.func (.func f) #[] #[])
structure Fm where
 n:Nat
 ds:List Deferred
 die:List PanicEntry→aJ→PM→aG→Prop
structure Ag (n:Fm) (ρ:aJ) (a:Act):Prop where
 size:a.tmps.size=n.n
 defers:a.defers=n.ds
 get:∀ i c v,cF ρ i=some (c,v)→a.tmps[i]? = some (cond c v undef)
theorem pK (j:Nat) (cv:Bool×Value) (r:aJ) (i:Nat):cF ((j,cv) :: r) i=if j=i then some cv else cF r i:=by
 by_cases h:j=i
 ·subst h; simp [cF]
 ·have hb:Nat.beq j i=false:=by
   cases h':Nat.beq j i with
   | false=>rfl
   | true=>exact absurd (Nat.eq_of_beq_eq_true h') h
  rw [if_neg h]; simp only [cF,hb]
theorem Ag.put {n:Fm} {ρ:aJ} {a:Act} (h:Ag n ρ a) {d:Nat} (hd:d<n.n) (c:Bool) (v:Value):Ag n ((d,c,v) :: ρ) (a.put (some d) (cond c v undef)):=by
 refine ⟨by simp [Act.put,h.size],by simp [Act.put,h.defers],fun i c' v' hl=>?_⟩
 rw [pK] at hl
 simp only [Act.put]
 split at hl
 ·rename_i e; subst e
  simp only [Option.some.injEq,Prod.mk.injEq] at hl
  obtain ⟨rfl,rfl⟩:=hl
  simp [h.size,hd]
 rename_i e
 rw [Array.getElem?_setIfInBounds_ne e]
 exact h.get i c' v' hl
theorem Ag.sub {n:Fm} {ρ ρ':aJ} {a:Act} (h:Ag n ρ a) (hs:∀ i cv,cF ρ' i=some cv→cF ρ i=some cv):Ag n ρ' a :=
 ⟨h.size,h.defers,fun i c v hl=>h.get i c v (hs i _ hl)⟩
theorem Ag.eval {n:Fm} {ρ:aJ} {a:Act} (h:Ag n ρ a) {x:Operand} {c:Bool} {v:Value} (hx:ev ρ x=some (c,v)) (hc:c=true):a.eval x=v:=by
 subst hc
 cases x with
 | tmp t=>simp only [ev] at hx; simp [Act.eval,h.get t _ _ hx]
 | const u=>simp only [ev,Option.some.injEq,Prod.mk.injEq] at hx; exact hx.2
 | global g=>simp only [ev,Option.some.injEq,Prod.mk.injEq] at hx; exact hx.2
 | func f=>simp only [ev,Option.some.injEq,Prod.mk.injEq] at hx; exact hx.2
def Ev (ρ:aJ) (c:Bool) (x:Operand) (v:Value):Prop:=∃ cx,ev ρ x=some (cx,v)∧(c=true→cx=true)
theorem Ev.u {ρ:aJ} {c:Bool} {x:Operand} {v:Value} (h:ev ρ x=some (true,v)):Ev ρ c x v:=⟨true,h,fun _=>rfl⟩
theorem Ev.s {ρ:aJ} {c:Bool} {x:Operand} {v:Value} (h:ev ρ x=some (c,v)):Ev ρ c x v:=⟨c,h,id⟩
theorem Ev.eval {n:Fm} {ρ:aJ} {a:Act} {c:Bool} {x:Operand} {v:Value} (h:Ev ρ c x v) (ha:Ag n ρ a) (hc:c=true):a.eval x=v:=by
 obtain ⟨cx,h1,h2⟩:=h
 exact ha.eval h1 (h2 hc)
def nth:List Oper→Nat→Option Oper
 | [],_=>none
 | o :: _,0=>some o
 | _ :: l,i+1=>nth l i
theorem iT (l:List Oper) (i:Nat):l.toArray[i]? = nth l i:=by
 rw [List.getElem?_toArray]
 induction l generalizing i with
 | nil=>simp [nth]
 | cons o l ih=>cases i with
  | zero=>simp [nth]
  | succ i=>simp [nth,ih]
inductive Gd (l:List Oper) (ρ:aJ):Option (Nat×Bool)→Bool→Prop where
 | no:Gd l ρ none true
 | t {j t:Nat} {b:Bool} (h:(nth l j).bind (·.dst)=some t) (hl:cF ρ t=some (true,.bool b)):Gd l ρ (some (j,true)) b
 | f {j t:Nat} {b:Bool} (h:(nth l j).bind (·.dst)=some t) (hl:cF ρ t=some (true,.bool b)):Gd l ρ (some (j,false)) (!b)
 | tc {j t:Nat} {c b:Bool} (h:(nth l j).bind (·.dst)=some t) (hl:cF ρ t=some (c,.bool b)):Gd l ρ (some (j,true)) (c&&b)
 | fc {j t:Nat} {c b:Bool} (h:(nth l j).bind (·.dst)=some t) (hl:cF ρ t=some (c,.bool b)):Gd l ρ (some (j,false)) (c && !b)
theorem Gd.wanted {l:List Oper} {ρ:aJ} {o:Oper} {c:Bool} (h:Gd l ρ o.guard c) {n:Fm} {a:Act} (ha:Ag n ρ a) :
  Region.wanted o (yielded l.toArray a.tmps)=c:=by
 unfold Region.wanted
 generalize o.guard=g at h
 have key:∀ {j t:Nat} {c b:Bool},(nth l j).bind (·.dst)=some t→cF ρ t=some (c,.bool b)→yielded l.toArray a.tmps j=if c then some b else none:=by
  intro j t c b h hl
  have:=ha.get t c _ hl
  unfold yielded
  rw [iT,h]
  simp only [Option.bind_some,this]
  cases c<;>simp [undef]
 cases h with
 | no=>rfl
 | t h hl=>simp only [key h hl]; cases c<;>simp
 | f h hl=>rename_i b; simp only [key h hl]; cases b<;>simp
 | tc h hl=>rename_i c b; simp only [key h hl]; cases b<;>cases c<;>simp
 | fc h hl=>rename_i c b; simp only [key h hl]; cases b<;>cases c<;>simp
def Ct (P:Program) (f:FuncId) (args:Array Value) (G:PM) (μ:aG) (post:PM→aG→Value→Prop):Prop :=
 ∀ w,Sat G μ w→Calls P f args w fun e w'=>∃ v G' μ',e=.returned v∧Tr G (keys μ) w G' μ' w'∧post G' μ' v
def Cp (P:Program) (f:FuncId) (args:Array Value) (G:PM) (μ:aG) (post:PM→aG→Value→Prop) (die:List PanicEntry→Prop):Prop :=
 ∀ w,Sat G μ w→Calls P f args w fun e w'=>(∃ v G' μ',e=.returned v∧Tr G (keys μ) w G' μ' w'∧post G' μ' v)∨(∃ ch G',e=.panicked ch∧Tr G (keys μ) w G' [] w'∧die ch)
inductive Kind where
 | pure | read | call | make | act
 deriving DecidableEq
structure Md where
 c:Bool
 a:Bool
def bI (mc:Md):Op→Kind
 | .move _ | .assign _ | .pick .. | .unOp .. | .binOp .. | .fieldAddr .. | .field .. | .indexAddr .. | .index .. | .extract .. | .slice .. | .build .. | .nilCheck _ | .makeFunc .. | .sliceToArrayPointer ..=>.pure
 | .load .. | .convert .. | .lookup .. | .makeInterface ..=>.read
 | .alloc _=>.make
 | .box .. | .buildSlice ..=>.call
 | .call { callee:=.builtin .len,.. } | .call { callee:=.builtin .min,.. } | .call { callee:=.builtin .max,.. }=>.read
 | .call { callee:=.builtin .append,.. }=>if mc.a then .call else .act
 | .call { callee:=.builtin _,.. }=>.act
 | .call _=>if mc.c then .act else .call
 | _=>.act
def cS (ρ:aJ) (d:Option Nat) (c:Bool) (v:Value):aJ:=match d with | some d=>(d,c,v) :: ρ | none=>ρ
def iH (n:Fm):Option Nat→Prop | some d=>d<n.n | none=>True
structure Weak (μ' μ₁:aG):Prop where
 sat:∀ w,(∀ r∈μ',r.sat w)→∀ r∈μ₁,r.sat w
 keys:∀ b∈keys μ₁,b∈keys μ'
 nodup:(Go.Tan.keys μ₁).Nodup
theorem Weak.of {G:PM} {μ' μ₁ ν:aG} {w:World} (h:Weak μ' μ₁) (hs:Sat G (μ'++ν) w):Sat G (μ₁++ν) w:=by
 have hnd:=hs.nodup
 rw [gO] at hnd
 refine ⟨hs.sub,fun r hr=>?_,fun b hb=>?_,?_⟩
 ·rcases List.mem_append.1 hr with hr | hr
  ·exact h.sat w (fun r hr=>hs.own r (List.mem_append_left _ hr)) r hr
  exact hs.own r (List.mem_append_right _ hr)
 ·rw [gO] at hb
  refine hs.apart b ?_
  rw [gO]
  rcases List.mem_append.1 hb with hb | hb
  ·exact List.mem_append_left _ (h.keys b hb)
  exact List.mem_append_right _ hb
 rw [gO]
 exact List.nodup_append.2 ⟨h.nodup,(List.nodup_append.1 hnd).2.1,fun x hx y hy=>(List.nodup_append.1 hnd).2.2 x (h.keys x hx) y hy⟩
inductive Wo (dr:Bool) (mc:Md) (P:Program) (n:Fm) (l:List Oper) (K:aJ→PM→aG→Prop):List Nat→aJ→PM→aG→Prop where
 | nil {ρ G μ} (h:K ρ G μ):Wo dr mc P n l K [] ρ G μ
 | pure {i σ ρ G μ o c v} (ho:nth l i=some o) (hk:bI mc o.op=.pure∨dr=false) (hg:Gd l ρ o.guard c)
   (hr:c=true→∀ a w,Ag n ρ a→(execOp a.eval o).run P w=.ok (.value v) w) (h:Wo dr mc P n l K σ (cS ρ o.dst c v) G μ):Wo dr mc P n l K (i :: σ) ρ G μ
 | read {i σ ρ G μ o c v} (ho:nth l i=some o) (hk:bI mc o.op=.read∨dr=false) (hg:Gd l ρ o.guard c)
   (hr:c=true→∀ a w,Ag n ρ a→Sat G μ w→(execOp a.eval o).run P w=.ok (.value v) w) (h:Wo dr mc P n l K σ (cS ρ o.dst c v) G μ):Wo dr mc P n l K (i :: σ) ρ G μ
 | make {i σ ρ G μ o} {ob:Obj} {mkv:Nat→Value} (ho:nth l i=some o) (hk:bI mc o.op=.make∨dr=false) (hg:o.guard=none)
   (hr:∀ e w,(execOp e o).run P w=.ok (.value (mkv w.heap.size)) (w.alloc ob))
   (h:∀ b,Wo dr mc P n l K σ (cS ρ o.dst true (mkv b)) G (.blk b ob :: μ)):Wo dr mc P n l K (i :: σ) ρ G μ
 | box {i σ ρ G μ o} {ob:Obj} {mkv:Nat→Value} (ho:nth l i=some o) (hk:bI mc o.op=.call∨dr=false) (hg:Gd l ρ o.guard true)
   (hr:∀ a w,Ag n ρ a→(execOp a.eval o).run P w=.ok (.value (mkv w.heap.size)) (w.alloc ob))
   (h:∀ b,Wo dr mc P n l K σ (cS ρ o.dst true (mkv b)) G (.blk b ob :: μ)):Wo dr mc P n l K (i :: σ) ρ G μ
 | callv {i σ ρ G μ o c f args v} {Gp:PM} (ho:nth l i=some o) (hk:bI mc o.op=.call∨bI mc o.op=.act∨dr=false) (hg:Gd l ρ o.guard c)
   (hr:c=true→∀ a w,Ag n ρ a→(execOp a.eval o).run P w=.ok (.enter f args) w)
   (hf:c=true→∀ w,Sat G μ w→(∀ b o,Gp b=some o→w.heap[b]? = some o)∧Ct P f args Gp [] fun _ μ' u=>μ'=[]∧u=v)
   (h:Wo dr mc P n l K σ (cS ρ o.dst c v) G μ):Wo dr mc P n l K (i :: σ) ρ G μ
 | call {i σ ρ G μ o f args} {post:PM→aG→Value→Prop} (ho:nth l i=some o) (hk:bI mc o.op=.call∨bI mc o.op=.act∨dr=false) (hg:Gd l ρ o.guard true)
   (hr:∀ a w,Ag n ρ a→(execOp a.eval o).run P w=.ok (.enter f args) w)
   (hf:Ct P f args G [] post)
   (h:∀ v G' μ',PM.le G G'→post G' μ' v→Wo dr mc P n l K σ (cS ρ o.dst true v) G' (μ'++μ)):Wo dr mc P n l K (i :: σ) ρ G μ
 | callg {i σ ρ G μ o f args} {post:PM→aG→Value→Prop} (hd:dr=false) (ho:nth l i=some o) (hg:Gd l ρ o.guard true)
   (hr:∀ a w,Ag n ρ a→(execOp a.eval o).run P w=.ok (.enter f args) w)
   (hf:Ct P f args G [] post)
   (h:∀ v G' μ',PM.le G G'→post G' μ' v→Wo dr mc P n l K σ (cS ρ o.dst true v) G' (μ'++μ)):Wo dr mc P n l K (i :: σ) ρ G μ
 | callp {i σ ρ G μ o f args μ₁ μ₂} {post:PM→aG→Value→Prop} {die:List PanicEntry→Prop} (hd:dr=false) (ho:nth l i=some o) (hg:Gd l ρ o.guard true) (hp:μ.Perm (μ₁++μ₂))
   (hr:∀ a w,Ag n ρ a→(execOp a.eval o).run P w=.ok (.enter f args) w)
   (hf:Cp P f args G μ₁ post die)
   (hx:∀ ch G' ρ' μ',PM.le G G'→die ch→(∀ i,cF ρ' i=cF ρ i)→μ'.Perm μ₂→n.die ch ρ' G' μ')
   (h:∀ v G' μ',PM.le G G'→post G' μ' v→Wo dr mc P n l K σ (cS ρ o.dst true v) G' (μ'++μ₂)):Wo dr mc P n l K (i :: σ) ρ G μ
 | pan {i σ ρ G μ o v} (hd:dr=false) (ho:nth l i=some o) (hg:Gd l ρ o.guard true)
   (hr:∀ a w,Ag n ρ a→(execOp a.eval o).run P w=.halt (.panic v) w)
   (hx:∀ ρ' μ',(∀ i,cF ρ' i=cF ρ i)→μ'.Perm μ→n.die [{ v:=v,recovered:=false }] ρ' G μ'):Wo dr mc P n l K (i :: σ) ρ G μ
 | fresh {i σ ρ G μ o μ₁ μ₂} {post:PM→aG→aG→Value→Prop} (ho:nth l i=some o) (hk:bI mc o.op=.call∨dr=false) (hg:o.guard=none) (hp:μ.Perm (μ₁++μ₂))
   (hr:∀ a w,Ag n ρ a→Sat G (μ₁++μ₂) w→∃ v w' G' μa μb,(execOp a.eval o).run P w=.ok (.value v) w'∧Tr G (keys μ₁) w G' (μa++μb) w'∧post G' μa μb v)
   (hw:∀ v G' μa μb,post G' μa μb v→Weak (μa++μb) μ₁)
   (h:∀ v G' μa μb,PM.le G G'→post G' μa μb v→Wo dr mc P n l K σ (cS ρ o.dst true v) G' (μa++(μ₂++μb))):Wo dr mc P n l K (i :: σ) ρ G μ
 | act {i σ ρ G μ o μ₁ μ₂} {post:PM→aG→Value→Prop} (ho:nth l i=some o) (hk:bI mc o.op=.act∨dr=false) (hg:Gd l ρ o.guard true) (hp:μ.Perm (μ₁++μ₂))
   (hr:∀ a w,Ag n ρ a→Sat G (μ₁++μ₂) w →
    (∃ v w' G' μ',((execOp a.eval o).run P w=.ok (.value v) w'∨(execOp a.eval o).run P w=.ok .skip w'∧v=undef)∧Tr G (keys μ₁) w G' μ' w'∧post G' μ' v) ∨
    (∃ f args,(execOp a.eval o).run P w=.ok (.enter f args) w∧Ct P f args G μ₁ post))
   (h:∀ v G' μ',PM.le G G'→post G' μ' v→Wo dr mc P n l K σ (cS ρ o.dst true v) G' (μ'++μ₂)):Wo dr mc P n l K (i :: σ) ρ G μ
theorem Ag.laid {n:Fm} {ρ:aJ} {a:Act} (h:Ag n ρ a) {d:Option Nat} (hd:iH n d) (c:Bool) (v:Value):Ag n (cS ρ d c v) (a.put d (cond c v undef)):=by
 cases d with
 | none=>exact h
 | some d=>exact h.put hd c v
theorem Tr.alloc {G0 G:PM} {K0:List Nat} {w0 w:World} {μ:aG} (h:Tr G0 K0 w0 G μ w) (ob:Obj):Tr G0 K0 w0 G (.blk w.heap.size ob :: μ) (w.alloc ob):=by
 have hk:keys (.blk w.heap.size ob :: μ)=w.heap.size :: keys μ:=by simp [keys,Res.keys]
 have hlt:=h.sat.key_lt
 have hold:∀ b,b<w.heap.size→(w.alloc ob).heap[b]? = w.heap[b]?:=fun b hb=>Below.heap_alloc w ob b hb
 have hsub:∀ b o,G b=some o→b<w.heap.size:=fun b o hb=>(Array.getElem?_eq_some_iff.1 (h.sat.sub b o hb)).1
 refine ⟨⟨fun b o hb=>by rw [hold b (hsub b o hb)]; exact h.sat.sub b o hb,?_,?_,?_⟩,h.os,h.tape,h.output,Nat.le_trans h.size (by simp),?_,?_,h.le⟩
 ·intro r hr
  rcases List.mem_cons.1 hr with rfl | hr
  ·exact heap_alloc_new w ob
  exact aBg (h.sat.own r hr) fun b hb=>hold b (hlt b (List.mem_flatMap.2 ⟨r,hr,hb⟩))
 ·intro b hb
  rw [hk] at hb
  rcases List.mem_cons.1 hb with rfl | hb
  ·cases hG:G w.heap.size with
   | none=>rfl
   | some o=>exact absurd (hsub _ _ hG) (Nat.lt_irrefl _)
  exact h.sat.apart b hb
 ·rw [hk]
  exact List.nodup_cons.2 ⟨fun hm=>absurd (hlt _ hm) (Nat.lt_irrefl _),h.sat.nodup⟩
 ·intro b hb hK
  rw [hold b (Nat.lt_of_lt_of_le hb h.size)]
  exact h.old b hb hK
 intro b hb
 rw [hk] at hb
 rcases List.mem_cons.1 hb with rfl | hb
 ·exact .inr h.size
 exact h.mine b hb
theorem aCm {P:Program} {f:FuncId} {args:Array Value} {G:PM} {μ:aG} {post:PM→aG→Value→Prop} (hf:Ct P f args G μ post) {w:World} (hs:Sat G μ w)
  {o:Oper} {a:Act} {next:Act→World→Prop} {Q:Exit→Act→World→Prop}
  (hr:(execOp a.eval o).run P w=.ok (.enter f args) w)
  (h:∀ v G' μ' w',Tr G (keys μ) w G' μ' w'→post G' μ' v→next (a.put o.dst v) w'):o.wp P a w next Q:=by
 unfold Oper.wp
 rw [hr]
 simp only [Oper.upon]
 refine (hf w hs).mono ?_
 rintro e w' ⟨v,G',μ',rfl,ht,hp⟩
 exact h v G' μ' w' ht hp
theorem aU0 {P:Program} {f:FuncId} {args:Array Value} {G:PM} {μ:aG} {post:PM→aG→Value→Prop} {die:List PanicEntry→Prop} (hf:Cp P f args G μ post die) {w:World} (hs:Sat G μ w)
  {o:Oper} {a:Act} {next:Act→World→Prop} {Q:Exit→Act→World→Prop}
  (hr:(execOp a.eval o).run P w=.ok (.enter f args) w)
  (h:∀ v G' μ' w',Tr G (keys μ) w G' μ' w'→post G' μ' v→next (a.put o.dst v) w')
  (hd:∀ ch G' w',Tr G (keys μ) w G' [] w'→die ch→Q (.panic ch) a w'):o.wp P a w next Q:=by
 unfold Oper.wp
 rw [hr]
 simp only [Oper.upon]
 refine (hf w hs).mono ?_
 rintro e w' (⟨v,G',μ',rfl,ht,hp⟩ | ⟨ch,G',rfl,ht,hp⟩)
 ·exact h v G' μ' w' ht hp
 exact hd ch G' w' ht hp
theorem aJI {α:Type} (a b c:List α):(a++b++c).Perm (a++(c++b)):=by
 rw [List.append_assoc]; exact (List.perm_append_comm (l₁:=b) (l₂:=c)).append_left a
theorem Wo.head {dr:Bool} {mc:Md} {P:Program} {n:Fm} {l:List Oper} {K:aJ→PM→aG→Prop} {i:Nat} {σ:List Nat} {ρ:aJ} {G:PM} {μ:aG} (H:Wo dr mc P n l K (i :: σ) ρ G μ)
  {G0:PM} {K0:List Nat} {w0:World} {a:Act} {w:World} (ha:Ag n ρ a) (ht:Tr G0 K0 w0 G μ w)
  {next:Act→World→Prop} {Q:Exit→Act→World→Prop}
  (hds:∀ j o,nth l j=some o→iH n o.dst) (hD:dr=false→∀ ch ρ G μ a w,n.die ch ρ G μ→Ag n ρ a→Tr G0 K0 w0 G μ w→Q (.panic ch) a w)
  (hn:∀ ρ' G' μ' a' w',Wo dr mc P n l K σ ρ' G' μ'→Ag n ρ' a'→Tr G0 K0 w0 G' μ' w'→next a' w') :
  ∃ o,nth l i=some o∧if Region.wanted o (yielded l.toArray a.tmps) then o.wp P a w next Q else next (a.put o.dst undef) w:=by
 have plain:∀ {o:Oper},o.guard=none→Region.wanted o (yielded l.toArray a.tmps)=true:=fun hg=>by simp [Region.wanted,hg]
 cases H with
 | @pure _ _ _ _ _ o c v ho hk hg hr h =>
  refine ⟨o,ho,?_⟩
  rw [hg.wanted ha]
  cases c with
  | false=>exact hn _ _ _ _ _ h (by simpa using ha.laid (hds i o ho) false v) ht
  | true=>simp only [if_true,Oper.wp,hr rfl a w ha,Oper.upon]; exact hn _ _ _ _ _ h (ha.laid (hds i o ho) true v) ht
 | @read _ _ _ _ _ o c v ho hk hg hr h =>
  refine ⟨o,ho,?_⟩
  rw [hg.wanted ha]
  cases c with
  | false=>exact hn _ _ _ _ _ h (by simpa using ha.laid (hds i o ho) false v) ht
  | true=>simp only [if_true,Oper.wp,hr rfl a w ha ht.sat,Oper.upon]; exact hn _ _ _ _ _ h (ha.laid (hds i o ho) true v) ht
 | @make _ _ _ _ _ o ob mkv ho hk hg hr h =>
  refine ⟨o,ho,?_⟩
  rw [plain hg]
  simp only [if_true,Oper.wp,hr a.eval w,Oper.upon]
  exact hn _ _ _ _ _ (h w.heap.size) (ha.laid (hds i o ho) true _) (ht.alloc ob)
 | @box _ _ _ _ _ o ob mkv ho hk hg hr h =>
  refine ⟨o,ho,?_⟩
  rw [hg.wanted ha]
  simp only [if_true,Oper.wp,hr a w ha,Oper.upon]
  exact hn _ _ _ _ _ (h w.heap.size) (ha.laid (hds i o ho) true _) (ht.alloc ob)
 | @callv _ _ _ _ _ o c f args v Gp ho hk hg hr hf h =>
  refine ⟨o,ho,?_⟩
  rw [hg.wanted ha]
  cases c with
  | false=>exact hn _ _ _ _ _ h (by simpa using ha.laid (hds i o ho) false v) ht
  | true =>
   simp only [if_true]
   obtain ⟨hf1,hf2⟩:=hf rfl w ht.sat
   refine aCm hf2 ⟨hf1,by simp,by simp [keys],by simp [keys]⟩ (hr rfl a w ha) ?_
   rintro u G' μ' w' hk ⟨rfl,rfl⟩
   exact hn _ _ _ _ _ h (ha.laid (hds i o ho) true _) (ht.forget hk)
 | @call _ _ _ _ _ o f args post ho hk hg hr hf h =>
  refine ⟨o,ho,?_⟩
  rw [hg.wanted ha]
  simp only [if_true]
  refine aCm hf ⟨ht.sat.sub,by simp,by simp [keys],by simp [keys]⟩ (hr a w ha) ?_
  intro u G' μ' w' hk hp
  exact hn _ _ _ _ _ (h u G' μ' (hk.mono (by simp [keys])) hp) (ha.laid (hds i o ho) true _) (Tr.step (μ:=[]) (ν:=μ) (by simpa using ht) hk)
 | @callg _ _ _ _ _ o f args post hd ho hg hr hf h =>
  refine ⟨o,ho,?_⟩
  rw [hg.wanted ha]
  simp only [if_true]
  refine aCm hf ⟨ht.sat.sub,by simp,by simp [keys],by simp [keys]⟩ (hr a w ha) ?_
  intro u G' μ' w' hk hp
  exact hn _ _ _ _ _ (h u G' μ' (hk.mono (by simp [keys])) hp) (ha.laid (hds i o ho) true _) (Tr.step (μ:=[]) (ν:=μ) (by simpa using ht) hk)
 | @callp _ _ _ _ _ o f args μ₁ μ₂ post die hd ho hg hp hr hf hx h =>
  refine ⟨o,ho,?_⟩
  rw [hg.wanted ha]
  simp only [if_true]
  have ht':=ht.perm hp
  have hnone:∀ b∈keys μ₁,G b=none:=fun b hb=>ht'.sat.apart b (by rw [gO]; exact List.mem_append_left _ hb)
  refine aU0 hf ht'.sat.left (hr a w ha) ?_ ?_
  ·intro u G' μ' w' hk hq
   exact hn _ _ _ _ _ (h u G' μ' (hk.mono hnone) hq) (ha.laid (hds i o ho) true _) (ht'.step hk)
  intro ch G' w' hk hq
  exact hD hd ch ρ G' μ₂ a w' (hx ch G' ρ μ₂ (hk.mono hnone) hq (fun _=>rfl) (.refl _)) ha (by simpa using ht'.step hk)
 | @pan _ _ _ _ _ o v hd ho hg hr hx =>
  refine ⟨o,ho,?_⟩
  rw [hg.wanted ha]
  simp only [if_true]
  unfold Oper.wp
  rw [hr a w ha]
  exact hD hd _ ρ G μ a w (hx ρ μ (fun _=>rfl) (.refl _)) ha ht
 | @fresh _ _ _ _ _ o μ₁ μ₂ post ho hk hg hp hr hw h =>
  refine ⟨o,ho,?_⟩
  rw [plain hg]
  simp only [if_true]
  have ht':=ht.perm hp
  have hnone:∀ b∈keys μ₁,G b=none:=fun b hb=>ht'.sat.apart b (by rw [gO]; exact List.mem_append_left _ hb)
  obtain ⟨v,w',G',μa,μb,hrun,hk,hpost⟩:=hr a w ha ht'.sat
  have:=hn _ _ _ _ _ (h v G' μa μb (hk.mono hnone) hpost) (ha.laid (hds i o ho) true v) ((ht'.step hk).perm (aJI μa μb μ₂))
  unfold Oper.wp
  rw [hrun]; exact this
 | @act _ _ _ _ _ o μ₁ μ₂ post ho hk hg hp hr h =>
  refine ⟨o,ho,?_⟩
  rw [hg.wanted ha]
  simp only [if_true]
  have ht':=ht.perm hp
  have hnone:∀ b∈keys μ₁,G b=none:=fun b hb=>ht'.sat.apart b (by rw [gO]; exact List.mem_append_left _ hb)
  rcases hr a w ha ht'.sat with ⟨v,w',G',μ',hrun,hk,hpost⟩ | ⟨f,args,hrun,hf⟩
  ·have:=hn _ _ _ _ _ (h v G' μ' (hk.mono hnone) hpost) (ha.laid (hds i o ho) true v) (ht'.step hk)
   unfold Oper.wp
   rcases hrun with hrun | ⟨hrun,rfl⟩
   ·rw [hrun]; exact this
   rw [hrun]; exact this
  refine aCm hf ht'.sat.left hrun ?_
  intro v G' μ' w' hk hpost
  exact hn _ _ _ _ _ (h v G' μ' (hk.mono hnone) hpost) (ha.laid (hds i o ho) true v) (ht'.step hk)
theorem Wo.run {dr:Bool} {mc:Md} {P:Program} {n:Fm} {l:List Oper} {K:aJ→PM→aG→Prop} {Q:Exit→Act→World→Prop} {G0:PM} {K0:List Nat} {w0:World}
  (hds:∀ j o,nth l j=some o→iH n o.dst) (hD:dr=false→∀ ch ρ G μ a w,n.die ch ρ G μ→Ag n ρ a→Tr G0 K0 w0 G μ w→Q (.panic ch) a w) (hK:∀ ρ G μ,K ρ G μ→∀ a w,Ag n ρ a→Tr G0 K0 w0 G μ w→Q .normal a w) :
  ∀ (σ:List Nat) (ρ:aJ) (G:PM) (μ:aG) (a:Act) (w:World),Wo dr mc P n l K σ ρ G μ→Ag n ρ a→Tr G0 K0 w0 G μ w→wpOps P l.toArray Q σ a w
 | [],ρ,G,μ,a,w,H,ha,ht=>by cases H with | nil h=>exact hK _ _ _ h a w ha ht
 | i :: σ,ρ,G,μ,a,w,H,ha,ht=>by
  obtain ⟨o,ho,h⟩:=H.head ha ht (next:=wpOps P l.toArray Q σ) (Q:=Q) hds hD (fun ρ' G' μ' a' w' H' ha' ht'=>Wo.run hds hD hK σ ρ' G' μ' a' w' H' ha' ht')
  simp only [wpOps,iT,ho]
  split
  ·rename_i hw; rw [if_pos hw] at h; exact .inl h
  ·rename_i hw; rw [if_neg hw] at h; exact h
section
variable {P:Program} {n:Fm} {l:List Oper} {K:aJ→PM→aG→Prop} {dr:Bool} {mc:Md}
def jL (K:aJ→PM→aG→Prop):Prop :=
 (∀ ρ ρ' G μ,(∀ i,cF ρ i=cF ρ' i)→K ρ G μ→K ρ' G μ)∧(∀ ρ G μ μ',μ.Perm μ'→K ρ G μ→K ρ G μ')
theorem Gd.congr {ρ ρ':aJ} {g:Option (Nat×Bool)} {c:Bool} (h:Gd l ρ g c) (e:∀ j t w,g=some (j,w)→(nth l j).bind (·.dst)=some t→cF ρ t=cF ρ' t):Gd l ρ' g c:=by
 cases h with
 | no=>exact .no
 | t h hl=>exact .t h ((e _ _ _ rfl h)▸hl)
 | f h hl=>exact .f h ((e _ _ _ rfl h)▸hl)
 | tc h hl=>exact .tc h ((e _ _ _ rfl h)▸hl)
 | fc h hl=>exact .fc h ((e _ _ _ rfl h)▸hl)
theorem Ag.congr {ρ ρ':aJ} {a:Act} (h:Ag n ρ' a) (e:∀ i,cF ρ i=cF ρ' i):Ag n ρ a:=h.sub fun i _ hl=>(e i)▸hl
theorem oI {ρ ρ':aJ} (e:∀ i,cF ρ i=cF ρ' i) (d:Option Nat) (c:Bool) (v:Value):∀ i,cF (cS ρ d c v) i=cF (cS ρ' d c v) i:=by
 intro i
 cases d with
 | none=>exact e i
 | some d=>simp only [cS,pK,e i]
theorem Wo.congr (hK:jL K) {σ:List Nat} {ρ:aJ} {G:PM} {μ:aG} (H:Wo dr mc P n l K σ ρ G μ):∀ {ρ':aJ},(∀ i,cF ρ i=cF ρ' i)→Wo dr mc P n l K σ ρ' G μ:=by
 induction H with
 | nil h=>exact fun e=>.nil (hK.1 _ _ _ _ e h)
 | pure ho hk hg hr _ ih=>exact fun e=>.pure ho hk (hg.congr fun _ t _ _ _=>e t) (fun hc a w ha=>hr hc a w (ha.congr e)) (ih (oI e _ _ _))
 | read ho hk hg hr _ ih=>exact fun e=>.read ho hk (hg.congr fun _ t _ _ _=>e t) (fun hc a w ha=>hr hc a w (ha.congr e)) (ih (oI e _ _ _))
 | make ho hk hg hr _ ih=>exact fun e=>.make ho hk hg hr (fun b=>ih b (oI e _ _ _))
 | box ho hk hg hr _ ih=>exact fun e=>.box ho hk (hg.congr fun _ t _ _ _=>e t) (fun a w ha=>hr a w (ha.congr e)) (fun b=>ih b (oI e _ _ _))
 | callv ho hk hg hr hf _ ih=>exact fun e=>.callv ho hk (hg.congr fun _ t _ _ _=>e t) (fun hc a w ha=>hr hc a w (ha.congr e)) hf (ih (oI e _ _ _))
 | call ho hk hg hr hf _ ih=>exact fun e=>.call ho hk (hg.congr fun _ t _ _ _=>e t) (fun a w ha=>hr a w (ha.congr e)) hf (fun v G' μ' hle hp=>ih v G' μ' hle hp (oI e _ _ _))
 | callg hd ho hg hr hf _ ih=>exact fun e=>.callg hd ho (hg.congr fun _ t _ _ _=>e t) (fun a w ha=>hr a w (ha.congr e)) hf (fun v G' μ' hle hp=>ih v G' μ' hle hp (oI e _ _ _))
 | callp hd ho hg hp hr hf hx _ ih=>exact fun e=>.callp hd ho (hg.congr fun _ t _ _ _=>e t) hp (fun a w ha=>hr a w (ha.congr e)) hf (fun ch G' ρ' μ' hle hq he hm=>hx ch G' ρ' μ' hle hq (fun i=>(he i).trans (e i).symm) hm) (fun v G' μ' hle hp=>ih v G' μ' hle hp (oI e _ _ _))
 | pan hd ho hg hr hx=>exact fun e=>.pan hd ho (hg.congr fun _ t _ _ _=>e t) (fun a w ha=>hr a w (ha.congr e)) (fun ρ' μ' he hm=>hx ρ' μ' (fun i=>(he i).trans (e i).symm) hm)
 | fresh ho hk hg hp hr hw _ ih=>exact fun e=>.fresh ho hk hg hp (fun a w ha=>hr a w (ha.congr e)) hw (fun v G' μa μb hle hq=>ih v G' μa μb hle hq (oI e _ _ _))
 | act ho hk hg hp hr _ ih=>exact fun e=>.act ho hk (hg.congr fun _ t _ _ _=>e t) hp (fun a w ha=>hr a w (ha.congr e)) (fun v G' μ' hle hq=>ih v G' μ' hle hq (oI e _ _ _))
theorem Wo.perm (hK:jL K) {σ:List Nat} {ρ:aJ} {G:PM} {μ:aG} (H:Wo dr mc P n l K σ ρ G μ):∀ {μ':aG},μ.Perm μ'→Wo dr mc P n l K σ ρ G μ':=by
 induction H with
 | nil h=>exact fun p=>.nil (hK.2 _ _ _ _ p h)
 | pure ho hk hg hr _ ih=>exact fun p=>.pure ho hk hg hr (ih p)
 | read ho hk hg hr _ ih=>exact fun p=>.read ho hk hg (fun hc a w ha hs=>hr hc a w ha (hs.perm p.symm)) (ih p)
 | make ho hk hg hr _ ih=>exact fun p=>.make ho hk hg hr (fun b=>ih b (p.cons _))
 | box ho hk hg hr _ ih=>exact fun p=>.box ho hk hg hr (fun b=>ih b (p.cons _))
 | callv ho hk hg hr hf _ ih=>exact fun p=>.callv ho hk hg hr (fun hc w hs=>hf hc w (hs.perm p.symm)) (ih p)
 | call ho hk hg hr hf _ ih=>exact fun p=>.call ho hk hg hr hf (fun v G' μ' hle hp=>ih v G' μ' hle hp (p.append_left _))
 | callg hd ho hg hr hf _ ih=>exact fun p=>.callg hd ho hg hr hf (fun v G' μ' hle hp=>ih v G' μ' hle hp (p.append_left _))
 | callp hd ho hg hp hr hf hx h _=>exact fun p=>.callp hd ho hg (p.symm.trans hp) hr hf hx h
 | pan hd ho hg hr hx=>exact fun p=>.pan hd ho hg hr (fun ρ' μ' he hm=>hx ρ' μ' he (hm.trans p.symm))
 | fresh ho hk hg hp hr hw h _=>exact fun p=>.fresh ho hk hg (p.symm.trans hp) hr hw h
 | act ho hk hg hp hr h _=>exact fun p=>.act ho hk hg (p.symm.trans hp) hr h
theorem aLB {ρ:aJ} {a:Act} {d:Option Nat} {c:Bool} {v:Value} (hd:iH n d) (h:Ag n (cS ρ d c v) a) :
  ∃ a0,Ag n ρ a0∧∀ o:Oper,(∀ cs b,o.op≠.select cs b)→(∀ e,d=some e→e∉o.looksAt l.toArray)→execOp a0.eval o=execOp a.eval o:=by
 cases d with
 | none=>exact ⟨a,h,fun _ _ _=>rfl⟩
 | some d =>
  cases hl:cF ρ d with
  | none =>
   refine ⟨a,h.sub fun i cv hi=>?_,fun _ _ _=>rfl⟩
   simp only [cS,pK]
   rw [if_neg (fun e=>by subst e; rw [hl] at hi; cases hi)]
   exact hi
  | some cv =>
   obtain ⟨c0,v0⟩:=cv
   refine ⟨a.put (some d) (cond c0 v0 undef),⟨by simp [Act.put,h.size],by simp [Act.put,h.defers],fun i c' v' hi=>?_⟩,fun o hs ho=>execOp_put o hs a (some d) _ ho⟩
   simp only [Act.put]
   by_cases e:d=i
   ·subst e
    rw [hl] at hi
    simp only [Option.some.injEq,Prod.mk.injEq] at hi
    obtain ⟨rfl,rfl⟩:=hi
    simp [h.size,show d<n.n from hd]
   rw [Array.getElem?_setIfInBounds_ne e]
   refine h.get i c' v' ?_
   simp only [cS,pK,if_neg e]
   exact hi
theorem tD {ρ:aJ} {d:Option Nat} {c:Bool} {v:Value} (hd:iH n d) {o:Oper} (hs:∀ cs b,o.op≠.select cs b) (ho:∀ e,d=some e→e∉o.looksAt l.toArray)
  {Φ:Sem Next→Prop} (h:∀ a,Ag n ρ a→Φ (execOp a.eval o)):∀ a,Ag n (cS ρ d c v) a→Φ (execOp a.eval o):=by
 intro a ha
 obtain ⟨a0,h0,he⟩:=aLB (l:=l) hd ha
 rw [← he o hs ho]
 exact h a0 h0
theorem lC {ρ:aJ} {d:Option Nat} {c:Bool} {v:Value} (hd:iH n d) {o:Oper} (hs:∀ cs b,o.op≠.select cs b) (ho:∀ e,d=some e→e∉o.looksAt l.toArray)
  {Φ:Sem Next→Prop} (h:∀ a,Ag n (cS ρ d c v) a→Φ (execOp a.eval o)):∀ a,Ag n ρ a→Φ (execOp a.eval o):=by
 intro a ha
 have:=h _ (ha.laid hd c v)
 rwa [execOp_put o hs a d _ ho] at this
theorem aIb {ρ:aJ} {d:Option Nat} {c:Bool} {v:Value} {t:Nat} (h:d≠some t):cF (cS ρ d c v) t=cF ρ t:=by
 cases d with
 | none=>rfl
 | some d=>simp only [cS,pK]; rw [if_neg (fun e=>h (by rw [e]))]
theorem aIB {o:Oper} {j t:Nat} {w:Bool} (hg:o.guard=some (j,w)) (ht:(nth l j).bind (·.dst)=some t):t∈o.looksAt l.toArray:=by
 unfold Oper.looksAt
 rw [hg]
 refine List.mem_append_right _ ?_
 simp only [iT,ht]
 simp
theorem uP {ρ:aJ} {d:Option Nat} {c c':Bool} {v:Value} {o:Oper} (ho:∀ e,d=some e→e∉o.looksAt l.toArray) (h:Gd l ρ o.guard c'):Gd l (cS ρ d c v) o.guard c' :=
 h.congr fun _ t _ hg ht=>(aIb fun e=>ho t e (aIB hg ht)).symm
theorem nD {ρ:aJ} {d:Option Nat} {c c':Bool} {v:Value} {o:Oper} (ho:∀ e,d=some e→e∉o.looksAt l.toArray) (h:Gd l (cS ρ d c v) o.guard c'):Gd l ρ o.guard c' :=
 h.congr fun _ t _ hg ht=>aIb fun e=>ho t e (aIB hg ht)
theorem kJ {ρ:aJ} {d e:Option Nat} {c c':Bool} {v v':Value} (h:∀ x,d=some x→e≠some x) :
  ∀ i,cF (cS (cS ρ d c v) e c' v') i=cF (cS (cS ρ e c' v') d c v) i:=by
 intro i
 cases d with
 | none=>rfl
 | some d =>
  cases e with
  | none=>rfl
  | some e =>
   have hne:e≠d:=fun he=>h d rfl (by rw [he])
   simp only [cS,pK]
   by_cases h1:e=i
   ·subst h1; rw [if_pos rfl,if_neg (fun x=>hne x.symm),if_pos rfl]
   ·rw [if_neg h1]
    by_cases h2:d=i
    ·rw [if_pos h2,if_pos h2]
    ·rw [if_neg h2,if_neg h2,if_neg h1]
structure Apart (l:List Oper) (oi oj:Oper):Prop where
 si:∀ cs b,oi.op≠.select cs b
 sj:∀ cs b,oj.op≠.select cs b
 ij:∀ d,oi.dst=some d→d∉oj.looksAt l.toArray
 dd:∀ d,oi.dst=some d→oj.dst≠some d
 ji:∀ d,oj.dst=some d→d∉oi.looksAt l.toArray
theorem wR {oi oj:Oper} {i j:Nat} (hs:Region.noSelect l.toArray=true) (hi:nth l i=some oi) (hj:nth l j=some oj) (h:oi.apart l.toArray oj=true):Apart l oi oj:=by
 obtain ⟨h1,h2,h3⟩:=Oper.apart_spec h
 exact ⟨fun cs b=>Region.noSelect_spec hs i oi cs b (by rw [iT]; exact hi),fun cs b=>Region.noSelect_spec hs j oj cs b (by rw [iT]; exact hj),h1,h2,h3⟩
theorem aKE {i j:Nat} {σ:List Nat} {ρ:aJ} {G:PM} {μ:aG} {oi oj:Oper} {c:Bool} {v:Value} (hK:jL K) (hds:∀ j o,nth l j=some o→iH n o.dst) (hoj:nth l j=some oj) (hap:Apart l oi oj)
  (hd:iH n oi.dst)
  (again:∀ {ρ':aJ} {G':PM} {μ':aG} {d:Option Nat} {c':Bool} {v':Value},d=oj.dst→iH n d→PM.le G G'→(μ'=μ∨bI mc oj.op≠.act∧(∀ w,Sat G' μ' w→Sat G' μ w)∨bI mc oi.op=.pure) →
   ρ'=cS ρ d c' v'→Wo dr mc P n l K σ (cS ρ' oi.dst c v) G' μ'→Wo dr mc P n l K (i :: σ) ρ' G' μ')
  (hdr:dr=true) (hkj:bI mc oj.op≠.act∨bI mc oi.op=.pure)
  (H:Wo dr mc P n l K (j :: σ) (cS ρ oi.dst c v) G μ):Wo dr mc P n l K (j :: i :: σ) ρ G μ:=by
 have hnd:∀ {k:Kind},bI mc oj.op=k∨dr=false→bI mc oj.op=k:=fun h=>h.resolve_right (by simp [hdr])
 cases H with
 | @pure _ _ _ _ _ o cj vj ho hk hg hr h =>
  obtain rfl:oj=o:=Option.some.inj (hoj.symm.trans ho)
  refine .pure hoj hk (nD hap.ij hg) (fun hc a w ha=>lC hd hap.sj hap.ij (Φ:=fun s=>s.run P w=.ok (.value vj) w) (fun a ha=>hr hc a w ha) a ha) ?_
  exact again rfl (hds j _ hoj) (PM.le.refl G) (.inl rfl) rfl (h.congr hK (kJ hap.dd))
 | @read _ _ _ _ _ o cj vj ho hk hg hr h =>
  obtain rfl:oj=o:=Option.some.inj (hoj.symm.trans ho)
  refine .read hoj hk (nD hap.ij hg) (fun hc a w ha hs=>lC hd hap.sj hap.ij (Φ:=fun s=>s.run P w=.ok (.value vj) w) (fun a ha=>hr hc a w ha hs) a ha) ?_
  exact again rfl (hds j _ hoj) (PM.le.refl G) (.inl rfl) rfl (h.congr hK (kJ hap.dd))
 | @make _ _ _ _ _ o ob mkv ho hk hg hr h =>
  obtain rfl:oj=o:=Option.some.inj (hoj.symm.trans ho)
  refine .make hoj hk hg hr fun b=>?_
  exact again rfl (hds j _ hoj) (PM.le.refl G) (.inr (.inl ⟨by rw [hnd hk]; simp,fun w hs=>Sat.left (ν:=[.blk b ob]) (hs.perm (List.perm_append_comm (l₁:=[Res.blk b ob])))⟩)) rfl ((h b).congr hK (kJ hap.dd))
 | @box _ _ _ _ _ o ob mkv ho hk hg hr h =>
  obtain rfl:oj=o:=Option.some.inj (hoj.symm.trans ho)
  refine .box hoj hk (nD hap.ij hg) (fun a w ha=>lC hd hap.sj hap.ij (Φ:=fun s=>s.run P w=.ok (.value (mkv w.heap.size)) (w.alloc ob)) (fun a ha=>hr a w ha) a ha) fun b=>?_
  exact again rfl (hds j _ hoj) (PM.le.refl G) (.inr (.inl ⟨by rw [hnd hk]; simp,fun w hs=>Sat.left (ν:=[.blk b ob]) (hs.perm (List.perm_append_comm (l₁:=[Res.blk b ob])))⟩)) rfl ((h b).congr hK (kJ hap.dd))
 | @callv _ _ _ _ _ o cj f args vj Gp ho hk hg hr hf h =>
  obtain rfl:oj=o:=Option.some.inj (hoj.symm.trans ho)
  refine .callv hoj hk (nD hap.ij hg) (fun hc a w ha=>lC hd hap.sj hap.ij (Φ:=fun s=>s.run P w=.ok (.enter f args) w) (fun a ha=>hr hc a w ha) a ha) hf ?_
  exact again rfl (hds j _ hoj) (PM.le.refl G) (.inl rfl) rfl (h.congr hK (kJ hap.dd))
 | @call _ _ _ _ _ o f args post ho hk hg hr hf h =>
  obtain rfl:oj=o:=Option.some.inj (hoj.symm.trans ho)
  refine .call hoj hk (nD hap.ij hg) (fun a w ha=>lC hd hap.sj hap.ij (Φ:=fun s=>s.run P w=.ok (.enter f args) w) (fun a ha=>hr a w ha) a ha) hf fun v' G' μ' hle hp=>?_
  refine again rfl (hds j _ hoj) hle ?_ rfl ((h v' G' μ' hle hp).congr hK (kJ hap.dd))
  rcases hkj with hk' | hk'
  ·exact .inr (.inl ⟨hk',fun w hs=>Sat.left (hs.perm List.perm_append_comm)⟩)
  exact .inr (.inr hk')
 | callg hdf _ _ _ _ _=>exact absurd hdf (by simp [hdr])
 | callp hdf _ _ _ _ _ _ _=>exact absurd hdf (by simp [hdr])
 | pan hdf _ _ _ _=>exact absurd hdf (by simp [hdr])
 | @fresh _ _ _ _ _ o μ₁ μ₂ post ho hk hg hp hr hw h =>
  obtain rfl:oj=o:=Option.some.inj (hoj.symm.trans ho)
  refine .fresh hoj hk hg hp (fun a w ha hs=>lC hd hap.sj hap.ij (Φ:=fun s=>∃ v w' G' μa μb,s.run P w=.ok (.value v) w'∧Tr G (keys μ₁) w G' (μa++μb) w'∧post G' μa μb v) (fun a ha=>hr a w ha hs) a ha) hw fun v' G' μa μb hle hq=>?_
  refine again rfl (hds j _ hoj) hle ?_ rfl ((h v' G' μa μb hle hq).congr hK (kJ hap.dd))
  exact .inr (.inl ⟨by rw [hnd hk]; simp,fun w hs=>((hw v' G' μa μb hq).of (hs.perm (aJI μa μb μ₂).symm)).perm hp.symm⟩)
 | @act _ _ _ _ _ o μ₁ μ₂ post ho hk hg hp hr h =>
  obtain rfl:oj=o:=Option.some.inj (hoj.symm.trans ho)
  have hpure:bI mc oi.op=.pure:=hkj.resolve_left (by rw [hnd hk]; simp)
  refine .act hoj hk (nD hap.ij hg) hp (fun a w ha hs=>lC hd hap.sj hap.ij (Φ:=fun s=>(∃ v w' G' μ',(s.run P w=.ok (.value v) w'∨s.run P w=.ok .skip w'∧v=undef)∧Tr G (keys μ₁) w G' μ' w'∧post G' μ' v) ∨
    (∃ f args,s.run P w=.ok (.enter f args) w∧Ct P f args G μ₁ post)) (fun a ha=>hr a w ha hs) a ha) fun v' G' μ' hle hq=>?_
  exact again rfl (hds j _ hoj) hle (.inr (.inr hpure)) rfl ((h v' G' μ' hle hq).congr hK (kJ hap.dd))
theorem Sat.mono {G G':PM} {μ:aG} {w:World} (h:Sat G' μ w) (hle:PM.le G G'):Sat G μ w:=by
 refine ⟨fun b o hb=>h.sub b o (hle b o hb),h.own,fun b hb=>?_,h.nodup⟩
 cases hG:G b with
 | none=>rfl
 | some o=>have:=hle b o hG; rw [h.apart b hb] at this; cases this
theorem aNa {w:World} {x y:Obj} (h:w.alloc x=w.alloc y):x=y:=by
 have h1:=heap_alloc_new w x
 rw [h,heap_alloc_new w y] at h1
 exact (Option.some.inj h1).symm
def yA (m:Nat):World:={ (default:World) with heap:=Array.replicate m default }
theorem aT3 (m:Nat):(yA m).heap.size=m:=by simp [yA]
def sH (P:Program) (o:Oper):Prop:=True∧o.guard=none∧∃ (ob:Obj) (mkv:Nat→Value),∀ e w,(execOp e o).run P w=.ok (.value (mkv w.heap.size)) (w.alloc ob)
theorem xE {j:Nat} {σ:List Nat} {oj:Oper} {ρ:aJ} {G:PM} {μ:aG} (hdr:dr=true) (hoj:nth l j=some oj) (hm:bI mc oj.op=.make)
  {ob:Obj} {mkv:Nat→Value} (hr:∀ e w,(execOp e oj).run P w=.ok (.value (mkv w.heap.size)) (w.alloc ob)) (H:Wo dr mc P n l K (j :: σ) ρ G μ) :
  ∀ b,Wo dr mc P n l K σ (cS ρ oj.dst true (mkv b)) G (.blk b ob :: μ):=by
 have hnd:∀ {q k:Kind},q=k∨dr=false→q=k:=fun h=>h.resolve_right (by simp [hdr])
 cases H with
 | @make _ _ _ _ _ o ob2 mkv2 ho hk hg hr2 h =>
  obtain rfl:oj=o:=Option.some.inj (hoj.symm.trans ho)
  intro b
  have e1:ob2=ob:=by
   have:=(hr2 (fun _=>undef) (yA 0)).symm.trans (hr (fun _=>undef) (yA 0))
   simp only [Result.ok.injEq] at this
   exact aNa this.2
  have e2:mkv2 b=mkv b:=by
   have:=(hr2 (fun _=>undef) (yA b)).symm.trans (hr (fun _=>undef) (yA b))
   simp only [Result.ok.injEq,Next.value.injEq,aT3] at this
   exact this.1
  have:=h b
  rw [e1,e2] at this
  exact this
 | @pure _ _ _ _ _ o cj vj ho hk _ _ _=>obtain rfl:oj=o:=Option.some.inj (hoj.symm.trans ho); have:=hnd hk; rw [hm] at this; cases this
 | @read _ _ _ _ _ o cj vj ho hk _ _ _=>obtain rfl:oj=o:=Option.some.inj (hoj.symm.trans ho); have:=hnd hk; rw [hm] at this; cases this
 | @box _ _ _ _ _ o _ _ ho hk _ _ _=>obtain rfl:oj=o:=Option.some.inj (hoj.symm.trans ho); have:=hnd hk; rw [hm] at this; cases this
 | @callv _ _ _ _ _ o cj f args vj Gp ho hk _ _ _ _=>obtain rfl:oj=o:=Option.some.inj (hoj.symm.trans ho); rcases hk with hk | hk | hk<;>simp_all
 | @call _ _ _ _ _ o f args post ho hk _ _ _ _=>obtain rfl:oj=o:=Option.some.inj (hoj.symm.trans ho); rcases hk with hk | hk | hk<;>simp_all
 | callg hdf _ _ _ _ _=>exact absurd hdf (by simp [hdr])
 | callp hdf _ _ _ _ _ _ _=>exact absurd hdf (by simp [hdr])
 | pan hdf _ _ _ _=>exact absurd hdf (by simp [hdr])
 | @fresh _ _ _ _ _ o μ₁ μ₂ post ho hk _ _ _ _ _=>obtain rfl:oj=o:=Option.some.inj (hoj.symm.trans ho); have:=hnd hk; rw [hm] at this; cases this
 | @act _ _ _ _ _ o μ₁ μ₂ post ho hk _ _ _ _=>obtain rfl:oj=o:=Option.some.inj (hoj.symm.trans ho); have:=hnd hk; rw [hm] at this; cases this
theorem Wo.swap {i j:Nat} {σ:List Nat} {ρ:aJ} {G:PM} {μ:aG} {oi oj:Oper} (hK:jL K) (hdr:dr=true) (hoi:nth l i=some oi) (hoj:nth l j=some oj) (hap:Apart l oi oj)
  (hds:∀ j o,nth l j=some o→iH n o.dst) (hmk:bI mc oj.op=.make→sH P oj)
  (hk:bI mc oi.op=.pure∨(bI mc oi.op=.read∧bI mc oj.op≠.act)∨bI mc oj.op=.make)
  (H:Wo dr mc P n l K (i :: j :: σ) ρ G μ):Wo dr mc P n l K (j :: i :: σ) ρ G μ:=by
 have hnd:∀ {q k:Kind},q=k∨dr=false→q=k:=fun h=>h.resolve_right (by simp [hdr])
 have hd:=hds i oi hoi
 have hdj0:=hds j oj hoj
 cases H with
 | @pure _ _ _ _ _ o c v ho hk' hg hr h =>
  obtain rfl:oi=o:=Option.some.inj (hoi.symm.trans ho)
  refine aKE hK hds hoj hap hd ?_ hdr (.inr (hnd hk')) h
  intro ρ' G' μ' d c' v' hdd hdo hle hμ hρ H'
  subst hdd; subst hρ
  exact .pure hoi hk' (uP hap.ji hg) (fun hc a w ha=>tD hdo hap.si hap.ji (Φ:=fun s=>s.run P w=.ok (.value v) w) (fun a ha=>hr hc a w ha) a ha) H'
 | @read _ _ _ _ _ o c v ho hk' hg hr h =>
  obtain rfl:oi=o:=Option.some.inj (hoi.symm.trans ho)
  have hri:=hnd hk'
  have hja:bI mc oj.op≠.act:=by
   rcases hk with hk | hk | hk
   ·rw [hri] at hk; cases hk
   ·exact hk.2
   rw [hk]; simp
  refine aKE hK hds hoj hap hd ?_ hdr (.inl hja) h
  intro ρ' G' μ' d c' v' hdd hdo hle hμ hρ H'
  subst hdd; subst hρ
  refine .read hoi hk' (uP hap.ji hg) (fun hc a w ha hs=>tD hdo hap.si hap.ji (Φ:=fun s=>s.run P w=.ok (.value v) w) (fun a ha=>hr hc a w ha ?_) a ha) H'
  rcases hμ with hμ | ⟨_,hμ⟩ | hμ
  ·subst hμ; exact hs.mono hle
  ·exact (hμ w hs).mono hle
  rw [hri] at hμ; cases hμ
 | @make _ _ _ _ _ o ob mkv ho hk' hg hr h =>
  obtain rfl:oi=o:=Option.some.inj (hoi.symm.trans ho)
  have hmi:=hnd hk'
  have hmj:bI mc oj.op=.make:=by rcases hk with hk | hk | hk<;>simp_all
  obtain ⟨_,hgj,ob',mkv',hrj⟩:=hmk hmj
  refine .make hoj (.inl hmj) hgj hrj fun b'=>?_
  refine .make hoi hk' hg hr fun b=>?_
  exact (((xE hdr hoj hmj hrj (h b)) b').congr hK (kJ hap.dd)).perm hK (.swap ..)
 | @box _ _ _ _ _ o ob mkv ho hk' hg hr h =>
  obtain rfl:oi=o:=Option.some.inj (hoi.symm.trans ho)
  have hmi:=hnd hk'
  have hmj:bI mc oj.op=.make:=by rcases hk with hk | hk | hk<;>simp_all
  obtain ⟨_,hgj,ob',mkv',hrj⟩:=hmk hmj
  refine .make hoj (.inl hmj) hgj hrj fun b'=>?_
  refine .box hoi hk' (uP hap.ji hg) (fun a w ha=>tD hdj0 hap.si hap.ji (Φ:=fun s=>s.run P w=.ok (.value (mkv w.heap.size)) (w.alloc ob)) (fun a ha=>hr a w ha) a ha) fun b=>?_
  exact (((xE hdr hoj hmj hrj (h b)) b').congr hK (kJ hap.dd)).perm hK (.swap ..)
 | @callv _ _ _ _ _ o c f args v Gp ho hk' hg hr hf h =>
  obtain rfl:oi=o:=Option.some.inj (hoi.symm.trans ho)
  have hmj:bI mc oj.op=.make:=by rcases hk' with hk' | hk' | hk'<;>rcases hk with hk | hk | hk<;>simp_all
  obtain ⟨_,hgj,ob',mkv',hrj⟩:=hmk hmj
  refine .make hoj (.inl hmj) hgj hrj fun b'=>?_
  exact .callv hoi hk' (uP hap.ji hg) (fun hc a w ha=>tD hdj0 hap.si hap.ji (Φ:=fun s=>s.run P w=.ok (.enter f args) w) (fun a ha=>hr hc a w ha) a ha) (fun hc w hs=>hf hc w (Sat.left (ν:=[.blk b' ob']) (hs.perm (List.perm_append_comm (l₁:=[Res.blk b' ob'])))))
   (((xE hdr hoj hmj hrj h) b').congr hK (kJ hap.dd))
 | @call _ _ _ _ _ o f args post ho hk' hg hr hf h =>
  obtain rfl:oi=o:=Option.some.inj (hoi.symm.trans ho)
  have hmj:bI mc oj.op=.make:=by rcases hk' with hk' | hk' | hk'<;>rcases hk with hk | hk | hk<;>simp_all
  obtain ⟨_,hgj,ob',mkv',hrj⟩:=hmk hmj
  refine .make hoj (.inl hmj) hgj hrj fun b'=>?_
  refine .call hoi hk' (uP hap.ji hg) (fun a w ha=>tD hdj0 hap.si hap.ji (Φ:=fun s=>s.run P w=.ok (.enter f args) w) (fun a ha=>hr a w ha) a ha) hf fun v G' μ' hle hp=>?_
  exact (((xE hdr hoj hmj hrj (h v G' μ' hle hp)) b').congr hK (kJ hap.dd)).perm hK List.perm_middle.symm
 | callg hdf _ _ _ _ _=>exact absurd hdf (by simp [hdr])
 | callp hdf _ _ _ _ _ _ _=>exact absurd hdf (by simp [hdr])
 | pan hdf _ _ _ _=>exact absurd hdf (by simp [hdr])
 | @fresh _ _ _ _ _ o μ₁ μ₂ post ho hk' hg hp hr hw h =>
  obtain rfl:oi=o:=Option.some.inj (hoi.symm.trans ho)
  have hai:=hnd hk'
  have hmj:bI mc oj.op=.make:=by rcases hk with hk | hk | hk<;>simp_all
  obtain ⟨_,hgj,ob',mkv',hrj⟩:=hmk hmj
  refine .make hoj (.inl hmj) hgj hrj fun b'=>?_
  refine .fresh (post:=post) (μ₁:=μ₁) (μ₂:=.blk b' ob' :: μ₂) hoi hk' hg ((hp.cons _).trans List.perm_middle.symm) (fun a w ha hs=>?_) hw fun v G' μa μb hle hq=>?_
  ·refine tD hdj0 hap.si hap.ji (Φ:=fun s=>∃ v w' G' μa μb,s.run P w=.ok (.value v) w'∧Tr G (keys μ₁) w G' (μa++μb) w'∧post G' μa μb v) (fun a ha=>hr a w ha ?_) a ha
   exact Sat.left (ν:=[.blk b' ob']) (hs.perm (List.perm_middle.trans (List.perm_append_comm (l₁:=[Res.blk b' ob']))))
  exact (((xE hdr hoj hmj hrj (h v G' μa μb hle hq)) b').congr hK (kJ hap.dd)).perm hK List.perm_middle.symm
 | @act _ _ _ _ _ o μ₁ μ₂ post ho hk' hg hp hr h =>
  obtain rfl:oi=o:=Option.some.inj (hoi.symm.trans ho)
  have hai:=hnd hk'
  have hmj:bI mc oj.op=.make:=by rcases hk with hk | hk | hk<;>simp_all
  obtain ⟨_,hgj,ob',mkv',hrj⟩:=hmk hmj
  refine .make hoj (.inl hmj) hgj hrj fun b'=>?_
  refine .act (post:=post) (μ₁:=μ₁) (μ₂:=.blk b' ob' :: μ₂) hoi hk' (uP hap.ji hg) ((hp.cons _).trans List.perm_middle.symm) (fun a w ha hs=>?_) fun v G' μ' hle hq=>?_
  ·refine tD hdj0 hap.si hap.ji (Φ:=fun s=>(∃ v w' G' μ',(s.run P w=.ok (.value v) w'∨s.run P w=.ok .skip w'∧v=undef)∧Tr G (keys μ₁) w G' μ' w'∧post G' μ' v) ∨
    (∃ f args,s.run P w=.ok (.enter f args) w∧Ct P f args G μ₁ post)) (fun a ha=>hr a w ha ?_) a ha
   exact Sat.left (ν:=[.blk b' ob']) (hs.perm (List.perm_middle.trans (List.perm_append_comm (l₁:=[Res.blk b' ob']))))
  exact (((xE hdr hoj hmj hrj (h v G' μ' hle hq)) b').congr hK (kJ hap.dd)).perm hK List.perm_middle.symm
theorem Wo.map {i:Nat} {σ σ':List Nat} {ρ:aJ} {G:PM} {μ:aG} (hm:∀ ρ G μ,Wo dr mc P n l K σ ρ G μ→Wo dr mc P n l K σ' ρ G μ) (H:Wo dr mc P n l K (i :: σ) ρ G μ) :
  Wo dr mc P n l K (i :: σ') ρ G μ:=by
 cases H with
 | pure ho hk hg hr h=>exact .pure ho hk hg hr (hm _ _ _ h)
 | read ho hk hg hr h=>exact .read ho hk hg hr (hm _ _ _ h)
 | make ho hk hg hr h=>exact .make ho hk hg hr fun b=>hm _ _ _ (h b)
 | box ho hk hg hr h=>exact .box ho hk hg hr fun b=>hm _ _ _ (h b)
 | callv ho hk hg hr hf h=>exact .callv ho hk hg hr hf (hm _ _ _ h)
 | call ho hk hg hr hf h=>exact .call ho hk hg hr hf fun v G' μ' a b=>hm _ _ _ (h v G' μ' a b)
 | callg hd ho hg hr hf h=>exact .callg hd ho hg hr hf fun v G' μ' a b=>hm _ _ _ (h v G' μ' a b)
 | callp hd ho hg hp hr hf hx h=>exact .callp hd ho hg hp hr hf hx fun v G' μ' a b=>hm _ _ _ (h v G' μ' a b)
 | pan hd ho hg hr hx=>exact .pan hd ho hg hr hx
 | fresh ho hk hg hp hr hw h=>exact .fresh ho hk hg hp hr hw fun v G' μa μb a b=>hm _ _ _ (h v G' μa μb a b)
 | act ho hk hg hp hr h=>exact .act ho hk hg hp hr fun v G' μ' a b=>hm _ _ _ (h v G' μ' a b)
theorem aBi {es:Array Edge} {p:Edge→Bool}:es.any p=true↔∃ e,e∈es∧p e=true:=by
 rw [← Array.any_toList,List.any_eq_true]; simp
def qR (oj:Oper) (i:Nat):Bool:=oj.after.any fun e=>Region.binds .any e&&e.on == i
def cG (l:List Oper) (listed:Array Bool):List Nat:=Region.ready .any l.toArray listed
def pC (l:List Oper):Nat→Nat→Nat→Bool
 | 0,_,_=>false
 | f+1,j,i=>match nth l j with | some oj=>oj.after.any fun e=>Region.binds .any e&&(e.on == i||pC l f e.on i) | none=>false
def aEi (mc:Md) (l:List Oper) (i:Nat) (oi:Oper) (σ:List Nat) (listed:Array Bool):Bool :=
 match bI mc oi.op with
 | .pure=>σ.all fun j=>match nth l j with | some oj=>pC l l.length j i||oi.apart l.toArray oj | none=>false
 | .read=>σ.all fun j=>match nth l j with | some oj=>pC l l.length j i||(oi.apart l.toArray oj&&(bI mc oj.op != .act)) | none=>false
 | _=>(cG l listed).all fun j=>j == i||match nth l j with
   | some oj=>(bI mc oj.op == .make)&&oi.apart l.toArray oj&&(List.range l.length).all fun k=>match nth l k with | some ok => !qR ok j||qR ok i | none=>true
   | none=>false
def nM (mc:Md) (l:List Oper):List Nat→Array Bool→Bool
 | [],listed=>(cG l listed).isEmpty
 | i :: σ,listed=>(cG l listed).contains i&&(match nth l i with | some oi=>aEi mc l i oi σ listed | none=>false)&&nM mc l σ (listed.setIfInBounds i true)
theorem iK {j:Nat} {listed:Array Bool}:j∈cG l listed↔listed.getD j true=false∧∃ o,nth l j=some o∧∀ e∈o.after,Region.binds .any e=true→listed.getD e.on false=true:=by
 unfold cG; rw [mem_ready]; simp only [iT]
theorem tM {i j:Nat} {listed:Array Bool} (hj:j∈cG l listed) (hne:j≠i):j∈cG l (listed.setIfInBounds i true):=ready_mono hj hne
theorem aI6:∀ {σ:List Nat} {listed:Array Bool} {j:Nat},nM mc l σ listed=true→j∈cG l listed→j∈σ
 | [],listed,j,h,hj=>by simp only [nM,List.isEmpty_iff] at h; rw [h] at hj; cases hj
 | i :: σ,listed,j,h,hj=>by
  simp only [nM,Bool.and_eq_true] at h
  by_cases e:j=i
  ·subst e; exact List.mem_cons_self ..
  ·exact List.mem_cons_of_mem _ (aI6 h.2 (tM hj e))
theorem aTC {i j k:Nat} {listed:Array Bool} {oj:Oper} (hi:listed.getD i true=false) (hne:j≠i)
  (hdep:((List.range l.length).all fun k=>match nth l k with | some ok => !qR ok j||qR ok i | none=>true)=true)
  (hk:k∈cG l (listed.setIfInBounds j true)) (_:nth l j=some oj):k∈cG l listed:=by
 obtain ⟨hun,o,ho,hall⟩:=iK.1 hk
 have hkj:j≠k:=fun e=>by
  subst e
  rcases Nat.lt_or_ge j listed.size with h' | h'
  ·simp [h'] at hun
  simp [h'] at hun
 rw [getD_set_ne true hkj] at hun
 refine iK.2 ⟨hun,o,ho,fun e he hb=>?_⟩
 have h1:=hall e he hb
 by_cases ej:j=e.on
 ·exfalso
  have hlt:k<l.length:=by
   have:=(iT l k).trans ho
   exact (by simpa using (Array.getElem?_eq_some_iff.1 this).1)
  have:=List.all_eq_true.1 hdep k (List.mem_range.2 hlt)
  simp only [ho,Bool.or_eq_true,Bool.not_eq_true'] at this
  rcases this with h2 | h2
  ·have h3:qR o j=true:=aBi.2 ⟨e,he,by simp [hb,ej]⟩
   rw [h3] at h2; cases h2
  obtain ⟨e',he',hb'⟩:=aBi.1 h2
  simp only [Bool.and_eq_true,beq_iff_eq] at hb'
  have h4:=hall e' he' hb'.1
  rw [hb'.2,getD_set_ne false hne] at h4
  rcases Nat.lt_or_ge i listed.size with h' | h'
  ·simp [h'] at hi h4; rw [hi] at h4; cases h4
  simp [Array.getElem?_eq_none h'] at h4
 rw [getD_set_ne false ej] at h1; exact h1
def Closed (l:List Oper) (listed:Array Bool):Prop:=∀ k,listed.getD k false=true→∀ ok,nth l k=some ok→∀ e∈ok.after,Region.binds .any e=true→listed.getD e.on false=true
theorem unl {listed:Array Bool} {i:Nat} (hi:listed.getD i true=false):listed.getD i false=false:=by
 rcases Nat.lt_or_ge i listed.size with h' | h'
 ·simp [h'] at hi ⊢; exact hi
 ·simp [Array.getElem?_eq_none h']
theorem aHQ {listed:Array Bool} {i:Nat} (hc:Closed l listed) (hi:listed.getD i true=false):∀ (f k:Nat),listed.getD k false=true→pC l f k i=false
 | 0,_,_=>rfl
 | f+1,k,hk=>by
  unfold pC
  cases ho:nth l k with
  | none=>rfl
  | some ok =>
   simp only
   rw [Bool.eq_false_iff]
   intro h
   obtain ⟨e,he,hb⟩:=aBi.1 h
   simp only [Bool.and_eq_true,Bool.or_eq_true,beq_iff_eq] at hb
   have h1:=hc k hk ok ho e he hb.1
   rcases hb.2 with h2 | h2
   ·rw [h2,unl hi] at h1; cases h1
   ·rw [aHQ hc hi f e.on h1] at h2; cases h2
theorem aAa {listed:Array Bool} {i j:Nat} (hc:Closed l listed) (hi:listed.getD i true=false) (hj:j∈cG l listed):∀ f,pC l f j i=false
 | 0=>rfl
 | f+1=>by
  obtain ⟨_,o,ho,hall⟩:=iK.1 hj
  unfold pC
  rw [ho]
  simp only
  rw [Bool.eq_false_iff]
  intro h
  obtain ⟨e,he,hb⟩:=aBi.1 h
  simp only [Bool.and_eq_true,Bool.or_eq_true,beq_iff_eq] at hb
  have h1:=hall e he hb.1
  rcases hb.2 with h2 | h2
  ·rw [h2,unl hi] at h1; cases h1
  ·rw [aHQ hc hi f e.on h1] at h2; cases h2
theorem aJ3 {listed:Array Bool} {j x:Nat} (h:listed.getD x false=true):(listed.setIfInBounds j true).getD x false=true:=by
 by_cases e:j=x
 ·subst e
  rcases Nat.lt_or_ge j listed.size with h' | h'
  ·simp [h']
  ·simp [Array.getElem?_eq_none h'] at h
 ·rw [getD_set_ne false e]; exact h
theorem Closed.set {listed:Array Bool} {j:Nat} (hc:Closed l listed) (hj:j∈cG l listed):Closed l (listed.setIfInBounds j true):=by
 intro k hk ok hok e he hb
 by_cases ej:j=k
 ·subst ej
  obtain ⟨_,o,ho,hall⟩:=iK.1 hj
  obtain rfl:ok=o:=Option.some.inj (hok.symm.trans ho)
  exact aJ3 (hall e he hb)
 ·rw [getD_set_ne false ej] at hk
  exact aJ3 (hc k hk ok hok e he hb)
theorem Closed.none (m:Nat):Closed l (Array.replicate m false):=by
 intro k hk
 rcases Nat.lt_or_ge k m with h' | h'
 ·simp [h'] at hk
 ·simp [h'] at hk
theorem front (hK:jL K) (hdr:dr=true) (hs:Region.noSelect l.toArray=true) (hmk:∀ j oj,nth l j=some oj→bI mc oj.op=.make→sH P oj) (hds:∀ j oj,nth l j=some oj→iH n oj.dst) {j:Nat} {post:List Nat} :
  ∀ (pre:List Nat) (listed:Array Bool),Closed l listed→j∉pre→nM mc l (pre++j :: post) listed=true→j∈cG l listed →
   nM mc l (pre++post) (listed.setIfInBounds j true)=true∧∀ ρ G μ,Wo dr mc P n l K (pre++j :: post) ρ G μ→Wo dr mc P n l K (j :: (pre++post)) ρ G μ
 | [],listed,_,_,hok,_=>by
  simp only [List.nil_append,nM,Bool.and_eq_true] at hok ⊢
  exact ⟨hok.2,fun _ _ _ h=>h⟩
 | i :: pre,listed,hcl,hnp,hok,hj=>by
  have hne:j≠i:=fun e=>hnp (by rw [e]; exact List.mem_cons_self ..)
  simp only [List.cons_append,nM,Bool.and_eq_true] at hok ⊢
  obtain ⟨⟨hri,hh⟩,hrest⟩:=hok
  have hri':i∈cG l listed:=by simpa using hri
  have hj':=tM hj hne
  obtain ⟨ih1,ih2⟩:=front hK hdr hs hmk hds pre (listed.setIfInBounds i true) (hcl.set hri') (fun h=>hnp (List.mem_cons_of_mem _ h)) hrest hj'
  obtain ⟨_,oj,hoj,_⟩:=iK.1 hj
  obtain ⟨hiun,oi,hoi,_⟩:=iK.1 hri'
  simp only [hoi] at hh ⊢
  have hnoe:=aAa hcl hiun hj l.length
  have hjm:j∈pre++j :: post:=List.mem_append_right _ (List.mem_cons_self ..)
  have sub:∀ x,x∈pre++post→x∈pre++j :: post:=fun x hx=>by
   rcases List.mem_append.1 hx with h | h
   ·exact List.mem_append_left _ h
   exact List.mem_append_right _ (List.mem_cons_of_mem _ h)
  have key:(Apart l oi oj∧(bI mc oi.op=.pure∨(bI mc oi.op=.read∧bI mc oj.op≠.act)∨bI mc oj.op=.make)) ∧
    aEi mc l i oi (pre++post) (listed.setIfInBounds j true)=true:=by
   have last:((cG l listed).all fun j=>j == i||match nth l j with
     | some oj=>(bI mc oj.op == .make)&&oi.apart l.toArray oj&&(List.range l.length).all fun k=>match nth l k with | some ok => !qR ok j||qR ok i | none=>true
     | none=>false)=true →
     (Apart l oi oj∧bI mc oj.op=.make)∧((cG l (listed.setIfInBounds j true)).all fun j=>j == i||match nth l j with
     | some oj=>(bI mc oj.op == .make)&&oi.apart l.toArray oj&&(List.range l.length).all fun k=>match nth l k with | some ok => !qR ok j||qR ok i | none=>true
     | none=>false)=true:=by
    intro hh
    have h1:=List.all_eq_true.1 hh j hj
    simp only [hoj,Bool.or_eq_true,beq_iff_eq,hne,false_or,Bool.and_eq_true] at h1
    refine ⟨⟨wR hs hoi hoj h1.1.2,h1.1.1⟩,List.all_eq_true.2 fun k hk=>?_⟩
    exact List.all_eq_true.1 hh k (aTC hiun hne h1.2 hk hoj)
   unfold aEi at hh ⊢
   cases hki:bI mc oi.op with
   | pure =>
    simp only [hki] at hh ⊢
    have h1:=List.all_eq_true.1 hh j hjm
    simp only [hoj,hnoe,Bool.false_or] at h1
    exact ⟨⟨wR hs hoi hoj h1,.inl trivial⟩,List.all_eq_true.2 fun x hx=>List.all_eq_true.1 hh x (sub x hx)⟩
   | read =>
    simp only [hki] at hh ⊢
    have h1:=List.all_eq_true.1 hh j hjm
    simp only [hoj,hnoe,Bool.false_or,Bool.and_eq_true,bne_iff_ne] at h1
    exact ⟨⟨wR hs hoi hoj h1.1,.inr (.inl ⟨trivial,h1.2⟩)⟩,List.all_eq_true.2 fun x hx=>List.all_eq_true.1 hh x (sub x hx)⟩
   | call=>simp only [hki] at hh ⊢; obtain ⟨⟨a,b⟩,c⟩:=last hh; exact ⟨⟨a,.inr (.inr b)⟩,c⟩
   | make=>simp only [hki] at hh ⊢; obtain ⟨⟨a,b⟩,c⟩:=last hh; exact ⟨⟨a,.inr (.inr b)⟩,c⟩
   | act=>simp only [hki] at hh ⊢; obtain ⟨⟨a,b⟩,c⟩:=last hh; exact ⟨⟨a,.inr (.inr b)⟩,c⟩
  refine ⟨⟨⟨by simpa using tM hri' (Ne.symm hne),key.2⟩,by rw [Array.setIfInBounds_comm _ _ hne]; exact ih1⟩,fun ρ G μ H=>?_⟩
  exact Wo.swap hK hdr hoi hoj key.1.1 hds (hmk j oj hoj) key.1.2 (H.map ih2)
theorem aHu {j:Nat}:∀ {σ:List Nat},j∈σ→∃ pre post,σ=pre++j :: post∧j∉pre
 | i :: σ,h=>by
  by_cases e:j=i
  ·exact ⟨[],σ,by rw [e]; rfl,by simp⟩
  ·obtain ⟨pre,post,h1,h2⟩:=aHu ((List.mem_cons.1 h).resolve_left e)
   exact ⟨i :: pre,post,by rw [h1]; rfl,by simp [e,h2]⟩
theorem Wo.any {Q:Exit→Act→World→Prop} {G0:PM} {K0:List Nat} {w0:World} (hK:jL K) (hdr:dr=true) (hs:Region.noSelect l.toArray=true)
  (hmk:∀ j oj,nth l j=some oj→bI mc oj.op=.make→sH P oj) (hds:∀ j oj,nth l j=some oj→iH n oj.dst)
  (hQ:∀ ρ G μ,K ρ G μ→∀ a w,Ag n ρ a→Tr G0 K0 w0 G μ w→Q .normal a w) :
  ∀ (m:Nat) (σ:List Nat) (listed:Array Bool) (ρ:aJ) (G:PM) (μ:aG) (a:Act) (w:World),σ.length=m→Closed l listed→nM mc l σ listed=true→Wo dr mc P n l K σ ρ G μ→Ag n ρ a→Tr G0 K0 w0 G μ w →
   wpAny P .any l.toArray Q m listed a w
 | 0,σ,listed,ρ,G,μ,a,w,hlen,_,hok,H,ha,ht=>by
  obtain rfl:σ=[]:=List.eq_nil_of_length_eq_zero hlen
  simp only [nM,List.isEmpty_iff] at hok
  cases H with | nil h=>exact ⟨hok,hQ _ _ _ h a w ha ht⟩
 | m+1,σ,listed,ρ,G,μ,a,w,hlen,hcl,hok,H,ha,ht=>by
  refine ⟨fun h0=>?_,fun j hj=>?_⟩
  ·cases σ with
   | nil=>simp at hlen
   | cons i σ =>
    simp only [nM,Bool.and_eq_true] at hok
    have:i∈cG l listed:=by simpa using hok.1.1
    unfold cG at this
    rw [h0] at this; cases this
  have hj':j∈cG l listed:=hj
  obtain ⟨pre,post,hσ,hnp⟩:=aHu (aI6 hok hj')
  subst hσ
  obtain ⟨h1,h2⟩:=front hK hdr hs hmk hds pre listed hcl hnp hok hj'
  obtain ⟨o,ho,h⟩:=(h2 ρ G μ H).head ha ht (next:=wpAny P .any l.toArray Q m (listed.setIfInBounds j true)) (Q:=Q) hds (fun hdr'=>by first|(rw [hdr] at hdr'; cases hdr') | cases hdr')
   (fun ρ' G' μ' a' w' H' ha' ht'=>Wo.any hK hdr hs hmk hds hQ m (pre++post) _ ρ' G' μ' a' w' (by simp at hlen ⊢; omega) (hcl.set hj') h1 H' ha' ht')
  simp only [wpOp,iT,ho]
  split
  ·rename_i hw; rw [if_pos hw] at h; exact .inl h
  rename_i hw; rw [if_neg hw] at h; exact h
end
def RR (post:PM→aG→Value→Prop) (die:List PanicEntry→Prop) (G0:PM) (K0:List Nat) (w0:World):Ending→World→Prop :=
 fun e w'=>(∃ v G' μ',e=.returned v∧Tr G0 K0 w0 G' μ' w'∧post G' μ' v)∨(∃ ch G',e=.panicked ch∧Tr G0 K0 w0 G' [] w'∧die ch)
structure Cx where
 P:Program
 fn:Func
 n:Fm
 G0:PM
 K0:List Nat
 w0:World
 post:PM→aG→Value→Prop
 die:List PanicEntry→Prop
 ok:∀ ch ρ G μ a w,n.die ch ρ G μ→Ag n ρ a→Tr G0 K0 w0 G μ w→Leaves P fn a.tmps (RR post die G0 K0 w0) a.defers (.panicking ch) w
def Cx.R (X:Cx):Ending→World→Prop:=RR X.post X.die X.G0 X.K0 X.w0
inductive KI where
 | code (c:Code)
 | blk (id:Nat)
 | lp (I:Act→World→Prop)
def fO (X:Cx):List KI→Exit→Act→World→Prop
 | []=>bodyPostD X.P X.fn X.R
 | .code c :: k=>Exit.then (c.wp X.P (fO X k)) (fO X k)
 | .blk id :: k=>Exit.inBlock id (fO X k)
 | .lp I :: k=>Exit.then I (fO X k)
structure Wk (X:Cx) (c:Code) (k:List KI) (ρ:aJ) (G:PM) (μ:aG):Prop where
 out:∀ a w,Ag X.n ρ a→Tr X.G0 X.K0 X.w0 G μ w→c.wp X.P (fO X k) a w
structure We (X:Cx) (e:Exit) (k:List KI) (ρ:aJ) (G:PM) (μ:aG):Prop where
 out:∀ a w,Ag X.n ρ a→Tr X.G0 X.K0 X.w0 G μ w→fO X k e a w
section
variable {X:Cx} {k:List KI} {ρ:aJ} {G:PM} {μ:aG} {x y c:Code}
theorem Wk.seq (h:Wk X x (.code y :: k) ρ G μ):Wk X (.seq x y) k ρ G μ:=⟨fun a w ha ht=>wp_seq (h.out a w ha ht)⟩
theorem Wk.block {id:Nat} (h:Wk X c (.blk id :: k) ρ G μ):Wk X (.block id c) k ρ G μ:=⟨fun a w ha ht=>wp_block (h.out a w ha ht)⟩
theorem Wk.skip (h:We X .normal k ρ G μ):Wk X .skip k ρ G μ:=⟨fun a w ha ht=>wp_skip (h.out a w ha ht)⟩
theorem Wk.exit {id:Nat} (h:We X (.exit id) k ρ G μ):Wk X (.exit id) k ρ G μ:=⟨fun a w ha ht=>wp_exit (h.out a w ha ht)⟩
theorem Wk.ret (h:We X .ret [] ρ G μ):Wk X .ret k ρ G μ:=by
 refine ⟨fun a w ha ht=>wp_ret ?_⟩
 have:=h.out a w ha ht
 induction k with
 | nil=>exact this
 | cons i k ih=>cases i<;>exact ih
theorem Wk.cond {cd:Operand} {b:Bool} (hc:ev ρ cd=some (true,.bool b)) (ht:b=true→Wk X x k ρ G μ) (hf:b=false→Wk X y k ρ G μ):Wk X (.cond cd x y) k ρ G μ :=
 ⟨fun a w ha hw=>wp_cond_split (ha.eval hc rfl) (fun h=>(ht h).out a w ha hw) (fun h=>(hf h).out a w ha hw)⟩
theorem We.code (h:Wk X c k ρ G μ):We X .normal (.code c :: k) ρ G μ:=⟨h.out⟩
theorem We.blk {id:Nat} (h:We X .normal k ρ G μ):We X .normal (.blk id :: k) ρ G μ:=⟨h.out⟩
theorem We.xcode {id:Nat} (h:We X (.exit id) k ρ G μ):We X (.exit id) (.code c :: k) ρ G μ:=⟨h.out⟩
theorem We.xlp {id:Nat} {I:Act→World→Prop} (h:We X (.exit id) k ρ G μ):We X (.exit id) (.lp I :: k) ρ G μ:=⟨h.out⟩
theorem We.xblk {id:Nat} (h:We X .normal k ρ G μ):We X (.exit id) (.blk id :: k) ρ G μ :=
 ⟨fun a w ha ht=>by have:=h.out a w ha ht; simp only [fO,Exit.inBlock,if_true]; exact this⟩
theorem We.xnot {id id':Nat} (hne:Nat.beq id id'=false) (h:We X (.exit id) k ρ G μ):We X (.exit id) (.blk id' :: k) ρ G μ :=
 ⟨fun a w ha ht=>by
  have:=h.out a w ha ht
  simp only [fO,Exit.inBlock]
  rw [if_neg (fun e=>by subst e; simp at hne)]
  exact this⟩
theorem aDj (e:Exit):jL (fun ρ G μ=>We X e k ρ G μ) :=
 ⟨fun _ _ _ _ he h=>⟨fun a w ha ht=>h.out a w (ha.congr he) ht⟩,fun _ _ _ _ p h=>⟨fun a w ha ht=>h.out a w ha (ht.perm p.symm)⟩⟩
def iG (n:Fm):List Oper→Bool
 | []=>true
 | o :: l=>(match o.dst with | some d=>Nat.blt d n.n | none=>true)&&iG n l
theorem aD4 {n:Fm} {l:List Oper} (h:iG n l=true):∀ j o,nth l j=some o→iH n o.dst:=by
 induction l with
 | nil=>intro j o ho; cases ho
 | cons o' l ih =>
  simp only [iG,Bool.and_eq_true] at h
  intro j o ho
  cases j with
  | zero =>
   simp only [nth,Option.some.injEq] at ho
   subst ho
   cases hd:o'.dst with
   | none=>trivial
   | some d=>rw [hd] at h; show d<n.n; simpa [Nat.blt_eq] using h.1
  | succ j=>exact ih h.2 j o ho
theorem uK (X:Cx):∀ (k:List KI) (ch:List PanicEntry) (ρ:aJ) (G:PM) (μ:aG) (a:Act) (w:World),X.n.die ch ρ G μ→Ag X.n ρ a→Tr X.G0 X.K0 X.w0 G μ w→fO X k (.panic ch) a w
 | [],ch,ρ,G,μ,a,w,h,ha,ht=>X.ok ch ρ G μ a w h ha ht
 | .code _ :: k,ch,ρ,G,μ,a,w,h,ha,ht=>uK X k ch ρ G μ a w h ha ht
 | .blk _ :: k,ch,ρ,G,μ,a,w,h,ha,ht=>uK X k ch ρ G μ a w h ha ht
 | .lp _ :: k,ch,ρ,G,μ,a,w,h,ha,ht=>uK X k ch ρ G μ a w h ha ht
theorem Wk.region {id:Nat} {l:List Oper} (hds:iG X.n l=true) (h:Wo false ⟨false,false⟩ X.P X.n l (fun ρ G μ=>We X .normal k ρ G μ) (List.range l.length) ρ G μ):Wk X (.region id l.toArray false) k ρ G μ :=
 ⟨fun a w ha ht=>wp_region (by simpa using Wo.run (Q:=fO X k) (aD4 hds) (fun _=>uK X k) (fun _ _ _ h a w ha ht=>h.out a w ha ht) _ _ _ _ a w h ha ht)⟩
theorem aJs {P:Program} {T:TypeId} {z:Value} (h:(P.info? T).bind (·.zero)=some z) (e:Operand→Value) (d:Option Nat) (t:TypeId) (p:String) (af:Array Edge) (g:Option (Nat×Bool)) (w:World) :
  (execOp e ⟨d,.alloc T,t,p,af,g⟩).run P w=.ok (.value (.pointer (some ⟨w.heap.size,0,none⟩))) (w.alloc (.cells z.cells T)):=by
 cases hi:P.info? T with
 | none=>rw [hi] at h; cases h
 | some i =>
  rw [hi] at h
  simp only [Option.bind_some] at h
  simp [execOp,Instr.alloc,zeroValue,typeInfo,hi,h,newVar,newRow]
def aGq (P:Program) (l:List Oper):Bool:=l.all fun o=>match o.op with | .alloc T=>((P.info? T).bind (·.zero)).isSome&&o.guard.isNone | _=>true
def aHT (mc:Md) (P:Program) (n:Nat) (l:List Oper) (σ:List Nat):Bool :=
 Region.noSelect l.toArray&&(l.all fun o=>match o.dst with | some d=>decide (d<n) | none=>true)&&aGq P l&&(σ.length == l.length)&&nM mc l σ (Array.replicate l.length false)
theorem xM {l:List Oper} {j:Nat} {o:Oper} (h:nth l j=some o):o∈l:=by
 rw [← iT] at h; simpa using Array.mem_of_getElem? h
theorem aEZ {mc:Md} {P:Program} {o:Oper} (hk:bI mc o.op=.make) (hz:(match o.op with | .alloc T=>((P.info? T).bind (·.zero)).isSome&&o.guard.isNone | _=>true)=true):sH P o:=by
 obtain ⟨d,op,t,p,af,g⟩:=o
 cases op<;>first|(simp [bI] at hk; done)|skip
 case alloc T =>
  simp only [Bool.and_eq_true,Option.isNone_iff_eq_none] at hz
  cases hz1:(P.info? T).bind (·.zero) with
  | none=>rw [hz1] at hz; simp at hz
  | some z=>exact ⟨trivial,hz.2,.cells z.cells T,fun b=>.pointer (some ⟨b,0,none⟩),fun e w=>aJs hz1 e d t p af g w⟩
 case call c =>
  obtain ⟨cal,args,tys⟩:=c
  cases cal<;>simp only [bI] at hk
  case builtin b=>cases b<;>first|(simp at hk; done)|(simp only at hk; split at hk<;>simp at hk)
  all_goals (split at hk<;>simp at hk)
theorem bO {mc:Md} {id:Nat} {l:List Oper} (σ:List Nat) (hm:X.P.follows .mixedOrders=true) (hok:aHT mc X.P X.n.n l σ=true)
  (h:Wo true mc X.P X.n l (fun ρ G μ=>We X .normal k ρ G μ) σ ρ G μ):Wk X (.region id l.toArray true) k ρ G μ:=by
 simp only [aHT,Bool.and_eq_true,beq_iff_eq] at hok
 obtain ⟨⟨⟨⟨h1,h2⟩,h3⟩,h4⟩,h5⟩:=hok
 refine ⟨fun a w ha ht=>wp_region_any hm ?_⟩
 have:=Wo.any (Q:=fO X k) (aDj .normal) rfl h1 (fun j oj hj hk=>aEZ hk (List.all_eq_true.1 h3 oj (xM hj)))
  (fun j oj hj=>by
   have:=List.all_eq_true.1 h2 oj (xM hj)
   cases hd:oj.dst with
   | none=>trivial
   | some d=>rw [hd] at this; show d<X.n.n; exact of_decide_eq_true this) (fun _ _ _ h a w ha ht=>h.out a w ha ht) l.length σ _ ρ G μ a _ h4 (Closed.none l.length) h5 h ha ht.drew
 simpa using this
def ESub (ρ' ρ:aJ):Prop:=∀ i cv,cF ρ' i=some cv→cF ρ i=some cv
theorem ESub.nil {ρ:aJ}:ESub [] ρ:=fun _ _ h=>by cases h
theorem ESub.cons {ρ' ρ:aJ} {i:Nat} {c:Bool} {v v':Value} (h:cF ρ i=some (c,v')) (hv:v'=v) (hs:ESub ρ' ρ):ESub ((i,c,v) :: ρ') ρ:=by
 intro j cv hj
 rw [pK] at hj
 split at hj
 ·rename_i e; subst e; subst hv; rw [h]; exact hj
 ·exact hs j cv hj
inductive MTake:aG→Res→aG→Prop where
 | here {r μ}:MTake (r :: μ) r μ
 | there {r s μ μ'} (h:MTake μ r μ'):MTake (s :: μ) r (s :: μ')
theorem MTake.perm {μ μ':aG} {r:Res} (h:MTake μ r μ'):μ.Perm (r :: μ'):=by
 induction h with
 | here=>exact .refl _
 | there _ ih=>exact (ih.cons _).trans (.swap ..)
def MSub (μ' μ:aG):Prop:=∃ ν,μ.Perm (μ'++ν)
theorem MSub.nil {μ:aG}:MSub [] μ:=⟨μ,.refl _⟩
theorem MSub.cons {μ μ₁ ν:aG} {r r':Res} (h:MTake μ r' μ₁) (e:r'=r) (hs:MSub ν μ₁):MSub (r :: ν) μ:=by
 subst e
 obtain ⟨κ,hκ⟩:=hs
 exact ⟨κ,h.perm.trans (hκ.cons _)⟩
theorem MSub.tr {μ μ':aG} {G0:PM} {K0:List Nat} {w0 w:World} (h:MSub μ' μ) (ht:Tr G0 K0 w0 G μ w):Tr G0 K0 w0 G μ' w:=by
 obtain ⟨ν,hν⟩:=h
 exact (ht.perm hν).left
structure Inv (X:Cx) (G:PM) {α:Type} (E:α→aJ) (M:α→aG) (F:α→PM→Prop) (x:α) (a:Act) (w:World):Prop where
 of:∃ G',PM.le G G'∧F x G'∧Ag X.n (E x) a∧Tr X.G0 X.K0 X.w0 G' (M x) w
theorem Wk.loop {α:Type} (E:α→aJ) (M:α→aG) (F:α→PM→Prop) (m:α→Nat) (x0:α) (hF:F x0 G) (hE:ESub (E x0) ρ) (hM:MSub (M x0) μ)
  (round:∀ x G',PM.le G G'→F x G'→Wk X c (.lp (fun a w=>∃ y,m y<m x∧Inv X G E M F y a w) :: k) (E x) G' (M x)):Wk X (.loop c) k ρ G μ:=by
 refine ⟨fun a w ha ht=>?_⟩
 intro b kk cs
 have key:∀ (N:Nat) (x:α),m x<N→∀ a w,Inv X G E M F x a w →
   ∃ e a' w',fO X k e a' w'∧Arrives X.P (lone (b.at a (.code c :: .inLoop c :: kk)) cs w) b kk cs e a' w':=by
  intro N
  induction N with
  | zero=>intro x h; omega
  | succ N ih =>
   intro x hx a w ⟨G',hle,hf,ha,ht⟩
   obtain ⟨e,a₁,w₁,hq,harr⟩:=(round x G' hle hf).out a w ha ht b (.inLoop c :: kk) cs
   cases e with
   | normal =>
    obtain ⟨y,hy,hI⟩:=hq
    obtain ⟨e₂,a₂,w₂,hq₂,harr₂⟩:=ih y (by omega) a₁ w₁ hI
    exact ⟨e₂,a₂,w₂,hq₂,.of_steps (Steps.trans harr (.one step_inLoop)) harr₂⟩
   | exit id=>exact ⟨_,a₁,w₁,hq,.pass (x:=.inLoop c) rfl (fun _ _=>.inl (by simp)) harr⟩
   | goto l=>exact ⟨_,a₁,w₁,hq,.pass (x:=.inLoop c) rfl (fun _ _=>.inl (by simp)) harr⟩
   | ret=>exact ⟨_,a₁,w₁,hq,.pass (x:=.inLoop c) rfl (fun _ _=>.inl (by simp)) harr⟩
   | panic ch=>exact ⟨_,a₁,w₁,hq,.pass (x:=.inLoop c) rfl (fun _ _=>.inl (by simp)) harr⟩
   | outgrown=>exact ⟨_,a₁,w₁,hq,.pass (x:=.inLoop c) rfl (fun _ _=>.inl (by simp)) harr⟩
 obtain ⟨e,a',w',hq,harr⟩:=key (m x0+1) x0 (by omega) a w ⟨G,PM.le.refl G,hF,ha.sub hE,hM.tr ht⟩
 exact ⟨e,a',w',hq,.of_steps (.one step_loop) harr⟩
inductive Rs (P:Program) (ρ:aJ) (G:PM) (μ:aG):List ResultVar→List Value→Prop where
 | nil:Rs P ρ G μ [] []
 | tmp {t r v vs} (h:cF ρ t=some (true,v)) (k:Rs P ρ G μ r vs):Rs P ρ G μ (.tmp t :: r) (v :: vs)
 | cell {t T r v vs a} (h:cF ρ t=some (true,.pointer (some a))) (hw:∀ w,Sat G μ w→(loadVar T a).run P w=.ok v w) (k:Rs P ρ G μ r vs):Rs P ρ G μ (.cell t T :: r) (v :: vs)
def iB:List Value→Value
 | [v]=>v
 | vs=>.tuple vs.toArray
theorem aEv {fn:Func} {n:Fm} {a:Act} {P:Program} {vs:List Value} {w:World} (h:Rs P ρ G μ fn.results.toList vs) (ha:Ag n ρ a) (hs:Sat G μ w) :
  (results fn a.tmps).run P w=.ok (iB vs) w:=by
 have key:∀ (f:ResultVar→Sem Value),(∀ t v,cF ρ t=some (true,v)→(f (.tmp t)).run P w=.ok v w) →
   (∀ t T ad v,cF ρ t=some (true,.pointer (some ad))→(loadVar T ad).run P w=.ok v w→(f (.cell t T)).run P w=.ok v w) →
   ∀ (rs:List ResultVar) (vs:List Value),Rs P ρ G μ rs vs→(rs.mapM f).run P w=.ok vs w:=by
  intro f f1 f2 rs vs h
  induction h with
  | nil=>simp
  | tmp h _ ih=>simp [List.mapM_cons,f1 _ _ h,ih]
  | cell h hw _ ih=>simp [List.mapM_cons,f2 _ _ _ _ h (hw w hs),ih]
 unfold results
 rw [Array.mapM_eq_mapM_toList]
 simp only [Sem.run_bind,Sem.run_map]
 rw [key _ (fun t v hl=>by simp [ha.get t true v hl]) (fun t T ad v hl hr=>by simp [ha.get t true _ hl,asAddr,hr]) _ _ h]
 simp only [Result.andThen_ok]
 cases vs with
 | nil=>simp [iB]
 | cons v vs=>cases vs with
  | nil=>simp [iB]
  | cons u vs=>simp [iB]
theorem bD {vs:List Value} {rs:List ResultVar} {μ':aG} (hr:X.fn.results=rs.toArray) (h:Rs X.P ρ G μ rs vs) (hM:MSub μ' μ) (hp:X.post G μ' (iB vs)) (hd:X.n.ds=[]:=by rfl):We X .ret [] ρ G μ :=
 ⟨fun a w ha ht=>by
  show Leaves X.P X.fn a.tmps X.R a.defers .returning w
  rw [ha.defers,hd]
  exact ⟨_,aEv (by rw [hr]; exact h) ha ht.sat,.inl ⟨_,G,μ',rfl,hM.tr ht,hp⟩⟩⟩
theorem aK {vs:List Value} {rs:List ResultVar} (hr:X.fn.results=rs.toArray) (h:Rs X.P ρ G μ rs vs) (hp:X.post G [] (iB vs)) (hd:X.n.ds=[]:=by rfl):We X .ret [] ρ G μ:=bD hr h MSub.nil hp hd
theorem We.nil (h:We X .ret [] ρ G μ):We X .normal [] ρ G μ:=⟨h.out⟩
def aAE (i:Nat):List Value→aJ
 | []=>[]
 | v :: vs=>(i,true,v) :: aAE (i+1) vs
theorem aIa:∀ (vs:List Value) (i j:Nat) (c:Bool) (v:Value),cF (aAE i vs) j=some (c,v)→i≤j∧c=true∧vs[j-i]? = some v
 | [],_,_,_,_,h=>by cases h
 | u :: vs,i,j,c,v,h=>by
  simp only [aAE,pK] at h
  split at h
  ·rename_i e; subst e
   simp only [Option.some.injEq,Prod.mk.injEq] at h
   obtain ⟨rfl,rfl⟩:=h
   simp
  rename_i e
  obtain ⟨h1,h2,h3⟩:=aIa vs (i+1) j c v h
  refine ⟨by omega,h2,?_⟩
  rw [show j-i=(j-(i+1))+1 by omega]
  simpa using h3
def tB (n:Nat) (die:List PanicEntry→Prop):Fm:=⟨n,[],fun ch _ _ _=>die ch⟩
theorem aEI {P:Program} {fn:Func} {n:Nat} {G:PM} {K0:List Nat} {w0:World} {post:PM→aG→Value→Prop} {die:List PanicEntry→Prop} :
  ∀ ch ρ G' μ a w,(tB n die).die ch ρ G' μ→Ag (tB n die) ρ a→Tr G K0 w0 G' μ w→Leaves P fn a.tmps (RR post die G K0 w0) a.defers (.panicking ch) w:=by
 intro ch ρ G' μ a w h ha ht
 rw [ha.defers]
 exact .inr ⟨ch,G',rfl,MSub.nil.tr ht,h⟩
abbrev cx0 (P:Program) (fn:Func) (n:Nat) (G:PM) (K0:List Nat) (w0:World) (post:PM→aG→Value→Prop) (die:List PanicEntry→Prop):Cx:=⟨P,fn,tB n die,G,K0,w0,post,die,aEI⟩
theorem Cp.of {P:Program} {f:FuncId} {fn:Func} {c:Code} {n:Nat} {vs:List Value} {G:PM} {μ:aG} {post:PM→aG→Value→Prop} {die:List PanicEntry→Prop}
  (hf:P.funcs[f]? = some fn) (hb:fn.body=some c) (hn:fn.ntmps=n) (hl:Nat.ble vs.length n=true)
  (h:∀ w0,Sat G μ w0→Wk ⟨P,fn,tB n die,G,keys μ,w0,post,die,aEI⟩ c [] (aAE 0 vs) G μ):Cp P f vs.toArray G μ post die:=by
 intro w hs
 refine calls_of_wp_defers hf hb ?_
 have:=(h w hs).out { tmps:=vs.toArray++Array.replicate (fn.ntmps-vs.toArray.size) undef,defers:=[] } w ⟨?_,rfl,?_⟩ (eQ hs)
 ·exact this
 ·have:=Nat.le_of_ble_eq_true hl
  simp [hn,tB]; omega
 intro i c v hi
 obtain ⟨_,rfl,h3⟩:=aIa vs 0 i c v hi
 simp only [Nat.sub_zero] at h3
 have hlt:i<vs.length:=(List.getElem?_eq_some_iff.1 h3).1
 rw [Array.getElem?_append_left (by simpa using hlt)]
 simpa using h3
theorem Ct.of {P:Program} {f:FuncId} {fn:Func} {c:Code} {n:Nat} {vs:List Value} {G:PM} {μ:aG} {post:PM→aG→Value→Prop}
  (hf:P.funcs[f]? = some fn) (hb:fn.body=some c) (hn:fn.ntmps=n) (hl:Nat.ble vs.length n=true)
  (h:∀ w0,Sat G μ w0→Wk ⟨P,fn,tB n (fun _=>False),G,keys μ,w0,post,fun _=>False,aEI⟩ c [] (aAE 0 vs) G μ):Ct P f vs.toArray G μ post:=fun w hs =>
 (Cp.of hf hb hn hl h w hs).mono fun _ _ h=>by
  rcases h with h | ⟨_,_,_,_,h⟩
  ·exact h
  ·exact h.elim
end
theorem aC {μ:aG} {r s0:Res}:MTake (s0 :: r :: μ) r (s0 :: μ):=.there .here
theorem aI {μ:aG} {r s0 s1:Res}:MTake (s0 :: s1 :: r :: μ) r (s0 :: s1 :: μ):=.there (.there .here)
theorem bE {μ:aG} {r s0 s1 s2:Res}:MTake (s0 :: s1 :: s2 :: r :: μ) r (s0 :: s1 :: s2 :: μ):=.there (.there (.there .here))
theorem dK {μ:aG} {r s0 s1 s2 s3:Res}:MTake (s0 :: s1 :: s2 :: s3 :: r :: μ) r (s0 :: s1 :: s2 :: s3 :: μ):=.there (.there (.there (.there .here)))
theorem mK {μ:aG} {r s0 s1 s2 s3 s4:Res}:MTake (s0 :: s1 :: s2 :: s3 :: s4 :: r :: μ) r (s0 :: s1 :: s2 :: s3 :: s4 :: μ):=.there (.there (.there (.there (.there .here))))
theorem iL {μ:aG} {r s0 s1 s2 s3 s4 s5:Res}:MTake (s0 :: s1 :: s2 :: s3 :: s4 :: s5 :: r :: μ) r (s0 :: s1 :: s2 :: s3 :: s4 :: s5 :: μ):=.there (.there (.there (.there (.there (.there .here)))))
theorem oR {μ:aG} {r s0 s1 s2 s3 s4 s5 s6:Res}:MTake (s0 :: s1 :: s2 :: s3 :: s4 :: s5 :: s6 :: r :: μ) r (s0 :: s1 :: s2 :: s3 :: s4 :: s5 :: s6 :: μ):=.there (.there (.there (.there (.there (.there (.there .here))))))
theorem oS {μ:aG} {r s0 s1 s2 s3 s4 s5 s6 s7:Res}:MTake (s0 :: s1 :: s2 :: s3 :: s4 :: s5 :: s6 :: s7 :: r :: μ) r (s0 :: s1 :: s2 :: s3 :: s4 :: s5 :: s6 :: s7 :: μ):=.there (.there (.there (.there (.there (.there (.there (.there .here)))))))
theorem mS {μ μ₁ ν:aG} {r r':Res} (h:MTake μ r' μ₁) (e:r'=r) (hs:MSub ν μ₁):MSub (r :: ν) μ:=MSub.cons h e hs
theorem mN {μ:aG}:MSub [] μ:=MSub.nil
theorem eJ {ρ' ρ:aJ} {i:Nat} {c:Bool} {v v':Value} (h:cF ρ i=some (c,v')) (hv:v'=v) (hs:ESub ρ' ρ):ESub ((i,c,v) :: ρ') ρ:=ESub.cons h hv hs
theorem eZ {ρ:aJ}:ESub [] ρ:=ESub.nil
theorem aA {ρ' ρ:aJ} {i:Nat} {c:Bool} {v:Value} (h:cF ρ i=some (c,v)) (hs:ESub ρ' ρ):ESub ((i,c,v) :: ρ') ρ:=ESub.cons h rfl hs
class QLen (cs:List Value) (n:outParam Nat):Prop where
 h:cs.length=n
theorem qL {cs:List Value} {n:Nat} [k:QLen cs n]:cs.length=n:=k.h
theorem qE {cs cs':List Value} {n:Nat} [k:QLen cs n] [k':QLen cs' n]:cs.length=cs'.length:=k.h.trans k'.h.symm
instance:QLen [] 0:=⟨rfl⟩
instance {v:Value} {cs:List Value} {n:Nat} [k:QLen cs n]:QLen (v :: cs) (n+1):=⟨by rw [List.length_cons,k.h]⟩
instance {cs cs':List Value} {n m:Nat} [k:QLen cs n] [k':QLen cs' m]:QLen (cs++cs') (n+m):=⟨by rw [List.length_append,k.h,k'.h]⟩
def aT (P:Program) (s f:Nat):Option Nat :=
 match P.underlying s with
 | some (.struct fs)=>match fs[f]? with
  | some fl=>match P.info? fl.type with
   | some i=>if i.size=0 then none else some fl.offset
   | none=>none
  | none=>none
 | _=>none
def bT (P:Program) (T:TypeId):Option (Option Nat) :=
 match P.underlying T,P.info? T with
 | some (.struct _),some i | some (.array _ _),some i=>some (some i.size)
 | some _,some _=>some none
 | _,_=>none
def bJ (P:Program) (T:TypeId):Option (TypeId×Nat×Nat) :=
 match P.underlying T with
 | some (.slice e)=>(P.info? e).map fun i=>(e,i.size,i.bytes)
 | _=>none
def fH (P:Program) (T:TypeId):Option (Nat×TypeId×Nat) :=
 match P.underlying T with
 | some (.array n e)=>(P.info? e).map fun i=>(n,e,i.size)
 | _=>none
def dV (P:Program) (T:TypeId):Option (List Value):=((P.info? T).bind (·.zero)).map (·.cells.toList)
def cE (P:Program) (T:TypeId):Option Nat:=(P.info? T).map (·.size)
abbrev cl (cs:List Value) (T:TypeId):Obj:=.cells cs.toArray T (0,0)
def Sub (G:PM) (w:World):Prop:=∀ b o,G b=some o→w.heap[b]? = some o
theorem Sub.mono {G G':PM} {w:World} (h:Sub G' w) (hle:PM.le G G'):Sub G w:=fun b o e=>h b o (hle b o e)
def Rd (G:PM) (μ:aG) (a:Addr) (v:Value):Prop:=∀ w,Sat G μ w→w.cell? a=some v
def RdP (G:PM) (a:Addr) (v:Value):Prop:=∀ w,Sub G w→w.cell? a=some v
theorem RdP.rd {G:PM} {μ:aG} {a:Addr} {v:Value} (h:RdP G a v):Rd G μ a v:=fun w hs=>h w hs.sub
theorem RdP.mono {G G':PM} {a:Addr} {v:Value} (h:RdP G a v) (hle:PM.le G G'):RdP G' a v:=fun w hs=>h w (hs.mono hle)
theorem Rd.own {G:PM} {μ μ':aG} {b off:Nat} {cs:List Value} {T:TypeId} {v:Value} (h:MTake μ (.blk b (cl cs T)) μ') (hv:cs[off]? = some v):Rd G μ ⟨b,off,none⟩ v:=by
 intro w hs
 have:=hs.own (.blk b (cl cs T)) (h.perm.mem_iff.2 (List.mem_cons_self ..))
 rw [cell_of_row w b off _ T _ this]
 simpa using hv
theorem RdP.blk {G:PM} {b off:Nat} {cs:List Value} {T:TypeId} {v:Value} {fr:Nat×Nat} (h:G b=some (.cells cs.toArray T fr)) (hv:cs[off]? = some v):RdP G ⟨b,off,none⟩ v:=by
 intro w hs
 rw [cell_of_row w b off _ T _ (hs b _ h)]
 simpa using hv
def RdN (G:PM) (μ:aG) (b off:Nat) (cs:List Value):Prop:=∀ j v,cs[j]? = some v→Rd G μ ⟨b,off+j,none⟩ v
def RdNP (G:PM) (b off:Nat) (cs:List Value):Prop:=∀ j v,cs[j]? = some v→RdP G ⟨b,off+j,none⟩ v
theorem RdNP.rd {G:PM} {μ:aG} {b off:Nat} {cs:List Value} (h:RdNP G b off cs):RdN G μ b off cs:=fun j v hj=>(h j v hj).rd
theorem RdNP.mono {G G':PM} {b off:Nat} {cs:List Value} (h:RdNP G b off cs) (hle:PM.le G G'):RdNP G' b off cs:=fun j v hj=>(h j v hj).mono hle
theorem RdN.own {G:PM} {μ μ':aG} {b:Nat} {cs:List Value} {T:TypeId} (h:MTake μ (.blk b (cl cs T)) μ'):RdN G μ b 0 cs:=fun j v hj=>by
 rw [Nat.zero_add]; exact Rd.own h hj
theorem RdN.part {G:PM} {μ μ':aG} {b off n:Nat} {cs cs':List Value} {T:TypeId} (h:MTake μ (.blk b (cl cs T)) μ') (hc:(cs.drop off).take n=cs'):RdN G μ b off cs':=fun j v hj=>by
 subst hc
 refine Rd.own h ?_
 rw [List.getElem?_take] at hj
 split at hj
 ·rw [List.getElem?_drop] at hj; exact hj
 cases hj
theorem jB (b o j:Nat):(⟨b,o,none⟩ : Addr).add j=⟨b,o+j,none⟩:=by unfold Addr.add; split<;>simp_all
theorem aJx {P:Program} {w:World} {G:PM} {μ:aG} {b off n:Nat} {cs:List Value} (h:RdN G μ b off cs) (hs:Sat G μ w) (hn:cs.length=n):(loadCells ⟨b,off,none⟩ n).run P w=.ok cs.toArray w:=by
 subst hn
 exact run_loadCells_list w ⟨b,off,none⟩ cs fun j v hj=>by rw [jB]; exact h j v hj w hs
theorem aGo {P:Program} {T:TypeId} (h:bT P T=some none):∀ w,(isAgg T).run P w=.ok false w:=by
 intro w
 unfold bT at h
 unfold isAgg
 cases hu:P.underlying T with
 | none=>rw [hu] at h; simp at h
 | some d =>
  rw [hu] at h
  simp only [Sem.run_bind,run_underlying hu,Result.andThen_ok]
  cases d<;>first|rfl | (cases hi:P.info? T<;>rw [hi] at h<;>simp at h)
theorem aNW {P:Program} {T:TypeId} {n:Nat} (h:bT P T=some (some n)):(∀ w,(isAgg T).run P w=.ok true w)∧(P.info? T).map (·.size)=some n:=by
 unfold bT at h
 unfold isAgg
 cases hu:P.underlying T with
 | none=>rw [hu] at h; simp at h
 | some d =>
  rw [hu] at h
  cases d<;>cases hi:P.info? T<;>rw [hi] at h<;>simp at h
  all_goals (subst h; exact ⟨fun w=>by simp only [Sem.run_bind,run_underlying hu,Result.andThen_ok]; rfl,rfl⟩)
theorem pP {P:Program} {T:TypeId} (hT:bT P T=some none) {w:World} {a:Addr} {v:Value} (h:w.cell? a=some v):(loadVar T a).run P w=.ok v w:=by
 unfold loadVar
 simp [aGo hT w,run_load,h]
theorem bW {P:Program} {T:TypeId} {n:Nat} (hT:bT P T=some (some n)) {G:PM} {μ:aG} {w:World} {b off:Nat} {cs:List Value} (h:RdN G μ b off cs) (hn:cs.length=n) (hs:Sat G μ w) :
  (loadVar T ⟨b,off,none⟩).run P w=.ok (.agg cs.toArray) w:=by
 obtain ⟨h1,h2⟩:=aNW hT
 cases hi:P.info? T with
 | none=>rw [hi] at h2; cases h2
 | some i =>
  rw [hi] at h2
  simp only [Option.map_some,Option.some.injEq] at h2
  unfold loadVar
  simp [h1 w,sizeOf,typeInfo,hi,h2,aJx h hs hn]
section
variable {dr:Bool} {mc:Md} {P:Program} {n:Fm} {l:List Oper} {K:aJ→PM→aG→Prop} {i:Nat} {σ:List Nat} {ρ:aJ} {G:PM} {μ:aG}
variable {d t:Nat} {p:String} {af:Array Edge} {g:Option (Nat×Bool)} {c:Bool}
theorem mv {x:Operand} {v:Value} (ho:nth l i=some ⟨some d,.move x,t,p,af,g⟩) (hg:Gd l ρ g c) (hx:Ev ρ c x v) (h:Wo dr mc P n l K σ ((d,c,v) :: ρ) G μ):Wo dr mc P n l K (i :: σ) ρ G μ :=
 .pure ho (.inl rfl) hg (fun hc a w ha=>by simp [execOp,hx.eval ha hc]) h
theorem asg {x:Operand} {v:Value} (ho:nth l i=some ⟨some d,.assign x,t,p,af,g⟩) (hg:Gd l ρ g c) (hx:Ev ρ c x v) (h:Wo dr mc P n l K σ ((d,c,v) :: ρ) G μ):Wo dr mc P n l K (i :: σ) ρ G μ :=
 .pure ho (.inl rfl) hg (fun hc a w ha=>by simp [execOp,hx.eval ha hc]) h
theorem bL {x y:Operand} {b1 b2:Bool} (ho:nth l i=some ⟨some d,.pick x y (.const (.bool false)),t,p,af,g⟩) (hg:Gd l ρ g c) (hx:Ev ρ c x (.bool b1)) (hy:Ev ρ (c&&b1) y (.bool b2))
  (h:Wo dr mc P n l K σ ((d,c,.bool (b1&&b2)) :: ρ) G μ):Wo dr mc P n l K (i :: σ) ρ G μ :=
 .pure ho (.inl rfl) hg (fun hc a w ha=>by
  simp only [execOp,hx.eval ha hc,asBool]
  cases b1 with
  | false=>simp [Act.eval]
  | true=>simp [hy.eval ha (by simp [hc])]) h
theorem bZ {x y:Operand} {b1 b2:Bool} (ho:nth l i=some ⟨some d,.pick x (.const (.bool true)) y,t,p,af,g⟩) (hg:Gd l ρ g c) (hx:Ev ρ c x (.bool b1)) (hy:Ev ρ (c && !b1) y (.bool b2))
  (h:Wo dr mc P n l K σ ((d,c,.bool (b1||b2)) :: ρ) G μ):Wo dr mc P n l K (i :: σ) ρ G μ :=
 .pure ho (.inl rfl) hg (fun hc a w ha=>by
  simp only [execOp,hx.eval ha hc,asBool]
  cases b1 with
  | true=>simp [Act.eval]
  | false=>simp [hy.eval ha (by simp [hc])]) h
theorem nt {T:TypeId} {x:Operand} {b:Bool} (ho:nth l i=some ⟨some d,.unOp .not T x,t,p,af,g⟩) (hg:Gd l ρ g c) (hx:Ev ρ c x (.bool b)) (h:Wo dr mc P n l K σ ((d,c,.bool !b) :: ρ) G μ):Wo dr mc P n l K (i :: σ) ρ G μ :=
 .pure ho (.inl rfl) hg (fun hc a w ha=>by simp [execOp,hx.eval ha hc,Op.unary]) h
theorem ex {x:Operand} {vs:List Value} {j:Nat} {v:Value} (ho:nth l i=some ⟨some d,.extract x j,t,p,af,g⟩) (hg:Gd l ρ g c) (hx:Ev ρ c x (.tuple vs.toArray)) (hv:vs[j]? = some v)
  (h:Wo dr mc P n l K σ ((d,c,v) :: ρ) G μ):Wo dr mc P n l K (i :: σ) ρ G μ :=
 .pure ho (.inl rfl) hg (fun hc a w ha=>by simp [execOp,hx.eval ha hc,Instr.extract,hv]) h
theorem nc {x:Operand} {ad:Addr} (ho:nth l i=some ⟨some d,.nilCheck x,t,p,af,g⟩) (hg:Gd l ρ g c) (hx:Ev ρ c x (.pointer (some ad))) (h:Wo dr mc P n l K σ ((d,c,.pointer (some ad)) :: ρ) G μ):Wo dr mc P n l K (i :: σ) ρ G μ :=
 .pure ho (.inl rfl) hg (fun hc a w ha=>by simp [execOp,hx.eval ha hc]) h
theorem mf {fn:Go.Fn} {fs cs:Array Operand} {vf vc:Array Value} (ho:nth l i=some ⟨some d,.makeFunc fn fs cs,t,p,af,g⟩) (hg:Gd l ρ g c) (hf:∀ a,Ag n ρ a→c=true→fs.map a.eval=vf) (hcs:∀ a,Ag n ρ a→c=true→cs.map a.eval=vc)
  (h:Wo dr mc P n l K σ ((d,c,.func fn vf vc) :: ρ) G μ):Wo dr mc P n l K (i :: σ) ρ G μ :=
 .pure ho (.inl rfl) hg (fun hc a w ha=>by simp [execOp,Instr.makeFunc,hf a ha hc,hcs a ha hc]) h
def aBn:BinOp→Int→Int→Option Bool
 | .eql,a,b=>some (a == b)
 | .neq,a,b=>some (a != b)
 | .lss,a,b=>some (decide (a<b))
 | .leq,a,b=>some (decide (a≤b))
 | .gtr,a,b=>some (decide (a > b))
 | .geq,a,b=>some (decide (a≥b))
 | _,_,_=>none
theorem jD {P:Program} (op:BinOp) (T:TypeId) (x y:Operand) (k k':IntKind) (a b:Int) (w:World):(eqGuard op T x y (.int k a) (.int k' b)).run P w=.ok () w:=by
 unfold eqGuard; cases op<;>simp
theorem aJt {P:Program} {op:BinOp} {k:IntKind} {a b:Int} {r:Bool} (T:TypeId) (h:aBn op a b=some r) (w:World):(binOp op T (.int k a) (.int k b)).run P w=.ok (.bool r) w:=by
 cases op<;>simp [aBn] at h<;>subst h<;>simp [binOp,Op.intCmp]
theorem cp {op:BinOp} {T T':TypeId} {x y:Operand} {k:IntKind} {a1 a2:Int} {r:Bool} (ho:nth l i=some ⟨some d,.binOp op T x y T',t,p,af,g⟩) (hg:Gd l ρ g c) (hx:Ev ρ c x (.int k a1)) (hy:Ev ρ c y (.int k a2)) (hr:aBn op a1 a2=some r)
  (h:Wo dr mc P n l K σ ((d,c,.bool r) :: ρ) G μ):Wo dr mc P n l K (i :: σ) ρ G μ :=
 .pure ho (.inl rfl) hg (fun hc a w ha=>by simp [execOp,hx.eval ha hc,hy.eval ha hc,jD,aJt T hr w]) h
def uL:BinOp→Int→Int→Option Int
 | .add,a,b=>some (a+b)
 | .sub,a,b=>some (a-b)
 | .mul,a,b=>some (a*b)
 | _,_,_=>none
theorem aE0 {P:Program} {op:BinOp} {k:IntKind} {a b r:Int} (T:TypeId) (h:uL op a b=some r) (w:World):(binOp op T (.int k a) (.int k b)).run P w=.ok (.int k (k.wrap r)) w:=by
 cases op<;>simp [uL] at h<;>subst h<;>simp [binOp,Op.intArith]
theorem aw {op:BinOp} {T T':TypeId} {x y:Operand} {k:IntKind} {a1 a2 r:Int} (ho:nth l i=some ⟨some d,.binOp op T x y T',t,p,af,g⟩) (hg:Gd l ρ g c) (hx:Ev ρ c x (.int k a1)) (hy:Ev ρ c y (.int k a2)) (hr:uL op a1 a2=some r)
  (h:Wo dr mc P n l K σ ((d,c,.int k (k.wrap r)) :: ρ) G μ):Wo dr mc P n l K (i :: σ) ρ G μ :=
 .pure ho (.inl rfl) hg (fun hc a w ha=>by simp [execOp,hx.eval ha hc,hy.eval ha hc,jD,aE0 T hr w]) h
theorem ar {op:BinOp} {T T':TypeId} {x y:Operand} {k:IntKind} {a1 a2 r:Int} (ho:nth l i=some ⟨some d,.binOp op T x y T',t,p,af,g⟩) (hg:Gd l ρ g c) (hx:Ev ρ c x (.int k a1)) (hy:Ev ρ c y (.int k a2)) (hr:uL op a1 a2=some r) (hw:c=true→k.wrap r=r)
  (h:Wo dr mc P n l K σ ((d,c,.int k r) :: ρ) G μ):Wo dr mc P n l K (i :: σ) ρ G μ :=
 .pure ho (.inl rfl) hg (fun hc a w ha=>by simp [execOp,hx.eval ha hc,hy.eval ha hc,jD,aE0 T hr w,hw hc]) h
theorem eV {r:Int} (h1 : -9223372036854775808≤r) (h2:r≤9223372036854775807):IntKind.i64.wrap r=r:=by
 unfold IntKind.wrap
 show (if (true&&decide (r%(2^64:Int)≥(2^63:Int)))=true then r%(2^64:Int)-(2^64:Int) else r%(2^64:Int))=r
 simp only [Bool.true_and,decide_eq_true_eq]
 split<;>omega
theorem mL {r:Int} (h1:0≤r) (h2:r<18446744073709551616):IntKind.u64.wrap r=r:=by
 simp only [IntKind.wrap,IntKind.bits,IntKind.signed,Bool.false_and,Bool.false_eq_true,if_false]
 exact Int.emod_eq_of_lt h1 (by omega)
theorem sl {T T':TypeId} {x y:Operand} {k k':IntKind} {a1 a2:Int} (ho:nth l i=some ⟨some d,.binOp .shl T x y T',t,p,af,g⟩) (hg:Gd l ρ g c) (hx:Ev ρ c x (.int k a1)) (hy:Ev ρ c y (.int k' a2)) (h0:c=true→0≤a2)
  (h:Wo dr mc P n l K σ ((d,c,.int k (k.wrap (a1*2^(min a2.toNat k.bits)))) :: ρ) G μ):Wo dr mc P n l K (i :: σ) ρ G μ :=
 .pure ho (.inl rfl) hg (fun hc a w ha=>by have:=h0 hc; simp [execOp,hx.eval ha hc,hy.eval ha hc,jD,binOp,Op.shift,show ¬ a2<0 by omega]) h
theorem sr {T T':TypeId} {x y:Operand} {k k':IntKind} {a1 a2:Int} (ho:nth l i=some ⟨some d,.binOp .shr T x y T',t,p,af,g⟩) (hg:Gd l ρ g c) (hx:Ev ρ c x (.int k a1)) (hy:Ev ρ c y (.int k' a2)) (h0:c=true→0≤a2)
  (h:Wo dr mc P n l K σ ((d,c,.int k (a1.fdiv (2^(min a2.toNat k.bits)))) :: ρ) G μ):Wo dr mc P n l K (i :: σ) ρ G μ :=
 .pure ho (.inl rfl) hg (fun hc a w ha=>by have:=h0 hc; simp [execOp,hx.eval ha hc,hy.eval ha hc,jD,binOp,Op.shift,show ¬ a2<0 by omega]) h
def jO (P:Program) (S D:TypeId):Option IntKind:=match P.underlying S,P.underlying D with | some (.int _),some (.int k)=>some k | _,_=>none
theorem cv {S D:TypeId} {x:Operand} {k k':IntKind} {a1:Int} (ho:nth l i=some ⟨some d,.convert S D x,t,p,af,g⟩) (hg:Gd l ρ g c) (hk:jO P S D=some k') (hx:Ev ρ c x (.int k a1))
  (h:Wo dr mc P n l K σ ((d,c,.int k' (k'.wrap a1)) :: ρ) G μ):Wo dr mc P n l K (i :: σ) ρ G μ :=
 .read ho (.inl rfl) hg (fun hc a w ha _=>by
  unfold jO at hk
  split at hk
  ·rename_i k0 k1 hS hD
   simp only [Option.some.injEq] at hk
   subst hk
   simp [execOp,hx.eval ha hc,convert,run_underlying hS,run_underlying hD,Conv.intToInt]
  ·cases hk) h
theorem cw {S D:TypeId} {x:Operand} {k k':IntKind} {a1:Int} (ho:nth l i=some ⟨some d,.convert S D x,t,p,af,g⟩) (hg:Gd l ρ g c) (hk:jO P S D=some k') (hx:Ev ρ c x (.int k a1)) (hw:c=true→k'.wrap a1=a1)
  (h:Wo dr mc P n l K σ ((d,c,.int k' a1) :: ρ) G μ):Wo dr mc P n l K (i :: σ) ρ G μ :=
 .read ho (.inl rfl) hg (fun hc a w ha _=>by
  unfold jO at hk
  split at hk
  ·rename_i k0 k1 hS hD
   simp only [Option.some.injEq] at hk
   subst hk
   simp [execOp,hx.eval ha hc,convert,run_underlying hS,run_underlying hD,Conv.intToInt,hw hc]
  ·cases hk) h
def aHA:BinOp→ByteArray→ByteArray→Option Bool
 | .eql,x,y=>some (x.toList == y.toList)
 | .neq,x,y=>some (!(x.toList == y.toList))
 | .lss,x,y=>some (Op.bytesLess x.toList y.toList)
 | .leq,x,y=>some (Op.bytesLess x.toList y.toList||x.toList == y.toList)
 | .gtr,x,y=>some (!(Op.bytesLess x.toList y.toList||x.toList == y.toList))
 | .geq,x,y=>some (!(Op.bytesLess x.toList y.toList))
 | _,_,_=>none
theorem cs {op:BinOp} {T T':TypeId} {x y:Operand} {s1 s2:ByteArray} {r:Bool} (ho:nth l i=some ⟨some d,.binOp op T x y T',t,p,af,g⟩) (hg:Gd l ρ g c) (hx:Ev ρ c x (.string s1)) (hy:Ev ρ c y (.string s2)) (hr:aHA op s1 s2=some r)
  (h:Wo dr mc P n l K σ ((d,c,.bool r) :: ρ) G μ):Wo dr mc P n l K (i :: σ) ρ G μ :=
 .pure ho (.inl rfl) hg (fun hc a w ha=>by
  simp only [execOp,hx.eval ha hc,hy.eval ha hc]
  have:(eqGuard op T x y (.string s1) (.string s2)).run P w=.ok () w:=by unfold eqGuard; cases op<;>simp
  cases op<;>simp only [aHA,Option.some.injEq,reduceCtorEq] at hr<;>subst hr<;>simp [this,binOp,Op.stringOp]) h
theorem ln {T:TypeId} {x:Operand} {oa:Option Addr} {m cp:Nat} (ho:nth l i=some ⟨some d,.call { callee:=.builtin .len,args:=#[x],argTypes:=#[T] },t,p,af,g⟩) (hg:Gd l ρ g c) (hT:(bJ P T).isSome=true) (hx:Ev ρ c x (.slice oa m cp))
  (h:Wo dr mc P n l K σ ((d,c,.int .i64 m) :: ρ) G μ):Wo dr mc P n l K (i :: σ) ρ G μ :=
 .read ho (.inl rfl) hg (fun hc a w ha _=>by
  unfold bJ at hT
  split at hT
  ·rename_i e hu
   simp [execOp,resolve,invoke,builtin,hx.eval ha hc,Builtin.len_,run_underlying hu,goInt]
  ·cases hT) h
def pS (P:Program) (T:TypeId):Bool:=match P.underlying T with | some .string=>true | _=>false
theorem ls {T:TypeId} {x:Operand} {s:ByteArray} (ho:nth l i=some ⟨some d,.call { callee:=.builtin .len,args:=#[x],argTypes:=#[T] },t,p,af,g⟩) (hg:Gd l ρ g c) (hT:pS P T=true) (hx:Ev ρ c x (.string s))
  (h:Wo dr mc P n l K σ ((d,c,.int .i64 s.size) :: ρ) G μ):Wo dr mc P n l K (i :: σ) ρ G μ :=
 .read ho (.inl rfl) hg (fun hc a w ha _=>by
  unfold pS at hT
  split at hT
  ·rename_i hu
   simp [execOp,resolve,invoke,builtin,hx.eval ha hc,Builtin.len_,run_underlying hu,goInt]
  ·cases hT) h
theorem fa {s f k:Nat} {x:Operand} {b o:Nat} (ho:nth l i=some ⟨some d,.fieldAddr s x f,t,p,af,g⟩) (hg:Gd l ρ g c) (hF:aT P s f=some k) (hx:Ev ρ c x (.pointer (some ⟨b,o,none⟩)))
  (h:Wo dr mc P n l K σ ((d,c,.pointer (some ⟨b,o+k,none⟩)) :: ρ) G μ):Wo dr mc P n l K (i :: σ) ρ G μ :=
 .pure ho (.inl rfl) hg (fun hc a w ha=>by
  unfold aT at hF
  split at hF
  ·rename_i fs hu
   split at hF
   ·rename_i fl hfl
    split at hF
    ·rename_i inf hi
     split at hF
     ·cases hF
     ·rename_i hz
      simp only [Option.some.injEq] at hF
      subst hF
      simp [execOp,hx.eval ha hc,Instr.fieldAt,run_underlying hu,hfl,Instr.sureAddr,fieldPlace,sizeOf,typeInfo,hi,hz,jB]
    ·cases hF
   ·cases hF
  ·cases hF) h
theorem fz {s f k:Nat} {x:Operand} {b:Nat} (ho:nth l i=some ⟨some d,.fieldAddr s x f,t,p,af,g⟩) (hg:Gd l ρ g c) (hF:aT P s f=some k) (hx:Ev ρ c x (.pointer (some ⟨b,0,none⟩)))
  (h:Wo dr mc P n l K σ ((d,c,.pointer (some ⟨b,k,none⟩)) :: ρ) G μ):Wo dr mc P n l K (i :: σ) ρ G μ :=
 fa ho hg hF hx (by rw [Nat.zero_add]; exact h)
theorem fG {P:Program} {T e sz by':Nat} (h:bJ P T=some (e,sz,by')):P.underlying T=some (.slice e)∧∃ inf,P.info? e=some inf∧inf.size=sz∧inf.bytes=by':=by
 unfold bJ at h
 split at h
 ·rename_i e' hu
  cases hi:P.info? e' with
  | none=>rw [hi] at h; cases h
  | some inf =>
   rw [hi] at h
   simp only [Option.map_some,Option.some.injEq,Prod.mk.injEq] at h
   obtain ⟨rfl,rfl,rfl⟩:=h
   exact ⟨hu,inf,hi,rfl,rfl⟩
 ·cases h
theorem sK {P:Program} {T m e sz:Nat} (h:fH P T=some (m,e,sz)):P.underlying T=some (.array m e)∧∃ inf,P.info? e=some inf∧inf.size=sz:=by
 unfold fH at h
 split at h
 ·rename_i m' e' hu
  cases hi:P.info? e' with
  | none=>rw [hi] at h; cases h
  | some inf =>
   rw [hi] at h
   simp only [Option.map_some,Option.some.injEq,Prod.mk.injEq] at h
   obtain ⟨rfl,rfl,rfl⟩:=h
   exact ⟨hu,inf,hi,rfl⟩
 ·cases h
theorem ia {T e sz by':Nat} {x y:Operand} {k:IntKind} {b o m cp:Nat} {j:Int} (ho:nth l i=some ⟨some d,.indexAddr T x y,t,p,af,g⟩) (hg:Gd l ρ g c) (hT:bJ P T=some (e,sz,by')) (hx:Ev ρ c x (.slice (some ⟨b,o,none⟩) m cp)) (hy:Ev ρ c y (.int k j))
  (h0:c=true→0≤j) (h1:c=true→j<m) (h:Wo dr mc P n l K σ ((d,c,.pointer (some ⟨b,o+j.toNat*sz,none⟩)) :: ρ) G μ):Wo dr mc P n l K (i :: σ) ρ G μ :=
 .pure ho (.inl rfl) hg (fun hc a w ha=>by
  obtain ⟨hu,inf,hi,rfl,rfl⟩:=fG hT
  simp [execOp,hx.eval ha hc,hy.eval ha hc,Instr.indexAt,asIntOf,run_underlying hu,h0 hc,h1 hc,sizeOf,typeInfo,hi,jB]) h
theorem iA {T m e sz:Nat} {x y:Operand} {k:IntKind} {b o:Nat} {j:Int} (ho:nth l i=some ⟨some d,.indexAddr T x y,t,p,af,g⟩) (hg:Gd l ρ g c) (hT:fH P T=some (m,e,sz)) (hx:Ev ρ c x (.pointer (some ⟨b,o,none⟩))) (hy:Ev ρ c y (.int k j))
  (h0:c=true→0≤j) (h1:c=true→j<m) (h:Wo dr mc P n l K σ ((d,c,.pointer (some ⟨b,o+j.toNat*sz,none⟩)) :: ρ) G μ):Wo dr mc P n l K (i :: σ) ρ G μ :=
 .pure ho (.inl rfl) hg (fun hc a w ha=>by
  obtain ⟨hu,inf,hi,rfl⟩:=sK hT
  simp [execOp,hx.eval ha hc,hy.eval ha hc,Instr.indexAt,asIntOf,run_underlying hu,h0 hc,h1 hc,sizeOf,typeInfo,hi,jB,Instr.sureAddr]) h
theorem ld {T:TypeId} {x:Operand} {ad:Addr} {v:Value} (ho:nth l i=some ⟨some d,.load T x,t,p,af,g⟩) (hg:Gd l ρ g c) (hT:bT P T=some none) (hx:Ev ρ c x (.pointer (some ad))) (hr:c=true→Rd G μ ad v)
  (h:Wo dr mc P n l K σ ((d,c,v) :: ρ) G μ):Wo dr mc P n l K (i :: σ) ρ G μ :=
 .read ho (.inl rfl) hg (fun hc a w ha hs=>by simp [execOp,hx.eval ha hc,Instr.loadAt,Instr.sureAddr,pP hT (hr hc w hs)]) h
theorem lA {T m:TypeId} {x:Operand} {b o:Nat} {cs:List Value} (ho:nth l i=some ⟨some d,.load T x,t,p,af,g⟩) (hg:Gd l ρ g c) (hT:bT P T=some (some m)) (hx:Ev ρ c x (.pointer (some ⟨b,o,none⟩))) (hr:c=true→RdN G μ b o cs) (hn:c=true→cs.length=m)
  (h:Wo dr mc P n l K σ ((d,c,.agg cs.toArray) :: ρ) G μ):Wo dr mc P n l K (i :: σ) ρ G μ :=
 .read ho (.inl rfl) hg (fun hc a w ha hs=>by simp [execOp,hx.eval ha hc,Instr.loadAt,Instr.sureAddr,bW hT (hr hc) (hn hc) hs]) h
theorem al {T:TypeId} {cs:List Value} (ho:nth l i=some ⟨some d,.alloc T,t,p,af,none⟩) (hz:dV P T=some cs) (h:∀ b,Wo dr mc P n l K σ ((d,true,.pointer (some ⟨b,0,none⟩)) :: ρ) G (.blk b (cl cs T) :: μ)):Wo dr mc P n l K (i :: σ) ρ G μ:=by
 unfold dV at hz
 cases hz1:(P.info? T).bind (·.zero) with
 | none=>rw [hz1] at hz; cases hz
 | some z =>
  rw [hz1] at hz
  simp only [Option.map_some,Option.some.injEq] at hz
  subst hz
  refine .make (ob:=cl z.cells.toList T) (mkv:=fun b=>.pointer (some ⟨b,0,none⟩)) ho (.inl rfl) rfl (fun e w=>?_) h
  rw [aJs hz1]
theorem bx {T:TypeId} {x:Operand} {v:Value} {cs:List Value} (ho:nth l i=some ⟨some d,.box T x,t,p,af,none⟩) (hx:Ev ρ true x v) (hv:v.cells=cs.toArray) (h:∀ b,Wo dr mc P n l K σ ((d,true,.pointer (some ⟨b,0,none⟩)) :: ρ) G (.blk b (cl cs T) :: μ)):Wo dr mc P n l K (i :: σ) ρ G μ :=
 .box (ob:=cl cs T) (mkv:=fun b=>.pointer (some ⟨b,0,none⟩)) ho (.inl rfl) .no (fun a w ha=>by simp [execOp,hx.eval ha rfl,Instr.box,newVar,newRow,hv,cl]) h
def put (cs:List Value) (o:Nat) (vs:List Value):List Value:=cs.take o++vs++cs.drop (o+vs.length)
theorem Tr.setRow {G:PM} {w:World} {b:Nat} {cs cs':List Value} {T:TypeId} (h:Sat G [.blk b (cl cs T)] w):Tr G [b] w G [.blk b (cl cs' T)] (w.setRow b cs'.toArray):=by
 have hb:w.heap[b]? = some (cl cs T):=h.own _ (List.mem_singleton.2 rfl)
 have hG:G b=none:=h.apart b (by simp [keys,Res.keys])
 refine ⟨⟨fun k o hk=>?_,?_,fun k hk=>?_,by simp [keys,Res.keys]⟩,rfl,rfl,rfl,by simp,fun k _ hk=>⟨setRow_other w b k _ (by simpa using hk),rfl⟩,fun k hk=>.inl (by simpa [keys,Res.keys] using hk),fun _ _ _ h=>h⟩
 ·rw [setRow_other w b k _ (fun e=>by subst e; rw [hG] at hk; cases hk)]; exact h.sub k o hk
 ·intro r hr
  rw [List.mem_singleton.1 hr]
  exact setRow_heap w b cs.toArray cs'.toArray T (0,0) hb
 simp only [keys,Res.keys,List.flatMap_cons,List.flatMap_nil,List.append_nil,List.mem_singleton] at hk
 rw [hk]; exact hG
theorem st {T T':TypeId} {x y:Operand} {b o:Nat} {v:Value} {cs vs:List Value} {μ':aG} (ho:nth l i=some ⟨none,.store T x y,t,p,af,none⟩) (hx:Ev ρ true x (.pointer (some ⟨b,o,none⟩))) (hy:Ev ρ true y v) (hv:v.cells=vs.toArray) (hz:cE P T=some vs.length)
  (hm:MTake μ (.blk b (cl cs T')) μ') (hl:o+vs.length≤cs.length) (h1:∀ u∈vs,u.oneCell'=true) (h:Wo dr mc P n l K σ ρ G (.blk b (cl (put cs o vs) T') :: μ')):Wo dr mc P n l K (i :: σ) ρ G μ:=by
 refine .act (μ₁:=[.blk b (cl cs T')]) (μ₂:=μ') (post:=fun G' μ' v=>G'=G∧μ'=[.blk b (cl (put cs o vs) T')]∧v=undef) ho (.inl rfl) .no hm.perm (fun a w ha hs=>.inl ?_) ?_
 ·have hs':=hs.left
  have hb:w.heap[b]? = some (cl cs T'):=hs'.own _ (List.mem_singleton.2 rfl)
  refine ⟨undef,w.setRow b (put cs o vs).toArray,G,_,.inr ⟨?_,rfl⟩,Tr.setRow hs',rfl,rfl,rfl⟩
  cases hi:P.info? T with
  | none=>simp [cE,hi] at hz
  | some inf =>
   simp only [cE,hi,Option.map_some,Option.some.injEq] at hz
   have:=run_storeCells_at P b o T' vs 0 cs.toArray w hb (by simpa using hl) h1
   simp only [Nat.add_zero] at this
   simp [execOp,hx.eval ha rfl,hy.eval ha rfl,Instr.storeAt,Instr.sureAddr,storeVar,hv,sizeOf,typeInfo,hi,hz,this,put]
 rintro v G' μ'' _ ⟨rfl,rfl,rfl⟩
 exact h
theorem sw {T T':TypeId} {x y:Operand} {b:Nat} {v:Value} {cs vs:List Value} {μ':aG} (ho:nth l i=some ⟨none,.store T x y,t,p,af,none⟩) (hx:Ev ρ true x (.pointer (some ⟨b,0,none⟩))) (hy:Ev ρ true y v) (hv:v.cells=vs.toArray) (hz:cE P T=some vs.length)
  (hm:MTake μ (.blk b (cl cs T')) μ') (hl:vs.length=cs.length) (h1:∀ u∈vs,u.oneCell'=true) (h:Wo dr mc P n l K σ ρ G (.blk b (cl vs T') :: μ')):Wo dr mc P n l K (i :: σ) ρ G μ:=by
 refine st ho hx hy hv hz hm (by omega) h1 ?_
 have:put cs 0 vs=vs:=by simp [put,hl]
 rw [this]; exact h
theorem s1 {T T':TypeId} {x y:Operand} {b o:Nat} {v:Value} {cs cs':List Value} {μ':aG} (ho:nth l i=some ⟨none,.store T x y,t,p,af,none⟩) (hx:Ev ρ true x (.pointer (some ⟨b,o,none⟩))) (hy:Ev ρ true y v) (hv:v.oneCell'=true) (hz:cE P T=some 1)
  (hm:MTake μ (.blk b (cl cs T')) μ') (hl:o<cs.length) (hcs:cs.set o v=cs') (h:Wo dr mc P n l K σ ρ G (.blk b (cl cs' T') :: μ')):Wo dr mc P n l K (i :: σ) ρ G μ:=by
 have hv':v.cells=[v].toArray:=by cases v<;>first|rfl | cases hv
 refine st ho hx hy hv' hz hm (by simp only [List.length_singleton]; omega) (fun u hu=>by rw [List.mem_singleton.1 hu]; exact hv) ?_
 have:put cs o [v]=cs':=by rw [← hcs,List.set_eq_take_append_cons_drop,if_pos hl]; simp [put]
 rw [this]; exact h
theorem aF {ρ:aJ} {n:Fm} {c:Bool}:∀ a,Ag n ρ a→c=true→([]:List Operand).map a.eval=[]:=fun _ _ _=>rfl
theorem Eva.cons {ρ:aJ} {n:Fm} {c:Bool} {x:Operand} {v:Value} {ps:List Operand} {vs:List Value} (hx:Ev ρ c x v) (h:∀ a,Ag n ρ a→c=true→ps.map a.eval=vs) :
  ∀ a,Ag n ρ a→c=true→(x :: ps).map a.eval=v :: vs:=fun a ha hc=>by simp [hx.eval ha hc]; simpa using h a ha hc
def aL (P:Program) (f:FuncId):Bool:=match P.funcs[f]? with | some fn => !(fn.name == "runtime.NumGoroutine")&&fn.body.isSome | none=>false
theorem xY {P:Program} {f:FuncId} {vs:Array Value} (hf:aL P f=true) (w:World):(callFunc f vs).run P w=.ok (.enter f vs) w:=by
 unfold aL at hf
 split at hf
 ·rename_i fn h1
  simp only [Bool.and_eq_true,Bool.not_eq_true'] at hf
  unfold callFunc
  cases hb:fn.body with
  | none=>rw [hb] at hf; simp at hf
  | some c =>
   have h2:¬ fn.name = "runtime.NumGoroutine" := by have:=hf.1; simpa using this
   simp [h1,hb,h2]
 ·cases hf
theorem vH {P:Program} {f:FuncId} {xs:List Operand} {tys:Array TypeId} {vs:List Value} {a:Act} (hf:aL P f=true) (hv:xs.map a.eval=vs) (d:Option Nat) (t:TypeId) (p:String) (af:Array Edge) (g:Option (Nat×Bool)) (w:World) :
  (execOp a.eval ⟨d,.call { callee:=.value (.func f),args:=xs.toArray,argTypes:=tys },t,p,af,g⟩).run P w=.ok (.enter f vs.toArray) w:=by
 simp [execOp,resolve,Deferred.ofValue,Act.eval,invoke,xY hf]
 simpa using hv
theorem kv {f:FuncId} {xs:List Operand} {tys:Array TypeId} {vs:List Value} {v:Value} (ho:nth l i=some ⟨some d,.call { callee:=.value (.func f),args:=xs.toArray,argTypes:=tys },t,p,af,g⟩) (hg:Gd l ρ g c) (hf:aL P f=true)
  (hv:∀ a,Ag n ρ a→c=true→xs.map a.eval=vs) (hk:c=true→Ct P f vs.toArray G [] fun _ μ' u=>μ'=[]∧u=v) (h:Wo dr mc P n l K σ ((d,c,v) :: ρ) G μ):Wo dr mc P n l K (i :: σ) ρ G μ :=
 .callv ho (by rcases mc with ⟨_ | _,_⟩<;>simp [bI]) hg (fun hc a w ha=>vH hf (hv a ha hc) _ _ _ _ _ w) (fun hc _ hs=>⟨hs.sub,hk hc⟩) h
structure GpR (G:PM) (μ:aG) (Gp:PM) (Q:Prop):Prop where
 ok:∀ w,Sat G μ w→PM.le G Gp∧Q∧(∀ b o,Gp b=some o→w.heap[b]? = some o)∧∀ b,b∉keys μ→Gp b=G b
theorem kp {f:FuncId} {xs:List Operand} {tys:Array TypeId} {vs:List Value} {v:Value} {Gp:PM} {Q:Prop} (ho:nth l i=some ⟨some d,.call { callee:=.value (.func f),args:=xs.toArray,argTypes:=tys },t,p,af,g⟩) (hg:Gd l ρ g c) (hf:aL P f=true)
  (hv:∀ a,Ag n ρ a→c=true→xs.map a.eval=vs) (hp:GpR G μ Gp Q) (hk:c=true→PM.le G Gp→Q→Ct P f vs.toArray Gp [] fun _ μ' u=>μ'=[]∧u=v) (h:Wo dr mc P n l K σ ((d,c,v) :: ρ) G μ):Wo dr mc P n l K (i :: σ) ρ G μ :=
 .callv ho (by rcases mc with ⟨_ | _,_⟩<;>simp [bI]) hg (fun hc a w ha=>vH hf (hv a ha hc) _ _ _ _ _ w) (fun hc w hs=>⟨(hp.ok w hs).2.2.1,hk hc (hp.ok w hs).1 (hp.ok w hs).2.1⟩) h
theorem Gp.nil {G:PM} {μ:aG}:GpR G μ G True:=⟨fun _ hs=>⟨PM.le.refl G,trivial,hs.sub,fun _ _=>rfl⟩⟩
theorem Gp.add {G G1:PM} {μ μ':aG} {b:Nat} {o:Obj} {Q:Prop} (hm:MTake μ (.blk b o) μ') (h:GpR G μ' G1 Q):GpR G μ (G1.add b o) (PM.le G1 (G1.add b o)∧Q):=by
 refine ⟨fun w hs=>?_⟩
 have hs2:=hs.perm hm.perm
 have hk:keys (.blk b o :: μ')=b :: keys μ':=by simp [keys,Res.keys]
 have hs':Sat G μ' w:=Sat.left (ν:=[.blk b o]) (hs2.perm (List.perm_append_comm (l₁:=[Res.blk b o])))
 obtain ⟨h1,h2,h3,h4⟩:=h.ok w hs'
 have hb:w.heap[b]? = some o:=hs2.own _ (List.mem_cons_self ..)
 have hGb:G b=none:=hs2.apart b (by rw [hk]; exact List.mem_cons_self ..)
 have hnb:b∉keys μ':=by have:=hs2.nodup; rw [hk] at this; exact (List.nodup_cons.1 this).1
 have hle:PM.le G1 (G1.add b o):=PM.le_add (by rw [h4 b hnb]; exact hGb)
 refine ⟨h1.trans hle,⟨hle,h2⟩,fun c u hc=>?_,fun c hc=>?_⟩
 ·unfold PM.add at hc
  split at hc
  ·rename_i e; subst e; cases hc; exact hb
  exact h3 c u hc
 have hc':c≠b∧c∉keys μ':=by
  have h5:c∉b :: keys μ':=fun hm'=>hc ((xG hm.perm).mem_iff.2 (by rw [hk]; exact hm'))
  simpa using h5
 unfold PM.add
 rw [if_neg hc'.1]
 exact h4 c hc'.2
theorem kc {f:FuncId} {xs:List Operand} {tys:Array TypeId} {vs:List Value} {post:PM→aG→Value→Prop} {dd:Option Nat} (ho:nth l i=some ⟨dd,.call { callee:=.value (.func f),args:=xs.toArray,argTypes:=tys },t,p,af,none⟩) (hf:aL P f=true)
  (hv:∀ a,Ag n ρ a→true=true→xs.map a.eval=vs) (hk:Ct P f vs.toArray G [] post) (h:∀ v G' μ',PM.le G G'→post G' μ' v→Wo dr mc P n l K σ (cS ρ dd true v) G' (μ'++μ)):Wo dr mc P n l K (i :: σ) ρ G μ :=
 .call ho (by rcases mc with ⟨_ | _,_⟩<;>simp [bI]) .no (fun a w ha=>vH hf (hv a ha rfl) _ _ _ _ _ w) hk h
theorem ka {f:FuncId} {xs:List Operand} {tys:Array TypeId} {vs:List Value} {μ₁ μ₂:aG} {post:PM→aG→Value→Prop} {dd:Option Nat} (ho:nth l i=some ⟨dd,.call { callee:=.value (.func f),args:=xs.toArray,argTypes:=tys },t,p,af,none⟩) (hm:mc.c=true∨dr=false) (hf:aL P f=true)
  (hv:∀ a,Ag n ρ a→true=true→xs.map a.eval=vs) (hp:μ.Perm (μ₁++μ₂)) (hk:Ct P f vs.toArray G μ₁ post) (h:∀ v G' μ',PM.le G G'→post G' μ' v→Wo dr mc P n l K σ (cS ρ dd true v) G' (μ'++μ₂)):Wo dr mc P n l K (i :: σ) ρ G μ :=
 .act ho (by rcases hm with h|rfl<;>simp_all [bI]) .no hp (fun a w ha _=>.inr ⟨f,_,vH hf (hv a ha rfl) _ _ _ _ _ w,hk⟩) h
theorem nG {f:FuncId} {xs:List Operand} {tys:Array TypeId} {vs:List Value} {μ₁ μ₂:aG} {post:PM→aG→Value→Prop} {dd:Option Nat} (ho:nth l i=some ⟨dd,.call { callee:=.value (.func f),args:=xs.toArray,argTypes:=tys },t,p,af,g⟩) (hg:Gd l ρ g true) (hm:mc.c=true∨dr=false) (hf:aL P f=true)
  (hv:∀ a,Ag n ρ a→true=true→xs.map a.eval=vs) (hp:μ.Perm (μ₁++μ₂)) (hk:Ct P f vs.toArray G μ₁ post) (h:∀ v G' μ',PM.le G G'→post G' μ' v→Wo dr mc P n l K σ (cS ρ dd true v) G' (μ'++μ₂)):Wo dr mc P n l K (i :: σ) ρ G μ :=
 .act ho (by rcases hm with h|rfl<;>simp_all [bI]) hg hp (fun a w ha _=>.inr ⟨f,_,vH hf (hv a ha rfl) _ _ _ _ _ w,hk⟩) h
end
theorem mV {dr:Bool} {mc:Md} {P:Program} {n:Fm} {l:List Oper} {K:aJ→PM→aG→Prop} {i:Nat} {σ:List Nat} {ρ:aJ} {G:PM} {μ:aG} {d t:Nat} {p:String} {af:Array Edge} {x:Operand} {v:Value} (ho:nth l i=some ⟨some d,.move x,t,p,af,none⟩) (hx:ev ρ x=some (true,v)) (h:Wo dr mc P n l K σ ((d,true,v) :: ρ) G μ):Wo dr mc P n l K (i :: σ) ρ G μ:=mv ho .no (.u hx) h
theorem aS {dr:Bool} {mc:Md} {P:Program} {n:Fm} {l:List Oper} {K:aJ→PM→aG→Prop} {i:Nat} {σ:List Nat} {ρ:aJ} {G:PM} {μ:aG} {d t:Nat} {p:String} {af:Array Edge} {x:Operand} {v:Value} (ho:nth l i=some ⟨some d,.assign x,t,p,af,none⟩) (hx:ev ρ x=some (true,v)) (h:Wo dr mc P n l K σ ((d,true,v) :: ρ) G μ):Wo dr mc P n l K (i :: σ) ρ G μ:=asg ho .no (.u hx) h
theorem aB {ρ:aJ} {n:Fm} {c:Bool} {x:Operand} {v:Value} {ps:List Operand} {vs:List Value} (hx:ev ρ x=some (true,v)) (h:∀ a,Ag n ρ a→c=true→ps.map a.eval=vs):∀ a,Ag n ρ a→c=true→(x :: ps).map a.eval=v :: vs:=Eva.cons (.u hx) h
theorem cP {dr:Bool} {mc:Md} {P:Program} {n:Fm} {l:List Oper} {K:aJ→PM→aG→Prop} {i:Nat} {σ:List Nat} {ρ:aJ} {G:PM} {μ:aG} {d t:Nat} {p:String} {af:Array Edge} {op:BinOp} {T T':TypeId} {x y:Operand} {k:IntKind} {a1 a2:Int} {r:Bool} (ho:nth l i=some ⟨some d,.binOp op T x y T',t,p,af,none⟩) (hx:ev ρ x=some (true,.int k a1)) (hy:ev ρ y=some (true,.int k a2)) (hr:aBn op a1 a2=some r) (h:Wo dr mc P n l K σ ((d,true,.bool r) :: ρ) G μ):Wo dr mc P n l K (i :: σ) ρ G μ:=cp ho .no (.u hx) (.u hy) hr h
theorem fZ {dr:Bool} {mc:Md} {P:Program} {n:Fm} {l:List Oper} {K:aJ→PM→aG→Prop} {i:Nat} {σ:List Nat} {ρ:aJ} {G:PM} {μ:aG} {d t:Nat} {p:String} {af:Array Edge} {s f k:Nat} {x:Operand} {b:Nat} (ho:nth l i=some ⟨some d,.fieldAddr s x f,t,p,af,none⟩) (hF:aT P s f=some k) (hx:ev ρ x=some (true,.pointer (some ⟨b,0,none⟩))) (h:Wo dr mc P n l K σ ((d,true,.pointer (some ⟨b,k,none⟩)) :: ρ) G μ):Wo dr mc P n l K (i :: σ) ρ G μ:=fz ho .no hF (.u hx) h
theorem fA {dr:Bool} {mc:Md} {P:Program} {n:Fm} {l:List Oper} {K:aJ→PM→aG→Prop} {i:Nat} {σ:List Nat} {ρ:aJ} {G:PM} {μ:aG} {d t:Nat} {p:String} {af:Array Edge} {s f k:Nat} {x:Operand} {b o:Nat} (ho:nth l i=some ⟨some d,.fieldAddr s x f,t,p,af,none⟩) (hF:aT P s f=some k) (hx:ev ρ x=some (true,.pointer (some ⟨b,o,none⟩))) (h:Wo dr mc P n l K σ ((d,true,.pointer (some ⟨b,o+k,none⟩)) :: ρ) G μ):Wo dr mc P n l K (i :: σ) ρ G μ:=fa ho .no hF (.u hx) h
theorem lO {dr:Bool} {mc:Md} {P:Program} {n:Fm} {l:List Oper} {K:aJ→PM→aG→Prop} {i:Nat} {σ:List Nat} {ρ:aJ} {G:PM} {μ:aG} {d t:Nat} {p:String} {af:Array Edge} {T:TypeId} {x:Operand} {b off:Nat} {cs:List Value} {T':TypeId} {v:Value} {μ':aG} (ho:nth l i=some ⟨some d,.load T x,t,p,af,none⟩) (hT:bT P T=some none) (hx:ev ρ x=some (true,.pointer (some ⟨b,off,none⟩))) (hm:MTake μ (.blk b (cl cs T')) μ') (hv:cs[off]? = some v) (h:Wo dr mc P n l K σ ((d,true,v) :: ρ) G μ):Wo dr mc P n l K (i :: σ) ρ G μ:=ld ho .no hT (.u hx) (fun _=>Rd.own hm hv) h
theorem lN {dr:Bool} {mc:Md} {P:Program} {n:Fm} {l:List Oper} {K:aJ→PM→aG→Prop} {i:Nat} {σ:List Nat} {ρ:aJ} {G:PM} {μ:aG} {d t:Nat} {p:String} {af:Array Edge} {T:TypeId} {x:Operand} {ad:Addr} {v:Value} (ho:nth l i=some ⟨some d,.load T x,t,p,af,none⟩) (hT:bT P T=some none) (hx:ev ρ x=some (true,.pointer (some ad))) (hr:Rd G μ ad v) (h:Wo dr mc P n l K σ ((d,true,v) :: ρ) G μ):Wo dr mc P n l K (i :: σ) ρ G μ:=ld ho .no hT (.u hx) (fun _=>hr) h
theorem lB {dr:Bool} {mc:Md} {P:Program} {n:Fm} {l:List Oper} {K:aJ→PM→aG→Prop} {i:Nat} {σ:List Nat} {ρ:aJ} {G:PM} {μ:aG} {d t:Nat} {p:String} {af:Array Edge} {T m:TypeId} {x:Operand} {b:Nat} {cs:List Value} {T':TypeId} {μ':aG} (ho:nth l i=some ⟨some d,.load T x,t,p,af,none⟩) (hT:bT P T=some (some m)) (hx:ev ρ x=some (true,.pointer (some ⟨b,0,none⟩))) (hm:MTake μ (.blk b (cl cs T')) μ') (h:Wo dr mc P n l K σ ((d,true,.agg cs.toArray) :: ρ) G μ) (hn:cs.length=m:=by first | exact qE | exact qL | rfl):Wo dr mc P n l K (i :: σ) ρ G μ:=lA ho .no hT (.u hx) (fun _=>RdN.own hm) (fun _=>hn) h
theorem aR {dr:Bool} {mc:Md} {P:Program} {n:Fm} {l:List Oper} {K:aJ→PM→aG→Prop} {i:Nat} {σ:List Nat} {ρ:aJ} {G:PM} {μ:aG} {d t:Nat} {p:String} {af:Array Edge} {op:BinOp} {T T':TypeId} {x y:Operand} {a1 a2 r:Int} (ho:nth l i=some ⟨some d,.binOp op T x y T',t,p,af,none⟩) (hx:ev ρ x=some (true,.int .i64 a1)) (hy:ev ρ y=some (true,.int .i64 a2)) (hr:uL op a1 a2=some r) (h:Wo dr mc P n l K σ ((d,true,.int .i64 r) :: ρ) G μ) (hw : -9223372036854775808≤r∧r≤9223372036854775807:=by omega):Wo dr mc P n l K (i :: σ) ρ G μ:=ar ho .no (.u hx) (.u hy) hr (fun _=>eV (by omega) (by omega)) h
theorem eX {dr:Bool} {mc:Md} {P:Program} {n:Fm} {l:List Oper} {K:aJ→PM→aG→Prop} {i:Nat} {σ:List Nat} {ρ:aJ} {G:PM} {μ:aG} {d t:Nat} {p:String} {af:Array Edge} {x:Operand} {vs:List Value} {j:Nat} {v:Value} (ho:nth l i=some ⟨some d,.extract x j,t,p,af,none⟩) (hx:ev ρ x=some (true,.tuple vs.toArray)) (hv:vs[j]? = some v) (h:Wo dr mc P n l K σ ((d,true,v) :: ρ) G μ):Wo dr mc P n l K (i :: σ) ρ G μ:=ex ho .no (.u hx) hv h
theorem nC {dr:Bool} {mc:Md} {P:Program} {n:Fm} {l:List Oper} {K:aJ→PM→aG→Prop} {i:Nat} {σ:List Nat} {ρ:aJ} {G:PM} {μ:aG} {d t:Nat} {p:String} {af:Array Edge} {x:Operand} {ad:Addr} (ho:nth l i=some ⟨some d,.nilCheck x,t,p,af,none⟩) (hx:ev ρ x=some (true,.pointer (some ad))) (h:Wo dr mc P n l K σ ((d,true,.pointer (some ad)) :: ρ) G μ):Wo dr mc P n l K (i :: σ) ρ G μ:=nc ho .no (.u hx) h
theorem lE {dr:Bool} {mc:Md} {P:Program} {n:Fm} {l:List Oper} {K:aJ→PM→aG→Prop} {i:Nat} {σ:List Nat} {ρ:aJ} {G:PM} {μ:aG} {d t:Nat} {p:String} {af:Array Edge} {T:TypeId} {x:Operand} {oa:Option Addr} {m cp:Nat} (ho:nth l i=some ⟨some d,.call { callee:=.builtin .len,args:=#[x],argTypes:=#[T] },t,p,af,none⟩) (hT:(bJ P T).isSome=true) (hx:ev ρ x=some (true,.slice oa m cp)) (h:Wo dr mc P n l K σ ((d,true,.int .i64 m) :: ρ) G μ):Wo dr mc P n l K (i :: σ) ρ G μ:=ln ho .no hT (.u hx) h
theorem bX {dr:Bool} {mc:Md} {P:Program} {n:Fm} {l:List Oper} {K:aJ→PM→aG→Prop} {i:Nat} {σ:List Nat} {ρ:aJ} {G:PM} {μ:aG} {d t:Nat} {p:String} {af:Array Edge} {T:TypeId} {x:Operand} {v:Value} {cs:List Value} (ho:nth l i=some ⟨some d,.box T x,t,p,af,none⟩) (hx:ev ρ x=some (true,v)) (hv:v.cells=cs.toArray) (h:∀ b,Wo dr mc P n l K σ ((d,true,.pointer (some ⟨b,0,none⟩)) :: ρ) G (.blk b (cl cs T) :: μ)):Wo dr mc P n l K (i :: σ) ρ G μ:=bx ho (.u hx) hv h
theorem kV {dr:Bool} {mc:Md} {P:Program} {n:Fm} {l:List Oper} {K:aJ→PM→aG→Prop} {i:Nat} {σ:List Nat} {ρ:aJ} {G:PM} {μ:aG} {d t:Nat} {p:String} {af:Array Edge} {f:FuncId} {xs:List Operand} {tys:Array TypeId} {vs:List Value} {v:Value} (ho:nth l i=some ⟨some d,.call { callee:=.value (.func f),args:=xs.toArray,argTypes:=tys },t,p,af,none⟩) (hf:aL P f=true) (hv:∀ a,Ag n ρ a→true=true→xs.map a.eval=vs) (hk:Ct P f vs.toArray G [] fun _ μ' u=>μ'=[]∧u=v) (h:Wo dr mc P n l K σ ((d,true,v) :: ρ) G μ):Wo dr mc P n l K (i :: σ) ρ G μ:=kv ho .no hf hv (fun _=>hk) h
theorem iW {dr:Bool} {mc:Md} {P:Program} {n:Fm} {l:List Oper} {K:aJ→PM→aG→Prop} {i:Nat} {σ:List Nat} {ρ:aJ} {G:PM} {μ:aG} {d t:Nat} {p:String} {af:Array Edge} {T m e sz:Nat} {x y:Operand} {k:IntKind} {b o:Nat} {j:Int} (ho:nth l i=some ⟨some d,.indexAddr T x y,t,p,af,none⟩) (hT:fH P T=some (m,e,sz)) (hx:ev ρ x=some (true,.pointer (some ⟨b,o,none⟩))) (hy:ev ρ y=some (true,.int k j)) (h:Wo dr mc P n l K σ ((d,true,.pointer (some ⟨b,o+j.toNat*sz,none⟩)) :: ρ) G μ) (h0:0≤j:=by first | omega | decide) (h1:j<m:=by first | omega | decide):Wo dr mc P n l K (i :: σ) ρ G μ:=iA ho .no hT (.u hx) (.u hy) (fun _=>h0) (fun _=>h1) h
theorem aX {X:Cx} {k:List KI} {ρ:aJ} {G:PM} {μ:aG} {c:Code} {α:Type} (E:α→aJ) (M:α→aG) (F:α→PM→Prop) (m:α→Nat) (x0:α) (ρc:aJ) (μc:aG) (hE:ESub (E x0++ρc) ρ) (hM:MSub (M x0++μc) μ) (hF:F x0 G)
  (round:∀ x N G',m x=N→PM.le G G'→F x G'→Wk X c (.lp (fun a w=>∃ y,m y<N∧Inv X G (fun x=>E x++ρc) (fun x=>M x++μc) F y a w) :: k) (E x++ρc) G' (M x++μc)):Wk X (.loop c) k ρ G μ :=
 Wk.loop (fun x=>E x++ρc) (fun x=>M x++μc) F m x0 hF hE hM fun x G' hle hF=>round x (m x) G' rfl hle hF
theorem aU {X:Cx} {k:List KI} {ρ:aJ} {G:PM} {μ:aG} {α:Type} {Gs:PM} {E:α→aJ} {M:α→aG} {F:α→PM→Prop} {m:α→Nat} {N:Nat} {ρc:aJ} {μc:aG} (y:α) (hE:ESub (E y++ρc) ρ) (hM:MSub (M y++μc) μ) (hm:m y<N) (hle:PM.le Gs G) (hF:F y G) :
  We X .normal (.lp (fun a w=>∃ y,m y<N∧Inv X Gs (fun x=>E x++ρc) (fun x=>M x++μc) F y a w) :: k) ρ G μ :=
 ⟨fun _ _ ha ht=>⟨y,hm,⟨G,hle,hF,ha.sub hE,hM.tr ht⟩⟩⟩
theorem gK {X:Cx} {k:List KI} {ρ:aJ} {G:PM} {μ:aG} {x y:Code} {cd:Operand} {b:Bool} (hc:ev ρ cd=some (true,.bool b)) (hb:b=true) (h:Wk X x k ρ G μ):Wk X (.cond cd x y) k ρ G μ :=
 Wk.cond hc (fun _=>h) (fun h'=>by rw [hb] at h'; cases h')
theorem dM {X:Cx} {k:List KI} {ρ:aJ} {G:PM} {μ:aG} {x y:Code} {cd:Operand} {b:Bool} (hc:ev ρ cd=some (true,.bool b)) (hb:b=false) (h:Wk X y k ρ G μ):Wk X (.cond cd x y) k ρ G μ :=
 Wk.cond hc (fun h'=>by rw [hb] at h'; cases h') (fun _=>h)
theorem Wk.rg {X:Cx} {k:List KI} {ρ:aJ} {G:PM} {μ:aG} {id:Nat} {l:List Oper} (σ:List Nat) (hσ:List.range l.length=σ) (hds:iG X.n l=true) (h:Wo false ⟨false,false⟩ X.P X.n l (fun ρ G μ=>We X .normal k ρ G μ) σ ρ G μ) :
  Wk X (.region id l.toArray false) k ρ G μ:=Wk.region hds (hσ▸h)
theorem RdNP.z {G:PM} {b k:Nat} {cs:List Value} {v:Value} (h:RdNP G b 0 cs) (hk:cs[k]? = some v):RdP G ⟨b,k,none⟩ v:=by have:=h k v hk; rwa [Nat.zero_add] at this
structure Sh where
 oa:Option Addr
 cap:Nat
def Sh.b (h:Sh):Nat:=(h.oa.getD ⟨0,0,none⟩).block
def Sh.o (h:Sh):Nat:=(h.oa.getD ⟨0,0,none⟩).off
def Sh.val (h:Sh) (n:Nat):Value:=.slice h.oa n h.cap
structure SlR {α:Type} (G:PM) (sz:Nat) (enc:α→List Value) (h:Sh) (xs:List α):Prop where
 there:xs≠[]→h.oa=some ⟨h.b,h.o,none⟩
 le:xs.length≤h.cap
 rd:∀ i x,xs[i]? = some x→RdNP G h.b (h.o+i*sz) (enc x)
theorem SlR.mono {α:Type} {G G':PM} {sz:Nat} {enc:α→List Value} {h:Sh} {xs:List α} (s:SlR G sz enc h xs) (hle:PM.le G G'):SlR G' sz enc h xs :=
 ⟨s.there,s.le,fun i x hx=>(s.rd i x hx).mono hle⟩
theorem SlR.nn {α:Type} {G:PM} {sz:Nat} {enc:α→List Value} {h:Sh} {xs:List α} (s:SlR G sz enc h xs) {k:Nat} (hk:k<xs.length):h.oa=some ⟨h.b,h.o,none⟩:=s.there (fun e=>by subst e; simp at hk)
theorem SlR.at {α:Type} {G:PM} {sz:Nat} {enc:α→List Value} {h:Sh} {xs:List α} (s:SlR G sz enc h xs) {j:Int} {k:Nat} {x:α} (hj:j.toNat=k) (hx:xs[k]? = some x):RdNP G h.b (h.o+j.toNat*sz) (enc x):=by
 subst hj; exact s.rd _ x hx
theorem SlR.nul {α:Type} {G:PM} {sz:Nat} {enc:α→List Value}:SlR G sz enc ⟨Option.none,0⟩ ([]:List α):=⟨fun h=>absurd rfl h,by simp,fun i x h=>by simp at h⟩
section
variable {dr:Bool} {mc:Md} {P:Program} {n:Fm} {l:List Oper} {K:aJ→PM→aG→Prop} {i:Nat} {σ:List Nat} {ρ:aJ} {G:PM} {μ:aG}
variable {d t:Nat} {p:String} {af:Array Edge} {g:Option (Nat×Bool)} {c:Bool}
theorem ih {T e sz by':Nat} {x y:Operand} {k:IntKind} {s:Sh} {m:Nat} {j:Int} (ho:nth l i=some ⟨some d,.indexAddr T x y,t,p,af,g⟩) (hg:Gd l ρ g c) (hT:bJ P T=some (e,sz,by')) (hx:Ev ρ c x (s.val m)) (hy:Ev ρ c y (.int k j))
  (h0:c=true→0≤j) (h1:c=true→j<m) (hn:c=true→s.oa=some ⟨s.b,s.o,none⟩) (h:Wo dr mc P n l K σ ((d,c,.pointer (some ⟨s.b,s.o+j.toNat*sz,none⟩)) :: ρ) G μ):Wo dr mc P n l K (i :: σ) ρ G μ :=
 .pure ho (.inl rfl) hg (fun hc a w ha=>by
  obtain ⟨hu,inf,hi,rfl,rfl⟩:=fG hT
  have hx':=hx.eval ha hc
  simp only [Sh.val] at hx'
  rw [hn hc] at hx'
  simp [execOp,hx',hy.eval ha hc,Instr.indexAt,asIntOf,run_underlying hu,h0 hc,h1 hc,sizeOf,typeInfo,hi,jB]) h
def Sh.cut (s:Sh) (lo sz:Nat):Sh:=⟨if s.cap=lo then s.oa else s.oa.map (·.add (lo*sz)),s.cap-lo⟩
theorem scn {T e sz by' q:Nat} {x y z:Operand} {k k':IntKind} {s:Sh} {m:Nat} {lo hi:Int} (ho:nth l i=some ⟨some d,.slice T x (some y) (some z) none,t,p,af,g⟩) (hg:Gd l ρ g c) (hT:bJ P T=some (e,sz,by')) (hx:Ev ρ c x (s.val m)) (hy:Ev ρ c y (.int k lo)) (hz:Ev ρ c z (.int k' hi))
  (h0:c=true→0≤lo) (h1:c=true→lo≤hi) (h2:c=true→hi≤s.cap) (hq:c=true→hi.toNat-lo.toNat=q) (h:Wo dr mc P n l K σ ((d,c,(s.cut lo.toNat sz).val q) :: ρ) G μ):Wo dr mc P n l K (i :: σ) ρ G μ :=
 .pure ho (.inl rfl) hg (fun hc a w ha=>by
  obtain ⟨hu,inf,hi',rfl,rfl⟩:=fG hT
  have hx':=hx.eval ha hc
  simp only [Sh.val] at hx'
  have:=h0 hc; have:=h1 hc; have:=h2 hc
  rw [← hq hc]
  simp [execOp,hx',hy.eval ha hc,hz.eval ha hc,Instr.sliceAt,run_underlying hu,Instr.slice,Instr.sliceBounds,Instr.sliceBound,asIntOf,show 0≤hi by omega,h0 hc,h2 hc,sizeOf,typeInfo,hi',Sh.val,Sh.cut]
  intro hlt; exfalso; omega) h
theorem ix {T m e:Nat} {x y:Operand} {k:IntKind} {cs:List Value} {j:Int} {v:Value} (ho:nth l i=some ⟨some d,.index T x y,t,p,af,g⟩) (hg:Gd l ρ g c) (hT:fH P T=some (m,e,1)) (hE:bT P e=some none) (hx:Ev ρ c x (.agg cs.toArray)) (hy:Ev ρ c y (.int k j))
  (h0:c=true→0≤j) (h1:c=true→j<m) (hv:c=true→cs[j.toNat]? = some v) (h:Wo dr mc P n l K σ ((d,c,v) :: ρ) G μ):Wo dr mc P n l K (i :: σ) ρ G μ :=
 .pure ho (.inl rfl) hg (fun hc a w ha=>by
  obtain ⟨hu,inf,hi,hs⟩:=sK hT
  simp [execOp,hx.eval ha hc,hy.eval ha hc,Instr.index,asIntOf,run_underlying hu,h0 hc,h1 hc,sizeOf,typeInfo,hi,hs,part,aGo hE,hv hc]) h
theorem mA {T T':TypeId} {x y:Operand} {k:IntKind} {a1 a2:Int} (ho:nth l i=some ⟨some d,.call { callee:=.builtin .max,args:=#[x,y],argTypes:=#[T,T'] },t,p,af,g⟩) (hg:Gd l ρ g c) (hx:Ev ρ c x (.int k a1)) (hy:Ev ρ c y (.int k a2))
  (h:Wo dr mc P n l K σ ((d,c,.int k (if a2 > a1 then a2 else a1)) :: ρ) G μ):Wo dr mc P n l K (i :: σ) ρ G μ :=
 .read ho (.inl rfl) hg (fun hc a w ha _=>by
  simp [execOp,resolve,invoke,builtin,hx.eval ha hc,hy.eval ha hc,Builtin.max_,Builtin.max2]) h
theorem mI {T T':TypeId} {x y:Operand} {k:IntKind} {a1 a2:Int} (ho:nth l i=some ⟨some d,.call { callee:=.builtin .min,args:=#[x,y],argTypes:=#[T,T'] },t,p,af,g⟩) (hg:Gd l ρ g c) (hx:Ev ρ c x (.int k a1)) (hy:Ev ρ c y (.int k a2))
  (h:Wo dr mc P n l K σ ((d,c,.int k (if a2<a1 then a2 else a1)) :: ρ) G μ):Wo dr mc P n l K (i :: σ) ρ G μ :=
 .read ho (.inl rfl) hg (fun hc a w ha _=>by
  simp [execOp,resolve,invoke,builtin,hx.eval ha hc,hy.eval ha hc,Builtin.min_,Builtin.min2]) h
theorem kf {f:FuncId} {fv:Operand} {xs:List Operand} {tys:Array TypeId} {vs vc:List Value} {v:Value} (ho:nth l i=some ⟨some d,.call { callee:=.value fv,args:=xs.toArray,argTypes:=tys },t,p,af,g⟩) (hg:Gd l ρ g c) (hfv:Ev ρ c fv (.func (.func f) #[] vc.toArray)) (hf:aL P f=true)
  (hv:∀ a,Ag n ρ a→c=true→xs.map a.eval=vs) (hk:c=true→Ct P f (vs++vc).toArray G [] fun _ μ' u=>μ'=[]∧u=v) (h:Wo dr mc P n l K σ ((d,c,v) :: ρ) G μ):Wo dr mc P n l K (i :: σ) ρ G μ :=
 .callv ho (by rcases mc with ⟨_ | _,_⟩<;>simp [bI]) hg (fun hc a w ha=>by
  have h1:=hv a ha hc
  simp [execOp,resolve,Deferred.ofValue,hfv.eval ha hc,invoke,xY hf]
  rw [← h1]) (fun hc _ hs=>⟨hs.sub,hk hc⟩) h
theorem Sat.mapOf {b:Nat} {q:IntKind} {m:Int→Option Value} {μ':aG} {w:World} (hs:Sat G μ w) (hm:MTake μ (.mp b q m) μ'):∃ es clock,w.heap[b]? = some (.map es clock)∧qW q es.toList∧∀ k,gZ q es.toList k=m k :=
 hs.own (.mp b q m) (hm.perm.mem_iff.2 (List.mem_cons_self ..))
theorem aEF {q:IntKind} {k:Int}:∀ (es:List MapEntry) (i:Nat),qW q es →
  ∃ r,Instr.findNow (.int q) (.int q k) es i=some r∧r.map (·.2)=gZ q es k∧∀ j v,r=some (j,v)→i≤j∧∃ e,es[j-i]? = some e∧e.key=.int q k∧e.val=v
 | [],i,_=>⟨none,rfl,rfl,fun _ _ h=>by cases h⟩
 | e :: es,i,h=>by
  obtain ⟨a,ha⟩:=h e (List.mem_cons_self ..)
  by_cases hk:a=k
  ·subst hk
   refine ⟨some (i,e.val),by simp [Instr.findNow,Instr.sameNow,ha],by simp [gZ,ha],fun j v hj=>?_⟩
   simp only [Option.some.injEq,Prod.mk.injEq] at hj
   obtain ⟨rfl,rfl⟩:=hj
   exact ⟨Nat.le_refl _,e,by simp,ha,rfl⟩
  obtain ⟨r,h1,h2,h3⟩:=aEF (k:=k) es (i+1) (fun e he=>h e (List.mem_cons_of_mem _ he))
  refine ⟨r,?_,?_,fun j v hj=>?_⟩
  ·simp [Instr.findNow,Instr.sameNow,ha,show (k == a)=false by simp; exact fun e=>hk e.symm,h1]
  ·simp [gZ,ha,hk,h2]
  obtain ⟨h4,e',h5,h6⟩:=h3 j v hj
  refine ⟨by omega,e',?_,h6⟩
  rw [show j-i=(j-(i+1))+1 by omega]; simpa using h5
theorem aDw {P:Program} {T:TypeId} {q:IntKind} (hT:P.underlying T=some (.int q)) (e:Bool) (n:Nat) (k:Int) (w:World):(Instr.checkKey e (n+1) T (.int q k)).run P w=.ok () w:=by
 rw [Instr.checkKey]; simp [run_underlying hT]
def mpE (P:Program) (T:TypeId):Option (IntKind×TypeId) :=
 match P.underlying T with
 | some (.map k e)=>match P.underlying k with
  | some (.int q)=>some (q,e)
  | _=>none
 | _=>none
theorem aIo {P:Program} {T e:TypeId} {q:IntKind} (h:mpE P T=some (q,e)):∃ k,P.underlying T=some (.map k e)∧P.underlying k=some (.int q):=by
 unfold mpE at h
 split at h
 ·rename_i k e' hu
  split at h
  ·rename_i q' hk
   simp only [Option.some.injEq,Prod.mk.injEq] at h
   obtain ⟨rfl,rfl⟩:=h
   exact ⟨k,hu,hk⟩
  ·cases h
 ·cases h
theorem mk {T:TypeId} (ho:nth l i=some ⟨some d,.makeMap T none,t,p,af,none⟩) (q:IntKind) (h:∀ b,Wo dr mc P n l K σ ((d,true,.map (some b)) :: ρ) G (.mp b q (fun _=>none) :: μ)):Wo dr mc P n l K (i :: σ) ρ G μ:=by
 refine .act (μ₁:=[]) (μ₂:=μ) (post:=fun G' μ' v=>∃ b,G'=G∧μ'=[.mp b q (fun _=>none)]∧v=.map (some b)) ho (.inl rfl) .no (.refl _) (fun a w ha hs=>.inl ?_) ?_
 ·have h0:Tr G (keys []) w G (.blk w.heap.size (.map #[] 0) :: []) (w.alloc (.map #[] 0)):=(eQ (Sat.left (μ:=[]) hs)).alloc _
  refine ⟨.map (some w.heap.size),w.alloc (.map #[] 0),G,[.mp w.heap.size q (fun _=>none)],.inl (by simp [execOp,Instr.makeMap]),?_,w.heap.size,rfl,rfl,rfl⟩
  refine { h0 with sat:=⟨h0.sat.sub,fun r hr=>?_,h0.sat.apart,h0.sat.nodup⟩,mine:=h0.mine }
  rw [List.mem_singleton.1 hr]
  exact ⟨#[],0,heap_alloc_new w _,fun e he=>by simp at he,fun k=>rfl⟩
 rintro v G' μ'' _ ⟨b,rfl,rfl,rfl⟩
 exact h b
theorem lk {T e:TypeId} {q:IntKind} {x y:Operand} {b:Nat} {m:Int→Option Value} {k:Int} {z:Value} {μ':aG} (ho:nth l i=some ⟨some d,.lookup T x y false,t,p,af,g⟩) (hg:Gd l ρ g c) (hT:mpE P T=some (q,e)) (hz:(P.info? e).bind (·.zero)=some z) (hx:Ev ρ c x (.map (some b))) (hy:Ev ρ c y (.int q k))
  (hm:MTake μ (.mp b q m) μ') {v:Value} (hv:(m k).getD z=v) (h:Wo dr mc P n l K σ ((d,c,v) :: ρ) G μ):Wo dr mc P n l K (i :: σ) ρ G μ :=
 .read ho (.inl rfl) hg (fun hc a w ha hs=>by
  obtain ⟨kt,h1,h2⟩:=aIo hT
  obtain ⟨es,clock,h3,h4,h5⟩:=hs.mapOf hm
  obtain ⟨r,h6,h7,_⟩:=aEF (k:=k) es.toList 0 h4
  have hzv:(zeroValue e).run P w=.ok z w:=by
   cases hi:P.info? e with
   | none=>rw [hi] at hz; cases hz
   | some inf =>
    rw [hi] at hz
    simp only [Option.bind_some] at hz
    simp [zeroValue,typeInfo,hi,hz]
  have hgo:(getObj b).run P w=.ok (.map es clock) w:=by simp [getObj,Sem.run,h3]
  simp only [execOp,hx.eval ha hc,hy.eval ha hc,Instr.lookup,Sem.run_bind,run_underlying h1,Result.andThen_ok,hgo,Sem.run_pure,aDw h2,Instr.findKey,run_underlying h2,h6]
  cases r with
  | none =>
   have h8:gZ q es.toList k=none:=by rw [← h7]; rfl
   simp [hzv,←hv,←h5 k,h8]
  | some jv =>
   obtain ⟨j,v⟩:=jv
   have h8:gZ q es.toList k=some v:=by rw [← h7]; rfl
   simp [← hv,←h5 k,h8]) h
theorem aIh {q:IntKind} {k:Int} {v:Value} {born:Nat}:∀ (es:List MapEntry),qW q es→gZ q es k=none→∀ k',gZ q (es++[⟨.int q k,v,born⟩]) k'=if k'=k then some v else gZ q es k'
 | [],_,_,k'=>by
  simp only [List.nil_append,gZ]
  by_cases h:k'=k
  ·subst h; simp
  ·simp [h,show ¬ k=k' from fun e=>h e.symm]
 | e :: es,h,hn,k'=>by
  obtain ⟨a,ha⟩:=h e (List.mem_cons_self ..)
  have h':qW q es:=fun e he=>h e (List.mem_cons_of_mem _ he)
  simp only [gZ,ha] at hn
  by_cases hk:a=k
  ·simp [hk] at hn
  ·simp only [hk,if_false] at hn
   simp only [List.cons_append,gZ,ha,aIh es h' hn k']
   by_cases h1:a=k'
   ·subst h1; simp [hk]
   ·simp [h1]
theorem aIg {q:IntKind} {k:Int} {v v0:Value}:∀ (es:List MapEntry) (i j:Nat),qW q es→Instr.findNow (.int q) (.int q k) es i=some (some (j,v0)) →
  i≤j∧(∀ k',gZ q (es.modify (j-i) fun e=>{ e with key:=.int q k,val:=v }) k'=if k'=k then some v else gZ q es k')∧qW q (es.modify (j-i) fun e=>{ e with key:=.int q k,val:=v })
 | [],i,j,_,h=>by simp [Instr.findNow] at h
 | e :: es,i,j,ho,h=>by
  obtain ⟨a,ha⟩:=ho e (List.mem_cons_self ..)
  have h':qW q es:=fun e he=>ho e (List.mem_cons_of_mem _ he)
  by_cases hk:a=k
  ·subst hk
   simp only [Instr.findNow,Instr.sameNow,ha,if_true,beq_self_eq_true,Option.some.injEq,Prod.mk.injEq] at h
   obtain ⟨rfl,rfl⟩:=h
   refine ⟨Nat.le_refl _,fun k'=>?_,?_⟩
   ·simp only [Nat.sub_self,List.modify_zero_cons,gZ,ha]
    by_cases h1:k'=a
    ·subst h1; simp
    simp [h1,show ¬ a=k' from fun e=>h1 e.symm]
   simp only [Nat.sub_self,List.modify_zero_cons]
   intro e' he'
   rcases List.mem_cons.1 he' with rfl | he'
   ·exact ⟨a,rfl⟩
   exact h' e' he'
  have hb:(k == a)=false:=by simp; exact fun e=>hk e.symm
  simp only [Instr.findNow,Instr.sameNow,ha,if_true,hb] at h
  obtain ⟨h1,h2,h3⟩:=aIg (v:=v) es (i+1) j h' h
  rw [show j-i=(j-(i+1))+1 by omega]
  refine ⟨by omega,fun k'=>?_,?_⟩
  ·simp only [List.modify_succ_cons,gZ,ha,h2 k']
   by_cases h4:a=k'
   ·subst h4; simp [hk]
   simp [h4]
  simp only [List.modify_succ_cons]
  intro e' he'
  rcases List.mem_cons.1 he' with rfl | he'
  ·exact ⟨a,ha⟩
  exact h3 e' he'
theorem mu {T e:TypeId} {q:IntKind} {x y z:Operand} {b:Nat} {m:Int→Option Value} {k:Int} {v:Value} {μ':aG} (ho:nth l i=some ⟨none,.mapUpdate T x y z,t,p,af,none⟩) (hT:mpE P T=some (q,e)) (hx:Ev ρ true x (.map (some b))) (hy:Ev ρ true y (.int q k)) (hz:Ev ρ true z v)
  (hm:MTake μ (.mp b q m) μ') (h:Wo dr mc P n l K σ ρ G (.mp b q (fun j=>if j=k then some v else m j) :: μ')):Wo dr mc P n l K (i :: σ) ρ G μ:=by
 refine .act (μ₁:=[.mp b q m]) (μ₂:=μ') (post:=fun G' μ' u=>G'=G∧μ'=[.mp b q (fun j=>if j=k then some v else m j)]∧u=undef) ho (.inl rfl) .no hm.perm (fun a w ha hs=>.inl ?_) ?_
 ·have hs':=hs.left
  obtain ⟨es,clock,h3,h4,h5⟩:=hs'.own (.mp b q m) (List.mem_singleton.2 rfl)
  obtain ⟨kt,h1,h2⟩:=aIo hT
  obtain ⟨r,h6,h7,h8⟩:=aEF (k:=k) es.toList 0 h4
  have hgo:(getObj b).run P w=.ok (.map es clock) w:=by simp [getObj,Sem.run,h3]
  have hset:∀ o,(setObj b o).run P w=.ok () { w with heap:=w.heap.setIfInBounds b o }:=fun o=>by simp [setObj,Sem.run,h3]
  have hlt:b<w.heap.size:=(Array.getElem?_eq_some_iff.1 h3).1
  have hG:G b=none:=hs'.apart b (by simp [keys,Res.keys])
  have key:∀ es' clock',qW q es'.toList→(∀ k',gZ q es'.toList k'=if k'=k then some v else m k') →
    Tr G (keys [.mp b q m]) w G [.mp b q (fun j=>if j=k then some v else m j)] { w with heap:=w.heap.setIfInBounds b (.map es' clock') }:=by
   intro es' clock' hok hget
   refine ⟨⟨fun c o hc=>?_,fun r hr=>?_,fun c hc=>?_,by simp [keys,Res.keys]⟩,rfl,rfl,rfl,by simp,fun c _ hc=>⟨?_,rfl⟩,fun c hc=>.inl hc,fun _ _ _ h=>h⟩
   ·show (w.heap.setIfInBounds b _)[c]? = _
    rw [Array.getElem?_setIfInBounds_ne (fun e=>by subst e; rw [hG] at hc; cases hc)]
    exact hs'.sub c o hc
   ·rw [List.mem_singleton.1 hr]
    refine ⟨es',clock',?_,hok,hget⟩
    show (w.heap.setIfInBounds b _)[b]? = _
    simp [hlt]
   ·simp only [keys,Res.keys,List.flatMap_cons,List.flatMap_nil,List.append_nil,List.mem_singleton] at hc
    rw [hc]; exact hG
   show (w.heap.setIfInBounds b _)[c]? = _
   rw [Array.getElem?_setIfInBounds_ne (fun e=>by subst e; exact hc (by simp [keys,Res.keys]))]
  cases r with
  | none =>
   have h9:gZ q es.toList k=none:=by rw [← h7]; rfl
   refine ⟨undef,_,G,_,.inr ⟨?_,rfl⟩,key (es.push ⟨.int q k,v,clock⟩) (clock+1) ?_ ?_,rfl,rfl,rfl⟩
   ·simp only [execOp,hx.eval ha rfl,hy.eval ha rfl,hz.eval ha rfl,Instr.mapUpdate,Sem.run_bind,run_underlying h1,Result.andThen_ok,hgo,Sem.run_pure,aDw h2,Instr.findKey,run_underlying h2,h6,hset]
   ·intro e' he'
    rw [Array.toList_push] at he'
    rcases List.mem_append.1 he' with he' | he'
    ·exact h4 e' he'
    rw [List.mem_singleton.1 he']; exact ⟨k,rfl⟩
   intro k'
   rw [Array.toList_push,aIh es.toList h4 h9 k',h5 k']
  | some jv =>
   obtain ⟨j,v0⟩:=jv
   obtain ⟨_,hg2,hok2⟩:=aIg (v:=v) es.toList 0 j h4 h6
   obtain ⟨_,e',he1,he2,_⟩:=h8 j v0 rfl
   rw [Nat.sub_zero] at hg2 hok2 he1
   have he3:es[j]? = some e':=by simpa using he1
   refine ⟨undef,_,G,_,.inr ⟨?_,rfl⟩,key (es.modify j fun e=>{ e with key:=.int q k,val:=v }) clock ?_ ?_,rfl,rfl,rfl⟩
   ·have hsb:Instr.sameBits 10000 (.int q k) (.int q k)=true:=by rw [Instr.sameBits]; simp
    simp only [execOp,hx.eval ha rfl,hy.eval ha rfl,hz.eval ha rfl,Instr.mapUpdate,Sem.run_bind,run_underlying h1,Result.andThen_ok,hgo,Sem.run_pure,aDw h2,Instr.findKey,run_underlying h2,h6,hset,he3,Option.map_some,Option.getD_some,he2,Instr.keyThatStays,hsb,if_true]
   ·simpa using hok2
   intro k'
   have:=hg2 k'
   rw [h5 k'] at this
   simpa using this
 rintro u G' μ'' _ ⟨rfl,rfl,rfl⟩
 exact h
theorem zQ {G:PM} {w:World} {b:Nat} {cs cs':Array Value} {T:TypeId} (h:Sat G [.blk b (.cells cs T (0,0))] w):Tr G [b] w G [.blk b (.cells cs' T (0,0))] (w.setRow b cs'):=by
 have:=Tr.setRow (cs':=cs'.toList) (h:=(by simpa [cl] using h:Sat G [.blk b (cl cs.toList T)] w))
 simpa [cl] using this
theorem Tr.asRow {G0 G:PM} {K0:List Nat} {w0 w:World} {μ:aG} {b E sz m cap:Nat} {cur:Array Value} {xs:List Value} (h:Tr G0 K0 w0 G (.blk b (.cells cur E (0,0)) :: μ) w) (hl:xs.length=m*sz) (hc:m≤cap) (hm:cap≤maxLen) (hs:cur.size=cap*sz) (ht:cur.toList.take (m*sz)=xs) :
  Tr G0 K0 w0 G (.row (.slice (some ⟨b,0,none⟩) m cap) E sz m xs :: μ) w:=by
 have hk:keys (.row (.slice (some ⟨b,0,none⟩) m cap) E sz m xs :: μ)=keys (.blk b (.cells cur E (0,0)) :: μ):=by simp [keys,Res.keys,Value.ownBlock]
 have hb:w.heap[b]? = some (.cells cur E (0,0)):=h.sat.own _ (List.mem_cons_self ..)
 refine { h with sat:=⟨h.sat.sub,fun r hr=>?_,by rw [hk]; exact h.sat.apart,by rw [hk]; exact h.sat.nodup⟩,mine:=by rw [hk]; exact h.mine }
 rcases List.mem_cons.1 hr with rfl | hr
 ·exact ⟨hl,.inr ⟨b,cap,cur,rfl,Nat.zero_le _,hb,hc,hm,hs,ht⟩⟩
 exact h.sat.own r (List.mem_cons_of_mem _ hr)
theorem Tr.nilRow {G0 G:PM} {K0:List Nat} {w0 w:World} {μ:aG} {E sz:Nat} (h:Tr G0 K0 w0 G μ w):Tr G0 K0 w0 G (.row (.slice none 0 0) E sz 0 [] :: μ) w:=by
 have hk:keys (.row (.slice none 0 0) E sz 0 [] :: μ)=keys μ:=by simp [keys,Res.keys,Value.ownBlock]
 refine { h with sat:=⟨h.sat.sub,fun r hr=>?_,by rw [hk]; exact h.sat.apart,by rw [hk]; exact h.sat.nodup⟩,mine:=by rw [hk]; exact h.mine }
 rcases List.mem_cons.1 hr with rfl | hr
 ·exact World.ownsRow_nil w 0 E sz
 exact h.sat.own r hr
theorem aCo {X:Cx} {cd:Code} {k:List KI} (E sz:Nat) (h:Wk X cd k ρ G (.row (.slice none 0 0) E sz 0 [] :: μ)):Wk X cd k ρ G μ:=⟨fun a w ha ht=>h.out a w ha ht.nilRow⟩
theorem aVM {X:Cx} {e:Exit} {k:List KI} (E sz:Nat) (h:We X e k ρ G (.row (.slice none 0 0) E sz 0 [] :: μ)):We X e k ρ G μ:=⟨fun a w ha ht=>h.out a w ha ht.nilRow⟩
theorem xX {T E ty by' sz:Nat} {v:Value} {m k cp:Nat} {xs news:List Value} {oa:Option Addr} {z:Value} {w:World} (hT:bJ P T=some (E,sz,by')) (hz:(P.info? E).bind (·.zero)=some z) (hzs:z.cells.size=sz)
  (hs:Sat G [.row v E sz m xs] w) (hl:news.length=k*sz) (hr:0<k→∃ b o,oa=some ⟨b,o,none⟩∧∀ j u,news[j]? = some u→w.cell? ⟨b,o+j,none⟩=some u) (h1:∀ u∈news,u.oneCell'=true) (hb:(m+k)*by'≤140737488355328) (h63:m+k≤maxLen) :
  ∃ v' w',(Builtin.append_ #[T,T] ty #[v,.slice oa k cp]).run P w=.ok v' w'∧Tr G (keys [.row v E sz m xs]) w G [.row v' E sz (m+k) (xs++news)] w':=by
 obtain ⟨hu,inf,hi,rfl,rfl⟩:=fG hT
 rw [hi] at hz
 simp only [Option.bind_some] at hz
 have hown:w.ownsRow 0 E inf.size v m xs:=hs.own _ (List.mem_singleton.2 rfl)
 have hbegin:=eQ hs
 have hsmall:m+k≤9223372036854775807:=by simp only [maxLen] at h63; omega
 by_cases hk:k=0
 ·
  subst hk
  have hn:news=[]:=List.eq_nil_of_length_eq_zero (by simpa using hl)
  subst hn
  refine ⟨v,w,?_,by simpa using hbegin⟩
  rcases hown.2 with ⟨rfl,rfl⟩ | ⟨g,cap,cur,rfl,_,hg,hnc,_,_,_⟩
  ·cases oa<;>simp [Builtin.append_,run_underlying hu,sizeOf,typeInfo,hi,Builtin.lenOf,Builtin.firstCells,loadCells,loadCellsFrom]
  cases oa<;>simp [Builtin.append_,run_underlying hu,sizeOf,typeInfo,hi,Builtin.lenOf,Builtin.firstCells,loadCells,loadCellsFrom,hnc,storeCells]
 obtain ⟨b,o,rfl,hcell⟩:=hr (by omega)
 have hnews:∀ j u,news[j]? = some u→w.cell? ((⟨b,o,none⟩ : Addr).add j)=some u:=fun j u hj=>by rw [jB]; exact hcell j u hj
 have hlen:(xs++news).length=(m+k)*inf.size:=by rw [List.length_append,hown.1,hl,Nat.add_mul]
 have fresh:∀ (old:Nat),Tr G (keys [.row v E inf.size m xs]) w G [.row (.slice (some ⟨w.heap.size,0,none⟩) (m+k) (grownCap w (m+k) old E)) E inf.size (m+k) (xs++news)]
   (w.drew.alloc (.cells (xs.toArray++news.toArray++Builtin.zeroCells z.cells (grownCap w (m+k) old E-(m+k))) E)):=by
  intro old
  have h2:=(hbegin.drew).alloc (.cells (xs.toArray++news.toArray++Builtin.zeroCells z.cells (grownCap w (m+k) old E-(m+k))) E)
  have h3:Tr G (keys [.row v E inf.size m xs]) w G [.blk w.heap.size (.cells (xs.toArray++news.toArray++Builtin.zeroCells z.cells (grownCap w (m+k) old E-(m+k))) E)] _:=Tr.left (ν:=[.row v E inf.size m xs]) h2
  have hge:=grownCap_ge w (m+k) old E
  refine h3.asRow hlen hge (grownCap_le_maxLen w (m+k) old E h63) ?_ ?_
  ·simp only [Array.size_append,List.size_toArray,size_zeroCells,hzs,hown.1,hl,←Nat.add_mul]
   congr 1
   omega
  simp only [Array.toList_append,List.append_assoc]
  rw [← List.append_assoc,←hlen]
  exact List.take_left
 rcases hown.2 with ⟨rfl,rfl⟩ | ⟨g,cap,cur,rfl,_,hg,hnc,hcm,hcs,htake⟩
 ·have hx:xs=[]:=List.eq_nil_of_length_eq_zero (by simpa using hown.1)
  subst hx
  have hrun:=run_append_nil (P:=P) w T ty E inf z hu hi hz ⟨b,o,none⟩ k cp news hl hnews (by omega) (by omega) (by have hb':=hb; simp only [Nat.zero_add] at hb'; omega)
  have hf:=fresh 0
  simp only [Nat.zero_add,List.nil_append,Array.empty_append] at hf ⊢
  exact ⟨_,_,hrun,hf⟩
 by_cases hroom:m+k≤cap
 ·have hfit:m*inf.size+news.length≤cur.size:=by rw [hl,hcs,←Nat.add_mul]; exact Nat.mul_le_mul_right _ hroom
  have hrun:=run_append_room (P:=P) w T ty E inf hu hi g m cap cur hg ⟨b,o,none⟩ k cp news hl hnews h1 hroom hfit
  have hsat:Sat G [.blk g (.cells cur E (0,0))] w:=⟨hs.sub,fun r hr=>by rw [List.mem_singleton.1 hr]; exact hg,fun c hc=>hs.apart c (by simpa [keys,Res.keys,Value.ownBlock] using hc),by simp [keys,Res.keys]⟩
  refine ⟨_,_,hrun,?_⟩
  have h2:=zQ (cs':=(cur.toList.take (m*inf.size)++news++cur.toList.drop (m*inf.size+news.length)).toArray) hsat
  have h3:=h2.asRow (m:=m+k) (cap:=cap) (sz:=inf.size) (xs:=xs++news) hlen hroom hcm ?_ ?_
  ·simpa [keys,Res.keys,Value.ownBlock] using h3
  ·simp only [List.size_toArray,qlB,Array.length_toList]
   omega
  rw [htake,←hlen]
  exact List.take_left
 have holds:∀ j u,xs[j]? = some u→w.cell? ((⟨g,0,none⟩ : Addr).add j)=some u:=hown.cells (g:=g) rfl
 have hrun:=run_append_grow (P:=P) w T ty E inf z hu hi hz ⟨g,0,none⟩ m cap xs hown.1 holds ⟨b,o,none⟩ k cp news hl hnews (by omega) (by omega) (growslice_fits (by omega) hb)
 exact ⟨_,_,hrun,fresh cap⟩
theorem ap {T E sz by':Nat} {x y:Operand} {v z:Value} {m k cp:Nat} {xs news:List Value} {oa:Option Addr} {μ':aG} (ho:nth l i=some ⟨some d,.call { callee:=.builtin .append,args:=#[x,y],argTypes:=#[T,T] },t,p,af,none⟩)
  (hT:bJ P T=some (E,sz,by')) (hz:(P.info? E).bind (·.zero)=some z) (hzs:z.cells.size=sz) (hx:Ev ρ true x v) (hy:Ev ρ true y (.slice oa k cp)) (hm:MTake μ (.row v E sz m xs) μ') (hl:news.length=k*sz)
  (hr:0<k→∃ b o,oa=some ⟨b,o,none⟩∧RdN G μ b o news) (h1:∀ u∈news,u.oneCell'=true) (hb:(m+k)*by'≤140737488355328) (h63:m+k≤maxLen)
  (h:∀ v',Wo dr mc P n l K σ ((d,true,v') :: ρ) G (.row v' E sz (m+k) (xs++news) :: μ')) (hmc:mc.a=false∨dr=false:=by first|exact .inl rfl|exact .inr rfl):Wo dr mc P n l K (i :: σ) ρ G μ:=by
 refine .act (μ₁:=[.row v E sz m xs]) (μ₂:=μ') (post:=fun G' μ' v'=>G'=G∧μ'=[.row v' E sz (m+k) (xs++news)]) ho (by rcases hmc with h | h<;>simp [bI,h]) .no hm.perm (fun a w ha hs=>.inl ?_) ?_
 ·obtain ⟨v',w',hrun,ht⟩:=xX (ty:=t) (cp:=cp) hT hz hzs hs.left hl (fun hk=>by
   obtain ⟨b,o,h1,h2⟩:=hr hk
   exact ⟨b,o,h1,fun j u hj=>h2 j u hj w (hs.perm hm.perm.symm)⟩) h1 hb h63
  exact ⟨v',w',G,_,.inl (by simp [execOp,resolve,invoke,builtin,hx.eval ha rfl,hy.eval ha rfl,hrun]),ht,rfl,rfl⟩
 rintro v' G' μ'' _ ⟨rfl,rfl⟩
 exact h v'
def sL (P:Program) (T len:Nat) (parts:List (Nat×Value)):Option (List Value) :=
 match P.underlying T with
 | some (.slice e)=>match P.info? e with
  | some i=>match i.zero with
   | some z=>if len*i.size > 2^24∨len*i.size=0 then none else
    (Instr.fill (fun j=>some (j*i.size,i.size)) ((Array.range (len*i.size)).map (z.cells[·%z.cells.size]!)) parts).map (·.toList)
   | none=>none
  | none=>none
 | _=>none
theorem bSg {T E sz by' len:Nat} {ps:List (Nat×Operand)} {vs:List (Nat×Value)} {cs:List Value} (ho:nth l i=some ⟨some d,.buildSlice T len ps.toArray,t,p,af,g⟩) (hg:Gd l ρ g true) (hT:bJ P T=some (E,sz,by')) (hv:∀ a,Ag n ρ a→true=true→ps.map (fun q=>(q.1,a.eval q.2))=vs) (hb:sL P T len vs=some cs)
  (h:∀ b,Wo dr mc P n l K σ ((d,true,.slice (some ⟨b,0,none⟩) len len) :: ρ) G (.blk b (cl cs E) :: μ)):Wo dr mc P n l K (i :: σ) ρ G μ :=
 .box (ob:=cl cs E) (mkv:=fun b=>.slice (some ⟨b,0,none⟩) len len) ho (.inl rfl) hg (fun a w ha=>by
  obtain ⟨hu,inf,hi,hs1,_⟩:=fG hT
  have h1:=hv a ha rfl
  simp only [sL,hu,hi] at hb
  cases hz:inf.zero with
  | none=>rw [hz] at hb; cases hb
  | some z =>
   rw [hz] at hb
   simp only at hb
   split at hb
   ·cases hb
   ·rename_i hle
    simp only [not_or] at hle
    obtain ⟨hle,h0⟩:=hle
    cases hf:Instr.fill (fun j=>some (j*inf.size,inf.size)) ((Array.range (len*inf.size)).map (z.cells[·%z.cells.size]!)) vs with
    | none=>rw [hf] at hb; cases hb
    | some r =>
     rw [hf] at hb
     simp only [Option.map_some,Option.some.injEq] at hb
     subst hb
     simp [execOp,Instr.buildSlice,run_underlying hu,sizeOf,typeInfo,hi,h0,hle,zeroValue,hz,hf,h1,newRow,cl]) h
theorem bS {T E sz by' len:Nat} {ps:List (Nat×Operand)} {vs:List (Nat×Value)} {cs:List Value} (ho:nth l i=some ⟨some d,.buildSlice T len ps.toArray,t,p,af,none⟩) (hT:bJ P T=some (E,sz,by')) (hv:∀ a,Ag n ρ a→true=true→ps.map (fun q=>(q.1,a.eval q.2))=vs) (hb:sL P T len vs=some cs)
  (h:∀ b,Wo dr mc P n l K σ ((d,true,.slice (some ⟨b,0,none⟩) len len) :: ρ) G (.blk b (cl cs E) :: μ)):Wo dr mc P n l K (i :: σ) ρ G μ:=bSg ho .no hT hv hb h
theorem sN {v:Value} (h:v.oneCell'=true):v.cells = #[v]:=by cases v<;>first|rfl | cases h
theorem aTv:∀ (ws:List Value) (cs:List Value) (o:Nat),o+ws.length≤cs.length →
  ((ws.zipIdx 0).foldl (fun (a:Array Value) (x:Value×Nat)=>a.setIfInBounds (o+x.2) x.1) cs.toArray)=(cs.take o++ws++cs.drop (o+ws.length)).toArray:=by
 have key:∀ (ws:List Value) (cs:List Value) (o j:Nat),o+j+ws.length≤cs.length →
   ((ws.zipIdx j).foldl (fun (a:Array Value) (x:Value×Nat)=>a.setIfInBounds (o+x.2) x.1) cs.toArray)=(cs.take (o+j)++ws++cs.drop (o+j+ws.length)).toArray:=by
  intro ws
  induction ws with
  | nil=>intro cs o j h; simp
  | cons w ws ih =>
   intro cs o j h
   simp only [List.length_cons] at h
   simp only [List.zipIdx_cons,List.foldl_cons]
   have e:cs.toArray.setIfInBounds (o+j) w=(cs.set (o+j) w).toArray:=by simp
   rw [e,ih (cs.set (o+j) w) o (j+1) (by simp; omega)]
   congr 1
   rw [show o+(j+1)=o+j+1 by omega,List.length_cons,show o+j+(ws.length+1)=o+j+1+ws.length by omega]
   rw [List.set_eq_take_append_cons_drop,if_pos (by omega)]
   have hl:(cs.take (o+j)).length=o+j:=by rw [List.length_take]; omega
   have h1:(cs.take (o+j)++w :: cs.drop (o+j+1)).take (o+j+1)=cs.take (o+j)++[w]:=by
    rw [List.take_append,hl,show o+j+1-(o+j)=1 by omega,List.take_of_length_le (by omega)]; rfl
   have h2:(cs.take (o+j)++w :: cs.drop (o+j+1)).drop (o+j+1+ws.length)=cs.drop (o+j+1+ws.length):=by
    rw [List.drop_append,hl,List.drop_of_length_le (by omega),show o+j+1+ws.length-(o+j)=ws.length+1 by omega]
    simp [Nat.add_comm,Nat.add_left_comm]
   rw [h1,h2]; simp
 intro ws cs o h
 have:=key ws cs o 0 (by simpa using h)
 simpa using this
theorem aEC {place:Nat→Option (Nat×Nat)} {cs:List Value} {j off size:Nat} {v:Value} {ws:List Value} {rest:List (Nat×Value)} (hp:place j=some (off,size)) (hv:v.cells=ws.toArray) (hl:ws.length=size) (hf:off+size≤cs.length) :
  Instr.fill place cs.toArray ((j,v) :: rest)=Instr.fill place (cs.take off++ws++cs.drop (off+ws.length)).toArray rest:=by
 rw [Instr.fill]
 simp only [hp,hv]
 rw [if_neg (by simp [hl]; omega)]
 congr 1
 have:=aTv ws cs off (by omega)
 rw [← this,←Array.foldl_toList,Array.toList_zipIdx]
theorem b1g {T E sz by':Nat} {x:Operand} {v z:Value} {cs:List Value} (ho:nth l i=some ⟨some d,.buildSlice T 1 #[(0,x)],t,p,af,g⟩) (hg:Gd l ρ g true) (hT:bJ P T=some (E,sz,by')) (hz:(P.info? E).bind (·.zero)=some z) (hx:Ev ρ true x v) (hv:v.cells=cs.toArray) (hl:cs.length=sz) (h0:0<sz∧sz≤16777216)
  (h:∀ b,Wo dr mc P n l K σ ((d,true,.slice (some ⟨b,0,none⟩) 1 1) :: ρ) G (.blk b (cl cs E) :: μ)):Wo dr mc P n l K (i :: σ) ρ G μ:=by
 refine bSg (vs:=[(0,v)]) (cs:=cs) ho hg hT (fun a ha hc=>by simp [hx.eval ha hc]) ?_ h
 obtain ⟨hu,inf,hi,rfl,_⟩:=fG hT
 rw [hi] at hz
 simp only [Option.bind_some] at hz
 simp only [sL,hu,hi,hz]
 rw [if_neg (by omega)]
 generalize ha:(Array.range (1*inf.size)).map (z.cells[·%z.cells.size]!)=arr
 have hs:arr.toList.length=inf.size:=by rw [← ha]; simp
 have h2:=aEC (place:=fun j=>some (j*inf.size,inf.size)) (cs:=arr.toList) (j:=0) (off:=0) (size:=inf.size) (rest:=[]) (by simp) hv hl (by omega)
 simp only [Array.toArray_toList] at h2
 rw [h2]
 have h3:arr.toList.drop (0+cs.length)=[]:=List.drop_of_length_le (by omega)
 rw [h3]
 simp [Instr.fill]
def parts:Nat→List Value→List (Nat×Value)
 | _,[]=>[]
 | k,u :: us=>(k,u) :: parts (k+1) us
theorem b1 {T E sz by':Nat} {x:Operand} {v z:Value} {cs:List Value} (ho:nth l i=some ⟨some d,.buildSlice T 1 #[(0,x)],t,p,af,none⟩) (hT:bJ P T=some (E,sz,by')) (hz:(P.info? E).bind (·.zero)=some z) (hx:Ev ρ true x v) (hv:v.cells=cs.toArray) (hl:cs.length=sz) (h0:0<sz∧sz≤16777216)
  (h:∀ b,Wo dr mc P n l K σ ((d,true,.slice (some ⟨b,0,none⟩) 1 1) :: ρ) G (.blk b (cl cs E) :: μ)):Wo dr mc P n l K (i :: σ) ρ G μ:=b1g ho .no hT hz hx hv hl h0 h
theorem Evp.nil {ρ:aJ} {n:Fm} {k:Nat} {c:Bool}:∀ a,Ag n ρ a→c=true→([]:List (Nat×Operand)).map (fun q=>(q.1,a.eval q.2))=parts k []:=fun _ _ _=>rfl
theorem Evp.cons {ρ:aJ} {n:Fm} {k:Nat} {c:Bool} {x:Operand} {v:Value} {ps:List (Nat×Operand)} {us:List Value} (hx:Ev ρ c x v) (h:∀ a,Ag n ρ a→c=true→ps.map (fun q=>(q.1,a.eval q.2))=parts (k+1) us) :
  ∀ a,Ag n ρ a→c=true→((k,x) :: ps).map (fun q=>(q.1,a.eval q.2))=parts k (v :: us):=fun a ha hc=>by simp only [List.map_cons,hx.eval ha hc,h a ha hc,parts]
theorem aEB:∀ (us:List Value) (k:Nat) (cs:List Value),(∀ u∈us,u.oneCell'=true)→k+us.length≤cs.length →
  Instr.fill (fun j=>some (j*1,1)) cs.toArray (parts k us)=some (cs.take k++us++cs.drop (k+us.length)).toArray
 | [],k,cs,_,_=>by simp [parts,Instr.fill]
 | u :: us,k,cs,h1,hl=>by
  simp only [List.length_cons] at hl
  rw [parts,aEC (off:=k) (size:=1) (ws:=[u]) (by simp) (sN (h1 u (List.mem_cons_self ..))) rfl (by omega)]
  rw [aEB us (k+1) _ (fun u' hu=>h1 u' (List.mem_cons_of_mem _ hu)) (by simp; omega)]
  congr 2
  have hk:(cs.take k).length=k:=by rw [List.length_take]; omega
  have hA:(cs.take k++[u]).length=k+1:=by simp [hk]
  have h2:(cs.take k++[u]++cs.drop (k+[u].length)).take (k+1)=cs.take k++[u]:=by rw [← hA]; exact List.take_left
  have h3:(cs.take k++[u]++cs.drop (k+[u].length)).drop (k+1+us.length)=cs.drop (k+(us.length+1)):=by
   rw [← List.drop_drop,←hA,List.drop_left,List.drop_drop]
   congr 1
   simp; omega
  rw [h2,h3]; simp
theorem bN {T E by' len:Nat} {ps:List (Nat×Operand)} {us:List Value} {z:Value} (ho:nth l i=some ⟨some d,.buildSlice T len ps.toArray,t,p,af,none⟩) (hT:bJ P T=some (E,1,by')) (hz:(P.info? E).bind (·.zero)=some z) (hv:∀ a,Ag n ρ a→true=true→ps.map (fun q=>(q.1,a.eval q.2))=parts 0 us) (hl:us.length=len) (h0:0<len∧len≤16777216) (h1:∀ u∈us,u.oneCell'=true)
  (h:∀ b,Wo dr mc P n l K σ ((d,true,.slice (some ⟨b,0,none⟩) len len) :: ρ) G (.blk b (cl us E) :: μ)):Wo dr mc P n l K (i :: σ) ρ G μ:=by
 refine bS (vs:=parts 0 us) (cs:=us) ho hT hv ?_ h
 obtain ⟨hu,inf,hi,hs1,_⟩:=fG hT
 rw [hi] at hz
 simp only [Option.bind_some] at hz
 simp only [sL,hu,hi,hz,hs1]
 rw [if_neg (by omega)]
 generalize ha:(Array.range (len*1)).map (z.cells[·%z.cells.size]!)=arr
 have hs:arr.toList.length=len:=by rw [← ha]; simp
 have h2:=aEB us 0 arr.toList h1 (by omega)
 simp only [Array.toArray_toList] at h2
 rw [h2]
 have h3:arr.toList.drop (0+us.length)=[]:=List.drop_of_length_le (by omega)
 rw [h3]
 simp
def cT (P:Program) (T:TypeId) (js:List Nat):Option (List Value×List (Nat×Nat)) :=
 match P.info? T,P.underlying T with
 | some it,some (.array _ e)=>match it.zero,P.info? e with
  | some z,some ie=>some (z.cells.toList,js.map fun j=>(j*ie.size,ie.size))
  | _,_=>none
 | some it,some (.struct fields)=>match it.zero,fields.toList.mapM (fun f=>(P.info? f.type).map fun i=>(f.offset,i.size)) with
  | some z,some places=>(js.mapM fun j=>places[j]?).map fun pls=>(z.cells.toList,pls)
  | _,_=>none
 | _,_=>none
def qN:List Value→List (Nat×Nat)→List (List Value)→List Value
 | zs,(o,_) :: pl,w :: ws=>qN (put zs o w) pl ws
 | zs,_,_=>zs
def uM (n:Nat):List (Nat×Nat)→List (List Value)→Bool
 | (o,s) :: pl,w :: ws=>Nat.beq w.length s&&Nat.ble (o+s) n&&uM n pl ws
 | [],[]=>true
 | _,_=>false
inductive EvC (n:Fm) (ρ:aJ) (c:Bool):List (Nat×Operand)→List Value→List (List Value)→Prop where
 | nil:EvC n ρ c [] [] []
 | cons {j x v w ps vs ws} (hx:Ev ρ c x v) (hw:v.cells=w.toArray) (h:EvC n ρ c ps vs ws):EvC n ρ c ((j,x) :: ps) (v :: vs) (w :: ws)
theorem aSw {cs ws:List Value} {o:Nat} (h:o+ws.length≤cs.length):(put cs o ws).length=cs.length:=by simp [put]; omega
theorem aHr {place:Nat→Option (Nat×Nat)} {n:Fm} {ρ:aJ} {c:Bool}:∀ {ps:List (Nat×Operand)} {vs:List Value} {ws:List (List Value)},EvC n ρ c ps vs ws→∀ (zs:List Value) (pls:List (Nat×Nat)),(ps.map (·.1)).mapM place=some pls→uM zs.length pls ws=true →
  ∀ a,Ag n ρ a→c=true→Instr.fill place zs.toArray (ps.map fun q=>(q.1,a.eval q.2))=some (qN zs pls ws).toArray:=by
 intro ps vs ws h
 induction h with
 | nil=>intro zs pls hp hb a ha hc; simp at hp; subst hp; simp [Instr.fill,qN]
 | @cons j x v w ps vs ws hx hw _ ih =>
  intro zs pls hp hb a ha hc
  simp only [List.map_cons,List.mapM_cons,Option.bind_eq_bind,Option.pure_def] at hp
  cases hj:place j with
  | none=>rw [hj] at hp; simp at hp
  | some os =>
   obtain ⟨o,s⟩:=os
   rw [hj] at hp
   simp only [Option.bind_some] at hp
   cases hr:(ps.map (·.1)).mapM place with
   | none=>rw [hr] at hp; simp at hp
   | some pl =>
    rw [hr] at hp
    simp only [Option.bind_some,Option.some.injEq] at hp
    subst hp
    simp only [uM,Bool.and_eq_true] at hb
    have h1:=Nat.eq_of_beq_eq_true hb.1.1
    have h2:=Nat.le_of_ble_eq_true hb.1.2
    simp only [List.map_cons,hx.eval ha hc]
    rw [aEC hj hw h1 h2]
    have:=ih (put zs o w) pl hr (by rw [aSw (by omega)]; exact hb.2) a ha hc
    simpa [put,qN] using this
theorem bC {T:TypeId} {ps:List (Nat×Operand)} {vs:List Value} {ws:List (List Value)} {zs:List Value} {pls:List (Nat×Nat)} (ho:nth l i=some ⟨some d,.build T ps.toArray,t,p,af,g⟩) (hg:Gd l ρ g c) (hF:cT P T (ps.map (·.1))=some (zs,pls)) (hv:EvC n ρ c ps vs ws) (hb:uM zs.length pls ws=true)
  (h:Wo dr mc P n l K σ ((d,c,.agg (qN zs pls ws).toArray) :: ρ) G μ):Wo dr mc P n l K (i :: σ) ρ G μ :=
 .pure ho (.inl rfl) hg (fun hc a w ha=>by
  have hbuilt:P.built T (ps.map fun q=>(q.1,a.eval q.2))=some (qN zs pls ws).toArray:=by
   unfold cT at hF
   split at hF
   ·rename_i it m e h1 h2
    split at hF
    ·rename_i z ie h3 h4
     simp only [Option.some.injEq,Prod.mk.injEq] at hF
     obtain ⟨rfl,rfl⟩:=hF
     simp only [Program.built,h1,h2,h3,h4]
     have:=aHr hv z.cells.toList ((ps.map (·.1)).map fun j=>(j*ie.size,ie.size)) (place:=fun j=>some (j*ie.size,ie.size)) (by
      clear hb h
      generalize ps.map (·.1)=js
      induction js with
      | nil=>rfl
      | cons j js ih=>simp [List.mapM_cons,ih]) hb a ha hc
     simpa using this
    ·cases hF
   ·rename_i it fields h1 h2
    split at hF
    ·rename_i z places h3 h4
     cases h5:((ps.map (·.1)).mapM fun j=>places[j]?) with
     | none=>rw [h5] at hF; cases hF
     | some pl =>
      rw [h5] at hF
      simp only [Option.map_some,Option.some.injEq,Prod.mk.injEq] at hF
      obtain ⟨rfl,rfl⟩:=hF
      simp only [Program.built,h1,h2,h3,h4]
      have:=aHr hv z.cells.toList pl (place:=fun j=>places.toArray[j]?) (by simpa using h5) hb a ha hc
      simpa using this
    ·cases hF
   ·cases hF
  have h2:=run_build (P:=P) w T (ps.toArray.map fun q=>(q.1,a.eval q.2)) _ (by simpa using hbuilt)
  simp only [execOp,Sem.run_bind]
  rw [h2]; simp) h
theorem aVL {X:Cx} {e:Exit} {k:List KI} {b:Nat} {o:Obj} {μ':aG} (hm:MTake μ (.blk b o) μ') (hK:∀ b∈X.K0,b∈keys μ') (h:∀ G',PM.le G G'→G' b=some o→We X e k ρ G' μ'):We X e k ρ G μ :=
 ⟨fun a w ha ht=>by
  have ht':=ht.perm hm.perm
  have hk:keys (.blk b o :: μ')=b :: keys μ':=by simp [keys,Res.keys]
  have hnd:=ht'.sat.nodup
  rw [hk] at hnd
  have hG:G b=none:=ht'.sat.apart b (by rw [hk]; exact List.mem_cons_self ..)
  exact (h _ (PM.le_add hG) (bU G b o)).out a w ha (ht'.freeze fun hb=>(List.nodup_cons.1 hnd).1 (hK b hb))⟩
theorem Tr.freezeRow {G0:PM} {K0:List Nat} {w0 w:World} {E sz m:Nat} {v:Value} {xs:List Value} (h:Tr G0 K0 w0 G (.row v E sz m xs :: μ) w) (hK:∀ b∈K0,b∈keys μ) :
  ∃ G' s,PM.le G G'∧v=Sh.val s m∧m≤s.cap∧(m≠0→s.oa=some ⟨s.b,s.o,none⟩)∧RdNP G' s.b s.o xs∧Tr G0 K0 w0 G' μ w:=by
 have hrow:w.ownsRow 0 E sz v m xs:=h.sat.own _ (List.mem_cons_self ..)
 have hnd:=h.sat.nodup
 rcases hrow.2 with ⟨rfl,rfl⟩ | ⟨g,cap,cur,rfl,_,hg,hnc,hcm,hcs,htake⟩
 ·have hx:xs=[]:=List.eq_nil_of_length_eq_zero (by simpa using hrow.1)
  subst hx
  exact ⟨G,⟨none,0⟩,PM.le.refl G,rfl,Nat.le_refl _,fun h=>absurd rfl h,fun j v hj=>by simp at hj,Tr.left (ν:=[.row (.slice none 0 0) E sz 0 []]) (h.perm (List.perm_append_comm (l₁:=[Res.row (.slice none 0 0) E sz 0 []])))⟩
 have hk:keys (.row (.slice (some ⟨g,0,none⟩) m cap) E sz m xs :: μ)=g :: keys μ:=by simp [keys,Res.keys,Value.ownBlock]
 have hk':keys (.blk g (.cells cur E (0,0)) :: μ)=g :: keys μ:=by simp [keys,Res.keys]
 rw [hk] at hnd
 have hb:Tr G0 K0 w0 G (.blk g (.cells cur E (0,0)) :: μ) w:=by
  refine { h with sat:=⟨h.sat.sub,fun r hr=>?_,by rw [hk',←hk]; exact h.sat.apart,by rw [hk']; exact hnd⟩,mine:=by rw [hk',←hk]; exact h.mine }
  rcases List.mem_cons.1 hr with rfl | hr
  ·exact hg
  exact h.sat.own r (List.mem_cons_of_mem _ hr)
 have hGg:G g=none:=h.sat.apart g (by rw [hk]; exact List.mem_cons_self ..)
 have hgK:g∉K0:=fun hm=>(List.nodup_cons.1 hnd).1 (hK g hm)
 refine ⟨G.add g (.cells cur E (0,0)),⟨some ⟨g,0,none⟩,cap⟩,PM.le_add hGg,rfl,hnc,fun _=>rfl,fun j u hj=>?_,hb.freeze hgK⟩
 intro w' hs'
 have h1:=hs' g _ (bU G g _)
 show w'.cell? ⟨g,0+j,none⟩=some u
 rw [Nat.zero_add,cell_of_row w' g j cur E (0,0) h1]
 rw [← htake,List.getElem?_take] at hj
 split at hj
 ·simpa using hj
 cases hj
theorem aKy {X:Cx} {e:Exit} {k:List KI} {E sz m:Nat} {v:Value} {xs:List Value} {μ':aG} (hm:MTake μ (.row v E sz m xs) μ') (hK:∀ b∈X.K0,b∈keys μ')
  (h:∀ G' s,PM.le G G'→v=Sh.val s m→m≤s.cap→(m≠0→s.oa=some ⟨s.b,s.o,none⟩)→RdNP G' s.b s.o xs→We X e k ρ G' μ'):We X e k ρ G μ :=
 ⟨fun a w ha ht=>by
  obtain ⟨G',s,h1,h2,h3,h4,h5,h6⟩:=(ht.perm hm.perm).freezeRow hK
  exact (h G' s h1 h2 h3 h4 h5).out a w ha h6⟩
theorem SlR.flat {α:Type} {G:PM} {sz:Nat} {enc:α→List Value} {s:Sh} {xs:List α} (hsz:∀ x∈xs,(enc x).length=sz) (h:SlR G sz enc s xs):RdNP G s.b s.o (xs.flatMap enc):=by
 have key:∀ (ys:List α) (o:Nat),(∀ x∈ys,(enc x).length=sz)→(∀ i x,ys[i]? = some x→RdNP G s.b (o+i*sz) (enc x))→RdNP G s.b o (ys.flatMap enc):=by
  intro ys
  induction ys with
  | nil=>intro o _ _ j v hj; simp at hj
  | cons y ys ih =>
   intro o hl hr j v hj
   have hy:=hl y (List.mem_cons_self ..)
   simp only [List.flatMap_cons] at hj
   by_cases hlt:j<sz
   ·rw [List.getElem?_append_left (by omega)] at hj
    have:=hr 0 y (by simp) j v hj
    simpa using this
   ·rw [List.getElem?_append_right (by omega),hy] at hj
    have:=ih (o+sz) (fun x hx=>hl x (List.mem_cons_of_mem _ hx)) (fun i x hx=>by
     have:=hr (i+1) x (by simpa using hx)
     rwa [Nat.add_mul,Nat.one_mul,show o+(i*sz+sz)=o+sz+i*sz by omega] at this) (j-sz) v hj
    rwa [show o+sz+(j-sz)=o+j by omega] at this
 exact key xs s.o hsz h.rd
theorem xD {α:Type} {sz:Nat} {enc:α→List Value}:∀ {xs:List α},(∀ x∈xs,(enc x).length=sz)→(xs.flatMap enc).length=xs.length*sz
 | [],_=>by simp
 | x :: xs,h=>by
  simp only [List.flatMap_cons,List.length_append,h x (List.mem_cons_self ..),xD (fun y hy=>h y (List.mem_cons_of_mem _ hy)),List.length_cons,Nat.add_mul,Nat.one_mul]
  omega
theorem SlR.ofRow {α:Type} {G:PM} {sz:Nat} {enc:α→List Value} {s:Sh} {xs:List α} (hsz:∀ x∈xs,(enc x).length=sz) (hc:xs.length≤s.cap) (hn:xs.length≠0→s.oa=some ⟨s.b,s.o,none⟩) (hr:RdNP G s.b s.o (xs.flatMap enc)):SlR G sz enc s xs:=by
 refine ⟨fun h=>hn (fun e=>h (List.eq_nil_of_length_eq_zero e)),hc,fun i x hx j v hj=>?_⟩
 rw [Nat.add_assoc]
 refine hr (i*sz+j) v ?_
 clear hr hn hc
 induction xs generalizing i with
 | nil=>simp at hx
 | cons y ys ih =>
  have hy:=hsz y (List.mem_cons_self ..)
  cases i with
  | zero =>
   simp only [List.getElem?_cons_zero,Option.some.injEq] at hx
   subst hx
   have hlt:j<(enc y).length:=(List.getElem?_eq_some_iff.1 hj).1
   simp only [List.flatMap_cons,Nat.zero_mul,Nat.zero_add]
   rw [List.getElem?_append_left hlt]
   exact hj
  | succ i =>
   simp only [List.getElem?_cons_succ] at hx
   simp only [List.flatMap_cons]
   rw [List.getElem?_append_right (by rw [hy,Nat.succ_mul]; omega),hy,Nat.succ_mul,show i*sz+sz+j-sz=i*sz+j by omega]
   exact ih (fun x hx=>hsz x (List.mem_cons_of_mem _ hx)) i hx
theorem fD {α:Type} {G:PM} {sz:Nat} {enc:α→List Value} {b cap:Nat} {T:TypeId} {xs:List α} (hG:G b=some (cl (xs.flatMap enc) T)) (hsz:∀ x∈xs,(enc x).length=sz) (hc:xs.length≤cap):SlR G sz enc ⟨some ⟨b,0,none⟩,cap⟩ xs :=
 SlR.ofRow hsz hc (fun _=>rfl) (fun j v hj=>RdP.blk hG (by show (xs.flatMap enc)[0+j]? = some v; rw [Nat.zero_add]; exact hj))
end
theorem aQ {X:Cx} {k:List KI} {ρ:aJ} {G:PM} {μ:aG} {id:Nat} {l:List Oper} (hs:List.range l.length=[0]) (hd:iG X.n l=true) (h:Wo false ⟨false,false⟩ X.P X.n l (fun ρ G μ=>We X .normal k ρ G μ) [0] ρ G μ):Wk X (.region id l.toArray false) k ρ G μ:=Wk.rg _ hs hd h
theorem bB {X:Cx} {k:List KI} {ρ:aJ} {G:PM} {μ:aG} {id:Nat} {l:List Oper} (hs:List.range l.length=[0,1]) (hd:iG X.n l=true) (h:Wo false ⟨false,false⟩ X.P X.n l (fun ρ G μ=>We X .normal k ρ G μ) [0,1] ρ G μ):Wk X (.region id l.toArray false) k ρ G μ:=Wk.rg _ hs hd h
theorem dP {X:Cx} {k:List KI} {ρ:aJ} {G:PM} {μ:aG} {id:Nat} {l:List Oper} (hs:List.range l.length=[0,1,2]) (hd:iG X.n l=true) (h:Wo false ⟨false,false⟩ X.P X.n l (fun ρ G μ=>We X .normal k ρ G μ) [0,1,2] ρ G μ):Wk X (.region id l.toArray false) k ρ G μ:=Wk.rg _ hs hd h
theorem dT {X:Cx} {k:List KI} {ρ:aJ} {G:PM} {μ:aG} {id:Nat} {l:List Oper} (hs:List.range l.length=[0,1,2,3]) (hd:iG X.n l=true) (h:Wo false ⟨false,false⟩ X.P X.n l (fun ρ G μ=>We X .normal k ρ G μ) [0,1,2,3] ρ G μ):Wk X (.region id l.toArray false) k ρ G μ:=Wk.rg _ hs hd h
theorem lF {X:Cx} {k:List KI} {ρ:aJ} {G:PM} {μ:aG} {id:Nat} {l:List Oper} (hs:List.range l.length=[0,1,2,3,4]) (hd:iG X.n l=true) (h:Wo false ⟨false,false⟩ X.P X.n l (fun ρ G μ=>We X .normal k ρ G μ) [0,1,2,3,4] ρ G μ):Wk X (.region id l.toArray false) k ρ G μ:=Wk.rg _ hs hd h
theorem iV {X:Cx} {k:List KI} {ρ:aJ} {G:PM} {μ:aG} {id:Nat} {l:List Oper} (hs:List.range l.length=[0,1,2,3,4,5]) (hd:iG X.n l=true) (h:Wo false ⟨false,false⟩ X.P X.n l (fun ρ G μ=>We X .normal k ρ G μ) [0,1,2,3,4,5] ρ G μ):Wk X (.region id l.toArray false) k ρ G μ:=Wk.rg _ hs hd h
theorem rq7 {X:Cx} {k:List KI} {ρ:aJ} {G:PM} {μ:aG} {id:Nat} {l:List Oper} (hs:List.range l.length=[0,1,2,3,4,5,6]) (hd:iG X.n l=true) (h:Wo false ⟨false,false⟩ X.P X.n l (fun ρ G μ=>We X .normal k ρ G μ) [0,1,2,3,4,5,6] ρ G μ):Wk X (.region id l.toArray false) k ρ G μ:=Wk.rg _ hs hd h
theorem rq8 {X:Cx} {k:List KI} {ρ:aJ} {G:PM} {μ:aG} {id:Nat} {l:List Oper} (hs:List.range l.length=[0,1,2,3,4,5,6,7]) (hd:iG X.n l=true) (h:Wo false ⟨false,false⟩ X.P X.n l (fun ρ G μ=>We X .normal k ρ G μ) [0,1,2,3,4,5,6,7] ρ G μ):Wk X (.region id l.toArray false) k ρ G μ:=Wk.rg _ hs hd h
theorem rq9 {X:Cx} {k:List KI} {ρ:aJ} {G:PM} {μ:aG} {id:Nat} {l:List Oper} (hs:List.range l.length=[0,1,2,3,4,5,6,7,8]) (hd:iG X.n l=true) (h:Wo false ⟨false,false⟩ X.P X.n l (fun ρ G μ=>We X .normal k ρ G μ) [0,1,2,3,4,5,6,7,8] ρ G μ):Wk X (.region id l.toArray false) k ρ G μ:=Wk.rg _ hs hd h
theorem aYX {X:Cx} {k:List KI} {ρ:aJ} {G:PM} {μ:aG} {id:Nat} {l:List Oper} (hs:List.range l.length=[0,1,2,3,4,5,6,7,8,9]) (hd:iG X.n l=true) (h:Wo false ⟨false,false⟩ X.P X.n l (fun ρ G μ=>We X .normal k ρ G μ) [0,1,2,3,4,5,6,7,8,9] ρ G μ):Wk X (.region id l.toArray false) k ρ G μ:=Wk.rg _ hs hd h
theorem Wo.nc {dr:Bool} {mc:Md} {P:Program} {n:Fm} {l:List Oper} {X:Cx} {c:Code} {k:List KI} {ρ:aJ} {G:PM} {μ:aG} (h:Wk X c k ρ G μ):Wo dr mc P n l (fun ρ G μ=>We X .normal (.code c :: k) ρ G μ) [] ρ G μ:=.nil (.code h)
def vE (l:List Oper) (K:List Nat→aJ→Prop):List Nat→aJ→Prop
 | [],ρ=>K [] ρ
 | i :: σ,ρ =>
  match nth l i with
  | some ⟨some d,.assign x,_,_,_,none⟩=>(match ev ρ x with
   | some (true,v)=>vE l K σ ((d,true,v) :: ρ)
   | _=>K (i :: σ) ρ)
  | some ⟨some d,.move x,_,_,_,none⟩=>(match ev ρ x with
   | some (true,v)=>vE l K σ ((d,true,v) :: ρ)
   | _=>K (i :: σ) ρ)
  | _=>K (i :: σ) ρ
theorem aEn {dr:Bool} {mc:Md} {P:Program} {n:Fm} {l:List Oper} {K:aJ→PM→aG→Prop} {K':List Nat→aJ→Prop} {G:PM} {μ:aG} (hK:∀ σ ρ,K' σ ρ→Wo dr mc P n l K σ ρ G μ) :
  ∀ σ ρ,vE l K' σ ρ→Wo dr mc P n l K σ ρ G μ:=by
 intro σ
 induction σ with
 | nil=>intro ρ h; exact hK _ _ h
 | cons i σ ih =>
  intro ρ h
  unfold vE at h
  split at h
  ·split at h
   ·rename_i ho _ _ hx; exact asg ho .no (.u hx) (ih _ h)
   ·exact hK _ _ h
  ·split at h
   ·rename_i ho _ _ hx; exact mv ho .no (.u hx) (ih _ h)
   ·exact hK _ _ h
  ·exact hK _ _ h
inductive GoS where
 | c (c:Code)
 | e (e:Exit)
def jP (X:Cx) (G:PM) (μ:aG):Nat→GoS→List KI→aJ→Prop
 | 0,.c c,k,ρ=>Wk X c k ρ G μ
 | 0,.e e,k,ρ=>We X e k ρ G μ
 | n+1,.c (.seq a b),k,ρ=>jP X G μ n (.c a) (.code b :: k) ρ
 | n+1,.c .skip,k,ρ=>jP X G μ n (.e .normal) k ρ
 | n+1,.c (.block id a),k,ρ=>jP X G μ n (.c a) (.blk id :: k) ρ
 | n+1,.c (.exit id),k,ρ=>jP X G μ n (.e (.exit id)) k ρ
 | _+1,.c .ret,_,ρ=>We X .ret [] ρ G μ
 | n+1,.c (.region id ⟨l⟩ false),k,ρ =>
  match iG X.n l with
  | true=>vE l (fun σ ρ=>match σ with
   | []=>jP X G μ n (.e .normal) k ρ
   | i :: σ=>Wo false ⟨false,false⟩ X.P X.n l (fun ρ G μ=>We X .normal k ρ G μ) (i :: σ) ρ G μ) (List.range l.length) ρ
  | false=>Wk X (.region id ⟨l⟩ false) k ρ G μ
 | _+1,.c c,k,ρ=>Wk X c k ρ G μ
 | _+1,.e .normal,[],ρ=>We X .ret [] ρ G μ
 | n+1,.e .normal,.code c :: k,ρ=>jP X G μ n (.c c) k ρ
 | n+1,.e .normal,.blk _ :: k,ρ=>jP X G μ n (.e .normal) k ρ
 | n+1,.e (.exit id),.code _ :: k,ρ=>jP X G μ n (.e (.exit id)) k ρ
 | n+1,.e (.exit id),.lp _ :: k,ρ=>jP X G μ n (.e (.exit id)) k ρ
 | n+1,.e (.exit id),.blk id' :: k,ρ =>
  match Nat.beq id id' with
  | true=>jP X G μ n (.e .normal) k ρ
  | false=>jP X G μ n (.e (.exit id)) k ρ
 | _+1,.e e,k,ρ=>We X e k ρ G μ
def aPs (X:Cx) (G:PM) (μ:aG):GoS→List KI→aJ→Prop
 | .c c,k,ρ=>Wk X c k ρ G μ
 | .e e,k,ρ=>We X e k ρ G μ
theorem aEL {X:Cx} {G:PM} {μ:aG}:∀ (n:Nat) (s:GoS) (k:List KI) (ρ:aJ),jP X G μ n s k ρ→aPs X G μ s k ρ:=by
 intro n
 induction n with
 | zero=>intro s k ρ h; cases s<;>exact h
 | succ n ih =>
  intro s k ρ h
  unfold jP at h
  split at h<;>first | (rename_i e; cases e; done) | skip
  case _=>rename_i e; cases e; exact Wk.seq (ih _ _ _ h)
  case _=>rename_i e; cases e; exact Wk.skip (ih _ _ _ h)
  case _=>rename_i e; cases e; exact Wk.block (ih _ _ _ h)
  case _=>rename_i e; cases e; exact Wk.exit (ih _ _ _ h)
  case _=>exact Wk.ret h
  case _ =>
   rename_i e; cases e
   split at h
   ·rename_i hd
    refine Wk.region hd (aEn (fun σ ρ hK=>?_) _ _ h)
    split at hK
    ·exact .nil (ih _ _ _ hK)
    ·exact hK
   ·exact h
  case _=>exact h
  case _=>exact We.nil h
  case _=>rename_i e; cases e; exact We.code (ih _ _ _ h)
  case _=>rename_i e; cases e; exact We.blk (ih _ _ _ h)
  case _=>rename_i e; cases e; exact We.xcode (ih _ _ _ h)
  case _=>rename_i e; cases e; exact We.xlp (ih _ _ _ h)
  case _ =>
   rename_i e; cases e
   split at h
   ·rename_i hb; obtain rfl:=Nat.eq_of_beq_eq_true hb; exact We.xblk (ih _ _ _ h)
   ·rename_i hb; exact We.xnot hb (ih _ _ _ h)
  case _=>exact h
theorem Wk.g {X:Cx} {c:Code} {k:List KI} {ρ:aJ} {G:PM} {μ:aG} (h:jP X G μ 200 (.c c) k ρ):Wk X c k ρ G μ:=aEL _ _ _ _ h
theorem We.g {X:Cx} {e:Exit} {k:List KI} {ρ:aJ} {G:PM} {μ:aG} (h:jP X G μ 200 (.e e) k ρ):We X e k ρ G μ:=aEL _ _ _ _ h
theorem Wo.g {dr:Bool} {mc:Md} {P:Program} {n:Fm} {l:List Oper} {X:Cx} {k:List KI} {σ:List Nat} {ρ:aJ} {G:PM} {μ:aG}
  (h:vE l (fun σ ρ=>match σ with
   | []=>jP X G μ 200 (.e .normal) k ρ
   | i :: σ=>Wo dr mc P n l (fun ρ G μ=>We X .normal k ρ G μ) (i :: σ) ρ G μ) σ ρ):Wo dr mc P n l (fun ρ G μ=>We X .normal k ρ G μ) σ ρ G μ :=
 aEn (fun σ ρ hK=>by
  split at hK
  ·exact .nil (aEL _ _ _ _ hK)
  ·exact hK) _ _ h
theorem cD {X:Cx} {k:List KI} {ρ:aJ} {G:PM} {μ:aG} {x y:Code} {cd:Operand} {b:Bool} (hc:ev ρ cd=some (true,.bool b)) (ht:b=true→Wk X x k ρ G μ) (hf:b=false→Wk X y k ρ G μ):Wk X (.cond cd x y) k ρ G μ:=Wk.cond hc ht hf
theorem Wo.p {dr:Bool} {mc:Md} {P:Program} {n:Fm} {l:List Oper} {K:aJ→PM→aG→Prop} {σ:List Nat} {ρ:aJ} {G:PM} {μ:aG} (h:vE l (fun σ ρ=>Wo dr mc P n l K σ ρ G μ) σ ρ):Wo dr mc P n l K σ ρ G μ:=aEn (fun _ _ h=>h) _ _ h
section
variable {dr:Bool} {mc:Md} {P:Program} {n:Fm} {l:List Oper} {K:aJ→PM→aG→Prop} {i:Nat} {σ:List Nat} {ρ:aJ} {G:PM} {μ:aG}
variable {d t:Nat} {p:String} {af:Array Edge} {g:Option (Nat×Bool)} {c:Bool}
theorem lr {T E sz m:Nat} {x:Operand} {v:Value} {xs:List Value} {μ':aG} (ho:nth l i=some ⟨some d,.call { callee:=.builtin .len,args:=#[x],argTypes:=#[T] },t,p,af,g⟩) (hg:Gd l ρ g c) (hT:(bJ P T).isSome=true) (hx:Ev ρ c x v) (hm:MTake μ (.row v E sz m xs) μ')
  (h:Wo dr mc P n l K σ ((d,c,.int .i64 m) :: ρ) G μ):Wo dr mc P n l K (i :: σ) ρ G μ :=
 .read ho (.inl rfl) hg (fun hc a w ha hs=>by
  have hrow:w.ownsRow 0 E sz v m xs:=hs.own _ (hm.perm.mem_iff.2 (List.mem_cons_self ..))
  unfold bJ at hT
  split at hT
  ·rename_i e hu
   rcases hrow.2 with ⟨rfl,rfl⟩ | ⟨g,cap,cur,rfl,_⟩
   ·simp [execOp,resolve,invoke,builtin,hx.eval ha hc,Builtin.len_,run_underlying hu,goInt]
   ·simp [execOp,resolve,invoke,builtin,hx.eval ha hc,Builtin.len_,run_underlying hu,goInt]
  ·cases hT) h
theorem aHj {op:BinOp} {T:TypeId} {x y:Operand} {a b:Array Value} {w:World} (h:P.eqGuardType P.depth T=false):(eqGuard op T x y (.agg a) (.agg b)).run P w=.ok () w:=by
 have hp:∀ w:World,Sem.run P (Sem.program Sem.pure) w=.ok P w:=fun _=>rfl
 unfold eqGuard; cases op<;>simp [h,program,hp,Result.andThen]
end
def uv (k:IntKind) (x:BitVec k.bits):Value:=.int k (x.toNat:Int)
theorem aFM {k:IntKind} (hk:k.signed=false) (n:Nat):k.wrap (n:Int)=((BitVec.ofNat k.bits n).toNat:Int):=by
 simp [IntKind.wrap,hk]
section
variable {dr:Bool} {mc:Md} {P:Program} {n:Fm} {l:List Oper} {K:aJ→PM→aG→Prop} {i:Nat} {σ:List Nat} {ρ:aJ} {G:PM} {μ:aG}
variable {d t:Nat} {p:String} {af:Array Edge} {g:Option (Nat×Bool)} {c:Bool}
def aDp (op:BinOp) {w:Nat} (x y:BitVec w):Option (BitVec w) :=
 match op with
 | .and=>some (x &&& y)
 | .or=>some (x ||| y)
 | .xor=>some (x ^^^ y)
 | .andNot=>some (x &&& ~~~y)
 | .add=>some (x+y)
 | .sub=>some (x-y)
 | .mul=>some (x*y)
 | _=>none
theorem yI {k:IntKind} (hk:k.signed=false) (z:BitVec k.bits):k.wrap (z.toNat:Int)=(z.toNat:Int):=by rw [aFM hk]; simp
theorem aAw {k:IntKind} (hk:k.signed=false) (z:Int):k.wrap z=((BitVec.ofInt k.bits z).toNat:Int):=by
 simp [IntKind.wrap,hk,BitVec.toNat_ofInt]
 exact (Int.max_eq_left (Int.emod_nonneg _ (Int.pow_ne_zero (by decide)))).symm
theorem aTg {op:BinOp} {k:IntKind} {x y r:BitVec k.bits} (hk:k.signed=false) (T:TypeId) (h:aDp op x y=some r) (w:World):(binOp op T (uv k x) (uv k y)).run P w=.ok (uv k r) w:=by
 have hofi:∀ z:BitVec k.bits,BitVec.ofInt k.bits (z.toNat:Int)=z:=fun z=>by simp
 cases op<;>simp only [aDp,Option.some.injEq,reduceCtorEq] at h<;>subst h
 case and=>simp only [binOp,uv,Op.intBits,hofi,yI hk,ne_eq,not_true_eq_false,if_false]; rfl
 case or=>simp only [binOp,uv,Op.intBits,hofi,yI hk,ne_eq,not_true_eq_false,if_false]; rfl
 case xor=>simp only [binOp,uv,Op.intBits,hofi,yI hk,ne_eq,not_true_eq_false,if_false]; rfl
 case andNot=>simp only [binOp,uv,Op.intBits,hofi,yI hk,ne_eq,not_true_eq_false,if_false]; rfl
 case add =>
  have:k.wrap ((x.toNat:Int)+(y.toNat:Int))=((x+y).toNat:Int):=by
   rw [aAw hk,BitVec.ofInt_add,hofi,hofi]
  simp only [binOp,uv,Op.intArith,this,ne_eq,not_true_eq_false,if_false]; rfl
 case sub =>
  have:k.wrap ((x.toNat:Int)-(y.toNat:Int))=((x-y).toNat:Int):=by
   rw [aAw hk,Int.sub_eq_add_neg,BitVec.ofInt_add,BitVec.ofInt_neg,hofi,hofi,←BitVec.sub_eq_add_neg]
  simp only [binOp,uv,Op.intArith,this,ne_eq,not_true_eq_false,if_false]; rfl
 case mul =>
  have:k.wrap ((x.toNat:Int)*(y.toNat:Int))=((x*y).toNat:Int):=by
   rw [aAw hk,BitVec.ofInt_mul,hofi,hofi]
  simp only [binOp,uv,Op.intArith,this,ne_eq,not_true_eq_false,if_false]; rfl
theorem aTk {k k':IntKind} {x:BitVec k.bits} {m:Int} (hk:k.signed=false) (h0:0≤m) (T:TypeId) (w:World):(binOp .shl T (uv k x) (.int k' m)).run P w=.ok (uv k (x <<< m.toNat)) w:=by
 have:k.wrap ((x.toNat:Int)*2^(min m.toNat k.bits))=((x <<< m.toNat).toNat:Int):=by
  rw [show (x.toNat:Int)*2^(min m.toNat k.bits)=((x.toNat*2^(min m.toNat k.bits):Nat):Int) by simp,aFM hk]
  congr 1
  rw [BitVec.toNat_ofNat,BitVec.toNat_shiftLeft,Nat.shiftLeft_eq]
  rcases Nat.le_total m.toNat k.bits with h | h
  ·rw [Nat.min_eq_left h]
  ·rw [Nat.min_eq_right h,Nat.mul_mod_left]
   obtain ⟨q,hq⟩:=Nat.le.dest h
   rw [← hq,Nat.pow_add,Nat.mul_comm (2^k.bits),←Nat.mul_assoc,Nat.mul_mod_left]
 simp only [binOp,uv,Op.shift,if_neg (show ¬ m<0 by omega),this]; rfl
theorem aTl {k k':IntKind} {x:BitVec k.bits} {m:Int} (h0:0≤m) (T:TypeId) (w:World):(binOp .shr T (uv k x) (.int k' m)).run P w=.ok (uv k (x >>> m.toNat)) w:=by
 have:(x.toNat:Int).fdiv (2^(min m.toNat k.bits))=((x >>> m.toNat).toNat:Int):=by
  rw [show ((2:Int)^(min m.toNat k.bits))=((2^(min m.toNat k.bits):Nat):Int) by simp,Int.fdiv_eq_ediv_of_nonneg _ (Int.natCast_nonneg _),←Int.natCast_ediv,BitVec.toNat_ushiftRight,Nat.shiftRight_eq_div_pow]
  congr 1
  rcases Nat.le_total m.toNat k.bits with h | h
  ·rw [Nat.min_eq_left h]
  ·rw [Nat.min_eq_right h,Nat.div_eq_of_lt x.isLt,Nat.div_eq_of_lt (Nat.lt_of_lt_of_le x.isLt (Nat.pow_le_pow_right (by decide) h))]
 simp only [binOp,uv,Op.shift,if_neg (show ¬ m<0 by omega),this]; rfl
theorem bw {op:BinOp} {T T':TypeId} {x y:Operand} {k:IntKind} {a b r:BitVec k.bits} (ho:nth l i=some ⟨some d,.binOp op T x y T',t,p,af,g⟩) (hg:Gd l ρ g c) (hk:k.signed=false) (hx:Ev ρ c x (uv k a)) (hy:Ev ρ c y (uv k b)) (hr:aDp op a b=some r)
  (h:Wo dr mc P n l K σ ((d,c,uv k r) :: ρ) G μ):Wo dr mc P n l K (i :: σ) ρ G μ :=
 .pure ho (.inl rfl) hg (fun hc q w ha=>by
  have e1:=hx.eval ha hc; have e2:=hy.eval ha hc
  have hq:(eqGuard op T x y (uv k a) (uv k b)).run P w=.ok () w:=jD ..
  simp [execOp,e1,e2,hq,aTg hk T hr]) h
theorem lw {T T':TypeId} {x y:Operand} {k k':IntKind} {a:BitVec k.bits} {m:Int} (ho:nth l i=some ⟨some d,.binOp .shl T x y T',t,p,af,g⟩) (hg:Gd l ρ g c) (hk:k.signed=false) (hx:Ev ρ c x (uv k a)) (hy:Ev ρ c y (.int k' m)) (h0:c=true→0≤m)
  (h:Wo dr mc P n l K σ ((d,c,uv k (a <<< m.toNat)) :: ρ) G μ):Wo dr mc P n l K (i :: σ) ρ G μ :=
 .pure ho (.inl rfl) hg (fun hc q w ha=>by
  have e1:=hx.eval ha hc; have e2:=hy.eval ha hc
  have hq:(eqGuard .shl T x y (uv k a) (.int k' m)).run P w=.ok () w:=jD ..
  simp [execOp,e1,e2,hq,aTk hk (h0 hc) T]) h
theorem oO {T T':TypeId} {x y:Operand} {k k':IntKind} {a:BitVec k.bits} {m:Int} (ho:nth l i=some ⟨some d,.binOp .shr T x y T',t,p,af,g⟩) (hg:Gd l ρ g c) (hx:Ev ρ c x (uv k a)) (hy:Ev ρ c y (.int k' m)) (h0:c=true→0≤m)
  (h:Wo dr mc P n l K σ ((d,c,uv k (a >>> m.toNat)) :: ρ) G μ):Wo dr mc P n l K (i :: σ) ρ G μ :=
 .pure ho (.inl rfl) hg (fun hc q w ha=>by
  have e1:=hx.eval ha hc; have e2:=hy.eval ha hc
  have hq:(eqGuard .shr T x y (uv k a) (.int k' m)).run P w=.ok () w:=jD ..
  simp [execOp,e1,e2,hq,aTl (h0 hc) T]) h
theorem cu {S D:TypeId} {x:Operand} {k k':IntKind} {a:BitVec k.bits} (ho:nth l i=some ⟨some d,.convert S D x,t,p,af,g⟩) (hg:Gd l ρ g c) (hk':k'.signed=false) (hk:jO P S D=some k') (hx:Ev ρ c x (uv k a))
  (h:Wo dr mc P n l K σ ((d,c,uv k' (a.setWidth k'.bits)) :: ρ) G μ):Wo dr mc P n l K (i :: σ) ρ G μ :=
 cv ho hg hk hx (by
  have:k'.wrap (a.toNat:Int)=((a.setWidth k'.bits).toNat:Int):=by rw [aFM hk']; simp
  rw [this]; exact h)
theorem ci {S D:TypeId} {x:Operand} {k k':IntKind} {a:Int} (ho:nth l i=some ⟨some d,.convert S D x,t,p,af,g⟩) (hg:Gd l ρ g c) (hk':k'.signed=false) (hk:jO P S D=some k') (hx:Ev ρ c x (.int k a))
  (h:Wo dr mc P n l K σ ((d,c,uv k' (BitVec.ofInt k'.bits a)) :: ρ) G μ):Wo dr mc P n l K (i :: σ) ρ G μ :=
 cv ho hg hk hx (by rw [aAw hk']; exact h)
theorem aBh (a:Addr):a.add 0=a:=by simp [Addr.add]
theorem pQ {T m e sz:Nat} {x:Operand} {b o:Nat} (ho:nth l i=some ⟨some d,.slice T x none none none,t,p,af,g⟩) (hg:Gd l ρ g c) (hT:fH P T=some (m,e,sz)) (hx:Ev ρ c x (.pointer (some ⟨b,o,none⟩)))
  (h:Wo dr mc P n l K σ ((d,c,.slice (some ⟨b,o,none⟩) m m) :: ρ) G μ):Wo dr mc P n l K (i :: σ) ρ G μ :=
 .pure ho (.inl rfl) hg (fun hc a w ha=>by
  obtain ⟨hu,inf,hi,hs⟩:=sK hT
  simp [execOp,hx.eval ha hc,Instr.sliceAt,run_underlying hu,Instr.sureAddr,Instr.sliceBounds,sizeOf,typeInfo,hi,aBh]) h
theorem sal {T m e sz:Nat} {x y:Operand} {k:IntKind} {b o:Nat} {lo:Int} (ho:nth l i=some ⟨some d,.slice T x (some y) none none,t,p,af,g⟩) (hg:Gd l ρ g c) (hT:fH P T=some (m,e,sz)) (hx:Ev ρ c x (.pointer (some ⟨b,o,none⟩))) (hy:Ev ρ c y (.int k lo))
  (h0:c=true→0≤lo) (h1:c=true→lo<m) (h:Wo dr mc P n l K σ ((d,c,.slice (some ⟨b,o+lo.toNat*sz,none⟩) (m-lo.toNat) (m-lo.toNat)) :: ρ) G μ):Wo dr mc P n l K (i :: σ) ρ G μ :=
 .pure ho (.inl rfl) hg (fun hc a w ha=>by
  obtain ⟨hu,inf,hi,hs⟩:=sK hT
  have e0:=h0 hc; have e1:=h1 hc
  have hne:m≠lo.toNat:=by omega
  have hle:lo≤(m:Int):=by omega
  simp [execOp,hx.eval ha hc,hy.eval ha hc,Instr.sliceAt,run_underlying hu,Instr.sureAddr,Instr.sliceBounds,Instr.sliceBound,asIntOf,sizeOf,typeInfo,hi,e0,hle,hne,jB,hs]) h
theorem sab {T m e sz:Nat} {x y z:Operand} {k k':IntKind} {b o:Nat} {lo hi:Int} (ho:nth l i=some ⟨some d,.slice T x (some y) (some z) none,t,p,af,g⟩) (hg:Gd l ρ g c) (hT:fH P T=some (m,e,sz)) (hx:Ev ρ c x (.pointer (some ⟨b,o,none⟩))) (hy:Ev ρ c y (.int k lo)) (hz:Ev ρ c z (.int k' hi))
  (h0:c=true→0≤lo) (h1:c=true→lo≤hi) (h2:c=true→hi≤m) (h3:c=true→lo<m) (h:Wo dr mc P n l K σ ((d,c,.slice (some ⟨b,o+lo.toNat*sz,none⟩) (hi.toNat-lo.toNat) (m-lo.toNat)) :: ρ) G μ):Wo dr mc P n l K (i :: σ) ρ G μ :=
 .pure ho (.inl rfl) hg (fun hc a w ha=>by
  obtain ⟨hu,inf,hi',hs⟩:=sK hT
  have e0:=h0 hc; have e1:=h1 hc; have e2:=h2 hc; have e3:=h3 hc
  have hne:m≠lo.toNat:=by omega
  have hhi:0≤hi:=by omega
  simp [execOp,hx.eval ha hc,hy.eval ha hc,hz.eval ha hc,Instr.sliceAt,run_underlying hu,Instr.sureAddr,Instr.sliceBounds,Instr.sliceBound,asIntOf,sizeOf,typeInfo,hi',e0,e2,hhi,hne,jB,hs]
  intro hlt; exfalso; omega) h
theorem sd {T e sz by':Nat} {x y:Operand} {k:IntKind} {s:Sh} {m:Nat} {lo:Int} (ho:nth l i=some ⟨some d,.slice T x (some y) none none,t,p,af,g⟩) (hg:Gd l ρ g c) (hT:bJ P T=some (e,sz,by')) (hx:Ev ρ c x (s.val m)) (hy:Ev ρ c y (.int k lo))
  (h0:c=true→0≤lo) (h1:c=true→lo≤m) (h:Wo dr mc P n l K σ ((d,c,(s.cut lo.toNat sz).val (m-lo.toNat)) :: ρ) G μ):Wo dr mc P n l K (i :: σ) ρ G μ :=
 .pure ho (.inl rfl) hg (fun hc a w ha=>by
  obtain ⟨hu,inf,hi',rfl,rfl⟩:=fG hT
  have hx':=hx.eval ha hc
  simp only [Sh.val] at hx'
  have e0:=h0 hc; have e1:=h1 hc
  simp [execOp,hx',hy.eval ha hc,Instr.sliceAt,run_underlying hu,Instr.slice,Instr.sliceBounds,Instr.sliceBound,asIntOf,e0,e1,sizeOf,typeInfo,hi',Sh.val,Sh.cut]) h
theorem se {T e sz by':Nat} {x z:Operand} {k:IntKind} {s:Sh} {m:Nat} {hi:Int} (ho:nth l i=some ⟨some d,.slice T x none (some z) none,t,p,af,g⟩) (hg:Gd l ρ g c) (hT:bJ P T=some (e,sz,by')) (hx:Ev ρ c x (s.val m)) (hz:Ev ρ c z (.int k hi))
  (h0:c=true→0≤hi) (h1:c=true→hi≤s.cap) (h:Wo dr mc P n l K σ ((d,c,s.val hi.toNat) :: ρ) G μ):Wo dr mc P n l K (i :: σ) ρ G μ :=
 .pure ho (.inl rfl) hg (fun hc a w ha=>by
  obtain ⟨hu,inf,hi',rfl,rfl⟩:=fG hT
  have hx':=hx.eval ha hc
  simp only [Sh.val] at hx'
  have e0:=h0 hc; have e1:=h1 hc
  have hid:∀ oa:Option Addr,oa.map (fun a=>a.add 0)=oa:=fun oa=>by cases oa<;>simp [aBh]
  simp [execOp,hx',hz.eval ha hc,Instr.sliceAt,run_underlying hu,Instr.slice,Instr.sliceBounds,Instr.sliceBound,asIntOf,e0,e1,sizeOf,typeInfo,hi',Sh.val,hid]) h
theorem Tr.toRow {G0:PM} {K0:List Nat} {w0 w:World} {E sz m g:Nat} {xs:List Value} (h:Tr G0 K0 w0 G (.blk g (cl xs E) :: μ) w) (hl:xs.length=m*sz) (hm:m≤maxLen):Tr G0 K0 w0 G (.row (.slice (some ⟨g,0,none⟩) m m) E sz m xs :: μ) w:=by
 have hk:keys (.row (.slice (some ⟨g,0,none⟩) m m) E sz m xs :: μ)=g :: keys μ:=by simp [keys,Res.keys,Value.ownBlock]
 have hk':keys (.blk g (cl xs E) :: μ)=g :: keys μ:=by simp [keys,Res.keys]
 have hg:w.heap[g]? = some (cl xs E):=h.sat.own _ (List.mem_cons_self ..)
 refine { h with sat:=⟨h.sat.sub,fun r hr=>?_,by rw [hk,←hk']; exact h.sat.apart,by rw [hk,←hk']; exact h.sat.nodup⟩,mine:=by rw [hk,←hk']; exact h.mine }
 rcases List.mem_cons.1 hr with rfl | hr
 ·exact ⟨hl,.inr ⟨g,m,xs.toArray,rfl,Nat.zero_le _,hg,Nat.le_refl _,hm,by simpa using hl,by simp [← hl]⟩⟩
 exact h.sat.own r (List.mem_cons_of_mem _ hr)
end
abbrev W:=BitVec 32
abbrev U (x:W):Value:=uv .u32 x
def aJq (x:W) (k:Int):W:=x <<< (BitVec.ofInt 64 k &&& 31#64).toNat ||| x >>> (32#64-(BitVec.ofInt 64 k &&& 31#64)).toNat
def rD (x:W) (k:Nat):W:=x <<< k ||| x >>> (32-k)
def xN (a b c d:W):W×W×W×W :=
 let a:=a+b
 let d:=rD (d ^^^ a) 16
 let c:=c+d
 let b:=rD (b ^^^ c) 12
 let a:=a+b
 let d:=rD (d ^^^ a) 8
 let c:=c+d
 let b:=rD (b ^^^ c) 7
 (a,b,c,d)
def aRI (m:W×W×W×W):Value:=.tuple #[U m.1,U m.2.1,U m.2.2.1,U m.2.2.2]
def wa (n:Nat) (y:Nat→W):List Value:=(List.range n).map fun i=>U (y i)
abbrev Y:=BitVec 8
abbrev V (x:Y):Value:=uv .u8 x
def ba (n:Nat) (y:Nat→Y):List Value:=(List.range n).map fun i=>V (y i)
def bG {α:Type} (y:Nat→α) (j:Nat) (z:α):Nat→α:=fun i=>if i=j then z else y i
theorem cC (n:Nat) (y:Nat→W):(wa n y).length=n:=by simp [wa]
theorem bP (n:Nat) (y:Nat→Y):(ba n y).length=n:=by simp [ba]
theorem aAr {n:Nat} {y:Nat→W} {j:Nat} (h:j<n):(wa n y)[j]? = some (U (y j)):=by simp [wa,h]
theorem zS {n:Nat} {y:Nat→Y} {j:Nat} (h:j<n):(ba n y)[j]? = some (V (y j)):=by simp [ba,h]
theorem aKu {n:Nat} {y:Nat→W} {j:Nat} {z:W}:(wa n y).set j (U z)=wa n (bG y j z):=by
 refine List.ext_getElem? fun i=>?_
 rw [List.getElem?_set]
 by_cases h:j=i
 ·subst h
  by_cases hj:j<n
  ·simp [wa,bG,hj]
  simp [wa,hj]
 simp only [if_neg h]
 by_cases hi:i<n
 ·simp [wa,bG,hi,show ¬ i=j from fun e=>h e.symm]
 simp [wa,hi]
theorem aNx {n:Nat} {y:Nat→Y} {j:Nat} {z:Y}:(ba n y).set j (V z)=ba n (bG y j z):=by
 refine List.ext_getElem? fun i=>?_
 rw [List.getElem?_set]
 by_cases h:j=i
 ·subst h
  by_cases hj:j<n
  ·simp [ba,bG,hj]
  simp [ba,hj]
 simp only [if_neg h]
 by_cases hi:i<n
 ·simp [ba,bG,hi,show ¬ i=j from fun e=>h e.symm]
 simp [ba,hi]
theorem tO (n:Nat) (y:Nat→W):∀ u∈wa n y,u.oneCell'=true:=by
 intro u hu; obtain ⟨i,_,rfl⟩:=List.mem_map.1 hu; rfl
theorem lX (n:Nat) (y:Nat→Y):∀ u∈ba n y,u.oneCell'=true:=by
 intro u hu; obtain ⟨i,_,rfl⟩:=List.mem_map.1 hu; rfl
def tL (y:Nat→W) (a b c d:Nat):Nat→W :=
 let y:=bG y a (y a+y b)
 let y:=bG y d (rD (y d ^^^ y a) 16)
 let y:=bG y c (y c+y d)
 let y:=bG y b (rD (y b ^^^ y c) 12)
 let y:=bG y a (y a+y b)
 let y:=bG y d (rD (y d ^^^ y a) 8)
 let y:=bG y c (y c+y d)
 bG y b (rD (y b ^^^ y c) 7)
def mixed (y:Nat→W) (a b c d:Nat):Nat→W :=
 let m:=xN (y a) (y b) (y c) (y d)
 bG (bG (bG (bG y a m.1) b m.2.1) c m.2.2.1) d m.2.2.2
theorem aAf (y:Nat→W) {a b c d:Nat} (h1:a≠b) (h2:a≠c) (h3:a≠d) (h4:b≠c) (h5:b≠d) (h6:c≠d):tL y a b c d=mixed y a b c d:=by
 funext i
 by_cases ha:i=a
 ·subst ha; simp [tL,mixed,bG,xN,h1,h2,h3,h4,h5,h6,Ne.symm h1,Ne.symm h2,Ne.symm h3,Ne.symm h4,Ne.symm h5,Ne.symm h6]
 ·by_cases hb:i=b
  ·subst hb; simp [tL,mixed,bG,xN,h1,h2,h3,h4,h5,h6,Ne.symm h1,Ne.symm h2,Ne.symm h3,Ne.symm h4,Ne.symm h5,Ne.symm h6]
  ·by_cases hc:i=c
   ·subst hc; simp [tL,mixed,bG,xN,h1,h2,h3,h4,h5,h6,Ne.symm h1,Ne.symm h2,Ne.symm h3,Ne.symm h4,Ne.symm h5,Ne.symm h6]
   ·by_cases hd:i=d
    ·subst hd; simp [tL,mixed,bG,xN,h1,h2,h3,h4,h5,h6,Ne.symm h1,Ne.symm h2,Ne.symm h3,Ne.symm h4,Ne.symm h5,Ne.symm h6]
    ·simp [tL,mixed,bG,ha,hb,hc,hd]
theorem dA {n:Nat} {y:Nat→W} {j:Int} {o:Nat} (a:Nat) (hj:o+j.toNat*1=a) (h:a<n):(wa n y)[o+j.toNat*1]? = some (U (y a)):=by rw [hj]; exact aAr h
theorem gA {n:Nat} {y:Nat→Y} {j:Int} {o:Nat} (a:Nat) (hj:o+j.toNat*1=a) (h:a<n):(ba n y)[o+j.toNat*1]? = some (V (y a)):=by rw [hj]; exact zS h
theorem dR {n:Nat} {y:Nat→W} {j:Int} {z:W} {o:Nat} (a:Nat) (hj:o+j.toNat*1=a):(wa n y).set (o+j.toNat*1) (U z)=wa n (bG y a z):=by rw [hj]; exact aKu
theorem kY {n:Nat} {y:Nat→Y} {j:Int} {z:Y} {o:Nat} (a:Nat) (hj:o+j.toNat*1=a):(ba n y).set (o+j.toNat*1) (V z)=ba n (bG y a z):=by rw [hj]; exact aNx
def aAv (f:Nat→Y) (i:Nat):W:=(f i).setWidth 32+(f (i+1)).setWidth 32*256#32+(f (i+2)).setWidth 32*65536#32+(f (i+3)).setWidth 32*16777216#32
def aN (b:Y):List Value:=[V b]
def yl (n:Nat) (f:Nat→Y):List Y:=(List.range n).map f
theorem cR (n:Nat) (f:Nat→Y):(yl n f).length=n:=by simp [yl]
theorem aK8 {n:Nat} {f:Nat→Y} {k:Nat} (h:k<n):(yl n f).getD k 0=f k:=by simp [yl,h]
theorem aFN (n:Nat) (f:Nat→Y):(yl n f).flatMap aN=ba n f:=by
 unfold yl ba
 generalize List.range n=r
 induction r with
 | nil=>rfl
 | cons a r ih=>simp only [List.map_cons,List.flatMap_cons,ih,aN]; rfl
theorem SlR.yat {G:PM} {h:Sh} {xs:List Y} (s:SlR G 1 aN h xs) {j:Int} (k:Nat) (hj:j.toNat=k) (hk:k<xs.length):RdP G ⟨h.b,h.o+j.toNat*1,none⟩ (V (xs.getD k 0)):=by
 have:=s.rd k (xs.getD k 0) (by simp [hk]) 0 _ rfl
 rw [hj]; simpa using this
theorem aGy {G:PM} {b n:Nat} {f:Nat→Y} {T:TypeId}:SlR (G.add b (cl (ba n f) T)) 1 aN ⟨some ⟨b,0,none⟩,n⟩ (yl n f) :=
 fD (T:=T) (by rw [aFN]; exact bU _ _ _) (fun _ _=>rfl) (by rw [cR]; exact Nat.le_refl _)
def x0:Nat→W:=fun i=>match i with | 0=>1634760805#32 | 1=>857760878#32 | 2=>2036477234#32 | 3=>1797285236#32 | _=>0#32
def x1 (key:Nat→Y):Nat→Nat→W
 | 0=>x0
 | k+1=>bG (x1 key k) (4+k) (aAv key (4*k))
def x2 (key nonce:Nat→Y) (count:W):Nat→Nat→W
 | 0=>bG (x1 key 8) 12 count
 | k+1=>bG (x2 key nonce count k) (13+k) (aAv nonce (4*k))
def zV (y:Nat→W):Nat→Nat→W
 | 0=>y
 | k+1=>tL (zV y k) k (4+k) (8+k) (12+k)
def aBr (y:Nat→W):Nat→Nat→W
 | 0=>y
 | k+1=>tL (aBr y k) k (4+(k+1)%4) (8+(k+2)%4) (12+(k+3)%4)
def vG (y:Nat→W):Nat→Nat→W
 | 0=>y
 | k+1=>aBr (zV (vG y k) 4) 4
def zU (key nonce:Nat→Y) (count:W):Nat→W:=fun i=>vG (x2 key nonce count 3) 10 i+x2 key nonce count 3 i
def qQ (key nonce:Nat→Y) (count:W):Nat→Y:=fun i=>((zU key nonce count (i / 4)) >>> (8*(i%4))).setWidth 8
def gP (f:Nat→Y):Nat→Nat→Y
 | 0=>fun _=>0#8
 | k+1=>bG (gP f k) k (f k)
theorem kN (f:Nat→Y) {n i:Nat} (h:i<n):gP f n i=f i:=by
 induction n with
 | zero=>omega
 | succ n ih =>
  unfold gP bG
  by_cases e:i=n
  ·rw [if_pos e,e]
  ·rw [if_neg e]; exact ih (by omega)
theorem jC {n:Nat} {f f':Nat→Y} (h:∀ i,i<n→f i=f' i):ba n f=ba n f':=by
 unfold ba
 refine List.map_congr_left fun i hi=>?_
 rw [h i (List.mem_range.1 hi)]
def uN (key nonce:Nat→Y) (count:W) (xs:List Y):Nat→Y:=fun i=>xs.getD i 0 ^^^ qQ key nonce (count+BitVec.ofNat 32 (i / 64)) (i%64)
def jN (key nonce:Nat→Y) (count:W) (xs:List Y):List Y:=yl xs.length (uN key nonce count xs)
def oQ (o:W) (f:Nat→Y) (i:Nat):Nat→W
 | 0=>o
 | c+1=>oQ o f i c <<< 8 ||| (f (4*i+(3-c))).setWidth 32
def kQ (y:Nat→W) (f:Nat→Y) (off:Nat):Nat→Nat→W
 | 0=>y
 | i+1=>bG (kQ y f off i) (off+i) (aAv f (4*i))
theorem aKg {α:Type} (z:Nat→α) (p:Nat):bG z p (z p)=z:=by
 funext i; unfold bG; split
 ·rename_i h; rw [h]
 ·rfl
theorem aFH {α:Type} (z:Nat→α) (p:Nat) (a b:α):bG (bG z p a) p b=bG z p b:=by
 funext i; unfold bG; split<;>rfl
theorem yG {α:Type} (z:Nat→α) (p:Nat) (a:α):bG z p a p=a:=by simp [bG]
theorem aSX (x:W) (b:Y):x <<< 8 ||| b.setWidth 32=x*256#32+b.setWidth 32:=by
 have h0:x <<< 8 &&& b.setWidth 32=0#32:=by
  apply BitVec.eq_of_getLsbD_eq
  intro i hi
  simp only [BitVec.getLsbD_and,BitVec.getLsbD_shiftLeft,BitVec.getLsbD_setWidth,BitVec.getLsbD_zero]
  by_cases h8:i<8
  ·simp [h8]
  ·rw [BitVec.getLsbD_of_ge b i (by omega)]; simp
 rw [← BitVec.add_eq_or_of_and_eq_zero _ _ h0]
 congr 1
 apply BitVec.eq_of_toNat_eq
 simp [BitVec.toNat_shiftLeft,BitVec.toNat_mul,Nat.shiftLeft_eq]
theorem aVQ (o:W) (f:Nat→Y) (i:Nat):oQ o f i 4=aAv f (4*i):=by
 have e:oQ o f i 4=(((o*256#32+(f (4*i+3)).setWidth 32)*256#32+(f (4*i+2)).setWidth 32)*256#32+(f (4*i+1)).setWidth 32)*256#32+(f (4*i)).setWidth 32:=by
  simp only [oQ,aSX]; rfl
 rw [e]
 unfold aAv
 generalize (f (4*i)).setWidth 32=a,(f (4*i+1)).setWidth 32=b,(f (4*i+2)).setWidth 32=c,(f (4*i+3)).setWidth 32=d
 grind
theorem aVU {y:Nat→W} {f:Nat→Y} {m off i b:Nat} {T:TypeId}:Res.blk b (cl (wa m (kQ y f off i)) T)=Res.blk b (cl (wa m (bG (kQ y f off i) (off+i) (oQ (kQ y f off i (off+i)) f i 0))) T):=by
 rw [oQ,aKg]
theorem aVV {z:Nat→W} {f:Nat→Y} {m p i c b:Nat} {T:TypeId} {o x:W} (hx:x=oQ o f i (c+1)):Res.blk b (cl (wa m (bG (bG z p (oQ o f i c)) p x)) T)=Res.blk b (cl (wa m (bG z p (oQ o f i (c+1)))) T):=by
 rw [aFH,hx]
theorem aVT {y:Nat→W} {f:Nat→Y} {m off i c b:Nat} {T:TypeId} (hc:c=4):Res.blk b (cl (wa m (bG (kQ y f off i) (off+i) (oQ (kQ y f off i (off+i)) f i c))) T)=Res.blk b (cl (wa m (kQ y f off (i+1))) T):=by
 subst hc; rw [aVQ]; rfl
theorem aE4 (key:Nat→Y):∀ k,kQ x0 key 4 k=x1 key k
 | 0=>rfl
 | k+1=>by rw [kQ,x1,aE4 key k]
theorem aE5 (key nonce:Nat→Y) (count:W):∀ k,kQ (bG (x1 key 8) 12 count) nonce 13 k=x2 key nonce count k
 | 0=>rfl
 | k+1=>by rw [kQ,x2,aE5 key nonce count k]
theorem aKO {μ μ1 μ2:aG} {r1 r2:Res} (h1:MTake μ r1 μ1) (h2:MTake μ1 r2 μ2):μ.Perm ([r1,r2]++μ2):=h1.perm.trans (h2.perm.cons _)
def aBo (y:Nat→W):Nat→Nat→W
 | 0=>y
 | k+1=>mixed (aBo y k) k (4+k) (8+k) (12+k)
theorem aHB (y:Nat→W):∀ k,k≤4→aBo y k=zV y k
 | 0,_=>rfl
 | k+1,h=>by rw [aBo,zV,aHB y k (by omega),aAf _ (by omega) (by omega) (by omega) (by omega) (by omega) (by omega)]
def aO2 (y:Nat→W):Nat→W:=mixed (mixed (mixed (mixed y 0 5 10 15) 1 6 11 12) 2 7 8 13) 3 4 9 14
theorem aO3 (y:Nat→W):aO2 y=aBr y 4:=by
 simp only [aBr]
 rw [aAf _ (by decide) (by decide) (by decide) (by decide) (by decide) (by decide),aAf _ (by decide) (by decide) (by decide) (by decide) (by decide) (by decide),aAf _ (by decide) (by decide) (by decide) (by decide) (by decide) (by decide),aAf _ (by decide) (by decide) (by decide) (by decide) (by decide) (by decide)]
 rfl
theorem aT2 {key nonce:Nat→Y} {count:W} {i:Nat}:U (vG (x2 key nonce count 3) 10 i+x2 key nonce count 3 i)=U (zU key nonce count i >>> (8*0)):=by simp [zU]
theorem aT1 {x:W} {c:Nat}:U ((x >>> (8*c)) >>> (Int.toNat 8))=U (x >>> (8*(c+1))):=by
 rw [show Int.toNat 8=8 from rfl,←BitVec.shiftRight_add,show 8*c+8=8*(c+1) by omega]
theorem aSY {key nonce:Nat→Y} {count:W} {i c b:Nat} {T:TypeId} (hc:c<4) :
  Res.blk b (cl (ba 64 (bG (gP (qQ key nonce count) (4*i+c)) (4*i+c) ((zU key nonce count i >>> (8*c)).setWidth 8))) T)=Res.blk b (cl (ba 64 (gP (qQ key nonce count) (4*i+(c+1)))) T):=by
 rw [show 4*i+(c+1)=(4*i+c)+1 by omega,gP,qQ,show (4*i+c) / 4=i by omega,show (4*i+c)%4=c by omega]
instance {n:Nat} {f:Nat→Y}:QLen (ba n f) n:=⟨bP n f⟩
instance {n:Nat} {f:Nat→W}:QLen (wa n f) n:=⟨cC n f⟩
theorem sY (xs:List Y):xs.flatMap aN=xs.map V:=by
 induction xs with
 | nil=>rfl
 | cons a r ih=>simp only [List.flatMap_cons,List.map_cons,ih,aN]; rfl
theorem aAd (xs:List Y):∀ u∈xs.map V,u.oneCell'=true:=by
 intro u hu; obtain ⟨y,_,rfl⟩:=List.mem_map.1 hu; rfl
abbrev rB (v:Value) (E:Nat) (xs:List Y):Res:=.row v E 1 xs.length (xs.map V)
structure Sc (G:PM) (μ:aG) (v:Value) (ys:List Y):Prop where
 ex:∃ oa cap,v=.slice oa ys.length cap∧(0<ys.length→∃ b o,oa=some ⟨b,o,none⟩∧RdN G μ b o (ys.map V))
theorem SlR.sc {G:PM} {μ:aG} {s:Sh} {ys:List Y} (h:SlR G 1 aN s ys):Sc G μ (s.val ys.length) ys :=
 ⟨s.oa,s.cap,rfl,fun h0=>⟨s.b,s.o,h.nn h0,by rw [← sY]; exact (SlR.flat (enc:=aN) (fun _ _=>rfl) h).rd⟩⟩
theorem Sc.blk {G:PM} {μ μ':aG} {b o cap m:Nat} {cs:List Value} {T:TypeId} {ys:List Y} (hm:MTake μ (.blk b (cl cs T)) μ') (hn:ys.length=m) (hc:(cs.drop o).take m=ys.map V):Sc G μ (.slice (some ⟨b,o,none⟩) m cap) ys:=by
 subst hn; exact ⟨_,_,rfl,fun _=>⟨b,o,rfl,RdN.part hm hc⟩⟩
theorem aVa (n:Nat) (f:Nat→Y):(yl n f).map V=ba n f:=by rw [← sY,aFN]
theorem Sc.arr {G:PM} {μ μ':aG} {b cap m:Nat} {f:Nat→Y} {T:TypeId} (hm:MTake μ (.blk b (cl (ba m f) T)) μ'):Sc G μ (.slice (some ⟨b,0,none⟩) m cap) (yl m f) :=
 Sc.blk hm (cR m f) (by rw [aVa,List.drop_zero,List.take_of_length_le (by rw [bP]; exact Nat.le_refl _)])
theorem Sc.one {G:PM} {μ μ':aG} {b:Nat} {y:Y} {T:TypeId} (hm:MTake μ (.blk b (cl [V y] T)) μ'):Sc G μ (.slice (some ⟨b,0,none⟩) 1 1) [y] :=
 Sc.blk hm rfl rfl
theorem Rd.row {G:PM} {μ μ':aG} {b m cap E sz m' o:Nat} {xs:List Value} {v:Value} (h:MTake μ (.row (.slice (some ⟨b,0,none⟩) m cap) E sz m' xs) μ') (hv:xs[o]? = some v):Rd G μ ⟨b,o,none⟩ v:=by
 intro w hs
 have hrow:w.ownsRow 0 E sz _ m' xs:=hs.own _ (h.perm.mem_iff.2 (List.mem_cons_self ..))
 have:=World.ownsRow.cells hrow (g:=b) rfl o v hv
 rwa [jB,Nat.zero_add] at this
theorem SlR.cutn {α:Type} {G:PM} {sz:Nat} {enc:α→List Value} {s:Sh} {xs:List α} (h:SlR G sz enc s xs) {lo m:Nat} (h1:lo+m≤xs.length):SlR G sz enc (s.cut lo sz) ((xs.drop lo).take m):=by
 have hle:=h.le
 by_cases hm:lo<xs.length
 ·have hcut:s.cut lo sz=⟨some ⟨s.b,s.o+lo*sz,none⟩,s.cap-lo⟩:=by
   unfold Sh.cut; rw [if_neg (by omega),h.nn hm]; simp [jB]
  rw [hcut]
  refine ⟨fun _=>rfl,by simp; omega,fun i x hx=>?_⟩
  have hx':xs[lo+i]? = some x:=by
   rw [List.getElem?_take] at hx
   split at hx
   ·rwa [List.getElem?_drop] at hx
   cases hx
  have:=h.rd (lo+i) x hx'
  rw [Nat.add_mul,←Nat.add_assoc] at this
  exact this
 have e:(xs.drop lo).take m=[]:=by rw [List.drop_of_length_le (by omega)]; simp
 rw [e]; exact ⟨fun h=>absurd rfl h,by simp,fun i x hx=>by simp at hx⟩
theorem SlR.cutx {α:Type} {G:PM} {sz:Nat} {enc:α→List Value} {s:Sh} {xs:List α} (h:SlR G sz enc s xs) (lo m:Nat):∃ s',SlR G sz enc s' ((xs.drop lo).take m):=by
 by_cases hl:lo≤xs.length
 ·have e:(xs.drop lo).take m=(xs.drop lo).take (min m (xs.length-lo)):=by
   have e:=List.take_eq_take_min (l:=xs.drop lo) (i:=m)
   rwa [List.length_drop] at e
  exact ⟨_,by rw [e]; exact h.cutn (by omega)⟩
 ·exact ⟨⟨none,0⟩,by rw [List.drop_of_length_le (by omega),List.take_nil]; exact SlR.nul⟩
theorem SlR.nth {α:Type} {G:PM} {sz:Nat} {enc:α→List Value} {s:Sh} {xs:List α} (h:SlR G sz enc s xs) {j:Int} (k:Nat) {x:α} (hj:j.toNat=k) (hx:xs[k]? = some x):RdNP G s.b (s.o+j.toNat*sz) (enc x):=by
 rw [hj]; exact h.rd k x hx
section
variable {dr:Bool} {mc:Md} {P:Program} {n:Fm} {l:List Oper} {K:aJ→PM→aG→Prop} {i:Nat} {σ:List Nat} {ρ:aJ} {G:PM} {μ:aG}
variable {d t:Nat} {p:String} {af:Array Edge} {g:Option (Nat×Bool)} {c:Bool}
theorem kS {α:Type} {enc:α→List Value} {T e sz by':Nat} {x y z:Operand} {k k':IntKind} {s:Sh} {xs:List α} {a b:Int} (lo hi:Nat) (ho:nth l i=some ⟨some d,.slice T x (some y) (some z) none,t,p,af,g⟩) (hg:Gd l ρ g c) (hT:bJ P T=some (e,sz,by')) (hs:SlR G sz enc s xs)
  (hx:Ev ρ c x (s.val xs.length)) (hy:Ev ρ c y (.int k a)) (hz:Ev ρ c z (.int k' b)) (ha:c=true→a=lo) (hb:c=true→b=hi) (h1:c=true→lo≤hi) (h2:c=true→hi≤xs.length)
  (h:∀ s' L,L=(xs.drop lo).take (hi-lo)→(c=true→L.length=hi-lo)→SlR G sz enc s' L→Wo dr mc P n l K σ ((d,c,s'.val L.length) :: ρ) G μ):Wo dr mc P n l K (i :: σ) ρ G μ:=by
 cases c with
 | false =>
  obtain ⟨s',hs'⟩:=hs.cutx lo (hi-lo)
  exact .pure ho (.inl rfl) hg (fun hc=>nomatch hc) (h s' _ rfl (fun hc=>nomatch hc) hs')
 | true =>
  obtain rfl:=ha rfl; obtain rfl:=hb rfl
  have e1:=h1 rfl; have e2:=h2 rfl; have e3:=hs.le
  have hl:((xs.drop lo).take (hi-lo)).length=hi-lo:=by simp; omega
  refine scn (q:=((xs.drop lo).take (hi-lo)).length) ho hg hT hx hy hz (by omega) (by omega) (by omega) (fun _=>by rw [hl]; omega) ?_
  rw [Int.toNat_natCast]
  exact h _ _ rfl (fun _=>hl) (hs.cutn (by omega))
theorem kD {α:Type} {enc:α→List Value} {T e sz by':Nat} {x y:Operand} {k:IntKind} {s:Sh} {xs:List α} {a:Int} (lo:Nat) (ho:nth l i=some ⟨some d,.slice T x (some y) none none,t,p,af,g⟩) (hg:Gd l ρ g c) (hT:bJ P T=some (e,sz,by')) (hs:SlR G sz enc s xs)
  (hx:Ev ρ c x (s.val xs.length)) (hy:Ev ρ c y (.int k a)) (ha:c=true→a=lo) (h1:c=true→lo≤xs.length)
  (h:∀ s' L,L=xs.drop lo→(c=true→L.length=xs.length-lo)→SlR G sz enc s' L→Wo dr mc P n l K σ ((d,c,s'.val L.length) :: ρ) G μ):Wo dr mc P n l K (i :: σ) ρ G μ:=by
 have ht:(xs.drop lo).take (xs.length-lo)=xs.drop lo:=List.take_of_length_le (by simp)
 cases c with
 | false =>
  obtain ⟨s',hs'⟩:=hs.cutx lo (xs.length-lo)
  rw [ht] at hs'
  exact .pure ho (.inl rfl) hg (fun hc=>nomatch hc) (h s' _ rfl (fun hc=>nomatch hc) hs')
 | true =>
  obtain rfl:=ha rfl
  have e1:=h1 rfl; have e3:=hs.le
  have hl:(xs.drop lo).length=xs.length-lo:=by simp
  refine sd ho hg hT hx hy (by omega) (by omega) ?_
  rw [Int.toNat_natCast,←hl]
  refine h _ _ rfl (fun _=>hl) ?_
  rw [← ht]; exact hs.cutn (by omega)
theorem kE {α:Type} {enc:α→List Value} {T e sz by':Nat} {x y:Operand} {k:IntKind} {s:Sh} {xs:List α} {a:Int} (hi:Nat) (ho:nth l i=some ⟨some d,.slice T x none (some y) none,t,p,af,g⟩) (hg:Gd l ρ g c) (hT:bJ P T=some (e,sz,by')) (hs:SlR G sz enc s xs)
  (hx:Ev ρ c x (s.val xs.length)) (hy:Ev ρ c y (.int k a)) (ha:c=true→a=hi) (h1:c=true→hi≤xs.length)
  (h:∀ s' L,L=xs.take hi→(c=true→L.length=hi)→SlR G sz enc s' L→Wo dr mc P n l K σ ((d,c,s'.val L.length) :: ρ) G μ):Wo dr mc P n l K (i :: σ) ρ G μ:=by
 have htake:SlR G sz enc s (xs.take hi):=by
  refine ⟨fun hne=>hs.there (fun e=>hne (by rw [e]; simp)),by have:=hs.le; rw [List.length_take]; omega,fun j u hj=>?_⟩
  rw [List.getElem?_take] at hj
  split at hj
  ·exact hs.rd j u hj
  cases hj
 cases c with
 | false=>exact .pure ho (.inl rfl) hg (fun hc=>nomatch hc) (h s _ rfl (fun hc=>nomatch hc) htake)
 | true =>
  obtain rfl:=ha rfl
  have e1:=h1 rfl; have e3:=hs.le
  have hl:(xs.take hi).length=hi:=by simp; omega
  refine se ho hg hT hx hy (by omega) (by omega) ?_
  rw [Int.toNat_natCast]
  have:=h s _ rfl (fun _=>hl) htake
  rwa [hl] at this
theorem iF {op:BinOp} {T T':TypeId} {x y:Operand} {k:IntKind} {a1 a2 r:Int} (r':Int) (ho:nth l i=some ⟨some d,.binOp op T x y T',t,p,af,g⟩) (hg:Gd l ρ g c) (hx:Ev ρ c x (.int k a1)) (hy:Ev ρ c y (.int k a2)) (hr:uL op a1 a2=some r) (he:c=true→r=r') (hw:c=true→k.wrap r'=r')
  (h:Wo dr mc P n l K σ ((d,c,.int k r') :: ρ) G μ):Wo dr mc P n l K (i :: σ) ρ G μ :=
 .pure ho (.inl rfl) hg (fun hc a w ha=>by obtain rfl:=he hc; simp [execOp,hx.eval ha hc,hy.eval ha hc,jD,aE0 T hr w,hw hc]) h
theorem rmn {T T':TypeId} {x y:Operand} {k:IntKind} {a1 a2:Int} (a b:Nat) (ho:nth l i=some ⟨some d,.binOp .rem T x y T',t,p,af,g⟩) (hg:Gd l ρ g c) (hx:Ev ρ c x (.int k a1)) (hy:Ev ρ c y (.int k a2)) (h1:c=true→a1=a) (h2:c=true→a2=b) (h0:c=true→b≠0)
  (h:Wo dr mc P n l K σ ((d,c,.int k ((a%b:Nat):Int)) :: ρ) G μ):Wo dr mc P n l K (i :: σ) ρ G μ :=
 .pure ho (.inl rfl) hg (fun hc q w ha=>by
  obtain rfl:=h1 hc; obtain rfl:=h2 hc
  have:=h0 hc
  have e:((a:Int).tmod (b:Int))=((a%b:Nat):Int):=rfl
  simp [execOp,hx.eval ha hc,hy.eval ha hc,jD,binOp,Op.intDiv,h0 hc,e]) h
theorem qun {T T':TypeId} {x y:Operand} {a1 a2:Int} (a b:Nat) (ho:nth l i=some ⟨some d,.binOp .quo T x y T',t,p,af,g⟩) (hg:Gd l ρ g c) (hx:Ev ρ c x (.int .i64 a1)) (hy:Ev ρ c y (.int .i64 a2)) (h1:c=true→a1=a) (h2:c=true→a2=b) (h0:c=true→b≠0) (h3:c=true→a≤9223372036854775807)
  (h:Wo dr mc P n l K σ ((d,c,.int .i64 ((a / b:Nat):Int)) :: ρ) G μ):Wo dr mc P n l K (i :: σ) ρ G μ :=
 .pure ho (.inl rfl) hg (fun hc q w ha=>by
  obtain rfl:=h1 hc; obtain rfl:=h2 hc
  have h3:=h3 hc
  have e:((a:Int).tdiv (b:Int))=((a / b:Nat):Int):=rfl
  have hle:a / b≤a:=Nat.div_le_self a b
  have hw:IntKind.i64.wrap ((a / b:Nat):Int)=((a / b:Nat):Int):=by
   generalize a / b=q at hle
   exact eV (by omega) (by omega)
  simp only [Int.natCast_ediv] at hw
  simp [execOp,hx.eval ha hc,hy.eval ha hc,jD,binOp,Op.intDiv,h0 hc,e,hw]) h
theorem xK {T T':TypeId} {x y:Operand} {k:IntKind} {a1 a2:Int} (a b:Nat) (ho:nth l i=some ⟨some d,.call { callee:=.builtin .min,args:=#[x,y],argTypes:=#[T,T'] },t,p,af,g⟩) (hg:Gd l ρ g c) (hx:Ev ρ c x (.int k a1)) (hy:Ev ρ c y (.int k a2)) (h1:c=true→a1=a) (h2:c=true→a2=b)
  (h:Wo dr mc P n l K σ ((d,c,.int k ((min a b:Nat):Int)) :: ρ) G μ):Wo dr mc P n l K (i :: σ) ρ G μ :=
 .read ho (.inl rfl) hg (fun hc q w ha _=>by
  obtain rfl:=h1 hc; obtain rfl:=h2 hc
  have e:(if (b:Int)<(a:Int) then (b:Int) else (a:Int))=((min a b:Nat):Int):=by split<;>omega
  simp [execOp,resolve,invoke,builtin,hx.eval ha hc,hy.eval ha hc,Builtin.min_,Builtin.min2]
  simpa using e) h
theorem mAn {T T':TypeId} {x y:Operand} {k:IntKind} {a1 a2:Int} (a b:Nat) (ho:nth l i=some ⟨some d,.call { callee:=.builtin .max,args:=#[x,y],argTypes:=#[T,T'] },t,p,af,g⟩) (hg:Gd l ρ g c) (hx:Ev ρ c x (.int k a1)) (hy:Ev ρ c y (.int k a2)) (h1:c=true→a1=a) (h2:c=true→a2=b)
  (h:Wo dr mc P n l K σ ((d,c,.int k ((max a b:Nat):Int)) :: ρ) G μ):Wo dr mc P n l K (i :: σ) ρ G μ :=
 .read ho (.inl rfl) hg (fun hc q w ha _=>by
  obtain rfl:=h1 hc; obtain rfl:=h2 hc
  have e:(if (b:Int) > (a:Int) then (b:Int) else (a:Int))=((max a b:Nat):Int):=by split<;>omega
  simp [execOp,resolve,invoke,builtin,hx.eval ha hc,hy.eval ha hc,Builtin.max_,Builtin.max2]
  simpa using e) h
theorem ng {T:TypeId} {x:Operand} {k:IntKind} {a:Int} (ho:nth l i=some ⟨some d,.unOp .neg T x,t,p,af,g⟩) (hg:Gd l ρ g c) (hx:Ev ρ c x (.int k a)) (hw:c=true→k.wrap (-a) = -a) (h:Wo dr mc P n l K σ ((d,c,.int k (-a)) :: ρ) G μ):Wo dr mc P n l K (i :: σ) ρ G μ :=
 .pure ho (.inl rfl) hg (fun hc q w ha=>by simp [execOp,hx.eval ha hc,Op.unary,Op.intArith,hw hc]) h
theorem nw {T:TypeId} {x:Operand} {k:IntKind} {a:BitVec k.bits} (ho:nth l i=some ⟨some d,.unOp .neg T x,t,p,af,g⟩) (hg:Gd l ρ g c) (hk:k.signed=false) (hx:Ev ρ c x (uv k a)) (h:Wo dr mc P n l K σ ((d,c,uv k (-a)) :: ρ) G μ):Wo dr mc P n l K (i :: σ) ρ G μ :=
 .pure ho (.inl rfl) hg (fun hc q w ha=>by
  have e1:=hx.eval ha hc
  have e:k.wrap (-(a.toNat:Int))=((-a).toNat:Int):=by rw [aAw hk,BitVec.ofInt_neg]; simp
  simp [execOp,e1,uv,Op.unary,Op.intArith,e]) h
theorem xw {T:TypeId} {x:Operand} {k:IntKind} {a:BitVec k.bits} (ho:nth l i=some ⟨some d,.unOp .xor T x,t,p,af,g⟩) (hg:Gd l ρ g c) (hk:k.signed=false) (hx:Ev ρ c x (uv k a)) (h:Wo dr mc P n l K σ ((d,c,uv k (~~~a)) :: ρ) G μ):Wo dr mc P n l K (i :: σ) ρ G μ :=
 .pure ho (.inl rfl) hg (fun hc q w ha=>by
  have e1:=hx.eval ha hc
  have e2:BitVec.ofInt k.bits k.max=BitVec.allOnes k.bits:=by
   cases k<;>first|rfl | cases hk
  have e3:BitVec.allOnes k.bits ^^^ a = ~~~a:=by simp
  have e:k.wrap (((~~~a).toNat:Nat):Int)=((~~~a).toNat:Int):=yI hk _
  simp only [execOp,e1,uv,Op.unary,Op.intBits,hk,if_false,e2,Bool.false_eq_true,Sem.run_bind]
  simp [e3]
  simpa using e) h
theorem Sat.rowOne {E sz m:Nat} {v:Value} {xs:List Value} {w:World} (hs:Sat G [.row v E sz m xs] w):v.oneCell'=true:=by
 have hrow:w.ownsRow 0 E sz v m xs:=hs.own _ (List.mem_singleton.2 rfl)
 rcases hrow.2 with ⟨rfl,_⟩ | ⟨g,cap,cur,rfl,_⟩<;>rfl
theorem eN {T E:Nat} {x y:Operand} {v u:Value} {xs ys:List Y} {μ':aG} (ho:nth l i=some ⟨some d,.call { callee:=.builtin .append,args:=#[x,y],argTypes:=#[T,T] },t,p,af,none⟩)
  (hT:bJ P T=some (E,1,1)) (hz:(P.info? E).bind (·.zero)=some (.int .u8 0)) (hx:Ev ρ true x v) (hy:Ev ρ true y u) (hm:MTake μ (rB v E xs) μ') (hs:Sc G μ u ys) (hb:xs.length+ys.length≤140737488355328)
  (h:∀ v' L,v'.oneCell'=true→L=xs++ys→Wo dr mc P n l K σ ((d,true,v') :: ρ) G (rB v' E L :: μ')) (hmc:mc.a=false∨dr=false:=by first|exact .inl rfl|exact .inr rfl):Wo dr mc P n l K (i :: σ) ρ G μ:=by
 obtain ⟨oa,cap,rfl,hr⟩:=hs.ex
 refine .act (μ₁:=[rB v E xs]) (μ₂:=μ') (post:=fun G' μ' v'=>G'=G∧v'.oneCell'=true∧μ'=[rB v' E (xs++ys)]) ho (by rcases hmc with h | h<;>simp [bI,h]) .no hm.perm (fun a w ha hs=>.inl ?_) ?_
 ·obtain ⟨v',w',hrun,ht⟩:=xX (ty:=t) (cp:=cap) (news:=ys.map V) (k:=ys.length) (oa:=oa) hT hz rfl hs.left (by simp) (fun hk=>by
   obtain ⟨b,o,h1,h2⟩:=hr hk
   exact ⟨b,o,h1,fun j u hj=>h2 j u hj w (hs.perm hm.perm.symm)⟩) (aAd ys) (by omega) (by unfold maxLen; omega)
  refine ⟨v',w',G,[rB v' E (xs++ys)],.inl (by simp [execOp,resolve,invoke,builtin,hx.eval ha rfl,hy.eval ha rfl,hrun]),?_,rfl,ht.sat.rowOne,rfl⟩
  simp only [rB,List.length_append,List.map_append]; exact ht
 rintro v' G' μ'' _ ⟨rfl,h1,rfl⟩
 exact h v' _ h1 rfl
theorem Sat.rowVal {E sz m:Nat} {v:Value} {xs:List Value} {w:World} (hs:Sat G μ w) (hm : .row v E sz m xs∈μ) (h0:0<m):∃ b cap,v=.slice (some ⟨b,0,none⟩) m cap∧m≤cap:=by
 have hrow:w.ownsRow 0 E sz v m xs:=hs.own _ hm
 rcases hrow.2 with ⟨rfl,rfl⟩ | ⟨g,cap,cur,rfl,_,hg,hnc,_⟩
 ·omega
 ·exact ⟨g,cap,rfl,hnc⟩
theorem aCp {X:Cx} {cd:Code} {k:List KI} {E sz m:Nat} {v:Value} {xs:List Value} {μ':aG} (hm:MTake μ (.row v E sz m xs) μ') (h0:0<m) (h:∀ b cap,v=.slice (some ⟨b,0,none⟩) m cap→m≤cap→Wk X cd k ρ G μ):Wk X cd k ρ G μ :=
 ⟨fun a w ha ht=>by
  obtain ⟨b,cap,h1,h2⟩:=ht.sat.rowVal (hm.perm.mem_iff.2 (List.mem_cons_self ..)) h0
  exact (h b cap h1 h2).out a w ha ht⟩
theorem Tr.frzB {G0:PM} {K0:List Nat} {w0 w:World} {E:Nat} {v:Value} {xs:List Y} (h:Tr G0 K0 w0 G (rB v E xs :: μ) w) (hK:∀ b∈K0,b∈keys μ) :
  ∃ G' s,PM.le G G'∧v=Sh.val s xs.length∧SlR G' 1 aN s xs∧Tr G0 K0 w0 G' μ w:=by
 obtain ⟨G',s,h1,h2,h3,h4,h5,h6⟩:=h.freezeRow hK
 exact ⟨G',s,h1,h2,SlR.ofRow (fun _ _=>rfl) h3 h4 (by rw [sY]; exact h5),h6⟩
theorem aFK {X:Cx} {e:Exit} {k:List KI} {E:Nat} {v:Value} {xs:List Y} {μ':aG} (hm:MTake μ (rB v E xs) μ') (hK:∀ b∈X.K0,b∈keys μ') (h:∀ G' s,PM.le G G'→v=Sh.val s xs.length→SlR G' 1 aN s xs→We X e k ρ G' μ'):We X e k ρ G μ :=
 ⟨fun a w ha ht=>by
  obtain ⟨G',s,h1,h2,h3,h4⟩:=(ht.perm hm.perm).frzB hK
  exact (h G' s h1 h2 h3).out a w ha h4⟩
theorem kR {X:Cx} {cd:Code} {k:List KI} {E:Nat} {v:Value} {xs:List Y} {μ':aG} (hm:MTake μ (rB v E xs) μ') (hK:∀ b∈X.K0,b∈keys μ') (h:∀ G' s,PM.le G G'→v=Sh.val s xs.length→SlR G' 1 aN s xs→Wk X cd k ρ G' μ'):Wk X cd k ρ G μ :=
 ⟨fun a w ha ht=>by
  obtain ⟨G',s,h1,h2,h3,h4⟩:=(ht.perm hm.perm).frzB hK
  exact (h G' s h1 h2 h3).out a w ha h4⟩
theorem aLD {f:FuncId} {args:Array Value} {μ0:aG} {Q:PM→aG→Value→Prop} (h:Ct P f args G [] Q) {E:Nat} {R:List Y→Prop} (hQ:∀ G' μ' u,Q G' μ' u→∃ L,R L∧μ'=[rB u E L]) :
  Ct P f args G [] (fun G' μ' u=>∃ (s:Sh) (L:List Y),R L∧μ'=[]∧u=s.val L.length∧SlR G' 1 aN s L):=by
 intro w hs
 refine (h w hs).mono ?_
 rintro e w' ⟨v,G',μ',rfl,ht,hp⟩
 obtain ⟨L,hL,rfl⟩:=hQ _ _ _ hp
 obtain ⟨G2,s,h1,h2,h3,h4⟩:=ht.frzB (by intro b hb; cases hb)
 exact ⟨v,G2,[],rfl,h4,s,L,hL,rfl,h2,h3⟩
theorem aQ9 (m:Nat):(madeCells (Value.int .u8 0).cells m).toList=(List.replicate m (0#8)).map V:=by
 have hc:(Value.int .u8 0).cells = #[.int .u8 0]:=rfl
 rw [hc]
 unfold madeCells
 rw [Array.toList_map]
 refine List.ext_getElem? fun j=>?_
 by_cases hj:j<m
 ·simp [hj,Nat.mod_one]; rfl
 simp [hj]
theorem xO {T E:Nat} {x y:Operand} {a b:Int} {k k':IntKind} (lo cap:Nat) (ho:nth l i=some ⟨some d,.makeSlice T x y,t,p,af,none⟩) (hT:bJ P T=some (E,1,1)) (hz:(P.info? E).bind (·.zero)=some (.int .u8 0)) (hx:Ev ρ true x (.int k a)) (hy:Ev ρ true y (.int k' b)) (ha:a=lo) (hb:b=cap) (h1:lo≤cap) (h2:cap≤140737488355328)
  (h:∀ b,Wo dr mc P n l K σ ((d,true,.slice (some ⟨b,0,none⟩) lo cap) :: ρ) G (rB (.slice (some ⟨b,0,none⟩) lo cap) E (List.replicate lo 0#8) :: μ)):Wo dr mc P n l K (i :: σ) ρ G μ:=by
 subst ha; subst hb
 refine .act (μ₁:=[]) (μ₂:=μ) (post:=fun G' μ' v=>∃ b,G'=G∧v=.slice (some ⟨b,0,none⟩) lo cap∧μ'=[rB (.slice (some ⟨b,0,none⟩) lo cap) E (List.replicate lo 0#8)]) ho (.inl rfl) .no (.refl _) (fun q w hq hs=>.inl ?_) ?_
 ·obtain ⟨hu,inf,hi,hs1,hb1⟩:=fG hT
  rw [hi] at hz
  simp only [Option.bind_some] at hz
  have hrun:=run_make (P:=P) w T E inf _ hu hi hz k k' lo cap (by omega) (by omega) (by rw [hb1]; omega) (by omega)
  simp only [Int.toNat_natCast,hs1,Nat.mul_one] at hrun
  have h0:Tr G (keys []) w G [.blk w.heap.size (.cells (madeCells (Value.int .u8 0).cells cap) E (0,0))] _:=(eQ (Sat.left (μ:=[]) hs)).alloc _
  refine ⟨_,_,G,_,.inl (by simp [execOp,hx.eval hq rfl,hy.eval hq rfl,hrun]),h0.asRow (m:=lo) (cap:=cap) (sz:=1) (xs:=(List.replicate lo 0#8).map V) (by simp) h1 (by unfold maxLen; omega) (by rw [size_madeCells]; omega) ?_,w.heap.size,rfl,rfl,by simp [rB]⟩
  rw [aQ9,←List.map_take]
  simp [Nat.min_eq_left h1]
 rintro v G' μ'' _ ⟨b,rfl,rfl,rfl⟩
 exact h b
theorem s1r {T E m cap b o:Nat} {x y:Operand} {z:Y} {xs:List Y} {μ':aG} (ho:nth l i=some ⟨none,.store T x y,t,p,af,none⟩) (hx:Ev ρ true x (.pointer (some ⟨b,o,none⟩))) (hy:Ev ρ true y (V z)) (hz:cE P T=some 1)
  (hm:MTake μ (rB (.slice (some ⟨b,0,none⟩) m cap) E xs) μ') (hl:o<xs.length) (h:∀ L,L=xs.set o z→L.length=xs.length→Wo dr mc P n l K σ ρ G (rB (.slice (some ⟨b,0,none⟩) m cap) E L :: μ')):Wo dr mc P n l K (i :: σ) ρ G μ:=by
 refine .act (μ₁:=[rB (.slice (some ⟨b,0,none⟩) m cap) E xs]) (μ₂:=μ') (post:=fun G' μ' v=>G'=G∧μ'=[rB (.slice (some ⟨b,0,none⟩) m cap) E (xs.set o z)]∧v=undef) ho (.inl rfl) .no hm.perm (fun a w ha hs=>.inl ?_) ?_
 ·have hs':=hs.left
  have hrow:w.ownsRow 0 E 1 (.slice (some ⟨b,0,none⟩) m cap) xs.length (xs.map V):=hs'.own _ (List.mem_singleton.2 rfl)
  rcases hrow.2 with ⟨e,_⟩ | ⟨g,cap',cur,e,_,hg,hnc,hcm,hcs,htake⟩
  ·cases e
  simp only [Value.slice.injEq,Option.some.injEq,Addr.mk.injEq,and_true,true_and] at e
  obtain ⟨rfl,rfl,rfl⟩:=e
  have hk:keys [rB (.slice (some ⟨b,0,none⟩) xs.length cap) E xs]=[b]:=by simp [keys,Res.keys,Value.ownBlock]
  have hsat:Sat G [.blk b (.cells cur E (0,0))] w:=⟨hs'.sub,fun r hr=>by rw [List.mem_singleton.1 hr]; exact hg,fun c hc=>hs'.apart c (by simpa [keys,Res.keys,Value.ownBlock] using hc),by simp [keys,Res.keys]⟩
  have hsz:o<cur.size:=by rw [hcs]; omega
  have hst:=run_storeCells_at P b o E [V z] 0 cur w hg (by simp; omega) (by intro v hv; rw [List.mem_singleton.1 hv]; rfl)
  simp only [Nat.add_zero,List.length_singleton] at hst
  have h2:=(zQ (cs':=(cur.toList.take o++[V z]++cur.toList.drop (o+1)).toArray) hsat).asRow (m:=xs.length) (cap:=cap) (sz:=1) (xs:=(xs.set o z).map V) (by simp) hnc hcm ?_ ?_
  ·refine ⟨undef,_,G,_,.inr ⟨?_,rfl⟩,by rw [hk]; exact h2,rfl,by simp [rB],rfl⟩
   cases hi:P.info? T with
   | none=>simp [cE,hi] at hz
   | some inf =>
    simp only [cE,hi,Option.map_some,Option.some.injEq] at hz
    have hvc:(V z).cells = #[V z]:=rfl
    simp only [execOp,hx.eval ha rfl,hy.eval ha rfl]
    simp [Instr.storeAt,Instr.sureAddr,storeVar,hvc,sizeOf,typeInfo,hi,hz,hst]
  ·simp; omega
  have h3:cur.toList.take o++[V z]++cur.toList.drop (o+1)=cur.toList.set o (V z):=by
   rw [List.set_eq_take_append_cons_drop,if_pos (by simpa using hsz)]; simp
  rw [h3,List.map_set,←htake]
  refine List.ext_getElem? fun j=>?_
  simp only [List.getElem?_take,List.getElem?_set,Nat.mul_one]
  by_cases hj:j<xs.length
  ·by_cases he:o=j
   ·subst he; simp [hj,hsz]; omega
   simp [hj,he]
  by_cases he:o=j
  ·omega
  simp [hj,he]
 rintro v G' μ'' _ ⟨rfl,rfl,rfl⟩
 exact h _ rfl (by simp)
def dH (xs:List Y):ByteArray:=(xs.map fun y=>(y.toNat:Int)).foldl (fun r n=>r.push (UInt8.ofNat n.toNat)) ByteArray.empty
theorem qP (xs:List Y):(dH xs).data.toList=xs.map fun y=>UInt8.ofNat y.toNat:=by
 have key:∀ (ns:List Int) (s:ByteArray),(ns.foldl (fun r n=>r.push (UInt8.ofNat n.toNat)) s).data.toList=s.data.toList++ns.map fun n=>UInt8.ofNat n.toNat:=by
  intro ns
  induction ns with
  | nil=>intro s; simp
  | cons n ns ih=>intro s; rw [List.foldl_cons,ih]; simp
 unfold dH
 rw [key]
 simp [Function.comp_def]
theorem aN5 {xs ys:List Y} (h:dH xs=dH ys):xs=ys:=by
 have h1:(dH xs).data.toList=(dH ys).data.toList:=by rw [h]
 rw [qP,qP] at h1
 have hinj:∀ a b:Y,UInt8.ofNat a.toNat=UInt8.ofNat b.toNat→a=b:=by
  intro a b hab
  have:=congrArg UInt8.toNat hab
  rw [UInt8.toNat_ofNat',UInt8.toNat_ofNat'] at this
  have ha:=a.isLt; have hb:=b.isLt
  exact BitVec.eq_of_toNat_eq (by omega)
 clear h
 induction xs generalizing ys with
 | nil=>cases ys with
  | nil=>rfl
  | cons b ys=>simp at h1
 | cons a xs ih=>cases ys with
  | nil=>simp at h1
  | cons b ys =>
   simp only [List.map_cons,List.cons.injEq] at h1
   rw [hinj a b h1.1,ih h1.2]
theorem aN3 (xs ys:List Y):((dH xs).toList == (dH ys).toList)=decide (xs=ys):=by
 rw [ByteArray.toList_eq,ByteArray.toList_eq]
 by_cases h:xs=ys
 ·subst h; simp
 ·have:¬ (dH xs).data.toList=(dH ys).data.toList:=fun e=>h (aN5 (ByteArray.ext (Array.toList_inj.1 e)))
  simp [h]
  exact fun e=>this (by rw [e])
theorem aDs (xs:List Y):(dH xs).size=xs.length:=by
 have:=congrArg List.length (qP xs)
 simpa using this
def bsT (P:Program) (S D:TypeId):Bool:=match P.underlying S,P.underlying D with
 | some (.slice e),some .string=>match P.underlying e with | some (.int .u8)=>true | _=>false
 | _,_=>false
theorem sB {S D:TypeId} {x:Operand} {u:Value} {ys:List Y} (ho:nth l i=some ⟨some d,.convert S D x,t,p,af,g⟩) (hg:Gd l ρ g c) (hS:bsT P S D=true) (hx:Ev ρ c x u) (hs:c=true→Sc G μ u ys)
  (h:Wo dr mc P n l K σ ((d,c,.string (dH ys)) :: ρ) G μ):Wo dr mc P n l K (i :: σ) ρ G μ :=
 .read ho (.inl rfl) hg (fun hc a w ha hsat=>by
  unfold bsT at hS
  split at hS
  ·rename_i e h1 h2
   split at hS
   ·rename_i h3
    obtain ⟨oa,cap,rfl,hr⟩:=(hs hc).ex
    have hconv:=run_convert_bytes_string w S D e oa ys.length cap h1 h3 h2
    have hb:(Conv.bytesToString (.slice oa ys.length cap)).run P w=.ok (.string (dH ys)) w:=by
     cases oa with
     | none =>
      have:ys=[]:=by
       cases ys with
       | nil=>rfl
       | cons y ys=>obtain ⟨b,o,h,_⟩:=hr (by simp); cases h
      subst this
      simp [Conv.bytesToString]; rfl
     | some ad =>
      have hl:(loadCells ad ys.length).run P w=.ok ((ys.map fun y=>(y.toNat:Int)).map (Value.int .u8)).toArray w:=by
       have e1:(ys.map fun y=>(y.toNat:Int)).map (Value.int .u8)=ys.map V:=by rw [List.map_map]; rfl
       rw [e1]
       rcases Nat.eq_zero_or_pos ys.length with h0 | h0
       ·have:ys=[]:=List.eq_nil_of_length_eq_zero h0
        subst this
        simp [loadCells,loadCellsFrom]
       ·obtain ⟨b,o,e2,hrd⟩:=hr h0
        simp only [Option.some.injEq] at e2
        subst e2
        exact aJx hrd hsat (by simp)
      exact run_bytesToString w ad ys.length cap _ hl
    simp [execOp,hx.eval ha hc,hconv,hb]
   ·cases hS
  ·cases hS) h
def jR (P:Program) (T:TypeId):Bool:=match P.underlying T with | some (.pointer _)=>true | _=>false
theorem aJv {T:TypeId} {a:Addr} (hT:jR P T=true) (w:World):(Op.equal T (.pointer (some a)) (.pointer none)).run P w=.ok false w:=by
 unfold jR at hT
 split at hT
 ·rename_i e hu
  unfold Op.equal
  rw [show Op.maxDepth=9999+1 from rfl,Op.equalIn]
  simp [run_underlying hu]
 ·cases hT
theorem pn {T T':TypeId} {x y:Operand} {a:Addr} (ho:nth l i=some ⟨some d,.binOp .neq T x y T',t,p,af,g⟩) (hg:Gd l ρ g c) (hT:jR P T=true) (hx:Ev ρ c x (.pointer (some a))) (hy:Ev ρ c y (.pointer none)) (h:Wo dr mc P n l K σ ((d,c,.bool true) :: ρ) G μ):Wo dr mc P n l K (i :: σ) ρ G μ :=
 .pure ho (.inl rfl) hg (fun hc q w ha=>by
  have hq:(eqGuard .neq T x y (.pointer (some a)) (.pointer none)).run P w=.ok () w:=by unfold eqGuard; simp
  simp [execOp,hx.eval ha hc,hy.eval ha hc,hq,binOp,aJv hT]) h
theorem pe {T T':TypeId} {x y:Operand} {a:Addr} (ho:nth l i=some ⟨some d,.binOp .eql T x y T',t,p,af,g⟩) (hg:Gd l ρ g c) (hT:jR P T=true) (hx:Ev ρ c x (.pointer (some a))) (hy:Ev ρ c y (.pointer none)) (h:Wo dr mc P n l K σ ((d,c,.bool false) :: ρ) G μ):Wo dr mc P n l K (i :: σ) ρ G μ :=
 .pure ho (.inl rfl) hg (fun hc q w ha=>by
  have hq:(eqGuard .eql T x y (.pointer (some a)) (.pointer none)).run P w=.ok () w:=by unfold eqGuard; simp
  simp [execOp,hx.eval ha hc,hy.eval ha hc,hq,binOp,aJv hT]) h
theorem oF {T E sz by':Nat} (ho:nth l i=some ⟨some d,.buildSlice T 0 #[],t,p,af,none⟩) (hT:bJ P T=some (E,sz,by'))
  (h:∀ b,Wo dr mc P n l K σ ((d,true,.slice (some ⟨b,0,none⟩) 0 0) :: ρ) G (.blk b (cl [] E) :: μ)):Wo dr mc P n l K (i :: σ) ρ G μ :=
 .box (ob:=cl [] E) (mkv:=fun b=>.slice (some ⟨b,0,none⟩) 0 0) ho (.inl rfl) .no (fun a w ha=>by
  obtain ⟨hu,inf,hi,hs1,_⟩:=fG hT
  simp [execOp,Instr.buildSlice,run_underlying hu,sizeOf,typeInfo,hi,Instr.fill,newRow,cl]
  rw [show Array.map (fun _=>(default:Value)) (Array.range 0) = #[] from by simp [Array.eq_empty_iff_size_eq_zero]]) h
theorem Sat.toRow {E b:Nat} {w:World} (h:Sat G [.blk b (cl [] E)] w):Sat G [rB (.slice (some ⟨b,0,none⟩) 0 0) E []] w :=
 ((eQ h).toRow (m:=0) (sz:=1) (by simp) (Nat.zero_le _)).sat
theorem qM {T E b:Nat} {x y:Operand} {u:Value} {ys:List Y} {μ':aG} (ho:nth l i=some ⟨some d,.call { callee:=.builtin .append,args:=#[x,y],argTypes:=#[T,T] },t,p,af,none⟩)
  (hT:bJ P T=some (E,1,1)) (hz:(P.info? E).bind (·.zero)=some (.int .u8 0)) (hx:Ev ρ true x (.slice (some ⟨b,0,none⟩) 0 0)) (hy:Ev ρ true y u) (hm:MTake μ (.blk b (cl [] E)) μ') (hs:Sc G μ u ys) (hb:ys.length≤140737488355328)
  (h:∀ v' L ν,v'.oneCell'=true→L=ys→Wo dr mc P n l K σ ((d,true,v') :: ρ) G (rB v' E L :: (μ'++ν))):Wo dr mc P n l K (i :: σ) ρ G μ:=by
 obtain ⟨oa,cap,rfl,hr⟩:=hs.ex
 clear hs
 have hrun0:∀ a w,Ag n ρ a→Sat G ([.blk b (cl [] E)]++μ') w→∃ v' w',(execOp a.eval ⟨some d,.call { callee:=.builtin .append,args:=#[x,y],argTypes:=#[T,T] },t,p,af,none⟩).run P w=.ok (.value v') w'∧Tr G (keys [.blk b (cl [] E)]) w G [rB v' E ys] w':=by
  intro a w ha hs
  have hrow:=Sat.toRow hs.left
  obtain ⟨v',w',hrun,ht⟩:=xX (ty:=t) (cp:=cap) (m:=0) (xs:=[]) (news:=ys.map V) (k:=ys.length) (oa:=oa) hT hz rfl hrow (by simp) (fun hk=>by
   obtain ⟨b,o,h1,h2⟩:=hr hk
   exact ⟨b,o,h1,fun j u hj=>h2 j u hj w (hs.perm hm.perm.symm)⟩) (aAd ys) (by omega) (by unfold maxLen; omega)
  refine ⟨v',w',by simp [execOp,resolve,invoke,builtin,hx.eval ha rfl,hy.eval ha rfl,hrun],?_⟩
  simpa [keys,Res.keys,Value.ownBlock] using ht
 by_cases hmc:mc.a=true
 ·refine .fresh (μ₁:=[.blk b (cl [] E)]) (μ₂:=μ') (post:=fun G' μa μb v'=>G'=G∧v'.oneCell'=true∧μa=[rB v' E ys]∧Weak (μa++μb) [.blk b (cl [] E)]) ho (.inl (by simp [bI,hmc])) rfl hm.perm (fun a w ha hs=>?_) (fun v G' μa μb hq=>hq.2.2.2) ?_
  ·by_cases hy0:ys.length=0
   ·
    obtain ⟨v',w',h1,h2⟩:=hrun0 a w ha hs
    have hys:ys=[]:=List.eq_nil_of_length_eq_zero hy0
    subst hys
    have hb0:w.heap[b]? = some (cl [] E):=hs.own _ (List.mem_append_left _ (List.mem_singleton.2 rfl))
    obtain ⟨hu,inf,hi,hs1,hb1⟩:=fG hT
    have hv:v'=.slice (some ⟨b,0,none⟩) 0 0:=by
     have hrun:(execOp a.eval ⟨some d,.call { callee:=.builtin .append,args:=#[x,y],argTypes:=#[T,T] },t,p,af,none⟩).run P w=.ok (.value (.slice (some ⟨b,0,none⟩) 0 0)) w:=by
      simp only [execOp,resolve,invoke,builtin,hx.eval ha rfl,hy.eval ha rfl]
      cases oa<;>simp [hx.eval ha rfl,hy.eval ha rfl,Builtin.append_,run_underlying hu,sizeOf,typeInfo,hi,Builtin.lenOf,Builtin.firstCells,loadCells,loadCellsFrom,storeCells]
     rw [hrun] at h1
     simp only [Result.ok.injEq,Next.value.injEq] at h1
     exact h1.1.symm
    refine ⟨v',w',G,[rB v' E []],[],h1,h2,rfl,h2.sat.rowOne,rfl,?_⟩
    subst hv
    refine ⟨fun w1 hw1 r hr1=>?_,fun c hc=>?_,by simp [keys,Res.keys]⟩
    ·rw [List.mem_singleton.1 hr1]
     have hrow:w1.ownsRow 0 E 1 (.slice (some ⟨b,0,none⟩) 0 0) 0 []:=hw1 _ (List.mem_singleton.2 rfl)
     rcases hrow.2 with ⟨e,_⟩ | ⟨g,cap',cur,e,_,hg,hnc,hcm,hcs,htake⟩
     ·cases e
     simp only [Value.slice.injEq,Option.some.injEq,Addr.mk.injEq,and_true,true_and] at e
     obtain ⟨rfl,rfl⟩:=e
     have:cur = #[]:=Array.eq_empty_of_size_eq_zero (by simpa using hcs)
     subst this
     exact hg
    simpa [keys,Res.keys,Value.ownBlock] using hc
   have hb0:w.heap[b]? = some (cl [] E):=hs.own _ (List.mem_append_left _ (List.mem_singleton.2 rfl))
   obtain ⟨hu,inf,hi,hs1,hb1⟩:=fG hT
   have hz':=hz
   rw [hi] at hz'
   simp only [Option.bind_some] at hz'
   obtain ⟨b2,o2,rfl,hrd⟩:=hr (by omega)
   have hnews:∀ j u,(ys.map V)[j]? = some u→w.cell? ((⟨b2,o2,none⟩ : Addr).add j)=some u:=fun j u hj=>by rw [jB]; exact hrd j u hj w (hs.perm hm.perm.symm)
   have hrun:=run_append_grow (P:=P) w T t E inf _ hu hi hz' ⟨b,0,none⟩ 0 0 [] (by simp) (fun j u hj=>by simp at hj) ⟨b2,o2,none⟩ ys.length cap (ys.map V) (by rw [hs1]; simp) hnews (by omega) (by omega) (growslice_fits (by omega) (by rw [hb1]; omega))
   have h2:=((eQ hs.left).drew).alloc (.cells (([]:List Value).toArray++(ys.map V).toArray++Builtin.zeroCells (Value.int .u8 0).cells (grownCap w (0+ys.length) 0 E-(0+ys.length))) E)
   have hge:=grownCap_ge w (0+ys.length) 0 E
   have h3:=h2.asRow (m:=ys.length) (cap:=grownCap w (0+ys.length) 0 E) (sz:=1) (xs:=ys.map V) (by simp) (by omega) (grownCap_le_maxLen w (0+ys.length) 0 E (by unfold maxLen; omega)) (by
    simp only [Array.size_append,List.size_toArray,size_zeroCells,List.length_map,List.length_nil]
    have:(Value.int .u8 0).cells.size=1:=rfl
    rw [this]; omega) (by simp)
   refine ⟨_,_,G,[_],[.blk b (cl [] E)],?_,h3,rfl,?_,rfl,?_⟩
   ·simp only [Nat.zero_add] at hrun ⊢
    simp [execOp,resolve,invoke,builtin,hx.eval ha rfl,hy.eval ha rfl,hrun]
   ·rfl
   refine ⟨fun w1 hw1 r hr1=>hw1 r (List.mem_cons_of_mem _ hr1),fun c hc=>?_,by simp [keys,Res.keys]⟩
   rw [gO]
   exact List.mem_append_right _ hc
  rintro v' G' μa μb _ ⟨rfl,h1,rfl,_⟩
  exact h v' _ μb h1 rfl
 refine .act (μ₁:=[.blk b (cl [] E)]) (μ₂:=μ') (post:=fun G' μ' v'=>G'=G∧v'.oneCell'=true∧μ'=[rB v' E ys]) ho (.inl (by simp [bI,hmc])) .no hm.perm (fun a w ha hs=>.inl ?_) ?_
 ·obtain ⟨v',w',h1,h2⟩:=hrun0 a w ha hs
  exact ⟨v',w',G,[rB v' E ys],.inl h1,h2,rfl,h2.sat.rowOne,rfl⟩
 rintro v' G' μ'' _ ⟨rfl,h1,rfl⟩
 have:=h v' _ [] h1 rfl
 rwa [List.append_nil] at this
theorem aFL {X:Cx} {cd:Code} {k:List KI} (E:Nat) (h:Wk X cd k ρ G (rB (.slice none 0 0) E [] :: μ)):Wk X cd k ρ G μ:=aCo E 1 h
theorem vM {X:Cx} {e:Exit} {k:List KI} (E:Nat) (h:We X e k ρ G (rB (.slice none 0 0) E [] :: μ)):We X e k ρ G μ:=aVM E 1 h
theorem evi {k:IntKind} {a b:Int} (h:a=b):Value.int k a=Value.int k b:=by rw [h]
abbrev PR (E:Nat) (R:List Y→Prop):PM→aG→Value→Prop:=fun _ μ' u=>∃ L,R L∧μ'=[rB u E L]
abbrev PS (R:List Y→Prop):PM→aG→Value→Prop:=fun G' μ' u=>∃ (s:Sh) (L:List Y),R L∧μ'=[]∧u=s.val L.length∧SlR G' 1 aN s L
theorem Ct.frzB {f:FuncId} {args:Array Value} {E:Nat} {R:List Y→Prop} (h:Ct P f args G [] (PR E R)):Ct P f args G [] (PS R):=aLD (μ0:=[]) h (fun _ _ _ h=>h)
theorem RdNP.wat {b m:Nat} {y:Nat→W} (h:RdNP G b 0 (wa m y)) {j:Int} (a:Nat) (hj:0+j.toNat*1=a) (ha:a<m):RdP G ⟨b,0+j.toNat*1,none⟩ (U (y a)):=by
 rw [hj]; have:=h a _ (aAr ha); rwa [Nat.zero_add] at this
theorem cn {S D:TypeId} {x:Operand} {k:IntKind} {a:BitVec k.bits} (ho:nth l i=some ⟨some d,.convert S D x,t,p,af,g⟩) (hg:Gd l ρ g c) (hk:jO P S D=some .i64) (hb:k.bits≤32) (hx:Ev ρ c x (uv k a))
  (h:∀ m:Nat,m=a.toNat→m<2^k.bits→Wo dr mc P n l K σ ((d,c,.int .i64 (m:Int)) :: ρ) G μ):Wo dr mc P n l K (i :: σ) ρ G μ :=
 cw ho hg hk hx (fun _=>eV (by omega) (by
  have h1:=a.isLt
  have h2:2^k.bits≤2^32:=Nat.pow_le_pow_right (by decide) hb
  omega)) (h a.toNat rfl a.isLt)
def PM.del (G:PM) (b:Nat):PM:=fun c=>if c=b then none else G c
theorem cO {μ μ1:aG} {r1:Res} (h1:MTake μ r1 μ1):μ.Perm ([r1]++μ1):=h1.perm
theorem dI {μ μ1 μ2:aG} {r1 r2:Res} (h1:MTake μ r1 μ1) (h2:MTake μ1 r2 μ2):μ.Perm ([r1,r2]++μ2):=h1.perm.trans (h2.perm.cons _)
theorem fF {μ μ1 μ2 μ3:aG} {r1 r2 r3:Res} (h1:MTake μ r1 μ1) (h2:MTake μ1 r2 μ2) (h3:MTake μ2 r3 μ3):μ.Perm ([r1,r2,r3]++μ3):=h1.perm.trans ((h2.perm.trans (h3.perm.cons _)).cons _)
theorem rT {f:FuncId} {args:Array Value} {b:Nat} {o:Obj} {Q:aG→Value→Prop} (h:Ct P f args (G.add b o) μ (fun _ μ' u=>Q μ' u)):Ct P f args G (.blk b o :: μ) (fun _ μ' u=>∃ ν,μ'=.blk b o :: ν∧Q ν u):=by
 intro w hs
 have hk:keys (.blk b o :: μ)=b :: keys μ:=by simp [keys,Res.keys]
 have hnd:=hs.nodup
 rw [hk] at hnd
 have hbμ:=(List.nodup_cons.1 hnd).1
 have hbo:w.heap[b]? = some o:=hs.own _ (List.mem_cons_self ..)
 have hs2:Sat (G.add b o) μ w:=by
  refine ⟨fun c u hc=>?_,fun r hr=>hs.own r (List.mem_cons_of_mem _ hr),fun c hc=>?_,(List.nodup_cons.1 hnd).2⟩
  ·unfold PM.add at hc
   split at hc
   ·rename_i e; subst e; cases hc; exact hbo
   exact hs.sub c u hc
  unfold PM.add
  rw [if_neg (fun (e:c=b)=>hbμ (e▸hc))]
  exact hs.apart c (by rw [hk]; exact List.mem_cons_of_mem _ hc)
 refine (h w hs2).mono ?_
 rintro e w' ⟨v,G',μ',rfl,ht,hQ⟩
 have hGb:G' b=some o:=ht.le b o hbμ (bU G b o)
 have hk':keys (.blk b o :: μ')=b :: keys μ':=by simp [keys,Res.keys]
 have hbμ':b∉keys μ':=fun hm=>by have:=ht.sat.apart b hm; rw [hGb] at this; cases this
 refine ⟨v,G'.del b,.blk b o :: μ',rfl,⟨⟨fun c u hc=>?_,fun r hr=>?_,fun c hc=>?_,?_⟩,ht.os,ht.tape,ht.output,ht.size,fun c hc hK=>?_,fun c hc=>?_,fun c u hK hc=>?_⟩,μ',rfl,hQ⟩
 ·unfold PM.del at hc
  split at hc
  ·cases hc
  exact ht.sat.sub c u hc
 ·rcases List.mem_cons.1 hr with rfl | hr
  ·exact ht.sat.sub b o hGb
  exact ht.sat.own r hr
 ·rw [hk'] at hc
  unfold PM.del
  split
  ·rfl
  rename_i hne
  rcases List.mem_cons.1 hc with e | hc
  ·exact absurd e hne
  exact ht.sat.apart c hc
 ·rw [hk']; exact List.nodup_cons.2 ⟨hbμ',ht.sat.nodup⟩
 ·rw [hk] at hK
  have hne:c≠b:=fun e=>hK (by rw [e]; exact List.mem_cons_self ..)
  have h1:=ht.old c hc (fun hm=>hK (List.mem_cons_of_mem _ hm))
  refine ⟨h1.1,?_⟩
  unfold PM.del
  rw [if_neg hne,h1.2]
  unfold PM.add
  rw [if_neg hne]
 ·rw [hk'] at hc
  rw [hk]
  rcases List.mem_cons.1 hc with rfl | hc
  ·exact .inl (List.mem_cons_self ..)
  rcases ht.mine c hc with h1 | h1
  ·exact .inl (List.mem_cons_of_mem _ h1)
  exact .inr h1
 rw [hk] at hK
 have hne:c≠b:=fun e=>hK (by rw [e]; exact List.mem_cons_self ..)
 unfold PM.del
 rw [if_neg hne]
 exact ht.le c u (fun hm=>hK (List.mem_cons_of_mem _ hm)) (by unfold PM.add; rw [if_neg hne]; exact hc)
theorem yJ {f:FuncId} {args:Array Value} {E:Nat} {v:Value} {xs:List Y} {Q:aG→Value→Prop}
  (h:∀ (s:Sh) (G2:PM),PM.le G G2→v=s.val xs.length→SlR G2 1 aN s xs→Ct P f args G2 μ (fun _ μ' u=>Q μ' u)):Ct P f args G (rB v E xs :: μ) (fun _ μ' u=>∃ ν,μ'=rB v E xs :: ν∧Q ν u):=by
 intro w hs
 have hrow:w.ownsRow 0 E 1 v xs.length (xs.map V):=hs.own _ (List.mem_cons_self ..)
 have hnd:=hs.nodup
 rcases hrow.2 with ⟨rfl,h0⟩ | ⟨g,cap,cur,rfl,_,hg,hnc,hcm,hcs,htake⟩
 ·have hx:xs=[]:=List.eq_nil_of_length_eq_zero h0
  subst hx
  have hk:keys (rB (.slice none 0 0) E [] :: μ)=keys μ:=by simp [keys,Res.keys,Value.ownBlock]
  have hs2:Sat G μ w:=⟨hs.sub,fun r hr=>hs.own r (List.mem_cons_of_mem _ hr),by rw [← hk]; exact hs.apart,by rw [← hk]; exact hs.nodup⟩
  refine (h ⟨none,0⟩ G (PM.le.refl G) rfl SlR.nul w hs2).mono ?_
  rintro e w' ⟨u,G',μ',rfl,ht,hQ⟩
  refine ⟨u,G',_,rfl,?_,μ',rfl,hQ⟩
  rw [hk]; exact ht.nilRow
 have hk:keys (rB (.slice (some ⟨g,0,none⟩) xs.length cap) E xs :: μ)=keys (.blk g (.cells cur E (0,0)) :: μ):=by simp [keys,Res.keys,Value.ownBlock]
 have hs2:Sat G (.blk g (.cells cur E (0,0)) :: μ) w:=by
  refine ⟨hs.sub,fun r hr=>?_,by rw [← hk]; exact hs.apart,by rw [← hk]; exact hs.nodup⟩
  rcases List.mem_cons.1 hr with rfl | hr
  ·exact hg
  exact hs.own r (List.mem_cons_of_mem _ hr)
 have hGg:G g=none:=hs2.apart g (by simp [keys,Res.keys])
 have hsl:SlR (G.add g (.cells cur E (0,0))) 1 aN ⟨some ⟨g,0,none⟩,cap⟩ xs:=by
  refine SlR.ofRow (fun _ _=>rfl) hnc (fun _=>rfl) ?_
  rw [sY]
  intro j u hj w' hs'
  show w'.cell? ⟨g,0+j,none⟩=some u
  rw [Nat.zero_add,cell_of_row w' g j cur E (0,0) (hs' g _ (bU G g _))]
  rw [← htake,List.getElem?_take] at hj
  split at hj
  ·simpa using hj
  cases hj
 refine (rT (h ⟨some ⟨g,0,none⟩,cap⟩ _ (PM.le_add hGg) rfl hsl) w hs2).mono ?_
 rintro e w' ⟨u,G',μ',rfl,ht,ν,rfl,hQ⟩
 refine ⟨u,G',_,rfl,?_,ν,rfl,hQ⟩
 rw [hk]
 exact ht.asRow (by simp) hnc hcm hcs htake
theorem Ct.mono {f:FuncId} {args:Array Value} {Q Q':PM→aG→Value→Prop} (h:Ct P f args G μ Q) (hq:∀ G' μ' u,Q G' μ' u→Q' G' μ' u):Ct P f args G μ Q':=by
 intro w hs
 refine (h w hs).mono ?_
 rintro e w' ⟨u,G',ν,rfl,ht,hQ⟩
 exact ⟨u,G',ν,rfl,ht,hq _ _ _ hQ⟩
theorem bR {T:TypeId} {ps:List (Nat×Operand)} {vs:List Value} {ws:List (List Value)} {zs:List Value} {pls:List (Nat×Nat)} (cs:List Value) (ho:nth l i=some ⟨some d,.build T ps.toArray,t,p,af,g⟩) (hg:Gd l ρ g c) (hF:cT P T (ps.map (·.1))=some (zs,pls)) (hv:EvC n ρ c ps vs ws) (hb:uM zs.length pls ws=true) (he:qN zs pls ws=cs)
  (h:Wo dr mc P n l K σ ((d,c,.agg cs.toArray) :: ρ) G μ):Wo dr mc P n l K (i :: σ) ρ G μ:=bC ho hg hF hv hb (by rw [he]; exact h)
theorem oP {T T' E sz m:TypeId} {x y:Operand} {b o:Nat} {v:Value} {xs cs cs':List Value} {μ' μ2:aG} (ho:nth l i=some ⟨none,.store T x y,t,p,af,none⟩) (hx:Ev ρ true x (.pointer (some ⟨b,o,none⟩))) (hy:Ev ρ true y v) (hr:MTake μ (.row v E sz m xs) μ2) (hz:cE P T=some 1)
  (hm:MTake μ (.blk b (cl cs T')) μ') (hl:o<cs.length) (hcs:cs.set o v=cs') (h:Wo dr mc P n l K σ ρ G (.blk b (cl cs' T') :: μ')):Wo dr mc P n l K (i :: σ) ρ G μ:=by
 refine .act (μ₁:=[.blk b (cl cs T')]) (μ₂:=μ') (post:=fun G' μ' v=>G'=G∧μ'=[.blk b (cl cs' T')]∧v=undef) ho (.inl rfl) .no hm.perm (fun a w ha hs=>.inl ?_) ?_
 ·have hs':=hs.left
  have hrow:w.ownsRow 0 E sz v m xs:=(hs.perm hm.perm.symm).own _ (hr.perm.mem_iff.2 (List.mem_cons_self ..))
  have hv:v.oneCell'=true:=by rcases hrow.2 with ⟨rfl,_⟩ | ⟨g,cap,cur,rfl,_⟩<;>rfl
  have hb:w.heap[b]? = some (cl cs T'):=hs'.own _ (List.mem_singleton.2 rfl)
  have hv':v.cells = #[v]:=by cases v<;>first|rfl | cases hv
  have h2:=Tr.setRow (cs':=cs') hs'
  refine ⟨undef,w.setRow b cs'.toArray,G,_,.inr ⟨?_,rfl⟩,h2,rfl,rfl,rfl⟩
  cases hi:P.info? T with
  | none=>simp [cE,hi] at hz
  | some inf =>
   simp only [cE,hi,Option.map_some,Option.some.injEq] at hz
   have:=run_storeCells_at P b o T' [v] 0 cs.toArray w hb (by simp; omega) (by intro u hu; rw [List.mem_singleton.1 hu]; exact hv)
   simp only [Nat.add_zero,List.length_singleton] at this
   have e:cs.take o++[v]++cs.drop (o+1)=cs':=by rw [← hcs,List.set_eq_take_append_cons_drop,if_pos hl]; simp
   simp only [e] at this
   simp [execOp,hx.eval ha rfl,hy.eval ha rfl,Instr.storeAt,Instr.sureAddr,storeVar,hv',sizeOf,typeInfo,hi,hz,this]
 rintro v G' μ'' _ ⟨rfl,rfl,rfl⟩
 exact h
theorem Sat.rowSh {E sz m:Nat} {v:Value} {xs:List Value} {w:World} (hs:Sat G μ w) (hm : .row v E sz m xs∈μ):∃ (s:Sh) (b:Nat),v=s.val m∧m≤s.cap∧(0<m→s.oa=some ⟨b,0,none⟩):=by
 have hrow:w.ownsRow 0 E sz v m xs:=hs.own _ hm
 rcases hrow.2 with ⟨rfl,rfl⟩ | ⟨g,cap,cur,rfl,_,hg,hnc,_⟩
 ·exact ⟨⟨none,0⟩,0,rfl,Nat.le_refl _,fun h=>absurd h (Nat.lt_irrefl _)⟩
 ·exact ⟨⟨some ⟨g,0,none⟩,cap⟩,g,rfl,hnc,fun _=>rfl⟩
theorem tQ {X:Cx} {cd:Code} {k:List KI} {E sz m:Nat} {v:Value} {xs:List Value} {μ':aG} (hm:MTake μ (.row v E sz m xs) μ') (h:∀ (s:Sh) (b:Nat),v=s.val m→m≤s.cap→(0<m→s.oa=some ⟨b,0,none⟩)→Wk X cd k ρ G μ):Wk X cd k ρ G μ :=
 ⟨fun a w ha ht=>by
  obtain ⟨s,b,h1,h2,h3⟩:=ht.sat.rowSh (hm.perm.mem_iff.2 (List.mem_cons_self ..))
  exact (h s b h1 h2 h3).out a w ha ht⟩
theorem sJ {μ':aG} {s:Sh} {b E:Nat} {ys:List Y} (hm:MTake μ (rB (s.val ys.length) E ys) μ') (h0:0<ys.length→s.oa=some ⟨b,0,none⟩):Sc G μ (s.val ys.length) ys:=by
 refine ⟨s.oa,s.cap,rfl,fun h=>⟨b,0,h0 h,fun j v hj=>?_⟩⟩
 have e:=h0 h
 have e2:s.val ys.length=.slice (some ⟨b,0,none⟩) ys.length s.cap:=by unfold Sh.val; rw [e]
 rw [e2] at hm
 exact Rd.row hm (by rw [Nat.zero_add]; exact hj)
theorem aQQ {μ1 μ2:aG} (h:MSub μ1 μ2):∀ b∈keys μ1,b∈keys μ2:=by
 obtain ⟨ν,hν⟩:=h
 intro b hb
 exact (xG hν).mem_iff.2 (by rw [gO]; exact List.mem_append_left _ hb)
abbrev PRc (E:Nat) (R:List Y→Prop):PM→aG→Value→Prop:=fun _ μ' u=>∃ L,u.oneCell'=true∧R L∧μ'=[rB u E L]
theorem iM {f:FuncId} {args:Array Value} {E:Nat} {R:List Y→Prop} (h:Ct P f args G μ (PR E R)):Ct P f args G μ (PRc E R):=by
 intro w hs
 refine (h w hs).mono ?_
 rintro e w' ⟨u,G',ν,rfl,ht,L,hR,rfl⟩
 exact ⟨u,G',_,rfl,ht,L,ht.sat.rowOne,hR,rfl⟩
theorem one1 {a:Value} (h:a.oneCell'=true):∀ u∈[a],u.oneCell'=true:=by intro u hu; rw [List.mem_singleton.1 hu]; exact h
theorem vA {a b:Value} (h:a.oneCell'=true) (h2:b.oneCell'=true):∀ u∈[a,b],u.oneCell'=true:=by
 intro u hu
 rcases List.mem_cons.1 hu with rfl | hu
 ·exact h
 ·rw [List.mem_singleton.1 hu]; exact h2
end
theorem aW {dr:Bool} {mc:Md} {P:Program} {n:Fm} {l:List Oper} {K:aJ→PM→aG→Prop} {i:Nat} {σ:List Nat} {ρ:aJ} {G:PM} {μ:aG} {d t:Nat} {p:String} {af:Array Edge} {op:BinOp} {T T':TypeId} {x y:Operand} {a1 a2 r:Int} (r':Int) (ho:nth l i=some ⟨some d,.binOp op T x y T',t,p,af,none⟩) (hx:ev ρ x=some (true,.int .i64 a1)) (hy:ev ρ y=some (true,.int .i64 a2)) (hr:uL op a1 a2=some r) (h:Wo dr mc P n l K σ ((d,true,.int .i64 r') :: ρ) G μ) (he:r=r':=by omega) (hw : -9223372036854775808≤r'∧r'≤9223372036854775807:=by omega):Wo dr mc P n l K (i :: σ) ρ G μ:=iF r' ho .no (.u hx) (.u hy) hr (fun _=>he) (fun _=>eV (by omega) (by omega)) h
theorem aM {ρ' ρ:aJ} {i:Nat} {c:Bool} {v v':Value} (h:cF ρ i=some (c,v')) (hs:ESub ρ' ρ) (hv:v'=v:=by first | rfl | exact evi (by omega)):ESub ((i,c,v) :: ρ') ρ:=ESub.cons h hv hs
structure PB (G:PM) (b:Nat) (o:Obj):Prop where
 h:G b=some o
theorem PB.mono {G G':PM} {b:Nat} {o:Obj} (h:PB G b o) (hle:PM.le G G'):PB G' b o:=⟨hle b o h.h⟩
theorem PB.rdn {G:PM} {b o m:Nat} {cs cs':List Value} {T:TypeId} (h:PB G b (cl cs T)) (hc:(cs.drop o).take m=cs'):RdNP G b o cs':=fun j v hj=>by
 subst hc
 refine RdP.blk h.h ?_
 rw [List.getElem?_take] at hj
 split at hj
 ·rw [List.getElem?_drop] at hj; exact hj
 cases hj
theorem PB.rd {G:PM} {b o:Nat} {cs:List Value} {T:TypeId} {v:Value} (h:PB G b (cl cs T)) (hv:cs[o]? = some v):RdP G ⟨b,o,none⟩ v:=RdP.blk h.h hv
theorem PB.sl {G:PM} {b o m cap:Nat} {cs:List Value} {T:TypeId} {f:Nat→Y} (h:PB G b (cl cs T)) (hc:(cs.drop o).take m=ba m f) (hm:m≤cap):SlR G 1 aN ⟨some ⟨b,o,none⟩,cap⟩ (yl m f) :=
 SlR.ofRow (fun _ _=>rfl) (by rw [cR]; exact hm) (fun _=>rfl) (by rw [aFN]; exact h.rdn hc)
theorem SlR.arr {G:PM} {s:Sh} {xs:List Y} {m:Nat} (h:SlR G 1 aN s xs) (hm:m≤xs.length):RdNP G s.b s.o (ba m (fun i=>xs.getD i 0)):=by
 intro j v hj
 have hlt:j<m:=by have:=(List.getElem?_eq_some_iff.1 hj).1; rwa [bP] at this
 rw [zS hlt] at hj
 obtain rfl:=Option.some.inj hj
 have:=h.rd j (xs.getD j 0) (by simp [show j<xs.length by omega]) 0 _ rfl
 simpa using this
theorem aGz {m q:Nat} {f:Nat→Y} (h:q≤m):((ba m f).drop 0).take q=ba q f:=by
 rw [List.drop_zero]
 refine List.ext_getElem? fun j=>?_
 rw [List.getElem?_take]
 by_cases hj:j<q
 ·rw [if_pos hj,zS hj,zS (by omega)]
 rw [if_neg hj,List.getElem?_eq_none (by rw [bP]; omega)]
theorem qO {m:Nat} {f:Nat→Y}:((ba m f).drop 0).take m=ba m f:=aGz (Nat.le_refl m)
theorem oE {m:Nat} {f:Nat→Y} {r:List Value}:((ba m f++r).drop 0).take m=ba m f:=by
 rw [List.drop_zero,List.take_append_of_le_length (by rw [bP]; exact Nat.le_refl _),List.take_of_length_le (by rw [bP]; exact Nat.le_refl _)]
def pE (p:Sh×List Y):List Value:=[p.1.val p.2.length]
structure SlP (G:PM) (h:Sh) (ps:List (Sh×List Y)):Prop where
 sl:SlR G 1 pE h ps
 all:∀ p∈ps,SlR G 1 aN p.1 p.2
theorem SlP.mono {G G':PM} {h:Sh} {ps:List (Sh×List Y)} (s:SlP G h ps) (hle:PM.le G G'):SlP G' h ps:=⟨s.sl.mono hle,fun p hp=>(s.all p hp).mono hle⟩
theorem dY {α:Type} {k:Nat} {xs:List α} (h:k<xs.length):∃ x,xs[k]? = some x:=⟨xs[k],by simp [h]⟩
theorem SlP.at {G:PM} {h:Sh} {ps:List (Sh×List Y)} (s:SlP G h ps) {j:Int} (k:Nat) {p:Sh×List Y} (hj:j.toNat=k) (hp:ps[k]? = some p):RdP G ⟨h.b,h.o+j.toNat*1,none⟩ (p.1.val p.2.length):=by
 have:=(s.sl.nth k hj hp) 0 _ rfl
 simpa using this
theorem SlP.get {G:PM} {h:Sh} {ps:List (Sh×List Y)} (s:SlP G h ps) {k:Nat} {p:Sh×List Y} (hp:ps[k]? = some p):SlR G 1 aN p.1 p.2:=s.all p (List.mem_of_getElem? hp)
def cN (ps:List (Sh×List Y)):List Y:=ps.flatMap (·.2)
theorem wV {ps:List (Sh×List Y)} {k:Nat} {p:Sh×List Y} (hp:ps[k]? = some p):cN (ps.take (k+1))=cN (ps.take k)++p.2:=by
 have hlt:k<ps.length:=(List.getElem?_eq_some_iff.1 hp).1
 have e:ps[k]=p:=(List.getElem?_eq_some_iff.1 hp).2
 rw [cN,List.take_succ_eq_append_getElem hlt,List.flatMap_append,e]; simp [cN]
theorem aDv {ps:List (Sh×List Y)} {k:Nat} {p:Sh×List Y} (hp:ps[k]? = some p):(cN (ps.take k)).length+p.2.length≤(cN ps).length:=by
 have h1:=congrArg List.length (wV hp)
 rw [List.length_append] at h1
 rw [← h1]
 conv=>rhs; rw [← List.take_append_drop (k+1) ps]
 rw [cN,cN,List.flatMap_append,List.length_append]; omega
section
variable {dr:Bool} {mc:Md} {P:Program} {n:Fm} {l:List Oper} {K:aJ→PM→aG→Prop} {i:Nat} {σ:List Nat} {ρ:aJ} {G:PM} {μ:aG}
variable {d t:Nat} {p:String} {af:Array Edge} {g:Option (Nat×Bool)} {c:Bool}
theorem dL {X:Cx} {cd:Code} {k:List KI} {b:Nat} {o:Obj} {μ':aG} (hm:MTake μ (.blk b o) μ') (hK:∀ b∈X.K0,b∈keys μ') (h:∀ G',PM.le G G'→PB G' b o→Wk X cd k ρ G' μ'):Wk X cd k ρ G μ :=
 ⟨fun a w ha ht=>by
  have ht':=ht.perm hm.perm
  have hk:keys (.blk b o :: μ')=b :: keys μ':=by simp [keys,Res.keys]
  have hnd:=ht'.sat.nodup
  rw [hk] at hnd
  have hG:G b=none:=ht'.sat.apart b (by rw [hk]; exact List.mem_cons_self ..)
  exact (h _ (PM.le_add hG) ⟨bU G b o⟩).out a w ha (ht'.freeze fun hb=>(List.nodup_cons.1 hnd).1 (hK b hb))⟩
theorem kA {T T' m e b o:Nat} {x:Operand} {cs:List Value} {f:Nat→Y} (ho:nth l i=some ⟨some d,.slice T x none none none,t,p,af,g⟩) (hg:Gd l ρ g c) (hT:fH P T=some (m,e,1)) (hx:Ev ρ c x (.pointer (some ⟨b,o,none⟩))) (hG:PB G b (cl cs T')) (hc:(cs.drop o).take m=ba m f)
  (h:∀ s' L,L=yl m f→L.length=m→SlR G 1 aN s' L→Wo dr mc P n l K σ ((d,c,s'.val L.length) :: ρ) G μ):Wo dr mc P n l K (i :: σ) ρ G μ:=by
 refine pQ ho hg hT hx ?_
 have:=h ⟨some ⟨b,o,none⟩,m⟩ (yl m f) rfl (cR m f) (hG.sl hc (Nat.le_refl m))
 rw [cR] at this
 exact this
theorem sah {T m e sz:Nat} {x z:Operand} {k:IntKind} {b o:Nat} {hi:Int} (ho:nth l i=some ⟨some d,.slice T x none (some z) none,t,p,af,g⟩) (hg:Gd l ρ g c) (hT:fH P T=some (m,e,sz)) (hx:Ev ρ c x (.pointer (some ⟨b,o,none⟩))) (hz:Ev ρ c z (.int k hi))
  (h0:c=true→0≤hi) (h1:c=true→hi≤m) (h:Wo dr mc P n l K σ ((d,c,.slice (some ⟨b,o,none⟩) hi.toNat m) :: ρ) G μ):Wo dr mc P n l K (i :: σ) ρ G μ :=
 .pure ho (.inl rfl) hg (fun hc a w ha=>by
  obtain ⟨hu,inf,hi',hs⟩:=sK hT
  have e0:=h0 hc; have e1:=h1 hc
  simp [execOp,hx.eval ha hc,hz.eval ha hc,Instr.sliceAt,run_underlying hu,Instr.sureAddr,Instr.sliceBounds,Instr.sliceBound,asIntOf,sizeOf,typeInfo,hi',e0,e1,aBh]) h
theorem sp {T m e sz k cap:Nat} {x:Operand} {ad:Addr} (ho:nth l i=some ⟨some d,.sliceToArrayPointer T x,t,p,af,g⟩) (hg:Gd l ρ g c) (hT:fH P T=some (m,e,sz)) (hx:Ev ρ c x (.slice (some ad) k cap)) (hm:c=true→m≤k)
  (h:Wo dr mc P n l K σ ((d,c,.pointer (some ad)) :: ρ) G μ):Wo dr mc P n l K (i :: σ) ρ G μ :=
 .pure ho (.inl rfl) hg (fun hc a w ha=>by
  obtain ⟨hu,inf,hi',hs⟩:=sK hT
  have:=hm hc
  simp [execOp,hx.eval ha hc,Instr.arrayAt,run_underlying hu,show ¬ k<m by omega]) h
theorem spS {T m e sz:Nat} {x:Operand} {s:Sh} {xs:List Y} (ho:nth l i=some ⟨some d,.sliceToArrayPointer T x,t,p,af,g⟩) (hg:Gd l ρ g c) (hT:fH P T=some (m,e,sz)) (hs:SlR G 1 aN s xs) (hx:Ev ρ c x (s.val xs.length)) (hm:c=true→m≤xs.length) (h0:0<m)
  (h:Wo dr mc P n l K σ ((d,c,.pointer (some ⟨s.b,s.o,none⟩)) :: ρ) G μ):Wo dr mc P n l K (i :: σ) ρ G μ :=
 .pure ho (.inl rfl) hg (fun hc a w ha=>by
  obtain ⟨hu,inf,hi',hsz⟩:=sK hT
  have h1:=hm hc
  have e:=hs.nn (k:=0) (by omega)
  have hx':=hx.eval ha hc
  simp only [Sh.val] at hx'
  rw [e] at hx'
  simp [execOp,hx',Instr.arrayAt,run_underlying hu,show ¬ xs.length<m by omega]) h
def wS (P:Program) (T m:Nat):Bool:=match P.underlying T with
 | some (.array k e)=>(match P.underlying e with | some (.int .u8)=>true | _=>false)&&Nat.beq k m&&Nat.beq (P.cellsOf e) 1&&Nat.beq (P.cellsOf T) m&&P.keyTypeAt 2 T && !P.eqGuardType P.depth T
 | _=>false
theorem aDm {T m:Nat} {f:Nat→Y} (h:wS P T m=true):P.keyLits 2 T (ba m f)=some ((yl m f).map fun y=>Lit.int .u8 y.toNat)∧(Value.agg (ba m f).toArray).formed P T=true∧P.keyTypeAt 2 T=true∧P.eqGuardType P.depth T=false:=by
 unfold wS at h
 split at h
 ·rename_i k e hu
  simp only [Bool.and_eq_true,Bool.not_eq_true'] at h
  obtain ⟨⟨⟨⟨⟨he,hk⟩,hce⟩,hcT⟩,hkt⟩,hgu⟩:=h
  split at he
  ·rename_i hue
   have hk:=Nat.eq_of_beq_eq_true hk
   have hce:=Nat.eq_of_beq_eq_true hce
   have hcT:=Nat.eq_of_beq_eq_true hcT
   subst hk
   refine ⟨?_,?_,hkt,hgu⟩
   ·have hone:∀ q∈List.range k,P.keyLits 1 e (((ba k f).drop (q*P.cellsOf e)).take (P.cellsOf e))=some [Lit.int .u8 (f q).toNat]:=by
     intro q hq
     have hq:=List.mem_range.1 hq
     rw [hce,Nat.mul_one]
     have hd:((ba k f).drop q).take 1=[V (f q)]:=by
      refine List.ext_getElem? fun j=>?_
      rw [List.getElem?_take,List.getElem?_drop]
      cases j with
      | zero=>simp [zS hq]
      | succ j=>simp
     rw [hd]
     have hlt:=(f q).isLt
     unfold Program.keyLits
     simp [hue,Lit.wf,V,uv,IntKind.min,IntKind.max,IntKind.signed,IntKind.bits]
     omega
    have hmap:∀ (r:List Nat),(∀ q∈r,P.keyLits 1 e (((ba k f).drop (q*P.cellsOf e)).take (P.cellsOf e))=some [Lit.int .u8 (f q).toNat]) →
      r.mapM (fun q=>P.keyLits 1 e (((ba k f).drop (q*P.cellsOf e)).take (P.cellsOf e)))=some (r.map fun q=>[Lit.int .u8 (f q).toNat]):=by
     intro r
     induction r with
     | nil=>intro _; simp
     | cons a r ih=>intro hr; simp [List.mapM_cons,hr a (List.mem_cons_self ..),ih (fun q hq=>hr q (List.mem_cons_of_mem _ hq))]
    have hfl:∀ r:List Nat,(r.map fun q=>[Lit.int .u8 (f q).toNat]).flatten=(r.map f).map fun y=>Lit.int .u8 y.toNat:=by
     intro r
     induction r with
     | nil=>rfl
     | cons a r ih=>simp only [List.map_cons,List.flatten_cons,ih]; rfl
    unfold Program.keyLits
    simp only [hu,bP,hcT,if_true,hmap _ hone,Option.map_some,hfl]
    rfl
   simp [Value.formed,hu,bP,hcT]
  cases he
 cases h
theorem aQt {m:Nat} {f f':Nat→Y} (h:((yl m f).map fun y=>Lit.int .u8 y.toNat)=(yl m f').map fun y=>Lit.int .u8 y.toNat):yl m f=yl m f':=by
 have key:∀ (xs ys:List Y),(xs.map fun y=>Lit.int .u8 y.toNat)=(ys.map fun y=>Lit.int .u8 y.toNat)→xs=ys:=by
  intro xs
  induction xs with
  | nil=>intro ys h; cases ys with
   | nil=>rfl
   | cons y ys=>simp at h
  | cons x xs ih=>intro ys h; cases ys with
   | nil=>simp at h
   | cons y ys =>
    simp only [List.map_cons,List.cons.injEq,Lit.int.injEq,true_and] at h
    rw [ih ys h.2,BitVec.eq_of_toNat_eq (x:=x) (y:=y) (by omega)]
 exact key _ _ h
theorem aTi {T m:Nat} {f f':Nat→Y} (h:wS P T m=true) (w:World):(Op.equal T (.agg (ba m f).toArray) (.agg (ba m f').toArray)).run P w=.ok (decide (yl m f=yl m f')) w:=by
 obtain ⟨h1,h2,h3,h4⟩:=aDm (f:=f) h
 obtain ⟨h1',h2',_,_⟩:=aDm (f:=f') h
 obtain ⟨r,hr,hiff⟩:=run_equalIn_deep 9998 2 T h3 w 2 2 _ _ _ _ h2 h2' (by simpa [Value.cells] using h1) (by simpa [Value.cells] using h1')
 have:r=decide (yl m f=yl m f'):=by
  by_cases e:yl m f=yl m f'
  ·rw [decide_eq_true e]; exact hiff.2 (by rw [e])
  ·rw [decide_eq_false e]
   cases r with
   | false=>rfl
   | true=>exact absurd (aQt (hiff.1 rfl)) e
 rw [← this]; exact hr
theorem nqB {T T' m:Nat} {x y:Operand} {f f':Nat→Y} (ho:nth l i=some ⟨some d,.binOp .neq T x y T',t,p,af,g⟩) (hg:Gd l ρ g c) (hT:wS P T m=true) (hx:Ev ρ c x (.agg (ba m f).toArray)) (hy:Ev ρ c y (.agg (ba m f').toArray))
  (h:Wo dr mc P n l K σ ((d,c,.bool (!decide (yl m f=yl m f'))) :: ρ) G μ):Wo dr mc P n l K (i :: σ) ρ G μ :=
 .pure ho (.inl rfl) hg (fun hc a w ha=>by
  simp [execOp,hx.eval ha hc,hy.eval ha hc,aHj (aDm (f:=f) hT).2.2.2,binOp,aTi hT]) h
def WoT (P:Program) (n:Fm) (l:List Oper) (K:aJ→PM→aG→Prop):Nat→Array Bool→aJ→PM→aG→Prop
 | 0,listed,ρ,G,μ=>cG l listed=[]∧K ρ G μ
 | m+1,listed,ρ,G,μ=>cG l listed≠[]∧∀ j∈cG l listed,Wo false (⟨false,false⟩ : Md) P n l (fun ρ' G' μ'=>WoT P n l K m (listed.setIfInBounds j true) ρ' G' μ') [j] ρ G μ
theorem WoT.any {K:aJ→PM→aG→Prop} {Q:Exit→Act→World→Prop} {G0:PM} {K0:List Nat} {w0:World} (hds:∀ j oj,nth l j=some oj→iH n oj.dst)
  (hQ:∀ ρ G μ,K ρ G μ→∀ a w,Ag n ρ a→Tr G0 K0 w0 G μ w→Q .normal a w) (hD:∀ ch ρ G μ a w,n.die ch ρ G μ→Ag n ρ a→Tr G0 K0 w0 G μ w→Q (.panic ch) a w) :
  ∀ (m:Nat) (listed:Array Bool) (ρ:aJ) (G:PM) (μ:aG) (a:Act) (w:World),WoT P n l K m listed ρ G μ→Ag n ρ a→Tr G0 K0 w0 G μ w→wpAny P .any l.toArray Q m listed a w
 | 0,listed,ρ,G,μ,a,w,H,ha,ht=>⟨H.1,hQ _ _ _ H.2 a w ha ht⟩
 | m+1,listed,ρ,G,μ,a,w,H,ha,ht=>by
  refine ⟨fun h0=>absurd h0 H.1,fun j hj=>?_⟩
  obtain ⟨o,ho,h⟩:=(H.2 j hj).head ha ht (next:=wpAny P .any l.toArray Q m (listed.setIfInBounds j true)) (Q:=Q) hds (fun _=>hD)
   (fun ρ' G' μ' a' w' H' ha' ht'=>by cases H' with | nil h=>exact WoT.any hds hQ hD m _ ρ' G' μ' a' w' h ha' ht')
  simp only [wpOp,iT,ho]
  split
  ·rename_i hw; rw [if_pos hw] at h; exact .inl h
  rename_i hw; rw [if_neg hw] at h; exact h
theorem aGj {X:Cx} {k:List KI} {id:Nat} {ρ:aJ} {G:PM} {μ:aG} {l:List Oper} (hm:X.P.follows .mixedOrders=true) (hds:iG X.n l=true)
  (h:WoT X.P X.n l (fun ρ G μ=>We X .normal k ρ G μ) l.length (Array.replicate l.length false) ρ G μ):Wk X (.region id l.toArray true) k ρ G μ:=by
 refine ⟨fun a w ha ht=>wp_region_any hm ?_⟩
 have:=WoT.any (Q:=fO X k) (aD4 hds) (fun _ _ _ h a w ha ht=>h.out a w ha ht) (uK X k) l.length (Array.replicate l.length false) ρ G μ a _ h ha ht.drew
 simpa using this
theorem WoT.last {K:aJ→PM→aG→Prop} {listed:Array Bool} (hr:cG l listed=[]) (h:K ρ G μ):WoT P n l K 0 listed ρ G μ:=⟨hr,h⟩
theorem WoT.n1 {K:aJ→PM→aG→Prop} {m:Nat} {listed:Array Bool} (j:Nat) (hr:cG l listed=[j]) (h:Wo false (⟨false,false⟩ : Md) P n l (fun ρ' G' μ'=>WoT P n l K m (listed.setIfInBounds j true) ρ' G' μ') [j] ρ G μ):WoT P n l K (m+1) listed ρ G μ :=
 ⟨by rw [hr]; simp,fun j' hj'=>by rw [hr] at hj'; obtain rfl:=List.mem_singleton.1 hj'; exact h⟩
theorem WoT.n2 {K:aJ→PM→aG→Prop} {m:Nat} {listed:Array Bool} (j j2:Nat) (hr:cG l listed=[j,j2]) (h:Wo false (⟨false,false⟩ : Md) P n l (fun ρ' G' μ'=>WoT P n l K m (listed.setIfInBounds j true) ρ' G' μ') [j] ρ G μ)
  (h2:Wo false (⟨false,false⟩ : Md) P n l (fun ρ' G' μ'=>WoT P n l K m (listed.setIfInBounds j2 true) ρ' G' μ') [j2] ρ G μ):WoT P n l K (m+1) listed ρ G μ :=
 ⟨by rw [hr]; simp,fun j' hj'=>by
  rw [hr] at hj'
  rcases List.mem_cons.1 hj' with rfl | hj'
  ·exact h
  ·obtain rfl:=List.mem_singleton.1 hj'; exact h2⟩
def csT (P:Program) (S:TypeId):Bool:=match P.underlying S with
 | some (.slice e)=>match P.underlying e with | some (.int .u8)=>true | _=>false
 | _=>false
theorem aPj {w:World} {b k E:Nat} {C:Array Value} (hb:w.heap[b]? = some (.cells C E (0,0))):∃ fr,(w.freeze ⟨b,k,none⟩ 1).heap[b]? = some (.cells C E fr)∧(∀ c,c≠b→(w.freeze ⟨b,k,none⟩ 1).heap[c]? = w.heap[c]?)∧(w.freeze ⟨b,k,none⟩ 1).heap.size=w.heap.size∧(w.freeze ⟨b,k,none⟩ 1).os=w.os∧(w.freeze ⟨b,k,none⟩ 1).tape=w.tape∧(w.freeze ⟨b,k,none⟩ 1).output=w.output:=by
 unfold World.freeze
 rw [if_neg (by decide)]
 refine ⟨(k,k+1),?_,fun c hc=>?_,by simp,rfl,rfl,rfl⟩
 ·have hlt:b<w.heap.size:=(Array.getElem?_eq_some_iff.1 hb).1
  have hv:=(Array.getElem?_eq_some_iff.1 hb).2
  rw [Array.getElem?_eq_getElem (by simpa using hlt),Array.getElem_modify]; simp [hv]
 simp only [Array.getElem?_modify]
 rw [if_neg (fun e=>hc e.symm)]
theorem mkS {S E b m cap:Nat} {x:Operand} {cs:List Value} {μ':aG} (ys:List Y) (hdf:dr=false) (ho:nth l i=some ⟨some d,.convert S S x,t,p,af,none⟩) (hS:csT P S=true) (hx:Ev ρ true x (.slice (some ⟨b,0,none⟩) m cap)) (hm:MTake μ (.blk b (cl cs E)) μ') (hcs:cs=ys.map V) (hn:ys.length=m) (hcap:m≤cap)
  (h:∀ G',PM.le G G'→SlR G' 1 aN ⟨some ⟨b,0,none⟩,cap⟩ ys→Wo dr mc P n l K σ ((d,true,Sh.val ⟨some ⟨b,0,none⟩,cap⟩ ys.length) :: ρ) G' μ'):Wo dr mc P n l K (i :: σ) ρ G μ:=by
 subst hn; subst hcs
 refine .act (μ₁:=[.blk b (cl (ys.map V) E)]) (μ₂:=μ') (post:=fun G' μ' v=>μ'=[]∧v=.slice (some ⟨b,0,none⟩) ys.length cap∧∃ fr,G' b=some (.cells (ys.map V).toArray E fr)) ho (.inr hdf) .no hm.perm (fun a w ha hs=>.inl ?_) ?_
 ·unfold csT at hS
  split at hS
  ·rename_i e hu
   split at hS
   ·rename_i hue
    have hs':=hs.left
    have hb:w.heap[b]? = some (cl (ys.map V) E):=hs'.own _ (List.mem_singleton.2 rfl)
    have hG:G b=none:=hs'.apart b (by simp [keys,Res.keys])
    obtain ⟨fr,h1,h2,h3,h4,h5,h6⟩:=aPj (k:=(ys.map V).toArray.size) hb
    have hsh:w.shape? b=some (E,(ys.map V).toArray.size):=by unfold World.shape?; rw [hb]
    refine ⟨_,w.freeze ⟨b,(ys.map V).toArray.size,none⟩ 1,G.add b (.cells (ys.map V).toArray E fr),[],.inl ?_,?_,rfl,rfl,fr,bU _ _ _⟩
    ·simp [execOp,hx.eval ha rfl,convert,run_underlying hu,run_underlying hue,markStringish,hsh]
    refine ⟨⟨fun c u hc=>?_,(fun r hr=>nomatch hr),(fun c hc=>nomatch hc),List.nodup_nil⟩,h4,h5,h6,by omega,fun c hc hK=>?_,(fun c hc=>nomatch hc),fun c u hK hc=>?_⟩
    ·unfold PM.add at hc
     split at hc
     ·rename_i e; subst e; rw [← hc]; exact h1
     rename_i hne; rw [h2 c hne]; exact hs.sub c u hc
    ·have hne:c≠b:=fun e=>hK (by simp [keys,Res.keys,e])
     exact ⟨h2 c hne,by unfold PM.add; rw [if_neg hne]⟩
    have hne:c≠b:=fun e=>hK (by simp [keys,Res.keys,e])
    unfold PM.add; rw [if_neg hne]; exact hc
   cases hS
  cases hS
 rintro v G' μ'' hle ⟨rfl,rfl,fr,hG'⟩
 refine h G' hle (SlR.ofRow (fun _ _=>rfl) hcap (fun _=>rfl) ?_)
 rw [sY]
 intro j u hj w hs
 show w.cell? ⟨b,0+j,none⟩=some u
 rw [Nat.zero_add,cell_of_row w b j _ E fr (hs b _ hG')]
 simpa using hj
theorem vP {e:Bool} {dd:Nat} (e':Bool) (h:e=e') (H:Wo dr mc P n l K σ ((dd,c,.bool e') :: ρ) G μ):Wo dr mc P n l K σ ((dd,c,.bool e) :: ρ) G μ:=by rw [h]; exact H
theorem gH {o:Oper} (v:Value) (ho:nth l i=some o) (hk:bI mc o.op=.pure) (hg:Gd l ρ o.guard false) (h:Wo dr mc P n l K σ (cS ρ o.dst false v) G μ):Wo dr mc P n l K (i :: σ) ρ G μ :=
 .pure ho (.inl hk) hg (fun hc=>nomatch hc) h
theorem vI {o:Oper} (v:Value) (ho:nth l i=some o) (hk:bI mc o.op=.read) (hg:Gd l ρ o.guard false) (h:Wo dr mc P n l K σ (cS ρ o.dst false v) G μ):Wo dr mc P n l K (i :: σ) ρ G μ :=
 .read ho (.inl hk) hg (fun hc=>nomatch hc) h
theorem ska {o:Oper} (v:Value) (ho:nth l i=some o) (hk:bI mc o.op=.act) (hg:Gd l ρ o.guard false) (h:Wo dr mc P n l K σ (cS ρ o.dst false v) G μ):Wo dr mc P n l K (i :: σ) ρ G μ :=
 .callv (f:=0) (args:=#[]) (Gp:=G) ho (.inr (.inl hk)) hg (fun hc=>nomatch hc) (fun hc=>nomatch hc) h
theorem mw {T T':TypeId} {x y:Operand} {k:IntKind} {a b:BitVec k.bits} (ho:nth l i=some ⟨some d,.binOp .rem T x y T',t,p,af,g⟩) (hg:Gd l ρ g c) (hx:Ev ρ c x (uv k a)) (hy:Ev ρ c y (uv k b)) (h0:c=true→b≠0#k.bits)
  (h:Wo dr mc P n l K σ ((d,c,uv k (a%b)) :: ρ) G μ):Wo dr mc P n l K (i :: σ) ρ G μ :=
 .pure ho (.inl rfl) hg (fun hc q w ha=>by
  have e1:=hx.eval ha hc; have e2:=hy.eval ha hc
  have hq:(eqGuard .rem T x y (uv k a) (uv k b)).run P w=.ok () w:=jD ..
  have hb:(b.toNat:Int)≠0:=fun e=>h0 hc (BitVec.eq_of_toNat_eq (by simpa using e))
  have e3:((a.toNat:Int).tmod (b.toNat:Int))=(((a%b).toNat:Nat):Int):=by rw [BitVec.toNat_umod]; rfl
  have hb2:¬ b.toNat=0:=fun e=>hb (by rw [e]; rfl)
  simp only [execOp,e1,e2,Sem.run_bind,hq,Result.andThen_ok]
  simp [binOp,uv,Op.intDiv,hb2]
  simpa using e3) h
theorem dw {T T':TypeId} {x y:Operand} {k:IntKind} {a b:BitVec k.bits} (ho:nth l i=some ⟨some d,.binOp .quo T x y T',t,p,af,g⟩) (hg:Gd l ρ g c) (hk:k.signed=false) (hx:Ev ρ c x (uv k a)) (hy:Ev ρ c y (uv k b)) (h0:c=true→b≠0#k.bits)
  (h:Wo dr mc P n l K σ ((d,c,uv k (a / b)) :: ρ) G μ):Wo dr mc P n l K (i :: σ) ρ G μ :=
 .pure ho (.inl rfl) hg (fun hc q w ha=>by
  have e1:=hx.eval ha hc; have e2:=hy.eval ha hc
  have hq:(eqGuard .quo T x y (uv k a) (uv k b)).run P w=.ok () w:=jD ..
  have hb:(b.toNat:Int)≠0:=fun e=>h0 hc (BitVec.eq_of_toNat_eq (by simpa using e))
  have e3:k.wrap ((a.toNat:Int).tdiv (b.toNat:Int))=(((a / b).toNat:Nat):Int):=by
   have:((a.toNat:Int).tdiv (b.toNat:Int))=(((a / b).toNat:Nat):Int):=by rw [BitVec.toNat_udiv]; rfl
   rw [this,yI hk]
  have hb2:¬ b.toNat=0:=fun e=>hb (by rw [e]; rfl)
  simp only [execOp,e1,e2,Sem.run_bind,hq,Result.andThen_ok]
  simp [binOp,uv,Op.intDiv,hb2]
  simpa using e3) h
end
end Go.Tan
namespace Go.Tan
open Go.RowKit Go.ChangeShapes
section
variable {H:Type} {R:Nat} {enc:TypeId×Value→H} {P:Program} {w:World} {base:Nat} {sp:Nat→Bool} {held:Bool} {fuel:Nat} {t:TypeId} {cs:List Value} {x:DataW H×List MemPlace}
theorem aKz {ts:List TypeId} {ds:List (DataW H)} {i:Nat} {d:DataW H} {t:TypeId} (ht:ts[i]? = some t) (hd:ds[i]? = some d) {n:Nat} (hn:n∈d.weights P t):n∈DataW.weightsEach P ts ds:=by
 induction i generalizing ts ds with
 | zero =>
  cases ts with
  | nil=>simp at ht
  | cons a r =>
   cases ds with
   | nil=>simp at hd
   | cons b q =>
    simp only [List.getElem?_cons_zero,Option.some.injEq] at ht hd
    subst ht; subst hd
    simp only [DataW.weightsEach,List.mem_append]; exact .inl hn
 | succ i ih =>
  cases ts with
  | nil=>simp at ht
  | cons a r =>
   cases ds with
   | nil=>simp at hd
   | cons b q =>
    simp only [List.getElem?_cons_succ] at ht hd
    simp only [DataW.weightsEach,List.mem_append]; exact .inr (ih ht hd)
theorem aVN {e:TypeId} {ds:List (DataW H)} {i:Nat} {d:DataW H} (hd:ds[i]? = some d) {n:Nat} (hn:n∈d.weights P e):n∈DataW.weightsAll P e ds:=by
 induction i generalizing ds with
 | zero =>
  cases ds with
  | nil=>simp at hd
  | cons b q =>
   simp only [List.getElem?_cons_zero,Option.some.injEq] at hd
   subst hd
   simp only [DataW.weightsAll,List.mem_append]; exact .inl hn
 | succ i ih =>
  cases ds with
  | nil=>simp at hd
  | cons b q =>
   simp only [List.getElem?_cons_succ] at hd
   simp only [DataW.weightsAll,List.mem_append]; exact .inr (ih hd)
def Rg (R:Nat) (enc:TypeId×Value→H) (P:Program) (w:World) (t:TypeId) (cs:List Value):Prop :=
 ∃ fuel x,DataW.trod enc P w 0 (fun _=>true) true fuel t cs=some x∧∀ n∈x.1.weights P t,n≤R
theorem Rg.len {fs:Array Field} (ht:P.underlying t=some (.struct fs)) (h:Rg R enc P w t cs):cs.length=P.cellsOf t:=by
 obtain ⟨fuel,x,h,_⟩:=h
 obtain ⟨xs,n,_,_,hl,_⟩:=DataW.trod_struct ht h
 exact hl
theorem Rg.fld {fs:Array Field} (ht:P.underlying t=some (.struct fs)) (h:Rg R enc P w t cs) (i T o:Nat) (hf0:(fs[i]?).map (fun f=>(f.type,f.offset))=some (T,o)) {sz:Nat} (hsz:P.cellsOf T=sz):Rg R enc P w T ((cs.drop o).take sz):=by
 obtain ⟨f,hf,he⟩:=Option.map_eq_some_iff.1 hf0
 obtain ⟨rfl,rfl⟩:=Prod.mk.inj he
 obtain ⟨fuel,x,h,hw⟩:=h
 obtain ⟨xs,n,rfl,rfl,hl,hxs,hall⟩:=DataW.trod_struct ht h
 have hi:i<xs.length:=by rw [hxs]; exact (Array.getElem?_eq_some_iff.1 hf).1
 have h1:=hall i f hf
 rw [List.getElem?_eq_getElem hi] at h1
 rw [← hsz]
 refine ⟨n,_,h1,fun k hk=>hw k ?_⟩
 simp only [DataW.weights,ht]
 refine aKz (i:=i) (t:=f.type) (d:=xs[i].1) ?_ ?_ hk
 ·simp [hf]
 simp [List.getElem?_eq_getElem hi]
theorem Rg.int {k:IntKind} (ht:P.underlying t=some (.int k)) (h:Rg R enc P w t cs):∃ n,cs=[.int k n]∧k.min≤n∧n≤k.max:=by
 obtain ⟨fuel,x,h,_⟩:=h
 obtain ⟨n,rfl,_,hw⟩:=DataW.trod_int ht h
 simp only [Lit.wf,Bool.and_eq_true,decide_eq_true_eq] at hw
 exact ⟨n,rfl,hw⟩
theorem Rg.bool (ht:P.underlying t=some .bool) (h:Rg R enc P w t cs):∃ b,cs=[.bool b]:=by
 obtain ⟨fuel,x,h,_⟩:=h
 obtain ⟨b,rfl,_⟩:=DataW.trod_bool ht h
 exact ⟨b,rfl⟩
theorem Rg.str (ht:P.underlying t=some .string) (h:Rg R enc P w t cs):∃ s:ByteArray,cs=[.string s]∧s.size≤R:=by
 obtain ⟨fuel,x,h,hw⟩:=h
 obtain ⟨s,rfl,rfl,_⟩:=DataW.trod_string ht h
 refine ⟨s,rfl,?_⟩
 have:=hw s.data.toList.length (by simp [DataW.weights])
 have e:s.data.toList.length=s.size:=Array.length_toList
 rw [e] at this
 exact this
theorem aG6 {a:Addr} {n:Nat} (h:w.cells? base a n=some cs):cs.length=n∧∀ j,j<n→w.cell? (a.add j)=cs[j]?:=by
 unfold World.cells? at h
 split at h
 ·exact ⟨by simpa using mapM_some_length h,fun j hj=>mapM_some_get h j j (by simp [hj])⟩
 ·cases h
theorem RdP.heap {a:Addr} {v:Value} (h:w.cell? a=some v):RdP (fun b=>w.heap[b]?) a v:=by
 intro w' hs
 unfold World.cell? at h ⊢
 cases ho:w.heap[a.block]? with
 | none=>rw [ho] at h; cases h
 | some o =>
  rw [hs a.block o ho]
  rw [ho] at h
  exact h
theorem aUC {a:Addr} {v:Value} (h:w.cell? a=some v):a.spot=none:=by
 unfold World.cell? at h
 split at h
 ·split at h
  ·cases h
  ·rename_i hs; simpa using hs
 ·cases h
theorem Rg.sl {e:TypeId} {sz by':Nat} {α:Type} (en:α→List Value) (Q:α→Prop) (ht:P.underlying t=some (.slice e)) (h:Rg R enc P w t cs) (hsz:P.cellsOf e=sz) (h0:0<sz) (hby:P.bytesOf e=by')
  (hel:∀ cs',Rg R enc P w e cs'→∃ a,cs'=en a∧Q a):∃ (hd:Sh) (l:List α),cs=[hd.val l.length]∧SlR (fun b=>w.heap[b]?) sz en hd l∧hd.cap*by'≤R∧∀ a∈l,Q a:=by
 obtain ⟨fuel,x,h,hw⟩:=h
 rcases DataW.trod_slice ht h with ⟨rfl,rfl⟩ | ⟨a,len,cap,elems,rest,n,rfl,rfl,rfl,_,hlc,_,hlen,hall,hrest,_⟩
 ·exact ⟨⟨none,0⟩,[],rfl,SlR.nul,by simp,fun a ha=>by cases ha⟩
 have hcap:(elems.length+rest.length)*by'≤R:=by
  have:=hw ((elems.length+rest.length)*by') (by simp [DataW.weights,ht,hby])
  simpa using this
 rw [(hrest rfl).1,hlen,show len+(cap-len)=cap by omega] at hcap
 have hel':∀ i,i<len→∃ m:α,w.cells? 0 (a.add (i*sz)) sz=some (en m)∧Q m:=by
  intro i hi
  have h1:=hall i hi
  rw [List.getElem?_eq_getElem (by omega),hsz,Option.bind_eq_some_iff] at h1
  obtain ⟨cs',h2,h3⟩:=h1
  obtain ⟨m,rfl,hm⟩:=hel cs' ⟨n,_,h3,fun k hk=>hw k (by
   simp only [DataW.weights,ht,List.mem_cons,List.mem_append]
   exact .inr (.inl (aVN (i:=i) (by simp [List.getElem?_eq_getElem (show i<elems.length by omega)]) hk)))⟩
  exact ⟨m,h2,hm⟩
 have hspot:0<len→a.spot=none:=by
  intro hpos
  obtain ⟨m,h1,_⟩:=hel' 0 hpos
  obtain ⟨h2,h3⟩:=aG6 h1
  have h4:=h3 0 h0
  rw [List.getElem?_eq_getElem (by omega)] at h4
  exact aUC (a:=a) (by simpa [Addr.add] using h4)
 rcases Nat.eq_zero_or_pos len with hz | hpos
 ·refine ⟨⟨some a,cap⟩,[],by rw [hz]; rfl,⟨fun h=>absurd rfl h,by simp,fun i y hy=>by simp at hy⟩,hcap,fun y hy=>by cases hy⟩
 have hne:Nonempty α:=⟨Classical.choose (hel' 0 hpos)⟩
 have hch:∀ i,∃ m:α,i<len→w.cells? 0 (a.add (i*sz)) sz=some (en m)∧Q m:=by
  intro i
  by_cases hi:i<len
  ·obtain ⟨m,hm⟩:=hel' i hi; exact ⟨m,fun _=>hm⟩
  exact ⟨Classical.choice hne,fun h=>absurd h hi⟩
 obtain ⟨M,hM⟩ : ∃ M:Nat→α,∀ i,i<len→w.cells? 0 (a.add (i*sz)) sz=some (en (M i))∧Q (M i):=⟨fun i=>Classical.choose (hch i),fun i=>Classical.choose_spec (hch i)⟩
 refine ⟨⟨some a,cap⟩,(List.range len).map M,by simp [Sh.val],⟨fun _=>?_,by simpa using hlc,fun i y hy j v hj=>?_⟩,hcap,fun y hy=>?_⟩
 ·have:=hspot hpos
  show some a=some ⟨a.block,a.off,none⟩
  cases a; simp_all
 ·have hi:i<len:=by
   have:=(List.getElem?_eq_some_iff.1 hy).1
   simpa using this
  have hy':y=M i:=by
   simp [hi] at hy; exact hy.symm
  subst hy'
  obtain ⟨h1,_⟩:=hM i hi
  obtain ⟨h2,h3⟩:=aG6 h1
  have hjl:j<sz:=by rw [← h2]; exact (List.getElem?_eq_some_iff.1 hj).1
  have h4:=h3 j hjl
  rw [hj] at h4
  have h5:=RdP.heap h4
  have hadd:(a.add (i*sz)).add j=⟨a.block,a.off+i*sz+j,none⟩:=by
   have hs:=hspot hpos
   cases a with
   | mk b o s =>
    simp only at hs; subst hs
    by_cases hz1:i*sz=0<;>by_cases hz2:j=0<;>simp [Addr.add,hz1,hz2]
  rw [hadd] at h5
  exact h5
 obtain ⟨i,hi,rfl⟩:=List.mem_map.1 hy
 exact (hM i (by simpa using hi)).2
theorem aKY {W W':World} {sp':Nat→Bool} (hl:laidOutB P=true):∀ {ts:List TypeId} {vs:List Value} {ds:List (DataW H)} {ps:List MemPlace},(∀ t∈ts,P.readableRec t=true∧t<P.types.size) →
  DataW.TrodAll enc P W 0 (fun _=>true) true ts vs ds ps→(∀ p∈ps,W.sameAt W' p)→(∀ p∈ps,sp' p.block=true)→DataW.TrodAll enc P W' 0 sp' true ts vs ds ps
 | [],_,_,_,_,h,_,_=>by
  obtain ⟨rfl,rfl,rfl⟩:=trodAll_nil h
  rfl
 | t :: ts,_,_,_,ht,h,hs,hp=>by
  obtain ⟨v,vs1,d,ds1,a,b,rfl,rfl,rfl,h1,h2⟩:=trodAll_cons h
  obtain ⟨hr,hrow⟩:=ht t (List.mem_cons_self ..)
  exact ⟨a,b,WideElems.Trod_stays hl hr hrow h1 (fun p hp'=>hs p (List.mem_append_left _ hp')) (fun p hp'=>hp p (List.mem_append_left _ hp')),
   aKY hl (fun u hu=>ht u (List.mem_cons_of_mem _ hu)) h2 (fun p hp'=>hs p (List.mem_append_right _ hp')) (fun p hp'=>hp p (List.mem_append_right _ hp')),rfl⟩
theorem aSq {fn:Func} {s:ChangeSpec} {apart fresh handsOn again:Bool} {W W':World} {args:Array Value} {ds gs:List (DataW H)} {before:List MemPlace} {T:TypeId} (hl:laidOutB P=true)
  (hW:DataW.Whole enc P fn.params.toList s.vars apart W args.toList ds gs before) (hv:s.vars=[]) (hpar:∀ t∈fn.params.toList,P.readableRec t=true∧t<P.types.size)
  (hfn:s.fn H (ds++gs) = { results:=[.lit (.bool true)],args:=ds }) (hr:fn.resultTypes = #[T]) (hT:P.underlying T=some .bool) (hb:Below W.heap.size W W') :
  s.post enc P fn apart fresh handsOn again W args (.bool true) W':=by
 have hlt:=hW.lt
 have hW2:=hW
 obtain ⟨p,q,hA,hV,rfl,hz,hn⟩:=hW
 have hq:q=[]:=by rw [hv] at hV; exact (trodVars_none hV).2
 subst hq
 have hres:∀ (b:Nat) (sp:Nat→Bool) (hd:Bool),DataW.TrodAll enc P W' b sp hd fn.resultTypes.toList ((Value.bool true).resultList fn.resultTypes.size) [.lit (.bool true)] []:=by
  intro b sp hd
  rw [hr]
  exact trodAll_mk1 (shut_bool hT true)
 have hargs:∀ sp:Nat→Bool,(∀ x∈p,sp x.block=true)→DataW.TrodAll enc P W' 0 sp true fn.params.toList args.toList ds p:=fun sp hsp =>
  aKY hl hpar hA (fun x hx=>hb.same (hlt x (List.mem_append_left _ hx))) hsp
 have hvars:∀ sp:Nat→Bool,DataW.TrodVars enc P W' sp s.vars ([]:List (DataW H)) []:=fun sp=>by rw [hv]; rfl
 refine ⟨ds,gs,p++[],[],p,[],hW2,?_,?_,?_,hb.frame _,fun _=>⟨?_,_,[],p++[],⟨[]++p,[],trodAll_append (hargs _ fun _ _=>rfl) (hres _ _ _),hvars _,by simp,?_,?_⟩,?_⟩⟩
 ·rw [hfn]; exact hres _ _ _
 ·rw [hfn]; exact hargs _ (fun x hx=>by simpa using hlt x (List.mem_append_left _ hx))
 ·rw [hfn]; exact hvars _
 ·rw [hr]
  intro j t r hj hrr
  match j,hj,hrr with
  | 0,hj,hrr =>
   simp [Value.resultList] at hj hrr
   subst hj; subst hrr
   simp [Value.okWide,hT,Cell.okWide,Cell.ok]
 ·intro b off hp
  rw [hb.frozen (p:=⟨b,off,none⟩) (hlt _ hp)]
  exact hz b off hp
 ·intro ha; exact hn ha
 intro x hx _; exact hx
theorem aSG {f:FuncId} {fn:Func} {s:ChangeSpec} {apart fresh handsOn again:Bool} {W:World} {args:Array Value} {ds gs:List (DataW H)} {before:List MemPlace} {T:TypeId} (hl:laidOutB P=true)
  (hW:DataW.Whole enc P fn.params.toList s.vars apart W args.toList ds gs before) (hv:s.vars=[]) (hpar:∀ t∈fn.params.toList,P.readableRec t=true∧t<P.types.size)
  (hfn:s.fn H (ds++gs) = { results:=[.lit (.bool true)],args:=ds }) (hr:fn.resultTypes = #[T]) (hT:P.underlying T=some .bool)
  (hc:Ct P f args (fun b=>W.heap[b]?) [] fun _ μ' u=>μ'=[]∧u=.bool true) :
  Calls P f args W fun e W'=>∃ v,e=.returned v∧s.post enc P fn apart fresh handsOn again W args v W':=by
 refine (hc W ⟨fun b o h=>h,(fun r hr=>nomatch hr),(fun b hb=>nomatch hb),List.nodup_nil⟩).mono fun e W' ⟨v,G',μ',he,htr,hμ,hv'⟩=>?_
 subst hv'
 refine ⟨_,he,aSq hl hW hv hpar hfn hr hT ⟨htr.os,htr.tape,htr.output,htr.size,fun k hk=>(htr.old k hk (by simp [keys])).1⟩⟩
theorem aNL {W:World} {v:Value} {d:DataW H} {ps:List MemPlace} {ts:List TypeId} {ds:List (DataW H)} {i:Nat} (h:DataW.Trod enc P W 0 (fun _=>true) true t v d ps) (hw:(DataW.weightsEach P ts ds).all (·≤reachBytes)=true) (ht:ts[i]? = some t) (hd:ds[i]? = some d):Rg 140737488351232 enc P W t v.cells.toList:=by
 obtain ⟨fuel,h⟩:=h
 refine ⟨fuel,_,h,fun n hn=>?_⟩
 have:=List.all_eq_true.1 hw n (aKz ht hd hn)
 have h2:n≤reachBytes:=by simpa using this
 exact h2
end
variable {H:Type} {R:Nat} {enc:TypeId×Value→H} {P:Program} {w:World} {t:TypeId} {cs:List Value}
theorem aIm {k:IntKind} (hk:k.signed=false):k.min=0:=by cases k<;>first|rfl | cases hk
theorem aIk {k:IntKind} (hk:k.signed=false):k.max=2^k.bits-1:=by cases k<;>first|rfl | cases hk
theorem Rg.uw {k:IntKind} (hk:k.signed=false) (ht:P.underlying t=some (.int k)) (h:Rg R enc P w t cs):∃ x:BitVec k.bits,cs=[uv k x]:=by
 obtain ⟨n,rfl,h1,h2⟩:=h.int ht
 rw [aIm hk] at h1
 rw [aIk hk] at h2
 refine ⟨BitVec.ofNat k.bits n.toNat,?_⟩
 unfold uv
 have hlt:n.toNat<2^k.bits:=by
  have:((2:Int)^k.bits)=((2^k.bits:Nat):Int):=by simp
  omega
 rw [BitVec.toNat_ofNat,Nat.mod_eq_of_lt hlt,Int.toNat_of_nonneg h1]
theorem Rg.bsl {e:TypeId} (ht:P.underlying t=some (.slice e)) (h:Rg R enc P w t cs) (he:P.underlying e=some (.int .u8)) (hce:P.cellsOf e=1) (hby:P.bytesOf e=1) :
  ∃ (hd:Sh) (l:List Y),cs=[hd.val l.length]∧SlR (fun b=>w.heap[b]?) 1 aN hd l∧hd.cap≤R∧l.length≤R:=by
 obtain ⟨hd,l,h1,h2,h3,_⟩:=h.sl aN (fun _=>True) ht hce (by decide) hby (fun cs' h'=>by obtain ⟨x,hx⟩:=h'.uw rfl he; exact ⟨x,hx,trivial⟩)
 exact ⟨hd,l,h1,h2,by omega,by have:=h2.le; omega⟩
theorem aUX {w:World} {name:String} {zs:List Int} {g m:Nat} {y:Nat→W} (h:Lib.TabIs P w name .u32 zs) (hg:P.globalNamed name=some g) (hz:zs.length=m) (hy:∀ j,j<m→zs.getD j 0=((y j).toNat:Int)):RdNP (fun b=>w.heap[b]?) g 0 (wa m y):=by
 intro j v hj
 have hlt:j<m:=by have:=(List.getElem?_eq_some_iff.1 hj).1; rwa [cC] at this
 rw [aAr hlt] at hj
 obtain rfl:=Option.some.inj hj
 have h1:=h.cell hg j (by omega)
 rw [hy j hlt] at h1
 rw [Nat.zero_add]
 exact RdP.heap h1
end Go.Tan
