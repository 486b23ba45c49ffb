/- Lemmas and contracts of functions, joined. -/
import Derived.WalkKit
import Derived.WalkSpells
import Derived.WalkLawsBesides
import Derived.Deep.AppendSrc
import Derived.Laws.AppendOwnNone
import Derived.DeepKeys
import Derived.Test.YtdeobooblmjlfaaGreatDoorRows
import Derived.KernelRfl
set_option linter.unusedSimpArgs false
set_option linter.unusedVariables false
set_option linter.unusedSectionVars false
namespace Go.Tan
theorem aC : (∀ {p : Prop} [Decidable p], (decide p = true) = p) ∧ (∀ {p : Prop} {x : Decidable p}, decide p = false ↔ ¬p) ∧ (∀ {a b : Int}, ¬a < b ↔ b ≤ a) ∧ (∀ {a b : Int}, ¬a ≤ b ↔ b < a) ∧ (∀ {α : Type} [LT α] {x y : α}, x > y ↔ y < x) ∧ (∀ {α : Type} [LE α] {x y : α}, x ≥ y ↔ y ≤ x) ∧ (∀ a b : Bool, ((a || b) = true) = (a = true ∨ b = true)) ∧ (∀ a b : Bool, ((a && b) = true) = (a = true ∧ b = true)) ∧ (∀ {x y : Bool}, (x || y) = false ↔ x = false ∧ y = false) ∧ (∀ b : Bool, ((!b) = true) = (b = false)) ∧ (∀ b : Bool, ((!b) = false) = (b = true)) ∧ (∀ n : Nat, ((n : Int)).toNat = n) :=
  ⟨decide_eq_true_eq, decide_eq_false_iff_not, Int.not_lt, Int.not_le, gt_iff_lt, ge_iff_le, Bool.or_eq_true, Bool.and_eq_true, Bool.or_eq_false_iff, Bool.not_eq_true', Bool.not_eq_false', Int.toNat_natCast⟩
theorem aD : (∀ {α : Type} [BEq α] [LawfulBEq α] {a b : α}, (a != b) = true ↔ a ≠ b) ∧ (∀ {α : Type} [BEq α] [LawfulBEq α] {a b : α}, (a == b) = true ↔ a = b) ∧ (∀ {α : Type} [BEq α] [LawfulBEq α] {a b : α}, (a != b) = false ↔ a = b) ∧ (∀ {α : Type} [BEq α] [LawfulBEq α] {a b : α}, (a == b) = false ↔ a ≠ b) ∧ (∀ {α : Type} (a b : α), (a ≠ b) = ¬a = b) := ⟨bne_iff_ne, beq_iff_eq, bne_eq_false_iff_eq, beq_eq_false_iff_ne, ne_eq⟩
theorem aG : ∀ {x y : Bool}, (x && y) = false ↔ x = false ∨ y = false := Bool.and_eq_false_iff
theorem bM : (∀ {α : Type} {xs ys : List α}, (xs ++ ys).length = xs.length + ys.length) ∧ (∀ {α : Type} {a : α} {xs : List α}, (a :: xs).length = xs.length + 1) ∧ (∀ {α : Type}, ([] : List α).length = 0) := ⟨List.length_append, List.length_cons, List.length_nil⟩
theorem aT : (∀ {α : Type} {xs ys : List α}, (xs ++ ys).length = xs.length + ys.length) ∧ (∀ {α : Type} {i : Nat} {l : List α}, (l.take i).length = min i l.length) ∧ (∀ {α : Type} {i : Nat} {l : List α}, (l.drop i).length = l.length - i) := ⟨List.length_append, List.length_take, List.length_drop⟩
end Go.Tan
namespace Go.Tan
open Go.RowKit
abbrev PM:=Nat→Option Obj
def PM.le (G G':PM):Prop:=∀ b o,G b=some o→G' b=some o
theorem PM.le.refl (G:PM):PM.le G G:=fun _ _ h=>h
theorem PM.le.trans {G G' G'':PM} (h:PM.le G G') (k:PM.le G' G''):PM.le G G'':=fun b o e=>k b o (h b o e)
inductive Res where
 | blk (b:Nat) (o:Obj)
 | row (v:Value) (E size n:Nat) (xs:List Value)
 | mp (b:Nat) (q:IntKind) (m:Int→Option Value)
def iY (q:IntKind) (es:List MapEntry) (k:Int):Option Value :=
 match es with
 | []=>none
 | e :: r=>if e.key matches .int _ _ then (match e.key with | .int _ a=>if a=k then some e.val else iY q r k | _=>none) else none
def rU (q:IntKind) (es:List MapEntry):Prop:=∀ e∈es,∃ a,e.key=.int q a
def Res.keys:Res→List Nat
 | .blk b _=>[b]
 | .row v ..=>v.ownBlock.toList
 | .mp b _ _=>[b]
def Res.sat (w:World):Res→Prop
 | .blk b o=>w.heap[b]? = some o
 | .row v E size n xs=>w.ownsRow 0 E size v n xs
 | .mp b q m=>∃ es clock,w.heap[b]? = some (.map es clock)∧rU q es.toList∧∀ k,iY q es.toList k=m k
abbrev aH:=List Res
def keys (μ:aH):List Nat:=μ.flatMap Res.keys
structure Sat (G:PM) (μ:aH) (w:World):Prop where
 sub:∀ b o,G b=some o→w.heap[b]? = some o
 own:∀ r∈μ,r.sat w
 apart:∀ b∈keys μ,G b=none
 nodup:(keys μ).Nodup
structure Tr (G0:PM) (K0:List Nat) (w0:World) (G:PM) (μ:aH) (w:World):Prop where
 sat:Sat G μ w
 os:w.os=w0.os
 tape:w.tape=w0.tape
 output:w.output=w0.output
 size:w0.heap.size≤w.heap.size
 old:∀ b,b<w0.heap.size→b∉K0→w.heap[b]? = w0.heap[b]?∧G b=G0 b
 mine:∀ b∈keys μ,b∈K0∨w0.heap.size≤b
 le:∀ b o,b∉K0→G0 b=some o→G b=some o
theorem Res.key_lt {w:World} {r:Res} (h:r.sat w):∀ b∈r.keys,b<w.heap.size:=by
 intro b hb
 cases r with
 | blk b' o=>simp only [Res.keys,List.mem_singleton] at hb; subst hb; exact (Array.getElem?_eq_some_iff.1 h).1
 | row v E size n xs =>
  simp only [Res.keys,Option.mem_toList] at hb
  exact (World.ownsRow.lt h b hb).2
 | mp b' q m =>
  simp only [Res.keys,List.mem_singleton] at hb
  subst hb
  obtain ⟨es,clock,h1,_⟩:=h
  exact (Array.getElem?_eq_some_iff.1 h1).1
theorem Sat.key_lt {G:PM} {μ:aH} {w:World} (h:Sat G μ w):∀ b∈keys μ,b<w.heap.size:=by
 intro b hb
 obtain ⟨r,hr,hbr⟩:=List.mem_flatMap.1 hb
 exact Res.key_lt (h.own r hr) b hbr
theorem aA2 {w w':World} {r:Res} (h:r.sat w) (hk:∀ b∈r.keys,w'.heap[b]? = w.heap[b]?):r.sat w':=by
 cases r with
 | blk b o=>show w'.heap[b]? = some o; rw [hk b (by simp [Res.keys])]; exact h
 | row v E size n xs =>
  refine ⟨h.1,?_⟩
  rcases h.2 with hn | ⟨g,cap,cur,rfl,hb,hg,rest⟩
  ·exact .inl hn
  exact .inr ⟨g,cap,cur,rfl,hb,by rw [hk g (by simp [Res.keys,Value.ownBlock])]; exact hg,rest⟩
 | mp b q m =>
  obtain ⟨es,clock,h1,h2⟩:=h
  exact ⟨es,clock,by rw [hk b (by simp [Res.keys])]; exact h1,h2⟩
theorem oC {G:PM} {μ:aH} {w:World} (h:Sat G μ w):Tr G (keys μ) w G μ w :=
 ⟨h,rfl,rfl,rfl,Nat.le_refl _,fun _ _ _=>⟨rfl,rfl⟩,fun _ hb=>.inl hb,fun _ _ _ h=>h⟩
theorem wS {μ μ':aH} (h:μ.Perm μ'):(keys μ).Perm (keys μ'):=h.flatMap_right _
theorem Sat.perm {G:PM} {μ μ':aH} {w:World} (h:Sat G μ w) (p:μ.Perm μ'):Sat G μ' w :=
 ⟨h.sub,fun r hr=>h.own r (p.mem_iff.2 hr),fun b hb=>h.apart b ((wS p).mem_iff.2 hb),(wS p).nodup_iff.1 h.nodup⟩
theorem Tr.perm {G0 G:PM} {K0:List Nat} {w0 w:World} {μ μ':aH} (h:Tr G0 K0 w0 G μ w) (p:μ.Perm μ'):Tr G0 K0 w0 G μ' w :=
 { h with sat:=h.sat.perm p,mine:=fun b hb=>h.mine b ((wS p).mem_iff.2 hb) }
theorem iV (a b:aH):keys (a++b)=keys a++keys b:=by simp [keys]
theorem Sat.left {G:PM} {μ ν:aH} {w:World} (h:Sat G (μ++ν) w):Sat G μ w :=
 ⟨h.sub,fun r hr=>h.own r (List.mem_append_left _ hr),fun b hb=>h.apart b (by rw [iV]; exact List.mem_append_left _ hb),
  by have:=h.nodup; rw [iV] at this; exact (List.nodup_append.1 this).1⟩
theorem Tr.left {G0 G:PM} {K0:List Nat} {w0 w:World} {μ ν:aH} (h:Tr G0 K0 w0 G (μ++ν) w):Tr G0 K0 w0 G μ w :=
 { h with sat:=h.sat.left,mine:=fun b hb=>h.mine b (by rw [iV]; exact List.mem_append_left _ hb) }
theorem Tr.step {G0 G G':PM} {K0:List Nat} {w0 w w':World} {μ ν μ':aH} (h:Tr G0 K0 w0 G (μ++ν) w) (k:Tr G (keys μ) w G' μ' w') :
  Tr G0 K0 w0 G' (μ'++ν) w':=by
 have hlt:=h.sat.key_lt
 have hnd:=h.sat.nodup
 rw [iV] at hnd hlt
 have hdis:=(List.nodup_append.1 hnd).2.2
 have hν:∀ b∈keys ν,b<w.heap.size∧b∉keys μ:=fun b hb=>⟨hlt b (List.mem_append_right _ hb),fun hm=>hdis b hm b hb rfl⟩
 have hμ':∀ b∈keys μ',b∈keys μ∨w.heap.size≤b:=k.mine
 refine ⟨⟨k.sat.sub,?_,?_,?_⟩,k.os.trans h.os,k.tape.trans h.tape,k.output.trans h.output,Nat.le_trans h.size k.size,?_,?_,?_⟩
 ·intro r hr
  rcases List.mem_append.1 hr with hr | hr
  ·exact k.sat.own r hr
  refine aA2 (h.sat.own r (List.mem_append_right _ hr)) fun b hb=>?_
  have:=hν b (List.mem_flatMap.2 ⟨r,hr,hb⟩)
  exact (k.old b this.1 this.2).1
 ·intro b hb
  rw [iV] at hb
  rcases List.mem_append.1 hb with hb | hb
  ·exact k.sat.apart b hb
  have:=hν b hb
  rw [(k.old b this.1 this.2).2]
  exact h.sat.apart b (by rw [iV]; exact List.mem_append_right _ hb)
 ·rw [iV]
  refine List.nodup_append.2 ⟨k.sat.nodup,(List.nodup_append.1 hnd).2.1,fun x hx y hy hxy=>?_⟩
  subst hxy
  have:=hν x hy
  rcases hμ' x hx with hm | hm
  ·exact this.2 hm
  omega
 ·intro b hb hK
  have hb':b∉keys μ:=fun hm=>by
   rcases h.mine b (by rw [iV]; exact List.mem_append_left _ hm) with h1 | h1
   ·exact hK h1
   omega
  have h1:=h.old b hb hK
  have h2:=k.old b (Nat.lt_of_lt_of_le hb h.size) hb'
  exact ⟨h2.1.trans h1.1,h2.2.trans h1.2⟩
 ·intro b hb
  rw [iV] at hb
  rcases List.mem_append.1 hb with hb | hb
  ·rcases hμ' b hb with hm | hm
   ·exact h.mine b (by rw [iV]; exact List.mem_append_left _ hm)
   exact .inr (Nat.le_trans h.size hm)
  exact h.mine b (by rw [iV]; exact List.mem_append_right _ hb)
 intro b o hK hb
 have h1:=h.le b o hK hb
 refine k.le b o (fun hm=>?_) h1
 have:=h.sat.apart b (by rw [iV]; exact List.mem_append_left _ hm)
 rw [h1] at this; cases this
theorem Tr.mono {G0 G:PM} {K0:List Nat} {w0 w:World} {μ:aH} (h:Tr G0 K0 w0 G μ w) (hK:∀ b∈K0,G0 b=none):PM.le G0 G :=
 fun b o hb=>h.le b o (fun hm=>by rw [hK b hm] at hb; cases hb) hb
theorem Tr.forget {G0 G Gp G':PM} {K0:List Nat} {w0 w w':World} {μ:aH} (h:Tr G0 K0 w0 G μ w) (k:Tr Gp [] w G' [] w'):Tr G0 K0 w0 G μ w':=by
 have hold:∀ b,b<w.heap.size→w'.heap[b]? = w.heap[b]?:=fun b hb=>(k.old b hb (by simp)).1
 have hsub:∀ b o,G b=some o→b<w.heap.size:=fun b o hb=>(Array.getElem?_eq_some_iff.1 (h.sat.sub b o hb)).1
 have hlt:=h.sat.key_lt
 refine ⟨⟨fun b o hb=>by rw [hold b (hsub b o hb)]; exact h.sat.sub b o hb,fun r hr=>aA2 (h.sat.own r hr) fun b hb=>hold b (hlt b (List.mem_flatMap.2 ⟨r,hr,hb⟩)),h.sat.apart,h.sat.nodup⟩,
  k.os.trans h.os,k.tape.trans h.tape,k.output.trans h.output,Nat.le_trans h.size k.size,fun b hb hK=>?_,h.mine,h.le⟩
 rw [hold b (Nat.lt_of_lt_of_le hb h.size)]
 exact h.old b hb hK
theorem Tr.drew {G0 G:PM} {K0:List Nat} {w0 w:World} {μ:aH} (h:Tr G0 K0 w0 G μ w):Tr G0 K0 w0 G μ { w with drawn:=w.drawn+1 } :=
 ⟨⟨h.sat.sub,fun r hr=>aA2 (h.sat.own r hr) fun _ _=>rfl,h.sat.apart,h.sat.nodup⟩,h.os,h.tape,h.output,h.size,h.old,h.mine,h.le⟩
def PM.add (G:PM) (b:Nat) (o:Obj):PM:=fun c=>if c=b then some o else G c
theorem gI (G:PM) (b:Nat) (o:Obj):G.add b o b=some o:=by simp [PM.add]
theorem sK {G:PM} {b:Nat} {o:Obj} (h:G b=none):PM.le G (G.add b o):=by
 intro c u hc
 unfold PM.add
 split
 ·rename_i e; subst e; rw [h] at hc; cases hc
 ·exact hc
theorem Tr.freeze {G0 G:PM} {K0:List Nat} {w0 w:World} {μ:aH} {b:Nat} {o:Obj} (h:Tr G0 K0 w0 G (.blk b o :: μ) w) (hb:b∉K0):Tr G0 K0 w0 (G.add b o) μ w:=by
 have hbo:w.heap[b]? = some o:=h.sat.own _ (List.mem_cons_self ..)
 have hk:keys (.blk b o :: μ)=b :: keys μ:=by simp [keys,Res.keys]
 have hnd:=h.sat.nodup
 rw [hk] at hnd
 have hGb:G b=none:=h.sat.apart b (by rw [hk]; exact List.mem_cons_self ..)
 have hw0:w0.heap.size≤b:=(h.mine b (by rw [hk]; exact List.mem_cons_self ..)).resolve_left hb
 refine ⟨⟨?_,fun r hr=>h.sat.own r (List.mem_cons_of_mem _ hr),?_,(List.nodup_cons.1 hnd).2⟩,h.os,h.tape,h.output,h.size,?_,fun c hc=>h.mine c (by rw [hk]; exact List.mem_cons_of_mem _ hc),?_⟩
 ·intro c u hc
  unfold PM.add at hc
  split at hc
  ·rename_i e; subst e; cases hc; exact hbo
  exact h.sat.sub c u hc
 ·intro c hc
  unfold PM.add
  rw [if_neg (fun (e:c=b)=>(List.nodup_cons.1 hnd).1 (e▸hc))]
  exact h.sat.apart c (by rw [hk]; exact List.mem_cons_of_mem _ hc)
 ·intro c hc hK
  have:=h.old c hc hK
  refine ⟨this.1,?_⟩
  unfold PM.add
  rw [if_neg (by omega)]
  exact this.2
 intro c u hK hc
 exact sK hGb c u (h.le c u hK hc)
abbrev aO:=List (Nat×Bool×Value)
def dP:aO→Nat→Option (Bool×Value)
 | [],_=>none
 | (j,cv) :: r,i=>match Nat.beq j i with | true=>some cv | false=>dP r i
def ev (ρ:aO):Operand→Option (Bool×Value)
 | .tmp t=>dP ρ t
 | .const v=>some (true,v)
 | .global g=>some (true,.pointer (some ⟨g,0,none⟩))
 | .func f=>some (true,.func (.func f) #[] #[])
structure Ag (n:Nat) (ρ:aO) (a:Act):Prop where
 size:a.tmps.size=n
 defers:a.defers=[]
 get:∀ i c v,dP ρ i=some (c,v)→a.tmps[i]? = some (cond c v undef)
theorem tA (j:Nat) (cv:Bool×Value) (r:aO) (i:Nat):dP ((j,cv) :: r) i=if j=i then some cv else dP r i:=by
 by_cases h:j=i
 ·subst h; simp [dP]
 ·have hb:Nat.beq j i=false:=by
   cases h':Nat.beq j i with
   | false=>rfl
   | true=>exact absurd (Nat.eq_of_beq_eq_true h') h
  rw [if_neg h]; simp only [dP,hb]
theorem Ag.put {n:Nat} {ρ:aO} {a:Act} (h:Ag n ρ a) {d:Nat} (hd:d<n) (c:Bool) (v:Value):Ag n ((d,c,v) :: ρ) (a.put (some d) (cond c v undef)):=by
 refine ⟨by simp [Act.put,h.size],by simp [Act.put,h.defers],fun i c' v' hl=>?_⟩
 rw [tA] at hl
 simp only [Act.put]
 split at hl
 ·rename_i e; subst e
  simp only [Option.some.injEq,Prod.mk.injEq] at hl
  obtain ⟨rfl,rfl⟩:=hl
  simp [h.size,hd]
 rename_i e
 rw [Array.getElem?_setIfInBounds_ne e]
 exact h.get i c' v' hl
theorem Ag.sub {n:Nat} {ρ ρ':aO} {a:Act} (h:Ag n ρ a) (hs:∀ i cv,dP ρ' i=some cv→dP ρ i=some cv):Ag n ρ' a :=
 ⟨h.size,h.defers,fun i c v hl=>h.get i c v (hs i _ hl)⟩
theorem Ag.eval {n:Nat} {ρ:aO} {a:Act} (h:Ag n ρ a) {x:Operand} {c:Bool} {v:Value} (hx:ev ρ x=some (c,v)) (hc:c=true):a.eval x=v:=by
 subst hc
 cases x with
 | tmp t=>simp only [ev] at hx; simp [Act.eval,h.get t _ _ hx]
 | const u=>simp only [ev,Option.some.injEq,Prod.mk.injEq] at hx; exact hx.2
 | global g=>simp only [ev,Option.some.injEq,Prod.mk.injEq] at hx; exact hx.2
 | func f=>simp only [ev,Option.some.injEq,Prod.mk.injEq] at hx; exact hx.2
def Ev (ρ:aO) (c:Bool) (x:Operand) (v:Value):Prop:=∃ cx,ev ρ x=some (cx,v)∧(c=true→cx=true)
theorem Ev.u {ρ:aO} {c:Bool} {x:Operand} {v:Value} (h:ev ρ x=some (true,v)):Ev ρ c x v:=⟨true,h,fun _=>rfl⟩
theorem Ev.s {ρ:aO} {c:Bool} {x:Operand} {v:Value} (h:ev ρ x=some (c,v)):Ev ρ c x v:=⟨c,h,id⟩
theorem Ev.eval {n:Nat} {ρ:aO} {a:Act} {c:Bool} {x:Operand} {v:Value} (h:Ev ρ c x v) (ha:Ag n ρ a) (hc:c=true):a.eval x=v:=by
 obtain ⟨cx,h1,h2⟩:=h
 exact ha.eval h1 (h2 hc)
def nth:List Oper→Nat→Option Oper
 | [],_=>none
 | o :: _,0=>some o
 | _ :: l,i+1=>nth l i
theorem oL (l:List Oper) (i:Nat):l.toArray[i]? = nth l i:=by
 rw [List.getElem?_toArray]
 induction l generalizing i with
 | nil=>simp [nth]
 | cons o l ih=>cases i with
  | zero=>simp [nth]
  | succ i=>simp [nth,ih]
inductive Gd (l:List Oper) (ρ:aO):Option (Nat×Bool)→Bool→Prop where
 | no:Gd l ρ none true
 | t {j t:Nat} {b:Bool} (h:(nth l j).bind (·.dst)=some t) (hl:dP ρ t=some (true,.bool b)):Gd l ρ (some (j,true)) b
 | f {j t:Nat} {b:Bool} (h:(nth l j).bind (·.dst)=some t) (hl:dP ρ t=some (true,.bool b)):Gd l ρ (some (j,false)) (!b)
 | tc {j t:Nat} {c b:Bool} (h:(nth l j).bind (·.dst)=some t) (hl:dP ρ t=some (c,.bool b)):Gd l ρ (some (j,true)) (c&&b)
 | fc {j t:Nat} {c b:Bool} (h:(nth l j).bind (·.dst)=some t) (hl:dP ρ t=some (c,.bool b)):Gd l ρ (some (j,false)) (c && !b)
theorem Gd.wanted {l:List Oper} {ρ:aO} {o:Oper} {c:Bool} (h:Gd l ρ o.guard c) {n:Nat} {a:Act} (ha:Ag n ρ a) :
  Region.wanted o (yielded l.toArray a.tmps)=c:=by
 unfold Region.wanted
 generalize o.guard=g at h
 have key:∀ {j t:Nat} {c b:Bool},(nth l j).bind (·.dst)=some t→dP ρ t=some (c,.bool b)→yielded l.toArray a.tmps j=if c then some b else none:=by
  intro j t c b h hl
  have:=ha.get t c _ hl
  unfold yielded
  rw [oL,h]
  simp only [Option.bind_some,this]
  cases c<;>simp [undef]
 cases h with
 | no=>rfl
 | t h hl=>simp only [key h hl]; cases c<;>simp
 | f h hl=>rename_i b; simp only [key h hl]; cases b<;>simp
 | tc h hl=>rename_i c b; simp only [key h hl]; cases b<;>cases c<;>simp
 | fc h hl=>rename_i c b; simp only [key h hl]; cases b<;>cases c<;>simp
def Ct (P:Program) (f:FuncId) (args:Array Value) (G:PM) (μ:aH) (post:PM→aH→Value→Prop):Prop :=
 ∀ w,Sat G μ w→Calls P f args w fun e w'=>∃ v G' μ',e=.returned v∧Tr G (keys μ) w G' μ' w'∧post G' μ' v
inductive Kind where
 | pure | read | call | make | act
 deriving DecidableEq
structure Md where
 c:Bool
 a:Bool
def cA (mc:Md):Op→Kind
 | .move _ | .assign _ | .pick .. | .unOp .. | .binOp .. | .fieldAddr .. | .field .. | .indexAddr .. | .index .. | .extract .. | .slice .. | .build .. | .nilCheck _ | .makeFunc .. | .sliceToArrayPointer ..=>.pure
 | .load .. | .convert .. | .lookup .. | .makeInterface ..=>.read
 | .alloc _=>.make
 | .box .. | .buildSlice ..=>.call
 | .call { callee:=.builtin .len,.. } | .call { callee:=.builtin .min,.. } | .call { callee:=.builtin .max,.. }=>.read
 | .call { callee:=.builtin .append,.. }=>if mc.a then .call else .act
 | .call { callee:=.builtin _,.. }=>.act
 | .call _=>if mc.c then .act else .call
 | _=>.act
def dM (ρ:aO) (d:Option Nat) (c:Bool) (v:Value):aO:=match d with | some d=>(d,c,v) :: ρ | none=>ρ
def kI (n:Nat):Option Nat→Prop | some d=>d<n | none=>True
structure Weak (μ' μ₁:aH):Prop where
 sat:∀ w,(∀ r∈μ',r.sat w)→∀ r∈μ₁,r.sat w
 keys:∀ b∈keys μ₁,b∈keys μ'
 nodup:(Go.Tan.keys μ₁).Nodup
theorem Weak.of {G:PM} {μ' μ₁ ν:aH} {w:World} (h:Weak μ' μ₁) (hs:Sat G (μ'++ν) w):Sat G (μ₁++ν) w:=by
 have hnd:=hs.nodup
 rw [iV] at hnd
 refine ⟨hs.sub,fun r hr=>?_,fun b hb=>?_,?_⟩
 ·rcases List.mem_append.1 hr with hr | hr
  ·exact h.sat w (fun r hr=>hs.own r (List.mem_append_left _ hr)) r hr
  exact hs.own r (List.mem_append_right _ hr)
 ·rw [iV] at hb
  refine hs.apart b ?_
  rw [iV]
  rcases List.mem_append.1 hb with hb | hb
  ·exact List.mem_append_left _ (h.keys b hb)
  exact List.mem_append_right _ hb
 rw [iV]
 exact List.nodup_append.2 ⟨h.nodup,(List.nodup_append.1 hnd).2.1,fun x hx y hy=>(List.nodup_append.1 hnd).2.2 x (h.keys x hx) y hy⟩
inductive Wo (dr:Bool) (mc:Md) (P:Program) (n:Nat) (l:List Oper) (K:aO→PM→aH→Prop):List Nat→aO→PM→aH→Prop where
 | nil {ρ G μ} (h:K ρ G μ):Wo dr mc P n l K [] ρ G μ
 | pure {i σ ρ G μ o c v} (ho:nth l i=some o) (hk:cA mc o.op=.pure∨dr=false) (hg:Gd l ρ o.guard c)
   (hr:c=true→∀ a w,Ag n ρ a→(execOp a.eval o).run P w=.ok (.value v) w) (h:Wo dr mc P n l K σ (dM ρ o.dst c v) G μ):Wo dr mc P n l K (i :: σ) ρ G μ
 | read {i σ ρ G μ o c v} (ho:nth l i=some o) (hk:cA mc o.op=.read∨dr=false) (hg:Gd l ρ o.guard c)
   (hr:c=true→∀ a w,Ag n ρ a→Sat G μ w→(execOp a.eval o).run P w=.ok (.value v) w) (h:Wo dr mc P n l K σ (dM ρ o.dst c v) G μ):Wo dr mc P n l K (i :: σ) ρ G μ
 | make {i σ ρ G μ o} {ob:Obj} {mkv:Nat→Value} (ho:nth l i=some o) (hk:cA mc o.op=.make∨dr=false) (hg:o.guard=none)
   (hr:∀ e w,(execOp e o).run P w=.ok (.value (mkv w.heap.size)) (w.alloc ob))
   (h:∀ b,Wo dr mc P n l K σ (dM ρ o.dst true (mkv b)) G (.blk b ob :: μ)):Wo dr mc P n l K (i :: σ) ρ G μ
 | box {i σ ρ G μ o} {ob:Obj} {mkv:Nat→Value} (ho:nth l i=some o) (hk:cA mc o.op=.call∨dr=false) (hg:o.guard=none)
   (hr:∀ a w,Ag n ρ a→(execOp a.eval o).run P w=.ok (.value (mkv w.heap.size)) (w.alloc ob))
   (h:∀ b,Wo dr mc P n l K σ (dM ρ o.dst true (mkv b)) G (.blk b ob :: μ)):Wo dr mc P n l K (i :: σ) ρ G μ
 | callv {i σ ρ G μ o c f args v} {Gp:PM} (ho:nth l i=some o) (hk:cA mc o.op=.call∨cA mc o.op=.act∨dr=false) (hg:Gd l ρ o.guard c)
   (hr:c=true→∀ a w,Ag n ρ a→(execOp a.eval o).run P w=.ok (.enter f args) w)
   (hf:c=true→∀ w,Sat G μ w→(∀ b o,Gp b=some o→w.heap[b]? = some o)∧Ct P f args Gp [] fun _ μ' u=>μ'=[]∧u=v)
   (h:Wo dr mc P n l K σ (dM ρ o.dst c v) G μ):Wo dr mc P n l K (i :: σ) ρ G μ
 | call {i σ ρ G μ o f args} {post:PM→aH→Value→Prop} (ho:nth l i=some o) (hk:cA mc o.op=.call∨cA mc o.op=.act∨dr=false) (hg:Gd l ρ o.guard true)
   (hr:∀ a w,Ag n ρ a→(execOp a.eval o).run P w=.ok (.enter f args) w)
   (hf:Ct P f args G [] post)
   (h:∀ v G' μ',PM.le G G'→post G' μ' v→Wo dr mc P n l K σ (dM ρ o.dst true v) G' (μ'++μ)):Wo dr mc P n l K (i :: σ) ρ G μ
 | callg {i σ ρ G μ o f args} {post:PM→aH→Value→Prop} (hd:dr=false) (ho:nth l i=some o) (hg:Gd l ρ o.guard true)
   (hr:∀ a w,Ag n ρ a→(execOp a.eval o).run P w=.ok (.enter f args) w)
   (hf:Ct P f args G [] post)
   (h:∀ v G' μ',PM.le G G'→post G' μ' v→Wo dr mc P n l K σ (dM ρ o.dst true v) G' (μ'++μ)):Wo dr mc P n l K (i :: σ) ρ G μ
 | fresh {i σ ρ G μ o μ₁ μ₂} {post:PM→aH→aH→Value→Prop} (ho:nth l i=some o) (hk:cA mc o.op=.call∨dr=false) (hg:o.guard=none) (hp:μ.Perm (μ₁++μ₂))
   (hr:∀ a w,Ag n ρ a→Sat G (μ₁++μ₂) w→∃ v w' G' μa μb,(execOp a.eval o).run P w=.ok (.value v) w'∧Tr G (keys μ₁) w G' (μa++μb) w'∧post G' μa μb v)
   (hw:∀ v G' μa μb,post G' μa μb v→Weak (μa++μb) μ₁)
   (h:∀ v G' μa μb,PM.le G G'→post G' μa μb v→Wo dr mc P n l K σ (dM ρ o.dst true v) G' (μa++(μ₂++μb))):Wo dr mc P n l K (i :: σ) ρ G μ
 | act {i σ ρ G μ o μ₁ μ₂} {post:PM→aH→Value→Prop} (ho:nth l i=some o) (hk:cA mc o.op=.act∨dr=false) (hg:Gd l ρ o.guard true) (hp:μ.Perm (μ₁++μ₂))
   (hr:∀ a w,Ag n ρ a→Sat G (μ₁++μ₂) w →
    (∃ v w' G' μ',((execOp a.eval o).run P w=.ok (.value v) w'∨(execOp a.eval o).run P w=.ok .skip w'∧v=undef)∧Tr G (keys μ₁) w G' μ' w'∧post G' μ' v) ∨
    (∃ f args,(execOp a.eval o).run P w=.ok (.enter f args) w∧Ct P f args G μ₁ post))
   (h:∀ v G' μ',PM.le G G'→post G' μ' v→Wo dr mc P n l K σ (dM ρ o.dst true v) G' (μ'++μ₂)):Wo dr mc P n l K (i :: σ) ρ G μ
theorem Ag.laid {n:Nat} {ρ:aO} {a:Act} (h:Ag n ρ a) {d:Option Nat} (hd:kI n d) (c:Bool) (v:Value):Ag n (dM ρ d c v) (a.put d (cond c v undef)):=by
 cases d with
 | none=>exact h
 | some d=>exact h.put hd c v
theorem Tr.alloc {G0 G:PM} {K0:List Nat} {w0 w:World} {μ:aH} (h:Tr G0 K0 w0 G μ w) (ob:Obj):Tr G0 K0 w0 G (.blk w.heap.size ob :: μ) (w.alloc ob):=by
 have hk:keys (.blk w.heap.size ob :: μ)=w.heap.size :: keys μ:=by simp [keys,Res.keys]
 have hlt:=h.sat.key_lt
 have hold:∀ b,b<w.heap.size→(w.alloc ob).heap[b]? = w.heap[b]?:=fun b hb=>Below.heap_alloc w ob b hb
 have hsub:∀ b o,G b=some o→b<w.heap.size:=fun b o hb=>(Array.getElem?_eq_some_iff.1 (h.sat.sub b o hb)).1
 refine ⟨⟨fun b o hb=>by rw [hold b (hsub b o hb)]; exact h.sat.sub b o hb,?_,?_,?_⟩,h.os,h.tape,h.output,Nat.le_trans h.size (by simp),?_,?_,h.le⟩
 ·intro r hr
  rcases List.mem_cons.1 hr with rfl | hr
  ·exact heap_alloc_new w ob
  exact aA2 (h.sat.own r hr) fun b hb=>hold b (hlt b (List.mem_flatMap.2 ⟨r,hr,hb⟩))
 ·intro b hb
  rw [hk] at hb
  rcases List.mem_cons.1 hb with rfl | hb
  ·cases hG:G w.heap.size with
   | none=>rfl
   | some o=>exact absurd (hsub _ _ hG) (Nat.lt_irrefl _)
  exact h.sat.apart b hb
 ·rw [hk]
  exact List.nodup_cons.2 ⟨fun hm=>absurd (hlt _ hm) (Nat.lt_irrefl _),h.sat.nodup⟩
 ·intro b hb hK
  rw [hold b (Nat.lt_of_lt_of_le hb h.size)]
  exact h.old b hb hK
 intro b hb
 rw [hk] at hb
 rcases List.mem_cons.1 hb with rfl | hb
 ·exact .inr h.size
 exact h.mine b hb
theorem aCA {P:Program} {f:FuncId} {args:Array Value} {G:PM} {μ:aH} {post:PM→aH→Value→Prop} (hf:Ct P f args G μ post) {w:World} (hs:Sat G μ w)
  {o:Oper} {a:Act} {next:Act→World→Prop} {Q:Exit→Act→World→Prop}
  (hr:(execOp a.eval o).run P w=.ok (.enter f args) w)
  (h:∀ v G' μ' w',Tr G (keys μ) w G' μ' w'→post G' μ' v→next (a.put o.dst v) w'):o.wp P a w next Q:=by
 unfold Oper.wp
 rw [hr]
 simp only [Oper.upon]
 refine (hf w hs).mono ?_
 rintro e w' ⟨v,G',μ',rfl,ht,hp⟩
 exact h v G' μ' w' ht hp
theorem aHl {α:Type} (a b c:List α):(a++b++c).Perm (a++(c++b)):=by
 rw [List.append_assoc]; exact (List.perm_append_comm (l₁:=b) (l₂:=c)).append_left a
theorem Wo.head {dr:Bool} {mc:Md} {P:Program} {n:Nat} {l:List Oper} {K:aO→PM→aH→Prop} {i:Nat} {σ:List Nat} {ρ:aO} {G:PM} {μ:aH} (H:Wo dr mc P n l K (i :: σ) ρ G μ)
  {G0:PM} {K0:List Nat} {w0:World} {a:Act} {w:World} (ha:Ag n ρ a) (ht:Tr G0 K0 w0 G μ w)
  {next:Act→World→Prop} {Q:Exit→Act→World→Prop}
  (hds:∀ j o,nth l j=some o→kI n o.dst)
  (hn:∀ ρ' G' μ' a' w',Wo dr mc P n l K σ ρ' G' μ'→Ag n ρ' a'→Tr G0 K0 w0 G' μ' w'→next a' w') :
  ∃ o,nth l i=some o∧if Region.wanted o (yielded l.toArray a.tmps) then o.wp P a w next Q else next (a.put o.dst undef) w:=by
 have plain:∀ {o:Oper},o.guard=none→Region.wanted o (yielded l.toArray a.tmps)=true:=fun hg=>by simp [Region.wanted,hg]
 cases H with
 | @pure _ _ _ _ _ o c v ho hk hg hr h =>
  refine ⟨o,ho,?_⟩
  rw [hg.wanted ha]
  cases c with
  | false=>exact hn _ _ _ _ _ h (by simpa using ha.laid (hds i o ho) false v) ht
  | true=>simp only [if_true,Oper.wp,hr rfl a w ha,Oper.upon]; exact hn _ _ _ _ _ h (ha.laid (hds i o ho) true v) ht
 | @read _ _ _ _ _ o c v ho hk hg hr h =>
  refine ⟨o,ho,?_⟩
  rw [hg.wanted ha]
  cases c with
  | false=>exact hn _ _ _ _ _ h (by simpa using ha.laid (hds i o ho) false v) ht
  | true=>simp only [if_true,Oper.wp,hr rfl a w ha ht.sat,Oper.upon]; exact hn _ _ _ _ _ h (ha.laid (hds i o ho) true v) ht
 | @make _ _ _ _ _ o ob mkv ho hk hg hr h =>
  refine ⟨o,ho,?_⟩
  rw [plain hg]
  simp only [if_true,Oper.wp,hr a.eval w,Oper.upon]
  exact hn _ _ _ _ _ (h w.heap.size) (ha.laid (hds i o ho) true _) (ht.alloc ob)
 | @box _ _ _ _ _ o ob mkv ho hk hg hr h =>
  refine ⟨o,ho,?_⟩
  rw [plain hg]
  simp only [if_true,Oper.wp,hr a w ha,Oper.upon]
  exact hn _ _ _ _ _ (h w.heap.size) (ha.laid (hds i o ho) true _) (ht.alloc ob)
 | @callv _ _ _ _ _ o c f args v Gp ho hk hg hr hf h =>
  refine ⟨o,ho,?_⟩
  rw [hg.wanted ha]
  cases c with
  | false=>exact hn _ _ _ _ _ h (by simpa using ha.laid (hds i o ho) false v) ht
  | true =>
   simp only [if_true]
   obtain ⟨hf1,hf2⟩:=hf rfl w ht.sat
   refine aCA hf2 ⟨hf1,by simp,by simp [keys],by simp [keys]⟩ (hr rfl a w ha) ?_
   rintro u G' μ' w' hk ⟨rfl,rfl⟩
   exact hn _ _ _ _ _ h (ha.laid (hds i o ho) true _) (ht.forget hk)
 | @call _ _ _ _ _ o f args post ho hk hg hr hf h =>
  refine ⟨o,ho,?_⟩
  rw [hg.wanted ha]
  simp only [if_true]
  refine aCA hf ⟨ht.sat.sub,by simp,by simp [keys],by simp [keys]⟩ (hr a w ha) ?_
  intro u G' μ' w' hk hp
  exact hn _ _ _ _ _ (h u G' μ' (hk.mono (by simp [keys])) hp) (ha.laid (hds i o ho) true _) (Tr.step (μ:=[]) (ν:=μ) (by simpa using ht) hk)
 | @callg _ _ _ _ _ o f args post hd ho hg hr hf h =>
  refine ⟨o,ho,?_⟩
  rw [hg.wanted ha]
  simp only [if_true]
  refine aCA hf ⟨ht.sat.sub,by simp,by simp [keys],by simp [keys]⟩ (hr a w ha) ?_
  intro u G' μ' w' hk hp
  exact hn _ _ _ _ _ (h u G' μ' (hk.mono (by simp [keys])) hp) (ha.laid (hds i o ho) true _) (Tr.step (μ:=[]) (ν:=μ) (by simpa using ht) hk)
 | @fresh _ _ _ _ _ o μ₁ μ₂ post ho hk hg hp hr hw h =>
  refine ⟨o,ho,?_⟩
  rw [plain hg]
  simp only [if_true]
  have ht':=ht.perm hp
  have hnone:∀ b∈keys μ₁,G b=none:=fun b hb=>ht'.sat.apart b (by rw [iV]; exact List.mem_append_left _ hb)
  obtain ⟨v,w',G',μa,μb,hrun,hk,hpost⟩:=hr a w ha ht'.sat
  have:=hn _ _ _ _ _ (h v G' μa μb (hk.mono hnone) hpost) (ha.laid (hds i o ho) true v) ((ht'.step hk).perm (aHl μa μb μ₂))
  unfold Oper.wp
  rw [hrun]; exact this
 | @act _ _ _ _ _ o μ₁ μ₂ post ho hk hg hp hr h =>
  refine ⟨o,ho,?_⟩
  rw [hg.wanted ha]
  simp only [if_true]
  have ht':=ht.perm hp
  have hnone:∀ b∈keys μ₁,G b=none:=fun b hb=>ht'.sat.apart b (by rw [iV]; exact List.mem_append_left _ hb)
  rcases hr a w ha ht'.sat with ⟨v,w',G',μ',hrun,hk,hpost⟩ | ⟨f,args,hrun,hf⟩
  ·have:=hn _ _ _ _ _ (h v G' μ' (hk.mono hnone) hpost) (ha.laid (hds i o ho) true v) (ht'.step hk)
   unfold Oper.wp
   rcases hrun with hrun | ⟨hrun,rfl⟩
   ·rw [hrun]; exact this
   rw [hrun]; exact this
  refine aCA hf ht'.sat.left hrun ?_
  intro v G' μ' w' hk hpost
  exact hn _ _ _ _ _ (h v G' μ' (hk.mono hnone) hpost) (ha.laid (hds i o ho) true v) (ht'.step hk)
theorem Wo.run {dr:Bool} {mc:Md} {P:Program} {n:Nat} {l:List Oper} {K:aO→PM→aH→Prop} {Q:Exit→Act→World→Prop} {G0:PM} {K0:List Nat} {w0:World}
  (hds:∀ j o,nth l j=some o→kI n o.dst) (hK:∀ ρ G μ,K ρ G μ→∀ a w,Ag n ρ a→Tr G0 K0 w0 G μ w→Q .normal a w) :
  ∀ (σ:List Nat) (ρ:aO) (G:PM) (μ:aH) (a:Act) (w:World),Wo dr mc P n l K σ ρ G μ→Ag n ρ a→Tr G0 K0 w0 G μ w→wpOps P l.toArray Q σ a w
 | [],ρ,G,μ,a,w,H,ha,ht=>by cases H with | nil h=>exact hK _ _ _ h a w ha ht
 | i :: σ,ρ,G,μ,a,w,H,ha,ht=>by
  obtain ⟨o,ho,h⟩:=H.head ha ht (next:=wpOps P l.toArray Q σ) (Q:=Q) hds (fun ρ' G' μ' a' w' H' ha' ht'=>Wo.run hds hK σ ρ' G' μ' a' w' H' ha' ht')
  simp only [wpOps,oL,ho]
  split
  ·rename_i hw; rw [if_pos hw] at h; exact .inl h
  ·rename_i hw; rw [if_neg hw] at h; exact h
section
variable {P:Program} {n:Nat} {l:List Oper} {K:aO→PM→aH→Prop} {dr:Bool} {mc:Md}
def pD (K:aO→PM→aH→Prop):Prop :=
 (∀ ρ ρ' G μ,(∀ i,dP ρ i=dP ρ' i)→K ρ G μ→K ρ' G μ)∧(∀ ρ G μ μ',μ.Perm μ'→K ρ G μ→K ρ G μ')
theorem Gd.congr {ρ ρ':aO} {g:Option (Nat×Bool)} {c:Bool} (h:Gd l ρ g c) (e:∀ j t w,g=some (j,w)→(nth l j).bind (·.dst)=some t→dP ρ t=dP ρ' t):Gd l ρ' g c:=by
 cases h with
 | no=>exact .no
 | t h hl=>exact .t h ((e _ _ _ rfl h)▸hl)
 | f h hl=>exact .f h ((e _ _ _ rfl h)▸hl)
 | tc h hl=>exact .tc h ((e _ _ _ rfl h)▸hl)
 | fc h hl=>exact .fc h ((e _ _ _ rfl h)▸hl)
theorem Ag.congr {ρ ρ':aO} {a:Act} (h:Ag n ρ' a) (e:∀ i,dP ρ i=dP ρ' i):Ag n ρ a:=h.sub fun i _ hl=>(e i)▸hl
theorem rR {ρ ρ':aO} (e:∀ i,dP ρ i=dP ρ' i) (d:Option Nat) (c:Bool) (v:Value):∀ i,dP (dM ρ d c v) i=dP (dM ρ' d c v) i:=by
 intro i
 cases d with
 | none=>exact e i
 | some d=>simp only [dM,tA,e i]
theorem Wo.congr (hK:pD K) {σ:List Nat} {ρ:aO} {G:PM} {μ:aH} (H:Wo dr mc P n l K σ ρ G μ):∀ {ρ':aO},(∀ i,dP ρ i=dP ρ' i)→Wo dr mc P n l K σ ρ' G μ:=by
 induction H with
 | nil h=>exact fun e=>.nil (hK.1 _ _ _ _ e h)
 | pure ho hk hg hr _ ih=>exact fun e=>.pure ho hk (hg.congr fun _ t _ _ _=>e t) (fun hc a w ha=>hr hc a w (ha.congr e)) (ih (rR e _ _ _))
 | read ho hk hg hr _ ih=>exact fun e=>.read ho hk (hg.congr fun _ t _ _ _=>e t) (fun hc a w ha=>hr hc a w (ha.congr e)) (ih (rR e _ _ _))
 | make ho hk hg hr _ ih=>exact fun e=>.make ho hk hg hr (fun b=>ih b (rR e _ _ _))
 | box ho hk hg hr _ ih=>exact fun e=>.box ho hk hg (fun a w ha=>hr a w (ha.congr e)) (fun b=>ih b (rR e _ _ _))
 | callv ho hk hg hr hf _ ih=>exact fun e=>.callv ho hk (hg.congr fun _ t _ _ _=>e t) (fun hc a w ha=>hr hc a w (ha.congr e)) hf (ih (rR e _ _ _))
 | call ho hk hg hr hf _ ih=>exact fun e=>.call ho hk (hg.congr fun _ t _ _ _=>e t) (fun a w ha=>hr a w (ha.congr e)) hf (fun v G' μ' hle hp=>ih v G' μ' hle hp (rR e _ _ _))
 | callg hd ho hg hr hf _ ih=>exact fun e=>.callg hd ho (hg.congr fun _ t _ _ _=>e t) (fun a w ha=>hr a w (ha.congr e)) hf (fun v G' μ' hle hp=>ih v G' μ' hle hp (rR e _ _ _))
 | fresh ho hk hg hp hr hw _ ih=>exact fun e=>.fresh ho hk hg hp (fun a w ha=>hr a w (ha.congr e)) hw (fun v G' μa μb hle hq=>ih v G' μa μb hle hq (rR e _ _ _))
 | act ho hk hg hp hr _ ih=>exact fun e=>.act ho hk (hg.congr fun _ t _ _ _=>e t) hp (fun a w ha=>hr a w (ha.congr e)) (fun v G' μ' hle hq=>ih v G' μ' hle hq (rR e _ _ _))
theorem Wo.perm (hK:pD K) {σ:List Nat} {ρ:aO} {G:PM} {μ:aH} (H:Wo dr mc P n l K σ ρ G μ):∀ {μ':aH},μ.Perm μ'→Wo dr mc P n l K σ ρ G μ':=by
 induction H with
 | nil h=>exact fun p=>.nil (hK.2 _ _ _ _ p h)
 | pure ho hk hg hr _ ih=>exact fun p=>.pure ho hk hg hr (ih p)
 | read ho hk hg hr _ ih=>exact fun p=>.read ho hk hg (fun hc a w ha hs=>hr hc a w ha (hs.perm p.symm)) (ih p)
 | make ho hk hg hr _ ih=>exact fun p=>.make ho hk hg hr (fun b=>ih b (p.cons _))
 | box ho hk hg hr _ ih=>exact fun p=>.box ho hk hg hr (fun b=>ih b (p.cons _))
 | callv ho hk hg hr hf _ ih=>exact fun p=>.callv ho hk hg hr (fun hc w hs=>hf hc w (hs.perm p.symm)) (ih p)
 | call ho hk hg hr hf _ ih=>exact fun p=>.call ho hk hg hr hf (fun v G' μ' hle hp=>ih v G' μ' hle hp (p.append_left _))
 | callg hd ho hg hr hf _ ih=>exact fun p=>.callg hd ho hg hr hf (fun v G' μ' hle hp=>ih v G' μ' hle hp (p.append_left _))
 | fresh ho hk hg hp hr hw h _=>exact fun p=>.fresh ho hk hg (p.symm.trans hp) hr hw h
 | act ho hk hg hp hr h _=>exact fun p=>.act ho hk hg (p.symm.trans hp) hr h
theorem aJx {ρ:aO} {a:Act} {d:Option Nat} {c:Bool} {v:Value} (hd:kI n d) (h:Ag n (dM ρ d c v) a) :
  ∃ a0,Ag n ρ a0∧∀ o:Oper,(∀ cs b,o.op≠.select cs b)→(∀ e,d=some e→e∉o.looksAt l.toArray)→execOp a0.eval o=execOp a.eval o:=by
 cases d with
 | none=>exact ⟨a,h,fun _ _ _=>rfl⟩
 | some d =>
  cases hl:dP ρ d with
  | none =>
   refine ⟨a,h.sub fun i cv hi=>?_,fun _ _ _=>rfl⟩
   simp only [dM,tA]
   rw [if_neg (fun e=>by subst e; rw [hl] at hi; cases hi)]
   exact hi
  | some cv =>
   obtain ⟨c0,v0⟩:=cv
   refine ⟨a.put (some d) (cond c0 v0 undef),⟨by simp [Act.put,h.size],by simp [Act.put,h.defers],fun i c' v' hi=>?_⟩,fun o hs ho=>execOp_put o hs a (some d) _ ho⟩
   simp only [Act.put]
   by_cases e:d=i
   ·subst e
    rw [hl] at hi
    simp only [Option.some.injEq,Prod.mk.injEq] at hi
    obtain ⟨rfl,rfl⟩:=hi
    simp [h.size,show d<n from hd]
   rw [Array.getElem?_setIfInBounds_ne e]
   refine h.get i c' v' ?_
   simp only [dM,tA,if_neg e]
   exact hi
theorem uU {ρ:aO} {d:Option Nat} {c:Bool} {v:Value} (hd:kI n d) {o:Oper} (hs:∀ cs b,o.op≠.select cs b) (ho:∀ e,d=some e→e∉o.looksAt l.toArray)
  {Φ:Sem Next→Prop} (h:∀ a,Ag n ρ a→Φ (execOp a.eval o)):∀ a,Ag n (dM ρ d c v) a→Φ (execOp a.eval o):=by
 intro a ha
 obtain ⟨a0,h0,he⟩:=aJx (l:=l) hd ha
 rw [← he o hs ho]
 exact h a0 h0
theorem uI {ρ:aO} {d:Option Nat} {c:Bool} {v:Value} (hd:kI n d) {o:Oper} (hs:∀ cs b,o.op≠.select cs b) (ho:∀ e,d=some e→e∉o.looksAt l.toArray)
  {Φ:Sem Next→Prop} (h:∀ a,Ag n (dM ρ d c v) a→Φ (execOp a.eval o)):∀ a,Ag n ρ a→Φ (execOp a.eval o):=by
 intro a ha
 have:=h _ (ha.laid hd c v)
 rwa [execOp_put o hs a d _ ho] at this
theorem aG2 {ρ:aO} {d:Option Nat} {c:Bool} {v:Value} {t:Nat} (h:d≠some t):dP (dM ρ d c v) t=dP ρ t:=by
 cases d with
 | none=>rfl
 | some d=>simp only [dM,tA]; rw [if_neg (fun e=>h (by rw [e]))]
theorem aGY {o:Oper} {j t:Nat} {w:Bool} (hg:o.guard=some (j,w)) (ht:(nth l j).bind (·.dst)=some t):t∈o.looksAt l.toArray:=by
 unfold Oper.looksAt
 rw [hg]
 refine List.mem_append_right _ ?_
 simp only [oL,ht]
 simp
theorem zR {ρ:aO} {d:Option Nat} {c c':Bool} {v:Value} {o:Oper} (ho:∀ e,d=some e→e∉o.looksAt l.toArray) (h:Gd l ρ o.guard c'):Gd l (dM ρ d c v) o.guard c' :=
 h.congr fun _ t _ hg ht=>(aG2 fun e=>ho t e (aGY hg ht)).symm
theorem zQ {ρ:aO} {d:Option Nat} {c c':Bool} {v:Value} {o:Oper} (ho:∀ e,d=some e→e∉o.looksAt l.toArray) (h:Gd l (dM ρ d c v) o.guard c'):Gd l ρ o.guard c' :=
 h.congr fun _ t _ hg ht=>aG2 fun e=>ho t e (aGY hg ht)
theorem mW {ρ:aO} {d e:Option Nat} {c c':Bool} {v v':Value} (h:∀ x,d=some x→e≠some x) :
  ∀ i,dP (dM (dM ρ d c v) e c' v') i=dP (dM (dM ρ e c' v') d c v) i:=by
 intro i
 cases d with
 | none=>rfl
 | some d =>
  cases e with
  | none=>rfl
  | some e =>
   have hne:e≠d:=fun he=>h d rfl (by rw [he])
   simp only [dM,tA]
   by_cases h1:e=i
   ·subst h1; rw [if_pos rfl,if_neg (fun x=>hne x.symm),if_pos rfl]
   ·rw [if_neg h1]
    by_cases h2:d=i
    ·rw [if_pos h2,if_pos h2]
    ·rw [if_neg h2,if_neg h2,if_neg h1]
structure Apart (l:List Oper) (oi oj:Oper):Prop where
 si:∀ cs b,oi.op≠.select cs b
 sj:∀ cs b,oj.op≠.select cs b
 ij:∀ d,oi.dst=some d→d∉oj.looksAt l.toArray
 dd:∀ d,oi.dst=some d→oj.dst≠some d
 ji:∀ d,oj.dst=some d→d∉oi.looksAt l.toArray
theorem aA9 {oi oj:Oper} {i j:Nat} (hs:Region.noSelect l.toArray=true) (hi:nth l i=some oi) (hj:nth l j=some oj) (h:oi.apart l.toArray oj=true):Apart l oi oj:=by
 obtain ⟨h1,h2,h3⟩:=Oper.apart_spec h
 exact ⟨fun cs b=>Region.noSelect_spec hs i oi cs b (by rw [oL]; exact hi),fun cs b=>Region.noSelect_spec hs j oj cs b (by rw [oL]; exact hj),h1,h2,h3⟩
theorem aI8 {i j:Nat} {σ:List Nat} {ρ:aO} {G:PM} {μ:aH} {oi oj:Oper} {c:Bool} {v:Value} (hK:pD K) (hds:∀ j o,nth l j=some o→kI n o.dst) (hoj:nth l j=some oj) (hap:Apart l oi oj)
  (hd:kI n oi.dst)
  (again:∀ {ρ':aO} {G':PM} {μ':aH} {d:Option Nat} {c':Bool} {v':Value},d=oj.dst→kI n d→PM.le G G'→(μ'=μ∨cA mc oj.op≠.act∧(∀ w,Sat G' μ' w→Sat G' μ w)∨cA mc oi.op=.pure) →
   ρ'=dM ρ d c' v'→Wo dr mc P n l K σ (dM ρ' oi.dst c v) G' μ'→Wo dr mc P n l K (i :: σ) ρ' G' μ')
  (hdr:dr=true) (hkj:cA mc oj.op≠.act∨cA mc oi.op=.pure)
  (H:Wo dr mc P n l K (j :: σ) (dM ρ oi.dst c v) G μ):Wo dr mc P n l K (j :: i :: σ) ρ G μ:=by
 have hnd:∀ {k:Kind},cA mc oj.op=k∨dr=false→cA mc oj.op=k:=fun h=>h.resolve_right (by simp [hdr])
 cases H with
 | @pure _ _ _ _ _ o cj vj ho hk hg hr h =>
  obtain rfl:oj=o:=Option.some.inj (hoj.symm.trans ho)
  refine .pure hoj hk (zQ hap.ij hg) (fun hc a w ha=>uI hd hap.sj hap.ij (Φ:=fun s=>s.run P w=.ok (.value vj) w) (fun a ha=>hr hc a w ha) a ha) ?_
  exact again rfl (hds j _ hoj) (PM.le.refl G) (.inl rfl) rfl (h.congr hK (mW hap.dd))
 | @read _ _ _ _ _ o cj vj ho hk hg hr h =>
  obtain rfl:oj=o:=Option.some.inj (hoj.symm.trans ho)
  refine .read hoj hk (zQ hap.ij hg) (fun hc a w ha hs=>uI hd hap.sj hap.ij (Φ:=fun s=>s.run P w=.ok (.value vj) w) (fun a ha=>hr hc a w ha hs) a ha) ?_
  exact again rfl (hds j _ hoj) (PM.le.refl G) (.inl rfl) rfl (h.congr hK (mW hap.dd))
 | @make _ _ _ _ _ o ob mkv ho hk hg hr h =>
  obtain rfl:oj=o:=Option.some.inj (hoj.symm.trans ho)
  refine .make hoj hk hg hr fun b=>?_
  exact again rfl (hds j _ hoj) (PM.le.refl G) (.inr (.inl ⟨by rw [hnd hk]; simp,fun w hs=>Sat.left (ν:=[.blk b ob]) (hs.perm (List.perm_append_comm (l₁:=[Res.blk b ob])))⟩)) rfl ((h b).congr hK (mW hap.dd))
 | @box _ _ _ _ _ o ob mkv ho hk hg hr h =>
  obtain rfl:oj=o:=Option.some.inj (hoj.symm.trans ho)
  refine .box hoj hk hg (fun a w ha=>uI hd hap.sj hap.ij (Φ:=fun s=>s.run P w=.ok (.value (mkv w.heap.size)) (w.alloc ob)) (fun a ha=>hr a w ha) a ha) fun b=>?_
  exact again rfl (hds j _ hoj) (PM.le.refl G) (.inr (.inl ⟨by rw [hnd hk]; simp,fun w hs=>Sat.left (ν:=[.blk b ob]) (hs.perm (List.perm_append_comm (l₁:=[Res.blk b ob])))⟩)) rfl ((h b).congr hK (mW hap.dd))
 | @callv _ _ _ _ _ o cj f args vj Gp ho hk hg hr hf h =>
  obtain rfl:oj=o:=Option.some.inj (hoj.symm.trans ho)
  refine .callv hoj hk (zQ hap.ij hg) (fun hc a w ha=>uI hd hap.sj hap.ij (Φ:=fun s=>s.run P w=.ok (.enter f args) w) (fun a ha=>hr hc a w ha) a ha) hf ?_
  exact again rfl (hds j _ hoj) (PM.le.refl G) (.inl rfl) rfl (h.congr hK (mW hap.dd))
 | @call _ _ _ _ _ o f args post ho hk hg hr hf h =>
  obtain rfl:oj=o:=Option.some.inj (hoj.symm.trans ho)
  refine .call hoj hk (zQ hap.ij hg) (fun a w ha=>uI hd hap.sj hap.ij (Φ:=fun s=>s.run P w=.ok (.enter f args) w) (fun a ha=>hr a w ha) a ha) hf fun v' G' μ' hle hp=>?_
  refine again rfl (hds j _ hoj) hle ?_ rfl ((h v' G' μ' hle hp).congr hK (mW hap.dd))
  rcases hkj with hk' | hk'
  ·exact .inr (.inl ⟨hk',fun w hs=>Sat.left (hs.perm List.perm_append_comm)⟩)
  exact .inr (.inr hk')
 | callg hdf _ _ _ _ _=>exact absurd hdf (by simp [hdr])
 | @fresh _ _ _ _ _ o μ₁ μ₂ post ho hk hg hp hr hw h =>
  obtain rfl:oj=o:=Option.some.inj (hoj.symm.trans ho)
  refine .fresh hoj hk hg hp (fun a w ha hs=>uI hd hap.sj hap.ij (Φ:=fun s=>∃ v w' G' μa μb,s.run P w=.ok (.value v) w'∧Tr G (keys μ₁) w G' (μa++μb) w'∧post G' μa μb v) (fun a ha=>hr a w ha hs) a ha) hw fun v' G' μa μb hle hq=>?_
  refine again rfl (hds j _ hoj) hle ?_ rfl ((h v' G' μa μb hle hq).congr hK (mW hap.dd))
  exact .inr (.inl ⟨by rw [hnd hk]; simp,fun w hs=>((hw v' G' μa μb hq).of (hs.perm (aHl μa μb μ₂).symm)).perm hp.symm⟩)
 | @act _ _ _ _ _ o μ₁ μ₂ post ho hk hg hp hr h =>
  obtain rfl:oj=o:=Option.some.inj (hoj.symm.trans ho)
  have hpure:cA mc oi.op=.pure:=hkj.resolve_left (by rw [hnd hk]; simp)
  refine .act hoj hk (zQ hap.ij hg) hp (fun a w ha hs=>uI hd hap.sj hap.ij (Φ:=fun s=>(∃ v w' G' μ',(s.run P w=.ok (.value v) w'∨s.run P w=.ok .skip w'∧v=undef)∧Tr G (keys μ₁) w G' μ' w'∧post G' μ' v) ∨
    (∃ f args,s.run P w=.ok (.enter f args) w∧Ct P f args G μ₁ post)) (fun a ha=>hr a w ha hs) a ha) fun v' G' μ' hle hq=>?_
  exact again rfl (hds j _ hoj) hle (.inr (.inr hpure)) rfl ((h v' G' μ' hle hq).congr hK (mW hap.dd))
theorem Sat.mono {G G':PM} {μ:aH} {w:World} (h:Sat G' μ w) (hle:PM.le G G'):Sat G μ w:=by
 refine ⟨fun b o hb=>h.sub b o (hle b o hb),h.own,fun b hb=>?_,h.nodup⟩
 cases hG:G b with
 | none=>rfl
 | some o=>have:=hle b o hG; rw [h.apart b hb] at this; cases this
theorem aLU {w:World} {x y:Obj} (h:w.alloc x=w.alloc y):x=y:=by
 have h1:=heap_alloc_new w x
 rw [h,heap_alloc_new w y] at h1
 exact (Option.some.inj h1).symm
def xP (m:Nat):World:={ (default:World) with heap:=Array.replicate m default }
theorem aQy (m:Nat):(xP m).heap.size=m:=by simp [xP]
def vZ (P:Program) (o:Oper):Prop:=kI 0 none∧o.guard=none∧∃ (ob:Obj) (mkv:Nat→Value),∀ e w,(execOp e o).run P w=.ok (.value (mkv w.heap.size)) (w.alloc ob)
theorem wP {j:Nat} {σ:List Nat} {oj:Oper} {ρ:aO} {G:PM} {μ:aH} (hdr:dr=true) (hoj:nth l j=some oj) (hm:cA mc oj.op=.make)
  {ob:Obj} {mkv:Nat→Value} (hr:∀ e w,(execOp e oj).run P w=.ok (.value (mkv w.heap.size)) (w.alloc ob)) (H:Wo dr mc P n l K (j :: σ) ρ G μ) :
  ∀ b,Wo dr mc P n l K σ (dM ρ oj.dst true (mkv b)) G (.blk b ob :: μ):=by
 have hnd:∀ {q k:Kind},q=k∨dr=false→q=k:=fun h=>h.resolve_right (by simp [hdr])
 cases H with
 | @make _ _ _ _ _ o ob2 mkv2 ho hk hg hr2 h =>
  obtain rfl:oj=o:=Option.some.inj (hoj.symm.trans ho)
  intro b
  have e1:ob2=ob:=by
   have:=(hr2 (fun _=>undef) (xP 0)).symm.trans (hr (fun _=>undef) (xP 0))
   simp only [Result.ok.injEq] at this
   exact aLU this.2
  have e2:mkv2 b=mkv b:=by
   have:=(hr2 (fun _=>undef) (xP b)).symm.trans (hr (fun _=>undef) (xP b))
   simp only [Result.ok.injEq,Next.value.injEq,aQy] at this
   exact this.1
  have:=h b
  rw [e1,e2] at this
  exact this
 | @pure _ _ _ _ _ o cj vj ho hk _ _ _=>obtain rfl:oj=o:=Option.some.inj (hoj.symm.trans ho); have:=hnd hk; rw [hm] at this; cases this
 | @read _ _ _ _ _ o cj vj ho hk _ _ _=>obtain rfl:oj=o:=Option.some.inj (hoj.symm.trans ho); have:=hnd hk; rw [hm] at this; cases this
 | @box _ _ _ _ _ o _ _ ho hk _ _ _=>obtain rfl:oj=o:=Option.some.inj (hoj.symm.trans ho); have:=hnd hk; rw [hm] at this; cases this
 | @callv _ _ _ _ _ o cj f args vj Gp ho hk _ _ _ _=>obtain rfl:oj=o:=Option.some.inj (hoj.symm.trans ho); rcases hk with hk | hk | hk<;>simp_all
 | @call _ _ _ _ _ o f args post ho hk _ _ _ _=>obtain rfl:oj=o:=Option.some.inj (hoj.symm.trans ho); rcases hk with hk | hk | hk<;>simp_all
 | callg hdf _ _ _ _ _=>exact absurd hdf (by simp [hdr])
 | @fresh _ _ _ _ _ o μ₁ μ₂ post ho hk _ _ _ _ _=>obtain rfl:oj=o:=Option.some.inj (hoj.symm.trans ho); have:=hnd hk; rw [hm] at this; cases this
 | @act _ _ _ _ _ o μ₁ μ₂ post ho hk _ _ _ _=>obtain rfl:oj=o:=Option.some.inj (hoj.symm.trans ho); have:=hnd hk; rw [hm] at this; cases this
theorem Wo.swap {i j:Nat} {σ:List Nat} {ρ:aO} {G:PM} {μ:aH} {oi oj:Oper} (hK:pD K) (hdr:dr=true) (hoi:nth l i=some oi) (hoj:nth l j=some oj) (hap:Apart l oi oj)
  (hds:∀ j o,nth l j=some o→kI n o.dst) (hmk:cA mc oj.op=.make→vZ P oj)
  (hk:cA mc oi.op=.pure∨(cA mc oi.op=.read∧cA mc oj.op≠.act)∨cA mc oj.op=.make)
  (H:Wo dr mc P n l K (i :: j :: σ) ρ G μ):Wo dr mc P n l K (j :: i :: σ) ρ G μ:=by
 have hnd:∀ {q k:Kind},q=k∨dr=false→q=k:=fun h=>h.resolve_right (by simp [hdr])
 have hd:=hds i oi hoi
 have hdj0:=hds j oj hoj
 cases H with
 | @pure _ _ _ _ _ o c v ho hk' hg hr h =>
  obtain rfl:oi=o:=Option.some.inj (hoi.symm.trans ho)
  refine aI8 hK hds hoj hap hd ?_ hdr (.inr (hnd hk')) h
  intro ρ' G' μ' d c' v' hdd hdo hle hμ hρ H'
  subst hdd; subst hρ
  exact .pure hoi hk' (zR hap.ji hg) (fun hc a w ha=>uU hdo hap.si hap.ji (Φ:=fun s=>s.run P w=.ok (.value v) w) (fun a ha=>hr hc a w ha) a ha) H'
 | @read _ _ _ _ _ o c v ho hk' hg hr h =>
  obtain rfl:oi=o:=Option.some.inj (hoi.symm.trans ho)
  have hri:=hnd hk'
  have hja:cA mc oj.op≠.act:=by
   rcases hk with hk | hk | hk
   ·rw [hri] at hk; cases hk
   ·exact hk.2
   rw [hk]; simp
  refine aI8 hK hds hoj hap hd ?_ hdr (.inl hja) h
  intro ρ' G' μ' d c' v' hdd hdo hle hμ hρ H'
  subst hdd; subst hρ
  refine .read hoi hk' (zR hap.ji hg) (fun hc a w ha hs=>uU hdo hap.si hap.ji (Φ:=fun s=>s.run P w=.ok (.value v) w) (fun a ha=>hr hc a w ha ?_) a ha) H'
  rcases hμ with hμ | ⟨_,hμ⟩ | hμ
  ·subst hμ; exact hs.mono hle
  ·exact (hμ w hs).mono hle
  rw [hri] at hμ; cases hμ
 | @make _ _ _ _ _ o ob mkv ho hk' hg hr h =>
  obtain rfl:oi=o:=Option.some.inj (hoi.symm.trans ho)
  have hmi:=hnd hk'
  have hmj:cA mc oj.op=.make:=by rcases hk with hk | hk | hk<;>simp_all
  obtain ⟨_,hgj,ob',mkv',hrj⟩:=hmk hmj
  refine .make hoj (.inl hmj) hgj hrj fun b'=>?_
  refine .make hoi hk' hg hr fun b=>?_
  exact (((wP hdr hoj hmj hrj (h b)) b').congr hK (mW hap.dd)).perm hK (.swap ..)
 | @box _ _ _ _ _ o ob mkv ho hk' hg hr h =>
  obtain rfl:oi=o:=Option.some.inj (hoi.symm.trans ho)
  have hmi:=hnd hk'
  have hmj:cA mc oj.op=.make:=by rcases hk with hk | hk | hk<;>simp_all
  obtain ⟨_,hgj,ob',mkv',hrj⟩:=hmk hmj
  refine .make hoj (.inl hmj) hgj hrj fun b'=>?_
  refine .box hoi hk' hg (fun a w ha=>uU hdj0 hap.si hap.ji (Φ:=fun s=>s.run P w=.ok (.value (mkv w.heap.size)) (w.alloc ob)) (fun a ha=>hr a w ha) a ha) fun b=>?_
  exact (((wP hdr hoj hmj hrj (h b)) b').congr hK (mW hap.dd)).perm hK (.swap ..)
 | @callv _ _ _ _ _ o c f args v Gp ho hk' hg hr hf h =>
  obtain rfl:oi=o:=Option.some.inj (hoi.symm.trans ho)
  have hmj:cA mc oj.op=.make:=by rcases hk' with hk' | hk' | hk'<;>rcases hk with hk | hk | hk<;>simp_all
  obtain ⟨_,hgj,ob',mkv',hrj⟩:=hmk hmj
  refine .make hoj (.inl hmj) hgj hrj fun b'=>?_
  exact .callv hoi hk' (zR hap.ji hg) (fun hc a w ha=>uU hdj0 hap.si hap.ji (Φ:=fun s=>s.run P w=.ok (.enter f args) w) (fun a ha=>hr hc a w ha) a ha) (fun hc w hs=>hf hc w (Sat.left (ν:=[.blk b' ob']) (hs.perm (List.perm_append_comm (l₁:=[Res.blk b' ob'])))))
   (((wP hdr hoj hmj hrj h) b').congr hK (mW hap.dd))
 | @call _ _ _ _ _ o f args post ho hk' hg hr hf h =>
  obtain rfl:oi=o:=Option.some.inj (hoi.symm.trans ho)
  have hmj:cA mc oj.op=.make:=by rcases hk' with hk' | hk' | hk'<;>rcases hk with hk | hk | hk<;>simp_all
  obtain ⟨_,hgj,ob',mkv',hrj⟩:=hmk hmj
  refine .make hoj (.inl hmj) hgj hrj fun b'=>?_
  refine .call hoi hk' (zR hap.ji hg) (fun a w ha=>uU hdj0 hap.si hap.ji (Φ:=fun s=>s.run P w=.ok (.enter f args) w) (fun a ha=>hr a w ha) a ha) hf fun v G' μ' hle hp=>?_
  exact (((wP hdr hoj hmj hrj (h v G' μ' hle hp)) b').congr hK (mW hap.dd)).perm hK List.perm_middle.symm
 | callg hdf _ _ _ _ _=>exact absurd hdf (by simp [hdr])
 | @fresh _ _ _ _ _ o μ₁ μ₂ post ho hk' hg hp hr hw h =>
  obtain rfl:oi=o:=Option.some.inj (hoi.symm.trans ho)
  have hai:=hnd hk'
  have hmj:cA mc oj.op=.make:=by rcases hk with hk | hk | hk<;>simp_all
  obtain ⟨_,hgj,ob',mkv',hrj⟩:=hmk hmj
  refine .make hoj (.inl hmj) hgj hrj fun b'=>?_
  refine .fresh (post:=post) (μ₁:=μ₁) (μ₂:=.blk b' ob' :: μ₂) hoi hk' hg ((hp.cons _).trans List.perm_middle.symm) (fun a w ha hs=>?_) hw fun v G' μa μb hle hq=>?_
  ·refine uU hdj0 hap.si hap.ji (Φ:=fun s=>∃ v w' G' μa μb,s.run P w=.ok (.value v) w'∧Tr G (keys μ₁) w G' (μa++μb) w'∧post G' μa μb v) (fun a ha=>hr a w ha ?_) a ha
   exact Sat.left (ν:=[.blk b' ob']) (hs.perm (List.perm_middle.trans (List.perm_append_comm (l₁:=[Res.blk b' ob']))))
  exact (((wP hdr hoj hmj hrj (h v G' μa μb hle hq)) b').congr hK (mW hap.dd)).perm hK List.perm_middle.symm
 | @act _ _ _ _ _ o μ₁ μ₂ post ho hk' hg hp hr h =>
  obtain rfl:oi=o:=Option.some.inj (hoi.symm.trans ho)
  have hai:=hnd hk'
  have hmj:cA mc oj.op=.make:=by rcases hk with hk | hk | hk<;>simp_all
  obtain ⟨_,hgj,ob',mkv',hrj⟩:=hmk hmj
  refine .make hoj (.inl hmj) hgj hrj fun b'=>?_
  refine .act (post:=post) (μ₁:=μ₁) (μ₂:=.blk b' ob' :: μ₂) hoi hk' (zR hap.ji hg) ((hp.cons _).trans List.perm_middle.symm) (fun a w ha hs=>?_) fun v G' μ' hle hq=>?_
  ·refine uU hdj0 hap.si hap.ji (Φ:=fun s=>(∃ v w' G' μ',(s.run P w=.ok (.value v) w'∨s.run P w=.ok .skip w'∧v=undef)∧Tr G (keys μ₁) w G' μ' w'∧post G' μ' v) ∨
    (∃ f args,s.run P w=.ok (.enter f args) w∧Ct P f args G μ₁ post)) (fun a ha=>hr a w ha ?_) a ha
   exact Sat.left (ν:=[.blk b' ob']) (hs.perm (List.perm_middle.trans (List.perm_append_comm (l₁:=[Res.blk b' ob']))))
  exact (((wP hdr hoj hmj hrj (h v G' μ' hle hq)) b').congr hK (mW hap.dd)).perm hK List.perm_middle.symm
theorem Wo.map {i:Nat} {σ σ':List Nat} {ρ:aO} {G:PM} {μ:aH} (hm:∀ ρ G μ,Wo dr mc P n l K σ ρ G μ→Wo dr mc P n l K σ' ρ G μ) (H:Wo dr mc P n l K (i :: σ) ρ G μ) :
  Wo dr mc P n l K (i :: σ') ρ G μ:=by
 cases H with
 | pure ho hk hg hr h=>exact .pure ho hk hg hr (hm _ _ _ h)
 | read ho hk hg hr h=>exact .read ho hk hg hr (hm _ _ _ h)
 | make ho hk hg hr h=>exact .make ho hk hg hr fun b=>hm _ _ _ (h b)
 | box ho hk hg hr h=>exact .box ho hk hg hr fun b=>hm _ _ _ (h b)
 | callv ho hk hg hr hf h=>exact .callv ho hk hg hr hf (hm _ _ _ h)
 | call ho hk hg hr hf h=>exact .call ho hk hg hr hf fun v G' μ' a b=>hm _ _ _ (h v G' μ' a b)
 | callg hd ho hg hr hf h=>exact .callg hd ho hg hr hf fun v G' μ' a b=>hm _ _ _ (h v G' μ' a b)
 | fresh ho hk hg hp hr hw h=>exact .fresh ho hk hg hp hr hw fun v G' μa μb a b=>hm _ _ _ (h v G' μa μb a b)
 | act ho hk hg hp hr h=>exact .act ho hk hg hp hr fun v G' μ' a b=>hm _ _ _ (h v G' μ' a b)
theorem aA8 {es:Array Edge} {p:Edge→Bool}:es.any p=true↔∃ e,e∈es∧p e=true:=by
 rw [← Array.any_toList,List.any_eq_true]; simp
def rN (oj:Oper) (i:Nat):Bool:=oj.after.any fun e=>Region.binds .any e&&e.on == i
def dX (l:List Oper) (listed:Array Bool):List Nat:=Region.ready .any l.toArray listed
def sP (l:List Oper):Nat→Nat→Nat→Bool
 | 0,_,_=>false
 | f+1,j,i=>match nth l j with | some oj=>oj.after.any fun e=>Region.binds .any e&&(e.on == i||sP l f e.on i) | none=>false
def aDh (mc:Md) (l:List Oper) (i:Nat) (oi:Oper) (σ:List Nat) (listed:Array Bool):Bool :=
 match cA mc oi.op with
 | .pure=>σ.all fun j=>match nth l j with | some oj=>sP l l.length j i||oi.apart l.toArray oj | none=>false
 | .read=>σ.all fun j=>match nth l j with | some oj=>sP l l.length j i||(oi.apart l.toArray oj&&(cA mc oj.op != .act)) | none=>false
 | _=>(dX l listed).all fun j=>j == i||match nth l j with
   | some oj=>(cA mc oj.op == .make)&&oi.apart l.toArray oj&&(List.range l.length).all fun k=>match nth l k with | some ok => !rN ok j||rN ok i | none=>true
   | none=>false
def oM (mc:Md) (l:List Oper):List Nat→Array Bool→Bool
 | [],listed=>(dX l listed).isEmpty
 | i :: σ,listed=>(dX l listed).contains i&&(match nth l i with | some oi=>aDh mc l i oi σ listed | none=>false)&&oM mc l σ (listed.setIfInBounds i true)
theorem pU {j:Nat} {listed:Array Bool}:j∈dX l listed↔listed.getD j true=false∧∃ o,nth l j=some o∧∀ e∈o.after,Region.binds .any e=true→listed.getD e.on false=true:=by
 unfold dX; rw [mem_ready]; simp only [oL]
theorem aAG {i j:Nat} {listed:Array Bool} (hj:j∈dX l listed) (hne:j≠i):j∈dX l (listed.setIfInBounds i true):=ready_mono hj hne
theorem aHe:∀ {σ:List Nat} {listed:Array Bool} {j:Nat},oM mc l σ listed=true→j∈dX l listed→j∈σ
 | [],listed,j,h,hj=>by simp only [oM,List.isEmpty_iff] at h; rw [h] at hj; cases hj
 | i :: σ,listed,j,h,hj=>by
  simp only [oM,Bool.and_eq_true] at h
  by_cases e:j=i
  ·subst e; exact List.mem_cons_self ..
  ·exact List.mem_cons_of_mem _ (aHe h.2 (aAG hj e))
theorem aPk {i j k:Nat} {listed:Array Bool} {oj:Oper} (hi:listed.getD i true=false) (hne:j≠i)
  (hdep:((List.range l.length).all fun k=>match nth l k with | some ok => !rN ok j||rN ok i | none=>true)=true)
  (hk:k∈dX l (listed.setIfInBounds j true)) (_:nth l j=some oj):k∈dX l listed:=by
 obtain ⟨hun,o,ho,hall⟩:=pU.1 hk
 have hkj:j≠k:=fun e=>by
  subst e
  rcases Nat.lt_or_ge j listed.size with h' | h'
  ·simp [h'] at hun
  simp [h'] at hun
 rw [getD_set_ne true hkj] at hun
 refine pU.2 ⟨hun,o,ho,fun e he hb=>?_⟩
 have h1:=hall e he hb
 by_cases ej:j=e.on
 ·exfalso
  have hlt:k<l.length:=by
   have:=(oL l k).trans ho
   exact (by simpa using (Array.getElem?_eq_some_iff.1 this).1)
  have:=List.all_eq_true.1 hdep k (List.mem_range.2 hlt)
  simp only [ho,Bool.or_eq_true,Bool.not_eq_true'] at this
  rcases this with h2 | h2
  ·have h3:rN o j=true:=aA8.2 ⟨e,he,by simp [hb,ej]⟩
   rw [h3] at h2; cases h2
  obtain ⟨e',he',hb'⟩:=aA8.1 h2
  simp only [Bool.and_eq_true,beq_iff_eq] at hb'
  have h4:=hall e' he' hb'.1
  rw [hb'.2,getD_set_ne false hne] at h4
  rcases Nat.lt_or_ge i listed.size with h' | h'
  ·simp [h'] at hi h4; rw [hi] at h4; cases h4
  simp [Array.getElem?_eq_none h'] at h4
 rw [getD_set_ne false ej] at h1; exact h1
def Closed (l:List Oper) (listed:Array Bool):Prop:=∀ k,listed.getD k false=true→∀ ok,nth l k=some ok→∀ e∈ok.after,Region.binds .any e=true→listed.getD e.on false=true
theorem unl {listed:Array Bool} {i:Nat} (hi:listed.getD i true=false):listed.getD i false=false:=by
 rcases Nat.lt_or_ge i listed.size with h' | h'
 ·simp [h'] at hi ⊢; exact hi
 ·simp [Array.getElem?_eq_none h']
theorem aFr {listed:Array Bool} {i:Nat} (hc:Closed l listed) (hi:listed.getD i true=false):∀ (f k:Nat),listed.getD k false=true→sP l f k i=false
 | 0,_,_=>rfl
 | f+1,k,hk=>by
  unfold sP
  cases ho:nth l k with
  | none=>rfl
  | some ok =>
   simp only
   rw [Bool.eq_false_iff]
   intro h
   obtain ⟨e,he,hb⟩:=aA8.1 h
   simp only [Bool.and_eq_true,Bool.or_eq_true,beq_iff_eq] at hb
   have h1:=hc k hk ok ho e he hb.1
   rcases hb.2 with h2 | h2
   ·rw [h2,unl hi] at h1; cases h1
   ·rw [aFr hc hi f e.on h1] at h2; cases h2
theorem aHS {listed:Array Bool} {i j:Nat} (hc:Closed l listed) (hi:listed.getD i true=false) (hj:j∈dX l listed):∀ f,sP l f j i=false
 | 0=>rfl
 | f+1=>by
  obtain ⟨_,o,ho,hall⟩:=pU.1 hj
  unfold sP
  rw [ho]
  simp only
  rw [Bool.eq_false_iff]
  intro h
  obtain ⟨e,he,hb⟩:=aA8.1 h
  simp only [Bool.and_eq_true,Bool.or_eq_true,beq_iff_eq] at hb
  have h1:=hall e he hb.1
  rcases hb.2 with h2 | h2
  ·rw [h2,unl hi] at h1; cases h1
  ·rw [aFr hc hi f e.on h1] at h2; cases h2
theorem aIr {listed:Array Bool} {j x:Nat} (h:listed.getD x false=true):(listed.setIfInBounds j true).getD x false=true:=by
 by_cases e:j=x
 ·subst e
  rcases Nat.lt_or_ge j listed.size with h' | h'
  ·simp [h']
  ·simp [Array.getElem?_eq_none h'] at h
 ·rw [getD_set_ne false e]; exact h
theorem Closed.set {listed:Array Bool} {j:Nat} (hc:Closed l listed) (hj:j∈dX l listed):Closed l (listed.setIfInBounds j true):=by
 intro k hk ok hok e he hb
 by_cases ej:j=k
 ·subst ej
  obtain ⟨_,o,ho,hall⟩:=pU.1 hj
  obtain rfl:ok=o:=Option.some.inj (hok.symm.trans ho)
  exact aIr (hall e he hb)
 ·rw [getD_set_ne false ej] at hk
  exact aIr (hc k hk ok hok e he hb)
theorem Closed.none (m:Nat):Closed l (Array.replicate m false):=by
 intro k hk
 rcases Nat.lt_or_ge k m with h' | h'
 ·simp [h'] at hk
 ·simp [h'] at hk
theorem front (hK:pD K) (hdr:dr=true) (hs:Region.noSelect l.toArray=true) (hmk:∀ j oj,nth l j=some oj→cA mc oj.op=.make→vZ P oj) (hds:∀ j oj,nth l j=some oj→kI n oj.dst) {j:Nat} {post:List Nat} :
  ∀ (pre:List Nat) (listed:Array Bool),Closed l listed→j∉pre→oM mc l (pre++j :: post) listed=true→j∈dX l listed →
   oM mc l (pre++post) (listed.setIfInBounds j true)=true∧∀ ρ G μ,Wo dr mc P n l K (pre++j :: post) ρ G μ→Wo dr mc P n l K (j :: (pre++post)) ρ G μ
 | [],listed,_,_,hok,_=>by
  simp only [List.nil_append,oM,Bool.and_eq_true] at hok ⊢
  exact ⟨hok.2,fun _ _ _ h=>h⟩
 | i :: pre,listed,hcl,hnp,hok,hj=>by
  have hne:j≠i:=fun e=>hnp (by rw [e]; exact List.mem_cons_self ..)
  simp only [List.cons_append,oM,Bool.and_eq_true] at hok ⊢
  obtain ⟨⟨hri,hh⟩,hrest⟩:=hok
  have hri':i∈dX l listed:=by simpa using hri
  have hj':=aAG hj hne
  obtain ⟨ih1,ih2⟩:=front hK hdr hs hmk hds pre (listed.setIfInBounds i true) (hcl.set hri') (fun h=>hnp (List.mem_cons_of_mem _ h)) hrest hj'
  obtain ⟨_,oj,hoj,_⟩:=pU.1 hj
  obtain ⟨hiun,oi,hoi,_⟩:=pU.1 hri'
  simp only [hoi] at hh ⊢
  have hnoe:=aHS hcl hiun hj l.length
  have hjm:j∈pre++j :: post:=List.mem_append_right _ (List.mem_cons_self ..)
  have sub:∀ x,x∈pre++post→x∈pre++j :: post:=fun x hx=>by
   rcases List.mem_append.1 hx with h | h
   ·exact List.mem_append_left _ h
   exact List.mem_append_right _ (List.mem_cons_of_mem _ h)
  have key:(Apart l oi oj∧(cA mc oi.op=.pure∨(cA mc oi.op=.read∧cA mc oj.op≠.act)∨cA mc oj.op=.make)) ∧
    aDh mc l i oi (pre++post) (listed.setIfInBounds j true)=true:=by
   have last:((dX l listed).all fun j=>j == i||match nth l j with
     | some oj=>(cA mc oj.op == .make)&&oi.apart l.toArray oj&&(List.range l.length).all fun k=>match nth l k with | some ok => !rN ok j||rN ok i | none=>true
     | none=>false)=true →
     (Apart l oi oj∧cA mc oj.op=.make)∧((dX l (listed.setIfInBounds j true)).all fun j=>j == i||match nth l j with
     | some oj=>(cA mc oj.op == .make)&&oi.apart l.toArray oj&&(List.range l.length).all fun k=>match nth l k with | some ok => !rN ok j||rN ok i | none=>true
     | none=>false)=true:=by
    intro hh
    have h1:=List.all_eq_true.1 hh j hj
    simp only [hoj,Bool.or_eq_true,beq_iff_eq,hne,false_or,Bool.and_eq_true] at h1
    refine ⟨⟨aA9 hs hoi hoj h1.1.2,h1.1.1⟩,List.all_eq_true.2 fun k hk=>?_⟩
    exact List.all_eq_true.1 hh k (aPk hiun hne h1.2 hk hoj)
   unfold aDh at hh ⊢
   cases hki:cA mc oi.op with
   | pure =>
    simp only [hki] at hh ⊢
    have h1:=List.all_eq_true.1 hh j hjm
    simp only [hoj,hnoe,Bool.false_or] at h1
    exact ⟨⟨aA9 hs hoi hoj h1,.inl trivial⟩,List.all_eq_true.2 fun x hx=>List.all_eq_true.1 hh x (sub x hx)⟩
   | read =>
    simp only [hki] at hh ⊢
    have h1:=List.all_eq_true.1 hh j hjm
    simp only [hoj,hnoe,Bool.false_or,Bool.and_eq_true,bne_iff_ne] at h1
    exact ⟨⟨aA9 hs hoi hoj h1.1,.inr (.inl ⟨trivial,h1.2⟩)⟩,List.all_eq_true.2 fun x hx=>List.all_eq_true.1 hh x (sub x hx)⟩
   | call=>simp only [hki] at hh ⊢; obtain ⟨⟨a,b⟩,c⟩:=last hh; exact ⟨⟨a,.inr (.inr b)⟩,c⟩
   | make=>simp only [hki] at hh ⊢; obtain ⟨⟨a,b⟩,c⟩:=last hh; exact ⟨⟨a,.inr (.inr b)⟩,c⟩
   | act=>simp only [hki] at hh ⊢; obtain ⟨⟨a,b⟩,c⟩:=last hh; exact ⟨⟨a,.inr (.inr b)⟩,c⟩
  refine ⟨⟨⟨by simpa using aAG hri' (Ne.symm hne),key.2⟩,by rw [Array.setIfInBounds_comm _ _ hne]; exact ih1⟩,fun ρ G μ H=>?_⟩
  exact Wo.swap hK hdr hoi hoj key.1.1 hds (hmk j oj hoj) key.1.2 (H.map ih2)
theorem aGA {j:Nat}:∀ {σ:List Nat},j∈σ→∃ pre post,σ=pre++j :: post∧j∉pre
 | i :: σ,h=>by
  by_cases e:j=i
  ·exact ⟨[],σ,by rw [e]; rfl,by simp⟩
  ·obtain ⟨pre,post,h1,h2⟩:=aGA ((List.mem_cons.1 h).resolve_left e)
   exact ⟨i :: pre,post,by rw [h1]; rfl,by simp [e,h2]⟩
theorem Wo.any {Q:Exit→Act→World→Prop} {G0:PM} {K0:List Nat} {w0:World} (hK:pD K) (hdr:dr=true) (hs:Region.noSelect l.toArray=true)
  (hmk:∀ j oj,nth l j=some oj→cA mc oj.op=.make→vZ P oj) (hds:∀ j oj,nth l j=some oj→kI n oj.dst)
  (hQ:∀ ρ G μ,K ρ G μ→∀ a w,Ag n ρ a→Tr G0 K0 w0 G μ w→Q .normal a w) :
  ∀ (m:Nat) (σ:List Nat) (listed:Array Bool) (ρ:aO) (G:PM) (μ:aH) (a:Act) (w:World),σ.length=m→Closed l listed→oM mc l σ listed=true→Wo dr mc P n l K σ ρ G μ→Ag n ρ a→Tr G0 K0 w0 G μ w →
   wpAny P .any l.toArray Q m listed a w
 | 0,σ,listed,ρ,G,μ,a,w,hlen,_,hok,H,ha,ht=>by
  obtain rfl:σ=[]:=List.eq_nil_of_length_eq_zero hlen
  simp only [oM,List.isEmpty_iff] at hok
  cases H with | nil h=>exact ⟨hok,hQ _ _ _ h a w ha ht⟩
 | m+1,σ,listed,ρ,G,μ,a,w,hlen,hcl,hok,H,ha,ht=>by
  refine ⟨fun h0=>?_,fun j hj=>?_⟩
  ·cases σ with
   | nil=>simp at hlen
   | cons i σ =>
    simp only [oM,Bool.and_eq_true] at hok
    have:i∈dX l listed:=by simpa using hok.1.1
    unfold dX at this
    rw [h0] at this; cases this
  have hj':j∈dX l listed:=hj
  obtain ⟨pre,post,hσ,hnp⟩:=aGA (aHe hok hj')
  subst hσ
  obtain ⟨h1,h2⟩:=front hK hdr hs hmk hds pre listed hcl hnp hok hj'
  obtain ⟨o,ho,h⟩:=(h2 ρ G μ H).head ha ht (next:=wpAny P .any l.toArray Q m (listed.setIfInBounds j true)) (Q:=Q) hds
   (fun ρ' G' μ' a' w' H' ha' ht'=>Wo.any hK hdr hs hmk hds hQ m (pre++post) _ ρ' G' μ' a' w' (by simp at hlen ⊢; omega) (hcl.set hj') h1 H' ha' ht')
  simp only [wpOp,oL,ho]
  split
  ·rename_i hw; rw [if_pos hw] at h; exact .inl h
  rename_i hw; rw [if_neg hw] at h; exact h
end
structure Cx where
 P:Program
 fn:Func
 n:Nat
 G0:PM
 K0:List Nat
 w0:World
 post:PM→aH→Value→Prop
def Cx.R (X:Cx):Ending→World→Prop:=fun e w'=>∃ v G' μ',e=.returned v∧Tr X.G0 X.K0 X.w0 G' μ' w'∧X.post G' μ' v
inductive KI where
 | code (c:Code)
 | blk (id:Nat)
 | lp (I:Act→World→Prop)
def nJ (X:Cx):List KI→Exit→Act→World→Prop
 | []=>bodyPost X.P X.fn X.R
 | .code c :: k=>Exit.then (c.wp X.P (nJ X k)) (nJ X k)
 | .blk id :: k=>Exit.inBlock id (nJ X k)
 | .lp I :: k=>Exit.then I (nJ X k)
structure Wk (X:Cx) (c:Code) (k:List KI) (ρ:aO) (G:PM) (μ:aH):Prop where
 out:∀ a w,Ag X.n ρ a→Tr X.G0 X.K0 X.w0 G μ w→c.wp X.P (nJ X k) a w
structure We (X:Cx) (e:Exit) (k:List KI) (ρ:aO) (G:PM) (μ:aH):Prop where
 out:∀ a w,Ag X.n ρ a→Tr X.G0 X.K0 X.w0 G μ w→nJ X k e a w
section
variable {X:Cx} {k:List KI} {ρ:aO} {G:PM} {μ:aH} {x y c:Code}
theorem Wk.seq (h:Wk X x (.code y :: k) ρ G μ):Wk X (.seq x y) k ρ G μ:=⟨fun a w ha ht=>wp_seq (h.out a w ha ht)⟩
theorem Wk.block {id:Nat} (h:Wk X c (.blk id :: k) ρ G μ):Wk X (.block id c) k ρ G μ:=⟨fun a w ha ht=>wp_block (h.out a w ha ht)⟩
theorem Wk.skip (h:We X .normal k ρ G μ):Wk X .skip k ρ G μ:=⟨fun a w ha ht=>wp_skip (h.out a w ha ht)⟩
theorem Wk.exit {id:Nat} (h:We X (.exit id) k ρ G μ):Wk X (.exit id) k ρ G μ:=⟨fun a w ha ht=>wp_exit (h.out a w ha ht)⟩
theorem Wk.ret (h:We X .ret [] ρ G μ):Wk X .ret k ρ G μ:=by
 refine ⟨fun a w ha ht=>wp_ret ?_⟩
 have:=h.out a w ha ht
 induction k with
 | nil=>exact this
 | cons i k ih=>cases i<;>exact ih
theorem Wk.cond {cd:Operand} {b:Bool} (hc:ev ρ cd=some (true,.bool b)) (ht:b=true→Wk X x k ρ G μ) (hf:b=false→Wk X y k ρ G μ):Wk X (.cond cd x y) k ρ G μ :=
 ⟨fun a w ha hw=>wp_cond_split (ha.eval hc rfl) (fun h=>(ht h).out a w ha hw) (fun h=>(hf h).out a w ha hw)⟩
theorem We.code (h:Wk X c k ρ G μ):We X .normal (.code c :: k) ρ G μ:=⟨h.out⟩
theorem We.blk {id:Nat} (h:We X .normal k ρ G μ):We X .normal (.blk id :: k) ρ G μ:=⟨h.out⟩
theorem We.xcode {id:Nat} (h:We X (.exit id) k ρ G μ):We X (.exit id) (.code c :: k) ρ G μ:=⟨h.out⟩
theorem We.xlp {id:Nat} {I:Act→World→Prop} (h:We X (.exit id) k ρ G μ):We X (.exit id) (.lp I :: k) ρ G μ:=⟨h.out⟩
theorem We.xblk {id:Nat} (h:We X .normal k ρ G μ):We X (.exit id) (.blk id :: k) ρ G μ :=
 ⟨fun a w ha ht=>by have:=h.out a w ha ht; simp only [nJ,Exit.inBlock,if_true]; exact this⟩
theorem We.xnot {id id':Nat} (hne:Nat.beq id id'=false) (h:We X (.exit id) k ρ G μ):We X (.exit id) (.blk id' :: k) ρ G μ :=
 ⟨fun a w ha ht=>by
  have:=h.out a w ha ht
  simp only [nJ,Exit.inBlock]
  rw [if_neg (fun e=>by subst e; simp at hne)]
  exact this⟩
theorem aFB (e:Exit):pD (fun ρ G μ=>We X e k ρ G μ) :=
 ⟨fun _ _ _ _ he h=>⟨fun a w ha ht=>h.out a w (ha.congr he) ht⟩,fun _ _ _ _ p h=>⟨fun a w ha ht=>h.out a w ha (ht.perm p.symm)⟩⟩
def kH (n:Nat):List Oper→Bool
 | []=>true
 | o :: l=>(match o.dst with | some d=>Nat.blt d n | none=>true)&&kH n l
theorem aFy {n:Nat} {l:List Oper} (h:kH n l=true):∀ j o,nth l j=some o→kI n o.dst:=by
 induction l with
 | nil=>intro j o ho; cases ho
 | cons o' l ih =>
  simp only [kH,Bool.and_eq_true] at h
  intro j o ho
  cases j with
  | zero =>
   simp only [nth,Option.some.injEq] at ho
   subst ho
   cases hd:o'.dst with
   | none=>trivial
   | some d=>rw [hd] at h; show d<n; simpa [Nat.blt_eq] using h.1
  | succ j=>exact ih h.2 j o ho
theorem Wk.region {id:Nat} {l:List Oper} (hds:kH X.n l=true) (h:Wo false ⟨false,false⟩ X.P X.n l (fun ρ G μ=>We X .normal k ρ G μ) (List.range l.length) ρ G μ):Wk X (.region id l.toArray false) k ρ G μ :=
 ⟨fun a w ha ht=>wp_region (by simpa using Wo.run (Q:=nJ X k) (aFy hds) (fun _ _ _ h a w ha ht=>h.out a w ha ht) _ _ _ _ a w h ha ht)⟩
theorem aIc {P:Program} {T:TypeId} {z:Value} (h:(P.info? T).bind (·.zero)=some z) (e:Operand→Value) (d:Option Nat) (t:TypeId) (p:String) (af:Array Edge) (g:Option (Nat×Bool)) (w:World) :
  (execOp e ⟨d,.alloc T,t,p,af,g⟩).run P w=.ok (.value (.pointer (some ⟨w.heap.size,0,none⟩))) (w.alloc (.cells z.cells T)):=by
 cases hi:P.info? T with
 | none=>rw [hi] at h; cases h
 | some i =>
  rw [hi] at h
  simp only [Option.bind_some] at h
  simp [execOp,Instr.alloc,zeroValue,typeInfo,hi,h,newVar,newRow]
def aFH (P:Program) (l:List Oper):Bool:=l.all fun o=>match o.op with | .alloc T=>((P.info? T).bind (·.zero)).isSome&&o.guard.isNone | _=>true
def aFv (mc:Md) (P:Program) (n:Nat) (l:List Oper) (σ:List Nat):Bool :=
 Region.noSelect l.toArray&&(l.all fun o=>match o.dst with | some d=>decide (d<n) | none=>true)&&aFH P l&&(σ.length == l.length)&&oM mc l σ (Array.replicate l.length false)
theorem aBf {l:List Oper} {j:Nat} {o:Oper} (h:nth l j=some o):o∈l:=by
 rw [← oL] at h; simpa using Array.mem_of_getElem? h
theorem aG9 {mc:Md} {P:Program} {o:Oper} (hk:cA mc o.op=.make) (hz:(match o.op with | .alloc T=>((P.info? T).bind (·.zero)).isSome&&o.guard.isNone | _=>true)=true):vZ P o:=by
 obtain ⟨d,op,t,p,af,g⟩:=o
 cases op<;>first|(simp [cA] at hk; done)|skip
 case alloc T =>
  simp only [Bool.and_eq_true,Option.isNone_iff_eq_none] at hz
  cases hz1:(P.info? T).bind (·.zero) with
  | none=>rw [hz1] at hz; simp at hz
  | some z=>exact ⟨trivial,hz.2,.cells z.cells T,fun b=>.pointer (some ⟨b,0,none⟩),fun e w=>aIc hz1 e d t p af g w⟩
 case call c =>
  obtain ⟨cal,args,tys⟩:=c
  cases cal<;>simp only [cA] at hk
  case builtin b=>cases b<;>first|(simp at hk; done)|(simp only at hk; split at hk<;>simp at hk)
  all_goals (split at hk<;>simp at hk)
theorem bA {mc:Md} {id:Nat} {l:List Oper} (σ:List Nat) (hm:X.P.follows .mixedOrders=true) (hok:aFv mc X.P X.n l σ=true)
  (h:Wo true mc X.P X.n l (fun ρ G μ=>We X .normal k ρ G μ) σ ρ G μ):Wk X (.region id l.toArray true) k ρ G μ:=by
 simp only [aFv,Bool.and_eq_true,beq_iff_eq] at hok
 obtain ⟨⟨⟨⟨h1,h2⟩,h3⟩,h4⟩,h5⟩:=hok
 refine ⟨fun a w ha ht=>wp_region_any hm ?_⟩
 have:=Wo.any (Q:=nJ X k) (aFB .normal) rfl h1 (fun j oj hj hk=>aG9 hk (List.all_eq_true.1 h3 oj (aBf hj)))
  (fun j oj hj=>by
   have:=List.all_eq_true.1 h2 oj (aBf hj)
   cases hd:oj.dst with
   | none=>trivial
   | some d=>rw [hd] at this; show d<X.n; exact of_decide_eq_true this) (fun _ _ _ h a w ha ht=>h.out a w ha ht) l.length σ _ ρ G μ a _ h4 (Closed.none l.length) h5 h ha ht.drew
 simpa using this
def ESub (ρ' ρ:aO):Prop:=∀ i cv,dP ρ' i=some cv→dP ρ i=some cv
theorem ESub.nil {ρ:aO}:ESub [] ρ:=fun _ _ h=>by cases h
theorem ESub.cons {ρ' ρ:aO} {i:Nat} {c:Bool} {v v':Value} (h:dP ρ i=some (c,v')) (hv:v'=v) (hs:ESub ρ' ρ):ESub ((i,c,v) :: ρ') ρ:=by
 intro j cv hj
 rw [tA] at hj
 split at hj
 ·rename_i e; subst e; subst hv; rw [h]; exact hj
 ·exact hs j cv hj
inductive MTake:aH→Res→aH→Prop where
 | here {r μ}:MTake (r :: μ) r μ
 | there {r s μ μ'} (h:MTake μ r μ'):MTake (s :: μ) r (s :: μ')
theorem MTake.perm {μ μ':aH} {r:Res} (h:MTake μ r μ'):μ.Perm (r :: μ'):=by
 induction h with
 | here=>exact .refl _
 | there _ ih=>exact (ih.cons _).trans (.swap ..)
def MSub (μ' μ:aH):Prop:=∃ ν,μ.Perm (μ'++ν)
theorem MSub.nil {μ:aH}:MSub [] μ:=⟨μ,.refl _⟩
theorem MSub.cons {μ μ₁ ν:aH} {r r':Res} (h:MTake μ r' μ₁) (e:r'=r) (hs:MSub ν μ₁):MSub (r :: ν) μ:=by
 subst e
 obtain ⟨κ,hκ⟩:=hs
 exact ⟨κ,h.perm.trans (hκ.cons _)⟩
theorem MSub.tr {μ μ':aH} {G0:PM} {K0:List Nat} {w0 w:World} (h:MSub μ' μ) (ht:Tr G0 K0 w0 G μ w):Tr G0 K0 w0 G μ' w:=by
 obtain ⟨ν,hν⟩:=h
 exact (ht.perm hν).left
structure Inv (X:Cx) (G:PM) {α:Type} (E:α→aO) (M:α→aH) (F:α→PM→Prop) (x:α) (a:Act) (w:World):Prop where
 of:∃ G',PM.le G G'∧F x G'∧Ag X.n (E x) a∧Tr X.G0 X.K0 X.w0 G' (M x) w
theorem Wk.loop {α:Type} (E:α→aO) (M:α→aH) (F:α→PM→Prop) (m:α→Nat) (x0:α) (hF:F x0 G) (hE:ESub (E x0) ρ) (hM:MSub (M x0) μ)
  (round:∀ x G',PM.le G G'→F x G'→Wk X c (.lp (fun a w=>∃ y,m y<m x∧Inv X G E M F y a w) :: k) (E x) G' (M x)):Wk X (.loop c) k ρ G μ:=by
 refine ⟨fun a w ha ht=>?_⟩
 intro b kk cs
 have key:∀ (N:Nat) (x:α),m x<N→∀ a w,Inv X G E M F x a w →
   ∃ e a' w',nJ X k e a' w'∧Arrives X.P (lone (b.at a (.code c :: .inLoop c :: kk)) cs w) b kk cs e a' w':=by
  intro N
  induction N with
  | zero=>intro x h; omega
  | succ N ih =>
   intro x hx a w ⟨G',hle,hf,ha,ht⟩
   obtain ⟨e,a₁,w₁,hq,harr⟩:=(round x G' hle hf).out a w ha ht b (.inLoop c :: kk) cs
   cases e with
   | normal =>
    obtain ⟨y,hy,hI⟩:=hq
    obtain ⟨e₂,a₂,w₂,hq₂,harr₂⟩:=ih y (by omega) a₁ w₁ hI
    exact ⟨e₂,a₂,w₂,hq₂,.of_steps (Steps.trans harr (.one step_inLoop)) harr₂⟩
   | exit id=>exact ⟨_,a₁,w₁,hq,.pass (x:=.inLoop c) rfl (fun _ _=>.inl (by simp)) harr⟩
   | goto l=>exact ⟨_,a₁,w₁,hq,.pass (x:=.inLoop c) rfl (fun _ _=>.inl (by simp)) harr⟩
   | ret=>exact ⟨_,a₁,w₁,hq,.pass (x:=.inLoop c) rfl (fun _ _=>.inl (by simp)) harr⟩
   | panic ch=>exact ⟨_,a₁,w₁,hq,.pass (x:=.inLoop c) rfl (fun _ _=>.inl (by simp)) harr⟩
   | outgrown=>exact ⟨_,a₁,w₁,hq,.pass (x:=.inLoop c) rfl (fun _ _=>.inl (by simp)) harr⟩
 obtain ⟨e,a',w',hq,harr⟩:=key (m x0+1) x0 (by omega) a w ⟨G,PM.le.refl G,hF,ha.sub hE,hM.tr ht⟩
 exact ⟨e,a',w',hq,.of_steps (.one step_loop) harr⟩
inductive Rs (P:Program) (ρ:aO) (G:PM) (μ:aH):List ResultVar→List Value→Prop where
 | nil:Rs P ρ G μ [] []
 | tmp {t r v vs} (h:dP ρ t=some (true,v)) (k:Rs P ρ G μ r vs):Rs P ρ G μ (.tmp t :: r) (v :: vs)
 | cell {t T r v vs a} (h:dP ρ t=some (true,.pointer (some a))) (hw:∀ w,Sat G μ w→(loadVar T a).run P w=.ok v w) (k:Rs P ρ G μ r vs):Rs P ρ G μ (.cell t T :: r) (v :: vs)
def fO:List Value→Value
 | [v]=>v
 | vs=>.tuple vs.toArray
theorem aPv {fn:Func} {n:Nat} {a:Act} {P:Program} {vs:List Value} {w:World} (h:Rs P ρ G μ fn.results.toList vs) (ha:Ag n ρ a) (hs:Sat G μ w) :
  (results fn a.tmps).run P w=.ok (fO vs) w:=by
 have key:∀ (f:ResultVar→Sem Value),(∀ t v,dP ρ t=some (true,v)→(f (.tmp t)).run P w=.ok v w) →
   (∀ t T ad v,dP ρ t=some (true,.pointer (some ad))→(loadVar T ad).run P w=.ok v w→(f (.cell t T)).run P w=.ok v w) →
   ∀ (rs:List ResultVar) (vs:List Value),Rs P ρ G μ rs vs→(rs.mapM f).run P w=.ok vs w:=by
  intro f f1 f2 rs vs h
  induction h with
  | nil=>simp
  | tmp h _ ih=>simp [List.mapM_cons,f1 _ _ h,ih]
  | cell h hw _ ih=>simp [List.mapM_cons,f2 _ _ _ _ h (hw w hs),ih]
 unfold results
 rw [Array.mapM_eq_mapM_toList]
 simp only [Sem.run_bind,Sem.run_map]
 rw [key _ (fun t v hl=>by simp [ha.get t true v hl]) (fun t T ad v hl hr=>by simp [ha.get t true _ hl,asAddr,hr]) _ _ h]
 simp only [Result.andThen_ok]
 cases vs with
 | nil=>simp [fO]
 | cons v vs=>cases vs with
  | nil=>simp [fO]
  | cons u vs=>simp [fO]
theorem We.fin {vs:List Value} {rs:List ResultVar} {μ':aH} (hr:X.fn.results=rs.toArray) (h:Rs X.P ρ G μ rs vs) (hM:MSub μ' μ) (hp:X.post G μ' (fO vs)):We X .ret [] ρ G μ :=
 ⟨fun _ _ ha ht=>⟨ha.defers,_,aPv (by rw [hr]; exact h) ha ht.sat,_,G,μ',rfl,hM.tr ht,hp⟩⟩
theorem aM {vs:List Value} {rs:List ResultVar} (hr:X.fn.results=rs.toArray) (h:Rs X.P ρ G μ rs vs) (hp:X.post G [] (fO vs)):We X .ret [] ρ G μ:=We.fin hr h MSub.nil hp
theorem We.nil (h:We X .ret [] ρ G μ):We X .normal [] ρ G μ:=⟨h.out⟩
def aBO (i:Nat):List Value→aO
 | []=>[]
 | v :: vs=>(i,true,v) :: aBO (i+1) vs
theorem aG1:∀ (vs:List Value) (i j:Nat) (c:Bool) (v:Value),dP (aBO i vs) j=some (c,v)→i≤j∧c=true∧vs[j-i]? = some v
 | [],_,_,_,_,h=>by cases h
 | u :: vs,i,j,c,v,h=>by
  simp only [aBO,tA] at h
  split at h
  ·rename_i e; subst e
   simp only [Option.some.injEq,Prod.mk.injEq] at h
   obtain ⟨rfl,rfl⟩:=h
   simp
  rename_i e
  obtain ⟨h1,h2,h3⟩:=aG1 vs (i+1) j c v h
  refine ⟨by omega,h2,?_⟩
  rw [show j-i=(j-(i+1))+1 by omega]
  simpa using h3
theorem Ct.of {P:Program} {f:FuncId} {fn:Func} {c:Code} {n:Nat} {vs:List Value} {G:PM} {μ:aH} {post:PM→aH→Value→Prop}
  (hf:P.funcs[f]? = some fn) (hb:fn.body=some c) (hn:fn.ntmps=n) (hl:Nat.ble vs.length n=true)
  (h:∀ w0,Sat G μ w0→Wk ⟨P,fn,n,G,keys μ,w0,post⟩ c [] (aBO 0 vs) G μ):Ct P f vs.toArray G μ post:=by
 intro w hs
 refine calls_of_wp hf hb ?_
 have:=(h w hs).out { tmps:=vs.toArray++Array.replicate (fn.ntmps-vs.toArray.size) undef,defers:=[] } w ⟨?_,rfl,?_⟩ (oC hs)
 ·exact this
 ·have:=Nat.le_of_ble_eq_true hl
  simp [hn]; omega
 intro i c v hi
 obtain ⟨_,rfl,h3⟩:=aG1 vs 0 i c v hi
 simp only [Nat.sub_zero] at h3
 have hlt:i<vs.length:=(List.getElem?_eq_some_iff.1 h3).1
 rw [Array.getElem?_append_left (by simpa using hlt)]
 simpa using h3
end
theorem aE {μ:aH} {r s0:Res}:MTake (s0 :: r :: μ) r (s0 :: μ):=.there .here
theorem aN {μ:aH} {r s0 s1:Res}:MTake (s0 :: s1 :: r :: μ) r (s0 :: s1 :: μ):=.there (.there .here)
theorem bB {μ:aH} {r s0 s1 s2:Res}:MTake (s0 :: s1 :: s2 :: r :: μ) r (s0 :: s1 :: s2 :: μ):=.there (.there (.there .here))
theorem cJ {μ:aH} {r s0 s1 s2 s3:Res}:MTake (s0 :: s1 :: s2 :: s3 :: r :: μ) r (s0 :: s1 :: s2 :: s3 :: μ):=.there (.there (.there (.there .here)))
theorem eI {μ:aH} {r s0 s1 s2 s3 s4:Res}:MTake (s0 :: s1 :: s2 :: s3 :: s4 :: r :: μ) r (s0 :: s1 :: s2 :: s3 :: s4 :: μ):=.there (.there (.there (.there (.there .here))))
theorem jJ {μ:aH} {r s0 s1 s2 s3 s4 s5:Res}:MTake (s0 :: s1 :: s2 :: s3 :: s4 :: s5 :: r :: μ) r (s0 :: s1 :: s2 :: s3 :: s4 :: s5 :: μ):=.there (.there (.there (.there (.there (.there .here)))))
theorem jK {μ:aH} {r s0 s1 s2 s3 s4 s5 s6:Res}:MTake (s0 :: s1 :: s2 :: s3 :: s4 :: s5 :: s6 :: r :: μ) r (s0 :: s1 :: s2 :: s3 :: s4 :: s5 :: s6 :: μ):=.there (.there (.there (.there (.there (.there (.there .here))))))
theorem tk8 {μ:aH} {r s0 s1 s2 s3 s4 s5 s6 s7:Res}:MTake (s0 :: s1 :: s2 :: s3 :: s4 :: s5 :: s6 :: s7 :: r :: μ) r (s0 :: s1 :: s2 :: s3 :: s4 :: s5 :: s6 :: s7 :: μ):=.there (.there (.there (.there (.there (.there (.there (.there .here)))))))
theorem mS {μ μ₁ ν:aH} {r r':Res} (h:MTake μ r' μ₁) (e:r'=r) (hs:MSub ν μ₁):MSub (r :: ν) μ:=MSub.cons h e hs
theorem mN {μ:aH}:MSub [] μ:=MSub.nil
theorem cI {ρ' ρ:aO} {i:Nat} {c:Bool} {v v':Value} (h:dP ρ i=some (c,v')) (hv:v'=v) (hs:ESub ρ' ρ):ESub ((i,c,v) :: ρ') ρ:=ESub.cons h hv hs
theorem eZ {ρ:aO}:ESub [] ρ:=ESub.nil
theorem aA {ρ' ρ:aO} {i:Nat} {c:Bool} {v:Value} (h:dP ρ i=some (c,v)) (hs:ESub ρ' ρ):ESub ((i,c,v) :: ρ') ρ:=ESub.cons h rfl hs
class QLen (cs:List Value) (n:outParam Nat):Prop where
 h:cs.length=n
theorem qL {cs:List Value} {n:Nat} [k:QLen cs n]:cs.length=n:=k.h
theorem qE {cs cs':List Value} {n:Nat} [k:QLen cs n] [k':QLen cs' n]:cs.length=cs'.length:=k.h.trans k'.h.symm
instance:QLen [] 0:=⟨rfl⟩
instance {v:Value} {cs:List Value} {n:Nat} [k:QLen cs n]:QLen (v :: cs) (n+1):=⟨by rw [List.length_cons,k.h]⟩
instance {cs cs':List Value} {n m:Nat} [k:QLen cs n] [k':QLen cs' m]:QLen (cs++cs') (n+m):=⟨by rw [List.length_append,k.h,k'.h]⟩
def cO (P:Program) (s f:Nat):Option Nat :=
 match P.underlying s with
 | some (.struct fs)=>match fs[f]? with
  | some fl=>match P.info? fl.type with
   | some i=>if i.size=0 then none else some fl.offset
   | none=>none
  | none=>none
 | _=>none
def dJ (P:Program) (T:TypeId):Option (Option Nat) :=
 match P.underlying T,P.info? T with
 | some (.struct _),some i | some (.array _ _),some i=>some (some i.size)
 | some _,some _=>some none
 | _,_=>none
def cL (P:Program) (T:TypeId):Option (TypeId×Nat×Nat) :=
 match P.underlying T with
 | some (.slice e)=>(P.info? e).map fun i=>(e,i.size,i.bytes)
 | _=>none
def gP (P:Program) (T:TypeId):Option (Nat×TypeId×Nat) :=
 match P.underlying T with
 | some (.array n e)=>(P.info? e).map fun i=>(n,e,i.size)
 | _=>none
def iD (P:Program) (T:TypeId):Option (List Value):=((P.info? T).bind (·.zero)).map (·.cells.toList)
def dL (P:Program) (T:TypeId):Option Nat:=(P.info? T).map (·.size)
abbrev cl (cs:List Value) (T:TypeId):Obj:=.cells cs.toArray T (0,0)
def Sub (G:PM) (w:World):Prop:=∀ b o,G b=some o→w.heap[b]? = some o
theorem Sub.mono {G G':PM} {w:World} (h:Sub G' w) (hle:PM.le G G'):Sub G w:=fun b o e=>h b o (hle b o e)
def Rd (G:PM) (μ:aH) (a:Addr) (v:Value):Prop:=∀ w,Sat G μ w→w.cell? a=some v
def RdP (G:PM) (a:Addr) (v:Value):Prop:=∀ w,Sub G w→w.cell? a=some v
theorem RdP.rd {G:PM} {μ:aH} {a:Addr} {v:Value} (h:RdP G a v):Rd G μ a v:=fun w hs=>h w hs.sub
theorem RdP.mono {G G':PM} {a:Addr} {v:Value} (h:RdP G a v) (hle:PM.le G G'):RdP G' a v:=fun w hs=>h w (hs.mono hle)
theorem Rd.own {G:PM} {μ μ':aH} {b off:Nat} {cs:List Value} {T:TypeId} {v:Value} (h:MTake μ (.blk b (cl cs T)) μ') (hv:cs[off]? = some v):Rd G μ ⟨b,off,none⟩ v:=by
 intro w hs
 have:=hs.own (.blk b (cl cs T)) (h.perm.mem_iff.2 (List.mem_cons_self ..))
 rw [cell_of_row w b off _ T _ this]
 simpa using hv
theorem RdP.blk {G:PM} {b off:Nat} {cs:List Value} {T:TypeId} {v:Value} {fr:Nat×Nat} (h:G b=some (.cells cs.toArray T fr)) (hv:cs[off]? = some v):RdP G ⟨b,off,none⟩ v:=by
 intro w hs
 rw [cell_of_row w b off _ T _ (hs b _ h)]
 simpa using hv
def RdN (G:PM) (μ:aH) (b off:Nat) (cs:List Value):Prop:=∀ j v,cs[j]? = some v→Rd G μ ⟨b,off+j,none⟩ v
def RdNP (G:PM) (b off:Nat) (cs:List Value):Prop:=∀ j v,cs[j]? = some v→RdP G ⟨b,off+j,none⟩ v
theorem RdNP.rd {G:PM} {μ:aH} {b off:Nat} {cs:List Value} (h:RdNP G b off cs):RdN G μ b off cs:=fun j v hj=>(h j v hj).rd
theorem RdNP.mono {G G':PM} {b off:Nat} {cs:List Value} (h:RdNP G b off cs) (hle:PM.le G G'):RdNP G' b off cs:=fun j v hj=>(h j v hj).mono hle
theorem RdN.own {G:PM} {μ μ':aH} {b:Nat} {cs:List Value} {T:TypeId} (h:MTake μ (.blk b (cl cs T)) μ'):RdN G μ b 0 cs:=fun j v hj=>by
 rw [Nat.zero_add]; exact Rd.own h hj
theorem RdN.part {G:PM} {μ μ':aH} {b off n:Nat} {cs cs':List Value} {T:TypeId} (h:MTake μ (.blk b (cl cs T)) μ') (hc:(cs.drop off).take n=cs'):RdN G μ b off cs':=fun j v hj=>by
 subst hc
 refine Rd.own h ?_
 rw [List.getElem?_take] at hj
 split at hj
 ·rw [List.getElem?_drop] at hj; exact hj
 cases hj
theorem jD (b o j:Nat):(⟨b,o,none⟩ : Addr).add j=⟨b,o+j,none⟩:=by unfold Addr.add; split<;>simp_all
theorem aIh {P:Program} {w:World} {G:PM} {μ:aH} {b off n:Nat} {cs:List Value} (h:RdN G μ b off cs) (hs:Sat G μ w) (hn:cs.length=n):(loadCells ⟨b,off,none⟩ n).run P w=.ok cs.toArray w:=by
 subst hn
 exact run_loadCells_list w ⟨b,off,none⟩ cs fun j v hj=>by rw [jD]; exact h j v hj w hs
theorem aFF {P:Program} {T:TypeId} (h:dJ P T=some none):∀ w,(isAgg T).run P w=.ok false w:=by
 intro w
 unfold dJ at h
 unfold isAgg
 cases hu:P.underlying T with
 | none=>rw [hu] at h; simp at h
 | some d =>
  rw [hu] at h
  simp only [Sem.run_bind,run_underlying hu,Result.andThen_ok]
  cases d<;>first|rfl | (cases hi:P.info? T<;>rw [hi] at h<;>simp at h)
theorem aLR {P:Program} {T:TypeId} {n:Nat} (h:dJ P T=some (some n)):(∀ w,(isAgg T).run P w=.ok true w)∧(P.info? T).map (·.size)=some n:=by
 unfold dJ at h
 unfold isAgg
 cases hu:P.underlying T with
 | none=>rw [hu] at h; simp at h
 | some d =>
  rw [hu] at h
  cases d<;>cases hi:P.info? T<;>rw [hi] at h<;>simp at h
  all_goals (subst h; exact ⟨fun w=>by simp only [Sem.run_bind,run_underlying hu,Result.andThen_ok]; rfl,rfl⟩)
theorem aQU {P:Program} {T:TypeId} (hT:dJ P T=some none) {w:World} {a:Addr} {v:Value} (h:w.cell? a=some v):(loadVar T a).run P w=.ok v w:=by
 unfold loadVar
 simp [aFF hT w,run_load,h]
theorem bI {P:Program} {T:TypeId} {n:Nat} (hT:dJ P T=some (some n)) {G:PM} {μ:aH} {w:World} {b off:Nat} {cs:List Value} (h:RdN G μ b off cs) (hn:cs.length=n) (hs:Sat G μ w) :
  (loadVar T ⟨b,off,none⟩).run P w=.ok (.agg cs.toArray) w:=by
 obtain ⟨h1,h2⟩:=aLR hT
 cases hi:P.info? T with
 | none=>rw [hi] at h2; cases h2
 | some i =>
  rw [hi] at h2
  simp only [Option.map_some,Option.some.injEq] at h2
  unfold loadVar
  simp [h1 w,sizeOf,typeInfo,hi,h2,aIh h hs hn]
section
variable {dr:Bool} {mc:Md} {P:Program} {n:Nat} {l:List Oper} {K:aO→PM→aH→Prop} {i:Nat} {σ:List Nat} {ρ:aO} {G:PM} {μ:aH}
variable {d t:Nat} {p:String} {af:Array Edge} {g:Option (Nat×Bool)} {c:Bool}
theorem mv {x:Operand} {v:Value} (ho:nth l i=some ⟨some d,.move x,t,p,af,g⟩) (hg:Gd l ρ g c) (hx:Ev ρ c x v) (h:Wo dr mc P n l K σ ((d,c,v) :: ρ) G μ):Wo dr mc P n l K (i :: σ) ρ G μ :=
 .pure ho (.inl rfl) hg (fun hc a w ha=>by simp [execOp,hx.eval ha hc]) h
theorem asg {x:Operand} {v:Value} (ho:nth l i=some ⟨some d,.assign x,t,p,af,g⟩) (hg:Gd l ρ g c) (hx:Ev ρ c x v) (h:Wo dr mc P n l K σ ((d,c,v) :: ρ) G μ):Wo dr mc P n l K (i :: σ) ρ G μ :=
 .pure ho (.inl rfl) hg (fun hc a w ha=>by simp [execOp,hx.eval ha hc]) h
theorem bR {x y:Operand} {b1 b2:Bool} (ho:nth l i=some ⟨some d,.pick x y (.const (.bool false)),t,p,af,g⟩) (hg:Gd l ρ g c) (hx:Ev ρ c x (.bool b1)) (hy:Ev ρ (c&&b1) y (.bool b2))
  (h:Wo dr mc P n l K σ ((d,c,.bool (b1&&b2)) :: ρ) G μ):Wo dr mc P n l K (i :: σ) ρ G μ :=
 .pure ho (.inl rfl) hg (fun hc a w ha=>by
  simp only [execOp,hx.eval ha hc,asBool]
  cases b1 with
  | false=>simp [Act.eval]
  | true=>simp [hy.eval ha (by simp [hc])]) h
theorem cK {x y:Operand} {b1 b2:Bool} (ho:nth l i=some ⟨some d,.pick x (.const (.bool true)) y,t,p,af,g⟩) (hg:Gd l ρ g c) (hx:Ev ρ c x (.bool b1)) (hy:Ev ρ (c && !b1) y (.bool b2))
  (h:Wo dr mc P n l K σ ((d,c,.bool (b1||b2)) :: ρ) G μ):Wo dr mc P n l K (i :: σ) ρ G μ :=
 .pure ho (.inl rfl) hg (fun hc a w ha=>by
  simp only [execOp,hx.eval ha hc,asBool]
  cases b1 with
  | true=>simp [Act.eval]
  | false=>simp [hy.eval ha (by simp [hc])]) h
theorem nt {T:TypeId} {x:Operand} {b:Bool} (ho:nth l i=some ⟨some d,.unOp .not T x,t,p,af,g⟩) (hg:Gd l ρ g c) (hx:Ev ρ c x (.bool b)) (h:Wo dr mc P n l K σ ((d,c,.bool !b) :: ρ) G μ):Wo dr mc P n l K (i :: σ) ρ G μ :=
 .pure ho (.inl rfl) hg (fun hc a w ha=>by simp [execOp,hx.eval ha hc,Op.unary]) h
theorem ex {x:Operand} {vs:List Value} {j:Nat} {v:Value} (ho:nth l i=some ⟨some d,.extract x j,t,p,af,g⟩) (hg:Gd l ρ g c) (hx:Ev ρ c x (.tuple vs.toArray)) (hv:vs[j]? = some v)
  (h:Wo dr mc P n l K σ ((d,c,v) :: ρ) G μ):Wo dr mc P n l K (i :: σ) ρ G μ :=
 .pure ho (.inl rfl) hg (fun hc a w ha=>by simp [execOp,hx.eval ha hc,Instr.extract,hv]) h
theorem nc {x:Operand} {ad:Addr} (ho:nth l i=some ⟨some d,.nilCheck x,t,p,af,g⟩) (hg:Gd l ρ g c) (hx:Ev ρ c x (.pointer (some ad))) (h:Wo dr mc P n l K σ ((d,c,.pointer (some ad)) :: ρ) G μ):Wo dr mc P n l K (i :: σ) ρ G μ :=
 .pure ho (.inl rfl) hg (fun hc a w ha=>by simp [execOp,hx.eval ha hc]) h
theorem mf {fn:Go.Fn} {fs cs:Array Operand} {vf vc:Array Value} (ho:nth l i=some ⟨some d,.makeFunc fn fs cs,t,p,af,g⟩) (hg:Gd l ρ g c) (hf:∀ a,Ag n ρ a→c=true→fs.map a.eval=vf) (hcs:∀ a,Ag n ρ a→c=true→cs.map a.eval=vc)
  (h:Wo dr mc P n l K σ ((d,c,.func fn vf vc) :: ρ) G μ):Wo dr mc P n l K (i :: σ) ρ G μ :=
 .pure ho (.inl rfl) hg (fun hc a w ha=>by simp [execOp,Instr.makeFunc,hf a ha hc,hcs a ha hc]) h
def aBE:BinOp→Int→Int→Option Bool
 | .eql,a,b=>some (a == b)
 | .neq,a,b=>some (a != b)
 | .lss,a,b=>some (decide (a<b))
 | .leq,a,b=>some (decide (a≤b))
 | .gtr,a,b=>some (decide (a > b))
 | .geq,a,b=>some (decide (a≥b))
 | _,_,_=>none
theorem kX {P:Program} (op:BinOp) (T:TypeId) (x y:Operand) (k k':IntKind) (a b:Int) (w:World):(eqGuard op T x y (.int k a) (.int k' b)).run P w=.ok () w:=by
 unfold eqGuard; cases op<;>simp
theorem aQS {P:Program} {op:BinOp} {k:IntKind} {a b:Int} {r:Bool} (T:TypeId) (h:aBE op a b=some r) (w:World):(binOp op T (.int k a) (.int k b)).run P w=.ok (.bool r) w:=by
 cases op<;>simp [aBE] at h<;>subst h<;>simp [binOp,Op.intCmp]
theorem cp {op:BinOp} {T T':TypeId} {x y:Operand} {k:IntKind} {a1 a2:Int} {r:Bool} (ho:nth l i=some ⟨some d,.binOp op T x y T',t,p,af,g⟩) (hg:Gd l ρ g c) (hx:Ev ρ c x (.int k a1)) (hy:Ev ρ c y (.int k a2)) (hr:aBE op a1 a2=some r)
  (h:Wo dr mc P n l K σ ((d,c,.bool r) :: ρ) G μ):Wo dr mc P n l K (i :: σ) ρ G μ :=
 .pure ho (.inl rfl) hg (fun hc a w ha=>by simp [execOp,hx.eval ha hc,hy.eval ha hc,kX,aQS T hr w]) h
def wC:BinOp→Int→Int→Option Int
 | .add,a,b=>some (a+b)
 | .sub,a,b=>some (a-b)
 | .mul,a,b=>some (a*b)
 | _,_,_=>none
theorem aId {P:Program} {op:BinOp} {k:IntKind} {a b r:Int} (T:TypeId) (h:wC op a b=some r) (w:World):(binOp op T (.int k a) (.int k b)).run P w=.ok (.int k (k.wrap r)) w:=by
 cases op<;>simp [wC] at h<;>subst h<;>simp [binOp,Op.intArith]
theorem ar {op:BinOp} {T T':TypeId} {x y:Operand} {k:IntKind} {a1 a2 r:Int} (ho:nth l i=some ⟨some d,.binOp op T x y T',t,p,af,g⟩) (hg:Gd l ρ g c) (hx:Ev ρ c x (.int k a1)) (hy:Ev ρ c y (.int k a2)) (hr:wC op a1 a2=some r) (hw:c=true→k.wrap r=r)
  (h:Wo dr mc P n l K σ ((d,c,.int k r) :: ρ) G μ):Wo dr mc P n l K (i :: σ) ρ G μ :=
 .pure ho (.inl rfl) hg (fun hc a w ha=>by simp [execOp,hx.eval ha hc,hy.eval ha hc,kX,aId T hr w,hw hc]) h
theorem bO {r:Int} (h1 : -9223372036854775808≤r) (h2:r≤9223372036854775807):IntKind.i64.wrap r=r:=by
 unfold IntKind.wrap
 show (if (true&&decide (r%(2^64:Int)≥(2^63:Int)))=true then r%(2^64:Int)-(2^64:Int) else r%(2^64:Int))=r
 simp only [Bool.true_and,decide_eq_true_eq]
 split<;>omega
theorem eD {r:Int} (h1:0≤r) (h2:r<18446744073709551616):IntKind.u64.wrap r=r:=by
 simp only [IntKind.wrap,IntKind.bits,IntKind.signed,Bool.false_and,Bool.false_eq_true,if_false]
 exact Int.emod_eq_of_lt h1 (by omega)
theorem aSH {r:Int} (h1:0≤r) (h2:r<256):IntKind.u8.wrap r=r:=by
 simp only [IntKind.wrap,IntKind.bits,IntKind.signed,Bool.false_and,Bool.false_eq_true,if_false]
 exact Int.emod_eq_of_lt h1 (by omega)
theorem rm {T T':TypeId} {x y:Operand} {k:IntKind} {a1 a2:Int} (ho:nth l i=some ⟨some d,.binOp .rem T x y T',t,p,af,g⟩) (hg:Gd l ρ g c) (hx:Ev ρ c x (.int k a1)) (hy:Ev ρ c y (.int k a2)) (h0:c=true→a2≠0)
  (h:Wo dr mc P n l K σ ((d,c,.int k (a1.tmod a2)) :: ρ) G μ):Wo dr mc P n l K (i :: σ) ρ G μ :=
 .pure ho (.inl rfl) hg (fun hc a w ha=>by simp [execOp,hx.eval ha hc,hy.eval ha hc,kX,binOp,Op.intDiv,h0 hc]) h
theorem qu {T T':TypeId} {x y:Operand} {k:IntKind} {a1 a2:Int} (ho:nth l i=some ⟨some d,.binOp .quo T x y T',t,p,af,g⟩) (hg:Gd l ρ g c) (hx:Ev ρ c x (.int k a1)) (hy:Ev ρ c y (.int k a2)) (h0:c=true→a2≠0)
  (h:Wo dr mc P n l K σ ((d,c,.int k (k.wrap (a1.tdiv a2))) :: ρ) G μ):Wo dr mc P n l K (i :: σ) ρ G μ :=
 .pure ho (.inl rfl) hg (fun hc a w ha=>by simp [execOp,hx.eval ha hc,hy.eval ha hc,kX,binOp,Op.intDiv,h0 hc]) h
theorem sl {T T':TypeId} {x y:Operand} {k k':IntKind} {a1 a2:Int} (ho:nth l i=some ⟨some d,.binOp .shl T x y T',t,p,af,g⟩) (hg:Gd l ρ g c) (hx:Ev ρ c x (.int k a1)) (hy:Ev ρ c y (.int k' a2)) (h0:c=true→0≤a2)
  (h:Wo dr mc P n l K σ ((d,c,.int k (k.wrap (a1*2^(min a2.toNat k.bits)))) :: ρ) G μ):Wo dr mc P n l K (i :: σ) ρ G μ :=
 .pure ho (.inl rfl) hg (fun hc a w ha=>by have:=h0 hc; simp [execOp,hx.eval ha hc,hy.eval ha hc,kX,binOp,Op.shift,show ¬ a2<0 by omega]) h
theorem sr {T T':TypeId} {x y:Operand} {k k':IntKind} {a1 a2:Int} (ho:nth l i=some ⟨some d,.binOp .shr T x y T',t,p,af,g⟩) (hg:Gd l ρ g c) (hx:Ev ρ c x (.int k a1)) (hy:Ev ρ c y (.int k' a2)) (h0:c=true→0≤a2)
  (h:Wo dr mc P n l K σ ((d,c,.int k (a1.fdiv (2^(min a2.toNat k.bits)))) :: ρ) G μ):Wo dr mc P n l K (i :: σ) ρ G μ :=
 .pure ho (.inl rfl) hg (fun hc a w ha=>by have:=h0 hc; simp [execOp,hx.eval ha hc,hy.eval ha hc,kX,binOp,Op.shift,show ¬ a2<0 by omega]) h
def jF (P:Program) (S D:TypeId):Option IntKind:=match P.underlying S,P.underlying D with | some (.int _),some (.int k)=>some k | _,_=>none
theorem cv {S D:TypeId} {x:Operand} {k k':IntKind} {a1:Int} (ho:nth l i=some ⟨some d,.convert S D x,t,p,af,g⟩) (hg:Gd l ρ g c) (hk:jF P S D=some k') (hx:Ev ρ c x (.int k a1))
  (h:Wo dr mc P n l K σ ((d,c,.int k' (k'.wrap a1)) :: ρ) G μ):Wo dr mc P n l K (i :: σ) ρ G μ :=
 .read ho (.inl rfl) hg (fun hc a w ha _=>by
  unfold jF at hk
  split at hk
  ·rename_i k0 k1 hS hD
   simp only [Option.some.injEq] at hk
   subst hk
   simp [execOp,hx.eval ha hc,convert,run_underlying hS,run_underlying hD,Conv.intToInt]
  ·cases hk) h
theorem cw {S D:TypeId} {x:Operand} {k k':IntKind} {a1:Int} (ho:nth l i=some ⟨some d,.convert S D x,t,p,af,g⟩) (hg:Gd l ρ g c) (hk:jF P S D=some k') (hx:Ev ρ c x (.int k a1)) (hw:c=true→k'.wrap a1=a1)
  (h:Wo dr mc P n l K σ ((d,c,.int k' a1) :: ρ) G μ):Wo dr mc P n l K (i :: σ) ρ G μ :=
 .read ho (.inl rfl) hg (fun hc a w ha _=>by
  unfold jF at hk
  split at hk
  ·rename_i k0 k1 hS hD
   simp only [Option.some.injEq] at hk
   subst hk
   simp [execOp,hx.eval ha hc,convert,run_underlying hS,run_underlying hD,Conv.intToInt,hw hc]
  ·cases hk) h
def aCn (P:Program) (T:TypeId):Bool:=match P.underlying T with | some .bool=>true | _=>false
theorem eb {T T':TypeId} {x y:Operand} {b1 b2:Bool} (ho:nth l i=some ⟨some d,.binOp .eql T x y T',t,p,af,g⟩) (hg:Gd l ρ g c) (hT:aCn P T=true) (hx:Ev ρ c x (.bool b1)) (hy:Ev ρ c y (.bool b2))
  (h:Wo dr mc P n l K σ ((d,c,.bool (b1 == b2)) :: ρ) G μ):Wo dr mc P n l K (i :: σ) ρ G μ :=
 .pure ho (.inl rfl) hg (fun hc a w ha=>by
  unfold aCn at hT
  split at hT
  ·rename_i hu
   have h1:∀ w,(Op.equalIn (9999+1) T (.bool b1) (.bool b2)).run P w=.ok (b1 == b2) w:=fun w=>by
    rw [Op.equalIn]; simp only [Sem.run_bind,run_underlying hu,Result.andThen_ok,Sem.run_pure]
   have h2:(eqGuard .eql T x y (.bool b1) (.bool b2)).run P w=.ok () w:=by unfold eqGuard; simp
   simp only [execOp,hx.eval ha hc,hy.eval ha hc,Sem.run_bind,h2,Result.andThen_ok,binOp,Op.equal,Op.maxDepth]
   rw [show (10000:Nat)=9999+1 from rfl,h1]
   rfl
  ·cases hT) h
def aCv:BinOp→ByteArray→ByteArray→Option Bool
 | .eql,x,y=>some (x.toList == y.toList)
 | .neq,x,y=>some (!(x.toList == y.toList))
 | .lss,x,y=>some (Op.bytesLess x.toList y.toList)
 | .leq,x,y=>some (Op.bytesLess x.toList y.toList||x.toList == y.toList)
 | .gtr,x,y=>some (!(Op.bytesLess x.toList y.toList||x.toList == y.toList))
 | .geq,x,y=>some (!(Op.bytesLess x.toList y.toList))
 | _,_,_=>none
theorem cs {op:BinOp} {T T':TypeId} {x y:Operand} {s1 s2:ByteArray} {r:Bool} (ho:nth l i=some ⟨some d,.binOp op T x y T',t,p,af,g⟩) (hg:Gd l ρ g c) (hx:Ev ρ c x (.string s1)) (hy:Ev ρ c y (.string s2)) (hr:aCv op s1 s2=some r)
  (h:Wo dr mc P n l K σ ((d,c,.bool r) :: ρ) G μ):Wo dr mc P n l K (i :: σ) ρ G μ :=
 .pure ho (.inl rfl) hg (fun hc a w ha=>by
  simp only [execOp,hx.eval ha hc,hy.eval ha hc]
  have:(eqGuard op T x y (.string s1) (.string s2)).run P w=.ok () w:=by unfold eqGuard; cases op<;>simp
  cases op<;>simp only [aCv,Option.some.injEq,reduceCtorEq] at hr<;>subst hr<;>simp [this,binOp,Op.stringOp]) h
theorem ln {T:TypeId} {x:Operand} {oa:Option Addr} {m cp:Nat} (ho:nth l i=some ⟨some d,.call { callee:=.builtin .len,args:=#[x],argTypes:=#[T] },t,p,af,g⟩) (hg:Gd l ρ g c) (hT:(cL P T).isSome=true) (hx:Ev ρ c x (.slice oa m cp))
  (h:Wo dr mc P n l K σ ((d,c,.int .i64 m) :: ρ) G μ):Wo dr mc P n l K (i :: σ) ρ G μ :=
 .read ho (.inl rfl) hg (fun hc a w ha _=>by
  unfold cL at hT
  split at hT
  ·rename_i e hu
   simp [execOp,resolve,invoke,builtin,hx.eval ha hc,Builtin.len_,run_underlying hu,goInt]
  ·cases hT) h
def xV (P:Program) (T:TypeId):Bool:=match P.underlying T with | some .string=>true | _=>false
theorem ls {T:TypeId} {x:Operand} {s:ByteArray} (ho:nth l i=some ⟨some d,.call { callee:=.builtin .len,args:=#[x],argTypes:=#[T] },t,p,af,g⟩) (hg:Gd l ρ g c) (hT:xV P T=true) (hx:Ev ρ c x (.string s))
  (h:Wo dr mc P n l K σ ((d,c,.int .i64 s.size) :: ρ) G μ):Wo dr mc P n l K (i :: σ) ρ G μ :=
 .read ho (.inl rfl) hg (fun hc a w ha _=>by
  unfold xV at hT
  split at hT
  ·rename_i hu
   simp [execOp,resolve,invoke,builtin,hx.eval ha hc,Builtin.len_,run_underlying hu,goInt]
  ·cases hT) h
theorem fa {s f k:Nat} {x:Operand} {b o:Nat} (ho:nth l i=some ⟨some d,.fieldAddr s x f,t,p,af,g⟩) (hg:Gd l ρ g c) (hF:cO P s f=some k) (hx:Ev ρ c x (.pointer (some ⟨b,o,none⟩)))
  (h:Wo dr mc P n l K σ ((d,c,.pointer (some ⟨b,o+k,none⟩)) :: ρ) G μ):Wo dr mc P n l K (i :: σ) ρ G μ :=
 .pure ho (.inl rfl) hg (fun hc a w ha=>by
  unfold cO at hF
  split at hF
  ·rename_i fs hu
   split at hF
   ·rename_i fl hfl
    split at hF
    ·rename_i inf hi
     split at hF
     ·cases hF
     ·rename_i hz
      simp only [Option.some.injEq] at hF
      subst hF
      simp [execOp,hx.eval ha hc,Instr.fieldAt,run_underlying hu,hfl,Instr.sureAddr,fieldPlace,sizeOf,typeInfo,hi,hz,jD]
    ·cases hF
   ·cases hF
  ·cases hF) h
theorem fz {s f k:Nat} {x:Operand} {b:Nat} (ho:nth l i=some ⟨some d,.fieldAddr s x f,t,p,af,g⟩) (hg:Gd l ρ g c) (hF:cO P s f=some k) (hx:Ev ρ c x (.pointer (some ⟨b,0,none⟩)))
  (h:Wo dr mc P n l K σ ((d,c,.pointer (some ⟨b,k,none⟩)) :: ρ) G μ):Wo dr mc P n l K (i :: σ) ρ G μ :=
 fa ho hg hF hx (by rw [Nat.zero_add]; exact h)
theorem gE {P:Program} {T e sz by':Nat} (h:cL P T=some (e,sz,by')):P.underlying T=some (.slice e)∧∃ inf,P.info? e=some inf∧inf.size=sz∧inf.bytes=by':=by
 unfold cL at h
 split at h
 ·rename_i e' hu
  cases hi:P.info? e' with
  | none=>rw [hi] at h; cases h
  | some inf =>
   rw [hi] at h
   simp only [Option.map_some,Option.some.injEq,Prod.mk.injEq] at h
   obtain ⟨rfl,rfl,rfl⟩:=h
   exact ⟨hu,inf,hi,rfl,rfl⟩
 ·cases h
theorem sM {P:Program} {T m e sz:Nat} (h:gP P T=some (m,e,sz)):P.underlying T=some (.array m e)∧∃ inf,P.info? e=some inf∧inf.size=sz:=by
 unfold gP at h
 split at h
 ·rename_i m' e' hu
  cases hi:P.info? e' with
  | none=>rw [hi] at h; cases h
  | some inf =>
   rw [hi] at h
   simp only [Option.map_some,Option.some.injEq,Prod.mk.injEq] at h
   obtain ⟨rfl,rfl,rfl⟩:=h
   exact ⟨hu,inf,hi,rfl⟩
 ·cases h
theorem ia {T e sz by':Nat} {x y:Operand} {k:IntKind} {b o m cp:Nat} {j:Int} (ho:nth l i=some ⟨some d,.indexAddr T x y,t,p,af,g⟩) (hg:Gd l ρ g c) (hT:cL P T=some (e,sz,by')) (hx:Ev ρ c x (.slice (some ⟨b,o,none⟩) m cp)) (hy:Ev ρ c y (.int k j))
  (h0:c=true→0≤j) (h1:c=true→j<m) (h:Wo dr mc P n l K σ ((d,c,.pointer (some ⟨b,o+j.toNat*sz,none⟩)) :: ρ) G μ):Wo dr mc P n l K (i :: σ) ρ G μ :=
 .pure ho (.inl rfl) hg (fun hc a w ha=>by
  obtain ⟨hu,inf,hi,rfl,rfl⟩:=gE hT
  simp [execOp,hx.eval ha hc,hy.eval ha hc,Instr.indexAt,asIntOf,run_underlying hu,h0 hc,h1 hc,sizeOf,typeInfo,hi,jD]) h
theorem iA {T m e sz:Nat} {x y:Operand} {k:IntKind} {b o:Nat} {j:Int} (ho:nth l i=some ⟨some d,.indexAddr T x y,t,p,af,g⟩) (hg:Gd l ρ g c) (hT:gP P T=some (m,e,sz)) (hx:Ev ρ c x (.pointer (some ⟨b,o,none⟩))) (hy:Ev ρ c y (.int k j))
  (h0:c=true→0≤j) (h1:c=true→j<m) (h:Wo dr mc P n l K σ ((d,c,.pointer (some ⟨b,o+j.toNat*sz,none⟩)) :: ρ) G μ):Wo dr mc P n l K (i :: σ) ρ G μ :=
 .pure ho (.inl rfl) hg (fun hc a w ha=>by
  obtain ⟨hu,inf,hi,rfl⟩:=sM hT
  simp [execOp,hx.eval ha hc,hy.eval ha hc,Instr.indexAt,asIntOf,run_underlying hu,h0 hc,h1 hc,sizeOf,typeInfo,hi,jD,Instr.sureAddr]) h
theorem ld {T:TypeId} {x:Operand} {ad:Addr} {v:Value} (ho:nth l i=some ⟨some d,.load T x,t,p,af,g⟩) (hg:Gd l ρ g c) (hT:dJ P T=some none) (hx:Ev ρ c x (.pointer (some ad))) (hr:c=true→Rd G μ ad v)
  (h:Wo dr mc P n l K σ ((d,c,v) :: ρ) G μ):Wo dr mc P n l K (i :: σ) ρ G μ :=
 .read ho (.inl rfl) hg (fun hc a w ha hs=>by simp [execOp,hx.eval ha hc,Instr.loadAt,Instr.sureAddr,aQU hT (hr hc w hs)]) h
theorem lA {T m:TypeId} {x:Operand} {b o:Nat} {cs:List Value} (ho:nth l i=some ⟨some d,.load T x,t,p,af,g⟩) (hg:Gd l ρ g c) (hT:dJ P T=some (some m)) (hx:Ev ρ c x (.pointer (some ⟨b,o,none⟩))) (hr:c=true→RdN G μ b o cs) (hn:c=true→cs.length=m)
  (h:Wo dr mc P n l K σ ((d,c,.agg cs.toArray) :: ρ) G μ):Wo dr mc P n l K (i :: σ) ρ G μ :=
 .read ho (.inl rfl) hg (fun hc a w ha hs=>by simp [execOp,hx.eval ha hc,Instr.loadAt,Instr.sureAddr,bI hT (hr hc) (hn hc) hs]) h
theorem al {T:TypeId} {cs:List Value} (ho:nth l i=some ⟨some d,.alloc T,t,p,af,none⟩) (hz:iD P T=some cs) (h:∀ b,Wo dr mc P n l K σ ((d,true,.pointer (some ⟨b,0,none⟩)) :: ρ) G (.blk b (cl cs T) :: μ)):Wo dr mc P n l K (i :: σ) ρ G μ:=by
 unfold iD at hz
 cases hz1:(P.info? T).bind (·.zero) with
 | none=>rw [hz1] at hz; cases hz
 | some z =>
  rw [hz1] at hz
  simp only [Option.map_some,Option.some.injEq] at hz
  subst hz
  refine .make (ob:=cl z.cells.toList T) (mkv:=fun b=>.pointer (some ⟨b,0,none⟩)) ho (.inl rfl) rfl (fun e w=>?_) h
  rw [aIc hz1]
theorem bx {T:TypeId} {x:Operand} {v:Value} {cs:List Value} (ho:nth l i=some ⟨some d,.box T x,t,p,af,none⟩) (hx:Ev ρ true x v) (hv:v.cells=cs.toArray) (h:∀ b,Wo dr mc P n l K σ ((d,true,.pointer (some ⟨b,0,none⟩)) :: ρ) G (.blk b (cl cs T) :: μ)):Wo dr mc P n l K (i :: σ) ρ G μ :=
 .box (ob:=cl cs T) (mkv:=fun b=>.pointer (some ⟨b,0,none⟩)) ho (.inl rfl) rfl (fun a w ha=>by simp [execOp,hx.eval ha rfl,Instr.box,newVar,newRow,hv,cl]) h
def put (cs:List Value) (o:Nat) (vs:List Value):List Value:=cs.take o++vs++cs.drop (o+vs.length)
theorem Tr.setRow {G:PM} {w:World} {b:Nat} {cs cs':List Value} {T:TypeId} (h:Sat G [.blk b (cl cs T)] w):Tr G [b] w G [.blk b (cl cs' T)] (w.setRow b cs'.toArray):=by
 have hb:w.heap[b]? = some (cl cs T):=h.own _ (List.mem_singleton.2 rfl)
 have hG:G b=none:=h.apart b (by simp [keys,Res.keys])
 refine ⟨⟨fun k o hk=>?_,?_,fun k hk=>?_,by simp [keys,Res.keys]⟩,rfl,rfl,rfl,by simp,fun k _ hk=>⟨setRow_other w b k _ (by simpa using hk),rfl⟩,fun k hk=>.inl (by simpa [keys,Res.keys] using hk),fun _ _ _ h=>h⟩
 ·rw [setRow_other w b k _ (fun e=>by subst e; rw [hG] at hk; cases hk)]; exact h.sub k o hk
 ·intro r hr
  rw [List.mem_singleton.1 hr]
  exact setRow_heap w b cs.toArray cs'.toArray T (0,0) hb
 simp only [keys,Res.keys,List.flatMap_cons,List.flatMap_nil,List.append_nil,List.mem_singleton] at hk
 rw [hk]; exact hG
theorem st {T T':TypeId} {x y:Operand} {b o:Nat} {v:Value} {cs vs:List Value} {μ':aH} (ho:nth l i=some ⟨none,.store T x y,t,p,af,none⟩) (hx:Ev ρ true x (.pointer (some ⟨b,o,none⟩))) (hy:Ev ρ true y v) (hv:v.cells=vs.toArray) (hz:dL P T=some vs.length)
  (hm:MTake μ (.blk b (cl cs T')) μ') (hl:o+vs.length≤cs.length) (h1:∀ u∈vs,u.oneCell'=true) (h:Wo dr mc P n l K σ ρ G (.blk b (cl (put cs o vs) T') :: μ')):Wo dr mc P n l K (i :: σ) ρ G μ:=by
 refine .act (μ₁:=[.blk b (cl cs T')]) (μ₂:=μ') (post:=fun G' μ' v=>G'=G∧μ'=[.blk b (cl (put cs o vs) T')]∧v=undef) ho (.inl rfl) .no hm.perm (fun a w ha hs=>.inl ?_) ?_
 ·have hs':=hs.left
  have hb:w.heap[b]? = some (cl cs T'):=hs'.own _ (List.mem_singleton.2 rfl)
  refine ⟨undef,w.setRow b (put cs o vs).toArray,G,_,.inr ⟨?_,rfl⟩,Tr.setRow hs',rfl,rfl,rfl⟩
  cases hi:P.info? T with
  | none=>simp [dL,hi] at hz
  | some inf =>
   simp only [dL,hi,Option.map_some,Option.some.injEq] at hz
   have:=run_storeCells_at P b o T' vs 0 cs.toArray w hb (by simpa using hl) h1
   simp only [Nat.add_zero] at this
   simp [execOp,hx.eval ha rfl,hy.eval ha rfl,Instr.storeAt,Instr.sureAddr,storeVar,hv,sizeOf,typeInfo,hi,hz,this,put]
 rintro v G' μ'' _ ⟨rfl,rfl,rfl⟩
 exact h
theorem sw {T T':TypeId} {x y:Operand} {b:Nat} {v:Value} {cs vs:List Value} {μ':aH} (ho:nth l i=some ⟨none,.store T x y,t,p,af,none⟩) (hx:Ev ρ true x (.pointer (some ⟨b,0,none⟩))) (hy:Ev ρ true y v) (hv:v.cells=vs.toArray) (hz:dL P T=some vs.length)
  (hm:MTake μ (.blk b (cl cs T')) μ') (hl:vs.length=cs.length) (h1:∀ u∈vs,u.oneCell'=true) (h:Wo dr mc P n l K σ ρ G (.blk b (cl vs T') :: μ')):Wo dr mc P n l K (i :: σ) ρ G μ:=by
 refine st ho hx hy hv hz hm (by omega) h1 ?_
 have:put cs 0 vs=vs:=by simp [put,hl]
 rw [this]; exact h
theorem s1 {T T':TypeId} {x y:Operand} {b o:Nat} {v:Value} {cs cs':List Value} {μ':aH} (ho:nth l i=some ⟨none,.store T x y,t,p,af,none⟩) (hx:Ev ρ true x (.pointer (some ⟨b,o,none⟩))) (hy:Ev ρ true y v) (hv:v.oneCell'=true) (hz:dL P T=some 1)
  (hm:MTake μ (.blk b (cl cs T')) μ') (hl:o<cs.length) (hcs:cs.set o v=cs') (h:Wo dr mc P n l K σ ρ G (.blk b (cl cs' T') :: μ')):Wo dr mc P n l K (i :: σ) ρ G μ:=by
 have hv':v.cells=[v].toArray:=by cases v<;>first|rfl | cases hv
 refine st ho hx hy hv' hz hm (by simp only [List.length_singleton]; omega) (fun u hu=>by rw [List.mem_singleton.1 hu]; exact hv) ?_
 have:put cs o [v]=cs':=by rw [← hcs,List.set_eq_take_append_cons_drop,if_pos hl]; simp [put]
 rw [this]; exact h
theorem aF {ρ:aO} {n:Nat} {c:Bool}:∀ a,Ag n ρ a→c=true→([]:List Operand).map a.eval=[]:=fun _ _ _=>rfl
theorem Eva.cons {ρ:aO} {n:Nat} {c:Bool} {x:Operand} {v:Value} {ps:List Operand} {vs:List Value} (hx:Ev ρ c x v) (h:∀ a,Ag n ρ a→c=true→ps.map a.eval=vs) :
  ∀ a,Ag n ρ a→c=true→(x :: ps).map a.eval=v :: vs:=fun a ha hc=>by simp [hx.eval ha hc]; simpa using h a ha hc
def aU (P:Program) (f:FuncId):Bool:=match P.funcs[f]? with | some fn => !(fn.name == "runtime.NumGoroutine")&&fn.body.isSome | none=>false
theorem aD4 {P:Program} {f:FuncId} {vs:Array Value} (hf:aU P f=true) (w:World):(callFunc f vs).run P w=.ok (.enter f vs) w:=by
 unfold aU at hf
 split at hf
 ·rename_i fn h1
  simp only [Bool.and_eq_true,Bool.not_eq_true'] at hf
  unfold callFunc
  cases hb:fn.body with
  | none=>rw [hb] at hf; simp at hf
  | some c =>
   have h2:¬ fn.name = "runtime.NumGoroutine" := by have:=hf.1; simpa using this
   simp [h1,hb,h2]
 ·cases hf
theorem xM {P:Program} {f:FuncId} {xs:List Operand} {tys:Array TypeId} {vs:List Value} {a:Act} (hf:aU P f=true) (hv:xs.map a.eval=vs) (d:Option Nat) (t:TypeId) (p:String) (af:Array Edge) (g:Option (Nat×Bool)) (w:World) :
  (execOp a.eval ⟨d,.call { callee:=.value (.func f),args:=xs.toArray,argTypes:=tys },t,p,af,g⟩).run P w=.ok (.enter f vs.toArray) w:=by
 simp [execOp,resolve,Deferred.ofValue,Act.eval,invoke,aD4 hf]
 simpa using hv
theorem kv {f:FuncId} {xs:List Operand} {tys:Array TypeId} {vs:List Value} {v:Value} (ho:nth l i=some ⟨some d,.call { callee:=.value (.func f),args:=xs.toArray,argTypes:=tys },t,p,af,g⟩) (hg:Gd l ρ g c) (hf:aU P f=true)
  (hv:∀ a,Ag n ρ a→c=true→xs.map a.eval=vs) (hk:c=true→Ct P f vs.toArray G [] fun _ μ' u=>μ'=[]∧u=v) (h:Wo dr mc P n l K σ ((d,c,v) :: ρ) G μ):Wo dr mc P n l K (i :: σ) ρ G μ :=
 .callv ho (by rcases mc with ⟨_ | _,_⟩<;>simp [cA]) hg (fun hc a w ha=>xM hf (hv a ha hc) _ _ _ _ _ w) (fun hc _ hs=>⟨hs.sub,hk hc⟩) h
structure GpR (G:PM) (μ:aH) (Gp:PM) (Q:Prop):Prop where
 ok:∀ w,Sat G μ w→PM.le G Gp∧Q∧(∀ b o,Gp b=some o→w.heap[b]? = some o)∧∀ b,b∉keys μ→Gp b=G b
theorem kp {f:FuncId} {xs:List Operand} {tys:Array TypeId} {vs:List Value} {v:Value} {Gp:PM} {Q:Prop} (ho:nth l i=some ⟨some d,.call { callee:=.value (.func f),args:=xs.toArray,argTypes:=tys },t,p,af,g⟩) (hg:Gd l ρ g c) (hf:aU P f=true)
  (hv:∀ a,Ag n ρ a→c=true→xs.map a.eval=vs) (hp:GpR G μ Gp Q) (hk:c=true→PM.le G Gp→Q→Ct P f vs.toArray Gp [] fun _ μ' u=>μ'=[]∧u=v) (h:Wo dr mc P n l K σ ((d,c,v) :: ρ) G μ):Wo dr mc P n l K (i :: σ) ρ G μ :=
 .callv ho (by rcases mc with ⟨_ | _,_⟩<;>simp [cA]) hg (fun hc a w ha=>xM hf (hv a ha hc) _ _ _ _ _ w) (fun hc w hs=>⟨(hp.ok w hs).2.2.1,hk hc (hp.ok w hs).1 (hp.ok w hs).2.1⟩) h
theorem Gp.nil {G:PM} {μ:aH}:GpR G μ G True:=⟨fun _ hs=>⟨PM.le.refl G,trivial,hs.sub,fun _ _=>rfl⟩⟩
theorem Gp.add {G G1:PM} {μ μ':aH} {b:Nat} {o:Obj} {Q:Prop} (hm:MTake μ (.blk b o) μ') (h:GpR G μ' G1 Q):GpR G μ (G1.add b o) (PM.le G1 (G1.add b o)∧Q):=by
 refine ⟨fun w hs=>?_⟩
 have hs2:=hs.perm hm.perm
 have hk:keys (.blk b o :: μ')=b :: keys μ':=by simp [keys,Res.keys]
 have hs':Sat G μ' w:=Sat.left (ν:=[.blk b o]) (hs2.perm (List.perm_append_comm (l₁:=[Res.blk b o])))
 obtain ⟨h1,h2,h3,h4⟩:=h.ok w hs'
 have hb:w.heap[b]? = some o:=hs2.own _ (List.mem_cons_self ..)
 have hGb:G b=none:=hs2.apart b (by rw [hk]; exact List.mem_cons_self ..)
 have hnb:b∉keys μ':=by have:=hs2.nodup; rw [hk] at this; exact (List.nodup_cons.1 this).1
 have hle:PM.le G1 (G1.add b o):=sK (by rw [h4 b hnb]; exact hGb)
 refine ⟨h1.trans hle,⟨hle,h2⟩,fun c u hc=>?_,fun c hc=>?_⟩
 ·unfold PM.add at hc
  split at hc
  ·rename_i e; subst e; cases hc; exact hb
  exact h3 c u hc
 have hc':c≠b∧c∉keys μ':=by
  have h5:c∉b :: keys μ':=fun hm'=>hc ((wS hm.perm).mem_iff.2 (by rw [hk]; exact hm'))
  simpa using h5
 unfold PM.add
 rw [if_neg hc'.1]
 exact h4 c hc'.2
theorem kc {f:FuncId} {xs:List Operand} {tys:Array TypeId} {vs:List Value} {post:PM→aH→Value→Prop} {dd:Option Nat} (ho:nth l i=some ⟨dd,.call { callee:=.value (.func f),args:=xs.toArray,argTypes:=tys },t,p,af,none⟩) (hf:aU P f=true)
  (hv:∀ a,Ag n ρ a→true=true→xs.map a.eval=vs) (hk:Ct P f vs.toArray G [] post) (h:∀ v G' μ',PM.le G G'→post G' μ' v→Wo dr mc P n l K σ (dM ρ dd true v) G' (μ'++μ)):Wo dr mc P n l K (i :: σ) ρ G μ :=
 .call ho (by rcases mc with ⟨_ | _,_⟩<;>simp [cA]) .no (fun a w ha=>xM hf (hv a ha rfl) _ _ _ _ _ w) hk h
theorem kcg {f:FuncId} {xs:List Operand} {tys:Array TypeId} {vs:List Value} {post:PM→aH→Value→Prop} {dd:Option Nat} (ho:nth l i=some ⟨dd,.call { callee:=.value (.func f),args:=xs.toArray,argTypes:=tys },t,p,af,g⟩) (hg:Gd l ρ g true) (hf:aU P f=true)
  (hv:∀ a,Ag n ρ a→true=true→xs.map a.eval=vs) (hk:Ct P f vs.toArray G [] post) (h:∀ v G' μ',PM.le G G'→post G' μ' v→Wo dr mc P n l K σ (dM ρ dd true v) G' (μ'++μ)):Wo dr mc P n l K (i :: σ) ρ G μ :=
 .call ho (by rcases mc with ⟨_ | _,_⟩<;>simp [cA]) hg (fun a w ha=>xM hf (hv a ha rfl) _ _ _ _ _ w) hk h
theorem ka {f:FuncId} {xs:List Operand} {tys:Array TypeId} {vs:List Value} {μ₁ μ₂:aH} {post:PM→aH→Value→Prop} {dd:Option Nat} (ho:nth l i=some ⟨dd,.call { callee:=.value (.func f),args:=xs.toArray,argTypes:=tys },t,p,af,none⟩) (hm:mc.c=true∨dr=false) (hf:aU P f=true)
  (hv:∀ a,Ag n ρ a→true=true→xs.map a.eval=vs) (hp:μ.Perm (μ₁++μ₂)) (hk:Ct P f vs.toArray G μ₁ post) (h:∀ v G' μ',PM.le G G'→post G' μ' v→Wo dr mc P n l K σ (dM ρ dd true v) G' (μ'++μ₂)):Wo dr mc P n l K (i :: σ) ρ G μ :=
 .act ho (by rcases hm with h|rfl<;>simp_all [cA]) .no hp (fun a w ha _=>.inr ⟨f,_,xM hf (hv a ha rfl) _ _ _ _ _ w,hk⟩) h
theorem kag {f:FuncId} {xs:List Operand} {tys:Array TypeId} {vs:List Value} {μ₁ μ₂:aH} {post:PM→aH→Value→Prop} {dd:Option Nat} (ho:nth l i=some ⟨dd,.call { callee:=.value (.func f),args:=xs.toArray,argTypes:=tys },t,p,af,g⟩) (hg:Gd l ρ g true) (hm:mc.c=true∨dr=false) (hf:aU P f=true)
  (hv:∀ a,Ag n ρ a→true=true→xs.map a.eval=vs) (hp:μ.Perm (μ₁++μ₂)) (hk:Ct P f vs.toArray G μ₁ post) (h:∀ v G' μ',PM.le G G'→post G' μ' v→Wo dr mc P n l K σ (dM ρ dd true v) G' (μ'++μ₂)):Wo dr mc P n l K (i :: σ) ρ G μ :=
 .act ho (by rcases hm with h|rfl<;>simp_all [cA]) hg hp (fun a w ha _=>.inr ⟨f,_,xM hf (hv a ha rfl) _ _ _ _ _ w,hk⟩) h
end
theorem mV {dr:Bool} {mc:Md} {P:Program} {n:Nat} {l:List Oper} {K:aO→PM→aH→Prop} {i:Nat} {σ:List Nat} {ρ:aO} {G:PM} {μ:aH} {d t:Nat} {p:String} {af:Array Edge} {x:Operand} {v:Value} (ho:nth l i=some ⟨some d,.move x,t,p,af,none⟩) (hx:ev ρ x=some (true,v)) (h:Wo dr mc P n l K σ ((d,true,v) :: ρ) G μ):Wo dr mc P n l K (i :: σ) ρ G μ:=mv ho .no (.u hx) h
theorem aS {dr:Bool} {mc:Md} {P:Program} {n:Nat} {l:List Oper} {K:aO→PM→aH→Prop} {i:Nat} {σ:List Nat} {ρ:aO} {G:PM} {μ:aH} {d t:Nat} {p:String} {af:Array Edge} {x:Operand} {v:Value} (ho:nth l i=some ⟨some d,.assign x,t,p,af,none⟩) (hx:ev ρ x=some (true,v)) (h:Wo dr mc P n l K σ ((d,true,v) :: ρ) G μ):Wo dr mc P n l K (i :: σ) ρ G μ:=asg ho .no (.u hx) h
theorem aB {ρ:aO} {n:Nat} {c:Bool} {x:Operand} {v:Value} {ps:List Operand} {vs:List Value} (hx:ev ρ x=some (true,v)) (h:∀ a,Ag n ρ a→c=true→ps.map a.eval=vs):∀ a,Ag n ρ a→c=true→(x :: ps).map a.eval=v :: vs:=Eva.cons (.u hx) h
theorem cP {dr:Bool} {mc:Md} {P:Program} {n:Nat} {l:List Oper} {K:aO→PM→aH→Prop} {i:Nat} {σ:List Nat} {ρ:aO} {G:PM} {μ:aH} {d t:Nat} {p:String} {af:Array Edge} {op:BinOp} {T T':TypeId} {x y:Operand} {k:IntKind} {a1 a2:Int} {r:Bool} (ho:nth l i=some ⟨some d,.binOp op T x y T',t,p,af,none⟩) (hx:ev ρ x=some (true,.int k a1)) (hy:ev ρ y=some (true,.int k a2)) (hr:aBE op a1 a2=some r) (h:Wo dr mc P n l K σ ((d,true,.bool r) :: ρ) G μ):Wo dr mc P n l K (i :: σ) ρ G μ:=cp ho .no (.u hx) (.u hy) hr h
theorem fZ {dr:Bool} {mc:Md} {P:Program} {n:Nat} {l:List Oper} {K:aO→PM→aH→Prop} {i:Nat} {σ:List Nat} {ρ:aO} {G:PM} {μ:aH} {d t:Nat} {p:String} {af:Array Edge} {s f k:Nat} {x:Operand} {b:Nat} (ho:nth l i=some ⟨some d,.fieldAddr s x f,t,p,af,none⟩) (hF:cO P s f=some k) (hx:ev ρ x=some (true,.pointer (some ⟨b,0,none⟩))) (h:Wo dr mc P n l K σ ((d,true,.pointer (some ⟨b,k,none⟩)) :: ρ) G μ):Wo dr mc P n l K (i :: σ) ρ G μ:=fz ho .no hF (.u hx) h
theorem fA {dr:Bool} {mc:Md} {P:Program} {n:Nat} {l:List Oper} {K:aO→PM→aH→Prop} {i:Nat} {σ:List Nat} {ρ:aO} {G:PM} {μ:aH} {d t:Nat} {p:String} {af:Array Edge} {s f k:Nat} {x:Operand} {b o:Nat} (ho:nth l i=some ⟨some d,.fieldAddr s x f,t,p,af,none⟩) (hF:cO P s f=some k) (hx:ev ρ x=some (true,.pointer (some ⟨b,o,none⟩))) (h:Wo dr mc P n l K σ ((d,true,.pointer (some ⟨b,o+k,none⟩)) :: ρ) G μ):Wo dr mc P n l K (i :: σ) ρ G μ:=fa ho .no hF (.u hx) h
theorem lO {dr:Bool} {mc:Md} {P:Program} {n:Nat} {l:List Oper} {K:aO→PM→aH→Prop} {i:Nat} {σ:List Nat} {ρ:aO} {G:PM} {μ:aH} {d t:Nat} {p:String} {af:Array Edge} {T:TypeId} {x:Operand} {b off:Nat} {cs:List Value} {T':TypeId} {v:Value} {μ':aH} (ho:nth l i=some ⟨some d,.load T x,t,p,af,none⟩) (hT:dJ P T=some none) (hx:ev ρ x=some (true,.pointer (some ⟨b,off,none⟩))) (hm:MTake μ (.blk b (cl cs T')) μ') (hv:cs[off]? = some v) (h:Wo dr mc P n l K σ ((d,true,v) :: ρ) G μ):Wo dr mc P n l K (i :: σ) ρ G μ:=ld ho .no hT (.u hx) (fun _=>Rd.own hm hv) h
theorem lN {dr:Bool} {mc:Md} {P:Program} {n:Nat} {l:List Oper} {K:aO→PM→aH→Prop} {i:Nat} {σ:List Nat} {ρ:aO} {G:PM} {μ:aH} {d t:Nat} {p:String} {af:Array Edge} {T:TypeId} {x:Operand} {ad:Addr} {v:Value} (ho:nth l i=some ⟨some d,.load T x,t,p,af,none⟩) (hT:dJ P T=some none) (hx:ev ρ x=some (true,.pointer (some ad))) (hr:Rd G μ ad v) (h:Wo dr mc P n l K σ ((d,true,v) :: ρ) G μ):Wo dr mc P n l K (i :: σ) ρ G μ:=ld ho .no hT (.u hx) (fun _=>hr) h
theorem lB {dr:Bool} {mc:Md} {P:Program} {n:Nat} {l:List Oper} {K:aO→PM→aH→Prop} {i:Nat} {σ:List Nat} {ρ:aO} {G:PM} {μ:aH} {d t:Nat} {p:String} {af:Array Edge} {T m:TypeId} {x:Operand} {b:Nat} {cs:List Value} {T':TypeId} {μ':aH} (ho:nth l i=some ⟨some d,.load T x,t,p,af,none⟩) (hT:dJ P T=some (some m)) (hx:ev ρ x=some (true,.pointer (some ⟨b,0,none⟩))) (hm:MTake μ (.blk b (cl cs T')) μ') (h:Wo dr mc P n l K σ ((d,true,.agg cs.toArray) :: ρ) G μ) (hn:cs.length=m:=by first | exact qE | exact qL | rfl):Wo dr mc P n l K (i :: σ) ρ G μ:=lA ho .no hT (.u hx) (fun _=>RdN.own hm) (fun _=>hn) h
theorem aR {dr:Bool} {mc:Md} {P:Program} {n:Nat} {l:List Oper} {K:aO→PM→aH→Prop} {i:Nat} {σ:List Nat} {ρ:aO} {G:PM} {μ:aH} {d t:Nat} {p:String} {af:Array Edge} {op:BinOp} {T T':TypeId} {x y:Operand} {a1 a2 r:Int} (ho:nth l i=some ⟨some d,.binOp op T x y T',t,p,af,none⟩) (hx:ev ρ x=some (true,.int .i64 a1)) (hy:ev ρ y=some (true,.int .i64 a2)) (hr:wC op a1 a2=some r) (h:Wo dr mc P n l K σ ((d,true,.int .i64 r) :: ρ) G μ) (hw : -9223372036854775808≤r∧r≤9223372036854775807:=by omega):Wo dr mc P n l K (i :: σ) ρ G μ:=ar ho .no (.u hx) (.u hy) hr (fun _=>bO (by omega) (by omega)) h
theorem eX {dr:Bool} {mc:Md} {P:Program} {n:Nat} {l:List Oper} {K:aO→PM→aH→Prop} {i:Nat} {σ:List Nat} {ρ:aO} {G:PM} {μ:aH} {d t:Nat} {p:String} {af:Array Edge} {x:Operand} {vs:List Value} {j:Nat} {v:Value} (ho:nth l i=some ⟨some d,.extract x j,t,p,af,none⟩) (hx:ev ρ x=some (true,.tuple vs.toArray)) (hv:vs[j]? = some v) (h:Wo dr mc P n l K σ ((d,true,v) :: ρ) G μ):Wo dr mc P n l K (i :: σ) ρ G μ:=ex ho .no (.u hx) hv h
theorem nC {dr:Bool} {mc:Md} {P:Program} {n:Nat} {l:List Oper} {K:aO→PM→aH→Prop} {i:Nat} {σ:List Nat} {ρ:aO} {G:PM} {μ:aH} {d t:Nat} {p:String} {af:Array Edge} {x:Operand} {ad:Addr} (ho:nth l i=some ⟨some d,.nilCheck x,t,p,af,none⟩) (hx:ev ρ x=some (true,.pointer (some ad))) (h:Wo dr mc P n l K σ ((d,true,.pointer (some ad)) :: ρ) G μ):Wo dr mc P n l K (i :: σ) ρ G μ:=nc ho .no (.u hx) h
theorem lE {dr:Bool} {mc:Md} {P:Program} {n:Nat} {l:List Oper} {K:aO→PM→aH→Prop} {i:Nat} {σ:List Nat} {ρ:aO} {G:PM} {μ:aH} {d t:Nat} {p:String} {af:Array Edge} {T:TypeId} {x:Operand} {oa:Option Addr} {m cp:Nat} (ho:nth l i=some ⟨some d,.call { callee:=.builtin .len,args:=#[x],argTypes:=#[T] },t,p,af,none⟩) (hT:(cL P T).isSome=true) (hx:ev ρ x=some (true,.slice oa m cp)) (h:Wo dr mc P n l K σ ((d,true,.int .i64 m) :: ρ) G μ):Wo dr mc P n l K (i :: σ) ρ G μ:=ln ho .no hT (.u hx) h
theorem bX {dr:Bool} {mc:Md} {P:Program} {n:Nat} {l:List Oper} {K:aO→PM→aH→Prop} {i:Nat} {σ:List Nat} {ρ:aO} {G:PM} {μ:aH} {d t:Nat} {p:String} {af:Array Edge} {T:TypeId} {x:Operand} {v:Value} {cs:List Value} (ho:nth l i=some ⟨some d,.box T x,t,p,af,none⟩) (hx:ev ρ x=some (true,v)) (hv:v.cells=cs.toArray) (h:∀ b,Wo dr mc P n l K σ ((d,true,.pointer (some ⟨b,0,none⟩)) :: ρ) G (.blk b (cl cs T) :: μ)):Wo dr mc P n l K (i :: σ) ρ G μ:=bx ho (.u hx) hv h
theorem kV {dr:Bool} {mc:Md} {P:Program} {n:Nat} {l:List Oper} {K:aO→PM→aH→Prop} {i:Nat} {σ:List Nat} {ρ:aO} {G:PM} {μ:aH} {d t:Nat} {p:String} {af:Array Edge} {f:FuncId} {xs:List Operand} {tys:Array TypeId} {vs:List Value} {v:Value} (ho:nth l i=some ⟨some d,.call { callee:=.value (.func f),args:=xs.toArray,argTypes:=tys },t,p,af,none⟩) (hf:aU P f=true) (hv:∀ a,Ag n ρ a→true=true→xs.map a.eval=vs) (hk:Ct P f vs.toArray G [] fun _ μ' u=>μ'=[]∧u=v) (h:Wo dr mc P n l K σ ((d,true,v) :: ρ) G μ):Wo dr mc P n l K (i :: σ) ρ G μ:=kv ho .no hf hv (fun _=>hk) h
theorem iW {dr:Bool} {mc:Md} {P:Program} {n:Nat} {l:List Oper} {K:aO→PM→aH→Prop} {i:Nat} {σ:List Nat} {ρ:aO} {G:PM} {μ:aH} {d t:Nat} {p:String} {af:Array Edge} {T m e sz:Nat} {x y:Operand} {k:IntKind} {b o:Nat} {j:Int} (ho:nth l i=some ⟨some d,.indexAddr T x y,t,p,af,none⟩) (hT:gP P T=some (m,e,sz)) (hx:ev ρ x=some (true,.pointer (some ⟨b,o,none⟩))) (hy:ev ρ y=some (true,.int k j)) (h:Wo dr mc P n l K σ ((d,true,.pointer (some ⟨b,o+j.toNat*sz,none⟩)) :: ρ) G μ) (h0:0≤j:=by first | omega | decide) (h1:j<m:=by first | omega | decide):Wo dr mc P n l K (i :: σ) ρ G μ:=iA ho .no hT (.u hx) (.u hy) (fun _=>h0) (fun _=>h1) h
theorem aV {X:Cx} {k:List KI} {ρ:aO} {G:PM} {μ:aH} {c:Code} {α:Type} (E:α→aO) (M:α→aH) (F:α→PM→Prop) (m:α→Nat) (x0:α) (ρc:aO) (μc:aH) (hE:ESub (E x0++ρc) ρ) (hM:MSub (M x0++μc) μ) (hF:F x0 G)
  (round:∀ x N G',m x=N→PM.le G G'→F x G'→Wk X c (.lp (fun a w=>∃ y,m y<N∧Inv X G (fun x=>E x++ρc) (fun x=>M x++μc) F y a w) :: k) (E x++ρc) G' (M x++μc)):Wk X (.loop c) k ρ G μ :=
 Wk.loop (fun x=>E x++ρc) (fun x=>M x++μc) F m x0 hF hE hM fun x G' hle hF=>round x (m x) G' rfl hle hF
theorem aP {X:Cx} {k:List KI} {ρ:aO} {G:PM} {μ:aH} {α:Type} {Gs:PM} {E:α→aO} {M:α→aH} {F:α→PM→Prop} {m:α→Nat} {N:Nat} {ρc:aO} {μc:aH} (y:α) (hE:ESub (E y++ρc) ρ) (hM:MSub (M y++μc) μ) (hm:m y<N) (hle:PM.le Gs G) (hF:F y G) :
  We X .normal (.lp (fun a w=>∃ y,m y<N∧Inv X Gs (fun x=>E x++ρc) (fun x=>M x++μc) F y a w) :: k) ρ G μ :=
 ⟨fun _ _ ha ht=>⟨y,hm,⟨G,hle,hF,ha.sub hE,hM.tr ht⟩⟩⟩
theorem jQ {X:Cx} {k:List KI} {ρ:aO} {G:PM} {μ:aH} {x y:Code} {cd:Operand} {b:Bool} (hc:ev ρ cd=some (true,.bool b)) (hb:b=true) (h:Wk X x k ρ G μ):Wk X (.cond cd x y) k ρ G μ :=
 Wk.cond hc (fun _=>h) (fun h'=>by rw [hb] at h'; cases h')
theorem rJ {X:Cx} {k:List KI} {ρ:aO} {G:PM} {μ:aH} {x y:Code} {cd:Operand} {b:Bool} (hc:ev ρ cd=some (true,.bool b)) (hb:b=false) (h:Wk X y k ρ G μ):Wk X (.cond cd x y) k ρ G μ :=
 Wk.cond hc (fun h'=>by rw [hb] at h'; cases h') (fun _=>h)
theorem pF {X:Cx} {k:List KI} {ρ:aO} {G:PM} {μ:aH} {id:Nat} {l:List Oper} (σ:List Nat) (hσ:List.range l.length=σ) (hds:kH X.n l=true) (h:Wo false ⟨false,false⟩ X.P X.n l (fun ρ G μ=>We X .normal k ρ G μ) σ ρ G μ) :
  Wk X (.region id l.toArray false) k ρ G μ:=Wk.region hds (hσ▸h)
theorem RdNP.z {G:PM} {b k:Nat} {cs:List Value} {v:Value} (h:RdNP G b 0 cs) (hk:cs[k]? = some v):RdP G ⟨b,k,none⟩ v:=by have:=h k v hk; rwa [Nat.zero_add] at this
structure Sh where
 oa:Option Addr
 cap:Nat
def Sh.b (h:Sh):Nat:=(h.oa.getD ⟨0,0,none⟩).block
def Sh.o (h:Sh):Nat:=(h.oa.getD ⟨0,0,none⟩).off
def Sh.val (h:Sh) (n:Nat):Value:=.slice h.oa n h.cap
structure SlR {α:Type} (G:PM) (sz:Nat) (enc:α→List Value) (h:Sh) (xs:List α):Prop where
 there:xs≠[]→h.oa=some ⟨h.b,h.o,none⟩
 le:xs.length≤h.cap
 rd:∀ i x,xs[i]? = some x→RdNP G h.b (h.o+i*sz) (enc x)
theorem SlR.mono {α:Type} {G G':PM} {sz:Nat} {enc:α→List Value} {h:Sh} {xs:List α} (s:SlR G sz enc h xs) (hle:PM.le G G'):SlR G' sz enc h xs :=
 ⟨s.there,s.le,fun i x hx=>(s.rd i x hx).mono hle⟩
theorem SlR.nn {α:Type} {G:PM} {sz:Nat} {enc:α→List Value} {h:Sh} {xs:List α} (s:SlR G sz enc h xs) {k:Nat} (hk:k<xs.length):h.oa=some ⟨h.b,h.o,none⟩:=s.there (fun e=>by subst e; simp at hk)
theorem SlR.at {α:Type} {G:PM} {sz:Nat} {enc:α→List Value} {h:Sh} {xs:List α} (s:SlR G sz enc h xs) {j:Int} {k:Nat} {x:α} (hj:j.toNat=k) (hx:xs[k]? = some x):RdNP G h.b (h.o+j.toNat*sz) (enc x):=by
 subst hj; exact s.rd _ x hx
theorem SlR.nul {α:Type} {G:PM} {sz:Nat} {enc:α→List Value}:SlR G sz enc ⟨Option.none,0⟩ ([]:List α):=⟨fun h=>absurd rfl h,by simp,fun i x h=>by simp at h⟩
section
variable {dr:Bool} {mc:Md} {P:Program} {n:Nat} {l:List Oper} {K:aO→PM→aH→Prop} {i:Nat} {σ:List Nat} {ρ:aO} {G:PM} {μ:aH}
variable {d t:Nat} {p:String} {af:Array Edge} {g:Option (Nat×Bool)} {c:Bool}
theorem ih {T e sz by':Nat} {x y:Operand} {k:IntKind} {s:Sh} {m:Nat} {j:Int} (ho:nth l i=some ⟨some d,.indexAddr T x y,t,p,af,g⟩) (hg:Gd l ρ g c) (hT:cL P T=some (e,sz,by')) (hx:Ev ρ c x (s.val m)) (hy:Ev ρ c y (.int k j))
  (h0:c=true→0≤j) (h1:c=true→j<m) (hn:c=true→s.oa=some ⟨s.b,s.o,none⟩) (h:Wo dr mc P n l K σ ((d,c,.pointer (some ⟨s.b,s.o+j.toNat*sz,none⟩)) :: ρ) G μ):Wo dr mc P n l K (i :: σ) ρ G μ :=
 .pure ho (.inl rfl) hg (fun hc a w ha=>by
  obtain ⟨hu,inf,hi,rfl,rfl⟩:=gE hT
  have hx':=hx.eval ha hc
  simp only [Sh.val] at hx'
  rw [hn hc] at hx'
  simp [execOp,hx',hy.eval ha hc,Instr.indexAt,asIntOf,run_underlying hu,h0 hc,h1 hc,sizeOf,typeInfo,hi,jD]) h
theorem lh {T:TypeId} {x:Operand} {s:Sh} {m:Nat} (ho:nth l i=some ⟨some d,.call { callee:=.builtin .len,args:=#[x],argTypes:=#[T] },t,p,af,g⟩) (hg:Gd l ρ g c) (hT:(cL P T).isSome=true) (hx:Ev ρ c x (s.val m))
  (h:Wo dr mc P n l K σ ((d,c,.int .i64 m) :: ρ) G μ):Wo dr mc P n l K (i :: σ) ρ G μ:=ln ho hg hT hx h
def Sh.cut (s:Sh) (lo sz:Nat):Sh:=⟨if s.cap=lo then s.oa else s.oa.map (·.add (lo*sz)),s.cap-lo⟩
theorem sc {T e sz by':Nat} {x y z:Operand} {k k':IntKind} {s:Sh} {m:Nat} {lo hi:Int} (ho:nth l i=some ⟨some d,.slice T x (some y) (some z) none,t,p,af,g⟩) (hg:Gd l ρ g c) (hT:cL P T=some (e,sz,by')) (hx:Ev ρ c x (s.val m)) (hy:Ev ρ c y (.int k lo)) (hz:Ev ρ c z (.int k' hi))
  (h0:c=true→0≤lo) (h1:c=true→lo≤hi) (h2:c=true→hi≤s.cap) (h:Wo dr mc P n l K σ ((d,c,(s.cut lo.toNat sz).val (hi.toNat-lo.toNat)) :: ρ) G μ):Wo dr mc P n l K (i :: σ) ρ G μ :=
 .pure ho (.inl rfl) hg (fun hc a w ha=>by
  obtain ⟨hu,inf,hi',rfl,rfl⟩:=gE hT
  have hx':=hx.eval ha hc
  simp only [Sh.val] at hx'
  have:=h0 hc; have:=h1 hc; have:=h2 hc
  simp [execOp,hx',hy.eval ha hc,hz.eval ha hc,Instr.sliceAt,run_underlying hu,Instr.slice,Instr.sliceBounds,Instr.sliceBound,asIntOf,show 0≤hi by omega,h0 hc,h2 hc,sizeOf,typeInfo,hi',Sh.val,Sh.cut]
  intro hlt; exfalso; omega) h
theorem scn {T e sz by' q:Nat} {x y z:Operand} {k k':IntKind} {s:Sh} {m:Nat} {lo hi:Int} (ho:nth l i=some ⟨some d,.slice T x (some y) (some z) none,t,p,af,g⟩) (hg:Gd l ρ g c) (hT:cL P T=some (e,sz,by')) (hx:Ev ρ c x (s.val m)) (hy:Ev ρ c y (.int k lo)) (hz:Ev ρ c z (.int k' hi))
  (h0:c=true→0≤lo) (h1:c=true→lo≤hi) (h2:c=true→hi≤s.cap) (hq:c=true→hi.toNat-lo.toNat=q) (h:Wo dr mc P n l K σ ((d,c,(s.cut lo.toNat sz).val q) :: ρ) G μ):Wo dr mc P n l K (i :: σ) ρ G μ :=
 .pure ho (.inl rfl) hg (fun hc a w ha=>by
  obtain ⟨hu,inf,hi',rfl,rfl⟩:=gE hT
  have hx':=hx.eval ha hc
  simp only [Sh.val] at hx'
  have:=h0 hc; have:=h1 hc; have:=h2 hc
  rw [← hq hc]
  simp [execOp,hx',hy.eval ha hc,hz.eval ha hc,Instr.sliceAt,run_underlying hu,Instr.slice,Instr.sliceBounds,Instr.sliceBound,asIntOf,show 0≤hi by omega,h0 hc,h2 hc,sizeOf,typeInfo,hi',Sh.val,Sh.cut]
  intro hlt; exfalso; omega) h
theorem ix {T m e:Nat} {x y:Operand} {k:IntKind} {cs:List Value} {j:Int} {v:Value} (ho:nth l i=some ⟨some d,.index T x y,t,p,af,g⟩) (hg:Gd l ρ g c) (hT:gP P T=some (m,e,1)) (hE:dJ P e=some none) (hx:Ev ρ c x (.agg cs.toArray)) (hy:Ev ρ c y (.int k j))
  (h0:c=true→0≤j) (h1:c=true→j<m) (hv:c=true→cs[j.toNat]? = some v) (h:Wo dr mc P n l K σ ((d,c,v) :: ρ) G μ):Wo dr mc P n l K (i :: σ) ρ G μ :=
 .pure ho (.inl rfl) hg (fun hc a w ha=>by
  obtain ⟨hu,inf,hi,hs⟩:=sM hT
  simp [execOp,hx.eval ha hc,hy.eval ha hc,Instr.index,asIntOf,run_underlying hu,h0 hc,h1 hc,sizeOf,typeInfo,hi,hs,part,aFF hE,hv hc]) h
theorem mA {T T':TypeId} {x y:Operand} {k:IntKind} {a1 a2:Int} (ho:nth l i=some ⟨some d,.call { callee:=.builtin .max,args:=#[x,y],argTypes:=#[T,T'] },t,p,af,g⟩) (hg:Gd l ρ g c) (hx:Ev ρ c x (.int k a1)) (hy:Ev ρ c y (.int k a2))
  (h:Wo dr mc P n l K σ ((d,c,.int k (if a2 > a1 then a2 else a1)) :: ρ) G μ):Wo dr mc P n l K (i :: σ) ρ G μ :=
 .read ho (.inl rfl) hg (fun hc a w ha _=>by
  simp [execOp,resolve,invoke,builtin,hx.eval ha hc,hy.eval ha hc,Builtin.max_,Builtin.max2]) h
theorem kf {f:FuncId} {fv:Operand} {xs:List Operand} {tys:Array TypeId} {vs vc:List Value} {v:Value} (ho:nth l i=some ⟨some d,.call { callee:=.value fv,args:=xs.toArray,argTypes:=tys },t,p,af,g⟩) (hg:Gd l ρ g c) (hfv:Ev ρ c fv (.func (.func f) #[] vc.toArray)) (hf:aU P f=true)
  (hv:∀ a,Ag n ρ a→c=true→xs.map a.eval=vs) (hk:c=true→Ct P f (vs++vc).toArray G [] fun _ μ' u=>μ'=[]∧u=v) (h:Wo dr mc P n l K σ ((d,c,v) :: ρ) G μ):Wo dr mc P n l K (i :: σ) ρ G μ :=
 .callv ho (by rcases mc with ⟨_ | _,_⟩<;>simp [cA]) hg (fun hc a w ha=>by
  have h1:=hv a ha hc
  simp [execOp,resolve,Deferred.ofValue,hfv.eval ha hc,invoke,aD4 hf]
  rw [← h1]) (fun hc _ hs=>⟨hs.sub,hk hc⟩) h
theorem Sat.mapOf {b:Nat} {q:IntKind} {m:Int→Option Value} {μ':aH} {w:World} (hs:Sat G μ w) (hm:MTake μ (.mp b q m) μ'):∃ es clock,w.heap[b]? = some (.map es clock)∧rU q es.toList∧∀ k,iY q es.toList k=m k :=
 hs.own (.mp b q m) (hm.perm.mem_iff.2 (List.mem_cons_self ..))
theorem aC8 {q:IntKind} {k:Int}:∀ (es:List MapEntry) (i:Nat),rU q es →
  ∃ r,Instr.findNow (.int q) (.int q k) es i=some r∧r.map (·.2)=iY q es k∧∀ j v,r=some (j,v)→i≤j∧∃ e,es[j-i]? = some e∧e.key=.int q k∧e.val=v
 | [],i,_=>⟨none,rfl,rfl,fun _ _ h=>by cases h⟩
 | e :: es,i,h=>by
  obtain ⟨a,ha⟩:=h e (List.mem_cons_self ..)
  by_cases hk:a=k
  ·subst hk
   refine ⟨some (i,e.val),by simp [Instr.findNow,Instr.sameNow,ha],by simp [iY,ha],fun j v hj=>?_⟩
   simp only [Option.some.injEq,Prod.mk.injEq] at hj
   obtain ⟨rfl,rfl⟩:=hj
   exact ⟨Nat.le_refl _,e,by simp,ha,rfl⟩
  obtain ⟨r,h1,h2,h3⟩:=aC8 (k:=k) es (i+1) (fun e he=>h e (List.mem_cons_of_mem _ he))
  refine ⟨r,?_,?_,fun j v hj=>?_⟩
  ·simp [Instr.findNow,Instr.sameNow,ha,show (k == a)=false by simp; exact fun e=>hk e.symm,h1]
  ·simp [iY,ha,hk,h2]
  obtain ⟨h4,e',h5,h6⟩:=h3 j v hj
  refine ⟨by omega,e',?_,h6⟩
  rw [show j-i=(j-(i+1))+1 by omega]; simpa using h5
theorem aCs {P:Program} {T:TypeId} {q:IntKind} (hT:P.underlying T=some (.int q)) (e:Bool) (n:Nat) (k:Int) (w:World):(Instr.checkKey e (n+1) T (.int q k)).run P w=.ok () w:=by
 rw [Instr.checkKey]; simp [run_underlying hT]
def zY (P:Program) (T:TypeId):Option (IntKind×TypeId) :=
 match P.underlying T with
 | some (.map k e)=>match P.underlying k with
  | some (.int q)=>some (q,e)
  | _=>none
 | _=>none
theorem aHK {P:Program} {T e:TypeId} {q:IntKind} (h:zY P T=some (q,e)):∃ k,P.underlying T=some (.map k e)∧P.underlying k=some (.int q):=by
 unfold zY at h
 split at h
 ·rename_i k e' hu
  split at h
  ·rename_i q' hk
   simp only [Option.some.injEq,Prod.mk.injEq] at h
   obtain ⟨rfl,rfl⟩:=h
   exact ⟨k,hu,hk⟩
  ·cases h
 ·cases h
theorem mk {T:TypeId} (ho:nth l i=some ⟨some d,.makeMap T none,t,p,af,none⟩) (q:IntKind) (h:∀ b,Wo dr mc P n l K σ ((d,true,.map (some b)) :: ρ) G (.mp b q (fun _=>none) :: μ)):Wo dr mc P n l K (i :: σ) ρ G μ:=by
 refine .act (μ₁:=[]) (μ₂:=μ) (post:=fun G' μ' v=>∃ b,G'=G∧μ'=[.mp b q (fun _=>none)]∧v=.map (some b)) ho (.inl rfl) .no (.refl _) (fun a w ha hs=>.inl ?_) ?_
 ·have h0:Tr G (keys []) w G (.blk w.heap.size (.map #[] 0) :: []) (w.alloc (.map #[] 0)):=(oC (Sat.left (μ:=[]) hs)).alloc _
  refine ⟨.map (some w.heap.size),w.alloc (.map #[] 0),G,[.mp w.heap.size q (fun _=>none)],.inl (by simp [execOp,Instr.makeMap]),?_,w.heap.size,rfl,rfl,rfl⟩
  refine { h0 with sat:=⟨h0.sat.sub,fun r hr=>?_,h0.sat.apart,h0.sat.nodup⟩,mine:=h0.mine }
  rw [List.mem_singleton.1 hr]
  exact ⟨#[],0,heap_alloc_new w _,fun e he=>by simp at he,fun k=>rfl⟩
 rintro v G' μ'' _ ⟨b,rfl,rfl,rfl⟩
 exact h b
theorem lk {T e:TypeId} {q:IntKind} {x y:Operand} {b:Nat} {m:Int→Option Value} {k:Int} {z:Value} {μ':aH} (ho:nth l i=some ⟨some d,.lookup T x y false,t,p,af,g⟩) (hg:Gd l ρ g c) (hT:zY P T=some (q,e)) (hz:(P.info? e).bind (·.zero)=some z) (hx:Ev ρ c x (.map (some b))) (hy:Ev ρ c y (.int q k))
  (hm:MTake μ (.mp b q m) μ') {v:Value} (hv:(m k).getD z=v) (h:Wo dr mc P n l K σ ((d,c,v) :: ρ) G μ):Wo dr mc P n l K (i :: σ) ρ G μ :=
 .read ho (.inl rfl) hg (fun hc a w ha hs=>by
  obtain ⟨kt,h1,h2⟩:=aHK hT
  obtain ⟨es,clock,h3,h4,h5⟩:=hs.mapOf hm
  obtain ⟨r,h6,h7,_⟩:=aC8 (k:=k) es.toList 0 h4
  have hzv:(zeroValue e).run P w=.ok z w:=by
   cases hi:P.info? e with
   | none=>rw [hi] at hz; cases hz
   | some inf =>
    rw [hi] at hz
    simp only [Option.bind_some] at hz
    simp [zeroValue,typeInfo,hi,hz]
  have hgo:(getObj b).run P w=.ok (.map es clock) w:=by simp [getObj,Sem.run,h3]
  simp only [execOp,hx.eval ha hc,hy.eval ha hc,Instr.lookup,Sem.run_bind,run_underlying h1,Result.andThen_ok,hgo,Sem.run_pure,aCs h2,Instr.findKey,run_underlying h2,h6]
  cases r with
  | none =>
   have h8:iY q es.toList k=none:=by rw [← h7]; rfl
   simp [hzv,←hv,←h5 k,h8]
  | some jv =>
   obtain ⟨j,v⟩:=jv
   have h8:iY q es.toList k=some v:=by rw [← h7]; rfl
   simp [← hv,←h5 k,h8]) h
theorem aHC {q:IntKind} {k:Int} {v:Value} {born:Nat}:∀ (es:List MapEntry),rU q es→iY q es k=none→∀ k',iY q (es++[⟨.int q k,v,born⟩]) k'=if k'=k then some v else iY q es k'
 | [],_,_,k'=>by
  simp only [List.nil_append,iY]
  by_cases h:k'=k
  ·subst h; simp
  ·simp [h,show ¬ k=k' from fun e=>h e.symm]
 | e :: es,h,hn,k'=>by
  obtain ⟨a,ha⟩:=h e (List.mem_cons_self ..)
  have h':rU q es:=fun e he=>h e (List.mem_cons_of_mem _ he)
  simp only [iY,ha] at hn
  by_cases hk:a=k
  ·simp [hk] at hn
  ·simp only [hk,if_false] at hn
   simp only [List.cons_append,iY,ha,aHC es h' hn k']
   by_cases h1:a=k'
   ·subst h1; simp [hk]
   ·simp [h1]
theorem aHB {q:IntKind} {k:Int} {v v0:Value}:∀ (es:List MapEntry) (i j:Nat),rU q es→Instr.findNow (.int q) (.int q k) es i=some (some (j,v0)) →
  i≤j∧(∀ k',iY q (es.modify (j-i) fun e=>{ e with key:=.int q k,val:=v }) k'=if k'=k then some v else iY q es k')∧rU q (es.modify (j-i) fun e=>{ e with key:=.int q k,val:=v })
 | [],i,j,_,h=>by simp [Instr.findNow] at h
 | e :: es,i,j,ho,h=>by
  obtain ⟨a,ha⟩:=ho e (List.mem_cons_self ..)
  have h':rU q es:=fun e he=>ho e (List.mem_cons_of_mem _ he)
  by_cases hk:a=k
  ·subst hk
   simp only [Instr.findNow,Instr.sameNow,ha,if_true,beq_self_eq_true,Option.some.injEq,Prod.mk.injEq] at h
   obtain ⟨rfl,rfl⟩:=h
   refine ⟨Nat.le_refl _,fun k'=>?_,?_⟩
   ·simp only [Nat.sub_self,List.modify_zero_cons,iY,ha]
    by_cases h1:k'=a
    ·subst h1; simp
    simp [h1,show ¬ a=k' from fun e=>h1 e.symm]
   simp only [Nat.sub_self,List.modify_zero_cons]
   intro e' he'
   rcases List.mem_cons.1 he' with rfl | he'
   ·exact ⟨a,rfl⟩
   exact h' e' he'
  have hb:(k == a)=false:=by simp; exact fun e=>hk e.symm
  simp only [Instr.findNow,Instr.sameNow,ha,if_true,hb] at h
  obtain ⟨h1,h2,h3⟩:=aHB (v:=v) es (i+1) j h' h
  rw [show j-i=(j-(i+1))+1 by omega]
  refine ⟨by omega,fun k'=>?_,?_⟩
  ·simp only [List.modify_succ_cons,iY,ha,h2 k']
   by_cases h4:a=k'
   ·subst h4; simp [hk]
   simp [h4]
  simp only [List.modify_succ_cons]
  intro e' he'
  rcases List.mem_cons.1 he' with rfl | he'
  ·exact ⟨a,ha⟩
  exact h3 e' he'
theorem mu {T e:TypeId} {q:IntKind} {x y z:Operand} {b:Nat} {m:Int→Option Value} {k:Int} {v:Value} {μ':aH} (ho:nth l i=some ⟨none,.mapUpdate T x y z,t,p,af,none⟩) (hT:zY P T=some (q,e)) (hx:Ev ρ true x (.map (some b))) (hy:Ev ρ true y (.int q k)) (hz:Ev ρ true z v)
  (hm:MTake μ (.mp b q m) μ') (h:Wo dr mc P n l K σ ρ G (.mp b q (fun j=>if j=k then some v else m j) :: μ')):Wo dr mc P n l K (i :: σ) ρ G μ:=by
 refine .act (μ₁:=[.mp b q m]) (μ₂:=μ') (post:=fun G' μ' u=>G'=G∧μ'=[.mp b q (fun j=>if j=k then some v else m j)]∧u=undef) ho (.inl rfl) .no hm.perm (fun a w ha hs=>.inl ?_) ?_
 ·have hs':=hs.left
  obtain ⟨es,clock,h3,h4,h5⟩:=hs'.own (.mp b q m) (List.mem_singleton.2 rfl)
  obtain ⟨kt,h1,h2⟩:=aHK hT
  obtain ⟨r,h6,h7,h8⟩:=aC8 (k:=k) es.toList 0 h4
  have hgo:(getObj b).run P w=.ok (.map es clock) w:=by simp [getObj,Sem.run,h3]
  have hset:∀ o,(setObj b o).run P w=.ok () { w with heap:=w.heap.setIfInBounds b o }:=fun o=>by simp [setObj,Sem.run,h3]
  have hlt:b<w.heap.size:=(Array.getElem?_eq_some_iff.1 h3).1
  have hG:G b=none:=hs'.apart b (by simp [keys,Res.keys])
  have key:∀ es' clock',rU q es'.toList→(∀ k',iY q es'.toList k'=if k'=k then some v else m k') →
    Tr G (keys [.mp b q m]) w G [.mp b q (fun j=>if j=k then some v else m j)] { w with heap:=w.heap.setIfInBounds b (.map es' clock') }:=by
   intro es' clock' hok hget
   refine ⟨⟨fun c o hc=>?_,fun r hr=>?_,fun c hc=>?_,by simp [keys,Res.keys]⟩,rfl,rfl,rfl,by simp,fun c _ hc=>⟨?_,rfl⟩,fun c hc=>.inl hc,fun _ _ _ h=>h⟩
   ·show (w.heap.setIfInBounds b _)[c]? = _
    rw [Array.getElem?_setIfInBounds_ne (fun e=>by subst e; rw [hG] at hc; cases hc)]
    exact hs'.sub c o hc
   ·rw [List.mem_singleton.1 hr]
    refine ⟨es',clock',?_,hok,hget⟩
    show (w.heap.setIfInBounds b _)[b]? = _
    simp [hlt]
   ·simp only [keys,Res.keys,List.flatMap_cons,List.flatMap_nil,List.append_nil,List.mem_singleton] at hc
    rw [hc]; exact hG
   show (w.heap.setIfInBounds b _)[c]? = _
   rw [Array.getElem?_setIfInBounds_ne (fun e=>by subst e; exact hc (by simp [keys,Res.keys]))]
  cases r with
  | none =>
   have h9:iY q es.toList k=none:=by rw [← h7]; rfl
   refine ⟨undef,_,G,_,.inr ⟨?_,rfl⟩,key (es.push ⟨.int q k,v,clock⟩) (clock+1) ?_ ?_,rfl,rfl,rfl⟩
   ·simp only [execOp,hx.eval ha rfl,hy.eval ha rfl,hz.eval ha rfl,Instr.mapUpdate,Sem.run_bind,run_underlying h1,Result.andThen_ok,hgo,Sem.run_pure,aCs h2,Instr.findKey,run_underlying h2,h6,hset]
   ·intro e' he'
    rw [Array.toList_push] at he'
    rcases List.mem_append.1 he' with he' | he'
    ·exact h4 e' he'
    rw [List.mem_singleton.1 he']; exact ⟨k,rfl⟩
   intro k'
   rw [Array.toList_push,aHC es.toList h4 h9 k',h5 k']
  | some jv =>
   obtain ⟨j,v0⟩:=jv
   obtain ⟨_,hg2,hok2⟩:=aHB (v:=v) es.toList 0 j h4 h6
   obtain ⟨_,e',he1,he2,_⟩:=h8 j v0 rfl
   rw [Nat.sub_zero] at hg2 hok2 he1
   have he3:es[j]? = some e':=by simpa using he1
   refine ⟨undef,_,G,_,.inr ⟨?_,rfl⟩,key (es.modify j fun e=>{ e with key:=.int q k,val:=v }) clock ?_ ?_,rfl,rfl,rfl⟩
   ·have hsb:Instr.sameBits 10000 (.int q k) (.int q k)=true:=by rw [Instr.sameBits]; simp
    simp only [execOp,hx.eval ha rfl,hy.eval ha rfl,hz.eval ha rfl,Instr.mapUpdate,Sem.run_bind,run_underlying h1,Result.andThen_ok,hgo,Sem.run_pure,aCs h2,Instr.findKey,run_underlying h2,h6,hset,he3,Option.map_some,Option.getD_some,he2,Instr.keyThatStays,hsb,if_true]
   ·simpa using hok2
   intro k'
   have:=hg2 k'
   rw [h5 k'] at this
   simpa using this
 rintro u G' μ'' _ ⟨rfl,rfl,rfl⟩
 exact h
theorem uD {G:PM} {w:World} {b:Nat} {cs cs':Array Value} {T:TypeId} (h:Sat G [.blk b (.cells cs T (0,0))] w):Tr G [b] w G [.blk b (.cells cs' T (0,0))] (w.setRow b cs'):=by
 have:=Tr.setRow (cs':=cs'.toList) (h:=(by simpa [cl] using h:Sat G [.blk b (cl cs.toList T)] w))
 simpa [cl] using this
theorem Tr.asRow {G0 G:PM} {K0:List Nat} {w0 w:World} {μ:aH} {b E sz m cap:Nat} {cur:Array Value} {xs:List Value} (h:Tr G0 K0 w0 G (.blk b (.cells cur E (0,0)) :: μ) w) (hl:xs.length=m*sz) (hc:m≤cap) (hm:cap≤maxLen) (hs:cur.size=cap*sz) (ht:cur.toList.take (m*sz)=xs) :
  Tr G0 K0 w0 G (.row (.slice (some ⟨b,0,none⟩) m cap) E sz m xs :: μ) w:=by
 have hk:keys (.row (.slice (some ⟨b,0,none⟩) m cap) E sz m xs :: μ)=keys (.blk b (.cells cur E (0,0)) :: μ):=by simp [keys,Res.keys,Value.ownBlock]
 have hb:w.heap[b]? = some (.cells cur E (0,0)):=h.sat.own _ (List.mem_cons_self ..)
 refine { h with sat:=⟨h.sat.sub,fun r hr=>?_,by rw [hk]; exact h.sat.apart,by rw [hk]; exact h.sat.nodup⟩,mine:=by rw [hk]; exact h.mine }
 rcases List.mem_cons.1 hr with rfl | hr
 ·exact ⟨hl,.inr ⟨b,cap,cur,rfl,Nat.zero_le _,hb,hc,hm,hs,ht⟩⟩
 exact h.sat.own r (List.mem_cons_of_mem _ hr)
theorem Tr.nilRow {G0 G:PM} {K0:List Nat} {w0 w:World} {μ:aH} {E sz:Nat} (h:Tr G0 K0 w0 G μ w):Tr G0 K0 w0 G (.row (.slice none 0 0) E sz 0 [] :: μ) w:=by
 have hk:keys (.row (.slice none 0 0) E sz 0 [] :: μ)=keys μ:=by simp [keys,Res.keys,Value.ownBlock]
 refine { h with sat:=⟨h.sat.sub,fun r hr=>?_,by rw [hk]; exact h.sat.apart,by rw [hk]; exact h.sat.nodup⟩,mine:=by rw [hk]; exact h.mine }
 rcases List.mem_cons.1 hr with rfl | hr
 ·exact World.ownsRow_nil w 0 E sz
 exact h.sat.own r hr
theorem aAU {X:Cx} {cd:Code} {k:List KI} (E sz:Nat) (h:Wk X cd k ρ G (.row (.slice none 0 0) E sz 0 [] :: μ)):Wk X cd k ρ G μ:=⟨fun a w ha ht=>h.out a w ha ht.nilRow⟩
theorem aJo {X:Cx} {e:Exit} {k:List KI} (E sz:Nat) (h:We X e k ρ G (.row (.slice none 0 0) E sz 0 [] :: μ)):We X e k ρ G μ:=⟨fun a w ha ht=>h.out a w ha ht.nilRow⟩
theorem aAI {T E ty by' sz:Nat} {v:Value} {m k cp:Nat} {xs news:List Value} {oa:Option Addr} {z:Value} {w:World} (hT:cL P T=some (E,sz,by')) (hz:(P.info? E).bind (·.zero)=some z) (hzs:z.cells.size=sz)
  (hs:Sat G [.row v E sz m xs] w) (hl:news.length=k*sz) (hr:0<k→∃ b o,oa=some ⟨b,o,none⟩∧∀ j u,news[j]? = some u→w.cell? ⟨b,o+j,none⟩=some u) (h1:∀ u∈news,u.oneCell'=true) (hb:(m+k)*by'≤140737488355328) (h63:m+k≤maxLen) :
  ∃ v' w',(Builtin.append_ #[T,T] ty #[v,.slice oa k cp]).run P w=.ok v' w'∧Tr G (keys [.row v E sz m xs]) w G [.row v' E sz (m+k) (xs++news)] w':=by
 obtain ⟨hu,inf,hi,rfl,rfl⟩:=gE hT
 rw [hi] at hz
 simp only [Option.bind_some] at hz
 have hown:w.ownsRow 0 E inf.size v m xs:=hs.own _ (List.mem_singleton.2 rfl)
 have hbegin:=oC hs
 have hsmall:m+k≤9223372036854775807:=by simp only [maxLen] at h63; omega
 by_cases hk:k=0
 ·
  subst hk
  have hn:news=[]:=List.eq_nil_of_length_eq_zero (by simpa using hl)
  subst hn
  refine ⟨v,w,?_,by simpa using hbegin⟩
  rcases hown.2 with ⟨rfl,rfl⟩ | ⟨g,cap,cur,rfl,_,hg,hnc,_,_,_⟩
  ·cases oa<;>simp [Builtin.append_,run_underlying hu,sizeOf,typeInfo,hi,Builtin.lenOf,Builtin.firstCells,loadCells,loadCellsFrom]
  cases oa<;>simp [Builtin.append_,run_underlying hu,sizeOf,typeInfo,hi,Builtin.lenOf,Builtin.firstCells,loadCells,loadCellsFrom,hnc,storeCells]
 obtain ⟨b,o,rfl,hcell⟩:=hr (by omega)
 have hnews:∀ j u,news[j]? = some u→w.cell? ((⟨b,o,none⟩ : Addr).add j)=some u:=fun j u hj=>by rw [jD]; exact hcell j u hj
 have hlen:(xs++news).length=(m+k)*inf.size:=by rw [List.length_append,hown.1,hl,Nat.add_mul]
 have fresh:∀ (old:Nat),Tr G (keys [.row v E inf.size m xs]) w G [.row (.slice (some ⟨w.heap.size,0,none⟩) (m+k) (grownCap w (m+k) old E)) E inf.size (m+k) (xs++news)]
   (w.drew.alloc (.cells (xs.toArray++news.toArray++Builtin.zeroCells z.cells (grownCap w (m+k) old E-(m+k))) E)):=by
  intro old
  have h2:=(hbegin.drew).alloc (.cells (xs.toArray++news.toArray++Builtin.zeroCells z.cells (grownCap w (m+k) old E-(m+k))) E)
  have h3:Tr G (keys [.row v E inf.size m xs]) w G [.blk w.heap.size (.cells (xs.toArray++news.toArray++Builtin.zeroCells z.cells (grownCap w (m+k) old E-(m+k))) E)] _:=Tr.left (ν:=[.row v E inf.size m xs]) h2
  have hge:=grownCap_ge w (m+k) old E
  refine h3.asRow hlen hge (grownCap_le_maxLen w (m+k) old E h63) ?_ ?_
  ·simp only [Array.size_append,List.size_toArray,size_zeroCells,hzs,hown.1,hl,←Nat.add_mul]
   congr 1
   omega
  simp only [Array.toList_append,List.append_assoc]
  rw [← List.append_assoc,←hlen]
  exact List.take_left
 rcases hown.2 with ⟨rfl,rfl⟩ | ⟨g,cap,cur,rfl,_,hg,hnc,hcm,hcs,htake⟩
 ·have hx:xs=[]:=List.eq_nil_of_length_eq_zero (by simpa using hown.1)
  subst hx
  have hrun:=run_append_nil (P:=P) w T ty E inf z hu hi hz ⟨b,o,none⟩ k cp news hl hnews (by omega) (by omega) (by have hb':=hb; simp only [Nat.zero_add] at hb'; omega)
  have hf:=fresh 0
  simp only [Nat.zero_add,List.nil_append,Array.empty_append] at hf ⊢
  exact ⟨_,_,hrun,hf⟩
 by_cases hroom:m+k≤cap
 ·have hfit:m*inf.size+news.length≤cur.size:=by rw [hl,hcs,←Nat.add_mul]; exact Nat.mul_le_mul_right _ hroom
  have hrun:=run_append_room (P:=P) w T ty E inf hu hi g m cap cur hg ⟨b,o,none⟩ k cp news hl hnews h1 hroom hfit
  have hsat:Sat G [.blk g (.cells cur E (0,0))] w:=⟨hs.sub,fun r hr=>by rw [List.mem_singleton.1 hr]; exact hg,fun c hc=>hs.apart c (by simpa [keys,Res.keys,Value.ownBlock] using hc),by simp [keys,Res.keys]⟩
  refine ⟨_,_,hrun,?_⟩
  have h2:=uD (cs':=(cur.toList.take (m*inf.size)++news++cur.toList.drop (m*inf.size+news.length)).toArray) hsat
  have h3:=h2.asRow (m:=m+k) (cap:=cap) (sz:=inf.size) (xs:=xs++news) hlen hroom hcm ?_ ?_
  ·simpa [keys,Res.keys,Value.ownBlock] using h3
  ·simp only [List.size_toArray,aT,Array.length_toList]
   omega
  rw [htake,←hlen]
  exact List.take_left
 have holds:∀ j u,xs[j]? = some u→w.cell? ((⟨g,0,none⟩ : Addr).add j)=some u:=hown.cells (g:=g) rfl
 have hrun:=run_append_grow (P:=P) w T ty E inf z hu hi hz ⟨g,0,none⟩ m cap xs hown.1 holds ⟨b,o,none⟩ k cp news hl hnews (by omega) (by omega) (growslice_fits (by omega) hb)
 exact ⟨_,_,hrun,fresh cap⟩
theorem ap {T E sz by':Nat} {x y:Operand} {v z:Value} {m k cp:Nat} {xs news:List Value} {oa:Option Addr} {μ':aH} (ho:nth l i=some ⟨some d,.call { callee:=.builtin .append,args:=#[x,y],argTypes:=#[T,T] },t,p,af,none⟩)
  (hT:cL P T=some (E,sz,by')) (hz:(P.info? E).bind (·.zero)=some z) (hzs:z.cells.size=sz) (hx:Ev ρ true x v) (hy:Ev ρ true y (.slice oa k cp)) (hm:MTake μ (.row v E sz m xs) μ') (hl:news.length=k*sz)
  (hr:0<k→∃ b o,oa=some ⟨b,o,none⟩∧RdN G μ b o news) (h1:∀ u∈news,u.oneCell'=true) (hb:(m+k)*by'≤140737488355328) (h63:m+k≤maxLen)
  (h:∀ v',Wo dr mc P n l K σ ((d,true,v') :: ρ) G (.row v' E sz (m+k) (xs++news) :: μ')) (hmc:mc.a=false∨dr=false:=by first|exact .inl rfl|exact .inr rfl):Wo dr mc P n l K (i :: σ) ρ G μ:=by
 refine .act (μ₁:=[.row v E sz m xs]) (μ₂:=μ') (post:=fun G' μ' v'=>G'=G∧μ'=[.row v' E sz (m+k) (xs++news)]) ho (by rcases hmc with h | h<;>simp [cA,h]) .no hm.perm (fun a w ha hs=>.inl ?_) ?_
 ·obtain ⟨v',w',hrun,ht⟩:=aAI (ty:=t) (cp:=cp) hT hz hzs hs.left hl (fun hk=>by
   obtain ⟨b,o,h1,h2⟩:=hr hk
   exact ⟨b,o,h1,fun j u hj=>h2 j u hj w (hs.perm hm.perm.symm)⟩) h1 hb h63
  exact ⟨v',w',G,_,.inl (by simp [execOp,resolve,invoke,builtin,hx.eval ha rfl,hy.eval ha rfl,hrun]),ht,rfl,rfl⟩
 rintro v' G' μ'' _ ⟨rfl,rfl⟩
 exact h v'
def uH (P:Program) (T len:Nat) (parts:List (Nat×Value)):Option (List Value) :=
 match P.underlying T with
 | some (.slice e)=>match P.info? e with
  | some i=>match i.zero with
   | some z=>if len*i.size > 2^24∨len*i.size=0 then none else
    (Instr.fill (fun j=>some (j*i.size,i.size)) ((Array.range (len*i.size)).map (z.cells[·%z.cells.size]!)) parts).map (·.toList)
   | none=>none
  | none=>none
 | _=>none
theorem bS {T E sz by' len:Nat} {ps:List (Nat×Operand)} {vs:List (Nat×Value)} {cs:List Value} (ho:nth l i=some ⟨some d,.buildSlice T len ps.toArray,t,p,af,none⟩) (hT:cL P T=some (E,sz,by')) (hv:∀ a,Ag n ρ a→true=true→ps.map (fun q=>(q.1,a.eval q.2))=vs) (hb:uH P T len vs=some cs)
  (h:∀ b,Wo dr mc P n l K σ ((d,true,.slice (some ⟨b,0,none⟩) len len) :: ρ) G (.blk b (cl cs E) :: μ)):Wo dr mc P n l K (i :: σ) ρ G μ :=
 .box (ob:=cl cs E) (mkv:=fun b=>.slice (some ⟨b,0,none⟩) len len) ho (.inl rfl) rfl (fun a w ha=>by
  obtain ⟨hu,inf,hi,hs1,_⟩:=gE hT
  have h1:=hv a ha rfl
  simp only [uH,hu,hi] at hb
  cases hz:inf.zero with
  | none=>rw [hz] at hb; cases hb
  | some z =>
   rw [hz] at hb
   simp only at hb
   split at hb
   ·cases hb
   ·rename_i hle
    simp only [not_or] at hle
    obtain ⟨hle,h0⟩:=hle
    cases hf:Instr.fill (fun j=>some (j*inf.size,inf.size)) ((Array.range (len*inf.size)).map (z.cells[·%z.cells.size]!)) vs with
    | none=>rw [hf] at hb; cases hb
    | some r =>
     rw [hf] at hb
     simp only [Option.map_some,Option.some.injEq] at hb
     subst hb
     simp [execOp,Instr.buildSlice,run_underlying hu,sizeOf,typeInfo,hi,h0,hle,zeroValue,hz,hf,h1,newRow,cl]) h
theorem aBD {v:Value} (h:v.oneCell'=true):v.cells = #[v]:=by cases v<;>first|rfl | cases h
theorem aQn:∀ (ws:List Value) (cs:List Value) (o:Nat),o+ws.length≤cs.length →
  ((ws.zipIdx 0).foldl (fun (a:Array Value) (x:Value×Nat)=>a.setIfInBounds (o+x.2) x.1) cs.toArray)=(cs.take o++ws++cs.drop (o+ws.length)).toArray:=by
 have key:∀ (ws:List Value) (cs:List Value) (o j:Nat),o+j+ws.length≤cs.length →
   ((ws.zipIdx j).foldl (fun (a:Array Value) (x:Value×Nat)=>a.setIfInBounds (o+x.2) x.1) cs.toArray)=(cs.take (o+j)++ws++cs.drop (o+j+ws.length)).toArray:=by
  intro ws
  induction ws with
  | nil=>intro cs o j h; simp
  | cons w ws ih =>
   intro cs o j h
   simp only [List.length_cons] at h
   simp only [List.zipIdx_cons,List.foldl_cons]
   have e:cs.toArray.setIfInBounds (o+j) w=(cs.set (o+j) w).toArray:=by simp
   rw [e,ih (cs.set (o+j) w) o (j+1) (by simp; omega)]
   congr 1
   rw [show o+(j+1)=o+j+1 by omega,List.length_cons,show o+j+(ws.length+1)=o+j+1+ws.length by omega]
   rw [List.set_eq_take_append_cons_drop,if_pos (by omega)]
   have hl:(cs.take (o+j)).length=o+j:=by rw [List.length_take]; omega
   have h1:(cs.take (o+j)++w :: cs.drop (o+j+1)).take (o+j+1)=cs.take (o+j)++[w]:=by
    rw [List.take_append,hl,show o+j+1-(o+j)=1 by omega,List.take_of_length_le (by omega)]; rfl
   have h2:(cs.take (o+j)++w :: cs.drop (o+j+1)).drop (o+j+1+ws.length)=cs.drop (o+j+1+ws.length):=by
    rw [List.drop_append,hl,List.drop_of_length_le (by omega),show o+j+1+ws.length-(o+j)=ws.length+1 by omega]
    simp [Nat.add_comm,Nat.add_left_comm]
   rw [h1,h2]; simp
 intro ws cs o h
 have:=key ws cs o 0 (by simpa using h)
 simpa using this
theorem aC6 {place:Nat→Option (Nat×Nat)} {cs:List Value} {j off size:Nat} {v:Value} {ws:List Value} {rest:List (Nat×Value)} (hp:place j=some (off,size)) (hv:v.cells=ws.toArray) (hl:ws.length=size) (hf:off+size≤cs.length) :
  Instr.fill place cs.toArray ((j,v) :: rest)=Instr.fill place (cs.take off++ws++cs.drop (off+ws.length)).toArray rest:=by
 rw [Instr.fill]
 simp only [hp,hv]
 rw [if_neg (by simp [hl]; omega)]
 congr 1
 have:=aQn ws cs off (by omega)
 rw [← this,←Array.foldl_toList,Array.toList_zipIdx]
theorem b1 {T E sz by':Nat} {x:Operand} {v z:Value} {cs:List Value} (ho:nth l i=some ⟨some d,.buildSlice T 1 #[(0,x)],t,p,af,none⟩) (hT:cL P T=some (E,sz,by')) (hz:(P.info? E).bind (·.zero)=some z) (hx:Ev ρ true x v) (hv:v.cells=cs.toArray) (hl:cs.length=sz) (h0:0<sz∧sz≤16777216)
  (h:∀ b,Wo dr mc P n l K σ ((d,true,.slice (some ⟨b,0,none⟩) 1 1) :: ρ) G (.blk b (cl cs E) :: μ)):Wo dr mc P n l K (i :: σ) ρ G μ:=by
 refine bS (vs:=[(0,v)]) (cs:=cs) ho hT (fun a ha hc=>by simp [hx.eval ha hc]) ?_ h
 obtain ⟨hu,inf,hi,rfl,_⟩:=gE hT
 rw [hi] at hz
 simp only [Option.bind_some] at hz
 simp only [uH,hu,hi,hz]
 rw [if_neg (by omega)]
 generalize ha:(Array.range (1*inf.size)).map (z.cells[·%z.cells.size]!)=arr
 have hs:arr.toList.length=inf.size:=by rw [← ha]; simp
 have h2:=aC6 (place:=fun j=>some (j*inf.size,inf.size)) (cs:=arr.toList) (j:=0) (off:=0) (size:=inf.size) (rest:=[]) (by simp) hv hl (by omega)
 simp only [Array.toArray_toList] at h2
 rw [h2]
 have h3:arr.toList.drop (0+cs.length)=[]:=List.drop_of_length_le (by omega)
 rw [h3]
 simp [Instr.fill]
def parts:Nat→List Value→List (Nat×Value)
 | _,[]=>[]
 | k,u :: us=>(k,u) :: parts (k+1) us
theorem Evp.nil {ρ:aO} {n k:Nat} {c:Bool}:∀ a,Ag n ρ a→c=true→([]:List (Nat×Operand)).map (fun q=>(q.1,a.eval q.2))=parts k []:=fun _ _ _=>rfl
theorem Evp.cons {ρ:aO} {n k:Nat} {c:Bool} {x:Operand} {v:Value} {ps:List (Nat×Operand)} {us:List Value} (hx:Ev ρ c x v) (h:∀ a,Ag n ρ a→c=true→ps.map (fun q=>(q.1,a.eval q.2))=parts (k+1) us) :
  ∀ a,Ag n ρ a→c=true→((k,x) :: ps).map (fun q=>(q.1,a.eval q.2))=parts k (v :: us):=fun a ha hc=>by simp only [List.map_cons,hx.eval ha hc,h a ha hc,parts]
theorem aC5:∀ (us:List Value) (k:Nat) (cs:List Value),(∀ u∈us,u.oneCell'=true)→k+us.length≤cs.length →
  Instr.fill (fun j=>some (j*1,1)) cs.toArray (parts k us)=some (cs.take k++us++cs.drop (k+us.length)).toArray
 | [],k,cs,_,_=>by simp [parts,Instr.fill]
 | u :: us,k,cs,h1,hl=>by
  simp only [List.length_cons] at hl
  rw [parts,aC6 (off:=k) (size:=1) (ws:=[u]) (by simp) (aBD (h1 u (List.mem_cons_self ..))) rfl (by omega)]
  rw [aC5 us (k+1) _ (fun u' hu=>h1 u' (List.mem_cons_of_mem _ hu)) (by simp; omega)]
  congr 2
  have hk:(cs.take k).length=k:=by rw [List.length_take]; omega
  have hA:(cs.take k++[u]).length=k+1:=by simp [hk]
  have h2:(cs.take k++[u]++cs.drop (k+[u].length)).take (k+1)=cs.take k++[u]:=by rw [← hA]; exact List.take_left
  have h3:(cs.take k++[u]++cs.drop (k+[u].length)).drop (k+1+us.length)=cs.drop (k+(us.length+1)):=by
   rw [← List.drop_drop,←hA,List.drop_left,List.drop_drop]
   congr 1
   simp; omega
  rw [h2,h3]; simp
theorem bN {T E by' len:Nat} {ps:List (Nat×Operand)} {us:List Value} {z:Value} (ho:nth l i=some ⟨some d,.buildSlice T len ps.toArray,t,p,af,none⟩) (hT:cL P T=some (E,1,by')) (hz:(P.info? E).bind (·.zero)=some z) (hv:∀ a,Ag n ρ a→true=true→ps.map (fun q=>(q.1,a.eval q.2))=parts 0 us) (hl:us.length=len) (h0:0<len∧len≤16777216) (h1:∀ u∈us,u.oneCell'=true)
  (h:∀ b,Wo dr mc P n l K σ ((d,true,.slice (some ⟨b,0,none⟩) len len) :: ρ) G (.blk b (cl us E) :: μ)):Wo dr mc P n l K (i :: σ) ρ G μ:=by
 refine bS (vs:=parts 0 us) (cs:=us) ho hT hv ?_ h
 obtain ⟨hu,inf,hi,hs1,_⟩:=gE hT
 rw [hi] at hz
 simp only [Option.bind_some] at hz
 simp only [uH,hu,hi,hz,hs1]
 rw [if_neg (by omega)]
 generalize ha:(Array.range (len*1)).map (z.cells[·%z.cells.size]!)=arr
 have hs:arr.toList.length=len:=by rw [← ha]; simp
 have h2:=aC5 us 0 arr.toList h1 (by omega)
 simp only [Array.toArray_toList] at h2
 rw [h2]
 have h3:arr.toList.drop (0+us.length)=[]:=List.drop_of_length_le (by omega)
 rw [h3]
 simp
def eS (P:Program) (T:TypeId) (js:List Nat):Option (List Value×List (Nat×Nat)) :=
 match P.info? T,P.underlying T with
 | some it,some (.array _ e)=>match it.zero,P.info? e with
  | some z,some ie=>some (z.cells.toList,js.map fun j=>(j*ie.size,ie.size))
  | _,_=>none
 | some it,some (.struct fields)=>match it.zero,fields.toList.mapM (fun f=>(P.info? f.type).map fun i=>(f.offset,i.size)) with
  | some z,some places=>(js.mapM fun j=>places[j]?).map fun pls=>(z.cells.toList,pls)
  | _,_=>none
 | _,_=>none
def qG:List Value→List (Nat×Nat)→List (List Value)→List Value
 | zs,(o,_) :: pl,w :: ws=>qG (put zs o w) pl ws
 | zs,_,_=>zs
def uF (n:Nat):List (Nat×Nat)→List (List Value)→Bool
 | (o,s) :: pl,w :: ws=>Nat.beq w.length s&&Nat.ble (o+s) n&&uF n pl ws
 | [],[]=>true
 | _,_=>false
inductive EvC (n:Nat) (ρ:aO) (c:Bool):List (Nat×Operand)→List Value→List (List Value)→Prop where
 | nil:EvC n ρ c [] [] []
 | cons {j x v w ps vs ws} (hx:Ev ρ c x v) (hw:v.cells=w.toArray) (h:EvC n ρ c ps vs ws):EvC n ρ c ((j,x) :: ps) (v :: vs) (w :: ws)
theorem aO0 {cs ws:List Value} {o:Nat} (h:o+ws.length≤cs.length):(put cs o ws).length=cs.length:=by simp [put]; omega
theorem aF7 {place:Nat→Option (Nat×Nat)} {n:Nat} {ρ:aO} {c:Bool}:∀ {ps:List (Nat×Operand)} {vs:List Value} {ws:List (List Value)},EvC n ρ c ps vs ws→∀ (zs:List Value) (pls:List (Nat×Nat)),(ps.map (·.1)).mapM place=some pls→uF zs.length pls ws=true →
  ∀ a,Ag n ρ a→c=true→Instr.fill place zs.toArray (ps.map fun q=>(q.1,a.eval q.2))=some (qG zs pls ws).toArray:=by
 intro ps vs ws h
 induction h with
 | nil=>intro zs pls hp hb a ha hc; simp at hp; subst hp; simp [Instr.fill,qG]
 | @cons j x v w ps vs ws hx hw _ ih =>
  intro zs pls hp hb a ha hc
  simp only [List.map_cons,List.mapM_cons,Option.bind_eq_bind,Option.pure_def] at hp
  cases hj:place j with
  | none=>rw [hj] at hp; simp at hp
  | some os =>
   obtain ⟨o,s⟩:=os
   rw [hj] at hp
   simp only [Option.bind_some] at hp
   cases hr:(ps.map (·.1)).mapM place with
   | none=>rw [hr] at hp; simp at hp
   | some pl =>
    rw [hr] at hp
    simp only [Option.bind_some,Option.some.injEq] at hp
    subst hp
    simp only [uF,Bool.and_eq_true] at hb
    have h1:=Nat.eq_of_beq_eq_true hb.1.1
    have h2:=Nat.le_of_ble_eq_true hb.1.2
    simp only [List.map_cons,hx.eval ha hc]
    rw [aC6 hj hw h1 h2]
    have:=ih (put zs o w) pl hr (by rw [aO0 (by omega)]; exact hb.2) a ha hc
    simpa [put,qG] using this
theorem bC {T:TypeId} {ps:List (Nat×Operand)} {vs:List Value} {ws:List (List Value)} {zs:List Value} {pls:List (Nat×Nat)} (ho:nth l i=some ⟨some d,.build T ps.toArray,t,p,af,g⟩) (hg:Gd l ρ g c) (hF:eS P T (ps.map (·.1))=some (zs,pls)) (hv:EvC n ρ c ps vs ws) (hb:uF zs.length pls ws=true)
  (h:Wo dr mc P n l K σ ((d,c,.agg (qG zs pls ws).toArray) :: ρ) G μ):Wo dr mc P n l K (i :: σ) ρ G μ :=
 .pure ho (.inl rfl) hg (fun hc a w ha=>by
  have hbuilt:P.built T (ps.map fun q=>(q.1,a.eval q.2))=some (qG zs pls ws).toArray:=by
   unfold eS at hF
   split at hF
   ·rename_i it m e h1 h2
    split at hF
    ·rename_i z ie h3 h4
     simp only [Option.some.injEq,Prod.mk.injEq] at hF
     obtain ⟨rfl,rfl⟩:=hF
     simp only [Program.built,h1,h2,h3,h4]
     have:=aF7 hv z.cells.toList ((ps.map (·.1)).map fun j=>(j*ie.size,ie.size)) (place:=fun j=>some (j*ie.size,ie.size)) (by
      clear hb h
      generalize ps.map (·.1)=js
      induction js with
      | nil=>rfl
      | cons j js ih=>simp [List.mapM_cons,ih]) hb a ha hc
     simpa using this
    ·cases hF
   ·rename_i it fields h1 h2
    split at hF
    ·rename_i z places h3 h4
     cases h5:((ps.map (·.1)).mapM fun j=>places[j]?) with
     | none=>rw [h5] at hF; cases hF
     | some pl =>
      rw [h5] at hF
      simp only [Option.map_some,Option.some.injEq,Prod.mk.injEq] at hF
      obtain ⟨rfl,rfl⟩:=hF
      simp only [Program.built,h1,h2,h3,h4]
      have:=aF7 hv z.cells.toList pl (place:=fun j=>places.toArray[j]?) (by simpa using h5) hb a ha hc
      simpa using this
    ·cases hF
   ·cases hF
  have h2:=run_build (P:=P) w T (ps.toArray.map fun q=>(q.1,a.eval q.2)) _ (by simpa using hbuilt)
  simp only [execOp,Sem.run_bind]
  rw [h2]; simp) h
theorem Tr.freezeRow {G0:PM} {K0:List Nat} {w0 w:World} {E sz m:Nat} {v:Value} {xs:List Value} (h:Tr G0 K0 w0 G (.row v E sz m xs :: μ) w) (hK:∀ b∈K0,b∈keys μ) :
  ∃ G' s,PM.le G G'∧v=Sh.val s m∧m≤s.cap∧(m≠0→s.oa=some ⟨s.b,s.o,none⟩)∧RdNP G' s.b s.o xs∧Tr G0 K0 w0 G' μ w:=by
 have hrow:w.ownsRow 0 E sz v m xs:=h.sat.own _ (List.mem_cons_self ..)
 have hnd:=h.sat.nodup
 rcases hrow.2 with ⟨rfl,rfl⟩ | ⟨g,cap,cur,rfl,_,hg,hnc,hcm,hcs,htake⟩
 ·have hx:xs=[]:=List.eq_nil_of_length_eq_zero (by simpa using hrow.1)
  subst hx
  exact ⟨G,⟨none,0⟩,PM.le.refl G,rfl,Nat.le_refl _,fun h=>absurd rfl h,fun j v hj=>by simp at hj,Tr.left (ν:=[.row (.slice none 0 0) E sz 0 []]) (h.perm (List.perm_append_comm (l₁:=[Res.row (.slice none 0 0) E sz 0 []])))⟩
 have hk:keys (.row (.slice (some ⟨g,0,none⟩) m cap) E sz m xs :: μ)=g :: keys μ:=by simp [keys,Res.keys,Value.ownBlock]
 have hk':keys (.blk g (.cells cur E (0,0)) :: μ)=g :: keys μ:=by simp [keys,Res.keys]
 rw [hk] at hnd
 have hb:Tr G0 K0 w0 G (.blk g (.cells cur E (0,0)) :: μ) w:=by
  refine { h with sat:=⟨h.sat.sub,fun r hr=>?_,by rw [hk',←hk]; exact h.sat.apart,by rw [hk']; exact hnd⟩,mine:=by rw [hk',←hk]; exact h.mine }
  rcases List.mem_cons.1 hr with rfl | hr
  ·exact hg
  exact h.sat.own r (List.mem_cons_of_mem _ hr)
 have hGg:G g=none:=h.sat.apart g (by rw [hk]; exact List.mem_cons_self ..)
 have hgK:g∉K0:=fun hm=>(List.nodup_cons.1 hnd).1 (hK g hm)
 refine ⟨G.add g (.cells cur E (0,0)),⟨some ⟨g,0,none⟩,cap⟩,sK hGg,rfl,hnc,fun _=>rfl,fun j u hj=>?_,hb.freeze hgK⟩
 intro w' hs'
 have h1:=hs' g _ (gI G g _)
 show w'.cell? ⟨g,0+j,none⟩=some u
 rw [Nat.zero_add,cell_of_row w' g j cur E (0,0) h1]
 rw [← htake,List.getElem?_take] at hj
 split at hj
 ·simpa using hj
 cases hj
theorem aR7 {X:Cx} {e:Exit} {k:List KI} {E sz m:Nat} {v:Value} {xs:List Value} {μ':aH} (hm:MTake μ (.row v E sz m xs) μ') (hK:∀ b∈X.K0,b∈keys μ')
  (h:∀ G' s,PM.le G G'→v=Sh.val s m→m≤s.cap→(m≠0→s.oa=some ⟨s.b,s.o,none⟩)→RdNP G' s.b s.o xs→We X e k ρ G' μ'):We X e k ρ G μ :=
 ⟨fun a w ha ht=>by
  obtain ⟨G',s,h1,h2,h3,h4,h5,h6⟩:=(ht.perm hm.perm).freezeRow hK
  exact (h G' s h1 h2 h3 h4 h5).out a w ha h6⟩
theorem SlR.flat {α:Type} {G:PM} {sz:Nat} {enc:α→List Value} {s:Sh} {xs:List α} (hsz:∀ x∈xs,(enc x).length=sz) (h:SlR G sz enc s xs):RdNP G s.b s.o (xs.flatMap enc):=by
 have key:∀ (ys:List α) (o:Nat),(∀ x∈ys,(enc x).length=sz)→(∀ i x,ys[i]? = some x→RdNP G s.b (o+i*sz) (enc x))→RdNP G s.b o (ys.flatMap enc):=by
  intro ys
  induction ys with
  | nil=>intro o _ _ j v hj; simp at hj
  | cons y ys ih =>
   intro o hl hr j v hj
   have hy:=hl y (List.mem_cons_self ..)
   simp only [List.flatMap_cons] at hj
   by_cases hlt:j<sz
   ·rw [List.getElem?_append_left (by omega)] at hj
    have:=hr 0 y (by simp) j v hj
    simpa using this
   ·rw [List.getElem?_append_right (by omega),hy] at hj
    have:=ih (o+sz) (fun x hx=>hl x (List.mem_cons_of_mem _ hx)) (fun i x hx=>by
     have:=hr (i+1) x (by simpa using hx)
     rwa [Nat.add_mul,Nat.one_mul,show o+(i*sz+sz)=o+sz+i*sz by omega] at this) (j-sz) v hj
    rwa [show o+sz+(j-sz)=o+j by omega] at this
 exact key xs s.o hsz h.rd
theorem uO {α:Type} {sz:Nat} {enc:α→List Value}:∀ {xs:List α},(∀ x∈xs,(enc x).length=sz)→(xs.flatMap enc).length=xs.length*sz
 | [],_=>by simp
 | x :: xs,h=>by
  simp only [List.flatMap_cons,List.length_append,h x (List.mem_cons_self ..),uO (fun y hy=>h y (List.mem_cons_of_mem _ hy)),List.length_cons,Nat.add_mul,Nat.one_mul]
  omega
theorem SlR.ofRow {α:Type} {G:PM} {sz:Nat} {enc:α→List Value} {s:Sh} {xs:List α} (hsz:∀ x∈xs,(enc x).length=sz) (hc:xs.length≤s.cap) (hn:xs.length≠0→s.oa=some ⟨s.b,s.o,none⟩) (hr:RdNP G s.b s.o (xs.flatMap enc)):SlR G sz enc s xs:=by
 refine ⟨fun h=>hn (fun e=>h (List.eq_nil_of_length_eq_zero e)),hc,fun i x hx j v hj=>?_⟩
 rw [Nat.add_assoc]
 refine hr (i*sz+j) v ?_
 clear hr hn hc
 induction xs generalizing i with
 | nil=>simp at hx
 | cons y ys ih =>
  have hy:=hsz y (List.mem_cons_self ..)
  cases i with
  | zero =>
   simp only [List.getElem?_cons_zero,Option.some.injEq] at hx
   subst hx
   have hlt:j<(enc y).length:=(List.getElem?_eq_some_iff.1 hj).1
   simp only [List.flatMap_cons,Nat.zero_mul,Nat.zero_add]
   rw [List.getElem?_append_left hlt]
   exact hj
  | succ i =>
   simp only [List.getElem?_cons_succ] at hx
   simp only [List.flatMap_cons]
   rw [List.getElem?_append_right (by rw [hy,Nat.succ_mul]; omega),hy,Nat.succ_mul,show i*sz+sz+j-sz=i*sz+j by omega]
   exact ih (fun x hx=>hsz x (List.mem_cons_of_mem _ hx)) i hx
theorem lR {α:Type} {G:PM} {sz:Nat} {enc:α→List Value} {b cap:Nat} {T:TypeId} {xs:List α} (hG:G b=some (cl (xs.flatMap enc) T)) (hsz:∀ x∈xs,(enc x).length=sz) (hc:xs.length≤cap):SlR G sz enc ⟨some ⟨b,0,none⟩,cap⟩ xs :=
 SlR.ofRow hsz hc (fun _=>rfl) (fun j v hj=>RdP.blk hG (by show (xs.flatMap enc)[0+j]? = some v; rw [Nat.zero_add]; exact hj))
end
theorem aL {X:Cx} {k:List KI} {ρ:aO} {G:PM} {μ:aH} {id:Nat} {l:List Oper} (hs:List.range l.length=[0]) (hd:kH X.n l=true) (h:Wo false ⟨false,false⟩ X.P X.n l (fun ρ G μ=>We X .normal k ρ G μ) [0] ρ G μ):Wk X (.region id l.toArray false) k ρ G μ:=pF _ hs hd h
theorem bJ {X:Cx} {k:List KI} {ρ:aO} {G:PM} {μ:aH} {id:Nat} {l:List Oper} (hs:List.range l.length=[0,1]) (hd:kH X.n l=true) (h:Wo false ⟨false,false⟩ X.P X.n l (fun ρ G μ=>We X .normal k ρ G μ) [0,1] ρ G μ):Wk X (.region id l.toArray false) k ρ G μ:=pF _ hs hd h
theorem dU {X:Cx} {k:List KI} {ρ:aO} {G:PM} {μ:aH} {id:Nat} {l:List Oper} (hs:List.range l.length=[0,1,2]) (hd:kH X.n l=true) (h:Wo false ⟨false,false⟩ X.P X.n l (fun ρ G μ=>We X .normal k ρ G μ) [0,1,2] ρ G μ):Wk X (.region id l.toArray false) k ρ G μ:=pF _ hs hd h
theorem gK {X:Cx} {k:List KI} {ρ:aO} {G:PM} {μ:aH} {id:Nat} {l:List Oper} (hs:List.range l.length=[0,1,2,3]) (hd:kH X.n l=true) (h:Wo false ⟨false,false⟩ X.P X.n l (fun ρ G μ=>We X .normal k ρ G μ) [0,1,2,3] ρ G μ):Wk X (.region id l.toArray false) k ρ G μ:=pF _ hs hd h
theorem pW {X:Cx} {k:List KI} {ρ:aO} {G:PM} {μ:aH} {id:Nat} {l:List Oper} (hs:List.range l.length=[0,1,2,3,4]) (hd:kH X.n l=true) (h:Wo false ⟨false,false⟩ X.P X.n l (fun ρ G μ=>We X .normal k ρ G μ) [0,1,2,3,4] ρ G μ):Wk X (.region id l.toArray false) k ρ G μ:=pF _ hs hd h
theorem gL {X:Cx} {k:List KI} {ρ:aO} {G:PM} {μ:aH} {id:Nat} {l:List Oper} (hs:List.range l.length=[0,1,2,3,4,5]) (hd:kH X.n l=true) (h:Wo false ⟨false,false⟩ X.P X.n l (fun ρ G μ=>We X .normal k ρ G μ) [0,1,2,3,4,5] ρ G μ):Wk X (.region id l.toArray false) k ρ G μ:=pF _ hs hd h
theorem rZ {X:Cx} {k:List KI} {ρ:aO} {G:PM} {μ:aH} {id:Nat} {l:List Oper} (hs:List.range l.length=[0,1,2,3,4,5,6]) (hd:kH X.n l=true) (h:Wo false ⟨false,false⟩ X.P X.n l (fun ρ G μ=>We X .normal k ρ G μ) [0,1,2,3,4,5,6] ρ G μ):Wk X (.region id l.toArray false) k ρ G μ:=pF _ hs hd h
theorem xL {X:Cx} {k:List KI} {ρ:aO} {G:PM} {μ:aH} {id:Nat} {l:List Oper} (hs:List.range l.length=[0,1,2,3,4,5,6,7]) (hd:kH X.n l=true) (h:Wo false ⟨false,false⟩ X.P X.n l (fun ρ G μ=>We X .normal k ρ G μ) [0,1,2,3,4,5,6,7] ρ G μ):Wk X (.region id l.toArray false) k ρ G μ:=pF _ hs hd h
theorem rq9 {X:Cx} {k:List KI} {ρ:aO} {G:PM} {μ:aH} {id:Nat} {l:List Oper} (hs:List.range l.length=[0,1,2,3,4,5,6,7,8]) (hd:kH X.n l=true) (h:Wo false ⟨false,false⟩ X.P X.n l (fun ρ G μ=>We X .normal k ρ G μ) [0,1,2,3,4,5,6,7,8] ρ G μ):Wk X (.region id l.toArray false) k ρ G μ:=pF _ hs hd h
theorem aQC {X:Cx} {k:List KI} {ρ:aO} {G:PM} {μ:aH} {id:Nat} {l:List Oper} (hs:List.range l.length=[0,1,2,3,4,5,6,7,8,9]) (hd:kH X.n l=true) (h:Wo false ⟨false,false⟩ X.P X.n l (fun ρ G μ=>We X .normal k ρ G μ) [0,1,2,3,4,5,6,7,8,9] ρ G μ):Wk X (.region id l.toArray false) k ρ G μ:=pF _ hs hd h
theorem Wo.nc {dr:Bool} {mc:Md} {P:Program} {n:Nat} {l:List Oper} {X:Cx} {c:Code} {k:List KI} {ρ:aO} {G:PM} {μ:aH} (h:Wk X c k ρ G μ):Wo dr mc P n l (fun ρ G μ=>We X .normal (.code c :: k) ρ G μ) [] ρ G μ:=.nil (.code h)
def vA (l:List Oper) (K:List Nat→aO→Prop):List Nat→aO→Prop
 | [],ρ=>K [] ρ
 | i :: σ,ρ =>
  match nth l i with
  | some ⟨some d,.assign x,_,_,_,none⟩=>(match ev ρ x with
   | some (true,v)=>vA l K σ ((d,true,v) :: ρ)
   | _=>K (i :: σ) ρ)
  | some ⟨some d,.move x,_,_,_,none⟩=>(match ev ρ x with
   | some (true,v)=>vA l K σ ((d,true,v) :: ρ)
   | _=>K (i :: σ) ρ)
  | _=>K (i :: σ) ρ
theorem aDo {dr:Bool} {mc:Md} {P:Program} {n:Nat} {l:List Oper} {K:aO→PM→aH→Prop} {K':List Nat→aO→Prop} {G:PM} {μ:aH} (hK:∀ σ ρ,K' σ ρ→Wo dr mc P n l K σ ρ G μ) :
  ∀ σ ρ,vA l K' σ ρ→Wo dr mc P n l K σ ρ G μ:=by
 intro σ
 induction σ with
 | nil=>intro ρ h; exact hK _ _ h
 | cons i σ ih =>
  intro ρ h
  unfold vA at h
  split at h
  ·split at h
   ·rename_i ho _ _ hx; exact asg ho .no (.u hx) (ih _ h)
   ·exact hK _ _ h
  ·split at h
   ·rename_i ho _ _ hx; exact mv ho .no (.u hx) (ih _ h)
   ·exact hK _ _ h
  ·exact hK _ _ h
inductive GoS where
 | c (c:Code)
 | e (e:Exit)
def kZ (X:Cx) (G:PM) (μ:aH):Nat→GoS→List KI→aO→Prop
 | 0,.c c,k,ρ=>Wk X c k ρ G μ
 | 0,.e e,k,ρ=>We X e k ρ G μ
 | n+1,.c (.seq a b),k,ρ=>kZ X G μ n (.c a) (.code b :: k) ρ
 | n+1,.c .skip,k,ρ=>kZ X G μ n (.e .normal) k ρ
 | n+1,.c (.block id a),k,ρ=>kZ X G μ n (.c a) (.blk id :: k) ρ
 | n+1,.c (.exit id),k,ρ=>kZ X G μ n (.e (.exit id)) k ρ
 | _+1,.c .ret,_,ρ=>We X .ret [] ρ G μ
 | n+1,.c (.region id ⟨l⟩ false),k,ρ =>
  match kH X.n l with
  | true=>vA l (fun σ ρ=>match σ with
   | []=>kZ X G μ n (.e .normal) k ρ
   | i :: σ=>Wo false ⟨false,false⟩ X.P X.n l (fun ρ G μ=>We X .normal k ρ G μ) (i :: σ) ρ G μ) (List.range l.length) ρ
  | false=>Wk X (.region id ⟨l⟩ false) k ρ G μ
 | _+1,.c c,k,ρ=>Wk X c k ρ G μ
 | _+1,.e .normal,[],ρ=>We X .ret [] ρ G μ
 | n+1,.e .normal,.code c :: k,ρ=>kZ X G μ n (.c c) k ρ
 | n+1,.e .normal,.blk _ :: k,ρ=>kZ X G μ n (.e .normal) k ρ
 | n+1,.e (.exit id),.code _ :: k,ρ=>kZ X G μ n (.e (.exit id)) k ρ
 | n+1,.e (.exit id),.lp _ :: k,ρ=>kZ X G μ n (.e (.exit id)) k ρ
 | n+1,.e (.exit id),.blk id' :: k,ρ =>
  match Nat.beq id id' with
  | true=>kZ X G μ n (.e .normal) k ρ
  | false=>kZ X G μ n (.e (.exit id)) k ρ
 | _+1,.e e,k,ρ=>We X e k ρ G μ
def aM3 (X:Cx) (G:PM) (μ:aH):GoS→List KI→aO→Prop
 | .c c,k,ρ=>Wk X c k ρ G μ
 | .e e,k,ρ=>We X e k ρ G μ
theorem aDE {X:Cx} {G:PM} {μ:aH}:∀ (n:Nat) (s:GoS) (k:List KI) (ρ:aO),kZ X G μ n s k ρ→aM3 X G μ s k ρ:=by
 intro n
 induction n with
 | zero=>intro s k ρ h; cases s<;>exact h
 | succ n ih =>
  intro s k ρ h
  unfold kZ at h
  split at h<;>first | (rename_i e; cases e; done) | skip
  case _=>rename_i e; cases e; exact Wk.seq (ih _ _ _ h)
  case _=>rename_i e; cases e; exact Wk.skip (ih _ _ _ h)
  case _=>rename_i e; cases e; exact Wk.block (ih _ _ _ h)
  case _=>rename_i e; cases e; exact Wk.exit (ih _ _ _ h)
  case _=>exact Wk.ret h
  case _ =>
   rename_i e; cases e
   split at h
   ·rename_i hd
    refine Wk.region hd (aDo (fun σ ρ hK=>?_) _ _ h)
    split at hK
    ·exact .nil (ih _ _ _ hK)
    ·exact hK
   ·exact h
  case _=>exact h
  case _=>exact We.nil h
  case _=>rename_i e; cases e; exact We.code (ih _ _ _ h)
  case _=>rename_i e; cases e; exact We.blk (ih _ _ _ h)
  case _=>rename_i e; cases e; exact We.xcode (ih _ _ _ h)
  case _=>rename_i e; cases e; exact We.xlp (ih _ _ _ h)
  case _ =>
   rename_i e; cases e
   split at h
   ·rename_i hb; obtain rfl:=Nat.eq_of_beq_eq_true hb; exact We.xblk (ih _ _ _ h)
   ·rename_i hb; exact We.xnot hb (ih _ _ _ h)
  case _=>exact h
theorem Wk.g {X:Cx} {c:Code} {k:List KI} {ρ:aO} {G:PM} {μ:aH} (h:kZ X G μ 200 (.c c) k ρ):Wk X c k ρ G μ:=aDE _ _ _ _ h
theorem We.g {X:Cx} {e:Exit} {k:List KI} {ρ:aO} {G:PM} {μ:aH} (h:kZ X G μ 200 (.e e) k ρ):We X e k ρ G μ:=aDE _ _ _ _ h
theorem Wo.g {dr:Bool} {mc:Md} {P:Program} {n:Nat} {l:List Oper} {X:Cx} {k:List KI} {σ:List Nat} {ρ:aO} {G:PM} {μ:aH}
  (h:vA l (fun σ ρ=>match σ with
   | []=>kZ X G μ 200 (.e .normal) k ρ
   | i :: σ=>Wo dr mc P n l (fun ρ G μ=>We X .normal k ρ G μ) (i :: σ) ρ G μ) σ ρ):Wo dr mc P n l (fun ρ G μ=>We X .normal k ρ G μ) σ ρ G μ :=
 aDo (fun σ ρ hK=>by
  split at hK
  ·exact .nil (aDE _ _ _ _ hK)
  ·exact hK) _ _ h
theorem cD {X:Cx} {k:List KI} {ρ:aO} {G:PM} {μ:aH} {x y:Code} {cd:Operand} {b:Bool} (hc:ev ρ cd=some (true,.bool b)) (ht:b=true→Wk X x k ρ G μ) (hf:b=false→Wk X y k ρ G μ):Wk X (.cond cd x y) k ρ G μ:=Wk.cond hc ht hf
theorem Wo.p {dr:Bool} {mc:Md} {P:Program} {n:Nat} {l:List Oper} {K:aO→PM→aH→Prop} {σ:List Nat} {ρ:aO} {G:PM} {μ:aH} (h:vA l (fun σ ρ=>Wo dr mc P n l K σ ρ G μ) σ ρ):Wo dr mc P n l K σ ρ G μ:=aDo (fun _ _ h=>h) _ _ h
section
variable {dr:Bool} {mc:Md} {P:Program} {n:Nat} {l:List Oper} {K:aO→PM→aH→Prop} {i:Nat} {σ:List Nat} {ρ:aO} {G:PM} {μ:aH}
variable {d t:Nat} {p:String} {af:Array Edge} {g:Option (Nat×Bool)} {c:Bool}
theorem lr {T E sz m:Nat} {x:Operand} {v:Value} {xs:List Value} {μ':aH} (ho:nth l i=some ⟨some d,.call { callee:=.builtin .len,args:=#[x],argTypes:=#[T] },t,p,af,g⟩) (hg:Gd l ρ g c) (hT:(cL P T).isSome=true) (hx:Ev ρ c x v) (hm:MTake μ (.row v E sz m xs) μ')
  (h:Wo dr mc P n l K σ ((d,c,.int .i64 m) :: ρ) G μ):Wo dr mc P n l K (i :: σ) ρ G μ :=
 .read ho (.inl rfl) hg (fun hc a w ha hs=>by
  have hrow:w.ownsRow 0 E sz v m xs:=hs.own _ (hm.perm.mem_iff.2 (List.mem_cons_self ..))
  unfold cL at hT
  split at hT
  ·rename_i e hu
   rcases hrow.2 with ⟨rfl,rfl⟩ | ⟨g,cap,cur,rfl,_⟩
   ·simp [execOp,resolve,invoke,builtin,hx.eval ha hc,Builtin.len_,run_underlying hu,goInt]
   ·simp [execOp,resolve,invoke,builtin,hx.eval ha hc,Builtin.len_,run_underlying hu,goInt]
  ·cases hT) h
theorem aC3 {op:BinOp} {T:TypeId} {x y:Operand} {a b:Array Value} {w:World} (h:P.eqGuardType P.depth T=false):(eqGuard op T x y (.agg a) (.agg b)).run P w=.ok () w:=by
 have hp:∀ w:World,Sem.run P (Sem.program Sem.pure) w=.ok P w:=fun _=>rfl
 unfold eqGuard; cases op<;>simp [h,program,hp,Result.andThen]
end
def uv (k:IntKind) (x:BitVec k.bits):Value:=.int k (x.toNat:Int)
theorem aES {k:IntKind} (hk:k.signed=false) (n:Nat):k.wrap (n:Int)=((BitVec.ofNat k.bits n).toNat:Int):=by
 simp [IntKind.wrap,hk]
section
variable {dr:Bool} {mc:Md} {P:Program} {n:Nat} {l:List Oper} {K:aO→PM→aH→Prop} {i:Nat} {σ:List Nat} {ρ:aO} {G:PM} {μ:aH}
variable {d t:Nat} {p:String} {af:Array Edge} {g:Option (Nat×Bool)} {c:Bool}
def aCl (op:BinOp) {w:Nat} (x y:BitVec w):Option (BitVec w) :=
 match op with
 | .and=>some (x &&& y)
 | .or=>some (x ||| y)
 | .xor=>some (x ^^^ y)
 | .andNot=>some (x &&& ~~~y)
 | .add=>some (x+y)
 | .sub=>some (x-y)
 | .mul=>some (x*y)
 | _=>none
theorem yC {k:IntKind} (hk:k.signed=false) (z:BitVec k.bits):k.wrap (z.toNat:Int)=(z.toNat:Int):=by rw [aES hk]; simp
theorem aAW {k:IntKind} (hk:k.signed=false) (z:Int):k.wrap z=((BitVec.ofInt k.bits z).toNat:Int):=by
 simp [IntKind.wrap,hk,BitVec.toNat_ofInt]
 exact (Int.max_eq_left (Int.emod_nonneg _ (Int.pow_ne_zero (by decide)))).symm
theorem aQR {op:BinOp} {k:IntKind} {x y r:BitVec k.bits} (hk:k.signed=false) (T:TypeId) (h:aCl op x y=some r) (w:World):(binOp op T (uv k x) (uv k y)).run P w=.ok (uv k r) w:=by
 have hofi:∀ z:BitVec k.bits,BitVec.ofInt k.bits (z.toNat:Int)=z:=fun z=>by simp
 cases op<;>simp only [aCl,Option.some.injEq,reduceCtorEq] at h<;>subst h
 case and=>simp only [binOp,uv,Op.intBits,hofi,yC hk,ne_eq,not_true_eq_false,if_false]; rfl
 case or=>simp only [binOp,uv,Op.intBits,hofi,yC hk,ne_eq,not_true_eq_false,if_false]; rfl
 case xor=>simp only [binOp,uv,Op.intBits,hofi,yC hk,ne_eq,not_true_eq_false,if_false]; rfl
 case andNot=>simp only [binOp,uv,Op.intBits,hofi,yC hk,ne_eq,not_true_eq_false,if_false]; rfl
 case add =>
  have:k.wrap ((x.toNat:Int)+(y.toNat:Int))=((x+y).toNat:Int):=by
   rw [aAW hk,BitVec.ofInt_add,hofi,hofi]
  simp only [binOp,uv,Op.intArith,this,ne_eq,not_true_eq_false,if_false]; rfl
 case sub =>
  have:k.wrap ((x.toNat:Int)-(y.toNat:Int))=((x-y).toNat:Int):=by
   rw [aAW hk,Int.sub_eq_add_neg,BitVec.ofInt_add,BitVec.ofInt_neg,hofi,hofi,←BitVec.sub_eq_add_neg]
  simp only [binOp,uv,Op.intArith,this,ne_eq,not_true_eq_false,if_false]; rfl
 case mul =>
  have:k.wrap ((x.toNat:Int)*(y.toNat:Int))=((x*y).toNat:Int):=by
   rw [aAW hk,BitVec.ofInt_mul,hofi,hofi]
  simp only [binOp,uv,Op.intArith,this,ne_eq,not_true_eq_false,if_false]; rfl
theorem aQV {k k':IntKind} {x:BitVec k.bits} {m:Int} (hk:k.signed=false) (h0:0≤m) (T:TypeId) (w:World):(binOp .shl T (uv k x) (.int k' m)).run P w=.ok (uv k (x <<< m.toNat)) w:=by
 have:k.wrap ((x.toNat:Int)*2^(min m.toNat k.bits))=((x <<< m.toNat).toNat:Int):=by
  rw [show (x.toNat:Int)*2^(min m.toNat k.bits)=((x.toNat*2^(min m.toNat k.bits):Nat):Int) by simp,aES hk]
  congr 1
  rw [BitVec.toNat_ofNat,BitVec.toNat_shiftLeft,Nat.shiftLeft_eq]
  rcases Nat.le_total m.toNat k.bits with h | h
  ·rw [Nat.min_eq_left h]
  ·rw [Nat.min_eq_right h,Nat.mul_mod_left]
   obtain ⟨q,hq⟩:=Nat.le.dest h
   rw [← hq,Nat.pow_add,Nat.mul_comm (2^k.bits),←Nat.mul_assoc,Nat.mul_mod_left]
 simp only [binOp,uv,Op.shift,if_neg (show ¬ m<0 by omega),this]; rfl
theorem aQW {k k':IntKind} {x:BitVec k.bits} {m:Int} (h0:0≤m) (T:TypeId) (w:World):(binOp .shr T (uv k x) (.int k' m)).run P w=.ok (uv k (x >>> m.toNat)) w:=by
 have:(x.toNat:Int).fdiv (2^(min m.toNat k.bits))=((x >>> m.toNat).toNat:Int):=by
  rw [show ((2:Int)^(min m.toNat k.bits))=((2^(min m.toNat k.bits):Nat):Int) by simp,Int.fdiv_eq_ediv_of_nonneg _ (Int.natCast_nonneg _),←Int.natCast_ediv,BitVec.toNat_ushiftRight,Nat.shiftRight_eq_div_pow]
  congr 1
  rcases Nat.le_total m.toNat k.bits with h | h
  ·rw [Nat.min_eq_left h]
  ·rw [Nat.min_eq_right h,Nat.div_eq_of_lt x.isLt,Nat.div_eq_of_lt (Nat.lt_of_lt_of_le x.isLt (Nat.pow_le_pow_right (by decide) h))]
 simp only [binOp,uv,Op.shift,if_neg (show ¬ m<0 by omega),this]; rfl
theorem bw {op:BinOp} {T T':TypeId} {x y:Operand} {k:IntKind} {a b r:BitVec k.bits} (ho:nth l i=some ⟨some d,.binOp op T x y T',t,p,af,g⟩) (hg:Gd l ρ g c) (hk:k.signed=false) (hx:Ev ρ c x (uv k a)) (hy:Ev ρ c y (uv k b)) (hr:aCl op a b=some r)
  (h:Wo dr mc P n l K σ ((d,c,uv k r) :: ρ) G μ):Wo dr mc P n l K (i :: σ) ρ G μ :=
 .pure ho (.inl rfl) hg (fun hc q w ha=>by
  have e1:=hx.eval ha hc; have e2:=hy.eval ha hc
  have hq:(eqGuard op T x y (uv k a) (uv k b)).run P w=.ok () w:=kX ..
  simp [execOp,e1,e2,hq,aQR hk T hr]) h
theorem lw {T T':TypeId} {x y:Operand} {k k':IntKind} {a:BitVec k.bits} {m:Int} (ho:nth l i=some ⟨some d,.binOp .shl T x y T',t,p,af,g⟩) (hg:Gd l ρ g c) (hk:k.signed=false) (hx:Ev ρ c x (uv k a)) (hy:Ev ρ c y (.int k' m)) (h0:c=true→0≤m)
  (h:Wo dr mc P n l K σ ((d,c,uv k (a <<< m.toNat)) :: ρ) G μ):Wo dr mc P n l K (i :: σ) ρ G μ :=
 .pure ho (.inl rfl) hg (fun hc q w ha=>by
  have e1:=hx.eval ha hc; have e2:=hy.eval ha hc
  have hq:(eqGuard .shl T x y (uv k a) (.int k' m)).run P w=.ok () w:=kX ..
  simp [execOp,e1,e2,hq,aQV hk (h0 hc) T]) h
theorem jH {T T':TypeId} {x y:Operand} {k k':IntKind} {a:BitVec k.bits} {m:Int} (ho:nth l i=some ⟨some d,.binOp .shr T x y T',t,p,af,g⟩) (hg:Gd l ρ g c) (hx:Ev ρ c x (uv k a)) (hy:Ev ρ c y (.int k' m)) (h0:c=true→0≤m)
  (h:Wo dr mc P n l K σ ((d,c,uv k (a >>> m.toNat)) :: ρ) G μ):Wo dr mc P n l K (i :: σ) ρ G μ :=
 .pure ho (.inl rfl) hg (fun hc q w ha=>by
  have e1:=hx.eval ha hc; have e2:=hy.eval ha hc
  have hq:(eqGuard .shr T x y (uv k a) (.int k' m)).run P w=.ok () w:=kX ..
  simp [execOp,e1,e2,hq,aQW (h0 hc) T]) h
theorem cu {S D:TypeId} {x:Operand} {k k':IntKind} {a:BitVec k.bits} (ho:nth l i=some ⟨some d,.convert S D x,t,p,af,g⟩) (hg:Gd l ρ g c) (hk':k'.signed=false) (hk:jF P S D=some k') (hx:Ev ρ c x (uv k a))
  (h:Wo dr mc P n l K σ ((d,c,uv k' (a.setWidth k'.bits)) :: ρ) G μ):Wo dr mc P n l K (i :: σ) ρ G μ :=
 cv ho hg hk hx (by
  have:k'.wrap (a.toNat:Int)=((a.setWidth k'.bits).toNat:Int):=by rw [aES hk']; simp
  rw [this]; exact h)
theorem ci {S D:TypeId} {x:Operand} {k k':IntKind} {a:Int} (ho:nth l i=some ⟨some d,.convert S D x,t,p,af,g⟩) (hg:Gd l ρ g c) (hk':k'.signed=false) (hk:jF P S D=some k') (hx:Ev ρ c x (.int k a))
  (h:Wo dr mc P n l K σ ((d,c,uv k' (BitVec.ofInt k'.bits a)) :: ρ) G μ):Wo dr mc P n l K (i :: σ) ρ G μ :=
 cv ho hg hk hx (by rw [aAW hk']; exact h)
theorem aA7 (a:Addr):a.add 0=a:=by simp [Addr.add]
theorem lG {T m e sz:Nat} {x:Operand} {b o:Nat} (ho:nth l i=some ⟨some d,.slice T x none none none,t,p,af,g⟩) (hg:Gd l ρ g c) (hT:gP P T=some (m,e,sz)) (hx:Ev ρ c x (.pointer (some ⟨b,o,none⟩)))
  (h:Wo dr mc P n l K σ ((d,c,.slice (some ⟨b,o,none⟩) m m) :: ρ) G μ):Wo dr mc P n l K (i :: σ) ρ G μ :=
 .pure ho (.inl rfl) hg (fun hc a w ha=>by
  obtain ⟨hu,inf,hi,hs⟩:=sM hT
  simp [execOp,hx.eval ha hc,Instr.sliceAt,run_underlying hu,Instr.sureAddr,Instr.sliceBounds,sizeOf,typeInfo,hi,aA7]) h
theorem sal {T m e sz:Nat} {x y:Operand} {k:IntKind} {b o:Nat} {lo:Int} (ho:nth l i=some ⟨some d,.slice T x (some y) none none,t,p,af,g⟩) (hg:Gd l ρ g c) (hT:gP P T=some (m,e,sz)) (hx:Ev ρ c x (.pointer (some ⟨b,o,none⟩))) (hy:Ev ρ c y (.int k lo))
  (h0:c=true→0≤lo) (h1:c=true→lo<m) (h:Wo dr mc P n l K σ ((d,c,.slice (some ⟨b,o+lo.toNat*sz,none⟩) (m-lo.toNat) (m-lo.toNat)) :: ρ) G μ):Wo dr mc P n l K (i :: σ) ρ G μ :=
 .pure ho (.inl rfl) hg (fun hc a w ha=>by
  obtain ⟨hu,inf,hi,hs⟩:=sM hT
  have e0:=h0 hc; have e1:=h1 hc
  have hne:m≠lo.toNat:=by omega
  have hle:lo≤(m:Int):=by omega
  simp [execOp,hx.eval ha hc,hy.eval ha hc,Instr.sliceAt,run_underlying hu,Instr.sureAddr,Instr.sliceBounds,Instr.sliceBound,asIntOf,sizeOf,typeInfo,hi,e0,hle,hne,jD,hs]) h
theorem sab {T m e sz:Nat} {x y z:Operand} {k k':IntKind} {b o:Nat} {lo hi:Int} (ho:nth l i=some ⟨some d,.slice T x (some y) (some z) none,t,p,af,g⟩) (hg:Gd l ρ g c) (hT:gP P T=some (m,e,sz)) (hx:Ev ρ c x (.pointer (some ⟨b,o,none⟩))) (hy:Ev ρ c y (.int k lo)) (hz:Ev ρ c z (.int k' hi))
  (h0:c=true→0≤lo) (h1:c=true→lo≤hi) (h2:c=true→hi≤m) (h3:c=true→lo<m) (h:Wo dr mc P n l K σ ((d,c,.slice (some ⟨b,o+lo.toNat*sz,none⟩) (hi.toNat-lo.toNat) (m-lo.toNat)) :: ρ) G μ):Wo dr mc P n l K (i :: σ) ρ G μ :=
 .pure ho (.inl rfl) hg (fun hc a w ha=>by
  obtain ⟨hu,inf,hi',hs⟩:=sM hT
  have e0:=h0 hc; have e1:=h1 hc; have e2:=h2 hc; have e3:=h3 hc
  have hne:m≠lo.toNat:=by omega
  have hhi:0≤hi:=by omega
  simp [execOp,hx.eval ha hc,hy.eval ha hc,hz.eval ha hc,Instr.sliceAt,run_underlying hu,Instr.sureAddr,Instr.sliceBounds,Instr.sliceBound,asIntOf,sizeOf,typeInfo,hi',e0,e2,hhi,hne,jD,hs]
  intro hlt; exfalso; omega) h
theorem sd {T e sz by':Nat} {x y:Operand} {k:IntKind} {s:Sh} {m:Nat} {lo:Int} (ho:nth l i=some ⟨some d,.slice T x (some y) none none,t,p,af,g⟩) (hg:Gd l ρ g c) (hT:cL P T=some (e,sz,by')) (hx:Ev ρ c x (s.val m)) (hy:Ev ρ c y (.int k lo))
  (h0:c=true→0≤lo) (h1:c=true→lo≤m) (h:Wo dr mc P n l K σ ((d,c,(s.cut lo.toNat sz).val (m-lo.toNat)) :: ρ) G μ):Wo dr mc P n l K (i :: σ) ρ G μ :=
 .pure ho (.inl rfl) hg (fun hc a w ha=>by
  obtain ⟨hu,inf,hi',rfl,rfl⟩:=gE hT
  have hx':=hx.eval ha hc
  simp only [Sh.val] at hx'
  have e0:=h0 hc; have e1:=h1 hc
  simp [execOp,hx',hy.eval ha hc,Instr.sliceAt,run_underlying hu,Instr.slice,Instr.sliceBounds,Instr.sliceBound,asIntOf,e0,e1,sizeOf,typeInfo,hi',Sh.val,Sh.cut]) h
theorem se {T e sz by':Nat} {x z:Operand} {k:IntKind} {s:Sh} {m:Nat} {hi:Int} (ho:nth l i=some ⟨some d,.slice T x none (some z) none,t,p,af,g⟩) (hg:Gd l ρ g c) (hT:cL P T=some (e,sz,by')) (hx:Ev ρ c x (s.val m)) (hz:Ev ρ c z (.int k hi))
  (h0:c=true→0≤hi) (h1:c=true→hi≤s.cap) (h:Wo dr mc P n l K σ ((d,c,s.val hi.toNat) :: ρ) G μ):Wo dr mc P n l K (i :: σ) ρ G μ :=
 .pure ho (.inl rfl) hg (fun hc a w ha=>by
  obtain ⟨hu,inf,hi',rfl,rfl⟩:=gE hT
  have hx':=hx.eval ha hc
  simp only [Sh.val] at hx'
  have e0:=h0 hc; have e1:=h1 hc
  have hid:∀ oa:Option Addr,oa.map (fun a=>a.add 0)=oa:=fun oa=>by cases oa<;>simp [aA7]
  simp [execOp,hx',hz.eval ha hc,Instr.sliceAt,run_underlying hu,Instr.slice,Instr.sliceBounds,Instr.sliceBound,asIntOf,e0,e1,sizeOf,typeInfo,hi',Sh.val,hid]) h
theorem Tr.toRow {G0:PM} {K0:List Nat} {w0 w:World} {E sz m g:Nat} {xs:List Value} (h:Tr G0 K0 w0 G (.blk g (cl xs E) :: μ) w) (hl:xs.length=m*sz) (hm:m≤maxLen):Tr G0 K0 w0 G (.row (.slice (some ⟨g,0,none⟩) m m) E sz m xs :: μ) w:=by
 have hk:keys (.row (.slice (some ⟨g,0,none⟩) m m) E sz m xs :: μ)=g :: keys μ:=by simp [keys,Res.keys,Value.ownBlock]
 have hk':keys (.blk g (cl xs E) :: μ)=g :: keys μ:=by simp [keys,Res.keys]
 have hg:w.heap[g]? = some (cl xs E):=h.sat.own _ (List.mem_cons_self ..)
 refine { h with sat:=⟨h.sat.sub,fun r hr=>?_,by rw [hk,←hk']; exact h.sat.apart,by rw [hk,←hk']; exact h.sat.nodup⟩,mine:=by rw [hk,←hk']; exact h.mine }
 rcases List.mem_cons.1 hr with rfl | hr
 ·exact ⟨hl,.inr ⟨g,m,xs.toArray,rfl,Nat.zero_le _,hg,Nat.le_refl _,hm,by simpa using hl,by simp [← hl]⟩⟩
 exact h.sat.own r (List.mem_cons_of_mem _ hr)
theorem b0 {T E sz by':Nat} (hdf:dr=false) (ho:nth l i=some ⟨some d,.buildSlice T 0 #[],t,p,af,none⟩) (hT:cL P T=some (E,sz,by'))
  (h:∀ v,Wo dr mc P n l K σ ((d,true,v) :: ρ) G (.row v E sz 0 [] :: μ)):Wo dr mc P n l K (i :: σ) ρ G μ:=by
 refine .act (μ₁:=[]) (μ₂:=μ) (post:=fun G' μ' v=>G'=G∧μ'=[.row v E sz 0 []]) ho (.inr hdf) .no (List.Perm.refl _) (fun a w ha hs=>.inl ?_) ?_
 ·obtain ⟨hu,inf,hi,hs1,_⟩:=gE hT
  have ht0:Tr G [] w G [] w:=⟨⟨hs.sub,(fun r hr=>nomatch hr),(fun b hb=>nomatch hb),List.nodup_nil⟩,rfl,rfl,rfl,Nat.le_refl _,fun b _ _=>⟨rfl,rfl⟩,(fun b hb=>nomatch hb),fun b o _ hb=>hb⟩
  refine ⟨.slice (some ⟨w.heap.size,0,none⟩) 0 0,w.alloc (cl [] E),G,[.row (.slice (some ⟨w.heap.size,0,none⟩) 0 0) E sz 0 []],.inl ?_,Tr.toRow (ht0.alloc (cl [] E)) (by simp) (Nat.zero_le _),rfl,rfl⟩
  simp [execOp,Instr.buildSlice,run_underlying hu,sizeOf,typeInfo,hi,Instr.fill,newRow,cl]
  rw [show Array.map (fun _=>(default:Value)) (Array.range 0) = #[] from by simp [Array.eq_empty_iff_size_eq_zero]]
 rintro v G' μ' _ ⟨rfl,rfl⟩
 exact h v
end
abbrev W:=BitVec 32
abbrev U (x:W):Value:=uv .u32 x
def aIU (x:W) (k:Int):W:=x <<< (BitVec.ofInt 64 k &&& 31#64).toNat ||| x >>> (32#64-(BitVec.ofInt 64 k &&& 31#64)).toNat
def oQ (x:W) (k:Nat):W:=x <<< k ||| x >>> (32-k)
def wV (a b c d:W):W×W×W×W :=
 let a:=a+b
 let d:=oQ (d ^^^ a) 16
 let c:=c+d
 let b:=oQ (b ^^^ c) 12
 let a:=a+b
 let d:=oQ (d ^^^ a) 8
 let c:=c+d
 let b:=oQ (b ^^^ c) 7
 (a,b,c,d)
def aNz (m:W×W×W×W):Value:=.tuple #[U m.1,U m.2.1,U m.2.2.1,U m.2.2.2]
theorem aRv (x:W) {k:Nat} (hk:k≤32):fO [uv .u32 (x <<< ((k:Int)).toNat ||| x >>> ((32:Int)-(k:Int)).toNat)]=U (oQ x k):=by
 rw [show ((32:Int)-(k:Int)).toNat=32-k by omega,Int.toNat_natCast]; rfl
def wa (n:Nat) (y:Nat→W):List Value:=(List.range n).map fun i=>U (y i)
abbrev Y:=BitVec 8
abbrev V (x:Y):Value:=uv .u8 x
def ba (n:Nat) (y:Nat→Y):List Value:=(List.range n).map fun i=>V (y i)
def upd {α:Type} (y:Nat→α) (j:Nat) (z:α):Nat→α:=fun i=>if i=j then z else y i
theorem bV (n:Nat) (y:Nat→W):(wa n y).length=n:=by simp [wa]
theorem bT (n:Nat) (y:Nat→Y):(ba n y).length=n:=by simp [ba]
theorem tO {n:Nat} {y:Nat→W} {j:Nat} (h:j<n):(wa n y)[j]? = some (U (y j)):=by simp [wa,h]
theorem wE {n:Nat} {y:Nat→Y} {j:Nat} (h:j<n):(ba n y)[j]? = some (V (y j)):=by simp [ba,h]
theorem aJk {n:Nat} {y:Nat→W} {j:Nat} {z:W}:(wa n y).set j (U z)=wa n (upd y j z):=by
 refine List.ext_getElem? fun i=>?_
 rw [List.getElem?_set]
 by_cases h:j=i
 ·subst h
  by_cases hj:j<n
  ·simp [wa,upd,hj]
  simp [wa,hj]
 simp only [if_neg h]
 by_cases hi:i<n
 ·simp [wa,upd,hi,show ¬ i=j from fun e=>h e.symm]
 simp [wa,hi]
theorem aBB {n:Nat} {y:Nat→Y} {j:Nat} {z:Y}:(ba n y).set j (V z)=ba n (upd y j z):=by
 refine List.ext_getElem? fun i=>?_
 rw [List.getElem?_set]
 by_cases h:j=i
 ·subst h
  by_cases hj:j<n
  ·simp [ba,upd,hj]
  simp [ba,hj]
 simp only [if_neg h]
 by_cases hi:i<n
 ·simp [ba,upd,hi,show ¬ i=j from fun e=>h e.symm]
 simp [ba,hi]
theorem oT (n:Nat) (y:Nat→W):∀ u∈wa n y,u.oneCell'=true:=by
 intro u hu; obtain ⟨i,_,rfl⟩:=List.mem_map.1 hu; rfl
theorem jR (n:Nat) (y:Nat→Y):∀ u∈ba n y,u.oneCell'=true:=by
 intro u hu; obtain ⟨i,_,rfl⟩:=List.mem_map.1 hu; rfl
def rX (y:Nat→W) (a b c d:Nat):Nat→W :=
 let y:=upd y a (y a+y b)
 let y:=upd y d (oQ (y d ^^^ y a) 16)
 let y:=upd y c (y c+y d)
 let y:=upd y b (oQ (y b ^^^ y c) 12)
 let y:=upd y a (y a+y b)
 let y:=upd y d (oQ (y d ^^^ y a) 8)
 let y:=upd y c (y c+y d)
 upd y b (oQ (y b ^^^ y c) 7)
def pM (y:Nat→W) (a b c d:Nat):Nat→W :=
 let m:=wV (y a) (y b) (y c) (y d)
 upd (upd (upd (upd y a m.1) b m.2.1) c m.2.2.1) d m.2.2.2
theorem aAC (y:Nat→W) {a b c d:Nat} (h1:a≠b) (h2:a≠c) (h3:a≠d) (h4:b≠c) (h5:b≠d) (h6:c≠d):rX y a b c d=pM y a b c d:=by
 funext i
 by_cases ha:i=a
 ·subst ha; simp [rX,pM,upd,wV,h1,h2,h3,h4,h5,h6,Ne.symm h1,Ne.symm h2,Ne.symm h3,Ne.symm h4,Ne.symm h5,Ne.symm h6]
 ·by_cases hb:i=b
  ·subst hb; simp [rX,pM,upd,wV,h1,h2,h3,h4,h5,h6,Ne.symm h1,Ne.symm h2,Ne.symm h3,Ne.symm h4,Ne.symm h5,Ne.symm h6]
  ·by_cases hc:i=c
   ·subst hc; simp [rX,pM,upd,wV,h1,h2,h3,h4,h5,h6,Ne.symm h1,Ne.symm h2,Ne.symm h3,Ne.symm h4,Ne.symm h5,Ne.symm h6]
   ·by_cases hd:i=d
    ·subst hd; simp [rX,pM,upd,wV,h1,h2,h3,h4,h5,h6,Ne.symm h1,Ne.symm h2,Ne.symm h3,Ne.symm h4,Ne.symm h5,Ne.symm h6]
    ·simp [rX,pM,upd,ha,hb,hc,hd]
theorem bG {n:Nat} {y:Nat→W} {j:Int} {o:Nat} (a:Nat) (hj:o+j.toNat*1=a) (h:a<n):(wa n y)[o+j.toNat*1]? = some (U (y a)):=by rw [hj]; exact tO h
theorem cU {n:Nat} {y:Nat→Y} {j:Int} {o:Nat} (a:Nat) (hj:o+j.toNat*1=a) (h:a<n):(ba n y)[o+j.toNat*1]? = some (V (y a)):=by rw [hj]; exact wE h
theorem cY {n:Nat} {y:Nat→W} {j:Int} {z:W} {o:Nat} (a:Nat) (hj:o+j.toNat*1=a):(wa n y).set (o+j.toNat*1) (U z)=wa n (upd y a z):=by rw [hj]; exact aJk
theorem iH {n:Nat} {y:Nat→Y} {j:Int} {z:Y} {o:Nat} (a:Nat) (hj:o+j.toNat*1=a):(ba n y).set (o+j.toNat*1) (V z)=ba n (upd y a z):=by rw [hj]; exact aBB
def qV (f:Nat→Y) (i:Nat):W:=(f i).setWidth 32+(f (i+1)).setWidth 32*256#32+(f (i+2)).setWidth 32*65536#32+(f (i+3)).setWidth 32*16777216#32
def aQ (b:Y):List Value:=[V b]
def yl (n:Nat) (f:Nat→Y):List Y:=(List.range n).map f
theorem bK (n:Nat) (f:Nat→Y):(yl n f).length=n:=by simp [yl]
theorem aEV {n:Nat} {f:Nat→Y} {k:Nat} (h:k<n):(yl n f).getD k 0=f k:=by simp [yl,h]
theorem aEW (n:Nat) (f:Nat→Y):(yl n f).flatMap aQ=ba n f:=by
 unfold yl ba
 generalize List.range n=r
 induction r with
 | nil=>rfl
 | cons a r ih=>simp only [List.map_cons,List.flatMap_cons,ih,aQ]; rfl
theorem SlR.yat {G:PM} {h:Sh} {xs:List Y} (s:SlR G 1 aQ h xs) {j:Int} (k:Nat) (hj:j.toNat=k) (hk:k<xs.length):RdP G ⟨h.b,h.o+j.toNat*1,none⟩ (V (xs.getD k 0)):=by
 have:=s.rd k (xs.getD k 0) (by simp [hk]) 0 _ rfl
 rw [hj]; simpa using this
theorem aCg {G:PM} {b n:Nat} {f:Nat→Y} {T:TypeId}:SlR (G.add b (cl (ba n f) T)) 1 aQ ⟨some ⟨b,0,none⟩,n⟩ (yl n f) :=
 lR (T:=T) (by rw [aEW]; exact gI _ _ _) (fun _ _=>rfl) (by rw [bK]; exact Nat.le_refl _)
theorem aSD {f f':Nat→Y} {i:Nat} (h:∀ j,j<4→f (i+j)=f' (i+j)):qV f i=qV f' i:=by
 unfold qV
 have h0:=h 0 (by decide)
 rw [Nat.add_zero] at h0
 rw [h0,h 1 (by decide),h 2 (by decide),h 3 (by decide)]
def x0:Nat→W:=fun i=>match i with | 0=>1634760805#32 | 1=>857760878#32 | 2=>2036477234#32 | 3=>1797285236#32 | _=>0#32
def x1 (key:Nat→Y):Nat→Nat→W
 | 0=>x0
 | k+1=>upd (x1 key k) (4+k) (qV key (4*k))
def x2 (key nonce:Nat→Y) (count:W):Nat→Nat→W
 | 0=>upd (x1 key 8) 12 count
 | k+1=>upd (x2 key nonce count k) (13+k) (qV nonce (4*k))
def rM (y:Nat→W):Nat→Nat→W
 | 0=>y
 | k+1=>rX (rM y k) k (4+k) (8+k) (12+k)
def wK (y:Nat→W):Nat→Nat→W
 | 0=>y
 | k+1=>rX (wK y k) k (4+(k+1)%4) (8+(k+2)%4) (12+(k+3)%4)
def nT (y:Nat→W):Nat→Nat→W
 | 0=>y
 | k+1=>wK (rM (nT y k) 4) 4
def zH (key nonce:Nat→Y) (count:W):Nat→W:=fun i=>nT (x2 key nonce count 3) 10 i+x2 key nonce count 3 i
def kG (key nonce:Nat→Y) (count:W):Nat→Y:=fun i=>((zH key nonce count (i / 4)) >>> (8*(i%4))).setWidth 8
def gB (f:Nat→Y):Nat→Nat→Y
 | 0=>fun _=>0#8
 | k+1=>upd (gB f k) k (f k)
theorem kO (f:Nat→Y) {n i:Nat} (h:i<n):gB f n i=f i:=by
 induction n with
 | zero=>omega
 | succ n ih =>
  unfold gB upd
  by_cases e:i=n
  ·rw [if_pos e,e]
  ·rw [if_neg e]; exact ih (by omega)
theorem iG {n:Nat} {f f':Nat→Y} (h:∀ i,i<n→f i=f' i):ba n f=ba n f':=by
 unfold ba
 refine List.map_congr_left fun i hi=>?_
 rw [h i (List.mem_range.1 hi)]
theorem nU {x:Int} (a:Nat) (h:x=(a:Int)):x.tmod 4=((a%4:Nat):Int):=by
 subst h; rw [Int.tmod_eq_emod_of_nonneg (by omega)]; omega
theorem vG {x:Int} (a:Nat) (h:x=(a:Int)):x.tmod 64=((a%64:Nat):Int):=by
 subst h; rw [Int.tmod_eq_emod_of_nonneg (by omega)]; omega
theorem xB {x:Int} (a:Nat) (h:x=(a:Int)) (hl:a<1000000000000000):IntKind.i64.wrap (x.tdiv 4)=((a / 4:Nat):Int):=by
 subst h; rw [Int.tdiv_eq_ediv_of_nonneg (by omega),bO (by omega) (by omega)]; omega
theorem aO6 {x:Int} (a:Nat) (h:x=(a:Int)) (hl:a<1000000000000000):IntKind.i64.wrap (x.tdiv 64)=((a / 64:Nat):Int):=by
 subst h; rw [Int.tdiv_eq_ediv_of_nonneg (by omega),bO (by omega) (by omega)]; omega
theorem aOe {key nonce:Nat→Y} {count:W} {i b:Nat} {T:TypeId} {m:Int} (hm:m=((i%4:Nat):Int)) :
  Res.blk b (cl (ba 64 (upd (gB (kG key nonce count) i) i (((nT (x2 key nonce count 3) 10 (i / 4)+x2 key nonce count 3 (i / 4)) >>> (8*m).toNat).setWidth 8))) T)=Res.blk b (cl (ba 64 (gB (kG key nonce count) (i+1))) T):=by
 rw [show (8*m).toNat=8*(i%4) by omega]; rfl
def qI (key nonce:Nat→Y) (count:W) (xs:List Y):Nat→Y:=fun i=>xs.getD i 0 ^^^ kG key nonce (count+BitVec.ofNat 32 (i / 64)) (i%64)
def jE (key nonce:Nat→Y) (count:W) (xs:List Y):List Y:=yl xs.length (qI key nonce count xs)
def aDb (key nonce:Nat→Y) (count:W):Nat→Nat→Y
 | 0=>fun _=>0#8
 | k+1=>kG key nonce (count+BitVec.ofNat 32 (k / 64))
theorem aHU {key nonce:Nat→Y} {count:W} {k:Nat} (h:(((k:Int).tmod 64) == 0)=false):aDb key nonce count k=kG key nonce (count+BitVec.ofNat 32 (k / 64)):=by
 rw [vG k rfl] at h
 have h1:k%64≠0:=by intro e; rw [e] at h; simp at h
 cases k with
 | zero=>simp at h1
 | succ j=>rw [aDb,show (j+1) / 64=j / 64 by omega]
theorem aLg (k:Nat) (f:Nat→Y):ba (k+1) f=ba k f++[V (f k)]:=by simp [ba,List.range_succ]
theorem aFh {key nonce:Nat→Y} {count:W} {xs:List Y} {k E:Nat} {v:Value} {f:Nat→Y} (hf:f=kG key nonce (count+BitVec.ofNat 32 (k / 64))):Res.row v E 1 (k+1) (ba k (qI key nonce count xs)++[V (xs.getD k 0 ^^^ f (k%64))])=Res.row v E 1 (k+1) (ba (k+1) (qI key nonce count xs)):=by
 rw [aLg,hf]; rfl
def pX (o:W) (f:Nat→Y) (i:Nat):Nat→W
 | 0=>o
 | c+1=>pX o f i c <<< 8 ||| (f (4*i+(3-c))).setWidth 32
def mI (y:Nat→W) (f:Nat→Y) (off:Nat):Nat→Nat→W
 | 0=>y
 | i+1=>upd (mI y f off i) (off+i) (qV f (4*i))
theorem aJe {α:Type} (z:Nat→α) (p:Nat):upd z p (z p)=z:=by
 funext i; unfold upd; split
 ·rename_i h; rw [h]
 ·rfl
theorem aEO {α:Type} (z:Nat→α) (p:Nat) (a b:α):upd (upd z p a) p b=upd z p b:=by
 funext i; unfold upd; split<;>rfl
theorem vI {α:Type} (z:Nat→α) (p:Nat) (a:α):upd z p a p=a:=by simp [upd]
theorem aOY (x:W) (b:Y):x <<< 8 ||| b.setWidth 32=x*256#32+b.setWidth 32:=by
 have h0:x <<< 8 &&& b.setWidth 32=0#32:=by
  apply BitVec.eq_of_getLsbD_eq
  intro i hi
  simp only [BitVec.getLsbD_and,BitVec.getLsbD_shiftLeft,BitVec.getLsbD_setWidth,BitVec.getLsbD_zero]
  by_cases h8:i<8
  ·simp [h8]
  ·rw [BitVec.getLsbD_of_ge b i (by omega)]; simp
 rw [← BitVec.add_eq_or_of_and_eq_zero _ _ h0]
 congr 1
 apply BitVec.eq_of_toNat_eq
 simp [BitVec.toNat_shiftLeft,BitVec.toNat_mul,Nat.shiftLeft_eq]
theorem aSF (o:W) (f:Nat→Y) (i:Nat):pX o f i 4=qV f (4*i):=by
 have e:pX o f i 4=(((o*256#32+(f (4*i+3)).setWidth 32)*256#32+(f (4*i+2)).setWidth 32)*256#32+(f (4*i+1)).setWidth 32)*256#32+(f (4*i)).setWidth 32:=by
  simp only [pX,aOY]; rfl
 rw [e]
 unfold qV
 generalize (f (4*i)).setWidth 32=a,(f (4*i+1)).setWidth 32=b,(f (4*i+2)).setWidth 32=c,(f (4*i+3)).setWidth 32=d
 grind
theorem aSL {y:Nat→W} {f:Nat→Y} {m off i b:Nat} {T:TypeId}:Res.blk b (cl (wa m (mI y f off i)) T)=Res.blk b (cl (wa m (upd (mI y f off i) (off+i) (pX (mI y f off i (off+i)) f i 0))) T):=by
 rw [pX,aJe]
theorem aSM {z:Nat→W} {f:Nat→Y} {m p i c b:Nat} {T:TypeId} {o x:W} (hx:x=pX o f i (c+1)):Res.blk b (cl (wa m (upd (upd z p (pX o f i c)) p x)) T)=Res.blk b (cl (wa m (upd z p (pX o f i (c+1)))) T):=by
 rw [aEO,hx]
theorem aSK {y:Nat→W} {f:Nat→Y} {m off i c b:Nat} {T:TypeId} (hc:c=4):Res.blk b (cl (wa m (upd (mI y f off i) (off+i) (pX (mI y f off i (off+i)) f i c))) T)=Res.blk b (cl (wa m (mI y f off (i+1))) T):=by
 subst hc; rw [aSF]; rfl
theorem aD8 (key:Nat→Y):∀ k,mI x0 key 4 k=x1 key k
 | 0=>rfl
 | k+1=>by rw [mI,x1,aD8 key k]
theorem aD9 (key nonce:Nat→Y) (count:W):∀ k,mI (upd (x1 key 8) 12 count) nonce 13 k=x2 key nonce count k
 | 0=>rfl
 | k+1=>by rw [mI,x2,aD9 key nonce count k]
theorem aJK {μ μ1 μ2:aH} {r1 r2:Res} (h1:MTake μ r1 μ1) (h2:MTake μ1 r2 μ2):μ.Perm ([r1,r2]++μ2):=h1.perm.trans (h2.perm.cons _)
def aBF (y:Nat→W):Nat→Nat→W
 | 0=>y
 | k+1=>pM (aBF y k) k (4+k) (8+k) (12+k)
theorem aFc (y:Nat→W):∀ k,k≤4→aBF y k=rM y k
 | 0,_=>rfl
 | k+1,h=>by rw [aBF,rM,aFc y k (by omega),aAC _ (by omega) (by omega) (by omega) (by omega) (by omega) (by omega)]
def aMV (y:Nat→W):Nat→W:=pM (pM (pM (pM y 0 5 10 15) 1 6 11 12) 2 7 8 13) 3 4 9 14
theorem aMW (y:Nat→W):aMV y=wK y 4:=by
 simp only [wK]
 rw [aAC _ (by decide) (by decide) (by decide) (by decide) (by decide) (by decide),aAC _ (by decide) (by decide) (by decide) (by decide) (by decide) (by decide),aAC _ (by decide) (by decide) (by decide) (by decide) (by decide) (by decide),aAC _ (by decide) (by decide) (by decide) (by decide) (by decide) (by decide)]
 rfl
theorem aQx {key nonce:Nat→Y} {count:W} {i:Nat}:U (nT (x2 key nonce count 3) 10 i+x2 key nonce count 3 i)=U (zH key nonce count i >>> (8*0)):=by simp [zH]
theorem aQw {x:W} {c:Nat}:U ((x >>> (8*c)) >>> (Int.toNat 8))=U (x >>> (8*(c+1))):=by
 rw [show Int.toNat 8=8 from rfl,←BitVec.shiftRight_add,show 8*c+8=8*(c+1) by omega]
theorem aOd {key nonce:Nat→Y} {count:W} {i c b:Nat} {T:TypeId} (hc:c<4) :
  Res.blk b (cl (ba 64 (upd (gB (kG key nonce count) (4*i+c)) (4*i+c) ((zH key nonce count i >>> (8*c)).setWidth 8))) T)=Res.blk b (cl (ba 64 (gB (kG key nonce count) (4*i+(c+1)))) T):=by
 rw [show 4*i+(c+1)=(4*i+c)+1 by omega,gB,kG,show (4*i+c) / 4=i by omega,show (4*i+c)%4=c by omega]
instance {n:Nat} {f:Nat→Y}:QLen (ba n f) n:=⟨bT n f⟩
instance {n:Nat} {f:Nat→W}:QLen (wa n f) n:=⟨bV n f⟩
end Go.Tan
namespace Go.Proofs.YtdeobooblmjlfaaGreatDoor
open Go.Tan Go.RowKit
theorem yI:jF Tryz.prog 3 84=some .u64:=by kernel_rfl
theorem yN:aU Tryz.prog 109=true:=by kernel_rfl
theorem aX:Tryz.prog.follows .mixedOrders=true:=by kernel_rfl
theorem aAw:iD Tryz.prog 187=some ([.int .u32 0,.int .u32 0,.int .u32 0,.int .u32 0,.int .u32 0,.int .u32 0,.int .u32 0,.int .u32 0,.int .u32 0,.int .u32 0,.int .u32 0,.int .u32 0,.int .u32 0,.int .u32 0,.int .u32 0,.int .u32 0]):=by kernel_rfl
theorem cB:gP Tryz.prog 187=some (16,130,1):=by kernel_rfl
theorem bH:dJ Tryz.prog 130=some none:=by kernel_rfl
theorem dZ:dL Tryz.prog 130=some 1:=by kernel_rfl
theorem aCT:aU Tryz.prog 146=true:=by kernel_rfl
theorem yF:dJ Tryz.prog 187=some (some 16):=by kernel_rfl
theorem vU:dL Tryz.prog 187=some 16:=by kernel_rfl
theorem aI:cL Tryz.prog 24=some (5,1,1):=by kernel_rfl
theorem aZ:dJ Tryz.prog 5=some none:=by kernel_rfl
theorem oX:jF Tryz.prog 5 130=some .u32:=by kernel_rfl
theorem xK (x:W) (k:Int) (G:PM):Ct Tryz.prog 109 ([U x,.int .i64 k]:List Value).toArray G [] (fun _ μ' u=>μ'=[]∧u=U (aIU x k)):=by
 refine Ct.of Tryz.func109 rfl Tryz.ntmps109 rfl fun w0 hs0=>?_
 refine .g (ci rfl .no rfl yI (.u rfl) ?_)
 refine bw (k:=.u64) (b:=31#64) rfl .no rfl (.u rfl) (.u rfl) rfl (.g (lw (k:=.u32) rfl .no rfl (.u rfl) (.u rfl) (fun _=>Int.natCast_nonneg _) ?_))
 refine .p (bw (k:=.u64) (a:=32#64) rfl .no rfl (.u rfl) (.u rfl) rfl (jH (k:=.u32) rfl .no (.u rfl) (.u rfl) (fun _=>Int.natCast_nonneg _) ?_))
 refine bw (k:=.u32) rfl .no rfl (.u rfl) (.u rfl) rfl (aS rfl rfl (.nc (.ret (aM Tryz.results109 (.tmp rfl .nil) ?_))))
 exact ⟨rfl,rfl⟩
theorem zX (a b c d:W) (G:PM):Ct Tryz.prog 142 ([U a,U b,U c,U d]:List Value).toArray G [] (fun _ μ' u=>μ'=[]∧u=aNz (wV a b c d)):=by
 refine Ct.of Tryz.func142 rfl Tryz.ntmps142 rfl fun w0 hs0=>?_
 refine .g (bw (k:=.u32) rfl .no rfl (.u rfl) (.u rfl) rfl (.g (bw (k:=.u32) rfl .no rfl (.u rfl) (.u rfl) rfl (kV rfl yN (aB rfl (aB rfl aF)) (xK _ _ _) ?_))))
 refine .g (bw (k:=.u32) rfl .no rfl (.u rfl) (.u rfl) rfl (.g (bw (k:=.u32) rfl .no rfl (.u rfl) (.u rfl) rfl (kV rfl yN (aB rfl (aB rfl aF)) (xK _ _ _) ?_))))
 refine .g (bw (k:=.u32) rfl .no rfl (.u rfl) (.u rfl) rfl (.g (bw (k:=.u32) rfl .no rfl (.u rfl) (.u rfl) rfl (kV rfl yN (aB rfl (aB rfl aF)) (xK _ _ _) ?_))))
 refine .g (bw (k:=.u32) rfl .no rfl (.u rfl) (.u rfl) rfl (.g (bw (k:=.u32) rfl .no rfl (.u rfl) (.u rfl) rfl (kV rfl yN (aB rfl (aB rfl aF)) (xK _ _ _) ?_))))
 refine aS rfl rfl (.nc (.seq (xL rfl rfl (mV rfl rfl (mV rfl rfl (mV rfl rfl (mV rfl rfl (aS rfl rfl (aS rfl rfl (aS rfl rfl (aS rfl rfl (.nc (.ret (aM Tryz.results142 (.tmp rfl (.tmp rfl (.tmp rfl (.tmp rfl .nil)))) ?_))))))))))))))
 exact ⟨rfl,rfl⟩
theorem aB8 (x:W) (k:Nat) (G:PM) (hk:k≤32):Ct Tryz.prog 146 ([U x,.int .i64 (k:Int)]:List Value).toArray G [] (fun _ μ' u=>μ'=[]∧u=U (oQ x k)):=by
 refine Ct.of Tryz.func146 rfl Tryz.ntmps146 rfl fun w0 hs0=>?_
 refine .g (bA (mc:=⟨false,false⟩) [0,1,2,3,4,5,6,7,8] aX (by kernel_rfl) ?_)
 refine .p (lw (k:=.u32) rfl .no rfl (.u rfl) (.u rfl) (by omega) ?_)
 refine .p (aR rfl rfl rfl rfl ?_)
 refine jH (k:=.u32) rfl .no (.u rfl) (.u rfl) (by omega) ?_
 refine bw (k:=.u32) rfl .no rfl (.u rfl) (.u rfl) rfl (aS rfl rfl (.nc (.ret (aM Tryz.results146 (.tmp rfl .nil) ?_))))
 exact ⟨rfl,aRv x hk⟩
theorem aHw (y:Nat→W) (a b c d:Nat) (ia ib ic id:Int) (G:PM) (ea:ia=(a:Int)) (eb0:ib=(b:Int)) (ec:ic=(c:Int)) (ed:id=(d:Int)) (ha:a<16) (hb:b<16) (hc0:c<16) (hd:d<16):Ct Tryz.prog 135 ([.agg (wa 16 y).toArray,.int .i64 ia,.int .i64 ib,.int .i64 ic,.int .i64 id]:List Value).toArray G [] (fun _ μ' u=>μ'=[]∧u=.agg (wa 16 (rX y a b c d)).toArray):=by
 refine Ct.of Tryz.func135 rfl Tryz.ntmps135 rfl fun w0 hs0=>?_
 refine .seq (bJ rfl rfl ?_)
 refine bX rfl rfl rfl ?_; intro b5
 refine al rfl aAw ?_; intro b10
 refine .g (bA (mc:=⟨false,false⟩) [0,1,2,3,4,5,6,7,8,9] aX (by kernel_rfl) ?_)
 refine .p (iW rfl cB rfl rfl ?_)
 refine lO rfl bH rfl aE (bG a (by omega) (by omega)) ?_
 refine .p (iW rfl cB rfl rfl ?_)
 refine lO rfl bH rfl aE (bG b (by omega) (by omega)) ?_
 refine bw (k:=.u32) rfl .no rfl (.u rfl) (.u rfl) rfl (iW rfl cB rfl rfl ?_)
 refine s1 rfl (.u rfl) (.u rfl) rfl dZ aE (by rw [bV]; omega) (cY a (by omega)) ?_
 refine .g (bA (mc:=⟨false,false⟩) [0,1,2,3,4,5,6,7,8,9,10] aX (by kernel_rfl) ?_)
 refine .p (iW rfl cB rfl rfl ?_)
 refine lO rfl bH rfl .here (bG d (by omega) (by omega)) ?_
 refine .p (iW rfl cB rfl rfl ?_)
 refine lO rfl bH rfl .here (bG a (by omega) (by omega)) ?_
 refine bw (k:=.u32) rfl .no rfl (.u rfl) (.u rfl) rfl (kV rfl aCT (aB rfl (aB rfl aF)) (aB8 _ 16 _ (by decide)) ?_)
 refine iW rfl cB rfl rfl ?_
 refine s1 rfl (.u rfl) (.u rfl) rfl dZ .here (by rw [bV]; omega) (cY d (by omega)) ?_
 refine .g (bA (mc:=⟨false,false⟩) [0,1,2,3,4,5,6,7,8,9] aX (by kernel_rfl) ?_)
 refine .p (iW rfl cB rfl rfl ?_)
 refine lO rfl bH rfl .here (bG c (by omega) (by omega)) ?_
 refine .p (iW rfl cB rfl rfl ?_)
 refine lO rfl bH rfl .here (bG d (by omega) (by omega)) ?_
 refine bw (k:=.u32) rfl .no rfl (.u rfl) (.u rfl) rfl (iW rfl cB rfl rfl ?_)
 refine s1 rfl (.u rfl) (.u rfl) rfl dZ .here (by rw [bV]; omega) (cY c (by omega)) ?_
 refine .g (bA (mc:=⟨false,false⟩) [0,1,2,3,4,5,6,7,8,9,10] aX (by kernel_rfl) ?_)
 refine .p (iW rfl cB rfl rfl ?_)
 refine lO rfl bH rfl .here (bG b (by omega) (by omega)) ?_
 refine .p (iW rfl cB rfl rfl ?_)
 refine lO rfl bH rfl .here (bG c (by omega) (by omega)) ?_
 refine bw (k:=.u32) rfl .no rfl (.u rfl) (.u rfl) rfl (kV rfl aCT (aB rfl (aB rfl aF)) (aB8 _ 12 _ (by decide)) ?_)
 refine iW rfl cB rfl rfl ?_
 refine s1 rfl (.u rfl) (.u rfl) rfl dZ .here (by rw [bV]; omega) (cY b (by omega)) ?_
 refine .g (bA (mc:=⟨false,false⟩) [0,1,2,3,4,5,6,7,8,9] aX (by kernel_rfl) ?_)
 refine .p (iW rfl cB rfl rfl ?_)
 refine lO rfl bH rfl .here (bG a (by omega) (by omega)) ?_
 refine .p (iW rfl cB rfl rfl ?_)
 refine lO rfl bH rfl .here (bG b (by omega) (by omega)) ?_
 refine bw (k:=.u32) rfl .no rfl (.u rfl) (.u rfl) rfl (iW rfl cB rfl rfl ?_)
 refine s1 rfl (.u rfl) (.u rfl) rfl dZ .here (by rw [bV]; omega) (cY a (by omega)) ?_
 refine .g (bA (mc:=⟨false,false⟩) [0,1,2,3,4,5,6,7,8,9,10] aX (by kernel_rfl) ?_)
 refine .p (iW rfl cB rfl rfl ?_)
 refine lO rfl bH rfl .here (bG d (by omega) (by omega)) ?_
 refine .p (iW rfl cB rfl rfl ?_)
 refine lO rfl bH rfl .here (bG a (by omega) (by omega)) ?_
 refine bw (k:=.u32) rfl .no rfl (.u rfl) (.u rfl) rfl (kV rfl aCT (aB rfl (aB rfl aF)) (aB8 _ 8 _ (by decide)) ?_)
 refine iW rfl cB rfl rfl ?_
 refine s1 rfl (.u rfl) (.u rfl) rfl dZ .here (by rw [bV]; omega) (cY d (by omega)) ?_
 refine .g (bA (mc:=⟨false,false⟩) [0,1,2,3,4,5,6,7,8,9] aX (by kernel_rfl) ?_)
 refine .p (iW rfl cB rfl rfl ?_)
 refine lO rfl bH rfl .here (bG c (by omega) (by omega)) ?_
 refine .p (iW rfl cB rfl rfl ?_)
 refine lO rfl bH rfl .here (bG d (by omega) (by omega)) ?_
 refine bw (k:=.u32) rfl .no rfl (.u rfl) (.u rfl) rfl (iW rfl cB rfl rfl ?_)
 refine s1 rfl (.u rfl) (.u rfl) rfl dZ .here (by rw [bV]; omega) (cY c (by omega)) ?_
 refine .g (bA (mc:=⟨false,false⟩) [0,1,2,3,4,5,6,7,8,9,10] aX (by kernel_rfl) ?_)
 refine .p (iW rfl cB rfl rfl ?_)
 refine lO rfl bH rfl .here (bG b (by omega) (by omega)) ?_
 refine .p (iW rfl cB rfl rfl ?_)
 refine lO rfl bH rfl .here (bG c (by omega) (by omega)) ?_
 refine bw (k:=.u32) rfl .no rfl (.u rfl) (.u rfl) rfl (kV rfl aCT (aB rfl (aB rfl aF)) (aB8 _ 7 _ (by decide)) ?_)
 refine iW rfl cB rfl rfl ?_
 refine s1 rfl (.u rfl) (.u rfl) rfl dZ .here (by rw [bV]; omega) (cY b (by omega)) ?_
 refine .g (lB rfl yF rfl .here ?_)
 refine sw rfl (.u rfl) (.u rfl) rfl vU aE rfl (oT _ _) ?_
 refine .nil (.code (.ret (aM Tryz.results135 (.cell rfl (fun w hw=>bI yF (RdN.own .here) rfl hw) .nil) ?_)))
 exact ⟨rfl,rfl⟩
theorem aSE (h:Sh) (xs:List Y) (j:Int) (k:Nat) (G:PM) (hs:SlR G 1 aQ h xs) (hj:j=(k:Int)) (hk:k+3<xs.length) (hl:xs.length≤140737488351232):Ct Tryz.prog 134 ([h.val xs.length,.int .i64 j]:List Value).toArray G [] (fun _ μ' u=>μ'=[]∧u=U (qV (fun i=>xs.getD i 0) k)):=by
 refine Ct.of Tryz.func134 rfl Tryz.ntmps134 rfl fun w0 hs0=>?_
 refine .g (bA (mc:=⟨false,false⟩) [0,1,2,3,4,5,6,7,8,9,10,11,12,13,14,15,16,17,18,19,20,21,22,23,24,25,26,27,28,29] aX (by kernel_rfl) ?_)
 refine mV rfl rfl (mV rfl rfl (ih rfl .no aI (.u rfl) (.u rfl) (by omega) (by omega) (fun _=>hs.nn (k:=k) (by omega)) ?_))
 refine lN rfl aZ rfl ((hs.yat (k) (by omega) (by omega)).rd) ?_
 refine cu (k:=.u8) rfl .no rfl oX (.u rfl) ?_
 refine .p (aR rfl rfl rfl rfl ?_)
 refine ih rfl .no aI (.u rfl) (.u rfl) (by omega) (by omega) (fun _=>hs.nn (k:=k+1) (by omega)) ?_
 refine lN rfl aZ rfl ((hs.yat (k+1) (by omega) (by omega)).rd) ?_
 refine cu (k:=.u8) rfl .no rfl oX (.u rfl) ?_
 refine bw (k:=.u32) (b:=256#32) rfl .no rfl (.u rfl) (.u rfl) rfl (bw (k:=.u32) rfl .no rfl (.u rfl) (.u rfl) rfl (.p (aR rfl rfl rfl rfl ?_)))
 refine ih rfl .no aI (.u rfl) (.u rfl) (by omega) (by omega) (fun _=>hs.nn (k:=k+2) (by omega)) ?_
 refine lN rfl aZ rfl ((hs.yat (k+2) (by omega) (by omega)).rd) ?_
 refine cu (k:=.u8) rfl .no rfl oX (.u rfl) ?_
 refine bw (k:=.u32) (b:=65536#32) rfl .no rfl (.u rfl) (.u rfl) rfl (bw (k:=.u32) rfl .no rfl (.u rfl) (.u rfl) rfl (.p (aR rfl rfl rfl rfl ?_)))
 refine ih rfl .no aI (.u rfl) (.u rfl) (by omega) (by omega) (fun _=>hs.nn (k:=k+3) (by omega)) ?_
 refine lN rfl aZ rfl ((hs.yat (k+3) (by omega) (by omega)).rd) ?_
 refine cu (k:=.u8) rfl .no rfl oX (.u rfl) ?_
 refine bw (k:=.u32) (b:=16777216#32) rfl .no rfl (.u rfl) (.u rfl) rfl (bw (k:=.u32) rfl .no rfl (.u rfl) (.u rfl) rfl (aS rfl rfl (.nc (.ret (aM Tryz.results134 (.tmp rfl .nil) ?_)))))
 exact ⟨rfl,rfl⟩
theorem rI:iD Tryz.prog 172=some (ba 64 (fun _=>0#8)):=by kernel_rfl
theorem aKC:eS Tryz.prog 187 [0,1,2,3]=some ([.int .u32 0,.int .u32 0,.int .u32 0,.int .u32 0,.int .u32 0,.int .u32 0,.int .u32 0,.int .u32 0,.int .u32 0,.int .u32 0,.int .u32 0,.int .u32 0,.int .u32 0,.int .u32 0,.int .u32 0,.int .u32 0],[(0,1),(1,1),(2,1),(3,1)]):=by kernel_rfl
theorem tQ:gP Tryz.prog 22=some (32,5,1):=by kernel_rfl
theorem aKd:aU Tryz.prog 134=true:=by kernel_rfl
theorem aJ9:gP Tryz.prog 92=some (12,5,1):=by kernel_rfl
theorem aKe:aU Tryz.prog 135=true:=by kernel_rfl
theorem vK:jF Tryz.prog 130 5=some .u8:=by kernel_rfl
theorem jN:gP Tryz.prog 172=some (64,5,1):=by kernel_rfl
theorem gQ:dL Tryz.prog 5=some 1:=by kernel_rfl
theorem gF:dJ Tryz.prog 172=some (some 64):=by kernel_rfl
theorem kC:dL Tryz.prog 172=some 64:=by kernel_rfl
theorem bU:(cL Tryz.prog 24).isSome=true:=by kernel_rfl
theorem yG:dJ Tryz.prog 22=some (some 32):=by kernel_rfl
theorem aJ7:dJ Tryz.prog 92=some (some 12):=by kernel_rfl
theorem aSl:jF Tryz.prog 3 130=some .u32:=by kernel_rfl
theorem aSy:aU Tryz.prog 118=true:=by kernel_rfl
theorem bF:(Tryz.prog.info? 5).bind (·.zero)=some (.int .u8 0):=by kernel_rfl
theorem aJq (b n:Nat) (T:TypeId) (f:Nat→Y) (j:Int) (k:Nat) (G:PM) (hj:j=((4*k:Nat):Int)) (hk:4*k+3<n) (hn:n≤1000):Ct Tryz.prog 134 ([.slice (some ⟨b,0,none⟩) n n,.int .i64 j]:List Value).toArray (G.add b (cl (ba n f) T)) [] (fun _ μ' u=>μ'=[]∧u=U (qV f (4*k))):=by
 have hw:=aSE ⟨some ⟨b,0,none⟩,n⟩ (yl n f) j (4*k) (G.add b (cl (ba n f) T)) aCg hj (by rw [bK]; exact hk) (by rw [bK]; omega)
 rw [aSD (f':=f) (fun j hj=>aEV (by omega)),bK] at hw
 exact hw
theorem aPG (key nonce:Nat→Y) (count:W) (G:PM):Ct Tryz.prog 118 ([.agg (ba 32 key).toArray,.agg (ba 12 nonce).toArray,U count]:List Value).toArray G [] (fun _ μ' u=>μ'=[]∧u=.agg (ba 64 (kG key nonce count)).toArray):=by
 refine Ct.of Tryz.func118 rfl Tryz.ntmps118 rfl fun w0 hs0=>?_
 refine .seq (dU rfl rfl ?_)
 refine bX rfl rfl rfl ?_; intro b3
 refine bX rfl rfl rfl ?_; intro b4
 refine al rfl rI ?_; intro b6
 refine .g (bC rfl .no aKC (.cons (.u rfl) rfl (.cons (.u rfl) rfl (.cons (.u rfl) rfl (.cons (.u rfl) rfl .nil)))) rfl ?_)
 refine al rfl aAw ?_; intro b7
 refine sw rfl (.u rfl) (.u rfl) rfl vU .here rfl (by decide) ?_
 refine .nil (.code (.seq (.seq (aL rfl rfl (aS rfl rfl (.nc (.block ?_)))))))
 refine aV (α:=Nat) (fun k=>[(8,true,.int .i64 (k:Int))]) (fun k=>[.blk b7 (cl (wa 16 (x1 key k)) 187)])
  (fun k Gl=>k≤8) (fun k=>8-k) 0 [(2,true,_),(3,true,_),(4,true,_),(6,true,_),(7,true,_)] [.blk b6 _,.blk b4 _,.blk b3 _]
  (aA rfl (aA rfl (aA rfl (aA rfl (aA rfl (aA rfl eZ))))))
  (mS .here rfl (mS .here rfl (mS .here rfl (mS .here rfl mN)))) ?_ ?_
 ·show 0≤8; omega
 intro k N0 Gl0 hN0 hGl0 hF0
 try dsimp only at hF0 hN0 ⊢
 have hk:k≤8:=hF0
 refine .g (cP rfl rfl rfl rfl (.g (cD rfl (fun c1=>?_) (fun c1=>?_))))
 ·have c1k:=c1
  try simp only [aC] at c1
  refine .g (aR rfl rfl rfl rfl ?_)
  refine lG rfl .no tQ (.u rfl) (.p (aR rfl rfl rfl rfl ?_))
  refine kp rfl .no aKd (aB rfl (aB rfl aF)) (Gp.add bB Gp.nil) (fun _ hle hq=>aJq _ _ _ key _ k _ (by omega) (by omega) (by decide)) ?_
  refine iW rfl cB rfl rfl ?_
  refine s1 rfl (.u rfl) (.u rfl) rfl dZ .here (by rw [bV]; omega) (cY (4+k) (by omega)) ?_
  refine .g (aR rfl rfl rfl rfl ?_)
  refine .g (aP (k+1) ?_ ?_ ?_ ?_ ?_)
  ·exact (aA rfl (aA rfl (aA rfl (aA rfl (aA rfl (aA rfl eZ))))))
  ·exact (mS .here rfl (mS .here rfl (mS .here rfl (mS .here rfl mN))))
  ·first|omega|(dsimp only; omega)
  ·exact hGl0
  show k+1≤8; omega
 have c1k:=c1
 try simp only [aC] at c1
 refine .exit (.xcode (.xlp (.xblk (.code (.seq (dU rfl rfl ?_))))))
 obtain rfl:k=8:=by omega
 refine .p (iW rfl cB rfl rfl ?_)
 refine s1 rfl (.u rfl) (.u rfl) rfl dZ .here (by rw [bV]; decide) (cY 12 rfl) ?_
 refine .nil (.code (.seq (.seq (aL rfl rfl (aS rfl rfl (.nc (.block ?_)))))))
 refine aV (α:=Nat) (fun j=>[(9,true,.int .i64 (j:Int))]) (fun j=>[.blk b7 (cl (wa 16 (x2 key nonce count j)) 187)])
  (fun j Gl=>j≤3) (fun j=>3-j) 0 [(4,true,_),(6,true,_),(7,true,_)] [.blk b6 _,.blk b4 _,.blk b3 _]
  (aA rfl (aA rfl (aA rfl (aA rfl eZ))))
  (mS .here rfl (mS .here rfl (mS .here rfl (mS .here rfl mN)))) ?_ ?_
 ·show 0≤3; omega
 intro j N1 Gl1 hN1 hGl1 hF1
 try dsimp only at hF1 hN1 ⊢
 have hj:j≤3:=hF1
 refine .g (cP rfl rfl rfl rfl (.g (cD rfl (fun c2=>?_) (fun c2=>?_))))
 ·have c2k:=c2
  try simp only [aC] at c2
  refine .g (aR rfl rfl rfl rfl ?_)
  refine lG rfl .no aJ9 (.u rfl) (.p (aR rfl rfl rfl rfl ?_))
  refine kp rfl .no aKd (aB rfl (aB rfl aF)) (Gp.add aN Gp.nil) (fun _ hle hq=>aJq _ _ _ nonce _ j _ (by omega) (by omega) (by decide)) ?_
  refine iW rfl cB rfl rfl ?_
  refine s1 rfl (.u rfl) (.u rfl) rfl dZ .here (by rw [bV]; omega) (cY (13+j) (by omega)) ?_
  refine .g (aR rfl rfl rfl rfl ?_)
  refine .g (aP (j+1) ?_ ?_ ?_ ?_ ?_)
  ·exact (aA rfl (aA rfl (aA rfl (aA rfl eZ))))
  ·exact (mS .here rfl (mS .here rfl (mS .here rfl (mS .here rfl mN))))
  ·first|omega|(dsimp only; omega)
  ·exact hGl1
  show j+1≤3; omega
 have c2k:=c2
 try simp only [aC] at c2
 refine .exit (.xcode (.xlp (.xblk (.code (.seq (dU rfl rfl ?_))))))
 obtain rfl:j=3:=by omega
 refine lB rfl yF rfl .here ?_
 refine al rfl aAw ?_; intro b10
 refine sw rfl (.u rfl) (.u rfl) rfl vU .here rfl (oT _ _) ?_
 refine .nil (.code (.seq (.seq (aL rfl rfl (aS rfl rfl (.nc (.block ?_)))))))
 refine aV (α:=Nat) (fun r=>[(11,true,.int .i64 (r:Int))]) (fun r=>[.blk b10 (cl (wa 16 (nT (x2 key nonce count 3) r)) 187)])
  (fun r Gl=>r≤10) (fun r=>10-r) 0 [(6,true,_),(7,true,_),(10,true,_)] [.blk b7 _,.blk b6 _,.blk b4 _,.blk b3 _]
  (aA rfl (aA rfl (aA rfl (aA rfl eZ))))
  (mS .here rfl (mS .here rfl (mS .here rfl (mS .here rfl (mS .here rfl mN))))) ?_ ?_
 ·show 0≤10; omega
 intro r N2 Gl2 hN2 hGl2 hF2
 try dsimp only at hF2 hN2 ⊢
 have hr:r≤10:=hF2
 refine .g (cP rfl rfl rfl rfl (.g (cD rfl (fun c3=>?_) (fun c3=>?_))))
 ·have c3k:=c3
  try simp only [aC] at c3
  refine .skip (.code (.seq (.block (.seq (.seq (aL rfl rfl (aS rfl rfl (.nc (.block ?_)))))))))
  refine aV (α:=Nat) (fun q=>[(12,true,.int .i64 (q:Int))]) (fun q=>[.blk b10 (cl (wa 16 (rM (nT (x2 key nonce count 3) r) q)) 187)])
   (fun q Gl=>q≤4) (fun q=>4-q) 0 [(6,true,_),(7,true,_),(10,true,_),(11,true,_)] [.blk b7 _,.blk b6 _,.blk b4 _,.blk b3 _]
   (aA rfl (aA rfl (aA rfl (aA rfl (aA rfl eZ)))))
   (mS .here rfl (mS .here rfl (mS .here rfl (mS .here rfl (mS .here rfl mN))))) ?_ ?_
  ·show 0≤4; omega
  intro q N3 Gl3 hN3 hGl3 hF3
  try dsimp only at hF3 hN3 ⊢
  have hq:q≤4:=hF3
  refine .g (cP rfl rfl rfl rfl (.g (cD rfl (fun c4=>?_) (fun c4=>?_))))
  ·have c4k:=c4
   try simp only [aC] at c4
   refine .g (lB rfl yF rfl .here ?_)
   refine .p (aR rfl rfl rfl rfl ?_)
   refine .p (aR rfl rfl rfl rfl ?_)
   refine .p (aR rfl rfl rfl rfl ?_)
   refine kv rfl .no aKe (aB rfl (aB rfl (aB rfl (aB rfl (aB rfl aF))))) (fun _=>aHw (rM (nT (x2 key nonce count 3) r) q) q (4+q) (8+q) (12+q) _ _ _ _ _ (by first|rfl|omega) (by omega) (by omega) (by omega) (by omega) (by omega) (by omega) (by omega)) ?_
   refine sw rfl (.u rfl) (.u rfl) rfl vU .here rfl (oT _ _) ?_
   refine .g (aR rfl rfl rfl rfl ?_)
   refine .g (aP (q+1) ?_ ?_ ?_ ?_ ?_)
   ·exact (aA rfl (aA rfl (aA rfl (aA rfl (aA rfl eZ)))))
   ·exact (mS .here rfl (mS .here rfl (mS .here rfl (mS .here rfl (mS .here rfl mN)))))
   ·first|omega|(dsimp only; omega)
   ·exact hGl3
   show q+1≤4; omega
  have c4k:=c4
  try simp only [aC] at c4
  refine .exit (.xcode (.xlp (.xblk (.code (.seq (aL rfl rfl ?_))))))
  obtain rfl:q=4:=by omega
  refine aS rfl rfl (.nc (.block ?_))
  refine aV (α:=Nat) (fun p=>[(13,true,.int .i64 (p:Int))]) (fun p=>[.blk b10 (cl (wa 16 (wK (rM (nT (x2 key nonce count 3) r) 4) p)) 187)])
   (fun p Gl=>p≤4) (fun p=>4-p) 0 [(6,true,_),(7,true,_),(10,true,_),(11,true,_)] [.blk b7 _,.blk b6 _,.blk b4 _,.blk b3 _]
   (aA rfl (aA rfl (aA rfl (aA rfl (aA rfl eZ)))))
   (mS .here rfl (mS .here rfl (mS .here rfl (mS .here rfl (mS .here rfl mN))))) ?_ ?_
  ·show 0≤4; omega
  intro p N4 Gl4 hN4 hGl4 hF4
  try dsimp only at hF4 hN4 ⊢
  have hp:p≤4:=hF4
  refine .g (cP rfl rfl rfl rfl (.g (cD rfl (fun c5=>?_) (fun c5=>?_))))
  ·have c5k:=c5
   try simp only [aC] at c5
   refine .g (lB rfl yF rfl .here ?_)
   refine .p (aR rfl rfl rfl rfl ?_)
   refine rm rfl .no (.u rfl) (.u rfl) (fun _=>by decide) ?_
   refine ar rfl .no (.u rfl) (.u rfl) rfl (fun _=>bO (by rw [nU (p+1) (by omega)]; omega) (by rw [nU (p+1) (by omega)]; omega)) ?_
   refine .p (aR rfl rfl rfl rfl ?_)
   refine rm rfl .no (.u rfl) (.u rfl) (fun _=>by decide) ?_
   refine ar rfl .no (.u rfl) (.u rfl) rfl (fun _=>bO (by rw [nU (p+2) (by omega)]; omega) (by rw [nU (p+2) (by omega)]; omega)) ?_
   refine .p (aR rfl rfl rfl rfl ?_)
   refine rm rfl .no (.u rfl) (.u rfl) (fun _=>by decide) ?_
   refine ar rfl .no (.u rfl) (.u rfl) rfl (fun _=>bO (by rw [nU (p+3) (by omega)]; omega) (by rw [nU (p+3) (by omega)]; omega)) ?_
   refine kv rfl .no aKe (aB rfl (aB rfl (aB rfl (aB rfl (aB rfl aF))))) (fun _=>aHw (wK (rM (nT (x2 key nonce count 3) r) 4) p) p (4+(p+1)%4) (8+(p+2)%4) (12+(p+3)%4) _ _ _ _ _ (by first|rfl|omega) (by rw [nU (p+1) (by omega)]; omega) (by rw [nU (p+2) (by omega)]; omega) (by rw [nU (p+3) (by omega)]; omega) (by omega) (by omega) (by omega) (by omega)) ?_
   refine sw rfl (.u rfl) (.u rfl) rfl vU .here rfl (oT _ _) ?_
   refine .g (aR rfl rfl rfl rfl ?_)
   refine .g (aP (p+1) ?_ ?_ ?_ ?_ ?_)
   ·exact (aA rfl (aA rfl (aA rfl (aA rfl (aA rfl eZ)))))
   ·exact (mS .here rfl (mS .here rfl (mS .here rfl (mS .here rfl (mS .here rfl mN)))))
   ·first|omega|(dsimp only; omega)
   ·exact hGl4
   show p+1≤4; omega
  have c5k:=c5
  try simp only [aC] at c5
  refine .g (aR rfl rfl rfl rfl ?_)
  refine aS rfl rfl (.nil ?_)
  obtain rfl:p=4:=by omega
  refine aP (r+1) ?_ ?_ ?_ ?_ ?_
  ·exact (aA rfl (aA rfl (aA rfl (aA rfl eZ))))
  ·exact (mS .here rfl (mS .here rfl (mS .here rfl (mS .here rfl (mS .here rfl mN)))))
  ·first|omega|(dsimp only; omega)
  ·exact hGl2.trans (hGl3.trans hGl4)
  show r+1≤10; omega
 have c3k:=c3
 try simp only [aC] at c3
 refine .exit (.xcode (.xlp (.xblk (.code (.seq (aL rfl rfl ?_))))))
 obtain rfl:r=10:=by omega
 refine al rfl rI ?_; intro b14
 refine .nil (.code (.seq (.seq (aL rfl rfl (aS rfl rfl (.nc (.block ?_)))))))
 refine aV (α:=Nat) (fun i=>[(15,true,.int .i64 (i:Int))]) (fun i=>[.blk b14 (cl (ba 64 (gB (kG key nonce count) i)) 172)])
  (fun i Gl=>i≤64) (fun i=>64-i) 0 [(6,true,_),(7,true,_),(10,true,_),(14,true,_)] [.blk b10 _,.blk b7 _,.blk b6 _,.blk b4 _,.blk b3 _]
  (aA rfl (aA rfl (aA rfl (aA rfl (aA rfl eZ)))))
  (mS .here rfl (mS .here rfl (mS .here rfl (mS .here rfl (mS .here rfl (mS .here rfl mN)))))) ?_ ?_
 ·show 0≤64; omega
 intro i N5 Gl5 hN5 hGl5 hF5
 try dsimp only at hF5 hN5 ⊢
 have hi:i≤64:=hF5
 refine .g (cP rfl rfl rfl rfl (.g (cD rfl (fun c6=>?_) (fun c6=>?_))))
 ·have c6k:=c6
  try simp only [aC] at c6
  refine .g (bA (mc:=⟨false,false⟩) [0,1,2,3,4,5,6,7,8,9] aX (by kernel_rfl) ?_)
  refine .p (qu rfl .no (.u rfl) (.u rfl) (fun _=>by decide) ?_)
  refine iA rfl .no cB (.u rfl) (.u rfl) (fun _=>by rw [xB i rfl (by omega)]; omega) (fun _=>by rw [xB i rfl (by omega)]; omega) ?_
  refine lO rfl bH rfl aE (bG (i / 4) (by rw [xB i rfl (by omega)]; omega) (by omega)) ?_
  refine .p (qu rfl .no (.u rfl) (.u rfl) (fun _=>by decide) ?_)
  refine iA rfl .no cB (.u rfl) (.u rfl) (fun _=>by rw [xB i rfl (by omega)]; omega) (fun _=>by rw [xB i rfl (by omega)]; omega) ?_
  refine lO rfl bH rfl aN (bG (i / 4) (by rw [xB i rfl (by omega)]; omega) (by omega)) ?_
  refine bw (k:=.u32) rfl .no rfl (.u rfl) (.u rfl) rfl (.g (rm rfl .no (.u rfl) (.u rfl) (fun _=>by decide) ?_))
  refine ar rfl .no (.u rfl) (.u rfl) rfl (fun _=>bO (by rw [nU i rfl]; omega) (by rw [nU i rfl]; omega)) ?_
  refine jH (k:=.u32) rfl .no (.u rfl) (.u rfl) (fun _=>by rw [nU i rfl]; omega) ?_
  refine cu (k:=.u32) rfl .no rfl vK (.u rfl) ?_
  refine iW rfl jN rfl rfl ?_
  refine s1 rfl (.u rfl) (.u rfl) rfl gQ .here (by rw [bT]; omega) (iH i (by omega)) ?_
  refine .g (aR rfl rfl rfl rfl ?_)
  refine .g (aP (i+1) ?_ ?_ ?_ ?_ ?_)
  ·exact (aA rfl (aA rfl (aA rfl (aA rfl (aA rfl eZ)))))
  ·exact (mS .here (aOe (nU i rfl)) (mS .here rfl (mS .here rfl (mS .here rfl (mS .here rfl (mS .here rfl mN))))))
  ·first|omega|(dsimp only; omega)
  ·exact hGl5
  show i+1≤64; omega
 have c6k:=c6
 try simp only [aC] at c6
 refine .g (lB rfl gF rfl .here ?_)
 refine sw rfl (.u rfl) (.u rfl) rfl kC bB rfl (jR _ _) ?_
 refine .nil (.code (.ret (aM Tryz.results118 (.cell rfl (fun w hw=>bI gF (RdN.own .here) rfl hw) .nil) ?_)))
 obtain rfl:i=64:=by omega
 exact ⟨rfl,by rw [iG (fun i hi=>(kO (kG key nonce count) hi).symm)]; rfl⟩
theorem mQ:cL Tryz.prog 195=some (130,1,4):=by kernel_rfl
theorem aTv:(cL Tryz.prog 195).isSome=true:=by kernel_rfl
theorem aKg:aU Tryz.prog 141=true:=by kernel_rfl
theorem aAi:aU Tryz.prog 142=true:=by kernel_rfl
theorem aJr (y:Nat→W) (f:Nat→Y) (m bt bk off n cap kn:Nat) (T T2:TypeId) (G:PM) (hm:off+n≤m) (hk4:4*n≤kn) (hn:n≤1000):Ct Tryz.prog 141 ([(Sh.mk (some ⟨bt,off,none⟩) cap).val n,(Sh.mk (some ⟨bk,0,none⟩) kn).val kn]:List Value).toArray G ([.blk bt (cl (wa m y) T),.blk bk (cl (ba kn f) T2)]:aH) (fun G' μ' u=>μ'=[.blk bt (cl (wa m (mI y f off n)) T),.blk bk (cl (ba kn f) T2)]∧u=.tuple #[]):=by
 refine Ct.of Tryz.func141 rfl Tryz.ntmps141 rfl fun w0 hs0=>?_
 refine .g (lE rfl aTv rfl (mV rfl rfl (.nc (.block ?_))))
 refine aV (α:=Nat) (fun i=>[(8,true,.int .i64 (i:Int))]) (fun i=>[.blk bt (cl (wa m (mI y f off i)) T)])
  (fun i Gl=>i≤n) (fun i=>n-i) 0 [(0,true,_),(1,true,_),(7,true,_)] [.blk bk _]
  (aA rfl (aA rfl (aA rfl (aA rfl eZ))))
  (mS .here rfl (mS .here rfl mN)) ?_ ?_
 ·show 0≤n; omega
 intro i N0 Gl0 hN0 hGl0 hF0
 try dsimp only at hF0 hN0 ⊢
 have hi:i≤n:=hF0
 refine .g (cP rfl rfl rfl rfl (.g (cD rfl (fun c1=>?_) (fun c1=>?_))))
 ·have c1k:=c1
  try simp only [aC] at c1
  refine .skip (.code (.seq (.block (.seq (bJ rfl rfl (mV rfl rfl (aS rfl rfl (.nc (.seq (aL rfl rfl (aS rfl rfl (.nc (.block ?_)))))))))))))
  refine aV (α:=Nat) (fun c=>[(5,true,.int .i64 (3-(c:Int)))]) (fun c=>[.blk bt (cl (wa m (upd (mI y f off i) (off+i) (pX (mI y f off i (off+i)) f i c))) T)])
   (fun c Gl=>c≤4) (fun c=>4-c) 0 [(0,true,_),(1,true,_),(4,true,_),(7,true,_),(8,true,_)] [.blk bk _]
   (aA rfl (aA rfl (aA rfl (aA rfl (aA rfl (aA rfl eZ))))))
   (mS .here aSL (mS .here rfl mN)) ?_ ?_
  ·show 0≤4; omega
  intro c N1 Gl1 hN1 hGl1 hF1
  try dsimp only at hF1 hN1 ⊢
  have hc:c≤4:=hF1
  refine .g (cP rfl rfl rfl rfl (.g (cD rfl (fun c2=>?_) (fun c2=>?_))))
  ·have c2k:=c2
   try simp only [aC] at c2
   refine .g (bA (mc:=⟨false,false⟩) [0,1,2,3,4,5,6,7,8,9,10,11,12,13,14,15,16,17] aX (by kernel_rfl) ?_)
   refine mV rfl rfl (mV rfl rfl (mV rfl rfl (mV rfl rfl (ih rfl .no mQ (.u rfl) (.u rfl) (by omega) (by omega) (fun _=>rfl) ?_))))
   refine lO rfl bH rfl .here (bG (off+i) (by show off+_*1=off+i; omega) (by omega)) ?_
   refine lw (k:=.u32) rfl .no rfl (.u rfl) (.u rfl) (fun _=>by decide) ?_
   refine .p (aR rfl rfl rfl rfl ?_)
   refine .p (aR rfl rfl rfl rfl ?_)
   refine ih rfl .no aI (.u rfl) (.u rfl) (by omega) (by omega) (fun _=>rfl) ?_
   refine lO rfl aZ rfl aE (cU (4*i+(3-c)) (by show 0+_*1=_; omega) (by omega)) ?_
   refine cu (k:=.u8) rfl .no rfl oX (.u rfl) ?_
   refine bw (k:=.u32) rfl .no rfl (.u rfl) (.u rfl) rfl (ih rfl .no mQ (.u rfl) (.u rfl) (by omega) (by omega) (fun _=>rfl) ?_)
   refine s1 rfl (.u rfl) (.u rfl) rfl dZ .here (by rw [bV]; show off+_*1<m; omega) (cY (off+i) (by show off+_*1=off+i; omega)) ?_
   refine .g (aR rfl rfl rfl rfl ?_)
   refine .g (aP (c+1) ?_ ?_ ?_ ?_ ?_)
   ·exact (cI rfl (congrArg _ (by omega)) (aA rfl (aA rfl (aA rfl (aA rfl (aA rfl eZ))))))
   ·exact (mS .here (aSM (by rw [vI]; rfl)) (mS .here rfl mN))
   ·first|omega|(dsimp only; omega)
   ·exact hGl1
   show c+1≤4; omega
  have c2k:=c2
  try simp only [aC] at c2
  refine .g (aR rfl rfl rfl rfl ?_)
  refine .g (aP (i+1) ?_ ?_ ?_ ?_ ?_)
  ·exact (aA rfl (aA rfl (aA rfl (aA rfl eZ))))
  ·exact (mS .here (aSK (by omega)) (mS .here rfl mN))
  ·first|omega|(dsimp only; omega)
  ·exact hGl0.trans hGl1
  show i+1≤n; omega
 have c1k:=c1
 try simp only [aC] at c1
 refine .g (We.fin Tryz.results141 .nil (mS .here rfl (mS .here rfl mN)) ?_)
 obtain rfl:i=n:=by omega
 exact ⟨rfl,rfl⟩
theorem aJy (key nonce:Nat→Y) (count:W) (G:PM):Ct Tryz.prog 130 ([.agg (ba 32 key).toArray,.agg (ba 12 nonce).toArray,U count]:List Value).toArray G [] (fun _ μ' u=>μ'=[]∧u=.agg (ba 64 (kG key nonce count)).toArray):=by
 refine Ct.of Tryz.func130 rfl Tryz.ntmps130 rfl fun w0 hs0=>?_
 refine .seq (dU rfl rfl ?_)
 refine bX rfl rfl rfl ?_; intro b3
 refine bX rfl rfl rfl ?_; intro b4
 refine al rfl rI ?_; intro b6
 refine .g (bC rfl .no aKC (.cons (.u rfl) rfl (.cons (.u rfl) rfl (.cons (.u rfl) rfl (.cons (.u rfl) rfl .nil)))) rfl ?_)
 refine al rfl aAw ?_; intro b7
 refine sw rfl (.u rfl) (.u rfl) rfl vU .here rfl (by decide) ?_
 refine .g (bA (mc:=⟨true,false⟩) [0,1,2] aX (by kernel_rfl) ?_)
 refine sab rfl .no cB (.u rfl) (.u rfl) (.u rfl) (fun _=>by decide) (fun _=>by decide) (fun _=>by decide) (fun _=>by decide) ?_
 refine lG rfl .no tQ (.u rfl) (ka rfl (.inl rfl) aKg (aB rfl (aB rfl aF)) (aJK .here aN) (aJr (x0) key 16 b7 b3 4 8 12 32 187 22 _ (by decide) (by decide) (by decide)) ?_)
 rintro u G2 μ2 hG2 ⟨rfl,rfl⟩
 simp only [dM,List.cons_append,List.nil_append,aD8,aD9]
 refine .g (iW rfl cB rfl rfl ?_)
 refine s1 rfl (.u rfl) (.u rfl) rfl dZ .here (by rw [bV]; decide) (cY 12 rfl) ?_
 refine .g (bA (mc:=⟨true,false⟩) [0,1,2] aX (by kernel_rfl) ?_)
 refine sal rfl .no cB (.u rfl) (.u rfl) (fun _=>by decide) (fun _=>by decide) ?_
 refine lG rfl .no aJ9 (.u rfl) (ka rfl (.inl rfl) aKg (aB rfl (aB rfl aF)) (aJK .here aN) (aJr (upd (x1 key 8) 12 count) nonce 16 b7 b4 13 3 3 12 187 92 _ (by decide) (by decide) (by decide)) ?_)
 rintro u G2 μ2 hG2 ⟨rfl,rfl⟩
 simp only [dM,List.cons_append,List.nil_append,aD8,aD9]
 refine .g (lB rfl yF rfl .here ?_)
 refine al rfl aAw ?_; intro b8
 refine sw rfl (.u rfl) (.u rfl) rfl vU .here rfl (oT _ _) ?_
 refine .nil (.code (.seq (.seq (aL rfl rfl (mV rfl rfl (.nc (.block ?_)))))))
 refine aV (α:=Nat) (fun r=>[(24,true,.int .i64 (r:Int))]) (fun r=>[.blk b8 (cl (wa 16 (nT (x2 key nonce count 3) r)) 187)])
  (fun r Gl=>r≤10) (fun r=>10-r) 0 [(6,true,_),(7,true,_),(8,true,_)] [.blk b7 _,.blk b4 _,.blk b3 _,.blk b6 _]
  (aA rfl (aA rfl (aA rfl (aA rfl eZ))))
  (mS .here rfl (mS .here rfl (mS .here rfl (mS .here rfl (mS .here rfl mN))))) ?_ ?_
 ·show 0≤10; omega
 intro r N0 Gl0 hN0 hGl0 hF0
 try dsimp only at hF0 hN0 ⊢
 have hr:r≤10:=hF0
 refine .g (cP rfl rfl rfl rfl (.g (cD rfl (fun c1=>?_) (fun c1=>?_))))
 ·have c1k:=c1
  try simp only [aC] at c1
  refine .skip (.code (.seq (.block (.seq (.seq (aL rfl rfl (mV rfl rfl (.nc (.block ?_)))))))))
  refine aV (α:=Nat) (fun q=>[(26,true,.int .i64 (q:Int))]) (fun q=>[.blk b8 (cl (wa 16 (aBF (nT (x2 key nonce count 3) r) q)) 187)])
   (fun q Gl=>q≤4) (fun q=>4-q) 0 [(6,true,_),(7,true,_),(8,true,_),(24,true,_)] [.blk b7 _,.blk b4 _,.blk b3 _,.blk b6 _]
   (aA rfl (aA rfl (aA rfl (aA rfl (aA rfl eZ)))))
   (mS .here rfl (mS .here rfl (mS .here rfl (mS .here rfl (mS .here rfl mN))))) ?_ ?_
  ·show 0≤4; omega
  intro q N1 Gl1 hN1 hGl1 hF1
  try dsimp only at hF1 hN1 ⊢
  have hq:q≤4:=hF1
  refine .g (cP rfl rfl rfl rfl (.g (cD rfl (fun c2=>?_) (fun c2=>?_))))
  ·have c2k:=c2
   try simp only [aC] at c2
   refine .g (bA (mc:=⟨false,false⟩) [0,1,2,3,4,5,6,7,8,9,10,11,12,13,14,15,16,17,18,19,20,21,22,23,24,25,26,27,28,29,30,31,32,33,34,35] aX (by kernel_rfl) ?_)
   refine .p (aR rfl rfl rfl rfl ?_)
   refine .p (aR rfl rfl rfl rfl ?_)
   refine .p (aR rfl rfl rfl rfl ?_)
   refine .p (iW rfl cB rfl rfl ?_)
   refine lO rfl bH rfl .here (bG q (by omega) (by omega)) ?_
   refine .p (aR rfl rfl rfl rfl ?_)
   refine iW rfl cB rfl rfl ?_
   refine lO rfl bH rfl .here (bG (4+q) (by omega) (by omega)) ?_
   refine .p (aR rfl rfl rfl rfl ?_)
   refine iW rfl cB rfl rfl ?_
   refine lO rfl bH rfl .here (bG (8+q) (by omega) (by omega)) ?_
   refine .p (aR rfl rfl rfl rfl ?_)
   refine iW rfl cB rfl rfl ?_
   refine lO rfl bH rfl .here (bG (12+q) (by omega) (by omega)) ?_
   refine kV rfl aAi (aB rfl (aB rfl (aB rfl (aB rfl aF)))) (zX _ _ _ _ _) ?_
   refine .p (eX rfl rfl rfl (eX rfl rfl rfl (eX rfl rfl rfl (eX rfl rfl rfl (iW rfl cB rfl rfl ?_)))))
   refine s1 rfl (.u rfl) (.u rfl) rfl dZ .here (by rw [bV]; omega) (cY q (by omega)) ?_
   refine iW rfl cB rfl rfl ?_
   refine s1 rfl (.u rfl) (.u rfl) rfl dZ .here (by rw [bV]; omega) (cY (4+q) (by omega)) ?_
   refine iW rfl cB rfl rfl ?_
   refine s1 rfl (.u rfl) (.u rfl) rfl dZ .here (by rw [bV]; omega) (cY (8+q) (by omega)) ?_
   refine iW rfl cB rfl rfl ?_
   refine s1 rfl (.u rfl) (.u rfl) rfl dZ .here (by rw [bV]; omega) (cY (12+q) (by omega)) ?_
   refine .g (aR rfl rfl rfl rfl ?_)
   refine .g (aP (q+1) ?_ ?_ ?_ ?_ ?_)
   ·exact (aA rfl (aA rfl (aA rfl (aA rfl (aA rfl eZ)))))
   ·exact (mS .here rfl (mS .here rfl (mS .here rfl (mS .here rfl (mS .here rfl mN)))))
   ·first|omega|(dsimp only; omega)
   ·exact hGl1
   show q+1≤4; omega
  have c2k:=c2
  try simp only [aC] at c2
  refine .exit (.xcode (.xlp (.xblk (.code (.seq (pF [0,1,2,3,4,5,6,7,8,9,10,11,12,13,14,15,16,17,18,19,20,21] rfl rfl ?_))))))
  obtain rfl:q=4:=by omega
  simp only [aFc (nT (x2 key nonce count 3) r) 4 (Nat.le_refl 4)]
  refine iW rfl cB rfl rfl ?_
  refine lO rfl bH rfl .here (bG 0 rfl (by decide)) ?_
  refine iW rfl cB rfl rfl ?_
  refine lO rfl bH rfl .here (bG 5 rfl (by decide)) ?_
  refine iW rfl cB rfl rfl ?_
  refine lO rfl bH rfl .here (bG 10 rfl (by decide)) ?_
  refine iW rfl cB rfl rfl ?_
  refine lO rfl bH rfl .here (bG 15 rfl (by decide)) ?_
  refine kV rfl aAi (aB rfl (aB rfl (aB rfl (aB rfl aF)))) (zX _ _ _ _ _) ?_
  refine .p (eX rfl rfl rfl (eX rfl rfl rfl (eX rfl rfl rfl (eX rfl rfl rfl (iW rfl cB rfl rfl ?_)))))
  refine s1 rfl (.u rfl) (.u rfl) rfl dZ .here (by rw [bV]; decide) (cY 0 rfl) ?_
  refine iW rfl cB rfl rfl ?_
  refine s1 rfl (.u rfl) (.u rfl) rfl dZ .here (by rw [bV]; decide) (cY 5 rfl) ?_
  refine iW rfl cB rfl rfl ?_
  refine s1 rfl (.u rfl) (.u rfl) rfl dZ .here (by rw [bV]; decide) (cY 10 rfl) ?_
  refine iW rfl cB rfl rfl ?_
  refine s1 rfl (.u rfl) (.u rfl) rfl dZ .here (by rw [bV]; decide) (cY 15 rfl) ?_
  refine .g (iW rfl cB rfl rfl ?_)
  refine lO rfl bH rfl .here (bG 1 rfl (by decide)) ?_
  refine iW rfl cB rfl rfl ?_
  refine lO rfl bH rfl .here (bG 6 rfl (by decide)) ?_
  refine iW rfl cB rfl rfl ?_
  refine lO rfl bH rfl .here (bG 11 rfl (by decide)) ?_
  refine iW rfl cB rfl rfl ?_
  refine lO rfl bH rfl .here (bG 12 rfl (by decide)) ?_
  refine kV rfl aAi (aB rfl (aB rfl (aB rfl (aB rfl aF)))) (zX _ _ _ _ _) ?_
  refine .p (eX rfl rfl rfl (eX rfl rfl rfl (eX rfl rfl rfl (eX rfl rfl rfl (iW rfl cB rfl rfl ?_)))))
  refine s1 rfl (.u rfl) (.u rfl) rfl dZ .here (by rw [bV]; decide) (cY 1 rfl) ?_
  refine iW rfl cB rfl rfl ?_
  refine s1 rfl (.u rfl) (.u rfl) rfl dZ .here (by rw [bV]; decide) (cY 6 rfl) ?_
  refine iW rfl cB rfl rfl ?_
  refine s1 rfl (.u rfl) (.u rfl) rfl dZ .here (by rw [bV]; decide) (cY 11 rfl) ?_
  refine iW rfl cB rfl rfl ?_
  refine s1 rfl (.u rfl) (.u rfl) rfl dZ .here (by rw [bV]; decide) (cY 12 rfl) ?_
  refine .g (iW rfl cB rfl rfl ?_)
  refine lO rfl bH rfl .here (bG 2 rfl (by decide)) ?_
  refine iW rfl cB rfl rfl ?_
  refine lO rfl bH rfl .here (bG 7 rfl (by decide)) ?_
  refine iW rfl cB rfl rfl ?_
  refine lO rfl bH rfl .here (bG 8 rfl (by decide)) ?_
  refine iW rfl cB rfl rfl ?_
  refine lO rfl bH rfl .here (bG 13 rfl (by decide)) ?_
  refine kV rfl aAi (aB rfl (aB rfl (aB rfl (aB rfl aF)))) (zX _ _ _ _ _) ?_
  refine .p (eX rfl rfl rfl (eX rfl rfl rfl (eX rfl rfl rfl (eX rfl rfl rfl (iW rfl cB rfl rfl ?_)))))
  refine s1 rfl (.u rfl) (.u rfl) rfl dZ .here (by rw [bV]; decide) (cY 2 rfl) ?_
  refine iW rfl cB rfl rfl ?_
  refine s1 rfl (.u rfl) (.u rfl) rfl dZ .here (by rw [bV]; decide) (cY 7 rfl) ?_
  refine iW rfl cB rfl rfl ?_
  refine s1 rfl (.u rfl) (.u rfl) rfl dZ .here (by rw [bV]; decide) (cY 8 rfl) ?_
  refine iW rfl cB rfl rfl ?_
  refine s1 rfl (.u rfl) (.u rfl) rfl dZ .here (by rw [bV]; decide) (cY 13 rfl) ?_
  refine .g (iW rfl cB rfl rfl ?_)
  refine lO rfl bH rfl .here (bG 3 rfl (by decide)) ?_
  refine iW rfl cB rfl rfl ?_
  refine lO rfl bH rfl .here (bG 4 rfl (by decide)) ?_
  refine iW rfl cB rfl rfl ?_
  refine lO rfl bH rfl .here (bG 9 rfl (by decide)) ?_
  refine iW rfl cB rfl rfl ?_
  refine lO rfl bH rfl .here (bG 14 rfl (by decide)) ?_
  refine kV rfl aAi (aB rfl (aB rfl (aB rfl (aB rfl aF)))) (zX _ _ _ _ _) ?_
  refine .p (eX rfl rfl rfl (eX rfl rfl rfl (eX rfl rfl rfl (eX rfl rfl rfl (iW rfl cB rfl rfl ?_)))))
  refine s1 rfl (.u rfl) (.u rfl) rfl dZ .here (by rw [bV]; decide) (cY 3 rfl) ?_
  refine iW rfl cB rfl rfl ?_
  refine s1 rfl (.u rfl) (.u rfl) rfl dZ .here (by rw [bV]; decide) (cY 4 rfl) ?_
  refine iW rfl cB rfl rfl ?_
  refine s1 rfl (.u rfl) (.u rfl) rfl dZ .here (by rw [bV]; decide) (cY 9 rfl) ?_
  refine iW rfl cB rfl rfl ?_
  refine s1 rfl (.u rfl) (.u rfl) rfl dZ .here (by rw [bV]; decide) (cY 14 rfl) ?_
  refine .g (aR rfl rfl rfl rfl ?_)
  refine .g (aP (r+1) ?_ ?_ ?_ ?_ ?_)
  ·exact (aA rfl (aA rfl (aA rfl (aA rfl eZ))))
  ·exact (mS .here (congrArg (fun z=>Res.blk b8 (cl (wa 16 z) 187)) (aMW (rM (nT (x2 key nonce count 3) r) 4))) (mS .here rfl (mS .here rfl (mS .here rfl (mS .here rfl mN)))))
  ·first|omega|(dsimp only; omega)
  ·exact hGl0.trans hGl1
  show r+1≤10; omega
 have c1k:=c1
 try simp only [aC] at c1
 refine .exit (.xcode (.xlp (.xblk (.code (.seq (aL rfl rfl ?_))))))
 obtain rfl:r=10:=by omega
 refine al rfl rI ?_; intro b10
 refine .nil (.code (.seq (.seq (aL rfl rfl (mV rfl rfl (.nc (.block ?_)))))))
 refine aV (α:=Nat) (fun i=>[(135,true,.int .i64 (i:Int))]) (fun i=>[.blk b10 (cl (ba 64 (gB (kG key nonce count) (4*i))) 172)])
  (fun i Gl=>i≤16) (fun i=>16-i) 0 [(6,true,_),(7,true,_),(8,true,_),(10,true,_)] [.blk b8 _,.blk b7 _,.blk b4 _,.blk b3 _,.blk b6 _]
  (aA rfl (aA rfl (aA rfl (aA rfl (aA rfl eZ)))))
  (mS .here rfl (mS .here rfl (mS .here rfl (mS .here rfl (mS .here rfl (mS .here rfl mN)))))) ?_ ?_
 ·show 0≤16; omega
 intro i N2 Gl2 hN2 hGl2 hF2
 try dsimp only at hF2 hN2 ⊢
 have hi:i≤16:=hF2
 refine .g (cP rfl rfl rfl rfl (.g (cD rfl (fun c3=>?_) (fun c3=>?_))))
 ·have c3k:=c3
  try simp only [aC] at c3
  refine .g (bA (mc:=⟨false,false⟩) [0,1,2,3,4,5,6,7] aX (by kernel_rfl) ?_)
  refine .p (iW rfl cB rfl rfl ?_)
  refine lO rfl bH rfl aE (bG i (by omega) (by omega)) ?_
  refine .p (iW rfl cB rfl rfl ?_)
  refine lO rfl bH rfl aN (bG i (by omega) (by omega)) ?_
  refine bw (k:=.u32) rfl .no rfl (.u rfl) (.u rfl) rfl (aS rfl rfl (.nc (.seq (aL rfl rfl (mV rfl rfl (.nc (.block ?_)))))))
  refine aV (α:=Nat) (fun c=>[(12,true,U (zH key nonce count i >>> (8*c))),(145,true,.int .i64 (c:Int))]) (fun c=>[.blk b10 (cl (ba 64 (gB (kG key nonce count) (4*i+c))) 172)])
   (fun c Gl=>c≤4) (fun c=>4-c) 0 [(6,true,_),(7,true,_),(8,true,_),(10,true,_),(11,true,_),(135,true,_)] [.blk b8 _,.blk b7 _,.blk b4 _,.blk b3 _,.blk b6 _]
   (cI rfl aQx (aA rfl (aA rfl (aA rfl (aA rfl (aA rfl (aA rfl (aA rfl eZ))))))))
   (mS .here rfl (mS .here rfl (mS .here rfl (mS .here rfl (mS .here rfl (mS .here rfl mN)))))) ?_ ?_
  ·show 0≤4; omega
  intro c N3 Gl3 hN3 hGl3 hF3
  try dsimp only at hF3 hN3 ⊢
  have hc:c≤4:=hF3
  refine .g (cP rfl rfl rfl rfl (.g (cD rfl (fun c4=>?_) (fun c4=>?_))))
  ·have c4k:=c4
   try simp only [aC] at c4
   refine .g (aR rfl rfl rfl rfl ?_)
   refine .p (aR rfl rfl rfl rfl ?_)
   refine .p (cu (k:=.u32) rfl .no rfl vK (.u rfl) ?_)
   refine iW rfl jN rfl rfl ?_
   refine s1 rfl (.u rfl) (.u rfl) rfl gQ .here (by rw [bT]; omega) (iH (4*i+c) (by omega)) ?_
   refine .g (jH (k:=.u32) rfl .no (.u rfl) (.u rfl) (fun _=>by decide) ?_)
   refine .g (aR rfl rfl rfl rfl ?_)
   refine .g (aP (c+1) ?_ ?_ ?_ ?_ ?_)
   ·exact (cI rfl aQw (aA rfl (aA rfl (aA rfl (aA rfl (aA rfl (aA rfl (aA rfl eZ))))))))
   ·exact (mS .here (aOd (by omega)) (mS .here rfl (mS .here rfl (mS .here rfl (mS .here rfl (mS .here rfl mN))))))
   ·first|omega|(dsimp only; omega)
   ·exact hGl3
   show c+1≤4; omega
  have c4k:=c4
  try simp only [aC] at c4
  refine .g (aR rfl rfl rfl rfl ?_)
  refine mV rfl rfl (.nil ?_)
  obtain rfl:c=4:=by omega
  refine aP (i+1) ?_ ?_ ?_ ?_ ?_
  ·exact (aA rfl (aA rfl (aA rfl (aA rfl (aA rfl eZ)))))
  ·exact (mS .here rfl (mS .here rfl (mS .here rfl (mS .here rfl (mS .here rfl (mS .here rfl mN))))))
  ·first|omega|(dsimp only; omega)
  ·exact hGl2.trans hGl3
  show i+1≤16; omega
 have c3k:=c3
 try simp only [aC] at c3
 refine .g (lB rfl gF rfl .here ?_)
 refine sw rfl (.u rfl) (.u rfl) rfl kC eI rfl (jR _ _) ?_
 refine .nil (.code (.ret (aM Tryz.results130 (.cell rfl (fun w hw=>bI gF (RdN.own .here) rfl hw) .nil) ?_)))
 obtain rfl:i=16:=by omega
 exact ⟨rfl,by rw [iG (fun i hi=>(kO (kG key nonce count) hi).symm)]; rfl⟩
end Go.Proofs.YtdeobooblmjlfaaGreatDoor
