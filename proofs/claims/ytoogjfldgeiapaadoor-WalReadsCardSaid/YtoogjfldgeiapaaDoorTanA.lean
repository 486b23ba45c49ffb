/- A small logic for walking the translated code: what is known of the frame, of memory that stays, of memory that is the call's own. No condition: every lemma is proved for every program. -/
import Derived.WalkKit
import Derived.WalkSpells
import Derived.WalkLawsBesides
namespace Go.Tan
open Go.RowKit

/-! ## What is known -/

abbrev PM := Nat → Option Obj
def PM.le (G G' : PM) : Prop := ∀ b o, G b = some o → G' b = some o
theorem PM.le.refl (G : PM) : PM.le G G := fun _ _ h => h
theorem PM.le.trans {G G' G'' : PM} (h : PM.le G G') (k : PM.le G' G'') : PM.le G G'' := fun b o e => k b o (h b o e)

inductive Res where
  | blk (b : Nat) (o : Obj)
  | row (v : Value) (E size n : Nat) (xs : List Value)
  | mp (b : Nat) (q : IntKind) (m : Int → Option Value)
/-- What a map with integer keys has for a key. -/
def mapGet (q : IntKind) (es : List MapEntry) (k : Int) : Option Value :=
  match es with
  | [] => none
  | e :: r => if e.key matches .int _ _ then (match e.key with | .int _ a => if a = k then some e.val else mapGet q r k | _ => none) else none
def mapOk (q : IntKind) (es : List MapEntry) : Prop := ∀ e ∈ es, ∃ a, e.key = .int q a
def Res.keys : Res → List Nat
  | .blk b _ => [b]
  | .row v .. => v.ownBlock.toList
  | .mp b _ _ => [b]
def Res.sat (w : World) : Res → Prop
  | .blk b o => w.heap[b]? = some o
  | .row v E size n xs => w.ownsRow 0 E size v n xs
  | .mp b q m => ∃ es clock, w.heap[b]? = some (.map es clock) ∧ mapOk q es.toList ∧ ∀ k, mapGet q es.toList k = m k
abbrev Mem := List Res
def keys (μ : Mem) : List Nat := μ.flatMap Res.keys

structure Sat (G : PM) (μ : Mem) (w : World) : Prop where
  sub : ∀ b o, G b = some o → w.heap[b]? = some o
  own : ∀ r ∈ μ, r.sat w
  apart : ∀ b ∈ keys μ, G b = none
  nodup : (keys μ).Nodup

structure Tr (G0 : PM) (K0 : List Nat) (w0 : World) (G : PM) (μ : Mem) (w : World) : Prop where
  sat : Sat G μ w
  os : w.os = w0.os
  tape : w.tape = w0.tape
  output : w.output = w0.output
  size : w0.heap.size ≤ w.heap.size
  old : ∀ b, b < w0.heap.size → b ∉ K0 → w.heap[b]? = w0.heap[b]? ∧ G b = G0 b
  mine : ∀ b ∈ keys μ, b ∈ K0 ∨ w0.heap.size ≤ b
  le : ∀ b o, b ∉ K0 → G0 b = some o → G b = some o

theorem Res.key_lt {w : World} {r : Res} (h : r.sat w) : ∀ b ∈ r.keys, b < w.heap.size := by
  intro b hb
  cases r with
  | blk b' o => simp only [Res.keys, List.mem_singleton] at hb; subst hb; exact (Array.getElem?_eq_some_iff.1 h).1
  | row v E size n xs =>
    simp only [Res.keys, Option.mem_toList] at hb
    exact (World.ownsRow.lt h b hb).2
  | mp b' q m =>
    simp only [Res.keys, List.mem_singleton] at hb
    subst hb
    obtain ⟨es, clock, h1, _⟩ := h
    exact (Array.getElem?_eq_some_iff.1 h1).1
theorem Sat.key_lt {G : PM} {μ : Mem} {w : World} (h : Sat G μ w) : ∀ b ∈ keys μ, b < w.heap.size := by
  intro b hb
  obtain ⟨r, hr, hbr⟩ := List.mem_flatMap.1 hb
  exact Res.key_lt (h.own r hr) b hbr

theorem Res.sat_of {w w' : World} {r : Res} (h : r.sat w) (hk : ∀ b ∈ r.keys, w'.heap[b]? = w.heap[b]?) : r.sat w' := by
  cases r with
  | blk b o => show w'.heap[b]? = some o; rw [hk b (by simp [Res.keys])]; exact h
  | row v E size n xs =>
    refine ⟨h.1, ?_⟩
    rcases h.2 with hn | ⟨g, cap, cur, rfl, hb, hg, rest⟩
    · exact .inl hn
    · exact .inr ⟨g, cap, cur, rfl, hb, by rw [hk g (by simp [Res.keys, Value.ownBlock])]; exact hg, rest⟩
  | mp b q m =>
    obtain ⟨es, clock, h1, h2⟩ := h
    exact ⟨es, clock, by rw [hk b (by simp [Res.keys])]; exact h1, h2⟩

/-- The state of a call at its beginning. -/
theorem Tr.begin {G : PM} {μ : Mem} {w : World} (h : Sat G μ w) : Tr G (keys μ) w G μ w :=
  ⟨h, rfl, rfl, rfl, Nat.le_refl _, fun _ _ _ => ⟨rfl, rfl⟩, fun _ hb => .inl hb, fun _ _ _ h => h⟩

theorem keys_perm {μ μ' : Mem} (h : μ.Perm μ') : (keys μ).Perm (keys μ') := h.flatMap_right _
theorem Sat.perm {G : PM} {μ μ' : Mem} {w : World} (h : Sat G μ w) (p : μ.Perm μ') : Sat G μ' w :=
  ⟨h.sub, fun r hr => h.own r (p.mem_iff.2 hr), fun b hb => h.apart b ((keys_perm p).mem_iff.2 hb), (keys_perm p).nodup_iff.1 h.nodup⟩
theorem Tr.perm {G0 G : PM} {K0 : List Nat} {w0 w : World} {μ μ' : Mem} (h : Tr G0 K0 w0 G μ w) (p : μ.Perm μ') : Tr G0 K0 w0 G μ' w :=
  { h with sat := h.sat.perm p, mine := fun b hb => h.mine b ((keys_perm p).mem_iff.2 hb) }
theorem keys_append (a b : Mem) : keys (a ++ b) = keys a ++ keys b := by simp [keys]
theorem Sat.left {G : PM} {μ ν : Mem} {w : World} (h : Sat G (μ ++ ν) w) : Sat G μ w :=
  ⟨h.sub, fun r hr => h.own r (List.mem_append_left _ hr), fun b hb => h.apart b (by rw [keys_append]; exact List.mem_append_left _ hb),
    by have := h.nodup; rw [keys_append] at this; exact (List.nodup_append.1 this).1⟩
theorem Tr.left {G0 G : PM} {K0 : List Nat} {w0 w : World} {μ ν : Mem} (h : Tr G0 K0 w0 G (μ ++ ν) w) : Tr G0 K0 w0 G μ w :=
  { h with sat := h.sat.left, mine := fun b hb => h.mine b (by rw [keys_append]; exact List.mem_append_left _ hb) }

/-- A step that works on a part of the memory that is the call's own. -/
theorem Tr.step {G0 G G' : PM} {K0 : List Nat} {w0 w w' : World} {μ ν μ' : Mem} (h : Tr G0 K0 w0 G (μ ++ ν) w) (k : Tr G (keys μ) w G' μ' w') :
    Tr G0 K0 w0 G' (μ' ++ ν) w' := by
  have hlt := h.sat.key_lt
  have hnd := h.sat.nodup
  rw [keys_append] at hnd hlt
  have hdis := (List.nodup_append.1 hnd).2.2
  have hν : ∀ b ∈ keys ν, b < w.heap.size ∧ b ∉ keys μ := fun b hb => ⟨hlt b (List.mem_append_right _ hb), fun hm => hdis b hm b hb rfl⟩
  have hμ' : ∀ b ∈ keys μ', b ∈ keys μ ∨ w.heap.size ≤ b := k.mine
  refine ⟨⟨k.sat.sub, ?_, ?_, ?_⟩, k.os.trans h.os, k.tape.trans h.tape, k.output.trans h.output, Nat.le_trans h.size k.size, ?_, ?_, ?_⟩
  · intro r hr
    rcases List.mem_append.1 hr with hr | hr
    · exact k.sat.own r hr
    · refine Res.sat_of (h.sat.own r (List.mem_append_right _ hr)) fun b hb => ?_
      have := hν b (List.mem_flatMap.2 ⟨r, hr, hb⟩)
      exact (k.old b this.1 this.2).1
  · intro b hb
    rw [keys_append] at hb
    rcases List.mem_append.1 hb with hb | hb
    · exact k.sat.apart b hb
    · have := hν b hb
      rw [(k.old b this.1 this.2).2]
      exact h.sat.apart b (by rw [keys_append]; exact List.mem_append_right _ hb)
  · rw [keys_append]
    refine List.nodup_append.2 ⟨k.sat.nodup, (List.nodup_append.1 hnd).2.1, fun x hx y hy hxy => ?_⟩
    subst hxy
    have := hν x hy
    rcases hμ' x hx with hm | hm
    · exact this.2 hm
    · omega
  · intro b hb hK
    have hb' : b ∉ keys μ := fun hm => by
      rcases h.mine b (by rw [keys_append]; exact List.mem_append_left _ hm) with h1 | h1
      · exact hK h1
      · omega
    have h1 := h.old b hb hK
    have h2 := k.old b (Nat.lt_of_lt_of_le hb h.size) hb'
    exact ⟨h2.1.trans h1.1, h2.2.trans h1.2⟩
  · intro b hb
    rw [keys_append] at hb
    rcases List.mem_append.1 hb with hb | hb
    · rcases hμ' b hb with hm | hm
      · exact h.mine b (by rw [keys_append]; exact List.mem_append_left _ hm)
      · exact .inr (Nat.le_trans h.size hm)
    · exact h.mine b (by rw [keys_append]; exact List.mem_append_right _ hb)
  · intro b o hK hb
    have h1 := h.le b o hK hb
    refine k.le b o (fun hm => ?_) h1
    have := h.sat.apart b (by rw [keys_append]; exact List.mem_append_left _ hm)
    rw [h1] at this; cases this

theorem Tr.mono {G0 G : PM} {K0 : List Nat} {w0 w : World} {μ : Mem} (h : Tr G0 K0 w0 G μ w) (hK : ∀ b ∈ K0, G0 b = none) : PM.le G0 G :=
  fun b o hb => h.le b o (fun hm => by rw [hK b hm] at hb; cases hb) hb

/-- What was learned of memory that stays may be forgotten. -/
theorem Tr.forget {G0 G Gp G' : PM} {K0 : List Nat} {w0 w w' : World} {μ : Mem} (h : Tr G0 K0 w0 G μ w) (k : Tr Gp [] w G' [] w') : Tr G0 K0 w0 G μ w' := by
  have hold : ∀ b, b < w.heap.size → w'.heap[b]? = w.heap[b]? := fun b hb => (k.old b hb (by simp)).1
  have hsub : ∀ b o, G b = some o → b < w.heap.size := fun b o hb => (Array.getElem?_eq_some_iff.1 (h.sat.sub b o hb)).1
  have hlt := h.sat.key_lt
  refine ⟨⟨fun b o hb => by rw [hold b (hsub b o hb)]; exact h.sat.sub b o hb, fun r hr => Res.sat_of (h.sat.own r hr) fun b hb => hold b (hlt b (List.mem_flatMap.2 ⟨r, hr, hb⟩)), h.sat.apart, h.sat.nodup⟩,
    k.os.trans h.os, k.tape.trans h.tape, k.output.trans h.output, Nat.le_trans h.size k.size, fun b hb hK => ?_, h.mine, h.le⟩
  rw [hold b (Nat.lt_of_lt_of_le hb h.size)]
  exact h.old b hb hK

theorem Tr.drew {G0 G : PM} {K0 : List Nat} {w0 w : World} {μ : Mem} (h : Tr G0 K0 w0 G μ w) : Tr G0 K0 w0 G μ { w with drawn := w.drawn + 1 } :=
  ⟨⟨h.sat.sub, fun r hr => Res.sat_of (h.sat.own r hr) fun _ _ => rfl, h.sat.apart, h.sat.nodup⟩, h.os, h.tape, h.output, h.size, h.old, h.mine, h.le⟩

/-- A block of one's own becomes memory that stays. -/
def PM.add (G : PM) (b : Nat) (o : Obj) : PM := fun c => if c = b then some o else G c
theorem PM.add_same (G : PM) (b : Nat) (o : Obj) : G.add b o b = some o := by simp [PM.add]
theorem PM.le_add {G : PM} {b : Nat} {o : Obj} (h : G b = none) : PM.le G (G.add b o) := by
  intro c u hc
  unfold PM.add
  split
  · rename_i e; subst e; rw [h] at hc; cases hc
  · exact hc
theorem Tr.freeze {G0 G : PM} {K0 : List Nat} {w0 w : World} {μ : Mem} {b : Nat} {o : Obj} (h : Tr G0 K0 w0 G (.blk b o :: μ) w) (hb : b ∉ K0) : Tr G0 K0 w0 (G.add b o) μ w := by
  have hbo : w.heap[b]? = some o := h.sat.own _ (List.mem_cons_self ..)
  have hk : keys (.blk b o :: μ) = b :: keys μ := by simp [keys, Res.keys]
  have hnd := h.sat.nodup
  rw [hk] at hnd
  have hGb : G b = none := h.sat.apart b (by rw [hk]; exact List.mem_cons_self ..)
  have hw0 : w0.heap.size ≤ b := (h.mine b (by rw [hk]; exact List.mem_cons_self ..)).resolve_left hb
  refine ⟨⟨?_, fun r hr => h.sat.own r (List.mem_cons_of_mem _ hr), ?_, (List.nodup_cons.1 hnd).2⟩, h.os, h.tape, h.output, h.size, ?_, fun c hc => h.mine c (by rw [hk]; exact List.mem_cons_of_mem _ hc), ?_⟩
  · intro c u hc
    unfold PM.add at hc
    split at hc
    · rename_i e; subst e; cases hc; exact hbo
    · exact h.sat.sub c u hc
  · intro c hc
    unfold PM.add
    rw [if_neg (fun (e : c = b) => (List.nodup_cons.1 hnd).1 (e ▸ hc))]
    exact h.sat.apart c (by rw [hk]; exact List.mem_cons_of_mem _ hc)
  · intro c hc hK
    have := h.old c hc hK
    refine ⟨this.1, ?_⟩
    unfold PM.add
    rw [if_neg (by omega)]
    exact this.2
  · intro c u hK hc
    exact PM.le_add hGb c u (h.le c u hK hc)

/-! ## The frame -/

abbrev Env := List (Nat × Bool × Value)
def look : Env → Nat → Option (Bool × Value)
  | [], _ => none
  | (j, cv) :: r, i => match Nat.beq j i with | true => some cv | false => look r i
def ev (ρ : Env) : Operand → Option (Bool × Value)
  | .tmp t => look ρ t
  | .const v => some (true, v)
  | .global g => some (true, .pointer (some ⟨g, 0, none⟩))
  | .func f => some (true, .func (.func f) #[] #[])
structure Ag (n : Nat) (ρ : Env) (a : Act) : Prop where
  size : a.tmps.size = n
  defers : a.defers = []
  get : ∀ i c v, look ρ i = some (c, v) → a.tmps[i]? = some (cond c v undef)

theorem look_cons (j : Nat) (cv : Bool × Value) (r : Env) (i : Nat) : look ((j, cv) :: r) i = if j = i then some cv else look r i := by
  by_cases h : j = i
  · subst h; simp [look]
  · have hb : Nat.beq j i = false := by
      cases h' : Nat.beq j i with
      | false => rfl
      | true => exact absurd (Nat.eq_of_beq_eq_true h') h
    rw [if_neg h]; simp only [look, hb]
theorem Ag.put {n : Nat} {ρ : Env} {a : Act} (h : Ag n ρ a) {d : Nat} (hd : d < n) (c : Bool) (v : Value) : Ag n ((d, c, v) :: ρ) (a.put (some d) (cond c v undef)) := by
  refine ⟨by simp [Act.put, h.size], by simp [Act.put, h.defers], fun i c' v' hl => ?_⟩
  rw [look_cons] at hl
  simp only [Act.put]
  split at hl
  · rename_i e; subst e
    simp only [Option.some.injEq, Prod.mk.injEq] at hl
    obtain ⟨rfl, rfl⟩ := hl
    simp [h.size, hd]
  · rename_i e
    rw [Array.getElem?_setIfInBounds_ne e]
    exact h.get i c' v' hl
theorem Ag.sub {n : Nat} {ρ ρ' : Env} {a : Act} (h : Ag n ρ a) (hs : ∀ i cv, look ρ' i = some cv → look ρ i = some cv) : Ag n ρ' a :=
  ⟨h.size, h.defers, fun i c v hl => h.get i c v (hs i _ hl)⟩
theorem Ag.eval {n : Nat} {ρ : Env} {a : Act} (h : Ag n ρ a) {x : Operand} {c : Bool} {v : Value} (hx : ev ρ x = some (c, v)) (hc : c = true) : a.eval x = v := by
  subst hc
  cases x with
  | tmp t => simp only [ev] at hx; simp [Act.eval, h.get t _ _ hx]
  | const u => simp only [ev, Option.some.injEq, Prod.mk.injEq] at hx; exact hx.2
  | global g => simp only [ev, Option.some.injEq, Prod.mk.injEq] at hx; exact hx.2
  | func f => simp only [ev, Option.some.injEq, Prod.mk.injEq] at hx; exact hx.2

/-- An operand's value where a condition holds. -/
def Ev (ρ : Env) (c : Bool) (x : Operand) (v : Value) : Prop := ∃ cx, ev ρ x = some (cx, v) ∧ (c = true → cx = true)
theorem Ev.u {ρ : Env} {c : Bool} {x : Operand} {v : Value} (h : ev ρ x = some (true, v)) : Ev ρ c x v := ⟨true, h, fun _ => rfl⟩
theorem Ev.s {ρ : Env} {c : Bool} {x : Operand} {v : Value} (h : ev ρ x = some (c, v)) : Ev ρ c x v := ⟨c, h, id⟩
theorem Ev.l {ρ : Env} {c b : Bool} {x : Operand} {v : Value} (h : Ev ρ c x v) : Ev ρ (c && b) x v := by
  obtain ⟨cx, h1, h2⟩ := h
  exact ⟨cx, h1, fun hc => h2 (by simp only [Bool.and_eq_true] at hc; exact hc.1)⟩
theorem Ev.eval {n : Nat} {ρ : Env} {a : Act} {c : Bool} {x : Operand} {v : Value} (h : Ev ρ c x v) (ha : Ag n ρ a) (hc : c = true) : a.eval x = v := by
  obtain ⟨cx, h1, h2⟩ := h
  exact ha.eval h1 (h2 hc)

def nth : List Oper → Nat → Option Oper
  | [], _ => none
  | o :: _, 0 => some o
  | _ :: l, i + 1 => nth l i
theorem nth_eq (l : List Oper) (i : Nat) : l.toArray[i]? = nth l i := by
  rw [List.getElem?_toArray]
  induction l generalizing i with
  | nil => simp [nth]
  | cons o l ih => cases i with
    | zero => simp [nth]
    | succ i => simp [nth, ih]

/-- When an operation is wanted. -/
inductive Gd (l : List Oper) (ρ : Env) : Option (Nat × Bool) → Bool → Prop where
  | no : Gd l ρ none true
  | t {j t : Nat} {b : Bool} (h : (nth l j).bind (·.dst) = some t) (hl : look ρ t = some (true, .bool b)) : Gd l ρ (some (j, true)) b
  | f {j t : Nat} {b : Bool} (h : (nth l j).bind (·.dst) = some t) (hl : look ρ t = some (true, .bool b)) : Gd l ρ (some (j, false)) (!b)
  | tc {j t : Nat} {c b : Bool} (h : (nth l j).bind (·.dst) = some t) (hl : look ρ t = some (c, .bool b)) : Gd l ρ (some (j, true)) (c && b)
  | fc {j t : Nat} {c b : Bool} (h : (nth l j).bind (·.dst) = some t) (hl : look ρ t = some (c, .bool b)) : Gd l ρ (some (j, false)) (c && !b)
theorem Gd.wanted {l : List Oper} {ρ : Env} {o : Oper} {c : Bool} (h : Gd l ρ o.guard c) {n : Nat} {a : Act} (ha : Ag n ρ a) :
    Region.wanted o (yielded l.toArray a.tmps) = c := by
  unfold Region.wanted
  generalize o.guard = g at h
  have key : ∀ {j t : Nat} {c b : Bool}, (nth l j).bind (·.dst) = some t → look ρ t = some (c, .bool b) → yielded l.toArray a.tmps j = if c then some b else none := by
    intro j t c b h hl
    have := ha.get t c _ hl
    unfold yielded
    rw [nth_eq, h]
    simp only [Option.bind_some, this]
    cases c <;> simp [undef]
  cases h with
  | no => rfl
  | t h hl => simp only [key h hl]; cases c <;> simp
  | f h hl => rename_i b; simp only [key h hl]; cases b <;> simp
  | tc h hl => rename_i c b; simp only [key h hl]; cases b <;> cases c <;> simp
  | fc h hl => rename_i c b; simp only [key h hl]; cases b <;> cases c <;> simp

/-! ## Calls -/

def Ct (P : Program) (f : FuncId) (args : Array Value) (G : PM) (μ : Mem) (post : PM → Mem → Value → Prop) : Prop :=
  ∀ w, Sat G μ w → Calls P f args w fun e w' => ∃ v G' μ', e = .returned v ∧ Tr G (keys μ) w G' μ' w' ∧ post G' μ' v

/-! ## Operations in a row -/

inductive Kind where
  | pure | read | call | make | act
  deriving DecidableEq
/-- how calls, and appends, of a drawing region are taken: as what works on memory of one's own, or as what makes new memory alone -/
structure Md where
  c : Bool
  a : Bool
def kindOf (mc : Md) : Op → Kind
  | .move _ | .assign _ | .pick .. | .unOp .. | .binOp .. | .fieldAddr .. | .field .. | .indexAddr .. | .index .. | .extract .. | .slice .. | .build .. | .nilCheck _ | .makeFunc .. | .sliceToArrayPointer .. => .pure
  | .load .. | .convert .. | .lookup .. | .makeInterface .. => .read
  | .alloc _ => .make
  | .box .. | .buildSlice .. => .call
  | .call { callee := .builtin .len, .. } | .call { callee := .builtin .min, .. } | .call { callee := .builtin .max, .. } => .read
  | .call { callee := .builtin .append, .. } => if mc.a then .call else .act
  | .call { callee := .builtin _, .. } => .act
  | .call _ => if mc.c then .act else .call
  | _ => .act

def lay (ρ : Env) (d : Option Nat) (c : Bool) (v : Value) : Env := match d with | some d => (d, c, v) :: ρ | none => ρ
def dstOk (n : Nat) : Option Nat → Prop | some d => d < n | none => True

/-- what is known of new memory tells what was known of the old -/
structure Weak (μ' μ₁ : Mem) : Prop where
  sat : ∀ w, (∀ r ∈ μ', r.sat w) → ∀ r ∈ μ₁, r.sat w
  keys : ∀ b ∈ keys μ₁, b ∈ keys μ'
  nodup : (Go.Tan.keys μ₁).Nodup
theorem Weak.of {G : PM} {μ' μ₁ ν : Mem} {w : World} (h : Weak μ' μ₁) (hs : Sat G (μ' ++ ν) w) : Sat G (μ₁ ++ ν) w := by
  have hnd := hs.nodup
  rw [keys_append] at hnd
  refine ⟨hs.sub, fun r hr => ?_, fun b hb => ?_, ?_⟩
  · rcases List.mem_append.1 hr with hr | hr
    · exact h.sat w (fun r hr => hs.own r (List.mem_append_left _ hr)) r hr
    · exact hs.own r (List.mem_append_right _ hr)
  · rw [keys_append] at hb
    refine hs.apart b ?_
    rw [keys_append]
    rcases List.mem_append.1 hb with hb | hb
    · exact List.mem_append_left _ (h.keys b hb)
    · exact List.mem_append_right _ hb
  · rw [keys_append]
    exact List.nodup_append.2 ⟨h.nodup, (List.nodup_append.1 hnd).2.1, fun x hx y hy => (List.nodup_append.1 hnd).2.2 x (h.keys x hx) y hy⟩
inductive Wo (dr : Bool) (mc : Md) (P : Program) (n : Nat) (l : List Oper) (K : Env → PM → Mem → Prop) : List Nat → Env → PM → Mem → Prop where
  | nil {ρ G μ} (h : K ρ G μ) : Wo dr mc P n l K [] ρ G μ
  | pure {i σ ρ G μ o c v} (ho : nth l i = some o) (hk : kindOf mc o.op = .pure ∨ dr = false) (hg : Gd l ρ o.guard c)
      (hr : c = true → ∀ a w, Ag n ρ a → (execOp a.eval o).run P w = .ok (.value v) w) (h : Wo dr mc P n l K σ (lay ρ o.dst c v) G μ) : Wo dr mc P n l K (i :: σ) ρ G μ
  | read {i σ ρ G μ o c v} (ho : nth l i = some o) (hk : kindOf mc o.op = .read ∨ dr = false) (hg : Gd l ρ o.guard c)
      (hr : c = true → ∀ a w, Ag n ρ a → Sat G μ w → (execOp a.eval o).run P w = .ok (.value v) w) (h : Wo dr mc P n l K σ (lay ρ o.dst c v) G μ) : Wo dr mc P n l K (i :: σ) ρ G μ
  | make {i σ ρ G μ o} {ob : Obj} {mkv : Nat → Value} (ho : nth l i = some o) (hk : kindOf mc o.op = .make ∨ dr = false) (hg : o.guard = none)
      (hr : ∀ e w, (execOp e o).run P w = .ok (.value (mkv w.heap.size)) (w.alloc ob))
      (h : ∀ b, Wo dr mc P n l K σ (lay ρ o.dst true (mkv b)) G (.blk b ob :: μ)) : Wo dr mc P n l K (i :: σ) ρ G μ
  | box {i σ ρ G μ o} {ob : Obj} {mkv : Nat → Value} (ho : nth l i = some o) (hk : kindOf mc o.op = .call ∨ dr = false) (hg : o.guard = none)
      (hr : ∀ a w, Ag n ρ a → (execOp a.eval o).run P w = .ok (.value (mkv w.heap.size)) (w.alloc ob))
      (h : ∀ b, Wo dr mc P n l K σ (lay ρ o.dst true (mkv b)) G (.blk b ob :: μ)) : Wo dr mc P n l K (i :: σ) ρ G μ
  | callv {i σ ρ G μ o c f args v} {Gp : PM} (ho : nth l i = some o) (hk : kindOf mc o.op = .call ∨ kindOf mc o.op = .act ∨ dr = false) (hg : Gd l ρ o.guard c)
      (hr : c = true → ∀ a w, Ag n ρ a → (execOp a.eval o).run P w = .ok (.enter f args) w)
      (hf : c = true → ∀ w, Sat G μ w → (∀ b o, Gp b = some o → w.heap[b]? = some o) ∧ Ct P f args Gp [] fun _ μ' u => μ' = [] ∧ u = v)
      (h : Wo dr mc P n l K σ (lay ρ o.dst c v) G μ) : Wo dr mc P n l K (i :: σ) ρ G μ
  | call {i σ ρ G μ o f args} {post : PM → Mem → Value → Prop} (ho : nth l i = some o) (hk : kindOf mc o.op = .call ∨ kindOf mc o.op = .act ∨ dr = false) (hg : Gd l ρ o.guard true)
      (hr : ∀ a w, Ag n ρ a → (execOp a.eval o).run P w = .ok (.enter f args) w)
      (hf : Ct P f args G [] post)
      (h : ∀ v G' μ', PM.le G G' → post G' μ' v → Wo dr mc P n l K σ (lay ρ o.dst true v) G' (μ' ++ μ)) : Wo dr mc P n l K (i :: σ) ρ G μ
  | callg {i σ ρ G μ o f args} {post : PM → Mem → Value → Prop} (hd : dr = false) (ho : nth l i = some o) (hg : Gd l ρ o.guard true)
      (hr : ∀ a w, Ag n ρ a → (execOp a.eval o).run P w = .ok (.enter f args) w)
      (hf : Ct P f args G [] post)
      (h : ∀ v G' μ', PM.le G G' → post G' μ' v → Wo dr mc P n l K σ (lay ρ o.dst true v) G' (μ' ++ μ)) : Wo dr mc P n l K (i :: σ) ρ G μ
  | fresh {i σ ρ G μ o μ₁ μ₂} {post : PM → Mem → Mem → Value → Prop} (ho : nth l i = some o) (hk : kindOf mc o.op = .call ∨ dr = false) (hg : o.guard = none) (hp : μ.Perm (μ₁ ++ μ₂))
      (hr : ∀ a w, Ag n ρ a → Sat G (μ₁ ++ μ₂) w → ∃ v w' G' μa μb, (execOp a.eval o).run P w = .ok (.value v) w' ∧ Tr G (keys μ₁) w G' (μa ++ μb) w' ∧ post G' μa μb v)
      (hw : ∀ v G' μa μb, post G' μa μb v → Weak (μa ++ μb) μ₁)
      (h : ∀ v G' μa μb, PM.le G G' → post G' μa μb v → Wo dr mc P n l K σ (lay ρ o.dst true v) G' (μa ++ (μ₂ ++ μb))) : Wo dr mc P n l K (i :: σ) ρ G μ
  | act {i σ ρ G μ o μ₁ μ₂} {post : PM → Mem → Value → Prop} (ho : nth l i = some o) (hk : kindOf mc o.op = .act ∨ dr = false) (hg : Gd l ρ o.guard true) (hp : μ.Perm (μ₁ ++ μ₂))
      (hr : ∀ a w, Ag n ρ a → Sat G (μ₁ ++ μ₂) w →
        (∃ v w' G' μ', ((execOp a.eval o).run P w = .ok (.value v) w' ∨ (execOp a.eval o).run P w = .ok .skip w' ∧ v = undef) ∧ Tr G (keys μ₁) w G' μ' w' ∧ post G' μ' v) ∨
        (∃ f args, (execOp a.eval o).run P w = .ok (.enter f args) w ∧ Ct P f args G μ₁ post))
      (h : ∀ v G' μ', PM.le G G' → post G' μ' v → Wo dr mc P n l K σ (lay ρ o.dst true v) G' (μ' ++ μ₂)) : Wo dr mc P n l K (i :: σ) ρ G μ

theorem Ag.laid {n : Nat} {ρ : Env} {a : Act} (h : Ag n ρ a) {d : Option Nat} (hd : dstOk n d) (c : Bool) (v : Value) : Ag n (lay ρ d c v) (a.put d (cond c v undef)) := by
  cases d with
  | none => exact h
  | some d => exact h.put hd c v

theorem Tr.alloc {G0 G : PM} {K0 : List Nat} {w0 w : World} {μ : Mem} (h : Tr G0 K0 w0 G μ w) (ob : Obj) : Tr G0 K0 w0 G (.blk w.heap.size ob :: μ) (w.alloc ob) := by
  have hk : keys (.blk w.heap.size ob :: μ) = w.heap.size :: keys μ := by simp [keys, Res.keys]
  have hlt := h.sat.key_lt
  have hold : ∀ b, b < w.heap.size → (w.alloc ob).heap[b]? = w.heap[b]? := fun b hb => Below.heap_alloc w ob b hb
  have hsub : ∀ b o, G b = some o → b < w.heap.size := fun b o hb => (Array.getElem?_eq_some_iff.1 (h.sat.sub b o hb)).1
  refine ⟨⟨fun b o hb => by rw [hold b (hsub b o hb)]; exact h.sat.sub b o hb, ?_, ?_, ?_⟩, h.os, h.tape, h.output, Nat.le_trans h.size (by simp), ?_, ?_, h.le⟩
  · intro r hr
    rcases List.mem_cons.1 hr with rfl | hr
    · exact heap_alloc_new w ob
    · exact Res.sat_of (h.sat.own r hr) fun b hb => hold b (hlt b (List.mem_flatMap.2 ⟨r, hr, hb⟩))
  · intro b hb
    rw [hk] at hb
    rcases List.mem_cons.1 hb with rfl | hb
    · cases hG : G w.heap.size with
      | none => rfl
      | some o => exact absurd (hsub _ _ hG) (Nat.lt_irrefl _)
    · exact h.sat.apart b hb
  · rw [hk]
    exact List.nodup_cons.2 ⟨fun hm => absurd (hlt _ hm) (Nat.lt_irrefl _), h.sat.nodup⟩
  · intro b hb hK
    rw [hold b (Nat.lt_of_lt_of_le hb h.size)]
    exact h.old b hb hK
  · intro b hb
    rw [hk] at hb
    rcases List.mem_cons.1 hb with rfl | hb
    · exact .inr h.size
    · exact h.mine b hb

theorem upon_call {P : Program} {f : FuncId} {args : Array Value} {G : PM} {μ : Mem} {post : PM → Mem → Value → Prop} (hf : Ct P f args G μ post) {w : World} (hs : Sat G μ w)
    {o : Oper} {a : Act} {next : Act → World → Prop} {Q : Exit → Act → World → Prop}
    (hr : (execOp a.eval o).run P w = .ok (.enter f args) w)
    (h : ∀ v G' μ' w', Tr G (keys μ) w G' μ' w' → post G' μ' v → next (a.put o.dst v) w') : o.wp P a w next Q := by
  unfold Oper.wp
  rw [hr]
  simp only [Oper.upon]
  refine (hf w hs).mono ?_
  rintro e w' ⟨v, G', μ', rfl, ht, hp⟩
  exact h v G' μ' w' ht hp

theorem perm_abc {α : Type} (a b c : List α) : (a ++ b ++ c).Perm (a ++ (c ++ b)) := by
  rw [List.append_assoc]; exact (List.perm_append_comm (l₁ := b) (l₂ := c)).append_left a
/-- One operation, by its rule. -/
theorem Wo.head {dr : Bool} {mc : Md} {P : Program} {n : Nat} {l : List Oper} {K : Env → PM → Mem → Prop} {i : Nat} {σ : List Nat} {ρ : Env} {G : PM} {μ : Mem} (H : Wo dr mc P n l K (i :: σ) ρ G μ)
    {G0 : PM} {K0 : List Nat} {w0 : World} {a : Act} {w : World} (ha : Ag n ρ a) (ht : Tr G0 K0 w0 G μ w)
    {next : Act → World → Prop} {Q : Exit → Act → World → Prop}
    (hds : ∀ j o, nth l j = some o → dstOk n o.dst)
    (hn : ∀ ρ' G' μ' a' w', Wo dr mc P n l K σ ρ' G' μ' → Ag n ρ' a' → Tr G0 K0 w0 G' μ' w' → next a' w') :
    ∃ o, nth l i = some o ∧ if Region.wanted o (yielded l.toArray a.tmps) then o.wp P a w next Q else next (a.put o.dst undef) w := by
  have plain : ∀ {o : Oper}, o.guard = none → Region.wanted o (yielded l.toArray a.tmps) = true := fun hg => by simp [Region.wanted, hg]
  cases H with
  | @pure _ _ _ _ _ o c v ho hk hg hr h =>
    refine ⟨o, ho, ?_⟩
    rw [hg.wanted ha]
    cases c with
    | false => exact hn _ _ _ _ _ h (by simpa using ha.laid (hds i o ho) false v) ht
    | true => simp only [if_true, Oper.wp, hr rfl a w ha, Oper.upon]; exact hn _ _ _ _ _ h (ha.laid (hds i o ho) true v) ht
  | @read _ _ _ _ _ o c v ho hk hg hr h =>
    refine ⟨o, ho, ?_⟩
    rw [hg.wanted ha]
    cases c with
    | false => exact hn _ _ _ _ _ h (by simpa using ha.laid (hds i o ho) false v) ht
    | true => simp only [if_true, Oper.wp, hr rfl a w ha ht.sat, Oper.upon]; exact hn _ _ _ _ _ h (ha.laid (hds i o ho) true v) ht
  | @make _ _ _ _ _ o ob mkv ho hk hg hr h =>
    refine ⟨o, ho, ?_⟩
    rw [plain hg]
    simp only [if_true, Oper.wp, hr a.eval w, Oper.upon]
    exact hn _ _ _ _ _ (h w.heap.size) (ha.laid (hds i o ho) true _) (ht.alloc ob)
  | @box _ _ _ _ _ o ob mkv ho hk hg hr h =>
    refine ⟨o, ho, ?_⟩
    rw [plain hg]
    simp only [if_true, Oper.wp, hr a w ha, Oper.upon]
    exact hn _ _ _ _ _ (h w.heap.size) (ha.laid (hds i o ho) true _) (ht.alloc ob)
  | @callv _ _ _ _ _ o c f args v Gp ho hk hg hr hf h =>
    refine ⟨o, ho, ?_⟩
    rw [hg.wanted ha]
    cases c with
    | false => exact hn _ _ _ _ _ h (by simpa using ha.laid (hds i o ho) false v) ht
    | true =>
      simp only [if_true]
      obtain ⟨hf1, hf2⟩ := hf rfl w ht.sat
      refine upon_call hf2 ⟨hf1, by simp, by simp [keys], by simp [keys]⟩ (hr rfl a w ha) ?_
      rintro u G' μ' w' hk ⟨rfl, rfl⟩
      exact hn _ _ _ _ _ h (ha.laid (hds i o ho) true _) (ht.forget hk)
  | @call _ _ _ _ _ o f args post ho hk hg hr hf h =>
    refine ⟨o, ho, ?_⟩
    rw [hg.wanted ha]
    simp only [if_true]
    refine upon_call hf ⟨ht.sat.sub, by simp, by simp [keys], by simp [keys]⟩ (hr a w ha) ?_
    intro u G' μ' w' hk hp
    exact hn _ _ _ _ _ (h u G' μ' (hk.mono (by simp [keys])) hp) (ha.laid (hds i o ho) true _) (Tr.step (μ := []) (ν := μ) (by simpa using ht) hk)
  | @callg _ _ _ _ _ o f args post hd ho hg hr hf h =>
    refine ⟨o, ho, ?_⟩
    rw [hg.wanted ha]
    simp only [if_true]
    refine upon_call hf ⟨ht.sat.sub, by simp, by simp [keys], by simp [keys]⟩ (hr a w ha) ?_
    intro u G' μ' w' hk hp
    exact hn _ _ _ _ _ (h u G' μ' (hk.mono (by simp [keys])) hp) (ha.laid (hds i o ho) true _) (Tr.step (μ := []) (ν := μ) (by simpa using ht) hk)
  | @fresh _ _ _ _ _ o μ₁ μ₂ post ho hk hg hp hr hw h =>
    refine ⟨o, ho, ?_⟩
    rw [plain hg]
    simp only [if_true]
    have ht' := ht.perm hp
    have hnone : ∀ b ∈ keys μ₁, G b = none := fun b hb => ht'.sat.apart b (by rw [keys_append]; exact List.mem_append_left _ hb)
    obtain ⟨v, w', G', μa, μb, hrun, hk, hpost⟩ := hr a w ha ht'.sat
    have := hn _ _ _ _ _ (h v G' μa μb (hk.mono hnone) hpost) (ha.laid (hds i o ho) true v) ((ht'.step hk).perm (perm_abc μa μb μ₂))
    unfold Oper.wp
    rw [hrun]; exact this
  | @act _ _ _ _ _ o μ₁ μ₂ post ho hk hg hp hr h =>
    refine ⟨o, ho, ?_⟩
    rw [hg.wanted ha]
    simp only [if_true]
    have ht' := ht.perm hp
    have hnone : ∀ b ∈ keys μ₁, G b = none := fun b hb => ht'.sat.apart b (by rw [keys_append]; exact List.mem_append_left _ hb)
    rcases hr a w ha ht'.sat with ⟨v, w', G', μ', hrun, hk, hpost⟩ | ⟨f, args, hrun, hf⟩
    · have := hn _ _ _ _ _ (h v G' μ' (hk.mono hnone) hpost) (ha.laid (hds i o ho) true v) (ht'.step hk)
      unfold Oper.wp
      rcases hrun with hrun | ⟨hrun, rfl⟩
      · rw [hrun]; exact this
      · rw [hrun]; exact this
    · refine upon_call hf ht'.sat.left hrun ?_
      intro v G' μ' w' hk hpost
      exact hn _ _ _ _ _ (h v G' μ' (hk.mono hnone) hpost) (ha.laid (hds i o ho) true v) (ht'.step hk)

theorem Wo.run {dr : Bool} {mc : Md} {P : Program} {n : Nat} {l : List Oper} {K : Env → PM → Mem → Prop} {Q : Exit → Act → World → Prop} {G0 : PM} {K0 : List Nat} {w0 : World}
    (hds : ∀ j o, nth l j = some o → dstOk n o.dst) (hK : ∀ ρ G μ, K ρ G μ → ∀ a w, Ag n ρ a → Tr G0 K0 w0 G μ w → Q .normal a w) :
    ∀ (σ : List Nat) (ρ : Env) (G : PM) (μ : Mem) (a : Act) (w : World), Wo dr mc P n l K σ ρ G μ → Ag n ρ a → Tr G0 K0 w0 G μ w → wpOps P l.toArray Q σ a w
  | [], ρ, G, μ, a, w, H, ha, ht => by cases H with | nil h => exact hK _ _ _ h a w ha ht
  | i :: σ, ρ, G, μ, a, w, H, ha, ht => by
    obtain ⟨o, ho, h⟩ := H.head ha ht (next := wpOps P l.toArray Q σ) (Q := Q) hds (fun ρ' G' μ' a' w' H' ha' ht' => Wo.run hds hK σ ρ' G' μ' a' w' H' ha' ht')
    simp only [wpOps, nth_eq, ho]
    split
    · rename_i hw; rw [if_pos hw] at h; exact .inl h
    · rename_i hw; rw [if_neg hw] at h; exact h

end Go.Tan
