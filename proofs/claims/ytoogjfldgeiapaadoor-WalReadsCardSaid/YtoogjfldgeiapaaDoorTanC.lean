/- The forms of code: what follows stands as a list. Branches, blocks, loops, the end of a call, the call's contract. No condition: proved for every program. -/
import Derived.Test.YtoogjfldgeiapaaDoorTanB
namespace Go.Tan
open Go.RowKit

structure Cx where
  P : Program
  fn : Func
  n : Nat
  G0 : PM
  K0 : List Nat
  w0 : World
  post : PM → Mem → Value → Prop
def Cx.R (X : Cx) : Ending → World → Prop := fun e w' => ∃ v G' μ', e = .returned v ∧ Tr X.G0 X.K0 X.w0 G' μ' w' ∧ X.post G' μ' v
inductive KI where
  | code (c : Code)
  | blk (id : Nat)
  | lp (I : Act → World → Prop)
def Qof (X : Cx) : List KI → Exit → Act → World → Prop
  | [] => bodyPost X.P X.fn X.R
  | .code c :: k => Exit.then (c.wp X.P (Qof X k)) (Qof X k)
  | .blk id :: k => Exit.inBlock id (Qof X k)
  | .lp I :: k => Exit.then I (Qof X k)

structure Wk (X : Cx) (c : Code) (k : List KI) (ρ : Env) (G : PM) (μ : Mem) : Prop where
  out : ∀ a w, Ag X.n ρ a → Tr X.G0 X.K0 X.w0 G μ w → c.wp X.P (Qof X k) a w
structure We (X : Cx) (e : Exit) (k : List KI) (ρ : Env) (G : PM) (μ : Mem) : Prop where
  out : ∀ a w, Ag X.n ρ a → Tr X.G0 X.K0 X.w0 G μ w → Qof X k e a w

section
variable {X : Cx} {k : List KI} {ρ : Env} {G : PM} {μ : Mem} {x y c : Code}
theorem Wk.seq (h : Wk X x (.code y :: k) ρ G μ) : Wk X (.seq x y) k ρ G μ := ⟨fun a w ha ht => wp_seq (h.out a w ha ht)⟩
theorem Wk.block {id : Nat} (h : Wk X c (.blk id :: k) ρ G μ) : Wk X (.block id c) k ρ G μ := ⟨fun a w ha ht => wp_block (h.out a w ha ht)⟩
theorem Wk.skip (h : We X .normal k ρ G μ) : Wk X .skip k ρ G μ := ⟨fun a w ha ht => wp_skip (h.out a w ha ht)⟩
theorem Wk.exit {id : Nat} (h : We X (.exit id) k ρ G μ) : Wk X (.exit id) k ρ G μ := ⟨fun a w ha ht => wp_exit (h.out a w ha ht)⟩
theorem Wk.ret (h : We X .ret [] ρ G μ) : Wk X .ret k ρ G μ := by
  refine ⟨fun a w ha ht => wp_ret ?_⟩
  have := h.out a w ha ht
  induction k with
  | nil => exact this
  | cons i k ih => cases i <;> exact ih
theorem Wk.cond {cd : Operand} {b : Bool} (hc : ev ρ cd = some (true, .bool b)) (ht : b = true → Wk X x k ρ G μ) (hf : b = false → Wk X y k ρ G μ) : Wk X (.cond cd x y) k ρ G μ :=
  ⟨fun a w ha hw => wp_cond_split (ha.eval hc rfl) (fun h => (ht h).out a w ha hw) (fun h => (hf h).out a w ha hw)⟩
theorem We.code (h : Wk X c k ρ G μ) : We X .normal (.code c :: k) ρ G μ := ⟨h.out⟩
theorem We.blk {id : Nat} (h : We X .normal k ρ G μ) : We X .normal (.blk id :: k) ρ G μ := ⟨h.out⟩
theorem We.xcode {id : Nat} (h : We X (.exit id) k ρ G μ) : We X (.exit id) (.code c :: k) ρ G μ := ⟨h.out⟩
theorem We.xlp {id : Nat} {I : Act → World → Prop} (h : We X (.exit id) k ρ G μ) : We X (.exit id) (.lp I :: k) ρ G μ := ⟨h.out⟩
theorem We.xblk {id : Nat} (h : We X .normal k ρ G μ) : We X (.exit id) (.blk id :: k) ρ G μ :=
  ⟨fun a w ha ht => by have := h.out a w ha ht; simp only [Qof, Exit.inBlock, if_true]; exact this⟩
theorem We.xnot {id id' : Nat} (hne : Nat.beq id id' = false) (h : We X (.exit id) k ρ G μ) : We X (.exit id) (.blk id' :: k) ρ G μ :=
  ⟨fun a w ha ht => by
    have := h.out a w ha ht
    simp only [Qof, Exit.inBlock]
    rw [if_neg (fun e => by subst e; simp at hne)]
    exact this⟩

theorem We.kok (e : Exit) : KOk (fun ρ G μ => We X e k ρ G μ) :=
  ⟨fun _ _ _ _ he h => ⟨fun a w ha ht => h.out a w (ha.congr he) ht⟩, fun _ _ _ _ p h => ⟨fun a w ha ht => h.out a w ha (ht.perm p.symm)⟩⟩

def dstAll (n : Nat) : List Oper → Bool
  | [] => true
  | o :: l => (match o.dst with | some d => Nat.blt d n | none => true) && dstAll n l
theorem dstAll_ok {n : Nat} {l : List Oper} (h : dstAll n l = true) : ∀ j o, nth l j = some o → dstOk n o.dst := by
  induction l with
  | nil => intro j o ho; cases ho
  | cons o' l ih =>
    simp only [dstAll, Bool.and_eq_true] at h
    intro j o ho
    cases j with
    | zero =>
      simp only [nth, Option.some.injEq] at ho
      subst ho
      cases hd : o'.dst with
      | none => trivial
      | some d => rw [hd] at h; show d < n; simpa [Nat.blt_eq] using h.1
    | succ j => exact ih h.2 j o ho
theorem Wk.region {id : Nat} {l : List Oper} (hds : dstAll X.n l = true) (h : Wo false ⟨false, false⟩ X.P X.n l (fun ρ G μ => We X .normal k ρ G μ) (List.range l.length) ρ G μ) : Wk X (.region id l.toArray false) k ρ G μ :=
  ⟨fun a w ha ht => wp_region (by simpa using Wo.run (Q := Qof X k) (dstAll_ok hds) (fun _ _ _ h a w ha ht => h.out a w ha ht) _ _ _ _ a w h ha ht)⟩

theorem run_alloc {P : Program} {T : TypeId} {z : Value} (h : (P.info? T).bind (·.zero) = some z) (e : Operand → Value) (d : Option Nat) (t : TypeId) (p : String) (af : Array Edge) (g : Option (Nat × Bool)) (w : World) :
    (execOp e ⟨d, .alloc T, t, p, af, g⟩).run P w = .ok (.value (.pointer (some ⟨w.heap.size, 0, none⟩))) (w.alloc (.cells z.cells T)) := by
  cases hi : P.info? T with
  | none => rw [hi] at h; cases h
  | some i =>
    rw [hi] at h
    simp only [Option.bind_some] at h
    simp [execOp, Instr.alloc, zeroValue, typeInfo, hi, h, newVar, newRow]

def allocOk (P : Program) (l : List Oper) : Bool := l.all fun o => match o.op with | .alloc T => ((P.info? T).bind (·.zero)).isSome && o.guard.isNone | _ => true
def drawOk (mc : Md) (P : Program) (n : Nat) (l : List Oper) (σ : List Nat) : Bool :=
  Region.noSelect l.toArray && (l.all fun o => match o.dst with | some d => decide (d < n) | none => true) && allocOk P l && (σ.length == l.length) && okOrd mc l σ (Array.replicate l.length false)

theorem mem_of_nth {l : List Oper} {j : Nat} {o : Oper} (h : nth l j = some o) : o ∈ l := by
  rw [← nth_eq] at h; simpa using Array.mem_of_getElem? h

theorem makes_of {mc : Md} {P : Program} {o : Oper} (hk : kindOf mc o.op = .make) (hz : (match o.op with | .alloc T => ((P.info? T).bind (·.zero)).isSome && o.guard.isNone | _ => true) = true) : Makes P o := by
  obtain ⟨d, op, t, p, af, g⟩ := o
  cases op <;> first | (simp [kindOf] at hk; done) | skip
  case alloc T =>
    simp only [Bool.and_eq_true, Option.isNone_iff_eq_none] at hz
    cases hz1 : (P.info? T).bind (·.zero) with
    | none => rw [hz1] at hz; simp at hz
    | some z => exact ⟨trivial, hz.2, .cells z.cells T, fun b => .pointer (some ⟨b, 0, none⟩), fun e w => run_alloc hz1 e d t p af g w⟩
  case call c =>
    obtain ⟨cal, args, tys⟩ := c
    cases cal <;> simp only [kindOf] at hk
    case builtin b => cases b <;> first | (simp at hk; done) | (simp only at hk; split at hk <;> simp at hk)
    all_goals (split at hk <;> simp at hk)

theorem Wk.draw {mc : Md} {id : Nat} {l : List Oper} (σ : List Nat) (hm : X.P.follows .mixedOrders = true) (hok : drawOk mc X.P X.n l σ = true)
    (h : Wo true mc X.P X.n l (fun ρ G μ => We X .normal k ρ G μ) σ ρ G μ) : Wk X (.region id l.toArray true) k ρ G μ := by
  simp only [drawOk, Bool.and_eq_true, beq_iff_eq] at hok
  obtain ⟨⟨⟨⟨h1, h2⟩, h3⟩, h4⟩, h5⟩ := hok
  refine ⟨fun a w ha ht => wp_region_any hm ?_⟩
  have := Wo.any (Q := Qof X k) (We.kok .normal) rfl h1 (fun j oj hj hk => makes_of hk (List.all_eq_true.1 h3 oj (mem_of_nth hj)))
    (fun j oj hj => by
      have := List.all_eq_true.1 h2 oj (mem_of_nth hj)
      cases hd : oj.dst with
      | none => trivial
      | some d => rw [hd] at this; show d < X.n; exact of_decide_eq_true this) (fun _ _ _ h a w ha ht => h.out a w ha ht) l.length σ _ ρ G μ a _ h4 (Closed.none l.length) h5 h ha ht.drew
  simpa using this

/-! ## What may be forgotten -/
def ESub (ρ' ρ : Env) : Prop := ∀ i cv, look ρ' i = some cv → look ρ i = some cv
theorem ESub.nil {ρ : Env} : ESub [] ρ := fun _ _ h => by cases h
theorem ESub.cons {ρ' ρ : Env} {i : Nat} {c : Bool} {v v' : Value} (h : look ρ i = some (c, v')) (hv : v' = v) (hs : ESub ρ' ρ) : ESub ((i, c, v) :: ρ') ρ := by
  intro j cv hj
  rw [look_cons] at hj
  split at hj
  · rename_i e; subst e; subst hv; rw [h]; exact hj
  · exact hs j cv hj
inductive MTake : Mem → Res → Mem → Prop where
  | here {r μ} : MTake (r :: μ) r μ
  | there {r s μ μ'} (h : MTake μ r μ') : MTake (s :: μ) r (s :: μ')
theorem MTake.perm {μ μ' : Mem} {r : Res} (h : MTake μ r μ') : μ.Perm (r :: μ') := by
  induction h with
  | here => exact .refl _
  | there _ ih => exact (ih.cons _).trans (.swap ..)
def MSub (μ' μ : Mem) : Prop := ∃ ν, μ.Perm (μ' ++ ν)
theorem MSub.nil {μ : Mem} : MSub [] μ := ⟨μ, .refl _⟩
theorem MSub.cons {μ μ₁ ν : Mem} {r r' : Res} (h : MTake μ r' μ₁) (e : r' = r) (hs : MSub ν μ₁) : MSub (r :: ν) μ := by
  subst e
  obtain ⟨κ, hκ⟩ := hs
  exact ⟨κ, h.perm.trans (hκ.cons _)⟩
theorem MSub.refl {μ : Mem} : MSub μ μ := ⟨[], by simp⟩
theorem MSub.tr {μ μ' : Mem} {G0 : PM} {K0 : List Nat} {w0 w : World} (h : MSub μ' μ) (ht : Tr G0 K0 w0 G μ w) : Tr G0 K0 w0 G μ' w := by
  obtain ⟨ν, hν⟩ := h
  exact (ht.perm hν).left
theorem Wk.weak {ρ' : Env} {μ' : Mem} (hE : ESub ρ' ρ) (hM : MSub μ' μ) (h : Wk X c k ρ' G μ') : Wk X c k ρ G μ := ⟨fun a w ha ht => h.out a w (ha.sub hE) (hM.tr ht)⟩
theorem We.weak {e : Exit} {ρ' : Env} {μ' : Mem} (hE : ESub ρ' ρ) (hM : MSub μ' μ) (h : We X e k ρ' G μ') : We X e k ρ G μ := ⟨fun a w ha ht => h.out a w (ha.sub hE) (hM.tr ht)⟩
theorem We.wm {e : Exit} {μ' : Mem} (hM : MSub μ' μ) (h : We X e k ρ G μ') : We X e k ρ G μ := ⟨fun a w ha ht => h.out a w ha (hM.tr ht)⟩

/-! ## Loops -/
structure Inv (X : Cx) (G : PM) {α : Type} (E : α → Env) (M : α → Mem) (F : α → PM → Prop) (x : α) (a : Act) (w : World) : Prop where
  of : ∃ G', PM.le G G' ∧ F x G' ∧ Ag X.n (E x) a ∧ Tr X.G0 X.K0 X.w0 G' (M x) w
theorem Wk.loop {α : Type} (E : α → Env) (M : α → Mem) (F : α → PM → Prop) (m : α → Nat) (x0 : α) (hF : F x0 G) (hE : ESub (E x0) ρ) (hM : MSub (M x0) μ)
    (round : ∀ x G', PM.le G G' → F x G' → Wk X c (.lp (fun a w => ∃ y, m y < m x ∧ Inv X G E M F y a w) :: k) (E x) G' (M x)) : Wk X (.loop c) k ρ G μ := by
  refine ⟨fun a w ha ht => ?_⟩
  intro b kk cs
  have key : ∀ (N : Nat) (x : α), m x < N → ∀ a w, Inv X G E M F x a w →
      ∃ e a' w', Qof X k e a' w' ∧ Arrives X.P (lone (b.at a (.code c :: .inLoop c :: kk)) cs w) b kk cs e a' w' := by
    intro N
    induction N with
    | zero => intro x h; omega
    | succ N ih =>
      intro x hx a w ⟨G', hle, hf, ha, ht⟩
      obtain ⟨e, a₁, w₁, hq, harr⟩ := (round x G' hle hf).out a w ha ht b (.inLoop c :: kk) cs
      cases e with
      | normal =>
        obtain ⟨y, hy, hI⟩ := hq
        obtain ⟨e₂, a₂, w₂, hq₂, harr₂⟩ := ih y (by omega) a₁ w₁ hI
        exact ⟨e₂, a₂, w₂, hq₂, .of_steps (Steps.trans harr (.one step_inLoop)) harr₂⟩
      | exit id => exact ⟨_, a₁, w₁, hq, .pass (x := .inLoop c) rfl (fun _ _ => .inl (by simp)) harr⟩
      | goto l => exact ⟨_, a₁, w₁, hq, .pass (x := .inLoop c) rfl (fun _ _ => .inl (by simp)) harr⟩
      | ret => exact ⟨_, a₁, w₁, hq, .pass (x := .inLoop c) rfl (fun _ _ => .inl (by simp)) harr⟩
      | panic ch => exact ⟨_, a₁, w₁, hq, .pass (x := .inLoop c) rfl (fun _ _ => .inl (by simp)) harr⟩
      | outgrown => exact ⟨_, a₁, w₁, hq, .pass (x := .inLoop c) rfl (fun _ _ => .inl (by simp)) harr⟩
  obtain ⟨e, a', w', hq, harr⟩ := key (m x0 + 1) x0 (by omega) a w ⟨G, PM.le.refl G, hF, ha.sub hE, hM.tr ht⟩
  exact ⟨e, a', w', hq, .of_steps (.one step_loop) harr⟩

/-- The round's end. -/
theorem We.lp {α : Type} {Gs : PM} {E : α → Env} {M : α → Mem} {F : α → PM → Prop} {m : α → Nat} {x : α} (y : α) (hm : m y < m x) (hle : PM.le Gs G) (hF : F y G) (hE : ESub (E y) ρ) (hM : MSub (M y) μ) :
    We X .normal (.lp (fun a w => ∃ y, m y < m x ∧ Inv X Gs E M F y a w) :: k) ρ G μ :=
  ⟨fun _ _ ha ht => ⟨y, hm, ⟨G, hle, hF, ha.sub hE, hM.tr ht⟩⟩⟩

/-! ## The end of a call, and its beginning -/
inductive Rs (P : Program) (ρ : Env) (G : PM) (μ : Mem) : List ResultVar → List Value → Prop where
  | nil : Rs P ρ G μ [] []
  | tmp {t r v vs} (h : look ρ t = some (true, v)) (k : Rs P ρ G μ r vs) : Rs P ρ G μ (.tmp t :: r) (v :: vs)
  | cell {t T r v vs a} (h : look ρ t = some (true, .pointer (some a))) (hw : ∀ w, Sat G μ w → (loadVar T a).run P w = .ok v w) (k : Rs P ρ G μ r vs) : Rs P ρ G μ (.cell t T :: r) (v :: vs)
def tup : List Value → Value
  | [v] => v
  | vs => .tuple vs.toArray

theorem results_run {fn : Func} {n : Nat} {a : Act} {P : Program} {vs : List Value} {w : World} (h : Rs P ρ G μ fn.results.toList vs) (ha : Ag n ρ a) (hs : Sat G μ w) :
    (results fn a.tmps).run P w = .ok (tup vs) w := by
  have key : ∀ (f : ResultVar → Sem Value), (∀ t v, look ρ t = some (true, v) → (f (.tmp t)).run P w = .ok v w) →
      (∀ t T ad v, look ρ t = some (true, .pointer (some ad)) → (loadVar T ad).run P w = .ok v w → (f (.cell t T)).run P w = .ok v w) →
      ∀ (rs : List ResultVar) (vs : List Value), Rs P ρ G μ rs vs → (rs.mapM f).run P w = .ok vs w := by
    intro f f1 f2 rs vs h
    induction h with
    | nil => simp
    | tmp h _ ih => simp [List.mapM_cons, f1 _ _ h, ih]
    | cell h hw _ ih => simp [List.mapM_cons, f2 _ _ _ _ h (hw w hs), ih]
  unfold results
  rw [Array.mapM_eq_mapM_toList]
  simp only [Sem.run_bind, Sem.run_map]
  rw [key _ (fun t v hl => by simp [ha.get t true v hl]) (fun t T ad v hl hr => by simp [ha.get t true _ hl, asAddr, hr]) _ _ h]
  simp only [Result.andThen_ok]
  cases vs with
  | nil => simp [tup]
  | cons v vs => cases vs with
    | nil => simp [tup]
    | cons u vs => simp [tup]

theorem We.fin {vs : List Value} {rs : List ResultVar} {μ' : Mem} (hr : X.fn.results = rs.toArray) (h : Rs X.P ρ G μ rs vs) (hM : MSub μ' μ) (hp : X.post G μ' (tup vs)) : We X .ret [] ρ G μ :=
  ⟨fun _ _ ha ht => ⟨ha.defers, _, results_run (by rw [hr]; exact h) ha ht.sat, _, G, μ', rfl, hM.tr ht, hp⟩⟩
theorem We.fin0 {vs : List Value} {rs : List ResultVar} (hr : X.fn.results = rs.toArray) (h : Rs X.P ρ G μ rs vs) (hp : X.post G [] (tup vs)) : We X .ret [] ρ G μ := We.fin hr h MSub.nil hp
theorem We.nil (h : We X .ret [] ρ G μ) : We X .normal [] ρ G μ := ⟨h.out⟩

def env0 (i : Nat) : List Value → Env
  | [] => []
  | v :: vs => (i, true, v) :: env0 (i + 1) vs
theorem look_env0 : ∀ (vs : List Value) (i j : Nat) (c : Bool) (v : Value), look (env0 i vs) j = some (c, v) → i ≤ j ∧ c = true ∧ vs[j - i]? = some v
  | [], _, _, _, _, h => by cases h
  | u :: vs, i, j, c, v, h => by
    simp only [env0, look_cons] at h
    split at h
    · rename_i e; subst e
      simp only [Option.some.injEq, Prod.mk.injEq] at h
      obtain ⟨rfl, rfl⟩ := h
      simp
    · rename_i e
      obtain ⟨h1, h2, h3⟩ := look_env0 vs (i + 1) j c v h
      refine ⟨by omega, h2, ?_⟩
      rw [show j - i = (j - (i + 1)) + 1 by omega]
      simpa using h3

theorem Ct.of {P : Program} {f : FuncId} {fn : Func} {c : Code} {n : Nat} {vs : List Value} {G : PM} {μ : Mem} {post : PM → Mem → Value → Prop}
    (hf : P.funcs[f]? = some fn) (hb : fn.body = some c) (hn : fn.ntmps = n) (hl : Nat.ble vs.length n = true)
    (h : ∀ w0, Sat G μ w0 → Wk ⟨P, fn, n, G, keys μ, w0, post⟩ c [] (env0 0 vs) G μ) : Ct P f vs.toArray G μ post := by
  intro w hs
  refine calls_of_wp hf hb ?_
  have := (h w hs).out { tmps := vs.toArray ++ Array.replicate (fn.ntmps - vs.toArray.size) undef, defers := [] } w ⟨?_, rfl, ?_⟩ (Tr.begin hs)
  · exact this
  · have := Nat.le_of_ble_eq_true hl
    simp [hn]; omega
  · intro i c v hi
    obtain ⟨_, rfl, h3⟩ := look_env0 vs 0 i c v hi
    simp only [Nat.sub_zero] at h3
    have hlt : i < vs.length := (List.getElem?_eq_some_iff.1 h3).1
    rw [Array.getElem?_append_left (by simpa using hlt)]
    simpa using h3
end
end Go.Tan
