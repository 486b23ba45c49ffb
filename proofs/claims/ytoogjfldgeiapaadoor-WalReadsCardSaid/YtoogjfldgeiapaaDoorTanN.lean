/- Two structs, or two arrays, held against each other: of integers, texts and bools, to whatever depth. No condition: proved for every program. -/
import Derived.Test.YtoogjfldgeiapaaDoorTanM
import Derived.Test.YtoogjfldgeiapaaDoorTanK
namespace Go.Tan
open Go.RowKit
inductive CK where
  | int (k : IntKind)
  | str
  | bool
  deriving DecidableEq
def litOf : Value → Lit
  | .int k n => .int k n
  | .string s => .string s.data.toList
  | .bool b => .bool b
  | _ => .bool false
inductive CkOk : CK → Value → Prop where
  | int {k : IntKind} {n : Int} (h1 : k.min ≤ n) (h2 : n ≤ k.max) : CkOk (.int k) (.int k n)
  | str {s : ByteArray} (h : s.size ≤ maxLen) : CkOk .str (.string s)
  | bool {b : Bool} : CkOk .bool (.bool b)
inductive Conf : List CK → List Value → Prop where
  | nil : Conf [] []
  | cons {k v ks cs} (h : CkOk k v) (r : Conf ks cs) : Conf (k :: ks) (v :: cs)
theorem CkOk.u {k : IntKind} (hk : k.signed = false) (x : BitVec k.bits) : CkOk (.int k) (uv k x) := by
  have := x.isLt
  refine .int ?_ ?_
  · rw [min_u hk]; omega
  · rw [max_u hk]
    have h2 : ((2 ^ k.bits : Nat) : Int) = (2 : Int) ^ k.bits := by simp
    omega
theorem Conf.len {ks : List CK} {cs : List Value} (h : Conf ks cs) : cs.length = ks.length := by
  induction h with
  | nil => rfl
  | cons _ _ ih => simp [ih]
theorem Conf.app {ks ks' : List CK} {cs cs' : List Value} (h : Conf ks cs) (h' : Conf ks' cs') : Conf (ks ++ ks') (cs ++ cs') := by
  induction h with
  | nil => exact h'
  | cons h1 _ ih => exact .cons h1 ih
theorem Conf.split {ks ks' : List CK} : ∀ {cs : List Value}, Conf (ks ++ ks') cs → Conf ks (cs.take ks.length) ∧ Conf ks' (cs.drop ks.length) := by
  induction ks with
  | nil => intro cs h; exact ⟨by simpa using Conf.nil, by simpa using h⟩
  | cons k ks ih =>
    intro cs h
    cases h with
    | cons h1 r =>
      obtain ⟨h2, h3⟩ := ih r
      exact ⟨.cons h1 h2, h3⟩
theorem Conf.one {ks : List CK} {cs : List Value} (h : Conf ks cs) : ∀ u ∈ cs, u.oneCell' = true := by
  induction h with
  | nil => intro u hu; cases hu
  | cons h1 _ ih =>
    intro u hu
    rcases List.mem_cons.1 hu with rfl | hu
    · cases h1 <;> rfl
    · exact ih u hu
theorem Conf.inj {ks : List CK} {cs cs' : List Value} (h : Conf ks cs) (h' : Conf ks cs') (e : cs.map litOf = cs'.map litOf) : cs = cs' := by
  induction h generalizing cs' with
  | nil => cases h'; rfl
  | cons h1 _ ih =>
    cases h' with
    | cons h2 r2 =>
      simp only [List.map_cons, List.cons.injEq] at e
      rw [ih r2 e.2]
      congr 1
      cases h1 with
      | int _ _ => cases h2 with | int _ _ => have := e.1; simp only [litOf, Lit.int.injEq, true_and] at this; rw [this]
      | @str s1 _ => cases h2 with
        | @str s2 _ =>
          have := e.1
          simp only [litOf, Lit.string.injEq] at this
          have h3 : s1.data = s2.data := by
            have := congrArg List.toArray this
            simpa using this
          obtain ⟨d1⟩ := s1
          obtain ⟨d2⟩ := s2
          simp only at h3
          rw [h3]
      | bool => cases h2 with | bool => have := e.1; simp only [litOf, Lit.bool.injEq] at this; rw [this]
/-! ### A type's cells, one by one -/
def shpF (P : Program) (f : TypeId → Option (List CK)) : Nat → List Field → Option (List CK)
  | _, [] => some []
  | o, fl :: r => match f fl.type with
    | some ks => if fl.offset = o ∧ P.cellsOf fl.type = ks.length then (shpF P f (o + ks.length) r).map (ks ++ ·) else none
    | none => none
def shp (P : Program) : Nat → TypeId → Option (List CK)
  | 0, _ => none
  | d + 1, t => match P.underlying t with
    | some (.int k) => some [.int k]
    | some .string => some [.str]
    | some .bool => some [.bool]
    | some (.array n e) => match shp P d e with
      | some ks => if P.cellsOf e = ks.length ∧ P.cellsOf t = n * ks.length then some (List.replicate n ks).flatten else none
      | none => none
    | some (.struct fs) => match shpF P (shp P d) 0 fs.toList with
      | some ks => if P.cellsOf t = ks.length ∧ fs.all (·.name != "_") = true then some ks else none
      | none => none
    | _ => none
theorem conf_rep {ks : List CK} : ∀ {n : Nat} {cs : List Value}, Conf (List.replicate n ks).flatten cs → ∀ i, i < n → Conf ks ((cs.drop (i * ks.length)).take ks.length)
  | 0, _, _, i, hi => by omega
  | n + 1, cs, h, i, hi => by
    rw [List.replicate_succ, List.flatten_cons] at h
    obtain ⟨h1, h2⟩ := h.split
    cases i with
    | zero => simpa using h1
    | succ i =>
      have := conf_rep h2 i (by omega)
      rw [List.drop_drop] at this
      rwa [Nat.succ_mul, Nat.add_comm]
theorem chunks {α : Type} {f : Value → α} {L : Nat} : ∀ {n : Nat} {cs : List Value}, cs.length = n * L → ((List.range n).map fun i => ((cs.drop (i * L)).take L).map f).flatten = cs.map f
  | 0, cs, h => by
    obtain rfl : cs = [] := List.eq_nil_of_length_eq_zero (by simpa using h)
    rfl
  | n + 1, cs, h => by
    rw [List.range_succ_eq_map, List.map_cons, List.flatten_cons, List.map_map, Nat.zero_mul, List.drop_zero]
    have h2 := chunks (f := f) (L := L) (n := n) (cs := cs.drop L) (by rw [List.length_drop, h, Nat.succ_mul]; omega)
    have e : (List.map ((fun i => List.map f (List.take L (List.drop (i * L) cs))) ∘ Nat.succ) (List.range n)) = (List.range n).map fun i => (((cs.drop L).drop (i * L)).take L).map f := by
      apply List.map_congr_left
      intro i _
      simp only [Function.comp, List.drop_drop, Nat.succ_mul, Nat.add_comm]
    rw [e, h2, ← List.map_append, List.take_append_drop]
theorem mapM_all {α β : Type} {f : α → Option β} {g : α → β} : ∀ {l : List α}, (∀ x ∈ l, f x = some (g x)) → l.mapM f = some (l.map g)
  | [], _ => by simp
  | x :: l, h => by simp [List.mapM_cons, h x (List.mem_cons_self ..), mapM_all (l := l) fun z hz => h z (List.mem_cons_of_mem _ hz)]
section
variable {P : Program}
theorem conf_fields {d : Nat} (ih : ∀ t ks cs, shp P d t = some ks → Conf ks cs → P.keyLits d t cs = some (cs.map litOf)) : ∀ (fs : List Field) (o : Nat) (ks : List CK) (cs : List Value), shpF P (shp P d) o fs = some ks → Conf ks (cs.drop o) →
    ∃ r, fs.mapM (fun f => P.keyLits d f.type ((cs.drop f.offset).take (P.cellsOf f.type))) = some r ∧ r.flatten = (cs.drop o).map litOf
  | [], o, ks, cs, h, hc => by
    simp only [shpF, Option.some.injEq] at h
    subst h
    have := hc.len
    exact ⟨[], by simp, by rw [List.eq_nil_of_length_eq_zero this]; rfl⟩
  | fl :: r, o, ks, cs, h, hc => by
    simp only [shpF] at h
    split at h
    · rename_i ks1 h1
      split at h
      · rename_i h2
        cases h3 : shpF P (shp P d) (o + ks1.length) r with
        | none => rw [h3] at h; cases h
        | some ks2 =>
          rw [h3] at h
          simp only [Option.map_some, Option.some.injEq] at h
          subst h
          obtain ⟨c1, c2⟩ := hc.split
          rw [List.drop_drop] at c2
          obtain ⟨rr, hr1, hr2⟩ := conf_fields ih r (o + ks1.length) ks2 cs h3 c2
          have hk := ih fl.type ks1 _ h1 c1
          refine ⟨((cs.drop o).take ks1.length).map litOf :: rr, ?_, ?_⟩
          · rw [List.mapM_cons, h2.1, h2.2, hk, hr1]; rfl
          · rw [List.flatten_cons, hr2, ← List.map_append, ← List.drop_drop, List.take_append_drop]
      · cases h
    · cases h
theorem conf_lits : ∀ (d : Nat) (t : TypeId) (ks : List CK) (cs : List Value), shp P d t = some ks → Conf ks cs → P.keyLits d t cs = some (cs.map litOf)
  | 0, _, _, _, h, _ => by cases h
  | d + 1, t, ks, cs, h, hc => by
    simp only [shp] at h
    unfold Program.keyLits
    split at h
    · rename_i k hu
      simp only [Option.some.injEq] at h
      subst h
      cases hc with
      | cons h1 r => cases r; cases h1 with | int a b => simp [hu, Lit.wf, a, b, litOf]
    · rename_i hu
      simp only [Option.some.injEq] at h
      subst h
      cases hc with
      | cons h1 r => cases r; cases h1 with | str a => simp [hu, a, litOf]
    · rename_i hu
      simp only [Option.some.injEq] at h
      subst h
      cases hc with
      | cons h1 r => cases r; cases h1 with | bool => simp [hu, litOf]
    · rename_i n e hu
      split at h
      · rename_i ks1 h1
        split at h
        · rename_i h2
          simp only [Option.some.injEq] at h
          subst h
          have hl : cs.length = n * ks1.length := by
            rw [hc.len]; simp
          have hm := mapM_all (l := List.range n) (f := fun i => P.keyLits d e ((cs.drop (i * P.cellsOf e)).take (P.cellsOf e))) (g := fun i => ((cs.drop (i * ks1.length)).take ks1.length).map litOf)
            (fun i hi => by rw [h2.1]; exact conf_lits d e ks1 _ h1 (conf_rep hc i (List.mem_range.1 hi)))
          rw [hu]
          simp only [hl, h2.2, if_true, hm, Option.map_some, chunks hl]
        · cases h
      · cases h
    · rename_i fs hu
      split at h
      · rename_i ks1 h1
        split at h
        · rename_i h2
          simp only [Option.some.injEq] at h
          subst h
          obtain ⟨r, hr1, hr2⟩ := conf_fields (conf_lits d) fs.toList 0 ks1 cs h1 (by simpa using hc)
          rw [hu]
          simp only [hc.len, h2.1, h2.2, and_self, if_true, hr1, Option.map_some, hr2, List.drop_zero]
        · cases h
      · cases h
    · cases h
/-- the closed facts of a type whose values are held against each other -/
def eqT (P : Program) (m : Nat) (T : TypeId) (ks : List CK) : Bool :=
  (match shp P m T with | some k => k == ks | none => false) && P.keyTypeAt m T && !P.eqGuardType P.depth T && Nat.ble m 10000 && (match P.underlying T with | some (.struct _) | some (.array _ _) => Nat.beq (P.cellsOf T) ks.length | _ => false)
theorem run_eqC {T m : Nat} {ks : List CK} {cs cs' : List Value} {r : Bool} (hT : eqT P m T ks = true) (h1 : Conf ks cs) (h2 : Conf ks cs') (hr : r = true ↔ cs = cs') (w : World) :
    (Op.equal T (.agg cs.toArray) (.agg cs'.toArray)).run P w = .ok r w ∧ P.eqGuardType P.depth T = false := by
  simp only [eqT, Bool.and_eq_true, Bool.not_eq_true'] at hT
  obtain ⟨⟨⟨⟨hs, hk⟩, hg⟩, hm⟩, hf⟩ := hT
  have hs' : shp P m T = some ks := by
    split at hs
    · rename_i k hk'; rw [hk', beq_iff_eq.1 hs]
    · cases hs
  have hm := Nat.le_of_ble_eq_true hm
  have hform : ∀ cs : List Value, Conf ks cs → (Value.agg cs.toArray).formed P T = true := by
    intro cs hc
    have hl := hc.len
    simp only [Value.formed]
    split at hf <;> rename_i hu <;> first | (rw [hu]; have := Nat.eq_of_beq_eq_true hf; simp [this, hl]) | cases hf
  obtain ⟨r', hr', hiff⟩ := run_equalIn_deep (10000 - m) m T hk w m m (.agg cs.toArray) (.agg cs'.toArray) (cs.map litOf) (cs'.map litOf) (hform _ h1) (hform _ h2) (by simpa [Value.cells] using conf_lits m T ks cs hs' h1) (by simpa [Value.cells] using conf_lits m T ks cs' hs' h2)
  rw [show 10000 - m + m = 10000 by omega] at hr'
  have e : r' = r := by
    have h3 : r' = true ↔ r = true := by
      rw [hiff, hr]
      exact ⟨fun e => h1.inj h2 e, fun e => by rw [e]⟩
    cases r <;> cases r' <;> simp_all
  subst e
  exact ⟨hr', hg⟩
variable {dr : Bool} {mc : Md} {n : Nat} {l : List Oper} {K : Env → PM → Mem → Prop} {i : Nat} {σ : List Nat} {ρ : Env} {G : PM} {μ : Mem}
variable {d t : Nat} {p : String} {af : Array Edge} {g : Option (Nat × Bool)} {c : Bool}
/-- '==' -/
theorem eqC {T T' m : Nat} {x y : Operand} {ks : List CK} {cs cs' : List Value} (r : Bool) (ho : nth l i = some ⟨some d, .binOp .eql T x y T', t, p, af, g⟩) (hg : Gd l ρ g c) (hT : eqT P m T ks = true) (hx : Ev ρ c x (.agg cs.toArray)) (hy : Ev ρ c y (.agg cs'.toArray))
    (h1 : c = true → Conf ks cs) (h2 : c = true → Conf ks cs') (hr : c = true → (r = true ↔ cs = cs')) (h : Wo dr mc P n l K σ ((d, c, .bool r) :: ρ) G μ) : Wo dr mc P n l K (i :: σ) ρ G μ :=
  .pure ho (.inl rfl) hg (fun hc a w ha => by
    obtain ⟨h3, h4⟩ := run_eqC hT (h1 hc) (h2 hc) (hr hc) w
    simp [execOp, hx.eval ha hc, hy.eval ha hc, eqGuard_agg h4, binOp, h3]) h
/-- '!=' -/
theorem nqC {T T' m : Nat} {x y : Operand} {ks : List CK} {cs cs' : List Value} (r : Bool) (ho : nth l i = some ⟨some d, .binOp .neq T x y T', t, p, af, g⟩) (hg : Gd l ρ g c) (hT : eqT P m T ks = true) (hx : Ev ρ c x (.agg cs.toArray)) (hy : Ev ρ c y (.agg cs'.toArray))
    (h1 : c = true → Conf ks cs) (h2 : c = true → Conf ks cs') (hr : c = true → (r = true ↔ cs = cs')) (h : Wo dr mc P n l K σ ((d, c, .bool (!r)) :: ρ) G μ) : Wo dr mc P n l K (i :: σ) ρ G μ :=
  .pure ho (.inl rfl) hg (fun hc a w ha => by
    obtain ⟨h3, h4⟩ := run_eqC hT (h1 hc) (h2 hc) (hr hc) w
    simp [execOp, hx.eval ha hc, hy.eval ha hc, eqGuard_agg h4, binOp, h3]) h
/-- '!=' of bools -/
theorem nb {T T' : TypeId} {x y : Operand} {b1 b2 : Bool} (ho : nth l i = some ⟨some d, .binOp .neq T x y T', t, p, af, g⟩) (hg : Gd l ρ g c) (hT : boolT P T = true) (hx : Ev ρ c x (.bool b1)) (hy : Ev ρ c y (.bool b2))
    (h : Wo dr mc P n l K σ ((d, c, .bool (!(b1 == b2))) :: ρ) G μ) : Wo dr mc P n l K (i :: σ) ρ G μ :=
  .pure ho (.inl rfl) hg (fun hc a w ha => by
    unfold boolT at hT
    split at hT
    · rename_i hu
      have h1 : ∀ w, (Op.equalIn (9999 + 1) T (.bool b1) (.bool b2)).run P w = .ok (b1 == b2) w := fun w => by
        rw [Op.equalIn]; simp only [Sem.run_bind, run_underlying hu, Result.andThen_ok, Sem.run_pure]
      have h2 : (eqGuard .neq T x y (.bool b1) (.bool b2)).run P w = .ok () w := by unfold eqGuard; simp
      simp only [execOp, hx.eval ha hc, hy.eval ha hc, Sem.run_bind, h2, Result.andThen_ok, binOp, Op.equal, Op.maxDepth]
      rw [show (10000 : Nat) = 9999 + 1 from rfl, h1]
      rfl
    · cases hT) h
end
theorem Conf.u8 {y : Y} {ks : List CK} {cs : List Value} (h : Conf ks cs) : Conf (.int .u8 :: ks) (V y :: cs) := .cons (CkOk.u (k := .u8) rfl y) h
theorem Conf.u64 {y : BitVec 64} {ks : List CK} {cs : List Value} (h : Conf ks cs) : Conf (.int .u64 :: ks) (uv .u64 y :: cs) := .cons (CkOk.u (k := .u64) rfl y) h
theorem Conf.ba (n : Nat) (f : Nat → Y) : Conf (List.replicate n (.int .u8)) (ba n f) := by
  have key : ∀ xs : List Nat, Conf (List.replicate xs.length (.int .u8)) (xs.map fun i => V (f i)) := by
    intro xs
    induction xs with
    | nil => exact .nil
    | cons x xs ih => exact Conf.u8 ih
  have := key (List.range n)
  rw [List.length_range] at this
  exact this
end Go.Tan
