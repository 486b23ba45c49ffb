/- More rules of operations: slices, maps, closures, rows that grow. No condition: proved for every program. -/
import Derived.Test.YtoogjfldgeiapaaDoorTanD
namespace Go.Tan
open Go.RowKit
/-- A loop: what stays, apart from what turns. -/
theorem Wk.lop {X : Cx} {k : List KI} {ρ : Env} {G : PM} {μ : Mem} {c : Code} {α : Type} (E : α → Env) (M : α → Mem) (F : α → PM → Prop) (m : α → Nat) (x0 : α) (ρc : Env) (μc : Mem) (hE : ESub (E x0 ++ ρc) ρ) (hM : MSub (M x0 ++ μc) μ) (hF : F x0 G)
    (round : ∀ x N G', m x = N → PM.le G G' → F x G' → Wk X c (.lp (fun a w => ∃ y, m y < N ∧ Inv X G (fun x => E x ++ ρc) (fun x => M x ++ μc) F y a w) :: k) (E x ++ ρc) G' (M x ++ μc)) : Wk X (.loop c) k ρ G μ :=
  Wk.loop (fun x => E x ++ ρc) (fun x => M x ++ μc) F m x0 hF hE hM fun x G' hle hF => round x (m x) G' rfl hle hF
theorem We.lpo {X : Cx} {k : List KI} {ρ : Env} {G : PM} {μ : Mem} {α : Type} {Gs : PM} {E : α → Env} {M : α → Mem} {F : α → PM → Prop} {m : α → Nat} {N : Nat} {ρc : Env} {μc : Mem} (y : α) (hE : ESub (E y ++ ρc) ρ) (hM : MSub (M y ++ μc) μ) (hm : m y < N) (hle : PM.le Gs G) (hF : F y G) :
    We X .normal (.lp (fun a w => ∃ y, m y < N ∧ Inv X Gs (fun x => E x ++ ρc) (fun x => M x ++ μc) F y a w) :: k) ρ G μ :=
  ⟨fun _ _ ha ht => ⟨y, hm, ⟨G, hle, hF, ha.sub hE, hM.tr ht⟩⟩⟩
theorem Wk.condT {X : Cx} {k : List KI} {ρ : Env} {G : PM} {μ : Mem} {x y : Code} {cd : Operand} {b : Bool} (hc : ev ρ cd = some (true, .bool b)) (hb : b = true) (h : Wk X x k ρ G μ) : Wk X (.cond cd x y) k ρ G μ :=
  Wk.cond hc (fun _ => h) (fun h' => by rw [hb] at h'; cases h')
theorem Wk.condF {X : Cx} {k : List KI} {ρ : Env} {G : PM} {μ : Mem} {x y : Code} {cd : Operand} {b : Bool} (hc : ev ρ cd = some (true, .bool b)) (hb : b = false) (h : Wk X y k ρ G μ) : Wk X (.cond cd x y) k ρ G μ :=
  Wk.cond hc (fun h' => by rw [hb] at h'; cases h') (fun _ => h)
theorem Wk.rg {X : Cx} {k : List KI} {ρ : Env} {G : PM} {μ : Mem} {id : Nat} {l : List Oper} (σ : List Nat) (hσ : List.range l.length = σ) (hds : dstAll X.n l = true) (h : Wo false ⟨false, false⟩ X.P X.n l (fun ρ G μ => We X .normal k ρ G μ) σ ρ G μ) :
    Wk X (.region id l.toArray false) k ρ G μ := Wk.region hds (hσ ▸ h)

theorem RdNP.z {G : PM} {b k : Nat} {cs : List Value} {v : Value} (h : RdNP G b 0 cs) (hk : cs[k]? = some v) : RdP G ⟨b, k, none⟩ v := by have := h k v hk; rwa [Nat.zero_add] at this
/-! ## Slices that are only read -/
structure Sh where
  oa : Option Addr
  cap : Nat
def Sh.b (h : Sh) : Nat := (h.oa.getD ⟨0, 0, none⟩).block
def Sh.o (h : Sh) : Nat := (h.oa.getD ⟨0, 0, none⟩).off
def Sh.val (h : Sh) (n : Nat) : Value := .slice h.oa n h.cap
/-- A slice holds a list: each element so many cells. -/
structure SlR {α : Type} (G : PM) (sz : Nat) (enc : α → List Value) (h : Sh) (xs : List α) : Prop where
  there : xs ≠ [] → h.oa = some ⟨h.b, h.o, none⟩
  le : xs.length ≤ h.cap
  rd : ∀ i x, xs[i]? = some x → RdNP G h.b (h.o + i * sz) (enc x)
theorem SlR.mono {α : Type} {G G' : PM} {sz : Nat} {enc : α → List Value} {h : Sh} {xs : List α} (s : SlR G sz enc h xs) (hle : PM.le G G') : SlR G' sz enc h xs :=
  ⟨s.there, s.le, fun i x hx => (s.rd i x hx).mono hle⟩
theorem SlR.nn {α : Type} {G : PM} {sz : Nat} {enc : α → List Value} {h : Sh} {xs : List α} (s : SlR G sz enc h xs) {k : Nat} (hk : k < xs.length) : h.oa = some ⟨h.b, h.o, none⟩ := s.there (fun e => by subst e; simp at hk)
theorem SlR.at {α : Type} {G : PM} {sz : Nat} {enc : α → List Value} {h : Sh} {xs : List α} (s : SlR G sz enc h xs) {j : Int} {k : Nat} {x : α} (hj : j.toNat = k) (hx : xs[k]? = some x) : RdNP G h.b (h.o + j.toNat * sz) (enc x) := by
  subst hj; exact s.rd _ x hx
theorem SlR.nul {α : Type} {G : PM} {sz : Nat} {enc : α → List Value} : SlR G sz enc ⟨Option.none, 0⟩ ([] : List α) := ⟨fun h => absurd rfl h, by simp, fun i x h => by simp at h⟩

section
variable {dr : Bool} {mc : Md} {P : Program} {n : Nat} {l : List Oper} {K : Env → PM → Mem → Prop} {i : Nat} {σ : List Nat} {ρ : Env} {G : PM} {μ : Mem}
variable {d t : Nat} {p : String} {af : Array Edge} {g : Option (Nat × Bool)} {c : Bool}

/-- '&xs[i]' -/
theorem ih {T e sz by' : Nat} {x y : Operand} {k : IntKind} {s : Sh} {m : Nat} {j : Int} (ho : nth l i = some ⟨some d, .indexAddr T x y, t, p, af, g⟩) (hg : Gd l ρ g c) (hT : slE P T = some (e, sz, by')) (hx : Ev ρ c x (s.val m)) (hy : Ev ρ c y (.int k j))
    (h0 : c = true → 0 ≤ j) (h1 : c = true → j < m) (hn : c = true → s.oa = some ⟨s.b, s.o, none⟩) (h : Wo dr mc P n l K σ ((d, c, .pointer (some ⟨s.b, s.o + j.toNat * sz, none⟩)) :: ρ) G μ) : Wo dr mc P n l K (i :: σ) ρ G μ :=
  .pure ho (.inl rfl) hg (fun hc a w ha => by
    obtain ⟨hu, inf, hi, rfl, rfl⟩ := slE_some hT
    have hx' := hx.eval ha hc
    simp only [Sh.val] at hx'
    rw [hn hc] at hx'
    simp [execOp, hx', hy.eval ha hc, Instr.indexAt, asIntOf, run_underlying hu, h0 hc, h1 hc, sizeOf, typeInfo, hi, add_lit]) h
theorem lh {T : TypeId} {x : Operand} {s : Sh} {m : Nat} (ho : nth l i = some ⟨some d, .call { callee := .builtin .len, args := #[x], argTypes := #[T] }, t, p, af, g⟩) (hg : Gd l ρ g c) (hT : (slE P T).isSome = true) (hx : Ev ρ c x (s.val m))
    (h : Wo dr mc P n l K σ ((d, c, .int .i64 m) :: ρ) G μ) : Wo dr mc P n l K (i :: σ) ρ G μ := ln ho hg hT hx h
/-- 'xs[lo:hi]' -/
def Sh.cut (s : Sh) (lo sz : Nat) : Sh := ⟨if s.cap = lo then s.oa else s.oa.map (·.add (lo * sz)), s.cap - lo⟩
theorem sc {T e sz by' : Nat} {x y z : Operand} {k k' : IntKind} {s : Sh} {m : Nat} {lo hi : Int} (ho : nth l i = some ⟨some d, .slice T x (some y) (some z) none, t, p, af, g⟩) (hg : Gd l ρ g c) (hT : slE P T = some (e, sz, by')) (hx : Ev ρ c x (s.val m)) (hy : Ev ρ c y (.int k lo)) (hz : Ev ρ c z (.int k' hi))
    (h0 : c = true → 0 ≤ lo) (h1 : c = true → lo ≤ hi) (h2 : c = true → hi ≤ s.cap) (h : Wo dr mc P n l K σ ((d, c, (s.cut lo.toNat sz).val (hi.toNat - lo.toNat)) :: ρ) G μ) : Wo dr mc P n l K (i :: σ) ρ G μ :=
  .pure ho (.inl rfl) hg (fun hc a w ha => by
    obtain ⟨hu, inf, hi', rfl, rfl⟩ := slE_some hT
    have hx' := hx.eval ha hc
    simp only [Sh.val] at hx'
    have := h0 hc; have := h1 hc; have := h2 hc
    simp [execOp, hx', hy.eval ha hc, hz.eval ha hc, Instr.sliceAt, run_underlying hu, Instr.slice, Instr.sliceBounds, Instr.sliceBound, asIntOf, show 0 ≤ hi by omega, h0 hc, h2 hc, sizeOf, typeInfo, hi', Sh.val, Sh.cut]
    intro hlt; exfalso; omega) h

theorem scn {T e sz by' q : Nat} {x y z : Operand} {k k' : IntKind} {s : Sh} {m : Nat} {lo hi : Int} (ho : nth l i = some ⟨some d, .slice T x (some y) (some z) none, t, p, af, g⟩) (hg : Gd l ρ g c) (hT : slE P T = some (e, sz, by')) (hx : Ev ρ c x (s.val m)) (hy : Ev ρ c y (.int k lo)) (hz : Ev ρ c z (.int k' hi))
    (h0 : c = true → 0 ≤ lo) (h1 : c = true → lo ≤ hi) (h2 : c = true → hi ≤ s.cap) (hq : c = true → hi.toNat - lo.toNat = q) (h : Wo dr mc P n l K σ ((d, c, (s.cut lo.toNat sz).val q) :: ρ) G μ) : Wo dr mc P n l K (i :: σ) ρ G μ :=
  .pure ho (.inl rfl) hg (fun hc a w ha => by
    obtain ⟨hu, inf, hi', rfl, rfl⟩ := slE_some hT
    have hx' := hx.eval ha hc
    simp only [Sh.val] at hx'
    have := h0 hc; have := h1 hc; have := h2 hc
    rw [← hq hc]
    simp [execOp, hx', hy.eval ha hc, hz.eval ha hc, Instr.sliceAt, run_underlying hu, Instr.slice, Instr.sliceBounds, Instr.sliceBound, asIntOf, show 0 ≤ hi by omega, h0 hc, h2 hc, sizeOf, typeInfo, hi', Sh.val, Sh.cut]
    intro hlt; exfalso; omega) h

/-! ## Arrays as values, texts' bytes, greater and smaller -/
theorem ix {T m e : Nat} {x y : Operand} {k : IntKind} {cs : List Value} {j : Int} {v : Value} (ho : nth l i = some ⟨some d, .index T x y, t, p, af, g⟩) (hg : Gd l ρ g c) (hT : arE P T = some (m, e, 1)) (hE : aggN P e = some none) (hx : Ev ρ c x (.agg cs.toArray)) (hy : Ev ρ c y (.int k j))
    (h0 : c = true → 0 ≤ j) (h1 : c = true → j < m) (hv : c = true → cs[j.toNat]? = some v) (h : Wo dr mc P n l K σ ((d, c, v) :: ρ) G μ) : Wo dr mc P n l K (i :: σ) ρ G μ :=
  .pure ho (.inl rfl) hg (fun hc a w ha => by
    obtain ⟨hu, inf, hi, hs⟩ := arE_some hT
    simp [execOp, hx.eval ha hc, hy.eval ha hc, Instr.index, asIntOf, run_underlying hu, h0 hc, h1 hc, sizeOf, typeInfo, hi, hs, part, aggN_none hE, hv hc]) h
theorem mA {T T' : TypeId} {x y : Operand} {k : IntKind} {a1 a2 : Int} (ho : nth l i = some ⟨some d, .call { callee := .builtin .max, args := #[x, y], argTypes := #[T, T'] }, t, p, af, g⟩) (hg : Gd l ρ g c) (hx : Ev ρ c x (.int k a1)) (hy : Ev ρ c y (.int k a2))
    (h : Wo dr mc P n l K σ ((d, c, .int k (if a2 > a1 then a2 else a1)) :: ρ) G μ) : Wo dr mc P n l K (i :: σ) ρ G μ :=
  .read ho (.inl rfl) hg (fun hc a w ha _ => by
    simp [execOp, resolve, invoke, builtin, hx.eval ha hc, hy.eval ha hc, Builtin.max_, Builtin.max2]) h
theorem mI {T T' : TypeId} {x y : Operand} {k : IntKind} {a1 a2 : Int} (ho : nth l i = some ⟨some d, .call { callee := .builtin .min, args := #[x, y], argTypes := #[T, T'] }, t, p, af, g⟩) (hg : Gd l ρ g c) (hx : Ev ρ c x (.int k a1)) (hy : Ev ρ c y (.int k a2))
    (h : Wo dr mc P n l K σ ((d, c, .int k (if a2 < a1 then a2 else a1)) :: ρ) G μ) : Wo dr mc P n l K (i :: σ) ρ G μ :=
  .read ho (.inl rfl) hg (fun hc a w ha _ => by
    simp [execOp, resolve, invoke, builtin, hx.eval ha hc, hy.eval ha hc, Builtin.min_, Builtin.min2]) h
theorem ma {T T' : TypeId} {x y : Operand} {s1 s2 : ByteArray} (ho : nth l i = some ⟨some d, .call { callee := .builtin .max, args := #[x, y], argTypes := #[T, T'] }, t, p, af, g⟩) (hg : Gd l ρ g c) (hx : Ev ρ c x (.string s1)) (hy : Ev ρ c y (.string s2))
    (h : Wo dr mc P n l K σ ((d, c, .string (maxS s1 s2)) :: ρ) G μ) : Wo dr mc P n l K (i :: σ) ρ G μ :=
  .read ho (.inl rfl) hg (fun hc a w ha _ => by
    simp [execOp, resolve, invoke, builtin, hx.eval ha hc, hy.eval ha hc, Builtin.max_, Builtin.max2, Op.stringOp, asBool, maxS]
    cases Op.bytesLess s1.toList s2.toList <;> simp) h

/-! ## Calls of function values -/
theorem kf {f : FuncId} {fv : Operand} {xs : List Operand} {tys : Array TypeId} {vs vc : List Value} {v : Value} (ho : nth l i = some ⟨some d, .call { callee := .value fv, args := xs.toArray, argTypes := tys }, t, p, af, g⟩) (hg : Gd l ρ g c) (hfv : Ev ρ c fv (.func (.func f) #[] vc.toArray)) (hf : goFn P f = true)
    (hv : ∀ a, Ag n ρ a → c = true → xs.map a.eval = vs) (hk : c = true → Ct P f (vs ++ vc).toArray G [] fun _ μ' u => μ' = [] ∧ u = v) (h : Wo dr mc P n l K σ ((d, c, v) :: ρ) G μ) : Wo dr mc P n l K (i :: σ) ρ G μ :=
  .callv ho (by rcases mc with ⟨_ | _, _⟩ <;> simp [kindOf]) hg (fun hc a w ha => by
    have h1 := hv a ha hc
    simp [execOp, resolve, Deferred.ofValue, hfv.eval ha hc, invoke, run_callFunc hf]
    rw [← h1]) (fun hc _ hs => ⟨hs.sub, hk hc⟩) h

/-! ## Maps with integer keys -/
theorem Sat.mapOf {b : Nat} {q : IntKind} {m : Int → Option Value} {μ' : Mem} {w : World} (hs : Sat G μ w) (hm : MTake μ (.mp b q m) μ') : ∃ es clock, w.heap[b]? = some (.map es clock) ∧ mapOk q es.toList ∧ ∀ k, mapGet q es.toList k = m k :=
  hs.own (.mp b q m) (hm.perm.mem_iff.2 (List.mem_cons_self ..))
theorem findNow_int {q : IntKind} {k : Int} : ∀ (es : List MapEntry) (i : Nat), mapOk q es →
    ∃ r, Instr.findNow (.int q) (.int q k) es i = some r ∧ r.map (·.2) = mapGet q es k ∧ ∀ j v, r = some (j, v) → i ≤ j ∧ ∃ e, es[j - i]? = some e ∧ e.key = .int q k ∧ e.val = v
  | [], i, _ => ⟨none, rfl, rfl, fun _ _ h => by cases h⟩
  | e :: es, i, h => by
    obtain ⟨a, ha⟩ := h e (List.mem_cons_self ..)
    by_cases hk : a = k
    · subst hk
      refine ⟨some (i, e.val), by simp [Instr.findNow, Instr.sameNow, ha], by simp [mapGet, ha], fun j v hj => ?_⟩
      simp only [Option.some.injEq, Prod.mk.injEq] at hj
      obtain ⟨rfl, rfl⟩ := hj
      exact ⟨Nat.le_refl _, e, by simp, ha, rfl⟩
    · obtain ⟨r, h1, h2, h3⟩ := findNow_int (k := k) es (i + 1) (fun e he => h e (List.mem_cons_of_mem _ he))
      refine ⟨r, ?_, ?_, fun j v hj => ?_⟩
      · simp [Instr.findNow, Instr.sameNow, ha, show (k == a) = false by simp; exact fun e => hk e.symm, h1]
      · simp [mapGet, ha, hk, h2]
      · obtain ⟨h4, e', h5, h6⟩ := h3 j v hj
        refine ⟨by omega, e', ?_, h6⟩
        rw [show j - i = (j - (i + 1)) + 1 by omega]; simpa using h5
theorem checkKey_int {P : Program} {T : TypeId} {q : IntKind} (hT : P.underlying T = some (.int q)) (e : Bool) (n : Nat) (k : Int) (w : World) : (Instr.checkKey e (n + 1) T (.int q k)).run P w = .ok () w := by
  rw [Instr.checkKey]; simp [run_underlying hT]
def mpE (P : Program) (T : TypeId) : Option (IntKind × TypeId) :=
  match P.underlying T with
  | some (.map k e) => match P.underlying k with
    | some (.int q) => some (q, e)
    | _ => none
  | _ => none
theorem mpE_some {P : Program} {T e : TypeId} {q : IntKind} (h : mpE P T = some (q, e)) : ∃ k, P.underlying T = some (.map k e) ∧ P.underlying k = some (.int q) := by
  unfold mpE at h
  split at h
  · rename_i k e' hu
    split at h
    · rename_i q' hk
      simp only [Option.some.injEq, Prod.mk.injEq] at h
      obtain ⟨rfl, rfl⟩ := h
      exact ⟨k, hu, hk⟩
    · cases h
  · cases h
theorem mk {T : TypeId} (ho : nth l i = some ⟨some d, .makeMap T none, t, p, af, none⟩) (q : IntKind) (h : ∀ b, Wo dr mc P n l K σ ((d, true, .map (some b)) :: ρ) G (.mp b q (fun _ => none) :: μ)) : Wo dr mc P n l K (i :: σ) ρ G μ := by
  refine .act (μ₁ := []) (μ₂ := μ) (post := fun G' μ' v => ∃ b, G' = G ∧ μ' = [.mp b q (fun _ => none)] ∧ v = .map (some b)) ho (.inl rfl) .no (.refl _) (fun a w ha hs => .inl ?_) ?_
  · have h0 : Tr G (keys []) w G (.blk w.heap.size (.map #[] 0) :: []) (w.alloc (.map #[] 0)) := (Tr.begin (Sat.left (μ := []) hs)).alloc _
    refine ⟨.map (some w.heap.size), w.alloc (.map #[] 0), G, [.mp w.heap.size q (fun _ => none)], .inl (by simp [execOp, Instr.makeMap]), ?_, w.heap.size, rfl, rfl, rfl⟩
    refine { h0 with sat := ⟨h0.sat.sub, fun r hr => ?_, h0.sat.apart, h0.sat.nodup⟩, mine := h0.mine }
    rw [List.mem_singleton.1 hr]
    exact ⟨#[], 0, heap_alloc_new w _, fun e he => by simp at he, fun k => rfl⟩
  · rintro v G' μ'' _ ⟨b, rfl, rfl, rfl⟩
    exact h b
/-- 'm[k]' -/
theorem lk {T e : TypeId} {q : IntKind} {x y : Operand} {b : Nat} {m : Int → Option Value} {k : Int} {z : Value} {μ' : Mem} (ho : nth l i = some ⟨some d, .lookup T x y false, t, p, af, g⟩) (hg : Gd l ρ g c) (hT : mpE P T = some (q, e)) (hz : (P.info? e).bind (·.zero) = some z) (hx : Ev ρ c x (.map (some b))) (hy : Ev ρ c y (.int q k))
    (hm : MTake μ (.mp b q m) μ') {v : Value} (hv : (m k).getD z = v) (h : Wo dr mc P n l K σ ((d, c, v) :: ρ) G μ) : Wo dr mc P n l K (i :: σ) ρ G μ :=
  .read ho (.inl rfl) hg (fun hc a w ha hs => by
    obtain ⟨kt, h1, h2⟩ := mpE_some hT
    obtain ⟨es, clock, h3, h4, h5⟩ := hs.mapOf hm
    obtain ⟨r, h6, h7, _⟩ := findNow_int (k := k) es.toList 0 h4
    have hzv : (zeroValue e).run P w = .ok z w := by
      cases hi : P.info? e with
      | none => rw [hi] at hz; cases hz
      | some inf =>
        rw [hi] at hz
        simp only [Option.bind_some] at hz
        simp [zeroValue, typeInfo, hi, hz]
    have hgo : (getObj b).run P w = .ok (.map es clock) w := by simp [getObj, Sem.run, h3]
    simp only [execOp, hx.eval ha hc, hy.eval ha hc, Instr.lookup, Sem.run_bind, run_underlying h1, Result.andThen_ok, hgo, Sem.run_pure, checkKey_int h2, Instr.findKey, run_underlying h2, h6]
    cases r with
    | none =>
      have h8 : mapGet q es.toList k = none := by rw [← h7]; rfl
      simp [hzv, ← hv, ← h5 k, h8]
    | some jv =>
      obtain ⟨j, v⟩ := jv
      have h8 : mapGet q es.toList k = some v := by rw [← h7]; rfl
      simp [← hv, ← h5 k, h8]) h
theorem mapGet_push {q : IntKind} {k : Int} {v : Value} {born : Nat} : ∀ (es : List MapEntry), mapOk q es → mapGet q es k = none → ∀ k', mapGet q (es ++ [⟨.int q k, v, born⟩]) k' = if k' = k then some v else mapGet q es k'
  | [], _, _, k' => by
    simp only [List.nil_append, mapGet]
    by_cases h : k' = k
    · subst h; simp
    · simp [h, show ¬ k = k' from fun e => h e.symm]
  | e :: es, h, hn, k' => by
    obtain ⟨a, ha⟩ := h e (List.mem_cons_self ..)
    have h' : mapOk q es := fun e he => h e (List.mem_cons_of_mem _ he)
    simp only [mapGet, ha] at hn
    by_cases hk : a = k
    · simp [hk] at hn
    · simp only [hk, if_false] at hn
      simp only [List.cons_append, mapGet, ha, mapGet_push es h' hn k']
      by_cases h1 : a = k'
      · subst h1; simp [hk]
      · simp [h1]
theorem mapGet_modify {q : IntKind} {k : Int} {v v0 : Value} : ∀ (es : List MapEntry) (i j : Nat), mapOk q es → Instr.findNow (.int q) (.int q k) es i = some (some (j, v0)) →
    i ≤ j ∧ (∀ k', mapGet q (es.modify (j - i) fun e => { e with key := .int q k, val := v }) k' = if k' = k then some v else mapGet q es k') ∧ mapOk q (es.modify (j - i) fun e => { e with key := .int q k, val := v })
  | [], i, j, _, h => by simp [Instr.findNow] at h
  | e :: es, i, j, ho, h => by
    obtain ⟨a, ha⟩ := ho e (List.mem_cons_self ..)
    have h' : mapOk q es := fun e he => ho e (List.mem_cons_of_mem _ he)
    by_cases hk : a = k
    · subst hk
      simp only [Instr.findNow, Instr.sameNow, ha, if_true, beq_self_eq_true, Option.some.injEq, Prod.mk.injEq] at h
      obtain ⟨rfl, rfl⟩ := h
      refine ⟨Nat.le_refl _, fun k' => ?_, ?_⟩
      · simp only [Nat.sub_self, List.modify_zero_cons, mapGet, ha]
        by_cases h1 : k' = a
        · subst h1; simp
        · simp [h1, show ¬ a = k' from fun e => h1 e.symm]
      · simp only [Nat.sub_self, List.modify_zero_cons]
        intro e' he'
        rcases List.mem_cons.1 he' with rfl | he'
        · exact ⟨a, rfl⟩
        · exact h' e' he'
    · have hb : (k == a) = false := by simp; exact fun e => hk e.symm
      simp only [Instr.findNow, Instr.sameNow, ha, if_true, hb] at h
      obtain ⟨h1, h2, h3⟩ := mapGet_modify (v := v) es (i + 1) j h' h
      rw [show j - i = (j - (i + 1)) + 1 by omega]
      refine ⟨by omega, fun k' => ?_, ?_⟩
      · simp only [List.modify_succ_cons, mapGet, ha, h2 k']
        by_cases h4 : a = k'
        · subst h4; simp [hk]
        · simp [h4]
      · simp only [List.modify_succ_cons]
        intro e' he'
        rcases List.mem_cons.1 he' with rfl | he'
        · exact ⟨a, ha⟩
        · exact h3 e' he'
/-- 'm[k] = v' -/
theorem mu {T e : TypeId} {q : IntKind} {x y z : Operand} {b : Nat} {m : Int → Option Value} {k : Int} {v : Value} {μ' : Mem} (ho : nth l i = some ⟨none, .mapUpdate T x y z, t, p, af, none⟩) (hT : mpE P T = some (q, e)) (hx : Ev ρ true x (.map (some b))) (hy : Ev ρ true y (.int q k)) (hz : Ev ρ true z v)
    (hm : MTake μ (.mp b q m) μ') (h : Wo dr mc P n l K σ ρ G (.mp b q (fun j => if j = k then some v else m j) :: μ')) : Wo dr mc P n l K (i :: σ) ρ G μ := by
  refine .act (μ₁ := [.mp b q m]) (μ₂ := μ') (post := fun G' μ' u => G' = G ∧ μ' = [.mp b q (fun j => if j = k then some v else m j)] ∧ u = undef) ho (.inl rfl) .no hm.perm (fun a w ha hs => .inl ?_) ?_
  · have hs' := hs.left
    obtain ⟨es, clock, h3, h4, h5⟩ := hs'.own (.mp b q m) (List.mem_singleton.2 rfl)
    obtain ⟨kt, h1, h2⟩ := mpE_some hT
    obtain ⟨r, h6, h7, h8⟩ := findNow_int (k := k) es.toList 0 h4
    have hgo : (getObj b).run P w = .ok (.map es clock) w := by simp [getObj, Sem.run, h3]
    have hset : ∀ o, (setObj b o).run P w = .ok () { w with heap := w.heap.setIfInBounds b o } := fun o => by simp [setObj, Sem.run, h3]
    have hlt : b < w.heap.size := (Array.getElem?_eq_some_iff.1 h3).1
    have hG : G b = none := hs'.apart b (by simp [keys, Res.keys])
    have key : ∀ es' clock', mapOk q es'.toList → (∀ k', mapGet q es'.toList k' = if k' = k then some v else m k') →
        Tr G (keys [.mp b q m]) w G [.mp b q (fun j => if j = k then some v else m j)] { w with heap := w.heap.setIfInBounds b (.map es' clock') } := by
      intro es' clock' hok hget
      refine ⟨⟨fun c o hc => ?_, fun r hr => ?_, fun c hc => ?_, by simp [keys, Res.keys]⟩, rfl, rfl, rfl, by simp, fun c _ hc => ⟨?_, rfl⟩, fun c hc => .inl hc, fun _ _ _ h => h⟩
      · show (w.heap.setIfInBounds b _)[c]? = _
        rw [Array.getElem?_setIfInBounds_ne (fun e => by subst e; rw [hG] at hc; cases hc)]
        exact hs'.sub c o hc
      · rw [List.mem_singleton.1 hr]
        refine ⟨es', clock', ?_, hok, hget⟩
        show (w.heap.setIfInBounds b _)[b]? = _
        simp [hlt]
      · simp only [keys, Res.keys, List.flatMap_cons, List.flatMap_nil, List.append_nil, List.mem_singleton] at hc
        rw [hc]; exact hG
      · show (w.heap.setIfInBounds b _)[c]? = _
        rw [Array.getElem?_setIfInBounds_ne (fun e => by subst e; exact hc (by simp [keys, Res.keys]))]
    cases r with
    | none =>
      have h9 : mapGet q es.toList k = none := by rw [← h7]; rfl
      refine ⟨undef, _, G, _, .inr ⟨?_, rfl⟩, key (es.push ⟨.int q k, v, clock⟩) (clock + 1) ?_ ?_, rfl, rfl, rfl⟩
      · simp only [execOp, hx.eval ha rfl, hy.eval ha rfl, hz.eval ha rfl, Instr.mapUpdate, Sem.run_bind, run_underlying h1, Result.andThen_ok, hgo, Sem.run_pure, checkKey_int h2, Instr.findKey, run_underlying h2, h6, hset]
      · intro e' he'
        rw [Array.toList_push] at he'
        rcases List.mem_append.1 he' with he' | he'
        · exact h4 e' he'
        · rw [List.mem_singleton.1 he']; exact ⟨k, rfl⟩
      · intro k'
        rw [Array.toList_push, mapGet_push es.toList h4 h9 k', h5 k']
    | some jv =>
      obtain ⟨j, v0⟩ := jv
      obtain ⟨_, hg2, hok2⟩ := mapGet_modify (v := v) es.toList 0 j h4 h6
      obtain ⟨_, e', he1, he2, _⟩ := h8 j v0 rfl
      rw [Nat.sub_zero] at hg2 hok2 he1
      have he3 : es[j]? = some e' := by simpa using he1
      refine ⟨undef, _, G, _, .inr ⟨?_, rfl⟩, key (es.modify j fun e => { e with key := .int q k, val := v }) clock ?_ ?_, rfl, rfl, rfl⟩
      · have hsb : Instr.sameBits 10000 (.int q k) (.int q k) = true := by rw [Instr.sameBits]; simp
        simp only [execOp, hx.eval ha rfl, hy.eval ha rfl, hz.eval ha rfl, Instr.mapUpdate, Sem.run_bind, run_underlying h1, Result.andThen_ok, hgo, Sem.run_pure, checkKey_int h2, Instr.findKey, run_underlying h2, h6, hset, he3, Option.map_some, Option.getD_some, he2, Instr.keyThatStays, hsb, if_true]
      · simpa using hok2
      · intro k'
        have := hg2 k'
        rw [h5 k'] at this
        simpa using this
  · rintro u G' μ'' _ ⟨rfl, rfl, rfl⟩
    exact h

/-! ## Rows that grow: 'xs = append(xs, ..)' -/
theorem Tr.setArr {G : PM} {w : World} {b : Nat} {cs cs' : Array Value} {T : TypeId} (h : Sat G [.blk b (.cells cs T (0, 0))] w) : Tr G [b] w G [.blk b (.cells cs' T (0, 0))] (w.setRow b cs') := by
  have := Tr.setRow (cs' := cs'.toList) (h := (by simpa [cl] using h : Sat G [.blk b (cl cs.toList T)] w))
  simpa [cl] using this
theorem Tr.asRow {G0 G : PM} {K0 : List Nat} {w0 w : World} {μ : Mem} {b E sz m cap : Nat} {cur : Array Value} {xs : List Value} (h : Tr G0 K0 w0 G (.blk b (.cells cur E (0, 0)) :: μ) w) (hl : xs.length = m * sz) (hc : m ≤ cap) (hm : cap ≤ maxLen) (hs : cur.size = cap * sz) (ht : cur.toList.take (m * sz) = xs) :
    Tr G0 K0 w0 G (.row (.slice (some ⟨b, 0, none⟩) m cap) E sz m xs :: μ) w := by
  have hk : keys (.row (.slice (some ⟨b, 0, none⟩) m cap) E sz m xs :: μ) = keys (.blk b (.cells cur E (0, 0)) :: μ) := by simp [keys, Res.keys, Value.ownBlock]
  have hb : w.heap[b]? = some (.cells cur E (0, 0)) := h.sat.own _ (List.mem_cons_self ..)
  refine { h with sat := ⟨h.sat.sub, fun r hr => ?_, by rw [hk]; exact h.sat.apart, by rw [hk]; exact h.sat.nodup⟩, mine := by rw [hk]; exact h.mine }
  rcases List.mem_cons.1 hr with rfl | hr
  · exact ⟨hl, .inr ⟨b, cap, cur, rfl, Nat.zero_le _, hb, hc, hm, hs, ht⟩⟩
  · exact h.sat.own r (List.mem_cons_of_mem _ hr)
theorem Tr.nilRow {G0 G : PM} {K0 : List Nat} {w0 w : World} {μ : Mem} {E sz : Nat} (h : Tr G0 K0 w0 G μ w) : Tr G0 K0 w0 G (.row (.slice none 0 0) E sz 0 [] :: μ) w := by
  have hk : keys (.row (.slice none 0 0) E sz 0 [] :: μ) = keys μ := by simp [keys, Res.keys, Value.ownBlock]
  refine { h with sat := ⟨h.sat.sub, fun r hr => ?_, by rw [hk]; exact h.sat.apart, by rw [hk]; exact h.sat.nodup⟩, mine := by rw [hk]; exact h.mine }
  rcases List.mem_cons.1 hr with rfl | hr
  · exact World.ownsRow_nil w 0 E sz
  · exact h.sat.own r hr
theorem wk_nilRow {X : Cx} {cd : Code} {k : List KI} (E sz : Nat) (h : Wk X cd k ρ G (.row (.slice none 0 0) E sz 0 [] :: μ)) : Wk X cd k ρ G μ := ⟨fun a w ha ht => h.out a w ha ht.nilRow⟩
theorem we_nilRow {X : Cx} {e : Exit} {k : List KI} (E sz : Nat) (h : We X e k ρ G (.row (.slice none 0 0) E sz 0 [] :: μ)) : We X e k ρ G μ := ⟨fun a w ha ht => h.out a w ha ht.nilRow⟩

/-- What an append leaves. -/
theorem run_ap {T E ty by' sz : Nat} {v : Value} {m k cp : Nat} {xs news : List Value} {oa : Option Addr} {z : Value} {w : World} (hT : slE P T = some (E, sz, by')) (hz : (P.info? E).bind (·.zero) = some z) (hzs : z.cells.size = sz)
    (hs : Sat G [.row v E sz m xs] w) (hl : news.length = k * sz) (hr : 0 < k → ∃ b o, oa = some ⟨b, o, none⟩ ∧ ∀ j u, news[j]? = some u → w.cell? ⟨b, o + j, none⟩ = some u) (h1 : ∀ u ∈ news, u.oneCell' = true) (hb : (m + k) * by' ≤ 140737488355328) (h63 : m + k ≤ maxLen) :
    ∃ v' w', (Builtin.append_ #[T, T] ty #[v, .slice oa k cp]).run P w = .ok v' w' ∧ Tr G (keys [.row v E sz m xs]) w G [.row v' E sz (m + k) (xs ++ news)] w' := by
  obtain ⟨hu, inf, hi, rfl, rfl⟩ := slE_some hT
  rw [hi] at hz
  simp only [Option.bind_some] at hz
  have hown : w.ownsRow 0 E inf.size v m xs := hs.own _ (List.mem_singleton.2 rfl)
  have hbegin := Tr.begin hs
  have hsmall : m + k ≤ 9223372036854775807 := by simp only [maxLen] at h63; omega
  by_cases hk : k = 0
  · -- nothing is appended
    subst hk
    have hn : news = [] := List.eq_nil_of_length_eq_zero (by simpa using hl)
    subst hn
    refine ⟨v, w, ?_, by simpa using hbegin⟩
    rcases hown.2 with ⟨rfl, rfl⟩ | ⟨g, cap, cur, rfl, _, hg, hnc, _, _, _⟩
    · cases oa <;> simp [Builtin.append_, run_underlying hu, sizeOf, typeInfo, hi, Builtin.lenOf, Builtin.firstCells, loadCells, loadCellsFrom]
    · cases oa <;> simp [Builtin.append_, run_underlying hu, sizeOf, typeInfo, hi, Builtin.lenOf, Builtin.firstCells, loadCells, loadCellsFrom, hnc, storeCells]
  · obtain ⟨b, o, rfl, hcell⟩ := hr (by omega)
    have hnews : ∀ j u, news[j]? = some u → w.cell? ((⟨b, o, none⟩ : Addr).add j) = some u := fun j u hj => by rw [add_lit]; exact hcell j u hj
    have hlen : (xs ++ news).length = (m + k) * inf.size := by rw [List.length_append, hown.1, hl, Nat.add_mul]
    have fresh : ∀ (old : Nat), Tr G (keys [.row v E inf.size m xs]) w G [.row (.slice (some ⟨w.heap.size, 0, none⟩) (m + k) (grownCap w (m + k) old E)) E inf.size (m + k) (xs ++ news)]
        (w.drew.alloc (.cells (xs.toArray ++ news.toArray ++ Builtin.zeroCells z.cells (grownCap w (m + k) old E - (m + k))) E)) := by
      intro old
      have h2 := (hbegin.drew).alloc (.cells (xs.toArray ++ news.toArray ++ Builtin.zeroCells z.cells (grownCap w (m + k) old E - (m + k))) E)
      have h3 : Tr G (keys [.row v E inf.size m xs]) w G [.blk w.heap.size (.cells (xs.toArray ++ news.toArray ++ Builtin.zeroCells z.cells (grownCap w (m + k) old E - (m + k))) E)] _ := Tr.left (ν := [.row v E inf.size m xs]) h2
      have hge := grownCap_ge w (m + k) old E
      refine h3.asRow hlen hge (grownCap_le_maxLen w (m + k) old E h63) ?_ ?_
      · simp only [Array.size_append, List.size_toArray, size_zeroCells, hzs, hown.1, hl, ← Nat.add_mul]
        congr 1
        omega
      · simp only [Array.toList_append, List.append_assoc]
        rw [← List.append_assoc, ← hlen]
        exact List.take_left
    rcases hown.2 with ⟨rfl, rfl⟩ | ⟨g, cap, cur, rfl, _, hg, hnc, hcm, hcs, htake⟩
    · have hx : xs = [] := List.eq_nil_of_length_eq_zero (by simpa using hown.1)
      subst hx
      have hrun := run_append_nil (P := P) w T ty E inf z hu hi hz ⟨b, o, none⟩ k cp news hl hnews (by omega) (by omega) (by have hb' := hb; simp only [Nat.zero_add] at hb'; omega)
      have hf := fresh 0
      simp only [Nat.zero_add, List.nil_append, Array.empty_append] at hf ⊢
      exact ⟨_, _, hrun, hf⟩
    · by_cases hroom : m + k ≤ cap
      · have hfit : m * inf.size + news.length ≤ cur.size := by rw [hl, hcs, ← Nat.add_mul]; exact Nat.mul_le_mul_right _ hroom
        have hrun := run_append_room (P := P) w T ty E inf hu hi g m cap cur hg ⟨b, o, none⟩ k cp news hl hnews h1 hroom hfit
        have hsat : Sat G [.blk g (.cells cur E (0, 0))] w := ⟨hs.sub, fun r hr => by rw [List.mem_singleton.1 hr]; exact hg, fun c hc => hs.apart c (by simpa [keys, Res.keys, Value.ownBlock] using hc), by simp [keys, Res.keys]⟩
        refine ⟨_, _, hrun, ?_⟩
        have h2 := Tr.setArr (cs' := (cur.toList.take (m * inf.size) ++ news ++ cur.toList.drop (m * inf.size + news.length)).toArray) hsat
        have h3 := h2.asRow (m := m + k) (cap := cap) (sz := inf.size) (xs := xs ++ news) hlen hroom hcm ?_ ?_
        · simpa [keys, Res.keys, Value.ownBlock] using h3
        · simp only [List.size_toArray, List.length_append, List.length_take, List.length_drop, Array.length_toList]
          omega
        · rw [htake, ← hlen]
          exact List.take_left
      · have holds : ∀ j u, xs[j]? = some u → w.cell? ((⟨g, 0, none⟩ : Addr).add j) = some u := hown.cells (g := g) rfl
        have hrun := run_append_grow (P := P) w T ty E inf z hu hi hz ⟨g, 0, none⟩ m cap xs hown.1 holds ⟨b, o, none⟩ k cp news hl hnews (by omega) (by omega) (growslice_fits (by omega) hb)
        exact ⟨_, _, hrun, fresh cap⟩

/-- 'append(xs, ys...)' onto a row of one's own -/
theorem ap {T E sz by' : Nat} {x y : Operand} {v z : Value} {m k cp : Nat} {xs news : List Value} {oa : Option Addr} {μ' : Mem} (ho : nth l i = some ⟨some d, .call { callee := .builtin .append, args := #[x, y], argTypes := #[T, T] }, t, p, af, none⟩)
    (hT : slE P T = some (E, sz, by')) (hz : (P.info? E).bind (·.zero) = some z) (hzs : z.cells.size = sz) (hx : Ev ρ true x v) (hy : Ev ρ true y (.slice oa k cp)) (hm : MTake μ (.row v E sz m xs) μ') (hl : news.length = k * sz)
    (hr : 0 < k → ∃ b o, oa = some ⟨b, o, none⟩ ∧ RdN G μ b o news) (h1 : ∀ u ∈ news, u.oneCell' = true) (hb : (m + k) * by' ≤ 140737488355328) (h63 : m + k ≤ maxLen)
    (h : ∀ v', Wo dr mc P n l K σ ((d, true, v') :: ρ) G (.row v' E sz (m + k) (xs ++ news) :: μ')) (hmc : mc.a = false ∨ dr = false := by first | exact .inl rfl | exact .inr rfl) : Wo dr mc P n l K (i :: σ) ρ G μ := by
  refine .act (μ₁ := [.row v E sz m xs]) (μ₂ := μ') (post := fun G' μ' v' => G' = G ∧ μ' = [.row v' E sz (m + k) (xs ++ news)]) ho (by rcases hmc with h | h <;> simp [kindOf, h]) .no hm.perm (fun a w ha hs => .inl ?_) ?_
  · obtain ⟨v', w', hrun, ht⟩ := run_ap (ty := t) (cp := cp) hT hz hzs hs.left hl (fun hk => by
      obtain ⟨b, o, h1, h2⟩ := hr hk
      exact ⟨b, o, h1, fun j u hj => h2 j u hj w (hs.perm hm.perm.symm)⟩) h1 hb h63
    exact ⟨v', w', G, _, .inl (by simp [execOp, resolve, invoke, builtin, hx.eval ha rfl, hy.eval ha rfl, hrun]), ht, rfl, rfl⟩
  · rintro v' G' μ'' _ ⟨rfl, rfl⟩
    exact h v'

/-! ## '[]T{..}' -/
def builtSl (P : Program) (T len : Nat) (parts : List (Nat × Value)) : Option (List Value) :=
  match P.underlying T with
  | some (.slice e) => match P.info? e with
    | some i => match i.zero with
      | some z => if len * i.size > 2 ^ 24 ∨ len * i.size = 0 then none else
        (Instr.fill (fun j => some (j * i.size, i.size)) ((Array.range (len * i.size)).map (z.cells[· % z.cells.size]!)) parts).map (·.toList)
      | none => none
    | none => none
  | _ => none
theorem bS {T E sz by' len : Nat} {ps : List (Nat × Operand)} {vs : List (Nat × Value)} {cs : List Value} (ho : nth l i = some ⟨some d, .buildSlice T len ps.toArray, t, p, af, none⟩) (hT : slE P T = some (E, sz, by')) (hv : ∀ a, Ag n ρ a → true = true → ps.map (fun q => (q.1, a.eval q.2)) = vs) (hb : builtSl P T len vs = some cs)
    (h : ∀ b, Wo dr mc P n l K σ ((d, true, .slice (some ⟨b, 0, none⟩) len len) :: ρ) G (.blk b (cl cs E) :: μ)) : Wo dr mc P n l K (i :: σ) ρ G μ :=
  .box (ob := cl cs E) (mkv := fun b => .slice (some ⟨b, 0, none⟩) len len) ho (.inl rfl) rfl (fun a w ha => by
    obtain ⟨hu, inf, hi, hs1, _⟩ := slE_some hT
    have h1 := hv a ha rfl
    simp only [builtSl, hu, hi] at hb
    cases hz : inf.zero with
    | none => rw [hz] at hb; cases hb
    | some z =>
      rw [hz] at hb
      simp only at hb
      split at hb
      · cases hb
      · rename_i hle
        simp only [not_or] at hle
        obtain ⟨hle, h0⟩ := hle
        cases hf : Instr.fill (fun j => some (j * inf.size, inf.size)) ((Array.range (len * inf.size)).map (z.cells[· % z.cells.size]!)) vs with
        | none => rw [hf] at hb; cases hb
        | some r =>
          rw [hf] at hb
          simp only [Option.map_some, Option.some.injEq] at hb
          subst hb
          simp [execOp, Instr.buildSlice, run_underlying hu, sizeOf, typeInfo, hi, h0, hle, zeroValue, hz, hf, h1, newRow, cl]) h

theorem cells_one {v : Value} (h : v.oneCell' = true) : v.cells = #[v] := by cases v <;> first | rfl | cases h
theorem set_cells : ∀ (ws : List Value) (cs : List Value) (o : Nat), o + ws.length ≤ cs.length →
    ((ws.zipIdx 0).foldl (fun (a : Array Value) (x : Value × Nat) => a.setIfInBounds (o + x.2) x.1) cs.toArray) = (cs.take o ++ ws ++ cs.drop (o + ws.length)).toArray := by
  have key : ∀ (ws : List Value) (cs : List Value) (o j : Nat), o + j + ws.length ≤ cs.length →
      ((ws.zipIdx j).foldl (fun (a : Array Value) (x : Value × Nat) => a.setIfInBounds (o + x.2) x.1) cs.toArray) = (cs.take (o + j) ++ ws ++ cs.drop (o + j + ws.length)).toArray := by
    intro ws
    induction ws with
    | nil => intro cs o j h; simp
    | cons w ws ih =>
      intro cs o j h
      simp only [List.length_cons] at h
      simp only [List.zipIdx_cons, List.foldl_cons]
      have e : cs.toArray.setIfInBounds (o + j) w = (cs.set (o + j) w).toArray := by simp
      rw [e, ih (cs.set (o + j) w) o (j + 1) (by simp; omega)]
      congr 1
      rw [show o + (j + 1) = o + j + 1 by omega, List.length_cons, show o + j + (ws.length + 1) = o + j + 1 + ws.length by omega]
      rw [List.set_eq_take_append_cons_drop, if_pos (by omega)]
      have hl : (cs.take (o + j)).length = o + j := by rw [List.length_take]; omega
      have h1 : (cs.take (o + j) ++ w :: cs.drop (o + j + 1)).take (o + j + 1) = cs.take (o + j) ++ [w] := by
        rw [List.take_append, hl, show o + j + 1 - (o + j) = 1 by omega, List.take_of_length_le (by omega)]; rfl
      have h2 : (cs.take (o + j) ++ w :: cs.drop (o + j + 1)).drop (o + j + 1 + ws.length) = cs.drop (o + j + 1 + ws.length) := by
        rw [List.drop_append, hl, List.drop_of_length_le (by omega), show o + j + 1 + ws.length - (o + j) = ws.length + 1 by omega]
        simp [Nat.add_comm, Nat.add_left_comm]
      rw [h1, h2]; simp
  intro ws cs o h
  have := key ws cs o 0 (by simpa using h)
  simpa using this
theorem fill_step {place : Nat → Option (Nat × Nat)} {cs : List Value} {j off size : Nat} {v : Value} {ws : List Value} {rest : List (Nat × Value)} (hp : place j = some (off, size)) (hv : v.cells = ws.toArray) (hl : ws.length = size) (hf : off + size ≤ cs.length) :
    Instr.fill place cs.toArray ((j, v) :: rest) = Instr.fill place (cs.take off ++ ws ++ cs.drop (off + ws.length)).toArray rest := by
  rw [Instr.fill]
  simp only [hp, hv]
  rw [if_neg (by simp [hl]; omega)]
  congr 1
  have := set_cells ws cs off (by omega)
  rw [← this, ← Array.foldl_toList, Array.toList_zipIdx]
/-- '[]T{x}' -/
theorem b1 {T E sz by' : Nat} {x : Operand} {v z : Value} {cs : List Value} (ho : nth l i = some ⟨some d, .buildSlice T 1 #[(0, x)], t, p, af, none⟩) (hT : slE P T = some (E, sz, by')) (hz : (P.info? E).bind (·.zero) = some z) (hx : Ev ρ true x v) (hv : v.cells = cs.toArray) (hl : cs.length = sz) (h0 : 0 < sz ∧ sz ≤ 16777216)
    (h : ∀ b, Wo dr mc P n l K σ ((d, true, .slice (some ⟨b, 0, none⟩) 1 1) :: ρ) G (.blk b (cl cs E) :: μ)) : Wo dr mc P n l K (i :: σ) ρ G μ := by
  refine bS (vs := [(0, v)]) (cs := cs) ho hT (fun a ha hc => by simp [hx.eval ha hc]) ?_ h
  obtain ⟨hu, inf, hi, rfl, _⟩ := slE_some hT
  rw [hi] at hz
  simp only [Option.bind_some] at hz
  simp only [builtSl, hu, hi, hz]
  rw [if_neg (by omega)]
  generalize ha : (Array.range (1 * inf.size)).map (z.cells[· % z.cells.size]!) = arr
  have hs : arr.toList.length = inf.size := by rw [← ha]; simp
  have h2 := fill_step (place := fun j => some (j * inf.size, inf.size)) (cs := arr.toList) (j := 0) (off := 0) (size := inf.size) (rest := []) (by simp) hv hl (by omega)
  simp only [Array.toArray_toList] at h2
  rw [h2]
  have h3 : arr.toList.drop (0 + cs.length) = [] := List.drop_of_length_le (by omega)
  rw [h3]
  simp [Instr.fill]
def parts : Nat → List Value → List (Nat × Value)
  | _, [] => []
  | k, u :: us => (k, u) :: parts (k + 1) us
theorem Evp.nil {ρ : Env} {n k : Nat} {c : Bool} : ∀ a, Ag n ρ a → c = true → ([] : List (Nat × Operand)).map (fun q => (q.1, a.eval q.2)) = parts k [] := fun _ _ _ => rfl
theorem Evp.cons {ρ : Env} {n k : Nat} {c : Bool} {x : Operand} {v : Value} {ps : List (Nat × Operand)} {us : List Value} (hx : Ev ρ c x v) (h : ∀ a, Ag n ρ a → c = true → ps.map (fun q => (q.1, a.eval q.2)) = parts (k + 1) us) :
    ∀ a, Ag n ρ a → c = true → ((k, x) :: ps).map (fun q => (q.1, a.eval q.2)) = parts k (v :: us) := fun a ha hc => by simp only [List.map_cons, hx.eval ha hc, h a ha hc, parts]
theorem fill_parts : ∀ (us : List Value) (k : Nat) (cs : List Value), (∀ u ∈ us, u.oneCell' = true) → k + us.length ≤ cs.length →
    Instr.fill (fun j => some (j * 1, 1)) cs.toArray (parts k us) = some (cs.take k ++ us ++ cs.drop (k + us.length)).toArray
  | [], k, cs, _, _ => by simp [parts, Instr.fill]
  | u :: us, k, cs, h1, hl => by
    simp only [List.length_cons] at hl
    rw [parts, fill_step (off := k) (size := 1) (ws := [u]) (by simp) (cells_one (h1 u (List.mem_cons_self ..))) rfl (by omega)]
    rw [fill_parts us (k + 1) _ (fun u' hu => h1 u' (List.mem_cons_of_mem _ hu)) (by simp; omega)]
    congr 2
    have hk : (cs.take k).length = k := by rw [List.length_take]; omega
    have hA : (cs.take k ++ [u]).length = k + 1 := by simp [hk]
    have h2 : (cs.take k ++ [u] ++ cs.drop (k + [u].length)).take (k + 1) = cs.take k ++ [u] := by rw [← hA]; exact List.take_left
    have h3 : (cs.take k ++ [u] ++ cs.drop (k + [u].length)).drop (k + 1 + us.length) = cs.drop (k + (us.length + 1)) := by
      rw [← List.drop_drop, ← hA, List.drop_left, List.drop_drop]
      congr 1
      simp; omega
    rw [h2, h3]; simp
/-- '[]T{x, y, ..}', elements of one cell -/
theorem bN {T E by' len : Nat} {ps : List (Nat × Operand)} {us : List Value} {z : Value} (ho : nth l i = some ⟨some d, .buildSlice T len ps.toArray, t, p, af, none⟩) (hT : slE P T = some (E, 1, by')) (hz : (P.info? E).bind (·.zero) = some z) (hv : ∀ a, Ag n ρ a → true = true → ps.map (fun q => (q.1, a.eval q.2)) = parts 0 us) (hl : us.length = len) (h0 : 0 < len ∧ len ≤ 16777216) (h1 : ∀ u ∈ us, u.oneCell' = true)
    (h : ∀ b, Wo dr mc P n l K σ ((d, true, .slice (some ⟨b, 0, none⟩) len len) :: ρ) G (.blk b (cl us E) :: μ)) : Wo dr mc P n l K (i :: σ) ρ G μ := by
  refine bS (vs := parts 0 us) (cs := us) ho hT hv ?_ h
  obtain ⟨hu, inf, hi, hs1, _⟩ := slE_some hT
  rw [hi] at hz
  simp only [Option.bind_some] at hz
  simp only [builtSl, hu, hi, hz, hs1]
  rw [if_neg (by omega)]
  generalize ha : (Array.range (len * 1)).map (z.cells[· % z.cells.size]!) = arr
  have hs : arr.toList.length = len := by rw [← ha]; simp
  have h2 := fill_parts us 0 arr.toList h1 (by omega)
  simp only [Array.toArray_toList] at h2
  rw [h2]
  have h3 : arr.toList.drop (0 + us.length) = [] := List.drop_of_length_le (by omega)
  rw [h3]
  simp

/-! ## 'T{..}' -/
def bPl (P : Program) (T : TypeId) (js : List Nat) : Option (List Value × List (Nat × Nat)) :=
  match P.info? T, P.underlying T with
  | some it, some (.array _ e) => match it.zero, P.info? e with
    | some z, some ie => some (z.cells.toList, js.map fun j => (j * ie.size, ie.size))
    | _, _ => none
  | some it, some (.struct fields) => match it.zero, fields.toList.mapM (fun f => (P.info? f.type).map fun i => (f.offset, i.size)) with
    | some z, some places => (js.mapM fun j => places[j]?).map fun pls => (z.cells.toList, pls)
    | _, _ => none
  | _, _ => none
def bFold : List Value → List (Nat × Nat) → List (List Value) → List Value
  | zs, (o, _) :: pl, w :: ws => bFold (put zs o w) pl ws
  | zs, _, _ => zs
def bOk (n : Nat) : List (Nat × Nat) → List (List Value) → Bool
  | (o, s) :: pl, w :: ws => Nat.beq w.length s && Nat.ble (o + s) n && bOk n pl ws
  | [], [] => true
  | _, _ => false
inductive EvC (n : Nat) (ρ : Env) (c : Bool) : List (Nat × Operand) → List Value → List (List Value) → Prop where
  | nil : EvC n ρ c [] [] []
  | cons {j x v w ps vs ws} (hx : Ev ρ c x v) (hw : v.cells = w.toArray) (h : EvC n ρ c ps vs ws) : EvC n ρ c ((j, x) :: ps) (v :: vs) (w :: ws)
theorem put_len {cs ws : List Value} {o : Nat} (h : o + ws.length ≤ cs.length) : (put cs o ws).length = cs.length := by simp [put]; omega
theorem fill_bFold {place : Nat → Option (Nat × Nat)} {n : Nat} {ρ : Env} {c : Bool} : ∀ {ps : List (Nat × Operand)} {vs : List Value} {ws : List (List Value)}, EvC n ρ c ps vs ws → ∀ (zs : List Value) (pls : List (Nat × Nat)), (ps.map (·.1)).mapM place = some pls → bOk zs.length pls ws = true →
    ∀ a, Ag n ρ a → c = true → Instr.fill place zs.toArray (ps.map fun q => (q.1, a.eval q.2)) = some (bFold zs pls ws).toArray := by
  intro ps vs ws h
  induction h with
  | nil => intro zs pls hp hb a ha hc; simp at hp; subst hp; simp [Instr.fill, bFold]
  | @cons j x v w ps vs ws hx hw _ ih =>
    intro zs pls hp hb a ha hc
    simp only [List.map_cons, List.mapM_cons, Option.bind_eq_bind, Option.pure_def] at hp
    cases hj : place j with
    | none => rw [hj] at hp; simp at hp
    | some os =>
      obtain ⟨o, s⟩ := os
      rw [hj] at hp
      simp only [Option.bind_some] at hp
      cases hr : (ps.map (·.1)).mapM place with
      | none => rw [hr] at hp; simp at hp
      | some pl =>
        rw [hr] at hp
        simp only [Option.bind_some, Option.some.injEq] at hp
        subst hp
        simp only [bOk, Bool.and_eq_true] at hb
        have h1 := Nat.eq_of_beq_eq_true hb.1.1
        have h2 := Nat.le_of_ble_eq_true hb.1.2
        simp only [List.map_cons, hx.eval ha hc]
        rw [fill_step hj hw h1 h2]
        have := ih (put zs o w) pl hr (by rw [put_len (by omega)]; exact hb.2) a ha hc
        simpa [put, bFold] using this
theorem bC {T : TypeId} {ps : List (Nat × Operand)} {vs : List Value} {ws : List (List Value)} {zs : List Value} {pls : List (Nat × Nat)} (ho : nth l i = some ⟨some d, .build T ps.toArray, t, p, af, g⟩) (hg : Gd l ρ g c) (hF : bPl P T (ps.map (·.1)) = some (zs, pls)) (hv : EvC n ρ c ps vs ws) (hb : bOk zs.length pls ws = true)
    (h : Wo dr mc P n l K σ ((d, c, .agg (bFold zs pls ws).toArray) :: ρ) G μ) : Wo dr mc P n l K (i :: σ) ρ G μ :=
  .pure ho (.inl rfl) hg (fun hc a w ha => by
    have hbuilt : P.built T (ps.map fun q => (q.1, a.eval q.2)) = some (bFold zs pls ws).toArray := by
      unfold bPl at hF
      split at hF
      · rename_i it m e h1 h2
        split at hF
        · rename_i z ie h3 h4
          simp only [Option.some.injEq, Prod.mk.injEq] at hF
          obtain ⟨rfl, rfl⟩ := hF
          simp only [Program.built, h1, h2, h3, h4]
          have := fill_bFold hv z.cells.toList ((ps.map (·.1)).map fun j => (j * ie.size, ie.size)) (place := fun j => some (j * ie.size, ie.size)) (by
            clear hb h
            generalize ps.map (·.1) = js
            induction js with
            | nil => rfl
            | cons j js ih => simp [List.mapM_cons, ih]) hb a ha hc
          simpa using this
        · cases hF
      · rename_i it fields h1 h2
        split at hF
        · rename_i z places h3 h4
          cases h5 : ((ps.map (·.1)).mapM fun j => places[j]?) with
          | none => rw [h5] at hF; cases hF
          | some pl =>
            rw [h5] at hF
            simp only [Option.map_some, Option.some.injEq, Prod.mk.injEq] at hF
            obtain ⟨rfl, rfl⟩ := hF
            simp only [Program.built, h1, h2, h3, h4]
            have := fill_bFold hv z.cells.toList pl (place := fun j => places.toArray[j]?) (by simpa using h5) hb a ha hc
            simpa using this
        · cases hF
      · cases hF
    have h2 := run_build (P := P) w T (ps.toArray.map fun q => (q.1, a.eval q.2)) _ (by simpa using hbuilt)
    simp only [execOp, Sem.run_bind]
    rw [h2]; simp) h
/-- A block of one's own becomes memory that stays. -/
theorem we_fz {X : Cx} {e : Exit} {k : List KI} {b : Nat} {o : Obj} {μ' : Mem} (hm : MTake μ (.blk b o) μ') (hK : ∀ b ∈ X.K0, b ∈ keys μ') (h : ∀ G', PM.le G G' → G' b = some o → We X e k ρ G' μ') : We X e k ρ G μ :=
  ⟨fun a w ha ht => by
    have ht' := ht.perm hm.perm
    have hk : keys (.blk b o :: μ') = b :: keys μ' := by simp [keys, Res.keys]
    have hnd := ht'.sat.nodup
    rw [hk] at hnd
    have hG : G b = none := ht'.sat.apart b (by rw [hk]; exact List.mem_cons_self ..)
    exact (h _ (PM.le_add hG) (PM.add_same G b o)).out a w ha (ht'.freeze fun hb => (List.nodup_cons.1 hnd).1 (hK b hb))⟩
/-! ## A row of one's own becomes memory that stays -/
theorem Tr.freezeRow {G0 : PM} {K0 : List Nat} {w0 w : World} {E sz m : Nat} {v : Value} {xs : List Value} (h : Tr G0 K0 w0 G (.row v E sz m xs :: μ) w) (hK : ∀ b ∈ K0, b ∈ keys μ) :
    ∃ G' s, PM.le G G' ∧ v = Sh.val s m ∧ m ≤ s.cap ∧ (m ≠ 0 → s.oa = some ⟨s.b, s.o, none⟩) ∧ RdNP G' s.b s.o xs ∧ Tr G0 K0 w0 G' μ w := by
  have hrow : w.ownsRow 0 E sz v m xs := h.sat.own _ (List.mem_cons_self ..)
  have hnd := h.sat.nodup
  rcases hrow.2 with ⟨rfl, rfl⟩ | ⟨g, cap, cur, rfl, _, hg, hnc, hcm, hcs, htake⟩
  · have hx : xs = [] := List.eq_nil_of_length_eq_zero (by simpa using hrow.1)
    subst hx
    exact ⟨G, ⟨none, 0⟩, PM.le.refl G, rfl, Nat.le_refl _, fun h => absurd rfl h, fun j v hj => by simp at hj, Tr.left (ν := [.row (.slice none 0 0) E sz 0 []]) (h.perm (List.perm_append_comm (l₁ := [Res.row (.slice none 0 0) E sz 0 []])))⟩
  · have hk : keys (.row (.slice (some ⟨g, 0, none⟩) m cap) E sz m xs :: μ) = g :: keys μ := by simp [keys, Res.keys, Value.ownBlock]
    have hk' : keys (.blk g (.cells cur E (0, 0)) :: μ) = g :: keys μ := by simp [keys, Res.keys]
    rw [hk] at hnd
    have hb : Tr G0 K0 w0 G (.blk g (.cells cur E (0, 0)) :: μ) w := by
      refine { h with sat := ⟨h.sat.sub, fun r hr => ?_, by rw [hk', ← hk]; exact h.sat.apart, by rw [hk']; exact hnd⟩, mine := by rw [hk', ← hk]; exact h.mine }
      rcases List.mem_cons.1 hr with rfl | hr
      · exact hg
      · exact h.sat.own r (List.mem_cons_of_mem _ hr)
    have hGg : G g = none := h.sat.apart g (by rw [hk]; exact List.mem_cons_self ..)
    have hgK : g ∉ K0 := fun hm => (List.nodup_cons.1 hnd).1 (hK g hm)
    refine ⟨G.add g (.cells cur E (0, 0)), ⟨some ⟨g, 0, none⟩, cap⟩, PM.le_add hGg, rfl, hnc, fun _ => rfl, fun j u hj => ?_, hb.freeze hgK⟩
    intro w' hs'
    have h1 := hs' g _ (PM.add_same G g _)
    show w'.cell? ⟨g, 0 + j, none⟩ = some u
    rw [Nat.zero_add, cell_of_row w' g j cur E (0, 0) h1]
    rw [← htake, List.getElem?_take] at hj
    split at hj
    · simpa using hj
    · cases hj
theorem we_fr {X : Cx} {e : Exit} {k : List KI} {E sz m : Nat} {v : Value} {xs : List Value} {μ' : Mem} (hm : MTake μ (.row v E sz m xs) μ') (hK : ∀ b ∈ X.K0, b ∈ keys μ')
    (h : ∀ G' s, PM.le G G' → v = Sh.val s m → m ≤ s.cap → (m ≠ 0 → s.oa = some ⟨s.b, s.o, none⟩) → RdNP G' s.b s.o xs → We X e k ρ G' μ') : We X e k ρ G μ :=
  ⟨fun a w ha ht => by
    obtain ⟨G', s, h1, h2, h3, h4, h5, h6⟩ := (ht.perm hm.perm).freezeRow hK
    exact (h G' s h1 h2 h3 h4 h5).out a w ha h6⟩
theorem SlR.flat {α : Type} {G : PM} {sz : Nat} {enc : α → List Value} {s : Sh} {xs : List α} (hsz : ∀ x ∈ xs, (enc x).length = sz) (h : SlR G sz enc s xs) : RdNP G s.b s.o (xs.flatMap enc) := by
  have key : ∀ (ys : List α) (o : Nat), (∀ x ∈ ys, (enc x).length = sz) → (∀ i x, ys[i]? = some x → RdNP G s.b (o + i * sz) (enc x)) → RdNP G s.b o (ys.flatMap enc) := by
    intro ys
    induction ys with
    | nil => intro o _ _ j v hj; simp at hj
    | cons y ys ih =>
      intro o hl hr j v hj
      have hy := hl y (List.mem_cons_self ..)
      simp only [List.flatMap_cons] at hj
      by_cases hlt : j < sz
      · rw [List.getElem?_append_left (by omega)] at hj
        have := hr 0 y (by simp) j v hj
        simpa using this
      · rw [List.getElem?_append_right (by omega), hy] at hj
        have := ih (o + sz) (fun x hx => hl x (List.mem_cons_of_mem _ hx)) (fun i x hx => by
          have := hr (i + 1) x (by simpa using hx)
          rwa [Nat.add_mul, Nat.one_mul, show o + (i * sz + sz) = o + sz + i * sz by omega] at this) (j - sz) v hj
        rwa [show o + sz + (j - sz) = o + j by omega] at this
  exact key xs s.o hsz h.rd
theorem flat_len {α : Type} {sz : Nat} {enc : α → List Value} : ∀ {xs : List α}, (∀ x ∈ xs, (enc x).length = sz) → (xs.flatMap enc).length = xs.length * sz
  | [], _ => by simp
  | x :: xs, h => by
    simp only [List.flatMap_cons, List.length_append, h x (List.mem_cons_self ..), flat_len (fun y hy => h y (List.mem_cons_of_mem _ hy)), List.length_cons, Nat.add_mul, Nat.one_mul]
    omega
theorem SlR.ofRow {α : Type} {G : PM} {sz : Nat} {enc : α → List Value} {s : Sh} {xs : List α} (hsz : ∀ x ∈ xs, (enc x).length = sz) (hc : xs.length ≤ s.cap) (hn : xs.length ≠ 0 → s.oa = some ⟨s.b, s.o, none⟩) (hr : RdNP G s.b s.o (xs.flatMap enc)) : SlR G sz enc s xs := by
  refine ⟨fun h => hn (fun e => h (List.eq_nil_of_length_eq_zero e)), hc, fun i x hx j v hj => ?_⟩
  rw [Nat.add_assoc]
  refine hr (i * sz + j) v ?_
  clear hr hn hc
  induction xs generalizing i with
  | nil => simp at hx
  | cons y ys ih =>
    have hy := hsz y (List.mem_cons_self ..)
    cases i with
    | zero =>
      simp only [List.getElem?_cons_zero, Option.some.injEq] at hx
      subst hx
      have hlt : j < (enc y).length := (List.getElem?_eq_some_iff.1 hj).1
      simp only [List.flatMap_cons, Nat.zero_mul, Nat.zero_add]
      rw [List.getElem?_append_left hlt]
      exact hj
    | succ i =>
      simp only [List.getElem?_cons_succ] at hx
      simp only [List.flatMap_cons]
      rw [List.getElem?_append_right (by rw [hy, Nat.succ_mul]; omega), hy, Nat.succ_mul, show i * sz + sz + j - sz = i * sz + j by omega]
      exact ih (fun x hx => hsz x (List.mem_cons_of_mem _ hx)) i hx
theorem SlR.ofBlk {α : Type} {G : PM} {sz : Nat} {enc : α → List Value} {b cap : Nat} {T : TypeId} {xs : List α} (hG : G b = some (cl (xs.flatMap enc) T)) (hsz : ∀ x ∈ xs, (enc x).length = sz) (hc : xs.length ≤ cap) : SlR G sz enc ⟨some ⟨b, 0, none⟩, cap⟩ xs :=
  SlR.ofRow hsz hc (fun _ => rfl) (fun j v hj => RdP.blk hG (by show (xs.flatMap enc)[0 + j]? = some v; rw [Nat.zero_add]; exact hj))
theorem SlR.cut {α : Type} {G : PM} {sz : Nat} {enc : α → List Value} {s : Sh} {xs : List α} {k : Nat} {x : α} (h : SlR G sz enc s xs) (hx : xs[k]? = some x) : SlR G sz enc (s.cut k sz) [x] := by
  have hlt : k < xs.length := (List.getElem?_eq_some_iff.1 hx).1
  have hle := h.le
  have hoa := h.nn hlt
  have hcut : s.cut k sz = ⟨some ⟨s.b, s.o + k * sz, none⟩, s.cap - k⟩ := by
    unfold Sh.cut
    rw [if_neg (by omega), hoa]
    simp [add_lit]
  rw [hcut]
  refine ⟨fun _ => rfl, by simp; omega, fun i y hy => ?_⟩
  cases i with
  | zero =>
    simp only [List.getElem?_cons_zero, Option.some.injEq] at hy
    subst hy
    have := h.rd k x hx
    simpa [Sh.b, Sh.o] using this
  | succ i => simp at hy

end
end Go.Tan
