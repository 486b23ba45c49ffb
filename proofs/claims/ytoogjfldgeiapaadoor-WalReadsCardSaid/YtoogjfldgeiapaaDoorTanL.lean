/- Rows out of what may only be read. No condition. -/
import Derived.Test.YtoogjfldgeiapaaDoorTanK
import Derived.Test.YtoogjfldgeiapaaDoorSealC
namespace Go.Tan
open Go.RowKit
section
variable {dr : Bool} {mc : Md} {P : Program} {n : Nat} {l : List Oper} {K : Env → PM → Mem → Prop} {i : Nat} {σ : List Nat} {ρ : Env} {G : PM} {μ : Mem}
variable {d t : Nat} {p : String} {af : Array Edge} {g : Option (Nat × Bool)} {c : Bool}
/-- 'append(xs, ys...)' where xs may only be read: there is no room, so the row is new -/
theorem apF {T E b o m cap : Nat} {x y : Operand} {u : Value} {xs ys : List Y} (hdf : mc.a = false ∨ dr = false) (ho : nth l i = some ⟨some d, .call { callee := .builtin .append, args := #[x, y], argTypes := #[T, T] }, t, p, af, none⟩)
    (hT : slE P T = some (E, 1, 1)) (hz : (P.info? E).bind (·.zero) = some (.int .u8 0)) (hx : Ev ρ true x (.slice (some ⟨b, o, none⟩) m cap)) (hy : Ev ρ true y u) (hold : SlR G 1 encY ⟨some ⟨b, o, none⟩, cap⟩ xs) (hm : xs.length = m) (hs : Sc G μ u ys) (h0 : 0 < ys.length) (hg : cap < m + ys.length) (hb : xs.length + ys.length ≤ 140737488355328)
    (h : ∀ v' L, v'.oneCell' = true → L = xs ++ ys → Wo dr mc P n l K σ ((d, true, v') :: ρ) G (rB v' E L :: μ)) : Wo dr mc P n l K (i :: σ) ρ G μ := by
  subst hm
  obtain ⟨oa, cp, rfl, hr⟩ := hs.ex
  clear hs
  obtain ⟨b2, o2, rfl, hrd⟩ := hr h0
  refine .act (μ₁ := []) (μ₂ := μ) (post := fun G' μ' v' => G' = G ∧ v'.oneCell' = true ∧ μ' = [rB v' E (xs ++ ys)]) ho (by rcases hdf with h | h <;> simp [kindOf, h]) .no (.refl _) (fun a w ha hs => .inl ?_) ?_
  · obtain ⟨hu, inf, hi, hs1, hb1⟩ := slE_some hT
    have hz' := hz
    rw [hi] at hz'
    simp only [Option.bind_some] at hz'
    have hnews : ∀ j u, (ys.map V)[j]? = some u → w.cell? ((⟨b2, o2, none⟩ : Addr).add j) = some u := fun j u hj => by rw [add_lit]; exact hrd j u hj w hs
    have holds : ∀ j u, (xs.map V)[j]? = some u → w.cell? ((⟨b, o, none⟩ : Addr).add j) = some u := fun j u hj => by
      rw [add_lit]
      have h1 := SlR.flat (enc := encY) (fun _ _ => rfl) hold
      rw [flat_V] at h1
      exact h1 j u hj w hs.sub
    have hrun := run_append_grow (P := P) w T t E inf _ hu hi hz' ⟨b, o, none⟩ xs.length cap (xs.map V) (by rw [hs1]; simp) holds ⟨b2, o2, none⟩ ys.length cp (ys.map V) (by rw [hs1]; simp) hnews (by omega) (by omega) (growslice_fits (by omega) (by rw [hb1]; omega))
    have h2 := ((Tr.begin (Sat.left (μ := []) hs)).drew).alloc (.cells ((xs.map V).toArray ++ (ys.map V).toArray ++ Builtin.zeroCells (Value.int .u8 0).cells (grownCap w (xs.length + ys.length) cap E - (xs.length + ys.length))) E)
    have hge := grownCap_ge w (xs.length + ys.length) cap E
    have h3 := h2.asRow (m := xs.length + ys.length) (cap := grownCap w (xs.length + ys.length) cap E) (sz := 1) (xs := (xs ++ ys).map V) (by simp) hge (grownCap_le_maxLen w (xs.length + ys.length) cap E (by unfold maxLen; omega)) (by
      simp only [Array.size_append, List.size_toArray, size_zeroCells, List.length_map]
      have : (Value.int .u8 0).cells.size = 1 := rfl
      rw [this]; omega) (by rw [Array.toList_append, Array.toList_append, List.map_append]; exact List.take_left' (by simp))
    refine ⟨_, _, G, _, .inl (by simp [execOp, resolve, invoke, builtin, hx.eval ha rfl, hy.eval ha rfl, hrun]; rfl), h3, rfl, rfl, ?_⟩
    simp [rB]
  · rintro v' G' μ'' _ ⟨rfl, h1, rfl⟩
    exact h v' _ h1 rfl
/-- a literal of bytes becomes a row -/
theorem wk_br {X : Cx} {cd : Code} {k : List KI} {b E : Nat} {cs : List Value} {μ' : Mem} (xs : List Y) (m : Nat) (hm : MTake μ (.blk b (cl cs E)) μ') (hx : cs = xs.map V) (hl : xs.length = m) (hb : m ≤ 140737488355328)
    (h : Wk X cd k ρ G (rB (.slice (some ⟨b, 0, none⟩) m m) E xs :: μ')) : Wk X cd k ρ G μ :=
  ⟨fun a w ha ht => by
    subst hl; subst hx
    exact h.out a w ha ((ht.perm hm.perm).asRow (sz := 1) (by simp) (Nat.le_refl _) (by unfold maxLen; omega) (by simp) (by rw [Nat.mul_one]; exact List.take_of_length_le (by simp)))⟩
/-- 'xs[:hi:hi]' -/
theorem kM {α : Type} {enc : α → List Value} {T e sz by' : Nat} {x y z : Operand} {s : Sh} {xs : List α} (hi : Nat) (ho : nth l i = some ⟨some d, .slice T x none (some y) (some z), t, p, af, none⟩) (hT : slE P T = some (e, sz, by')) (hs : SlR G sz enc s xs)
    (hx : Ev ρ true x (s.val xs.length)) (hy : Ev ρ true y (.int .i64 hi)) (hz : Ev ρ true z (.int .i64 hi)) (h1 : hi ≤ xs.length)
    (h : ∀ s' L, L = xs.take hi → L.length = hi → SlR G sz enc s' L → Wo dr mc P n l K σ ((d, true, s'.val L.length) :: ρ) G μ) : Wo dr mc P n l K (i :: σ) ρ G μ := by
  have hl : (xs.take hi).length = hi := by simp; omega
  have htake : SlR G sz enc ⟨s.oa, hi⟩ (xs.take hi) := by
    refine ⟨fun hne => hs.there (fun e => hne (by rw [e]; simp)), by rw [hl]; exact Nat.le_refl _, fun j u hj => ?_⟩
    rw [List.getElem?_take] at hj
    split at hj
    · exact hs.rd j u hj
    · cases hj
  have h2 := h _ _ rfl hl htake
  rw [hl] at h2
  refine .pure ho (.inl rfl) .no (fun hc a w ha => ?_) h2
  obtain ⟨hu, inf, hi', rfl, rfl⟩ := slE_some hT
  have hx' := hx.eval ha hc
  simp only [Sh.val] at hx'
  have e3 := hs.le
  have hid : ∀ oa : Option Addr, oa.map (fun a => a.add 0) = oa := fun oa => by cases oa <;> simp [add_zero']
  have e4 : hi ≤ s.cap := by omega
  simp [execOp, hx', hy.eval ha hc, hz.eval ha hc, Instr.sliceAt, run_underlying hu, Instr.slice, Instr.sliceBounds, Instr.sliceBound, asIntOf, e4, sizeOf, typeInfo, hi', Sh.val, hid]
theorem mAq {T T' : TypeId} {x y : Operand} {k : IntKind} {a1 a2 : Int} (q : Int) (ho : nth l i = some ⟨some d, .call { callee := .builtin .max, args := #[x, y], argTypes := #[T, T'] }, t, p, af, none⟩) (hx : Ev ρ true x (.int k a1)) (hy : Ev ρ true y (.int k a2)) (he : (if a2 > a1 then a2 else a1) = q)
    (h : Wo dr mc P n l K σ ((d, true, .int k q) :: ρ) G μ) : Wo dr mc P n l K (i :: σ) ρ G μ := mA ho .no hx hy (by rw [he]; exact h)
theorem Ct.lendK {f : FuncId} {args : Array Value} {b : Nat} {o : Obj} {Q : Mem → Value → Prop} (h : PM.le G (G.add b o) → Ct P f args (G.add b o) μ (fun _ μ' u => Q μ' u)) : Ct P f args G (.blk b o :: μ) (fun _ μ' u => ∃ ν, μ' = .blk b o :: ν ∧ Q ν u) := by
  intro w hs
  exact Ct.lend (h (PM.le_add (hs.apart b (by simp [keys, Res.keys])))) w hs
theorem Sh.val_inj {s s' : Sh} {m : Nat} (h : s.val m = s'.val m) : s = s' := by
  cases s; cases s'; simp only [Sh.val, Value.slice.injEq, true_and] at h; rw [h.1, h.2]
end
end Go.Tan
