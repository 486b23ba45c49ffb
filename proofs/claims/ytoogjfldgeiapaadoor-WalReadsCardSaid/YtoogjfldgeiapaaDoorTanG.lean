/- More operations: the length of a row of one's own; two structs that are the same. No condition. -/
import Derived.Test.YtoogjfldgeiapaaDoorTanE
import Derived.DeepKeys
namespace Go.Tan
open Go.RowKit
section
variable {dr : Bool} {mc : Md} {P : Program} {n : Nat} {l : List Oper} {K : Env → PM → Mem → Prop} {i : Nat} {σ : List Nat} {ρ : Env} {G : PM} {μ : Mem}
variable {d t : Nat} {p : String} {af : Array Edge} {g : Option (Nat × Bool)} {c : Bool}
/-- how many elements a row of one's own has -/
theorem lr {T E sz m : Nat} {x : Operand} {v : Value} {xs : List Value} {μ' : Mem} (ho : nth l i = some ⟨some d, .call { callee := .builtin .len, args := #[x], argTypes := #[T] }, t, p, af, g⟩) (hg : Gd l ρ g c) (hT : (slE P T).isSome = true) (hx : Ev ρ c x v) (hm : MTake μ (.row v E sz m xs) μ')
    (h : Wo dr mc P n l K σ ((d, c, .int .i64 m) :: ρ) G μ) : Wo dr mc P n l K (i :: σ) ρ G μ :=
  .read ho (.inl rfl) hg (fun hc a w ha hs => by
    have hrow : w.ownsRow 0 E sz v m xs := hs.own _ (hm.perm.mem_iff.2 (List.mem_cons_self ..))
    unfold slE at hT
    split at hT
    · rename_i e hu
      rcases hrow.2 with ⟨rfl, rfl⟩ | ⟨g, cap, cur, rfl, _⟩
      · simp [execOp, resolve, invoke, builtin, hx.eval ha hc, Builtin.len_, run_underlying hu, goInt]
      · simp [execOp, resolve, invoke, builtin, hx.eval ha hc, Builtin.len_, run_underlying hu, goInt]
    · cases hT) h
theorem eqGuard_agg {op : BinOp} {T : TypeId} {x y : Operand} {a b : Array Value} {w : World} (h : P.eqGuardType P.depth T = false) : (eqGuard op T x y (.agg a) (.agg b)).run P w = .ok () w := by
  have hp : ∀ w : World, Sem.run P (Sem.program Sem.pure) w = .ok P w := fun _ => rfl
  unfold eqGuard; cases op <;> simp [h, program, hp, Result.andThen]
/-- '!=' of a struct and itself -/
theorem nq {T T' m : Nat} {x y : Operand} {cs : List Value} (ho : nth l i = some ⟨some d, .binOp .neq T x y T', t, p, af, g⟩) (hg : Gd l ρ g c) (hx : Ev ρ c x (.agg cs.toArray)) (hy : Ev ρ c y (.agg cs.toArray))
    (hk : P.keyTypeAt m T = true) (hm : m ≤ 10000) (hgu : P.eqGuardType P.depth T = false) (hf : c = true → (Value.agg cs.toArray).formed P T = true) (hL : c = true → ∃ D L, P.keyLits D T cs = some L)
    (h : Wo dr mc P n l K σ ((d, c, .bool false) :: ρ) G μ) : Wo dr mc P n l K (i :: σ) ρ G μ :=
  .pure ho (.inl rfl) hg (fun hc a w ha => by
    obtain ⟨D, L, hL⟩ := hL hc
    obtain ⟨r, hr, hiff⟩ := run_equalIn_deep (10000 - m) m T hk w D D (.agg cs.toArray) (.agg cs.toArray) L L (hf hc) (hf hc) (by simpa [Value.cells] using hL) (by simpa [Value.cells] using hL)
    obtain rfl : r = true := hiff.2 rfl
    rw [show 10000 - m + m = 10000 by omega] at hr
    have hq : (Op.equal T (.agg cs.toArray) (.agg cs.toArray)).run P w = .ok true w := hr
    simp [execOp, hx.eval ha hc, hy.eval ha hc, eqGuard_agg hgu, binOp, hq]) h

/-! ### Keys -/
theorem mapM_of {α β : Type} {f : α → Option β} : ∀ {l : List α}, (∀ x ∈ l, ∃ y, f x = some y) → ∃ r, l.mapM f = some r
  | [], _ => ⟨[], by simp⟩
  | x :: l, h => by
    obtain ⟨y, hy⟩ := h x (List.mem_cons_self ..)
    obtain ⟨r, hr⟩ := mapM_of (l := l) fun z hz => h z (List.mem_cons_of_mem _ hz)
    exact ⟨y :: r, by simp [List.mapM_cons, hy, hr]⟩
theorem key_int {D : Nat} {T : TypeId} {k : IntKind} {v : Int} (hu : P.underlying T = some (.int k)) (h1 : k.min ≤ v) (h2 : v ≤ k.max) : ∃ L, P.keyLits (D + 1) T [.int k v] = some L := by
  unfold Program.keyLits; simp [hu, Lit.wf, h1, h2]
theorem key_str {D : Nat} {T : TypeId} {s : ByteArray} (hu : P.underlying T = some .string) (h1 : s.size ≤ maxLen) : ∃ L, P.keyLits (D + 1) T [.string s] = some L := by
  unfold Program.keyLits; simp [hu, h1]
theorem key_arr {D : Nat} {T e m : Nat} {cs : List Value} (hu : P.underlying T = some (.array m e)) (hl : cs.length = P.cellsOf T) (h : ∀ j, j < m → ∃ L, P.keyLits D e ((cs.drop (j * P.cellsOf e)).take (P.cellsOf e)) = some L) : ∃ L, P.keyLits (D + 1) T cs = some L := by
  obtain ⟨r, hr⟩ := mapM_of (f := fun j => P.keyLits D e ((cs.drop (j * P.cellsOf e)).take (P.cellsOf e))) (l := List.range m) fun j hj => h j (List.mem_range.1 hj)
  exact ⟨r.flatten, by unfold Program.keyLits; simp [hu, hl, hr]⟩
theorem key_struct {D : Nat} {T : Nat} {fs : Array Field} {cs : List Value} (hu : P.underlying T = some (.struct fs)) (hl : cs.length = P.cellsOf T) (hn : fs.all (·.name != "_") = true)
    (h : ∀ f ∈ fs.toList, ∃ L, P.keyLits D f.type ((cs.drop f.offset).take (P.cellsOf f.type)) = some L) : ∃ L, P.keyLits (D + 1) T cs = some L := by
  obtain ⟨r, hr⟩ := mapM_of (f := fun f : Field => P.keyLits D f.type ((cs.drop f.offset).take (P.cellsOf f.type))) (l := fs.toList) h
  refine ⟨r.flatten, ?_⟩
  unfold Program.keyLits
  rw [hu]
  simp only [hl, hn, and_self, if_true, hr, Option.map_some]
end
end Go.Tan
