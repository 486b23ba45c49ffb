/- The operations, one rule each: what an operation makes of the frame and of memory. No condition: proved for every program. -/
import Derived.Test.YtoogjfldgeiapaaDoorTanC
import Derived.Deep.AppendSrc
import Derived.Laws.AppendOwnNone
namespace Go.Tan
open Go.RowKit

/-! ## Facts on types, asked of the program's tables -/
def fOff (P : Program) (s f : Nat) : Option Nat :=
  match P.underlying s with
  | some (.struct fs) => match fs[f]? with
    | some fl => match P.info? fl.type with
      | some i => if i.size = 0 then none else some fl.offset
      | none => none
    | none => none
  | _ => none
def aggN (P : Program) (T : TypeId) : Option (Option Nat) :=
  match P.underlying T, P.info? T with
  | some (.struct _), some i | some (.array _ _), some i => some (some i.size)
  | some _, some _ => some none
  | _, _ => none
def slE (P : Program) (T : TypeId) : Option (TypeId × Nat × Nat) :=
  match P.underlying T with
  | some (.slice e) => (P.info? e).map fun i => (e, i.size, i.bytes)
  | _ => none
def arE (P : Program) (T : TypeId) : Option (Nat × TypeId × Nat) :=
  match P.underlying T with
  | some (.array n e) => (P.info? e).map fun i => (n, e, i.size)
  | _ => none
def zrL (P : Program) (T : TypeId) : Option (List Value) := ((P.info? T).bind (·.zero)).map (·.cells.toList)
def szT (P : Program) (T : TypeId) : Option Nat := (P.info? T).map (·.size)
abbrev cl (cs : List Value) (T : TypeId) : Obj := .cells cs.toArray T (0, 0)

/-! ## What is read -/
def Sub (G : PM) (w : World) : Prop := ∀ b o, G b = some o → w.heap[b]? = some o
theorem Sat.toSub {G : PM} {μ : Mem} {w : World} (h : Sat G μ w) : Sub G w := h.sub
theorem Sub.mono {G G' : PM} {w : World} (h : Sub G' w) (hle : PM.le G G') : Sub G w := fun b o e => h b o (hle b o e)
/-- A cell holds a value, whatever else there is. -/
def Rd (G : PM) (μ : Mem) (a : Addr) (v : Value) : Prop := ∀ w, Sat G μ w → w.cell? a = some v
def RdP (G : PM) (a : Addr) (v : Value) : Prop := ∀ w, Sub G w → w.cell? a = some v
theorem RdP.rd {G : PM} {μ : Mem} {a : Addr} {v : Value} (h : RdP G a v) : Rd G μ a v := fun w hs => h w hs.sub
theorem RdP.mono {G G' : PM} {a : Addr} {v : Value} (h : RdP G a v) (hle : PM.le G G') : RdP G' a v := fun w hs => h w (hs.mono hle)
theorem Rd.own {G : PM} {μ μ' : Mem} {b off : Nat} {cs : List Value} {T : TypeId} {v : Value} (h : MTake μ (.blk b (cl cs T)) μ') (hv : cs[off]? = some v) : Rd G μ ⟨b, off, none⟩ v := by
  intro w hs
  have := hs.own (.blk b (cl cs T)) (h.perm.mem_iff.2 (List.mem_cons_self ..))
  rw [cell_of_row w b off _ T _ this]
  simpa using hv
theorem RdP.blk {G : PM} {b off : Nat} {cs : List Value} {T : TypeId} {v : Value} {fr : Nat × Nat} (h : G b = some (.cells cs.toArray T fr)) (hv : cs[off]? = some v) : RdP G ⟨b, off, none⟩ v := by
  intro w hs
  rw [cell_of_row w b off _ T _ (hs b _ h)]
  simpa using hv
/-- Cells in a row. -/
def RdN (G : PM) (μ : Mem) (b off : Nat) (cs : List Value) : Prop := ∀ j v, cs[j]? = some v → Rd G μ ⟨b, off + j, none⟩ v
def RdNP (G : PM) (b off : Nat) (cs : List Value) : Prop := ∀ j v, cs[j]? = some v → RdP G ⟨b, off + j, none⟩ v
theorem RdNP.rd {G : PM} {μ : Mem} {b off : Nat} {cs : List Value} (h : RdNP G b off cs) : RdN G μ b off cs := fun j v hj => (h j v hj).rd
theorem RdNP.mono {G G' : PM} {b off : Nat} {cs : List Value} (h : RdNP G b off cs) (hle : PM.le G G') : RdNP G' b off cs := fun j v hj => (h j v hj).mono hle
theorem RdN.own {G : PM} {μ μ' : Mem} {b : Nat} {cs : List Value} {T : TypeId} (h : MTake μ (.blk b (cl cs T)) μ') : RdN G μ b 0 cs := fun j v hj => by
  rw [Nat.zero_add]; exact Rd.own h hj
theorem RdN.part {G : PM} {μ μ' : Mem} {b off n : Nat} {cs cs' : List Value} {T : TypeId} (h : MTake μ (.blk b (cl cs T)) μ') (hc : (cs.drop off).take n = cs') : RdN G μ b off cs' := fun j v hj => by
  subst hc
  refine Rd.own h ?_
  rw [List.getElem?_take] at hj
  split at hj
  · rw [List.getElem?_drop] at hj; exact hj
  · cases hj
theorem add_lit (b o j : Nat) : (⟨b, o, none⟩ : Addr).add j = ⟨b, o + j, none⟩ := by unfold Addr.add; split <;> simp_all
theorem run_loadN {P : Program} {w : World} {G : PM} {μ : Mem} {b off n : Nat} {cs : List Value} (h : RdN G μ b off cs) (hs : Sat G μ w) (hn : cs.length = n) : (loadCells ⟨b, off, none⟩ n).run P w = .ok cs.toArray w := by
  subst hn
  exact run_loadCells_list w ⟨b, off, none⟩ cs fun j v hj => by rw [add_lit]; exact h j v hj w hs

theorem aggN_none {P : Program} {T : TypeId} (h : aggN P T = some none) : ∀ w, (isAgg T).run P w = .ok false w := by
  intro w
  unfold aggN at h
  unfold isAgg
  cases hu : P.underlying T with
  | none => rw [hu] at h; simp at h
  | some d =>
    rw [hu] at h
    simp only [Sem.run_bind, run_underlying hu, Result.andThen_ok]
    cases d <;> first | rfl | (cases hi : P.info? T <;> rw [hi] at h <;> simp at h)
theorem aggN_some {P : Program} {T : TypeId} {n : Nat} (h : aggN P T = some (some n)) : (∀ w, (isAgg T).run P w = .ok true w) ∧ (P.info? T).map (·.size) = some n := by
  unfold aggN at h
  unfold isAgg
  cases hu : P.underlying T with
  | none => rw [hu] at h; simp at h
  | some d =>
    rw [hu] at h
    cases d <;> cases hi : P.info? T <;> rw [hi] at h <;> simp at h
    all_goals (subst h; exact ⟨fun w => by simp only [Sem.run_bind, run_underlying hu, Result.andThen_ok]; rfl, rfl⟩)

theorem run_loadVar1 {P : Program} {T : TypeId} (hT : aggN P T = some none) {w : World} {a : Addr} {v : Value} (h : w.cell? a = some v) : (loadVar T a).run P w = .ok v w := by
  unfold loadVar
  simp [aggN_none hT w, run_load, h]
theorem run_loadVarN {P : Program} {T : TypeId} {n : Nat} (hT : aggN P T = some (some n)) {G : PM} {μ : Mem} {w : World} {b off : Nat} {cs : List Value} (h : RdN G μ b off cs) (hn : cs.length = n) (hs : Sat G μ w) :
    (loadVar T ⟨b, off, none⟩).run P w = .ok (.agg cs.toArray) w := by
  obtain ⟨h1, h2⟩ := aggN_some hT
  cases hi : P.info? T with
  | none => rw [hi] at h2; cases h2
  | some i =>
    rw [hi] at h2
    simp only [Option.map_some, Option.some.injEq] at h2
    unfold loadVar
    simp [h1 w, sizeOf, typeInfo, hi, h2, run_loadN h hs hn]

section
variable {dr : Bool} {mc : Md} {P : Program} {n : Nat} {l : List Oper} {K : Env → PM → Mem → Prop} {i : Nat} {σ : List Nat} {ρ : Env} {G : PM} {μ : Mem}
variable {d t : Nat} {p : String} {af : Array Edge} {g : Option (Nat × Bool)} {c : Bool}

/-! ## Values -/
theorem mv {x : Operand} {v : Value} (ho : nth l i = some ⟨some d, .move x, t, p, af, g⟩) (hg : Gd l ρ g c) (hx : Ev ρ c x v) (h : Wo dr mc P n l K σ ((d, c, v) :: ρ) G μ) : Wo dr mc P n l K (i :: σ) ρ G μ :=
  .pure ho (.inl rfl) hg (fun hc a w ha => by simp [execOp, hx.eval ha hc]) h
theorem asg {x : Operand} {v : Value} (ho : nth l i = some ⟨some d, .assign x, t, p, af, g⟩) (hg : Gd l ρ g c) (hx : Ev ρ c x v) (h : Wo dr mc P n l K σ ((d, c, v) :: ρ) G μ) : Wo dr mc P n l K (i :: σ) ρ G μ :=
  .pure ho (.inl rfl) hg (fun hc a w ha => by simp [execOp, hx.eval ha hc]) h
/-- 'a && b' -/
theorem pkA {x y : Operand} {b1 b2 : Bool} (ho : nth l i = some ⟨some d, .pick x y (.const (.bool false)), t, p, af, g⟩) (hg : Gd l ρ g c) (hx : Ev ρ c x (.bool b1)) (hy : Ev ρ (c && b1) y (.bool b2))
    (h : Wo dr mc P n l K σ ((d, c, .bool (b1 && b2)) :: ρ) G μ) : Wo dr mc P n l K (i :: σ) ρ G μ :=
  .pure ho (.inl rfl) hg (fun hc a w ha => by
    simp only [execOp, hx.eval ha hc, asBool]
    cases b1 with
    | false => simp [Act.eval]
    | true => simp [hy.eval ha (by simp [hc])]) h
/-- 'a || b' -/
theorem pkO {x y : Operand} {b1 b2 : Bool} (ho : nth l i = some ⟨some d, .pick x (.const (.bool true)) y, t, p, af, g⟩) (hg : Gd l ρ g c) (hx : Ev ρ c x (.bool b1)) (hy : Ev ρ (c && !b1) y (.bool b2))
    (h : Wo dr mc P n l K σ ((d, c, .bool (b1 || b2)) :: ρ) G μ) : Wo dr mc P n l K (i :: σ) ρ G μ :=
  .pure ho (.inl rfl) hg (fun hc a w ha => by
    simp only [execOp, hx.eval ha hc, asBool]
    cases b1 with
    | true => simp [Act.eval]
    | false => simp [hy.eval ha (by simp [hc])]) h
theorem nt {T : TypeId} {x : Operand} {b : Bool} (ho : nth l i = some ⟨some d, .unOp .not T x, t, p, af, g⟩) (hg : Gd l ρ g c) (hx : Ev ρ c x (.bool b)) (h : Wo dr mc P n l K σ ((d, c, .bool !b) :: ρ) G μ) : Wo dr mc P n l K (i :: σ) ρ G μ :=
  .pure ho (.inl rfl) hg (fun hc a w ha => by simp [execOp, hx.eval ha hc, Op.unary]) h
theorem ex {x : Operand} {vs : List Value} {j : Nat} {v : Value} (ho : nth l i = some ⟨some d, .extract x j, t, p, af, g⟩) (hg : Gd l ρ g c) (hx : Ev ρ c x (.tuple vs.toArray)) (hv : vs[j]? = some v)
    (h : Wo dr mc P n l K σ ((d, c, v) :: ρ) G μ) : Wo dr mc P n l K (i :: σ) ρ G μ :=
  .pure ho (.inl rfl) hg (fun hc a w ha => by simp [execOp, hx.eval ha hc, Instr.extract, hv]) h
theorem nc {x : Operand} {ad : Addr} (ho : nth l i = some ⟨some d, .nilCheck x, t, p, af, g⟩) (hg : Gd l ρ g c) (hx : Ev ρ c x (.pointer (some ad))) (h : Wo dr mc P n l K σ ((d, c, .pointer (some ad)) :: ρ) G μ) : Wo dr mc P n l K (i :: σ) ρ G μ :=
  .pure ho (.inl rfl) hg (fun hc a w ha => by simp [execOp, hx.eval ha hc]) h
theorem mf {fn : Go.Fn} {fs cs : Array Operand} {vf vc : Array Value} (ho : nth l i = some ⟨some d, .makeFunc fn fs cs, t, p, af, g⟩) (hg : Gd l ρ g c) (hf : ∀ a, Ag n ρ a → c = true → fs.map a.eval = vf) (hcs : ∀ a, Ag n ρ a → c = true → cs.map a.eval = vc)
    (h : Wo dr mc P n l K σ ((d, c, .func fn vf vc) :: ρ) G μ) : Wo dr mc P n l K (i :: σ) ρ G μ :=
  .pure ho (.inl rfl) hg (fun hc a w ha => by simp [execOp, Instr.makeFunc, hf a ha hc, hcs a ha hc]) h

/-! ## Numbers -/
def cmpI : BinOp → Int → Int → Option Bool
  | .eql, a, b => some (a == b)
  | .neq, a, b => some (a != b)
  | .lss, a, b => some (decide (a < b))
  | .leq, a, b => some (decide (a ≤ b))
  | .gtr, a, b => some (decide (a > b))
  | .geq, a, b => some (decide (a ≥ b))
  | _, _, _ => none
theorem eqGuard_int {P : Program} (op : BinOp) (T : TypeId) (x y : Operand) (k k' : IntKind) (a b : Int) (w : World) : (eqGuard op T x y (.int k a) (.int k' b)).run P w = .ok () w := by
  unfold eqGuard; cases op <;> simp
theorem run_cmp {P : Program} {op : BinOp} {k : IntKind} {a b : Int} {r : Bool} (T : TypeId) (h : cmpI op a b = some r) (w : World) : (binOp op T (.int k a) (.int k b)).run P w = .ok (.bool r) w := by
  cases op <;> simp [cmpI] at h <;> subst h <;> simp [binOp, Op.intCmp]
theorem cp {op : BinOp} {T T' : TypeId} {x y : Operand} {k : IntKind} {a1 a2 : Int} {r : Bool} (ho : nth l i = some ⟨some d, .binOp op T x y T', t, p, af, g⟩) (hg : Gd l ρ g c) (hx : Ev ρ c x (.int k a1)) (hy : Ev ρ c y (.int k a2)) (hr : cmpI op a1 a2 = some r)
    (h : Wo dr mc P n l K σ ((d, c, .bool r) :: ρ) G μ) : Wo dr mc P n l K (i :: σ) ρ G μ :=
  .pure ho (.inl rfl) hg (fun hc a w ha => by simp [execOp, hx.eval ha hc, hy.eval ha hc, eqGuard_int, run_cmp T hr w]) h
def arI : BinOp → Int → Int → Option Int
  | .add, a, b => some (a + b)
  | .sub, a, b => some (a - b)
  | .mul, a, b => some (a * b)
  | _, _, _ => none
theorem run_ar {P : Program} {op : BinOp} {k : IntKind} {a b r : Int} (T : TypeId) (h : arI op a b = some r) (w : World) : (binOp op T (.int k a) (.int k b)).run P w = .ok (.int k (k.wrap r)) w := by
  cases op <;> simp [arI] at h <;> subst h <;> simp [binOp, Op.intArith]
/-- '+', '-', '*', wrapped -/
theorem aw {op : BinOp} {T T' : TypeId} {x y : Operand} {k : IntKind} {a1 a2 r : Int} (ho : nth l i = some ⟨some d, .binOp op T x y T', t, p, af, g⟩) (hg : Gd l ρ g c) (hx : Ev ρ c x (.int k a1)) (hy : Ev ρ c y (.int k a2)) (hr : arI op a1 a2 = some r)
    (h : Wo dr mc P n l K σ ((d, c, .int k (k.wrap r)) :: ρ) G μ) : Wo dr mc P n l K (i :: σ) ρ G μ :=
  .pure ho (.inl rfl) hg (fun hc a w ha => by simp [execOp, hx.eval ha hc, hy.eval ha hc, eqGuard_int, run_ar T hr w]) h
/-- '+', '-', '*' within the kind -/
theorem ar {op : BinOp} {T T' : TypeId} {x y : Operand} {k : IntKind} {a1 a2 r : Int} (ho : nth l i = some ⟨some d, .binOp op T x y T', t, p, af, g⟩) (hg : Gd l ρ g c) (hx : Ev ρ c x (.int k a1)) (hy : Ev ρ c y (.int k a2)) (hr : arI op a1 a2 = some r) (hw : c = true → k.wrap r = r)
    (h : Wo dr mc P n l K σ ((d, c, .int k r) :: ρ) G μ) : Wo dr mc P n l K (i :: σ) ρ G μ :=
  .pure ho (.inl rfl) hg (fun hc a w ha => by simp [execOp, hx.eval ha hc, hy.eval ha hc, eqGuard_int, run_ar T hr w, hw hc]) h
theorem wrap_i64 {r : Int} (h1 : -9223372036854775808 ≤ r) (h2 : r ≤ 9223372036854775807) : IntKind.i64.wrap r = r := by
  unfold IntKind.wrap
  show (if (true && decide (r % (2 ^ 64 : Int) ≥ (2 ^ 63 : Int))) = true then r % (2 ^ 64 : Int) - (2 ^ 64 : Int) else r % (2 ^ 64 : Int)) = r
  simp only [Bool.true_and, decide_eq_true_eq]
  split <;> omega
theorem wrap_u64 {r : Int} (h1 : 0 ≤ r) (h2 : r < 18446744073709551616) : IntKind.u64.wrap r = r := by
  simp only [IntKind.wrap, IntKind.bits, IntKind.signed, Bool.false_and, Bool.false_eq_true, if_false]
  exact Int.emod_eq_of_lt h1 (by omega)
theorem wrap_u32 {r : Int} (h1 : 0 ≤ r) (h2 : r < 4294967296) : IntKind.u32.wrap r = r := by
  simp only [IntKind.wrap, IntKind.bits, IntKind.signed, Bool.false_and, Bool.false_eq_true, if_false]
  exact Int.emod_eq_of_lt h1 (by omega)
theorem wrap_u8 {r : Int} (h1 : 0 ≤ r) (h2 : r < 256) : IntKind.u8.wrap r = r := by
  simp only [IntKind.wrap, IntKind.bits, IntKind.signed, Bool.false_and, Bool.false_eq_true, if_false]
  exact Int.emod_eq_of_lt h1 (by omega)
/-- '%' -/
theorem rm {T T' : TypeId} {x y : Operand} {k : IntKind} {a1 a2 : Int} (ho : nth l i = some ⟨some d, .binOp .rem T x y T', t, p, af, g⟩) (hg : Gd l ρ g c) (hx : Ev ρ c x (.int k a1)) (hy : Ev ρ c y (.int k a2)) (h0 : c = true → a2 ≠ 0)
    (h : Wo dr mc P n l K σ ((d, c, .int k (a1.tmod a2)) :: ρ) G μ) : Wo dr mc P n l K (i :: σ) ρ G μ :=
  .pure ho (.inl rfl) hg (fun hc a w ha => by simp [execOp, hx.eval ha hc, hy.eval ha hc, eqGuard_int, binOp, Op.intDiv, h0 hc]) h
theorem qu {T T' : TypeId} {x y : Operand} {k : IntKind} {a1 a2 : Int} (ho : nth l i = some ⟨some d, .binOp .quo T x y T', t, p, af, g⟩) (hg : Gd l ρ g c) (hx : Ev ρ c x (.int k a1)) (hy : Ev ρ c y (.int k a2)) (h0 : c = true → a2 ≠ 0)
    (h : Wo dr mc P n l K σ ((d, c, .int k (k.wrap (a1.tdiv a2))) :: ρ) G μ) : Wo dr mc P n l K (i :: σ) ρ G μ :=
  .pure ho (.inl rfl) hg (fun hc a w ha => by simp [execOp, hx.eval ha hc, hy.eval ha hc, eqGuard_int, binOp, Op.intDiv, h0 hc]) h
theorem sl {T T' : TypeId} {x y : Operand} {k k' : IntKind} {a1 a2 : Int} (ho : nth l i = some ⟨some d, .binOp .shl T x y T', t, p, af, g⟩) (hg : Gd l ρ g c) (hx : Ev ρ c x (.int k a1)) (hy : Ev ρ c y (.int k' a2)) (h0 : c = true → 0 ≤ a2)
    (h : Wo dr mc P n l K σ ((d, c, .int k (k.wrap (a1 * 2 ^ (min a2.toNat k.bits)))) :: ρ) G μ) : Wo dr mc P n l K (i :: σ) ρ G μ :=
  .pure ho (.inl rfl) hg (fun hc a w ha => by have := h0 hc; simp [execOp, hx.eval ha hc, hy.eval ha hc, eqGuard_int, binOp, Op.shift, show ¬ a2 < 0 by omega]) h
theorem sr {T T' : TypeId} {x y : Operand} {k k' : IntKind} {a1 a2 : Int} (ho : nth l i = some ⟨some d, .binOp .shr T x y T', t, p, af, g⟩) (hg : Gd l ρ g c) (hx : Ev ρ c x (.int k a1)) (hy : Ev ρ c y (.int k' a2)) (h0 : c = true → 0 ≤ a2)
    (h : Wo dr mc P n l K σ ((d, c, .int k (a1.fdiv (2 ^ (min a2.toNat k.bits)))) :: ρ) G μ) : Wo dr mc P n l K (i :: σ) ρ G μ :=
  .pure ho (.inl rfl) hg (fun hc a w ha => by have := h0 hc; simp [execOp, hx.eval ha hc, hy.eval ha hc, eqGuard_int, binOp, Op.shift, show ¬ a2 < 0 by omega]) h
def cvK (P : Program) (S D : TypeId) : Option IntKind := match P.underlying S, P.underlying D with | some (.int _), some (.int k) => some k | _, _ => none
theorem cv {S D : TypeId} {x : Operand} {k k' : IntKind} {a1 : Int} (ho : nth l i = some ⟨some d, .convert S D x, t, p, af, g⟩) (hg : Gd l ρ g c) (hk : cvK P S D = some k') (hx : Ev ρ c x (.int k a1))
    (h : Wo dr mc P n l K σ ((d, c, .int k' (k'.wrap a1)) :: ρ) G μ) : Wo dr mc P n l K (i :: σ) ρ G μ :=
  .read ho (.inl rfl) hg (fun hc a w ha _ => by
    unfold cvK at hk
    split at hk
    · rename_i k0 k1 hS hD
      simp only [Option.some.injEq] at hk
      subst hk
      simp [execOp, hx.eval ha hc, convert, run_underlying hS, run_underlying hD, Conv.intToInt]
    · cases hk) h
/-- a conversion that keeps the number -/
theorem cw {S D : TypeId} {x : Operand} {k k' : IntKind} {a1 : Int} (ho : nth l i = some ⟨some d, .convert S D x, t, p, af, g⟩) (hg : Gd l ρ g c) (hk : cvK P S D = some k') (hx : Ev ρ c x (.int k a1)) (hw : c = true → k'.wrap a1 = a1)
    (h : Wo dr mc P n l K σ ((d, c, .int k' a1) :: ρ) G μ) : Wo dr mc P n l K (i :: σ) ρ G μ :=
  .read ho (.inl rfl) hg (fun hc a w ha _ => by
    unfold cvK at hk
    split at hk
    · rename_i k0 k1 hS hD
      simp only [Option.some.injEq] at hk
      subst hk
      simp [execOp, hx.eval ha hc, convert, run_underlying hS, run_underlying hD, Conv.intToInt, hw hc]
    · cases hk) h

/-! ## Texts, bools -/
def boolT (P : Program) (T : TypeId) : Bool := match P.underlying T with | some .bool => true | _ => false
theorem eb {T T' : TypeId} {x y : Operand} {b1 b2 : Bool} (ho : nth l i = some ⟨some d, .binOp .eql T x y T', t, p, af, g⟩) (hg : Gd l ρ g c) (hT : boolT P T = true) (hx : Ev ρ c x (.bool b1)) (hy : Ev ρ c y (.bool b2))
    (h : Wo dr mc P n l K σ ((d, c, .bool (b1 == b2)) :: ρ) G μ) : Wo dr mc P n l K (i :: σ) ρ G μ :=
  .pure ho (.inl rfl) hg (fun hc a w ha => by
    unfold boolT at hT
    split at hT
    · rename_i hu
      have h1 : ∀ w, (Op.equalIn (9999 + 1) T (.bool b1) (.bool b2)).run P w = .ok (b1 == b2) w := fun w => by
        rw [Op.equalIn]; simp only [Sem.run_bind, run_underlying hu, Result.andThen_ok, Sem.run_pure]
      have h2 : (eqGuard .eql T x y (.bool b1) (.bool b2)).run P w = .ok () w := by unfold eqGuard; simp
      simp only [execOp, hx.eval ha hc, hy.eval ha hc, Sem.run_bind, h2, Result.andThen_ok, binOp, Op.equal, Op.maxDepth]
      rw [show (10000 : Nat) = 9999 + 1 from rfl, h1]
      rfl
    · cases hT) h
def cmpS : BinOp → ByteArray → ByteArray → Option Bool
  | .eql, x, y => some (x.toList == y.toList)
  | .neq, x, y => some (!(x.toList == y.toList))
  | .lss, x, y => some (Op.bytesLess x.toList y.toList)
  | .leq, x, y => some (Op.bytesLess x.toList y.toList || x.toList == y.toList)
  | .gtr, x, y => some (!(Op.bytesLess x.toList y.toList || x.toList == y.toList))
  | .geq, x, y => some (!(Op.bytesLess x.toList y.toList))
  | _, _, _ => none
theorem cs {op : BinOp} {T T' : TypeId} {x y : Operand} {s1 s2 : ByteArray} {r : Bool} (ho : nth l i = some ⟨some d, .binOp op T x y T', t, p, af, g⟩) (hg : Gd l ρ g c) (hx : Ev ρ c x (.string s1)) (hy : Ev ρ c y (.string s2)) (hr : cmpS op s1 s2 = some r)
    (h : Wo dr mc P n l K σ ((d, c, .bool r) :: ρ) G μ) : Wo dr mc P n l K (i :: σ) ρ G μ :=
  .pure ho (.inl rfl) hg (fun hc a w ha => by
    simp only [execOp, hx.eval ha hc, hy.eval ha hc]
    have : (eqGuard op T x y (.string s1) (.string s2)).run P w = .ok () w := by unfold eqGuard; cases op <;> simp
    cases op <;> simp only [cmpS, Option.some.injEq, reduceCtorEq] at hr <;> subst hr <;> simp [this, binOp, Op.stringOp]) h

/-! ## Lengths -/
theorem ln {T : TypeId} {x : Operand} {oa : Option Addr} {m cp : Nat} (ho : nth l i = some ⟨some d, .call { callee := .builtin .len, args := #[x], argTypes := #[T] }, t, p, af, g⟩) (hg : Gd l ρ g c) (hT : (slE P T).isSome = true) (hx : Ev ρ c x (.slice oa m cp))
    (h : Wo dr mc P n l K σ ((d, c, .int .i64 m) :: ρ) G μ) : Wo dr mc P n l K (i :: σ) ρ G μ :=
  .read ho (.inl rfl) hg (fun hc a w ha _ => by
    unfold slE at hT
    split at hT
    · rename_i e hu
      simp [execOp, resolve, invoke, builtin, hx.eval ha hc, Builtin.len_, run_underlying hu, goInt]
    · cases hT) h
def strT (P : Program) (T : TypeId) : Bool := match P.underlying T with | some .string => true | _ => false
theorem ls {T : TypeId} {x : Operand} {s : ByteArray} (ho : nth l i = some ⟨some d, .call { callee := .builtin .len, args := #[x], argTypes := #[T] }, t, p, af, g⟩) (hg : Gd l ρ g c) (hT : strT P T = true) (hx : Ev ρ c x (.string s))
    (h : Wo dr mc P n l K σ ((d, c, .int .i64 s.size) :: ρ) G μ) : Wo dr mc P n l K (i :: σ) ρ G μ :=
  .read ho (.inl rfl) hg (fun hc a w ha _ => by
    unfold strT at hT
    split at hT
    · rename_i hu
      simp [execOp, resolve, invoke, builtin, hx.eval ha hc, Builtin.len_, run_underlying hu, goInt]
    · cases hT) h
def minS (x y : ByteArray) : ByteArray := if Op.bytesLess x.toList y.toList || x.toList == y.toList then x else y
def maxS (x y : ByteArray) : ByteArray := if Op.bytesLess x.toList y.toList then y else x
theorem mi {T T' : TypeId} {x y : Operand} {s1 s2 : ByteArray} (ho : nth l i = some ⟨some d, .call { callee := .builtin .min, args := #[x, y], argTypes := #[T, T'] }, t, p, af, g⟩) (hg : Gd l ρ g c) (hx : Ev ρ c x (.string s1)) (hy : Ev ρ c y (.string s2))
    (h : Wo dr mc P n l K σ ((d, c, .string (minS s1 s2)) :: ρ) G μ) : Wo dr mc P n l K (i :: σ) ρ G μ :=
  .read ho (.inl rfl) hg (fun hc a w ha _ => by
    simp [execOp, resolve, invoke, builtin, hx.eval ha hc, hy.eval ha hc, Builtin.min_, Builtin.min2, Op.stringOp, asBool, minS]) h

/-! ## Addresses -/
theorem fa {s f k : Nat} {x : Operand} {b o : Nat} (ho : nth l i = some ⟨some d, .fieldAddr s x f, t, p, af, g⟩) (hg : Gd l ρ g c) (hF : fOff P s f = some k) (hx : Ev ρ c x (.pointer (some ⟨b, o, none⟩)))
    (h : Wo dr mc P n l K σ ((d, c, .pointer (some ⟨b, o + k, none⟩)) :: ρ) G μ) : Wo dr mc P n l K (i :: σ) ρ G μ :=
  .pure ho (.inl rfl) hg (fun hc a w ha => by
    unfold fOff at hF
    split at hF
    · rename_i fs hu
      split at hF
      · rename_i fl hfl
        split at hF
        · rename_i inf hi
          split at hF
          · cases hF
          · rename_i hz
            simp only [Option.some.injEq] at hF
            subst hF
            simp [execOp, hx.eval ha hc, Instr.fieldAt, run_underlying hu, hfl, Instr.sureAddr, fieldPlace, sizeOf, typeInfo, hi, hz, add_lit]
        · cases hF
      · cases hF
    · cases hF) h
/-- a field of what begins at a block's head -/
theorem fz {s f k : Nat} {x : Operand} {b : Nat} (ho : nth l i = some ⟨some d, .fieldAddr s x f, t, p, af, g⟩) (hg : Gd l ρ g c) (hF : fOff P s f = some k) (hx : Ev ρ c x (.pointer (some ⟨b, 0, none⟩)))
    (h : Wo dr mc P n l K σ ((d, c, .pointer (some ⟨b, k, none⟩)) :: ρ) G μ) : Wo dr mc P n l K (i :: σ) ρ G μ :=
  fa ho hg hF hx (by rw [Nat.zero_add]; exact h)
theorem slE_some {P : Program} {T e sz by' : Nat} (h : slE P T = some (e, sz, by')) : P.underlying T = some (.slice e) ∧ ∃ inf, P.info? e = some inf ∧ inf.size = sz ∧ inf.bytes = by' := by
  unfold slE at h
  split at h
  · rename_i e' hu
    cases hi : P.info? e' with
    | none => rw [hi] at h; cases h
    | some inf =>
      rw [hi] at h
      simp only [Option.map_some, Option.some.injEq, Prod.mk.injEq] at h
      obtain ⟨rfl, rfl, rfl⟩ := h
      exact ⟨hu, inf, hi, rfl, rfl⟩
  · cases h
theorem arE_some {P : Program} {T m e sz : Nat} (h : arE P T = some (m, e, sz)) : P.underlying T = some (.array m e) ∧ ∃ inf, P.info? e = some inf ∧ inf.size = sz := by
  unfold arE at h
  split at h
  · rename_i m' e' hu
    cases hi : P.info? e' with
    | none => rw [hi] at h; cases h
    | some inf =>
      rw [hi] at h
      simp only [Option.map_some, Option.some.injEq, Prod.mk.injEq] at h
      obtain ⟨rfl, rfl, rfl⟩ := h
      exact ⟨hu, inf, hi, rfl⟩
  · cases h
/-- '&xs[i]' of a slice -/
theorem ia {T e sz by' : Nat} {x y : Operand} {k : IntKind} {b o m cp : Nat} {j : Int} (ho : nth l i = some ⟨some d, .indexAddr T x y, t, p, af, g⟩) (hg : Gd l ρ g c) (hT : slE P T = some (e, sz, by')) (hx : Ev ρ c x (.slice (some ⟨b, o, none⟩) m cp)) (hy : Ev ρ c y (.int k j))
    (h0 : c = true → 0 ≤ j) (h1 : c = true → j < m) (h : Wo dr mc P n l K σ ((d, c, .pointer (some ⟨b, o + j.toNat * sz, none⟩)) :: ρ) G μ) : Wo dr mc P n l K (i :: σ) ρ G μ :=
  .pure ho (.inl rfl) hg (fun hc a w ha => by
    obtain ⟨hu, inf, hi, rfl, rfl⟩ := slE_some hT
    simp [execOp, hx.eval ha hc, hy.eval ha hc, Instr.indexAt, asIntOf, run_underlying hu, h0 hc, h1 hc, sizeOf, typeInfo, hi, add_lit]) h
/-- '&a[i]' of an array -/
theorem iA {T m e sz : Nat} {x y : Operand} {k : IntKind} {b o : Nat} {j : Int} (ho : nth l i = some ⟨some d, .indexAddr T x y, t, p, af, g⟩) (hg : Gd l ρ g c) (hT : arE P T = some (m, e, sz)) (hx : Ev ρ c x (.pointer (some ⟨b, o, none⟩))) (hy : Ev ρ c y (.int k j))
    (h0 : c = true → 0 ≤ j) (h1 : c = true → j < m) (h : Wo dr mc P n l K σ ((d, c, .pointer (some ⟨b, o + j.toNat * sz, none⟩)) :: ρ) G μ) : Wo dr mc P n l K (i :: σ) ρ G μ :=
  .pure ho (.inl rfl) hg (fun hc a w ha => by
    obtain ⟨hu, inf, hi, rfl⟩ := arE_some hT
    simp [execOp, hx.eval ha hc, hy.eval ha hc, Instr.indexAt, asIntOf, run_underlying hu, h0 hc, h1 hc, sizeOf, typeInfo, hi, add_lit, Instr.sureAddr]) h

/-! ## Loads, stores, new variables -/
theorem ld {T : TypeId} {x : Operand} {ad : Addr} {v : Value} (ho : nth l i = some ⟨some d, .load T x, t, p, af, g⟩) (hg : Gd l ρ g c) (hT : aggN P T = some none) (hx : Ev ρ c x (.pointer (some ad))) (hr : c = true → Rd G μ ad v)
    (h : Wo dr mc P n l K σ ((d, c, v) :: ρ) G μ) : Wo dr mc P n l K (i :: σ) ρ G μ :=
  .read ho (.inl rfl) hg (fun hc a w ha hs => by simp [execOp, hx.eval ha hc, Instr.loadAt, Instr.sureAddr, run_loadVar1 hT (hr hc w hs)]) h
theorem lA {T m : TypeId} {x : Operand} {b o : Nat} {cs : List Value} (ho : nth l i = some ⟨some d, .load T x, t, p, af, g⟩) (hg : Gd l ρ g c) (hT : aggN P T = some (some m)) (hx : Ev ρ c x (.pointer (some ⟨b, o, none⟩))) (hr : c = true → RdN G μ b o cs) (hn : c = true → cs.length = m)
    (h : Wo dr mc P n l K σ ((d, c, .agg cs.toArray) :: ρ) G μ) : Wo dr mc P n l K (i :: σ) ρ G μ :=
  .read ho (.inl rfl) hg (fun hc a w ha hs => by simp [execOp, hx.eval ha hc, Instr.loadAt, Instr.sureAddr, run_loadVarN hT (hr hc) (hn hc) hs]) h
theorem al {T : TypeId} {cs : List Value} (ho : nth l i = some ⟨some d, .alloc T, t, p, af, none⟩) (hz : zrL P T = some cs) (h : ∀ b, Wo dr mc P n l K σ ((d, true, .pointer (some ⟨b, 0, none⟩)) :: ρ) G (.blk b (cl cs T) :: μ)) : Wo dr mc P n l K (i :: σ) ρ G μ := by
  unfold zrL at hz
  cases hz1 : (P.info? T).bind (·.zero) with
  | none => rw [hz1] at hz; cases hz
  | some z =>
    rw [hz1] at hz
    simp only [Option.map_some, Option.some.injEq] at hz
    subst hz
    refine .make (ob := cl z.cells.toList T) (mkv := fun b => .pointer (some ⟨b, 0, none⟩)) ho (.inl rfl) rfl (fun e w => ?_) h
    rw [run_alloc hz1]
theorem bx {T : TypeId} {x : Operand} {v : Value} {cs : List Value} (ho : nth l i = some ⟨some d, .box T x, t, p, af, none⟩) (hx : Ev ρ true x v) (hv : v.cells = cs.toArray) (h : ∀ b, Wo dr mc P n l K σ ((d, true, .pointer (some ⟨b, 0, none⟩)) :: ρ) G (.blk b (cl cs T) :: μ)) : Wo dr mc P n l K (i :: σ) ρ G μ :=
  .box (ob := cl cs T) (mkv := fun b => .pointer (some ⟨b, 0, none⟩)) ho (.inl rfl) rfl (fun a w ha => by simp [execOp, hx.eval ha rfl, Instr.box, newVar, newRow, hv, cl]) h

/-- What a store leaves of a row. -/
def put (cs : List Value) (o : Nat) (vs : List Value) : List Value := cs.take o ++ vs ++ cs.drop (o + vs.length)
theorem Tr.setRow {G : PM} {w : World} {b : Nat} {cs cs' : List Value} {T : TypeId} (h : Sat G [.blk b (cl cs T)] w) : Tr G [b] w G [.blk b (cl cs' T)] (w.setRow b cs'.toArray) := by
  have hb : w.heap[b]? = some (cl cs T) := h.own _ (List.mem_singleton.2 rfl)
  have hG : G b = none := h.apart b (by simp [keys, Res.keys])
  refine ⟨⟨fun k o hk => ?_, ?_, fun k hk => ?_, by simp [keys, Res.keys]⟩, rfl, rfl, rfl, by simp, fun k _ hk => ⟨setRow_other w b k _ (by simpa using hk), rfl⟩, fun k hk => .inl (by simpa [keys, Res.keys] using hk), fun _ _ _ h => h⟩
  · rw [setRow_other w b k _ (fun e => by subst e; rw [hG] at hk; cases hk)]; exact h.sub k o hk
  · intro r hr
    rw [List.mem_singleton.1 hr]
    exact setRow_heap w b cs.toArray cs'.toArray T (0, 0) hb
  · simp only [keys, Res.keys, List.flatMap_cons, List.flatMap_nil, List.append_nil, List.mem_singleton] at hk
    rw [hk]; exact hG
theorem st {T T' : TypeId} {x y : Operand} {b o : Nat} {v : Value} {cs vs : List Value} {μ' : Mem} (ho : nth l i = some ⟨none, .store T x y, t, p, af, none⟩) (hx : Ev ρ true x (.pointer (some ⟨b, o, none⟩))) (hy : Ev ρ true y v) (hv : v.cells = vs.toArray) (hz : szT P T = some vs.length)
    (hm : MTake μ (.blk b (cl cs T')) μ') (hl : o + vs.length ≤ cs.length) (h1 : ∀ u ∈ vs, u.oneCell' = true) (h : Wo dr mc P n l K σ ρ G (.blk b (cl (put cs o vs) T') :: μ')) : Wo dr mc P n l K (i :: σ) ρ G μ := by
  refine .act (μ₁ := [.blk b (cl cs T')]) (μ₂ := μ') (post := fun G' μ' v => G' = G ∧ μ' = [.blk b (cl (put cs o vs) T')] ∧ v = undef) ho (.inl rfl) .no hm.perm (fun a w ha hs => .inl ?_) ?_
  · have hs' := hs.left
    have hb : w.heap[b]? = some (cl cs T') := hs'.own _ (List.mem_singleton.2 rfl)
    refine ⟨undef, w.setRow b (put cs o vs).toArray, G, _, .inr ⟨?_, rfl⟩, Tr.setRow hs', rfl, rfl, rfl⟩
    cases hi : P.info? T with
    | none => simp [szT, hi] at hz
    | some inf =>
      simp only [szT, hi, Option.map_some, Option.some.injEq] at hz
      have := run_storeCells_at P b o T' vs 0 cs.toArray w hb (by simpa using hl) h1
      simp only [Nat.add_zero] at this
      simp [execOp, hx.eval ha rfl, hy.eval ha rfl, Instr.storeAt, Instr.sureAddr, storeVar, hv, sizeOf, typeInfo, hi, hz, this, put]
  · rintro v G' μ'' _ ⟨rfl, rfl, rfl⟩
    exact h
/-- a whole variable is overwritten -/
theorem sw {T T' : TypeId} {x y : Operand} {b : Nat} {v : Value} {cs vs : List Value} {μ' : Mem} (ho : nth l i = some ⟨none, .store T x y, t, p, af, none⟩) (hx : Ev ρ true x (.pointer (some ⟨b, 0, none⟩))) (hy : Ev ρ true y v) (hv : v.cells = vs.toArray) (hz : szT P T = some vs.length)
    (hm : MTake μ (.blk b (cl cs T')) μ') (hl : vs.length = cs.length) (h1 : ∀ u ∈ vs, u.oneCell' = true) (h : Wo dr mc P n l K σ ρ G (.blk b (cl vs T') :: μ')) : Wo dr mc P n l K (i :: σ) ρ G μ := by
  refine st ho hx hy hv hz hm (by omega) h1 ?_
  have : put cs 0 vs = vs := by simp [put, hl]
  rw [this]; exact h
/-- one cell is overwritten -/
theorem s1 {T T' : TypeId} {x y : Operand} {b o : Nat} {v : Value} {cs cs' : List Value} {μ' : Mem} (ho : nth l i = some ⟨none, .store T x y, t, p, af, none⟩) (hx : Ev ρ true x (.pointer (some ⟨b, o, none⟩))) (hy : Ev ρ true y v) (hv : v.oneCell' = true) (hz : szT P T = some 1)
    (hm : MTake μ (.blk b (cl cs T')) μ') (hl : o < cs.length) (hcs : cs.set o v = cs') (h : Wo dr mc P n l K σ ρ G (.blk b (cl cs' T') :: μ')) : Wo dr mc P n l K (i :: σ) ρ G μ := by
  have hv' : v.cells = [v].toArray := by cases v <;> first | rfl | cases hv
  refine st ho hx hy hv' hz hm (by simp only [List.length_singleton]; omega) (fun u hu => by rw [List.mem_singleton.1 hu]; exact hv) ?_
  have : put cs o [v] = cs' := by rw [← hcs, List.set_eq_take_append_cons_drop, if_pos hl]; simp [put]
  rw [this]; exact h

/-! ## Values of many cells -/
theorem bd {T : TypeId} {ps : List (Nat × Operand)} {vs : List (Nat × Value)} {cs : List Value} (ho : nth l i = some ⟨some d, .build T ps.toArray, t, p, af, g⟩) (hg : Gd l ρ g c) (hv : ∀ a, Ag n ρ a → c = true → ps.map (fun q => (q.1, a.eval q.2)) = vs) (hb : (P.built T vs).map (·.toList) = some cs)
    (h : Wo dr mc P n l K σ ((d, c, .agg cs.toArray) :: ρ) G μ) : Wo dr mc P n l K (i :: σ) ρ G μ :=
  .pure ho (.inl rfl) hg (fun hc a w ha => by
    have h1 := hv a ha hc
    cases hbb : P.built T vs with
    | none => rw [hbb] at hb; cases hb
    | some r =>
      rw [hbb] at hb
      simp only [Option.map_some, Option.some.injEq] at hb
      subst hb
      have h2 := run_build (P := P) w T (ps.toArray.map fun q => (q.1, a.eval q.2)) r (by simpa [h1] using hbb)
      simp only [execOp, Sem.run_bind]
      rw [h2]; simp) h
theorem Evs.nil {ρ : Env} {n : Nat} {c : Bool} : ∀ a, Ag n ρ a → c = true → ([] : List (Nat × Operand)).map (fun q => (q.1, a.eval q.2)) = [] := fun _ _ _ => rfl
theorem Evs.cons {ρ : Env} {n : Nat} {c : Bool} {j : Nat} {x : Operand} {v : Value} {ps : List (Nat × Operand)} {vs : List (Nat × Value)} (hx : Ev ρ c x v) (h : ∀ a, Ag n ρ a → c = true → ps.map (fun q => (q.1, a.eval q.2)) = vs) :
    ∀ a, Ag n ρ a → c = true → ((j, x) :: ps).map (fun q => (q.1, a.eval q.2)) = (j, v) :: vs := fun a ha hc => by simp [hx.eval ha hc]; simpa using h a ha hc

/-! ## Calls -/
theorem Eva.nil {ρ : Env} {n : Nat} {c : Bool} : ∀ a, Ag n ρ a → c = true → ([] : List Operand).map a.eval = [] := fun _ _ _ => rfl
theorem Eva.cons {ρ : Env} {n : Nat} {c : Bool} {x : Operand} {v : Value} {ps : List Operand} {vs : List Value} (hx : Ev ρ c x v) (h : ∀ a, Ag n ρ a → c = true → ps.map a.eval = vs) :
    ∀ a, Ag n ρ a → c = true → (x :: ps).map a.eval = v :: vs := fun a ha hc => by simp [hx.eval ha hc]; simpa using h a ha hc
def goFn (P : Program) (f : FuncId) : Bool := match P.funcs[f]? with | some fn => !(fn.name == "runtime.NumGoroutine") && fn.body.isSome | none => false
theorem run_callFunc {P : Program} {f : FuncId} {vs : Array Value} (hf : goFn P f = true) (w : World) : (callFunc f vs).run P w = .ok (.enter f vs) w := by
  unfold goFn at hf
  split at hf
  · rename_i fn h1
    simp only [Bool.and_eq_true, Bool.not_eq_true'] at hf
    unfold callFunc
    cases hb : fn.body with
    | none => rw [hb] at hf; simp at hf
    | some c => have h2 : ¬ fn.name = "runtime.NumGoroutine" := by have := hf.1; simpa using this
                simp [h1, hb, h2]
  · cases hf
theorem run_call {P : Program} {f : FuncId} {xs : List Operand} {tys : Array TypeId} {vs : List Value} {a : Act} (hf : goFn P f = true) (hv : xs.map a.eval = vs) (d : Option Nat) (t : TypeId) (p : String) (af : Array Edge) (g : Option (Nat × Bool)) (w : World) :
    (execOp a.eval ⟨d, .call { callee := .value (.func f), args := xs.toArray, argTypes := tys }, t, p, af, g⟩).run P w = .ok (.enter f vs.toArray) w := by
  simp [execOp, resolve, Deferred.ofValue, Act.eval, invoke, run_callFunc hf]
  simpa using hv
/-- a call that is known to answer a value -/
theorem kv {f : FuncId} {xs : List Operand} {tys : Array TypeId} {vs : List Value} {v : Value} (ho : nth l i = some ⟨some d, .call { callee := .value (.func f), args := xs.toArray, argTypes := tys }, t, p, af, g⟩) (hg : Gd l ρ g c) (hf : goFn P f = true)
    (hv : ∀ a, Ag n ρ a → c = true → xs.map a.eval = vs) (hk : c = true → Ct P f vs.toArray G [] fun _ μ' u => μ' = [] ∧ u = v) (h : Wo dr mc P n l K σ ((d, c, v) :: ρ) G μ) : Wo dr mc P n l K (i :: σ) ρ G μ :=
  .callv ho (by rcases mc with ⟨_ | _, _⟩ <;> simp [kindOf]) hg (fun hc a w ha => run_call hf (hv a ha hc) _ _ _ _ _ w) (fun hc _ hs => ⟨hs.sub, hk hc⟩) h
/-- memory that stays, and blocks of one's own that stay for the time of a call -/
structure GpR (G : PM) (μ : Mem) (Gp : PM) (Q : Prop) : Prop where
  ok : ∀ w, Sat G μ w → PM.le G Gp ∧ Q ∧ (∀ b o, Gp b = some o → w.heap[b]? = some o) ∧ ∀ b, b ∉ keys μ → Gp b = G b
/-- the same, where the callee reads memory that is one's own -/
theorem kp {f : FuncId} {xs : List Operand} {tys : Array TypeId} {vs : List Value} {v : Value} {Gp : PM} {Q : Prop} (ho : nth l i = some ⟨some d, .call { callee := .value (.func f), args := xs.toArray, argTypes := tys }, t, p, af, g⟩) (hg : Gd l ρ g c) (hf : goFn P f = true)
    (hv : ∀ a, Ag n ρ a → c = true → xs.map a.eval = vs) (hp : GpR G μ Gp Q) (hk : c = true → PM.le G Gp → Q → Ct P f vs.toArray Gp [] fun _ μ' u => μ' = [] ∧ u = v) (h : Wo dr mc P n l K σ ((d, c, v) :: ρ) G μ) : Wo dr mc P n l K (i :: σ) ρ G μ :=
  .callv ho (by rcases mc with ⟨_ | _, _⟩ <;> simp [kindOf]) hg (fun hc a w ha => run_call hf (hv a ha hc) _ _ _ _ _ w) (fun hc w hs => ⟨(hp.ok w hs).2.2.1, hk hc (hp.ok w hs).1 (hp.ok w hs).2.1⟩) h
theorem Gp.nil {G : PM} {μ : Mem} : GpR G μ G True := ⟨fun _ hs => ⟨PM.le.refl G, trivial, hs.sub, fun _ _ => rfl⟩⟩
theorem Gp.add {G G1 : PM} {μ μ' : Mem} {b : Nat} {o : Obj} {Q : Prop} (hm : MTake μ (.blk b o) μ') (h : GpR G μ' G1 Q) : GpR G μ (G1.add b o) (PM.le G1 (G1.add b o) ∧ Q) := by
  refine ⟨fun w hs => ?_⟩
  have hs2 := hs.perm hm.perm
  have hk : keys (.blk b o :: μ') = b :: keys μ' := by simp [keys, Res.keys]
  have hs' : Sat G μ' w := Sat.left (ν := [.blk b o]) (hs2.perm (List.perm_append_comm (l₁ := [Res.blk b o])))
  obtain ⟨h1, h2, h3, h4⟩ := h.ok w hs'
  have hb : w.heap[b]? = some o := hs2.own _ (List.mem_cons_self ..)
  have hGb : G b = none := hs2.apart b (by rw [hk]; exact List.mem_cons_self ..)
  have hnb : b ∉ keys μ' := by have := hs2.nodup; rw [hk] at this; exact (List.nodup_cons.1 this).1
  have hle : PM.le G1 (G1.add b o) := PM.le_add (by rw [h4 b hnb]; exact hGb)
  refine ⟨h1.trans hle, ⟨hle, h2⟩, fun c u hc => ?_, fun c hc => ?_⟩
  · unfold PM.add at hc
    split at hc
    · rename_i e; subst e; cases hc; exact hb
    · exact h3 c u hc
  · have hc' : c ≠ b ∧ c ∉ keys μ' := by
      have h5 : c ∉ b :: keys μ' := fun hm' => hc ((keys_perm hm.perm).mem_iff.2 (by rw [hk]; exact hm'))
      simpa using h5
    unfold PM.add
    rw [if_neg hc'.1]
    exact h4 c hc'.2
/-- a call whose answer its contract tells of -/
theorem kc {f : FuncId} {xs : List Operand} {tys : Array TypeId} {vs : List Value} {post : PM → Mem → Value → Prop} {dd : Option Nat} (ho : nth l i = some ⟨dd, .call { callee := .value (.func f), args := xs.toArray, argTypes := tys }, t, p, af, none⟩) (hf : goFn P f = true)
    (hv : ∀ a, Ag n ρ a → true = true → xs.map a.eval = vs) (hk : Ct P f vs.toArray G [] post) (h : ∀ v G' μ', PM.le G G' → post G' μ' v → Wo dr mc P n l K σ (lay ρ dd true v) G' (μ' ++ μ)) : Wo dr mc P n l K (i :: σ) ρ G μ :=
  .call ho (by rcases mc with ⟨_ | _, _⟩ <;> simp [kindOf]) .no (fun a w ha => run_call hf (hv a ha rfl) _ _ _ _ _ w) hk h
/-- the same, under a guard that is known to hold -/
theorem kcg {f : FuncId} {xs : List Operand} {tys : Array TypeId} {vs : List Value} {post : PM → Mem → Value → Prop} {dd : Option Nat} (ho : nth l i = some ⟨dd, .call { callee := .value (.func f), args := xs.toArray, argTypes := tys }, t, p, af, g⟩) (hg : Gd l ρ g true) (hf : goFn P f = true)
    (hv : ∀ a, Ag n ρ a → true = true → xs.map a.eval = vs) (hk : Ct P f vs.toArray G [] post) (h : ∀ v G' μ', PM.le G G' → post G' μ' v → Wo dr mc P n l K σ (lay ρ dd true v) G' (μ' ++ μ)) : Wo dr mc P n l K (i :: σ) ρ G μ :=
  .call ho (by rcases mc with ⟨_ | _, _⟩ <;> simp [kindOf]) hg (fun a w ha => run_call hf (hv a ha rfl) _ _ _ _ _ w) hk h
/-- a call that works on memory of one's own -/
theorem ka {f : FuncId} {xs : List Operand} {tys : Array TypeId} {vs : List Value} {μ₁ μ₂ : Mem} {post : PM → Mem → Value → Prop} {dd : Option Nat} (ho : nth l i = some ⟨dd, .call { callee := .value (.func f), args := xs.toArray, argTypes := tys }, t, p, af, none⟩) (hm : mc.c = true ∨ dr = false) (hf : goFn P f = true)
    (hv : ∀ a, Ag n ρ a → true = true → xs.map a.eval = vs) (hp : μ.Perm (μ₁ ++ μ₂)) (hk : Ct P f vs.toArray G μ₁ post) (h : ∀ v G' μ', PM.le G G' → post G' μ' v → Wo dr mc P n l K σ (lay ρ dd true v) G' (μ' ++ μ₂)) : Wo dr mc P n l K (i :: σ) ρ G μ :=
  .act ho (by rcases hm with h | rfl <;> simp_all [kindOf]) .no hp (fun a w ha _ => .inr ⟨f, _, run_call hf (hv a ha rfl) _ _ _ _ _ w, hk⟩) h
/-- the same, under a guard that is known to hold -/
theorem kag {f : FuncId} {xs : List Operand} {tys : Array TypeId} {vs : List Value} {μ₁ μ₂ : Mem} {post : PM → Mem → Value → Prop} {dd : Option Nat} (ho : nth l i = some ⟨dd, .call { callee := .value (.func f), args := xs.toArray, argTypes := tys }, t, p, af, g⟩) (hg : Gd l ρ g true) (hm : mc.c = true ∨ dr = false) (hf : goFn P f = true)
    (hv : ∀ a, Ag n ρ a → true = true → xs.map a.eval = vs) (hp : μ.Perm (μ₁ ++ μ₂)) (hk : Ct P f vs.toArray G μ₁ post) (h : ∀ v G' μ', PM.le G G' → post G' μ' v → Wo dr mc P n l K σ (lay ρ dd true v) G' (μ' ++ μ₂)) : Wo dr mc P n l K (i :: σ) ρ G μ :=
  .act ho (by rcases hm with h | rfl <;> simp_all [kindOf]) hg hp (fun a w ha _ => .inr ⟨f, _, run_call hf (hv a ha rfl) _ _ _ _ _ w, hk⟩) h
end
end Go.Tan
