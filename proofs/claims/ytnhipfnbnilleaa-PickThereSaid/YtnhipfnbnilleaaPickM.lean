/- The data of the version and pick layers as plain data, and what the document says of them. No condition. -/
import Derived.Test.YtnhipfnbnilleaaTanE
namespace Go.Tan
/-- A sentence as a bool. -/
noncomputable def B (p : Prop) : Bool := @decide p (Classical.propDecidable p)
theorem B_iff {p : Prop} : B p = true ↔ p := by unfold B; exact @decide_eq_true_iff p (Classical.propDecidable p)
theorem B_true {p : Prop} (h : p) : B p = true := B_iff.2 h
theorem B_false {p : Prop} (h : ¬ p) : B p = false := by
  cases hb : B p with
  | false => rfl
  | true => exact absurd (B_iff.1 hb) h
theorem B_not {p : Prop} (h : B p = false) : ¬ p := fun hp => by rw [B_true hp] at h; cases h

structure Opts where
  mem : Int
  table : Int
  zero : Int
  base : Int
  block : Int
  every : Int
  bits : Int
def Opts.cells (o : Opts) : List Value := [.int .i64 o.mem, .int .i64 o.table, .int .i64 o.zero, .int .i64 o.base, .int .i64 o.block, .int .i64 o.every, .int .i64 o.bits]
def Opts.val (o : Opts) : Value := .agg o.cells.toArray
def within (n m : Int) : Bool := decide (0 < n) && decide (n ≤ m)
def rightO (o : Opts) : Bool :=
  within o.mem 1048576 && within o.table 1048576 && within o.block 262144 && within o.zero 64 && within o.base 1073741824 && within o.every 1024 && within o.bits 64
theorem rightO_base {o : Opts} (h : rightO o = true) : 0 < o.base ∧ o.base ≤ 1073741824 := by
  simp only [rightO, within, Bool.and_eq_true, decide_eq_true_eq] at h; omega
def limit (o : Opts) (level : Int) : Int := if level < 1 ∨ 3 < level ∨ rightO o = false then 0 else o.base * 4 ^ (level - 1).toNat

theorem lim_shl {o : Opts} {level : Int} (h1 : 1 ≤ level) (h2 : level ≤ 3) (h : rightO o = true) : tup [.int .i64 (IntKind.i64.wrap (o.base * 2 ^ (min (2 * (level - 1)).toNat IntKind.i64.bits)))] = .int .i64 (limit o level) := by
  have hb := rightO_base h
  have : level = 1 ∨ level = 2 ∨ level = 3 := by omega
  rw [limit, if_neg (by simp [h]; omega)]
  rcases this with rfl | rfl | rfl
  · show Value.int .i64 (IntKind.i64.wrap (o.base * 2 ^ 0)) = .int .i64 (o.base * 4 ^ 0)
    rw [wrap_i64 (by omega) (by omega)]; rfl
  · show Value.int .i64 (IntKind.i64.wrap (o.base * 2 ^ 2)) = .int .i64 (o.base * 4 ^ 1)
    rw [wrap_i64 (by omega) (by omega)]; rfl
  · show Value.int .i64 (IntKind.i64.wrap (o.base * 2 ^ 4)) = .int .i64 (o.base * 4 ^ 2)
    rw [wrap_i64 (by omega) (by omega)]; rfl

theorem rightO_perm (o : Opts) : (within o.mem 1048576 && within o.table 1048576 && within o.zero 64 && within o.base 1073741824 && within o.block 262144 && within o.every 1024 && within o.bits 64) = rightO o := by
  unfold rightO
  cases within o.zero 64 <;> cases within o.base 1073741824 <;> cases within o.block 262144 <;> simp

theorem pow_small (o : Opts) (k : Nat) (h : rightO o = true) (hk : (k : Int) ≤ 2) : 0 ≤ o.base * 4 ^ k ∧ o.base * 4 ^ k ≤ 17179869184 := by
  have hb := rightO_base h
  match k, hk with
  | 0, _ => simp; omega
  | 1, _ => simp; omega
  | 2, _ => simp; omega
  | n + 3, hk => omega
theorem lim_fin {o : Opts} {level : Int} {k : Nat} (h1 : 1 ≤ level) (h2 : level ≤ 3) (h : rightO o = true) (hk : (k : Int) + 1 = level) : Value.int .i64 (o.base * 4 ^ k) = .int .i64 (limit o level) := by
  rw [limit, if_neg (by simp [h]; omega), show (level - 1).toNat = k by omega]

structure Meta where
  level : Int
  gen : Int
  epoch : Int
  number : Int
  size : Int
  count : Int
  min : ByteArray
  max : ByteArray
  root : Nat → Int
def Meta.cells (m : Meta) : List Value :=
  [.int .u8 m.level, .int .u64 m.gen, .int .u64 m.epoch, .int .u64 m.number, .int .i64 m.size, .int .i64 m.count, .string m.min, .string m.max] ++ (List.range 32).map fun i => .int .u8 (m.root i)
def Meta.val (m : Meta) : Value := .agg m.cells.toArray
def Meta.zero : Meta := ⟨0, 0, 0, 0, 0, 0, ByteArray.empty, ByteArray.empty, fun _ => 0⟩
theorem Meta.len (m : Meta) : m.cells.length = 40 := rfl
theorem Meta.one (m : Meta) : ∀ u ∈ m.cells, u.oneCell' = true := by
  intro u hu
  simp only [Meta.cells, List.mem_append, List.mem_cons, List.not_mem_nil, or_false, List.mem_map] at hu
  rcases hu with (rfl | rfl | rfl | rfl | rfl | rfl | rfl | rfl) | ⟨i, _, rfl⟩ <;> rfl
structure Meta.wf (m : Meta) : Prop where
  level : 0 ≤ m.level ∧ m.level < 256
  number : 0 ≤ m.number ∧ m.number < 18446744073709551616
  size : -9223372036854775808 ≤ m.size ∧ m.size ≤ 9223372036854775807
  minL : m.min.size ≤ 9223372036854775807
  maxL : m.max.size ≤ 9223372036854775807
  gen : 0 ≤ m.gen ∧ m.gen ≤ 18446744073709551615
  epoch : 0 ≤ m.epoch ∧ m.epoch ≤ 18446744073709551615
  count : -9223372036854775808 ≤ m.count ∧ m.count ≤ 9223372036854775807
  root : ∀ j, j < 32 → 0 ≤ m.root j ∧ m.root j ≤ 255

structure State where
  lv : Nat → List Meta
  log : Int
  next : Int
  seq : Int
  least : Int
  gens : Nat → Int
def State.cells (s : State) (hd : Nat → Sh) : List Value :=
  (List.range 5).map (fun i => (hd i).val (s.lv i).length) ++ [.int .u64 s.log, .int .u64 s.next, .int .u64 s.seq, .int .u64 s.least] ++ (List.range 5).map fun i => .int .u64 (s.gens i)
def State.val (s : State) (hd : Nat → Sh) : Value := .agg (s.cells hd).toArray
theorem State.cell_lv (s : State) (hd : Nat → Sh) {k : Nat} (h : k < 5) : (s.cells hd)[0 + k * 1]? = some ((hd k).val (s.lv k).length) := by
  match k, h with
  | 0, _ => rfl | 1, _ => rfl | 2, _ => rfl | 3, _ => rfl | 4, _ => rfl
theorem State.cell_gen (s : State) (hd : Nat → Sh) {k : Nat} (h : k < 5) : (s.cells hd)[9 + k * 1]? = some (.int .u64 (s.gens k)) := by
  match k, h with
  | 0, _ => rfl | 1, _ => rfl | 2, _ => rfl | 3, _ => rfl | 4, _ => rfl
/-- A state's tables lie in memory that stays. -/
structure StR (G : PM) (s : State) (hd : Nat → Sh) : Prop where
  lv : ∀ i, i < 5 → SlR G 40 Meta.cells (hd i) (s.lv i)
  len : ∀ i, i < 5 → (s.lv i).length * 112 ≤ 140737488351232
  wf : ∀ i, i < 5 → ∀ m ∈ s.lv i, m.wf
theorem StR.mono {G G' : PM} {s : State} {hd : Nat → Sh} (h : StR G s hd) (hle : PM.le G G') : StR G' s hd := ⟨fun i hi => (h.lv i hi).mono hle, h.len, h.wf⟩
theorem SlR.get {G : PM} {h : Sh} {xs : List Meta} (s : SlR G 40 Meta.cells h xs) {k : Nat} (hk : k < xs.length) : RdNP G h.b (h.o + k * 40) (xs.getD k Meta.zero).cells :=
  s.rd k _ (by simp [hk])
theorem SlR.gat {G : PM} {h : Sh} {xs : List Meta} (s : SlR G 40 Meta.cells h xs) {j : Int} (k : Nat) (hj : j.toNat = k) (hk : k < xs.length) : RdNP G h.b (h.o + j.toNat * 40) (xs.getD k Meta.zero).cells := by
  rw [hj]; exact s.get hk
theorem getD_mem {xs : List Meta} {k : Nat} (h : k < xs.length) : xs.getD k Meta.zero ∈ xs := by simp [h]

def lt (a b : ByteArray) : Bool := Op.bytesLess a.toList b.toList
def le (a b : ByteArray) : Bool := Op.bytesLess a.toList b.toList || a.toList == b.toList
/-- P18.1: a meta that is right for a state. -/
def good (s : State) (m : Meta) : Bool :=
  decide (m.level < 5) && le m.min m.max && decide ((m.min.size : Int) ≤ 1024) && decide ((m.max.size : Int) ≤ 1024) && decide (m.count ≥ 1) && decide (m.size ≥ 1) && decide (m.number < s.next) && decide (m.gen ≤ s.gens m.level.toNat)
/-- May a table stand ahead of another one, on a level? -/
def pairOk (level : Int) (a b : Meta) : Bool := if level = 0 then decide (b.number < a.number) else lt a.max b.min

theorem stands_eq (a b : Meta) (h0 : 0 ≤ a.level) : (if (a.level == 0) = true then decide (a.number > b.number) else lt a.max b.min) = pairOk a.level a b := by
  unfold pairOk
  by_cases h : a.level = 0
  · simp [h]
  · simp [h]
theorem bmax (a b : Int) : (if b > a then b else a) > 1024 ↔ ¬ (a ≤ 1024 ∧ b ≤ 1024) := by split <;> omega

theorem fits_fin {s : State} {m : Meta} (h1 : m.level < 5) (h2 : (!(Op.bytesLess m.min.toList m.max.toList || m.min.toList == m.max.toList)) = false)
    (h3 : (if ((m.max.size : Nat) : Int) > ((m.min.size : Nat) : Int) then ((m.max.size : Nat) : Int) else ((m.min.size : Nat) : Int)) ≤ 1024) (h4 : 1 ≤ m.count) (h5 : 1 ≤ m.size) :
    tup [.bool (decide (m.number < s.next) && decide (m.gen ≤ s.gens m.level.toNat))] = .bool (good s m) := by
  have h2' : le m.min m.max = true := by unfold le; cases h : (Op.bytesLess m.min.toList m.max.toList || m.min.toList == m.max.toList) <;> simp_all
  have h6 : ((m.min.size : Nat) : Int) ≤ 1024 ∧ ((m.max.size : Nat) : Int) ≤ 1024 := by split at h3 <;> omega
  simp only [tup, good, h2', decide_eq_true h1, decide_eq_true h6.1, decide_eq_true h6.2, decide_eq_true (show m.count ≥ 1 from h4), decide_eq_true (show m.size ≥ 1 from h5), Bool.true_and]
/-- How many tables the first levels have. -/
def tot (s : State) : Nat → Int
  | 0 => 0
  | n + 1 => tot s n + (s.lv n).length
theorem tot_nonneg (s : State) : ∀ n, 0 ≤ tot s n
  | 0 => Int.le_refl _
  | n + 1 => by have := tot_nonneg s n; simp only [tot]; omega
theorem tot_mono (s : State) : ∀ {n m : Nat}, n ≤ m → tot s n ≤ tot s m := by
  intro n m h
  induction h with
  | refl => exact Int.le_refl _
  | step _ ih => simp only [tot]; omega
def nums (l : List Meta) : List Int := l.map (·.number)
def allM (s : State) : Nat → List Meta
  | 0 => []
  | n + 1 => allM s n ++ s.lv n
theorem allM_len (s : State) : ∀ n, ((allM s n).length : Int) = tot s n
  | 0 => rfl
  | n + 1 => by simp only [allM, tot, List.length_append, ← allM_len s n]; omega
theorem mem_allM {s : State} {m : Meta} : ∀ {n : Nat}, m ∈ allM s n ↔ ∃ i, i < n ∧ m ∈ s.lv i
  | 0 => by simp [allM]
  | n + 1 => by
    simp only [allM, List.mem_append, mem_allM (n := n)]
    constructor
    · rintro (⟨i, hi, hm⟩ | hm)
      · exact ⟨i, by omega, hm⟩
      · exact ⟨n, by omega, hm⟩
    · rintro ⟨i, hi, hm⟩
      by_cases h : i = n
      · subst h; exact .inr hm
      · exact .inl ⟨i, by omega, hm⟩
/-- A level's tables are right and stand as they must. -/
def LvOk (s : State) (i : Nat) (l : List Meta) : Prop :=
  (∀ m ∈ l, m.level = i ∧ good s m = true) ∧ ∀ j, j + 1 < l.length → pairOk i (l.getD j Meta.zero) (l.getD (j + 1) Meta.zero) = true
/-- P18.1. -/
structure RightP (s : State) : Prop where
  seq : s.seq ≤ 72057594037927935
  least : s.least ≤ 72057594037927935
  log : s.log ≤ s.next
  few : tot s 5 ≤ 1024
  lv : ∀ i, i < 5 → LvOk s i (s.lv i)
  apart : ∀ a b, a < (allM s 5).length → b < a → ((allM s 5).getD a Meta.zero).number ≠ ((allM s 5).getD b Meta.zero).number
noncomputable def rightS (s : State) : Bool := B (RightP s)
theorem rightS_true {s : State} (h : RightP s) : rightS s = true := B_true h
theorem rightS_false {s : State} (h : ¬ RightP s) : rightS s = false := B_false h
theorem rightP_of {s : State} (h : rightS s = true) : RightP s := B_iff.1 h

noncomputable def ordB (level : Int) (l : List Meta) : Bool := B (∀ j, j + 1 < l.length → pairOk level (l.getD j Meta.zero) (l.getD (j + 1) Meta.zero) = true)
theorem ordB_iff {level : Int} {l : List Meta} : ordB level l = true ↔ ∀ j, j + 1 < l.length → pairOk level (l.getD j Meta.zero) (l.getD (j + 1) Meta.zero) = true := B_iff
/-- The document's test of two tables that stand side by side. -/
def wrongPair (level : Int) (a b : Meta) : Bool :=
  (level == 0) && decide (a.number ≤ b.number) || (decide (level > 0) && !(lt a.max b.min))
theorem wrongPair_eq {level : Int} (h0 : 0 ≤ level) (a b : Meta) : wrongPair level a b = !pairOk level a b := by
  unfold wrongPair pairOk
  by_cases h : level = 0
  · subst h; by_cases hh : b.number < a.number <;> simp [hh] <;> omega
  · have : level > 0 := by omega
    simp [h, this]
theorem wrong_of {level : Int} {a b : Meta} {r : Bool} (h0 : 0 ≤ level) (h : ((level == 0) && decide (a.number ≤ b.number) || (decide (level > 0) && !(Op.bytesLess a.max.toList b.min.toList))) = r) : pairOk level a b = !r := by
  rw [← h]; show _ = !(wrongPair level a b); rw [wrongPair_eq h0]; simp
theorem ord_true {level : Int} {l : List Meta} {k : Nat} (h : l.length ≤ k) (hall : ∀ j, j + 1 < k → pairOk level (l.getD j Meta.zero) (l.getD (j + 1) Meta.zero) = true) : tup [.bool true] = .bool (ordB level l) := by
  have : ordB level l = true := ordB_iff.2 fun j hj => hall j (by omega)
  rw [this]; rfl
theorem ord_false {level : Int} {l : List Meta} {k : Nat} (h1 : 1 ≤ k) (h2 : k < l.length) (hw : pairOk level (l.getD (k - 1) Meta.zero) (l.getD k Meta.zero) = false) : tup [.bool false] = .bool (ordB level l) := by
  have : ordB level l = false := by
    refine B_false fun hh => ?_
    have := hh (k - 1) (by omega)
    rw [show k - 1 + 1 = k by omega] at this
    rw [this] at hw; cases hw
  rw [this]; rfl
theorem ord_step {level : Int} {l : List Meta} {k : Nat} (hall : ∀ j, j + 1 < k → pairOk level (l.getD j Meta.zero) (l.getD (j + 1) Meta.zero) = true) (h1 : 1 ≤ k) (hw : pairOk level (l.getD (k - 1) Meta.zero) (l.getD k Meta.zero) = true) :
    ∀ j, j + 1 < k + 1 → pairOk level (l.getD j Meta.zero) (l.getD (j + 1) Meta.zero) = true := by
  intro j hj
  by_cases h : j + 1 = k
  · subst h; simpa using hw
  · exact hall j (by omega)
theorem metas_len (l : List Meta) : ∀ x ∈ l, x.cells.length = 40 := fun x _ => x.len
theorem metas_one (l : List Meta) : ∀ u ∈ l.flatMap Meta.cells, u.oneCell' = true := fun u hu => by
  obtain ⟨m, _, hm⟩ := List.mem_flatMap.1 hu
  exact m.one u hm
theorem allM_row (s : State) (k : Nat) (v : Value) (E : Nat) : Res.row v E 40 ((allM s k).length + (s.lv k).length) ((allM s k).flatMap Meta.cells ++ (s.lv k).flatMap Meta.cells) = Res.row v E 40 (allM s (k + 1)).length ((allM s (k + 1)).flatMap Meta.cells) := by
  simp only [allM, List.length_append, List.flatMap_append]

/-! ### What the loops come to -/
theorem fin_false {s : State} (h : ¬ RightP s) : tup [.bool false] = .bool (rightS s) := by rw [rightS_false h]; rfl
theorem fin_true {s : State} (h : RightP s) : tup [.bool true] = .bool (rightS s) := by rw [rightS_true h]; rfl
theorem rs_head {s : State} (h : ((72057594037927935 < s.seq ∨ 72057594037927935 < s.least) ∨ s.next < s.log) ∨ 1024 < tot s 5) : ¬ RightP s := by
  intro hr
  have h1 := hr.seq; have h2 := hr.least; have h3 := hr.log; have h4 := hr.few
  omega
theorem rs_ord {s : State} {i : Nat} (hi : i < 5) (h : ordB i (s.lv i) = false) : ¬ RightP s := by
  intro hr
  have := ordB_iff.2 (hr.lv i hi).2
  rw [this] at h; cases h
theorem rs_good {s : State} {i k : Nat} (hi : i < 5) (hk : k < (s.lv i).length) (h : (((s.lv i).getD k Meta.zero).level != (i : Int)) = true ∨ good s ((s.lv i).getD k Meta.zero) = false) : ¬ RightP s := by
  intro hr
  have := (hr.lv i hi).1 _ (getD_mem hk)
  rcases h with h | h
  · rw [this.1] at h; simp at h
  · rw [this.2] at h; cases h
theorem good_step {s : State} {i k : Nat} (hg : ∀ j, j < k → ((s.lv i).getD j Meta.zero).level = i ∧ good s ((s.lv i).getD j Meta.zero) = true)
    (h : (((s.lv i).getD k Meta.zero).level != (i : Int)) = false ∧ good s ((s.lv i).getD k Meta.zero) = true) : ∀ j, j < k + 1 → ((s.lv i).getD j Meta.zero).level = i ∧ good s ((s.lv i).getD j Meta.zero) = true := by
  intro j hj
  by_cases e : j = k
  · subst e; exact ⟨by simpa using h.1, h.2⟩
  · exact hg j (by omega)
theorem lv_step {s : State} {i k : Nat} (hall : ∀ j, j < i → LvOk s j (s.lv j)) (ho : ordB i (s.lv i) = true) (hk : (s.lv i).length ≤ k) (hg : ∀ j, j < k → ((s.lv i).getD j Meta.zero).level = i ∧ good s ((s.lv i).getD j Meta.zero) = true) :
    ∀ j, j < i + 1 → LvOk s j (s.lv j) := by
  intro j hj
  by_cases e : j = i
  · subst e
    refine ⟨fun m hm => ?_, ordB_iff.1 ho⟩
    obtain ⟨q, hq, rfl⟩ := List.getElem_of_mem hm
    have := hg q (by omega)
    simpa [hq] using this
  · exact hall j (by omega)
theorem num_step1 {s : State} {p q : Nat} (h : ∀ b, b < q → ((allM s 5).getD p Meta.zero).number ≠ ((allM s 5).getD b Meta.zero).number) (hc : (((allM s 5).getD p Meta.zero).number == ((allM s 5).getD q Meta.zero).number) = false) :
    ∀ b, b < q + 1 → ((allM s 5).getD p Meta.zero).number ≠ ((allM s 5).getD b Meta.zero).number := by
  intro b hb
  by_cases e : b = q
  · subst e; simpa using hc
  · exact h b (by omega)
theorem num_step {s : State} {p q : Nat} (h : ∀ a b, a < p → b < a → ((allM s 5).getD a Meta.zero).number ≠ ((allM s 5).getD b Meta.zero).number) (hq : p ≤ q) (h1 : ∀ b, b < q → ((allM s 5).getD p Meta.zero).number ≠ ((allM s 5).getD b Meta.zero).number) :
    ∀ a b, a < p + 1 → b < a → ((allM s 5).getD a Meta.zero).number ≠ ((allM s 5).getD b Meta.zero).number := by
  intro a b ha hb
  by_cases e : a = p
  · subst e; exact h1 b (by omega)
  · exact h a b (by omega) hb
theorem rs_num {s : State} {p q : Nat} (hp : p < (allM s 5).length) (hq : q < p) (h : (((allM s 5).getD p Meta.zero).number == ((allM s 5).getD q Meta.zero).number) = true) : ¬ RightP s := by
  intro hr
  exact hr.apart p q hp hq (by simpa using h)
theorem rs_all {s : State} {i p : Nat} (h1 : ((s.seq ≤ 72057594037927935 ∧ s.least ≤ 72057594037927935) ∧ s.log ≤ s.next) ∧ tot s 5 ≤ 1024) (hi : 5 ≤ i) (hall : ∀ j, j < i → LvOk s j (s.lv j)) (hp : (allM s 5).length ≤ p)
    (hn : ∀ a b, a < p → b < a → ((allM s 5).getD a Meta.zero).number ≠ ((allM s 5).getD b Meta.zero).number) : RightP s := by
  exact ⟨h1.1.1.1, h1.1.1.2, h1.1.2, h1.2, fun j hj => hall j (by omega), fun a b ha hb => hn a b (by omega) hb⟩
end Go.Tan
