/- What is put together next, as plain data. No condition. -/
import Derived.Test.YtnhipfnbnilleaaPickN
namespace Go.Tan

structure Job where
  why : Int
  level : Int
  to : Int
  low : List Int
  high : List Int
def Job.cells (j : Job) (h1 h2 : Sh) : List Value := [.int .u8 j.why, .int .i64 j.level, .int .i64 j.to, h1.val j.low.length, h2.val j.high.length]
def Job.val (j : Job) (h1 h2 : Sh) : Value := .agg (j.cells h1 h2).toArray
def Job.zero : Job := ⟨0, 0, 0, [], []⟩
structure JobR (G : PM) (j : Job) (h1 h2 : Sh) : Prop where
  low : SlR G 1 encU h1 j.low
  high : SlR G 1 encU h2 j.high
  lenL : j.low.length * 112 ≤ 140737488351232
  lenH : j.high.length * 112 ≤ 140737488351232
theorem JobR.mono {G G' : PM} {j : Job} {h1 h2 : Sh} (h : JobR G j h1 h2) (hle : PM.le G G') : JobR G' j h1 h2 := ⟨h.low.mono hle, h.high.mono hle, h.lenL, h.lenH⟩
theorem JobR.zero {G : PM} : JobR G Job.zero ⟨none, 0⟩ ⟨none, 0⟩ := ⟨SlR.nul, SlR.nul, by decide, by decide⟩

def fmin (l : List Meta) (a : ByteArray) : ByteArray := l.foldl (fun x m => minS x m.min) a
def fmax (l : List Meta) (a : ByteArray) : ByteArray := l.foldl (fun x m => maxS x m.max) a
theorem minS_self (a : ByteArray) : minS a a = a := by unfold minS; split <;> rfl
theorem maxS_self (a : ByteArray) : maxS a a = a := by unfold maxS; split <;> rfl
def lowMin (l : List Meta) : ByteArray := fmin l (l.getD 0 Meta.zero).min
def lowMax (l : List Meta) : ByteArray := fmax l (l.getD 0 Meta.zero).max
theorem fmin_snoc {l : List Meta} {a : ByteArray} {k : Nat} (h : k < l.length) : fmin (l.take (k + 1)) a = minS (fmin (l.take k) a) (l.getD k Meta.zero).min := by
  rw [take_snoc h]; simp [fmin]
theorem fmax_snoc {l : List Meta} {a : ByteArray} {k : Nat} (h : k < l.length) : fmax (l.take (k + 1)) a = maxS (fmax (l.take k) a) (l.getD k Meta.zero).max := by
  rw [take_snoc h]; simp [fmax]
theorem fmin_one {l : List Meta} (h : 0 < l.length) : fmin (l.take 1) (l.getD 0 Meta.zero).min = (l.getD 0 Meta.zero).min := by
  rw [fmin_snoc h]; simp [fmin, minS_self]
theorem fmax_one {l : List Meta} (h : 0 < l.length) : fmax (l.take 1) (l.getD 0 Meta.zero).max = (l.getD 0 Meta.zero).max := by
  rw [fmax_snoc h]; simp [fmax, maxS_self]
def downJ (s : State) (why level : Int) (low : List Meta) : Job := ⟨why, level, level + 1, nums low, nums (ovl s (level + 1) (lowMin low) (lowMax low))⟩
theorem ovl_len {s : State} {G : PM} {hd : Nat → Sh} (hs : StR G s hd) (level : Int) (lo hi : ByteArray) : (ovl s level lo hi).length * 112 ≤ 140737488351232 := by
  unfold ovl
  split
  · rename_i h
    have h1 := hs.len level.toNat (by omega)
    have h2 := List.length_filter_le (ovp lo hi) (s.lv level.toNat)
    omega
  · simp
theorem nums_len (l : List Meta) : (nums l).length = l.length := by simp [nums]
theorem downJ_ok {G : PM} {s : State} {hd : Nat → Sh} {why level : Int} {low : List Meta} {h1 h2 : Sh} (hs : StR G s hd) (hl : low.length * 112 ≤ 140737488351232) (a : SlR G 1 encU h1 (nums low)) (b : SlR G 1 encU h2 (nums (ovl s (level + 1) (lowMin low) (lowMax low)))) : JobR G (downJ s why level low) h1 h2 :=
  ⟨a, b, by show (nums low).length * 112 ≤ _; rw [nums_len]; exact hl, by show (nums _).length * 112 ≤ _; rw [nums_len]; exact ovl_len hs _ _ _⟩

theorem Job.one (j : Job) (h1 h2 : Sh) : ∀ u ∈ j.cells h1 h2, u.oneCell' = true := by
  intro u hu
  simp only [Job.cells, List.mem_cons, List.not_mem_nil, or_false] at hu
  rcases hu with rfl | rfl | rfl | rfl | rfl <;> rfl
/-- The low tables of a full level. -/
def lowOf (s : State) (turn : Int) (i : Nat) : List Meta := if i = 0 then s.lv 0 else [(s.lv i).getD (turn.tmod ((s.lv i).length : Int)).toNat Meta.zero]
def pickF (s : State) (o : Opts) (turn : Int) : Nat → Nat → Option Job
  | 0, _ => none
  | n + 1, i => if fullB s o (i : Int) = true then some (downJ s 1 i (lowOf s turn i)) else pickF s o turn n (i + 1)
def oldI (s : State) (i : Nat) : Int := idxI (isOld s (i : Int)) (s.lv (i : Int).toNat)
def oldJ (s : State) (i : Nat) : Job := if i = 0 then downJ s 2 0 (s.lv 0) else ⟨2, i, i, nums [(s.lv i).getD (oldI s i).toNat Meta.zero], []⟩
def pickO (s : State) : Nat → Nat → Option Job
  | 0, _ => none
  | n + 1, i => if oldI s i < 0 then pickO s n (i + 1) else some (oldJ s i)
noncomputable def pickJ (s : State) (o : Opts) (turn : Int) : Job × Bool :=
  if rightO o = true ∧ rightS s = true then
    match pickF s o turn 4 0 with
    | some j => (j, true)
    | none => match pickO s 5 0 with
      | some j => (j, true)
      | none => (Job.zero, false)
  else (Job.zero, false)
def PickP (s : State) (o : Opts) (turn : Int) (G : PM) (u : Value) : Prop :=
  ∃ h1 h2 : Sh, u = .tuple #[(pickJ s o turn).1.val h1 h2, .bool (pickJ s o turn).2] ∧ JobR G (pickJ s o turn).1 h1 h2
theorem pick_fin {s : State} {o : Opts} {turn : Int} {j : Job} {b : Bool} {h1 h2 : Sh} {G : PM} (h : pickJ s o turn = (j, b)) (hj : JobR G j h1 h2) : PickP s o turn G (tup [.agg (j.cells h1 h2).toArray, .bool b]) :=
  ⟨h1, h2, by rw [h]; rfl, by rw [h]; exact hj⟩
theorem pick_no {s : State} {o : Opts} {turn : Int} (h : rightO o = false ∨ rightS s = false) : pickJ s o turn = (Job.zero, false) := by
  unfold pickJ; rw [if_neg]; rintro ⟨h1, h2⟩; rcases h with h | h <;> simp_all
theorem pick_full {s : State} {o : Opts} {turn : Int} {k : Nat} (h : rightO o = true ∧ rightS s = true) (hf : pickF s o turn 4 0 = pickF s o turn (4 - k) k) (hk : k < 4) (hb : fullB s o (k : Int) = true) : pickJ s o turn = (downJ s 1 k (lowOf s turn k), true) := by
  have : pickF s o turn 4 0 = some (downJ s 1 k (lowOf s turn k)) := by
    rw [hf, show 4 - k = (3 - k) + 1 by omega, pickF, if_pos hb]
  unfold pickJ; rw [if_pos h, this]
theorem pickF_step {s : State} {o : Opts} {turn : Int} {k : Nat} (hf : pickF s o turn 4 0 = pickF s o turn (4 - k) k) (hb : k < 4 → fullB s o (k : Int) = false) : pickF s o turn 4 0 = pickF s o turn (4 - (k + 1)) (k + 1) := by
  by_cases hk : k < 4
  · rw [hf, show 4 - k = (4 - (k + 1)) + 1 by omega, pickF, if_neg (by rw [hb hk]; decide)]
  · rw [hf, show 4 - k = 0 by omega, show 4 - (k + 1) = 0 by omega]; rfl
theorem pick_old {s : State} {o : Opts} {turn : Int} {k j : Nat} (h : rightO o = true ∧ rightS s = true) (hf : pickF s o turn 4 0 = pickF s o turn (4 - k) k) (hk : 4 ≤ k) (ho : pickO s 5 0 = pickO s (5 - j) j) (hj : j < 5) (hi : 0 ≤ oldI s j) : pickJ s o turn = (oldJ s j, true) := by
  have h1 : pickF s o turn 4 0 = none := by rw [hf, show 4 - k = 0 by omega]; rfl
  have h2 : pickO s 5 0 = some (oldJ s j) := by rw [ho, show 5 - j = (4 - j) + 1 by omega, pickO, if_neg (by omega)]
  unfold pickJ; rw [if_pos h, h1]; simp only; rw [h2]
theorem pickO_step {s : State} {j : Nat} (ho : pickO s 5 0 = pickO s (5 - j) j) (hj : j < 5) (hi : oldI s j < 0) : pickO s 5 0 = pickO s (5 - (j + 1)) (j + 1) := by
  rw [ho, show 5 - j = (5 - (j + 1)) + 1 by omega, pickO, if_pos hi]
theorem pick_none {s : State} {o : Opts} {turn : Int} {k j : Nat} (hf : pickF s o turn 4 0 = pickF s o turn (4 - k) k) (hk : 4 ≤ k) (ho : pickO s 5 0 = pickO s (5 - j) j) (hj : 5 ≤ j) : pickJ s o turn = (Job.zero, false) := by
  have h1 : pickF s o turn 4 0 = none := by rw [hf, show 4 - k = 0 by omega]; rfl
  have h2 : pickO s 5 0 = none := by rw [ho, show 5 - j = 0 by omega]; rfl
  unfold pickJ; rw [h1]; simp only; rw [h2]; split <;> rfl
theorem lowOf_zero {s : State} {turn : Int} {k : Nat} (h : k = 0) : lowOf s turn k = s.lv k := by subst h; simp [lowOf]
theorem lowOf_pos {s : State} {turn : Int} {k : Nat} (h : k ≠ 0) : lowOf s turn k = [(s.lv k).getD (turn.tmod ((s.lv k).length : Int)).toNat Meta.zero] := by simp [lowOf, h]
theorem oldJ_zero {s : State} {k : Nat} (h : k = 0) : oldJ s k = downJ s 2 0 (s.lv 0) := by simp [oldJ, h]
theorem oldJ_pos {s : State} {k : Nat} (h : k ≠ 0) : oldJ s k = ⟨2, k, k, nums [(s.lv k).getD (oldI s k).toNat Meta.zero], []⟩ := by simp [oldJ, h]
theorem full_ne {s : State} {o : Opts} {k : Nat} (h : rightO o = true) (hf : fullB s o (k : Int) = true) : 0 < (s.lv k).length := by
  unfold fullB at hf
  split at hf
  · rename_i hk
    obtain rfl : k = 0 := by omega
    simp only [rightO, within, Bool.and_eq_true, decide_eq_true_eq] at h hf
    omega
  · rw [Int.toNat_natCast] at hf
    cases hl : s.lv k with
    | nil => rw [hl] at hf; simp [over] at hf
    | cons a r => simp
theorem tm_bd {n : Nat} {turn : Int} (h0 : 0 ≤ turn) (hn : 0 < n) : 0 ≤ turn.tmod (n : Int) ∧ turn.tmod (n : Int) < n :=
  ⟨Int.tmod_nonneg _ h0, Int.tmod_lt_of_pos _ (by omega)⟩
theorem idx_bd {p : Meta → Bool} {l : List Meta} (h : 0 ≤ idxI p l) : (idxI p l).toNat < l.length := by
  unfold idxI at h ⊢
  cases hf : l.findIdx? p with
  | none => rw [hf] at h; simp at h
  | some i => simp only [Int.toNat_natCast]; exact (List.findIdx?_eq_some_iff_getElem.1 hf).1
theorem oldI_bd {s : State} {j : Nat} (h : 0 ≤ oldI s j) : (oldI s j).toNat < (s.lv j).length := idx_bd h
theorem at_some {l : List Meta} {k : Nat} (h : k < l.length) : l[k]? = some (l.getD k Meta.zero) := by simp [h]
theorem ft_is {s : State} {o : Opts} {k : Nat} (h : fullTop s o (k : Int) = true) : k < 4 ∧ fullB s o (k : Int) = true := by
  unfold fullTop at h; simp only [Bool.and_eq_true, decide_eq_true_eq] at h; exact ⟨by omega, by simp_all⟩
theorem ft_isnt {s : State} {o : Opts} {k : Nat} (hr : rightS s = true ∧ rightO o = true) (h : fullTop s o (k : Int) = false) : k < 4 → fullB s o (k : Int) = false := by
  intro hk; unfold fullTop at h; simp only [hr.1, hr.2, decide_eq_true (show (k : Int) ≥ 0 by omega), Bool.true_and] at h
  by_cases hb : fullB s o (k : Int) = true
  · simp [hb] at h; omega
  · simpa using hb
theorem ot_is {s : State} {j : Nat} (h : oldTop s (j : Int) = true) : 0 ≤ oldI s j := by
  unfold oldTop at h; simp only [Bool.and_eq_true, decide_eq_true_eq] at h; exact h.2
theorem ot_isnt {s : State} {j : Nat} (hj : j < 5) (h : oldTop s (j : Int) = false) : oldI s j < 0 := by
  unfold oldTop at h; simp only [decide_eq_true (show (j : Int) ≥ 0 by omega), decide_eq_true (show (j : Int) < 5 by omega), Bool.true_and, decide_eq_false_iff_not] at h
  unfold oldI; omega
theorem old_lt {s : State} {j q : Nat} (h : 0 ≤ oldI s j) (hq : q ≤ (s.lv j).length) (hn : ∀ i, i < q → isOld s (j : Int) ((s.lv j).getD i Meta.zero) = false) : q < (s.lv j).length := by
  rcases Nat.lt_or_ge q (s.lv j).length with h1 | h1
  · exact h1
  · have := idx_none (p := isOld s (j : Int)) h1 hn
    simp only [tup, Value.int.injEq, true_and] at this
    have h2 : oldI s j = idxI (isOld s (j : Int)) (s.lv j) := rfl
    omega
theorem old_at {s : State} {j q : Nat} (hq : q < (s.lv j).length) (hn : ∀ i, i < q → isOld s (j : Int) ((s.lv j).getD i Meta.zero) = false) (hp : isOld s (j : Int) ((s.lv j).getD q Meta.zero) = true) : oldI s j = q := by
  have := idx_hit (p := isOld s (j : Int)) hq hn hp
  simp only [tup, Value.int.injEq, true_and] at this
  exact this.symm
theorem gen_le {s : State} {j q : Nat} (h : rightS s = true) (hj : j < 5) (hq : q < (s.lv j).length) : ((s.lv j).getD q Meta.zero).gen ≤ s.gens j := by
  have h1 := ((rightP_of h).lv j hj).1 _ (getD_mem hq)
  have h2 := h1.2
  simp only [good, Bool.and_eq_true, decide_eq_true_eq] at h2
  have h3 := h2.2
  rw [h1.1, Int.toNat_natCast] at h3; exact h3
theorem isOld_eq {s : State} {j : Nat} {m : Meta} (h : (m.gen == s.gens j) = true) : isOld s (j : Int) m = false := by
  simp only [beq_iff_eq] at h; simp [isOld, h]
theorem isOld_ne {s : State} {j : Nat} {m : Meta} (h : (m.gen == s.gens j) = false) (hle : m.gen ≤ s.gens j) : isOld s (j : Int) m = true := by
  simp only [beq_eq_false_iff_ne, ne_eq] at h; simp only [isOld, Int.toNat_natCast, decide_eq_true_eq]; omega

def sameL (a b : List Int) : Bool := a == b
def sameJ (a b : Job) : Bool := decide (a.why = b.why ∧ a.level = b.level ∧ a.to = b.to ∧ a.low = b.low ∧ a.high = b.high)
theorem sameJ_self (a : Job) : sameJ a a = true := by simp [sameJ]

theorem SlR.ua {G : PM} {h : Sh} {xs : List Int} (s : SlR G 1 encU h xs) {j : Int} (k : Nat) (hj : j.toNat = k) (hk : k < xs.length) : RdP G ⟨h.b, h.o + j.toNat * 1, none⟩ (.int .u64 (xs.getD k 0)) := by
  have := s.rd k (xs.getD k 0) (by simp [hk]) 0 _ rfl
  rw [hj]; simpa using this
/-! ### The states that the law shows -/
def opts0 : Opts := ⟨100, 100, 1, 10, 10, 2, 10⟩
def State.zero : State := ⟨fun _ => [], 0, 0, 0, 0, fun _ => 0⟩
def hd0 : Nat → Sh := fun _ => ⟨none, 0⟩
def meta1 : Meta := ⟨0, 0, 0, 4, 1, 1, ByteArray.empty, ByteArray.empty, fun _ => 0⟩
def State.one : State := ⟨fun | 0 => [meta1] | _ => [], 0, 5, 0, 0, fun _ => 0⟩
def hd1 (b : Nat) : Nat → Sh := fun | 0 => ⟨some ⟨b, 0, none⟩, 1⟩ | _ => ⟨none, 0⟩
theorem st_zero {G : PM} : StR G State.zero hd0 := ⟨fun _ _ => SlR.nul, fun _ _ => Nat.zero_le _, fun _ _ m hm => nomatch hm⟩
theorem st_one {G : PM} {b : Nat} {T : TypeId} (h : G b = some (cl ([meta1].flatMap Meta.cells) T)) : StR G State.one (hd1 b) := by
  refine ⟨fun i _ => ?_, fun i _ => ?_, fun i _ m hm => ?_⟩
  · match i with
    | 0 => exact SlR.ofBlk h (metas_len _) (by decide)
    | n + 1 => exact SlR.nul
  · match i with
    | 0 => decide
    | n + 1 => exact Nat.zero_le _
  · match i, hm with
    | 0, hm =>
      obtain rfl : m = meta1 := by simpa [State.one] using hm
      exact ⟨by decide, by decide, by decide, by decide, by decide, by decide, by decide, by decide, fun _ _ => (show (0 : Int) ≤ 0 ∧ (0 : Int) ≤ 255 by decide)⟩
    | n + 1, hm => exact nomatch hm
theorem right_zero : rightS State.zero = true := by
  refine rightS_true ⟨by decide, by decide, by decide, by decide, fun i _ => ⟨fun m hm => (nomatch hm), fun j hj => absurd hj (Nat.not_lt_zero _)⟩, fun a b ha => absurd ha (Nat.not_lt_zero _)⟩
theorem good_one : good State.one meta1 = true := by
  simp [good, le, meta1, State.one]
theorem right_one : rightS State.one = true := by
  refine rightS_true ⟨by decide, by decide, by decide, by decide, fun i _ => ?_, fun a b ha hb => ?_⟩
  · match i with
    | 0 =>
      refine ⟨fun m hm => ?_, fun j hj => ?_⟩
      · obtain rfl : m = meta1 := by simpa [State.one] using hm
        exact ⟨rfl, good_one⟩
      · simp [State.one] at hj
    | n + 1 => exact ⟨fun m hm => (nomatch hm), fun j hj => absurd hj (Nat.not_lt_zero _)⟩
  · simp [allM, State.one] at ha; omega
theorem pick_zero : pickJ State.zero opts0 0 = (Job.zero, false) := by
  have h1 : pickF State.zero opts0 0 4 0 = none := rfl
  have h2 : pickO State.zero 5 0 = none := rfl
  unfold pickJ; rw [h1]; simp only; rw [h2]; split <;> rfl
theorem pick_one : pickJ State.one opts0 0 = (⟨1, 0, 1, [4], []⟩, true) := by
  have h1 : pickF State.one opts0 0 4 0 = some ⟨1, 0, 1, [4], []⟩ := rfl
  unfold pickJ; rw [if_pos ⟨by decide, right_one⟩, h1]

/-! ### Is there anything to be done? -/
noncomputable def busy (s : State) (o : Opts) : Nat → Bool
  | 0 => false
  | n + 1 => busy s o n || fullTop s o (n : Int) || oldTop s (n : Int)
def anyFrom (p : Nat → Bool) : Nat → Nat → Bool
  | 0, _ => false
  | n + 1, i => p i || anyFrom p n (i + 1)
theorem pickF_some (s : State) (o : Opts) (turn : Int) : ∀ n i, (pickF s o turn n i).isSome = anyFrom (fun j => fullB s o (j : Int)) n i
  | 0, _ => rfl
  | n + 1, i => by
    unfold pickF anyFrom
    cases h : fullB s o (i : Int) with
    | true => simp
    | false => simp [pickF_some s o turn n (i + 1)]
theorem pickO_some (s : State) : ∀ n i, (pickO s n i).isSome = anyFrom (fun j => decide (oldI s j ≥ 0)) n i
  | 0, _ => rfl
  | n + 1, i => by
    unfold pickO anyFrom
    by_cases h : oldI s i < 0
    · rw [if_pos h, pickO_some s n (i + 1), decide_eq_false (by omega)]; simp
    · rw [if_neg h, decide_eq_true (by omega)]; simp
theorem pick_busy {s : State} {o : Opts} {turn : Int} (hs : rightS s = true) (ho : rightO o = true) : (pickJ s o turn).2 = busy s o 5 := by
  have h1 : (pickJ s o turn).2 = ((pickF s o turn 4 0).isSome || (pickO s 5 0).isSome) := by
    unfold pickJ; rw [if_pos ⟨ho, hs⟩]
    cases pickF s o turn 4 0 with
    | some j => rfl
    | none => cases pickO s 5 0 <;> rfl
  have hf : ∀ k : Nat, k < 4 → fullTop s o (k : Int) = fullB s o (k : Int) := by
    intro k hk
    unfold fullTop; rw [decide_eq_true (show (k : Int) ≥ 0 by omega), decide_eq_true (show (k : Int) ≤ 3 by omega), hs, ho]; simp
  have hf4 : fullTop s o (4 : Int) = false := by unfold fullTop; rw [decide_eq_false (show ¬ (4 : Int) ≤ 3 by omega)]; simp
  have hod : ∀ k : Nat, k < 5 → oldTop s (k : Int) = decide (oldI s k ≥ 0) := by
    intro k hk
    unfold oldTop; rw [decide_eq_true (show (k : Int) ≥ 0 by omega), decide_eq_true (show (k : Int) < 5 by omega)]; simp [oldI]
  rw [h1, pickF_some, pickO_some]
  simp only [busy, anyFrom, Nat.zero_add, Bool.or_false, Bool.false_or]
  rw [hf 0 (by decide), hf 1 (by decide), hf 2 (by decide), hf 3 (by decide), hod 0 (by decide), hod 1 (by decide), hod 2 (by decide), hod 3 (by decide), hod 4 (by decide), show fullTop s o ((4 : Nat) : Int) = false from hf4, Bool.or_false]
  ac_rfl

/-! ### Two jobs that are the same -/
theorem sm_no {a b : Job} (h : (((((a.why != b.why) || (a.level != b.level)) || (a.to != b.to)) || ((a.low.length : Int) != (b.low.length : Int))) || ((a.high.length : Int) != (b.high.length : Int))) = true) : tup [.bool false] = .bool (sameJ a b) := by
  have : sameJ a b = false := by
    unfold sameJ
    rw [decide_eq_false_iff_not]
    rintro ⟨h1, h2, h3, h4, h5⟩
    simp [h1, h2, h3, h4, h5] at h
  rw [this]; rfl
theorem sm_hd {a b : Job} (h : (((((a.why != b.why) || (a.level != b.level)) || (a.to != b.to)) || ((a.low.length : Int) != (b.low.length : Int))) || ((a.high.length : Int) != (b.high.length : Int))) = false) : a.why = b.why ∧ a.level = b.level ∧ a.to = b.to ∧ a.low.length = b.low.length ∧ a.high.length = b.high.length := by
  simp only [Bool.or_eq_false_iff, bne_eq_false_iff_eq] at h
  obtain ⟨⟨⟨⟨h1, h2⟩, h3⟩, h4⟩, h5⟩ := h
  exact ⟨h1, h2, h3, by omega, by omega⟩
theorem sm_low {a b : Job} {k : Nat} (h : (a.low.getD k 0 != b.low.getD k 0) = true) : tup [.bool false] = .bool (sameJ a b) := by
  have : sameJ a b = false := by
    unfold sameJ
    rw [decide_eq_false_iff_not]
    rintro ⟨_, _, _, h4, _⟩
    rw [h4] at h; simp at h
  rw [this]; rfl
theorem sm_high {a b : Job} {k : Nat} (h : (a.high.getD k 0 != b.high.getD k 0) = true) : tup [.bool false] = .bool (sameJ a b) := by
  have : sameJ a b = false := by
    unfold sameJ
    rw [decide_eq_false_iff_not]
    rintro ⟨_, _, _, _, h4⟩
    rw [h4] at h; simp at h
  rw [this]; rfl
theorem sm_step {l r : List Int} {k : Nat} (h : ∀ j, j < k → l.getD j 0 = r.getD j 0) (hk : (l.getD k 0 != r.getD k 0) = false) : ∀ j, j < k + 1 → l.getD j 0 = r.getD j 0 := by
  intro j hj
  by_cases e : j = k
  · subst e; simpa using hk
  · exact h j (by omega)
theorem sm_eq {l r : List Int} {k : Nat} (hl : l.length = r.length) (hk : l.length ≤ k) (h : ∀ j, j < k → l.getD j 0 = r.getD j 0) : l = r := by
  refine List.ext_getElem hl fun i h1 h2 => ?_
  have := h i (by omega)
  simpa [h1, h2] using this
theorem sm_yes {a b : Job} (h : a.why = b.why ∧ a.level = b.level ∧ a.to = b.to) (hl : a.low = b.low) (hh : a.high = b.high) : tup [.bool true] = .bool (sameJ a b) := by
  have : sameJ a b = true := by unfold sameJ; rw [decide_eq_true_eq]; exact ⟨h.1, h.2.1, h.2.2, hl, hh⟩
  rw [this]; rfl
end Go.Tan
