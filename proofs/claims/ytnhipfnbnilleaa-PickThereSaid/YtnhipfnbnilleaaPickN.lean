/- Plain laws for the program's test of a state: numbers seen once, tables level by level. No condition. -/
import Derived.Test.YtnhipfnbnilleaaPickM
namespace Go.Tan

theorem State.arr_lv (s : State) (hd : Nat → Sh) {k : Nat} (h : k < 5) : (((s.cells hd).drop 0).take 5)[k]? = some ((hd k).val (s.lv k).length) := by
  match k, h with
  | 0, _ => rfl | 1, _ => rfl | 2, _ => rfl | 3, _ => rfl | 4, _ => rfl
theorem RdNP.add {G : PM} {b : Nat} {cs : List Value} {T : TypeId} : RdNP (G.add b (cl cs T)) b 0 cs := fun j v hj => by
  rw [Nat.zero_add]; exact RdP.blk (PM.add_same G b _) hj

/-- How often a number was seen: once or never. -/
def cnt (L : List Int) (x : Int) : Int := if x ∈ L then 1 else 0
def cntM (L : List Int) (x : Int) : Option Value := if x ∈ L then some (.int .i64 1) else none
theorem cnt_get (L : List Int) (x : Int) : (cntM L x).getD (.int .i64 0) = .int .i64 (cnt L x) := by unfold cntM cnt; split <;> rfl
theorem cnt_bd (L : List Int) (x : Int) : 0 ≤ cnt L x ∧ cnt L x ≤ 1 := by unfold cnt; split <;> omega
theorem cnt_upd (m : Int → Option Value) (x : Int) (u z : Value) : ((fun j => if j = x then some u else m j) x).getD z = u := by simp
theorem cnt_push {L : List Int} {x : Int} (h : x ∉ L) : (fun j => if j = x then some (Value.int .i64 (cnt L x + 1)) else cntM L j) = cntM (L ++ [x]) := by
  funext j
  unfold cntM cnt
  by_cases hj : j = x
  · subst hj; simp [h]
  · simp [hj]
theorem cnt_not {L : List Int} {x : Int} (h : cnt L x + 1 ≤ 1) : x ∉ L := by intro hm; simp [cnt, hm] at h
theorem cnt_mem {L : List Int} {x : Int} (h : 1 < cnt L x + 1) : x ∈ L := by
  by_cases hm : x ∈ L
  · exact hm
  · simp [cnt, hm] at h

def Dist (l : List Meta) : Prop := ∀ a b, a < l.length → b < a → (l.getD a Meta.zero).number ≠ (l.getD b Meta.zero).number
theorem getD_app_left {l r : List Meta} {k : Nat} (h : k < l.length) : (l ++ r).getD k Meta.zero = l.getD k Meta.zero := by
  simp [List.getElem?_append_left h]
theorem getD_app_at {l r : List Meta} {m : Meta} : (l ++ m :: r).getD l.length Meta.zero = m := by simp
theorem dist_nil : Dist [] := fun a b h => by simp at h
theorem dist_push {l : List Meta} {m : Meta} (h : Dist l) (hm : m.number ∉ nums l) : Dist (l ++ [m]) := by
  intro a b ha hb
  simp only [List.length_append, List.length_singleton] at ha
  by_cases e : a = l.length
  · subst e
    rw [getD_app_at, getD_app_left hb]
    intro e
    exact hm (List.mem_map.2 ⟨_, getD_mem hb, e.symm⟩)
  · rw [getD_app_left (by omega), getD_app_left (by omega)]
    exact h a b (by omega) hb
/-- The tables of the first levels stand ahead of all. -/
theorem allM_pre (s : State) {i : Nat} : ∀ {n : Nat}, i < n → ∃ r, allM s n = allM s i ++ s.lv i ++ r
  | 0, h => by omega
  | n + 1, h => by
    by_cases e : i = n
    · subst e; exact ⟨[], by simp [allM]⟩
    · obtain ⟨r, hr⟩ := allM_pre s (i := i) (n := n) (by omega)
      exact ⟨r ++ s.lv n, by simp [allM, hr]⟩
theorem take_snoc {l : List Meta} {k : Nat} (h : k < l.length) : l.take (k + 1) = l.take k ++ [l.getD k Meta.zero] := by
  rw [List.take_succ_eq_append_getElem h]; simp [h]
theorem rs_dup {s : State} {i k : Nat} (hi : i < 5) (hk : k < (s.lv i).length) (h : ((s.lv i).getD k Meta.zero).number ∈ nums (allM s i ++ (s.lv i).take k)) : ¬ RightP s := by
  intro hr
  obtain ⟨r, hr5⟩ := allM_pre s hi
  have hsplit : allM s 5 = (allM s i ++ (s.lv i).take k) ++ ((s.lv i).getD k Meta.zero) :: ((s.lv i).drop (k + 1) ++ r) := by
    rw [hr5]
    have : s.lv i = (s.lv i).take k ++ (s.lv i).getD k Meta.zero :: (s.lv i).drop (k + 1) := by
      have h1 := List.take_append_drop (k + 1) (s.lv i)
      rw [take_snoc hk] at h1
      simpa using h1.symm
    generalize hm : (s.lv i).getD k Meta.zero = m at this
    rw [show allM s i ++ s.lv i ++ r = allM s i ++ (s.lv i) ++ r from rfl]
    conv => lhs; rw [this]
    simp
  obtain ⟨m, hm, hmn⟩ := List.mem_map.1 h
  obtain ⟨b, hb, rfl⟩ := List.getElem_of_mem hm
  have := hr.apart (allM s i ++ (s.lv i).take k).length b (by rw [hsplit]; simp) hb
  rw [hsplit, getD_app_at, getD_app_left hb] at this
  apply this
  rw [← hmn, List.getD_eq_getElem?_getD, List.getElem?_eq_getElem hb]
  rfl

theorem cnt_zero (s : State) (i b : Nat) : Res.mp b .u64 (cntM (nums (allM s i))) = Res.mp b .u64 (cntM (nums (allM s i ++ (s.lv i).take 0))) := by simp
theorem cnt_next {s : State} {i k b : Nat} (h : (s.lv i).length ≤ k) : Res.mp b .u64 (cntM (nums (allM s i ++ (s.lv i).take k))) = Res.mp b .u64 (cntM (nums (allM s (i + 1)))) := by
  rw [List.take_of_length_le h]; rfl
theorem cnt_step {s : State} {i k b : Nat} (hk : k < (s.lv i).length) (h : ((s.lv i).getD k Meta.zero).number ∉ nums (allM s i ++ (s.lv i).take k)) :
    Res.mp b .u64 (fun j => if j = ((s.lv i).getD k Meta.zero).number then some (Value.int .i64 (cnt (nums (allM s i ++ (s.lv i).take k)) ((s.lv i).getD k Meta.zero).number + 1)) else cntM (nums (allM s i ++ (s.lv i).take k)) j) =
      Res.mp b .u64 (cntM (nums (allM s i ++ (s.lv i).take (k + 1)))) := by
  rw [cnt_push h, take_snoc hk]
  simp [nums]
/-- What is known of a level's first tables. -/
structure Part (s : State) (i k : Nat) : Prop where
  le : k ≤ (s.lv i).length
  good : ∀ j, j < k → ((s.lv i).getD j Meta.zero).level = i ∧ good s ((s.lv i).getD j Meta.zero) = true
  pair : ∀ j, j + 1 < k → pairOk i ((s.lv i).getD j Meta.zero) ((s.lv i).getD (j + 1) Meta.zero) = true
  dist : Dist (allM s i ++ (s.lv i).take k)
theorem Part.zero {s : State} {i : Nat} (h : Dist (allM s i)) : Part s i 0 := ⟨Nat.zero_le _, fun j hj => by omega, fun j hj => by omega, by simpa using h⟩
theorem Part.step {s : State} {i k : Nat} (h : Part s i k) (hk : k < (s.lv i).length) (h1 : ((s.lv i).getD k Meta.zero).level = i ∧ Go.Tan.good s ((s.lv i).getD k Meta.zero) = true)
    (h2 : ((s.lv i).getD k Meta.zero).number ∉ nums (allM s i ++ (s.lv i).take k)) (h3 : 0 < k → pairOk i ((s.lv i).getD (k - 1) Meta.zero) ((s.lv i).getD k Meta.zero) = true) : Part s i (k + 1) := by
  refine ⟨by omega, fun j hj => ?_, fun j hj => ?_, ?_⟩
  · by_cases e : j = k
    · subst e; exact h1
    · exact h.good j (by omega)
  · by_cases e : j + 1 = k
    · subst e; have := h3 (by omega); simpa using this
    · exact h.pair j (by omega)
  · rw [take_snoc hk, ← List.append_assoc]; exact dist_push h.dist h2
theorem Part.lvOk {s : State} {i k : Nat} (h : Part s i k) (hk : (s.lv i).length ≤ k) : LvOk s i (s.lv i) :=
  ⟨fun m hm => by
    obtain ⟨q, hq, rfl⟩ := List.getElem_of_mem hm
    have := h.good q (by omega)
    simpa [hq] using this, fun j hj => h.pair j (by omega)⟩
theorem Part.next {s : State} {i k : Nat} (h : Part s i k) (hk : (s.lv i).length ≤ k) : Dist (allM s (i + 1)) := by
  have := h.dist; rw [List.take_of_length_le hk] at this; exact this
theorem rs_few {s : State} {i : Nat} (hi : i < 5) (h : 1024 - tot s i < (s.lv i).length) : ¬ RightP s := by
  intro hr
  have h1 := tot_mono s (show i + 1 ≤ 5 by omega)
  rw [show tot s (i + 1) = tot s i + (s.lv i).length from rfl] at h1
  have := hr.few
  omega
theorem rs_max {s : State} (h : 72057594037927935 < (if s.least > s.seq then s.least else s.seq) ∨ s.next < s.log) : ¬ RightP s := by
  intro hr
  have h1 := hr.seq; have h2 := hr.least; have h3 := hr.log
  rcases h with h | h
  · split at h <;> omega
  · omega
theorem rs_done {s : State} {i : Nat} (h1 : (if s.least > s.seq then s.least else s.seq) ≤ 72057594037927935 ∧ s.log ≤ s.next) (hi : i = 5) (ht : tot s i ≤ 1024) (hall : ∀ j, j < i → LvOk s j (s.lv j)) (hd : Dist (allM s i)) : RightP s := by
  subst hi
  refine ⟨?_, ?_, h1.2, ht, hall, hd⟩
  · have := h1.1; split at this <;> omega
  · have := h1.1; split at this <;> omega
/-- The program's test of one table, taken apart. -/
theorem rt_bad {s : State} {i k : Nat} (hi : i < 5) (hk : k < (s.lv i).length) (hp : Part s i k)
    (h : ((((s.lv i).getD k Meta.zero).level != (i : Int)) || !good s ((s.lv i).getD k Meta.zero) || decide (cnt (nums (allM s i ++ (s.lv i).take k)) ((s.lv i).getD k Meta.zero).number + 1 > 1) ||
      (decide ((k : Int) > 0) && !pairOk ((s.lv i).getD (k - 1) Meta.zero).level ((s.lv i).getD (k - 1) Meta.zero) ((s.lv i).getD k Meta.zero))) = true) : ¬ RightP s := by
  simp only [Bool.or_eq_true, Bool.and_eq_true, decide_eq_true_eq, Bool.not_eq_true'] at h
  rcases h with ((h | h) | h) | ⟨h1, h2⟩
  · exact rs_good hi hk (.inl h)
  · exact rs_good hi hk (.inr h)
  · exact rs_dup hi hk (cnt_mem (by omega))
  · intro hr
    have h3 := (hr.lv i hi).2 (k - 1) (by omega)
    rw [show k - 1 + 1 = k by omega] at h3
    rw [(hp.good (k - 1) (by omega)).1, h3] at h2
    cases h2
theorem rt_good {s : State} {i k : Nat} (hk : k < (s.lv i).length) (hp : Part s i k)
    (h : ((((s.lv i).getD k Meta.zero).level != (i : Int)) || !good s ((s.lv i).getD k Meta.zero) || decide (cnt (nums (allM s i ++ (s.lv i).take k)) ((s.lv i).getD k Meta.zero).number + 1 > 1) ||
      (decide ((k : Int) > 0) && !pairOk ((s.lv i).getD (k - 1) Meta.zero).level ((s.lv i).getD (k - 1) Meta.zero) ((s.lv i).getD k Meta.zero))) = false) :
    Part s i (k + 1) ∧ ((s.lv i).getD k Meta.zero).number ∉ nums (allM s i ++ (s.lv i).take k) := by
  simp only [Bool.or_eq_false_iff, Bool.and_eq_false_iff, decide_eq_false_iff_not, Bool.not_eq_false', bne_eq_false_iff_eq] at h
  obtain ⟨⟨⟨h1, h2⟩, h3⟩, h4⟩ := h
  have hn := cnt_not (show cnt (nums (allM s i ++ (s.lv i).take k)) ((s.lv i).getD k Meta.zero).number + 1 ≤ 1 by omega)
  refine ⟨hp.step hk ⟨h1, h2⟩ hn fun h0 => ?_, hn⟩
  rcases h4 with h4 | h4
  · omega
  · rw [(hp.good (k - 1) (by omega)).1] at h4; exact h4

/-! ### How much a level has -/
def over : Int → List Meta → Bool
  | _, [] => false
  | r, m :: ms => if m.size > r then true else over (r - m.size) ms
def fullB (s : State) (o : Opts) (level : Int) : Bool := if level = 0 then decide (((s.lv 0).length : Int) ≥ o.zero) else over (limit o level) (s.lv level.toNat)
noncomputable def fullTop (s : State) (o : Opts) (level : Int) : Bool := decide (level ≥ 0) && decide (level ≤ 3) && rightO o && rightS s && fullB s o level
theorem limit_bd (o : Opts) (level : Int) : 0 ≤ limit o level ∧ limit o level ≤ 1000000000000 := by
  unfold limit
  split
  · omega
  · rename_i h
    simp only [not_or, Bool.not_eq_false] at h
    have := pow_small o (level - 1).toNat h.2.2 (by omega)
    omega
theorem drop_at {l : List Meta} {k : Nat} (h : k < l.length) : l.drop k = l.getD k Meta.zero :: l.drop (k + 1) := by
  rw [List.drop_eq_getElem_cons h]; simp [h]
theorem over_step {L r : Int} {l : List Meta} {k : Nat} (h : over L l = over r (l.drop k)) (hk : k < l.length) (hc : (l.getD k Meta.zero).size ≤ r) : over L l = over (r - (l.getD k Meta.zero).size) (l.drop (k + 1)) := by
  rw [h, drop_at hk]; simp only [over]; rw [if_neg (by omega)]
theorem over_hit {r : Int} {l : List Meta} {k : Nat} (hk : k < l.length) (hc : r < (l.getD k Meta.zero).size) : over r (l.drop k) = true := by
  rw [drop_at hk]; simp only [over]; rw [if_pos (by omega)]
theorem over_end {r : Int} {l : List Meta} {k : Nat} (hk : l.length ≤ k) : over r (l.drop k) = false := by
  rw [List.drop_of_length_le hk]; rfl
theorem right_sizes {s : State} {level : Int} (h : rightS s = true) (h5 : level < 5) : ∀ m ∈ s.lv level.toNat, 1 ≤ m.size := by
  intro m hm
  have := ((rightP_of h).lv level.toNat (by omega)).1 m hm
  have hg := this.2
  simp only [good, Bool.and_eq_true, decide_eq_true_eq] at hg
  omega
theorem ft_no {s : State} {o : Opts} {level : Int} (h : ((rightS s = false ∨ rightO o = false) ∨ level < 0) ∨ 3 < level) : tup [.bool false] = .bool (fullTop s o level) := by
  have : fullTop s o level = false := by
    unfold fullTop
    rcases h with ((h | h) | h) | h
    · simp [h]
    · simp [h]
    · rw [decide_eq_false (by omega : ¬ level ≥ 0)]; simp
    · rw [decide_eq_false (by omega : ¬ level ≤ 3)]; simp
  rw [this]; rfl
theorem ft_more {s : State} {o : Opts} {level : Int} {r : Bool} (h : ((rightS s = true ∧ rightO o = true) ∧ 0 ≤ level) ∧ level ≤ 3) (h0 : (level == 0) = false) (hr : over (limit o level) (s.lv level.toNat) = r) : tup [.bool r] = .bool (fullTop s o level) := by
  have : fullTop s o level = r := by
    unfold fullTop fullB
    rw [if_neg (by simpa using h0), hr, decide_eq_true (by omega : level ≥ 0), decide_eq_true h.2, h.1.1.1, h.1.1.2]; rfl
  rw [this]; rfl
theorem ft_zero {s : State} {o : Opts} {level : Int} (h : ((rightS s = true ∧ rightO o = true) ∧ 0 ≤ level) ∧ level ≤ 3) (h0 : (level == 0) = true) : tup [.bool (decide (((s.lv 0).length : Int) ≥ o.zero))] = .bool (fullTop s o level) := by
  have : fullTop s o level = decide (((s.lv 0).length : Int) ≥ o.zero) := by
    unfold fullTop fullB
    rw [if_pos (by simpa using h0), decide_eq_true (by omega : level ≥ 0), decide_eq_true h.2, h.1.1.1, h.1.1.2]; rfl
  rw [this]; rfl

/-! ### The first one -/
def isOld (s : State) (level : Int) (m : Meta) : Bool := decide (m.gen < s.gens level.toNat)
def idxI (p : Meta → Bool) (l : List Meta) : Int := match l.findIdx? p with | some i => i | none => -1
theorem idx_step {p : Meta → Bool} {l : List Meta} {k : Nat} (h : ∀ j, j < k → p (l.getD j Meta.zero) = false) (hk : p (l.getD k Meta.zero) = false) : ∀ j, j < k + 1 → p (l.getD j Meta.zero) = false := by
  intro j hj
  by_cases e : j = k
  · subst e; exact hk
  · exact h j (by omega)
theorem idx_none {p : Meta → Bool} {l : List Meta} {k : Nat} (hk : l.length ≤ k) (h : ∀ j, j < k → p (l.getD j Meta.zero) = false) : tup [.int .i64 (-1)] = .int .i64 (idxI p l) := by
  have : l.findIdx? p = none := by
    rw [List.findIdx?_eq_none_iff]
    intro m hm
    obtain ⟨q, hq, rfl⟩ := List.getElem_of_mem hm
    have := h q (by omega)
    simpa [hq] using this
  simp [idxI, this, tup]
theorem idx_hit {p : Meta → Bool} {l : List Meta} {k : Nat} (hk : k < l.length) (h : ∀ j, j < k → p (l.getD j Meta.zero) = false) (hp : p (l.getD k Meta.zero) = true) : tup [.int .i64 (k : Int)] = .int .i64 (idxI p l) := by
  have : l.findIdx? p = some k := by
    rw [List.findIdx?_eq_some_iff_getElem]
    refine ⟨hk, by simpa [hk] using hp, fun j hj => ?_⟩
    have := h j hj
    simpa [show j < l.length by omega] using this
  simp [idxI, this, tup]
def oldTop (s : State) (level : Int) : Bool := decide (level ≥ 0) && decide (level < 5) && decide (idxI (isOld s level) (s.lv level.toNat) ≥ 0)
theorem old_no {s : State} {level : Int} (h : level < 0 ∨ 5 ≤ level) : tup [.bool false] = .bool (oldTop s level) := by
  have : oldTop s level = false := by
    unfold oldTop
    rcases h with h | h
    · rw [decide_eq_false (by omega : ¬ level ≥ 0)]; simp
    · rw [decide_eq_false (by omega : ¬ level < 5)]; simp
  rw [this]; rfl
theorem old_hit {s : State} {level : Int} {k : Nat} (h : 0 ≤ level ∧ level < 5) (hk : k < (s.lv level.toNat).length) (hn : ∀ j, j < k → isOld s level ((s.lv level.toNat).getD j Meta.zero) = false) (hp : isOld s level ((s.lv level.toNat).getD k Meta.zero) = true) : tup [.bool true] = .bool (oldTop s level) := by
  have h1 := idx_hit hk hn hp
  simp only [tup, Value.int.injEq, true_and] at h1
  unfold oldTop
  rw [← h1, decide_eq_true (by omega : level ≥ 0), decide_eq_true h.2, decide_eq_true (by omega : (k : Int) ≥ 0)]; rfl
theorem old_none {s : State} {level : Int} {k : Nat} (h : 0 ≤ level ∧ level < 5) (hk : (s.lv level.toNat).length ≤ k) (hn : ∀ j, j < k → isOld s level ((s.lv level.toNat).getD j Meta.zero) = false) : tup [.bool false] = .bool (oldTop s level) := by
  have h1 := idx_none hk hn
  simp only [tup, Value.int.injEq, true_and] at h1
  unfold oldTop
  rw [← h1, decide_eq_true (by omega : level ≥ 0), decide_eq_true h.2]; rfl

/-! ### Lists that are gathered -/
def encU (x : Int) : List Value := [.int .u64 x]
theorem num_row {l : List Meta} {k E : Nat} {v : Value} (hk : k < l.length) : Res.row v E 1 (k + 1) ((nums (l.take k)).flatMap encU ++ [.int .u64 (l.getD k Meta.zero).number]) = Res.row v E 1 (k + 1) ((nums (l.take (k + 1))).flatMap encU) := by
  rw [take_snoc hk]; simp [nums, encU]
theorem num_val (l : List Meta) (h : Sh) : tup [h.val l.length] = h.val (nums l).length := by simp [tup, nums]
def ovp (lo hi : ByteArray) (m : Meta) : Bool := !lt m.max lo && le m.min hi
def ovl (s : State) (level : Int) (lo hi : ByteArray) : List Meta := if 0 ≤ level ∧ level < 5 then (s.lv level.toNat).filter (ovp lo hi) else []
theorem ovl_in {s : State} {level : Int} {lo hi : ByteArray} (h : 0 ≤ level ∧ level < 5) : ovl s level lo hi = (s.lv level.toNat).filter (ovp lo hi) := by rw [ovl, if_pos h]
theorem ovl_out {s : State} {level : Int} {lo hi : ByteArray} (h : level < 0 ∨ 5 ≤ level) : ovl s level lo hi = [] := by rw [ovl, if_neg (by omega)]
theorem filt_len (l : List Meta) (p : Meta → Bool) (k : Nat) : ((l.take k).filter p).length ≤ l.length := Nat.le_trans (List.length_filter_le _ _) (by simp only [List.length_take]; omega)
theorem ov_yes {l : List Meta} {lo hi : ByteArray} {k E : Nat} {v : Value} (hk : k < l.length) (h : ovp lo hi (l.getD k Meta.zero) = true) :
    Res.row v E 40 (((l.take k).filter (ovp lo hi)).length + 1) (((l.take k).filter (ovp lo hi)).flatMap Meta.cells ++ (l.getD k Meta.zero).cells) = Res.row v E 40 ((l.take (k + 1)).filter (ovp lo hi)).length (((l.take (k + 1)).filter (ovp lo hi)).flatMap Meta.cells) := by
  generalize hm : l.getD k Meta.zero = m at h ⊢
  rw [take_snoc hk, hm, List.filter_append, List.filter_cons_of_pos h]
  simp
theorem ov_no {l : List Meta} {lo hi : ByteArray} {k E : Nat} {v : Value} (hk : k < l.length) (h : ovp lo hi (l.getD k Meta.zero) = false) :
    Res.row v E 40 ((l.take k).filter (ovp lo hi)).length (((l.take k).filter (ovp lo hi)).flatMap Meta.cells) = Res.row v E 40 ((l.take (k + 1)).filter (ovp lo hi)).length (((l.take (k + 1)).filter (ovp lo hi)).flatMap Meta.cells) := by
  generalize hm : l.getD k Meta.zero = m at h
  rw [take_snoc hk, hm, List.filter_append, List.filter_cons_of_neg (by simp [h])]
  simp
end Go.Tan
