/- What is picked is there: plain laws. No condition. -/
import Derived.Test.YtnhipfnbnilleaaPickO
namespace Go.Tan
theorem getD_mid {A B r : List Meta} {q : Nat} (h : q < B.length) : (A ++ B ++ r).getD (A.length + q) Meta.zero = B.getD q Meta.zero := by
  simp only [List.getD_eq_getElem?_getD]
  rw [List.append_assoc, List.getElem?_append_right (by omega), show A.length + q - A.length = q by omega, List.getElem?_append_left h]
theorem lv_pair {s : State} (h : RightP s) {i : Nat} (hi : i < 5) : (s.lv i).Pairwise (fun a b => a.number ≠ b.number) := by
  rw [List.pairwise_iff_getElem]
  intro p q hp hq hpq
  obtain ⟨r, hr⟩ := allM_pre s hi
  have h1 := h.apart ((allM s i).length + q) ((allM s i).length + p) (by rw [hr]; simp; omega) (by omega)
  rw [hr, getD_mid hq, getD_mid hp] at h1
  simp only [List.getD_eq_getElem?_getD, List.getElem?_eq_getElem hp, List.getElem?_eq_getElem hq, Option.getD_some] at h1
  exact fun e => h1 e.symm
def hit (n : Int) (m : Meta) : Bool := m.number == n
theorem hits_none {n : Int} : ∀ {l : List Meta}, (∀ m ∈ l, m.number ≠ n) → l.filter (hit n) = [] := by
  intro l h
  rw [List.filter_eq_nil_iff]
  intro m hm
  simp [hit, h m hm]
theorem hits_one {m : Meta} : ∀ {l : List Meta}, l.Pairwise (fun a b => a.number ≠ b.number) → m ∈ l → l.filter (hit m.number) = [m]
  | [], _, h => by cases h
  | x :: l, hp, h => by
    obtain ⟨h1, h2⟩ := List.pairwise_cons.1 hp
    by_cases e : x.number = m.number
    · have : m = x := by
        rcases List.mem_cons.1 h with h | h
        · exact h
        · exact absurd e (h1 m h)
      subst this
      rw [List.filter_cons_of_pos (by simp [hit]), hits_none (fun y hy => fun e => h1 y hy e.symm)]
    · have hm : m ∈ l := by
        rcases List.mem_cons.1 h with h | h
        · subst h; exact absurd rfl e
        · exact h
      rw [List.filter_cons_of_neg (by simp [hit, e]), hits_one h2 hm]
theorem nums_getD {M : List Meta} {k : Nat} (h : k < M.length) : (nums M).getD k 0 = (M.getD k Meta.zero).number := by simp [nums, h]
def fnd (M lv : List Meta) (k i : Nat) : List Meta := M.take k ++ (lv.take i).filter (hit ((nums M).getD k 0))
theorem fd_start {M lv : List Meta} {k E : Nat} {v : Value} : Res.row v E 40 (M.take k).length ((M.take k).flatMap Meta.cells) = Res.row v E 40 (fnd M lv k 0).length ((fnd M lv k 0).flatMap Meta.cells) := by simp [fnd]
theorem fd_yes {M lv : List Meta} {k i E : Nat} {u : Value} (hi : i < lv.length) (h : hit ((nums M).getD k 0) (lv.getD i Meta.zero) = true) :
    Res.row u E 40 ((fnd M lv k i).length + 1) ((fnd M lv k i).flatMap Meta.cells ++ (lv.getD i Meta.zero).cells) = Res.row u E 40 (fnd M lv k (i + 1)).length ((fnd M lv k (i + 1)).flatMap Meta.cells) := by
  have : fnd M lv k (i + 1) = fnd M lv k i ++ [lv.getD i Meta.zero] := by
    unfold fnd; rw [take_snoc hi, List.filter_append, List.filter_cons_of_pos h, List.filter_nil, List.append_assoc]
  rw [this]; simp
theorem fd_no {M lv : List Meta} {k i E : Nat} {u : Value} (hi : i < lv.length) (h : hit ((nums M).getD k 0) (lv.getD i Meta.zero) = false) :
    Res.row u E 40 (fnd M lv k i).length ((fnd M lv k i).flatMap Meta.cells) = Res.row u E 40 (fnd M lv k (i + 1)).length ((fnd M lv k (i + 1)).flatMap Meta.cells) := by
  have : fnd M lv k (i + 1) = fnd M lv k i := by
    unfold fnd; rw [take_snoc hi, List.filter_append, List.filter_cons_of_neg (by rw [h]; decide), List.filter_nil, List.append_nil]
  rw [this]
theorem fd_end {M lv : List Meta} {k i : Nat} (hp : lv.Pairwise (fun a b => a.number ≠ b.number)) (hM : ∀ m ∈ M, m ∈ lv) (hk : k < M.length) (hi : lv.length ≤ i) : fnd M lv k i = M.take (k + 1) := by
  unfold fnd
  rw [List.take_of_length_le hi, nums_getD hk, hits_one hp (hM _ (getD_mem hk)), take_snoc hk]
theorem fd_len {M lv : List Meta} {k i : Nat} (hp : lv.Pairwise (fun a b => a.number ≠ b.number)) (hM : ∀ m ∈ M, m ∈ lv) (hk : k < M.length) : (fnd M lv k i).length ≤ k + 1 := by
  have h1 : ((lv.take i).filter (hit ((nums M).getD k 0))).length ≤ (lv.filter (hit ((nums M).getD k 0))).length := List.Sublist.length_le (List.Sublist.filter _ (List.take_sublist i lv))
  have h2 : (lv.filter (hit ((nums M).getD k 0))).length = 1 := by rw [nums_getD hk, hits_one hp (hM _ (getD_mem hk))]; rfl
  unfold fnd
  rw [List.length_append, List.length_take]
  omega

/-- What a job that was picked bears. -/
structure JF (s : State) (j : Job) (lowM highM : List Meta) : Prop where
  l0 : 0 ≤ j.level
  l5 : j.level < 5
  t0 : j.level ≤ j.to
  t1 : j.to ≤ j.level + 1
  t5 : j.to < 5
  low : j.low = nums lowM
  high : j.high = nums highM
  ne : 0 < lowM.length
  lowIn : ∀ m ∈ lowM, m ∈ s.lv j.level.toNat
  highIn : ∀ m ∈ highM, m ∈ s.lv j.to.toNat
  stay : j.to = j.level → ∃ m, lowM = [m] ∧ highM = [] ∧ isOld s j.level m = true
  down : j.to ≠ j.level → highM = ovl s j.to (lowMin lowM) (lowMax lowM) ∧ (0 < j.level ∨ lowM = s.lv 0)
theorem ovl_in_lv {s : State} {level : Int} {lo hi : ByteArray} {m : Meta} (h : m ∈ ovl s level lo hi) : m ∈ s.lv level.toNat := by
  unfold ovl at h
  split at h
  · exact (List.mem_filter.1 h).1
  · cases h
theorem jf_down {s : State} {why : Int} {i : Nat} {M : List Meta} (hi : i < 4) (hne : 0 < M.length) (hM : ∀ m ∈ M, m ∈ s.lv i) (h0 : 0 < i ∨ M = s.lv 0) : JF s (downJ s why (i : Int) M) M (ovl s ((i : Int) + 1) (lowMin M) (lowMax M)) := by
  refine ⟨?_, ?_, ?_, ?_, ?_, rfl, rfl, hne, ?_, ?_, ?_, ?_⟩
  · show (0 : Int) ≤ (i : Int); omega
  · show (i : Int) < 5; omega
  · show (i : Int) ≤ (i : Int) + 1; omega
  · show (i : Int) + 1 ≤ (i : Int) + 1; omega
  · show (i : Int) + 1 < 5; omega
  · exact hM
  · intro m hm; exact ovl_in_lv hm
  · intro h; have h' : (i : Int) + 1 = (i : Int) := h; omega
  · intro _; exact ⟨rfl, h0.imp (fun h => by show (0 : Int) < (i : Int); omega) id⟩
theorem jf_stay {s : State} {i : Nat} {m : Meta} (hi : i < 5) (hm : m ∈ s.lv i) (ho : isOld s (i : Int) m = true) : JF s ⟨2, (i : Int), (i : Int), nums [m], []⟩ [m] [] := by
  refine ⟨?_, ?_, ?_, ?_, ?_, rfl, rfl, by simp, ?_, ?_, ?_, ?_⟩
  · show (0 : Int) ≤ (i : Int); omega
  · show (i : Int) < 5; omega
  · exact Int.le_refl _
  · show (i : Int) ≤ (i : Int) + 1; omega
  · show (i : Int) < 5; omega
  · intro x hx; rw [List.mem_singleton.1 hx]; exact hm
  · intro x hx; cases hx
  · intro _; exact ⟨m, rfl, rfl, ho⟩
  · intro h; exact absurd rfl h
theorem pickF_is {s : State} {o : Opts} {turn : Int} {j : Job} : ∀ {n i : Nat}, pickF s o turn n i = some j → ∃ k, i ≤ k ∧ k < i + n ∧ fullB s o (k : Int) = true ∧ j = downJ s 1 k (lowOf s turn k)
  | 0, i, h => by cases h
  | n + 1, i, h => by
    unfold pickF at h
    split at h
    · rename_i hb
      exact ⟨i, Nat.le_refl _, by omega, hb, (Option.some.inj h).symm⟩
    · obtain ⟨k, h1, h2, h3, h4⟩ := pickF_is h
      exact ⟨k, by omega, by omega, h3, h4⟩
theorem pickO_is {s : State} {j : Job} : ∀ {n i : Nat}, pickO s n i = some j → ∃ k, i ≤ k ∧ k < i + n ∧ 0 ≤ oldI s k ∧ j = oldJ s k
  | 0, i, h => by cases h
  | n + 1, i, h => by
    unfold pickO at h
    split at h
    · obtain ⟨k, h1, h2, h3, h4⟩ := pickO_is h
      exact ⟨k, by omega, by omega, h3, h4⟩
    · exact ⟨i, Nat.le_refl _, by omega, by omega, (Option.some.inj h).symm⟩
theorem idx_is {p : Meta → Bool} {l : List Meta} (h : 0 ≤ idxI p l) : p (l.getD (idxI p l).toNat Meta.zero) = true := by
  unfold idxI at h ⊢
  cases hf : l.findIdx? p with
  | none => rw [hf] at h; simp at h
  | some i =>
    obtain ⟨h1, h2, _⟩ := List.findIdx?_eq_some_iff_getElem.1 hf
    simp only [Int.toNat_natCast]
    simpa [h1] using h2
theorem pick_jf {s : State} {o : Opts} {turn : Int} {j : Job} (ht : 0 ≤ turn) (h : pickJ s o turn = (j, true)) : rightS s = true ∧ ∃ lowM highM, JF s j lowM highM := by
  unfold pickJ at h
  split at h
  · rename_i hr
    refine ⟨hr.2, ?_⟩
    split at h
    · rename_i j' hf
      obtain rfl := (Prod.mk.inj h).1
      obtain ⟨k, _, h2, h3, rfl⟩ := pickF_is hf
      have hne := full_ne hr.1 h3
      by_cases h0 : k = 0
      · rw [lowOf_zero h0]
        subst h0
        exact ⟨_, _, jf_down (by omega) hne (fun m hm => hm) (.inr rfl)⟩
      · rw [lowOf_pos h0]
        have hb := tm_bd (n := (s.lv k).length) ht hne
        refine ⟨_, _, jf_down (by omega) (by simp) (fun m hm => ?_) (.inl (by omega))⟩
        rw [List.mem_singleton.1 hm]; exact getD_mem (by omega)
    · split at h
      · rename_i j' hf
        obtain rfl := (Prod.mk.inj h).1
        obtain ⟨k, _, h2, h3, rfl⟩ := pickO_is hf
        have hb := oldI_bd h3
        by_cases h0 : k = 0
        · rw [oldJ_zero h0]
          subst h0
          exact ⟨_, _, jf_down (i := 0) (by omega) (by omega) (fun m hm => hm) (.inr rfl)⟩
        · rw [oldJ_pos h0]
          exact ⟨_, _, jf_stay (by omega) (getD_mem hb) (idx_is h3)⟩
      · cases h
  · cases h
theorem pick_false {s : State} {o : Opts} {turn : Int} {j : Job} (h : pickJ s o turn = (j, false)) : j = Job.zero := by
  unfold pickJ at h
  split at h
  · split at h
    · cases h
    · split at h
      · cases h
      · exact (Prod.mk.inj h).1.symm
  · exact (Prod.mk.inj h).1.symm
end Go.Tan
