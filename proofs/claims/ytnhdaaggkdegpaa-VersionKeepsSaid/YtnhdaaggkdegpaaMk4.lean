/- Lemmas and contracts, joined: An edit that goes the other way leads back. Plain data. No condition. An edit that goes the other way: what the code's steps make of it. Plain data. No condition. Contracts of functions, walked. -/
import Derived.Test.YtnhdaaggkdegpaaMk3
set_option linter.unusedSimpArgs false
set_option linter.unusedVariables false
set_option linter.unusedSectionVars false
namespace Go.Tan
open Go.RowKit
/-! ### One order for what is strictly ordered -/
theorem uniq_srt {lt : Meta → Meta → Bool} : ∀ {l l' : List Meta}, l.Perm l' → (l'.Pairwise fun a b => lt a b = true) → (l.Pairwise fun a b => lt b a = false) → l = l'
  | [], l', hp, _, _ => (List.nil_perm.1 hp).symm
  | b :: t, [], hp, _, _ => by have := hp.length_eq; simp at this
  | b :: t, a :: t', hp, h1, h2 => by
    rw [List.pairwise_cons] at h1 h2
    have hab : b = a := by
      have m1 : b ∈ a :: t' := hp.subset (List.mem_cons_self ..)
      have m2 : a ∈ b :: t := hp.symm.subset (List.mem_cons_self ..)
      rcases List.mem_cons.1 m1 with h | h
      · exact h
      · rcases List.mem_cons.1 m2 with h' | h'
        · exact h'.symm
        · have e1 := h1.1 b h
          have e2 := h2.1 a h'
          rw [e1] at e2; cases e2
    subst hab
    rw [uniq_srt (List.perm_cons .. |>.1 hp) h1.2 h2.2]
theorem sortS_pw {lt : Meta → Meta → Bool} (h : Wk0 lt) (l : List Meta) : (sortS lt l).Pairwise fun a b => lt b a = false := by
  obtain ⟨T, h1, _, h3⟩ := sortS_spec h l
  rw [← h3, List.pairwise_map]
  refine h1.imp fun {x y} hxy => ?_
  rcases hxy with hxy | hxy
  · exact h.as hxy
  · exact hxy.1
theorem right_strict {s : State} (hr : RightP s) {i : Nat} (hi : i < 5) : (s.lv i).Pairwise fun a b => lvLt (i : Int) a b = true := by
  have step : ∀ (d a : Nat), a + d + 1 < (s.lv i).length → lvLt (i : Int) ((s.lv i).getD a Meta.zero) ((s.lv i).getD (a + d + 1) Meta.zero) = true := by
    intro d
    have one : ∀ a, a + 1 < (s.lv i).length → lvLt (i : Int) ((s.lv i).getD a Meta.zero) ((s.lv i).getD (a + 1) Meta.zero) = true := by
      intro a h
      have := (hr.lv i hi).2 a h
      unfold pairOk at this
      unfold lvLt
      by_cases h0 : i = 0
      · subst h0; simpa using this
      · rw [if_neg (by omega)] at this ⊢
        exact le_lt_tr (good_le ((hr.lv i hi).1 _ (getD_mem (k := a) (by omega))).2) this
    induction d with
    | zero => intro a h; exact one a h
    | succ d ih =>
      intro a h
      exact (lvLt_wk i).tr (ih a (by omega)) (one (a + d + 1) (by omega))
  refine List.pairwise_iff_getElem.2 fun a b ha hb hab => ?_
  obtain ⟨d, rfl⟩ : ∃ d, b = a + d + 1 := ⟨b - a - 1, by omega⟩
  have := step d a hb
  have e1 : (s.lv i).getD a Meta.zero = (s.lv i)[a] := by simp [ha]
  have e2 : (s.lv i).getD (a + d + 1) Meta.zero = (s.lv i)[a + d + 1] := by simp [hb]
  rwa [e1, e2] at this
theorem srt_back {s : State} (hr : RightP s) {i : Nat} (hi : i < 5) {l : List Meta} (hp : l.Perm (s.lv i)) : sortS (lvLt (i : Int)) l = s.lv i :=
  uniq_srt ((sortS_perm l).trans hp) (right_strict hr hi) (sortS_pw (lvLt_wk i) l)
/-! ### Numbers that are apart -/
def Nub (l : List Meta) : Prop := l.Pairwise fun a b => a.number ≠ b.number
theorem Nub.perm {l l' : List Meta} (h : Nub l) (hp : l.Perm l') : Nub l' := hp.pairwise h fun hab => Ne.symm hab
theorem Nub.same {l : List Meta} (h : Nub l) {a b : Meta} (ha : a ∈ l) (hb : b ∈ l) (e : a.number = b.number) : a = b := by
  induction l with
  | nil => cases ha
  | cons x l ih =>
    have h' := List.pairwise_cons.1 h
    rcases List.mem_cons.1 ha with ha' | ha'
    · rcases List.mem_cons.1 hb with hb' | hb'
      · rw [ha', hb']
      · rw [ha'] at e; exact absurd e (h'.1 _ hb')
    · rcases List.mem_cons.1 hb with hb' | hb'
      · rw [hb'] at e; exact absurd e.symm (h'.1 _ ha')
      · exact ih h'.2 ha' hb'
theorem right_nub {s : State} (hr : RightP s) {i : Nat} (hi : i < 5) : Nub (s.lv i) := by
  have hall : Nub (allM s 5) := by
    refine List.pairwise_iff_getElem.2 fun a b ha hb hab => ?_
    have := hr.apart b a hb hab
    rw [show (allM s 5).getD b Meta.zero = (allM s 5)[b] by simp [hb], show (allM s 5).getD a Meta.zero = (allM s 5)[a] by simp [ha]] at this
    exact Ne.symm this
  have sub : ∀ n, i < n → (s.lv i).Sublist (allM s n) := by
    intro n
    induction n with
    | zero => intro h; omega
    | succ n ih =>
      intro h
      by_cases e : i = n
      · subst e; exact List.sublist_append_right _ _
      · exact (ih (by omega)).trans (List.sublist_append_left _ _)
  exact hall.sublist (sub 5 hi)
/-! ### What a taking out is -/
theorem take_drop_perm {l : List Meta} {k : Nat} (hk : k < l.length) : l.Perm (l.getD k Meta.zero :: (l.take k ++ l.drop (k + 1))) := by
  have h1 : l = l.take k ++ l.getD k Meta.zero :: l.drop (k + 1) := by
    rw [show l.getD k Meta.zero = l[k] by simp [hk], ← List.drop_eq_getElem_cons hk, List.take_append_drop]
  conv => lhs; rw [h1]
  exact List.perm_middle
theorem idx_val {p : Meta → Bool} {l : List Meta} (h : ¬ idxI p l < 0) : p (l.getD (idxI p l).toNat Meta.zero) = true := by
  unfold idxI at *
  cases hf : l.findIdx? p with
  | none => rw [hf] at h; simp at h
  | some i =>
    rw [List.findIdx?_eq_some_iff_getElem] at hf
    obtain ⟨hi, hp, _⟩ := hf
    simpa [hi] using hp
theorem idx_ex {p : Meta → Bool} {l : List Meta} {m : Meta} (hm : m ∈ l) (hp : p m = true) : ¬ idxI p l < 0 := by
  unfold idxI
  cases hf : l.findIdx? p with
  | none => rw [List.findIdx?_eq_none_iff] at hf; have := hf m hm; rw [hp] at this; cases this
  | some i => simp
theorem dropF_one {g : Gone} {L L' : Lvs} (h : dropF g L = some L') : g.level < 5 ∧ ∃ m, m.number = g.number ∧ (L g.level.toNat).Perm (m :: L' g.level.toNat) ∧ ∀ i, i ≠ g.level.toNat → L' i = L i := by
  unfold dropF at h
  split at h
  · rename_i h5
    split at h
    · cases h
    · rename_i hk
      simp only [Option.some.injEq] at h
      subst h
      refine ⟨h5, (L g.level.toNat).getD (idxI (isN g) (L g.level.toNat)).toNat Meta.zero, ?_, ?_, fun i hi => updL_other hi⟩
      · exact beq_iff_eq.1 (idx_val hk)
      · rw [updL_same]; exact take_drop_perm (idx_lt hk).1
  · cases h
/-- what was taken out, each with what names it -/
theorem drop_all : ∀ {gs : List Gone} {L L' : Lvs}, foldO dropF gs L = some L' → ∃ ps : List (Gone × Meta), ps.map (·.1) = gs ∧ (∀ p ∈ ps, p.2.number = p.1.number ∧ p.1.level < 5) ∧ ∀ i, (L i).Perm ((ps.filter (fun p => p.1.level.toNat == i)).map (·.2) ++ L' i)
  | [], L, L', h => by
    simp only [foldO, Option.some.injEq] at h; subst h
    exact ⟨[], rfl, fun p hp => (List.not_mem_nil hp).elim, fun i => List.Perm.refl _⟩
  | g :: gs, L, L', h => by
    simp only [foldO] at h
    cases hf : dropF g L with
    | none => rw [hf] at h; cases h
    | some L1 =>
      rw [hf] at h
      obtain ⟨ps, h1, h2, h3⟩ := drop_all (L := L1) h
      obtain ⟨h5, m, hm, hp, ho⟩ := dropF_one hf
      refine ⟨(g, m) :: ps, by simp [h1], fun p hp => ?_, fun i => ?_⟩
      · rcases List.mem_cons.1 hp with rfl | hp
        · exact ⟨hm, h5⟩
        · exact h2 p hp
      · by_cases hi : i = g.level.toNat
        · subst hi
          rw [List.filter_cons_of_pos (by simp), List.map_cons, List.cons_append]
          exact hp.trans ((h3 _).cons _)
        · rw [List.filter_cons_of_neg (by simp; omega), ← ho i hi]; exact h3 i
def goneOf (m : Meta) : Gone := ⟨m.level, m.number⟩
theorem drop_back : ∀ {ms : List Meta} {L M : Lvs}, (∀ i, i < 5 → (L i).Perm (M i ++ ms.filter (atLv i))) → (∀ m ∈ ms, 0 ≤ m.level ∧ m.level < 5) → (∀ i, i < 5 → Nub (L i)) → ∃ L', foldO dropF (ms.map goneOf) L = some L' ∧ ∀ i, i < 5 → (L' i).Perm (M i)
  | [], L, M, h, _, _ => ⟨L, rfl, fun i hi => by simpa using h i hi⟩
  | m :: ms, L, M, h, hm, hn => by
    have hl := hm m (List.mem_cons_self ..)
    have hq : m.level.toNat < 5 := by omega
    have hmem : m ∈ L m.level.toNat := (h _ hq).symm.subset (List.mem_append_right _ (by rw [List.filter_cons_of_pos (by simp [atLv])]; exact List.mem_cons_self ..))
    have hk : ¬ idxI (isN (goneOf m)) (L m.level.toNat) < 0 := idx_ex hmem (by simp [isN, goneOf])
    have hv := idx_val hk
    have hx := take_drop_perm (idx_lt hk).1
    have he : (L m.level.toNat).getD (idxI (isN (goneOf m)) (L m.level.toNat)).toNat Meta.zero = m := (hn _ hq).same (getD_mem (idx_lt hk).1) hmem (beq_iff_eq.1 hv)
    rw [he] at hx
    have hd : dropF (goneOf m) L = some (updL L m.level.toNat ((L m.level.toNat).take (idxI (isN (goneOf m)) (L m.level.toNat)).toNat ++ (L m.level.toNat).drop ((idxI (isN (goneOf m)) (L m.level.toNat)).toNat + 1))) := by
      unfold dropF
      rw [if_pos (show (goneOf m).level < 5 from hl.2)]; exact if_neg hk
    generalize hL : updL L m.level.toNat ((L m.level.toNat).take (idxI (isN (goneOf m)) (L m.level.toNat)).toNat ++ (L m.level.toNat).drop ((idxI (isN (goneOf m)) (L m.level.toNat)).toNat + 1)) = L1 at hd
    have p1 : ∀ i, i < 5 → (L1 i).Perm (M i ++ ms.filter (atLv i)) := fun i hi => by
      rw [← hL]
      by_cases e : i = m.level.toNat
      · subst e
        rw [updL_same]
        have := h _ hq
        rw [List.filter_cons_of_pos (by simp [atLv])] at this
        exact (List.perm_cons m).1 (hx.symm.trans (this.trans List.perm_middle))
      · rw [updL_other e]
        have := h i hi
        rwa [List.filter_cons_of_neg (by simp [atLv]; omega)] at this
    have p2 : ∀ i, i < 5 → Nub (L1 i) := fun i hi => by
      rw [← hL]
      by_cases e : i = m.level.toNat
      · subst e
        rw [updL_same]
        exact (List.pairwise_cons.1 ((hn _ hq).perm hx)).2
      · rw [updL_other e]; exact hn i hi
    obtain ⟨L', h1, h2⟩ := drop_back p1 (fun x hx => hm x (List.mem_cons_of_mem _ hx)) p2
    refine ⟨L', ?_, h2⟩
    rw [List.map_cons]; unfold foldO; rw [hd]; exact h1
theorem add_some : ∀ {ms : List Meta} {L : Lvs}, (∀ m ∈ ms, m.level < 5) → ∃ L', foldO addF ms L = some L'
  | [], L, _ => ⟨L, rfl⟩
  | m :: ms, L, h => by
    obtain ⟨L', h'⟩ := add_some (ms := ms) (L := updL L m.level.toNat (L m.level.toNat ++ [m])) (fun x hx => h x (List.mem_cons_of_mem _ hx))
    refine ⟨L', ?_⟩
    simp only [foldO, addF]
    rw [if_pos (h m (List.mem_cons_self ..))]; exact h'
theorem add_lv : ∀ {ms : List Meta} {L L' : Lvs}, foldO addF ms L = some L' → ∀ m ∈ ms, m.level < 5
  | [], _, _, _, m, hm => by cases hm
  | x :: ms, L, L', h, m, hm => by
    simp only [foldO] at h
    unfold addF at h
    split at h
    · rename_i h5
      rcases List.mem_cons.1 hm with rfl | hm
      · exact h5
      · exact add_lv (show foldO addF ms _ = some L' from h) m hm
    · cases h
/-! ### The tables that an edit names -/
def hitB (e : Edit) (i : Nat) (m : Meta) : List Meta := (e.drop.filter (fun g => g.level == (i : Int) && g.number == m.number)).map fun _ => m
def lvB (s : State) (e : Edit) (i : Nat) : List Meta := (s.lv i).flatMap (hitB e i)
def allB (s : State) (e : Edit) : Nat → List Meta
  | 0 => []
  | n + 1 => allB s e n ++ lvB s e n
def backE (s : State) (e : Edit) : Edit := ⟨e.log, e.next, e.seq, e.least, e.gens, allB s e 5, e.add.map goneOf⟩
theorem mem_hitB {e : Edit} {i : Nat} {m x : Meta} (h : x ∈ hitB e i m) : x = m := by
  unfold hitB at h
  obtain ⟨_, _, rfl⟩ := List.mem_map.1 h; rfl
theorem mem_lvB {s : State} {e : Edit} {i : Nat} {x : Meta} (h : x ∈ lvB s e i) : x ∈ s.lv i := by
  obtain ⟨m, hm, hx⟩ := List.mem_flatMap.1 h
  rw [mem_hitB hx]; exact hm
theorem filter_self {D : List Meta} (h : Nub D) {m : Meta} (hm : m ∈ D) : D.filter (fun x => x.number == m.number) = [m] := by
  induction D with
  | nil => cases hm
  | cons a D ih =>
    have h' := List.pairwise_cons.1 h
    rcases List.mem_cons.1 hm with rfl | hm
    · rw [List.filter_cons_of_pos (by simp), List.filter_eq_nil_iff.2 (fun x hx => by have := h'.1 x hx; simp; exact fun e => this e.symm)]
    · rw [List.filter_cons_of_neg (by simp; exact h'.1 m hm)]; exact ih h'.2 hm
theorem flat_self : ∀ {D : List Meta} {f : Meta → List Meta}, (∀ m ∈ D, f m = [m]) → D.flatMap f = D
  | [], _, _ => rfl
  | m :: D, f, h => by rw [List.flatMap_cons, h m (List.mem_cons_self ..), flat_self fun x hx => h x (List.mem_cons_of_mem _ hx)]; rfl
theorem flat_none : ∀ {D : List Meta} {f : Meta → List Meta}, (∀ m ∈ D, f m = []) → D.flatMap f = []
  | [], _, _ => rfl
  | m :: D, f, h => by rw [List.flatMap_cons, h m (List.mem_cons_self ..), flat_none fun x hx => h x (List.mem_cons_of_mem _ hx)]; rfl
theorem hit_of {ps : List (Gone × Meta)} {e : Edit} (h1 : ps.map (·.1) = e.drop) (h2 : ∀ p ∈ ps, p.2.number = p.1.number ∧ p.1.level < 5) (hw : ∀ g ∈ e.drop, 0 ≤ g.level) {i : Nat} {m : Meta} :
    hitB e i m = (((ps.filter (fun p => p.1.level.toNat == i)).map (·.2)).filter (fun x => x.number == m.number)).map fun _ => m := by
  unfold hitB
  rw [← h1, List.filter_map, List.filter_map, List.filter_filter, List.map_map, List.map_map]
  have : (ps.filter ((fun g : Gone => g.level == (i : Int) && g.number == m.number) ∘ fun p => p.1)) = ps.filter (fun p => ((fun x : Meta => x.number == m.number) ∘ fun p : Gone × Meta => p.2) p && (p.1.level.toNat == i)) := by
    refine List.filter_congr fun p hp => ?_
    have a := (h2 p hp).1
    have b : 0 ≤ p.1.level := hw _ (by rw [← h1]; exact List.mem_map_of_mem hp)
    simp only [Function.comp_apply, a]
    rw [Bool.and_comm]
    congr 1
    rw [Bool.eq_iff_iff]; simp; omega
  rw [this]; rfl
theorem lvB_perm {s : State} {e : Edit} {L1 : Lvs} (hr : RightP s) (hw : ∀ g ∈ e.drop, 0 ≤ g.level) (h : foldO dropF e.drop s.lv = some L1) {i : Nat} (hi : i < 5) : (lvB s e i ++ L1 i).Perm (s.lv i) := by
  obtain ⟨ps, h1, h2, h3⟩ := drop_all h
  have hp := h3 i
  generalize hD : (ps.filter (fun p => p.1.level.toNat == i)).map (·.2) = D at hp
  have hn : Nub (D ++ L1 i) := (right_nub hr hi).perm hp
  have hnD : Nub D := hn.sublist (List.sublist_append_left _ _)
  have e1 : (lvB s e i).Perm D := by
    have := hp.flatMap_right (hitB e i)
    rw [List.flatMap_append, flat_self (D := D), flat_none (D := L1 i), List.append_nil] at this
    · exact this
    · intro m hm
      rw [hit_of h1 h2 hw, hD, List.filter_eq_nil_iff.2 (fun x hx => ?_)]
      · rfl
      · have := (List.pairwise_append.1 hn).2.2 x hx m hm
        simpa using this
    · intro m hm
      rw [hit_of h1 h2 hw, hD, filter_self hnD hm]; rfl
  exact (e1.append_right _).trans hp.symm
theorem allB_len {s : State} {e : Edit} (h : ∀ i, i < 5 → (lvB s e i).length ≤ (s.lv i).length) : ∀ n, n ≤ 5 → ((allB s e n).length : Int) ≤ tot s n
  | 0, _ => by simp [allB, tot]
  | n + 1, hn => by
    have a := allB_len h n (by omega)
    have b := h n (by omega)
    simp only [allB, tot, List.length_append]; omega
theorem allB_filter {s : State} {e : Edit} (hr : RightP s) {i : Nat} : ∀ n, n ≤ 5 → (allB s e n).filter (atLv i) = if i < n then lvB s e i else []
  | 0, _ => by simp [allB]
  | n + 1, hn => by
    have key : (lvB s e n).filter (atLv i) = if i = n then lvB s e i else [] := by
      split
      · rename_i h; subst h
        refine List.filter_eq_self.2 fun x hx => ?_
        have := ((hr.lv i (by omega)).1 x (mem_lvB hx)).1
        simp [atLv, this]
      · rename_i h
        refine List.filter_eq_nil_iff.2 fun x hx => ?_
        have := ((hr.lv n (by omega)).1 x (mem_lvB hx)).1
        simp [atLv, this]; omega
    rw [allB, List.filter_append, allB_filter hr n (by omega), key]
    by_cases h1 : i < n
    · rw [if_pos h1, if_neg (by omega), if_pos (by omega), List.append_nil]
    · by_cases h2 : i = n
      · rw [if_neg h1, if_pos h2, if_pos (by omega), List.nil_append]
      · rw [if_neg h1, if_neg h2, if_neg (by omega), List.nil_append]
theorem mem_allB {s : State} {e : Edit} {x : Meta} : ∀ n, x ∈ allB s e n → ∃ i, i < n ∧ x ∈ s.lv i
  | 0, h => by cases h
  | n + 1, h => by
    rcases List.mem_append.1 h with h | h
    · obtain ⟨i, hi, hx⟩ := mem_allB n h; exact ⟨i, by omega, hx⟩
    · exact ⟨n, by omega, mem_lvB h⟩
/-- the other way leads back -/
theorem back_apply {s X : State} {e : Edit} (hX : AppR s e X 0) (hw : e.wf) : ∃ Y, applyO X (backE s e) = some Y ∧ ∀ i, i < 5 → Y.lv i = s.lv i := by
  rcases hX with ⟨_, h, _⟩ | ⟨_, _, h, _⟩ | ⟨hrs, _, Y0, hap, hE⟩
  · cases h
  · cases h
  obtain ⟨hok, hry, L1, L2, h1, h2, rfl⟩ := applyO_inv hap
  have hr := rightP_of hrs
  have hrX : RightP X := hE.symm.right' (rightP_of hry)
  have hlx : ∀ i, i < 5 → (X.lv i).Perm (L1 i ++ e.add.filter (atLv i)) := fun i hi => by
    rw [hE.lv i hi, ← addL_eq h2 i]; exact sortS_perm _
  have hadd := add_lv h2
  obtain ⟨M1, hm1, hm2⟩ := drop_back (ms := e.add) (L := X.lv) (M := L1) hlx (fun m hm => ⟨(hw.add m hm).level.1, hadd m hm⟩) (fun i hi => right_nub hrX hi)
  have hdl : ∀ g ∈ e.drop, 0 ≤ g.level := fun g hg => (hw.drop g hg).level.1
  have hmem : ∀ m ∈ allB s e 5, m.level < 5 := fun m hm => by
    obtain ⟨i, hi, hx⟩ := mem_allB 5 hm
    rw [((hr.lv i hi).1 m hx).1]; omega
  obtain ⟨M2, hm3⟩ := add_some (L := M1) hmem
  have hfin : ∀ i, i < 5 → srtL M2 i = s.lv i := fun i hi => by
    refine srt_back hr hi ?_
    rw [addL_eq hm3 i, allB_filter hr 5 (Nat.le_refl _), if_pos hi]
    exact (((hm2 i hi).append_right _).trans List.perm_append_comm).trans (lvB_perm hr hdl h1 hi)
  have hlen : ∀ i, i < 5 → (lvB s e i).length ≤ (s.lv i).length := fun i hi => by
    have := (lvB_perm hr hdl h1 hi).length_eq; rw [List.length_append] at this; omega
  have htot := allB_len hlen 5 (Nat.le_refl _)
  have hfew := hr.few
  have hbef : beforeB s e = false ∧ e.add.length ≤ 1024 := by
    unfold okB at hok; simp only [Bool.and_eq_true, Bool.not_eq_true', decide_eq_true_eq] at hok
    exact ⟨hok.1, by omega⟩
  have hb2 : (∀ i, i < 5 → ¬ e.gens i < s.gens i) ∧ ¬ e.next < s.next := by
    have := hbef.1
    unfold beforeB at this
    simp only [Bool.or_eq_false_iff, decide_eq_false_iff_not, List.any_eq_false, List.mem_range, decide_eq_true_eq] at this
    exact ⟨this.1, this.2.1.1.2⟩
  have hok2 : okB X (backE s e) = true := by
    unfold okB
    have hbb : beforeB X (backE s e) = false := by
      unfold beforeB backE
      simp only [hE.gens, hE.log, hE.next, hE.seq, hE.least, mkX, Bool.or_eq_false_iff, decide_eq_false_iff_not, List.any_eq_false, List.mem_range, decide_eq_true_eq]
      exact ⟨fun i _ => Int.lt_irrefl _, ⟨⟨Int.lt_irrefl _, Int.lt_irrefl _⟩, Int.lt_irrefl _⟩, Int.lt_irrefl _⟩
    rw [hbb]
    simp only [Bool.not_false, Bool.true_and, Bool.and_eq_true, decide_eq_true_eq, backE, List.length_map]
    have g1 : ((allB s e 5).length : Int) ≤ 1024 := Int.le_trans htot hfew
    have g2 : (e.add.length : Int) ≤ 1024 := by omega
    exact ⟨decide_eq_true g1, g2⟩
  have hEY : EqS (mkX (backE s e) (srtL M2)) ⟨s.lv, e.log, e.next, e.seq, e.least, e.gens⟩ := ⟨hfin, rfl, rfl, rfl, rfl, rfl⟩
  have hYR : RightP ⟨s.lv, e.log, e.next, e.seq, e.least, e.gens⟩ := by
    have hYr := rightP_of hry
    refine ⟨hYr.seq, hYr.least, hYr.log, ?_, fun i hi => ⟨fun m hm => ⟨((hr.lv i hi).1 m hm).1, ?_⟩, (hr.lv i hi).2⟩, ?_⟩
    · have : tot ⟨s.lv, e.log, e.next, e.seq, e.least, e.gens⟩ 5 = tot s 5 := rfl
      rw [this]; exact hfew
    · have hg := ((hr.lv i hi).1 m hm).2
      have hl := ((hr.lv i hi).1 m hm).1
      unfold good at hg ⊢
      simp only [Bool.and_eq_true, decide_eq_true_eq] at hg ⊢
      obtain ⟨⟨h7, h8⟩, h9⟩ := hg
      have hgi := hb2.1 i hi
      have hil : m.level.toNat = i := by omega
      refine ⟨⟨h7, by show m.number < e.next; omega⟩, ?_⟩
      show m.gen ≤ e.gens m.level.toNat
      rw [hil] at h9 ⊢; omega
    · exact hr.apart
  refine ⟨mkX (backE s e) (srtL M2), ?_, hfin⟩
  rw [ap_end hok2 hm1 hm3]
  exact chk_eq (EqS.refl _) (rightS_true (hEY.symm.right' hYR))
/-! ### How many tables there are -/
def totL (L : Lvs) : Nat → Nat
  | 0 => 0
  | n + 1 => totL L n + (L n).length
theorem totL_tot (s : State) : ∀ n, (totL s.lv n : Int) = tot s n
  | 0 => rfl
  | n + 1 => by simp only [totL, tot, ← totL_tot s n]; omega
theorem totL_same {L L' : Lvs} : ∀ n, (∀ i, i < n → (L i).length = (L' i).length) → totL L n = totL L' n
  | 0, _ => rfl
  | n + 1, h => by simp only [totL, totL_same n fun i hi => h i (by omega), h n (by omega)]
theorem totL_upd {L : Lvs} {q : Nat} {l : List Meta} : ∀ n, totL (updL L q l) n + (if q < n then (L q).length else 0) = totL L n + (if q < n then l.length else 0)
  | 0 => by simp [totL]
  | n + 1 => by
    have ih := totL_upd (L := L) (q := q) (l := l) n
    simp only [totL]
    by_cases h : n = q
    · subst h
      rw [updL_same]
      simp only [Nat.lt_irrefl, if_false, Nat.lt_succ_self, if_true] at ih ⊢; omega
    · rw [updL_other h]
      by_cases h2 : q < n
      · simp only [h2, if_true, show q < n + 1 by omega] at ih ⊢; omega
      · simp only [h2, if_false, show ¬ q < n + 1 by omega] at ih ⊢; omega
theorem totL_drop : ∀ {gs : List Gone} {L L' : Lvs}, (∀ g ∈ gs, 0 ≤ g.level) → foldO dropF gs L = some L' → totL L' 5 + gs.length = totL L 5
  | [], L, L', _, h => by simp only [foldO, Option.some.injEq] at h; subst h; rfl
  | g :: gs, L, L', hw, h => by
    simp only [foldO] at h
    cases hf : dropF g L with
    | none => rw [hf] at h; cases h
    | some L1 =>
      rw [hf] at h
      have ih := totL_drop (L := L1) (fun x hx => hw x (List.mem_cons_of_mem _ hx)) h
      have h0 := hw g (List.mem_cons_self ..)
      obtain ⟨h5, m, _, hp, ho⟩ := dropF_one hf
      have hl := hp.length_eq
      have e1 : totL L1 5 = totL (updL L g.level.toNat (L1 g.level.toNat)) 5 := totL_same 5 fun i hi => by
        by_cases e : i = g.level.toNat
        · subst e; rw [updL_same]
        · rw [updL_other e, ho i e]
      have e2 := totL_upd (L := L) (q := g.level.toNat) (l := L1 g.level.toNat) 5
      rw [if_pos (by omega), if_pos (by omega)] at e2
      simp only [List.length_cons] at hl ⊢; omega
theorem totL_add : ∀ {ms : List Meta} {L L' : Lvs}, (∀ m ∈ ms, 0 ≤ m.level) → foldO addF ms L = some L' → totL L' 5 = totL L 5 + ms.length
  | [], L, L', _, h => by simp only [foldO, Option.some.injEq] at h; subst h; rfl
  | m :: ms, L, L', hw, h => by
    simp only [foldO] at h
    have h0 := hw m (List.mem_cons_self ..)
    unfold addF at h
    split at h
    · rename_i h5
      have ih := totL_add (fun x hx => hw x (List.mem_cons_of_mem _ hx)) (show foldO addF ms _ = some L' from h)
      have e2 := totL_upd (L := L) (q := m.level.toNat) (l := L m.level.toNat ++ [m]) 5
      rw [if_pos (by omega), if_pos (by omega)] at e2
      simp only [List.length_append, List.length_cons, List.length_nil] at e2 ⊢; omega
    · cases h
theorem app_count {s X : State} {e : Edit} (hX : AppR s e X 0) (hw : e.wf) : tot X 5 = tot s 5 - e.drop.length + e.add.length := by
  rcases hX with ⟨_, h, _⟩ | ⟨_, _, h, _⟩ | ⟨hrs, _, Y0, hap, hE⟩
  · cases h
  · cases h
  obtain ⟨_, _, L1, L2, h1, h2, rfl⟩ := applyO_inv hap
  rw [hE.tot 5 (Nat.le_refl _), ← totL_tot, ← totL_tot]
  have a := totL_drop (fun g hg => (hw.drop g hg).level.1) h1
  have b := totL_add (fun m hm => (hw.add m hm).level.1) h2
  have c : totL (mkX e (srtL L2)).lv 5 = totL L2 5 := totL_same 5 fun i _ => srtL_len L2 i
  rw [c]; omega
end Go.Tan

namespace Go.Tan
open Go.RowKit
def bkC (e : Edit) (wa wd : Value) : List Value := [.int .u64 e.log, .int .u64 e.next, .int .u64 e.seq, .int .u64 e.least] ++ (List.range 5).map (fun i => .int .u64 (e.gens i)) ++ [wa, wd]
theorem bkC_one {e : Edit} {wa wd : Value} (h1 : wa.oneCell' = true) (h2 : wd.oneCell' = true) : ∀ u ∈ bkC e wa wd, u.oneCell' = true := by
  intro u hu
  simp only [bkC, List.mem_append, List.mem_cons, List.not_mem_nil, or_false, List.mem_map] at hu
  rcases hu with ((rfl | rfl | rfl | rfl) | ⟨i, _, rfl⟩) | (rfl | rfl) <;> first | rfl | assumption
theorem bkC_cells {s : State} {e : Edit} {ha hd : Sh} : bkC e (ha.val (allB s e 5).length) (hd.val ((e.add.take e.add.length).map goneOf).length) = (backE s e).cells ha hd := by rw [List.take_length]; rfl
theorem keep_few {s : State} {e : Edit} (h : (!decide (tot s 5 ≤ 300) || !(decide ((e.add.length : Int) ≤ 300) && decide ((e.drop.length : Int) ≤ 300))) = false) : tot s 5 ≤ 300 ∧ e.add.length ≤ 300 ∧ e.drop.length ≤ 300 := by
  simp at h; omega
theorem keep_err {s X : State} {e : Edit} {er : Int} (h : AppR s e X er) (h0 : er ≠ 0) : ((er == 1) == !rightS s) = true ∧ (tot X 5 == 0) = true := by
  rcases h with ⟨h1, rfl, rfl⟩ | ⟨h1, _, rfl, rfl⟩ | ⟨_, h1, _⟩
  · rw [h1]; exact ⟨rfl, rfl⟩
  · rw [h1]; exact ⟨rfl, rfl⟩
  · exact absurd h1 h0
theorem keep_back {s X Y : State} {e : Edit} {er : Int} (hX : AppR s e X 0) (hw : e.wf) (hY : AppR X (backE s e) Y er) : er = 0 ∧ rightS X = true ∧ ∀ i, i < 5 → Y.lv i = s.lv i := by
  obtain ⟨Y', h1, h2⟩ := back_apply hX hw
  have hr : rightS X = true := by
    rcases hX with ⟨_, h, _⟩ | ⟨_, _, h, _⟩ | ⟨_, _, Z, hZ, hE⟩
    · cases h
    · cases h
    · rw [hE.right]; exact (applyO_inv hZ).2.1
  rcases hY with ⟨h, _⟩ | ⟨_, h, _⟩ | ⟨_, h, Z, hZ, hE⟩
  · rw [hr] at h; cases h
  · rw [h1] at h; cases h
  · rw [h1] at hZ; cases hZ
    exact ⟨h, hr, fun i hi => (hE.lv i hi).trans (h2 i hi)⟩
theorem backE_wf {s : State} {e : Edit} (hw : e.wf) (hs : ∀ i, i < 5 → ∀ m ∈ s.lv i, m.wf) : (backE s e).wf := by
  refine ⟨hw.log, hw.next, hw.seq, hw.least, hw.gens, fun m hm => ?_, fun g hg => ?_⟩
  · obtain ⟨i, hi, hx⟩ := mem_allB 5 hm; exact hs i hi m hx
  · obtain ⟨m, hm, rfl⟩ := List.mem_map.1 hg
    exact ⟨(hw.add m hm).level, (hw.add m hm).number⟩
theorem take_goneOf {ms : List Meta} {k : Nat} {m : Meta} (h : ms[k]? = some m) : (ms.take k).map goneOf ++ [goneOf m] = (ms.take (k + 1)).map goneOf := by
  rw [List.take_add_one, h]; simp
def hitQ (e : Edit) (i : Nat) (m : Meta) (q : Nat) : List Meta := ((e.drop.take q).filter (fun g => g.level == (i : Int) && g.number == m.number)).map fun _ => m
theorem hitQ_yes {e : Edit} {i : Nat} {m : Meta} {q : Nat} {g : Gone} (eg : e.drop[q]? = some g) (h : (g.level == (i : Int) && g.number == m.number) = true) : hitQ e i m (q + 1) = hitQ e i m q ++ [m] := by
  unfold hitQ; rw [List.take_add_one, eg, List.filter_append, List.map_append]; simp only [Option.toList_some]; have e1 : List.filter (fun g : Gone => g.level == (i : Int) && g.number == m.number) [g] = [g] := List.filter_cons_of_pos h
  rw [e1]; rfl
theorem hitQ_no {e : Edit} {i : Nat} {m : Meta} {q : Nat} {g : Gone} (eg : e.drop[q]? = some g) (h : (g.level == (i : Int) && g.number == m.number) = false) : hitQ e i m (q + 1) = hitQ e i m q := by
  unfold hitQ; rw [List.take_add_one, eg, List.filter_append, List.map_append]; simp only [Option.toList_some]; have e1 : List.filter (fun g : Gone => g.level == (i : Int) && g.number == m.number) [g] = [] := List.filter_cons_of_neg (by rw [h]; decide)
  rw [e1]; simp
theorem hitQ_all {e : Edit} {i : Nat} {m : Meta} {q : Nat} (h : e.drop.length ≤ q) : hitQ e i m q = hitB e i m := by unfold hitQ hitB; rw [List.take_of_length_le h]
theorem flat_step {A l : List Meta} {f : Meta → List Meta} {j : Nat} {m : Meta} (h : l[j]? = some m) : A ++ (l.take j).flatMap f ++ f m = A ++ (l.take (j + 1)).flatMap f := by
  rw [List.take_add_one, h, List.flatMap_append, List.append_assoc]; simp
end Go.Tan

namespace Go.Proofs.Ytnhdaaggkdegpaa
set_option linter.unusedSimpArgs false
set_option linter.unusedVariables false
open Go.Tan Go.RowKit

namespace FxVeSa
theorem mix : Try.prog.follows .mixedOrders = true := by kernel_rfl
theorem se22 : slE Try.prog 22 = some (48, 40, 112) := by kernel_rfl
theorem ag48 : aggN Try.prog 48 = some (some 40) := by kernel_rfl
theorem sz48 : szT Try.prog 48 = some 40 := by kernel_rfl
end FxVeSa
namespace Fx
theorem go78 : goFn Try.prog 78 = true := by kernel_rfl
end Fx
theorem swapR_ok (P A Q B S : List Meta) (v fv : Value) (a b n : Int) (G : PM) (ha : a = P.length) (hb : b = ((P.length + A.length + Q.length : Nat) : Int)) (hn : n = A.length) (hAB : A.length = B.length) (xs : List Meta) (hx : xs = P ++ A ++ Q ++ B ++ S) (hl : xs.length ≤ 1000000000) : Ct Try.prog 78 ([v, .int .i64 a, .int .i64 b, .int .i64 n, fv] : List Value).toArray G [rS 40 Meta.cells v 48 xs] (fun _ μ' u => μ' = [rS 40 Meta.cells v 48 (P ++ B ++ Q ++ A ++ S)] ∧ u = .tuple #[]) := by
  refine Ct.of Try.func78 rfl Try.ntmps78 rfl fun w0 hs0 => ?_
  subst hx; subst ha; subst hb; subst hn; simp only [List.length_append] at hl
  refine .seq ?_
  refine Wk.rg [0] rfl rfl ?_
  refine asg rfl .no (.u rfl) ?_
  refine .nil ?_
  refine .code ?_
  refine .block ?_
  refine Wk.lop (α := Nat) (fun k => [(10, true, .int .i64 (k : Int))]) (fun k => [rS 40 Meta.cells v 48 (swL P A Q B S k)])
    (fun k Gl => (k ≤ A.length)) (fun k => A.length - k) 0 [(0, true, _), (1, true, _), (2, true, _), (3, true, _)] []
    (ESub.cons rfl (by first | rfl | exact evi (by omega)) (ESub.cons rfl rfl (ESub.cons rfl rfl (ESub.cons rfl rfl (ESub.cons rfl rfl ESub.nil)))))
    (MSub.cons .here (by rw [swL_zero]) MSub.nil) ?_ ?_
  · (try dsimp only) <;> (first | omega | rfl | assumption | (simp; done))
  intro k N0 Gl0 hN0 hGl0 hF0
  try dsimp only at hF0 hN0 ⊢
  have hk := hF0
  have hsl := swL_len P A Q B S hAB hk
  refine .seq ?_
  refine .seq ?_
  refine Wk.rg [0, 1, 2] rfl rfl ?_
  refine mv rfl .no (.u rfl) ?_
  refine mv rfl .no (.u rfl) ?_
  refine cp rfl .no (.u rfl) (.u rfl) rfl ?_
  refine .nil ?_
  refine .code ?_
  refine .cond rfl (fun c1 => ?_) (fun c1 => ?_)
  · have c1k := c1
    try simp only [decide_eq_true_eq, decide_eq_false_iff_not, Int.not_lt, Int.not_le, gt_iff_lt, ge_iff_le, Bool.or_eq_true, Bool.and_eq_true, Bool.or_eq_false_iff, Bool.not_eq_true', Bool.not_eq_false', Int.toNat_natCast, bne_iff_ne, beq_iff_eq, bne_eq_false_iff_eq, beq_eq_false_iff_ne, ne_eq] at c1
    refine .skip ?_
    refine .code ?_
    refine .seq ?_
    refine .block ?_
    refine wk_rv .here (by omega) ?_; intro bbR capR evR lcR; subst evR
    refine Wk.draw (mc := ⟨false, false⟩) [0, 1, 2, 3, 4, 5, 6, 7, 8, 9, 10, 11, 12, 13, 14, 15, 16, 17, 18, 19, 20, 21, 22, 23] FxVeSa.mix (by kernel_rfl) ?_
    refine mv rfl .no (.u rfl) ?_
    refine mv rfl .no (.u rfl) ?_
    refine mv rfl .no (.u rfl) ?_
    refine arn (((P.length + k) : Nat) : Int) rfl .no (.u rfl) (.u rfl) rfl (fun _ => by omega) (fun _ => wrap_i64 (by omega) (by omega)) ?_
    refine mv rfl .no (.u rfl) ?_
    refine mv rfl .no (.u rfl) ?_
    refine mv rfl .no (.u rfl) ?_
    refine arn (((P.length + A.length + Q.length + k) : Nat) : Int) rfl .no (.u rfl) (.u rfl) rfl (fun _ => by omega) (fun _ => wrap_i64 (by omega) (by omega)) ?_
    refine mv rfl .no (.u rfl) ?_
    refine mv rfl .no (.u rfl) ?_
    refine mv rfl .no (.u rfl) ?_
    refine arn (((P.length + A.length + Q.length + k) : Nat) : Int) rfl .no (.u rfl) (.u rfl) rfl (fun _ => by omega) (fun _ => wrap_i64 (by omega) (by omega)) ?_
    refine ia rfl .no FxVeSa.se22 (.u rfl) (.u rfl) (fun _ => by omega) (fun _ => by omega) ?_
    refine lA rfl .no FxVeSa.ag48 (.u rfl) (fun _ => RdN.rowS .here (fun _ _ => Meta.len _) (gd_at (z := Meta.zero) (k := (P.length + A.length + Q.length + k)) (by omega)) (by omega)) (fun _ => Meta.len _) ?_
    refine mv rfl .no (.u rfl) ?_
    refine mv rfl .no (.u rfl) ?_
    refine mv rfl .no (.u rfl) ?_
    refine arn (((P.length + k) : Nat) : Int) rfl .no (.u rfl) (.u rfl) rfl (fun _ => by omega) (fun _ => wrap_i64 (by omega) (by omega)) ?_
    refine ia rfl .no FxVeSa.se22 (.u rfl) (.u rfl) (fun _ => by omega) (fun _ => by omega) ?_
    refine lA rfl .no FxVeSa.ag48 (.u rfl) (fun _ => RdN.rowS .here (fun _ _ => Meta.len _) (gd_at (z := Meta.zero) (k := (P.length + k)) (by omega)) (by omega)) (fun _ => Meta.len _) ?_
    refine ia rfl .no FxVeSa.se22 (.u rfl) (.u rfl) (fun _ => by omega) (fun _ => by omega) ?_
    refine stS (k := (P.length + k)) (u := ((swL P A Q B S k).getD ((P.length + A.length + Q.length + k)) Meta.zero)) rfl (.u rfl) (.u rfl) rfl FxVeSa.sz48 .here (fun _ _ => Meta.len _) (Meta.len _) (Meta.one _) (by omega) (by (try simp only [List.length_set]); omega) ?_
    refine ia rfl .no FxVeSa.se22 (.u rfl) (.u rfl) (fun _ => by omega) (fun _ => by omega) ?_
    refine stS (k := (P.length + A.length + Q.length + k)) (u := ((swL P A Q B S k).getD ((P.length + k)) Meta.zero)) rfl (.u rfl) (.u rfl) rfl FxVeSa.sz48 .here (fun _ _ => Meta.len _) (Meta.len _) (Meta.one _) (by omega) (by (try simp only [List.length_set]); omega) ?_
    refine .nil ?_
    refine .blk ?_
    refine .code ?_
    refine Wk.rg [0, 1, 2] rfl rfl ?_
    refine mv rfl .no (.u rfl) ?_
    refine arn (((k + 1) : Nat) : Int) rfl .no (.u rfl) (.u rfl) rfl (fun _ => by omega) (fun _ => wrap_i64 (by omega) (by omega)) ?_
    refine asg rfl .no (.u rfl) ?_
    refine .nil ?_
    refine We.lpo (k + 1) ?_ ?_ ?_ ?_ ?_
    · exact (ESub.cons rfl (by first | rfl | exact evi (by omega)) (ESub.cons rfl rfl (ESub.cons rfl rfl (ESub.cons rfl rfl (ESub.cons rfl rfl ESub.nil)))))
    · exact (MSub.cons .here (by rw [swL_step hAB (by omega) rfl rfl]) MSub.nil)
    · first | omega | (dsimp only; omega)
    · exact hGl0
    · (try dsimp only) <;> (first | omega | rfl | assumption | (simp; done))
  · have c1k := c1
    try simp only [decide_eq_true_eq, decide_eq_false_iff_not, Int.not_lt, Int.not_le, gt_iff_lt, ge_iff_le, Bool.or_eq_true, Bool.and_eq_true, Bool.or_eq_false_iff, Bool.not_eq_true', Bool.not_eq_false', Int.toNat_natCast, bne_iff_ne, beq_iff_eq, bne_eq_false_iff_eq, beq_eq_false_iff_ne, ne_eq] at c1
    refine .exit ?_
    refine .xcode ?_
    refine .xlp ?_
    refine .xblk ?_
    refine .nil ?_
    refine We.fin Try.results78 .nil (MSub.cons .here rfl MSub.nil) ?_
    rw [swL_all hAB (by omega)]; exact ⟨rfl, rfl⟩

theorem rotM_ok (P A B S : List Meta) (v fv : Value) (a m b : Int) (G : PM) (ha : a = P.length) (hm : m = ((P.length + A.length : Nat) : Int)) (hb : b = ((P.length + A.length + B.length : Nat) : Int)) (hA : 0 < A.length) (hB : 0 < B.length) (xs : List Meta) (hx : xs = P ++ A ++ B ++ S) (hl : xs.length ≤ 1000000000) : Ct Try.prog 77 ([v, .int .i64 a, .int .i64 m, .int .i64 b, fv] : List Value).toArray G [rS 40 Meta.cells v 48 xs] (fun _ μ' u => μ' = [rS 40 Meta.cells v 48 (P ++ B ++ A ++ S)] ∧ u = .tuple #[]) := by
  refine Ct.of Try.func77 rfl Try.ntmps77 rfl fun w0 hs0 => ?_
  subst hx; subst ha; subst hm; subst hb; simp only [List.length_append] at hl
  refine .seq ?_
  refine Wk.rg [0, 1, 2, 3] rfl rfl ?_
  refine mv rfl .no (.u rfl) ?_
  refine mv rfl .no (.u rfl) ?_
  refine arn ((A.length : Nat) : Int) rfl .no (.u rfl) (.u rfl) rfl (fun _ => by omega) (fun _ => wrap_i64 (by omega) (by omega)) ?_
  refine asg rfl .no (.u rfl) ?_
  refine .nil ?_
  refine .code ?_
  refine .seq ?_
  refine Wk.rg [0, 1, 2, 3] rfl rfl ?_
  refine mv rfl .no (.u rfl) ?_
  refine mv rfl .no (.u rfl) ?_
  refine arn ((B.length : Nat) : Int) rfl .no (.u rfl) (.u rfl) rfl (fun _ => by omega) (fun _ => wrap_i64 (by omega) (by omega)) ?_
  refine asg rfl .no (.u rfl) ?_
  refine .nil ?_
  refine .code ?_
  refine .seq ?_
  refine .block ?_
  refine Wk.lop (α := List Meta × List Meta × List Meta × List Meta) (fun gh => [(10, true, .int .i64 (gh.2.1.length : Int)), (11, true, .int .i64 (gh.2.2.1.length : Int))]) (fun gh => [rS 40 Meta.cells v 48 (gh.1 ++ gh.2.1 ++ gh.2.2.1 ++ gh.2.2.2)])
    (fun gh Gl => (0 < gh.2.1.length) ∧ (0 < gh.2.2.1.length) ∧ (gh.1.length + gh.2.1.length = P.length + A.length) ∧ (gh.1 ++ gh.2.2.1 ++ gh.2.1 ++ gh.2.2.2 = P ++ B ++ A ++ S)) (fun gh => gh.2.1.length + gh.2.2.1.length) (P, A, B, S) [(0, true, _), (2, true, _), (4, true, _)] []
    (ESub.cons rfl (by first | rfl | exact evi (by omega)) (ESub.cons rfl (by first | rfl | exact evi (by omega)) (ESub.cons rfl rfl (ESub.cons rfl rfl (ESub.cons rfl rfl ESub.nil)))))
    (MSub.cons .here rfl MSub.nil) ?_ ?_
  · refine ⟨?_, ?_, ?_, ?_⟩
    · (try dsimp only) <;> (first | omega | rfl | assumption | (simp; done))
    · (try dsimp only) <;> (first | omega | rfl | assumption | (simp; done))
    · (try dsimp only) <;> (first | omega | rfl | assumption | (simp; done))
    · (try dsimp only) <;> (first | omega | rfl | assumption | (simp; done))
  intro gh N0 Gl0 hN0 hGl0 hF0
  obtain ⟨X, U, V, Y⟩ := gh; dsimp only at hF0 hN0 ⊢
  obtain ⟨hU, hV, hX, hT⟩ := hF0
  have hlen := congrArg List.length hT; simp only [List.length_append] at hlen
  refine .seq ?_
  refine .seq ?_
  refine Wk.rg [0, 1, 2] rfl rfl ?_
  refine mv rfl .no (.u rfl) ?_
  refine mv rfl .no (.u rfl) ?_
  refine cp rfl .no (.u rfl) (.u rfl) rfl ?_
  refine .nil ?_
  refine .code ?_
  refine .cond rfl (fun c1 => ?_) (fun c1 => ?_)
  · have c1k := c1
    try simp only [decide_eq_true_eq, decide_eq_false_iff_not, Int.not_lt, Int.not_le, gt_iff_lt, ge_iff_le, Bool.or_eq_true, Bool.and_eq_true, Bool.or_eq_false_iff, Bool.not_eq_true', Bool.not_eq_false', Int.toNat_natCast, bne_iff_ne, beq_iff_eq, bne_eq_false_iff_eq, beq_eq_false_iff_ne, ne_eq] at c1
    refine .skip ?_
    refine .code ?_
    refine .block ?_
    refine .seq ?_
    refine Wk.rg [0, 1, 2] rfl rfl ?_
    refine mv rfl .no (.u rfl) ?_
    refine mv rfl .no (.u rfl) ?_
    refine cp rfl .no (.u rfl) (.u rfl) rfl ?_
    refine .nil ?_
    refine .code ?_
    refine .cond rfl (fun c2 => ?_) (fun c2 => ?_)
    · have c2k := c2
      try simp only [decide_eq_true_eq, decide_eq_false_iff_not, Int.not_lt, Int.not_le, gt_iff_lt, ge_iff_le, Bool.or_eq_true, Bool.and_eq_true, Bool.or_eq_false_iff, Bool.not_eq_true', Bool.not_eq_false', Int.toNat_natCast, bne_iff_ne, beq_iff_eq, bne_eq_false_iff_eq, beq_eq_false_iff_ne, ne_eq] at c2
      refine .seq ?_
      refine Wk.rg [0, 1, 2, 3, 4, 5, 6, 7] rfl rfl ?_
      refine mv rfl .no (.u rfl) ?_
      refine mv rfl .no (.u rfl) ?_
      refine mv rfl .no (.u rfl) ?_
      refine arn ((X.length : Nat) : Int) rfl .no (.u rfl) (.u rfl) rfl (fun _ => by omega) (fun _ => wrap_i64 (by omega) (by omega)) ?_
      refine mv rfl .no (.u rfl) ?_
      refine mv rfl .no (.u rfl) ?_
      refine mv rfl .no (.u rfl) ?_
      refine ka rfl (.inr rfl) Fx.go78 (Eva.cons (.u rfl) (Eva.cons (.u rfl) (Eva.cons (.u rfl) (Eva.cons (.u rfl) (Eva.cons (.u rfl) Eva.nil))))) (mtk1 .here) (swapR_ok X (U.take V.length) (U.drop V.length) V Y _ _ _ _ _ _ (by first | omega | (simp only [List.length_append, List.length_take, List.length_drop, List.length_nil] <;> omega)) (by first | omega | (simp only [List.length_append, List.length_take, List.length_drop, List.length_nil] <;> omega)) (by first | omega | (simp only [List.length_append, List.length_take, List.length_drop, List.length_nil] <;> omega)) (by first | omega | (simp only [List.length_append, List.length_take, List.length_drop, List.length_nil] <;> omega)) _ (by rw [List.append_assoc X (U.take _) (U.drop _), List.take_append_drop]) (by first | omega | (simp only [List.length_append, List.length_take, List.length_drop, List.length_nil] <;> omega))) ?_
      rintro _ G31 μ31 hG31 ⟨rfl, rfl⟩
      refine .nil ?_
      refine .code ?_
      refine Wk.rg [0, 1, 2, 3] rfl rfl ?_
      refine mv rfl .no (.u rfl) ?_
      refine mv rfl .no (.u rfl) ?_
      refine arn (((U.length - V.length) : Nat) : Int) rfl .no (.u rfl) (.u rfl) rfl (fun _ => by omega) (fun _ => wrap_i64 (by omega) (by omega)) ?_
      refine asg rfl .no (.u rfl) ?_
      refine .nil ?_
      refine .blk ?_
      refine We.lpo (X ++ V, U.drop V.length, U.take V.length, Y) ?_ ?_ ?_ ?_ ?_
      · exact (ESub.cons rfl (evi (by first | omega | (simp only [List.length_append, List.length_take, List.length_drop, List.length_nil] <;> omega))) (ESub.cons rfl (evi (by first | omega | (simp only [List.length_append, List.length_take, List.length_drop, List.length_nil] <;> omega))) (ESub.cons rfl rfl (ESub.cons rfl rfl (ESub.cons rfl rfl ESub.nil)))))
      · exact (MSub.cons .here rfl MSub.nil)
      · exact (by first | omega | (simp only [List.length_append, List.length_take, List.length_drop, List.length_nil] <;> omega))
      · exact (hGl0).trans hG31
      · refine ⟨?_, ?_, ?_, ?_⟩
        · (try dsimp only) <;> (exact (by first | omega | (simp only [List.length_append, List.length_take, List.length_drop, List.length_nil] <;> omega)))
        · (try dsimp only) <;> (exact (by first | omega | (simp only [List.length_append, List.length_take, List.length_drop, List.length_nil] <;> omega)))
        · (try dsimp only) <;> (exact (by first | omega | (simp only [List.length_append, List.length_take, List.length_drop, List.length_nil] <;> omega)))
        · (try dsimp only) <;> (rw [List.append_assoc (X ++ V), List.take_append_drop]; exact hT)
    · have c2k := c2
      try simp only [decide_eq_true_eq, decide_eq_false_iff_not, Int.not_lt, Int.not_le, gt_iff_lt, ge_iff_le, Bool.or_eq_true, Bool.and_eq_true, Bool.or_eq_false_iff, Bool.not_eq_true', Bool.not_eq_false', Int.toNat_natCast, bne_iff_ne, beq_iff_eq, bne_eq_false_iff_eq, beq_eq_false_iff_ne, ne_eq] at c2
      refine .seq ?_
      refine Wk.rg [0, 1, 2, 3, 4, 5, 6, 7, 8, 9, 10, 11] rfl rfl ?_
      refine mv rfl .no (.u rfl) ?_
      refine mv rfl .no (.u rfl) ?_
      refine mv rfl .no (.u rfl) ?_
      refine arn ((X.length : Nat) : Int) rfl .no (.u rfl) (.u rfl) rfl (fun _ => by omega) (fun _ => wrap_i64 (by omega) (by omega)) ?_
      refine mv rfl .no (.u rfl) ?_
      refine mv rfl .no (.u rfl) ?_
      refine arn (((P.length + A.length + V.length) : Nat) : Int) rfl .no (.u rfl) (.u rfl) rfl (fun _ => by omega) (fun _ => wrap_i64 (by omega) (by omega)) ?_
      refine mv rfl .no (.u rfl) ?_
      refine arn (((X.length + U.length + (V.length - U.length)) : Nat) : Int) rfl .no (.u rfl) (.u rfl) rfl (fun _ => by omega) (fun _ => wrap_i64 (by omega) (by omega)) ?_
      refine mv rfl .no (.u rfl) ?_
      refine mv rfl .no (.u rfl) ?_
      refine ka rfl (.inr rfl) Fx.go78 (Eva.cons (.u rfl) (Eva.cons (.u rfl) (Eva.cons (.u rfl) (Eva.cons (.u rfl) (Eva.cons (.u rfl) Eva.nil))))) (mtk1 .here) (swapR_ok X U (V.take (V.length - U.length)) (V.drop (V.length - U.length)) Y _ _ _ _ _ _ (by first | omega | (simp only [List.length_append, List.length_take, List.length_drop, List.length_nil] <;> omega)) (by first | omega | (simp only [List.length_append, List.length_take, List.length_drop, List.length_nil] <;> omega)) (by first | omega | (simp only [List.length_append, List.length_take, List.length_drop, List.length_nil] <;> omega)) (by first | omega | (simp only [List.length_append, List.length_take, List.length_drop, List.length_nil] <;> omega)) _ (by rw [List.append_assoc (X ++ U) (V.take _) (V.drop _), List.take_append_drop]) (by first | omega | (simp only [List.length_append, List.length_take, List.length_drop, List.length_nil] <;> omega))) ?_
      rintro _ G46 μ46 hG46 ⟨rfl, rfl⟩
      refine .nil ?_
      refine .code ?_
      refine Wk.rg [0, 1, 2, 3] rfl rfl ?_
      refine mv rfl .no (.u rfl) ?_
      refine mv rfl .no (.u rfl) ?_
      refine arn (((V.length - U.length) : Nat) : Int) rfl .no (.u rfl) (.u rfl) rfl (fun _ => by omega) (fun _ => wrap_i64 (by omega) (by omega)) ?_
      refine asg rfl .no (.u rfl) ?_
      refine .nil ?_
      refine .blk ?_
      refine We.lpo (X, V.drop (V.length - U.length), V.take (V.length - U.length), U ++ Y) ?_ ?_ ?_ ?_ ?_
      · exact (ESub.cons rfl (evi (by first | omega | (simp only [List.length_append, List.length_take, List.length_drop, List.length_nil] <;> omega))) (ESub.cons rfl (evi (by first | omega | (simp only [List.length_append, List.length_take, List.length_drop, List.length_nil] <;> omega))) (ESub.cons rfl rfl (ESub.cons rfl rfl (ESub.cons rfl rfl ESub.nil)))))
      · exact (MSub.cons .here (by rw [← List.append_assoc (X ++ _ ++ _) U Y]) MSub.nil)
      · exact (by first | omega | (simp only [List.length_append, List.length_take, List.length_drop, List.length_nil] <;> omega))
      · exact (hGl0).trans hG46
      · refine ⟨?_, ?_, ?_, ?_⟩
        · (try dsimp only) <;> (exact (by first | omega | (simp only [List.length_append, List.length_take, List.length_drop, List.length_nil] <;> omega)))
        · (try dsimp only) <;> (exact (by first | omega | (simp only [List.length_append, List.length_take, List.length_drop, List.length_nil] <;> omega)))
        · (try dsimp only) <;> (exact (by first | omega | (simp only [List.length_append, List.length_take, List.length_drop, List.length_nil] <;> omega)))
        · (try dsimp only) <;> (rw [List.append_assoc X, List.take_append_drop, ← List.append_assoc]; exact hT)
  · have c1k := c1
    try simp only [decide_eq_true_eq, decide_eq_false_iff_not, Int.not_lt, Int.not_le, gt_iff_lt, ge_iff_le, Bool.or_eq_true, Bool.and_eq_true, Bool.or_eq_false_iff, Bool.not_eq_true', Bool.not_eq_false', Int.toNat_natCast, bne_iff_ne, beq_iff_eq, bne_eq_false_iff_eq, beq_eq_false_iff_ne, ne_eq] at c1
    refine .exit ?_
    refine .xcode ?_
    refine .xlp ?_
    refine .xblk ?_
    refine .code ?_
    refine Wk.rg [0, 1, 2, 3, 4, 5, 6, 7] rfl rfl ?_
    refine mv rfl .no (.u rfl) ?_
    refine mv rfl .no (.u rfl) ?_
    refine mv rfl .no (.u rfl) ?_
    refine arn ((X.length : Nat) : Int) rfl .no (.u rfl) (.u rfl) rfl (fun _ => by omega) (fun _ => wrap_i64 (by omega) (by omega)) ?_
    refine mv rfl .no (.u rfl) ?_
    refine mv rfl .no (.u rfl) ?_
    refine mv rfl .no (.u rfl) ?_
    refine ka rfl (.inr rfl) Fx.go78 (Eva.cons (.u rfl) (Eva.cons (.u rfl) (Eva.cons (.u rfl) (Eva.cons (.u rfl) (Eva.cons (.u rfl) Eva.nil))))) (mtk1 .here) (swapR_ok X U [] V Y _ _ _ _ _ _ (by first | omega | (simp only [List.length_append, List.length_take, List.length_drop, List.length_nil] <;> omega)) (by first | omega | (simp only [List.length_append, List.length_take, List.length_drop, List.length_nil] <;> omega)) (by first | omega | (simp only [List.length_append, List.length_take, List.length_drop, List.length_nil] <;> omega)) (by first | omega | (simp only [List.length_append, List.length_take, List.length_drop, List.length_nil] <;> omega)) _ (by simp) (by first | omega | (simp only [List.length_append, List.length_take, List.length_drop, List.length_nil] <;> omega))) ?_
    rintro _ G57 μ57 hG57 ⟨rfl, rfl⟩
    refine .nil ?_
    refine .nil ?_
    refine We.fin Try.results77 .nil (MSub.cons .here rfl MSub.nil) ?_
    rw [← hT, List.append_nil]; exact ⟨rfl, rfl⟩

end Go.Proofs.Ytnhdaaggkdegpaa

namespace Go.Proofs.Ytnhdaaggkdegpaa
set_option linter.unusedSimpArgs false
set_option linter.unusedVariables false
open Go.Tan Go.RowKit

theorem ins_ok (P S R : List TM) (v : Value) (a b : Int) (f : Nat) (hf : goFn Try.prog f = true) (vc : List Value) (cv : Meta → Meta → Int) (G : PM) (hcm : CmpR Try.prog f vc cv G) (hw : Wk0 (ltv cv)) (ha : a = P.length) (hb : b = ((P.length + S.length : Nat) : Int)) (hS : S.Pairwise fun x y => x.2 < y.2) (xs : List Meta) (hx : xs = ms (P ++ S ++ R)) (hl : xs.length ≤ 1000000000) : Ct Try.prog 75 ([v, .int .i64 a, .int .i64 b, .func (.func f) #[] vc.toArray] : List Value).toArray G [rS 40 Meta.cells v 48 xs] (fun _ μ' u => ∃ S', S'.Perm S ∧ Srt (ltv cv) S' ∧ μ' = [rS 40 Meta.cells v 48 (ms (P ++ S' ++ R))] ∧ u = .tuple #[]) := by
  refine Ct.of Try.func75 rfl Try.ntmps75 rfl fun w0 hs0 => ?_
  subst hx; subst ha; subst hb; rw [ms_len] at hl; simp only [List.length_append] at hl
  refine .seq ?_
  refine Wk.rg [0, 1, 2] rfl rfl ?_
  refine mv rfl .no (.u rfl) ?_
  refine arn (((P.length + 1) : Nat) : Int) rfl .no (.u rfl) (.u rfl) rfl (fun _ => by omega) (fun _ => wrap_i64 (by omega) (by omega)) ?_
  refine asg rfl .no (.u rfl) ?_
  refine .nil ?_
  refine .code ?_
  refine .block ?_
  refine Wk.lop (α := Nat × List TM) (fun gh => [(8, true, .int .i64 ((P.length + gh.1 : Nat) : Int))]) (fun gh => [rS 40 Meta.cells v 48 (ms (P ++ (gh.2 ++ S.drop gh.1) ++ R))])
    (fun gh Gl => (1 ≤ gh.1) ∧ (gh.1 ≤ S.length ∨ S.length = 0) ∧ (gh.2.Perm (S.take gh.1)) ∧ (Srt (ltv cv) gh.2)) (fun gh => S.length - gh.1) (1, S.take 1) [(0, true, _), (1, true, _), (2, true, _), (3, true, _)] []
    (ESub.cons rfl (by first | rfl | exact evi (by omega)) (ESub.cons rfl rfl (ESub.cons rfl rfl (ESub.cons rfl rfl (ESub.cons rfl rfl ESub.nil)))))
    (MSub.cons .here (by rw [List.take_append_drop]) MSub.nil) ?_ ?_
  · refine ⟨?_, ?_, ?_, ?_⟩
    · (try dsimp only) <;> (first | omega | rfl | assumption | (simp; done))
    · (try dsimp only) <;> (omega)
    · (try dsimp only) <;> (exact List.Perm.refl _)
    · (try dsimp only) <;> (exact srt_take1 S)
  intro gh N0 Gl0 hN0 hGl0 hF0
  obtain ⟨q, S1⟩ := gh; dsimp only at hF0 hN0 ⊢
  obtain ⟨hq1, hq2, hp, hs⟩ := hF0
  have hcm := hcm.mono hGl0
  have hS1 := hp.length_eq; rw [List.length_take] at hS1
  refine .seq ?_
  refine .seq ?_
  refine Wk.rg [0, 1, 2] rfl rfl ?_
  refine mv rfl .no (.u rfl) ?_
  refine mv rfl .no (.u rfl) ?_
  refine cp rfl .no (.u rfl) (.u rfl) rfl ?_
  refine .nil ?_
  refine .code ?_
  refine .cond rfl (fun c1 => ?_) (fun c1 => ?_)
  · have c1k := c1
    try simp only [decide_eq_true_eq, decide_eq_false_iff_not, Int.not_lt, Int.not_le, gt_iff_lt, ge_iff_le, Bool.or_eq_true, Bool.and_eq_true, Bool.or_eq_false_iff, Bool.and_eq_false_iff, Bool.not_eq_true', Bool.not_eq_false', Int.toNat_natCast, bne_iff_ne, beq_iff_eq, bne_eq_false_iff_eq, beq_eq_false_iff_ne, ne_eq] at c1
    refine .skip ?_
    refine .code ?_
    refine .seq ?_
    refine .block ?_
    refine .seq ?_
    refine Wk.rg [0, 1] rfl rfl ?_
    refine mv rfl .no (.u rfl) ?_
    refine asg rfl .no (.u rfl) ?_
    refine .nil ?_
    refine .code ?_
    refine .block ?_
    refine Wk.lop (α := List TM × List TM) (fun gh => [(9, true, .int .i64 ((P.length + gh.1.length : Nat) : Int))]) (fun gh => [rS 40 Meta.cells v 48 (ms (P ++ (gh.1 ++ S.getD q z0 :: gh.2 ++ S.drop (q + 1)) ++ R))])
      (fun gh Gl => (gh.1 ++ gh.2 = S1) ∧ (∀ z ∈ gh.2, TL (ltv cv) (S.getD q z0) z)) (fun gh => gh.1.length) (S1, []) [(0, true, _), (1, true, _), (2, true, _), (3, true, _), (8, true, _)] []
      (ESub.cons rfl (evi (by first | rfl | omega | (dsimp only; omega))) (ESub.cons rfl rfl (ESub.cons rfl rfl (ESub.cons rfl rfl (ESub.cons rfl rfl (ESub.cons rfl rfl ESub.nil))))))
      (MSub.cons .here (by rw [drop_getD (by omega)]; simp) MSub.nil) ?_ ?_
    · refine ⟨?_, ?_⟩
      · (try dsimp only) <;> (simp)
      · (try dsimp only) <;> (exact fun z h => by cases h)
    intro gh N1 Gl1 hN1 hGl1 hF1
    obtain ⟨A, B⟩ := gh; dsimp only at hF1 hN1 ⊢
    obtain ⟨hAB, hB⟩ := hF1
    have hcm := hcm.mono hGl1
    have hAl := congrArg List.length hAB; rw [List.length_append] at hAl; have hLl : (ms (P ++ (A ++ S.getD q z0 :: B ++ S.drop (q + 1)) ++ R)).length = P.length + S.length + R.length := by rw [ms_len]; simp only [List.length_append, List.length_cons, List.length_drop]; omega
    refine .seq ?_
    refine .seq ?_
    refine wk_rv .here (by omega) ?_; intro bbR capR evR lcR; subst evR
    refine Wk.draw (mc := ⟨false, false⟩) [0, 1, 2, 3, 4, 5, 6, 7, 8, 9, 10, 11, 12, 13, 14, 15, 16] FxVeSa.mix (by kernel_rfl) ?_
    refine mv rfl .no (.u rfl) ?_
    refine mv rfl .no (.u rfl) ?_
    refine cp rfl .no (.u rfl) (.u rfl) rfl ?_
    refine mv rfl .no (.u rfl) ?_
    refine mv rfl (.t rfl rfl) (.u rfl) ?_
    refine mv rfl (.t rfl rfl) (.u rfl) ?_
    refine mv rfl (.t rfl rfl) (.u rfl) ?_
    refine ia rfl (.t rfl rfl) FxVeSa.se22 (.s rfl) (.s rfl) (fun hc => by (try simp only [Bool.and_eq_true, decide_eq_true_eq] at hc); omega) (fun hc => by (try simp only [Bool.and_eq_true, decide_eq_true_eq] at hc); omega) ?_
    refine lA rfl (.t rfl rfl) FxVeSa.ag48 (.s rfl) (fun hc => RdN.rowS .here (fun _ _ => Meta.len _) (gd_at (z := Meta.zero) (k := ((P.length + A.length : Nat))) (by (try simp only [Bool.and_eq_true, decide_eq_true_eq] at hc); omega)) (by (try simp only [Bool.and_eq_true, decide_eq_true_eq] at hc); omega)) (fun _ => Meta.len _) ?_
    refine mv rfl (.t rfl rfl) (.u rfl) ?_
    refine mv rfl (.t rfl rfl) (.u rfl) ?_
    refine arn (((P.length + A.length - 1) : Nat) : Int) rfl (.t rfl rfl) (.s rfl) (.u rfl) rfl (fun hc => by (try simp only [Bool.and_eq_true, decide_eq_true_eq] at hc); omega) (fun hc => wrap_i64 (by (try simp only [Bool.and_eq_true, decide_eq_true_eq] at hc); omega) (by (try simp only [Bool.and_eq_true, decide_eq_true_eq] at hc); omega)) ?_
    refine ia rfl (.t rfl rfl) FxVeSa.se22 (.s rfl) (.s rfl) (fun hc => by (try simp only [Bool.and_eq_true, decide_eq_true_eq] at hc); omega) (fun hc => by (try simp only [Bool.and_eq_true, decide_eq_true_eq] at hc); omega) ?_
    refine lA rfl (.t rfl rfl) FxVeSa.ag48 (.s rfl) (fun hc => RdN.rowS .here (fun _ _ => Meta.len _) (gd_at (z := Meta.zero) (k := (P.length + A.length - 1)) (by (try simp only [Bool.and_eq_true, decide_eq_true_eq] at hc); omega)) (by (try simp only [Bool.and_eq_true, decide_eq_true_eq] at hc); omega)) (fun _ => Meta.len _) ?_
    refine kf rfl (.t rfl rfl) (.s rfl) hf (Eva.cons (.s rfl) (Eva.cons (.s rfl) Eva.nil)) (fun _ => hcm.ok _ (PM.le.refl _) _ _) ?_
    refine cp rfl (.t rfl rfl) (.s rfl) (.u rfl) rfl ?_
    refine pkA rfl .no (.u rfl) (.s rfl) ?_
    refine .nil ?_
    refine .code ?_
    refine .cond rfl (fun c2 => ?_) (fun c2 => ?_)
    · have c2k := c2
      try simp only [decide_eq_true_eq, decide_eq_false_iff_not, Int.not_lt, Int.not_le, gt_iff_lt, ge_iff_le, Bool.or_eq_true, Bool.and_eq_true, Bool.or_eq_false_iff, Bool.and_eq_false_iff, Bool.not_eq_true', Bool.not_eq_false', Int.toNat_natCast, bne_iff_ne, beq_iff_eq, bne_eq_false_iff_eq, beq_eq_false_iff_ne, ne_eq] at c2
      refine .skip ?_
      refine .code ?_
      refine .seq ?_
      refine .block ?_
      refine Wk.draw (mc := ⟨false, false⟩) [0, 1, 2, 3, 4, 5, 6, 7, 8, 9, 10, 11, 12, 13, 14, 15, 16, 17] FxVeSa.mix (by kernel_rfl) ?_
      refine mv rfl .no (.u rfl) ?_
      refine mv rfl .no (.u rfl) ?_
      refine mv rfl .no (.u rfl) ?_
      refine mv rfl .no (.u rfl) ?_
      refine arn (((P.length + A.length - 1) : Nat) : Int) rfl .no (.u rfl) (.u rfl) rfl (fun _ => by omega) (fun _ => wrap_i64 (by omega) (by omega)) ?_
      refine mv rfl .no (.u rfl) ?_
      refine mv rfl .no (.u rfl) ?_
      refine arn (((P.length + A.length - 1) : Nat) : Int) rfl .no (.u rfl) (.u rfl) rfl (fun _ => by omega) (fun _ => wrap_i64 (by omega) (by omega)) ?_
      refine ia rfl .no FxVeSa.se22 (.u rfl) (.u rfl) (fun _ => by omega) (fun _ => by omega) ?_
      refine lA rfl .no FxVeSa.ag48 (.u rfl) (fun _ => RdN.rowS .here (fun _ _ => Meta.len _) (gd_at (z := Meta.zero) (k := (P.length + A.length - 1)) (by omega)) (by omega)) (fun _ => Meta.len _) ?_
      refine mv rfl .no (.u rfl) ?_
      refine mv rfl .no (.u rfl) ?_
      refine ia rfl .no FxVeSa.se22 (.u rfl) (.u rfl) (fun _ => by omega) (fun _ => by omega) ?_
      refine lA rfl .no FxVeSa.ag48 (.u rfl) (fun _ => RdN.rowS .here (fun _ _ => Meta.len _) (gd_at (z := Meta.zero) (k := ((P.length + A.length : Nat))) (by omega)) (by omega)) (fun _ => Meta.len _) ?_
      refine ia rfl .no FxVeSa.se22 (.u rfl) (.u rfl) (fun _ => by omega) (fun _ => by omega) ?_
      refine stS (k := ((P.length + A.length : Nat))) (u := ((ms (P ++ (A ++ S.getD q z0 :: B ++ S.drop (q + 1)) ++ R)).getD ((P.length + A.length - 1)) Meta.zero)) rfl (.u rfl) (.u rfl) rfl FxVeSa.sz48 .here (fun _ _ => Meta.len _) (Meta.len _) (Meta.one _) (by omega) (by (try simp only [List.length_set]); omega) ?_
      refine ia rfl .no FxVeSa.se22 (.u rfl) (.u rfl) (fun _ => by omega) (fun _ => by omega) ?_
      refine stS (k := (P.length + A.length - 1)) (u := ((ms (P ++ (A ++ S.getD q z0 :: B ++ S.drop (q + 1)) ++ R)).getD (((P.length + A.length : Nat))) Meta.zero)) rfl (.u rfl) (.u rfl) rfl FxVeSa.sz48 .here (fun _ _ => Meta.len _) (Meta.len _) (Meta.one _) (by omega) (by (try simp only [List.length_set]); omega) ?_
      refine .nil ?_
      refine .blk ?_
      refine .code ?_
      refine Wk.rg [0, 1, 2] rfl rfl ?_
      refine mv rfl .no (.u rfl) ?_
      refine arn (((P.length + A.length - 1) : Nat) : Int) rfl .no (.u rfl) (.u rfl) rfl (fun _ => by omega) (fun _ => wrap_i64 (by omega) (by omega)) ?_
      refine asg rfl .no (.u rfl) ?_
      refine .nil ?_
      refine We.lpo (A.take (A.length - 1), A.getD (A.length - 1) z0 :: B) ?_ ?_ ?_ ?_ ?_
      · exact (ESub.cons rfl (evi (by first | omega | (simp only [List.length_append, List.length_take, List.length_drop, List.length_nil] <;> omega))) (ESub.cons rfl rfl (ESub.cons rfl rfl (ESub.cons rfl rfl (ESub.cons rfl rfl (ESub.cons rfl rfl ESub.nil))))))
      · exact (MSub.cons .here (by rw [ins_sw (by omega) rfl rfl]) MSub.nil)
      · exact (by first | omega | (simp only [List.length_append, List.length_take, List.length_drop, List.length_nil] <;> omega))
      · exact hGl1
      · refine ⟨?_, ?_⟩
        · (try dsimp only) <;> (rw [← hAB]; exact take_last (by omega))
        · (try dsimp only) <;> (exact ins_B (P := P) (D := S.drop (q + 1)) (R := R) hB ⟨by omega, c2.2⟩)
    · have c2k := c2
      try simp only [decide_eq_true_eq, decide_eq_false_iff_not, Int.not_lt, Int.not_le, gt_iff_lt, ge_iff_le, Bool.or_eq_true, Bool.and_eq_true, Bool.or_eq_false_iff, Bool.and_eq_false_iff, Bool.not_eq_true', Bool.not_eq_false', Int.toNat_natCast, bne_iff_ne, beq_iff_eq, bne_eq_false_iff_eq, beq_eq_false_iff_ne, ne_eq] at c2
      refine .exit ?_
      refine .xcode ?_
      refine .xlp ?_
      refine .xblk ?_
      refine .blk ?_
      refine .code ?_
      refine Wk.rg [0, 1, 2] rfl rfl ?_
      refine mv rfl .no (.u rfl) ?_
      refine arn (((((P.length + q : Nat)) + 1) : Nat) : Int) rfl .no (.u rfl) (.u rfl) rfl (fun _ => by omega) (fun _ => wrap_i64 (by omega) (by omega)) ?_
      refine asg rfl .no (.u rfl) ?_
      refine .nil ?_
      refine We.lpo (q + 1, A ++ S.getD q z0 :: B) ?_ ?_ ?_ ?_ ?_
      · exact (ESub.cons rfl (by first | rfl | exact evi (by omega)) (ESub.cons rfl rfl (ESub.cons rfl rfl (ESub.cons rfl rfl (ESub.cons rfl rfl ESub.nil)))))
      · exact (MSub.cons .here (by simp) MSub.nil)
      · first | omega | (dsimp only; omega)
      · exact (hGl0).trans hGl1
      · refine ⟨?_, ?_, ?_, ?_⟩
        · (try dsimp only) <;> (first | omega | rfl | assumption | (simp; done))
        · (try dsimp only) <;> (omega)
        · (try dsimp only) <;> (exact ins_perm (by omega) hAB hp)
        · (try dsimp only) <;> (exact ins_srt (P := P) (R := R) hw hs hAB hB hS hp (by omega) (fun h0 => c2.resolve_left (by omega)))
  · have c1k := c1
    try simp only [decide_eq_true_eq, decide_eq_false_iff_not, Int.not_lt, Int.not_le, gt_iff_lt, ge_iff_le, Bool.or_eq_true, Bool.and_eq_true, Bool.or_eq_false_iff, Bool.and_eq_false_iff, Bool.not_eq_true', Bool.not_eq_false', Int.toNat_natCast, bne_iff_ne, beq_iff_eq, bne_eq_false_iff_eq, beq_eq_false_iff_ne, ne_eq] at c1
    refine .exit ?_
    refine .xcode ?_
    refine .xlp ?_
    refine .xblk ?_
    refine .nil ?_
    refine We.fin Try.results75 .nil (MSub.cons .here rfl MSub.nil) ?_
    have hqq : S.length ≤ q := by omega
    rw [List.take_of_length_le hqq] at hp
    exact ⟨S1, hp, hs, by rw [List.drop_of_length_le hqq, List.append_nil], rfl⟩

end Go.Proofs.Ytnhdaaggkdegpaa

namespace Go.Proofs.Ytnhdaaggkdegpaa
set_option linter.unusedSimpArgs false
set_option linter.unusedVariables false
open Go.Tan Go.RowKit

namespace Fx
theorem cv3_116 : cvK Try.prog 3 116 = some .u64 := by kernel_rfl
theorem cv116_3 : cvK Try.prog 116 3 = some .i64 := by kernel_rfl
theorem go77 : goFn Try.prog 77 = true := by kernel_rfl
theorem go76 : goFn Try.prog 76 = true := by kernel_rfl
end Fx
/-- merging of fewer than so many -/
structure SymI (v : Value) (f : Nat) (vc : List Value) (cv : Meta → Meta → Int) (N : Nat) (G : PM) : Prop where
  ok : ∀ G', PM.le G G' → ∀ (P A B R : List TM) (a m b : Int) (xs : List Meta), A.length + B.length < N → a = P.length → m = ((P.length + A.length : Nat) : Int) → b = ((P.length + A.length + B.length : Nat) : Int) → 0 < A.length → 0 < B.length → Srt (ltv cv) A → Srt (ltv cv) B → (∀ x ∈ A, ∀ y ∈ B, x.2 < y.2) → xs = ms (P ++ A ++ B ++ R) → xs.length ≤ 1000000000 →
    Ct Try.prog 76 #[v, .int .i64 a, .int .i64 m, .int .i64 b, .func (.func f) #[] vc.toArray] G' [rS 40 Meta.cells v 48 xs] (fun _ μ' u => ∃ S', S'.Perm (A ++ B) ∧ Srt (ltv cv) S' ∧ μ' = [rS 40 Meta.cells v 48 (ms (P ++ S' ++ R))] ∧ u = .tuple #[])
theorem SymI.mono {v : Value} {f : Nat} {vc : List Value} {cv : Meta → Meta → Int} {N : Nat} {G G' : PM} (h : SymI v f vc cv N G) (hle : PM.le G G') : SymI v f vc cv N G' := ⟨fun G2 h2 => h.ok G2 (hle.trans h2)⟩
set_option maxHeartbeats 4000000 in
theorem symM_step (P A B R : List TM) (v : Value) (a m b : Int) (f : Nat) (hf : goFn Try.prog f = true) (vc : List Value) (cv : Meta → Meta → Int) (G : PM) (hcm : CmpR Try.prog f vc cv G) (hw : Wk0 (ltv cv)) (ha : a = P.length) (hm : m = ((P.length + A.length : Nat) : Int)) (hb : b = ((P.length + A.length + B.length : Nat) : Int)) (hA : 0 < A.length) (hB : 0 < B.length) (sA : Srt (ltv cv) A) (sB : Srt (ltv cv) B) (ht : ∀ x ∈ A, ∀ y ∈ B, x.2 < y.2) (xs : List Meta) (hx : xs = (ms (P ++ A ++ B ++ R))) (hl : xs.length ≤ 1000000000) (ih : SymI v f vc cv (A.length + B.length) G) : Ct Try.prog 76 ([v, .int .i64 a, .int .i64 m, .int .i64 b, .func (.func f) #[] vc.toArray] : List Value).toArray G [rS 40 Meta.cells v 48 xs] (fun _ μ' u => ∃ S', S'.Perm (A ++ B) ∧ Srt (ltv cv) S' ∧ μ' = [rS 40 Meta.cells v 48 (ms (P ++ S' ++ R))] ∧ u = .tuple #[]) := by
  refine Ct.of Try.func76 rfl Try.ntmps76 rfl fun w0 hs0 => ?_
  subst hx; subst ha; subst hm; subst hb; rw [ms_len] at hl; simp only [List.length_append] at hl
  have hlen : (ms (P ++ A ++ B ++ R)).length = P.length + A.length + B.length + R.length := by rw [ms_len]; simp only [List.length_append]
  refine .seq ?_
  refine .seq ?_
  refine Wk.rg [0, 1, 2, 3] rfl rfl ?_
  refine mv rfl .no (.u rfl) ?_
  refine mv rfl .no (.u rfl) ?_
  refine arn ((A.length : Nat) : Int) rfl .no (.u rfl) (.u rfl) rfl (fun _ => by omega) (fun _ => wrap_i64 (by omega) (by omega)) ?_
  refine cp rfl .no (.u rfl) (.u rfl) rfl ?_
  refine .nil ?_
  refine .code ?_
  refine .cond rfl (fun c1 => ?_) (fun c1 => ?_)
  · have c1k := c1
    try simp only [decide_eq_true_eq, decide_eq_false_iff_not, Int.not_lt, Int.not_le, gt_iff_lt, ge_iff_le, Bool.or_eq_true, Bool.and_eq_true, Bool.or_eq_false_iff, Bool.and_eq_false_iff, Bool.not_eq_true', Bool.not_eq_false', Int.toNat_natCast, bne_iff_ne, beq_iff_eq, bne_eq_false_iff_eq, beq_eq_false_iff_ne, ne_eq] at c1
    refine .seq ?_
    refine Wk.rg [0, 1] rfl rfl ?_
    refine mv rfl .no (.u rfl) ?_
    refine asg rfl .no (.u rfl) ?_
    refine .nil ?_
    refine .code ?_
    refine .seq ?_
    refine Wk.rg [0, 1] rfl rfl ?_
    refine mv rfl .no (.u rfl) ?_
    refine asg rfl .no (.u rfl) ?_
    refine .nil ?_
    refine .code ?_
    refine .seq ?_
    refine .block ?_
    have hA1 : A.length = 1 := by omega
    refine Wk.lop (α := Nat × Nat) (fun gh => [(10, true, .int .i64 ((P.length + A.length + gh.1 : Nat) : Int)), (11, true, .int .i64 ((P.length + A.length + gh.2 : Nat) : Int))]) (fun _ => [])
      (fun gh Gl => (gh.1 ≤ gh.2) ∧ (gh.2 ≤ B.length) ∧ (gh.1 = 0 ∨ TL (ltv cv) (B.getD (gh.1 - 1) z0) (A.getD 0 z0)) ∧ (gh.2 = B.length ∨ TL (ltv cv) (A.getD 0 z0) (B.getD gh.2 z0))) (fun gh => gh.2 - gh.1) (0, B.length) [(0, true, _), (1, true, _), (4, true, _)] [_]
      (ESub.cons rfl (by first | rfl | exact evi (by omega)) (ESub.cons rfl (by first | rfl | exact evi (by omega)) (ESub.cons rfl rfl (ESub.cons rfl rfl (ESub.cons rfl rfl ESub.nil)))))
      (MSub.cons .here rfl MSub.nil) ?_ ?_
    · refine ⟨?_, ?_, ?_, ?_⟩
      · (try dsimp only) <;> (first | omega | rfl | assumption | (simp; done))
      · (try dsimp only) <;> (first | omega | rfl | assumption | (simp; done))
      · (try dsimp only) <;> (exact .inl rfl)
      · (try dsimp only) <;> (exact .inl rfl)
    intro gh N0 Gl0 hN0 hGl0 hF0
    obtain ⟨q, r⟩ := gh; dsimp only at hF0 hN0 ⊢
    obtain ⟨hq, hr, f1, f2⟩ := hF0
    have hcm := hcm.mono hGl0
    have ih := ih.mono hGl0
    refine .seq ?_
    refine .seq ?_
    refine Wk.rg [0, 1, 2] rfl rfl ?_
    refine mv rfl .no (.u rfl) ?_
    refine mv rfl .no (.u rfl) ?_
    refine cp rfl .no (.u rfl) (.u rfl) rfl ?_
    refine .nil ?_
    refine .code ?_
    refine .cond rfl (fun c2 => ?_) (fun c2 => ?_)
    · have c2k := c2
      try simp only [decide_eq_true_eq, decide_eq_false_iff_not, Int.not_lt, Int.not_le, gt_iff_lt, ge_iff_le, Bool.or_eq_true, Bool.and_eq_true, Bool.or_eq_false_iff, Bool.and_eq_false_iff, Bool.not_eq_true', Bool.not_eq_false', Int.toNat_natCast, bne_iff_ne, beq_iff_eq, bne_eq_false_iff_eq, beq_eq_false_iff_ne, ne_eq] at c2
      refine .skip ?_
      refine .code ?_
      refine .block ?_
      refine .seq ?_
      refine Wk.rg [0, 1, 2, 3, 4, 5, 6] rfl rfl ?_
      refine mv rfl .no (.u rfl) ?_
      refine mv rfl .no (.u rfl) ?_
      refine arn (((((P.length + A.length + q : Nat)) + ((P.length + A.length + r : Nat))) : Nat) : Int) rfl .no (.u rfl) (.u rfl) rfl (fun _ => by omega) (fun _ => wrap_i64 (by omega) (by omega)) ?_
      refine cw rfl .no Fx.cv3_116 (.u rfl) (fun _ => wrap_u64 (by omega) (by omega)) ?_
      refine sr1 ((((P.length + A.length + q : Nat)) + ((P.length + A.length + r : Nat)))) rfl .no (.u rfl) (.u rfl) (by first | rfl | omega) rfl (by decide) ?_
      refine cw rfl .no Fx.cv116_3 (.u rfl) (fun _ => wrap_i64 (by omega) (by omega)) ?_
      refine asg rfl .no (.u rfl) ?_
      refine .nil ?_
      refine .code ?_
      refine .seq ?_
      obtain ⟨d, hd⟩ : ∃ d, ((P.length + A.length + q) + (P.length + A.length + r)) / 2 = P.length + A.length + d := ⟨(q + r) / 2, by omega⟩
      have hdq : q ≤ d ∧ d < r := by omega
      rw [hd]
      have hg := seg_b (P := P) (A := A) (B := B) (R := R) (i := d) (by omega)
      have hg0 := seg_a0 (P := P) (A := A) (B := B) (R := R) hA
      refine wk_rv .here (by omega) ?_; intro bbR capR evR lcR; subst evR
      refine Wk.draw (mc := ⟨false, false⟩) [0, 1, 2, 3, 4, 5, 6, 7, 8, 9, 10] FxVeSa.mix (by kernel_rfl) ?_
      refine mv rfl .no (.u rfl) ?_
      refine mv rfl .no (.u rfl) ?_
      refine mv rfl .no (.u rfl) ?_
      refine ia rfl .no FxVeSa.se22 (.u rfl) (.u rfl) (fun _ => by omega) (fun _ => by omega) ?_
      refine lA rfl .no FxVeSa.ag48 (.u rfl) (fun _ => RdN.rowS .here (fun _ _ => Meta.len _) (gd_at (z := Meta.zero) (k := (P.length + A.length + d)) (by omega)) (by omega)) (fun _ => Meta.len _) ?_
      refine mv rfl .no (.u rfl) ?_
      refine mv rfl .no (.u rfl) ?_
      refine ia rfl .no FxVeSa.se22 (.u rfl) (.u rfl) (fun _ => by omega) (fun _ => by omega) ?_
      refine lA rfl .no FxVeSa.ag48 (.u rfl) (fun _ => RdN.rowS .here (fun _ _ => Meta.len _) (gd_at (z := Meta.zero) (k := P.length) (by omega)) (by omega)) (fun _ => Meta.len _) ?_
      refine kf rfl .no (.u rfl) hf (Eva.cons (.u rfl) (Eva.cons (.u rfl) Eva.nil)) (fun _ => hcm.ok _ (PM.le.refl _) _ _) ?_
      refine cp rfl .no (.u rfl) (.u rfl) rfl ?_
      refine .nil ?_
      refine .code ?_
      refine .cond rfl (fun c3 => ?_) (fun c3 => ?_)
      · have c3k := c3
        try simp only [decide_eq_true_eq, decide_eq_false_iff_not, Int.not_lt, Int.not_le, gt_iff_lt, ge_iff_le, Bool.or_eq_true, Bool.and_eq_true, Bool.or_eq_false_iff, Bool.and_eq_false_iff, Bool.not_eq_true', Bool.not_eq_false', Int.toNat_natCast, bne_iff_ne, beq_iff_eq, bne_eq_false_iff_eq, beq_eq_false_iff_ne, ne_eq] at c3
        refine Wk.rg [0, 1, 2] rfl rfl ?_
        refine mv rfl .no (.u rfl) ?_
        refine arn ((((P.length + A.length + d) + 1) : Nat) : Int) rfl .no (.u rfl) (.u rfl) rfl (fun _ => by omega) (fun _ => wrap_i64 (by omega) (by omega)) ?_
        refine asg rfl .no (.u rfl) ?_
        refine .nil ?_
        refine .blk ?_
        refine We.lpo (d + 1, r) ?_ ?_ ?_ ?_ ?_
        · exact (ESub.cons rfl (evi (by first | rfl | omega | (dsimp only; omega))) (ESub.cons rfl (evi (by first | rfl | omega | (dsimp only; omega))) (ESub.cons rfl rfl (ESub.cons rfl rfl (ESub.cons rfl rfl ESub.nil)))))
        · exact (MSub.cons .here rfl MSub.nil)
        · first | omega | (dsimp only; omega)
        · exact hGl0
        · refine ⟨?_, ?_, ?_, ?_⟩
          · (try dsimp only) <;> (first | omega | rfl | assumption | (simp; done))
          · (try dsimp only) <;> (first | omega | rfl | assumption | (simp; done))
          · (try dsimp only) <;> (exact .inr (by rw [show d + 1 - 1 = d by omega]; exact ab_back hw ht hA (by omega) (by rw [← hg, ← hg0]; assumption)))
          · (try dsimp only) <;> (exact f2)
      · have c3k := c3
        try simp only [decide_eq_true_eq, decide_eq_false_iff_not, Int.not_lt, Int.not_le, gt_iff_lt, ge_iff_le, Bool.or_eq_true, Bool.and_eq_true, Bool.or_eq_false_iff, Bool.and_eq_false_iff, Bool.not_eq_true', Bool.not_eq_false', Int.toNat_natCast, bne_iff_ne, beq_iff_eq, bne_eq_false_iff_eq, beq_eq_false_iff_ne, ne_eq] at c3
        refine Wk.rg [0, 1] rfl rfl ?_
        refine mv rfl .no (.u rfl) ?_
        refine asg rfl .no (.u rfl) ?_
        refine .nil ?_
        refine .blk ?_
        refine We.lpo (q, d) ?_ ?_ ?_ ?_ ?_
        · exact (ESub.cons rfl (evi (by first | rfl | omega | (dsimp only; omega))) (ESub.cons rfl (evi (by first | rfl | omega | (dsimp only; omega))) (ESub.cons rfl rfl (ESub.cons rfl rfl (ESub.cons rfl rfl ESub.nil)))))
        · exact (MSub.cons .here rfl MSub.nil)
        · first | omega | (dsimp only; omega)
        · exact hGl0
        · refine ⟨?_, ?_, ?_, ?_⟩
          · (try dsimp only) <;> (first | omega | rfl | assumption | (simp; done))
          · (try dsimp only) <;> (first | omega | rfl | assumption | (simp; done))
          · (try dsimp only) <;> (exact f1)
          · (try dsimp only) <;> (exact .inr (ab_fore hw ht hA (by omega) (by rw [← hg, ← hg0]; assumption)))
    · have c2k := c2
      try simp only [decide_eq_true_eq, decide_eq_false_iff_not, Int.not_lt, Int.not_le, gt_iff_lt, ge_iff_le, Bool.or_eq_true, Bool.and_eq_true, Bool.or_eq_false_iff, Bool.and_eq_false_iff, Bool.not_eq_true', Bool.not_eq_false', Int.toNat_natCast, bne_iff_ne, beq_iff_eq, bne_eq_false_iff_eq, beq_eq_false_iff_ne, ne_eq] at c2
      refine .exit ?_
      refine .xcode ?_
      refine .xlp ?_
      refine .xblk ?_
      refine .code ?_
      refine .seq ?_
      refine .seq ?_
      refine Wk.rg [0, 1] rfl rfl ?_
      refine mv rfl .no (.u rfl) ?_
      refine asg rfl .no (.u rfl) ?_
      refine .nil ?_
      refine .code ?_
      refine .block ?_
      obtain rfl : q = r := by omega
      refine Wk.lop (α := Nat) (fun k => [(13, true, .int .i64 ((P.length + k : Nat) : Int))]) (fun k => [rS 40 Meta.cells v 48 (ms (P ++ (B.take k ++ A.getD 0 z0 :: B.drop k) ++ R))])
        (fun k Gl => (k ≤ q)) (fun k => q - k) 0 [(0, true, _), (10, true, _)] []
        (ESub.cons rfl (by first | rfl | exact evi (by omega)) (ESub.cons rfl rfl (ESub.cons rfl rfl ESub.nil)))
        (MSub.cons .here (by rw [List.take_zero, List.drop_zero, List.nil_append, ← List.singleton_append, ← one_eq hA1, ← List.append_assoc]) MSub.nil) ?_ ?_
      · (try dsimp only) <;> (first | omega | rfl | assumption | (simp; done))
      intro k N1 Gl1 hN1 hGl1 hF1
      try dsimp only at hF1 hN1 ⊢
      have hk := hF1
      have hcm := hcm.mono hGl1
      have ih := ih.mono hGl1
      have hlu : (ms (P ++ (B.take k ++ A.getD 0 z0 :: B.drop k) ++ R)).length = P.length + B.length + 1 + R.length := by rw [ms_len]; simp only [List.length_append, List.length_cons, List.length_take, List.length_drop]; omega
      refine .seq ?_
      refine .seq ?_
      refine Wk.rg [0, 1, 2, 3] rfl rfl ?_
      refine mv rfl .no (.u rfl) ?_
      refine mv rfl .no (.u rfl) ?_
      refine arn (((P.length + q) : Nat) : Int) rfl .no (.u rfl) (.u rfl) rfl (fun _ => by omega) (fun _ => wrap_i64 (by omega) (by omega)) ?_
      refine cp rfl .no (.u rfl) (.u rfl) rfl ?_
      refine .nil ?_
      refine .code ?_
      refine .cond rfl (fun c4 => ?_) (fun c4 => ?_)
      · have c4k := c4
        try simp only [decide_eq_true_eq, decide_eq_false_iff_not, Int.not_lt, Int.not_le, gt_iff_lt, ge_iff_le, Bool.or_eq_true, Bool.and_eq_true, Bool.or_eq_false_iff, Bool.and_eq_false_iff, Bool.not_eq_true', Bool.not_eq_false', Int.toNat_natCast, bne_iff_ne, beq_iff_eq, bne_eq_false_iff_eq, beq_eq_false_iff_ne, ne_eq] at c4
        refine .skip ?_
        refine .code ?_
        refine .seq ?_
        refine .block ?_
        refine wk_rv .here (by omega) ?_; intro bbR capR evR lcR; subst evR
        refine Wk.draw (mc := ⟨false, false⟩) [0, 1, 2, 3, 4, 5, 6, 7, 8, 9, 10, 11, 12, 13, 14, 15, 16, 17] FxVeSa.mix (by kernel_rfl) ?_
        refine mv rfl .no (.u rfl) ?_
        refine mv rfl .no (.u rfl) ?_
        refine mv rfl .no (.u rfl) ?_
        refine mv rfl .no (.u rfl) ?_
        refine arn (((((P.length + k : Nat)) + 1) : Nat) : Int) rfl .no (.u rfl) (.u rfl) rfl (fun _ => by omega) (fun _ => wrap_i64 (by omega) (by omega)) ?_
        refine mv rfl .no (.u rfl) ?_
        refine mv rfl .no (.u rfl) ?_
        refine arn (((((P.length + k : Nat)) + 1) : Nat) : Int) rfl .no (.u rfl) (.u rfl) rfl (fun _ => by omega) (fun _ => wrap_i64 (by omega) (by omega)) ?_
        refine ia rfl .no FxVeSa.se22 (.u rfl) (.u rfl) (fun _ => by omega) (fun _ => by omega) ?_
        refine lA rfl .no FxVeSa.ag48 (.u rfl) (fun _ => RdN.rowS .here (fun _ _ => Meta.len _) (gd_at (z := Meta.zero) (k := (((P.length + k : Nat)) + 1)) (by omega)) (by omega)) (fun _ => Meta.len _) ?_
        refine mv rfl .no (.u rfl) ?_
        refine mv rfl .no (.u rfl) ?_
        refine ia rfl .no FxVeSa.se22 (.u rfl) (.u rfl) (fun _ => by omega) (fun _ => by omega) ?_
        refine lA rfl .no FxVeSa.ag48 (.u rfl) (fun _ => RdN.rowS .here (fun _ _ => Meta.len _) (gd_at (z := Meta.zero) (k := ((P.length + k : Nat))) (by omega)) (by omega)) (fun _ => Meta.len _) ?_
        refine ia rfl .no FxVeSa.se22 (.u rfl) (.u rfl) (fun _ => by omega) (fun _ => by omega) ?_
        refine stS (k := ((P.length + k : Nat))) (u := ((ms (P ++ (B.take k ++ A.getD 0 z0 :: B.drop k) ++ R)).getD ((((P.length + k : Nat)) + 1)) Meta.zero)) rfl (.u rfl) (.u rfl) rfl FxVeSa.sz48 .here (fun _ _ => Meta.len _) (Meta.len _) (Meta.one _) (by omega) (by (try simp only [List.length_set]); omega) ?_
        refine ia rfl .no FxVeSa.se22 (.u rfl) (.u rfl) (fun _ => by omega) (fun _ => by omega) ?_
        refine stS (k := (((P.length + k : Nat)) + 1)) (u := ((ms (P ++ (B.take k ++ A.getD 0 z0 :: B.drop k) ++ R)).getD (((P.length + k : Nat))) Meta.zero)) rfl (.u rfl) (.u rfl) rfl FxVeSa.sz48 .here (fun _ _ => Meta.len _) (Meta.len _) (Meta.one _) (by omega) (by (try simp only [List.length_set]); omega) ?_
        refine .nil ?_
        refine .blk ?_
        refine .code ?_
        refine Wk.rg [0, 1, 2] rfl rfl ?_
        refine mv rfl .no (.u rfl) ?_
        refine arn (((((P.length + k : Nat)) + 1) : Nat) : Int) rfl .no (.u rfl) (.u rfl) rfl (fun _ => by omega) (fun _ => wrap_i64 (by omega) (by omega)) ?_
        refine asg rfl .no (.u rfl) ?_
        refine .nil ?_
        refine We.lpo (k + 1) ?_ ?_ ?_ ?_ ?_
        · exact (ESub.cons rfl (evi (by omega)) (ESub.cons rfl rfl (ESub.cons rfl rfl ESub.nil)))
        · exact (MSub.cons .here (by rw [sh_up (by omega) rfl rfl]) MSub.nil)
        · first | omega | (dsimp only; omega)
        · exact hGl1
        · (try dsimp only) <;> (first | omega | rfl | assumption | (simp; done))
      · have c4k := c4
        try simp only [decide_eq_true_eq, decide_eq_false_iff_not, Int.not_lt, Int.not_le, gt_iff_lt, ge_iff_le, Bool.or_eq_true, Bool.and_eq_true, Bool.or_eq_false_iff, Bool.and_eq_false_iff, Bool.not_eq_true', Bool.not_eq_false', Int.toNat_natCast, bne_iff_ne, beq_iff_eq, bne_eq_false_iff_eq, beq_eq_false_iff_ne, ne_eq] at c4
        refine .exit ?_
        refine .xcode ?_
        refine .xlp ?_
        refine .xblk ?_
        refine .code ?_
        refine .ret ?_
        refine We.fin Try.results76 .nil (MSub.cons .here rfl MSub.nil) ?_
        obtain rfl : k = q := by omega
        exact ⟨_, put_up hA1 k, srt_put hw sB f1 f2 (by omega), rfl, rfl⟩
  · have c1k := c1
    try simp only [decide_eq_true_eq, decide_eq_false_iff_not, Int.not_lt, Int.not_le, gt_iff_lt, ge_iff_le, Bool.or_eq_true, Bool.and_eq_true, Bool.or_eq_false_iff, Bool.and_eq_false_iff, Bool.not_eq_true', Bool.not_eq_false', Int.toNat_natCast, bne_iff_ne, beq_iff_eq, bne_eq_false_iff_eq, beq_eq_false_iff_ne, ne_eq] at c1
    refine .skip ?_
    refine .code ?_
    refine .seq ?_
    refine .seq ?_
    refine Wk.rg [0, 1, 2, 3] rfl rfl ?_
    refine mv rfl .no (.u rfl) ?_
    refine mv rfl .no (.u rfl) ?_
    refine arn ((B.length : Nat) : Int) rfl .no (.u rfl) (.u rfl) rfl (fun _ => by omega) (fun _ => wrap_i64 (by omega) (by omega)) ?_
    refine cp rfl .no (.u rfl) (.u rfl) rfl ?_
    refine .nil ?_
    refine .code ?_
    refine .cond rfl (fun c5 => ?_) (fun c5 => ?_)
    · have c5k := c5
      try simp only [decide_eq_true_eq, decide_eq_false_iff_not, Int.not_lt, Int.not_le, gt_iff_lt, ge_iff_le, Bool.or_eq_true, Bool.and_eq_true, Bool.or_eq_false_iff, Bool.and_eq_false_iff, Bool.not_eq_true', Bool.not_eq_false', Int.toNat_natCast, bne_iff_ne, beq_iff_eq, bne_eq_false_iff_eq, beq_eq_false_iff_ne, ne_eq] at c5
      refine .seq ?_
      refine Wk.rg [0, 1] rfl rfl ?_
      refine mv rfl .no (.u rfl) ?_
      refine asg rfl .no (.u rfl) ?_
      refine .nil ?_
      refine .code ?_
      refine .seq ?_
      refine Wk.rg [0, 1] rfl rfl ?_
      refine mv rfl .no (.u rfl) ?_
      refine asg rfl .no (.u rfl) ?_
      refine .nil ?_
      refine .code ?_
      refine .seq ?_
      refine .block ?_
      have hB1 : B.length = 1 := by omega
      refine Wk.lop (α := Nat × Nat) (fun gh => [(14, true, .int .i64 ((P.length + gh.1 : Nat) : Int)), (15, true, .int .i64 ((P.length + gh.2 : Nat) : Int))]) (fun _ => [])
        (fun gh Gl => (gh.1 ≤ gh.2) ∧ (gh.2 ≤ A.length) ∧ (gh.1 = 0 ∨ TL (ltv cv) (A.getD (gh.1 - 1) z0) (B.getD 0 z0)) ∧ (gh.2 = A.length ∨ TL (ltv cv) (B.getD 0 z0) (A.getD gh.2 z0))) (fun gh => gh.2 - gh.1) (0, A.length) [(0, true, _), (2, true, _), (4, true, _)] [_]
        (ESub.cons rfl (by first | rfl | exact evi (by omega)) (ESub.cons rfl (by first | rfl | exact evi (by omega)) (ESub.cons rfl rfl (ESub.cons rfl rfl (ESub.cons rfl rfl ESub.nil)))))
        (MSub.cons .here rfl MSub.nil) ?_ ?_
      · refine ⟨?_, ?_, ?_, ?_⟩
        · (try dsimp only) <;> (first | omega | rfl | assumption | (simp; done))
        · (try dsimp only) <;> (first | omega | rfl | assumption | (simp; done))
        · (try dsimp only) <;> (exact .inl rfl)
        · (try dsimp only) <;> (exact .inl rfl)
      intro gh N2 Gl2 hN2 hGl2 hF2
      obtain ⟨q, r⟩ := gh; dsimp only at hF2 hN2 ⊢
      obtain ⟨hq, hr, f1, f2⟩ := hF2
      have hcm := hcm.mono hGl2
      have ih := ih.mono hGl2
      refine .seq ?_
      refine .seq ?_
      refine Wk.rg [0, 1, 2] rfl rfl ?_
      refine mv rfl .no (.u rfl) ?_
      refine mv rfl .no (.u rfl) ?_
      refine cp rfl .no (.u rfl) (.u rfl) rfl ?_
      refine .nil ?_
      refine .code ?_
      refine .cond rfl (fun c6 => ?_) (fun c6 => ?_)
      · have c6k := c6
        try simp only [decide_eq_true_eq, decide_eq_false_iff_not, Int.not_lt, Int.not_le, gt_iff_lt, ge_iff_le, Bool.or_eq_true, Bool.and_eq_true, Bool.or_eq_false_iff, Bool.and_eq_false_iff, Bool.not_eq_true', Bool.not_eq_false', Int.toNat_natCast, bne_iff_ne, beq_iff_eq, bne_eq_false_iff_eq, beq_eq_false_iff_ne, ne_eq] at c6
        refine .skip ?_
        refine .code ?_
        refine .block ?_
        refine .seq ?_
        refine Wk.rg [0, 1, 2, 3, 4, 5, 6] rfl rfl ?_
        refine mv rfl .no (.u rfl) ?_
        refine mv rfl .no (.u rfl) ?_
        refine arn (((((P.length + q : Nat)) + ((P.length + r : Nat))) : Nat) : Int) rfl .no (.u rfl) (.u rfl) rfl (fun _ => by omega) (fun _ => wrap_i64 (by omega) (by omega)) ?_
        refine cw rfl .no Fx.cv3_116 (.u rfl) (fun _ => wrap_u64 (by omega) (by omega)) ?_
        refine sr1 ((((P.length + q : Nat)) + ((P.length + r : Nat)))) rfl .no (.u rfl) (.u rfl) (by first | rfl | omega) rfl (by decide) ?_
        refine cw rfl .no Fx.cv116_3 (.u rfl) (fun _ => wrap_i64 (by omega) (by omega)) ?_
        refine asg rfl .no (.u rfl) ?_
        refine .nil ?_
        refine .code ?_
        refine .seq ?_
        obtain ⟨d, hd⟩ : ∃ d, ((P.length + q) + (P.length + r)) / 2 = P.length + d := ⟨(q + r) / 2, by omega⟩
        have hdq : q ≤ d ∧ d < r := by omega
        rw [hd]
        have hg := seg_a (P := P) (A := A) (B := B) (R := R) (i := d) (by omega)
        have hg0 := seg_b0 (P := P) (A := A) (B := B) (R := R) hB
        refine wk_rv .here (by omega) ?_; intro bbR capR evR lcR; subst evR
        refine Wk.draw (mc := ⟨false, false⟩) [0, 1, 2, 3, 4, 5, 6, 7, 8, 9, 10, 11] FxVeSa.mix (by kernel_rfl) ?_
        refine mv rfl .no (.u rfl) ?_
        refine mv rfl .no (.u rfl) ?_
        refine mv rfl .no (.u rfl) ?_
        refine ia rfl .no FxVeSa.se22 (.u rfl) (.u rfl) (fun _ => by omega) (fun _ => by omega) ?_
        refine lA rfl .no FxVeSa.ag48 (.u rfl) (fun _ => RdN.rowS .here (fun _ _ => Meta.len _) (gd_at (z := Meta.zero) (k := (P.length + A.length)) (by omega)) (by omega)) (fun _ => Meta.len _) ?_
        refine mv rfl .no (.u rfl) ?_
        refine mv rfl .no (.u rfl) ?_
        refine ia rfl .no FxVeSa.se22 (.u rfl) (.u rfl) (fun _ => by omega) (fun _ => by omega) ?_
        refine lA rfl .no FxVeSa.ag48 (.u rfl) (fun _ => RdN.rowS .here (fun _ _ => Meta.len _) (gd_at (z := Meta.zero) (k := (P.length + d)) (by omega)) (by omega)) (fun _ => Meta.len _) ?_
        refine kf rfl .no (.u rfl) hf (Eva.cons (.u rfl) (Eva.cons (.u rfl) Eva.nil)) (fun _ => hcm.ok _ (PM.le.refl _) _ _) ?_
        refine cp rfl .no (.u rfl) (.u rfl) rfl ?_
        refine nt rfl .no (.u rfl) ?_
        refine .nil ?_
        refine .code ?_
        refine .cond rfl (fun c7 => ?_) (fun c7 => ?_)
        · have c7k := c7
          try simp only [decide_eq_true_eq, decide_eq_false_iff_not, Int.not_lt, Int.not_le, gt_iff_lt, ge_iff_le, Bool.or_eq_true, Bool.and_eq_true, Bool.or_eq_false_iff, Bool.and_eq_false_iff, Bool.not_eq_true', Bool.not_eq_false', Int.toNat_natCast, bne_iff_ne, beq_iff_eq, bne_eq_false_iff_eq, beq_eq_false_iff_ne, ne_eq] at c7
          refine Wk.rg [0, 1, 2] rfl rfl ?_
          refine mv rfl .no (.u rfl) ?_
          refine arn ((((P.length + d) + 1) : Nat) : Int) rfl .no (.u rfl) (.u rfl) rfl (fun _ => by omega) (fun _ => wrap_i64 (by omega) (by omega)) ?_
          refine asg rfl .no (.u rfl) ?_
          refine .nil ?_
          refine .blk ?_
          refine We.lpo (d + 1, r) ?_ ?_ ?_ ?_ ?_
          · exact (ESub.cons rfl (evi (by first | rfl | omega | (dsimp only; omega))) (ESub.cons rfl (evi (by first | rfl | omega | (dsimp only; omega))) (ESub.cons rfl rfl (ESub.cons rfl rfl (ESub.cons rfl rfl ESub.nil)))))
          · exact (MSub.cons .here rfl MSub.nil)
          · first | omega | (dsimp only; omega)
          · exact hGl2
          · refine ⟨?_, ?_, ?_, ?_⟩
            · (try dsimp only) <;> (first | omega | rfl | assumption | (simp; done))
            · (try dsimp only) <;> (first | omega | rfl | assumption | (simp; done))
            · (try dsimp only) <;> (exact .inr (by rw [show d + 1 - 1 = d by omega]; exact ab_fore hw ht (by omega) hB (by rw [← hg, ← hg0]; assumption)))
            · (try dsimp only) <;> (exact f2)
        · have c7k := c7
          try simp only [decide_eq_true_eq, decide_eq_false_iff_not, Int.not_lt, Int.not_le, gt_iff_lt, ge_iff_le, Bool.or_eq_true, Bool.and_eq_true, Bool.or_eq_false_iff, Bool.and_eq_false_iff, Bool.not_eq_true', Bool.not_eq_false', Int.toNat_natCast, bne_iff_ne, beq_iff_eq, bne_eq_false_iff_eq, beq_eq_false_iff_ne, ne_eq] at c7
          refine Wk.rg [0, 1] rfl rfl ?_
          refine mv rfl .no (.u rfl) ?_
          refine asg rfl .no (.u rfl) ?_
          refine .nil ?_
          refine .blk ?_
          refine We.lpo (q, d) ?_ ?_ ?_ ?_ ?_
          · exact (ESub.cons rfl (evi (by first | rfl | omega | (dsimp only; omega))) (ESub.cons rfl (evi (by first | rfl | omega | (dsimp only; omega))) (ESub.cons rfl rfl (ESub.cons rfl rfl (ESub.cons rfl rfl ESub.nil)))))
          · exact (MSub.cons .here rfl MSub.nil)
          · first | omega | (dsimp only; omega)
          · exact hGl2
          · refine ⟨?_, ?_, ?_, ?_⟩
            · (try dsimp only) <;> (first | omega | rfl | assumption | (simp; done))
            · (try dsimp only) <;> (first | omega | rfl | assumption | (simp; done))
            · (try dsimp only) <;> (exact f1)
            · (try dsimp only) <;> (exact .inr (ab_back hw ht (by omega) hB (by rw [← hg, ← hg0]; assumption)))
      · have c6k := c6
        try simp only [decide_eq_true_eq, decide_eq_false_iff_not, Int.not_lt, Int.not_le, gt_iff_lt, ge_iff_le, Bool.or_eq_true, Bool.and_eq_true, Bool.or_eq_false_iff, Bool.and_eq_false_iff, Bool.not_eq_true', Bool.not_eq_false', Int.toNat_natCast, bne_iff_ne, beq_iff_eq, bne_eq_false_iff_eq, beq_eq_false_iff_ne, ne_eq] at c6
        refine .exit ?_
        refine .xcode ?_
        refine .xlp ?_
        refine .xblk ?_
        refine .code ?_
        refine .seq ?_
        refine .seq ?_
        refine Wk.rg [0, 1] rfl rfl ?_
        refine mv rfl .no (.u rfl) ?_
        refine asg rfl .no (.u rfl) ?_
        refine .nil ?_
        refine .code ?_
        refine .block ?_
        obtain rfl : q = r := by omega
        refine Wk.lop (α := Nat) (fun e => [(17, true, .int .i64 ((P.length + e : Nat) : Int))]) (fun e => [rS 40 Meta.cells v 48 (ms (P ++ (A.take e ++ B.getD 0 z0 :: A.drop e) ++ R))])
          (fun e Gl => (q ≤ e) ∧ (e ≤ A.length)) (fun e => e) A.length [(0, true, _), (14, true, _)] []
          (ESub.cons rfl (by first | rfl | exact evi (by omega)) (ESub.cons rfl rfl (ESub.cons rfl rfl ESub.nil)))
          (MSub.cons .here (by rw [List.take_length, List.drop_length, ← one_eq hB1, ← List.append_assoc]) MSub.nil) ?_ ?_
        · refine ⟨?_, ?_⟩
          · (try dsimp only) <;> (first | omega | rfl | assumption | (simp; done))
          · (try dsimp only) <;> (first | omega | rfl | assumption | (simp; done))
        intro e N3 Gl3 hN3 hGl3 hF3
        try dsimp only at hF3 hN3 ⊢
        obtain ⟨he, hel⟩ := hF3
        have hcm := hcm.mono hGl3
        have ih := ih.mono hGl3
        have hld : (ms (P ++ (A.take e ++ B.getD 0 z0 :: A.drop e) ++ R)).length = P.length + A.length + 1 + R.length := by rw [ms_len]; simp only [List.length_append, List.length_cons, List.length_take, List.length_drop]; omega
        refine .seq ?_
        refine .seq ?_
        refine Wk.rg [0, 1, 2] rfl rfl ?_
        refine mv rfl .no (.u rfl) ?_
        refine mv rfl .no (.u rfl) ?_
        refine cp rfl .no (.u rfl) (.u rfl) rfl ?_
        refine .nil ?_
        refine .code ?_
        refine .cond rfl (fun c8 => ?_) (fun c8 => ?_)
        · have c8k := c8
          try simp only [decide_eq_true_eq, decide_eq_false_iff_not, Int.not_lt, Int.not_le, gt_iff_lt, ge_iff_le, Bool.or_eq_true, Bool.and_eq_true, Bool.or_eq_false_iff, Bool.and_eq_false_iff, Bool.not_eq_true', Bool.not_eq_false', Int.toNat_natCast, bne_iff_ne, beq_iff_eq, bne_eq_false_iff_eq, beq_eq_false_iff_ne, ne_eq] at c8
          refine .skip ?_
          refine .code ?_
          refine .seq ?_
          refine .block ?_
          refine wk_rv .here (by omega) ?_; intro bbR capR evR lcR; subst evR
          refine Wk.draw (mc := ⟨false, false⟩) [0, 1, 2, 3, 4, 5, 6, 7, 8, 9, 10, 11, 12, 13, 14, 15, 16, 17] FxVeSa.mix (by kernel_rfl) ?_
          refine mv rfl .no (.u rfl) ?_
          refine mv rfl .no (.u rfl) ?_
          refine mv rfl .no (.u rfl) ?_
          refine mv rfl .no (.u rfl) ?_
          refine arn (((P.length + e - 1) : Nat) : Int) rfl .no (.u rfl) (.u rfl) rfl (fun _ => by omega) (fun _ => wrap_i64 (by omega) (by omega)) ?_
          refine mv rfl .no (.u rfl) ?_
          refine mv rfl .no (.u rfl) ?_
          refine arn (((P.length + e - 1) : Nat) : Int) rfl .no (.u rfl) (.u rfl) rfl (fun _ => by omega) (fun _ => wrap_i64 (by omega) (by omega)) ?_
          refine ia rfl .no FxVeSa.se22 (.u rfl) (.u rfl) (fun _ => by omega) (fun _ => by omega) ?_
          refine lA rfl .no FxVeSa.ag48 (.u rfl) (fun _ => RdN.rowS .here (fun _ _ => Meta.len _) (gd_at (z := Meta.zero) (k := (P.length + e - 1)) (by omega)) (by omega)) (fun _ => Meta.len _) ?_
          refine mv rfl .no (.u rfl) ?_
          refine mv rfl .no (.u rfl) ?_
          refine ia rfl .no FxVeSa.se22 (.u rfl) (.u rfl) (fun _ => by omega) (fun _ => by omega) ?_
          refine lA rfl .no FxVeSa.ag48 (.u rfl) (fun _ => RdN.rowS .here (fun _ _ => Meta.len _) (gd_at (z := Meta.zero) (k := ((P.length + e : Nat))) (by omega)) (by omega)) (fun _ => Meta.len _) ?_
          refine ia rfl .no FxVeSa.se22 (.u rfl) (.u rfl) (fun _ => by omega) (fun _ => by omega) ?_
          refine stS (k := ((P.length + e : Nat))) (u := ((ms (P ++ (A.take e ++ B.getD 0 z0 :: A.drop e) ++ R)).getD ((P.length + e - 1)) Meta.zero)) rfl (.u rfl) (.u rfl) rfl FxVeSa.sz48 .here (fun _ _ => Meta.len _) (Meta.len _) (Meta.one _) (by omega) (by (try simp only [List.length_set]); omega) ?_
          refine ia rfl .no FxVeSa.se22 (.u rfl) (.u rfl) (fun _ => by omega) (fun _ => by omega) ?_
          refine stS (k := (P.length + e - 1)) (u := ((ms (P ++ (A.take e ++ B.getD 0 z0 :: A.drop e) ++ R)).getD (((P.length + e : Nat))) Meta.zero)) rfl (.u rfl) (.u rfl) rfl FxVeSa.sz48 .here (fun _ _ => Meta.len _) (Meta.len _) (Meta.one _) (by omega) (by (try simp only [List.length_set]); omega) ?_
          refine .nil ?_
          refine .blk ?_
          refine .code ?_
          refine Wk.rg [0, 1, 2] rfl rfl ?_
          refine mv rfl .no (.u rfl) ?_
          refine arn (((P.length + e - 1) : Nat) : Int) rfl .no (.u rfl) (.u rfl) rfl (fun _ => by omega) (fun _ => wrap_i64 (by omega) (by omega)) ?_
          refine asg rfl .no (.u rfl) ?_
          refine .nil ?_
          refine We.lpo (e - 1) ?_ ?_ ?_ ?_ ?_
          · exact (ESub.cons rfl (evi (by omega)) (ESub.cons rfl rfl (ESub.cons rfl rfl ESub.nil)))
          · exact (MSub.cons .here (by rw [sh_dn (by omega) (by omega) rfl rfl]) MSub.nil)
          · first | omega | (dsimp only; omega)
          · exact hGl3
          · refine ⟨?_, ?_⟩
            · (try dsimp only) <;> (first | omega | rfl | assumption | (simp; done))
            · (try dsimp only) <;> (first | omega | rfl | assumption | (simp; done))
        · have c8k := c8
          try simp only [decide_eq_true_eq, decide_eq_false_iff_not, Int.not_lt, Int.not_le, gt_iff_lt, ge_iff_le, Bool.or_eq_true, Bool.and_eq_true, Bool.or_eq_false_iff, Bool.and_eq_false_iff, Bool.not_eq_true', Bool.not_eq_false', Int.toNat_natCast, bne_iff_ne, beq_iff_eq, bne_eq_false_iff_eq, beq_eq_false_iff_ne, ne_eq] at c8
          refine .exit ?_
          refine .xcode ?_
          refine .xlp ?_
          refine .xblk ?_
          refine .code ?_
          refine .ret ?_
          refine We.fin Try.results76 .nil (MSub.cons .here rfl MSub.nil) ?_
          obtain rfl : e = q := by omega
          exact ⟨_, put_dn hB1 e, srt_put hw sA f1 f2 (by omega), rfl, rfl⟩
    · have c5k := c5
      try simp only [decide_eq_true_eq, decide_eq_false_iff_not, Int.not_lt, Int.not_le, gt_iff_lt, ge_iff_le, Bool.or_eq_true, Bool.and_eq_true, Bool.or_eq_false_iff, Bool.and_eq_false_iff, Bool.not_eq_true', Bool.not_eq_false', Int.toNat_natCast, bne_iff_ne, beq_iff_eq, bne_eq_false_iff_eq, beq_eq_false_iff_ne, ne_eq] at c5
      refine .skip ?_
      refine .code ?_
      refine .seq ?_
      refine Wk.rg [0, 1, 2, 3, 4, 5, 6] rfl rfl ?_
      refine mv rfl .no (.u rfl) ?_
      refine mv rfl .no (.u rfl) ?_
      refine arn (((P.length + (P.length + A.length + B.length)) : Nat) : Int) rfl .no (.u rfl) (.u rfl) rfl (fun _ => by omega) (fun _ => wrap_i64 (by omega) (by omega)) ?_
      refine cw rfl .no Fx.cv3_116 (.u rfl) (fun _ => wrap_u64 (by omega) (by omega)) ?_
      refine sr1 ((P.length + (P.length + A.length + B.length))) rfl .no (.u rfl) (.u rfl) (by first | rfl | omega) rfl (by decide) ?_
      refine cw rfl .no Fx.cv116_3 (.u rfl) (fun _ => wrap_i64 (by omega) (by omega)) ?_
      refine asg rfl .no (.u rfl) ?_
      refine .nil ?_
      refine .code ?_
      refine .seq ?_
      obtain ⟨h, hh⟩ : ∃ h, (P.length + (P.length + A.length + B.length)) / 2 = P.length + h := ⟨(A.length + B.length) / 2, by omega⟩
      have hh2 : A.length + B.length = 2 * h ∨ A.length + B.length = 2 * h + 1 := by omega
      rw [hh]
      refine Wk.rg [0, 1, 2, 3] rfl rfl ?_
      refine mv rfl .no (.u rfl) ?_
      refine mv rfl .no (.u rfl) ?_
      refine arn ((((P.length + h) + (P.length + A.length)) : Nat) : Int) rfl .no (.u rfl) (.u rfl) rfl (fun _ => by omega) (fun _ => wrap_i64 (by omega) (by omega)) ?_
      refine asg rfl .no (.u rfl) ?_
      refine .nil ?_
      refine .code ?_
      refine .seq ?_
      refine Wk.rg [0, 1] rfl rfl ?_
      refine asg rfl .no (.u rfl) ?_
      refine asg rfl .no (.u rfl) ?_
      refine .nil ?_
      refine .code ?_
      refine .seq ?_
      refine .seq ?_
      refine Wk.rg [0, 1, 2] rfl rfl ?_
      refine mv rfl .no (.u rfl) ?_
      refine mv rfl .no (.u rfl) ?_
      refine cp rfl .no (.u rfl) (.u rfl) rfl ?_
      refine .nil ?_
      refine .code ?_
      refine .cond rfl (fun c9 => ?_) (fun c9 => ?_)
      · have c9k := c9
        try simp only [decide_eq_true_eq, decide_eq_false_iff_not, Int.not_lt, Int.not_le, gt_iff_lt, ge_iff_le, Bool.or_eq_true, Bool.and_eq_true, Bool.or_eq_false_iff, Bool.and_eq_false_iff, Bool.not_eq_true', Bool.not_eq_false', Int.toNat_natCast, bne_iff_ne, beq_iff_eq, bne_eq_false_iff_eq, beq_eq_false_iff_ne, ne_eq] at c9
        refine .seq ?_
        refine Wk.rg [0, 1, 2, 3] rfl rfl ?_
        refine mv rfl .no (.u rfl) ?_
        refine mv rfl .no (.u rfl) ?_
        refine arn (((P.length + (h - B.length)) : Nat) : Int) rfl .no (.u rfl) (.u rfl) rfl (fun _ => by omega) (fun _ => wrap_i64 (by omega) (by omega)) ?_
        refine asg rfl .no (.u rfl) ?_
        refine .nil ?_
        refine .code ?_
        refine Wk.rg [0, 1] rfl rfl ?_
        refine mv rfl .no (.u rfl) ?_
        refine asg rfl .no (.u rfl) ?_
        refine .nil ?_
        refine .code ?_
        refine .seq ?_
        refine Wk.rg [0, 1, 2] rfl rfl ?_
        refine mv rfl .no (.u rfl) ?_
        refine arn (((P.length + h + (P.length + A.length) - 1) : Nat) : Int) rfl .no (.u rfl) (.u rfl) rfl (fun _ => by omega) (fun _ => wrap_i64 (by omega) (by omega)) ?_
        refine asg rfl .no (.u rfl) ?_
        refine .nil ?_
        refine .code ?_
        refine .seq ?_
        refine .block ?_
        refine Wk.lop (α := Nat × Nat) (fun gh => [(20, true, .int .i64 ((P.length + gh.1 : Nat) : Int)), (21, true, .int .i64 ((P.length + gh.2 : Nat) : Int))]) (fun _ => [])
          (fun gh Gl => (h - B.length ≤ gh.1) ∧ (gh.1 ≤ gh.2) ∧ (gh.2 ≤ h) ∧ (gh.2 ≤ A.length) ∧ (gh.1 = h - B.length ∨ TL (ltv cv) (A.getD (gh.1 - 1) z0) (B.getD (h - gh.1) z0)) ∧ ((gh.2 = h ∨ gh.2 = A.length) ∨ TL (ltv cv) (B.getD (h - 1 - gh.2) z0) (A.getD gh.2 z0))) (fun gh => gh.2 - gh.1) (h - B.length, h) [(0, true, _), (1, true, _), (2, true, _), (3, true, _), (4, true, _), (18, true, _), (19, true, _), (22, true, _)] [_]
          (ESub.cons rfl (evi (by first | rfl | omega | (dsimp only; omega))) (ESub.cons rfl (evi (by first | rfl | omega | (dsimp only; omega))) (ESub.cons rfl rfl (ESub.cons rfl rfl (ESub.cons rfl rfl (ESub.cons rfl rfl (ESub.cons rfl rfl (ESub.cons rfl rfl (ESub.cons rfl rfl (ESub.cons rfl rfl ESub.nil))))))))))
          (MSub.cons .here rfl MSub.nil) ?_ ?_
        · refine ⟨?_, ?_, ?_, ?_, ?_, ?_⟩
          · (try dsimp only) <;> (first | omega | rfl | assumption | (simp; done))
          · (try dsimp only) <;> (first | omega | rfl | assumption | (simp; done))
          · (try dsimp only) <;> (first | omega | rfl | assumption | (simp; done))
          · (try dsimp only) <;> (first | omega | rfl | assumption | (simp; done))
          · (try dsimp only) <;> (exact .inl (by omega))
          · (try dsimp only) <;> (exact .inl (by omega))
        intro gh N4 Gl4 hN4 hGl4 hF4
        obtain ⟨s, r⟩ := gh; dsimp only at hF4 hN4 ⊢
        obtain ⟨h1, h2, h3, h4, f1, f2⟩ := hF4
        have hcm := hcm.mono hGl4
        have ih := ih.mono hGl4
        refine .seq ?_
        refine .seq ?_
        refine Wk.rg [0, 1, 2] rfl rfl ?_
        refine mv rfl .no (.u rfl) ?_
        refine mv rfl .no (.u rfl) ?_
        refine cp rfl .no (.u rfl) (.u rfl) rfl ?_
        refine .nil ?_
        refine .code ?_
        refine .cond rfl (fun c10 => ?_) (fun c10 => ?_)
        · have c10k := c10
          try simp only [decide_eq_true_eq, decide_eq_false_iff_not, Int.not_lt, Int.not_le, gt_iff_lt, ge_iff_le, Bool.or_eq_true, Bool.and_eq_true, Bool.or_eq_false_iff, Bool.and_eq_false_iff, Bool.not_eq_true', Bool.not_eq_false', Int.toNat_natCast, bne_iff_ne, beq_iff_eq, bne_eq_false_iff_eq, beq_eq_false_iff_ne, ne_eq] at c10
          refine .skip ?_
          refine .code ?_
          refine .block ?_
          refine .seq ?_
          refine Wk.rg [0, 1, 2, 3, 4, 5, 6] rfl rfl ?_
          refine mv rfl .no (.u rfl) ?_
          refine mv rfl .no (.u rfl) ?_
          refine arn (((((P.length + s : Nat)) + ((P.length + r : Nat))) : Nat) : Int) rfl .no (.u rfl) (.u rfl) rfl (fun _ => by omega) (fun _ => wrap_i64 (by omega) (by omega)) ?_
          refine cw rfl .no Fx.cv3_116 (.u rfl) (fun _ => wrap_u64 (by omega) (by omega)) ?_
          refine sr1 ((((P.length + s : Nat)) + ((P.length + r : Nat)))) rfl .no (.u rfl) (.u rfl) (by first | rfl | omega) rfl (by decide) ?_
          refine cw rfl .no Fx.cv116_3 (.u rfl) (fun _ => wrap_i64 (by omega) (by omega)) ?_
          refine asg rfl .no (.u rfl) ?_
          refine .nil ?_
          refine .code ?_
          refine .seq ?_
          obtain ⟨d, hd⟩ : ∃ d, ((P.length + s) + (P.length + r)) / 2 = P.length + d := ⟨(s + r) / 2, by omega⟩
          have hdq : s ≤ d ∧ d < r := by omega
          rw [hd]
          have hg := seg_a (P := P) (A := A) (B := B) (R := R) (i := d) (by omega)
          have hg0 := seg_b (P := P) (A := A) (B := B) (R := R) (i := h - 1 - d) (by omega)
          refine wk_rv .here (by omega) ?_; intro bbR capR evR lcR; subst evR
          refine Wk.draw (mc := ⟨false, false⟩) [0, 1, 2, 3, 4, 5, 6, 7, 8, 9, 10, 11, 12, 13] FxVeSa.mix (by kernel_rfl) ?_
          refine mv rfl .no (.u rfl) ?_
          refine mv rfl .no (.u rfl) ?_
          refine mv rfl .no (.u rfl) ?_
          refine mv rfl .no (.u rfl) ?_
          refine arn (((P.length + A.length + (h - 1 - d)) : Nat) : Int) rfl .no (.u rfl) (.u rfl) rfl (fun _ => by omega) (fun _ => wrap_i64 (by omega) (by omega)) ?_
          refine ia rfl .no FxVeSa.se22 (.u rfl) (.u rfl) (fun _ => by omega) (fun _ => by omega) ?_
          refine lA rfl .no FxVeSa.ag48 (.u rfl) (fun _ => RdN.rowS .here (fun _ _ => Meta.len _) (gd_at (z := Meta.zero) (k := (P.length + A.length + (h - 1 - d))) (by omega)) (by omega)) (fun _ => Meta.len _) ?_
          refine mv rfl .no (.u rfl) ?_
          refine mv rfl .no (.u rfl) ?_
          refine ia rfl .no FxVeSa.se22 (.u rfl) (.u rfl) (fun _ => by omega) (fun _ => by omega) ?_
          refine lA rfl .no FxVeSa.ag48 (.u rfl) (fun _ => RdN.rowS .here (fun _ _ => Meta.len _) (gd_at (z := Meta.zero) (k := (P.length + d)) (by omega)) (by omega)) (fun _ => Meta.len _) ?_
          refine kf rfl .no (.u rfl) hf (Eva.cons (.u rfl) (Eva.cons (.u rfl) Eva.nil)) (fun _ => hcm.ok _ (PM.le.refl _) _ _) ?_
          refine cp rfl .no (.u rfl) (.u rfl) rfl ?_
          refine nt rfl .no (.u rfl) ?_
          refine .nil ?_
          refine .code ?_
          refine .cond rfl (fun c11 => ?_) (fun c11 => ?_)
          · have c11k := c11
            try simp only [decide_eq_true_eq, decide_eq_false_iff_not, Int.not_lt, Int.not_le, gt_iff_lt, ge_iff_le, Bool.or_eq_true, Bool.and_eq_true, Bool.or_eq_false_iff, Bool.and_eq_false_iff, Bool.not_eq_true', Bool.not_eq_false', Int.toNat_natCast, bne_iff_ne, beq_iff_eq, bne_eq_false_iff_eq, beq_eq_false_iff_ne, ne_eq] at c11
            have hyes := ab_fore hw ht (i := d) (j := h - 1 - d) (by omega) (by omega) (by rw [← hg, ← hg0]; assumption)
            refine Wk.rg [0, 1, 2] rfl rfl ?_
            refine mv rfl .no (.u rfl) ?_
            refine arn ((((P.length + d) + 1) : Nat) : Int) rfl .no (.u rfl) (.u rfl) rfl (fun _ => by omega) (fun _ => wrap_i64 (by omega) (by omega)) ?_
            refine asg rfl .no (.u rfl) ?_
            refine .nil ?_
            refine .blk ?_
            refine We.lpo (d + 1, r) ?_ ?_ ?_ ?_ ?_
            · exact (ESub.cons rfl (evi (by first | rfl | omega | (dsimp only; omega))) (ESub.cons rfl (evi (by first | rfl | omega | (dsimp only; omega))) (ESub.cons rfl rfl (ESub.cons rfl rfl (ESub.cons rfl rfl (ESub.cons rfl rfl (ESub.cons rfl rfl (ESub.cons rfl rfl (ESub.cons rfl rfl (ESub.cons rfl rfl ESub.nil))))))))))
            · exact (MSub.cons .here rfl MSub.nil)
            · first | omega | (dsimp only; omega)
            · exact hGl4
            · refine ⟨?_, ?_, ?_, ?_, ?_, ?_⟩
              · (try dsimp only) <;> (first | omega | rfl | assumption | (simp; done))
              · (try dsimp only) <;> (first | omega | rfl | assumption | (simp; done))
              · (try dsimp only) <;> (first | omega | rfl | assumption | (simp; done))
              · (try dsimp only) <;> (first | omega | rfl | assumption | (simp; done))
              · (try dsimp only) <;> (exact .inr (by rw [show d + 1 - 1 = d by omega, show h - (d + 1) = h - 1 - d by omega]; exact hyes))
              · (try dsimp only) <;> (exact f2)
          · have c11k := c11
            try simp only [decide_eq_true_eq, decide_eq_false_iff_not, Int.not_lt, Int.not_le, gt_iff_lt, ge_iff_le, Bool.or_eq_true, Bool.and_eq_true, Bool.or_eq_false_iff, Bool.and_eq_false_iff, Bool.not_eq_true', Bool.not_eq_false', Int.toNat_natCast, bne_iff_ne, beq_iff_eq, bne_eq_false_iff_eq, beq_eq_false_iff_ne, ne_eq] at c11
            have hno := ab_back hw ht (i := d) (j := h - 1 - d) (by omega) (by omega) (by rw [← hg, ← hg0]; assumption)
            refine Wk.rg [0, 1] rfl rfl ?_
            refine mv rfl .no (.u rfl) ?_
            refine asg rfl .no (.u rfl) ?_
            refine .nil ?_
            refine .blk ?_
            refine We.lpo (s, d) ?_ ?_ ?_ ?_ ?_
            · exact (ESub.cons rfl (evi (by first | rfl | omega | (dsimp only; omega))) (ESub.cons rfl (evi (by first | rfl | omega | (dsimp only; omega))) (ESub.cons rfl rfl (ESub.cons rfl rfl (ESub.cons rfl rfl (ESub.cons rfl rfl (ESub.cons rfl rfl (ESub.cons rfl rfl (ESub.cons rfl rfl (ESub.cons rfl rfl ESub.nil))))))))))
            · exact (MSub.cons .here rfl MSub.nil)
            · first | omega | (dsimp only; omega)
            · exact hGl4
            · refine ⟨?_, ?_, ?_, ?_, ?_, ?_⟩
              · (try dsimp only) <;> (first | omega | rfl | assumption | (simp; done))
              · (try dsimp only) <;> (first | omega | rfl | assumption | (simp; done))
              · (try dsimp only) <;> (first | omega | rfl | assumption | (simp; done))
              · (try dsimp only) <;> (first | omega | rfl | assumption | (simp; done))
              · (try dsimp only) <;> (exact f1)
              · (try dsimp only) <;> (exact .inr hno)
        · have c10k := c10
          try simp only [decide_eq_true_eq, decide_eq_false_iff_not, Int.not_lt, Int.not_le, gt_iff_lt, ge_iff_le, Bool.or_eq_true, Bool.and_eq_true, Bool.or_eq_false_iff, Bool.and_eq_false_iff, Bool.not_eq_true', Bool.not_eq_false', Int.toNat_natCast, bne_iff_ne, beq_iff_eq, bne_eq_false_iff_eq, beq_eq_false_iff_ne, ne_eq] at c10
          refine .exit ?_
          refine .xcode ?_
          refine .xlp ?_
          refine .xblk ?_
          refine .code ?_
          refine .seq ?_
          obtain rfl : s = r := by omega
          have hcut := sym_cut hw sA sB h1 h3 h4 f1 f2
          refine Wk.rg [0, 1, 2, 3] rfl rfl ?_
          refine mv rfl .no (.u rfl) ?_
          refine mv rfl .no (.u rfl) ?_
          refine arn (((P.length + A.length + (h - s)) : Nat) : Int) rfl .no (.u rfl) (.u rfl) rfl (fun _ => by omega) (fun _ => wrap_i64 (by omega) (by omega)) ?_
          refine asg rfl .no (.u rfl) ?_
          refine .nil ?_
          refine .code ?_
          refine .seq ?_
          refine .seq ?_
          refine Wk.rg [0, 1, 2, 3, 4, 5, 6, 7] rfl rfl ?_
          refine mv rfl .no (.u rfl) ?_
          refine mv rfl .no (.u rfl) ?_
          refine cp rfl .no (.u rfl) (.u rfl) rfl ?_
          refine mv rfl .no (.u rfl) ?_
          refine mv rfl (.t rfl rfl) (.u rfl) ?_
          refine mv rfl (.t rfl rfl) (.u rfl) ?_
          refine cp rfl (.t rfl rfl) (.s rfl) (.s rfl) rfl ?_
          refine pkA rfl .no (.u rfl) (.s rfl) ?_
          refine .nil ?_
          refine .code ?_
          refine .cond rfl (fun c12 => ?_) (fun c12 => ?_)
          · have c12k := c12
            try simp only [decide_eq_true_eq, decide_eq_false_iff_not, Int.not_lt, Int.not_le, gt_iff_lt, ge_iff_le, Bool.or_eq_true, Bool.and_eq_true, Bool.or_eq_false_iff, Bool.and_eq_false_iff, Bool.not_eq_true', Bool.not_eq_false', Int.toNat_natCast, bne_iff_ne, beq_iff_eq, bne_eq_false_iff_eq, beq_eq_false_iff_ne, ne_eq] at c12
            refine Wk.rg [0, 1, 2, 3, 4, 5] rfl rfl ?_
            refine mv rfl .no (.u rfl) ?_
            refine mv rfl .no (.u rfl) ?_
            refine mv rfl .no (.u rfl) ?_
            refine mv rfl .no (.u rfl) ?_
            refine mv rfl .no (.u rfl) ?_
            refine ka rfl (.inr rfl) Fx.go77 (Eva.cons (.u rfl) (Eva.cons (.u rfl) (Eva.cons (.u rfl) (Eva.cons (.u rfl) (Eva.cons (.u rfl) Eva.nil))))) (mtk1 .here) (rotM_ok (ms (P ++ A.take s)) (ms (A.drop s)) (ms (B.take (h - s))) (ms (B.drop (h - s) ++ R)) _ _ _ _ _ _ (by simp only [ms_len, List.length_append, List.length_take, List.length_drop]; omega) (by simp only [ms_len, List.length_append, List.length_take, List.length_drop]; omega) (by simp only [ms_len, List.length_append, List.length_take, List.length_drop]; omega) (by simp only [ms_len, List.length_append, List.length_take, List.length_drop]; omega) (by simp only [ms_len, List.length_append, List.length_take, List.length_drop]; omega) _ sym_in (by rw [hlen]; omega)) ?_
            rintro _ G191 μ191 hG191 ⟨rfl, rfl⟩
            have hcm := hcm.mono hG191
            have ih := ih.mono hG191
            refine .nil ?_
            refine .code ?_
            refine .seq ?_
            refine .seq ?_
            rw [sym_rot (P := P) (A := A) (B := B) (R := R) (s := s) (q := h - s)]
            refine Wk.rg [0, 1, 2, 3, 4, 5, 6, 7] rfl rfl ?_
            refine mv rfl .no (.u rfl) ?_
            refine mv rfl .no (.u rfl) ?_
            refine cp rfl .no (.u rfl) (.u rfl) rfl ?_
            refine mv rfl .no (.u rfl) ?_
            refine mv rfl (.t rfl rfl) (.u rfl) ?_
            refine mv rfl (.t rfl rfl) (.u rfl) ?_
            refine cp rfl (.t rfl rfl) (.s rfl) (.s rfl) rfl ?_
            refine pkA rfl .no (.u rfl) (.s rfl) ?_
            refine .nil ?_
            refine .code ?_
            refine .cond rfl (fun c13 => ?_) (fun c13 => ?_)
            · have c13k := c13
              try simp only [decide_eq_true_eq, decide_eq_false_iff_not, Int.not_lt, Int.not_le, gt_iff_lt, ge_iff_le, Bool.or_eq_true, Bool.and_eq_true, Bool.or_eq_false_iff, Bool.and_eq_false_iff, Bool.not_eq_true', Bool.not_eq_false', Int.toNat_natCast, bne_iff_ne, beq_iff_eq, bne_eq_false_iff_eq, beq_eq_false_iff_ne, ne_eq] at c13
              refine Wk.rg [0, 1, 2, 3, 4, 5] rfl rfl ?_
              refine mv rfl .no (.u rfl) ?_
              refine mv rfl .no (.u rfl) ?_
              refine mv rfl .no (.u rfl) ?_
              refine mv rfl .no (.u rfl) ?_
              refine mv rfl .no (.u rfl) ?_
              refine ka rfl (.inr rfl) Fx.go76 (Eva.cons (.u rfl) (Eva.cons (.u rfl) (Eva.cons (.u rfl) (Eva.cons (.u rfl) (Eva.cons (.u rfl) Eva.nil))))) (mtk1 .here) (ih.ok _ (PM.le.refl _) P (A.take s) (B.take (h - s)) (A.drop s ++ B.drop (h - s) ++ R) _ _ _ _ (by first | omega | (simp only [List.length_append, List.length_take, List.length_drop] <;> omega)) (by first | omega | (simp only [List.length_append, List.length_take, List.length_drop] <;> omega)) (by first | omega | (simp only [List.length_append, List.length_take, List.length_drop] <;> omega)) (by first | omega | (simp only [List.length_append, List.length_take, List.length_drop] <;> omega)) (by first | omega | (simp only [List.length_append, List.length_take, List.length_drop] <;> omega)) (by first | omega | (simp only [List.length_append, List.length_take, List.length_drop] <;> omega)) (srt_parts sA s).1 (srt_parts sB (h - s)).1 (fun x hx y hy => ht x (List.mem_of_mem_take hx) y (List.mem_of_mem_take hy)) (by simp only [ms, List.map_append, List.append_assoc]) (by rw [ms_len]; simp only [List.length_append, List.length_take, List.length_drop]; omega)) ?_
              rintro _ G205 μ205 hG205 ⟨S205, p205, s205, rfl, rfl⟩
              have l205 := p205.length_eq; simp only [List.length_append, List.length_take, List.length_drop] at l205
              have hcm := hcm.mono hG205
              have ih := ih.mono hG205
              refine .nil ?_
              refine .code ?_
              refine .seq ?_
              refine Wk.rg [0, 1, 2, 3, 4, 5, 6, 7] rfl rfl ?_
              refine mv rfl .no (.u rfl) ?_
              refine mv rfl .no (.u rfl) ?_
              refine cp rfl .no (.u rfl) (.u rfl) rfl ?_
              refine mv rfl .no (.u rfl) ?_
              refine mv rfl (.t rfl rfl) (.u rfl) ?_
              refine mv rfl (.t rfl rfl) (.u rfl) ?_
              refine cp rfl (.t rfl rfl) (.s rfl) (.s rfl) rfl ?_
              refine pkA rfl .no (.u rfl) (.s rfl) ?_
              refine .nil ?_
              refine .code ?_
              refine .cond rfl (fun c14 => ?_) (fun c14 => ?_)
              · have c14k := c14
                try simp only [decide_eq_true_eq, decide_eq_false_iff_not, Int.not_lt, Int.not_le, gt_iff_lt, ge_iff_le, Bool.or_eq_true, Bool.and_eq_true, Bool.or_eq_false_iff, Bool.and_eq_false_iff, Bool.not_eq_true', Bool.not_eq_false', Int.toNat_natCast, bne_iff_ne, beq_iff_eq, bne_eq_false_iff_eq, beq_eq_false_iff_ne, ne_eq] at c14
                refine Wk.rg [0, 1, 2, 3, 4, 5] rfl rfl ?_
                refine mv rfl .no (.u rfl) ?_
                refine mv rfl .no (.u rfl) ?_
                refine mv rfl .no (.u rfl) ?_
                refine mv rfl .no (.u rfl) ?_
                refine mv rfl .no (.u rfl) ?_
                refine ka rfl (.inr rfl) Fx.go76 (Eva.cons (.u rfl) (Eva.cons (.u rfl) (Eva.cons (.u rfl) (Eva.cons (.u rfl) (Eva.cons (.u rfl) Eva.nil))))) (mtk1 .here) (ih.ok _ (PM.le.refl _) (P ++ S205) (A.drop s) (B.drop (h - s)) R _ _ _ _ (by first | omega | (simp only [List.length_append, List.length_take, List.length_drop] <;> omega)) (by first | omega | (simp only [List.length_append, List.length_take, List.length_drop] <;> omega)) (by first | omega | (simp only [List.length_append, List.length_take, List.length_drop] <;> omega)) (by first | omega | (simp only [List.length_append, List.length_take, List.length_drop] <;> omega)) (by first | omega | (simp only [List.length_append, List.length_take, List.length_drop] <;> omega)) (by first | omega | (simp only [List.length_append, List.length_take, List.length_drop] <;> omega)) (srt_parts sA s).2.1 (srt_parts sB (h - s)).2.1 (fun x hx y hy => ht x (List.mem_of_mem_drop hx) y (List.mem_of_mem_drop hy)) (by simp only [ms, List.map_append, List.append_assoc]) (by rw [ms_len]; simp only [List.length_append, List.length_take, List.length_drop]; omega)) ?_
                rintro _ G219 μ219 hG219 ⟨S219, p219, s219, rfl, rfl⟩
                have l219 := p219.length_eq; simp only [List.length_append, List.length_take, List.length_drop] at l219
                have hcm := hcm.mono hG219
                have ih := ih.mono hG219
                refine .nil ?_
                refine .nil ?_
                refine We.fin Try.results76 .nil (MSub.cons .here rfl MSub.nil) ?_
                have hq1 : s ≤ h := by omega
                obtain ⟨a1, a2, _⟩ := srt_parts sA s
                obtain ⟨b1, b2, _⟩ := srt_parts sB (h - s)
                have p1 := p205; have s1 := s205
                have p2 := p219; have s2 := s219
                obtain ⟨q1, q2⟩ := sym_fin hcut p1 s1 p2 s2
                exact ⟨_, q1, q2, by simp only [ms, List.map_append, List.append_assoc], rfl⟩
              · have c14k := c14
                try simp only [decide_eq_true_eq, decide_eq_false_iff_not, Int.not_lt, Int.not_le, gt_iff_lt, ge_iff_le, Bool.or_eq_true, Bool.and_eq_true, Bool.or_eq_false_iff, Bool.and_eq_false_iff, Bool.not_eq_true', Bool.not_eq_false', Int.toNat_natCast, bne_iff_ne, beq_iff_eq, bne_eq_false_iff_eq, beq_eq_false_iff_ne, ne_eq] at c14
                refine .skip ?_
                refine .nil ?_
                refine We.fin Try.results76 .nil (MSub.cons .here rfl MSub.nil) ?_
                have hq1 : s ≤ h := by omega
                obtain ⟨a1, a2, _⟩ := srt_parts sA s
                obtain ⟨b1, b2, _⟩ := srt_parts sB (h - s)
                have p1 := p205; have s1 := s205
                have p2 := List.Perm.refl (A.drop s ++ B.drop (h - s))
                have s2 := half_srt a2 b2 (by simp only [List.length_drop]; omega)
                obtain ⟨q1, q2⟩ := sym_fin hcut p1 s1 p2 s2
                exact ⟨_, q1, q2, by simp only [ms, List.map_append, List.append_assoc], rfl⟩
            · have c13k := c13
              try simp only [decide_eq_true_eq, decide_eq_false_iff_not, Int.not_lt, Int.not_le, gt_iff_lt, ge_iff_le, Bool.or_eq_true, Bool.and_eq_true, Bool.or_eq_false_iff, Bool.and_eq_false_iff, Bool.not_eq_true', Bool.not_eq_false', Int.toNat_natCast, bne_iff_ne, beq_iff_eq, bne_eq_false_iff_eq, beq_eq_false_iff_ne, ne_eq] at c13
              refine .skip ?_
              refine .code ?_
              refine .seq ?_
              refine Wk.rg [0, 1, 2, 3, 4, 5, 6, 7] rfl rfl ?_
              refine mv rfl .no (.u rfl) ?_
              refine mv rfl .no (.u rfl) ?_
              refine cp rfl .no (.u rfl) (.u rfl) rfl ?_
              refine mv rfl .no (.u rfl) ?_
              refine mv rfl (.t rfl rfl) (.u rfl) ?_
              refine mv rfl (.t rfl rfl) (.u rfl) ?_
              refine cp rfl (.t rfl rfl) (.s rfl) (.s rfl) rfl ?_
              refine pkA rfl .no (.u rfl) (.s rfl) ?_
              refine .nil ?_
              refine .code ?_
              refine .cond rfl (fun c15 => ?_) (fun c15 => ?_)
              · have c15k := c15
                try simp only [decide_eq_true_eq, decide_eq_false_iff_not, Int.not_lt, Int.not_le, gt_iff_lt, ge_iff_le, Bool.or_eq_true, Bool.and_eq_true, Bool.or_eq_false_iff, Bool.and_eq_false_iff, Bool.not_eq_true', Bool.not_eq_false', Int.toNat_natCast, bne_iff_ne, beq_iff_eq, bne_eq_false_iff_eq, beq_eq_false_iff_ne, ne_eq] at c15
                refine Wk.rg [0, 1, 2, 3, 4, 5] rfl rfl ?_
                refine mv rfl .no (.u rfl) ?_
                refine mv rfl .no (.u rfl) ?_
                refine mv rfl .no (.u rfl) ?_
                refine mv rfl .no (.u rfl) ?_
                refine mv rfl .no (.u rfl) ?_
                refine ka rfl (.inr rfl) Fx.go76 (Eva.cons (.u rfl) (Eva.cons (.u rfl) (Eva.cons (.u rfl) (Eva.cons (.u rfl) (Eva.cons (.u rfl) Eva.nil))))) (mtk1 .here) (ih.ok _ (PM.le.refl _) (P ++ (A.take s ++ B.take (h - s))) (A.drop s) (B.drop (h - s)) R _ _ _ _ (by first | omega | (simp only [List.length_append, List.length_take, List.length_drop] <;> omega)) (by first | omega | (simp only [List.length_append, List.length_take, List.length_drop] <;> omega)) (by first | omega | (simp only [List.length_append, List.length_take, List.length_drop] <;> omega)) (by first | omega | (simp only [List.length_append, List.length_take, List.length_drop] <;> omega)) (by first | omega | (simp only [List.length_append, List.length_take, List.length_drop] <;> omega)) (by first | omega | (simp only [List.length_append, List.length_take, List.length_drop] <;> omega)) (srt_parts sA s).2.1 (srt_parts sB (h - s)).2.1 (fun x hx y hy => ht x (List.mem_of_mem_drop hx) y (List.mem_of_mem_drop hy)) (by simp only [ms, List.map_append, List.append_assoc]) (by rw [ms_len]; simp only [List.length_append, List.length_take, List.length_drop]; omega)) ?_
                rintro _ G219 μ219 hG219 ⟨S219, p219, s219, rfl, rfl⟩
                have l219 := p219.length_eq; simp only [List.length_append, List.length_take, List.length_drop] at l219
                have hcm := hcm.mono hG219
                have ih := ih.mono hG219
                refine .nil ?_
                refine .nil ?_
                refine We.fin Try.results76 .nil (MSub.cons .here rfl MSub.nil) ?_
                have hq1 : s ≤ h := by omega
                obtain ⟨a1, a2, _⟩ := srt_parts sA s
                obtain ⟨b1, b2, _⟩ := srt_parts sB (h - s)
                have p1 := List.Perm.refl (A.take s ++ B.take (h - s))
                have s1 := half_srt a1 b1 (by simp only [List.length_take]; omega)
                have p2 := p219; have s2 := s219
                obtain ⟨q1, q2⟩ := sym_fin hcut p1 s1 p2 s2
                exact ⟨_, q1, q2, by simp only [ms, List.map_append, List.append_assoc], rfl⟩
              · have c15k := c15
                try simp only [decide_eq_true_eq, decide_eq_false_iff_not, Int.not_lt, Int.not_le, gt_iff_lt, ge_iff_le, Bool.or_eq_true, Bool.and_eq_true, Bool.or_eq_false_iff, Bool.and_eq_false_iff, Bool.not_eq_true', Bool.not_eq_false', Int.toNat_natCast, bne_iff_ne, beq_iff_eq, bne_eq_false_iff_eq, beq_eq_false_iff_ne, ne_eq] at c15
                refine .skip ?_
                refine .nil ?_
                refine We.fin Try.results76 .nil (MSub.cons .here rfl MSub.nil) ?_
                have hq1 : s ≤ h := by omega
                obtain ⟨a1, a2, _⟩ := srt_parts sA s
                obtain ⟨b1, b2, _⟩ := srt_parts sB (h - s)
                have p1 := List.Perm.refl (A.take s ++ B.take (h - s))
                have s1 := half_srt a1 b1 (by simp only [List.length_take]; omega)
                have p2 := List.Perm.refl (A.drop s ++ B.drop (h - s))
                have s2 := half_srt a2 b2 (by simp only [List.length_drop]; omega)
                obtain ⟨q1, q2⟩ := sym_fin hcut p1 s1 p2 s2
                exact ⟨_, q1, q2, by simp only [ms, List.map_append, List.append_assoc], rfl⟩
          · have c12k := c12
            try simp only [decide_eq_true_eq, decide_eq_false_iff_not, Int.not_lt, Int.not_le, gt_iff_lt, ge_iff_le, Bool.or_eq_true, Bool.and_eq_true, Bool.or_eq_false_iff, Bool.and_eq_false_iff, Bool.not_eq_true', Bool.not_eq_false', Int.toNat_natCast, bne_iff_ne, beq_iff_eq, bne_eq_false_iff_eq, beq_eq_false_iff_ne, ne_eq] at c12
            refine .skip ?_
            refine .code ?_
            refine .seq ?_
            refine .seq ?_
            rw [sym_norot (P := P) (A := A) (B := B) (R := R) (s := s) (q := h - s) (by omega)]
            refine Wk.rg [0, 1, 2, 3, 4, 5, 6, 7] rfl rfl ?_
            refine mv rfl .no (.u rfl) ?_
            refine mv rfl .no (.u rfl) ?_
            refine cp rfl .no (.u rfl) (.u rfl) rfl ?_
            refine mv rfl .no (.u rfl) ?_
            refine mv rfl (.t rfl rfl) (.u rfl) ?_
            refine mv rfl (.t rfl rfl) (.u rfl) ?_
            refine cp rfl (.t rfl rfl) (.s rfl) (.s rfl) rfl ?_
            refine pkA rfl .no (.u rfl) (.s rfl) ?_
            refine .nil ?_
            refine .code ?_
            refine .cond rfl (fun c16 => ?_) (fun c16 => ?_)
            · have c16k := c16
              try simp only [decide_eq_true_eq, decide_eq_false_iff_not, Int.not_lt, Int.not_le, gt_iff_lt, ge_iff_le, Bool.or_eq_true, Bool.and_eq_true, Bool.or_eq_false_iff, Bool.and_eq_false_iff, Bool.not_eq_true', Bool.not_eq_false', Int.toNat_natCast, bne_iff_ne, beq_iff_eq, bne_eq_false_iff_eq, beq_eq_false_iff_ne, ne_eq] at c16
              refine Wk.rg [0, 1, 2, 3, 4, 5] rfl rfl ?_
              refine mv rfl .no (.u rfl) ?_
              refine mv rfl .no (.u rfl) ?_
              refine mv rfl .no (.u rfl) ?_
              refine mv rfl .no (.u rfl) ?_
              refine mv rfl .no (.u rfl) ?_
              refine ka rfl (.inr rfl) Fx.go76 (Eva.cons (.u rfl) (Eva.cons (.u rfl) (Eva.cons (.u rfl) (Eva.cons (.u rfl) (Eva.cons (.u rfl) Eva.nil))))) (mtk1 .here) (ih.ok _ (PM.le.refl _) P (A.take s) (B.take (h - s)) (A.drop s ++ B.drop (h - s) ++ R) _ _ _ _ (by first | omega | (simp only [List.length_append, List.length_take, List.length_drop] <;> omega)) (by first | omega | (simp only [List.length_append, List.length_take, List.length_drop] <;> omega)) (by first | omega | (simp only [List.length_append, List.length_take, List.length_drop] <;> omega)) (by first | omega | (simp only [List.length_append, List.length_take, List.length_drop] <;> omega)) (by first | omega | (simp only [List.length_append, List.length_take, List.length_drop] <;> omega)) (by first | omega | (simp only [List.length_append, List.length_take, List.length_drop] <;> omega)) (srt_parts sA s).1 (srt_parts sB (h - s)).1 (fun x hx y hy => ht x (List.mem_of_mem_take hx) y (List.mem_of_mem_take hy)) (by simp only [ms, List.map_append, List.append_assoc]) (by rw [ms_len]; simp only [List.length_append, List.length_take, List.length_drop]; omega)) ?_
              rintro _ G205 μ205 hG205 ⟨S205, p205, s205, rfl, rfl⟩
              have l205 := p205.length_eq; simp only [List.length_append, List.length_take, List.length_drop] at l205
              have hcm := hcm.mono hG205
              have ih := ih.mono hG205
              refine .nil ?_
              refine .code ?_
              refine .seq ?_
              refine Wk.rg [0, 1, 2, 3, 4, 5, 6, 7] rfl rfl ?_
              refine mv rfl .no (.u rfl) ?_
              refine mv rfl .no (.u rfl) ?_
              refine cp rfl .no (.u rfl) (.u rfl) rfl ?_
              refine mv rfl .no (.u rfl) ?_
              refine mv rfl (.t rfl rfl) (.u rfl) ?_
              refine mv rfl (.t rfl rfl) (.u rfl) ?_
              refine cp rfl (.t rfl rfl) (.s rfl) (.s rfl) rfl ?_
              refine pkA rfl .no (.u rfl) (.s rfl) ?_
              refine .nil ?_
              refine .code ?_
              refine .cond rfl (fun c17 => ?_) (fun c17 => ?_)
              · have c17k := c17
                try simp only [decide_eq_true_eq, decide_eq_false_iff_not, Int.not_lt, Int.not_le, gt_iff_lt, ge_iff_le, Bool.or_eq_true, Bool.and_eq_true, Bool.or_eq_false_iff, Bool.and_eq_false_iff, Bool.not_eq_true', Bool.not_eq_false', Int.toNat_natCast, bne_iff_ne, beq_iff_eq, bne_eq_false_iff_eq, beq_eq_false_iff_ne, ne_eq] at c17
                refine Wk.rg [0, 1, 2, 3, 4, 5] rfl rfl ?_
                refine mv rfl .no (.u rfl) ?_
                refine mv rfl .no (.u rfl) ?_
                refine mv rfl .no (.u rfl) ?_
                refine mv rfl .no (.u rfl) ?_
                refine mv rfl .no (.u rfl) ?_
                refine ka rfl (.inr rfl) Fx.go76 (Eva.cons (.u rfl) (Eva.cons (.u rfl) (Eva.cons (.u rfl) (Eva.cons (.u rfl) (Eva.cons (.u rfl) Eva.nil))))) (mtk1 .here) (ih.ok _ (PM.le.refl _) (P ++ S205) (A.drop s) (B.drop (h - s)) R _ _ _ _ (by first | omega | (simp only [List.length_append, List.length_take, List.length_drop] <;> omega)) (by first | omega | (simp only [List.length_append, List.length_take, List.length_drop] <;> omega)) (by first | omega | (simp only [List.length_append, List.length_take, List.length_drop] <;> omega)) (by first | omega | (simp only [List.length_append, List.length_take, List.length_drop] <;> omega)) (by first | omega | (simp only [List.length_append, List.length_take, List.length_drop] <;> omega)) (by first | omega | (simp only [List.length_append, List.length_take, List.length_drop] <;> omega)) (srt_parts sA s).2.1 (srt_parts sB (h - s)).2.1 (fun x hx y hy => ht x (List.mem_of_mem_drop hx) y (List.mem_of_mem_drop hy)) (by simp only [ms, List.map_append, List.append_assoc]) (by rw [ms_len]; simp only [List.length_append, List.length_take, List.length_drop]; omega)) ?_
                rintro _ G219 μ219 hG219 ⟨S219, p219, s219, rfl, rfl⟩
                have l219 := p219.length_eq; simp only [List.length_append, List.length_take, List.length_drop] at l219
                have hcm := hcm.mono hG219
                have ih := ih.mono hG219
                refine .nil ?_
                refine .nil ?_
                refine We.fin Try.results76 .nil (MSub.cons .here rfl MSub.nil) ?_
                have hq1 : s ≤ h := by omega
                obtain ⟨a1, a2, _⟩ := srt_parts sA s
                obtain ⟨b1, b2, _⟩ := srt_parts sB (h - s)
                have p1 := p205; have s1 := s205
                have p2 := p219; have s2 := s219
                obtain ⟨q1, q2⟩ := sym_fin hcut p1 s1 p2 s2
                exact ⟨_, q1, q2, by simp only [ms, List.map_append, List.append_assoc], rfl⟩
              · have c17k := c17
                try simp only [decide_eq_true_eq, decide_eq_false_iff_not, Int.not_lt, Int.not_le, gt_iff_lt, ge_iff_le, Bool.or_eq_true, Bool.and_eq_true, Bool.or_eq_false_iff, Bool.and_eq_false_iff, Bool.not_eq_true', Bool.not_eq_false', Int.toNat_natCast, bne_iff_ne, beq_iff_eq, bne_eq_false_iff_eq, beq_eq_false_iff_ne, ne_eq] at c17
                refine .skip ?_
                refine .nil ?_
                refine We.fin Try.results76 .nil (MSub.cons .here rfl MSub.nil) ?_
                have hq1 : s ≤ h := by omega
                obtain ⟨a1, a2, _⟩ := srt_parts sA s
                obtain ⟨b1, b2, _⟩ := srt_parts sB (h - s)
                have p1 := p205; have s1 := s205
                have p2 := List.Perm.refl (A.drop s ++ B.drop (h - s))
                have s2 := half_srt a2 b2 (by simp only [List.length_drop]; omega)
                obtain ⟨q1, q2⟩ := sym_fin hcut p1 s1 p2 s2
                exact ⟨_, q1, q2, by simp only [ms, List.map_append, List.append_assoc], rfl⟩
            · have c16k := c16
              try simp only [decide_eq_true_eq, decide_eq_false_iff_not, Int.not_lt, Int.not_le, gt_iff_lt, ge_iff_le, Bool.or_eq_true, Bool.and_eq_true, Bool.or_eq_false_iff, Bool.and_eq_false_iff, Bool.not_eq_true', Bool.not_eq_false', Int.toNat_natCast, bne_iff_ne, beq_iff_eq, bne_eq_false_iff_eq, beq_eq_false_iff_ne, ne_eq] at c16
              refine .skip ?_
              refine .code ?_
              refine .seq ?_
              refine Wk.rg [0, 1, 2, 3, 4, 5, 6, 7] rfl rfl ?_
              refine mv rfl .no (.u rfl) ?_
              refine mv rfl .no (.u rfl) ?_
              refine cp rfl .no (.u rfl) (.u rfl) rfl ?_
              refine mv rfl .no (.u rfl) ?_
              refine mv rfl (.t rfl rfl) (.u rfl) ?_
              refine mv rfl (.t rfl rfl) (.u rfl) ?_
              refine cp rfl (.t rfl rfl) (.s rfl) (.s rfl) rfl ?_
              refine pkA rfl .no (.u rfl) (.s rfl) ?_
              refine .nil ?_
              refine .code ?_
              refine .cond rfl (fun c18 => ?_) (fun c18 => ?_)
              · have c18k := c18
                try simp only [decide_eq_true_eq, decide_eq_false_iff_not, Int.not_lt, Int.not_le, gt_iff_lt, ge_iff_le, Bool.or_eq_true, Bool.and_eq_true, Bool.or_eq_false_iff, Bool.and_eq_false_iff, Bool.not_eq_true', Bool.not_eq_false', Int.toNat_natCast, bne_iff_ne, beq_iff_eq, bne_eq_false_iff_eq, beq_eq_false_iff_ne, ne_eq] at c18
                refine Wk.rg [0, 1, 2, 3, 4, 5] rfl rfl ?_
                refine mv rfl .no (.u rfl) ?_
                refine mv rfl .no (.u rfl) ?_
                refine mv rfl .no (.u rfl) ?_
                refine mv rfl .no (.u rfl) ?_
                refine mv rfl .no (.u rfl) ?_
                refine ka rfl (.inr rfl) Fx.go76 (Eva.cons (.u rfl) (Eva.cons (.u rfl) (Eva.cons (.u rfl) (Eva.cons (.u rfl) (Eva.cons (.u rfl) Eva.nil))))) (mtk1 .here) (ih.ok _ (PM.le.refl _) (P ++ (A.take s ++ B.take (h - s))) (A.drop s) (B.drop (h - s)) R _ _ _ _ (by first | omega | (simp only [List.length_append, List.length_take, List.length_drop] <;> omega)) (by first | omega | (simp only [List.length_append, List.length_take, List.length_drop] <;> omega)) (by first | omega | (simp only [List.length_append, List.length_take, List.length_drop] <;> omega)) (by first | omega | (simp only [List.length_append, List.length_take, List.length_drop] <;> omega)) (by first | omega | (simp only [List.length_append, List.length_take, List.length_drop] <;> omega)) (by first | omega | (simp only [List.length_append, List.length_take, List.length_drop] <;> omega)) (srt_parts sA s).2.1 (srt_parts sB (h - s)).2.1 (fun x hx y hy => ht x (List.mem_of_mem_drop hx) y (List.mem_of_mem_drop hy)) (by simp only [ms, List.map_append, List.append_assoc]) (by rw [ms_len]; simp only [List.length_append, List.length_take, List.length_drop]; omega)) ?_
                rintro _ G219 μ219 hG219 ⟨S219, p219, s219, rfl, rfl⟩
                have l219 := p219.length_eq; simp only [List.length_append, List.length_take, List.length_drop] at l219
                have hcm := hcm.mono hG219
                have ih := ih.mono hG219
                refine .nil ?_
                refine .nil ?_
                refine We.fin Try.results76 .nil (MSub.cons .here rfl MSub.nil) ?_
                have hq1 : s ≤ h := by omega
                obtain ⟨a1, a2, _⟩ := srt_parts sA s
                obtain ⟨b1, b2, _⟩ := srt_parts sB (h - s)
                have p1 := List.Perm.refl (A.take s ++ B.take (h - s))
                have s1 := half_srt a1 b1 (by simp only [List.length_take]; omega)
                have p2 := p219; have s2 := s219
                obtain ⟨q1, q2⟩ := sym_fin hcut p1 s1 p2 s2
                exact ⟨_, q1, q2, by simp only [ms, List.map_append, List.append_assoc], rfl⟩
              · have c18k := c18
                try simp only [decide_eq_true_eq, decide_eq_false_iff_not, Int.not_lt, Int.not_le, gt_iff_lt, ge_iff_le, Bool.or_eq_true, Bool.and_eq_true, Bool.or_eq_false_iff, Bool.and_eq_false_iff, Bool.not_eq_true', Bool.not_eq_false', Int.toNat_natCast, bne_iff_ne, beq_iff_eq, bne_eq_false_iff_eq, beq_eq_false_iff_ne, ne_eq] at c18
                refine .skip ?_
                refine .nil ?_
                refine We.fin Try.results76 .nil (MSub.cons .here rfl MSub.nil) ?_
                have hq1 : s ≤ h := by omega
                obtain ⟨a1, a2, _⟩ := srt_parts sA s
                obtain ⟨b1, b2, _⟩ := srt_parts sB (h - s)
                have p1 := List.Perm.refl (A.take s ++ B.take (h - s))
                have s1 := half_srt a1 b1 (by simp only [List.length_take]; omega)
                have p2 := List.Perm.refl (A.drop s ++ B.drop (h - s))
                have s2 := half_srt a2 b2 (by simp only [List.length_drop]; omega)
                obtain ⟨q1, q2⟩ := sym_fin hcut p1 s1 p2 s2
                exact ⟨_, q1, q2, by simp only [ms, List.map_append, List.append_assoc], rfl⟩
      · have c9k := c9
        try simp only [decide_eq_true_eq, decide_eq_false_iff_not, Int.not_lt, Int.not_le, gt_iff_lt, ge_iff_le, Bool.or_eq_true, Bool.and_eq_true, Bool.or_eq_false_iff, Bool.and_eq_false_iff, Bool.not_eq_true', Bool.not_eq_false', Int.toNat_natCast, bne_iff_ne, beq_iff_eq, bne_eq_false_iff_eq, beq_eq_false_iff_ne, ne_eq] at c9
        refine .seq ?_
        refine Wk.rg [0, 1] rfl rfl ?_
        refine mv rfl .no (.u rfl) ?_
        refine asg rfl .no (.u rfl) ?_
        refine .nil ?_
        refine .code ?_
        refine Wk.rg [0, 1] rfl rfl ?_
        refine mv rfl .no (.u rfl) ?_
        refine asg rfl .no (.u rfl) ?_
        refine .nil ?_
        refine .code ?_
        refine .seq ?_
        refine Wk.rg [0, 1, 2] rfl rfl ?_
        refine mv rfl .no (.u rfl) ?_
        refine arn (((P.length + h + (P.length + A.length) - 1) : Nat) : Int) rfl .no (.u rfl) (.u rfl) rfl (fun _ => by omega) (fun _ => wrap_i64 (by omega) (by omega)) ?_
        refine asg rfl .no (.u rfl) ?_
        refine .nil ?_
        refine .code ?_
        refine .seq ?_
        refine .block ?_
        refine Wk.lop (α := Nat × Nat) (fun gh => [(20, true, .int .i64 ((P.length + gh.1 : Nat) : Int)), (21, true, .int .i64 ((P.length + gh.2 : Nat) : Int))]) (fun _ => [])
          (fun gh Gl => (h - B.length ≤ gh.1) ∧ (gh.1 ≤ gh.2) ∧ (gh.2 ≤ h) ∧ (gh.2 ≤ A.length) ∧ (gh.1 = h - B.length ∨ TL (ltv cv) (A.getD (gh.1 - 1) z0) (B.getD (h - gh.1) z0)) ∧ ((gh.2 = h ∨ gh.2 = A.length) ∨ TL (ltv cv) (B.getD (h - 1 - gh.2) z0) (A.getD gh.2 z0))) (fun gh => gh.2 - gh.1) (0, A.length) [(0, true, _), (1, true, _), (2, true, _), (3, true, _), (4, true, _), (18, true, _), (19, true, _), (22, true, _)] [_]
          (ESub.cons rfl (evi (by first | rfl | omega | (dsimp only; omega))) (ESub.cons rfl (evi (by first | rfl | omega | (dsimp only; omega))) (ESub.cons rfl rfl (ESub.cons rfl rfl (ESub.cons rfl rfl (ESub.cons rfl rfl (ESub.cons rfl rfl (ESub.cons rfl rfl (ESub.cons rfl rfl (ESub.cons rfl rfl ESub.nil))))))))))
          (MSub.cons .here rfl MSub.nil) ?_ ?_
        · refine ⟨?_, ?_, ?_, ?_, ?_, ?_⟩
          · (try dsimp only) <;> (first | omega | rfl | assumption | (simp; done))
          · (try dsimp only) <;> (first | omega | rfl | assumption | (simp; done))
          · (try dsimp only) <;> (first | omega | rfl | assumption | (simp; done))
          · (try dsimp only) <;> (first | omega | rfl | assumption | (simp; done))
          · (try dsimp only) <;> (exact .inl (by omega))
          · (try dsimp only) <;> (exact .inl (by omega))
        intro gh N5 Gl5 hN5 hGl5 hF5
        obtain ⟨s, r⟩ := gh; dsimp only at hF5 hN5 ⊢
        obtain ⟨h1, h2, h3, h4, f1, f2⟩ := hF5
        have hcm := hcm.mono hGl5
        have ih := ih.mono hGl5
        refine .seq ?_
        refine .seq ?_
        refine Wk.rg [0, 1, 2] rfl rfl ?_
        refine mv rfl .no (.u rfl) ?_
        refine mv rfl .no (.u rfl) ?_
        refine cp rfl .no (.u rfl) (.u rfl) rfl ?_
        refine .nil ?_
        refine .code ?_
        refine .cond rfl (fun c19 => ?_) (fun c19 => ?_)
        · have c19k := c19
          try simp only [decide_eq_true_eq, decide_eq_false_iff_not, Int.not_lt, Int.not_le, gt_iff_lt, ge_iff_le, Bool.or_eq_true, Bool.and_eq_true, Bool.or_eq_false_iff, Bool.and_eq_false_iff, Bool.not_eq_true', Bool.not_eq_false', Int.toNat_natCast, bne_iff_ne, beq_iff_eq, bne_eq_false_iff_eq, beq_eq_false_iff_ne, ne_eq] at c19
          refine .skip ?_
          refine .code ?_
          refine .block ?_
          refine .seq ?_
          refine Wk.rg [0, 1, 2, 3, 4, 5, 6] rfl rfl ?_
          refine mv rfl .no (.u rfl) ?_
          refine mv rfl .no (.u rfl) ?_
          refine arn (((((P.length + s : Nat)) + ((P.length + r : Nat))) : Nat) : Int) rfl .no (.u rfl) (.u rfl) rfl (fun _ => by omega) (fun _ => wrap_i64 (by omega) (by omega)) ?_
          refine cw rfl .no Fx.cv3_116 (.u rfl) (fun _ => wrap_u64 (by omega) (by omega)) ?_
          refine sr1 ((((P.length + s : Nat)) + ((P.length + r : Nat)))) rfl .no (.u rfl) (.u rfl) (by first | rfl | omega) rfl (by decide) ?_
          refine cw rfl .no Fx.cv116_3 (.u rfl) (fun _ => wrap_i64 (by omega) (by omega)) ?_
          refine asg rfl .no (.u rfl) ?_
          refine .nil ?_
          refine .code ?_
          refine .seq ?_
          obtain ⟨d, hd⟩ : ∃ d, ((P.length + s) + (P.length + r)) / 2 = P.length + d := ⟨(s + r) / 2, by omega⟩
          have hdq : s ≤ d ∧ d < r := by omega
          rw [hd]
          have hg := seg_a (P := P) (A := A) (B := B) (R := R) (i := d) (by omega)
          have hg0 := seg_b (P := P) (A := A) (B := B) (R := R) (i := h - 1 - d) (by omega)
          refine wk_rv .here (by omega) ?_; intro bbR capR evR lcR; subst evR
          refine Wk.draw (mc := ⟨false, false⟩) [0, 1, 2, 3, 4, 5, 6, 7, 8, 9, 10, 11, 12, 13] FxVeSa.mix (by kernel_rfl) ?_
          refine mv rfl .no (.u rfl) ?_
          refine mv rfl .no (.u rfl) ?_
          refine mv rfl .no (.u rfl) ?_
          refine mv rfl .no (.u rfl) ?_
          refine arn (((P.length + A.length + (h - 1 - d)) : Nat) : Int) rfl .no (.u rfl) (.u rfl) rfl (fun _ => by omega) (fun _ => wrap_i64 (by omega) (by omega)) ?_
          refine ia rfl .no FxVeSa.se22 (.u rfl) (.u rfl) (fun _ => by omega) (fun _ => by omega) ?_
          refine lA rfl .no FxVeSa.ag48 (.u rfl) (fun _ => RdN.rowS .here (fun _ _ => Meta.len _) (gd_at (z := Meta.zero) (k := (P.length + A.length + (h - 1 - d))) (by omega)) (by omega)) (fun _ => Meta.len _) ?_
          refine mv rfl .no (.u rfl) ?_
          refine mv rfl .no (.u rfl) ?_
          refine ia rfl .no FxVeSa.se22 (.u rfl) (.u rfl) (fun _ => by omega) (fun _ => by omega) ?_
          refine lA rfl .no FxVeSa.ag48 (.u rfl) (fun _ => RdN.rowS .here (fun _ _ => Meta.len _) (gd_at (z := Meta.zero) (k := (P.length + d)) (by omega)) (by omega)) (fun _ => Meta.len _) ?_
          refine kf rfl .no (.u rfl) hf (Eva.cons (.u rfl) (Eva.cons (.u rfl) Eva.nil)) (fun _ => hcm.ok _ (PM.le.refl _) _ _) ?_
          refine cp rfl .no (.u rfl) (.u rfl) rfl ?_
          refine nt rfl .no (.u rfl) ?_
          refine .nil ?_
          refine .code ?_
          refine .cond rfl (fun c20 => ?_) (fun c20 => ?_)
          · have c20k := c20
            try simp only [decide_eq_true_eq, decide_eq_false_iff_not, Int.not_lt, Int.not_le, gt_iff_lt, ge_iff_le, Bool.or_eq_true, Bool.and_eq_true, Bool.or_eq_false_iff, Bool.and_eq_false_iff, Bool.not_eq_true', Bool.not_eq_false', Int.toNat_natCast, bne_iff_ne, beq_iff_eq, bne_eq_false_iff_eq, beq_eq_false_iff_ne, ne_eq] at c20
            have hyes := ab_fore hw ht (i := d) (j := h - 1 - d) (by omega) (by omega) (by rw [← hg, ← hg0]; assumption)
            refine Wk.rg [0, 1, 2] rfl rfl ?_
            refine mv rfl .no (.u rfl) ?_
            refine arn ((((P.length + d) + 1) : Nat) : Int) rfl .no (.u rfl) (.u rfl) rfl (fun _ => by omega) (fun _ => wrap_i64 (by omega) (by omega)) ?_
            refine asg rfl .no (.u rfl) ?_
            refine .nil ?_
            refine .blk ?_
            refine We.lpo (d + 1, r) ?_ ?_ ?_ ?_ ?_
            · exact (ESub.cons rfl (evi (by first | rfl | omega | (dsimp only; omega))) (ESub.cons rfl (evi (by first | rfl | omega | (dsimp only; omega))) (ESub.cons rfl rfl (ESub.cons rfl rfl (ESub.cons rfl rfl (ESub.cons rfl rfl (ESub.cons rfl rfl (ESub.cons rfl rfl (ESub.cons rfl rfl (ESub.cons rfl rfl ESub.nil))))))))))
            · exact (MSub.cons .here rfl MSub.nil)
            · first | omega | (dsimp only; omega)
            · exact hGl5
            · refine ⟨?_, ?_, ?_, ?_, ?_, ?_⟩
              · (try dsimp only) <;> (first | omega | rfl | assumption | (simp; done))
              · (try dsimp only) <;> (first | omega | rfl | assumption | (simp; done))
              · (try dsimp only) <;> (first | omega | rfl | assumption | (simp; done))
              · (try dsimp only) <;> (first | omega | rfl | assumption | (simp; done))
              · (try dsimp only) <;> (exact .inr (by rw [show d + 1 - 1 = d by omega, show h - (d + 1) = h - 1 - d by omega]; exact hyes))
              · (try dsimp only) <;> (exact f2)
          · have c20k := c20
            try simp only [decide_eq_true_eq, decide_eq_false_iff_not, Int.not_lt, Int.not_le, gt_iff_lt, ge_iff_le, Bool.or_eq_true, Bool.and_eq_true, Bool.or_eq_false_iff, Bool.and_eq_false_iff, Bool.not_eq_true', Bool.not_eq_false', Int.toNat_natCast, bne_iff_ne, beq_iff_eq, bne_eq_false_iff_eq, beq_eq_false_iff_ne, ne_eq] at c20
            have hno := ab_back hw ht (i := d) (j := h - 1 - d) (by omega) (by omega) (by rw [← hg, ← hg0]; assumption)
            refine Wk.rg [0, 1] rfl rfl ?_
            refine mv rfl .no (.u rfl) ?_
            refine asg rfl .no (.u rfl) ?_
            refine .nil ?_
            refine .blk ?_
            refine We.lpo (s, d) ?_ ?_ ?_ ?_ ?_
            · exact (ESub.cons rfl (evi (by first | rfl | omega | (dsimp only; omega))) (ESub.cons rfl (evi (by first | rfl | omega | (dsimp only; omega))) (ESub.cons rfl rfl (ESub.cons rfl rfl (ESub.cons rfl rfl (ESub.cons rfl rfl (ESub.cons rfl rfl (ESub.cons rfl rfl (ESub.cons rfl rfl (ESub.cons rfl rfl ESub.nil))))))))))
            · exact (MSub.cons .here rfl MSub.nil)
            · first | omega | (dsimp only; omega)
            · exact hGl5
            · refine ⟨?_, ?_, ?_, ?_, ?_, ?_⟩
              · (try dsimp only) <;> (first | omega | rfl | assumption | (simp; done))
              · (try dsimp only) <;> (first | omega | rfl | assumption | (simp; done))
              · (try dsimp only) <;> (first | omega | rfl | assumption | (simp; done))
              · (try dsimp only) <;> (first | omega | rfl | assumption | (simp; done))
              · (try dsimp only) <;> (exact f1)
              · (try dsimp only) <;> (exact .inr hno)
        · have c19k := c19
          try simp only [decide_eq_true_eq, decide_eq_false_iff_not, Int.not_lt, Int.not_le, gt_iff_lt, ge_iff_le, Bool.or_eq_true, Bool.and_eq_true, Bool.or_eq_false_iff, Bool.and_eq_false_iff, Bool.not_eq_true', Bool.not_eq_false', Int.toNat_natCast, bne_iff_ne, beq_iff_eq, bne_eq_false_iff_eq, beq_eq_false_iff_ne, ne_eq] at c19
          refine .exit ?_
          refine .xcode ?_
          refine .xlp ?_
          refine .xblk ?_
          refine .code ?_
          refine .seq ?_
          obtain rfl : s = r := by omega
          have hcut := sym_cut hw sA sB h1 h3 h4 f1 f2
          refine Wk.rg [0, 1, 2, 3] rfl rfl ?_
          refine mv rfl .no (.u rfl) ?_
          refine mv rfl .no (.u rfl) ?_
          refine arn (((P.length + A.length + (h - s)) : Nat) : Int) rfl .no (.u rfl) (.u rfl) rfl (fun _ => by omega) (fun _ => wrap_i64 (by omega) (by omega)) ?_
          refine asg rfl .no (.u rfl) ?_
          refine .nil ?_
          refine .code ?_
          refine .seq ?_
          refine .seq ?_
          refine Wk.rg [0, 1, 2, 3, 4, 5, 6, 7] rfl rfl ?_
          refine mv rfl .no (.u rfl) ?_
          refine mv rfl .no (.u rfl) ?_
          refine cp rfl .no (.u rfl) (.u rfl) rfl ?_
          refine mv rfl .no (.u rfl) ?_
          refine mv rfl (.t rfl rfl) (.u rfl) ?_
          refine mv rfl (.t rfl rfl) (.u rfl) ?_
          refine cp rfl (.t rfl rfl) (.s rfl) (.s rfl) rfl ?_
          refine pkA rfl .no (.u rfl) (.s rfl) ?_
          refine .nil ?_
          refine .code ?_
          refine .cond rfl (fun c21 => ?_) (fun c21 => ?_)
          · have c21k := c21
            try simp only [decide_eq_true_eq, decide_eq_false_iff_not, Int.not_lt, Int.not_le, gt_iff_lt, ge_iff_le, Bool.or_eq_true, Bool.and_eq_true, Bool.or_eq_false_iff, Bool.and_eq_false_iff, Bool.not_eq_true', Bool.not_eq_false', Int.toNat_natCast, bne_iff_ne, beq_iff_eq, bne_eq_false_iff_eq, beq_eq_false_iff_ne, ne_eq] at c21
            refine Wk.rg [0, 1, 2, 3, 4, 5] rfl rfl ?_
            refine mv rfl .no (.u rfl) ?_
            refine mv rfl .no (.u rfl) ?_
            refine mv rfl .no (.u rfl) ?_
            refine mv rfl .no (.u rfl) ?_
            refine mv rfl .no (.u rfl) ?_
            refine ka rfl (.inr rfl) Fx.go77 (Eva.cons (.u rfl) (Eva.cons (.u rfl) (Eva.cons (.u rfl) (Eva.cons (.u rfl) (Eva.cons (.u rfl) Eva.nil))))) (mtk1 .here) (rotM_ok (ms (P ++ A.take s)) (ms (A.drop s)) (ms (B.take (h - s))) (ms (B.drop (h - s) ++ R)) _ _ _ _ _ _ (by simp only [ms_len, List.length_append, List.length_take, List.length_drop]; omega) (by simp only [ms_len, List.length_append, List.length_take, List.length_drop]; omega) (by simp only [ms_len, List.length_append, List.length_take, List.length_drop]; omega) (by simp only [ms_len, List.length_append, List.length_take, List.length_drop]; omega) (by simp only [ms_len, List.length_append, List.length_take, List.length_drop]; omega) _ sym_in (by rw [hlen]; omega)) ?_
            rintro _ G191 μ191 hG191 ⟨rfl, rfl⟩
            have hcm := hcm.mono hG191
            have ih := ih.mono hG191
            refine .nil ?_
            refine .code ?_
            refine .seq ?_
            refine .seq ?_
            rw [sym_rot (P := P) (A := A) (B := B) (R := R) (s := s) (q := h - s)]
            refine Wk.rg [0, 1, 2, 3, 4, 5, 6, 7] rfl rfl ?_
            refine mv rfl .no (.u rfl) ?_
            refine mv rfl .no (.u rfl) ?_
            refine cp rfl .no (.u rfl) (.u rfl) rfl ?_
            refine mv rfl .no (.u rfl) ?_
            refine mv rfl (.t rfl rfl) (.u rfl) ?_
            refine mv rfl (.t rfl rfl) (.u rfl) ?_
            refine cp rfl (.t rfl rfl) (.s rfl) (.s rfl) rfl ?_
            refine pkA rfl .no (.u rfl) (.s rfl) ?_
            refine .nil ?_
            refine .code ?_
            refine .cond rfl (fun c22 => ?_) (fun c22 => ?_)
            · have c22k := c22
              try simp only [decide_eq_true_eq, decide_eq_false_iff_not, Int.not_lt, Int.not_le, gt_iff_lt, ge_iff_le, Bool.or_eq_true, Bool.and_eq_true, Bool.or_eq_false_iff, Bool.and_eq_false_iff, Bool.not_eq_true', Bool.not_eq_false', Int.toNat_natCast, bne_iff_ne, beq_iff_eq, bne_eq_false_iff_eq, beq_eq_false_iff_ne, ne_eq] at c22
              refine Wk.rg [0, 1, 2, 3, 4, 5] rfl rfl ?_
              refine mv rfl .no (.u rfl) ?_
              refine mv rfl .no (.u rfl) ?_
              refine mv rfl .no (.u rfl) ?_
              refine mv rfl .no (.u rfl) ?_
              refine mv rfl .no (.u rfl) ?_
              refine ka rfl (.inr rfl) Fx.go76 (Eva.cons (.u rfl) (Eva.cons (.u rfl) (Eva.cons (.u rfl) (Eva.cons (.u rfl) (Eva.cons (.u rfl) Eva.nil))))) (mtk1 .here) (ih.ok _ (PM.le.refl _) P (A.take s) (B.take (h - s)) (A.drop s ++ B.drop (h - s) ++ R) _ _ _ _ (by first | omega | (simp only [List.length_append, List.length_take, List.length_drop] <;> omega)) (by first | omega | (simp only [List.length_append, List.length_take, List.length_drop] <;> omega)) (by first | omega | (simp only [List.length_append, List.length_take, List.length_drop] <;> omega)) (by first | omega | (simp only [List.length_append, List.length_take, List.length_drop] <;> omega)) (by first | omega | (simp only [List.length_append, List.length_take, List.length_drop] <;> omega)) (by first | omega | (simp only [List.length_append, List.length_take, List.length_drop] <;> omega)) (srt_parts sA s).1 (srt_parts sB (h - s)).1 (fun x hx y hy => ht x (List.mem_of_mem_take hx) y (List.mem_of_mem_take hy)) (by simp only [ms, List.map_append, List.append_assoc]) (by rw [ms_len]; simp only [List.length_append, List.length_take, List.length_drop]; omega)) ?_
              rintro _ G205 μ205 hG205 ⟨S205, p205, s205, rfl, rfl⟩
              have l205 := p205.length_eq; simp only [List.length_append, List.length_take, List.length_drop] at l205
              have hcm := hcm.mono hG205
              have ih := ih.mono hG205
              refine .nil ?_
              refine .code ?_
              refine .seq ?_
              refine Wk.rg [0, 1, 2, 3, 4, 5, 6, 7] rfl rfl ?_
              refine mv rfl .no (.u rfl) ?_
              refine mv rfl .no (.u rfl) ?_
              refine cp rfl .no (.u rfl) (.u rfl) rfl ?_
              refine mv rfl .no (.u rfl) ?_
              refine mv rfl (.t rfl rfl) (.u rfl) ?_
              refine mv rfl (.t rfl rfl) (.u rfl) ?_
              refine cp rfl (.t rfl rfl) (.s rfl) (.s rfl) rfl ?_
              refine pkA rfl .no (.u rfl) (.s rfl) ?_
              refine .nil ?_
              refine .code ?_
              refine .cond rfl (fun c23 => ?_) (fun c23 => ?_)
              · have c23k := c23
                try simp only [decide_eq_true_eq, decide_eq_false_iff_not, Int.not_lt, Int.not_le, gt_iff_lt, ge_iff_le, Bool.or_eq_true, Bool.and_eq_true, Bool.or_eq_false_iff, Bool.and_eq_false_iff, Bool.not_eq_true', Bool.not_eq_false', Int.toNat_natCast, bne_iff_ne, beq_iff_eq, bne_eq_false_iff_eq, beq_eq_false_iff_ne, ne_eq] at c23
                refine Wk.rg [0, 1, 2, 3, 4, 5] rfl rfl ?_
                refine mv rfl .no (.u rfl) ?_
                refine mv rfl .no (.u rfl) ?_
                refine mv rfl .no (.u rfl) ?_
                refine mv rfl .no (.u rfl) ?_
                refine mv rfl .no (.u rfl) ?_
                refine ka rfl (.inr rfl) Fx.go76 (Eva.cons (.u rfl) (Eva.cons (.u rfl) (Eva.cons (.u rfl) (Eva.cons (.u rfl) (Eva.cons (.u rfl) Eva.nil))))) (mtk1 .here) (ih.ok _ (PM.le.refl _) (P ++ S205) (A.drop s) (B.drop (h - s)) R _ _ _ _ (by first | omega | (simp only [List.length_append, List.length_take, List.length_drop] <;> omega)) (by first | omega | (simp only [List.length_append, List.length_take, List.length_drop] <;> omega)) (by first | omega | (simp only [List.length_append, List.length_take, List.length_drop] <;> omega)) (by first | omega | (simp only [List.length_append, List.length_take, List.length_drop] <;> omega)) (by first | omega | (simp only [List.length_append, List.length_take, List.length_drop] <;> omega)) (by first | omega | (simp only [List.length_append, List.length_take, List.length_drop] <;> omega)) (srt_parts sA s).2.1 (srt_parts sB (h - s)).2.1 (fun x hx y hy => ht x (List.mem_of_mem_drop hx) y (List.mem_of_mem_drop hy)) (by simp only [ms, List.map_append, List.append_assoc]) (by rw [ms_len]; simp only [List.length_append, List.length_take, List.length_drop]; omega)) ?_
                rintro _ G219 μ219 hG219 ⟨S219, p219, s219, rfl, rfl⟩
                have l219 := p219.length_eq; simp only [List.length_append, List.length_take, List.length_drop] at l219
                have hcm := hcm.mono hG219
                have ih := ih.mono hG219
                refine .nil ?_
                refine .nil ?_
                refine We.fin Try.results76 .nil (MSub.cons .here rfl MSub.nil) ?_
                have hq1 : s ≤ h := by omega
                obtain ⟨a1, a2, _⟩ := srt_parts sA s
                obtain ⟨b1, b2, _⟩ := srt_parts sB (h - s)
                have p1 := p205; have s1 := s205
                have p2 := p219; have s2 := s219
                obtain ⟨q1, q2⟩ := sym_fin hcut p1 s1 p2 s2
                exact ⟨_, q1, q2, by simp only [ms, List.map_append, List.append_assoc], rfl⟩
              · have c23k := c23
                try simp only [decide_eq_true_eq, decide_eq_false_iff_not, Int.not_lt, Int.not_le, gt_iff_lt, ge_iff_le, Bool.or_eq_true, Bool.and_eq_true, Bool.or_eq_false_iff, Bool.and_eq_false_iff, Bool.not_eq_true', Bool.not_eq_false', Int.toNat_natCast, bne_iff_ne, beq_iff_eq, bne_eq_false_iff_eq, beq_eq_false_iff_ne, ne_eq] at c23
                refine .skip ?_
                refine .nil ?_
                refine We.fin Try.results76 .nil (MSub.cons .here rfl MSub.nil) ?_
                have hq1 : s ≤ h := by omega
                obtain ⟨a1, a2, _⟩ := srt_parts sA s
                obtain ⟨b1, b2, _⟩ := srt_parts sB (h - s)
                have p1 := p205; have s1 := s205
                have p2 := List.Perm.refl (A.drop s ++ B.drop (h - s))
                have s2 := half_srt a2 b2 (by simp only [List.length_drop]; omega)
                obtain ⟨q1, q2⟩ := sym_fin hcut p1 s1 p2 s2
                exact ⟨_, q1, q2, by simp only [ms, List.map_append, List.append_assoc], rfl⟩
            · have c22k := c22
              try simp only [decide_eq_true_eq, decide_eq_false_iff_not, Int.not_lt, Int.not_le, gt_iff_lt, ge_iff_le, Bool.or_eq_true, Bool.and_eq_true, Bool.or_eq_false_iff, Bool.and_eq_false_iff, Bool.not_eq_true', Bool.not_eq_false', Int.toNat_natCast, bne_iff_ne, beq_iff_eq, bne_eq_false_iff_eq, beq_eq_false_iff_ne, ne_eq] at c22
              refine .skip ?_
              refine .code ?_
              refine .seq ?_
              refine Wk.rg [0, 1, 2, 3, 4, 5, 6, 7] rfl rfl ?_
              refine mv rfl .no (.u rfl) ?_
              refine mv rfl .no (.u rfl) ?_
              refine cp rfl .no (.u rfl) (.u rfl) rfl ?_
              refine mv rfl .no (.u rfl) ?_
              refine mv rfl (.t rfl rfl) (.u rfl) ?_
              refine mv rfl (.t rfl rfl) (.u rfl) ?_
              refine cp rfl (.t rfl rfl) (.s rfl) (.s rfl) rfl ?_
              refine pkA rfl .no (.u rfl) (.s rfl) ?_
              refine .nil ?_
              refine .code ?_
              refine .cond rfl (fun c24 => ?_) (fun c24 => ?_)
              · have c24k := c24
                try simp only [decide_eq_true_eq, decide_eq_false_iff_not, Int.not_lt, Int.not_le, gt_iff_lt, ge_iff_le, Bool.or_eq_true, Bool.and_eq_true, Bool.or_eq_false_iff, Bool.and_eq_false_iff, Bool.not_eq_true', Bool.not_eq_false', Int.toNat_natCast, bne_iff_ne, beq_iff_eq, bne_eq_false_iff_eq, beq_eq_false_iff_ne, ne_eq] at c24
                refine Wk.rg [0, 1, 2, 3, 4, 5] rfl rfl ?_
                refine mv rfl .no (.u rfl) ?_
                refine mv rfl .no (.u rfl) ?_
                refine mv rfl .no (.u rfl) ?_
                refine mv rfl .no (.u rfl) ?_
                refine mv rfl .no (.u rfl) ?_
                refine ka rfl (.inr rfl) Fx.go76 (Eva.cons (.u rfl) (Eva.cons (.u rfl) (Eva.cons (.u rfl) (Eva.cons (.u rfl) (Eva.cons (.u rfl) Eva.nil))))) (mtk1 .here) (ih.ok _ (PM.le.refl _) (P ++ (A.take s ++ B.take (h - s))) (A.drop s) (B.drop (h - s)) R _ _ _ _ (by first | omega | (simp only [List.length_append, List.length_take, List.length_drop] <;> omega)) (by first | omega | (simp only [List.length_append, List.length_take, List.length_drop] <;> omega)) (by first | omega | (simp only [List.length_append, List.length_take, List.length_drop] <;> omega)) (by first | omega | (simp only [List.length_append, List.length_take, List.length_drop] <;> omega)) (by first | omega | (simp only [List.length_append, List.length_take, List.length_drop] <;> omega)) (by first | omega | (simp only [List.length_append, List.length_take, List.length_drop] <;> omega)) (srt_parts sA s).2.1 (srt_parts sB (h - s)).2.1 (fun x hx y hy => ht x (List.mem_of_mem_drop hx) y (List.mem_of_mem_drop hy)) (by simp only [ms, List.map_append, List.append_assoc]) (by rw [ms_len]; simp only [List.length_append, List.length_take, List.length_drop]; omega)) ?_
                rintro _ G219 μ219 hG219 ⟨S219, p219, s219, rfl, rfl⟩
                have l219 := p219.length_eq; simp only [List.length_append, List.length_take, List.length_drop] at l219
                have hcm := hcm.mono hG219
                have ih := ih.mono hG219
                refine .nil ?_
                refine .nil ?_
                refine We.fin Try.results76 .nil (MSub.cons .here rfl MSub.nil) ?_
                have hq1 : s ≤ h := by omega
                obtain ⟨a1, a2, _⟩ := srt_parts sA s
                obtain ⟨b1, b2, _⟩ := srt_parts sB (h - s)
                have p1 := List.Perm.refl (A.take s ++ B.take (h - s))
                have s1 := half_srt a1 b1 (by simp only [List.length_take]; omega)
                have p2 := p219; have s2 := s219
                obtain ⟨q1, q2⟩ := sym_fin hcut p1 s1 p2 s2
                exact ⟨_, q1, q2, by simp only [ms, List.map_append, List.append_assoc], rfl⟩
              · have c24k := c24
                try simp only [decide_eq_true_eq, decide_eq_false_iff_not, Int.not_lt, Int.not_le, gt_iff_lt, ge_iff_le, Bool.or_eq_true, Bool.and_eq_true, Bool.or_eq_false_iff, Bool.and_eq_false_iff, Bool.not_eq_true', Bool.not_eq_false', Int.toNat_natCast, bne_iff_ne, beq_iff_eq, bne_eq_false_iff_eq, beq_eq_false_iff_ne, ne_eq] at c24
                refine .skip ?_
                refine .nil ?_
                refine We.fin Try.results76 .nil (MSub.cons .here rfl MSub.nil) ?_
                have hq1 : s ≤ h := by omega
                obtain ⟨a1, a2, _⟩ := srt_parts sA s
                obtain ⟨b1, b2, _⟩ := srt_parts sB (h - s)
                have p1 := List.Perm.refl (A.take s ++ B.take (h - s))
                have s1 := half_srt a1 b1 (by simp only [List.length_take]; omega)
                have p2 := List.Perm.refl (A.drop s ++ B.drop (h - s))
                have s2 := half_srt a2 b2 (by simp only [List.length_drop]; omega)
                obtain ⟨q1, q2⟩ := sym_fin hcut p1 s1 p2 s2
                exact ⟨_, q1, q2, by simp only [ms, List.map_append, List.append_assoc], rfl⟩
          · have c21k := c21
            try simp only [decide_eq_true_eq, decide_eq_false_iff_not, Int.not_lt, Int.not_le, gt_iff_lt, ge_iff_le, Bool.or_eq_true, Bool.and_eq_true, Bool.or_eq_false_iff, Bool.and_eq_false_iff, Bool.not_eq_true', Bool.not_eq_false', Int.toNat_natCast, bne_iff_ne, beq_iff_eq, bne_eq_false_iff_eq, beq_eq_false_iff_ne, ne_eq] at c21
            refine .skip ?_
            refine .code ?_
            refine .seq ?_
            refine .seq ?_
            rw [sym_norot (P := P) (A := A) (B := B) (R := R) (s := s) (q := h - s) (by omega)]
            refine Wk.rg [0, 1, 2, 3, 4, 5, 6, 7] rfl rfl ?_
            refine mv rfl .no (.u rfl) ?_
            refine mv rfl .no (.u rfl) ?_
            refine cp rfl .no (.u rfl) (.u rfl) rfl ?_
            refine mv rfl .no (.u rfl) ?_
            refine mv rfl (.t rfl rfl) (.u rfl) ?_
            refine mv rfl (.t rfl rfl) (.u rfl) ?_
            refine cp rfl (.t rfl rfl) (.s rfl) (.s rfl) rfl ?_
            refine pkA rfl .no (.u rfl) (.s rfl) ?_
            refine .nil ?_
            refine .code ?_
            refine .cond rfl (fun c25 => ?_) (fun c25 => ?_)
            · have c25k := c25
              try simp only [decide_eq_true_eq, decide_eq_false_iff_not, Int.not_lt, Int.not_le, gt_iff_lt, ge_iff_le, Bool.or_eq_true, Bool.and_eq_true, Bool.or_eq_false_iff, Bool.and_eq_false_iff, Bool.not_eq_true', Bool.not_eq_false', Int.toNat_natCast, bne_iff_ne, beq_iff_eq, bne_eq_false_iff_eq, beq_eq_false_iff_ne, ne_eq] at c25
              refine Wk.rg [0, 1, 2, 3, 4, 5] rfl rfl ?_
              refine mv rfl .no (.u rfl) ?_
              refine mv rfl .no (.u rfl) ?_
              refine mv rfl .no (.u rfl) ?_
              refine mv rfl .no (.u rfl) ?_
              refine mv rfl .no (.u rfl) ?_
              refine ka rfl (.inr rfl) Fx.go76 (Eva.cons (.u rfl) (Eva.cons (.u rfl) (Eva.cons (.u rfl) (Eva.cons (.u rfl) (Eva.cons (.u rfl) Eva.nil))))) (mtk1 .here) (ih.ok _ (PM.le.refl _) P (A.take s) (B.take (h - s)) (A.drop s ++ B.drop (h - s) ++ R) _ _ _ _ (by first | omega | (simp only [List.length_append, List.length_take, List.length_drop] <;> omega)) (by first | omega | (simp only [List.length_append, List.length_take, List.length_drop] <;> omega)) (by first | omega | (simp only [List.length_append, List.length_take, List.length_drop] <;> omega)) (by first | omega | (simp only [List.length_append, List.length_take, List.length_drop] <;> omega)) (by first | omega | (simp only [List.length_append, List.length_take, List.length_drop] <;> omega)) (by first | omega | (simp only [List.length_append, List.length_take, List.length_drop] <;> omega)) (srt_parts sA s).1 (srt_parts sB (h - s)).1 (fun x hx y hy => ht x (List.mem_of_mem_take hx) y (List.mem_of_mem_take hy)) (by simp only [ms, List.map_append, List.append_assoc]) (by rw [ms_len]; simp only [List.length_append, List.length_take, List.length_drop]; omega)) ?_
              rintro _ G205 μ205 hG205 ⟨S205, p205, s205, rfl, rfl⟩
              have l205 := p205.length_eq; simp only [List.length_append, List.length_take, List.length_drop] at l205
              have hcm := hcm.mono hG205
              have ih := ih.mono hG205
              refine .nil ?_
              refine .code ?_
              refine .seq ?_
              refine Wk.rg [0, 1, 2, 3, 4, 5, 6, 7] rfl rfl ?_
              refine mv rfl .no (.u rfl) ?_
              refine mv rfl .no (.u rfl) ?_
              refine cp rfl .no (.u rfl) (.u rfl) rfl ?_
              refine mv rfl .no (.u rfl) ?_
              refine mv rfl (.t rfl rfl) (.u rfl) ?_
              refine mv rfl (.t rfl rfl) (.u rfl) ?_
              refine cp rfl (.t rfl rfl) (.s rfl) (.s rfl) rfl ?_
              refine pkA rfl .no (.u rfl) (.s rfl) ?_
              refine .nil ?_
              refine .code ?_
              refine .cond rfl (fun c26 => ?_) (fun c26 => ?_)
              · have c26k := c26
                try simp only [decide_eq_true_eq, decide_eq_false_iff_not, Int.not_lt, Int.not_le, gt_iff_lt, ge_iff_le, Bool.or_eq_true, Bool.and_eq_true, Bool.or_eq_false_iff, Bool.and_eq_false_iff, Bool.not_eq_true', Bool.not_eq_false', Int.toNat_natCast, bne_iff_ne, beq_iff_eq, bne_eq_false_iff_eq, beq_eq_false_iff_ne, ne_eq] at c26
                refine Wk.rg [0, 1, 2, 3, 4, 5] rfl rfl ?_
                refine mv rfl .no (.u rfl) ?_
                refine mv rfl .no (.u rfl) ?_
                refine mv rfl .no (.u rfl) ?_
                refine mv rfl .no (.u rfl) ?_
                refine mv rfl .no (.u rfl) ?_
                refine ka rfl (.inr rfl) Fx.go76 (Eva.cons (.u rfl) (Eva.cons (.u rfl) (Eva.cons (.u rfl) (Eva.cons (.u rfl) (Eva.cons (.u rfl) Eva.nil))))) (mtk1 .here) (ih.ok _ (PM.le.refl _) (P ++ S205) (A.drop s) (B.drop (h - s)) R _ _ _ _ (by first | omega | (simp only [List.length_append, List.length_take, List.length_drop] <;> omega)) (by first | omega | (simp only [List.length_append, List.length_take, List.length_drop] <;> omega)) (by first | omega | (simp only [List.length_append, List.length_take, List.length_drop] <;> omega)) (by first | omega | (simp only [List.length_append, List.length_take, List.length_drop] <;> omega)) (by first | omega | (simp only [List.length_append, List.length_take, List.length_drop] <;> omega)) (by first | omega | (simp only [List.length_append, List.length_take, List.length_drop] <;> omega)) (srt_parts sA s).2.1 (srt_parts sB (h - s)).2.1 (fun x hx y hy => ht x (List.mem_of_mem_drop hx) y (List.mem_of_mem_drop hy)) (by simp only [ms, List.map_append, List.append_assoc]) (by rw [ms_len]; simp only [List.length_append, List.length_take, List.length_drop]; omega)) ?_
                rintro _ G219 μ219 hG219 ⟨S219, p219, s219, rfl, rfl⟩
                have l219 := p219.length_eq; simp only [List.length_append, List.length_take, List.length_drop] at l219
                have hcm := hcm.mono hG219
                have ih := ih.mono hG219
                refine .nil ?_
                refine .nil ?_
                refine We.fin Try.results76 .nil (MSub.cons .here rfl MSub.nil) ?_
                have hq1 : s ≤ h := by omega
                obtain ⟨a1, a2, _⟩ := srt_parts sA s
                obtain ⟨b1, b2, _⟩ := srt_parts sB (h - s)
                have p1 := p205; have s1 := s205
                have p2 := p219; have s2 := s219
                obtain ⟨q1, q2⟩ := sym_fin hcut p1 s1 p2 s2
                exact ⟨_, q1, q2, by simp only [ms, List.map_append, List.append_assoc], rfl⟩
              · have c26k := c26
                try simp only [decide_eq_true_eq, decide_eq_false_iff_not, Int.not_lt, Int.not_le, gt_iff_lt, ge_iff_le, Bool.or_eq_true, Bool.and_eq_true, Bool.or_eq_false_iff, Bool.and_eq_false_iff, Bool.not_eq_true', Bool.not_eq_false', Int.toNat_natCast, bne_iff_ne, beq_iff_eq, bne_eq_false_iff_eq, beq_eq_false_iff_ne, ne_eq] at c26
                refine .skip ?_
                refine .nil ?_
                refine We.fin Try.results76 .nil (MSub.cons .here rfl MSub.nil) ?_
                have hq1 : s ≤ h := by omega
                obtain ⟨a1, a2, _⟩ := srt_parts sA s
                obtain ⟨b1, b2, _⟩ := srt_parts sB (h - s)
                have p1 := p205; have s1 := s205
                have p2 := List.Perm.refl (A.drop s ++ B.drop (h - s))
                have s2 := half_srt a2 b2 (by simp only [List.length_drop]; omega)
                obtain ⟨q1, q2⟩ := sym_fin hcut p1 s1 p2 s2
                exact ⟨_, q1, q2, by simp only [ms, List.map_append, List.append_assoc], rfl⟩
            · have c25k := c25
              try simp only [decide_eq_true_eq, decide_eq_false_iff_not, Int.not_lt, Int.not_le, gt_iff_lt, ge_iff_le, Bool.or_eq_true, Bool.and_eq_true, Bool.or_eq_false_iff, Bool.and_eq_false_iff, Bool.not_eq_true', Bool.not_eq_false', Int.toNat_natCast, bne_iff_ne, beq_iff_eq, bne_eq_false_iff_eq, beq_eq_false_iff_ne, ne_eq] at c25
              refine .skip ?_
              refine .code ?_
              refine .seq ?_
              refine Wk.rg [0, 1, 2, 3, 4, 5, 6, 7] rfl rfl ?_
              refine mv rfl .no (.u rfl) ?_
              refine mv rfl .no (.u rfl) ?_
              refine cp rfl .no (.u rfl) (.u rfl) rfl ?_
              refine mv rfl .no (.u rfl) ?_
              refine mv rfl (.t rfl rfl) (.u rfl) ?_
              refine mv rfl (.t rfl rfl) (.u rfl) ?_
              refine cp rfl (.t rfl rfl) (.s rfl) (.s rfl) rfl ?_
              refine pkA rfl .no (.u rfl) (.s rfl) ?_
              refine .nil ?_
              refine .code ?_
              refine .cond rfl (fun c27 => ?_) (fun c27 => ?_)
              · have c27k := c27
                try simp only [decide_eq_true_eq, decide_eq_false_iff_not, Int.not_lt, Int.not_le, gt_iff_lt, ge_iff_le, Bool.or_eq_true, Bool.and_eq_true, Bool.or_eq_false_iff, Bool.and_eq_false_iff, Bool.not_eq_true', Bool.not_eq_false', Int.toNat_natCast, bne_iff_ne, beq_iff_eq, bne_eq_false_iff_eq, beq_eq_false_iff_ne, ne_eq] at c27
                refine Wk.rg [0, 1, 2, 3, 4, 5] rfl rfl ?_
                refine mv rfl .no (.u rfl) ?_
                refine mv rfl .no (.u rfl) ?_
                refine mv rfl .no (.u rfl) ?_
                refine mv rfl .no (.u rfl) ?_
                refine mv rfl .no (.u rfl) ?_
                refine ka rfl (.inr rfl) Fx.go76 (Eva.cons (.u rfl) (Eva.cons (.u rfl) (Eva.cons (.u rfl) (Eva.cons (.u rfl) (Eva.cons (.u rfl) Eva.nil))))) (mtk1 .here) (ih.ok _ (PM.le.refl _) (P ++ (A.take s ++ B.take (h - s))) (A.drop s) (B.drop (h - s)) R _ _ _ _ (by first | omega | (simp only [List.length_append, List.length_take, List.length_drop] <;> omega)) (by first | omega | (simp only [List.length_append, List.length_take, List.length_drop] <;> omega)) (by first | omega | (simp only [List.length_append, List.length_take, List.length_drop] <;> omega)) (by first | omega | (simp only [List.length_append, List.length_take, List.length_drop] <;> omega)) (by first | omega | (simp only [List.length_append, List.length_take, List.length_drop] <;> omega)) (by first | omega | (simp only [List.length_append, List.length_take, List.length_drop] <;> omega)) (srt_parts sA s).2.1 (srt_parts sB (h - s)).2.1 (fun x hx y hy => ht x (List.mem_of_mem_drop hx) y (List.mem_of_mem_drop hy)) (by simp only [ms, List.map_append, List.append_assoc]) (by rw [ms_len]; simp only [List.length_append, List.length_take, List.length_drop]; omega)) ?_
                rintro _ G219 μ219 hG219 ⟨S219, p219, s219, rfl, rfl⟩
                have l219 := p219.length_eq; simp only [List.length_append, List.length_take, List.length_drop] at l219
                have hcm := hcm.mono hG219
                have ih := ih.mono hG219
                refine .nil ?_
                refine .nil ?_
                refine We.fin Try.results76 .nil (MSub.cons .here rfl MSub.nil) ?_
                have hq1 : s ≤ h := by omega
                obtain ⟨a1, a2, _⟩ := srt_parts sA s
                obtain ⟨b1, b2, _⟩ := srt_parts sB (h - s)
                have p1 := List.Perm.refl (A.take s ++ B.take (h - s))
                have s1 := half_srt a1 b1 (by simp only [List.length_take]; omega)
                have p2 := p219; have s2 := s219
                obtain ⟨q1, q2⟩ := sym_fin hcut p1 s1 p2 s2
                exact ⟨_, q1, q2, by simp only [ms, List.map_append, List.append_assoc], rfl⟩
              · have c27k := c27
                try simp only [decide_eq_true_eq, decide_eq_false_iff_not, Int.not_lt, Int.not_le, gt_iff_lt, ge_iff_le, Bool.or_eq_true, Bool.and_eq_true, Bool.or_eq_false_iff, Bool.and_eq_false_iff, Bool.not_eq_true', Bool.not_eq_false', Int.toNat_natCast, bne_iff_ne, beq_iff_eq, bne_eq_false_iff_eq, beq_eq_false_iff_ne, ne_eq] at c27
                refine .skip ?_
                refine .nil ?_
                refine We.fin Try.results76 .nil (MSub.cons .here rfl MSub.nil) ?_
                have hq1 : s ≤ h := by omega
                obtain ⟨a1, a2, _⟩ := srt_parts sA s
                obtain ⟨b1, b2, _⟩ := srt_parts sB (h - s)
                have p1 := List.Perm.refl (A.take s ++ B.take (h - s))
                have s1 := half_srt a1 b1 (by simp only [List.length_take]; omega)
                have p2 := List.Perm.refl (A.drop s ++ B.drop (h - s))
                have s2 := half_srt a2 b2 (by simp only [List.length_drop]; omega)
                obtain ⟨q1, q2⟩ := sym_fin hcut p1 s1 p2 s2
                exact ⟨_, q1, q2, by simp only [ms, List.map_append, List.append_assoc], rfl⟩

end Go.Proofs.Ytnhdaaggkdegpaa

namespace Go.Proofs.Ytnhdaaggkdegpaa
set_option linter.unusedSimpArgs false
set_option linter.unusedVariables false
open Go.Tan Go.RowKit

namespace FxVeSd
theorem sn22 : (slE Try.prog 22).isSome = true := by kernel_rfl
end FxVeSd
namespace Fx
theorem go75 : goFn Try.prog 75 = true := by kernel_rfl
theorem go71 : goFn Try.prog 71 = true := by kernel_rfl
end Fx
theorem symI {v : Value} {f : Nat} {vc : List Value} {cv : Meta → Meta → Int} {G : PM} (hf : goFn Try.prog f = true) (hcm : CmpR Try.prog f vc cv G) (hw : Wk0 (ltv cv)) : ∀ N, SymI v f vc cv N G
  | 0 => ⟨fun G' hle P A B R a m b xs hN => absurd hN (Nat.not_lt_zero _)⟩
  | N + 1 => ⟨fun G' hle P A B R a m b xs hN ha hm hb hA hB sA sB ht hx hl =>
      symM_step P A B R v a m b f hf vc cv G' (hcm.mono hle) hw ha hm hb hA hB sA sB ht xs hx hl ⟨fun G2 h2 P' A' B' R' a' m' b' xs' hN' => (symI hf hcm hw N).ok G2 (hle.trans h2) P' A' B' R' a' m' b' xs' (by omega)⟩⟩
theorem symM_ok (P A B R : List TM) (v : Value) (a m b : Int) (f : Nat) (hf : goFn Try.prog f = true) (vc : List Value) (cv : Meta → Meta → Int) (G : PM) (hcm : CmpR Try.prog f vc cv G) (hw : Wk0 (ltv cv)) (ha : a = P.length) (hm : m = ((P.length + A.length : Nat) : Int)) (hb : b = ((P.length + A.length + B.length : Nat) : Int)) (hA : 0 < A.length) (hB : 0 < B.length) (sA : Srt (ltv cv) A) (sB : Srt (ltv cv) B) (ht : ∀ x ∈ A, ∀ y ∈ B, x.2 < y.2) (xs : List Meta) (hx : xs = ms (P ++ A ++ B ++ R)) (hl : xs.length ≤ 1000000000) :
    Ct Try.prog 76 #[v, .int .i64 a, .int .i64 m, .int .i64 b, .func (.func f) #[] vc.toArray] G [rS 40 Meta.cells v 48 xs] (fun _ μ' u => ∃ S', S'.Perm (A ++ B) ∧ Srt (ltv cv) S' ∧ μ' = [rS 40 Meta.cells v 48 (ms (P ++ S' ++ R))] ∧ u = .tuple #[]) := (symI hf hcm hw (A.length + B.length + 1)).ok G (PM.le.refl G) P A B R a m b xs (by omega) ha hm hb hA hB sA sB ht hx hl
set_option maxHeartbeats 1000000 in
theorem stb_ok (xs : List Meta) (v : Value) (n : Int) (f : Nat) (hf : goFn Try.prog f = true) (vc : List Value) (cv : Meta → Meta → Int) (G : PM) (hcm : CmpR Try.prog f vc cv G) (hw : Wk0 (ltv cv)) (hn : n = xs.length) (hl : xs.length ≤ 500000000) : Ct Try.prog 71 ([v, .int .i64 n, .func (.func f) #[] vc.toArray] : List Value).toArray G [rS 40 Meta.cells v 48 xs] (fun _ μ' u => μ' = [rS 40 Meta.cells v 48 (sortS (ltv cv) xs)] ∧ u = .tuple #[]) := by
  refine Ct.of Try.func71 rfl Try.ntmps71 rfl fun w0 hs0 => ?_
  subst hn; have hT0 := tags_srt xs; have hT0l : (xs.zipIdx 0).length = xs.length := List.length_zipIdx
  refine .seq ?_
  refine Wk.rg [0] rfl rfl ?_
  refine asg rfl .no (.u rfl) ?_
  refine .nil ?_
  refine .code ?_
  refine .seq ?_
  refine Wk.rg [0, 1, 2] rfl rfl ?_
  refine mv rfl .no (.u rfl) ?_
  refine asg rfl .no (.u rfl) ?_
  refine asg rfl .no (.u rfl) ?_
  refine .nil ?_
  refine .code ?_
  refine .seq ?_
  refine .block ?_
  refine Wk.lop (α := List TM × List TM × List TM) (fun gh => [(7, true, .int .i64 (gh.1.length : Int)), (8, true, .int .i64 ((gh.1.length + 20 : Nat) : Int))]) (fun gh => [rS 40 Meta.cells v 48 (ms (gh.1 ++ gh.2.2))])
    (fun gh Gl => (∀ r ro, Ck (ltv cv) 20 r ro → Ck (ltv cv) 20 (gh.1 ++ r) (gh.2.1 ++ ro)) ∧ (gh.2.1 ++ gh.2.2 = (xs.zipIdx 0)) ∧ (gh.1.length = gh.2.1.length)) (fun gh => gh.2.2.length) ([], [], (xs.zipIdx 0)) [(0, true, _), (1, true, _), (2, true, _), (6, true, _)] []
    (ESub.cons rfl (by first | rfl | exact evi (by omega)) (ESub.cons rfl (by first | rfl | exact evi (by omega)) (ESub.cons rfl rfl (ESub.cons rfl rfl (ESub.cons rfl rfl (ESub.cons rfl rfl ESub.nil))))))
    (MSub.cons .here (by rw [List.nil_append, ms_tags]) MSub.nil) ?_ ?_
  · refine ⟨?_, ?_, ?_⟩
    · (try dsimp only) <;> (exact fun r ro h => h)
    · (try dsimp only) <;> (rfl)
    · (try dsimp only) <;> (rfl)
  intro gh N0 Gl0 hN0 hGl0 hF0
  obtain ⟨D, DO, T⟩ := gh; dsimp only at hF0 hN0 ⊢
  obtain ⟨hD, hT, hDl⟩ := hF0
  have hcm := hcm.mono hGl0
  have hTl := congrArg List.length hT; rw [List.length_append, hT0l] at hTl
  refine .seq ?_
  refine .seq ?_
  refine Wk.rg [0, 1, 2] rfl rfl ?_
  refine mv rfl .no (.u rfl) ?_
  refine mv rfl .no (.u rfl) ?_
  refine cp rfl .no (.u rfl) (.u rfl) rfl ?_
  refine .nil ?_
  refine .code ?_
  refine .cond rfl (fun c1 => ?_) (fun c1 => ?_)
  · have c1k := c1
    try simp only [decide_eq_true_eq, decide_eq_false_iff_not, Int.not_lt, Int.not_le, gt_iff_lt, ge_iff_le, Bool.or_eq_true, Bool.and_eq_true, Bool.or_eq_false_iff, Bool.and_eq_false_iff, Bool.not_eq_true', Bool.not_eq_false', Int.toNat_natCast, bne_iff_ne, beq_iff_eq, bne_eq_false_iff_eq, beq_eq_false_iff_ne, ne_eq] at c1
    refine .skip ?_
    refine .code ?_
    refine .block ?_
    refine .seq ?_
    refine Wk.rg [0, 1, 2, 3, 4] rfl rfl ?_
    refine mv rfl .no (.u rfl) ?_
    refine mv rfl .no (.u rfl) ?_
    refine mv rfl .no (.u rfl) ?_
    refine mv rfl .no (.u rfl) ?_
    refine ka rfl (.inr rfl) Fx.go75 (Eva.cons (.u rfl) (Eva.cons (.u rfl) (Eva.cons (.u rfl) (Eva.cons (.u rfl) Eva.nil)))) (mtk1 .here) (ins_ok D (T.take 20) (T.drop 20) _ _ _ f hf vc cv _ hcm hw (by first | omega | (simp only [List.length_append, List.length_take, List.length_drop, ms_len, List.length_nil] <;> omega)) (by first | omega | (simp only [List.length_append, List.length_take, List.length_drop, ms_len, List.length_nil] <;> omega)) (tag_sub (X := DO) (Z := T.drop 20) hT0 (by rw [List.take_append_drop]; exact hT)) _ (by rw [List.append_assoc, List.take_append_drop]) (by first | omega | (simp only [List.length_append, List.length_take, List.length_drop, ms_len, List.length_nil] <;> omega))) ?_
    rintro _ G18 μ18 hG18 ⟨S', pS, sS, rfl, rfl⟩
    have lS := pS.length_eq; (try simp only [List.length_take] at lS)
    have hcm := hcm.mono hG18
    refine .nil ?_
    refine .code ?_
    refine .seq ?_
    refine Wk.rg [0, 1] rfl rfl ?_
    refine mv rfl .no (.u rfl) ?_
    refine asg rfl .no (.u rfl) ?_
    refine .nil ?_
    refine .code ?_
    refine Wk.rg [0, 1, 2, 3] rfl rfl ?_
    refine mv rfl .no (.u rfl) ?_
    refine mv rfl .no (.u rfl) ?_
    refine arn (((((D.length + 20 : Nat)) + 20) : Nat) : Int) rfl .no (.u rfl) (.u rfl) rfl (fun _ => by omega) (fun _ => wrap_i64 (by omega) (by omega)) ?_
    refine asg rfl .no (.u rfl) ?_
    refine .nil ?_
    refine .blk ?_
    refine We.lpo (D ++ S', DO ++ T.take 20, T.drop 20) ?_ ?_ ?_ ?_ ?_
    · exact (ESub.cons rfl (evi (by first | omega | (simp only [List.length_append, List.length_take, List.length_drop, ms_len, List.length_nil] <;> omega))) (ESub.cons rfl (evi (by first | omega | (simp only [List.length_append, List.length_take, List.length_drop, ms_len, List.length_nil] <;> omega))) (ESub.cons rfl rfl (ESub.cons rfl rfl (ESub.cons rfl rfl (ESub.cons rfl rfl ESub.nil))))))
    · exact (MSub.cons .here rfl MSub.nil)
    · exact (by first | omega | (simp only [List.length_append, List.length_take, List.length_drop, ms_len, List.length_nil] <;> omega))
    · exact (hGl0).trans hG18
    · refine ⟨?_, ?_, ?_⟩
      · (try dsimp only) <;> (exact fun r ro h => by (rw [List.append_assoc, List.append_assoc]; exact hD _ _ (.cons (by omega) sS pS h)))
      · (try dsimp only) <;> (rw [List.append_assoc, List.take_append_drop]; exact hT)
      · (try dsimp only) <;> (exact (by first | omega | (simp only [List.length_append, List.length_take, List.length_drop, ms_len, List.length_nil] <;> omega)))
  · have c1k := c1
    try simp only [decide_eq_true_eq, decide_eq_false_iff_not, Int.not_lt, Int.not_le, gt_iff_lt, ge_iff_le, Bool.or_eq_true, Bool.and_eq_true, Bool.or_eq_false_iff, Bool.and_eq_false_iff, Bool.not_eq_true', Bool.not_eq_false', Int.toNat_natCast, bne_iff_ne, beq_iff_eq, bne_eq_false_iff_eq, beq_eq_false_iff_ne, ne_eq] at c1
    refine .exit ?_
    refine .xcode ?_
    refine .xlp ?_
    refine .xblk ?_
    refine .code ?_
    refine .seq ?_
    refine Wk.rg [0, 1, 2, 3, 4] rfl rfl ?_
    refine mv rfl .no (.u rfl) ?_
    refine mv rfl .no (.u rfl) ?_
    refine mv rfl .no (.u rfl) ?_
    refine mv rfl .no (.u rfl) ?_
    refine ka rfl (.inr rfl) Fx.go75 (Eva.cons (.u rfl) (Eva.cons (.u rfl) (Eva.cons (.u rfl) (Eva.cons (.u rfl) Eva.nil)))) (mtk1 .here) (ins_ok D T [] _ _ _ f hf vc cv _ hcm hw (by first | omega | (simp only [List.length_append, List.length_take, List.length_drop, ms_len, List.length_nil] <;> omega)) (by first | omega | (simp only [List.length_append, List.length_take, List.length_drop, ms_len, List.length_nil] <;> omega)) (tag_sub (X := DO) (Z := []) hT0 (by rw [List.append_nil]; exact hT)) _ (by rw [List.append_nil]) (by first | omega | (simp only [List.length_append, List.length_take, List.length_drop, ms_len, List.length_nil] <;> omega))) ?_
    rintro _ G27 μ27 hG27 ⟨S', pS, sS, rfl, rfl⟩
    have lS := pS.length_eq; (try simp only [List.length_take] at lS)
    have hcm := hcm.mono hG27
    refine .nil ?_
    refine .code ?_
    refine .block ?_
    have hCk := hD S' T (.last (by omega) sS pS)
    rw [hT] at hCk
    rw [List.append_nil]
    have hW := hCk.perm.length_eq
    rw [hT0l] at hW
    refine Wk.lop (α := Nat × List TM) (fun gh => [(6, true, .int .i64 (gh.1 : Int))]) (fun gh => [rS 40 Meta.cells v 48 (ms gh.2)])
      (fun gh Gl => (0 < gh.1) ∧ (gh.1 ≤ 20 + 2 * xs.length) ∧ (Ck (ltv cv) gh.1 gh.2 (xs.zipIdx 0))) (fun gh => xs.length - gh.1) (20, D ++ S') [(0, true, _), (1, true, _), (2, true, _)] []
      (ESub.cons rfl (by first | rfl | exact evi (by omega)) (ESub.cons rfl rfl (ESub.cons rfl rfl (ESub.cons rfl rfl ESub.nil))))
      (MSub.cons .here rfl MSub.nil) ?_ ?_
    · refine ⟨?_, ?_, ?_⟩
      · (try dsimp only) <;> (first | omega | rfl | assumption | (simp; done))
      · (try dsimp only) <;> (first | omega | rfl | assumption | (simp; done))
      · (try dsimp only) <;> (exact hCk)
    intro gh N1 Gl1 hN1 hGl1 hF1
    obtain ⟨bs, W⟩ := gh; dsimp only at hF1 hN1 ⊢
    obtain ⟨hb, hb2, hCk⟩ := hF1
    have hcm := hcm.mono hGl1
    have hW := hCk.perm.length_eq; rw [hT0l] at hW
    refine .seq ?_
    refine .seq ?_
    refine Wk.rg [0, 1, 2] rfl rfl ?_
    refine mv rfl .no (.u rfl) ?_
    refine mv rfl .no (.u rfl) ?_
    refine cp rfl .no (.u rfl) (.u rfl) rfl ?_
    refine .nil ?_
    refine .code ?_
    refine .cond rfl (fun c2 => ?_) (fun c2 => ?_)
    · have c2k := c2
      try simp only [decide_eq_true_eq, decide_eq_false_iff_not, Int.not_lt, Int.not_le, gt_iff_lt, ge_iff_le, Bool.or_eq_true, Bool.and_eq_true, Bool.or_eq_false_iff, Bool.and_eq_false_iff, Bool.not_eq_true', Bool.not_eq_false', Int.toNat_natCast, bne_iff_ne, beq_iff_eq, bne_eq_false_iff_eq, beq_eq_false_iff_ne, ne_eq] at c2
      refine .skip ?_
      refine .code ?_
      refine .block ?_
      refine .seq ?_
      refine Wk.rg [0, 1, 2, 3] rfl rfl ?_
      refine mv rfl .no (.u rfl) ?_
      refine arn (((bs + bs) : Nat) : Int) rfl .no (.u rfl) (.u rfl) rfl (fun _ => by omega) (fun _ => wrap_i64 (by omega) (by omega)) ?_
      refine asg rfl .no (.u rfl) ?_
      refine asg rfl .no (.u rfl) ?_
      refine .nil ?_
      refine .code ?_
      refine .seq ?_
      refine .block ?_
      refine Wk.lop (α := List TM × List TM × List TM × List TM) (fun gh => [(7, true, .int .i64 (gh.1.length : Int)), (8, true, .int .i64 ((gh.1.length + (bs + bs) : Nat) : Int))]) (fun gh => [rS 40 Meta.cells v 48 (ms (gh.1 ++ gh.2.2.1))])
        (fun gh Gl => (∀ r ro, Ck (ltv cv) (bs + bs) r ro → Ck (ltv cv) (bs + bs) (gh.1 ++ r) (gh.2.1 ++ ro)) ∧ (Ck (ltv cv) bs gh.2.2.1 gh.2.2.2) ∧ (gh.2.1 ++ gh.2.2.2 = (xs.zipIdx 0)) ∧ (gh.1.length + gh.2.2.1.length = xs.length)) (fun gh => gh.2.2.1.length) ([], [], W, (xs.zipIdx 0)) [(0, true, _), (1, true, _), (2, true, _), (6, true, _)] []
        (ESub.cons rfl rfl (ESub.cons rfl (evi (by first | rfl | omega | (dsimp only; omega) | (simp only [List.length_nil]; omega))) (ESub.cons rfl rfl (ESub.cons rfl rfl (ESub.cons rfl rfl (ESub.cons rfl rfl ESub.nil))))))
        (MSub.cons .here (by rw [List.nil_append]) MSub.nil) ?_ ?_
      · refine ⟨?_, ?_, ?_, ?_⟩
        · (try dsimp only) <;> (exact fun r ro h => h)
        · (try dsimp only) <;> (exact hCk)
        · (try dsimp only) <;> (rfl)
        · (try dsimp only) <;> (exact (by first | omega | (simp only [List.length_append, List.length_take, List.length_drop, ms_len, List.length_nil] <;> omega)))
      intro gh N2 Gl2 hN2 hGl2 hF2
      obtain ⟨D, DO, T, O⟩ := gh; dsimp only at hF2 hN2 ⊢
      obtain ⟨hD, hC, hO, hDT⟩ := hF2
      have hcm := hcm.mono hGl2
      refine .seq ?_
      refine .seq ?_
      refine Wk.rg [0, 1, 2] rfl rfl ?_
      refine mv rfl .no (.u rfl) ?_
      refine mv rfl .no (.u rfl) ?_
      refine cp rfl .no (.u rfl) (.u rfl) rfl ?_
      refine .nil ?_
      refine .code ?_
      refine .cond rfl (fun c3 => ?_) (fun c3 => ?_)
      · have c3k := c3
        try simp only [decide_eq_true_eq, decide_eq_false_iff_not, Int.not_lt, Int.not_le, gt_iff_lt, ge_iff_le, Bool.or_eq_true, Bool.and_eq_true, Bool.or_eq_false_iff, Bool.and_eq_false_iff, Bool.not_eq_true', Bool.not_eq_false', Int.toNat_natCast, bne_iff_ne, beq_iff_eq, bne_eq_false_iff_eq, beq_eq_false_iff_ne, ne_eq] at c3
        refine .skip ?_
        refine .code ?_
        refine .block ?_
        refine .seq ?_
        obtain ⟨s1, s2, o1, o2, T1, O1, rfl, rfl, l1, l2, l3, l4, hs1, hs2, hp1, hp2, hC1⟩ := hC.two hb (by omega)
        simp only [List.length_append] at hDT
        refine Wk.rg [0, 1, 2, 3, 4, 5, 6, 7] rfl rfl ?_
        refine mv rfl .no (.u rfl) ?_
        refine mv rfl .no (.u rfl) ?_
        refine mv rfl .no (.u rfl) ?_
        refine mv rfl .no (.u rfl) ?_
        refine arn (((D.length + bs) : Nat) : Int) rfl .no (.u rfl) (.u rfl) rfl (fun _ => by omega) (fun _ => wrap_i64 (by omega) (by omega)) ?_
        refine mv rfl .no (.u rfl) ?_
        refine mv rfl .no (.u rfl) ?_
        refine ka rfl (.inr rfl) Fx.go76 (Eva.cons (.u rfl) (Eva.cons (.u rfl) (Eva.cons (.u rfl) (Eva.cons (.u rfl) (Eva.cons (.u rfl) Eva.nil))))) (mtk1 .here) (symM_ok D s1 s2 T1 _ _ _ _ f hf vc cv _ hcm hw (by first | omega | (simp only [List.length_append, List.length_take, List.length_drop, ms_len, List.length_nil] <;> omega)) (by first | omega | (simp only [List.length_append, List.length_take, List.length_drop, ms_len, List.length_nil] <;> omega)) (by first | omega | (simp only [List.length_append, List.length_take, List.length_drop, ms_len, List.length_nil] <;> omega)) (by first | omega | (simp only [List.length_append, List.length_take, List.length_drop, ms_len, List.length_nil] <;> omega)) (by first | omega | (simp only [List.length_append, List.length_take, List.length_drop, ms_len, List.length_nil] <;> omega)) hs1 hs2 (tag_lt hT0 hO hp1 hp2) _ (by simp only [ms, List.map_append, List.append_assoc]) (by first | omega | (simp only [List.length_append, List.length_take, List.length_drop, ms_len, List.length_nil] <;> omega))) ?_
        rintro _ G43 μ43 hG43 ⟨S', pS, sS, rfl, rfl⟩
        have lS := pS.length_eq; rw [List.length_append] at lS
        have hcm := hcm.mono hG43
        refine .nil ?_
        refine .code ?_
        refine .seq ?_
        refine Wk.rg [0, 1] rfl rfl ?_
        refine mv rfl .no (.u rfl) ?_
        refine asg rfl .no (.u rfl) ?_
        refine .nil ?_
        refine .code ?_
        refine Wk.rg [0, 1, 2, 3, 4] rfl rfl ?_
        refine mv rfl .no (.u rfl) ?_
        refine mv rfl .no (.u rfl) ?_
        refine arn (((bs + bs) : Nat) : Int) rfl .no (.u rfl) (.u rfl) rfl (fun _ => by omega) (fun _ => wrap_i64 (by omega) (by omega)) ?_
        refine arn (((D.length + S'.length + (bs + bs)) : Nat) : Int) rfl .no (.u rfl) (.u rfl) rfl (fun _ => by (try simp only [List.length_append]); omega) (fun _ => wrap_i64 (by omega) (by omega)) ?_
        refine asg rfl .no (.u rfl) ?_
        refine .nil ?_
        refine .blk ?_
        refine We.lpo (D ++ S', DO ++ (o1 ++ o2), T1, O1) ?_ ?_ ?_ ?_ ?_
        · exact (ESub.cons rfl (evi (by first | omega | (simp only [List.length_append, List.length_take, List.length_drop, ms_len, List.length_nil] <;> omega))) (ESub.cons rfl (evi (by first | omega | (simp only [List.length_append, List.length_take, List.length_drop, ms_len, List.length_nil] <;> omega))) (ESub.cons rfl rfl (ESub.cons rfl rfl (ESub.cons rfl rfl (ESub.cons rfl rfl ESub.nil))))))
        · exact (MSub.cons .here rfl MSub.nil)
        · simp only [List.length_append] at hN2; dsimp only; omega
        · exact (hGl2).trans hG43
        · refine ⟨?_, ?_, ?_, ?_⟩
          · (try dsimp only) <;> (exact fun r ro h => by (rw [List.append_assoc, List.append_assoc]; exact hD _ _ (.cons (by omega) sS (pS.trans (hp1.append hp2)) h)))
          · (try dsimp only) <;> (exact hC1)
          · (try dsimp only) <;> (rw [List.append_assoc]; exact hO)
          · (try dsimp only) <;> (exact (by first | omega | (simp only [List.length_append, List.length_take, List.length_drop, ms_len, List.length_nil] <;> omega)))
      · have c3k := c3
        try simp only [decide_eq_true_eq, decide_eq_false_iff_not, Int.not_lt, Int.not_le, gt_iff_lt, ge_iff_le, Bool.or_eq_true, Bool.and_eq_true, Bool.or_eq_false_iff, Bool.and_eq_false_iff, Bool.not_eq_true', Bool.not_eq_false', Int.toNat_natCast, bne_iff_ne, beq_iff_eq, bne_eq_false_iff_eq, beq_eq_false_iff_ne, ne_eq] at c3
        refine .exit ?_
        refine .xcode ?_
        refine .xlp ?_
        refine .xblk ?_
        refine .code ?_
        refine .seq ?_
        refine .seq ?_
        refine Wk.rg [0, 1, 2, 3] rfl rfl ?_
        refine mv rfl .no (.u rfl) ?_
        refine mv rfl .no (.u rfl) ?_
        refine arn (((D.length + bs) : Nat) : Int) rfl .no (.u rfl) (.u rfl) rfl (fun _ => by omega) (fun _ => wrap_i64 (by omega) (by omega)) ?_
        refine asg rfl .no (.u rfl) ?_
        refine .nil ?_
        refine .code ?_
        refine .seq ?_
        refine Wk.rg [0, 1, 2] rfl rfl ?_
        refine mv rfl .no (.u rfl) ?_
        refine mv rfl .no (.u rfl) ?_
        refine cp rfl .no (.u rfl) (.u rfl) rfl ?_
        refine .nil ?_
        refine .code ?_
        refine .cond rfl (fun c4 => ?_) (fun c4 => ?_)
        · have c4k := c4
          try simp only [decide_eq_true_eq, decide_eq_false_iff_not, Int.not_lt, Int.not_le, gt_iff_lt, ge_iff_le, Bool.or_eq_true, Bool.and_eq_true, Bool.or_eq_false_iff, Bool.and_eq_false_iff, Bool.not_eq_true', Bool.not_eq_false', Int.toNat_natCast, bne_iff_ne, beq_iff_eq, bne_eq_false_iff_eq, beq_eq_false_iff_ne, ne_eq] at c4
          obtain ⟨s1, s2, o1, o2, rfl, rfl, l1, l2, l3, hs1, hs2, hp1, hp2⟩ := hC.rest hb (by omega) (by omega)
          simp only [List.length_append] at hDT
          refine Wk.rg [0, 1, 2, 3, 4, 5] rfl rfl ?_
          refine mv rfl .no (.u rfl) ?_
          refine mv rfl .no (.u rfl) ?_
          refine mv rfl .no (.u rfl) ?_
          refine mv rfl .no (.u rfl) ?_
          refine mv rfl .no (.u rfl) ?_
          refine ka rfl (.inr rfl) Fx.go76 (Eva.cons (.u rfl) (Eva.cons (.u rfl) (Eva.cons (.u rfl) (Eva.cons (.u rfl) (Eva.cons (.u rfl) Eva.nil))))) (mtk1 .here) (symM_ok D s1 s2 [] _ _ _ _ f hf vc cv _ hcm hw (by first | omega | (simp only [List.length_append, List.length_take, List.length_drop, ms_len, List.length_nil] <;> omega)) (by first | omega | (simp only [List.length_append, List.length_take, List.length_drop, ms_len, List.length_nil] <;> omega)) (by first | omega | (simp only [List.length_append, List.length_take, List.length_drop, ms_len, List.length_nil] <;> omega)) (by first | omega | (simp only [List.length_append, List.length_take, List.length_drop, ms_len, List.length_nil] <;> omega)) (by first | omega | (simp only [List.length_append, List.length_take, List.length_drop, ms_len, List.length_nil] <;> omega)) hs1 hs2 (tag_lt (X := DO) (Z := []) hT0 (by rw [List.append_nil]; exact hO) hp1 hp2) _ (by simp only [ms, List.map_append, List.append_assoc, List.append_nil]) (by first | omega | (simp only [List.length_append, List.length_take, List.length_drop, ms_len, List.length_nil] <;> omega))) ?_
          rintro _ G60 μ60 hG60 ⟨S', pS, sS, rfl, rfl⟩
          have lS := pS.length_eq; rw [List.length_append] at lS
          have hcm := hcm.mono hG60
          refine .nil ?_
          refine .code ?_
          refine Wk.rg [0, 1, 2] rfl rfl ?_
          refine mv rfl .no (.u rfl) ?_
          refine arn (((bs + bs) : Nat) : Int) rfl .no (.u rfl) (.u rfl) rfl (fun _ => by omega) (fun _ => wrap_i64 (by omega) (by omega)) ?_
          refine asg rfl .no (.u rfl) ?_
          refine .nil ?_
          refine .blk ?_
          refine We.lpo (bs + bs, D ++ S') ?_ ?_ ?_ ?_ ?_
          · exact (ESub.cons rfl (by first | rfl | exact evi (by omega)) (ESub.cons rfl rfl (ESub.cons rfl rfl (ESub.cons rfl rfl ESub.nil))))
          · exact (MSub.cons .here (by rw [List.append_nil]) MSub.nil)
          · first | omega | (dsimp only; omega)
          · exact ((hGl1).trans hGl2).trans hG60
          · refine ⟨?_, ?_, ?_⟩
            · (try dsimp only) <;> (first | omega | rfl | assumption | (simp; done))
            · (try dsimp only) <;> (first | omega | rfl | assumption | (simp; done))
            · (try dsimp only) <;> (rw [← hO]; exact hD _ _ (.last (by omega) sS (pS.trans (hp1.append hp2))))
        · have c4k := c4
          try simp only [decide_eq_true_eq, decide_eq_false_iff_not, Int.not_lt, Int.not_le, gt_iff_lt, ge_iff_le, Bool.or_eq_true, Bool.and_eq_true, Bool.or_eq_false_iff, Bool.and_eq_false_iff, Bool.not_eq_true', Bool.not_eq_false', Int.toNat_natCast, bne_iff_ne, beq_iff_eq, bne_eq_false_iff_eq, beq_eq_false_iff_ne, ne_eq] at c4
          refine .skip ?_
          refine .code ?_
          refine Wk.rg [0, 1, 2] rfl rfl ?_
          refine mv rfl .no (.u rfl) ?_
          refine arn (((bs + bs) : Nat) : Int) rfl .no (.u rfl) (.u rfl) rfl (fun _ => by omega) (fun _ => wrap_i64 (by omega) (by omega)) ?_
          refine asg rfl .no (.u rfl) ?_
          refine .nil ?_
          refine .blk ?_
          refine We.lpo (bs + bs, D ++ T) ?_ ?_ ?_ ?_ ?_
          · exact (ESub.cons rfl (by first | rfl | exact evi (by omega)) (ESub.cons rfl rfl (ESub.cons rfl rfl (ESub.cons rfl rfl ESub.nil))))
          · exact (MSub.cons .here rfl MSub.nil)
          · first | omega | (dsimp only; omega)
          · exact (hGl1).trans hGl2
          · refine ⟨?_, ?_, ?_⟩
            · (try dsimp only) <;> (first | omega | rfl | assumption | (simp; done))
            · (try dsimp only) <;> (first | omega | rfl | assumption | (simp; done))
            · (try dsimp only) <;> (rw [← hO]; exact hD _ _ (.last (by omega) (hC.big hb (by omega)).1 (hC.big hb (by omega)).2))
    · have c2k := c2
      try simp only [decide_eq_true_eq, decide_eq_false_iff_not, Int.not_lt, Int.not_le, gt_iff_lt, ge_iff_le, Bool.or_eq_true, Bool.and_eq_true, Bool.or_eq_false_iff, Bool.and_eq_false_iff, Bool.not_eq_true', Bool.not_eq_false', Int.toNat_natCast, bne_iff_ne, beq_iff_eq, bne_eq_false_iff_eq, beq_eq_false_iff_ne, ne_eq] at c2
      refine .exit ?_
      refine .xcode ?_
      refine .xlp ?_
      refine .xblk ?_
      refine .nil ?_
      refine We.fin Try.results71 .nil (MSub.cons .here rfl MSub.nil) ?_
      obtain ⟨q1, q2⟩ := hCk.big hb (by omega)
      rw [ms_sort hw q1 q2]; exact ⟨rfl, rfl⟩

theorem ssf_ok (xs : List Meta) (v : Value) (f : Nat) (hf : goFn Try.prog f = true) (vc : List Value) (cv : Meta → Meta → Int) (G : PM) (hcm : CmpR Try.prog f vc cv G) (hw : Wk0 (ltv cv)) (hl : xs.length ≤ 500000000) : Ct Try.prog 53 ([v, .func (.func f) #[] vc.toArray] : List Value).toArray G [rS 40 Meta.cells v 48 xs] (fun _ μ' u => μ' = [rS 40 Meta.cells v 48 (sortS (ltv cv) xs)] ∧ u = .tuple #[]) := by
  refine Ct.of Try.func53 rfl Try.ntmps53 rfl fun w0 hs0 => ?_
  refine Wk.rg [0, 1, 2, 3, 4] rfl rfl ?_
  refine mv rfl .no (.u rfl) ?_
  refine mv rfl .no (.u rfl) ?_
  refine lr rfl .no FxVeSd.sn22 (.u rfl) .here ?_
  refine mv rfl .no (.u rfl) ?_
  refine ka rfl (.inr rfl) Fx.go71 (Eva.cons (.u rfl) (Eva.cons (.u rfl) (Eva.cons (.u rfl) Eva.nil))) (mtk1 .here) (stb_ok xs _ _ f hf vc cv _ hcm hw rfl hl) ?_
  rintro _ G8 μ8 hG8 ⟨rfl, rfl⟩
  have hcm := hcm.mono hG8
  refine .nil ?_
  refine .nil ?_
  refine We.fin Try.results53 .nil (MSub.cons .here rfl MSub.nil) ?_
  exact ⟨rfl, rfl⟩

end Go.Proofs.Ytnhdaaggkdegpaa

namespace Go.Proofs.Ytnhdaaggkdegpaa
set_option linter.unusedSimpArgs false
set_option linter.unusedVariables false
open Go.Tan Go.RowKit

namespace Fx
theorem go72 : goFn Try.prog 72 = true := by kernel_rfl
theorem go73 : goFn Try.prog 73 = true := by kernel_rfl
theorem go55 : goFn Try.prog 55 = true := by kernel_rfl
theorem go56 : goFn Try.prog 56 = true := by kernel_rfl
end Fx
theorem del_ok (xs : List Meta) (v : Value) (k : Nat) (G : PM) (hk : k < xs.length) (hl : xs.length ≤ 1000000000) : Ct Try.prog 52 ([v, .int .i64 (k : Int), .int .i64 ((k + 1 : Nat) : Int)] : List Value).toArray G [rS 40 Meta.cells v 48 xs] (fun _ μ' u => μ' = [rS 40 Meta.cells u 48 (xs.take k ++ xs.drop (k + 1))]) := by
  refine Ct.of Try.func52 rfl Try.ntmps52 rfl fun w0 hs0 => ?_
  have hxr : (xs.take k ++ xs.drop (k + 1)).length = xs.length - 1 := by simp; omega
  refine .seq ?_
  refine Wk.rg [0] rfl rfl ?_
  refine asg rfl .no (.u rfl) ?_
  refine .nil ?_
  refine .code ?_
  refine .seq ?_
  refine wk_rv .here (by omega) ?_; intro bbR capR evR lcR; subst evR
  refine Wk.rg [0, 1, 2, 3, 4, 5] rfl rfl ?_
  refine mv rfl .no (.u rfl) ?_
  refine mv rfl .no (.u rfl) ?_
  refine mv rfl .no (.u rfl) ?_
  refine mv rfl .no (.u rfl) ?_
  refine lr rfl .no Fx.sn22 (.u rfl) .here ?_
  refine s3 rfl Fx.se22 (.u rfl) (.u rfl) (.u rfl) (.u rfl) (by omega) (by omega) (by omega) (by omega) ?_; intro v13
  refine .nil ?_
  refine .code ?_
  refine .seq ?_
  refine .seq ?_
  refine Wk.rg [0, 1, 2] rfl rfl ?_
  refine mv rfl .no (.u rfl) ?_
  refine mv rfl .no (.u rfl) ?_
  refine cp rfl .no (.u rfl) (.u rfl) rfl ?_
  refine .nil ?_
  refine .code ?_
  refine .cond rfl (fun c1 => ?_) (fun c1 => ?_)
  · have c1k := c1
    exfalso; simp at c1; omega
  · have c1k := c1
    try simp only [decide_eq_true_eq, decide_eq_false_iff_not, Int.not_lt, Int.not_le, gt_iff_lt, ge_iff_le, Bool.or_eq_true, Bool.and_eq_true, Bool.or_eq_false_iff, Bool.not_eq_true', Bool.not_eq_false', Int.toNat_natCast, bne_iff_ne, beq_iff_eq, bne_eq_false_iff_eq, beq_eq_false_iff_ne, ne_eq] at c1
    refine .skip ?_
    refine .code ?_
    refine .seq ?_
    refine Wk.rg [0, 1, 2] rfl rfl ?_
    refine mv rfl .no (.u rfl) ?_
    refine lr rfl .no Fx.sn22 (.u rfl) .here ?_
    refine asg rfl .no (.u rfl) ?_
    refine .nil ?_
    refine .code ?_
    refine .seq ?_
    refine Wk.draw (mc := ⟨false, false⟩) [0, 1, 2, 3, 4, 5, 6, 7] Fx.mix (by kernel_rfl) ?_
    refine mv rfl .no (.u rfl) ?_
    refine mv rfl .no (.u rfl) ?_
    refine srh k rfl Fx.se22 (.u rfl) (.u rfl) rfl (by omega) ?_
    refine mv rfl .no (.u rfl) ?_
    refine mv rfl .no (.u rfl) ?_
    refine slz (k + 1) rfl Fx.se22 (.u rfl) (.u rfl) rfl (by omega) (by omega) ?_; intro oa25 hoa25
    refine apD (q := k) (r := k + 1) rfl Fx.se22 (.u rfl) (.u rfl) .here hoa25 (fun _ _ => Meta.len _) (metas_one _) (by omega) (by omega) ?_
    refine asg rfl .no (.u rfl) ?_
    refine .nil ?_
    refine .code ?_
    refine .seq ?_
    refine Wk.rg [0, 1, 2, 3, 4, 5] rfl rfl ?_
    refine mv rfl .no (.u rfl) ?_
    refine mv rfl .no (.u rfl) ?_
    refine lr rfl .no Fx.sn22 (.u rfl) .here ?_
    refine mv rfl .no (.u rfl) ?_
    refine sll (xs.take k ++ xs.drop (k + 1)).length xs.length rfl Fx.se22 (.u rfl) (.u rfl) (.u rfl) rfl rfl (by omega) (by omega) (by omega) ?_
    refine clT rfl Fx.se22 Fx.zw48 rfl (by decide) (.u rfl) .here (by omega) (by omega) (fun _ _ => Meta.len _) ?_
    refine .nil ?_
    refine .code ?_
    refine .seq ?_
    refine Wk.rg [0, 1] rfl rfl ?_
    refine mv rfl .no (.u rfl) ?_
    refine asg rfl .no (.u rfl) ?_
    refine .nil ?_
    refine .code ?_
    refine .ret ?_
    refine We.fin Try.results52 (.tmp rfl .nil) (MSub.cons .here rfl MSub.nil) ?_
    exact rfl

theorem clone_ok (h : Sh) (l : List Meta) (G : PM) (hs : SlR G 40 Meta.cells h l) (hl : l.length ≤ 1000000) : Ct Try.prog 49 ([h.val l.length] : List Value).toArray G [] (fun _ μ' u => u.oneCell' = true ∧ μ' = [rS 40 Meta.cells u 48 l]) := by
  refine Ct.of Try.func49 rfl Try.ntmps49 rfl fun w0 hs0 => ?_
  refine .seq ?_
  refine Wk.rg [0] rfl rfl ?_
  refine asg rfl .no (.u rfl) ?_
  refine .nil ?_
  refine .code ?_
  refine .seq ?_
  refine .seq ?_
  refine Wk.rg [0, 1] rfl rfl ?_
  refine mv rfl .no (.u rfl) ?_
  refine sn0 rfl .no Fx.sn22 (.u rfl) (.u rfl) ?_
  refine .nil ?_
  refine .code ?_
  refine .cond rfl (fun c1 => ?_) (fun c1 => ?_)
  · have c1k := c1
    try simp only [decide_eq_true_eq, decide_eq_false_iff_not, Int.not_lt, Int.not_le, gt_iff_lt, ge_iff_le, Bool.or_eq_true, Bool.and_eq_true, Bool.or_eq_false_iff, Bool.not_eq_true', Bool.not_eq_false', Int.toNat_natCast, bne_iff_ne, beq_iff_eq, bne_eq_false_iff_eq, beq_eq_false_iff_ne, ne_eq] at c1
    refine .seq ?_
    refine Wk.rg [0] rfl rfl ?_
    refine asg rfl .no (.u rfl) ?_
    refine .nil ?_
    refine .code ?_
    refine .ret ?_
    have hn : l = [] := by
      cases l with
      | nil => rfl
      | cons x l => have := hs.there (by simp); rw [this] at c1; cases c1
    refine we_nilS 40 Meta.cells 48 ?_
    refine We.fin Try.results49 (.tmp rfl .nil) (MSub.cons .here rfl MSub.nil) ?_
    exact ⟨rfl, by rw [hn]; rfl⟩
  · have c1k := c1
    try simp only [decide_eq_true_eq, decide_eq_false_iff_not, Int.not_lt, Int.not_le, gt_iff_lt, ge_iff_le, Bool.or_eq_true, Bool.and_eq_true, Bool.or_eq_false_iff, Bool.not_eq_true', Bool.not_eq_false', Int.toNat_natCast, bne_iff_ne, beq_iff_eq, bne_eq_false_iff_eq, beq_eq_false_iff_ne, ne_eq] at c1
    refine .skip ?_
    refine .code ?_
    refine .seq ?_
    refine Wk.rg [0, 1, 2, 3] rfl rfl ?_
    refine b0 rfl rfl Fx.se22 ?_; intro v5
    refine mv rfl .no (.u rfl) ?_
    refine apL (xs := ([] : List Meta)) rfl Fx.se22 Fx.zw48 rfl (.u rfl) (.u rfl) .here hs (fun _ _ => Meta.len _) (metas_one _) (by simp only [List.length_nil]; omega) (by unfold maxLen; simp only [List.length_nil]; omega) ?_; intro v7 ov7
    refine asg rfl .no (.u rfl) ?_
    refine .nil ?_
    refine .code ?_
    refine .ret ?_
    refine We.fin Try.results49 (.tmp rfl .nil) (MSub.cons .here rfl MSub.nil) ?_
    exact ⟨ov7, rfl⟩

theorem nanU (x : Int) (G : PM) : Ct Try.prog 72 ([.int .u64 x] : List Value).toArray G [] (fun _ μ' u => μ' = [] ∧ u = .bool false) := by
  refine Ct.of Try.func72 rfl Try.ntmps72 rfl fun w0 hs0 => ?_
  refine .seq ?_
  refine Wk.rg [0] rfl rfl ?_
  refine asg rfl .no (.u rfl) ?_
  refine .nil ?_
  refine .code ?_
  refine .seq ?_
  refine Wk.rg [0, 1, 2, 3] rfl rfl ?_
  refine mv rfl .no (.u rfl) ?_
  refine mv rfl .no (.u rfl) ?_
  refine cp rfl .no (.u rfl) (.u rfl) rfl ?_
  refine asg rfl .no (.u rfl) ?_
  refine .nil ?_
  refine .code ?_
  refine .ret ?_
  refine We.fin0 Try.results72 (.tmp rfl .nil) ?_
  exact ⟨rfl, congrArg Value.bool (by simp)⟩

theorem nanS (x : ByteArray) (G : PM) : Ct Try.prog 73 ([.string x] : List Value).toArray G [] (fun _ μ' u => μ' = [] ∧ u = .bool false) := by
  refine Ct.of Try.func73 rfl Try.ntmps73 rfl fun w0 hs0 => ?_
  refine .seq ?_
  refine Wk.rg [0] rfl rfl ?_
  refine asg rfl .no (.u rfl) ?_
  refine .nil ?_
  refine .code ?_
  refine .seq ?_
  refine Wk.rg [0, 1, 2, 3] rfl rfl ?_
  refine mv rfl .no (.u rfl) ?_
  refine mv rfl .no (.u rfl) ?_
  refine cs rfl .no (.u rfl) (.u rfl) rfl ?_
  refine asg rfl .no (.u rfl) ?_
  refine .nil ?_
  refine .code ?_
  refine .ret ?_
  refine We.fin0 Try.results73 (.tmp rfl .nil) ?_
  exact ⟨rfl, congrArg Value.bool (by simp)⟩

theorem cmpU_ok (x y : Int) (G : PM) : Ct Try.prog 55 ([.int .u64 x, .int .u64 y] : List Value).toArray G [] (fun _ μ' u => μ' = [] ∧ u = .int .i64 (cmpN x y)) := by
  refine Ct.of Try.func55 rfl Try.ntmps55 rfl fun w0 hs0 => ?_
  refine .seq ?_
  refine Wk.rg [0] rfl rfl ?_
  refine asg rfl .no (.u rfl) ?_
  refine .nil ?_
  refine .code ?_
  refine .seq ?_
  refine Wk.rg [0, 1, 2] rfl rfl ?_
  refine mv rfl .no (.u rfl) ?_
  refine kv rfl .no Fx.go72 (Eva.cons (.u rfl) Eva.nil) (fun _ => nanU _ _) ?_
  refine asg rfl .no (.u rfl) ?_
  refine .nil ?_
  refine .code ?_
  refine .seq ?_
  refine Wk.rg [0, 1, 2] rfl rfl ?_
  refine mv rfl .no (.u rfl) ?_
  refine kv rfl .no Fx.go72 (Eva.cons (.u rfl) Eva.nil) (fun _ => nanU _ _) ?_
  refine asg rfl .no (.u rfl) ?_
  refine .nil ?_
  refine .code ?_
  refine .seq ?_
  refine .seq ?_
  refine Wk.rg [0] rfl rfl ?_
  refine mv rfl .no (.u rfl) ?_
  refine .nil ?_
  refine .code ?_
  refine .cond rfl (fun c1 => ?_) (fun c1 => ?_)
  · have c1k := c1
    cases c1
  · have c1k := c1
    try simp only [decide_eq_true_eq, decide_eq_false_iff_not, Int.not_lt, Int.not_le, gt_iff_lt, ge_iff_le, Bool.or_eq_true, Bool.and_eq_true, Bool.or_eq_false_iff, Bool.not_eq_true', Bool.not_eq_false', Int.toNat_natCast, bne_iff_ne, beq_iff_eq, bne_eq_false_iff_eq, beq_eq_false_iff_ne, ne_eq] at c1
    refine .skip ?_
    refine .code ?_
    refine .seq ?_
    refine .seq ?_
    refine Wk.rg [0] rfl rfl ?_
    refine mv rfl .no (.u rfl) ?_
    refine .nil ?_
    refine .code ?_
    refine .cond rfl (fun c2 => ?_) (fun c2 => ?_)
    · have c2k := c2
      cases c2
    · have c2k := c2
      try simp only [decide_eq_true_eq, decide_eq_false_iff_not, Int.not_lt, Int.not_le, gt_iff_lt, ge_iff_le, Bool.or_eq_true, Bool.and_eq_true, Bool.or_eq_false_iff, Bool.not_eq_true', Bool.not_eq_false', Int.toNat_natCast, bne_iff_ne, beq_iff_eq, bne_eq_false_iff_eq, beq_eq_false_iff_ne, ne_eq] at c2
      refine .skip ?_
      refine .code ?_
      refine .seq ?_
      refine .seq ?_
      refine Wk.rg [0, 1, 2] rfl rfl ?_
      refine mv rfl .no (.u rfl) ?_
      refine mv rfl .no (.u rfl) ?_
      refine cp rfl .no (.u rfl) (.u rfl) rfl ?_
      refine .nil ?_
      refine .code ?_
      refine .cond rfl (fun c3 => ?_) (fun c3 => ?_)
      · have c3k := c3
        try simp only [decide_eq_true_eq, decide_eq_false_iff_not, Int.not_lt, Int.not_le, gt_iff_lt, ge_iff_le, Bool.or_eq_true, Bool.and_eq_true, Bool.or_eq_false_iff, Bool.not_eq_true', Bool.not_eq_false', Int.toNat_natCast, bne_iff_ne, beq_iff_eq, bne_eq_false_iff_eq, beq_eq_false_iff_ne, ne_eq] at c3
        refine .seq ?_
        refine Wk.rg [0] rfl rfl ?_
        refine asg rfl .no (.u rfl) ?_
        refine .nil ?_
        refine .code ?_
        refine .ret ?_
        refine We.fin0 Try.results55 (.tmp rfl .nil) ?_
        exact ⟨rfl, by unfold cmpN; rw [if_pos c3]; rfl⟩
      · have c3k := c3
        try simp only [decide_eq_true_eq, decide_eq_false_iff_not, Int.not_lt, Int.not_le, gt_iff_lt, ge_iff_le, Bool.or_eq_true, Bool.and_eq_true, Bool.or_eq_false_iff, Bool.not_eq_true', Bool.not_eq_false', Int.toNat_natCast, bne_iff_ne, beq_iff_eq, bne_eq_false_iff_eq, beq_eq_false_iff_ne, ne_eq] at c3
        refine .skip ?_
        refine .code ?_
        refine .seq ?_
        refine .seq ?_
        refine Wk.rg [0, 1, 2] rfl rfl ?_
        refine mv rfl .no (.u rfl) ?_
        refine mv rfl .no (.u rfl) ?_
        refine cp rfl .no (.u rfl) (.u rfl) rfl ?_
        refine .nil ?_
        refine .code ?_
        refine .cond rfl (fun c4 => ?_) (fun c4 => ?_)
        · have c4k := c4
          try simp only [decide_eq_true_eq, decide_eq_false_iff_not, Int.not_lt, Int.not_le, gt_iff_lt, ge_iff_le, Bool.or_eq_true, Bool.and_eq_true, Bool.or_eq_false_iff, Bool.not_eq_true', Bool.not_eq_false', Int.toNat_natCast, bne_iff_ne, beq_iff_eq, bne_eq_false_iff_eq, beq_eq_false_iff_ne, ne_eq] at c4
          refine .seq ?_
          refine Wk.rg [0] rfl rfl ?_
          refine asg rfl .no (.u rfl) ?_
          refine .nil ?_
          refine .code ?_
          refine .ret ?_
          refine We.fin0 Try.results55 (.tmp rfl .nil) ?_
          exact ⟨rfl, by unfold cmpN; rw [if_neg (by omega), if_pos c4]; rfl⟩
        · have c4k := c4
          try simp only [decide_eq_true_eq, decide_eq_false_iff_not, Int.not_lt, Int.not_le, gt_iff_lt, ge_iff_le, Bool.or_eq_true, Bool.and_eq_true, Bool.or_eq_false_iff, Bool.not_eq_true', Bool.not_eq_false', Int.toNat_natCast, bne_iff_ne, beq_iff_eq, bne_eq_false_iff_eq, beq_eq_false_iff_ne, ne_eq] at c4
          refine .skip ?_
          refine .code ?_
          refine .seq ?_
          refine Wk.rg [0] rfl rfl ?_
          refine asg rfl .no (.u rfl) ?_
          refine .nil ?_
          refine .code ?_
          refine .ret ?_
          refine We.fin0 Try.results55 (.tmp rfl .nil) ?_
          exact ⟨rfl, by unfold cmpN; rw [if_neg (by omega), if_neg (by omega)]; rfl⟩

theorem cmpT_ok (x y : ByteArray) (G : PM) : Ct Try.prog 56 ([.string x, .string y] : List Value).toArray G [] (fun _ μ' u => μ' = [] ∧ u = .int .i64 (cmpT x y)) := by
  refine Ct.of Try.func56 rfl Try.ntmps56 rfl fun w0 hs0 => ?_
  refine .seq ?_
  refine Wk.rg [0] rfl rfl ?_
  refine asg rfl .no (.u rfl) ?_
  refine .nil ?_
  refine .code ?_
  refine .seq ?_
  refine Wk.rg [0, 1, 2] rfl rfl ?_
  refine mv rfl .no (.u rfl) ?_
  refine kv rfl .no Fx.go73 (Eva.cons (.u rfl) Eva.nil) (fun _ => nanS _ _) ?_
  refine asg rfl .no (.u rfl) ?_
  refine .nil ?_
  refine .code ?_
  refine .seq ?_
  refine Wk.rg [0, 1, 2] rfl rfl ?_
  refine mv rfl .no (.u rfl) ?_
  refine kv rfl .no Fx.go73 (Eva.cons (.u rfl) Eva.nil) (fun _ => nanS _ _) ?_
  refine asg rfl .no (.u rfl) ?_
  refine .nil ?_
  refine .code ?_
  refine .seq ?_
  refine .seq ?_
  refine Wk.rg [0] rfl rfl ?_
  refine mv rfl .no (.u rfl) ?_
  refine .nil ?_
  refine .code ?_
  refine .cond rfl (fun c1 => ?_) (fun c1 => ?_)
  · have c1k := c1
    cases c1
  · have c1k := c1
    try simp only [decide_eq_true_eq, decide_eq_false_iff_not, Int.not_lt, Int.not_le, gt_iff_lt, ge_iff_le, Bool.or_eq_true, Bool.and_eq_true, Bool.or_eq_false_iff, Bool.not_eq_true', Bool.not_eq_false', Int.toNat_natCast, bne_iff_ne, beq_iff_eq, bne_eq_false_iff_eq, beq_eq_false_iff_ne, ne_eq] at c1
    refine .skip ?_
    refine .code ?_
    refine .seq ?_
    refine .seq ?_
    refine Wk.rg [0] rfl rfl ?_
    refine mv rfl .no (.u rfl) ?_
    refine .nil ?_
    refine .code ?_
    refine .cond rfl (fun c2 => ?_) (fun c2 => ?_)
    · have c2k := c2
      cases c2
    · have c2k := c2
      try simp only [decide_eq_true_eq, decide_eq_false_iff_not, Int.not_lt, Int.not_le, gt_iff_lt, ge_iff_le, Bool.or_eq_true, Bool.and_eq_true, Bool.or_eq_false_iff, Bool.not_eq_true', Bool.not_eq_false', Int.toNat_natCast, bne_iff_ne, beq_iff_eq, bne_eq_false_iff_eq, beq_eq_false_iff_ne, ne_eq] at c2
      refine .skip ?_
      refine .code ?_
      refine .seq ?_
      refine .seq ?_
      refine Wk.rg [0, 1, 2] rfl rfl ?_
      refine mv rfl .no (.u rfl) ?_
      refine mv rfl .no (.u rfl) ?_
      refine cs rfl .no (.u rfl) (.u rfl) rfl ?_
      refine .nil ?_
      refine .code ?_
      refine .cond rfl (fun c3 => ?_) (fun c3 => ?_)
      · have c3k := c3
        try simp only [decide_eq_true_eq, decide_eq_false_iff_not, Int.not_lt, Int.not_le, gt_iff_lt, ge_iff_le, Bool.or_eq_true, Bool.and_eq_true, Bool.or_eq_false_iff, Bool.not_eq_true', Bool.not_eq_false', Int.toNat_natCast, bne_iff_ne, beq_iff_eq, bne_eq_false_iff_eq, beq_eq_false_iff_ne, ne_eq] at c3
        refine .seq ?_
        refine Wk.rg [0] rfl rfl ?_
        refine asg rfl .no (.u rfl) ?_
        refine .nil ?_
        refine .code ?_
        refine .ret ?_
        refine We.fin0 Try.results56 (.tmp rfl .nil) ?_
        exact ⟨rfl, by rw [cmpT_lt c3k]; rfl⟩
      · have c3k := c3
        try simp only [decide_eq_true_eq, decide_eq_false_iff_not, Int.not_lt, Int.not_le, gt_iff_lt, ge_iff_le, Bool.or_eq_true, Bool.and_eq_true, Bool.or_eq_false_iff, Bool.not_eq_true', Bool.not_eq_false', Int.toNat_natCast, bne_iff_ne, beq_iff_eq, bne_eq_false_iff_eq, beq_eq_false_iff_ne, ne_eq] at c3
        refine .skip ?_
        refine .code ?_
        refine .seq ?_
        refine .seq ?_
        refine Wk.rg [0, 1, 2] rfl rfl ?_
        refine mv rfl .no (.u rfl) ?_
        refine mv rfl .no (.u rfl) ?_
        refine cs rfl .no (.u rfl) (.u rfl) rfl ?_
        refine .nil ?_
        refine .code ?_
        refine .cond rfl (fun c4 => ?_) (fun c4 => ?_)
        · have c4k := c4
          try simp only [decide_eq_true_eq, decide_eq_false_iff_not, Int.not_lt, Int.not_le, gt_iff_lt, ge_iff_le, Bool.or_eq_true, Bool.and_eq_true, Bool.or_eq_false_iff, Bool.not_eq_true', Bool.not_eq_false', Int.toNat_natCast, bne_iff_ne, beq_iff_eq, bne_eq_false_iff_eq, beq_eq_false_iff_ne, ne_eq] at c4
          refine .seq ?_
          refine Wk.rg [0] rfl rfl ?_
          refine asg rfl .no (.u rfl) ?_
          refine .nil ?_
          refine .code ?_
          refine .ret ?_
          refine We.fin0 Try.results56 (.tmp rfl .nil) ?_
          exact ⟨rfl, by rw [cmpT_gt c3k c4k]; rfl⟩
        · have c4k := c4
          try simp only [decide_eq_true_eq, decide_eq_false_iff_not, Int.not_lt, Int.not_le, gt_iff_lt, ge_iff_le, Bool.or_eq_true, Bool.and_eq_true, Bool.or_eq_false_iff, Bool.not_eq_true', Bool.not_eq_false', Int.toNat_natCast, bne_iff_ne, beq_iff_eq, bne_eq_false_iff_eq, beq_eq_false_iff_ne, ne_eq] at c4
          refine .skip ?_
          refine .code ?_
          refine .seq ?_
          refine Wk.rg [0] rfl rfl ?_
          refine asg rfl .no (.u rfl) ?_
          refine .nil ?_
          refine .code ?_
          refine .ret ?_
          refine We.fin0 Try.results56 (.tmp rfl .nil) ?_
          exact ⟨rfl, by rw [cmpT_eq c3k c4k]; rfl⟩

theorem same1_ok (m : Meta) (g : Gone) (b : Nat) (G : PM) (hb : PB G b (cl g.cells 51)) : Ct Try.prog 51 ([m.val, .pointer (some ⟨b, 0, none⟩)] : List Value).toArray G [] (fun _ μ' u => μ' = [] ∧ u = .bool (m.number == g.number)) := by
  refine Ct.of Try.func51 rfl Try.ntmps51 rfl fun w0 hs0 => ?_
  refine .seq ?_
  refine Wk.rg [0, 1] rfl rfl ?_
  refine bx rfl (.u rfl) rfl ?_; intro b2
  refine asg rfl .no (.u rfl) ?_
  refine .nil ?_
  refine .code ?_
  refine .seq ?_
  refine Wk.rg [0, 1, 2, 3, 4, 5] rfl rfl ?_
  refine fz rfl .no Fx.fo48_3 (.u rfl) ?_
  refine ld rfl .no Fx.ag24 (.u rfl) (fun _ => Rd.own .here (by first | exact wap_f rfl | rfl)) ?_
  refine fa rfl .no Fx.fo51_1 (.u rfl) ?_
  refine ld rfl .no Fx.ag24 (.u rfl) (fun _ => (hb.rd (by rfl)).rd) ?_
  refine cp rfl .no (.u rfl) (.u rfl) rfl ?_
  refine asg rfl .no (.u rfl) ?_
  refine .nil ?_
  refine .code ?_
  refine .ret ?_
  refine We.fin0 Try.results51 (.tmp rfl .nil) ?_
  exact ⟨rfl, rfl⟩

theorem cmp2_ok (a b : Meta) (i : Int) (q : Nat) (G : PM) (hb : PB G q (cl [.int .i64 i] 3)) : Ct Try.prog 54 ([a.val, b.val, .pointer (some ⟨q, 0, none⟩)] : List Value).toArray G [] (fun _ μ' u => μ' = [] ∧ u = .int .i64 (lvC i a b)) := by
  refine Ct.of Try.func54 rfl Try.ntmps54 rfl fun w0 hs0 => ?_
  refine .seq ?_
  refine Wk.rg [0, 1, 2] rfl rfl ?_
  refine bx rfl (.u rfl) rfl ?_; intro b3
  refine bx rfl (.u rfl) rfl ?_; intro b4
  refine asg rfl .no (.u rfl) ?_
  refine .nil ?_
  refine .code ?_
  refine .seq ?_
  refine .seq ?_
  refine Wk.rg [0, 1] rfl rfl ?_
  refine ld rfl .no Fx.ag3 (.u rfl) (fun _ => (hb.rd (by rfl)).rd) ?_
  refine cp rfl .no (.u rfl) (.u rfl) rfl ?_
  refine .nil ?_
  refine .code ?_
  refine .cond rfl (fun c1 => ?_) (fun c1 => ?_)
  · have c1k := c1
    try simp only [decide_eq_true_eq, decide_eq_false_iff_not, Int.not_lt, Int.not_le, gt_iff_lt, ge_iff_le, Bool.or_eq_true, Bool.and_eq_true, Bool.or_eq_false_iff, Bool.not_eq_true', Bool.not_eq_false', Int.toNat_natCast, bne_iff_ne, beq_iff_eq, bne_eq_false_iff_eq, beq_eq_false_iff_ne, ne_eq] at c1
    refine .seq ?_
    refine Wk.rg [0, 1, 2, 3, 4, 5] rfl rfl ?_
    refine fz rfl .no Fx.fo48_3 (.u rfl) ?_
    refine ld rfl .no Fx.ag24 (.u rfl) (fun _ => Rd.own .here (by first | exact wap_f rfl | rfl)) ?_
    refine fz rfl .no Fx.fo48_3 (.u rfl) ?_
    refine ld rfl .no Fx.ag24 (.u rfl) (fun _ => Rd.own (.there .here) (by first | exact wap_f rfl | rfl)) ?_
    refine kv rfl .no Fx.go55 (Eva.cons (.u rfl) (Eva.cons (.u rfl) Eva.nil)) (fun _ => cmpU_ok _ _ _) ?_
    refine asg rfl .no (.u rfl) ?_
    refine .nil ?_
    refine .code ?_
    refine .ret ?_
    refine We.fin0 Try.results54 (.tmp rfl .nil) ?_
    exact ⟨rfl, by unfold lvC; rw [if_pos (by simpa using c1k)]; rfl⟩
  · have c1k := c1
    try simp only [decide_eq_true_eq, decide_eq_false_iff_not, Int.not_lt, Int.not_le, gt_iff_lt, ge_iff_le, Bool.or_eq_true, Bool.and_eq_true, Bool.or_eq_false_iff, Bool.not_eq_true', Bool.not_eq_false', Int.toNat_natCast, bne_iff_ne, beq_iff_eq, bne_eq_false_iff_eq, beq_eq_false_iff_ne, ne_eq] at c1
    refine .skip ?_
    refine .code ?_
    refine .seq ?_
    refine Wk.rg [0, 1, 2, 3, 4, 5] rfl rfl ?_
    refine fz rfl .no Fx.fo48_6 (.u rfl) ?_
    refine ld rfl .no Fx.ag9 (.u rfl) (fun _ => Rd.own (.there .here) (by first | exact wap_f rfl | rfl)) ?_
    refine fz rfl .no Fx.fo48_6 (.u rfl) ?_
    refine ld rfl .no Fx.ag9 (.u rfl) (fun _ => Rd.own .here (by first | exact wap_f rfl | rfl)) ?_
    refine kv rfl .no Fx.go56 (Eva.cons (.u rfl) (Eva.cons (.u rfl) Eva.nil)) (fun _ => cmpT_ok _ _ _) ?_
    refine asg rfl .no (.u rfl) ?_
    refine .nil ?_
    refine .code ?_
    refine .ret ?_
    refine We.fin0 Try.results54 (.tmp rfl .nil) ?_
    exact ⟨rfl, by unfold lvC; rw [if_neg (by simpa using c1k)]; rfl⟩

theorem lvC_cmp (i : Int) (q : Nat) {G : PM} (hb : PB G q (cl [.int .i64 i] 3)) : CmpR Try.prog 54 [.pointer (some ⟨q, 0, none⟩)] (lvC i) G := ⟨fun G' hle a b => cmp2_ok a b i q G' (hb.mono hle)⟩
theorem lvC_wk (i : Int) : Wk0 (ltv (lvC i)) := by rw [ltv_lvC]; exact lvLt_wk i
end Go.Proofs.Ytnhdaaggkdegpaa
