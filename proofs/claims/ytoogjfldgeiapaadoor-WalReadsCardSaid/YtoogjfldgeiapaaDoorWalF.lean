/- The laws' own lists: the first so many records, what is told, where records end. Plain data. No condition. -/
import Derived.Test.YtoogjfldgeiapaaDoorWalE
namespace Go.Tan
open Go.RowKit
def fewN : Nat → Nat → List (List Y) → Nat
  | _, _, [] => 0
  | left, i, p :: r => if 40 ≤ i ∨ left < p.length then 0 else fewN (left - p.length) (i + 1) r + 1
theorem few_le : ∀ (l : List (List Y)) (left i : Nat), fewN left i l ≤ l.length
  | [], _, _ => Nat.le_refl _
  | p :: r, left, i => by
    unfold fewN
    split
    · exact Nat.zero_le _
    · have := few_le r (left - p.length) (i + 1); simp; omega
theorem few_40 : ∀ (l : List (List Y)) (left i : Nat), i ≤ 40 → i + fewN left i l ≤ 40
  | [], _, _, h => h
  | p :: r, left, i, h => by
    unfold fewN
    split
    · exact h
    · rename_i hc
      have := few_40 r (left - p.length) (i + 1) (by omega); omega
theorem few_len : ∀ (l : List (List Y)) (left i : Nat), ∀ p ∈ l.take (fewN left i l), p.length ≤ left
  | [], _, _, p, hp => by simp at hp
  | q :: r, left, i, p, hp => by
    unfold fewN at hp
    split at hp
    · simp at hp
    · rename_i hc
      rw [List.take_succ_cons] at hp
      rcases List.mem_cons.1 hp with rfl | hp
      · omega
      · have := few_len r (left - q.length) (i + 1) p hp; omega
def fewL (ps : List (Sh × List Y)) : List (Sh × List Y) := ps.take (fewN 20000 0 (ps.map (·.2)))
theorem few_count (ps : List (Sh × List Y)) : (fewL ps).length ≤ 40 := by
  have h1 := few_40 (ps.map (·.2)) 20000 0 (by omega)
  unfold fewL
  rw [List.length_take]; omega
theorem few_short (ps : List (Sh × List Y)) : ∀ p ∈ fewL ps, p.2.length ≤ 20000 := by
  intro p hp
  refine few_len (ps.map (·.2)) 20000 0 p.2 ?_
  rw [← List.map_take]
  exact List.mem_map.2 ⟨p, hp, rfl⟩
theorem few_stop {ps : List (Sh × List Y)} {k left : Nat} {p : Sh × List Y} (e : fewN 20000 0 (ps.map (·.2)) = k + fewN left k ((ps.map (·.2)).drop k)) (hp : ps[k]? = some p) (hc : 40 ≤ k ∨ left < p.2.length) : fewL ps = ps.take k := by
  have hk : k < (ps.map (·.2)).length := by rw [List.length_map]; exact (List.getElem?_eq_some_iff.1 hp).1
  have hd : (ps.map (·.2)).drop k = p.2 :: (ps.map (·.2)).drop (k + 1) := by
    rw [List.drop_eq_getElem_cons hk]
    congr 1
    have := (List.getElem?_eq_some_iff.1 hp).2
    simp [this]
  unfold fewL
  rw [e, hd, fewN, if_pos hc, Nat.add_zero]
theorem few_go {ps : List (Sh × List Y)} {k left : Nat} {p : Sh × List Y} (e : fewN 20000 0 (ps.map (·.2)) = k + fewN left k ((ps.map (·.2)).drop k)) (hp : ps[k]? = some p) (hc : ¬ (40 ≤ k ∨ left < p.2.length)) : fewN 20000 0 (ps.map (·.2)) = (k + 1) + fewN (left - p.2.length) (k + 1) ((ps.map (·.2)).drop (k + 1)) := by
  have hk : k < (ps.map (·.2)).length := by rw [List.length_map]; exact (List.getElem?_eq_some_iff.1 hp).1
  have hd : (ps.map (·.2)).drop k = p.2 :: (ps.map (·.2)).drop (k + 1) := by
    rw [List.drop_eq_getElem_cons hk]
    congr 1
    have := (List.getElem?_eq_some_iff.1 hp).2
    simp [this]
  rw [e, hd, fewN, if_neg hc]; omega
theorem few_all {ps : List (Sh × List Y)} {k left : Nat} (e : fewN 20000 0 (ps.map (·.2)) = k + fewN left k ((ps.map (·.2)).drop k)) (hk : k = ps.length) : fewL ps = ps := by
  unfold fewL
  rw [e, List.drop_of_length_le (by rw [List.length_map]; omega), fewN, Nat.add_zero, List.take_of_length_le (by omega)]
/-! ### A log's bytes, record by record -/
theorem rec_len (s : List Y) : (recL s).length ≤ 135 * ((s.length + 127) / 128) := out_len s _
theorem log_step {root : Nat → Y} {h : Hd} {ps : List (Sh × List Y)} {k : Nat} {p : Sh × List Y} {L : List Y} {e : Int} (hp : ps[k]? = some p) (hl : p.2.length ≤ 20000) (hL : (L, e) = layP root h (BitVec.ofInt 64 (k : Int)) p.2) :
    logL root h ((ps.map (·.2)).take (k + 1)) = logL root h ((ps.map (·.2)).take k) ++ L ∧ e = 0 ∧ L.length ≤ 30000 := by
  have hk : k < (ps.map (·.2)).length := by rw [List.length_map]; exact (List.getElem?_eq_some_iff.1 hp).1
  have hx : (ps.map (·.2))[k] = p.2 := by have := (List.getElem?_eq_some_iff.1 hp).2; simp [this]
  unfold layP at hL
  rw [if_pos (by omega)] at hL
  obtain ⟨h1, h2⟩ := Prod.mk.inj hL
  refine ⟨?_, h2, ?_⟩
  · unfold logL
    rw [List.take_succ_eq_append_getElem hk, body_app, ← List.append_assoc, hx, List.length_take, Nat.min_eq_left (by omega), Nat.zero_add, h1]
    simp [bodyL, sealAt]
  · rw [h1]
    have := rec_len (sealL (keyEnc root (headL h)) (keyMac root (headL h)) (nonceF (BitVec.ofInt 64 (k : Int))) (headL h) p.2)
    rw [seal_len] at this
    omega
theorem log_len (root : Nat → Y) (h : Hd) (rs : List (List Y)) (k : Nat) : (logL root h (rs.take k)).length = 30 + endL (sealAt root h) 0 rs k := by rw [logL, List.length_append, head_len]; rfl
def endsL (root : Nat → Y) (h : Hd) (rs : List (List Y)) (k : Nat) : List Nat := (List.range k).map fun j => 30 + endL (sealAt root h) 0 rs (j + 1)
theorem ends_succ (root : Nat → Y) (h : Hd) (rs : List (List Y)) (k : Nat) : endsL root h rs (k + 1) = endsL root h rs k ++ [30 + endL (sealAt root h) 0 rs (k + 1)] := by simp [endsL, List.range_succ]
theorem ends_len (root : Nat → Y) (h : Hd) (rs : List (List Y)) (k : Nat) : (endsL root h rs k).length = k := by simp [endsL]
theorem ends_at {root : Nat → Y} {h : Hd} {rs : List (List Y)} {k j x : Nat} (hx : (endsL root h rs k)[j]? = some x) : x = 30 + endL (sealAt root h) 0 rs (j + 1) := by
  have hj : j < k := by have := (List.getElem?_eq_some_iff.1 hx).1; rwa [ends_len] at this
  simp [endsL, hj] at hx
  exact hx.symm
/-! ### What is told -/
theorem hd_ext {a b : Hd} (h : a.kind = b.kind ∧ a.level = b.level ∧ a.gen = b.gen ∧ a.epoch = b.epoch ∧ a.num = b.num) : a = b := by
  obtain ⟨a1, a2, a3, a4, a5⟩ := a
  obtain ⟨b1, b2, b3, b4, b5⟩ := b
  obtain ⟨h1, h2, h3, h4, h5⟩ := h
  simp only at h1 h2 h3 h4 h5
  subst h1 h2 h3 h4 h5
  rfl
instance : DecidableEq Hd := fun a b => decidable_of_iff (a.kind = b.kind ∧ a.level = b.level ∧ a.gen = b.gen ∧ a.epoch = b.epoch ∧ a.num = b.num) ⟨hd_ext, fun h => by subst h; exact ⟨rfl, rfl, rfl, rfl, rfl⟩⟩
theorem uv_inj {k : IntKind} {x y : BitVec k.bits} (h : uv k x = uv k y) : x = y := by
  simp only [uv, Value.int.injEq, true_and] at h
  exact BitVec.eq_of_toNat_eq (by omega)
theorem hd_iff {a b : Hd} : decide (a = b) = true ↔ [V a.kind, V a.level, uv .u64 a.gen, uv .u64 a.epoch, uv .u64 a.num] = [V b.kind, V b.level, uv .u64 b.gen, uv .u64 b.epoch, uv .u64 b.num] := by
  rw [decide_eq_true_eq]
  constructor
  · intro h; rw [h]
  · intro h
    simp only [List.cons.injEq, and_true] at h
    exact hd_ext ⟨uv_inj (k := .u8) h.1, uv_inj (k := .u8) h.2.1, uv_inj (k := .u64) h.2.2.1, uv_inj (k := .u64) h.2.2.2.1, uv_inj (k := .u64) h.2.2.2.2⟩
theorem hd_conf (a : Hd) : Conf [.int .u8, .int .u8, .int .u64, .int .u64, .int .u64] [V a.kind, V a.level, uv .u64 a.gen, uv .u64 a.epoch, uv .u64 a.num] := .u8 (.u8 (.u64 (.u64 (.u64 .nil))))
def toldP (xh : Hd) (rs : List (List Y)) (h : Hd) (ls : List (List Y)) (n : Nat) : Bool := decide (xh = h) && decide (rs.length = n ∧ n ≤ ls.length ∧ rs = ls.take n)
theorem told_no {xh h : Hd} {rs ls : List (List Y)} {n : Nat} (hc : ¬ (xh = h ∧ rs.length = n ∧ n ≤ ls.length ∧ rs = ls.take n)) : toldP xh rs h ls n = false := by
  unfold toldP
  by_cases h1 : xh = h
  · rw [decide_eq_false (fun h2 => hc ⟨h1, h2⟩), Bool.and_false]
  · rw [decide_eq_false h1, Bool.false_and]
theorem told_yes {xh h : Hd} {rs ls : List (List Y)} {n : Nat} (hc : xh = h ∧ rs.length = n ∧ n ≤ ls.length ∧ rs = ls.take n) : toldP xh rs h ls n = true := by
  unfold toldP; rw [decide_eq_true hc.1, decide_eq_true hc.2]; rfl
theorem map_at {ps : List (Sh × List Y)} {k : Nat} {p : Sh × List Y} (h : ps[k]? = some p) : (ps.map (·.2))[k]? = some p.2 := by rw [List.getElem?_map, h]; rfl
theorem take_step {A B : List (List Y)} {k : Nat} {x : List Y} (he : A.take k = B.take k) (h1 : A[k]? = some x) (h2 : B[k]? = some x) : A.take (k + 1) = B.take (k + 1) := by
  obtain ⟨k1, e1⟩ := List.getElem?_eq_some_iff.1 h1
  obtain ⟨k2, e2⟩ := List.getElem?_eq_some_iff.1 h2
  rw [List.take_succ_eq_append_getElem k1, List.take_succ_eq_append_getElem k2, he, e1, e2]
theorem take_differ {A B : List (List Y)} {k n : Nat} {x y : List Y} (h1 : A[k]? = some x) (h2 : B[k]? = some y) (hne : ¬ x = y) (hk : k < n) : ¬ A = B.take n := by
  intro e
  rw [e, List.getElem?_take, if_pos hk, h2] at h1
  exact hne (Option.some.inj h1).symm
theorem told_back {h : Hd} {rs : List (List Y)} {n : Nat} (hn : n = rs.length) : toldP h rs h rs n = true := told_yes ⟨rfl, hn.symm, by omega, by rw [hn, List.take_length]⟩
theorem told_cut {h : Hd} {rs : List (List Y)} {n : Nat} (hn : n ≤ rs.length) : toldP h (rs.take n) h rs n = true := told_yes ⟨rfl, by rw [List.length_take]; omega, hn, rfl⟩
/-- how many are whole is told by where they end -/
theorem cut_same {root : Nat → Y} {h : Hd} {rs : List (List Y)} {k n n' : Nat} (h1 : n = 0 ∨ 30 + endL (sealAt root h) 0 rs n ≤ k) (h2 : ∀ j, n ≤ j → j < rs.length → k < 30 + endL (sealAt root h) 0 rs (j + 1)) (hn : n ≤ rs.length)
    (h3 : n' ≤ rs.length) (h4 : 30 + endL (sealAt root h) 0 rs n' ≤ k) (h5 : n' < rs.length → k < 30 + endL (sealAt root h) 0 rs (n' + 1)) : n = n' := by
  rcases Nat.lt_trichotomy n n' with hlt | he | hlt
  · have := h2 n (Nat.le_refl _) (by omega)
    have := end_mono (sealAt root h) 0 rs (show n + 1 ≤ n' by omega)
    omega
  · exact he
  · have := h5 (by omega)
    have := end_mono (sealAt root h) 0 rs (show n' + 1 ≤ n by omega)
    omega
theorem rec_long {s : List Y} (h : 16 ≤ s.length) : 23 ≤ (recL s).length := by
  rw [rec_tl, show (s.length + 127) / 128 = (s.length + 127) / 128 - 1 + 1 by omega, tlL, List.length_append, pc_len]; omega
theorem end_last {root : Nat → Y} {h : Hd} : ∀ (rs : List (List Y)) (i : Nat), rs ≠ [] → endL (sealAt root h) i rs (rs.length - 1) + 23 ≤ endL (sealAt root h) i rs rs.length
  | [], _, hne => absurd rfl hne
  | [p], i, _ => by
    have := rec_long (s := sealAt root h i p) (by rw [sealAt, seal_len]; omega)
    simp only [List.length_singleton, Nat.sub_self, end_zero]
    rw [show (1 : Nat) = 0 + 1 from rfl, end_cons, end_zero]; omega
  | p :: q :: rs, i, _ => by
    have := end_last (root := root) (h := h) (q :: rs) (i + 1) (by simp)
    simp only [List.length_cons] at this ⊢
    rw [show rs.length + 1 + 1 - 1 = (rs.length + 1 - 1) + 1 by omega, end_cons, end_cons]; omega
theorem log_more {root : Nat → Y} {h : Hd} {rs : List (List Y)} {N : Nat} (hr : h.right = true) (hN : rs.length = N + 1) {k : Nat} (h1 : 30 + endL (sealAt root h) 0 rs N ≤ k) (h2 : k < (logL root h rs).length) :
    readP root ((logL root h rs).take k) = (⟨h, rs.take N, 30 + endL (sealAt root h) 0 rs N, decide (30 + endL (sealAt root h) 0 rs N < k)⟩, 0) := by
  have hl : (logL root h rs).length = 30 + endL (sealAt root h) 0 rs (N + 1) := by
    have := log_len root h rs (N + 1)
    rwa [List.take_of_length_le (by omega)] at this
  obtain ⟨n, g1, g2, g3, g4⟩ := log_cut (root := root) (h := h) rs (k := k) hr (by omega) (by omega)
  have hn : n = N := by
    rcases Nat.lt_trichotomy n N with hlt | he | hlt
    · have := g3 (by omega)
      have := end_mono (sealAt root h) 0 rs (show n + 1 ≤ N by omega)
      omega
    · exact he
    · have : n = N + 1 := by omega
      subst this; omega
  rw [hn] at g4
  exact g4
theorem log_last {root : Nat → Y} {h : Hd} {rs : List (List Y)} {N : Nat} (hN : rs.length = N + 1) : 30 + endL (sealAt root h) 0 rs N + 23 ≤ (logL root h rs).length := by
  have hl : (logL root h rs).length = 30 + endL (sealAt root h) 0 rs (N + 1) := by
    have := log_len root h rs (N + 1)
    rwa [List.take_of_length_le (by omega)] at this
  have := end_last (root := root) (h := h) rs 0 (fun e => by rw [e] at hN; simp at hN)
  rw [hN, Nat.add_sub_cancel] at this
  omega
theorem nz64 {m : Nat} (h0 : 0 < m) (h : m ≤ 1000000000) : BitVec.ofInt 64 (m : Int) ≠ 0#64 := by
  intro e
  have := congrArg BitVec.toNat e
  rw [BitVec.ofInt_natCast, BitVec.toNat_ofNat, Nat.mod_eq_of_lt (by omega)] at this
  simp at this; omega
theorem modu {a : BitVec 64} {m : Nat} (h0 : 0 < m) (h : m ≤ 1000000000) : (a % BitVec.ofInt 64 (m : Int)).toNat < m := by
  have e : (BitVec.ofInt 64 (m : Int)).toNat = m := by rw [BitVec.ofInt_natCast, BitVec.toNat_ofNat, Nat.mod_eq_of_lt (by omega)]
  rw [BitVec.toNat_umod, e]
  exact Nat.mod_lt _ h0
theorem xor_ne {a b : Y} (h : b ≠ 0#8) : a ^^^ b ≠ a := by
  intro e
  have := congrArg (a ^^^ ·) e
  simp only [← BitVec.xor_assoc, BitVec.xor_self, BitVec.zero_xor] at this
  exact h this
theorem getD_at {xs : List Y} {k : Nat} (h : k < xs.length) : xs[k]? = some (xs.getD k 0) := by simp [h]
end Go.Tan
