/- The reference's way of taking numbers and heads: plain data. No condition. -/
import Derived.Test.YtoogjfldgeiapaaDoorWalF
namespace Go.Tan
open Go.RowKit
def natK (ys : List Y) : Nat → Nat
  | 0 => 0
  | k + 1 => natK ys k + (ys.getD k 0).toNat * 256 ^ k
theorem natK_lt (ys : List Y) (k : Nat) : natK ys k < 256 ^ k := by
  induction k with
  | zero => simp [natK]
  | succ k ih =>
    have := (ys.getD k 0).isLt
    rw [natK, Nat.pow_succ]
    have h1 : (ys.getD k 0).toNat * 256 ^ k ≤ 255 * 256 ^ k := Nat.mul_le_mul_right _ (by omega)
    omega
theorem unf_nat (ys : List Y) : ∀ k, k ≤ 8 → (unfK ys k).toNat = natK ys k
  | 0, _ => rfl
  | k + 1, hk => by
    have ih := unf_nat ys k (by omega)
    have hlt := natK_lt ys k
    have hb := (ys.getD k 0).isLt
    have e256 : (256 : Nat) ^ k = 2 ^ (8 * k) := by rw [Nat.pow_mul]
    have hp : (2 : Nat) ^ (8 * k) * 256 ≤ 2 ^ 64 := by
      have : (2 : Nat) ^ (8 * k) * 256 = 2 ^ (8 * k + 8) := by rw [Nat.pow_add]
      rw [this]; exact Nat.pow_le_pow_right (by decide) (by omega)
    have hs : ((ys.getD k 0).setWidth 64 <<< (8 * k)).toNat = 2 ^ (8 * k) * (ys.getD k 0).toNat := by
      rw [BitVec.toNat_shiftLeft, BitVec.toNat_setWidth, Nat.mod_eq_of_lt (a := (ys.getD k 0).toNat) (by omega), Nat.shiftLeft_eq, Nat.mul_comm, Nat.mod_eq_of_lt]
      have : 2 ^ (8 * k) * (ys.getD k 0).toNat ≤ 2 ^ (8 * k) * 255 := Nat.mul_le_mul_left _ (by omega)
      have : 0 < 2 ^ (8 * k) := Nat.two_pow_pos _
      omega
    rw [unfK, BitVec.toNat_or, ih, hs, natK, e256]
    have h1 := Nat.two_pow_add_eq_or_of_lt (i := 8 * k) (b := natK ys k) (by rw [← e256]; exact hlt) (ys.getD k 0).toNat
    rw [show natK ys k ||| 2 ^ (8 * k) * (ys.getD k 0).toNat = 2 ^ (8 * k) * (ys.getD k 0).toNat ||| natK ys k from Nat.or_comm _ _, ← h1, Nat.mul_comm]; omega
/-- from the highest byte on -/
def topW (ys : List Y) : Nat → BitVec 64
  | 0 => 0
  | k + 1 => topW ys k * 256#64 + (ys.getD (7 - k) 0).setWidth 64
def topN (ys : List Y) : Nat → Nat
  | 0 => 0
  | k + 1 => topN ys k * 256 + (ys.getD (7 - k) 0).toNat
theorem topN_lt (ys : List Y) (k : Nat) : topN ys k < 256 ^ k := by
  induction k with
  | zero => simp [topN]
  | succ k ih =>
    have := (ys.getD (7 - k) 0).isLt
    rw [topN, Nat.pow_succ]; omega
theorem top_nat (ys : List Y) : ∀ k, k ≤ 8 → (topW ys k).toNat = topN ys k
  | 0, _ => rfl
  | k + 1, hk => by
    have ih := top_nat ys k (by omega)
    have hlt := topN_lt ys (k + 1)
    have hp : (256 : Nat) ^ (k + 1) ≤ 256 ^ 8 := Nat.pow_le_pow_right (by decide) hk
    have hb := (ys.getD (7 - k) 0).isLt
    rw [topN] at hlt
    rw [topW, topN, BitVec.toNat_add, BitVec.toNat_mul, ih, BitVec.toNat_setWidth, BitVec.toNat_ofNat]
    have e8 : (256 : Nat) ^ 8 = 2 ^ 64 := rfl
    rw [e8] at hp
    omega
theorem top_unf (ys : List Y) : topW ys 8 = unfK ys 8 := by
  apply BitVec.eq_of_toNat_eq
  rw [top_nat ys 8 (by decide), unf_nat ys 8 (by decide)]
  simp only [topN, natK, Nat.reduceSub, Nat.reducePow]
  omega
theorem fix_unf {ys : List Y} (h : 8 ≤ ys.length) : fixL (unfK ys 8) 8 = ys.take 8 := by
  refine List.ext_getElem? fun j => ?_
  by_cases hj : j < 8
  · rw [fix_at hj, List.getElem?_take, if_pos hj]
    have hjl : j < ys.length := by omega
    rw [List.getElem?_eq_getElem hjl]
    congr 1
    have e : ys[j] = ys.getD j 0 := by simp [hjl]
    rw [e]
    apply BitVec.eq_of_toNat_eq
    rw [BitVec.toNat_setWidth, BitVec.toNat_ushiftRight, unf_nat ys 8 (by decide), Nat.shiftRight_eq_div_pow]
    have b0 := (ys.getD 0 0).isLt; have b1 := (ys.getD 1 0).isLt; have b2 := (ys.getD 2 0).isLt; have b3 := (ys.getD 3 0).isLt
    have b4 := (ys.getD 4 0).isLt; have b5 := (ys.getD 5 0).isLt; have b6 := (ys.getD 6 0).isLt; have b7 := (ys.getD 7 0).isLt
    simp only [natK, Nat.reducePow]
    match j, hj with
    | 0, _ => simp only [Nat.reduceMul, Nat.reducePow]; omega
    | 1, _ => simp only [Nat.reduceMul, Nat.reducePow]; omega
    | 2, _ => simp only [Nat.reduceMul, Nat.reducePow]; omega
    | 3, _ => simp only [Nat.reduceMul, Nat.reducePow]; omega
    | 4, _ => simp only [Nat.reduceMul, Nat.reducePow]; omega
    | 5, _ => simp only [Nat.reduceMul, Nat.reducePow]; omega
    | 6, _ => simp only [Nat.reduceMul, Nat.reducePow]; omega
    | 7, _ => simp only [Nat.reduceMul, Nat.reducePow]; omega
  · rw [List.getElem?_eq_none (by rw [fix_len]; omega), List.getElem?_eq_none (by rw [List.length_take]; omega)]
theorem head_fix {xs : List Y} (h : 30 ≤ xs.length) : headL (headOf xs) = [116#8, 97#8, 110#8, 116#8] ++ (xs.drop 4).take 26 := by
  have e4 : (xs.drop 4).take 26 = [xs.getD 4 0, xs.getD 5 0] ++ (xs.drop 6).take 8 ++ (xs.drop 14).take 8 ++ (xs.drop 22).take 8 := by
    have a1 : (xs.drop 4).take 26 = (xs.drop 4).take 2 ++ ((xs.drop 6).take 8 ++ ((xs.drop 14).take 8 ++ (xs.drop 22).take 8)) := by
      rw [show 26 = 2 + (8 + (8 + 8)) from rfl, List.take_add, List.take_add, List.take_add]
      simp only [List.drop_drop]
    have a2 : (xs.drop 4).take 2 = [xs.getD 4 0, xs.getD 5 0] := by
      refine List.ext_getElem? fun j => ?_
      match j with
      | 0 => simp [List.getElem?_take, List.getElem?_drop, show 4 < xs.length by omega]
      | 1 => simp [List.getElem?_take, List.getElem?_drop, show 5 < xs.length by omega]
      | j + 2 => simp [List.getElem?_take]; omega
    rw [a1, a2]; simp only [List.append_assoc]
  rw [e4]
  unfold headL headOf
  simp only
  rw [fix_unf (by simp; omega), fix_unf (by simp; omega), fix_unf (by simp; omega)]
  simp only [List.append_assoc, List.cons_append, List.nil_append]
theorem head_iff {xs : List Y} (h : 30 ≤ xs.length) : headL (headOf xs) = xs.take 30 ↔ xs.take 4 = [116#8, 97#8, 110#8, 116#8] := by
  rw [head_fix h]
  have e : xs.take 30 = xs.take 4 ++ (xs.drop 4).take 26 := by rw [show 30 = 4 + 26 from rfl, List.take_add]
  rw [e]
  constructor
  · intro hh; exact (List.append_inj hh (by simp; omega)).1.symm
  · intro hh; rw [hh]
theorem head_ref {xs L : List Y} (e : L = (xs.drop 6).take (30 - 6)) : (⟨xs.getD 4 0, xs.getD 5 0, unfK (L.drop 0) 8, unfK (L.drop 8) 8, unfK (L.drop 16) 8⟩ : Hd) = headOf xs := by
  rw [← head_at e, List.drop_drop]; rfl
theorem drop_getD (xs : List Y) (a i : Nat) : (xs.drop a).getD i 0 = xs.getD (a + i) 0 := by simp [List.getD_eq_getElem?_getD, List.getElem?_drop]
/-! ### May a piece not stand there? -/
theorem wrong_eq (kind : Y) (n : Nat) (b : Bool) (h1 : ¬ kind = 1#8) (h2 : ¬ kind = 2#8) (h3 : ¬ kind = 3#8) (h4 : ¬ kind = 4#8) : wrongP kind n b = true := by unfold wrongP; simp [h1, h2, h3, h4]
theorem dec128 (n : Nat) : decide ((n : Int) < 128) = decide (n < 128) := decide_eq_decide.2 (by omega)
theorem one3 {a b c : Value} (h1 : a.oneCell' = true) (h2 : b.oneCell' = true) (h3 : c.oneCell' = true) : ∀ u ∈ [a, b, c], u.oneCell' = true := by
  intro u hu
  simp only [List.mem_cons, List.not_mem_nil, or_false] at hu
  rcases hu with rfl | rfl | rfl <;> assumption
theorem three2 {α : Type} [DecidableEq α] (A B : α) (b : Bool) : A ≠ B ∨ (A = B ∧ b = true) ∨ (A = B ∧ b = false) := by
  by_cases h : A = B
  · cases b
    · exact .inr (.inr ⟨h, rfl⟩)
    · exact .inr (.inl ⟨h, rfl⟩)
  · exact .inl h
theorem take_wr {op : Nat → List Y → Option (List Y)} {parts p : List Y} {recs : List (List Y)} {kind : Y} {n : Nat} (hn : n = p.length) (hw : wrongP kind n (!parts.isEmpty) = true) : takeS op parts recs kind p = none := by
  subst hn; unfold takeS; rw [if_pos hw]
theorem take_on {op : Nat → List Y → Option (List Y)} {parts p : List Y} {recs : List (List Y)} {kind : Y} {n : Nat} (hn : n = p.length) (hw : wrongP kind n (!parts.isEmpty) = false) (hk : kind = 1#8 ∨ kind = 4#8) : takeS op parts recs kind p = (op recs.length (parts ++ p)).map (fun x => ([], recs ++ [x])) := by
  subst hn; unfold takeS; rw [if_neg (by rw [hw]; decide), if_pos hk]
theorem take_pass {op : Nat → List Y → Option (List Y)} {parts p : List Y} {recs : List (List Y)} {kind : Y} {n : Nat} (hn : n = p.length) (hw : wrongP kind n (!parts.isEmpty) = false) (hk : ¬ (kind = 1#8 ∨ kind = 4#8)) : takeS op parts recs kind p = some (parts ++ p, recs) := by
  subst hn; unfold takeS; rw [if_neg (by rw [hw]; decide), if_neg hk]
end Go.Tan
