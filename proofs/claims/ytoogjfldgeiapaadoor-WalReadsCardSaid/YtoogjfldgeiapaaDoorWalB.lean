/- Records as pieces: plain data. No condition. -/
import Derived.Test.YtoogjfldgeiapaaDoorWalA
namespace Go.Tan
open Go.RowKit
/-- what stands ahead of a piece -/
def frameL (kind : Y) (p : List Y) : List Y := fixL ((maskW (crcW 0#32 ([kind] ++ p))).setWidth 64) 4 ++ fixL (BitVec.ofInt 64 (p.length : Int)) 2 ++ [kind]
def kindAt (n j : Nat) : Y := if j = 0 then (if n ≤ 128 then 1#8 else 2#8) else if n - 128 * j ≤ 128 then 4#8 else 3#8
/-- the first so many pieces -/
def outL (s : List Y) : Nat → List Y
  | 0 => []
  | j + 1 => outL s j ++ frameL (kindAt s.length j) ((s.drop (128 * j)).take 128) ++ (s.drop (128 * j)).take 128
def recL (s : List Y) : List Y := outL s ((s.length + 127) / 128)
theorem take_min (M : List Y) : M.take (min M.length 128) = M.take 128 := by
  by_cases h : M.length ≤ 128
  · rw [Nat.min_eq_left h, List.take_length, List.take_of_length_le h]
  · rw [Nat.min_eq_right (by omega)]
theorem rec_step {S M O A B C D E : List Y} {j : Nat} {kind : Y} (eO : O = outL S j) (eM : M = S.drop (128 * j)) (eA : A = M.take (min M.length 128)) (eB : B = M.take (min M.length 128)) (eC : C = frameL kind A) (eD : D = O ++ C) (eE : E = D ++ B) (hk : kind = kindAt S.length j) : E = outL S (j + 1) := by
  rw [eE, eD, eC, eA, eB, take_min, eO, eM, hk]; rfl
theorem drop_step {S : List Y} {j : Nat} : (S.drop (128 * j)).drop (min (S.drop (128 * j)).length 128) = S.drop (128 * (j + 1)) := by
  rw [List.drop_drop]
  by_cases h : (S.drop (128 * j)).length ≤ 128
  · rw [Nat.min_eq_left h]
    rw [List.length_drop] at h ⊢
    rw [List.drop_of_length_le (by omega), List.drop_of_length_le (by omega)]
  · rw [Nat.min_eq_right (by omega)]; congr 1
theorem frame_len (kind : Y) (p : List Y) : (frameL kind p).length = 7 := by simp [frameL, fix_len]
theorem out_len (S : List Y) (j : Nat) : (outL S j).length ≤ 135 * j := by
  induction j with
  | zero => exact Nat.zero_le _
  | succ j ih => rw [outL, List.length_append, List.length_append, frame_len, List.length_take]; omega
theorem kind_full {n j : Nat} (h : j = 0) (hn : n ≤ 128) : 1#8 = kindAt n j := by unfold kindAt; rw [if_pos h, if_pos hn]
theorem kind_first {n j : Nat} (h : j = 0) (hn : ¬ n ≤ 128) : 2#8 = kindAt n j := by unfold kindAt; rw [if_pos h, if_neg hn]
theorem kind_last {n j : Nat} (h : ¬ j = 0) (hn : n - 128 * j ≤ 128) : 4#8 = kindAt n j := by unfold kindAt; rw [if_neg h, if_pos hn]
theorem kind_mid {n j : Nat} (h : ¬ j = 0) (hn : ¬ n - 128 * j ≤ 128) : 3#8 = kindAt n j := by unfold kindAt; rw [if_neg h, if_neg hn]
/-- a record's bytes, and what is told with them -/
def layP (root : Nat → Y) (h : Hd) (n : BitVec 64) (p : List Y) : List Y × Int := if p.length ≤ 4194304 then (recL (sealL (keyEnc root (headL h)) (keyMac root (headL h)) (nonceF n) (headL h) p), 0) else ([], 4)
theorem lay_long {root : Nat → Y} {h : Hd} {n : BitVec 64} {p : List Y} (c : ¬ p.length ≤ 4194304) : ([], 4) = layP root h n p := by unfold layP; rw [if_neg c]
theorem lay_good {root : Nat → Y} {h : Hd} {n : BitVec 64} {p S O : List Y} {j : Nat} (c : p.length ≤ 4194304) (eS : S = sealL (keyEnc root (headL h)) (keyMac root (headL h)) (nonceF n) (headL h) p) (eO : O = outL S j) (hj : j = (S.length + 127) / 128) : (O, 0) = layP root h n p := by
  unfold layP; rw [if_pos c, eO, hj, eS]; rfl
theorem frame_app (kind : Y) (p : List Y) : fixL ((maskW (crcW 0#32 ([kind] ++ p))).setWidth 64) 4 ++ fixL (BitVec.ofInt 64 (p.length : Int)) 2 ++ ([kind] ++ p) = frameL kind p ++ p := by
  rw [frameL, ← List.append_assoc]
theorem rrec_step {S O A B C : List Y} {j : Nat} {kind : Y} (eO : O = outL S j) (eA : A = (S.drop (128 * j)).take (min S.length (128 * j + 128) - 128 * j)) (eB : B = frameL kind A ++ A) (eC : C = O ++ B) (hk : kind = kindAt S.length j) : C = outL S (j + 1) := by
  have e : (S.drop (128 * j)).take (min S.length (128 * j + 128) - 128 * j) = (S.drop (128 * j)).take 128 := by
    rw [← take_min, List.length_drop]
    congr 1
    omega
  rw [eC, eB, eA, e, eO, hk, ← List.append_assoc]; rfl
theorem one8 {a b c d e f g k : Value} (h1 : a.oneCell' = true) (h2 : b.oneCell' = true) (h3 : c.oneCell' = true) (h4 : d.oneCell' = true) (h5 : e.oneCell' = true) (h6 : f.oneCell' = true) (h7 : g.oneCell' = true) (h8 : k.oneCell' = true) : ∀ u ∈ [a, b, c, d, e, f, g, k], u.oneCell' = true := by
  intro u hu
  simp only [List.mem_cons, List.not_mem_nil, or_false] at hu
  rcases hu with rfl | rfl | rfl | rfl | rfl | rfl | rfl | rfl <;> assumption
theorem take_zero : takeH (List.replicate 30 0#8) = (Hd.zero, 70) := take_bad (by simp) (fun h => absurd h.1 (by decide))
theorem lay_shown {root : Nat → Y} {h : Hd} {n : BitVec 64} {L : List Y} {e : Int} (hl : (L, e) = layP root h n []) : L.length = 23 ∧ L.getD 6 0 = 1#8 ∧ e = 0 := by
  unfold layP at hl
  rw [if_pos (by simp)] at hl
  obtain ⟨h1, h2⟩ := Prod.mk.inj hl
  have hS : (sealL (keyEnc root (headL h)) (keyMac root (headL h)) (nonceF n) (headL h) []).length = 16 := by rw [seal_len]; rfl
  generalize sealL (keyEnc root (headL h)) (keyMac root (headL h)) (nonceF n) (headL h) [] = S at h1 hS
  have e1 : recL S = frameL 1#8 S ++ S := by
    unfold recL
    rw [hS]
    show [] ++ frameL (kindAt S.length 0) ((S.drop 0).take 128) ++ (S.drop 0).take 128 = _
    rw [List.drop_zero, List.take_of_length_le (by omega), List.nil_append, ← kind_full rfl (by omega)]
  rw [e1] at h1
  refine ⟨by rw [h1, List.length_append, frame_len, hS], ?_, h2⟩
  rw [h1, List.getD_eq_getElem?_getD, List.getElem?_append_left (by rw [frame_len]; decide), frameL, List.getElem?_append_right (by simp [fix_len])]
  simp [fix_len]
theorem of_r {root : Nat → Y} {cs : List Value} (h : cs.length = 5) : ((ba 32 root ++ cs).drop 32).take 5 = cs := by
  rw [List.drop_left' (ba_len _ _), List.take_of_length_le (by omega)]
end Go.Tan
