/- The check sum, heads of files, keys of files: plain data. No condition. -/
import Derived.Test.YtoogjfldgeiapaaDoorTanL
namespace Go.Tan
open Go.RowKit
/-! ### The check sum -/
def polyW : W := 2197175160#32
/-- one step of the division -/
def halfW (x : W) : W := x >>> 1 ^^^ (polyW &&& -(x &&& 1#32))
def hIt : Nat → W → W
  | 0, x => x
  | n + 1, x => halfW (hIt n x)
theorem hIt_add (m n : Nat) (x : W) : hIt m (hIt n x) = hIt (m + n) x := by
  induction m with
  | zero => rw [Nat.zero_add]; rfl
  | succ m ih => rw [hIt, ih, Nat.succ_add]; rfl
theorem and_one (x : W) : x &&& 1#32 = 0#32 ∧ x % 2#32 = 0#32 ∨ x &&& 1#32 = 1#32 ∧ x % 2#32 = 1#32 := by
  have e : x &&& 1#32 = x % 2#32 := by
    apply BitVec.eq_of_toNat_eq
    simp [BitVec.toNat_and, BitVec.toNat_umod, Nat.and_one_is_mod]
  have h2 : x.toNat % 2 = 0 ∨ x.toNat % 2 = 1 := by omega
  rcases h2 with h | h
  · exact .inl ⟨by rw [e]; apply BitVec.eq_of_toNat_eq; simpa [BitVec.toNat_umod] using h, by apply BitVec.eq_of_toNat_eq; simpa [BitVec.toNat_umod] using h⟩
  · exact .inr ⟨by rw [e]; apply BitVec.eq_of_toNat_eq; simpa [BitVec.toNat_umod] using h, by apply BitVec.eq_of_toNat_eq; simpa [BitVec.toNat_umod] using h⟩
theorem div2 (x : W) : x / 2#32 = x >>> 1 := by
  apply BitVec.eq_of_toNat_eq
  simp [BitVec.toNat_udiv, BitVec.toNat_ushiftRight, Nat.shiftRight_eq_div_pow]
theorem half_odd {x : W} (h : x % 2#32 = 1#32) : x / 2#32 ^^^ 2197175160#32 = halfW x := by
  rcases and_one x with ⟨_, h2⟩ | ⟨h1, _⟩
  · rw [h] at h2; cases h2
  · unfold halfW; rw [h1, div2]; rfl
theorem half_even {x : W} (h : ¬ x % 2#32 = 1#32) : x / 2#32 = halfW x := by
  rcases and_one x with ⟨h1, _⟩ | ⟨_, h2⟩
  · unfold halfW; rw [h1, div2]; simp
  · exact absurd h2 h
theorem odd_of {x : W} (c : ((x % 2#32).toNat : Int) = 1) : x % 2#32 = 1#32 := BitVec.eq_of_toNat_eq (Int.ofNat.inj c)
theorem odd_to {x : W} (c : x % 2#32 = 1#32) : ((x % 2#32).toNat : Int) = 1 := by rw [c]; rfl
def crcB (x : W) (c : Y) : W := hIt 8 (x ^^^ c.setWidth 32)
def crcW (sum : W) (xs : List Y) : W := ~~~(xs.foldl crcB (~~~sum))
theorem crc_app (sum : W) (xs ys : List Y) : crcW (crcW sum xs) ys = crcW sum (xs ++ ys) := by
  unfold crcW; rw [BitVec.not_not, List.foldl_append]
theorem crc_nil (sum : W) : crcW sum [] = sum := by simp [crcW]
theorem fold_take {xs : List Y} {k : Nat} {x : W} (h : k < xs.length) : (xs.take (k + 1)).foldl crcB x = crcB ((xs.take k).foldl crcB x) (xs.getD k 0) := by
  rw [List.take_succ_eq_append_getElem h, List.foldl_append]; simp [h]
theorem not_sub (x : W) : 4294967295#32 - x = ~~~x := by
  rw [show (4294967295#32 : W) = BitVec.allOnes 32 from rfl]
  exact BitVec.allOnes_sub_eq_not x
def maskW (x : W) : W := rotl x 17 + 2726488792#32
theorem mask_eq (x : W) : x % 32768#32 * 131072#32 + x / 32768#32 + 2726488792#32 = maskW x := by
  unfold maskW rotl
  congr 1
  have h0 : x <<< 17 &&& x >>> 15 = 0#32 := by
    apply BitVec.eq_of_getLsbD_eq
    intro i hi
    simp only [BitVec.getLsbD_and, BitVec.getLsbD_shiftLeft, BitVec.getLsbD_ushiftRight, BitVec.getLsbD_zero]
    by_cases h8 : i < 17
    · simp [h8]
    · rw [BitVec.getLsbD_of_ge x (15 + i) (by omega)]; simp
  rw [show (32 - 17 : Nat) = 15 from rfl, ← BitVec.add_eq_or_of_and_eq_zero _ _ h0]
  have hx := x.isLt
  have e1 : x % 32768#32 * 131072#32 = x <<< 17 := by
    apply BitVec.eq_of_toNat_eq
    simp only [BitVec.toNat_mul, BitVec.toNat_umod, BitVec.toNat_shiftLeft, Nat.shiftLeft_eq, BitVec.toNat_ofNat, Nat.reducePow, Nat.reduceMod]
    omega
  have e2 : x / 32768#32 = x >>> 15 := by
    apply BitVec.eq_of_toNat_eq
    simp only [BitVec.toNat_udiv, BitVec.toNat_ushiftRight, Nat.shiftRight_eq_div_pow, BitVec.toNat_ofNat]
  rw [e1, e2]
theorem fx0 {L : List Y} {n : BitVec 64} {m : Nat} (e : L = [] ++ fixL n m) : L.length = m := by rw [e, List.nil_append, fix_len]
theorem fx2 {L A : List Y} {n : BitVec 64} {m : Nat} (e : L = A ++ fixL n m) : L.length = A.length + m := by rw [e, List.length_append, fix_len]
/-! ### Heads -/
structure Hd where
  kind : Y
  level : Y
  gen : BitVec 64
  epoch : BitVec 64
  num : BitVec 64
  deriving DecidableEq
def Hd.cells (h : Hd) : List Value := [V h.kind, V h.level, uv .u64 h.gen, uv .u64 h.epoch, uv .u64 h.num]
def Hd.zero : Hd := ⟨0, 0, 0, 0, 0⟩
/-- may it be? -/
def Hd.right (h : Hd) : Bool := if (h.kind.toNat : Int) = 2 then decide ((h.level.toNat : Int) < 5) else if (h.kind.toNat : Int) = 1 ∨ (h.kind.toNat : Int) = 3 then decide ((h.level.toNat : Int) = 0) && decide ((h.gen.toNat : Int) = 0) else false
theorem Hd.right2 {h : Hd} (c : (h.kind.toNat : Int) = 2) : h.right = decide ((h.level.toNat : Int) < 5) := by unfold Hd.right; rw [if_pos c]
theorem Hd.right1 {h : Hd} (c : (h.kind.toNat : Int) = 1) : h.right = (decide ((h.level.toNat : Int) = 0) && decide ((h.gen.toNat : Int) = 0)) := by
  unfold Hd.right; rw [if_neg (by omega), if_pos (.inl c)]
theorem Hd.right3 {h : Hd} (c : (h.kind.toNat : Int) = 3) : h.right = (decide ((h.level.toNat : Int) = 0) && decide ((h.gen.toNat : Int) = 0)) := by
  unfold Hd.right; rw [if_neg (by omega), if_pos (.inr c)]
theorem Hd.right0 {h : Hd} (c1 : ¬ (h.kind.toNat : Int) = 1) (c2 : ¬ (h.kind.toNat : Int) = 2) (c3 : ¬ (h.kind.toNat : Int) = 3) : h.right = false := by
  unfold Hd.right; rw [if_neg c2, if_neg (by omega)]
theorem Hd.rightR {h : Hd} (c : ¬ (h.kind.toNat : Int) = 2) : ((((h.kind.toNat : Int) == 1) || ((h.kind.toNat : Int) == 3)) && ((h.level.toNat : Int) == 0) && ((h.gen.toNat : Int) == 0)) = h.right := by
  by_cases c1 : (h.kind.toNat : Int) = 1
  · rw [Hd.right1 c1, c1]; rfl
  · by_cases c3 : (h.kind.toNat : Int) = 3
    · rw [Hd.right3 c3, c3]; rfl
    · rw [Hd.right0 c1 c c3, beq_eq_false_iff_ne.2 c1, beq_eq_false_iff_ne.2 c3]; rfl
def Hd.three (h : Hd) (k : Nat) : BitVec 64 := if k = 0 then h.gen else if k = 1 then h.epoch else h.num
def Hd.some (h : Hd) (k : Nat) : List Y := [116#8, 97#8, 110#8, 116#8, h.kind, h.level] ++ (List.range k).flatMap (fun i => fixL (h.three i) 8)
theorem Hd.some_succ (h : Hd) (k : Nat) : h.some (k + 1) = h.some k ++ fixL (h.three k) 8 := by
  unfold Hd.some; rw [List.range_succ, List.flatMap_append, ← List.append_assoc]; simp
theorem Hd.three_at {h : Hd} {k : Nat} (hk : k < 3) : [uv .u64 h.gen, uv .u64 h.epoch, uv .u64 h.num][k]? = Option.some (uv .u64 (h.three k)) := by
  match k, hk with
  | 0, _ => rfl
  | 1, _ => rfl
  | 2, _ => rfl
def headL (h : Hd) : List Y := [116#8, 97#8, 110#8, 116#8, h.kind, h.level] ++ fixL h.gen 8 ++ fixL h.epoch 8 ++ fixL h.num 8
theorem Hd.some_all (h : Hd) : h.some 3 = headL h := by rw [Hd.some_succ, Hd.some_succ, Hd.some_succ]; simp [Hd.some, headL, Hd.three]
theorem Hd.some_len (h : Hd) (k : Nat) : (h.some k).length = 6 + 8 * k := by
  induction k with
  | zero => rfl
  | succ k ih => rw [Hd.some_succ, List.length_append, ih, fix_len]; omega
theorem head_len (h : Hd) : (headL h).length = 30 := by simp [headL, fix_len]
/-- a number of its bytes, the lowest first -/
def unfix : List Y → BitVec 64
  | [] => 0
  | x :: xs => x.setWidth 64 ||| unfix xs <<< 8
def unfK (xs : List Y) : Nat → BitVec 64
  | 0 => 0
  | k + 1 => unfK xs k ||| (xs.getD k 0).setWidth 64 <<< (8 * k)
def nonceF (n : BitVec 64) : Nat → Y := fun i => if i < 8 then (n >>> (8 * i)).setWidth 8 else 0#8
theorem nonce_outs (n : BitVec 64) {i : Nat} (h : i < 12) : outs (nonceF n) 8 i = nonceF n i := by
  by_cases h8 : i < 8
  · exact outs_eq _ h8
  · have : ∀ k, k ≤ i → outs (nonceF n) k i = 0#8 := fun k => by
      induction k with
      | zero => intro _; rfl
      | succ k ih => intro hk; show upd (outs (nonceF n) k) k _ i = _; unfold upd; rw [if_neg (by omega)]; exact ih (by omega)
    rw [this 8 (by omega)]; unfold nonceF; rw [if_neg h8]
theorem fix_nonce {n : BitVec 64} {k : Nat} (h : k < 8) : (fixL n 8).getD k 0 = nonceF n k := by
  unfold nonceF; rw [if_pos h]; simp [fixL, h]
theorem one6 {a b c d e f : Value} (h1 : a.oneCell' = true) (h2 : b.oneCell' = true) (h3 : c.oneCell' = true) (h4 : d.oneCell' = true) (h5 : e.oneCell' = true) (h6 : f.oneCell' = true) : ∀ u ∈ [a, b, c, d, e, f], u.oneCell' = true := by
  intro u hu
  simp only [List.mem_cons, List.not_mem_nil, or_false] at hu
  rcases hu with rfl | rfl | rfl | rfl | rfl | rfl <;> assumption
/-! ### Keys -/
/-- bytes that a key is made of, block by block -/
def expB (key use : List Y) : Nat → List Y
  | 0 => []
  | k + 1 => shaL' key (expB key use k) use k
where shaL' (key last use : List Y) (k : Nat) : List Y := yl 32 (macL key (last ++ use ++ [BitVec.ofNat 8 (k + 1)]))
def expL (key use : List Y) : Nat → List Y
  | 0 => []
  | k + 1 => expL key use k ++ expB key use (k + 1)
theorem expB_len (key use : List Y) (k : Nat) : (expB key use (k + 1)).length = 32 := yl_len _ _
theorem exp_len (key use : List Y) (k : Nat) : (expL key use k).length = 32 * k := by
  induction k with
  | zero => rfl
  | succ k ih => rw [expL, List.length_append, ih, expB_len]; omega
theorem exp_last (key use : List Y) (k : Nat) : (expL key use k).drop (32 * k - 32) = expB key use k := by
  cases k with
  | zero => rfl
  | succ k => rw [expL]; exact List.drop_left' (by rw [exp_len]; omega)
def saltL : List Y := [116#8, 97#8, 110#8, 116#8, 97#8, 108#8, 117#8, 115#8]
/-- what a use's texts are sealed with -/
def deriveL (root : Nat → Y) (use : List Y) : List Y := expL (yl 32 (macL saltL (yl 32 root))) use 2
def keyEnc (root : Nat → Y) (use : List Y) : Nat → Y := fun i => (deriveL root use).getD i 0
def keyMac (root : Nat → Y) (use : List Y) : Nat → Y := fun i => (deriveL root use).getD (32 + i) 0
theorem key_cells {root : Nat → Y} {use L A B : List Y} (e : L = deriveL root use) (eA : A = L.take 32) (eB : B = L.drop 32) :
    ba 32 (fun i => A.getD i 0) ++ ba 32 (fun i => B.getD i 0) = ba 32 (keyEnc root use) ++ ba 32 (keyMac root use) := by
  subst e eA eB
  have e1 : ba 32 (fun i => ((deriveL root use).take 32).getD i 0) = ba 32 (keyEnc root use) := ba_congr fun i hi => by simp only [keyEnc, List.getD_eq_getElem?_getD, List.getElem?_take, if_pos hi]
  have e2 : ba 32 (fun i => ((deriveL root use).drop 32).getD i 0) = ba 32 (keyMac root use) := ba_congr fun i _ => by simp only [keyMac, List.getD_eq_getElem?_getD, List.getElem?_drop]
  rw [e1, e2]
theorem key_put {zs : List Value} (hz : zs.length = 64) (f g : Nat → Y) : put (put zs 0 (ba 32 f)) 32 (ba 32 g) = ba 32 f ++ ba 32 g := by
  have e1 : put zs 0 (ba 32 f) = ba 32 f ++ zs.drop 32 := by unfold put; rw [List.take_zero, List.nil_append, ba_len]
  rw [e1]
  unfold put
  rw [List.take_left' (ba_len _ _), ba_len, List.drop_of_length_le (by rw [List.length_append, ba_len, List.length_drop, hz]; exact Nat.le_refl _), List.append_nil]
theorem key_len (f g : Nat → Y) : (ba 32 f ++ ba 32 g).length = 64 := by rw [List.length_append, ba_len, ba_len]
theorem key_one (f g : Nat → Y) : ∀ u ∈ ba 32 f ++ ba 32 g, u.oneCell' = true := one_app (ba_one _ _) (ba_one _ _)
theorem exp_len1 (key use : List Y) (k : Nat) : (expB key use k).length ≤ 32 := by
  cases k with
  | zero => exact Nat.zero_le _
  | succ k => rw [expB_len]; exact Nat.le_refl _
theorem byte_int (k : Nat) : BitVec.ofInt 8 ((k : Nat) : Int) = BitVec.ofNat 8 k := by simp
def keyF (g : Nat → Y) (k : Nat) : Nat → Y := fun i => if i < k then g i else 0#8
theorem keyF_step {g : Nat → Y} {k : Nat} {y : Y} (h : y = g k) : upd (keyF g k) k y = keyF g (k + 1) := by
  funext i
  unfold upd keyF
  by_cases h1 : i = k
  · subst h1; rw [if_pos rfl, if_pos (by omega), h]
  · rw [if_neg h1]
    by_cases h2 : i < k
    · rw [if_pos h2, if_pos (by omega)]
    · rw [if_neg h2, if_neg (by omega)]
theorem keyF_all {g : Nat → Y} : ba 32 (keyF g 32) = ba 32 g := ba_congr fun i hi => by unfold keyF; rw [if_pos hi]
theorem keyF_cells {root : Nat → Y} {use L : List Y} (e : L = deriveL root use) : ba 32 (keyF (fun i => L.getD i 0) 32) ++ ba 32 (keyF (fun i => L.getD (32 + i) 0) 32) = ba 32 (keyEnc root use) ++ ba 32 (keyMac root use) := by
  rw [keyF_all, keyF_all, e]; rfl
theorem bap_set1 {n : Nat} {y : Nat → Y} {r : List Value} {j : Int} {z : Y} {o : Nat} (a : Nat) (hj : o + j.toNat * 1 = a) (h : a < n) : (ba n y ++ r).set (o + j.toNat * 1) (V z) = ba n (upd y a z) ++ r := by
  rw [hj, List.set_append_left _ _ (by rw [ba_len]; exact h)]; rw [ba_set]
theorem bar_set1 {n m : Nat} {x y : Nat → Y} {j : Int} {z : Y} {o : Nat} (a : Nat) (hj : o + j.toNat * 1 = n + a) : (ba n x ++ ba m y).set (o + j.toNat * 1) (V z) = ba n x ++ ba m (upd y a z) := by
  rw [hj, List.set_append_right _ _ (by rw [ba_len]; omega), ba_len, Nat.add_sub_cancel_left, ba_set]
theorem exp_stepB (key use : List Y) (j : Nat) : yl 32 (macL key (expB key use j ++ use ++ [BitVec.ofInt 8 ((j + 1 : Nat) : Int)])) = expB key use (j + 1) := by rw [byte_int]; rfl
theorem exp_stepA (key use : List Y) (j : Nat) : expL key use j ++ yl 32 (macL key (expB key use j ++ use ++ [BitVec.ofInt 8 ((j + 1 : Nat) : Int)])) = expL key use (j + 1) := by rw [exp_stepB]; rfl
/-- the head that stands ahead of bytes, as it is told -/
def headOf (xs : List Y) : Hd := ⟨xs.getD 4 0, xs.getD 5 0, unfK (xs.drop 6) 8, unfK (xs.drop 14) 8, unfK (xs.drop 22) 8⟩
def takeH (xs : List Y) : Hd × Int := if xs.length < 30 then (Hd.zero, 10) else if xs.take 4 = [116#8, 97#8, 110#8, 116#8] ∧ (headOf xs).right = true then (headOf xs, 0) else (Hd.zero, 70)
theorem take_short {xs : List Y} (h : xs.length < 30) : takeH xs = (Hd.zero, 10) := by unfold takeH; rw [if_pos h]
theorem take_bad {xs : List Y} (h : ¬ xs.length < 30) (c : ¬ (xs.take 4 = [116#8, 97#8, 110#8, 116#8] ∧ (headOf xs).right = true)) : takeH xs = (Hd.zero, 70) := by unfold takeH; rw [if_neg h, if_neg c]
theorem take_good {xs : List Y} (h : ¬ xs.length < 30) (c : xs.take 4 = [116#8, 97#8, 110#8, 116#8] ∧ (headOf xs).right = true) : takeH xs = (headOf xs, 0) := by unfold takeH; rw [if_neg h, if_pos c]
theorem one5 {a b c d e : Value} (h1 : a.oneCell' = true) (h2 : b.oneCell' = true) (h3 : c.oneCell' = true) (h4 : d.oneCell' = true) (h5 : e.oneCell' = true) : ∀ u ∈ [a, b, c, d, e], u.oneCell' = true := by
  intro u hu
  simp only [List.mem_cons, List.not_mem_nil, or_false] at hu
  rcases hu with rfl | rfl | rfl | rfl | rfl <;> assumption
theorem unfK_eq {A B : List Y} {k : Nat} (h : ∀ i, i < k → A.getD i 0 = B.getD i 0) : unfK A k = unfK B k := by
  induction k with
  | zero => rfl
  | succ k ih => rw [unfK, unfK, ih (fun i hi => h i (by omega)), h k (by omega)]
theorem head_at {xs L : List Y} (e : L = (xs.drop 6).take (30 - 6)) : (⟨xs.getD 4 0, xs.getD 5 0, unfK L 8, unfK (L.drop 8) 8, unfK ((L.drop 8).drop 8) 8⟩ : Hd) = headOf xs := by
  subst e
  unfold headOf
  have e1 : unfK ((xs.drop 6).take (30 - 6)) 8 = unfK (xs.drop 6) 8 := unfK_eq fun i hi => by
    simp only [List.getD_eq_getElem?_getD, List.getElem?_take]; rw [if_pos (by omega)]
  have e2 : unfK (((xs.drop 6).take (30 - 6)).drop 8) 8 = unfK (xs.drop 14) 8 := unfK_eq fun i hi => by
    simp only [List.getD_eq_getElem?_getD, List.getElem?_drop, List.getElem?_take]; rw [if_pos (by omega), show 6 + (8 + i) = 14 + i by omega]
  have e3 : unfK ((((xs.drop 6).take (30 - 6)).drop 8).drop 8) 8 = unfK (xs.drop 22) 8 := unfK_eq fun i hi => by
    simp only [List.getD_eq_getElem?_getD, List.getElem?_drop, List.getElem?_take]; rw [if_pos (by omega), show 6 + (8 + (8 + i)) = 22 + i by omega]
  rw [e1, e2, e3]
theorem tant_beq (L : List Y) : ((bstr L).toList == (⟨#[116, 97, 110, 116]⟩ : ByteArray).toList) = decide (L = [116#8, 97#8, 110#8, 116#8]) := by
  have e : (⟨#[116, 97, 110, 116]⟩ : ByteArray).toList = (bstr [116#8, 97#8, 110#8, 116#8]).toList := by rw [ByteArray.toList_eq, ByteArray.toList_eq, bstr_data]; rfl
  rw [e, bstr_beq]
theorem take_c2 {xs L : List Y} (eL : L = xs.take 4) (c : (!((bstr L).toList == (⟨#[116, 97, 110, 116]⟩ : ByteArray).toList) || !(headOf xs).right) = true) (h : xs.take 4 = [116#8, 97#8, 110#8, 116#8] ∧ (headOf xs).right = true) : False := by
  rw [tant_beq, eL, h.2, decide_eq_true h.1] at c; cases c
theorem take_c3 {xs L : List Y} (eL : L = xs.take 4) (c : (!((bstr L).toList == (⟨#[116, 97, 110, 116]⟩ : ByteArray).toList) || !(headOf xs).right) = false) : xs.take 4 = [116#8, 97#8, 110#8, 116#8] ∧ (headOf xs).right = true := by
  rw [tant_beq, eL, Bool.or_eq_false_iff, Bool.not_eq_false', Bool.not_eq_false', decide_eq_true_eq] at c
  exact c
end Go.Tan
