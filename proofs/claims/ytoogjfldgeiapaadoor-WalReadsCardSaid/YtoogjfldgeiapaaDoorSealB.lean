/- SHA-256 as plain data: a block's words, its rounds, the state behind so many blocks, what stands behind the bytes. No condition. -/
import Derived.Test.YtoogjfldgeiapaaDoorTanI
namespace Go.Tan
open Go.RowKit
/-! ### Helpers of walks -/
theorem one_app {xs ys : List Value} (h1 : ∀ u ∈ xs, u.oneCell' = true) (h2 : ∀ u ∈ ys, u.oneCell' = true) : ∀ u ∈ xs ++ ys, u.oneCell' = true := by
  intro u hu; rcases List.mem_append.1 hu with h | h
  · exact h1 u h
  · exact h2 u h
theorem wap_at1 {n : Nat} {y : Nat → W} {r : List Value} {j : Int} {o : Nat} (a : Nat) (hj : o + j.toNat * 1 = a) (h : a < n) : (wa n y ++ r)[o + j.toNat * 1]? = some (U (y a)) := by
  rw [hj, List.getElem?_append_left (by rw [wa_len]; exact h)]; exact wa_at h
theorem wap_set1 {n : Nat} {y : Nat → W} {r : List Value} {j : Int} {z : W} {o : Nat} (a : Nat) (hj : o + j.toNat * 1 = a) (h : a < n) : (wa n y ++ r).set (o + j.toNat * 1) (U z) = wa n (upd y a z) ++ r := by
  rw [hj, List.set_append_left _ _ (by rw [wa_len]; exact h)]; rw [wa_set]
theorem wap_f {n o : Nat} {y : Nat → W} {r : List Value} {v : Option Value} (h : r[o - n]? = v) (hn : n ≤ o := by decide) : (wa n y ++ r)[o]? = v := by
  rw [List.getElem?_append_right (by rw [wa_len]; exact hn), wa_len]; exact h
theorem wap_s {n o : Nat} {y : Nat → W} {r r' : List Value} {v : Value} (h : r.set (o - n) v = r') (hn : n ≤ o := by decide) : (wa n y ++ r).set o v = wa n y ++ r' := by
  rw [List.set_append_right _ _ (by rw [wa_len]; exact hn), wa_len, h]
theorem map_at1 {xs : List Y} {j : Int} {o : Nat} (a : Nat) (hj : o + j.toNat * 1 = a) (h : a < xs.length) : (xs.map V)[o + j.toNat * 1]? = some (V (xs.getD a 0)) := by
  rw [hj]; simp [h]
theorem wa_congr {n : Nat} {f f' : Nat → W} (h : ∀ i, i < n → f i = f' i) : wa n f = wa n f' := by
  unfold wa
  refine List.map_congr_left fun i hi => ?_
  rw [h i (List.mem_range.1 hi)]
/-! ### Words -/
/-- turned to the right, as the program has it -/
def rotr (x : W) (k : Nat) : W := x <<< (32 - k) ||| x >>> k
theorem rotI_neg {x : W} {k : Nat} (h : k ∈ [2, 6, 7, 11, 13, 17, 18, 19, 22, 25]) : rotI x (-(k : Int)) = rotr x k := by
  simp only [List.mem_cons, List.not_mem_nil, or_false] at h
  rcases h with rfl | rfl | rfl | rfl | rfl | rfl | rfl | rfl | rfl | rfl <;> rfl
def kL : List W := [0x428a2f98, 0x71374491, 0xb5c0fbcf, 0xe9b5dba5, 0x3956c25b, 0x59f111f1, 0x923f82a4, 0xab1c5ed5, 0xd807aa98, 0x12835b01, 0x243185be, 0x550c7dc3, 0x72be5d74, 0x80deb1fe, 0x9bdc06a7, 0xc19bf174, 0xe49b69c1, 0xefbe4786, 0x0fc19dc6, 0x240ca1cc, 0x2de92c6f, 0x4a7484aa, 0x5cb0a9dc, 0x76f988da, 0x983e5152, 0xa831c66d, 0xb00327c8, 0xbf597fc7, 0xc6e00bf3, 0xd5a79147, 0x06ca6351, 0x14292967, 0x27b70a85, 0x2e1b2138, 0x4d2c6dfc, 0x53380d13, 0x650a7354, 0x766a0abb, 0x81c2c92e, 0x92722c85, 0xa2bfe8a1, 0xa81a664b, 0xc24b8b70, 0xc76c51a3, 0xd192e819, 0xd6990624, 0xf40e3585, 0x106aa070, 0x19a4c116, 0x1e376c08, 0x2748774c, 0x34b0bcb5, 0x391c0cb3, 0x4ed8aa4a, 0x5b9cca4f, 0x682e6ff3, 0x748f82ee, 0x78a5636f, 0x84c87814, 0x8cc70208, 0x90befffa, 0xa4506ceb, 0xbef9a3f7, 0xc67178f2]
def kW : Nat → W := fun i => kL.getD i 0
def ivL : List W := [1779033703, 3144134277, 1013904242, 2773480762, 1359893119, 2600822924, 528734635, 1541459225]
def ivW : Nat → W := fun i => ivL.getD i 0
/-- four bytes, the highest first -/
def beW (b : Nat → Y) (i : Nat) : W := (b i).setWidth 32 <<< 24 ||| (b (i + 1)).setWidth 32 <<< 16 ||| (b (i + 2)).setWidth 32 <<< 8 ||| (b (i + 3)).setWidth 32
def shB (f : Nat → Y) (i : Nat) : Nat → W
  | 0 => 0#32
  | c + 1 => shB f i c <<< 8 ||| (f (4 * i + c)).setWidth 32
theorem shB_four (f : Nat → Y) (i : Nat) : shB f i 4 = beW f (4 * i) := by
  simp only [shB, beW, BitVec.shiftLeft_or_distrib, ← BitVec.shiftLeft_add, Nat.add_zero]
  simp [BitVec.shiftLeft_or_distrib, ← BitVec.shiftLeft_add, BitVec.or_assoc]
def s0W (x : W) : W := rotr x 7 ^^^ rotr x 18 ^^^ x >>> 3
def s1W (x : W) : W := rotr x 17 ^^^ rotr x 19 ^^^ x >>> 10
/-- the first 16 words, so many of them -/
def w16 (b : Nat → Y) : Nat → Nat → W
  | 0 => fun _ => 0#32
  | k + 1 => upd (w16 b k) k (beW b (4 * k))
/-- a block's words, so many behind the first 16 -/
def sched (b : Nat → Y) : Nat → Nat → W
  | 0 => w16 b 16
  | k + 1 => upd (sched b k) (16 + k) (sched b k k + sched b k (9 + k) + s0W (sched b k (1 + k)) + s1W (sched b k (14 + k)))
def chW (e f g : W) : W := g ^^^ (e &&& (f ^^^ g))
def majW (a b c : W) : W := a &&& b ||| c &&& (a ||| b)
theorem ch_eq (e f g : W) : (e &&& f) ^^^ (~~~e &&& g) = chW e f g := by
  unfold chW
  apply BitVec.eq_of_getLsbD_eq
  intro i hi
  simp only [BitVec.getLsbD_xor, BitVec.getLsbD_and, BitVec.getLsbD_not, hi, decide_true, Bool.true_and]
  cases e.getLsbD i <;> cases f.getLsbD i <;> cases g.getLsbD i <;> rfl
theorem maj_eq (a b c : W) : (a &&& b) ^^^ (a &&& c) ^^^ (b &&& c) = majW a b c := by
  unfold majW
  apply BitVec.eq_of_getLsbD_eq
  intro i hi
  simp only [BitVec.getLsbD_xor, BitVec.getLsbD_and, BitVec.getLsbD_or]
  cases a.getLsbD i <;> cases b.getLsbD i <;> cases c.getLsbD i <;> rfl
def tW (x : Nat → W) (k w : W) : W := x 7 + (rotr (x 4) 6 ^^^ rotr (x 4) 11 ^^^ rotr (x 4) 25) + chW (x 4) (x 5) (x 6) + k + w
def uW (x : Nat → W) : W := (rotr (x 0) 2 ^^^ rotr (x 0) 13 ^^^ rotr (x 0) 22) + majW (x 0) (x 1) (x 2)
def rndW (x : Nat → W) (k w : W) : Nat → W := fun i => match i with
  | 0 => tW x k w + uW x | 1 => x 0 | 2 => x 1 | 3 => x 2 | 4 => x 3 + tW x k w | 5 => x 4 | 6 => x 5 | _ => x 6
def rnds (w s : Nat → W) : Nat → Nat → W
  | 0 => s
  | k + 1 => rndW (rnds w s k) (kW k) (w k)
/-- the words behind a block -/
def shaC (s : Nat → W) (b : Nat → Y) : Nat → W := fun i => s i + rnds (sched b 48) s 64 i
def blkF (xs : List Y) (k : Nat) : Nat → Y := fun i => xs.getD (64 * k + i) 0
/-- the words behind so many blocks -/
def shaW (xs : List Y) : Nat → Nat → W
  | 0 => ivW
  | k + 1 => shaC (shaW xs k) (blkF xs k)
theorem w16_congr {b b' : Nat → Y} (h : ∀ i, i < 64 → b i = b' i) : ∀ k, k ≤ 16 → w16 b k = w16 b' k
  | 0, _ => rfl
  | k + 1, hk => by
    rw [w16, w16, w16_congr h k (by omega)]
    unfold beW
    rw [h _ (by omega), h _ (by omega), h _ (by omega), h _ (by omega)]
theorem sched_congr {b b' : Nat → Y} (h : ∀ i, i < 64 → b i = b' i) : ∀ k, sched b k = sched b' k
  | 0 => w16_congr h 16 (by omega)
  | k + 1 => by rw [sched, sched, sched_congr h k]
theorem shaC_congr {s : Nat → W} {b b' : Nat → Y} (h : ∀ i, i < 64 → b i = b' i) : shaC s b = shaC s b' := by
  unfold shaC; rw [sched_congr h]
theorem shaW_congr {xs ys : List Y} {k : Nat} (h : ∀ i, i < 64 * k → xs.getD i 0 = ys.getD i 0) : shaW xs k = shaW ys k := by
  induction k with
  | zero => rfl
  | succ k ih =>
    rw [shaW, shaW, ih (fun i hi => h i (by omega))]
    exact shaC_congr fun i hi => h _ (by omega)
theorem shaW_app {xs ys : List Y} {k : Nat} (h : 64 * k ≤ xs.length) : shaW (xs ++ ys) k = shaW xs k :=
  shaW_congr fun i hi => by simp [List.getD_eq_getElem?_getD, List.getElem?_append_left (show i < xs.length by omega)]
/-- what stands behind the bytes, without the length -/
def zeros (n : Nat) : Nat := (119 - n % 64) % 64
def len64 (n : Nat) : BitVec 64 := BitVec.ofInt 64 (n : Int) * 8#64
def lenF (n : Nat) (j : Nat) : Y := (len64 n >>> (56 - 8 * j)).setWidth 8
def lenB (n j : Nat) : List Y := (List.range j).map (lenF n)
def tailL (n : Nat) : List Y := 128#8 :: List.replicate (zeros n) 0#8 ++ lenB n 8
def padL (xs : List Y) : List Y := xs ++ tailL xs.length
theorem lenB_len (n j : Nat) : (lenB n j).length = j := by simp [lenB]
theorem lenB_snoc (n j : Nat) : lenB n (j + 1) = lenB n j ++ [lenF n j] := by simp [lenB, List.range_succ]
theorem tail_len (n : Nat) : (tailL n).length = zeros n + 9 := by simp [tailL, lenB_len]
theorem pad_len (xs : List Y) : (padL xs).length % 64 = 0 := by
  have : zeros xs.length = (119 - xs.length % 64) % 64 := rfl
  simp only [padL, List.length_append, tail_len]; omega
/-- the digest -/
def shaD (xs : List Y) : Nat → Y := fun i => ((shaW (padL xs) ((padL xs).length / 64) (i / 4)) >>> (24 - 8 * (i % 4))).setWidth 8
def shaL (xs : List Y) : List Y := yl 32 (shaD xs)
/-- the state's cells; what is not a whole block yet -/
def stC (xs : List Y) (vp : Value) : List Value := wa 8 (shaW xs (xs.length / 64)) ++ [vp, .int .i64 (xs.length : Int)]
def restL (xs : List Y) : List Y := xs.drop (64 * (xs.length / 64))
theorem rest_len (xs : List Y) : (restL xs).length = xs.length % 64 := by simp [restL]; omega
theorem w16_ge (b : Nat → Y) : ∀ (k j : Nat), k ≤ j → w16 b k j = 0#32
  | 0, _, _ => rfl
  | k + 1, j, h => by rw [w16, upd, if_neg (by omega)]; exact w16_ge b k j (by omega)
theorem upd_w16 (b : Nat → Y) {k j : Nat} (h : k ≤ j) : upd (w16 b k) j 0#32 = w16 b k := by
  have := upd_self (w16 b k) j
  rwa [w16_ge b k j h] at this
theorem getD_part {xs : List Y} {lo m c : Nat} (h : c < m) : ((xs.drop lo).take m).getD c 0 = xs.getD (lo + c) 0 := by
  simp [List.getD_eq_getElem?_getD, List.getElem?_take, h, List.getElem?_drop]
theorem upd_if {s x : Nat → W} {k : Nat} : upd (fun i => if i < k then s i + x i else s i) k ((if k < k then s k + x k else s k) + x k) = fun i => if i < k + 1 then s i + x i else s i := by
  funext i
  unfold upd
  by_cases h : i = k
  · subst h; simp
  · rw [if_neg h]
    by_cases h2 : i < k
    · simp [h2, show i < k + 1 by omega]
    · simp [h2, show ¬ i < k + 1 by omega]
end Go.Tan
