/- Codec's fixed numbers, crossing in place, keyed sums and sealing as plain data. No condition. -/
import Derived.Test.YtoogjfldgeiapaaDoorSealB
import Derived.Test.YtoogjfldgeiapaaDoorTanJ
namespace Go.Tan
open Go.RowKit
/-- the lowest bytes of a number -/
def fixL (n : BitVec 64) (many : Nat) : List Y := (List.range many).map fun j => (n >>> (8 * j)).setWidth 8
theorem fix_len (n : BitVec 64) (many : Nat) : (fixL n many).length = many := by simp [fixL]
theorem fix_snoc (n : BitVec 64) (k : Nat) : fixL n (k + 1) = fixL n k ++ [(n >>> (8 * k)).setWidth 8] := by simp [fixL, List.range_succ]
/-- crossed up to a place -/
def crT (key nonce : Nat → Y) (count : W) (xs : List Y) (m : Nat) : List Y := yl xs.length fun i => if i < m then crF key nonce count xs i else xs.getD i 0
theorem crT_len (key nonce : Nat → Y) (count : W) (xs : List Y) (m : Nat) : (crT key nonce count xs m).length = xs.length := yl_len _ _
theorem yl_congr {n : Nat} {f f' : Nat → Y} (h : ∀ i, i < n → f i = f' i) : yl n f = yl n f' := by
  unfold yl
  refine List.map_congr_left fun i hi => ?_
  rw [h i (List.mem_range.1 hi)]
theorem yl_self (xs : List Y) : yl xs.length (fun i => xs.getD i 0) = xs := by
  refine List.ext_getElem? fun i => ?_
  by_cases h : i < xs.length
  · simp [yl, h]
  · simp [yl, h]
theorem yl_set {n j : Nat} {f : Nat → Y} {z : Y} : (yl n f).set j z = yl n (upd f j z) := by
  refine List.ext_getElem? fun i => ?_
  rw [List.getElem?_set]
  by_cases h : j = i
  · subst h
    by_cases hj : j < n
    · simp [yl, upd, hj]
    · simp [yl, hj]
  · simp only [if_neg h]
    by_cases hi : i < n
    · simp [yl, upd, hi, show ¬ i = j from fun e => h e.symm]
    · simp [yl, hi]
theorem crT_zero (key nonce : Nat → Y) (count : W) (xs : List Y) : crT key nonce count xs 0 = xs := by
  unfold crT
  rw [yl_congr (f' := fun i => xs.getD i 0) (fun i _ => by simp), yl_self]
theorem crT_all {key nonce : Nat → Y} {count : W} {xs : List Y} {m : Nat} (h : xs.length ≤ m) : crT key nonce count xs m = crossL key nonce count xs := by
  unfold crT crossL
  exact yl_congr fun i hi => by rw [if_pos (by omega)]
theorem crT_step {key nonce : Nat → Y} {count : W} {xs : List Y} {j i : Nat} (hi : i < 64) (hl : 64 * j + i < xs.length) :
    (crT key nonce count xs (64 * j + i)).set (64 * j + i) ((crT key nonce count xs (64 * j + i)).getD (64 * j + i) 0 ^^^ chaB key nonce (count + BitVec.ofNat 32 j) i) = crT key nonce count xs (64 * j + (i + 1)) := by
  unfold crT
  rw [yl_at hl, if_neg (by omega), yl_set]
  refine yl_congr fun q hq => ?_
  unfold upd
  by_cases h : q = 64 * j + i
  · rw [if_pos h, if_pos (by omega), h]
    unfold crF
    rw [show (64 * j + i) / 64 = j by omega, show (64 * j + i) % 64 = i by omega]
  · rw [if_neg h]
    show (if q < 64 * j + i then crF key nonce count xs q else xs.getD q 0) = _
    by_cases h2 : q < 64 * j + i
    · rw [if_pos h2, if_pos (by omega)]
    · rw [if_neg h2, if_neg (by omega)]
/-! ### Keyed sums -/
/-- a key that is too long stands for its digest -/
def keyL (key : List Y) : List Y := if key.length > 64 then shaL key else key
def padF (key : List Y) (by' : Y) : Nat → Y := fun i => if i < (keyL key).length then by' ^^^ (keyL key).getD i 0 else by'
def macL (key xs : List Y) : Nat → Y := shaD (yl 64 (padF key 92#8) ++ shaL (yl 64 (padF key 54#8) ++ xs))
theorem shaL_len (xs : List Y) : (shaL xs).length = 32 := yl_len _ _
theorem keyL_len {key : List Y} : (keyL key).length ≤ 64 := by
  unfold keyL; split
  · rw [shaL_len]; decide
  · omega
/-! ### Sealing -/
/-- what a tag is made of -/
def tagL (ad nonce crossed : List Y) : List Y := fixL (BitVec.ofInt 64 (ad.length : Int)) 8 ++ ad ++ nonce ++ crossed
def tagF (mac nonce : Nat → Y) (ad crossed : List Y) : Nat → Y := macL (yl 32 mac) (tagL ad (yl 12 nonce) crossed)
def sealL (enc mac nonce : Nat → Y) (ad text : List Y) : List Y := crossL enc nonce 1#32 text ++ yl 16 (tagF mac nonce ad (crossL enc nonce 1#32 text))
/-- what is opened: none, if it was not sealed so -/
def openL (enc mac nonce : Nat → Y) (ad s : List Y) : Option (List Y) :=
  if s.length < 16 then none
  else if yl 16 (tagF mac nonce ad (s.take (s.length - 16))) = s.drop (s.length - 16) then some (crossL enc nonce 1#32 (s.take (s.length - 16))) else none
theorem cross_len (key nonce : Nat → Y) (count : W) (xs : List Y) : (crossL key nonce count xs).length = xs.length := yl_len _ _
theorem seal_len (enc mac nonce : Nat → Y) (ad text : List Y) : (sealL enc mac nonce ad text).length = text.length + 16 := by simp [sealL, cross_len, yl_len]
theorem cr_end {key nonce : Nat → Y} {count : W} {xs : List Y} {j i : Nat} (h : i = min (xs.length - 64 * j) 64) : crT key nonce count xs (64 * j + i) = crT key nonce count xs (64 * (j + 1)) := by
  unfold crT
  refine yl_congr fun q hq => ?_
  by_cases h1 : q < 64 * j + i
  · rw [if_pos h1, if_pos (by omega)]
  · rw [if_neg h1, if_neg (by omega)]
theorem cut_oa {b o lo cap : Nat} (h : lo < cap) {q : Nat} (hq : q = o + lo) : (Sh.cut ⟨some ⟨b, o, none⟩, cap⟩ lo 1).oa = some ⟨b, q, none⟩ := by
  subst hq
  unfold Sh.cut
  rw [if_neg (by show ¬ cap = lo; omega)]
  simp [add_lit]
theorem open_short {enc mac nonce : Nat → Y} {ad s : List Y} (h : s.length < 16) : openL enc mac nonce ad s = none := by unfold openL; rw [if_pos h]
theorem open_bad {enc mac nonce : Nat → Y} {ad s : List Y} (h : 16 ≤ s.length) (hn : ¬ yl 16 (tagF mac nonce ad (s.take (s.length - 16))) = s.drop (s.length - 16)) : openL enc mac nonce ad s = none := by
  unfold openL; rw [if_neg (by omega), if_neg hn]
theorem open_good {enc mac nonce : Nat → Y} {ad s : List Y} (h : 16 ≤ s.length) (hn : yl 16 (tagF mac nonce ad (s.take (s.length - 16))) = s.drop (s.length - 16)) : openL enc mac nonce ad s = some (crossL enc nonce 1#32 (s.take (s.length - 16))) := by
  unfold openL; rw [if_neg (by omega), if_pos hn]
theorem cross_cross (key nonce : Nat → Y) (count : W) (xs : List Y) : crossL key nonce count (crossL key nonce count xs) = xs := by
  conv => rhs; rw [← yl_self xs]
  rw [crossL, cross_len]
  refine yl_congr fun i hi => ?_
  unfold crF
  rw [show (crossL key nonce count xs).getD i 0 = crF key nonce count xs i from yl_at hi]
  unfold crF
  rw [BitVec.xor_assoc, BitVec.xor_self, BitVec.xor_zero]
theorem open_seal (enc mac nonce : Nat → Y) (ad text : List Y) : openL enc mac nonce ad (sealL enc mac nonce ad text) = some text := by
  have hl := seal_len enc mac nonce ad text
  have hc := cross_len enc nonce 1#32 text
  have ht : (sealL enc mac nonce ad text).take ((sealL enc mac nonce ad text).length - 16) = crossL enc nonce 1#32 text := by
    rw [hl, show text.length + 16 - 16 = (crossL enc nonce 1#32 text).length by omega]; exact List.take_left
  have hd : (sealL enc mac nonce ad text).drop ((sealL enc mac nonce ad text).length - 16) = yl 16 (tagF mac nonce ad (crossL enc nonce 1#32 text)) := by
    rw [hl, show text.length + 16 - 16 = (crossL enc nonce 1#32 text).length by omega]; exact List.drop_left
  rw [open_good (by omega) (by rw [ht, hd]), ht, cross_cross]
theorem seal_open {enc mac nonce : Nat → Y} {ad s L : List Y} (h : openL enc mac nonce ad s = some L) : sealL enc mac nonce ad L = s ∧ 16 ≤ s.length ∧ L.length = s.length - 16 := by
  unfold openL at h
  split at h
  · cases h
  · split at h
    · rename_i h1 h2
      obtain rfl := Option.some.inj h
      refine ⟨?_, by omega, by rw [cross_len, List.length_take]; omega⟩
      rw [sealL, cross_cross, h2, List.take_append_drop]
    · cases h
theorem open_iff {enc mac nonce : Nat → Y} {ad s : List Y} (h : 16 ≤ s.length) : (openL enc mac nonce ad s).isSome = decide (yl 16 (tagF mac nonce ad (s.take (s.length - 16))) = s.drop (s.length - 16)) := by
  by_cases hn : yl 16 (tagF mac nonce ad (s.take (s.length - 16))) = s.drop (s.length - 16)
  · rw [open_good h hn, decide_eq_true hn]; rfl
  · rw [open_bad h hn, decide_eq_false hn]; rfl
/-- what opening answers -/
def OpenR (o : Option (List Y)) (L : List Y) (e : Int) : Prop := (o = some L ∧ e = 0) ∨ (o = none ∧ L = [] ∧ e = 60)
theorem OpenR.ok {o : Option (List Y)} {L : List Y} {e : Int} (h : OpenR o L e) : (e == 0) = o.isSome := by
  rcases h with ⟨rfl, rfl⟩ | ⟨rfl, _, rfl⟩ <;> rfl
theorem OpenR.some {L L' : List Y} {e : Int} (h : OpenR (some L') L e) : L = L' ∧ e = 0 := by
  rcases h with ⟨h, rfl⟩ | ⟨h, _⟩
  · exact ⟨(Option.some.inj h).symm, rfl⟩
  · cases h
theorem OpenR.none {L : List Y} {e : Int} (h : OpenR none L e) : L = [] ∧ e = 60 := by
  rcases h with ⟨h, _⟩ | ⟨_, h⟩
  · cases h
  · exact h
theorem OpenR.uniq {o : Option (List Y)} {L L' : List Y} {e e' : Int} (h : OpenR o L e) (h' : OpenR o L' e') : L = L' ∧ e = e' := by
  rcases h with ⟨h1, rfl⟩ | ⟨h1, rfl, rfl⟩
  · rw [h1] at h'; obtain ⟨rfl, rfl⟩ := h'.some; exact ⟨rfl, rfl⟩
  · rw [h1] at h'; obtain ⟨rfl, rfl⟩ := h'.none; exact ⟨rfl, rfl⟩
/-- what a text is sealed with, as cells -/
def withC (enc mac nonce : Nat → Y) (va : Value) : List Value := ba 32 enc ++ ba 32 mac ++ (ba 12 nonce ++ [va])
theorem with_k {enc mac nonce : Nat → Y} {va : Value} : ((withC enc mac nonce va).drop 0).take 64 = ba 32 enc ++ ba 32 mac := by
  have : (ba 32 enc ++ ba 32 mac).length = 64 := by simp [ba_len]
  rw [List.drop_zero, withC, ← this, List.take_left]
theorem with_n {enc mac nonce : Nat → Y} {va : Value} : ((withC enc mac nonce va).drop 64).take 12 = ba 12 nonce := by
  have : (ba 32 enc ++ ba 32 mac).length = 64 := by simp [ba_len]
  have h2 : (withC enc mac nonce va).drop 64 = ba 12 nonce ++ [va] := by rw [withC, ← this, List.drop_left]
  rw [h2]
  have h3 : (ba 12 nonce).length = 12 := ba_len _ _
  conv => lhs; rw [← h3]
  exact List.take_left
theorem with_a {enc mac nonce : Nat → Y} {va : Value} : (withC enc mac nonce va)[76]? = Option.some va := by
  have : (ba 32 enc ++ ba 32 mac).length = 64 := by simp [ba_len]
  rw [withC, List.getElem?_append_right (by rw [this]; decide), this, List.getElem?_append_right (by rw [ba_len]; decide), ba_len]; rfl
theorem other_fin {o : Option (List Y)} {L : List Y} {e : Int} {q : Bool} (h : OpenR o L e) (hq : o.isSome = q) : (true && (q == q) && (q || e == 60)) = true := by
  subst hq
  rcases h with ⟨rfl, rfl⟩ | ⟨rfl, _, rfl⟩ <;> rfl
theorem turned_fin {o : Option (List Y)} {q : Bool} {b : Y} (hq : o.isSome = q) (hb : b = 0 → o.isSome = true) : (true && (q == q) && ((b.toNat : Int) != 0 || q)) = true := by
  subst hq
  by_cases h : b = 0
  · rw [hb h]; simp
  · have : (b.toNat : Int) ≠ 0 := fun e => h (BitVec.eq_of_toNat_eq (by simpa using e))
    have h2 : ((b.toNat : Int) != 0) = true := by rw [bne_iff_ne]; exact this
    rw [h2]; simp
theorem turned_same {xs : List Y} {j k : Nat} {z : Y} (hz : z = 0) (hj : j = k) (hk : k < xs.length) : xs.set j (xs.getD k 0 ^^^ z) = xs := by
  subst hz; subst hj
  rw [show xs.getD j 0 ^^^ (0 : Y) = xs.getD j 0 from BitVec.xor_zero]
  refine List.ext_getElem? fun i => ?_
  rw [List.getElem?_set]
  split
  · rename_i e; subst e; simp [hk]
  · rfl
theorem set_same {xs : List Y} {o j : Nat} (h : o + j < xs.length) : xs.set (o + j) (xs.getD (o + j) 0) = xs := by
  refine List.ext_getElem? fun i => ?_
  rw [List.getElem?_set]
  split
  · rename_i e; subst e; simp [h]
  · rfl
theorem yl_snoc (k : Nat) (f : Nat → Y) : yl (k + 1) f = yl k f ++ [f k] := by simp [yl, List.range_succ]
theorem byte_mod (m : BitVec 64) : (m % 256#64).setWidth 8 = m.setWidth 8 := by
  apply BitVec.eq_of_toNat_eq
  simp [BitVec.toNat_setWidth, BitVec.toNat_umod]
theorem div256 (m : BitVec 64) : m / 256#64 = m >>> 8 := by
  apply BitVec.eq_of_toNat_eq
  simp [BitVec.toNat_udiv, BitVec.toNat_ushiftRight, Nat.shiftRight_eq_div_pow]
theorem Sc.arrh {G : PM} {μ μ' : Mem} {b cap m q : Nat} {f : Nat → Y} {T : TypeId} (hm : MTake μ (.blk b (cl (ba m f) T)) μ') (hq : q ≤ m) : Sc G μ (.slice (some ⟨b, 0, none⟩) q cap) (yl q f) :=
  Sc.blk hm (yl_len q f) (by rw [yl_V]; exact ba_take hq)
end Go.Tan
