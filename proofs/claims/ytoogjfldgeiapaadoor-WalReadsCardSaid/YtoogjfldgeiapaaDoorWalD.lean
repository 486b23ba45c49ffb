/- A byte that is another one makes another sum: plain data. No condition. -/
import Derived.Test.YtoogjfldgeiapaaDoorWalC
namespace Go.Tan
open Go.RowKit
theorem shr_xor_and {x : W} : x &&& 1#32 = 0#32 ∨ x &&& 1#32 = 1#32 := by
  rcases and_one x with ⟨h, _⟩ | ⟨h, _⟩
  · exact .inl h
  · exact .inr h
theorem half_top (x : W) : (halfW x).getLsbD 31 = x.getLsbD 0 := by
  have hb : x.getLsbD 0 = decide (x &&& 1#32 = 1#32) := by
    have h1 : (x &&& 1#32).getLsbD 0 = x.getLsbD 0 := by rw [BitVec.getLsbD_and]; simp
    rw [← h1]
    rcases shr_xor_and (x := x) with h | h <;> rw [h] <;> rfl
  unfold halfW
  rw [hb]
  rcases shr_xor_and (x := x) with h | h <;> rw [h] <;> simp [polyW, BitVec.getLsbD_xor, BitVec.getLsbD_ushiftRight]
theorem half_inj {x y : W} (h : halfW x = halfW y) : x = y := by
  have h0 : x.getLsbD 0 = y.getLsbD 0 := by rw [← half_top x, ← half_top y, h]
  have hl : x &&& 1#32 = y &&& 1#32 := by
    have e : ∀ z : W, z &&& 1#32 = if z.getLsbD 0 then 1#32 else 0#32 := by
      intro z
      have h1 : (z &&& 1#32).getLsbD 0 = z.getLsbD 0 := by rw [BitVec.getLsbD_and]; simp
      rcases shr_xor_and (x := z) with h | h
      · rw [h] at h1; rw [h, ← h1]; rfl
      · rw [h] at h1; rw [h, ← h1]; rfl
    rw [e x, e y, h0]
  have hs : x >>> 1 = y >>> 1 := by
    unfold halfW at h
    rw [hl] at h
    have := congrArg (· ^^^ (polyW &&& -(y &&& 1#32))) h
    simpa [BitVec.xor_assoc] using this
  apply BitVec.eq_of_getLsbD_eq
  intro i hi
  cases i with
  | zero => exact h0
  | succ i =>
    have := congrArg (fun z : W => z.getLsbD i) hs
    simpa [BitVec.getLsbD_ushiftRight, Nat.add_comm] using this
theorem hIt_inj {n : Nat} {x y : W} (h : hIt n x = hIt n y) : x = y := by
  induction n with
  | zero => exact h
  | succ n ih => exact ih (half_inj h)
theorem crcB_inj {x y : W} {c : Y} (h : crcB x c = crcB y c) : x = y := by
  have := congrArg (· ^^^ c.setWidth 32) (hIt_inj h)
  simpa [BitVec.xor_assoc] using this
theorem crcB_byte {x : W} {a b : Y} (h : crcB x a = crcB x b) : a = b := by
  have h1 := congrArg (x ^^^ ·) (hIt_inj h)
  simp only [← BitVec.xor_assoc, BitVec.xor_self, BitVec.zero_xor] at h1
  have h2 := congrArg BitVec.toNat h1
  simp only [BitVec.toNat_setWidth] at h2
  apply BitVec.eq_of_toNat_eq
  have := a.isLt; have := b.isLt
  omega
theorem fold_inj {zs : List Y} {x y : W} (h : zs.foldl crcB x = zs.foldl crcB y) : x = y := by
  induction zs generalizing x y with
  | nil => exact h
  | cons z zs ih => exact crcB_inj (ih h)
theorem crc_set {sum : W} {xs : List Y} {k : Nat} {y z : Y} (hz : xs[k]? = some z) (h : crcW sum (xs.set k y) = crcW sum xs) : y = z := by
  have hk : k < xs.length := (List.getElem?_eq_some_iff.1 hz).1
  have e1 : xs.set k y = xs.take k ++ y :: xs.drop (k + 1) := by rw [List.set_eq_take_append_cons_drop, if_pos hk]
  have e2 : xs = xs.take k ++ z :: xs.drop (k + 1) := by
    have := (List.getElem?_eq_some_iff.1 hz).2
    conv => lhs; rw [← List.take_append_drop k xs, List.drop_eq_getElem_cons hk, this]
  unfold crcW at h
  have h' := congrArg (~~~ ·) h
  simp only [BitVec.not_not] at h'
  rw [e1] at h'
  conv at h' => rhs; rw [e2]
  rw [List.foldl_append, List.foldl_append, List.foldl_cons, List.foldl_cons] at h'
  exact crcB_byte (fold_inj h')
theorem mask_inj {x y : W} (h : maskW x = maskW y) : x = y := by
  rw [← mask_eq, ← mask_eq] at h
  have h1 : x % 32768#32 * 131072#32 + x / 32768#32 = y % 32768#32 * 131072#32 + y / 32768#32 := by
    have := congrArg (· - 2726488792#32) h
    simpa using this
  have key : ∀ z : W, (z % 32768#32 * 131072#32 + z / 32768#32).toNat = z.toNat % 32768 * 131072 + z.toNat / 32768 := by
    intro z
    have := z.isLt
    simp only [BitVec.toNat_add, BitVec.toNat_mul, BitVec.toNat_umod, BitVec.toNat_udiv, BitVec.toNat_ofNat, show (32768 : Nat) % 2 ^ 32 = 32768 from rfl, show (131072 : Nat) % 2 ^ 32 = 131072 from rfl]
    omega
  have h2 := congrArg BitVec.toNat h1
  rw [key, key] at h2
  apply BitVec.eq_of_toNat_eq
  have := x.isLt; have := y.isLt
  omega
theorem fix4_inj {x y : W} (h : fixL (x.setWidth 64) 4 = fixL (y.setWidth 64) 4) : x = y := by
  apply BitVec.eq_of_getLsbD_eq
  intro i hi
  have h1 := congrArg (·[i / 8]?) h
  simp only [fix_at (show i / 8 < 4 by omega), Option.some.injEq] at h1
  have h2 := congrArg (fun z : Y => z.getLsbD (i % 8)) h1
  simp only [BitVec.getLsbD_setWidth, BitVec.getLsbD_ushiftRight, show 8 * (i / 8) + i % 8 = i by omega, show i % 8 < 8 by omega, show i < 64 by omega, decide_true, Bool.true_and] at h2
  exact h2
theorem frame_crc {k k' : Y} {p p' q q' : List Y} (hl : q.length = q'.length) (h : frameL k p ++ q = frameL k' p' ++ q') : crcW 0#32 ([k] ++ p) = crcW 0#32 ([k'] ++ p') := by
  have h1 := (List.append_inj h (by rw [frame_len, frame_len])).1
  unfold frameL at h1
  have h2 := (List.append_inj h1 (by simp [fix_len])).1
  have h3 := (List.append_inj h2 (by simp [fix_len])).1
  exact mask_inj (fix4_inj h3)
theorem set_eq_self {xs : List Y} {k : Nat} {y z : Y} (hz : xs[k]? = some z) (h : xs.set k y = xs) : y = z := by
  have hk : k < xs.length := (List.getElem?_eq_some_iff.1 hz).1
  have := congrArg (·[k]?) h
  simp only [List.getElem?_set, if_true, hk, hz, Option.some.injEq] at this
  exact this
section
variable {op : Nat → List Y → Option (List Y)} {tot : Nat} {recs : List (List Y)} {used : Nat} {s : List Y}
theorem no_set {kind : Y} {p t parts : List Y} {c : Nat} {y z : Y} (hp : p.length ≤ 128) (h0 : 0 < p.length) (hc : c < 7 + p.length) (h4 : c ≠ 4) (h5 : c ≠ 5) (hz : (frameL kind p ++ p ++ t)[c]? = some z) (hne : y ≠ z) :
    readL op tot ((frameL kind p ++ p ++ t).set c y) parts recs used = none := by
  have hfl := frame_len kind p
  have hl : ((frameL kind p ++ p ++ t).set c y).length = 7 + p.length + t.length := by rw [List.length_set, List.length_append, List.length_append, frame_len]
  have hN : pieceN ((frameL kind p ++ p ++ t).set c y) = p.length := pieceN_of (kind := kind) (p := p)
    (by rw [List.getElem?_set_ne h4, List.append_assoc, List.getElem?_append_left (by rw [frame_len]; decide)]) (by rw [List.getElem?_set_ne h5, List.append_assoc, List.getElem?_append_left (by rw [frame_len]; decide)]) hp
  refine rd_no (by omega) (by omega) (by omega) (.inl ?_)
  rw [hN]
  by_cases c7 : c < 7
  · have hz' : (frameL kind p)[c]? = some z := by rw [List.append_assoc, List.getElem?_append_left (by omega)] at hz; exact hz
    have e : (frameL kind p ++ p ++ t).set c y = (frameL kind p).set c y ++ p ++ t := by rw [List.append_assoc, List.set_append_left _ _ (by omega), ← List.append_assoc]
    have hls : ((frameL kind p).set c y).length = 7 := by rw [List.length_set, hfl]
    have e7 : ((frameL kind p).set c y ++ p ++ t).take 7 = (frameL kind p).set c y := by rw [List.append_assoc, List.take_left' hls]
    have et : (((frameL kind p).set c y ++ p ++ t).drop 7).take p.length = p := by rw [List.append_assoc, List.drop_left' hls, List.take_left]
    rw [e, e7, et]
    by_cases c6 : c = 6
    · subst c6
      have hk : ((frameL kind p).set 6 y ++ p ++ t).getD 6 0 = y := getD_of (by rw [List.append_assoc, List.getElem?_append_left (by omega), List.getElem?_set_self (by omega)])
      rw [hk]
      intro h
      have e2 : (frameL kind p).set 6 y = fixL ((maskW (crcW 0#32 ([kind] ++ p))).setWidth 64) 4 ++ fixL (BitVec.ofInt 64 (p.length : Int)) 2 ++ [y] := by
        unfold frameL
        rw [List.set_append_right _ _ (by simp [fix_len])]; simp [fix_len]
      rw [e2, frameL] at h
      have h1 := (List.append_inj h (by simp [fix_len])).1
      have h2 := (List.append_inj h1 (by simp [fix_len])).1
      have h3 := mask_inj (fix4_inj h2)
      rw [frame_at6] at hz'
      have := crc_set (sum := 0#32) (xs := [kind] ++ p) (k := 0) (y := y) (z := kind) rfl h3
      simp only [Option.some.injEq] at hz'
      exact hne (this.trans hz')
    · have hk : ((frameL kind p).set c y ++ p ++ t).getD 6 0 = kind := getD_of (by rw [List.append_assoc, List.getElem?_append_left (by omega), List.getElem?_set_ne c6, frame_at6])
      rw [hk]
      exact fun h => hne (set_eq_self hz' h.symm)
  · have hz' : p[c - 7]? = some z := by rw [List.append_assoc, List.getElem?_append_right (by omega), hfl, List.getElem?_append_left (by omega)] at hz; exact hz
    have e : (frameL kind p ++ p ++ t).set c y = frameL kind p ++ p.set (c - 7) y ++ t := by rw [List.append_assoc, List.set_append_right _ _ (by omega), hfl, List.set_append_left _ _ (by omega), ← List.append_assoc]
    have e7 : (frameL kind p ++ p.set (c - 7) y ++ t).take 7 = frameL kind p := by rw [List.append_assoc, List.take_left' hfl]
    have et : ((frameL kind p ++ p.set (c - 7) y ++ t).drop 7).take p.length = p.set (c - 7) y := by rw [List.append_assoc, List.drop_left' hfl, List.take_left' (by rw [List.length_set])]
    have hk : (frameL kind p ++ p.set (c - 7) y ++ t).getD 6 0 = kind := getD_of (by rw [List.append_assoc, List.getElem?_append_left (by omega), frame_at6])
    rw [e, e7, et, hk]
    intro h
    have h1 : crcW 0#32 ([kind] ++ p.set (c - 7) y) = crcW 0#32 ([kind] ++ p) := frame_crc (q := []) (q' := []) rfl (by rw [h])
    have e8 : [kind] ++ p.set (c - 7) y = ([kind] ++ p).set (c - 7 + 1) y := by simp
    rw [e8] at h1
    exact hne (crc_set (k := c - 7 + 1) (by simpa using hz') h1)
theorem set_tl {y z : Y} : ∀ (m j c : Nat), 128 * j < s.length → j + m = (s.length + 127) / 128 → (tlL s j m)[c]? = some z → y ≠ z → c % 135 ≠ 4 → c % 135 ≠ 5 →
    readL op tot ((tlL s j m).set c y) (s.take (128 * j)) recs used = none
  | 0, j, c, h1, h2, h3, _, _, _ => by simp [tlL] at h3
  | m + 1, j, c, h1, h2, h3, hne, h4, h5 => by
    have hl := chunk_len s j
    have hp := pc_len s j
    rw [tlL] at h3 ⊢
    by_cases hk : c < (pcL s j).length
    · rw [pcL] at h3 ⊢
      exact no_set (by omega) (by omega) (by omega) (by omega) (by omega) h3 hne
    · have hm : ¬ s.length - 128 * j ≤ 128 := fun hc => by
        have : m = 0 := by omega
        subst this
        rw [List.getElem?_append_right (by omega)] at h3
        simp [tlL] at h3
      rw [List.getElem?_append_right (by omega)] at h3
      rw [List.set_append_right _ _ (by omega)]
      have := go_app (op := op) (tot := tot) (recs := recs) (used := used) (parts := s.take (128 * j)) (kind := kindAt s.length j) (p := (s.drop (128 * j)).take 128) (t := (tlL s (j + 1) m).set (c - (pcL s j).length) y)
        (by omega) (by omega) (by rw [begun_at h1]; exact right_at h1 hl) (fun h => hm (kind_end.1 h))
      rw [← pcL] at this
      rw [this, chunk_app]
      exact set_tl m (j + 1) _ (by omega) (by omega) h3 hne (by omega) (by omega)
theorem set_rec {c : Nat} {y z : Y} (hz : (recL s)[c]? = some z) (hne : y ≠ z) (h4 : c % 135 ≠ 4) (h5 : c % 135 ≠ 5) : readL op tot ((recL s).set c y) [] recs used = none := by
  rw [rec_tl] at hz ⊢
  have h0 : 0 < s.length := by
    by_cases h : s.length = 0
    · rw [h] at hz; simp [tlL] at hz
    · omega
  have := set_tl (op := op) (tot := tot) (recs := recs) (used := used) ((s.length + 127) / 128) 0 c (by omega) (by omega) hz hne h4 h5
  simpa using this
end
/-! ### What a log tells -/
structure LogV where
  hd : Hd
  recs : List (List Y)
  used : Nat
  torn : Bool
def openAt (root : Nat → Y) (h : Hd) (i : Nat) (s : List Y) : Option (List Y) := openL (keyEnc root (headL h)) (keyMac root (headL h)) (nonceF (BitVec.ofInt 64 (i : Int))) (headL h) s
def sealAt (root : Nat → Y) (h : Hd) (i : Nat) (p : List Y) : List Y := sealL (keyEnc root (headL h)) (keyMac root (headL h)) (nonceF (BitVec.ofInt 64 (i : Int))) (headL h) p
def bodyR (root : Nat → Y) (h : Hd) (xs : List Y) : Option (List (List Y) × Nat) := readL (openAt root h) xs.length (xs.drop 30) [] [] 30
def readP (root : Nat → Y) (xs : List Y) : LogV × Int :=
  if xs.length < 30 then (⟨Hd.zero, [], 0, true⟩, 0)
  else if (takeH xs).2 ≠ 0 then (⟨Hd.zero, [], 0, false⟩, (takeH xs).2)
  else match bodyR root (takeH xs).1 xs with
    | none => (⟨Hd.zero, [], 0, false⟩, 160)
    | some (recs, used) => (⟨(takeH xs).1, recs, used, decide (used < xs.length)⟩, 0)
theorem read_short {root : Nat → Y} {xs : List Y} (h : xs.length < 30) : readP root xs = (⟨Hd.zero, [], 0, true⟩, 0) := by unfold readP; rw [if_pos h]
theorem read_head {root : Nat → Y} {xs : List Y} (h : ¬ xs.length < 30) (he : (takeH xs).2 ≠ 0) : readP root xs = (⟨Hd.zero, [], 0, false⟩, (takeH xs).2) := by unfold readP; rw [if_neg h, if_pos he]
theorem read_none {root : Nat → Y} {xs : List Y} (h : ¬ xs.length < 30) (he : (takeH xs).2 = 0) (hb : bodyR root (takeH xs).1 xs = none) : readP root xs = (⟨Hd.zero, [], 0, false⟩, 160) := by unfold readP; rw [if_neg h, if_neg (fun k => k he), hb]
theorem read_some {root : Nat → Y} {xs : List Y} {recs : List (List Y)} {used : Nat} (h : ¬ xs.length < 30) (he : (takeH xs).2 = 0) (hb : bodyR root (takeH xs).1 xs = some (recs, used)) : readP root xs = (⟨(takeH xs).1, recs, used, decide (used < xs.length)⟩, 0) := by unfold readP; rw [if_neg h, if_neg (fun k => k he), hb]
/-! ### The head is read as it was laid -/
theorem unf_fix (n : BitVec 64) (t : List Y) : unfK (fixL n 8 ++ t) 8 = n := by
  have key : ∀ k, k ≤ 8 → ∀ i, i < 64 → (unfK (fixL n 8 ++ t) k).getLsbD i = (decide (i < 8 * k) && n.getLsbD i) := by
    intro k
    induction k with
    | zero => intro _ i _; simp [unfK]
    | succ k ih =>
      intro hk i hi
      have hg : (fixL n 8 ++ t).getD k 0 = (n >>> (8 * k)).setWidth 8 := getD_of (by rw [List.getElem?_append_left (by rw [fix_len]; omega), fix_at (by omega)])
      rw [unfK, BitVec.getLsbD_or, ih (by omega) i hi, hg]
      simp only [BitVec.getLsbD_shiftLeft, BitVec.getLsbD_setWidth, BitVec.getLsbD_ushiftRight, hi, decide_true, Bool.true_and]
      by_cases h1 : i < 8 * k
      · simp [h1, show i < 8 * (k + 1) by omega]
      · by_cases h2 : i < 8 * (k + 1)
        · simp [h1, h2, show i - 8 * k < 8 by omega, show i - 8 * k < 64 by omega, show 8 * k + (i - 8 * k) = i by omega]
        · simp [h1, h2, show ¬ i - 8 * k < 8 by omega]
  apply BitVec.eq_of_getLsbD_eq
  intro i hi
  rw [key 8 (Nat.le_refl _) i hi]
  simp [hi]
theorem head_back (h : Hd) (t : List Y) : headOf (headL h ++ t) = h := by
  have e : headL h ++ t = [116#8, 97#8, 110#8, 116#8, h.kind, h.level] ++ (fixL h.gen 8 ++ (fixL h.epoch 8 ++ (fixL h.num 8 ++ t))) := by simp [headL]
  have d6 : (headL h ++ t).drop 6 = fixL h.gen 8 ++ (fixL h.epoch 8 ++ (fixL h.num 8 ++ t)) := by rw [e]; rfl
  have d14 : (headL h ++ t).drop 14 = fixL h.epoch 8 ++ (fixL h.num 8 ++ t) := by
    rw [show 14 = 6 + 8 by rfl, ← List.drop_drop, d6, List.drop_left' (fix_len _ _)]
  have d22 : (headL h ++ t).drop 22 = fixL h.num 8 ++ t := by
    rw [show 22 = 14 + 8 by rfl, ← List.drop_drop, d14, List.drop_left' (fix_len _ _)]
  unfold headOf
  rw [d6, d14, d22, unf_fix, unf_fix, unf_fix]
  rw [e]
  rfl
theorem take_head (h : Hd) (t : List Y) : takeH (headL h ++ t) = if h.right = true then (h, 0) else (Hd.zero, 70) := by
  have hl : ¬ (headL h ++ t).length < 30 := by rw [List.length_append, head_len]; omega
  have h4 : (headL h ++ t).take 4 = [116#8, 97#8, 110#8, 116#8] := by simp [headL]
  unfold takeH
  rw [if_neg hl, head_back, h4]
  simp
theorem seal_at_ok (root : Nat → Y) (h : Hd) (i : Nat) (p : List Y) : openAt root h i (sealAt root h i p) = some p ∧ 0 < (sealAt root h i p).length := by
  refine ⟨open_seal _ _ _ _ _, ?_⟩
  rw [sealAt, seal_len]; omega
/-- a log's bytes -/
def logL (root : Nat → Y) (h : Hd) (rs : List (List Y)) : List Y := headL h ++ bodyL (sealAt root h) 0 rs
theorem log_cut {root : Nat → Y} {h : Hd} (rs : List (List Y)) {k : Nat} (hr : h.right = true) (h30 : 30 ≤ k) (hk : k ≤ (logL root h rs).length) :
    ∃ n, n ≤ rs.length ∧ 30 + endL (sealAt root h) 0 rs n ≤ k ∧ (n < rs.length → k < 30 + endL (sealAt root h) 0 rs (n + 1)) ∧
      readP root ((logL root h rs).take k) = (⟨h, rs.take n, 30 + endL (sealAt root h) 0 rs n, decide (30 + endL (sealAt root h) 0 rs n < k)⟩, 0) := by
  have hlen : (logL root h rs).length = 30 + (bodyL (sealAt root h) 0 rs).length := by rw [logL, List.length_append, head_len]
  have e : (logL root h rs).take k = headL h ++ (bodyL (sealAt root h) 0 rs).take (k - 30) := by
    rw [logL, List.take_append, List.take_of_length_le (by rw [head_len]; exact h30), head_len]
  have hl : ((logL root h rs).take k).length = k := by rw [List.length_take]; omega
  obtain ⟨n, h1, h2, h3, h4⟩ := read_cut (op := openAt root h) (sl := sealAt root h) (tot := k) rs [] 30 (k - 30) 0 (fun j p _ => seal_at_ok root h _ p) rfl (by omega) (by omega)
  refine ⟨n, h1, by omega, fun hn => by have := h3 hn; omega, ?_⟩
  have ht : takeH ((logL root h rs).take k) = (h, 0) := by rw [e, take_head, if_pos hr]
  have hb : bodyR root (takeH ((logL root h rs).take k)).1 ((logL root h rs).take k) = some (rs.take n, 30 + endL (sealAt root h) 0 rs n) := by
    unfold bodyR
    rw [hl, ht, e, List.drop_left' (head_len h)]
    simpa using h4
  rw [read_some (by omega) (by rw [ht]) hb, ht, hl]
theorem log_back {root : Nat → Y} {h : Hd} (rs : List (List Y)) (hr : h.right = true) : readP root (logL root h rs) = (⟨h, rs, (logL root h rs).length, false⟩, 0) := by
  have hlen : (logL root h rs).length = 30 + (bodyL (sealAt root h) 0 rs).length := by rw [logL, List.length_append, head_len]
  obtain ⟨n, h1, h2, h3, h4⟩ := log_cut (root := root) (h := h) rs (k := (logL root h rs).length) hr (by omega) (Nat.le_refl _)
  have hn : n = rs.length := by
    rcases Nat.lt_or_ge n rs.length with hlt | hge
    · have := h3 hlt
      have := end_mono (sealAt root h) 0 rs (show n + 1 ≤ rs.length by omega)
      rw [end_all] at this
      omega
    · omega
  rw [List.take_length, hn, List.take_length, end_all, ← hlen] at h4
  rw [h4]; simp
theorem log_wrong {root : Nat → Y} {h : Hd} (rs : List (List Y)) (hr : h.right = false) : readP root (logL root h rs) = (⟨Hd.zero, [], 0, false⟩, 70) := by
  have hlen : (logL root h rs).length = 30 + (bodyL (sealAt root h) 0 rs).length := by rw [logL, List.length_append, head_len]
  have ht : takeH (logL root h rs) = (Hd.zero, 70) := by rw [logL, take_head, hr]; rfl
  rw [read_head (by omega) (by rw [ht]; decide), ht]
theorem log_turned {root : Nat → Y} {h : Hd} {p : List Y} {k : Nat} {y z : Y} (hr : h.right = true) (h30 : 30 ≤ k) (hz : (logL root h [p])[k]? = some z) (hne : y ≠ z) (h4 : (k - 30) % 135 ≠ 4) (h5 : (k - 30) % 135 ≠ 5) :
    readP root ((logL root h [p]).set k y) = (⟨Hd.zero, [], 0, false⟩, 160) := by
  have hhl := head_len h
  have hlen : (logL root h [p]).length = 30 + (bodyL (sealAt root h) 0 [p]).length := by rw [logL, List.length_append, head_len]
  have hb : bodyL (sealAt root h) 0 [p] = recL (sealAt root h 0 p) := by simp [bodyL]
  have e : (logL root h [p]).set k y = headL h ++ (recL (sealAt root h 0 p)).set (k - 30) y := by rw [logL, hb, List.set_append_right _ _ (by omega), hhl]
  have hz' : (recL (sealAt root h 0 p))[k - 30]? = some z := by
    rw [logL, hb, List.getElem?_append_right (by omega), hhl] at hz; exact hz
  have ht : takeH ((logL root h [p]).set k y) = (h, 0) := by rw [e, take_head, if_pos hr]
  refine read_none (by rw [List.length_set]; omega) (by rw [ht]) ?_
  rw [ht]
  unfold bodyR
  rw [e, List.drop_left' hhl]
  exact set_rec hz' hne h4 h5
end Go.Tan
