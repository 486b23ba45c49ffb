/- Reading a log: plain data and its laws. No condition. -/
import Derived.Test.YtoogjfldgeiapaaDoorWalB
namespace Go.Tan
open Go.RowKit
/-- how many bytes the next piece has -/
def pieceN (r : List Y) : Nat := (r.getD 4 0).toNat + 256 * (r.getD 5 0).toNat
/-- may a piece not stand there? -/
def wrongP (kind : Y) (n : Nat) (begun : Bool) : Bool :=
  if kind = 1#8 then begun else if kind = 2#8 then begun || decide (n < 128) else if kind = 3#8 then !begun || decide (n < 128) else if kind = 4#8 then !begun else true
/-- what is read: the records, and how many bytes they have -/
def readL (op : Nat → List Y → Option (List Y)) (tot : Nat) (r parts : List Y) (recs : List (List Y)) (used : Nat) : Option (List (List Y) × Nat) :=
  if h7 : r.length < 7 then some (recs, used)
  else if pieceN r = 0 ∨ 128 < pieceN r then none
  else if h : r.length < 7 + pieceN r then some (recs, used)
  else if frameL (r.getD 6 0) ((r.drop 7).take (pieceN r)) ≠ r.take 7 ∨ wrongP (r.getD 6 0) (pieceN r) (!parts.isEmpty) = true then none
  else if r.getD 6 0 = 1#8 ∨ r.getD 6 0 = 4#8 then
    match op recs.length (parts ++ (r.drop 7).take (pieceN r)) with
    | none => none
    | some x => readL op tot (r.drop (7 + pieceN r)) [] (recs ++ [x]) (tot - (r.drop (7 + pieceN r)).length)
  else readL op tot (r.drop (7 + pieceN r)) (parts ++ (r.drop 7).take (pieceN r)) recs used
termination_by r.length
decreasing_by all_goals (simp only [List.length_drop]; omega)
section
variable {op : Nat → List Y → Option (List Y)} {tot : Nat} {r parts : List Y} {recs : List (List Y)} {used : Nat}
theorem rd_short (h : r.length < 7) : readL op tot r parts recs used = some (recs, used) := by rw [readL, dif_pos h]
theorem rd_bad (h : ¬ r.length < 7) (hn : pieceN r = 0 ∨ 128 < pieceN r) : readL op tot r parts recs used = none := by rw [readL, dif_neg h, if_pos hn]
theorem rd_torn (h : ¬ r.length < 7) (hn : ¬ (pieceN r = 0 ∨ 128 < pieceN r)) (ht : r.length < 7 + pieceN r) : readL op tot r parts recs used = some (recs, used) := by rw [readL, dif_neg h, if_neg hn, dif_pos ht]
theorem rd_no (h : ¬ r.length < 7) (hn : ¬ (pieceN r = 0 ∨ 128 < pieceN r)) (ht : ¬ r.length < 7 + pieceN r) (hf : frameL (r.getD 6 0) ((r.drop 7).take (pieceN r)) ≠ r.take 7 ∨ wrongP (r.getD 6 0) (pieceN r) (!parts.isEmpty) = true) : readL op tot r parts recs used = none := by
  rw [readL, dif_neg h, if_neg hn, dif_neg ht, if_pos hf]
theorem rd_go (h : ¬ r.length < 7) (hn : ¬ (pieceN r = 0 ∨ 128 < pieceN r)) (ht : ¬ r.length < 7 + pieceN r) (hf : ¬ (frameL (r.getD 6 0) ((r.drop 7).take (pieceN r)) ≠ r.take 7 ∨ wrongP (r.getD 6 0) (pieceN r) (!parts.isEmpty) = true)) (hk : ¬ (r.getD 6 0 = 1#8 ∨ r.getD 6 0 = 4#8)) :
    readL op tot r parts recs used = readL op tot (r.drop (7 + pieceN r)) (parts ++ (r.drop 7).take (pieceN r)) recs used := by
  conv => lhs; rw [readL, dif_neg h, if_neg hn, dif_neg ht, if_neg hf, if_neg hk]
theorem rd_rec {x : List Y} (h : ¬ r.length < 7) (hn : ¬ (pieceN r = 0 ∨ 128 < pieceN r)) (ht : ¬ r.length < 7 + pieceN r) (hf : ¬ (frameL (r.getD 6 0) ((r.drop 7).take (pieceN r)) ≠ r.take 7 ∨ wrongP (r.getD 6 0) (pieceN r) (!parts.isEmpty) = true)) (hk : r.getD 6 0 = 1#8 ∨ r.getD 6 0 = 4#8) (hx : op recs.length (parts ++ (r.drop 7).take (pieceN r)) = some x) :
    readL op tot r parts recs used = readL op tot (r.drop (7 + pieceN r)) [] (recs ++ [x]) (tot - (r.drop (7 + pieceN r)).length) := by
  conv => lhs; rw [readL, dif_neg h, if_neg hn, dif_neg ht, if_neg hf, if_pos hk, hx]
theorem rd_shut (h : ¬ r.length < 7) (hn : ¬ (pieceN r = 0 ∨ 128 < pieceN r)) (ht : ¬ r.length < 7 + pieceN r) (hf : ¬ (frameL (r.getD 6 0) ((r.drop 7).take (pieceN r)) ≠ r.take 7 ∨ wrongP (r.getD 6 0) (pieceN r) (!parts.isEmpty) = true)) (hk : r.getD 6 0 = 1#8 ∨ r.getD 6 0 = 4#8) (hx : op recs.length (parts ++ (r.drop 7).take (pieceN r)) = none) :
    readL op tot r parts recs used = none := by
  rw [readL, dif_neg h, if_neg hn, dif_neg ht, if_neg hf, if_pos hk, hx]
/-! ### One piece -/
theorem fix_at {n : BitVec 64} {m j : Nat} (h : j < m) : (fixL n m)[j]? = some ((n >>> (8 * j)).setWidth 8) := by simp [fixL, h]
theorem frame_at4 (kind : Y) (p : List Y) : (frameL kind p)[4]? = some ((BitVec.ofInt 64 (p.length : Int)).setWidth 8) := by
  unfold frameL
  rw [List.append_assoc, List.getElem?_append_right (by simp [fix_len]), fix_len, List.getElem?_append_left (by simp [fix_len]), fix_at (by decide)]; simp
theorem frame_at5 (kind : Y) (p : List Y) : (frameL kind p)[5]? = some ((BitVec.ofInt 64 (p.length : Int) >>> 8).setWidth 8) := by
  unfold frameL
  rw [List.append_assoc, List.getElem?_append_right (by simp [fix_len]), fix_len, List.getElem?_append_left (by simp [fix_len]), fix_at (by decide)]
theorem frame_at6 (kind : Y) (p : List Y) : (frameL kind p)[6]? = some kind := by
  unfold frameL
  rw [List.getElem?_append_right (by simp [fix_len])]; simp [fix_len]
theorem getD_of {xs : List Y} {j : Nat} {y : Y} (h : xs[j]? = some y) : xs.getD j 0 = y := by rw [List.getD_eq_getElem?_getD, h]; rfl
theorem pieceN_of {r : List Y} {kind : Y} {p : List Y} (h4 : r[4]? = (frameL kind p)[4]?) (h5 : r[5]? = (frameL kind p)[5]?) (hp : p.length ≤ 128) : pieceN r = p.length := by
  unfold pieceN
  rw [frame_at4] at h4
  rw [frame_at5] at h5
  rw [getD_of h4, getD_of h5]
  have e : BitVec.ofInt 64 (p.length : Int) = BitVec.ofNat 64 p.length := by simp
  rw [e]
  simp only [BitVec.toNat_setWidth, BitVec.toNat_ushiftRight, BitVec.toNat_ofNat, Nat.shiftRight_eq_div_pow]
  omega
theorem pieceN_app {kind : Y} {p t : List Y} (hp : p.length ≤ 128) : pieceN (frameL kind p ++ p ++ t) = p.length :=
  pieceN_of (kind := kind) (p := p) (by rw [List.append_assoc, List.getElem?_append_left (by rw [frame_len]; decide)]) (by rw [List.append_assoc, List.getElem?_append_left (by rw [frame_len]; decide)]) hp
theorem kind_app {kind : Y} {p t : List Y} : (frameL kind p ++ p ++ t).getD 6 0 = kind :=
  getD_of (by rw [List.append_assoc, List.getElem?_append_left (by rw [frame_len]; decide), frame_at6])
theorem take_app7 {kind : Y} {p t : List Y} : (frameL kind p ++ p ++ t).take 7 = frameL kind p := by
  rw [List.append_assoc, List.take_left' (frame_len _ _)]
theorem text_app {kind : Y} {p t : List Y} : ((frameL kind p ++ p ++ t).drop 7).take p.length = p := by
  rw [List.append_assoc, List.drop_left' (frame_len _ _), List.take_left]
theorem drop_app {kind : Y} {p t : List Y} : (frameL kind p ++ p ++ t).drop (7 + p.length) = t := by
  rw [List.drop_left' (by rw [List.length_append, frame_len])]
theorem go_app {kind : Y} {p t : List Y} (hp : p.length ≤ 128) (h0 : 0 < p.length) (hw : wrongP kind p.length (!parts.isEmpty) = false) (hk : ¬ (kind = 1#8 ∨ kind = 4#8)) :
    readL op tot (frameL kind p ++ p ++ t) parts recs used = readL op tot t (parts ++ p) recs used := by
  have hN := pieceN_app (kind := kind) (t := t) hp
  have hl : (frameL kind p ++ p ++ t).length = 7 + p.length + t.length := by rw [List.length_append, List.length_append, frame_len]
  have h := rd_go (op := op) (tot := tot) (r := frameL kind p ++ p ++ t) (parts := parts) (recs := recs) (used := used) (by omega) (by omega) (by omega) (by rw [kind_app, hN, text_app, take_app7, hw]; simp) (by rw [kind_app]; exact hk)
  rw [hN, text_app, drop_app] at h
  exact h
theorem rec_app {kind : Y} {p t x : List Y} (hp : p.length ≤ 128) (h0 : 0 < p.length) (hw : wrongP kind p.length (!parts.isEmpty) = false) (hk : kind = 1#8 ∨ kind = 4#8) (hx : op recs.length (parts ++ p) = some x) :
    readL op tot (frameL kind p ++ p ++ t) parts recs used = readL op tot t [] (recs ++ [x]) (tot - t.length) := by
  have hN := pieceN_app (kind := kind) (t := t) hp
  have hl : (frameL kind p ++ p ++ t).length = 7 + p.length + t.length := by rw [List.length_append, List.length_append, frame_len]
  have h := rd_rec (op := op) (tot := tot) (r := frameL kind p ++ p ++ t) (parts := parts) (recs := recs) (used := used) (x := x) (by omega) (by omega) (by omega) (by rw [kind_app, hN, text_app, take_app7, hw]; simp) (by rw [kind_app]; exact hk) (by rw [hN, text_app]; exact hx)
  rw [hN, drop_app] at h
  exact h
theorem torn_app {kind : Y} {p : List Y} {k : Nat} (hp : p.length ≤ 128) (h0 : 0 < p.length) (hk : k < 7 + p.length) : readL op tot ((frameL kind p ++ p).take k) parts recs used = some (recs, used) := by
  have hl : ((frameL kind p ++ p).take k).length = k := by rw [List.length_take, List.length_append, frame_len]; omega
  by_cases h7 : k < 7
  · exact rd_short (by omega)
  · have hN : pieceN ((frameL kind p ++ p).take k) = p.length := pieceN_of (kind := kind) (p := p)
      (by rw [List.getElem?_take, if_pos (by omega), List.getElem?_append_left (by rw [frame_len]; decide)]) (by rw [List.getElem?_take, if_pos (by omega), List.getElem?_append_left (by rw [frame_len]; decide)]) hp
    exact rd_torn (by omega) (by omega) (by omega)
end
/-! ### One record -/
def pcL (s : List Y) (j : Nat) : List Y := frameL (kindAt s.length j) ((s.drop (128 * j)).take 128) ++ (s.drop (128 * j)).take 128
def tlL (s : List Y) : Nat → Nat → List Y
  | _, 0 => []
  | j, m + 1 => pcL s j ++ tlL s (j + 1) m
theorem out_tl (s : List Y) : ∀ (m j : Nat), outL s j ++ tlL s j m = outL s (j + m)
  | 0, j => by simp [tlL]
  | m + 1, j => by
    have := out_tl s m (j + 1)
    rw [show j + (m + 1) = j + 1 + m by omega, ← this, tlL, pcL, outL]
    simp only [List.append_assoc]
theorem rec_tl (s : List Y) : recL s = tlL s 0 ((s.length + 127) / 128) := by
  have := out_tl s ((s.length + 127) / 128) 0
  rw [Nat.zero_add] at this
  unfold recL
  rw [← this]; rfl
theorem chunk_len (s : List Y) (j : Nat) : ((s.drop (128 * j)).take 128).length = min 128 (s.length - 128 * j) := by rw [List.length_take, List.length_drop]
theorem pc_len (s : List Y) (j : Nat) : (pcL s j).length = 7 + min 128 (s.length - 128 * j) := by rw [pcL, List.length_append, frame_len, chunk_len]
theorem chunk_app (s : List Y) (j : Nat) : s.take (128 * j) ++ (s.drop (128 * j)).take 128 = s.take (128 * (j + 1)) := by
  rw [show 128 * (j + 1) = 128 * j + 128 by omega, List.take_add]
theorem begun_at {s : List Y} {j : Nat} (h : 128 * j < s.length) : (!(s.take (128 * j)).isEmpty) = decide (0 < j) := by
  cases j with
  | zero => simp
  | succ j =>
    have : (s.take (128 * (j + 1))).isEmpty = false := by
      cases hq : s.take (128 * (j + 1)) with
      | nil =>
        have := congrArg List.length hq
        rw [List.length_take, List.length_nil] at this
        omega
      | cons a l => rfl
    rw [this]; simp
theorem right_at {n j m : Nat} (hj : 128 * j < n) (hm : m = min 128 (n - 128 * j)) : wrongP (kindAt n j) m (decide (0 < j)) = false := by
  unfold kindAt
  by_cases h0 : j = 0
  · subst h0
    by_cases hn : n ≤ 128
    · rw [if_pos rfl, if_pos hn]; simp [wrongP]
    · rw [if_pos rfl, if_neg hn]; simp [wrongP]; omega
  · by_cases hn : n - 128 * j ≤ 128
    · rw [if_neg h0, if_pos hn]; simp [wrongP]; omega
    · rw [if_neg h0, if_neg hn]; simp [wrongP]; omega
theorem kind_end {n j : Nat} : (kindAt n j = 1#8 ∨ kindAt n j = 4#8) ↔ n - 128 * j ≤ 128 := by
  unfold kindAt
  by_cases h0 : j = 0
  · subst h0
    by_cases hn : n ≤ 128
    · rw [if_pos rfl, if_pos hn]; simp; omega
    · rw [if_pos rfl, if_neg hn]; simp; omega
  · by_cases hn : n - 128 * j ≤ 128
    · rw [if_neg h0, if_pos hn]; simp; omega
    · rw [if_neg h0, if_neg hn]; simp; omega
section
variable {op : Nat → List Y → Option (List Y)} {tot : Nat} {recs : List (List Y)} {used : Nat} {s : List Y}
theorem read_tl {x t : List Y} (hx : op recs.length s = some x) : ∀ (m j : Nat), 128 * j < s.length → j + m = (s.length + 127) / 128 →
    readL op tot (tlL s j m ++ t) (s.take (128 * j)) recs used = readL op tot t [] (recs ++ [x]) (tot - t.length)
  | 0, j, h1, h2 => by omega
  | m + 1, j, h1, h2 => by
    have hl := chunk_len s j
    rw [tlL, pcL, List.append_assoc]
    by_cases hk : s.length - 128 * j ≤ 128
    · have hm : m = 0 := by omega
      subst hm
      have := rec_app (op := op) (tot := tot) (recs := recs) (used := used) (parts := s.take (128 * j)) (kind := kindAt s.length j) (p := (s.drop (128 * j)).take 128) (t := tlL s (j + 1) 0 ++ t) (x := x)
        (by omega) (by omega) (by rw [begun_at h1]; exact right_at h1 hl) (kind_end.2 hk) (by rw [chunk_app, List.take_of_length_le (by omega)]; exact hx)
      rw [this]
      rfl
    · have := go_app (op := op) (tot := tot) (recs := recs) (used := used) (parts := s.take (128 * j)) (kind := kindAt s.length j) (p := (s.drop (128 * j)).take 128) (t := tlL s (j + 1) m ++ t)
        (by omega) (by omega) (by rw [begun_at h1]; exact right_at h1 hl) (fun h => hk (kind_end.1 h))
      rw [this, chunk_app]
      exact read_tl hx m (j + 1) (by omega) (by omega)
theorem read_rec {x t : List Y} (h0 : 0 < s.length) (hx : op recs.length s = some x) : readL op tot (recL s ++ t) [] recs used = readL op tot t [] (recs ++ [x]) (tot - t.length) := by
  rw [rec_tl]
  have := read_tl (op := op) (tot := tot) (used := used) (t := t) hx ((s.length + 127) / 128) 0 (by omega) (by omega)
  simpa using this
theorem cut_tl : ∀ (m j k : Nat), 128 * j < s.length → j + m = (s.length + 127) / 128 → k < (tlL s j m).length →
    readL op tot ((tlL s j m).take k) (s.take (128 * j)) recs used = some (recs, used)
  | 0, j, k, h1, h2, h3 => by simp [tlL] at h3
  | m + 1, j, k, h1, h2, h3 => by
    have hl := chunk_len s j
    have hp := pc_len s j
    rw [tlL, List.length_append] at h3
    rw [tlL]
    by_cases hk : k < (pcL s j).length
    · rw [List.take_append_of_le_length (by omega), pcL]
      exact torn_app (by omega) (by omega) (by omega)
    · have hm : ¬ s.length - 128 * j ≤ 128 := fun hc => by
        have : m = 0 := by omega
        subst this
        simp [tlL] at h3; omega
      rw [List.take_append, List.take_of_length_le (by omega), pcL]
      have := go_app (op := op) (tot := tot) (recs := recs) (used := used) (parts := s.take (128 * j)) (kind := kindAt s.length j) (p := (s.drop (128 * j)).take 128) (t := (tlL s (j + 1) m).take (k - (pcL s j).length))
        (by omega) (by omega) (by rw [begun_at h1]; exact right_at h1 hl) (fun h => hm (kind_end.1 h))
      rw [pcL] at this
      rw [this, chunk_app]
      refine cut_tl m (j + 1) _ (by omega) (by omega) ?_
      rw [← pcL]; omega
theorem cut_rec {k : Nat} (hk : k < (recL s).length) : readL op tot ((recL s).take k) [] recs used = some (recs, used) := by
  rw [rec_tl] at hk ⊢
  have h0 : 0 < s.length := by
    by_cases h : s.length = 0
    · rw [h] at hk; simp [tlL] at hk
    · omega
  have := cut_tl (op := op) (tot := tot) (recs := recs) (used := used) ((s.length + 127) / 128) 0 k (by omega) (by omega) hk
  simpa using this
end
/-! ### Records, one behind the other -/
def bodyL (sl : Nat → List Y → List Y) : Nat → List (List Y) → List Y
  | _, [] => []
  | i, p :: ps => recL (sl i p) ++ bodyL sl (i + 1) ps
theorem body_app (sl : Nat → List Y → List Y) : ∀ (ps qs : List (List Y)) (i : Nat), bodyL sl i (ps ++ qs) = bodyL sl i ps ++ bodyL sl (i + ps.length) qs
  | [], qs, i => by simp [bodyL]
  | p :: ps, qs, i => by
    rw [List.cons_append, bodyL, bodyL, body_app sl ps qs (i + 1), List.append_assoc, List.length_cons, show i + 1 + ps.length = i + (ps.length + 1) by omega]
def endL (sl : Nat → List Y → List Y) (i : Nat) (rs : List (List Y)) (n : Nat) : Nat := (bodyL sl i (rs.take n)).length
theorem end_zero (sl : Nat → List Y → List Y) (i : Nat) (rs : List (List Y)) : endL sl i rs 0 = 0 := by simp [endL, bodyL]
theorem end_cons (sl : Nat → List Y → List Y) (i : Nat) (p : List Y) (rs : List (List Y)) (n : Nat) : endL sl i (p :: rs) (n + 1) = (recL (sl i p)).length + endL sl (i + 1) rs n := by simp [endL, bodyL]
theorem end_all (sl : Nat → List Y → List Y) (i : Nat) (rs : List (List Y)) : endL sl i rs rs.length = (bodyL sl i rs).length := by simp [endL]
theorem end_mono (sl : Nat → List Y → List Y) (i : Nat) (rs : List (List Y)) {m n : Nat} (h : m ≤ n) : endL sl i rs m ≤ endL sl i rs n := by
  unfold endL
  have : rs.take n = rs.take m ++ (rs.take n).drop m := by
    have := List.take_append_drop m (rs.take n)
    rw [List.take_take, Nat.min_eq_left h] at this
    exact this.symm
  rw [this, body_app, List.length_append]; omega
theorem rec_pos {s : List Y} (h : 0 < s.length) : 0 < (recL s).length := by
  rw [rec_tl, show (s.length + 127) / 128 = (s.length + 127) / 128 - 1 + 1 by omega, tlL, List.length_append, pc_len]; omega
theorem read_cut {op : Nat → List Y → Option (List Y)} {sl : Nat → List Y → List Y} {tot : Nat} : ∀ (rs : List (List Y)) (recs : List (List Y)) (base k i : Nat), (∀ j p, rs[j]? = some p → op (i + j) (sl (i + j) p) = some p ∧ 0 < (sl (i + j) p).length) →
    recs.length = i → k ≤ (bodyL sl i rs).length → tot = base + k →
    ∃ n, n ≤ rs.length ∧ endL sl i rs n ≤ k ∧ (n < rs.length → k < endL sl i rs (n + 1)) ∧ readL op tot ((bodyL sl i rs).take k) [] recs base = some (recs ++ rs.take n, base + endL sl i rs n)
  | [], recs, base, k, i, _, hi, hk, ht => by
    refine ⟨0, Nat.le_refl _, by rw [end_zero]; exact Nat.zero_le _, fun h => absurd h (by simp), ?_⟩
    rw [end_zero]
    simp only [bodyL, List.take_nil]
    rw [rd_short (by simp)]; simp
  | p :: rs, recs, base, k, i, ho, hi, hk, ht => by
    obtain ⟨hop, hpos⟩ := ho 0 p rfl
    rw [Nat.add_zero] at hop hpos
    have hlen : (bodyL sl i (p :: rs)).length = (recL (sl i p)).length + (bodyL sl (i + 1) rs).length := by rw [bodyL, List.length_append]
    rw [bodyL]
    by_cases hlt : k < (recL (sl i p)).length
    · refine ⟨0, Nat.zero_le _, by rw [end_zero]; exact Nat.zero_le _, fun _ => by rw [Nat.zero_add, end_cons, end_zero]; exact hlt, ?_⟩
      rw [List.take_append_of_le_length (by omega), cut_rec hlt, end_zero]; simp
    · rw [List.take_append, List.take_of_length_le (by omega), read_rec (x := p) hpos (by rw [hi]; exact hop)]
      have hl2 : ((bodyL sl (i + 1) rs).take (k - (recL (sl i p)).length)).length = k - (recL (sl i p)).length := by rw [List.length_take]; omega
      rw [hl2]
      obtain ⟨n, h1, h2, h3, h4⟩ := read_cut (op := op) (sl := sl) (tot := tot) rs (recs ++ [p]) (base + (recL (sl i p)).length) (k - (recL (sl i p)).length) (i + 1)
        (fun j q hq => by have := ho (j + 1) q hq; rwa [show i + (j + 1) = i + 1 + j by omega] at this) (by simp [hi]) (by omega) (by omega)
      refine ⟨n + 1, by simp; omega, by rw [end_cons]; omega, fun h => ?_, ?_⟩
      · have := h3 (by simpa using h)
        rw [end_cons]; omega
      · rw [show tot - (k - (recL (sl i p)).length) = base + (recL (sl i p)).length by omega, h4, end_cons]
        simp [List.append_assoc, Nat.add_assoc]
end Go.Tan
