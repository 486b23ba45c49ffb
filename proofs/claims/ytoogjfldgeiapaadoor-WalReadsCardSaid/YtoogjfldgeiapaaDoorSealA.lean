/- Words, bytes, ChaCha's mixing, as plain data. No condition. -/
import Derived.Test.YtoogjfldgeiapaaDoorTanH
namespace Go.Tan
abbrev W := BitVec 32
abbrev U (x : W) : Value := uv .u32 x
/-- as Go's RotateLeft32 -/
def rotI (x : W) (k : Int) : W := x <<< (BitVec.ofInt 64 k &&& 31#64).toNat ||| x >>> (32#64 - (BitVec.ofInt 64 k &&& 31#64)).toNat
/-- as the document writes it -/
def rotl (x : W) (k : Nat) : W := x <<< k ||| x >>> (32 - k)
theorem rotI_eq {x : W} {k : Nat} (h : k ∈ [16, 12, 8, 7]) : rotI x (k : Int) = rotl x k := by
  simp only [List.mem_cons, List.not_mem_nil, or_false] at h
  rcases h with rfl | rfl | rfl | rfl <;> rfl
def mixW (a b c d : W) : W × W × W × W :=
  let a := a + b
  let d := rotl (d ^^^ a) 16
  let c := c + d
  let b := rotl (b ^^^ c) 12
  let a := a + b
  let d := rotl (d ^^^ a) 8
  let c := c + d
  let b := rotl (b ^^^ c) 7
  (a, b, c, d)
def mixV (m : W × W × W × W) : Value := .tuple #[U m.1, U m.2.1, U m.2.2.1, U m.2.2.2]
theorem turn_fin (x : W) {k : Nat} (hk : k ≤ 32) : tup [uv .u32 (x <<< ((k : Int)).toNat ||| x >>> ((32 : Int) - (k : Int)).toNat)] = U (rotl x k) := by
  rw [show ((32 : Int) - (k : Int)).toNat = 32 - k by omega, Int.toNat_natCast]; rfl
/-! ### Rows of words and of bytes -/
def wa (n : Nat) (y : Nat → W) : List Value := (List.range n).map fun i => U (y i)
abbrev Y := BitVec 8
abbrev V (x : Y) : Value := uv .u8 x
def ba (n : Nat) (y : Nat → Y) : List Value := (List.range n).map fun i => V (y i)
def upd {α : Type} (y : Nat → α) (j : Nat) (z : α) : Nat → α := fun i => if i = j then z else y i
theorem wa_len (n : Nat) (y : Nat → W) : (wa n y).length = n := by simp [wa]
theorem ba_len (n : Nat) (y : Nat → Y) : (ba n y).length = n := by simp [ba]
theorem wa_at {n : Nat} {y : Nat → W} {j : Nat} (h : j < n) : (wa n y)[j]? = some (U (y j)) := by simp [wa, h]
theorem ba_at {n : Nat} {y : Nat → Y} {j : Nat} (h : j < n) : (ba n y)[j]? = some (V (y j)) := by simp [ba, h]
theorem wa_set {n : Nat} {y : Nat → W} {j : Nat} {z : W} : (wa n y).set j (U z) = wa n (upd y j z) := by
  refine List.ext_getElem? fun i => ?_
  rw [List.getElem?_set]
  by_cases h : j = i
  · subst h
    by_cases hj : j < n
    · simp [wa, upd, hj]
    · simp [wa, hj]
  · simp only [if_neg h]
    by_cases hi : i < n
    · simp [wa, upd, hi, show ¬ i = j from fun e => h e.symm]
    · simp [wa, hi]
theorem ba_set {n : Nat} {y : Nat → Y} {j : Nat} {z : Y} : (ba n y).set j (V z) = ba n (upd y j z) := by
  refine List.ext_getElem? fun i => ?_
  rw [List.getElem?_set]
  by_cases h : j = i
  · subst h
    by_cases hj : j < n
    · simp [ba, upd, hj]
    · simp [ba, hj]
  · simp only [if_neg h]
    by_cases hi : i < n
    · simp [ba, upd, hi, show ¬ i = j from fun e => h e.symm]
    · simp [ba, hi]
theorem wa_one (n : Nat) (y : Nat → W) : ∀ u ∈ wa n y, u.oneCell' = true := by
  intro u hu; obtain ⟨i, _, rfl⟩ := List.mem_map.1 hu; rfl
theorem ba_one (n : Nat) (y : Nat → Y) : ∀ u ∈ ba n y, u.oneCell' = true := by
  intro u hu; obtain ⟨i, _, rfl⟩ := List.mem_map.1 hu; rfl
/-- the document's quarter -/
def quarterW (y : Nat → W) (a b c d : Nat) : Nat → W :=
  let y := upd y a (y a + y b)
  let y := upd y d (rotl (y d ^^^ y a) 16)
  let y := upd y c (y c + y d)
  let y := upd y b (rotl (y b ^^^ y c) 12)
  let y := upd y a (y a + y b)
  let y := upd y d (rotl (y d ^^^ y a) 8)
  let y := upd y c (y c + y d)
  upd y b (rotl (y b ^^^ y c) 7)
/-- the program's: all four at once -/
def mixed (y : Nat → W) (a b c d : Nat) : Nat → W :=
  let m := mixW (y a) (y b) (y c) (y d)
  upd (upd (upd (upd y a m.1) b m.2.1) c m.2.2.1) d m.2.2.2
theorem quarter_eq (y : Nat → W) {a b c d : Nat} (h1 : a ≠ b) (h2 : a ≠ c) (h3 : a ≠ d) (h4 : b ≠ c) (h5 : b ≠ d) (h6 : c ≠ d) : quarterW y a b c d = mixed y a b c d := by
  funext i
  by_cases ha : i = a
  · subst ha; simp [quarterW, mixed, upd, mixW, h1, h2, h3, h4, h5, h6, Ne.symm h1, Ne.symm h2, Ne.symm h3, Ne.symm h4, Ne.symm h5, Ne.symm h6]
  · by_cases hb : i = b
    · subst hb; simp [quarterW, mixed, upd, mixW, h1, h2, h3, h4, h5, h6, Ne.symm h1, Ne.symm h2, Ne.symm h3, Ne.symm h4, Ne.symm h5, Ne.symm h6]
    · by_cases hc : i = c
      · subst hc; simp [quarterW, mixed, upd, mixW, h1, h2, h3, h4, h5, h6, Ne.symm h1, Ne.symm h2, Ne.symm h3, Ne.symm h4, Ne.symm h5, Ne.symm h6]
      · by_cases hd : i = d
        · subst hd; simp [quarterW, mixed, upd, mixW, h1, h2, h3, h4, h5, h6, Ne.symm h1, Ne.symm h2, Ne.symm h3, Ne.symm h4, Ne.symm h5, Ne.symm h6]
        · simp [quarterW, mixed, upd, ha, hb, hc, hd]
theorem wa_at1 {n : Nat} {y : Nat → W} {j : Int} {o : Nat} (a : Nat) (hj : o + j.toNat * 1 = a) (h : a < n) : (wa n y)[o + j.toNat * 1]? = some (U (y a)) := by rw [hj]; exact wa_at h
theorem ba_at1 {n : Nat} {y : Nat → Y} {j : Int} {o : Nat} (a : Nat) (hj : o + j.toNat * 1 = a) (h : a < n) : (ba n y)[o + j.toNat * 1]? = some (V (y a)) := by rw [hj]; exact ba_at h
theorem wa_set1 {n : Nat} {y : Nat → W} {j : Int} {z : W} {o : Nat} (a : Nat) (hj : o + j.toNat * 1 = a) : (wa n y).set (o + j.toNat * 1) (U z) = wa n (upd y a z) := by rw [hj]; exact wa_set
theorem ba_set1 {n : Nat} {y : Nat → Y} {j : Int} {z : Y} {o : Nat} (a : Nat) (hj : o + j.toNat * 1 = a) : (ba n y).set (o + j.toNat * 1) (V z) = ba n (upd y a z) := by rw [hj]; exact ba_set
/-- four bytes, the lowest first -/
def wordW (f : Nat → Y) (i : Nat) : W := (f i).setWidth 32 + (f (i + 1)).setWidth 32 * 256#32 + (f (i + 2)).setWidth 32 * 65536#32 + (f (i + 3)).setWidth 32 * 16777216#32
/-! ### Bytes that are read through a slice -/
def encY (b : Y) : List Value := [V b]
def yl (n : Nat) (f : Nat → Y) : List Y := (List.range n).map f
theorem yl_len (n : Nat) (f : Nat → Y) : (yl n f).length = n := by simp [yl]
theorem yl_at {n : Nat} {f : Nat → Y} {k : Nat} (h : k < n) : (yl n f).getD k 0 = f k := by simp [yl, h]
theorem yl_flat (n : Nat) (f : Nat → Y) : (yl n f).flatMap encY = ba n f := by
  unfold yl ba
  generalize List.range n = r
  induction r with
  | nil => rfl
  | cons a r ih => simp only [List.map_cons, List.flatMap_cons, ih, encY]; rfl
theorem SlR.yat {G : PM} {h : Sh} {xs : List Y} (s : SlR G 1 encY h xs) {j : Int} (k : Nat) (hj : j.toNat = k) (hk : k < xs.length) : RdP G ⟨h.b, h.o + j.toNat * 1, none⟩ (V (xs.getD k 0)) := by
  have := s.rd k (xs.getD k 0) (by simp [hk]) 0 _ rfl
  rw [hj]; simpa using this
theorem ba_sl {G : PM} {b n : Nat} {f : Nat → Y} {T : TypeId} : SlR (G.add b (cl (ba n f) T)) 1 encY ⟨some ⟨b, 0, none⟩, n⟩ (yl n f) :=
  SlR.ofBlk (T := T) (by rw [yl_flat]; exact PM.add_same _ _ _) (fun _ _ => rfl) (by rw [yl_len]; exact Nat.le_refl _)
theorem wordW_congr {f f' : Nat → Y} {i : Nat} (h : ∀ j, j < 4 → f (i + j) = f' (i + j)) : wordW f i = wordW f' i := by
  unfold wordW
  have h0 := h 0 (by decide)
  rw [Nat.add_zero] at h0
  rw [h0, h 1 (by decide), h 2 (by decide), h 3 (by decide)]
/-! ### ChaCha's block -/
def x0 : Nat → W := fun i => match i with | 0 => 1634760805#32 | 1 => 857760878#32 | 2 => 2036477234#32 | 3 => 1797285236#32 | _ => 0#32
def x1 (key : Nat → Y) : Nat → Nat → W
  | 0 => x0
  | k + 1 => upd (x1 key k) (4 + k) (wordW key (4 * k))
def x2 (key nonce : Nat → Y) (count : W) : Nat → Nat → W
  | 0 => upd (x1 key 8) 12 count
  | k + 1 => upd (x2 key nonce count k) (13 + k) (wordW nonce (4 * k))
def cols (y : Nat → W) : Nat → Nat → W
  | 0 => y
  | k + 1 => quarterW (cols y k) k (4 + k) (8 + k) (12 + k)
def diags (y : Nat → W) : Nat → Nat → W
  | 0 => y
  | k + 1 => quarterW (diags y k) k (4 + (k + 1) % 4) (8 + (k + 2) % 4) (12 + (k + 3) % 4)
def rounds (y : Nat → W) : Nat → Nat → W
  | 0 => y
  | k + 1 => diags (cols (rounds y k) 4) 4
def chaW (key nonce : Nat → Y) (count : W) : Nat → W := fun i => rounds (x2 key nonce count 3) 10 i + x2 key nonce count 3 i
def chaB (key nonce : Nat → Y) (count : W) : Nat → Y := fun i => ((chaW key nonce count (i / 4)) >>> (8 * (i % 4))).setWidth 8
def outs (f : Nat → Y) : Nat → Nat → Y
  | 0 => fun _ => 0#8
  | k + 1 => upd (outs f k) k (f k)
theorem outs_eq (f : Nat → Y) {n i : Nat} (h : i < n) : outs f n i = f i := by
  induction n with
  | zero => omega
  | succ n ih =>
    unfold outs upd
    by_cases e : i = n
    · rw [if_pos e, e]
    · rw [if_neg e]; exact ih (by omega)
theorem ba_congr {n : Nat} {f f' : Nat → Y} (h : ∀ i, i < n → f i = f' i) : ba n f = ba n f' := by
  unfold ba
  refine List.map_congr_left fun i hi => ?_
  rw [h i (List.mem_range.1 hi)]
theorem tm4 {x : Int} (a : Nat) (h : x = (a : Int)) : x.tmod 4 = ((a % 4 : Nat) : Int) := by
  subst h; rw [Int.tmod_eq_emod_of_nonneg (by omega)]; omega
theorem tm64 {x : Int} (a : Nat) (h : x = (a : Int)) : x.tmod 64 = ((a % 64 : Nat) : Int) := by
  subst h; rw [Int.tmod_eq_emod_of_nonneg (by omega)]; omega
theorem qd4 {x : Int} (a : Nat) (h : x = (a : Int)) (hl : a < 1000000000000000) : IntKind.i64.wrap (x.tdiv 4) = ((a / 4 : Nat) : Int) := by
  subst h; rw [Int.tdiv_eq_ediv_of_nonneg (by omega), wrap_i64 (by omega) (by omega)]; omega
theorem qd64 {x : Int} (a : Nat) (h : x = (a : Int)) (hl : a < 1000000000000000) : IntKind.i64.wrap (x.tdiv 64) = ((a / 64 : Nat) : Int) := by
  subst h; rw [Int.tdiv_eq_ediv_of_nonneg (by omega), wrap_i64 (by omega) (by omega)]; omega
theorem out_step {key nonce : Nat → Y} {count : W} {i b : Nat} {T : TypeId} {m : Int} (hm : m = ((i % 4 : Nat) : Int)) :
    Res.blk b (cl (ba 64 (upd (outs (chaB key nonce count) i) i (((rounds (x2 key nonce count 3) 10 (i / 4) + x2 key nonce count 3 (i / 4)) >>> (8 * m).toNat).setWidth 8))) T) = Res.blk b (cl (ba 64 (outs (chaB key nonce count) (i + 1))) T) := by
  rw [show (8 * m).toNat = 8 * (i % 4) by omega]; rfl
/-! ### Crossing -/
def crF (key nonce : Nat → Y) (count : W) (xs : List Y) : Nat → Y := fun i => xs.getD i 0 ^^^ chaB key nonce (count + BitVec.ofNat 32 (i / 64)) (i % 64)
def crossL (key nonce : Nat → Y) (count : W) (xs : List Y) : List Y := yl xs.length (crF key nonce count xs)
def nowF (key nonce : Nat → Y) (count : W) : Nat → Nat → Y
  | 0 => fun _ => 0#8
  | k + 1 => chaB key nonce (count + BitVec.ofNat 32 (k / 64))
theorem nowF_step {key nonce : Nat → Y} {count : W} {k : Nat} (h : (((k : Int).tmod 64) == 0) = false) : nowF key nonce count k = chaB key nonce (count + BitVec.ofNat 32 (k / 64)) := by
  rw [tm64 k rfl] at h
  have h1 : k % 64 ≠ 0 := by intro e; rw [e] at h; simp at h
  cases k with
  | zero => simp at h1
  | succ j => rw [nowF, show (j + 1) / 64 = j / 64 by omega]
theorem ba_snoc (k : Nat) (f : Nat → Y) : ba (k + 1) f = ba k f ++ [V (f k)] := by simp [ba, List.range_succ]
theorem cr_row {key nonce : Nat → Y} {count : W} {xs : List Y} {k E : Nat} {v : Value} {f : Nat → Y} (hf : f = chaB key nonce (count + BitVec.ofNat 32 (k / 64))) : Res.row v E 1 (k + 1) (ba k (crF key nonce count xs) ++ [V (xs.getD k 0 ^^^ f (k % 64))]) = Res.row v E 1 (k + 1) (ba (k + 1) (crF key nonce count xs)) := by
  rw [ba_snoc, hf]; rfl
theorem SlR.ofBa {G : PM} {h : Sh} {n : Nat} {f : Nat → Y} (hc : n ≤ h.cap) (hn : n ≠ 0 → h.oa = some ⟨h.b, h.o, none⟩) (hr : RdNP G h.b h.o (ba n f)) : SlR G 1 encY h (yl n f) :=
  SlR.ofRow (fun _ _ => rfl) (by rw [yl_len]; exact hc) (by rw [yl_len]; exact hn) (by rw [yl_flat]; exact hr)
/-! ### The program's way to a word -/
def shW (o : W) (f : Nat → Y) (i : Nat) : Nat → W
  | 0 => o
  | c + 1 => shW o f i c <<< 8 ||| (f (4 * i + (3 - c))).setWidth 32
def setW (y : Nat → W) (f : Nat → Y) (off : Nat) : Nat → Nat → W
  | 0 => y
  | i + 1 => upd (setW y f off i) (off + i) (wordW f (4 * i))
theorem upd_self {α : Type} (z : Nat → α) (p : Nat) : upd z p (z p) = z := by
  funext i; unfold upd; split
  · rename_i h; rw [h]
  · rfl
theorem upd_upd {α : Type} (z : Nat → α) (p : Nat) (a b : α) : upd (upd z p a) p b = upd z p b := by
  funext i; unfold upd; split <;> rfl
theorem upd_at {α : Type} (z : Nat → α) (p : Nat) (a : α) : upd z p a p = a := by simp [upd]
theorem or_byte (x : W) (b : Y) : x <<< 8 ||| b.setWidth 32 = x * 256#32 + b.setWidth 32 := by
  have h0 : x <<< 8 &&& b.setWidth 32 = 0#32 := by
    apply BitVec.eq_of_getLsbD_eq
    intro i hi
    simp only [BitVec.getLsbD_and, BitVec.getLsbD_shiftLeft, BitVec.getLsbD_setWidth, BitVec.getLsbD_zero]
    by_cases h8 : i < 8
    · simp [h8]
    · rw [BitVec.getLsbD_of_ge b i (by omega)]; simp
  rw [← BitVec.add_eq_or_of_and_eq_zero _ _ h0]
  congr 1
  apply BitVec.eq_of_toNat_eq
  simp [BitVec.toNat_shiftLeft, BitVec.toNat_mul, Nat.shiftLeft_eq]
theorem word_sh (o : W) (f : Nat → Y) (i : Nat) : shW o f i 4 = wordW f (4 * i) := by
  have e : shW o f i 4 = (((o * 256#32 + (f (4 * i + 3)).setWidth 32) * 256#32 + (f (4 * i + 2)).setWidth 32) * 256#32 + (f (4 * i + 1)).setWidth 32) * 256#32 + (f (4 * i)).setWidth 32 := by
    simp only [shW, or_byte]; rfl
  rw [e]
  unfold wordW
  generalize (f (4 * i)).setWidth 32 = a, (f (4 * i + 1)).setWidth 32 = b, (f (4 * i + 2)).setWidth 32 = c, (f (4 * i + 3)).setWidth 32 = d
  grind
theorem ws_start {y : Nat → W} {f : Nat → Y} {m off i b : Nat} {T : TypeId} : Res.blk b (cl (wa m (setW y f off i)) T) = Res.blk b (cl (wa m (upd (setW y f off i) (off + i) (shW (setW y f off i (off + i)) f i 0))) T) := by
  rw [shW, upd_self]
theorem ws_step {z : Nat → W} {f : Nat → Y} {m p i c b : Nat} {T : TypeId} {o x : W} (hx : x = shW o f i (c + 1)) : Res.blk b (cl (wa m (upd (upd z p (shW o f i c)) p x)) T) = Res.blk b (cl (wa m (upd z p (shW o f i (c + 1)))) T) := by
  rw [upd_upd, hx]
theorem ws_end {y : Nat → W} {f : Nat → Y} {m off i c b : Nat} {T : TypeId} (hc : c = 4) : Res.blk b (cl (wa m (upd (setW y f off i) (off + i) (shW (setW y f off i (off + i)) f i c))) T) = Res.blk b (cl (wa m (setW y f off (i + 1))) T) := by
  subst hc; rw [word_sh]; rfl
theorem setW_x1 (key : Nat → Y) : ∀ k, setW x0 key 4 k = x1 key k
  | 0 => rfl
  | k + 1 => by rw [setW, x1, setW_x1 key k]
theorem setW_x2 (key nonce : Nat → Y) (count : W) : ∀ k, setW (upd (x1 key 8) 12 count) nonce 13 k = x2 key nonce count k
  | 0 => rfl
  | k + 1 => by rw [setW, x2, setW_x2 key nonce count k]
theorem take2 {μ μ1 μ2 : Mem} {r1 r2 : Res} (h1 : MTake μ r1 μ1) (h2 : MTake μ1 r2 μ2) : μ.Perm ([r1, r2] ++ μ2) := h1.perm.trans (h2.perm.cons _)
def colsM (y : Nat → W) : Nat → Nat → W
  | 0 => y
  | k + 1 => mixed (colsM y k) k (4 + k) (8 + k) (12 + k)
theorem colsM_eq (y : Nat → W) : ∀ k, k ≤ 4 → colsM y k = cols y k
  | 0, _ => rfl
  | k + 1, h => by rw [colsM, cols, colsM_eq y k (by omega), quarter_eq _ (by omega) (by omega) (by omega) (by omega) (by omega) (by omega)]
def diagM (y : Nat → W) : Nat → W := mixed (mixed (mixed (mixed y 0 5 10 15) 1 6 11 12) 2 7 8 13) 3 4 9 14
theorem diagM_eq (y : Nat → W) : diagM y = diags y 4 := by
  simp only [diags]
  rw [quarter_eq _ (by decide) (by decide) (by decide) (by decide) (by decide) (by decide), quarter_eq _ (by decide) (by decide) (by decide) (by decide) (by decide) (by decide), quarter_eq _ (by decide) (by decide) (by decide) (by decide) (by decide) (by decide), quarter_eq _ (by decide) (by decide) (by decide) (by decide) (by decide) (by decide)]
  rfl
theorem shr_zero' {key nonce : Nat → Y} {count : W} {i : Nat} : U (rounds (x2 key nonce count 3) 10 i + x2 key nonce count 3 i) = U (chaW key nonce count i >>> (8 * 0)) := by simp [chaW]
theorem shr_next {x : W} {c : Nat} : U ((x >>> (8 * c)) >>> (Int.toNat 8)) = U (x >>> (8 * (c + 1))) := by
  rw [show Int.toNat 8 = 8 from rfl, ← BitVec.shiftRight_add, show 8 * c + 8 = 8 * (c + 1) by omega]
theorem out_put {key nonce : Nat → Y} {count : W} {i c b : Nat} {T : TypeId} (hc : c < 4) :
    Res.blk b (cl (ba 64 (upd (outs (chaB key nonce count) (4 * i + c)) (4 * i + c) ((chaW key nonce count i >>> (8 * c)).setWidth 8))) T) = Res.blk b (cl (ba 64 (outs (chaB key nonce count) (4 * i + (c + 1)))) T) := by
  rw [show 4 * i + (c + 1) = (4 * i + c) + 1 by omega, outs, chaB, show (4 * i + c) / 4 = i by omega, show (4 * i + c) % 4 = c by omega]
end Go.Tan
