/- Lemmas and contracts, joined: Texts laid behind bytes, texts as bytes, elements of a row of one's own read and written. No condition: proved for every program. Numbers and texts as bytes, laid and taken: plain data. No condition. The data of the version and pick layers as plain data, and what the document says of them. No condition. Plain laws for the program's test of a state: numbers seen once, tables level by level. No condition. What is put together next, as plain data. No condition. Edits as bytes: what is laid, what is taken, and that one is the other's way back. Plain data. No condition. Edits: their bytes, and the edits whose bytes those are. Plain data. No condition. Numbers as words: what the loops of the codec come to. Plain data. No condition. Numbers as the document takes and lays them: what its loops come to. Plain data. No condition. Memory of one's own that is given away for good; rows of numbers. No condition. Steps of a taking, with what was told of each. Plain data. No condition. Metas that are the same, cell by cell. Plain data. No condition. So many, one behind the other: what is known of a taking at each round. Plain data. No condition. What was taken, round by round, is the edit whose bytes those are. Plain data. No condition. Statements that leave their order open: values and reads in one order, calls in each order. No condition: proved for every program. Literals of numbers that stay; the bytes of an edit, part by part. No condition. The document's taking: flags that are held beside the reader. Plain data. No condition. Slices that are made and stay; what the law shows. No condition. Texts in order; what a right state's levels have of a key. Plain data. No condition. Contracts of functions, walked. -/
import Derived.Test.YtnhdaaggkdegpaaMk1
import Derived.Lib.AppendStr
import Derived.Laws.IdiomStrings
import Derived.Test.YtnhdaaggkdegpaaRows
import Derived.KernelRfl
set_option linter.unusedSimpArgs false
set_option linter.unusedVariables false
set_option linter.unusedSectionVars false
namespace Go.Tan
open Go.RowKit Go.Lib
/-- a text's bytes -/
def yb (s : ByteArray) : List Y := s.toList.map fun x => BitVec.ofNat 8 x.toNat
theorem bstr_yb (s : ByteArray) : bstr (yb s) = s := by
  have h : (bstr (yb s)).data.toList = s.data.toList := by
    rw [bstr_data, yb, ByteArray.toList_eq, List.map_map]
    conv => rhs; rw [← List.map_id s.data.toList]
    refine List.map_congr_left fun x _ => ?_
    simp only [Function.comp, id]
    have := x.toNat_lt
    rw [BitVec.toNat_ofNat, Nat.mod_eq_of_lt (by omega)]
    simp
  have h2 : (bstr (yb s)).data = s.data := by
    have := congrArg List.toArray h
    simpa using this
  obtain ⟨d⟩ := s
  cases hb : bstr (yb ⟨d⟩) with
  | mk d' => rw [hb] at h2; simp only at h2; rw [h2]
theorem yb_bstr (xs : List Y) : yb (bstr xs) = xs := bstr_inj (bstr_yb _)
theorem yb_len (s : ByteArray) : (yb s).length = s.size := by rw [yb, List.length_map, ByteArray.toList_eq]; simp
theorem yb_cells (s : ByteArray) : (yb s).map V = strCells s := by
  unfold yb strCells
  rw [List.map_map, ByteArray.toList_eq]
  refine List.map_congr_left fun x _ => ?_
  have := x.toNat_lt
  have e : (BitVec.ofNat 8 x.toNat).toNat = x.toNat := by rw [BitVec.toNat_ofNat, Nat.mod_eq_of_lt (by omega)]
  show Value.int .u8 (((BitVec.ofNat 8 x.toNat).toNat : Nat) : Int) = _
  rw [e]
section
variable {dr : Bool} {mc : Md} {P : Program} {n : Nat} {l : List Oper} {K : Env → PM → Mem → Prop} {i : Nat} {σ : List Nat} {ρ : Env} {G : PM} {μ : Mem}
variable {d t : Nat} {p : String} {af : Array Edge} {g : Option (Nat × Bool)} {c : Bool}
theorem run_apT {T U E ty : Nat} {v : Value} {xs : List Y} {s : ByteArray} {w : World} (hT : slE P T = some (E, 1, 1)) (hU : strT P U = true) (hz : (P.info? E).bind (·.zero) = some (.int .u8 0)) (hs : Sat G [rB v E xs] w) (hb : xs.length + s.size ≤ 140737488355328) :
    ∃ v' w', (Builtin.append_ #[T, U] ty #[v, .string s]).run P w = .ok v' w' ∧ Tr G (keys [rB v E xs]) w G [rB v' E (xs ++ yb s)] w' := by
  obtain ⟨hu, inf, hi, hs1, hb1⟩ := slE_some hT
  have hu2 : P.underlying U = some .string := by
    unfold strT at hU
    split at hU
    · assumption
    · cases hU
  rw [hi] at hz
  simp only [Option.bind_some] at hz
  have hown : w.ownsRow 0 E 1 v xs.length (xs.map V) := hs.own _ (List.mem_singleton.2 rfl)
  have hbegin := Tr.begin hs
  have hyl := yb_len s
  have hyc := yb_cells s
  have hml : (xs.map V).length = xs.length := List.length_map ..
  have hsl : (strCells s).length = s.size := strCells_length s
  have hmm : maxLen = 9223372036854775807 := rfl
  have eR : rB v E (xs ++ yb s) = .row v E 1 (xs.length + s.size) (xs.map V ++ strCells s) := by simp only [rB, List.length_append, List.map_append, hyl, hyc]
  have hlen : (xs.map V ++ strCells s).length = (xs.length + s.size) * 1 := by rw [List.length_append, hml, hsl]; omega
  by_cases hk : s.size = 0
  · have hn : strCells s = [] := List.eq_nil_of_length_eq_zero (by rw [hsl]; exact hk)
    have hy0 : yb s = [] := List.eq_nil_of_length_eq_zero (by rw [hyl]; exact hk)
    refine ⟨v, w, ?_, by rw [hy0, List.append_nil]; exact hbegin⟩
    have hf := run_firstCells_string (P := P) w 1 s
    rw [hk, hn] at hf
    rcases hown.2 with ⟨rfl, hm⟩ | ⟨g, cap, cur, rfl, _, hg, hnc, _, _, _⟩
    · simp [Builtin.append_, run_underlying hu, run_underlying hu2, sizeOf, typeInfo, hi, hs1, Builtin.lenOf, hk, hf]
    · simp [Builtin.append_, run_underlying hu, run_underlying hu2, sizeOf, typeInfo, hi, hs1, Builtin.lenOf, hk, hf, hnc, storeCells]
  · have fresh : ∀ (old : Nat), Tr G (keys [rB v E xs]) w G [.row (.slice (some ⟨w.heap.size, 0, none⟩) (xs.length + s.size) (grownCap w (xs.length + s.size) old E)) E 1 (xs.length + s.size) (xs.map V ++ strCells s)]
        (w.drew.alloc (.cells ((xs.map V).toArray ++ (strCells s).toArray ++ Builtin.zeroCells (Value.int .u8 0).cells (grownCap w (xs.length + s.size) old E - (xs.length + s.size))) E)) := by
      intro old
      have h2 := (hbegin.drew).alloc (.cells ((xs.map V).toArray ++ (strCells s).toArray ++ Builtin.zeroCells (Value.int .u8 0).cells (grownCap w (xs.length + s.size) old E - (xs.length + s.size))) E)
      have h3 : Tr G (keys [rB v E xs]) w G [.blk w.heap.size (.cells ((xs.map V).toArray ++ (strCells s).toArray ++ Builtin.zeroCells (Value.int .u8 0).cells (grownCap w (xs.length + s.size) old E - (xs.length + s.size))) E)] _ := Tr.left (ν := [rB v E xs]) h2
      have hge := grownCap_ge w (xs.length + s.size) old E
      refine h3.asRow hlen hge (grownCap_le_maxLen w (xs.length + s.size) old E (by rw [hmm]; omega)) ?_ ?_
      · have hz1 : (Value.int IntKind.u8 0).cells.size = 1 := rfl
        simp only [Array.size_append, List.size_toArray, size_zeroCells, hz1, hml, hsl]
        omega
      · simp only [Array.toList_append, List.append_assoc]
        rw [← List.append_assoc, ← hlen]
        exact List.take_left
    rcases hown.2 with ⟨rfl, hm⟩ | ⟨g, cap, cur, rfl, _, hg, hnc, hcm, hcs, htake⟩
    · have hx : xs = [] := List.eq_nil_of_length_eq_zero hm
      subst hx
      have hrun := run_append_nil_string (P := P) w T U ty E inf (.int .u8 0) hu hu2 hi hz s (by omega) (by omega) (by rw [hb1]; simp only [List.length_nil] at hb; omega)
      have hf := fresh 0
      have e1 : (s.data.map fun b => Value.int .u8 b.toNat) = (strCells s).toArray := by
        apply Array.ext'
        simp [strCells]
      rw [e1] at hrun
      simp only [List.length_nil, Nat.zero_add, List.map_nil, List.nil_append, Array.empty_append] at hf
      refine ⟨_, _, hrun, ?_⟩
      have eR2 : ∀ u, rB u E ([] ++ yb s) = .row u E 1 s.size (strCells s) := fun u => by simp only [rB, List.nil_append, hyl, hyc]
      rw [eR2]; exact hf
    · by_cases hroom : xs.length + s.size ≤ cap
      · simp only [Nat.mul_one] at hcs htake
        have hrun := run_append_room_string (P := P) w T U ty E inf hu hu2 hi hs1 g xs.length cap cur hg s hroom (by omega)
        have hsat : Sat G [.blk g (.cells cur E (0, 0))] w := ⟨hs.sub, fun r hr => by rw [List.mem_singleton.1 hr]; exact hg, fun c hc => hs.apart c (by simpa [keys, Res.keys, Value.ownBlock] using hc), by simp [keys, Res.keys]⟩
        refine ⟨_, _, hrun, ?_⟩
        have h2 := Tr.setArr (cs' := (cur.toList.take xs.length ++ strCells s ++ cur.toList.drop (xs.length + s.size)).toArray) hsat
        have h3 := h2.asRow (m := xs.length + s.size) (cap := cap) (sz := 1) (xs := xs.map V ++ strCells s) hlen hroom hcm ?_ ?_
        · have eR3 : ∀ u, rB u E (xs ++ yb s) = .row u E 1 (xs.length + s.size) (xs.map V ++ strCells s) := fun u => by simp only [rB, List.length_append, List.map_append, hyl, hyc]
          rw [eR3]
          simpa [keys, Res.keys, Value.ownBlock] using h3
        · simp only [List.size_toArray, List.length_append, List.length_take, List.length_drop, Array.length_toList, hsl]
          omega
        · rw [htake, ← hlen]
          exact List.take_left
      · have holds : ∀ j u, (xs.map V)[j]? = some u → w.cell? ((⟨g, 0, none⟩ : Addr).add j) = some u := hown.cells (g := g) rfl
        have hrun := run_append_grow_string (P := P) w T U ty E inf (.int .u8 0) hu hu2 hi hz ⟨g, 0, none⟩ xs.length cap (xs.map V) (by rw [hml, hs1]; omega) holds s (by omega) (by omega) (growslice_fits (by omega) (by rw [hb1]; omega))
        have eR3 : ∀ u, rB u E (xs ++ yb s) = .row u E 1 (xs.length + s.size) (xs.map V ++ strCells s) := fun u => by simp only [rB, List.length_append, List.map_append, hyl, hyc]
        refine ⟨_, _, hrun, ?_⟩
        rw [eR3]; exact fresh cap
/-- 'append(b, s...)' -/
theorem apT {T U E : Nat} {x y : Operand} {v : Value} {s : ByteArray} {xs : List Y} {μ' : Mem} (ho : nth l i = some ⟨some d, .call { callee := .builtin .append, args := #[x, y], argTypes := #[T, U] }, t, p, af, none⟩)
    (hT : slE P T = some (E, 1, 1)) (hU : strT P U = true) (hz : (P.info? E).bind (·.zero) = some (.int .u8 0)) (hx : Ev ρ true x v) (hy : Ev ρ true y (.string s)) (hm : MTake μ (rB v E xs) μ') (hb : xs.length + s.size ≤ 140737488355328)
    (h : ∀ v' L, v'.oneCell' = true → L = xs ++ yb s → Wo dr mc P n l K σ ((d, true, v') :: ρ) G (rB v' E L :: μ')) (hmc : mc.a = false ∨ dr = false := by first | exact .inl rfl | exact .inr rfl) : Wo dr mc P n l K (i :: σ) ρ G μ := by
  refine .act (μ₁ := [rB v E xs]) (μ₂ := μ') (post := fun G' μ' v' => G' = G ∧ v'.oneCell' = true ∧ μ' = [rB v' E (xs ++ yb s)]) ho (by rcases hmc with h | h <;> simp [kindOf, h]) .no hm.perm (fun a w ha hs => .inl ?_) ?_
  · obtain ⟨v', w', hrun, ht⟩ := run_apT (ty := t) (s := s) hT hU hz hs.left hb
    exact ⟨v', w', G, [rB v' E (xs ++ yb s)], .inl (by simp [execOp, resolve, invoke, builtin, hx.eval ha rfl, hy.eval ha rfl, hrun]), ht, rfl, ht.sat.rowOne, rfl⟩
  · rintro v' G' μ'' _ ⟨rfl, h1, rfl⟩
    exact h v' _ h1 rfl
/-! ## Elements of a row of one's own -/
theorem flat_at {α : Type} {enc : α → List Value} {sz : Nat} : ∀ {xs : List α} {k : Nat} {x : α}, (∀ y ∈ xs, (enc y).length = sz) → xs[k]? = some x → ((xs.flatMap enc).drop (k * sz)).take sz = enc x
  | y :: ys, 0, x, hsz, hx => by
    simp only [List.getElem?_cons_zero, Option.some.injEq] at hx
    subst hx
    rw [Nat.zero_mul, List.drop_zero, List.flatMap_cons, List.take_left' (hsz y (List.mem_cons_self ..))]
  | y :: ys, k + 1, x, hsz, hx => by
    rw [List.flatMap_cons, Nat.succ_mul, Nat.add_comm, ← List.drop_drop, List.drop_left' (hsz y (List.mem_cons_self ..))]
    exact flat_at (fun z hz => hsz z (List.mem_cons_of_mem _ hz)) (by simpa using hx)
  | [], _, _, _, hx => by simp at hx
theorem flat_set {α : Type} {enc : α → List Value} {sz : Nat} {y : α} : ∀ {xs : List α} {k : Nat}, (∀ z ∈ xs, (enc z).length = sz) → (enc y).length = sz → k < xs.length → put (xs.flatMap enc) (k * sz) (enc y) = (xs.set k y).flatMap enc
  | z :: zs, 0, hsz, hy, _ => by
    unfold put
    rw [Nat.zero_mul, List.take_zero, List.nil_append, Nat.zero_add, List.flatMap_cons, hy, List.drop_left' (hsz z (List.mem_cons_self ..))]
    simp
  | z :: zs, k + 1, hsz, hy, hk => by
    have ih := flat_set (xs := zs) (k := k) (fun u hu => hsz u (List.mem_cons_of_mem _ hu)) hy (by simpa using hk)
    have hz := hsz z (List.mem_cons_self ..)
    unfold put at ih ⊢
    rw [List.set_cons_succ, List.flatMap_cons, List.flatMap_cons, ← ih, Nat.succ_mul]
    have e1 : (enc z ++ zs.flatMap enc).take (k * sz + sz) = enc z ++ (zs.flatMap enc).take (k * sz) := by rw [List.take_append, List.take_of_length_le (by omega), hz, Nat.add_sub_cancel]
    have e2 : (enc z ++ zs.flatMap enc).drop (k * sz + sz + (enc y).length) = (zs.flatMap enc).drop (k * sz + (enc y).length) := by
      rw [List.drop_append, List.drop_of_length_le (by omega), hz, show k * sz + sz + (enc y).length - sz = k * sz + (enc y).length by omega, List.nil_append]
    rw [e1, e2]
    simp only [List.append_assoc]
  | [], _, _, _, hk => by simp at hk
theorem RdN.rowS {α : Type} {enc : α → List Value} {sz b m cap E k : Nat} {xs : List α} {x : α} {μ' : Mem} (h : MTake μ (rS sz enc (.slice (some ⟨b, 0, none⟩) m cap) E xs) μ') (hsz : ∀ y ∈ xs, (enc y).length = sz) (hx : xs[k]? = some x) {q : Nat} (hq : q = k * sz) : RdN G μ b q (enc x) := by
  subst hq
  intro j v hj
  refine Rd.row h ?_
  rw [← flat_at hsz hx, List.getElem?_take] at hj
  split at hj
  · rw [List.getElem?_drop] at hj; exact hj
  · cases hj
/-- 'xs[k] = y' -/
theorem stS {α : Type} {enc : α → List Value} {T E sz m cap b o k : Nat} {x y : Operand} {v : Value} {xs : List α} {u : α} {μ' : Mem} (ho : nth l i = some ⟨none, .store T x y, t, p, af, none⟩) (hx : Ev ρ true x (.pointer (some ⟨b, o, none⟩))) (hy : Ev ρ true y v) (hv : v.cells = (enc u).toArray) (hz : szT P T = some sz)
    (hm : MTake μ (rS sz enc (.slice (some ⟨b, 0, none⟩) m cap) E xs) μ') (hsz : ∀ y ∈ xs, (enc y).length = sz) (hu : (enc u).length = sz) (h1 : ∀ c ∈ enc u, c.oneCell' = true) (hq : o = k * sz) (hk : k < xs.length)
    (h : Wo dr mc P n l K σ ρ G (rS sz enc (.slice (some ⟨b, 0, none⟩) m cap) E (xs.set k u) :: μ')) : Wo dr mc P n l K (i :: σ) ρ G μ := by
  subst hq
  refine .act (μ₁ := [rS sz enc (.slice (some ⟨b, 0, none⟩) m cap) E xs]) (μ₂ := μ') (post := fun G' μ' v => G' = G ∧ μ' = [rS sz enc (.slice (some ⟨b, 0, none⟩) m cap) E (xs.set k u)] ∧ v = undef) ho (.inl rfl) .no hm.perm (fun a w ha hs => .inl ?_) ?_
  · have hs' := hs.left
    have hrow : w.ownsRow 0 E sz (.slice (some ⟨b, 0, none⟩) m cap) xs.length (xs.flatMap enc) := hs'.own _ (List.mem_singleton.2 rfl)
    have hfl := flat_len hsz
    rcases hrow.2 with ⟨e, _⟩ | ⟨g, cap', cur, e, _, hg, hnc, hcm, hcs, htake⟩
    · cases e
    · simp only [Value.slice.injEq, Option.some.injEq, Addr.mk.injEq, and_true, true_and] at e
      obtain ⟨rfl, rfl, rfl⟩ := e
      have hkey : keys [rS sz enc (.slice (some ⟨b, 0, none⟩) xs.length cap) E xs] = [b] := by simp [keys, Res.keys, Value.ownBlock]
      have hsat : Sat G [.blk b (.cells cur E (0, 0))] w := ⟨hs'.sub, fun r hr => by rw [List.mem_singleton.1 hr]; exact hg, fun c hc => hs'.apart c (by simpa [keys, Res.keys, Value.ownBlock] using hc), by simp [keys, Res.keys]⟩
      have hin : k * sz + sz ≤ xs.length * sz := by rw [← Nat.succ_mul]; exact Nat.mul_le_mul_right _ hk
      have hcap : xs.length * sz ≤ cap * sz := Nat.mul_le_mul_right _ hnc
      have hst := run_storeCells_at P b (k * sz) E (enc u) 0 cur w hg (by rw [Nat.add_zero, hu]; omega) h1
      simp only [Nat.add_zero, hu] at hst
      have h2 := (Tr.setArr (cs' := (cur.toList.take (k * sz) ++ enc u ++ cur.toList.drop (k * sz + sz)).toArray) hsat).asRow (m := xs.length) (cap := cap) (sz := sz) (xs := (xs.set k u).flatMap enc) ?_ hnc hcm ?_ ?_
      · refine ⟨undef, _, G, _, .inr ⟨?_, rfl⟩, by rw [hkey]; exact h2, rfl, by simp [rS], rfl⟩
        cases hi : P.info? T with
        | none => simp [szT, hi] at hz
        | some inf =>
          simp only [szT, hi, Option.map_some, Option.some.injEq] at hz
          simp only [execOp, hx.eval ha rfl, hy.eval ha rfl]
          simp [Instr.storeAt, Instr.sureAddr, storeVar, hv, sizeOf, typeInfo, hi, hz, hst, hu]
      · rw [flat_len (sz := sz) (fun z hz' => by
          rcases List.mem_or_eq_of_mem_set hz' with hz' | rfl
          · exact hsz z hz'
          · exact hu), List.length_set]
      · simp only [List.size_toArray, List.length_append, List.length_take, List.length_drop, Array.length_toList, hu]
        omega
      · have := splice_take (A := cur.toList) (C := enc u) (o := k * sz) (m := xs.length * sz) (by rw [hu]; exact hin) (by have : cur.toList.length = cur.size := Array.length_toList ..; omega)
        rw [hu, htake] at this
        rw [this]
        have h5 := flat_set (xs := xs) hsz hu hk
        unfold put at h5
        rw [hu] at h5
        exact h5
  · rintro v G' μ'' _ ⟨rfl, rfl, rfl⟩
    exact h
end
end Go.Tan

namespace Go.Tan
open Go.RowKit
/-- a number's bytes -/
def numN (n : Nat) : List Y := if h : n < 128 then [BitVec.ofNat 8 n] else BitVec.ofNat 8 (n % 128 + 128) :: numN (n / 128)
termination_by n
decreasing_by omega
theorem num_small {n : Nat} (h : n < 128) : numN n = [BitVec.ofNat 8 n] := by rw [numN, dif_pos h]
theorem num_big {n : Nat} (h : ¬ n < 128) : numN n = BitVec.ofNat 8 (n % 128 + 128) :: numN (n / 128) := by rw [numN, dif_neg h]
theorem num_pos (n : Nat) : 0 < (numN n).length := by
  by_cases h : n < 128
  · rw [num_small h]; simp
  · rw [num_big h]; simp
theorem num_len : ∀ (k n : Nat), n < 128 ^ k → 0 < k → (numN n).length ≤ k
  | 0, _, _, h => by omega
  | k + 1, n, h, _ => by
    by_cases hn : n < 128
    · rw [num_small hn]; simp
    · rw [num_big hn]
      by_cases hk : k = 0
      · subst hk; omega
      · have := num_len k (n / 128) (by rw [Nat.pow_succ] at h; omega) (by omega)
        simp; omega
theorem num_len10 {n : Nat} (h : n < 18446744073709551616) : (numN n).length ≤ 10 := num_len 10 n (by omega) (by decide)
/-- the number that stands ahead, how many bytes it has, or its fault -/
def numG : Nat → Nat → List Y → Nat × Nat × Int
  | _, _, [] => (0, 0, 10)
  | k, acc, x :: r =>
    if k = 9 ∧ 1 < x.toNat then (0, 0, 11)
    else if x.toNat < 128 then (if 0 < k ∧ x.toNat = 0 then (0, 0, 11) else (acc + x.toNat * 128 ^ k, k + 1, 0))
    else numG (k + 1) (acc + (x.toNat - 128) * 128 ^ k) r
def numP (b : List Y) : Nat × Nat × Int := numG 0 0 b
theorem toN {n : Nat} (h : n < 256) : (BitVec.ofNat 8 n).toNat = n := by rw [BitVec.toNat_ofNat]; omega
theorem pow9 : (128 : Nat) ^ 9 = 9223372036854775808 := by decide
theorem numG_enc : ∀ (m n k acc : Nat) (r : List Y), n ≤ m → acc + n * 128 ^ k < 18446744073709551616 → (k = 0 ∨ 0 < n) → k ≤ 9 → numG k acc (numN n ++ r) = (acc + n * 128 ^ k, k + (numN n).length, 0) := by
  intro m
  induction m with
  | zero =>
    intro n k acc r hm h1 h2 h3
    obtain rfl : n = 0 := by omega
    rw [num_small (by omega)]
    have hk : k = 0 := by omega
    subst hk
    simp [numG]
  | succ m ih =>
    intro n k acc r hm h1 h2 h3
    by_cases hn : n < 128
    · rw [num_small hn]
      have ht := toN (n := n) (by omega)
      have h9 : ¬ (k = 9 ∧ 1 < (BitVec.ofNat 8 n).toNat) := by
        rintro ⟨rfl, h⟩
        rw [ht] at h
        rw [pow9] at h1
        omega
      simp only [List.cons_append, List.nil_append, numG]
      rw [if_neg h9, if_pos (by omega), if_neg (by omega), ht]
      rfl
    · rw [num_big hn]
      have ht := toN (n := n % 128 + 128) (by omega)
      have hk : k < 9 := by
        rcases Nat.lt_or_ge k 9 with h | h
        · exact h
        · have : k = 9 := by omega
          subst this
          rw [pow9] at h1
          omega
      simp only [List.cons_append, numG]
      rw [if_neg (by omega), if_neg (by omega), ht, Nat.add_sub_cancel]
      have e : acc + n % 128 * 128 ^ k + n / 128 * 128 ^ (k + 1) = acc + n * 128 ^ k := by
        rw [Nat.pow_succ, Nat.add_assoc]
        congr 1
        have h5 : n / 128 * (128 ^ k * 128) = (n / 128 * 128) * 128 ^ k := by rw [Nat.mul_comm (128 ^ k) 128, Nat.mul_assoc]
        rw [h5, ← Nat.add_mul]
        congr 1
        omega
      rw [ih (n / 128) (k + 1) _ r (by omega) (by rw [e]; exact h1) (.inr (by omega)) (by omega), e, List.length_cons]
      congr 2
      omega
theorem num_back {n : Nat} (h : n < 18446744073709551616) (r : List Y) : numP (numN n ++ r) = (n, (numN n).length, 0) := by
  have := numG_enc n n 0 0 r (Nat.le_refl _) (by omega) (.inl rfl) (by omega)
  simpa [numP] using this
theorem pow_le {j k : Nat} (h : j ≤ k) : (128 : Nat) ^ j ≤ 128 ^ k := Nat.pow_le_pow_right (by decide) h
theorem numG_dec : ∀ (b : List Y) (k acc v j : Nat), acc < 128 ^ k → k ≤ 9 → numG k acc b = (v, j, 0) → ∃ n, v = acc + n * 128 ^ k ∧ (0 < k → 0 < n) ∧ j = k + (numN n).length ∧ b = numN n ++ b.drop (numN n).length ∧ v < 18446744073709551616
  | [], k, acc, v, j, _, _, h => by simp [numG] at h
  | x :: r, k, acc, v, j, ha, hk, h => by
    simp only [numG] at h
    have hx := x.isLt
    split at h
    · simp at h
    · rename_i h9
      split at h
      · rename_i hx1
        split at h
        · simp at h
        · rename_i h0
          simp only [Prod.mk.injEq, and_true] at h
          obtain ⟨rfl, rfl⟩ := h
          have hb : BitVec.ofNat 8 x.toNat = x := by simp
          refine ⟨x.toNat, rfl, fun hk0 => by omega, by rw [num_small hx1]; rfl, by rw [num_small hx1, hb]; rfl, ?_⟩
          rcases Nat.lt_or_ge k 9 with hlt | hge
          · have h1 : acc + x.toNat * 128 ^ k < 128 ^ (k + 1) := by
              rw [Nat.pow_succ]
              have : x.toNat * 128 ^ k ≤ 127 * 128 ^ k := Nat.mul_le_mul_right _ (by omega)
              omega
            have h2 := pow_le (show k + 1 ≤ 9 by omega)
            rw [pow9] at h2
            omega
          · obtain rfl : k = 9 := by omega
            rw [pow9] at ha ⊢
            omega
      · rename_i hx1
        have hk9 : k < 9 := by omega
        obtain ⟨n, e1, e2, e3, e4, e5⟩ := numG_dec r (k + 1) (acc + (x.toNat - 128) * 128 ^ k) v j (by
          rw [Nat.pow_succ]
          have : (x.toNat - 128) * 128 ^ k ≤ 127 * 128 ^ k := Nat.mul_le_mul_right _ (by omega)
          omega) (by omega) h
        have hn := e2 (by omega)
        have hbig : ¬ (n * 128 + (x.toNat - 128)) < 128 := by omega
        have hnum : numN (n * 128 + (x.toNat - 128)) = x :: numN n := by
          rw [num_big hbig]
          have q1 : (n * 128 + (x.toNat - 128)) % 128 + 128 = x.toNat := by omega
          have q2 : (n * 128 + (x.toNat - 128)) / 128 = n := by omega
          rw [q1, q2]
          simp
        refine ⟨n * 128 + (x.toNat - 128), ?_, fun _ => by omega, ?_, ?_, e5⟩
        · rw [e1, Nat.pow_succ, Nat.add_mul]
          generalize 128 ^ k = q
          have hq : n * (q * 128) = n * 128 * q := by rw [Nat.mul_comm q 128, ← Nat.mul_assoc]
          rw [hq]
          generalize n * 128 * q = u
          generalize (x.toNat - 128) * q = t
          omega
        · rw [hnum, e3, List.length_cons]; omega
        · rw [hnum, List.length_cons, List.drop_succ_cons, List.cons_append, ← e4]
theorem num_canon {b : List Y} {v j : Nat} (h : numP b = (v, j, 0)) : b = numN v ++ b.drop j ∧ v < 18446744073709551616 ∧ j = (numN v).length ∧ j ≤ b.length := by
  obtain ⟨n, e1, _, e3, e4, e5⟩ := numG_dec b 0 0 v j (by simp) (by omega) h
  have hv : v = n := by rw [e1]; simp
  subst hv
  have hj : j = (numN v).length := by omega
  refine ⟨by rw [hj]; exact e4, e5, hj, ?_⟩
  rw [hj, e4]; simp
/-- a fault comes with nothing -/
theorem num_fault : ∀ (b : List Y) (k acc v j : Nat) (e : Int), numG k acc b = (v, j, e) → e ≠ 0 → v = 0 ∧ j = 0
  | [], k, acc, v, j, e, h, he => by
    simp only [numG, Prod.mk.injEq] at h
    exact ⟨h.1.symm, h.2.1.symm⟩
  | x :: r, k, acc, v, j, e, h, he => by
    simp only [numG] at h
    split at h
    · simp only [Prod.mk.injEq] at h; exact ⟨h.1.symm, h.2.1.symm⟩
    · split at h
      · split at h
        · simp only [Prod.mk.injEq] at h; exact ⟨h.1.symm, h.2.1.symm⟩
        · simp only [Prod.mk.injEq] at h; exact absurd h.2.2.symm he
      · exact num_fault r _ _ _ _ _ h he
/-! ### What is taken -/
structure Rd' where
  rest : List Y
  bad : Int
def rdNum (s : Rd') : Nat × Rd' := if s.bad ≠ 0 then (0, s) else ((numP s.rest).1, ⟨s.rest.drop (numP s.rest).2.1, (numP s.rest).2.2⟩)
def rdStr (most : Nat) (s : Rd') : List Y × Rd' :=
  if s.bad ≠ 0 then ([], s)
  else if (numP s.rest).2.2 ≠ 0 then ([], ⟨s.rest, (numP s.rest).2.2⟩)
  else if most < (numP s.rest).1 then ([], ⟨s.rest, 4⟩)
  else if s.rest.length - (numP s.rest).2.1 < (numP s.rest).1 then ([], ⟨s.rest, 10⟩)
  else ((s.rest.drop (numP s.rest).2.1).take (numP s.rest).1, ⟨s.rest.drop ((numP s.rest).2.1 + (numP s.rest).1), 0⟩)
def rdByte (s : Rd') : Y × Rd' := if s.bad ≠ 0 then (0, s) else if s.rest.length < 1 then (0, ⟨s.rest, 10⟩) else (s.rest.getD 0 0, ⟨s.rest.drop 1, 0⟩)
def strL (xs : List Y) : List Y := numN xs.length ++ xs
end Go.Tan

namespace Go.Tan
/-- A sentence as a bool. -/
noncomputable def B (p : Prop) : Bool := @decide p (Classical.propDecidable p)
theorem B_iff {p : Prop} : B p = true ↔ p := by unfold B; exact @decide_eq_true_iff p (Classical.propDecidable p)
theorem B_true {p : Prop} (h : p) : B p = true := B_iff.2 h
theorem B_false {p : Prop} (h : ¬ p) : B p = false := by
  cases hb : B p with
  | false => rfl
  | true => exact absurd (B_iff.1 hb) h
structure Opts where
  mem : Int
  table : Int
  zero : Int
  base : Int
  block : Int
  every : Int
  bits : Int
def Opts.cells (o : Opts) : List Value := [.int .i64 o.mem, .int .i64 o.table, .int .i64 o.zero, .int .i64 o.base, .int .i64 o.block, .int .i64 o.every, .int .i64 o.bits]
def Opts.val (o : Opts) : Value := .agg o.cells.toArray
def within (n m : Int) : Bool := decide (0 < n) && decide (n ≤ m)
structure Meta where
  level : Int
  gen : Int
  epoch : Int
  number : Int
  size : Int
  count : Int
  min : ByteArray
  max : ByteArray
  root : Nat → Int
def Meta.cells (m : Meta) : List Value :=
  [.int .u8 m.level, .int .u64 m.gen, .int .u64 m.epoch, .int .u64 m.number, .int .i64 m.size, .int .i64 m.count, .string m.min, .string m.max] ++ (List.range 32).map fun i => .int .u8 (m.root i)
def Meta.val (m : Meta) : Value := .agg m.cells.toArray
def Meta.zero : Meta := ⟨0, 0, 0, 0, 0, 0, ByteArray.empty, ByteArray.empty, fun _ => 0⟩
theorem Meta.len (m : Meta) : m.cells.length = 40 := rfl
theorem Meta.one (m : Meta) : ∀ u ∈ m.cells, u.oneCell' = true := by
  intro u hu
  simp only [Meta.cells, List.mem_append, List.mem_cons, List.not_mem_nil, or_false, List.mem_map] at hu
  rcases hu with (rfl | rfl | rfl | rfl | rfl | rfl | rfl | rfl) | ⟨i, _, rfl⟩ <;> rfl
structure Meta.wf (m : Meta) : Prop where
  level : 0 ≤ m.level ∧ m.level < 256
  number : 0 ≤ m.number ∧ m.number < 18446744073709551616
  size : -9223372036854775808 ≤ m.size ∧ m.size ≤ 9223372036854775807
  minL : m.min.size ≤ 9223372036854775807
  maxL : m.max.size ≤ 9223372036854775807
  gen : 0 ≤ m.gen ∧ m.gen ≤ 18446744073709551615
  epoch : 0 ≤ m.epoch ∧ m.epoch ≤ 18446744073709551615
  count : -9223372036854775808 ≤ m.count ∧ m.count ≤ 9223372036854775807
  root : ∀ j, j < 32 → 0 ≤ m.root j ∧ m.root j ≤ 255

structure State where
  lv : Nat → List Meta
  log : Int
  next : Int
  seq : Int
  least : Int
  gens : Nat → Int
def State.cells (s : State) (hd : Nat → Sh) : List Value :=
  (List.range 5).map (fun i => (hd i).val (s.lv i).length) ++ [.int .u64 s.log, .int .u64 s.next, .int .u64 s.seq, .int .u64 s.least] ++ (List.range 5).map fun i => .int .u64 (s.gens i)
def State.val (s : State) (hd : Nat → Sh) : Value := .agg (s.cells hd).toArray
theorem State.cell_lv (s : State) (hd : Nat → Sh) {k : Nat} (h : k < 5) : (s.cells hd)[0 + k * 1]? = some ((hd k).val (s.lv k).length) := by
  match k, h with
  | 0, _ => rfl | 1, _ => rfl | 2, _ => rfl | 3, _ => rfl | 4, _ => rfl
theorem State.cell_gen (s : State) (hd : Nat → Sh) {k : Nat} (h : k < 5) : (s.cells hd)[9 + k * 1]? = some (.int .u64 (s.gens k)) := by
  match k, h with
  | 0, _ => rfl | 1, _ => rfl | 2, _ => rfl | 3, _ => rfl | 4, _ => rfl
/-- A state's tables lie in memory that stays. -/
structure StR (G : PM) (s : State) (hd : Nat → Sh) : Prop where
  lv : ∀ i, i < 5 → SlR G 40 Meta.cells (hd i) (s.lv i)
  len : ∀ i, i < 5 → (s.lv i).length * 112 ≤ 140737488351232
  wf : ∀ i, i < 5 → ∀ m ∈ s.lv i, m.wf
theorem StR.mono {G G' : PM} {s : State} {hd : Nat → Sh} (h : StR G s hd) (hle : PM.le G G') : StR G' s hd := ⟨fun i hi => (h.lv i hi).mono hle, h.len, h.wf⟩
theorem SlR.get {G : PM} {h : Sh} {xs : List Meta} (s : SlR G 40 Meta.cells h xs) {k : Nat} (hk : k < xs.length) : RdNP G h.b (h.o + k * 40) (xs.getD k Meta.zero).cells :=
  s.rd k _ (by simp [hk])
theorem SlR.gat {G : PM} {h : Sh} {xs : List Meta} (s : SlR G 40 Meta.cells h xs) {j : Int} (k : Nat) (hj : j.toNat = k) (hk : k < xs.length) : RdNP G h.b (h.o + j.toNat * 40) (xs.getD k Meta.zero).cells := by
  rw [hj]; exact s.get hk
theorem getD_mem {xs : List Meta} {k : Nat} (h : k < xs.length) : xs.getD k Meta.zero ∈ xs := by simp [h]

def lt (a b : ByteArray) : Bool := Op.bytesLess a.toList b.toList
def le (a b : ByteArray) : Bool := Op.bytesLess a.toList b.toList || a.toList == b.toList
/-- P18.1: a meta that is right for a state. -/
def good (s : State) (m : Meta) : Bool :=
  decide (m.level < 5) && le m.min m.max && decide ((m.min.size : Int) ≤ 1024) && decide ((m.max.size : Int) ≤ 1024) && decide (m.count ≥ 1) && decide (m.size ≥ 1) && decide (m.number < s.next) && decide (m.gen ≤ s.gens m.level.toNat)
/-- May a table stand ahead of another one, on a level? -/
def pairOk (level : Int) (a b : Meta) : Bool := if level = 0 then decide (b.number < a.number) else lt a.max b.min

theorem stands_eq (a b : Meta) (h0 : 0 ≤ a.level) : (if (a.level == 0) = true then decide (a.number > b.number) else lt a.max b.min) = pairOk a.level a b := by
  unfold pairOk
  by_cases h : a.level = 0
  · simp [h]
  · simp [h]
theorem fits_fin {s : State} {m : Meta} (h1 : m.level < 5) (h2 : (!(Op.bytesLess m.min.toList m.max.toList || m.min.toList == m.max.toList)) = false)
    (h3 : (if ((m.max.size : Nat) : Int) > ((m.min.size : Nat) : Int) then ((m.max.size : Nat) : Int) else ((m.min.size : Nat) : Int)) ≤ 1024) (h4 : 1 ≤ m.count) (h5 : 1 ≤ m.size) :
    tup [.bool (decide (m.number < s.next) && decide (m.gen ≤ s.gens m.level.toNat))] = .bool (good s m) := by
  have h2' : le m.min m.max = true := by unfold le; cases h : (Op.bytesLess m.min.toList m.max.toList || m.min.toList == m.max.toList) <;> simp_all
  have h6 : ((m.min.size : Nat) : Int) ≤ 1024 ∧ ((m.max.size : Nat) : Int) ≤ 1024 := by split at h3 <;> omega
  simp only [tup, good, h2', decide_eq_true h1, decide_eq_true h6.1, decide_eq_true h6.2, decide_eq_true (show m.count ≥ 1 from h4), decide_eq_true (show m.size ≥ 1 from h5), Bool.true_and]
/-- How many tables the first levels have. -/
def tot (s : State) : Nat → Int
  | 0 => 0
  | n + 1 => tot s n + (s.lv n).length
theorem tot_nonneg (s : State) : ∀ n, 0 ≤ tot s n
  | 0 => Int.le_refl _
  | n + 1 => by have := tot_nonneg s n; simp only [tot]; omega
theorem tot_mono (s : State) : ∀ {n m : Nat}, n ≤ m → tot s n ≤ tot s m := by
  intro n m h
  induction h with
  | refl => exact Int.le_refl _
  | step _ ih => simp only [tot]; omega
def nums (l : List Meta) : List Int := l.map (·.number)
def allM (s : State) : Nat → List Meta
  | 0 => []
  | n + 1 => allM s n ++ s.lv n
/-- A level's tables are right and stand as they must. -/
def LvOk (s : State) (i : Nat) (l : List Meta) : Prop :=
  (∀ m ∈ l, m.level = i ∧ good s m = true) ∧ ∀ j, j + 1 < l.length → pairOk i (l.getD j Meta.zero) (l.getD (j + 1) Meta.zero) = true
/-- P18.1. -/
structure RightP (s : State) : Prop where
  seq : s.seq ≤ 72057594037927935
  least : s.least ≤ 72057594037927935
  log : s.log ≤ s.next
  few : tot s 5 ≤ 1024
  lv : ∀ i, i < 5 → LvOk s i (s.lv i)
  apart : ∀ a b, a < (allM s 5).length → b < a → ((allM s 5).getD a Meta.zero).number ≠ ((allM s 5).getD b Meta.zero).number
noncomputable def rightS (s : State) : Bool := B (RightP s)
theorem rightS_true {s : State} (h : RightP s) : rightS s = true := B_true h
theorem rightS_false {s : State} (h : ¬ RightP s) : rightS s = false := B_false h
theorem rightP_of {s : State} (h : rightS s = true) : RightP s := B_iff.1 h

theorem metas_one (l : List Meta) : ∀ u ∈ l.flatMap Meta.cells, u.oneCell' = true := fun u hu => by
  obtain ⟨m, _, hm⟩ := List.mem_flatMap.1 hu
  exact m.one u hm
/-! ### What the loops come to -/
theorem fin_false {s : State} (h : ¬ RightP s) : tup [.bool false] = .bool (rightS s) := by rw [rightS_false h]; rfl
theorem fin_true {s : State} (h : RightP s) : tup [.bool true] = .bool (rightS s) := by rw [rightS_true h]; rfl
theorem rs_good {s : State} {i k : Nat} (hi : i < 5) (hk : k < (s.lv i).length) (h : (((s.lv i).getD k Meta.zero).level != (i : Int)) = true ∨ good s ((s.lv i).getD k Meta.zero) = false) : ¬ RightP s := by
  intro hr
  have := (hr.lv i hi).1 _ (getD_mem hk)
  rcases h with h | h
  · rw [this.1] at h; simp at h
  · rw [this.2] at h; cases h
end Go.Tan

namespace Go.Tan

theorem State.arr_lv (s : State) (hd : Nat → Sh) {k : Nat} (h : k < 5) : (((s.cells hd).drop 0).take 5)[k]? = some ((hd k).val (s.lv k).length) := by
  match k, h with
  | 0, _ => rfl | 1, _ => rfl | 2, _ => rfl | 3, _ => rfl | 4, _ => rfl
theorem RdNP.add {G : PM} {b : Nat} {cs : List Value} {T : TypeId} : RdNP (G.add b (cl cs T)) b 0 cs := fun j v hj => by
  rw [Nat.zero_add]; exact RdP.blk (PM.add_same G b _) hj

/-- How often a number was seen: once or never. -/
def cnt (L : List Int) (x : Int) : Int := if x ∈ L then 1 else 0
def cntM (L : List Int) (x : Int) : Option Value := if x ∈ L then some (.int .i64 1) else none
theorem cnt_get (L : List Int) (x : Int) : (cntM L x).getD (.int .i64 0) = .int .i64 (cnt L x) := by unfold cntM cnt; split <;> rfl
theorem cnt_bd (L : List Int) (x : Int) : 0 ≤ cnt L x ∧ cnt L x ≤ 1 := by unfold cnt; split <;> omega
theorem cnt_upd (m : Int → Option Value) (x : Int) (u z : Value) : ((fun j => if j = x then some u else m j) x).getD z = u := by simp
theorem cnt_push {L : List Int} {x : Int} (h : x ∉ L) : (fun j => if j = x then some (Value.int .i64 (cnt L x + 1)) else cntM L j) = cntM (L ++ [x]) := by
  funext j
  unfold cntM cnt
  by_cases hj : j = x
  · subst hj; simp [h]
  · simp [hj]
theorem cnt_not {L : List Int} {x : Int} (h : cnt L x + 1 ≤ 1) : x ∉ L := by intro hm; simp [cnt, hm] at h
theorem cnt_mem {L : List Int} {x : Int} (h : 1 < cnt L x + 1) : x ∈ L := by
  by_cases hm : x ∈ L
  · exact hm
  · simp [cnt, hm] at h

def Dist (l : List Meta) : Prop := ∀ a b, a < l.length → b < a → (l.getD a Meta.zero).number ≠ (l.getD b Meta.zero).number
theorem getD_app_left {l r : List Meta} {k : Nat} (h : k < l.length) : (l ++ r).getD k Meta.zero = l.getD k Meta.zero := by
  simp [List.getElem?_append_left h]
theorem getD_app_at {l r : List Meta} {m : Meta} : (l ++ m :: r).getD l.length Meta.zero = m := by simp
theorem dist_nil : Dist [] := fun a b h => by simp at h
theorem dist_push {l : List Meta} {m : Meta} (h : Dist l) (hm : m.number ∉ nums l) : Dist (l ++ [m]) := by
  intro a b ha hb
  simp only [List.length_append, List.length_singleton] at ha
  by_cases e : a = l.length
  · subst e
    rw [getD_app_at, getD_app_left hb]
    intro e
    exact hm (List.mem_map.2 ⟨_, getD_mem hb, e.symm⟩)
  · rw [getD_app_left (by omega), getD_app_left (by omega)]
    exact h a b (by omega) hb
/-- The tables of the first levels stand ahead of all. -/
theorem allM_pre (s : State) {i : Nat} : ∀ {n : Nat}, i < n → ∃ r, allM s n = allM s i ++ s.lv i ++ r
  | 0, h => by omega
  | n + 1, h => by
    by_cases e : i = n
    · subst e; exact ⟨[], by simp [allM]⟩
    · obtain ⟨r, hr⟩ := allM_pre s (i := i) (n := n) (by omega)
      exact ⟨r ++ s.lv n, by simp [allM, hr]⟩
theorem take_snoc {l : List Meta} {k : Nat} (h : k < l.length) : l.take (k + 1) = l.take k ++ [l.getD k Meta.zero] := by
  rw [List.take_succ_eq_append_getElem h]; simp [h]
theorem rs_dup {s : State} {i k : Nat} (hi : i < 5) (hk : k < (s.lv i).length) (h : ((s.lv i).getD k Meta.zero).number ∈ nums (allM s i ++ (s.lv i).take k)) : ¬ RightP s := by
  intro hr
  obtain ⟨r, hr5⟩ := allM_pre s hi
  have hsplit : allM s 5 = (allM s i ++ (s.lv i).take k) ++ ((s.lv i).getD k Meta.zero) :: ((s.lv i).drop (k + 1) ++ r) := by
    rw [hr5]
    have : s.lv i = (s.lv i).take k ++ (s.lv i).getD k Meta.zero :: (s.lv i).drop (k + 1) := by
      have h1 := List.take_append_drop (k + 1) (s.lv i)
      rw [take_snoc hk] at h1
      simpa using h1.symm
    generalize hm : (s.lv i).getD k Meta.zero = m at this
    rw [show allM s i ++ s.lv i ++ r = allM s i ++ (s.lv i) ++ r from rfl]
    conv => lhs; rw [this]
    simp
  obtain ⟨m, hm, hmn⟩ := List.mem_map.1 h
  obtain ⟨b, hb, rfl⟩ := List.getElem_of_mem hm
  have := hr.apart (allM s i ++ (s.lv i).take k).length b (by rw [hsplit]; simp) hb
  rw [hsplit, getD_app_at, getD_app_left hb] at this
  apply this
  rw [← hmn, List.getD_eq_getElem?_getD, List.getElem?_eq_getElem hb]
  rfl

theorem cnt_zero (s : State) (i b : Nat) : Res.mp b .u64 (cntM (nums (allM s i))) = Res.mp b .u64 (cntM (nums (allM s i ++ (s.lv i).take 0))) := by simp
theorem cnt_next {s : State} {i k b : Nat} (h : (s.lv i).length ≤ k) : Res.mp b .u64 (cntM (nums (allM s i ++ (s.lv i).take k))) = Res.mp b .u64 (cntM (nums (allM s (i + 1)))) := by
  rw [List.take_of_length_le h]; rfl
theorem cnt_step {s : State} {i k b : Nat} (hk : k < (s.lv i).length) (h : ((s.lv i).getD k Meta.zero).number ∉ nums (allM s i ++ (s.lv i).take k)) :
    Res.mp b .u64 (fun j => if j = ((s.lv i).getD k Meta.zero).number then some (Value.int .i64 (cnt (nums (allM s i ++ (s.lv i).take k)) ((s.lv i).getD k Meta.zero).number + 1)) else cntM (nums (allM s i ++ (s.lv i).take k)) j) =
      Res.mp b .u64 (cntM (nums (allM s i ++ (s.lv i).take (k + 1)))) := by
  rw [cnt_push h, take_snoc hk]
  simp [nums]
/-- What is known of a level's first tables. -/
structure Part (s : State) (i k : Nat) : Prop where
  le : k ≤ (s.lv i).length
  good : ∀ j, j < k → ((s.lv i).getD j Meta.zero).level = i ∧ good s ((s.lv i).getD j Meta.zero) = true
  pair : ∀ j, j + 1 < k → pairOk i ((s.lv i).getD j Meta.zero) ((s.lv i).getD (j + 1) Meta.zero) = true
  dist : Dist (allM s i ++ (s.lv i).take k)
theorem Part.zero {s : State} {i : Nat} (h : Dist (allM s i)) : Part s i 0 := ⟨Nat.zero_le _, fun j hj => by omega, fun j hj => by omega, by simpa using h⟩
theorem Part.step {s : State} {i k : Nat} (h : Part s i k) (hk : k < (s.lv i).length) (h1 : ((s.lv i).getD k Meta.zero).level = i ∧ Go.Tan.good s ((s.lv i).getD k Meta.zero) = true)
    (h2 : ((s.lv i).getD k Meta.zero).number ∉ nums (allM s i ++ (s.lv i).take k)) (h3 : 0 < k → pairOk i ((s.lv i).getD (k - 1) Meta.zero) ((s.lv i).getD k Meta.zero) = true) : Part s i (k + 1) := by
  refine ⟨by omega, fun j hj => ?_, fun j hj => ?_, ?_⟩
  · by_cases e : j = k
    · subst e; exact h1
    · exact h.good j (by omega)
  · by_cases e : j + 1 = k
    · subst e; have := h3 (by omega); simpa using this
    · exact h.pair j (by omega)
  · rw [take_snoc hk, ← List.append_assoc]; exact dist_push h.dist h2
theorem Part.lvOk {s : State} {i k : Nat} (h : Part s i k) (hk : (s.lv i).length ≤ k) : LvOk s i (s.lv i) :=
  ⟨fun m hm => by
    obtain ⟨q, hq, rfl⟩ := List.getElem_of_mem hm
    have := h.good q (by omega)
    simpa [hq] using this, fun j hj => h.pair j (by omega)⟩
theorem Part.next {s : State} {i k : Nat} (h : Part s i k) (hk : (s.lv i).length ≤ k) : Dist (allM s (i + 1)) := by
  have := h.dist; rw [List.take_of_length_le hk] at this; exact this
theorem rs_few {s : State} {i : Nat} (hi : i < 5) (h : 1024 - tot s i < (s.lv i).length) : ¬ RightP s := by
  intro hr
  have h1 := tot_mono s (show i + 1 ≤ 5 by omega)
  rw [show tot s (i + 1) = tot s i + (s.lv i).length from rfl] at h1
  have := hr.few
  omega
theorem rs_max {s : State} (h : 72057594037927935 < (if s.least > s.seq then s.least else s.seq) ∨ s.next < s.log) : ¬ RightP s := by
  intro hr
  have h1 := hr.seq; have h2 := hr.least; have h3 := hr.log
  rcases h with h | h
  · split at h <;> omega
  · omega
theorem rs_done {s : State} {i : Nat} (h1 : (if s.least > s.seq then s.least else s.seq) ≤ 72057594037927935 ∧ s.log ≤ s.next) (hi : i = 5) (ht : tot s i ≤ 1024) (hall : ∀ j, j < i → LvOk s j (s.lv j)) (hd : Dist (allM s i)) : RightP s := by
  subst hi
  refine ⟨?_, ?_, h1.2, ht, hall, hd⟩
  · have := h1.1; split at this <;> omega
  · have := h1.1; split at this <;> omega
/-- The program's test of one table, taken apart. -/
theorem rt_bad {s : State} {i k : Nat} (hi : i < 5) (hk : k < (s.lv i).length) (hp : Part s i k)
    (h : ((((s.lv i).getD k Meta.zero).level != (i : Int)) || !good s ((s.lv i).getD k Meta.zero) || decide (cnt (nums (allM s i ++ (s.lv i).take k)) ((s.lv i).getD k Meta.zero).number + 1 > 1) ||
      (decide ((k : Int) > 0) && !pairOk ((s.lv i).getD (k - 1) Meta.zero).level ((s.lv i).getD (k - 1) Meta.zero) ((s.lv i).getD k Meta.zero))) = true) : ¬ RightP s := by
  simp only [Bool.or_eq_true, Bool.and_eq_true, decide_eq_true_eq, Bool.not_eq_true'] at h
  rcases h with ((h | h) | h) | ⟨h1, h2⟩
  · exact rs_good hi hk (.inl h)
  · exact rs_good hi hk (.inr h)
  · exact rs_dup hi hk (cnt_mem (by omega))
  · intro hr
    have h3 := (hr.lv i hi).2 (k - 1) (by omega)
    rw [show k - 1 + 1 = k by omega] at h3
    rw [(hp.good (k - 1) (by omega)).1, h3] at h2
    cases h2
theorem rt_good {s : State} {i k : Nat} (hk : k < (s.lv i).length) (hp : Part s i k)
    (h : ((((s.lv i).getD k Meta.zero).level != (i : Int)) || !good s ((s.lv i).getD k Meta.zero) || decide (cnt (nums (allM s i ++ (s.lv i).take k)) ((s.lv i).getD k Meta.zero).number + 1 > 1) ||
      (decide ((k : Int) > 0) && !pairOk ((s.lv i).getD (k - 1) Meta.zero).level ((s.lv i).getD (k - 1) Meta.zero) ((s.lv i).getD k Meta.zero))) = false) :
    Part s i (k + 1) ∧ ((s.lv i).getD k Meta.zero).number ∉ nums (allM s i ++ (s.lv i).take k) := by
  simp only [Bool.or_eq_false_iff, Bool.and_eq_false_iff, decide_eq_false_iff_not, Bool.not_eq_false', bne_eq_false_iff_eq] at h
  obtain ⟨⟨⟨h1, h2⟩, h3⟩, h4⟩ := h
  have hn := cnt_not (show cnt (nums (allM s i ++ (s.lv i).take k)) ((s.lv i).getD k Meta.zero).number + 1 ≤ 1 by omega)
  refine ⟨hp.step hk ⟨h1, h2⟩ hn fun h0 => ?_, hn⟩
  rcases h4 with h4 | h4
  · omega
  · rw [(hp.good (k - 1) (by omega)).1] at h4; exact h4

def idxI (p : Meta → Bool) (l : List Meta) : Int := match l.findIdx? p with | some i => i | none => -1
theorem idx_step {p : Meta → Bool} {l : List Meta} {k : Nat} (h : ∀ j, j < k → p (l.getD j Meta.zero) = false) (hk : p (l.getD k Meta.zero) = false) : ∀ j, j < k + 1 → p (l.getD j Meta.zero) = false := by
  intro j hj
  by_cases e : j = k
  · subst e; exact hk
  · exact h j (by omega)
theorem idx_none {p : Meta → Bool} {l : List Meta} {k : Nat} (hk : l.length ≤ k) (h : ∀ j, j < k → p (l.getD j Meta.zero) = false) : tup [.int .i64 (-1)] = .int .i64 (idxI p l) := by
  have : l.findIdx? p = none := by
    rw [List.findIdx?_eq_none_iff]
    intro m hm
    obtain ⟨q, hq, rfl⟩ := List.getElem_of_mem hm
    have := h q (by omega)
    simpa [hq] using this
  simp [idxI, this, tup]
theorem idx_hit {p : Meta → Bool} {l : List Meta} {k : Nat} (hk : k < l.length) (h : ∀ j, j < k → p (l.getD j Meta.zero) = false) (hp : p (l.getD k Meta.zero) = true) : tup [.int .i64 (k : Int)] = .int .i64 (idxI p l) := by
  have : l.findIdx? p = some k := by
    rw [List.findIdx?_eq_some_iff_getElem]
    refine ⟨hk, by simpa [hk] using hp, fun j hj => ?_⟩
    have := h j hj
    simpa [show j < l.length by omega] using this
  simp [idxI, this, tup]
/-! ### Lists that are gathered -/
def encU (x : Int) : List Value := [.int .u64 x]
end Go.Tan

namespace Go.Tan

structure Job where
  why : Int
  level : Int
  to : Int
  low : List Int
  high : List Int
def Job.cells (j : Job) (h1 h2 : Sh) : List Value := [.int .u8 j.why, .int .i64 j.level, .int .i64 j.to, h1.val j.low.length, h2.val j.high.length]
def Job.val (j : Job) (h1 h2 : Sh) : Value := .agg (j.cells h1 h2).toArray
def Job.zero : Job := ⟨0, 0, 0, [], []⟩
structure JobR (G : PM) (j : Job) (h1 h2 : Sh) : Prop where
  low : SlR G 1 encU h1 j.low
  high : SlR G 1 encU h2 j.high
  lenL : j.low.length * 112 ≤ 140737488351232
  lenH : j.high.length * 112 ≤ 140737488351232
theorem JobR.mono {G G' : PM} {j : Job} {h1 h2 : Sh} (h : JobR G j h1 h2) (hle : PM.le G G') : JobR G' j h1 h2 := ⟨h.low.mono hle, h.high.mono hle, h.lenL, h.lenH⟩
theorem JobR.zero {G : PM} : JobR G Job.zero ⟨none, 0⟩ ⟨none, 0⟩ := ⟨SlR.nul, SlR.nul, by decide, by decide⟩

theorem Job.one (j : Job) (h1 h2 : Sh) : ∀ u ∈ j.cells h1 h2, u.oneCell' = true := by
  intro u hu
  simp only [Job.cells, List.mem_cons, List.not_mem_nil, or_false] at hu
  rcases hu with rfl | rfl | rfl | rfl | rfl <;> rfl
def State.zero : State := ⟨fun _ => [], 0, 0, 0, 0, fun _ => 0⟩
def hd0 : Nat → Sh := fun _ => ⟨none, 0⟩
def meta1 : Meta := ⟨0, 0, 0, 4, 1, 1, ByteArray.empty, ByteArray.empty, fun _ => 0⟩
def State.one : State := ⟨fun | 0 => [meta1] | _ => [], 0, 5, 0, 0, fun _ => 0⟩
theorem st_zero {G : PM} : StR G State.zero hd0 := ⟨fun _ _ => SlR.nul, fun _ _ => Nat.zero_le _, fun _ _ m hm => nomatch hm⟩
theorem right_zero : rightS State.zero = true := by
  refine rightS_true ⟨by decide, by decide, by decide, by decide, fun i _ => ⟨fun m hm => (nomatch hm), fun j hj => absurd hj (Nat.not_lt_zero _)⟩, fun a b ha => absurd ha (Nat.not_lt_zero _)⟩
end Go.Tan

namespace Go.Tan
open Go.RowKit
/-! ### Taking, with what follows -/
section
variable {α β : Type}
def pNum (k : Nat → List Y → Option α) (r : List Y) : Option α := if (numP r).2.2 = 0 then k (numP r).1 (r.drop (numP r).2.1) else none
def pUp (most : Nat) (k : Nat → List Y → Option α) : List Y → Option α := pNum fun n r => if n ≤ most then k n r else none
def pStr (most : Nat) (k : List Y → List Y → Option α) : List Y → Option α := pUp most fun n r => if n ≤ r.length then k (r.take n) (r.drop n) else none
def pByte (k : Y → List Y → Option α) (r : List Y) : Option α := if r.length < 1 then none else k (r.getD 0 0) (r.drop 1)
/-- so many, one behind the other -/
def pRep (f : (β → List Y → Option α) → List Y → Option α) : Nat → (List β → List Y → Option α) → List Y → Option α
  | 0, k => k []
  | n + 1, k => f fun x => pRep f n fun xs => k (x :: xs)
theorem num_k {n : Nat} (h : n < 18446744073709551616) (k : Nat → List Y → Option α) (r : List Y) : pNum k (numN n ++ r) = k n r := by
  unfold pNum; rw [num_back h, if_pos rfl]; simp
theorem up_k {most n : Nat} (h : n < 18446744073709551616) (hn : n ≤ most) (k : Nat → List Y → Option α) (r : List Y) : pUp most k (numN n ++ r) = k n r := by
  unfold pUp; rw [num_k h, if_pos hn]
theorem up_no {most n : Nat} (h : n < 18446744073709551616) (hn : ¬ n ≤ most) (k : Nat → List Y → Option α) (r : List Y) : pUp most k (numN n ++ r) = none := by
  unfold pUp; rw [num_k h, if_neg hn]
theorem str_k {most : Nat} {xs : List Y} (h : xs.length < 18446744073709551616) (hn : xs.length ≤ most) (k : List Y → List Y → Option α) (r : List Y) : pStr most k (strL xs ++ r) = k xs r := by
  unfold pStr strL; rw [List.append_assoc, up_k h hn, if_pos (by simp), List.take_left, List.drop_left]
theorem str_no {most : Nat} {xs : List Y} (h : xs.length < 18446744073709551616) (hn : ¬ xs.length ≤ most) (k : List Y → List Y → Option α) (r : List Y) : pStr most k (strL xs ++ r) = none := by
  unfold pStr strL; rw [List.append_assoc, up_no h hn]
theorem byte_k (x : Y) (k : Y → List Y → Option α) (r : List Y) : pByte k (x :: r) = k x r := by simp [pByte]
theorem num_inv {k : Nat → List Y → Option α} {r : List Y} {a : α} (h : pNum k r = some a) : ∃ n r', r = numN n ++ r' ∧ n < 18446744073709551616 ∧ k n r' = some a := by
  unfold pNum at h
  split at h
  · rename_i he
    have := num_canon (b := r) (v := (numP r).1) (j := (numP r).2.1) (by rw [← he])
    exact ⟨_, _, this.1, this.2.1, h⟩
  · cases h
theorem up_inv {most : Nat} {k : Nat → List Y → Option α} {r : List Y} {a : α} (h : pUp most k r = some a) : ∃ n r', r = numN n ++ r' ∧ n < 18446744073709551616 ∧ n ≤ most ∧ k n r' = some a := by
  obtain ⟨n, r', h1, h2, h3⟩ := num_inv h
  split at h3
  · rename_i hn; exact ⟨n, r', h1, h2, hn, h3⟩
  · cases h3
theorem str_inv {most : Nat} {k : List Y → List Y → Option α} {r : List Y} {a : α} (h : pStr most k r = some a) : ∃ xs r', r = strL xs ++ r' ∧ xs.length ≤ most ∧ k xs r' = some a := by
  obtain ⟨n, r', h1, h2, h3, h4⟩ := up_inv h
  split at h4
  · rename_i hn
    have hl : (r'.take n).length = n := by rw [List.length_take]; omega
    refine ⟨r'.take n, r'.drop n, ?_, by omega, h4⟩
    rw [h1, strL, hl, List.append_assoc, List.take_append_drop]
  · cases h4
theorem byte_inv {k : Y → List Y → Option α} {r : List Y} {a : α} (h : pByte k r = some a) : ∃ x r', r = x :: r' ∧ k x r' = some a := by
  unfold pByte at h
  split at h
  · cases h
  · cases r with
    | nil => rename_i hn; simp at hn
    | cons x r => exact ⟨x, r, rfl, by simpa using h⟩
end
/-! ### A taking that has gone well so far, or is lost -/
/-- what was begun with comes to what follows at the rest; or it is lost, and that is known -/
def Tk {α : Type} (O : Option α) (s : Rd') (bad : Bool) (k : List Y → Option α) : Prop := (s.bad = 0 ∧ bad = false ∧ O = k s.rest) ∨ (O = none ∧ (bad = true ∨ s.bad ≠ 0))
section
variable {α β : Type} {O : Option α} {s : Rd'} {bad : Bool}
theorem Tk.start {b : List Y} {k : List Y → Option α} : Tk (k b) ⟨b, 0⟩ false k := .inl ⟨rfl, rfl, rfl⟩
theorem Tk.num {k : Nat → List Y → Option α} (h : Tk O s bad (pNum k)) : Tk O (rdNum s).2 bad (k (rdNum s).1) := by
  unfold rdNum
  rcases h with ⟨h1, h2, h3⟩ | ⟨h1, h2⟩
  · rw [if_neg (by simp [h1])]
    unfold pNum at h3
    split at h3
    · rename_i he; exact .inl ⟨he, h2, h3⟩
    · rename_i he; exact .inr ⟨h3, .inr he⟩
  · split
    · exact .inr ⟨h1, h2⟩
    · rename_i he
      rcases h2 with h2 | h2
      · exact .inr ⟨h1, .inl h2⟩
      · exact absurd h2 he
theorem Tk.bad_of {k : List Y → Option α} (h : Tk O s bad k) {c : Bool} (hc : s.bad = 0 → bad = false → c = true → O = none) : Tk O s (bad || c) k := by
  rcases h with ⟨h1, h2, h3⟩ | ⟨h1, h2⟩
  · cases c with
    | false => exact .inl ⟨h1, by simp [h2], h3⟩
    | true => exact .inr ⟨hc h1 h2 rfl, .inl (by simp)⟩
  · refine .inr ⟨h1, ?_⟩
    rcases h2 with h2 | h2
    · exact .inl (by simp [h2])
    · exact .inr h2
/-- a number that may be so great -/
theorem Tk.up {most : Nat} {k : Nat → List Y → Option α} (h : Tk O s bad (pUp most k)) {c : Bool} (hc : c = (decide (most < (rdNum s).1) || !decide ((rdNum s).2.bad = 0))) : Tk O (rdNum s).2 (bad || c) (k (rdNum s).1) := by
  have h' := Tk.num (k := fun n r => if n ≤ most then k n r else none) h
  rcases h' with ⟨h1, h2, h3⟩ | ⟨h1, h2⟩
  · simp only at h3
    by_cases hn : (rdNum s).1 ≤ most
    · rw [if_pos hn] at h3
      have : c = false := by rw [hc, h1, decide_eq_false (by omega)]; rfl
      exact .inl ⟨h1, by rw [h2, this]; rfl, h3⟩
    · rw [if_neg hn] at h3
      have : c = true := by rw [hc, decide_eq_true (by omega)]; rfl
      exact .inr ⟨h3, .inl (by rw [this]; simp)⟩
  · refine .inr ⟨h1, ?_⟩
    rcases h2 with h2 | h2
    · exact .inl (by rw [h2]; rfl)
    · exact .inr h2
theorem Tk.str {most : Nat} {k : List Y → List Y → Option α} (h : Tk O s bad (pStr most k)) : Tk O (rdStr most s).2 bad (k (rdStr most s).1) := by
  unfold rdStr
  rcases h with ⟨h1, h2, h3⟩ | ⟨h1, h2⟩
  · rw [if_neg (by simp [h1])]
    unfold pStr pUp pNum at h3
    split at h3
    · rename_i he
      rw [if_neg (by simp [he])]
      simp only at h3
      split at h3
      · rename_i hm
        rw [if_neg (by omega)]
        split at h3
        · rename_i hl
          rw [List.length_drop] at hl
          rw [if_neg (by omega)]
          refine .inl ⟨rfl, h2, ?_⟩
          rw [h3, List.drop_drop]
        · rename_i hl
          rw [List.length_drop] at hl
          rw [if_pos (by omega)]
          exact .inr ⟨h3, .inr (by simp)⟩
      · rename_i hm
        rw [if_pos (by omega)]
        exact .inr ⟨h3, .inr (by simp)⟩
    · rename_i he
      rw [if_pos he]
      exact .inr ⟨h3, .inr he⟩
  · split
    · exact .inr ⟨h1, h2⟩
    · rename_i he
      rcases h2 with h2 | h2
      · exact .inr ⟨h1, .inl h2⟩
      · exact absurd h2 he
theorem Tk.byte {k : Y → List Y → Option α} (h : Tk O s bad (pByte k)) : Tk O (rdByte s).2 bad (k (rdByte s).1) := by
  unfold rdByte
  rcases h with ⟨h1, h2, h3⟩ | ⟨h1, h2⟩
  · rw [if_neg (by simp [h1])]
    unfold pByte at h3
    split at h3
    · rename_i hl; rw [if_pos hl]; exact .inr ⟨h3, .inr (by simp)⟩
    · rename_i hl; rw [if_neg hl]; exact .inl ⟨rfl, h2, h3⟩
  · split
    · exact .inr ⟨h1, h2⟩
    · rename_i he
      rcases h2 with h2 | h2
      · exact .inr ⟨h1, .inl h2⟩
      · exact absurd h2 he
/-- where it is lost it stays lost -/
theorem Tk.lost {k k' : List Y → Option α} {s' : Rd'} {bad' : Bool} (h : Tk O s bad k) (hl : bad = true ∨ s.bad ≠ 0) (hl' : bad' = true ∨ s'.bad ≠ 0) : Tk O s' bad' k' := by
  rcases h with ⟨h1, h2, _⟩ | ⟨h1, _⟩
  · rcases hl with hl | hl
    · rw [h2] at hl; cases hl
    · exact absurd h1 hl
  · exact .inr ⟨h1, hl'⟩
def pEnd (a : α) (r : List Y) : Option α := if r = [] then some a else none
/-- the end -/
theorem Tk.fin {a : α} (h : Tk O s bad (pEnd a)) : O = if bad = false ∧ s.bad = 0 ∧ s.rest = [] then some a else none := by
  rcases h with ⟨h1, h2, h3⟩ | ⟨h1, h2⟩
  · rw [h3, pEnd]
    by_cases hr : s.rest = []
    · rw [if_pos hr, if_pos ⟨h2, h1, hr⟩]
    · rw [if_neg hr, if_neg (fun hh => hr hh.2.2)]
  · rw [h1, if_neg]
    rintro ⟨h3, h4, _⟩
    rcases h2 with h2 | h2
    · rw [h3] at h2; cases h2
    · exact h2 h4
end
end Go.Tan

namespace Go.Tan
open Go.RowKit
structure Gone where
  level : Int
  number : Int
def Gone.cells (g : Gone) : List Value := [.int .u8 g.level, .int .u64 g.number]
def Gone.zero : Gone := ⟨0, 0⟩
structure Gone.wf (g : Gone) : Prop where
  level : 0 ≤ g.level ∧ g.level < 256
  number : 0 ≤ g.number ∧ g.number < 18446744073709551616
structure Edit where
  log : Int
  next : Int
  seq : Int
  least : Int
  gens : Nat → Int
  add : List Meta
  drop : List Gone
def Edit.cells (e : Edit) (ha hd : Sh) : List Value :=
  [.int .u64 e.log, .int .u64 e.next, .int .u64 e.seq, .int .u64 e.least] ++ (List.range 5).map (fun i => .int .u64 (e.gens i)) ++ [ha.val e.add.length, hd.val e.drop.length]
def Edit.val (e : Edit) (ha hd : Sh) : Value := .agg (e.cells ha hd).toArray
def Edit.zero : Edit := ⟨0, 0, 0, 0, fun _ => 0, [], []⟩
def u64 (x : Int) : Prop := 0 ≤ x ∧ x < 18446744073709551616
structure Edit.wf (e : Edit) : Prop where
  log : u64 e.log
  next : u64 e.next
  seq : u64 e.seq
  least : u64 e.least
  gens : ∀ i, i < 5 → u64 (e.gens i)
  add : ∀ m ∈ e.add, m.wf
  drop : ∀ g ∈ e.drop, g.wf
/-- an edit's tables lie in memory that stays -/
structure EdR (G : PM) (e : Edit) (ha hd : Sh) : Prop where
  add : SlR G 40 Meta.cells ha e.add
  drop : SlR G 2 Gone.cells hd e.drop
  wf : e.wf
theorem EdR.mono {G G' : PM} {e : Edit} {ha hd : Sh} (h : EdR G e ha hd) (hle : PM.le G G') : EdR G' e ha hd := ⟨h.add.mono hle, h.drop.mono hle, h.wf⟩
def u64N (x : Int) : Nat := (x % 18446744073709551616).toNat
def encM (m : Meta) : List Y :=
  numN m.level.toNat ++ numN m.gen.toNat ++ numN m.epoch.toNat ++ numN m.number.toNat ++ numN (u64N m.size) ++ numN (u64N m.count) ++ strL (yb m.min) ++ strL (yb m.max) ++ (List.range 32).map fun i => BitVec.ofInt 8 (m.root i)
def encG (g : Gone) : List Y := numN g.level.toNat ++ numN g.number.toNat
def numsL (l : List Int) : List Y := l.flatMap fun x => numN x.toNat
def encE (e : Edit) : List Y :=
  numN e.log.toNat ++ numN e.next.toNat ++ numN e.seq.toNat ++ numN e.least.toNat ++ ((List.range 5).flatMap fun i => numN (e.gens i).toNat) ++ numN e.add.length ++ e.add.flatMap encM ++ numN e.drop.length ++ e.drop.flatMap encG
section
variable {α : Type}
def pMeta (k : Meta → List Y → Option α) : List Y → Option α :=
  pUp 255 fun l => pNum fun g => pNum fun ep => pNum fun nu => pUp 9223372036854775807 fun sz => pUp 9223372036854775807 fun ct => pStr 1024 fun mn => pStr 1024 fun mx => pRep pByte 32 fun rt =>
    k ⟨l, g, ep, nu, sz, ct, bstr mn, bstr mx, fun i => ((rt.getD i 0).toNat : Int)⟩
def pGone (k : Gone → List Y → Option α) : List Y → Option α := pUp 255 fun l => pNum fun n => k ⟨l, n⟩
end
def decO : List Y → Option Edit :=
  pNum fun log => pNum fun next => pNum fun seq => pNum fun least => pRep pNum 5 fun gs => pUp 1024 fun na => pRep pMeta na fun add => pUp 1024 fun nd => pRep pGone nd fun drop =>
    pEnd ⟨log, next, seq, least, fun i => ((gs.getD i 0 : Nat) : Int), add, drop⟩
/-! ### What was laid is taken -/
section
variable {α β : Type}
theorem rep_k {f : (β → List Y → Option α) → List Y → Option α} {γ : Type} {en : γ → List Y} {ca : γ → β} : ∀ (xs : List γ), (∀ x ∈ xs, ∀ k r, f k (en x ++ r) = k (ca x) r) → ∀ (k : List β → List Y → Option α) (r : List Y), pRep f xs.length k (xs.flatMap en ++ r) = k (xs.map ca) r
  | [], _, k, r => rfl
  | x :: xs, h, k, r => by
    rw [List.length_cons, pRep, List.flatMap_cons, List.append_assoc, h x (List.mem_cons_self ..), rep_k xs (fun y hy => h y (List.mem_cons_of_mem _ hy))]
    rfl
theorem rep_no {f : (β → List Y → Option α) → List Y → Option α} {γ : Type} {en : γ → List Y} {ca : γ → β} {good : γ → Prop} : ∀ (xs : List γ), (∀ x ∈ xs, good x → ∀ k r, f k (en x ++ r) = k (ca x) r) → (∀ x ∈ xs, ¬ good x → ∀ k r, f k (en x ++ r) = none) → (∃ x ∈ xs, ¬ good x) →
    ∀ (k : List β → List Y → Option α) (r : List Y), pRep f xs.length k (xs.flatMap en ++ r) = none
  | [], _, _, hx, _, _ => by obtain ⟨x, hx, _⟩ := hx; cases hx
  | x :: xs, h, hn, hx, k, r => by
    rw [List.length_cons, pRep, List.flatMap_cons, List.append_assoc]
    by_cases hg : good x
    · rw [h x (List.mem_cons_self ..) hg]
      refine rep_no xs (fun y hy => h y (List.mem_cons_of_mem _ hy)) (fun y hy => hn y (List.mem_cons_of_mem _ hy)) ?_ _ _
      obtain ⟨y, hy, hyg⟩ := hx
      rcases List.mem_cons.1 hy with rfl | hy
      · exact absurd hg hyg
      · exact ⟨y, hy, hyg⟩
    · exact hn x (List.mem_cons_self ..) hg _ _
theorem rep_inv {f : (β → List Y → Option α) → List Y → Option α} {en : β → List Y} {Q : β → Prop} (hf : ∀ (k : β → List Y → Option α) (r : List Y) (a : α), f k r = some a → ∃ x r', r = en x ++ r' ∧ Q x ∧ k x r' = some a) :
    ∀ (n : Nat) (k : List β → List Y → Option α) (r : List Y) (a : α), pRep f n k r = some a → ∃ xs r', xs.length = n ∧ r = xs.flatMap en ++ r' ∧ (∀ x ∈ xs, Q x) ∧ k xs r' = some a
  | 0, k, r, a, h => ⟨[], r, rfl, rfl, (fun x hx => by cases hx), h⟩
  | n + 1, k, r, a, h => by
    obtain ⟨x, r1, h1, h2, h3⟩ := hf _ r a h
    obtain ⟨xs, r2, e1, e2, e3, e4⟩ := rep_inv hf n _ r1 a h3
    refine ⟨x :: xs, r2, by simp [e1], by rw [h1, e2]; simp, fun y hy => ?_, e4⟩
    rcases List.mem_cons.1 hy with rfl | hy
    · exact h2
    · exact e3 y hy
end
def Meta.canon (m : Meta) : Meta := { m with root := fun i => if i < 32 then m.root i else 0 }
def Meta.fits (m : Meta) : Prop := 0 ≤ m.size ∧ 0 ≤ m.count ∧ m.min.size ≤ 1024 ∧ m.max.size ≤ 1024
theorem nat_of {x : Int} (h : 0 ≤ x) : ((x.toNat : Nat) : Int) = x := Int.toNat_of_nonneg h
theorem meta_k {α : Type} {m : Meta} (hw : m.wf) (hf : m.fits) (k : Meta → List Y → Option α) (r : List Y) : pMeta k (encM m ++ r) = k m.canon r := by
  obtain ⟨h1, h2, h3, h4⟩ := hf
  have l1 := hw.level; have l2 := hw.gen; have l3 := hw.epoch; have l4 := hw.number; have l5 := hw.size; have l6 := hw.count
  unfold pMeta encM
  simp only [List.append_assoc]
  have s5 : u64N m.size = m.size.toNat := by unfold u64N; omega
  have s6 : u64N m.count = m.count.toNat := by unfold u64N; omega
  rw [up_k (by omega) (by omega), num_k (by omega), num_k (by omega), num_k (by omega), s5, s6, up_k (by omega) (by omega), up_k (by omega) (by omega), str_k (by rw [yb_len]; omega) (by rw [yb_len]; omega), str_k (by rw [yb_len]; omega) (by rw [yb_len]; omega)]
  have hr := rep_k (α := α) (f := pByte) (en := fun y : Y => [y]) (ca := id) ((List.range 32).map fun i => BitVec.ofInt 8 (m.root i)) (fun y _ k r => byte_k y k r)
  have hfl : ∀ l : List Y, (l.flatMap fun y => [y]) = l := fun l => by induction l with | nil => rfl | cons a l ih => simp only [List.flatMap_cons, ih]; rfl
  rw [hfl, List.length_map, List.length_range] at hr
  rw [hr]
  congr 1
  unfold Meta.canon
  rw [nat_of l1.1, nat_of l2.1, nat_of l3.1, nat_of l4.1, nat_of h1, nat_of h2, bstr_yb, bstr_yb]
  congr 1
  funext i
  by_cases hi : i < 32
  · have hb := hw.root i hi
    rw [if_pos hi, List.map_id, List.getD_eq_getElem?_getD, List.getElem?_map, List.getElem?_range hi]
    simp only [Option.map_some, Option.getD_some]
    rw [BitVec.toNat_ofInt]
    omega
  · rw [if_neg hi, List.map_id, List.getD_eq_getElem?_getD, List.getElem?_eq_none (by simp; omega)]
    rfl
theorem meta_no {α : Type} {m : Meta} (hw : m.wf) (hf : ¬ m.fits) (k : Meta → List Y → Option α) (r : List Y) : pMeta k (encM m ++ r) = none := by
  have l1 := hw.level; have l2 := hw.gen; have l3 := hw.epoch; have l4 := hw.number; have l5 := hw.size; have l6 := hw.count; have l7 := hw.minL; have l8 := hw.maxL
  unfold pMeta encM
  simp only [List.append_assoc]
  rw [up_k (by omega) (by omega), num_k (by omega), num_k (by omega), num_k (by omega)]
  by_cases h1 : 0 ≤ m.size
  · have s5 : u64N m.size = m.size.toNat := by unfold u64N; omega
    rw [s5, up_k (by omega) (by omega)]
    by_cases h2 : 0 ≤ m.count
    · have s6 : u64N m.count = m.count.toNat := by unfold u64N; omega
      rw [s6, up_k (by omega) (by omega)]
      by_cases h3 : m.min.size ≤ 1024
      · rw [str_k (by rw [yb_len]; omega) (by rw [yb_len]; omega)]
        exact str_no (by rw [yb_len]; omega) (by rw [yb_len]; exact fun h4 => hf ⟨h1, h2, h3, h4⟩) _ _
      · exact str_no (by rw [yb_len]; omega) (by rw [yb_len]; exact h3) _ _
    · exact up_no (by unfold u64N; omega) (by unfold u64N; omega) _ _
  · exact up_no (by unfold u64N; omega) (by unfold u64N; omega) _ _
theorem gone_k {α : Type} {g : Gone} (hw : g.wf) (k : Gone → List Y → Option α) (r : List Y) : pGone k (encG g ++ r) = k g r := by
  have l1 := hw.level; have l2 := hw.number
  unfold pGone encG
  rw [List.append_assoc, up_k (by omega) (by omega), num_k (by omega), nat_of l1.1, nat_of l2.1]
def Edit.canon (e : Edit) : Edit := { e with gens := fun i => if i < 5 then e.gens i else 0, add := e.add.map Meta.canon }
theorem gens_flat (g : Nat → Int) : ((List.range 5).flatMap fun i => numN (g i).toNat) = ((List.range 5).map g).flatMap fun x => numN x.toNat := by rw [List.flatMap_map]
theorem edit_k {e : Edit} (hw : e.wf) (ha : e.add.length ≤ 1024) (hd : e.drop.length ≤ 1024) (hf : ∀ m ∈ e.add, m.fits) : decO (encE e) = some e.canon := by
  have l1 := hw.log; have l2 := hw.next; have l3 := hw.seq; have l4 := hw.least
  unfold u64 at l1 l2 l3 l4
  unfold decO encE
  rw [gens_flat]
  simp only [List.append_assoc]
  rw [num_k (by omega), num_k (by omega), num_k (by omega), num_k (by omega)]
  have hg := rep_k (α := Edit) (f := pNum) (en := fun x : Int => numN x.toNat) (ca := Int.toNat) ((List.range 5).map e.gens) (fun x hx k r => by
    obtain ⟨i, hi, rfl⟩ := List.mem_map.1 hx
    have := hw.gens i (List.mem_range.1 hi)
    unfold u64 at this
    exact num_k (by omega) k r)
  rw [List.length_map, List.length_range] at hg
  rw [hg, up_k (by omega) ha, rep_k (en := encM) (ca := Meta.canon) e.add (fun m hm k r => meta_k (hw.add m hm) (hf m hm) k r), up_k (by omega) hd]
  have hdr := rep_k (α := Edit) (f := pGone) (en := encG) (ca := id) e.drop (fun g hg k r => gone_k (hw.drop g hg) k r) 
  have h2 := hdr (fun drop => pEnd ⟨(e.log.toNat : Int), (e.next.toNat : Int), (e.seq.toNat : Int), (e.least.toNat : Int), fun i => (((((List.range 5).map e.gens).map Int.toNat).getD i 0 : Nat) : Int), e.add.map Meta.canon, drop⟩) []
  rw [List.append_nil] at h2
  rw [h2, pEnd, if_pos rfl, List.map_id]
  congr 1
  unfold Edit.canon
  rw [nat_of l1.1, nat_of l2.1, nat_of l3.1, nat_of l4.1]
  congr 1
  funext i
  by_cases hi : i < 5
  · have hgi := hw.gens i hi
    unfold u64 at hgi
    rw [if_pos hi, List.map_map, List.getD_eq_getElem?_getD, List.getElem?_map, List.getElem?_range hi]
    simp only [Option.map_some, Option.getD_some, Function.comp]
    omega
  · rw [if_neg hi, List.getD_eq_getElem?_getD, List.getElem?_eq_none (by simp; omega)]
    rfl
theorem edit_no {e : Edit} (hw : e.wf) (ha : e.add.length ≤ 1024) (hf : ∃ m ∈ e.add, ¬ m.fits) : decO (encE e) = none := by
  have l1 := hw.log; have l2 := hw.next; have l3 := hw.seq; have l4 := hw.least
  unfold u64 at l1 l2 l3 l4
  unfold decO encE
  rw [gens_flat]
  simp only [List.append_assoc]
  rw [num_k (by omega), num_k (by omega), num_k (by omega), num_k (by omega)]
  have hg := rep_k (α := Edit) (f := pNum) (en := fun x : Int => numN x.toNat) (ca := Int.toNat) ((List.range 5).map e.gens) (fun x hx k r => by
    obtain ⟨i, hi, rfl⟩ := List.mem_map.1 hx
    have := hw.gens i (List.mem_range.1 hi)
    unfold u64 at this
    exact num_k (by omega) k r)
  rw [List.length_map, List.length_range] at hg
  rw [hg, up_k (by omega) ha]
  exact rep_no (en := encM) (ca := Meta.canon) (good := Meta.fits) e.add (fun m hm hg k r => meta_k (hw.add m hm) hg k r) (fun m hm hg k r => meta_no (hw.add m hm) hg k r) hf _ _
/-! ### What is taken is laid so -/
theorem meta_inv {α : Type} {k : Meta → List Y → Option α} {r : List Y} {a : α} (h : pMeta k r = some a) : ∃ m r', r = encM m ++ r' ∧ m.wf ∧ k m r' = some a := by
  obtain ⟨l, r1, e1, b1, c1, h⟩ := up_inv h
  obtain ⟨g, r2, e2, b2, h⟩ := num_inv h
  obtain ⟨ep, r3, e3, b3, h⟩ := num_inv h
  obtain ⟨nu, r4, e4, b4, h⟩ := num_inv h
  obtain ⟨sz, r5, e5, b5, c5, h⟩ := up_inv h
  obtain ⟨ct, r6, e6, b6, c6, h⟩ := up_inv h
  obtain ⟨mn, r7, e7, c7, h⟩ := str_inv h
  obtain ⟨mx, r8, e8, c8, h⟩ := str_inv h
  obtain ⟨rt, r9, e9, e10, _, h⟩ := rep_inv (en := fun y : Y => [y]) (Q := fun _ => True) (fun k r a h => by
    obtain ⟨x, r', h1, h2⟩ := byte_inv h
    exact ⟨x, r', h1, trivial, h2⟩) 32 _ _ _ h
  have hfl : ∀ l : List Y, (l.flatMap fun y => [y]) = l := fun l => by induction l with | nil => rfl | cons a l ih => simp only [List.flatMap_cons, ih]; rfl
  rw [hfl] at e10
  refine ⟨_, r9, ?_, ?_, h⟩
  · unfold encM
    simp only [Int.toNat_natCast]
    have s5 : u64N (sz : Int) = sz := by unfold u64N; omega
    have s6 : u64N (ct : Int) = ct := by unfold u64N; omega
    have hroot : ((List.range 32).map fun i => BitVec.ofInt 8 (((rt.getD i 0).toNat : Nat) : Int)) = rt := by
      refine List.ext_getElem? fun i => ?_
      by_cases hi : i < 32
      · rw [List.getElem?_map, List.getElem?_range hi]
        have hr : i < rt.length := by omega
        simp [hr]
      · rw [List.getElem?_eq_none (by simp; omega), List.getElem?_eq_none (by omega)]
    rw [s5, s6, yb_bstr, yb_bstr, hroot, e1, e2, e3, e4, e5, e6, e7, e8, e10]
    simp only [List.append_assoc]
  · have hb : ∀ i, ((rt.getD i 0).toNat : Int) ≤ 255 := fun i => by have := (rt.getD i 0).isLt; omega
    refine ⟨⟨by simp only; omega, by simp only; omega⟩, ⟨by simp only; omega, by simp only; omega⟩, ⟨by simp only; omega, by simp only; omega⟩, by simp only [bstr_len]; omega, by simp only [bstr_len]; omega, ⟨by simp only; omega, by simp only; omega⟩, ⟨by simp only; omega, by simp only; omega⟩, ⟨by simp only; omega, by simp only; omega⟩, fun j _ => ⟨by simp only; omega, hb j⟩⟩
theorem gone_inv {α : Type} {k : Gone → List Y → Option α} {r : List Y} {a : α} (h : pGone k r = some a) : ∃ g r', r = encG g ++ r' ∧ g.wf ∧ k g r' = some a := by
  obtain ⟨l, r1, e1, b1, c1, h⟩ := up_inv h
  obtain ⟨n, r2, e2, b2, h⟩ := num_inv h
  refine ⟨_, r2, ?_, ⟨⟨by simp only; omega, by simp only; omega⟩, ⟨by simp only; omega, by simp only; omega⟩⟩, h⟩
  unfold encG
  simp only [Int.toNat_natCast]
  rw [e1, e2, List.append_assoc]
theorem edit_inv {b : List Y} {e : Edit} (h : decO b = some e) : encE e = b ∧ e.wf ∧ e.add.length ≤ 1024 ∧ e.drop.length ≤ 1024 := by
  unfold decO at h
  obtain ⟨a1, r1, e1, b1, h⟩ := num_inv h
  obtain ⟨a2, r2, e2, b2, h⟩ := num_inv h
  obtain ⟨a3, r3, e3, b3, h⟩ := num_inv h
  obtain ⟨a4, r4, e4, b4, h⟩ := num_inv h
  obtain ⟨gs, r5, e5, e6, q6, h⟩ := rep_inv (en := numN) (Q := fun n => n < 18446744073709551616) (fun k r a h => by
    obtain ⟨n, r', h1, h2, h3⟩ := num_inv h
    exact ⟨n, r', h1, h2, h3⟩) 5 _ _ _ h
  obtain ⟨na, r7, e7, b7, c7, h⟩ := up_inv h
  obtain ⟨add, r8, e8, e9, q9, h⟩ := rep_inv (en := encM) (Q := Meta.wf) (fun k r a h => meta_inv h) na _ _ _ h
  obtain ⟨nd, r10, e10, b10, c10, h⟩ := up_inv h
  obtain ⟨drop, r11, e11, e12, q12, h⟩ := rep_inv (en := encG) (Q := Gone.wf) (fun k r a h => gone_inv h) nd _ _ _ h
  unfold pEnd at h
  split at h
  · rename_i hr
    simp only [Option.some.injEq] at h
    subst h; subst hr
    have hgs : ((List.range 5).flatMap fun i => numN (((gs.getD i 0 : Nat) : Int)).toNat) = gs.flatMap numN := by
      have : (List.range 5).map (fun i => gs.getD i 0) = gs := by
        refine List.ext_getElem? fun i => ?_
        by_cases hi : i < 5
        · rw [List.getElem?_map, List.getElem?_range hi]
          have hr : i < gs.length := by omega
          simp [hr]
        · rw [List.getElem?_eq_none (by simp; omega), List.getElem?_eq_none (by omega)]
      conv => rhs; rw [← this]
      rw [List.flatMap_map]
      simp
    refine ⟨?_, ⟨⟨by simp only; omega, by simp only; omega⟩, ⟨by simp only; omega, by simp only; omega⟩, ⟨by simp only; omega, by simp only; omega⟩, ⟨by simp only; omega, by simp only; omega⟩, fun i hi => ?_, q9, q12⟩, by simp only; omega, by simp only; omega⟩
    · unfold encE
      simp only
      rw [hgs, Int.toNat_natCast, Int.toNat_natCast, Int.toNat_natCast, Int.toNat_natCast, e8, e11, e1, e2, e3, e4, e6, e7, e9, e10, e12]
      simp only [List.append_assoc, List.append_nil]
    · have hr : i < gs.length := by omega
      have := q6 (gs.getD i 0) (by simp [hr])
      refine ⟨by simp only; omega, by simp only; omega⟩
  · cases h
end Go.Tan

namespace Go.Tan
open Go.RowKit
theorem or128 (x : Y) : (x ||| 128#8).toNat = x.toNat % 128 + 128 := by
  have h := x.isLt
  have hd : ∀ y : Y, (y ||| 128#8).toNat = y.toNat % 128 + 128 := by decide
  exact hd x
theorem and127 (x : Y) : (x &&& 127#8).toNat = x.toNat % 128 := by
  have hd : ∀ y : Y, (y &&& 127#8).toNat = y.toNat % 128 := by decide
  exact hd x
theorem num_more {m : BitVec 64} (h : ¬ m.toNat < 128) : numN m.toNat = (m.setWidth 8 ||| 128#8) :: numN (m >>> 7).toNat := by
  rw [num_big h]
  have e1 : BitVec.ofNat 8 (m.toNat % 128 + 128) = m.setWidth 8 ||| 128#8 := by
    apply BitVec.eq_of_toNat_eq
    rw [or128, BitVec.toNat_ofNat, BitVec.toNat_setWidth]
    omega
  have e2 : (m >>> 7).toNat = m.toNat / 128 := by rw [BitVec.toNat_ushiftRight, Nat.shiftRight_eq_div_pow]
  rw [e1, e2]
theorem num_last {m : BitVec 64} (h : m.toNat < 128) : numN m.toNat = [m.setWidth 8] := by
  rw [num_small h]
  rfl
theorem shr7 (m : BitVec 64) : (m >>> 7).toNat = m.toNat / 128 := by rw [BitVec.toNat_ushiftRight, Nat.shiftRight_eq_div_pow]
theorem uvI {x : Int} (h : u64 x) : Value.int .u64 x = uv .u64 (BitVec.ofInt 64 x) := by
  unfold u64 at h
  show Value.int .u64 x = Value.int .u64 (((BitVec.ofInt 64 x).toNat : Nat) : Int)
  congr 1
  rw [BitVec.toNat_ofInt]
  omega
theorem ofI {x : Int} (h : u64 x) : (BitVec.ofInt 64 x).toNat = x.toNat := by
  unfold u64 at h
  rw [BitVec.toNat_ofInt]; omega
/-! ### A number is taken -/
theorem pow128 (k : Nat) : (128 : Nat) ^ k = 2 ^ (7 * k) := by rw [Nat.pow_mul]
theorem acc_or {w : BitVec 64} {x : Y} {k : Nat} (hw : w.toNat < 128 ^ k) (hk : k ≤ 9) (hx : k = 9 → x.toNat ≤ 1) : (w ||| (x &&& 127#8).setWidth 64 <<< (7 * k)).toNat = w.toNat + (x.toNat % 128) * 128 ^ k := by
  have hxl := x.isLt
  have h1 : ((x &&& 127#8).setWidth 64 <<< (7 * k)).toNat = 2 ^ (7 * k) * (x.toNat % 128) := by
    rw [BitVec.toNat_shiftLeft, BitVec.toNat_setWidth, and127, Nat.mod_eq_of_lt (a := x.toNat % 128) (by omega), Nat.shiftLeft_eq, Nat.mul_comm]
    refine Nat.mod_eq_of_lt ?_
    rcases Nat.lt_or_ge k 9 with h | h
    · have h2 : (2 : Nat) ^ (7 * k) ≤ 2 ^ 56 := Nat.pow_le_pow_right (by decide) (by omega)
      have h3 : 2 ^ (7 * k) * (x.toNat % 128) ≤ 2 ^ 56 * 127 := Nat.mul_le_mul h2 (by omega)
      have h4 : (2 : Nat) ^ 56 * 127 < 2 ^ 64 := by decide
      omega
    · obtain rfl : k = 9 := by omega
      have := hx rfl
      have h3 : (2 : Nat) ^ (7 * 9) * (x.toNat % 128) ≤ 2 ^ (7 * 9) * 1 := Nat.mul_le_mul_left _ (by omega)
      have h4 : (2 : Nat) ^ (7 * 9) * 1 < 2 ^ 64 := by decide
      omega
  rw [BitVec.toNat_or, h1]
  have h5 := Nat.two_pow_add_eq_or_of_lt (i := 7 * k) (b := w.toNat) (by rw [← pow128]; exact hw) (x.toNat % 128)
  rw [show w.toNat ||| 2 ^ (7 * k) * (x.toNat % 128) = 2 ^ (7 * k) * (x.toNat % 128) ||| w.toNat from Nat.or_comm _ _, ← h5, ← pow128, Nat.mul_comm]
  omega
theorem drop_cons {xs : List Y} {k : Nat} (h : k < xs.length) : xs.drop k = xs.getD k 0 :: xs.drop (k + 1) := by
  rw [List.drop_eq_getElem_cons h]; simp [h]
section
variable {xs : List Y} {k : Nat} {w : BitVec 64}
theorem np_form (e : numP xs = numG k w.toNat (xs.drop k)) (h : k < xs.length) (hk : k = 9) (hx : 1 < (xs.getD k 0).toNat) : numP xs = (0, 0, 11) := by
  rw [e, drop_cons h, numG, if_pos ⟨hk, hx⟩]
theorem np_zero (e : numP xs = numG k w.toNat (xs.drop k)) (h : k < xs.length) (hk : 0 < k) (hx : (xs.getD k 0).toNat = 0) : numP xs = (0, 0, 11) := by
  rw [e, drop_cons h, numG, if_neg (by omega), if_pos (by omega), if_pos ⟨hk, hx⟩]
theorem np_end (e : numP xs = numG k w.toNat (xs.drop k)) (hw : w.toNat < 128 ^ k) (h9 : k ≤ 9) (h : k < xs.length) (hf : ¬ (k = 9 ∧ 1 < (xs.getD k 0).toNat)) (hx : (xs.getD k 0).toNat < 128) (hz : ¬ (0 < k ∧ (xs.getD k 0).toNat = 0)) :
    numP xs = ((w ||| (xs.getD k 0 &&& 127#8).setWidth 64 <<< (7 * k)).toNat, k + 1, 0) := by
  rw [e, drop_cons h, numG, if_neg hf, if_pos hx, if_neg hz, acc_or hw h9 (by omega), Nat.mod_eq_of_lt hx]
theorem np_more (e : numP xs = numG k w.toNat (xs.drop k)) (hw : w.toNat < 128 ^ k) (h9 : k ≤ 9) (h : k < xs.length) (hf : ¬ (k = 9 ∧ 1 < (xs.getD k 0).toNat)) (hx : ¬ (xs.getD k 0).toNat < 128) :
    numP xs = numG (k + 1) (w ||| (xs.getD k 0 &&& 127#8).setWidth 64 <<< (7 * k)).toNat (xs.drop (k + 1)) ∧ (w ||| (xs.getD k 0 &&& 127#8).setWidth 64 <<< (7 * k)).toNat < 128 ^ (k + 1) ∧ k + 1 ≤ 9 := by
  have hxl := (xs.getD k 0).isLt
  have hm : (xs.getD k 0).toNat % 128 = (xs.getD k 0).toNat - 128 := by omega
  rw [acc_or hw h9 (by omega), hm]
  refine ⟨by rw [e, drop_cons h, numG, if_neg hf, if_neg hx], ?_, by omega⟩
  rw [Nat.pow_succ]
  have : ((xs.getD k 0).toNat - 128) * 128 ^ k ≤ 127 * 128 ^ k := Nat.mul_le_mul_right _ (by omega)
  omega
theorem np_short (e : numP xs = numG k w.toNat (xs.drop k)) (h : xs.length ≤ k) : numP xs = (0, 0, 10) := by
  rw [e, List.drop_of_length_le h, numG]
end
/-- what a number's taking comes to, as it is told -/
structure NumR (xs : List Y) (n k : Nat) (e : Int) : Prop where
  eq : numP xs = (n, k, e)
  lt : n < 18446744073709551616
  le : k ≤ xs.length
theorem NumR.of {xs : List Y} {n k : Nat} {e : Int} (h : numP xs = (n, k, e)) : NumR xs n k e := by
  by_cases he : e = 0
  · subst he
    obtain ⟨_, h2, _, h4⟩ := num_canon h
    exact ⟨h, h2, h4⟩
  · obtain ⟨rfl, rfl⟩ := num_fault xs 0 0 n k e h he
    exact ⟨h, by decide, Nat.zero_le _⟩
theorem rd_num_bad {xs : List Y} {e : Int} (h : ¬ e = 0) : rdNum ⟨xs, e⟩ = (0, ⟨xs, e⟩) := by unfold rdNum; rw [if_pos h]
theorem rd_num_ok {xs L : List Y} {e e' : Int} {n k : Nat} (h : e = 0) (hN : NumR xs n k e') (eL : L = xs.drop k) : rdNum ⟨xs, e⟩ = (n, ⟨L, e'⟩) := by
  unfold rdNum; rw [if_neg (by simp [h])]; simp only [hN.eq, eL]
theorem rd_str_bad {most : Nat} {xs : List Y} {e : Int} (h : ¬ e = 0) : rdStr most ⟨xs, e⟩ = ([], ⟨xs, e⟩) := by unfold rdStr; rw [if_pos h]
theorem rd_str_form {most n k : Nat} {xs : List Y} {e e' : Int} (h : e = 0) (hN : NumR xs n k e') (he : ¬ e' = 0) : rdStr most ⟨xs, e⟩ = ([], ⟨xs, e'⟩) := by
  unfold rdStr; rw [if_neg (by simp [h])]; simp only [hN.eq]; rw [if_pos he]
theorem rd_str_long {most n k : Nat} {xs : List Y} {e e' : Int} (h : e = 0) (hN : NumR xs n k e') (he : e' = 0) (hn : most < n) : rdStr most ⟨xs, e⟩ = ([], ⟨xs, 4⟩) := by
  unfold rdStr; rw [if_neg (by simp [h])]; simp only [hN.eq]; rw [if_neg (by simp [he]), if_pos hn]
theorem rd_str_short {most n k : Nat} {xs : List Y} {e e' : Int} (h : e = 0) (hN : NumR xs n k e') (he : e' = 0) (hn : ¬ most < n) (hl : xs.length - k < n) : rdStr most ⟨xs, e⟩ = ([], ⟨xs, 10⟩) := by
  unfold rdStr; rw [if_neg (by simp [h])]; simp only [hN.eq]; rw [if_neg (by simp [he]), if_neg hn, if_pos hl]
theorem rd_str_ok {most n k : Nat} {xs L M : List Y} {e e' : Int} (h : e = 0) (hN : NumR xs n k e') (he : e' = 0) (hn : ¬ most < n) (hl : ¬ xs.length - k < n) (eL : L = (xs.drop k).take (k + n - k)) (eM : M = xs.drop (k + n)) : rdStr most ⟨xs, e⟩ = (L, ⟨M, 0⟩) := by
  unfold rdStr; rw [if_neg (by simp [h])]; simp only [hN.eq]; rw [if_neg (by simp [he]), if_neg hn, if_neg hl, eL, eM, Nat.add_sub_cancel_left]
theorem rd_byte_bad {xs : List Y} {e : Int} (h : ¬ e = 0) : rdByte ⟨xs, e⟩ = (0, ⟨xs, e⟩) := by unfold rdByte; rw [if_pos h]
theorem rd_byte_short {xs : List Y} {e : Int} (h : e = 0) (hl : xs.length < 1) : rdByte ⟨xs, e⟩ = (0, ⟨xs, 10⟩) := by unfold rdByte; rw [if_neg (by simp [h]), if_pos hl]
theorem rd_byte_ok {xs L : List Y} {e : Int} (h : e = 0) (hl : ¬ xs.length < 1) (eL : L = xs.drop 1) : rdByte ⟨xs, e⟩ = (xs.getD 0 0, ⟨L, 0⟩) := by unfold rdByte; rw [if_neg (by simp [h]), if_neg hl, eL]
def endI (xs : List Y) (e : Int) : Int := if e = 0 ∧ 0 < xs.length then 12 else e
end Go.Tan

namespace Go.Tan
open Go.RowKit
/-! ### Taking -/
def Lead (B : List Y) (I k : Nat) : Prop := ∀ j, j < k → 128 ≤ (B.getD (I + j) 0).toNat
section
variable {B : List Y} {I k : Nat}
theorem Lead.zero : Lead B I 0 := fun j hj => by omega
theorem Lead.succ (h : Lead B I k) (hx : 128 ≤ (B.getD (I + k) 0).toNat) : Lead B I (k + 1) := fun j hj => by
  by_cases e : j = k
  · subst e; exact hx
  · exact h j (by omega)
end
theorem rdnum_lt {s : Rd'} {n : Nat} {t : Rd'} (h : rdNum s = (n, t)) : n < 18446744073709551616 := by
  unfold rdNum at h
  split at h
  · simp only [Prod.mk.injEq] at h; omega
  · simp only [Prod.mk.injEq] at h
    have := NumR.of (xs := s.rest) (n := (numP s.rest).1) (k := (numP s.rest).2.1) (e := (numP s.rest).2.2) rfl
    have := this.lt
    omega
end Go.Tan

namespace Go.Tan
open Go.RowKit
section
variable {P : Program} {G : PM} {μ : Mem}
end
def encQ (x : Int) : List Value := [.int .u64 x]
theorem encQ_map : ∀ ns : List Int, ns.flatMap encQ = ns.map (Value.int .u64)
  | [] => rfl
  | x :: ns => by rw [List.flatMap_cons, encQ_map ns]; rfl
theorem SlR.u1 {G : PM} {s : Sh} {xs : List Int} (h : SlR G 1 encQ s xs) {j : Int} (k : Nat) {x : Int} (hj : j.toNat = k) (hx : xs[k]? = some x) : RdP G ⟨s.b, s.o + j.toNat * 1, none⟩ (.int .u64 x) := by
  have := (h.nth k hj hx) 0 _ rfl
  simpa using this
theorem SlR.lit {G : PM} {b cap : Nat} {ns : List Int} {T : TypeId} (h : ns.length ≤ cap) : SlR (G.add b (cl (ns.flatMap encQ) T)) 1 encQ ⟨some ⟨b, 0, none⟩, cap⟩ ns := by
  refine ⟨fun _ => rfl, h, fun i x hx j v hj => ?_⟩
  have h0 : j = 0 ∧ v = .int .u64 x := by
    cases j with
    | zero => simp [encQ] at hj; exact ⟨rfl, hj.symm⟩
    | succ j => simp [encQ] at hj
  obtain ⟨rfl, rfl⟩ := h0
  have := RdNP.add (G := G) (b := b) (cs := ns.flatMap encQ) (T := T) i (.int .u64 x) (by rw [encQ_map, List.getElem?_map, hx]; rfl)
  simpa [Sh.b, Sh.o] using this
theorem SlR.part {G : PM} {b o cap : Nat} {ns : List Int} {cs : List Value} (hp : RdNP G b 0 cs) (hc : (cs.drop o).take ns.length = ns.flatMap encQ) (h : ns.length ≤ cap) : SlR G 1 encQ ⟨some ⟨b, o, none⟩, cap⟩ ns := by
  refine ⟨fun _ => rfl, h, fun i x hx j v hj => ?_⟩
  have h0 : j = 0 ∧ v = .int .u64 x := by
    cases j with
    | zero => simp [encQ] at hj; exact ⟨rfl, hj.symm⟩
    | succ j => simp [encQ] at hj
  obtain ⟨rfl, rfl⟩ := h0
  have hi : i < ns.length := by
    rcases Nat.lt_or_ge i ns.length with h | h
    · exact h
    · rw [List.getElem?_eq_none h] at hx; cases hx
  have hg : cs[o + i]? = some (.int .u64 x) := by
    have := congrArg (fun l => l[i]?) hc
    simp only [encQ_map, List.getElem?_map, hx, List.getElem?_take, if_pos hi, List.getElem?_drop] at this
    exact this
  have := hp (o + i) (.int .u64 x) hg
  simpa [Sh.b, Sh.o] using this
theorem numsL_snoc {ns : List Int} {k : Nat} {x : Int} (h : ns[k]? = some x) : numsL (ns.take (k + 1)) = numsL (ns.take k) ++ numN x.toNat := by
  rw [List.take_add_one, h]; simp [numsL]
theorem numsL_len : ∀ {ns : List Int}, (∀ x ∈ ns, u64 x) → (numsL ns).length ≤ 10 * ns.length
  | [], _ => by simp [numsL]
  | x :: ns, h => by
    have h1 := h x (List.mem_cons_self ..)
    unfold u64 at h1
    have h2 := num_len10 (n := x.toNat) (by omega)
    have h3 := numsL_len (ns := ns) (fun y hy => h y (List.mem_cons_of_mem _ hy))
    have : numsL (x :: ns) = numN x.toNat ++ numsL ns := by simp [numsL]
    rw [this, List.length_append, List.length_cons]; omega
theorem numsL_take {ns : List Int} (h : ∀ x ∈ ns, u64 x) (k : Nat) : (numsL (ns.take k)).length ≤ 10 * ns.length := by
  have h1 := numsL_len (ns := ns.take k) (fun x hx => h x (List.mem_of_mem_take hx))
  rw [List.length_take] at h1; omega
theorem up_bad {bad : Bool} {n most : Nat} {e : Int} : ((bad || decide ((most : Int) < (n : Int))) || !decide (e = 0)) = (bad || (decide (most < n) || !decide (e = 0))) := by
  rw [Bool.or_assoc, decide_eq_decide.2 (show ((most : Int) < (n : Int)) ↔ most < n by omega)]
end Go.Tan

namespace Go.Tan
open Go.RowKit
section
variable {α : Type} {O : Option α} {s t : Rd'} {bad : Bool}
theorem Tk.numE {k : Nat → List Y → Option α} {n : Nat} (h : Tk O s bad (pNum k)) (hN : rdNum s = (n, t)) : Tk O t bad (k n) := by
  have := h.num; rw [hN] at this; exact this
theorem Tk.upE {most n : Nat} {k : Nat → List Y → Option α} {K : List Y → Option α} {L : List Y} {e' : Int} {bad' : Bool} (h : Tk O s bad (pUp most k)) (hN : rdNum s = (n, ⟨L, e'⟩)) (hb : bad' = (bad || (decide (most < n) || !decide (e' = 0)))) (hK : n ≤ most → K = k n) : Tk O ⟨L, e'⟩ bad' K := by
  have h1 := Tk.up (c := (decide (most < n) || !decide (e' = 0))) h (by rw [hN])
  rw [hN, ← hb] at h1
  by_cases hn : n ≤ most
  · rw [hK hn]; exact h1
  · have ht : bad' = true := by rw [hb, decide_eq_true (show most < n by omega)]; simp
    exact h1.lost (.inl ht) (.inl ht)
theorem Tk.strE {most : Nat} {k : List Y → List Y → Option α} {M : List Y} (h : Tk O s bad (pStr most k)) (hN : rdStr most s = (M, t)) : Tk O t bad (k M) := by
  have := h.str; rw [hN] at this; exact this
theorem Tk.byteE {k : Y → List Y → Option α} {y : Y} (h : Tk O s bad (pByte k)) (hN : rdByte s = (y, t)) : Tk O t bad (k y) := by
  have := h.byte; rw [hN] at this; exact this
end
theorem rdnum_le {s t : Rd'} {n : Nat} (h : rdNum s = (n, t)) : t.rest.length ≤ s.rest.length := by
  unfold rdNum at h
  split at h
  · simp only [Prod.mk.injEq] at h; rw [← h.2]; exact Nat.le_refl _
  · simp only [Prod.mk.injEq] at h; rw [← h.2]; simp
theorem rdstr_le {s t : Rd'} {most : Nat} {M : List Y} (h : rdStr most s = (M, t)) : t.rest.length ≤ s.rest.length := by
  unfold rdStr at h
  repeat' split at h
  all_goals (simp only [Prod.mk.injEq] at h; rw [← h.2]; simp)
theorem rdbyte_le {s t : Rd'} {y : Y} (h : rdByte s = (y, t)) : t.rest.length ≤ s.rest.length := by
  unfold rdByte at h
  repeat' split at h
  all_goals (simp only [Prod.mk.injEq] at h; rw [← h.2]; simp)
/-- so many of 32 bytes are taken -/
structure ByR (s0 s : Rd') (bad : Bool) (rt : List Y) : Prop where
  len : rt.length ≤ 32
  tk : ∀ (α : Type) (O : Option α) (K : List Y → List Y → Option α), Tk O s0 bad (pRep pByte 32 K) → Tk O s bad (pRep pByte (32 - rt.length) fun r => K (rt ++ r))
theorem ByR.zero {s0 : Rd'} {bad : Bool} : ByR s0 s0 bad [] := ⟨by simp, fun _ _ _ h => h⟩
theorem ByR.step {s0 s t : Rd'} {bad : Bool} {rt : List Y} {y : Y} (h : ByR s0 s bad rt) (hl : rt.length < 32) (hN : rdByte s = (y, t)) : ByR s0 t bad (rt ++ [y]) := by
  refine ⟨by simp; omega, fun α O K hK => ?_⟩
  have h1 := h.tk α O K hK
  obtain ⟨m, hm⟩ : ∃ m, 32 - rt.length = m + 1 := ⟨31 - rt.length, by omega⟩
  rw [hm, pRep] at h1
  have h2 := h1.byteE hN
  have hm2 : 32 - (rt ++ [y]).length = m := by simp; omega
  rw [hm2]
  have e : (fun r => K (rt ++ [y] ++ r)) = fun xs => K (rt ++ y :: xs) := by funext r; simp
  rw [e]; exact h2
theorem ByR.all {s0 s : Rd'} {bad : Bool} {rt : List Y} (h : ByR s0 s bad rt) (hl : rt.length = 32) {α : Type} {O : Option α} {K : List Y → List Y → Option α} (hK : Tk O s0 bad (pRep pByte 32 K)) : Tk O s bad (K rt) := by
  have h1 := h.tk α O K hK
  rw [hl, Nat.sub_self, pRep, List.append_nil] at h1
  exact h1
/-- what is known of a taking of one meta -/
def MetaT (s t : Rd') (bad bad' : Bool) (m : Meta) : Prop := ∀ (α : Type) (O : Option α) (k : Meta → List Y → Option α), Tk O s bad (pMeta k) → Tk O t bad' (k m)
theorem metaT {s t9 : Rd'} {b0 b1 b2 b3 : Bool} {n1 n2 n3 n4 n5 n6 : Nat} {L1 L5 L6 M7 M8 rt : List Y} {e1 e5 e6 : Int} {t2 t3 t4 t7 t8 : Rd'} {lv sz ct : Int} {root : Nat → Int}
    (h1 : rdNum s = (n1, ⟨L1, e1⟩)) (q1 : b1 = (b0 || (decide (255 < n1) || !decide (e1 = 0)))) (w1 : n1 ≤ 255 → lv = n1)
    (h2 : rdNum ⟨L1, e1⟩ = (n2, t2)) (h3 : rdNum t2 = (n3, t3)) (h4 : rdNum t3 = (n4, t4))
    (h5 : rdNum t4 = (n5, ⟨L5, e5⟩)) (q5 : b2 = (b1 || (decide (9223372036854775807 < n5) || !decide (e5 = 0)))) (w5 : n5 ≤ 9223372036854775807 → sz = n5)
    (h6 : rdNum ⟨L5, e5⟩ = (n6, ⟨L6, e6⟩)) (q6 : b3 = (b2 || (decide (9223372036854775807 < n6) || !decide (e6 = 0)))) (w6 : n6 ≤ 9223372036854775807 → ct = n6)
    (h7 : rdStr 1024 ⟨L6, e6⟩ = (M7, t7)) (h8 : rdStr 1024 t7 = (M8, t8)) (h9 : ByR t8 t9 b3 rt) (hl : rt.length = 32) (hr : root = fun i => ((rt.getD i 0).toNat : Int)) :
    MetaT s t9 b0 b3 ⟨lv, n2, n3, n4, sz, ct, bstr M7, bstr M8, root⟩ := by
  intro α O k h
  subst hr
  unfold pMeta at h
  have a1 := h.upE (K := pNum fun g => pNum fun ep => pNum fun nu => pUp 9223372036854775807 fun sz => pUp 9223372036854775807 fun ct => pStr 1024 fun mn => pStr 1024 fun mx => pRep pByte 32 fun rt =>
    k ⟨lv, g, ep, nu, sz, ct, bstr mn, bstr mx, fun i => ((rt.getD i 0).toNat : Int)⟩) h1 q1 (fun hn => by rw [w1 hn])
  have a2 := a1.numE h2
  have a3 := a2.numE h3
  have a4 := a3.numE h4
  have a5 := a4.upE (K := pUp 9223372036854775807 fun ct => pStr 1024 fun mn => pStr 1024 fun mx => pRep pByte 32 fun rt =>
    k ⟨lv, n2, n3, n4, sz, ct, bstr mn, bstr mx, fun i => ((rt.getD i 0).toNat : Int)⟩) h5 q5 (fun hn => by rw [w5 hn])
  have a6 := a5.upE (K := pStr 1024 fun mn => pStr 1024 fun mx => pRep pByte 32 fun rt =>
    k ⟨lv, n2, n3, n4, sz, ct, bstr mn, bstr mx, fun i => ((rt.getD i 0).toNat : Int)⟩) h6 q6 (fun hn => by rw [w6 hn])
  have a7 := a6.strE h7
  have a8 := a7.strE h8
  exact h9.all hl a8
theorem w_u8 {n : Nat} (h : n ≤ 255) : IntKind.u8.wrap (n : Int) = n := wrap_u8 (by omega) (by omega)
theorem w_i64 {n : Nat} (h : n ≤ 9223372036854775807) : IntKind.i64.wrap (n : Int) = n := wrap_i64 (by omega) (by omega)
theorem rt_step {rt : List Y} {k : Nat} {f : Nat → Y} {y : Y} (hr : rt.length = k) (ef : ∀ i, f i = rt.getD i 0) : ∀ i, upd f k ((y.setWidth 64).setWidth 8) i = (rt ++ [y]).getD i 0 := by
  intro i
  have hy : (y.setWidth 64).setWidth 8 = y := by
    apply BitVec.eq_of_toNat_eq
    have := y.isLt
    simp only [BitVec.toNat_setWidth]; omega
  unfold upd
  by_cases h : i = k
  · rw [if_pos h, hy, h, ← hr]; simp
  · rw [if_neg h, ef i]
    simp only [List.getD_eq_getElem?_getD]
    rcases Nat.lt_or_ge i rt.length with h1 | h1
    · rw [List.getElem?_append_left h1]
    · rw [List.getElem?_eq_none h1, List.getElem?_eq_none (by simp; omega)]
theorem mset {a b c d e g h i : Value} {f : Nat → Y} {k m : Nat} {y : Y} (hm : m = 8 + k) : ([a, b, c, d, e, g, h, i] ++ ba 32 f).set m (V y) = [a, b, c, d, e, g, h, i] ++ ba 32 (upd f k y) := by
  subst hm
  rw [List.set_append_right _ _ (by simp)]
  congr 1
  simp only [List.length_cons, List.length_nil]
  rw [show 8 + k - (0 + 1 + 1 + 1 + 1 + 1 + 1 + 1 + 1) = k by omega]
  exact ba_set
theorem mone {a b c d e g h i : Value} {f : Nat → Y} (h1 : a.oneCell' = true) (h2 : b.oneCell' = true) (h3 : c.oneCell' = true) (h4 : d.oneCell' = true) (h5 : e.oneCell' = true) (h6 : g.oneCell' = true) (h7 : h.oneCell' = true) (h8 : i.oneCell' = true) : ∀ u ∈ [a, b, c, d, e, g, h, i] ++ ba 32 f, u.oneCell' = true := by
  intro u hu
  rcases List.mem_append.1 hu with hu | hu
  · simp only [List.mem_cons, List.not_mem_nil, or_false] at hu
    rcases hu with rfl | rfl | rfl | rfl | rfl | rfl | rfl | rfl <;> assumption
  · unfold ba at hu
    obtain ⟨j, _, rfl⟩ := List.mem_map.1 hu
    rfl
end Go.Tan

namespace Go.Tan
open Go.RowKit
theorem Conf.rep {k : CK} {f : Nat → Value} : ∀ (l : List Nat), (∀ i ∈ l, CkOk k (f i)) → Conf (List.replicate l.length k) (l.map f)
  | [], _ => .nil
  | i :: l, h => .cons (h i (List.mem_cons_self ..)) (Conf.rep l fun j hj => h j (List.mem_cons_of_mem _ hj))
def metaKs : List CK := [.int .u8, .int .u64, .int .u64, .int .u64, .int .i64, .int .i64, .str, .str] ++ List.replicate 32 (.int .u8)
theorem meta_conf {m : Meta} (h : m.wf) : Conf metaKs m.cells := by
  have l1 := h.level; have l2 := h.gen; have l3 := h.epoch; have l4 := h.number; have l5 := h.size; have l6 := h.count; have l7 := h.minL; have l8 := h.maxL
  refine Conf.app ?_ ?_
  · refine .cons (.int ?_ ?_) (.cons (.int ?_ ?_) (.cons (.int ?_ ?_) (.cons (.int ?_ ?_) (.cons (.int ?_ ?_) (.cons (.int ?_ ?_) (.cons (.str ?_) (.cons (.str ?_) .nil)))))))
    all_goals first
      | (simp only [IntKind.min, IntKind.max, IntKind.bits, IntKind.signed]; simp; omega)
      | (simp only [maxLen]; omega)
  · have := Conf.rep (k := .int .u8) (f := fun i => .int .u8 (m.root i)) (List.range 32) (fun i hi => by
      have hr := h.root i (List.mem_range.1 hi)
      refine .int ?_ ?_
      all_goals (simp only [IntKind.min, IntKind.max, IntKind.bits, IntKind.signed]; simp; omega))
    rw [List.length_range] at this
    exact this
open Classical in
noncomputable def eqM (a b : Meta) : Bool := decide (a.cells = b.cells)
theorem eqM_iff {a b : Meta} : eqM a b = true ↔ a.cells = b.cells := by unfold eqM; simp
open Classical in
noncomputable def sameM (a b : List Meta) : Bool := decide (a.map Meta.cells = b.map Meta.cells)
theorem sameM_iff {a b : List Meta} : sameM a b = true ↔ a.map Meta.cells = b.map Meta.cells := by unfold sameM; simp
theorem sameM_refl (a : List Meta) : sameM a a = true := by unfold sameM; simp
theorem sameM_len {a b : List Meta} (h : a.length ≠ b.length) : sameM a b = false := by
  refine Bool.eq_false_iff.2 fun e0 => ?_
  have e := sameM_iff.1 e0
  exact h (by have := congrArg List.length e; simpa using this)
theorem sameM_no {a b : List Meta} {k : Nat} (hk : k < a.length) (hl : a.length = b.length) (h : eqM (a.getD k Meta.zero) (b.getD k Meta.zero) = false) : sameM a b = false := by
  refine Bool.eq_false_iff.2 fun e0 => ?_
  have e := sameM_iff.1 e0
  have h1 := congrArg (fun l => l[k]?) e
  have hb : k < b.length := by omega
  simp only [List.getElem?_map, List.getElem?_eq_getElem hk, List.getElem?_eq_getElem hb, Option.map_some, Option.some.injEq] at h1
  have : eqM (a.getD k Meta.zero) (b.getD k Meta.zero) = true := eqM_iff.2 (by simpa [hk, hb] using h1)
  rw [h] at this; cases this
theorem sameM_yes {a b : List Meta} (hl : a.length = b.length) (h : ∀ j, j < a.length → eqM (a.getD j Meta.zero) (b.getD j Meta.zero) = true) : sameM a b = true := by
  refine sameM_iff.2 (List.ext_getElem (by simpa using hl) fun i h1 h2 => ?_)
  simp only [List.length_map] at h1 h2
  have := eqM_iff.1 (h i h1)
  simpa [h1, h2] using this
end Go.Tan

namespace Go.Tan
open Go.RowKit
structure RpR {β : Type} (f : ∀ α : Type, (β → List Y → Option α) → List Y → Option α) (N : Nat) (s0 s : Rd') (bad0 bad : Bool) (rt : List β) : Prop where
  len : rt.length ≤ N
  tk : ∀ (α : Type) (O : Option α) (K : List β → List Y → Option α), Tk O s0 bad0 (pRep (f α) N K) → Tk O s bad (pRep (f α) (N - rt.length) fun r => K (rt ++ r))
section
variable {β : Type} {f : ∀ α : Type, (β → List Y → Option α) → List Y → Option α} {N : Nat} {s0 s t : Rd'} {bad0 bad bad' : Bool} {rt : List β} {x : β}
theorem RpR.zero : RpR f N s0 s0 bad0 bad0 [] := ⟨by simp, fun _ _ _ h => h⟩
theorem RpR.step (h : RpR f N s0 s bad0 bad rt) (hl : rt.length < N) (hx : ∀ (α : Type) (O : Option α) (k : β → List Y → Option α), Tk O s bad (f α k) → Tk O t bad' (k x)) : RpR f N s0 t bad0 bad' (rt ++ [x]) := by
  refine ⟨by simp; omega, fun α O K hK => ?_⟩
  have h1 := h.tk α O K hK
  obtain ⟨m, hm⟩ : ∃ m, N - rt.length = m + 1 := ⟨N - 1 - rt.length, by omega⟩
  rw [hm, pRep] at h1
  have h2 := hx α O _ h1
  have hm2 : N - (rt ++ [x]).length = m := by simp; omega
  rw [hm2]
  have e : (fun r => K (rt ++ [x] ++ r)) = fun xs => K (rt ++ x :: xs) := by funext r; simp
  rw [e]; exact h2
theorem RpR.all (h : RpR f N s0 s bad0 bad rt) (hl : rt.length = N) {α : Type} {O : Option α} {K : List β → List Y → Option α} (hK : Tk O s0 bad0 (pRep (f α) N K)) : Tk O s bad (K rt) := by
  have h1 := h.tk α O K hK
  rw [hl, Nat.sub_self, pRep, List.append_nil] at h1
  exact h1
theorem RpR.stop (h : RpR f N s0 s bad0 bad rt) (hb : bad = true) {α : Type} {O : Option α} {K : List β → List Y → Option α} {k' : List Y → Option α} (hK : Tk O s0 bad0 (pRep (f α) N K)) : Tk O s bad k' :=
  (h.tk α O K hK).lost (.inl hb) (.inl hb)
end
/-! ### An edit's nine numbers -/
def nine (g : Nat → Int) : List Value := (List.range 9).map fun i => .int .u64 (g i)
theorem nine_len (g : Nat → Int) : (nine g).length = 9 := by simp [nine]
theorem nine_set {g : Nat → Int} {k : Nat} {x : Int} {v w : Value} (hk : k < 9) : (nine g ++ [v, w]).set k (.int .u64 x) = nine (upd g k x) ++ [v, w] := by
  rw [List.set_append_left _ _ (by rw [nine_len]; exact hk)]
  congr 1
  refine List.ext_getElem? fun i => ?_
  rw [List.getElem?_set, nine_len]
  unfold nine upd
  by_cases h : k = i
  · subst h; simp [hk]
  · rw [if_neg h, List.getElem?_map, List.getElem?_map]
    by_cases hi : i < 9
    · rw [List.getElem?_range hi]; simp [Ne.symm h]
    · rw [List.getElem?_eq_none (by simp; omega)]; rfl
/-- what follows the nine numbers -/
def decK (gs : List Nat) : List Y → Option Edit :=
  pUp 1024 fun na => pRep pMeta na fun add => pUp 1024 fun nd => pRep pGone nd fun drop =>
    pEnd ⟨(gs.getD 0 0 : Nat), (gs.getD 1 0 : Nat), (gs.getD 2 0 : Nat), (gs.getD 3 0 : Nat), fun i => ((gs.getD (i + 4) 0 : Nat) : Int), add, drop⟩
theorem decO9 : decO = pRep pNum 9 decK := rfl
end Go.Tan

namespace Go.Tan
open Go.RowKit
theorem nine_a {g : Nat → Int} {a b : Value} : (nine g ++ [a, b])[9]? = some a := rfl
theorem nine_d {g : Nat → Int} {a b : Value} : (nine g ++ [a, b])[10]? = some b := rfl
theorem nine_sa {g : Nat → Int} {a b v : Value} : (nine g ++ [a, b]).set 9 v = nine g ++ [v, b] := rfl
theorem nine_sd {g : Nat → Int} {a b v : Value} : (nine g ++ [a, b]).set 10 v = nine g ++ [a, v] := rfl
theorem nine2_len {g : Nat → Int} {a b : Value} : (nine g ++ [a, b]).length = 11 := by rw [List.length_append, nine_len]; rfl
theorem nine_one {g : Nat → Int} {a b : Value} (ha : a.oneCell' = true) (hb : b.oneCell' = true) : ∀ u ∈ nine g ++ [a, b], u.oneCell' = true := by
  intro u hu
  rcases List.mem_append.1 hu with hu | hu
  · unfold nine at hu
    obtain ⟨j, _, rfl⟩ := List.mem_map.1 hu
    rfl
  · simp only [List.mem_cons, List.not_mem_nil, or_false] at hu
    rcases hu with rfl | rfl <;> assumption
theorem nine_st {g : Nat → Int} {k m : Nat} {x : Int} {v w : Value} (hm : m = k) (hk : k < 9) : (nine g ++ [v, w]).set m (.int .u64 x) = nine (upd g k x) ++ [v, w] := by subst hm; exact nine_set hk
theorem four_at {b k : Nat} {j : Int} (hj : j = k) (hk : k < 4) : ([.pointer (some ⟨b, 0, none⟩), .pointer (some ⟨b, 1, none⟩), .pointer (some ⟨b, 2, none⟩), .pointer (some ⟨b, 3, none⟩)] : List Value)[0 + j.toNat * 1]? = some (.pointer (some ⟨b, k, none⟩)) := by
  subst hj
  rcases (show k = 0 ∨ k = 1 ∨ k = 2 ∨ k = 3 by omega) with rfl | rfl | rfl | rfl <;> rfl
theorem gs_step {rt : List Nat} {k : Nat} {g : Nat → Int} {y : Nat} (hr : rt.length = k) (ef : ∀ i, g i = ((rt.getD i 0 : Nat) : Int)) : ∀ i, upd g k (y : Int) i = (((rt ++ [y]).getD i 0 : Nat) : Int) := by
  intro i
  unfold upd
  by_cases h : i = k
  · rw [if_pos h, h, ← hr]; simp
  · rw [if_neg h, ef i]
    simp only [List.getD_eq_getElem?_getD]
    rcases Nat.lt_or_ge i rt.length with h1 | h1
    · rw [List.getElem?_append_left h1]
    · rw [List.getElem?_eq_none h1, List.getElem?_eq_none (by simp; omega)]
def edE (gs : List Nat) (add : List Meta) (drop : List Gone) : Edit := ⟨(gs.getD 0 0 : Nat), (gs.getD 1 0 : Nat), (gs.getD 2 0 : Nat), (gs.getD 3 0 : Nat), fun i => ((gs.getD (i + 4) 0 : Nat) : Int), add, drop⟩
def decK2 (gs : List Nat) (add : List Meta) : List Y → Option Edit := pUp 1024 fun nd => pRep pGone nd fun drop => pEnd (edE gs add drop)
theorem edE_cells {gs : List Nat} {add : List Meta} {drop : List Gone} {g : Nat → Int} {ha hd : Sh} (hg : ∀ i, g i = ((gs.getD i 0 : Nat) : Int)) : nine g ++ [ha.val add.length, hd.val drop.length] = (edE gs add drop).cells ha hd := by
  obtain rfl : g = fun i => ((gs.getD i 0 : Nat) : Int) := funext hg
  rfl
section
variable {O : Option Edit} {xs L : List Y} {gs : List Nat} {add : List Meta} {drop : List Gone} {e : Int} {s t : Rd'} {bad bad' : Bool} {n N : Nat}
theorem dec_a (h : RpR (fun α => @pNum α) 9 ⟨xs, 0⟩ t false false gs) (hl : gs.length = 9) : Tk (decO xs) t false (decK gs) := by
  refine h.all hl ?_
  rw [decO9]; exact Tk.start
theorem dec_b (h : Tk O s bad (decK gs)) (hN : rdNum s = (n, ⟨L, e⟩)) (hb : bad' = (bad || (decide (1024 < n) || !decide (e = 0)))) : Tk O ⟨L, e⟩ bad' (pRep pMeta n (decK2 gs)) :=
  Tk.upE (k := fun n => pRep pMeta n (decK2 gs)) h hN hb (fun _ => rfl)
theorem dec_c (h : Tk O s bad (pRep pMeta N (decK2 gs))) (hR : RpR (fun α => @pMeta α) N s t bad bad' add) (hn : n + add.length = N) (he : n = 0 ∨ bad' = true) : Tk O t bad' (decK2 gs add) := by
  rcases he with he | he
  · exact hR.all (by omega) h
  · exact hR.stop he h
theorem dec_d (h : Tk O s bad (decK2 gs add)) (hN : rdNum s = (n, ⟨L, e⟩)) (hb : bad' = (bad || (decide (1024 < n) || !decide (e = 0)))) : Tk O ⟨L, e⟩ bad' (pRep pGone n fun drop => pEnd (edE gs add drop)) :=
  Tk.upE (k := fun n => pRep pGone n fun drop => pEnd (edE gs add drop)) h hN hb (fun _ => rfl)
theorem dec_e (h : Tk O s bad (pRep pGone N fun drop => pEnd (edE gs add drop))) (hR : RpR (fun α => @pGone α) N s t bad bad' drop) (hn : n + drop.length = N) (he : n = 0 ∨ bad' = true) : Tk O t bad' (pEnd (edE gs add drop)) := by
  rcases he with he | he
  · exact hR.all (by omega) h
  · exact hR.stop he h
theorem dec_no (h : Tk O ⟨L, e⟩ bad (pEnd (edE gs add drop))) (hc : bad = true ∨ endI L e ≠ 0) : O = none := by
  rw [h.fin, if_neg]
  rintro ⟨h1, h2, h3⟩
  rcases hc with hc | hc
  · rw [h1] at hc; cases hc
  · refine hc ?_
    simp only at h2 h3
    subst h2; subst h3; rfl
theorem dec_yes (h : Tk O ⟨L, e⟩ bad (pEnd (edE gs add drop))) (hb : bad = false) (hc : endI L e = 0) : O = some (edE gs add drop) := by
  rw [h.fin, if_pos]
  unfold endI at hc
  split at hc
  · cases hc
  · rename_i hn
    refine ⟨hb, hc, ?_⟩
    cases L with
    | nil => rfl
    | cons y L => exact absurd ⟨hc, by simp⟩ hn
end
theorem up_le {bad bad' : Bool} {n most : Nat} {e : Int} (hb : bad' = (bad || (decide (most < n) || !decide (e = 0)))) (h : bad' = false) : n ≤ most := by
  rw [h] at hb
  simp at hb
  omega
/-- what is known of a taking of one that is gone -/
theorem goneT {s t : Rd'} {L : List Y} {e : Int} {b0 b1 : Bool} {n1 n2 : Nat} {lv : Int} (h1 : rdNum s = (n1, ⟨L, e⟩)) (q1 : b1 = (b0 || (decide (255 < n1) || !decide (e = 0)))) (w1 : n1 ≤ 255 → lv = n1) (h2 : rdNum ⟨L, e⟩ = (n2, t)) :
    ∀ (α : Type) (O : Option α) (k : Gone → List Y → Option α), Tk O s b0 (pGone k) → Tk O t b1 (k ⟨lv, n2⟩) := by
  intro α O k h
  unfold pGone at h
  have a1 := h.upE (K := pNum fun n => k ⟨lv, n⟩) h1 q1 (fun hn => by rw [w1 hn])
  exact a1.numE h2
theorem gones1 {g : Gone} : ∀ u ∈ g.cells, u.oneCell' = true := by
  intro u hu
  simp only [Gone.cells, List.mem_cons, List.not_mem_nil, or_false] at hu
  rcases hu with rfl | rfl <;> rfl
/-- what a decoding comes to -/
def DecR (xs : List Y) (e : Edit) (err : Int) : Prop := (decO xs = some e ∧ err = 0) ∨ (decO xs = none ∧ e = Edit.zero ∧ err = 180)
theorem Edit.zero_wf : Edit.zero.wf := ⟨⟨by decide, by decide⟩, ⟨by decide, by decide⟩, ⟨by decide, by decide⟩, ⟨by decide, by decide⟩, (fun _ _ => ⟨show (0 : Int) ≤ 0 by decide, show (0 : Int) < 18446744073709551616 by decide⟩), (fun _ h => by cases h), (fun _ h => by cases h)⟩
theorem EdR.zero {G : PM} : EdR G Edit.zero ⟨none, 0⟩ ⟨none, 0⟩ := ⟨SlR.nul, SlR.nul, Edit.zero_wf⟩
end Go.Tan

namespace Go.Tan
open Go.RowKit
section
variable {P : Program} {n : Nat} {l : List Oper} {K K' : Env → PM → Mem → Prop} {dr : Bool} {mc : Md}
theorem Wo.bind1 {i : Nat} {σ : List Nat} {ρ : Env} {G : PM} {μ : Mem} (hm : ∀ ρ G μ, K ρ G μ → Wo dr mc P n l K' σ ρ G μ) (H : Wo dr mc P n l K [i] ρ G μ) : Wo dr mc P n l K' (i :: σ) ρ G μ := by
  have h0 : ∀ {ρ G μ}, Wo dr mc P n l K [] ρ G μ → Wo dr mc P n l K' σ ρ G μ := fun h => by cases h with | nil h => exact hm _ _ _ h
  cases H with
  | pure ho hk hg hr h => exact .pure ho hk hg hr (h0 h)
  | read ho hk hg hr h => exact .read ho hk hg hr (h0 h)
  | make ho hk hg hr h => exact .make ho hk hg hr fun b => h0 (h b)
  | box ho hk hg hr h => exact .box ho hk hg hr fun b => h0 (h b)
  | callv ho hk hg hr hf h => exact .callv ho hk hg hr hf (h0 h)
  | call ho hk hg hr hf h => exact .call ho hk hg hr hf fun v G' μ' a b => h0 (h v G' μ' a b)
  | callg hd ho hg hr hf h => exact .callg hd ho hg hr hf fun v G' μ' a b => h0 (h v G' μ' a b)
  | fresh ho hk hg hp hr hw h => exact .fresh ho hk hg hp hr hw fun v G' μa μb a b => h0 (h v G' μa μb a b)
  | act ho hk hg hp hr h => exact .act ho hk hg hp hr fun v G' μ' a b => h0 (h v G' μ' a b)
theorem Wo.cut1 {j : Nat} {σ : List Nat} {ρ : Env} {G : PM} {μ : Mem} (H : Wo dr mc P n l K (j :: σ) ρ G μ) : Wo dr mc P n l (fun ρ G μ => Wo dr mc P n l K σ ρ G μ) [j] ρ G μ := by
  cases H with
  | pure ho hk hg hr h => exact .pure ho hk hg hr (.nil h)
  | read ho hk hg hr h => exact .read ho hk hg hr (.nil h)
  | make ho hk hg hr h => exact .make ho hk hg hr fun b => .nil (h b)
  | box ho hk hg hr h => exact .box ho hk hg hr fun b => .nil (h b)
  | callv ho hk hg hr hf h => exact .callv ho hk hg hr hf (.nil h)
  | call ho hk hg hr hf h => exact .call ho hk hg hr hf fun v G' μ' a b => .nil (h v G' μ' a b)
  | callg hd ho hg hr hf h => exact .callg hd ho hg hr hf fun v G' μ' a b => .nil (h v G' μ' a b)
  | fresh ho hk hg hp hr hw h => exact .fresh ho hk hg hp hr hw fun v G' μa μb a b => .nil (h v G' μa μb a b)
  | act ho hk hg hp hr h => exact .act ho hk hg hp hr fun v G' μ' a b => .nil (h v G' μ' a b)
/-- May it go ahead of all that is left, whatever is chosen? -/
def oneOk (mc : Md) (l : List Oper) (listed : Array Bool) (i : Nat) : Bool :=
  (rdy l listed).contains i && match nth l i with
  | some oi => (kindOf mc oi.op == .pure || kindOf mc oi.op == .read) && (List.range l.length).all fun j => listed.getD j true || j == i || match nth l j with
    | some oj => dep l l.length j i || (oi.apart l.toArray oj && (kindOf mc oi.op == .pure || kindOf mc oj.op != .act))
    | none => false
  | none => false
def Wt (mc : Md) (P : Program) (n : Nat) (l : List Oper) (K : Env → PM → Mem → Prop) : Nat → Array Bool → Env → PM → Mem → Prop
  | 0, listed, ρ, G, μ => rdy l listed = [] ∧ K ρ G μ
  | m + 1, listed, ρ, G, μ => (∃ i, oneOk mc l listed i = true ∧ Wo true mc P n l (fun ρ' G' μ' => Wt mc P n l K m (listed.setIfInBounds i true) ρ' G' μ') [i] ρ G μ) ∨
      (rdy l listed ≠ [] ∧ ∀ j ∈ rdy l listed, Wo true mc P n l (fun ρ' G' μ' => Wt mc P n l K m (listed.setIfInBounds j true) ρ' G' μ') [j] ρ G μ)
theorem Wt.kok (hK : KOk K) : ∀ (m : Nat) (listed : Array Bool), KOk (fun ρ G μ => Wt mc P n l K m listed ρ G μ)
  | 0, listed => ⟨fun ρ ρ' G μ e h => ⟨h.1, hK.1 _ _ _ _ e h.2⟩, fun ρ G μ μ' p h => ⟨h.1, hK.2 _ _ _ _ p h.2⟩⟩
  | m + 1, listed => by
    refine ⟨fun ρ ρ' G μ e h => ?_, fun ρ G μ μ' p h => ?_⟩
    · rcases h with ⟨i, h1, h2⟩ | ⟨h1, h2⟩
      · exact .inl ⟨i, h1, h2.congr (Wt.kok hK m _) e⟩
      · exact .inr ⟨h1, fun j hj => (h2 j hj).congr (Wt.kok hK m _) e⟩
    · rcases h with ⟨i, h1, h2⟩ | ⟨h1, h2⟩
      · exact .inl ⟨i, h1, h2.perm (Wt.kok hK m _) p⟩
      · exact .inr ⟨h1, fun j hj => (h2 j hj).perm (Wt.kok hK m _) p⟩
def unlN (listed : Array Bool) : Nat := listed.toList.count false
theorem unlN_set {listed : Array Bool} {i : Nat} (h : listed.getD i true = false) : unlN (listed.setIfInBounds i true) + 1 = unlN listed := by
  rcases Nat.lt_or_ge i listed.size with h' | h'
  · have h2 : listed.toList[i]'(by simpa using h') = false := by simpa [h'] using h
    unfold unlN
    rw [Array.toList_setIfInBounds, List.count_set (by simpa using h')]
    have hp : 0 < listed.toList.count false := List.count_pos_iff.2 (by rw [← h2]; exact List.getElem_mem _)
    rw [if_pos (by rw [h2]; rfl), if_neg (by decide)]
    omega
  · simp [h'] at h
theorem unlN_pos {listed : Array Bool} {i : Nat} (h : listed.getD i true = false) : 0 < unlN listed := by
  have := unlN_set h; omega
theorem oneOk_mono {listed : Array Bool} {i j : Nat} (hne : i ≠ j) (h : oneOk mc l listed i = true) : oneOk mc l (listed.setIfInBounds j true) i = true := by
  unfold oneOk at h ⊢
  simp only [Bool.and_eq_true] at h ⊢
  obtain ⟨h1, h2⟩ := h
  refine ⟨by simpa using rdy_mono (by simpa using h1) hne, ?_⟩
  cases hi : nth l i with
  | none => rw [hi] at h2; cases h2
  | some oi =>
    simp only [hi, Bool.and_eq_true] at h2 ⊢
    refine ⟨h2.1, List.all_eq_true.2 fun k hk => ?_⟩
    have h3 := List.all_eq_true.1 h2.2 k hk
    by_cases e : j = k
    · subst e
      have : (listed.setIfInBounds j true).getD j true = true := by
        rcases Nat.lt_or_ge j listed.size with h' | h' <;> simp [h']
      rw [this]; rfl
    · rw [getD_set_ne true e]; exact h3
theorem Wt.front (hK : KOk K) (hs : Region.noSelect l.toArray = true) (hmk : ∀ j oj, nth l j = some oj → kindOf mc oj.op = .make → Makes P oj) (hds : ∀ j oj, nth l j = some oj → dstOk n oj.dst) :
    ∀ (m : Nat) (listed : Array Bool) (j : Nat) (ρ : Env) (G : PM) (μ : Mem), unlN listed = m + 1 → Closed l listed → j ∈ rdy l listed → Wt mc P n l K (m + 1) listed ρ G μ → Wo true mc P n l (fun ρ' G' μ' => Wt mc P n l K m (listed.setIfInBounds j true) ρ' G' μ') [j] ρ G μ
  | m, listed, j, ρ, G, μ, hu, hcl, hj, H => by
    rcases H with ⟨i, h1, h2⟩ | ⟨_, h2⟩
    · by_cases e : j = i
      · subst e; exact h2
      · have hi : i ∈ rdy l listed := by unfold oneOk at h1; simp only [Bool.and_eq_true] at h1; simpa using h1.1
        have hj' := rdy_mono hj e
        have hiun := (rdy_iff.1 hi).1
        have hjun := (rdy_iff.1 hj).1
        have hu1 := unlN_set hiun
        have hjun' : (listed.setIfInBounds i true).getD j true = false := by rw [getD_set_ne true (Ne.symm e)]; exact hjun
        have hp := unlN_pos hjun'
        obtain ⟨m', rfl⟩ : ∃ m', m = m' + 1 := ⟨m - 1, by omega⟩
        obtain ⟨_, oi, hoi, _⟩ := rdy_iff.1 hi
        obtain ⟨_, oj, hoj, _⟩ := rdy_iff.1 hj
        have h3 : Wo true mc P n l (fun ρ' G' μ' => Wt mc P n l K m' ((listed.setIfInBounds i true).setIfInBounds j true) ρ' G' μ') (i :: [j]) ρ G μ :=
          h2.bind1 fun ρ' G' μ' h => Wt.front hK hs hmk hds m' (listed.setIfInBounds i true) j ρ' G' μ' (by omega) (hcl.set hi) hj' h
        have hnoe := not_dep hcl hiun hj l.length
        have hjl : j < l.length := by
          have := (nth_eq l j).trans hoj
          exact (by simpa using (Array.getElem?_eq_some_iff.1 this).1)
        have h1' := h1
        unfold oneOk at h1'
        simp only [Bool.and_eq_true, hoi] at h1'
        obtain ⟨_, hki, hall⟩ := h1'
        have h4 := List.all_eq_true.1 hall j (List.mem_range.2 hjl)
        simp only [hjun, hoj, hnoe, Bool.false_or, Bool.or_eq_true, beq_iff_eq, e, false_or, Bool.and_eq_true, bne_iff_ne] at h4
        simp only [Bool.or_eq_true, beq_iff_eq] at hki
        have hkk : kindOf mc oi.op = .pure ∨ (kindOf mc oi.op = .read ∧ kindOf mc oj.op ≠ .act) ∨ kindOf mc oj.op = .make := by
          rcases hki with h5 | h5
          · exact .inl h5
          · rcases h4.2 with h6 | h6
            · exact .inl h6
            · exact .inr (.inl ⟨h5, h6⟩)
        have h5 := Wo.swap (Wt.kok hK m' _) rfl hoi hoj (apart_of hs hoi hoj h4.1) hds (hmk j oj hoj) hkk h3
        refine h5.cut1.bind1 fun ρ' G' μ' h => .nil (.inl ⟨i, oneOk_mono (Ne.symm e) h1, ?_⟩)
        rw [Array.setIfInBounds_comm _ _ e]
        exact h
    · exact h2 j hj
theorem Wt.any {Q : Exit → Act → World → Prop} {G0 : PM} {K0 : List Nat} {w0 : World} (hK : KOk K) (hs : Region.noSelect l.toArray = true) (hmk : ∀ j oj, nth l j = some oj → kindOf mc oj.op = .make → Makes P oj) (hds : ∀ j oj, nth l j = some oj → dstOk n oj.dst)
    (hQ : ∀ ρ G μ, K ρ G μ → ∀ a w, Ag n ρ a → Tr G0 K0 w0 G μ w → Q .normal a w) :
    ∀ (m : Nat) (listed : Array Bool) (ρ : Env) (G : PM) (μ : Mem) (a : Act) (w : World), unlN listed = m → Closed l listed → Wt mc P n l K m listed ρ G μ → Ag n ρ a → Tr G0 K0 w0 G μ w → wpAny P .any l.toArray Q m listed a w
  | 0, listed, ρ, G, μ, a, w, _, _, H, ha, ht => ⟨H.1, hQ _ _ _ H.2 a w ha ht⟩
  | m + 1, listed, ρ, G, μ, a, w, hu, hcl, H, ha, ht => by
    refine ⟨fun h0 => ?_, fun j hj => ?_⟩
    · rcases H with ⟨i, h1, _⟩ | ⟨h1, _⟩
      · have hi : i ∈ rdy l listed := by unfold oneOk at h1; simp only [Bool.and_eq_true] at h1; simpa using h1.1
        unfold rdy at hi
        rw [h0] at hi; cases hi
      · exact absurd h0 h1
    · have hj' : j ∈ rdy l listed := hj
      have hu1 := unlN_set (rdy_iff.1 hj').1
      obtain ⟨o, ho, h⟩ := (Wt.front hK hs hmk hds m listed j ρ G μ hu hcl hj' H).head ha ht (next := wpAny P .any l.toArray Q m (listed.setIfInBounds j true)) (Q := Q) hds
        (fun ρ' G' μ' a' w' H' ha' ht' => by cases H' with | nil h => exact Wt.any hK hs hmk hds hQ m _ ρ' G' μ' a' w' (by omega) (hcl.set hj') h ha' ht')
      simp only [wpOp, nth_eq, ho]
      split
      · rename_i hw; rw [if_pos hw] at h; exact .inl h
      · rename_i hw; rw [if_neg hw] at h; exact h
def mixOk (P : Program) (n : Nat) (l : List Oper) : Bool := Region.noSelect l.toArray && (l.all fun o => match o.dst with | some d => decide (d < n) | none => true) && allocOk P l
theorem Wk.mix {X : Cx} {k : List KI} {id : Nat} {ρ : Env} {G : PM} {μ : Mem} (mc : Md) (hm : X.P.follows .mixedOrders = true) (hok : mixOk X.P X.n l = true)
    (h : Wt mc X.P X.n l (fun ρ G μ => We X .normal k ρ G μ) l.length (Array.replicate l.length false) ρ G μ) : Wk X (.region id l.toArray true) k ρ G μ := by
  simp only [mixOk, Bool.and_eq_true] at hok
  obtain ⟨⟨h1, h2⟩, h3⟩ := hok
  refine ⟨fun a w ha ht => wp_region_any hm ?_⟩
  have hu : unlN (Array.replicate l.length false) = l.length := by simp [unlN]
  have := Wt.any (Q := Qof X k) (We.kok .normal) h1 (fun j oj hj hk => makes_of hk (List.all_eq_true.1 h3 oj (mem_of_nth hj)))
    (fun j oj hj => by
      have := List.all_eq_true.1 h2 oj (mem_of_nth hj)
      cases hd : oj.dst with
      | none => trivial
      | some d => rw [hd] at this; show d < X.n; exact of_decide_eq_true this) (fun _ _ _ h a w ha ht => h.out a w ha ht) l.length _ ρ G μ a _ hu (Closed.none l.length) h ha ht.drew
  simpa using this
variable {ρ : Env} {G : PM} {μ : Mem} {m : Nat} {listed : Array Bool}
theorem Wt.last (hr : rdy l listed = []) (h : K ρ G μ) : Wt mc P n l K 0 listed ρ G μ := ⟨hr, h⟩
theorem Wt.one (i : Nat) (hc : oneOk mc l listed i = true) (h : Wo true mc P n l (fun ρ' G' μ' => Wt mc P n l K m (listed.setIfInBounds i true) ρ' G' μ') [i] ρ G μ) : Wt mc P n l K (m + 1) listed ρ G μ := .inl ⟨i, hc, h⟩
theorem Wt.b1 (j : Nat) (hr : rdy l listed = [j]) (h : Wo true mc P n l (fun ρ' G' μ' => Wt mc P n l K m (listed.setIfInBounds j true) ρ' G' μ') [j] ρ G μ) : Wt mc P n l K (m + 1) listed ρ G μ :=
  .inr ⟨by rw [hr]; simp, fun j' hj' => by rw [hr] at hj'; obtain rfl := List.mem_singleton.1 hj'; exact h⟩
theorem Wt.b2 (j j2 : Nat) (hr : rdy l listed = [j, j2]) (h : Wo true mc P n l (fun ρ' G' μ' => Wt mc P n l K m (listed.setIfInBounds j true) ρ' G' μ') [j] ρ G μ)
    (h2 : Wo true mc P n l (fun ρ' G' μ' => Wt mc P n l K m (listed.setIfInBounds j2 true) ρ' G' μ') [j2] ρ G μ) : Wt mc P n l K (m + 1) listed ρ G μ :=
  .inr ⟨by rw [hr]; simp, fun j' hj' => by
    rw [hr] at hj'
    rcases List.mem_cons.1 hj' with rfl | hj'
    · exact h
    · obtain rfl := List.mem_singleton.1 hj'; exact h2⟩
theorem Wt.b3 (j j2 j3 : Nat) (hr : rdy l listed = [j, j2, j3]) (h : Wo true mc P n l (fun ρ' G' μ' => Wt mc P n l K m (listed.setIfInBounds j true) ρ' G' μ') [j] ρ G μ)
    (h2 : Wo true mc P n l (fun ρ' G' μ' => Wt mc P n l K m (listed.setIfInBounds j2 true) ρ' G' μ') [j2] ρ G μ) (h3 : Wo true mc P n l (fun ρ' G' μ' => Wt mc P n l K m (listed.setIfInBounds j3 true) ρ' G' μ') [j3] ρ G μ) : Wt mc P n l K (m + 1) listed ρ G μ :=
  .inr ⟨by rw [hr]; simp, fun j' hj' => by
    rw [hr] at hj'
    rcases List.mem_cons.1 hj' with rfl | hj'
    · exact h
    · rcases List.mem_cons.1 hj' with rfl | hj'
      · exact h2
      · obtain rfl := List.mem_singleton.1 hj'; exact h3⟩
end
end Go.Tan

namespace Go.Tan
open Go.RowKit
section
variable {dr : Bool} {mc : Md} {P : Program} {n : Nat} {l : List Oper} {K : Env → PM → Mem → Prop} {i : Nat} {σ : List Nat} {ρ : Env} {G : PM} {μ : Mem}
variable {d t : Nat} {p : String} {af : Array Edge} {g : Option (Nat × Bool)} {c : Bool}
/-- '[]T{..}' that nobody writes: it stays -/
theorem bSf {T E sz by' len : Nat} {ps : List (Nat × Operand)} {vs : List (Nat × Value)} {cs : List Value} (ho : nth l i = some ⟨some d, .buildSlice T len ps.toArray, t, p, af, none⟩) (hT : slE P T = some (E, sz, by')) (hv : ∀ a, Ag n ρ a → true = true → ps.map (fun q => (q.1, a.eval q.2)) = vs) (hb : builtSl P T len vs = some cs)
    (h : ∀ b G', PM.le G G' → PB G' b (cl cs E) → Wo dr mc P n l K σ ((d, true, .slice (some ⟨b, 0, none⟩) len len) :: ρ) G' μ) : Wo dr mc P n l K (i :: σ) ρ G μ := by
  refine .fresh (μ₁ := []) (μ₂ := μ) (post := fun G' μa μb v => μa = [] ∧ μb = [] ∧ ∃ b, v = .slice (some ⟨b, 0, none⟩) len len ∧ PB G' b (cl cs E)) ho (.inl rfl) rfl (List.Perm.refl _) (fun a w ha hs => ?_) ?_ ?_
  · have hrun : (execOp a.eval ⟨some d, .buildSlice T len ps.toArray, t, p, af, none⟩).run P w = .ok (.value (.slice (some ⟨w.heap.size, 0, none⟩) len len)) (w.alloc (cl cs E)) := by
      obtain ⟨hu, inf, hi, hs1, _⟩ := slE_some hT
      have h1 := hv a ha rfl
      simp only [builtSl, hu, hi] at hb
      cases hz : inf.zero with
      | none => rw [hz] at hb; cases hb
      | some z =>
        rw [hz] at hb
        simp only at hb
        split at hb
        · cases hb
        · rename_i hle
          simp only [not_or] at hle
          obtain ⟨hle, h0⟩ := hle
          cases hf : Instr.fill (fun j => some (j * inf.size, inf.size)) ((Array.range (len * inf.size)).map (z.cells[· % z.cells.size]!)) vs with
          | none => rw [hf] at hb; cases hb
          | some r =>
            rw [hf] at hb
            simp only [Option.map_some, Option.some.injEq] at hb
            subst hb
            simp [execOp, Instr.buildSlice, run_underlying hu, sizeOf, typeInfo, hi, h0, hle, zeroValue, hz, hf, h1, newRow, cl]
    have hs0 : Sat G [] w := ⟨hs.sub, by simp, by simp [keys], by simp [keys]⟩
    have ht := ((Tr.begin hs0).alloc (cl cs E)).freeze (by simp [keys])
    exact ⟨_, _, _, [], [], hrun, ht, rfl, rfl, _, rfl, ⟨PM.add_same _ _ _⟩⟩
  · rintro v G' μa μb ⟨rfl, rfl, _⟩
    exact ⟨(fun w _ r hr => by cases hr), (fun b hb => by cases hb), by simp [keys]⟩
  · rintro v G' μa μb hle ⟨rfl, rfl, b, rfl, hb⟩
    have := h b G' hle hb
    simp only [List.nil_append, List.append_nil]
    exact this
theorem PB.slq {b cap : Nat} {ns : List Int} {T : TypeId} (h : PB G b (cl (ns.map (Value.int .u64)) T)) (hc : ns.length ≤ cap) : SlR G 1 encQ ⟨some ⟨b, 0, none⟩, cap⟩ ns := by
  refine ⟨fun _ => rfl, hc, fun i x hx j v hj => ?_⟩
  have h0 : j = 0 ∧ v = .int .u64 x := by
    cases j with
    | zero => simp [encQ] at hj; exact ⟨rfl, hj.symm⟩
    | succ j => simp [encQ] at hj
  obtain ⟨rfl, rfl⟩ := h0
  have := h.rd (o := i) (v := .int .u64 x) (by rw [List.getElem?_map, hx]; rfl)
  simpa [Sh.b, Sh.o] using this
/-- '[]uint64{..}' -/
theorem bQ {T E by' len : Nat} {ps : List (Nat × Operand)} {us : List Value} {z : Value} (ns : List Int) (ho : nth l i = some ⟨some d, .buildSlice T len ps.toArray, t, p, af, none⟩) (hT : slE P T = some (E, 1, by')) (hz : (P.info? E).bind (·.zero) = some z) (hv : ∀ a, Ag n ρ a → true = true → ps.map (fun q => (q.1, a.eval q.2)) = parts 0 us) (hus : us = ns.map (Value.int .u64)) (hl : ns.length = len) (h0 : 0 < len ∧ len ≤ 16777216)
    (h : ∀ G' s, PM.le G G' → SlR G' 1 encQ s ns → Wo dr mc P n l K σ ((d, true, s.val ns.length) :: ρ) G' μ) : Wo dr mc P n l K (i :: σ) ρ G μ := by
  subst hus
  refine bSf (vs := parts 0 (ns.map (Value.int .u64))) (cs := ns.map (Value.int .u64)) ho hT hv ?_ (fun b G' hle hb => ?_)
  · obtain ⟨hu, inf, hi, hs1, _⟩ := slE_some hT
    rw [hi] at hz
    simp only [Option.bind_some] at hz
    simp only [builtSl, hu, hi, hz, hs1]
    rw [if_neg (by omega)]
    generalize ha : (Array.range (len * 1)).map (z.cells[· % z.cells.size]!) = arr
    have hs : arr.toList.length = len := by rw [← ha]; simp
    have h2 := fill_parts (ns.map (Value.int .u64)) 0 arr.toList (fun u hu => by obtain ⟨x, _, rfl⟩ := List.mem_map.1 hu; rfl) (by rw [List.length_map]; omega)
    simp only [Array.toArray_toList] at h2
    rw [h2]
    have h3 : arr.toList.drop (0 + (ns.map (Value.int .u64)).length) = [] := List.drop_of_length_le (by rw [List.length_map]; omega)
    rw [h3]
    simp
  · have := h G' ⟨some ⟨b, 0, none⟩, len⟩ hle (hb.slq (by omega))
    rw [Sh.val, hl] at this
    exact this
end
theorem q1 {a : Int} (h : u64 a) : ∀ x ∈ [a], u64 x := by intro x hx; rw [List.mem_singleton.1 hx]; exact h
theorem q2 {a b : Int} (h : u64 a) (h2 : u64 b) : ∀ x ∈ [a, b], u64 x := by
  intro x hx; simp only [List.mem_cons, List.not_mem_nil, or_false] at hx; rcases hx with rfl | rfl <;> assumption
theorem q4 {a b c d : Int} (h : u64 a) (h2 : u64 b) (h3 : u64 c) (h4 : u64 d) : ∀ x ∈ [a, b, c, d], u64 x := by
  intro x hx; simp only [List.mem_cons, List.not_mem_nil, or_false] at hx; rcases hx with rfl | rfl | rfl | rfl <;> assumption
theorem q6 {a b c d e f : Int} (h : u64 a) (h2 : u64 b) (h3 : u64 c) (h4 : u64 d) (h5 : u64 e) (h6 : u64 f) : ∀ x ∈ [a, b, c, d, e, f], u64 x := by
  intro x hx; simp only [List.mem_cons, List.not_mem_nil, or_false] at hx; rcases hx with rfl | rfl | rfl | rfl | rfl | rfl <;> assumption
theorem u64_len {n : Nat} (h : n < 18446744073709551616) : u64 (n : Int) := ⟨by omega, by omega⟩
theorem wrap_q (x : Int) : (IntKind.u64.wrap x).toNat = u64N x := by
  unfold u64N IntKind.wrap
  simp [IntKind.signed, IntKind.bits]
theorem u64_wrap (x : Int) : u64 (IntKind.u64.wrap x) := by
  unfold u64 IntKind.wrap
  simp [IntKind.signed, IntKind.bits]; omega
theorem u64_6 {m : Meta} (h : m.wf) : ∀ x ∈ [m.level, m.gen, m.epoch, m.number, IntKind.u64.wrap m.size, IntKind.u64.wrap m.count], u64 x := by
  have l1 := h.level; have l2 := h.gen; have l3 := h.epoch; have l4 := h.number
  exact q6 ⟨by omega, by omega⟩ ⟨by omega, by omega⟩ ⟨by omega, by omega⟩ ⟨by omega, by omega⟩ (u64_wrap _) (u64_wrap _)
def gensL (e : Edit) : List Int := (List.range 5).map e.gens
theorem gens_u {e : Edit} (h : e.wf) : ∀ x ∈ gensL e, u64 x := by
  intro x hx
  obtain ⟨i, hi, rfl⟩ := List.mem_map.1 hx
  exact h.gens i (List.mem_range.1 hi)
theorem gens_sl {G : PM} {e : Edit} {ha hd : Sh} {b : Nat} {T : TypeId} (h : PB G b (cl (e.cells ha hd) T)) : SlR G 1 encQ ⟨some ⟨b, 4, none⟩, 5⟩ (gensL e) := by
  refine SlR.part (cs := e.cells ha hd) (fun j v hj => ?_) rfl (Nat.le_refl 5)
  have := h.rd hj
  simpa using this
theorem meta_ba {m : Meta} (h : m.wf) : (m.cells.drop 8).take 32 = ba 32 (fun i => BitVec.ofInt 8 (m.root i)) := by
  have e : m.cells.drop 8 = (List.range 32).map fun i => .int .u8 (m.root i) := rfl
  rw [e, List.take_of_length_le (by simp)]
  unfold ba
  refine List.map_congr_left fun i hi => ?_
  have hr := h.root i (List.mem_range.1 hi)
  show Value.int .u8 (m.root i) = V (BitVec.ofInt 8 (m.root i))
  have e2 : (((BitVec.ofInt 8 (m.root i)).toNat : Nat) : Int) = m.root i := by rw [BitVec.toNat_ofInt]; omega
  show Value.int .u8 (m.root i) = Value.int .u8 (((BitVec.ofInt 8 (m.root i)).toNat : Nat) : Int)
  rw [e2]
theorem numsL_nil : numsL [] = [] := rfl
theorem numsL_cons (x : Int) (ns : List Int) : numsL (x :: ns) = numN x.toNat ++ numsL ns := by simp [numsL]
theorem encM_eq (m : Meta) (A : List Y) : A ++ numsL [m.level, m.gen, m.epoch, m.number, IntKind.u64.wrap m.size, IntKind.u64.wrap m.count] ++ strL (yb m.min) ++ strL (yb m.max) ++ yl 32 (fun i => BitVec.ofInt 8 (m.root i)) = A ++ encM m := by
  unfold encM
  simp only [numsL_cons, numsL_nil, wrap_q, List.append_assoc, List.append_nil]
  rfl
theorem encG_eq (g : Gone) (A : List Y) : A ++ numsL [g.level, g.number] = A ++ encG g := by
  unfold encG
  simp only [numsL_cons, numsL_nil, List.append_nil]
theorem encE_eq (e : Edit) : numsL [e.log, e.next, e.seq, e.least] ++ numsL (gensL e) ++ numsL [(e.add.length : Int)] ++ e.add.flatMap encM ++ numsL [(e.drop.length : Int)] ++ e.drop.flatMap encG = encE e := by
  have h : numsL (gensL e) = (List.range 5).flatMap fun i => numN (e.gens i).toNat := by unfold numsL gensL; rw [List.flatMap_map]
  unfold encE
  rw [h]
  simp only [numsL_cons, numsL_nil, List.append_assoc, List.append_nil, Int.toNat_natCast]
theorem flat_snoc {α β : Type} {f : α → List β} {xs : List α} {k : Nat} {x : α} (h : xs[k]? = some x) : (xs.take (k + 1)).flatMap f = (xs.take k).flatMap f ++ f x := by
  rw [List.take_add_one, h]; simp
theorem flat_take {α β : Type} {f : α → List β} {xs : List α} {k : Nat} {x : α} (h : xs[k]? = some x) : ((xs.take k).flatMap f).length + (f x).length ≤ (xs.flatMap f).length := by
  have h1 : xs.flatMap f = (xs.take (k + 1)).flatMap f ++ (xs.drop (k + 1)).flatMap f := by rw [← List.flatMap_append, List.take_append_drop]
  rw [h1, flat_snoc h]; simp only [List.length_append]; omega
theorem flat_take_le {α β : Type} {f : α → List β} {xs : List α} (k : Nat) : ((xs.take k).flatMap f).length ≤ (xs.flatMap f).length := by
  have h1 : xs.flatMap f = (xs.take k).flatMap f ++ (xs.drop k).flatMap f := by rw [← List.flatMap_append, List.take_append_drop]
  rw [h1]; simp only [List.length_append]; omega
theorem strL_len {xs : List Y} (h : xs.length < 18446744073709551616) : (strL xs).length ≤ xs.length + 10 := by
  have := num_len10 h
  unfold strL; rw [List.length_append]; omega
theorem strL_ge (xs : List Y) : xs.length ≤ (strL xs).length := by unfold strL; rw [List.length_append]; omega
theorem encM_ge (m : Meta) : m.min.size + m.max.size ≤ (encM m).length := by
  have h1 := strL_ge (yb m.min); have h2 := strL_ge (yb m.max)
  rw [yb_len] at h1 h2
  unfold encM
  simp only [List.length_append]; omega
theorem encG_len {g : Gone} (h : g.wf) : (encG g).length ≤ 20 := by
  have h1 := h.level; have h2 := h.number
  have n1 := num_len10 (n := g.level.toNat) (by omega); have n2 := num_len10 (n := g.number.toNat) (by omega)
  unfold encG; rw [List.length_append]; omega
theorem gonesL {gs : List Gone} (h : ∀ g ∈ gs, g.wf) : (gs.flatMap encG).length ≤ 20 * gs.length := by
  induction gs with
  | nil => simp
  | cons g gs ih =>
    have h1 := encG_len (h g (List.mem_cons_self ..))
    have h2 := ih fun x hx => h x (List.mem_cons_of_mem _ hx)
    rw [List.flatMap_cons, List.length_append, List.length_cons]; omega
/-- a cell of an element -/
theorem SlR.fat {α : Type} {G : PM} {sz : Nat} {enc : α → List Value} {h : Sh} {xs : List α} (s : SlR G sz enc h xs) {j : Int} {k : Nat} {x : α} (hj : j.toNat = k) (hx : xs[k]? = some x) (q : Nat) {v : Value} (hv : (enc x)[q]? = some v) : RdP G ⟨h.b, h.o + j.toNat * sz + q, none⟩ v := s.at hj hx q v hv
end Go.Tan

namespace Go.Tan
open Go.RowKit
section
variable {α : Type} {O : Option α} {s t : Rd'} {bad : Bool}
theorem Tk.seen {k : List Y → Option α} (h : Tk O s bad k) : Tk O s (bad || !decide (s.bad = 0)) k :=
  h.bad_of (fun h0 _ hc => by rw [h0] at hc; simp at hc)
end
end Go.Tan

namespace Go.Tan
open Go.RowKit
section
variable {dr : Bool} {mc : Md} {P : Program} {n : Nat} {l : List Oper} {K : Env → PM → Mem → Prop} {i : Nat} {σ : List Nat} {ρ : Env} {G : PM} {μ : Mem}
variable {d t : Nat} {p : String} {af : Array Edge} {g : Option (Nat × Bool)} {c : Bool}
/-- 'make([]byte, n)' that nobody writes: it stays -/
theorem mkYf {T E : Nat} {x y : Operand} {a b : Int} {k k' : IntKind} (lo cap : Nat) (ho : nth l i = some ⟨some d, .makeSlice T x y, t, p, af, g⟩) (hg : Gd l ρ g true) (hT : slE P T = some (E, 1, 1)) (hz : (P.info? E).bind (·.zero) = some (.int .u8 0)) (hx : Ev ρ true x (.int k a)) (hy : Ev ρ true y (.int k' b)) (ha : a = lo) (hb : b = cap) (h1 : lo ≤ cap) (h2 : cap ≤ 140737488355328)
    (h : ∀ (G' : PM) (s : Sh) (L : List Y), L = List.replicate lo 0#8 → L.length = lo → PM.le G G' → SlR G' 1 encY s L → Wo dr mc P n l K σ ((d, true, s.val L.length) :: ρ) G' μ) : Wo dr mc P n l K (i :: σ) ρ G μ := by
  subst ha; subst hb
  refine .act (μ₁ := []) (μ₂ := μ) (post := fun G' μ' v => ∃ s : Sh, v = s.val (List.replicate lo (0#8 : Y)).length ∧ SlR G' 1 encY s (List.replicate lo 0#8) ∧ μ' = []) ho (.inl rfl) hg (.refl _) (fun q w hq hs => .inl ?_) ?_
  · obtain ⟨hu, inf, hi, hs1, hb1⟩ := slE_some hT
    rw [hi] at hz
    simp only [Option.bind_some] at hz
    have hrun := run_make (P := P) w T E inf _ hu hi hz k k' lo cap (by omega) (by omega) (by rw [hb1]; omega) (by omega)
    simp only [Int.toNat_natCast, hs1, Nat.mul_one] at hrun
    have h0 : Tr G (keys []) w G [.blk w.heap.size (.cells (madeCells (Value.int .u8 0).cells cap) E (0, 0))] _ := (Tr.begin (Sat.left (μ := []) hs)).alloc _
    have h3 := h0.asRow (m := lo) (cap := cap) (sz := 1) (xs := (List.replicate lo 0#8).map V) (by simp) h1 (by unfold maxLen; omega) (by rw [size_madeCells]; omega) (by rw [made_u8, ← List.map_take]; simp [Nat.min_eq_left h1])
    have h4 : Tr G (keys []) w G [rB (.slice (some ⟨w.heap.size, 0, none⟩) lo cap) E (List.replicate lo 0#8)] (w.alloc (.cells (madeCells (Value.int .u8 0).cells cap) E (0, 0))) := by simpa [rB] using h3
    obtain ⟨G', s, _, hv, hsl, ht⟩ := h4.frzB (by simp [keys])
    refine ⟨s.val (List.replicate lo (0#8 : Y)).length, _, G', [], .inl ?_, ht, s, rfl, hsl, rfl⟩
    rw [← hv]
    simp [execOp, hx.eval hq rfl, hy.eval hq rfl, hrun]
  · rintro v G' μ'' hle ⟨s, rfl, hsl, rfl⟩
    exact h G' s _ rfl (by simp) hle hsl
/-- '[]T{x}' that nobody writes: it stays -/
theorem b1f {T E sz by' : Nat} {x : Operand} {v z : Value} {cs : List Value} (ho : nth l i = some ⟨some d, .buildSlice T 1 #[(0, x)], t, p, af, none⟩) (hT : slE P T = some (E, sz, by')) (hz : (P.info? E).bind (·.zero) = some z) (hx : Ev ρ true x v) (hv : v.cells = cs.toArray) (hl : cs.length = sz) (h0 : 0 < sz ∧ sz ≤ 16777216)
    (h : ∀ b G', PM.le G G' → PB G' b (cl cs E) → Wo dr mc P n l K σ ((d, true, .slice (some ⟨b, 0, none⟩) 1 1) :: ρ) G' μ) : Wo dr mc P n l K (i :: σ) ρ G μ := by
  refine bSf (vs := [(0, v)]) (cs := cs) ho hT (fun a ha hc => by simp [hx.eval ha hc]) ?_ h
  obtain ⟨hu, inf, hi, rfl, _⟩ := slE_some hT
  rw [hi] at hz
  simp only [Option.bind_some] at hz
  simp only [builtSl, hu, hi, hz]
  rw [if_neg (by omega)]
  generalize ha : (Array.range (1 * inf.size)).map (z.cells[· % z.cells.size]!) = arr
  have hs : arr.toList.length = inf.size := by rw [← ha]; simp
  have h2 := fill_step (place := fun j => some (j * inf.size, inf.size)) (cs := arr.toList) (j := 0) (off := 0) (size := inf.size) (rest := []) (by simp) hv hl (by omega)
  simp only [Array.toArray_toList] at h2
  rw [h2]
  have h3 : arr.toList.drop (0 + cs.length) = [] := List.drop_of_length_le (by omega)
  rw [h3]
  simp [Instr.fill]
theorem PB.sl1 {α : Type} {enc : α → List Value} {b sz cap : Nat} {x : α} {T : TypeId} (h : PB G b (cl (enc x) T)) (hc : 1 ≤ cap) : SlR G sz enc ⟨some ⟨b, 0, none⟩, cap⟩ [x] := by
  refine ⟨fun _ => rfl, hc, fun i y hy j v hj => ?_⟩
  obtain ⟨rfl, rfl⟩ : i = 0 ∧ y = x := by
    cases i with
    | zero => simp at hy; exact ⟨rfl, hy.symm⟩
    | succ i => simp at hy
  have := h.rd hj
  simpa [Sh.b, Sh.o] using this
end
/-! ### What the law shows -/
theorem enc_zero : encE Edit.zero = List.replicate 11 0#8 := by
  unfold encE Edit.zero
  simp only [Int.toNat_zero, List.length_nil, num_small (show 0 < 128 by decide)]
  rfl
theorem dec_ten : decO (List.replicate 10 0#8) = none := rfl
theorem decR_ten {e : Edit} {err : Int} (h : DecR (List.replicate 10 0#8) e err) : err = 180 := by
  rcases h with ⟨h, _⟩ | ⟨_, _, h⟩
  · rw [dec_ten] at h; cases h
  · exact h
def beforeB (s : State) (e : Edit) : Bool := ((List.range 5).any fun i => decide (e.gens i < s.gens i)) || (((decide (e.log < s.log) || decide (e.next < s.next)) || decide (e.seq < s.seq)) || decide (e.least < s.least))
theorem bef_yes {s : State} {e : Edit} {i : Nat} (hi : i < 5) (h : e.gens i < s.gens i) : beforeB s e = true := by
  unfold beforeB
  rw [List.any_eq_true.2 ⟨i, List.mem_range.2 hi, by simpa using h⟩]; rfl
theorem bef_no {s : State} {e : Edit} (h : ∀ i, i < 5 → ¬ e.gens i < s.gens i) : beforeB s e = (((decide (e.log < s.log) || decide (e.next < s.next)) || decide (e.seq < s.seq)) || decide (e.least < s.least)) := by
  unfold beforeB
  rw [show ((List.range 5).any fun i => decide (e.gens i < s.gens i)) = false from List.any_eq_false.2 (fun i hi => by simpa using h i (List.mem_range.1 hi)), Bool.false_or]
theorem zero_set {k : Nat} (h : k < 5) : (State.zero.cells hd0).set (0 + k * 1) (.slice none 0 0) = State.zero.cells hd0 := by
  match k, h with
  | 0, _ => rfl | 1, _ => rfl | 2, _ => rfl | 3, _ => rfl | 4, _ => rfl
theorem zero_at {k : Nat} (h : k < 5) : (State.zero.cells hd0)[0 + k * 1]? = some (.slice none 0 0) := by
  match k, h with
  | 0, _ => rfl | 1, _ => rfl | 2, _ => rfl | 3, _ => rfl | 4, _ => rfl
theorem State.len {s : State} {hd : Nat → Sh} : (s.cells hd).length = 14 := by simp [State.cells]
theorem State.one' {s : State} {hd : Nat → Sh} : ∀ u ∈ s.cells hd, u.oneCell' = true := by
  intro u hu
  simp only [State.cells, List.mem_append, List.mem_map, List.mem_cons, List.not_mem_nil, or_false] at hu
  rcases hu with (⟨i, _, rfl⟩ | (rfl | rfl | rfl | rfl)) | ⟨i, _, rfl⟩ <;> rfl
theorem Edit.len {e : Edit} {ha hd : Sh} : (e.cells ha hd).length = 11 := by simp [Edit.cells]
theorem Edit.one' {e : Edit} {ha hd : Sh} : ∀ u ∈ e.cells ha hd, u.oneCell' = true := by
  intro u hu
  simp only [Edit.cells, List.mem_append, List.mem_map, List.mem_cons, List.not_mem_nil, or_false] at hu
  rcases hu with ((rfl | rfl | rfl | rfl) | ⟨i, _, rfl⟩) | (rfl | rfl) <;> rfl
theorem gens_at {e : Edit} {j : Int} {k : Nat} (hj : j.toNat = k) (h : k < 5) : ((List.range 5).map (fun i => Value.int .u64 (e.gens i)))[j.toNat]? = some (.int .u64 (e.gens k)) := by
  subst hj
  simp [h]
def edit1 : Edit := ⟨0, 0, 0, 0, fun _ => 0, [], [Gone.zero]⟩
end Go.Tan

namespace Go.Tan
open Go.RowKit
/-! ### Texts in order -/
theorem u8_lt {a b : UInt8} : (a < b) ↔ a.toNat < b.toNat := UInt8.lt_iff_toNat_lt
theorem bl_irr : ∀ (x : List UInt8), Op.bytesLess x x = false
  | [] => rfl
  | a :: x => by
    have h : ¬ a < a := by rw [u8_lt]; omega
    simp [Op.bytesLess, h, bl_irr x]
theorem bl_trans : ∀ {x y z : List UInt8}, Op.bytesLess x y = true → Op.bytesLess y z = true → Op.bytesLess x z = true
  | [], [], _, h, _ => by simp [Op.bytesLess] at h
  | [], _ :: _, [], _, h => by simp [Op.bytesLess] at h
  | [], _ :: _, _ :: _, _, _ => by simp [Op.bytesLess]
  | _ :: _, [], _, h, _ => by simp [Op.bytesLess] at h
  | _ :: _, _ :: _, [], _, h => by simp [Op.bytesLess] at h
  | a :: x, b :: y, c :: z, h, h' => by
    simp only [Op.bytesLess, Bool.or_eq_true, Bool.and_eq_true, decide_eq_true_eq, beq_iff_eq] at h h' ⊢
    rcases h with h | ⟨rfl, h⟩
    · rcases h' with h' | ⟨rfl, _⟩
      · left; rw [u8_lt] at *; omega
      · exact .inl h
    · rcases h' with h' | ⟨rfl, h'⟩
      · exact .inl h'
      · exact .inr ⟨rfl, bl_trans h h'⟩
theorem bl_tri : ∀ (x y : List UInt8), Op.bytesLess x y = true ∨ x = y ∨ Op.bytesLess y x = true
  | [], [] => .inr (.inl rfl)
  | [], _ :: _ => .inl (by simp [Op.bytesLess])
  | _ :: _, [] => .inr (.inr (by simp [Op.bytesLess]))
  | a :: x, b :: y => by
    simp only [Op.bytesLess, Bool.or_eq_true, Bool.and_eq_true, decide_eq_true_eq, beq_iff_eq, List.cons.injEq]
    have hab : a.toNat < b.toNat ∨ a = b ∨ b.toNat < a.toNat := by
      rcases Nat.lt_trichotomy a.toNat b.toNat with h | h | h
      · exact .inl h
      · exact .inr (.inl (UInt8.toNat_inj.1 h))
      · exact .inr (.inr h)
    rcases hab with h | rfl | h
    · exact .inl (.inl (u8_lt.2 h))
    · rcases bl_tri x y with h | rfl | h
      · exact .inl (.inr ⟨rfl, h⟩)
      · exact .inr (.inl ⟨rfl, rfl⟩)
      · exact .inr (.inr (.inr ⟨rfl, h⟩))
    · exact .inr (.inr (.inl (u8_lt.2 h)))
theorem bytes_inj {a b : ByteArray} (h : a.toList = b.toList) : a = b := by
  rw [ByteArray.toList_eq, ByteArray.toList_eq] at h
  cases a with | mk a => cases b with | mk b =>
  congr 1
  exact Array.toList_inj.1 h
theorem lt_irr (a : ByteArray) : lt a a = false := bl_irr _
theorem lt_tr {a b c : ByteArray} (h : lt a b = true) (h' : lt b c = true) : lt a c = true := bl_trans h h'
theorem lt_tri (a b : ByteArray) : lt a b = true ∨ a = b ∨ lt b a = true := by
  rcases bl_tri a.toList b.toList with h | h | h
  · exact .inl h
  · exact .inr (.inl (bytes_inj h))
  · exact .inr (.inr h)
theorem lt_as {a b : ByteArray} (h : lt a b = true) : lt b a = false := by
  cases h' : lt b a with
  | false => rfl
  | true => have := lt_tr h h'; rw [lt_irr] at this; cases this
theorem le_not (a b : ByteArray) : le a b = !lt b a := by
  have e : le a b = (lt a b || a.toList == b.toList) := rfl
  rw [e]
  rcases lt_tri a b with h | rfl | h
  · rw [h, lt_as h]; rfl
  · rw [lt_irr]; simp
  · rw [h, lt_as h]
    have hne : (a.toList == b.toList) = false := by
      rw [beq_eq_false_iff_ne]
      intro e
      rw [bytes_inj e, lt_irr] at h; cases h
    rw [hne]; rfl
theorem le_lt_tr {a b c : ByteArray} (h : le a b = true) (h' : lt b c = true) : lt a c = true := by
  rw [le_not] at h
  rcases lt_tri a b with h2 | rfl | h2
  · exact lt_tr h2 h'
  · exact h'
  · rw [h2] at h; cases h
theorem good_le {s : State} {m : Meta} (h : good s m = true) : le m.min m.max = true := by
  simp only [good, Bool.and_eq_true] at h
  exact h.1.1.1.1.1.1.2
theorem lv_tot (s : State) {i : Nat} (h : i < 5) : ((s.lv i).length : Int) ≤ tot s 5 := by
  have h1 := tot_mono s (show i + 1 ≤ 5 by omega)
  have h2 := tot_nonneg s i
  rw [show tot s (i + 1) = tot s i + (s.lv i).length from rfl] at h1
  omega
end Go.Tan

namespace Go.Proofs.Ytnhdaaggkdegpaa
set_option linter.unusedSimpArgs false
set_option linter.unusedVariables false
open Go.Tan Go.RowKit

namespace Fx
theorem fo48_0 : fOff Try.prog 48 0 = some 0 := by kernel_rfl
theorem ag5 : aggN Try.prog 5 = some none := by kernel_rfl
theorem fo48_3 : fOff Try.prog 48 3 = some 3 := by kernel_rfl
theorem ag24 : aggN Try.prog 24 = some none := by kernel_rfl
theorem fo48_7 : fOff Try.prog 48 7 = some 7 := by kernel_rfl
theorem ag9 : aggN Try.prog 9 = some none := by kernel_rfl
theorem fo48_6 : fOff Try.prog 48 6 = some 6 := by kernel_rfl
theorem st9 : strT Try.prog 9 = true := by kernel_rfl
theorem fo48_5 : fOff Try.prog 48 5 = some 5 := by kernel_rfl
theorem ag3 : aggN Try.prog 3 = some none := by kernel_rfl
theorem fo48_4 : fOff Try.prog 48 4 = some 4 := by kernel_rfl
theorem mix : Try.prog.follows .mixedOrders = true := by kernel_rfl
theorem fo27_2 : fOff Try.prog 27 2 = some 6 := by kernel_rfl
theorem fo48_1 : fOff Try.prog 48 1 = some 1 := by kernel_rfl
theorem fo27_5 : fOff Try.prog 27 5 = some 9 := by kernel_rfl
theorem ar25 : arE Try.prog 25 = some (5, 24, 1) := by kernel_rfl
theorem fo27_0 : fOff Try.prog 27 0 = some 0 := by kernel_rfl
theorem ar23 : arE Try.prog 23 = some (5, 22, 1) := by kernel_rfl
theorem ag22 : aggN Try.prog 22 = some none := by kernel_rfl
theorem se22 : slE Try.prog 22 = some (48, 40, 112) := by kernel_rfl
theorem sn22 : (slE Try.prog 22).isSome = true := by kernel_rfl
theorem zw48 : (Try.prog.info? 48).bind (·.zero) = some (.agg (Meta.zero.cells).toArray) := by kernel_rfl
end Fx
theorem stands_ok (a b : Meta) (G : PM) (h0 : 0 ≤ a.level) : Ct Try.prog 30 ([a.val, b.val] : List Value).toArray G [] (fun _ μ' u => μ' = [] ∧ u = .bool (pairOk a.level a b)) := by
  refine Ct.of Try.func30 rfl Try.ntmps30 rfl fun w0 hs0 => ?_
  refine .seq ?_
  refine Wk.rg [0, 1, 2] rfl rfl ?_
  refine bx rfl (.u rfl) rfl ?_; intro b2
  refine bx rfl (.u rfl) rfl ?_; intro b3
  refine asg rfl .no (.u rfl) ?_
  refine .nil ?_
  refine .code ?_
  refine .seq ?_
  refine .seq ?_
  refine Wk.rg [0, 1, 2] rfl rfl ?_
  refine fz rfl .no Fx.fo48_0 (.u rfl) ?_
  refine ld rfl .no Fx.ag5 (.u rfl) (fun _ => Rd.own (.there .here) rfl) ?_
  refine cp rfl .no (.u rfl) (.u rfl) rfl ?_
  refine .nil ?_
  refine .code ?_
  refine .cond rfl (fun c1 => ?_) (fun c1 => ?_)
  · have c1k := c1
    try simp only [decide_eq_true_eq, decide_eq_false_iff_not, Int.not_lt, Int.not_le, gt_iff_lt, ge_iff_le, Bool.or_eq_true, Bool.and_eq_true, Bool.or_eq_false_iff, Bool.not_eq_true', Bool.not_eq_false', Int.toNat_natCast] at c1
    refine .seq ?_
    refine Wk.rg [0, 1, 2, 3, 4, 5] rfl rfl ?_
    refine fz rfl .no Fx.fo48_3 (.u rfl) ?_
    refine ld rfl .no Fx.ag24 (.u rfl) (fun _ => Rd.own (.there .here) rfl) ?_
    refine fz rfl .no Fx.fo48_3 (.u rfl) ?_
    refine ld rfl .no Fx.ag24 (.u rfl) (fun _ => Rd.own .here rfl) ?_
    refine cp rfl .no (.u rfl) (.u rfl) rfl ?_
    refine asg rfl .no (.u rfl) ?_
    refine .nil ?_
    refine .code ?_
    refine .ret ?_
    refine We.fin0 Try.results30 (.tmp rfl .nil) ?_
    exact ⟨rfl, congrArg Value.bool (by rw [← stands_eq a b h0, if_pos c1k])⟩
  · have c1k := c1
    try simp only [decide_eq_true_eq, decide_eq_false_iff_not, Int.not_lt, Int.not_le, gt_iff_lt, ge_iff_le, Bool.or_eq_true, Bool.and_eq_true, Bool.or_eq_false_iff, Bool.not_eq_true', Bool.not_eq_false', Int.toNat_natCast] at c1
    refine .skip ?_
    refine .code ?_
    refine .seq ?_
    refine Wk.rg [0, 1, 2, 3, 4, 5] rfl rfl ?_
    refine fz rfl .no Fx.fo48_7 (.u rfl) ?_
    refine ld rfl .no Fx.ag9 (.u rfl) (fun _ => Rd.own (.there .here) rfl) ?_
    refine fz rfl .no Fx.fo48_6 (.u rfl) ?_
    refine ld rfl .no Fx.ag9 (.u rfl) (fun _ => Rd.own .here rfl) ?_
    refine cs rfl .no (.u rfl) (.u rfl) rfl ?_
    refine asg rfl .no (.u rfl) ?_
    refine .nil ?_
    refine .code ?_
    refine .ret ?_
    refine We.fin0 Try.results30 (.tmp rfl .nil) ?_
    exact ⟨rfl, congrArg Value.bool (by rw [← stands_eq a b h0, if_neg (by rw [c1k]; simp)]; rfl)⟩

theorem fits_ok (s : State) (hd : Nat → Sh) (m : Meta) (b : Nat) (G : PM) (hp : RdNP G b 0 (s.cells hd)) (h0 : 0 ≤ m.level) : Ct Try.prog 29 ([.pointer (some ⟨b, 0, none⟩), m.val] : List Value).toArray G [] (fun _ μ' u => μ' = [] ∧ u = .bool (good s m)) := by
  refine Ct.of Try.func29 rfl Try.ntmps29 rfl fun w0 hs0 => ?_
  refine .seq ?_
  refine Wk.rg [0, 1] rfl rfl ?_
  refine bx rfl (.u rfl) rfl ?_; intro b3
  refine asg rfl .no (.u rfl) ?_
  refine .nil ?_
  refine .code ?_
  refine .seq ?_
  refine .block ?_
  refine .seq ?_
  refine .seq ?_
  refine Wk.rg [0, 1, 2, 3] rfl rfl ?_
  refine fz rfl .no Fx.fo48_0 (.u rfl) ?_
  refine ld rfl .no Fx.ag5 (.u rfl) (fun _ => Rd.own .here rfl) ?_
  refine cp rfl .no (.u rfl) (.u rfl) rfl ?_
  refine asg rfl .no (.u rfl) ?_
  refine .nil ?_
  refine .code ?_
  refine .cond rfl (fun c1 => ?_) (fun c1 => ?_)
  · have c1k := c1
    try simp only [decide_eq_true_eq, decide_eq_false_iff_not, Int.not_lt, Int.not_le, gt_iff_lt, ge_iff_le, Bool.or_eq_true, Bool.and_eq_true, Bool.or_eq_false_iff, Bool.not_eq_true', Bool.not_eq_false', Int.toNat_natCast] at c1
    refine .skip ?_
    refine .code ?_
    refine Wk.condT rfl c1k ?_
    refine .seq ?_
    refine Wk.rg [0] rfl rfl ?_
    refine asg rfl .no (.u rfl) ?_
    refine .nil ?_
    refine .code ?_
    refine .ret ?_
    refine We.fin0 Try.results29 (.tmp rfl .nil) ?_
    exact ⟨rfl, by simp [tup, good]; omega⟩
  · have c1k := c1
    try simp only [decide_eq_true_eq, decide_eq_false_iff_not, Int.not_lt, Int.not_le, gt_iff_lt, ge_iff_le, Bool.or_eq_true, Bool.and_eq_true, Bool.or_eq_false_iff, Bool.not_eq_true', Bool.not_eq_false', Int.toNat_natCast] at c1
    refine .seq ?_
    refine Wk.rg [0, 1, 2, 3, 4, 5] rfl rfl ?_
    refine fz rfl .no Fx.fo48_6 (.u rfl) ?_
    refine ld rfl .no Fx.ag9 (.u rfl) (fun _ => Rd.own .here rfl) ?_
    refine fz rfl .no Fx.fo48_7 (.u rfl) ?_
    refine ld rfl .no Fx.ag9 (.u rfl) (fun _ => Rd.own .here rfl) ?_
    refine cs rfl .no (.u rfl) (.u rfl) rfl ?_
    refine asg rfl .no (.u rfl) ?_
    refine .nil ?_
    refine .code ?_
    refine .cond rfl (fun c2 => ?_) (fun c2 => ?_)
    · have c2k := c2
      try simp only [decide_eq_true_eq, decide_eq_false_iff_not, Int.not_lt, Int.not_le, gt_iff_lt, ge_iff_le, Bool.or_eq_true, Bool.and_eq_true, Bool.or_eq_false_iff, Bool.not_eq_true', Bool.not_eq_false', Int.toNat_natCast] at c2
      refine .skip ?_
      refine .code ?_
      refine Wk.condT rfl c2k ?_
      refine .seq ?_
      refine Wk.rg [0] rfl rfl ?_
      refine asg rfl .no (.u rfl) ?_
      refine .nil ?_
      refine .code ?_
      refine .ret ?_
      refine We.fin0 Try.results29 (.tmp rfl .nil) ?_
      exact ⟨rfl, by have h : le m.min m.max = false := (by simpa [le] using c2k); simp [tup, good, h]⟩
    · have c2k := c2
      try simp only [decide_eq_true_eq, decide_eq_false_iff_not, Int.not_lt, Int.not_le, gt_iff_lt, ge_iff_le, Bool.or_eq_true, Bool.and_eq_true, Bool.or_eq_false_iff, Bool.not_eq_true', Bool.not_eq_false', Int.toNat_natCast] at c2
      refine .seq ?_
      refine Wk.rg [0, 1, 2, 3, 4, 5, 6, 7, 8] rfl rfl ?_
      refine fz rfl .no Fx.fo48_6 (.u rfl) ?_
      refine ld rfl .no Fx.ag9 (.u rfl) (fun _ => Rd.own .here rfl) ?_
      refine ls rfl .no Fx.st9 (.u rfl) ?_
      refine fz rfl .no Fx.fo48_7 (.u rfl) ?_
      refine ld rfl .no Fx.ag9 (.u rfl) (fun _ => Rd.own .here rfl) ?_
      refine ls rfl .no Fx.st9 (.u rfl) ?_
      refine mA rfl .no (.u rfl) (.u rfl) ?_
      refine cp rfl .no (.u rfl) (.u rfl) rfl ?_
      refine asg rfl .no (.u rfl) ?_
      refine .nil ?_
      refine .code ?_
      refine .cond rfl (fun c3 => ?_) (fun c3 => ?_)
      · have c3k := c3
        try simp only [decide_eq_true_eq, decide_eq_false_iff_not, Int.not_lt, Int.not_le, gt_iff_lt, ge_iff_le, Bool.or_eq_true, Bool.and_eq_true, Bool.or_eq_false_iff, Bool.not_eq_true', Bool.not_eq_false', Int.toNat_natCast] at c3
        refine .skip ?_
        refine .code ?_
        refine Wk.condT rfl c3k ?_
        refine .seq ?_
        refine Wk.rg [0] rfl rfl ?_
        refine asg rfl .no (.u rfl) ?_
        refine .nil ?_
        refine .code ?_
        refine .ret ?_
        refine We.fin0 Try.results29 (.tmp rfl .nil) ?_
        exact ⟨rfl, by simp [tup, good]; omega⟩
      · have c3k := c3
        try simp only [decide_eq_true_eq, decide_eq_false_iff_not, Int.not_lt, Int.not_le, gt_iff_lt, ge_iff_le, Bool.or_eq_true, Bool.and_eq_true, Bool.or_eq_false_iff, Bool.not_eq_true', Bool.not_eq_false', Int.toNat_natCast] at c3
        refine .seq ?_
        refine Wk.rg [0, 1, 2, 3] rfl rfl ?_
        refine fz rfl .no Fx.fo48_5 (.u rfl) ?_
        refine ld rfl .no Fx.ag3 (.u rfl) (fun _ => Rd.own .here rfl) ?_
        refine cp rfl .no (.u rfl) (.u rfl) rfl ?_
        refine asg rfl .no (.u rfl) ?_
        refine .nil ?_
        refine .code ?_
        refine .cond rfl (fun c4 => ?_) (fun c4 => ?_)
        · have c4k := c4
          try simp only [decide_eq_true_eq, decide_eq_false_iff_not, Int.not_lt, Int.not_le, gt_iff_lt, ge_iff_le, Bool.or_eq_true, Bool.and_eq_true, Bool.or_eq_false_iff, Bool.not_eq_true', Bool.not_eq_false', Int.toNat_natCast] at c4
          refine .skip ?_
          refine .code ?_
          refine Wk.condT rfl c4k ?_
          refine .seq ?_
          refine Wk.rg [0] rfl rfl ?_
          refine asg rfl .no (.u rfl) ?_
          refine .nil ?_
          refine .code ?_
          refine .ret ?_
          refine We.fin0 Try.results29 (.tmp rfl .nil) ?_
          exact ⟨rfl, by simp [tup, good]; omega⟩
        · have c4k := c4
          try simp only [decide_eq_true_eq, decide_eq_false_iff_not, Int.not_lt, Int.not_le, gt_iff_lt, ge_iff_le, Bool.or_eq_true, Bool.and_eq_true, Bool.or_eq_false_iff, Bool.not_eq_true', Bool.not_eq_false', Int.toNat_natCast] at c4
          refine Wk.rg [0, 1, 2, 3] rfl rfl ?_
          refine fz rfl .no Fx.fo48_4 (.u rfl) ?_
          refine ld rfl .no Fx.ag3 (.u rfl) (fun _ => Rd.own .here rfl) ?_
          refine cp rfl .no (.u rfl) (.u rfl) rfl ?_
          refine asg rfl .no (.u rfl) ?_
          refine .nil ?_
          refine .code ?_
          refine .cond rfl (fun c5 => ?_) (fun c5 => ?_)
          · have c5k := c5
            try simp only [decide_eq_true_eq, decide_eq_false_iff_not, Int.not_lt, Int.not_le, gt_iff_lt, ge_iff_le, Bool.or_eq_true, Bool.and_eq_true, Bool.or_eq_false_iff, Bool.not_eq_true', Bool.not_eq_false', Int.toNat_natCast] at c5
            refine .seq ?_
            refine Wk.rg [0] rfl rfl ?_
            refine asg rfl .no (.u rfl) ?_
            refine .nil ?_
            refine .code ?_
            refine .ret ?_
            refine We.fin0 Try.results29 (.tmp rfl .nil) ?_
            exact ⟨rfl, by simp [tup, good]; omega⟩
          · have c5k := c5
            try simp only [decide_eq_true_eq, decide_eq_false_iff_not, Int.not_lt, Int.not_le, gt_iff_lt, ge_iff_le, Bool.or_eq_true, Bool.and_eq_true, Bool.or_eq_false_iff, Bool.not_eq_true', Bool.not_eq_false', Int.toNat_natCast] at c5
            refine .skip ?_
            refine .blk ?_
            refine .code ?_
            refine .seq ?_
            refine Wk.draw (mc := ⟨false, false⟩) [0, 1, 2, 3, 4, 5, 6, 7, 8, 9, 10, 11, 12, 13, 14, 15, 16, 17, 18, 19] Fx.mix (by kernel_rfl) ?_
            refine fz rfl .no Fx.fo48_3 (.u rfl) ?_
            refine ld rfl .no Fx.ag24 (.u rfl) (fun _ => Rd.own .here rfl) ?_
            refine mv rfl .no (.u rfl) ?_
            refine nc rfl .no (.u rfl) ?_
            refine fz rfl .no Fx.fo27_2 (.u rfl) ?_
            refine ld rfl .no Fx.ag24 (.u rfl) (fun _ => (hp.z rfl).rd) ?_
            refine cp rfl .no (.u rfl) (.u rfl) rfl ?_
            refine mv rfl .no (.u rfl) ?_
            refine fz rfl (.t rfl rfl) Fx.fo48_1 (.u rfl) ?_
            refine ld rfl (.t rfl rfl) Fx.ag24 (.s rfl) (fun _ => Rd.own .here rfl) ?_
            refine mv rfl (.t rfl rfl) (.u rfl) ?_
            refine fz rfl (.t rfl rfl) Fx.fo48_0 (.u rfl) ?_
            refine ld rfl (.t rfl rfl) Fx.ag5 (.s rfl) (fun _ => Rd.own .here rfl) ?_
            refine nc rfl (.t rfl rfl) (.s rfl) ?_
            refine fz rfl (.t rfl rfl) Fx.fo27_5 (.s rfl) ?_
            refine iA rfl (.t rfl rfl) Fx.ar25 (.s rfl) (.s rfl) (fun hc => by omega) (fun hc => by omega) ?_
            refine ld rfl (.t rfl rfl) Fx.ag24 (.s rfl) (fun hc => (hp.z (s.cell_gen hd (by omega))).rd) ?_
            refine cp rfl (.t rfl rfl) (.s rfl) (.s rfl) rfl ?_
            refine pkA rfl .no (.u rfl) (.s rfl) ?_
            refine asg rfl .no (.u rfl) ?_
            refine .nil ?_
            refine .code ?_
            refine .ret ?_
            refine We.fin0 Try.results29 (.tmp rfl .nil) ?_
            exact ⟨rfl, fits_fin c1 c2k c3 c4 c5⟩

end Go.Proofs.Ytnhdaaggkdegpaa

namespace Go.Proofs.Ytnhdaaggkdegpaa
set_option linter.unusedSimpArgs false
set_option linter.unusedVariables false
open Go.Tan Go.RowKit

namespace Fx
theorem fo27_3 : fOff Try.prog 27 3 = some 7 := by kernel_rfl
theorem fo27_4 : fOff Try.prog 27 4 = some 8 := by kernel_rfl
theorem fo27_1 : fOff Try.prog 27 1 = some 5 := by kernel_rfl
theorem ag27 : aggN Try.prog 27 = some (some 14) := by kernel_rfl
theorem cv5_3 : cvK Try.prog 5 3 = some .i64 := by kernel_rfl
theorem ag48 : aggN Try.prog 48 = some (some 40) := by kernel_rfl
theorem ag23 : aggN Try.prog 23 = some (some 5) := by kernel_rfl
theorem zq48 : zrL Try.prog 48 = some (Meta.zero.cells) := by kernel_rfl
theorem sz48 : szT Try.prog 48 = some 40 := by kernel_rfl
theorem mp58 : mpE Try.prog 58 = some (.u64, 3) := by kernel_rfl
theorem zv3 : (Try.prog.info? 3).bind (·.zero) = some (.int .i64 0) := by kernel_rfl
theorem go29 : goFn Try.prog 29 = true := by kernel_rfl
theorem go30 : goFn Try.prog 30 = true := by kernel_rfl
end Fx
set_option maxHeartbeats 1000000 in
theorem vRight_ok (s : State) (hd : Nat → Sh) (G : PM) (hs : StR G s hd) : Ct Try.prog 12 ([s.val hd] : List Value).toArray G [] (fun _ μ' u => μ' = [] ∧ u = .bool (rightS s)) := by
  refine Ct.of Try.func12 rfl Try.ntmps12 rfl fun w0 hs0 => ?_
  refine .seq ?_
  refine Wk.rg [0, 1] rfl rfl ?_
  refine bx rfl (.u rfl) rfl ?_; intro b1
  refine asg rfl .no (.u rfl) ?_
  refine .nil ?_
  refine .code ?_
  refine .seq ?_
  refine .seq ?_
  refine Wk.rg [0, 1, 2, 3, 4, 5, 6, 7, 8, 9, 10, 11, 12] rfl rfl ?_
  refine fz rfl .no Fx.fo27_3 (.u rfl) ?_
  refine ld rfl .no Fx.ag24 (.u rfl) (fun _ => Rd.own .here rfl) ?_
  refine fz rfl .no Fx.fo27_4 (.u rfl) ?_
  refine ld rfl .no Fx.ag24 (.u rfl) (fun _ => Rd.own .here rfl) ?_
  refine mA rfl .no (.u rfl) (.u rfl) ?_
  refine cp rfl .no (.u rfl) (.u rfl) rfl ?_
  refine mv rfl .no (.u rfl) ?_
  refine fz rfl (.f rfl rfl) Fx.fo27_1 (.u rfl) ?_
  refine ld rfl (.f rfl rfl) Fx.ag24 (.s rfl) (fun _ => Rd.own .here rfl) ?_
  refine fz rfl (.f rfl rfl) Fx.fo27_2 (.u rfl) ?_
  refine ld rfl (.f rfl rfl) Fx.ag24 (.s rfl) (fun _ => Rd.own .here rfl) ?_
  refine cp rfl (.f rfl rfl) (.s rfl) (.s rfl) rfl ?_
  refine pkO rfl .no (.u rfl) (.s rfl) ?_
  refine .nil ?_
  refine .code ?_
  refine .cond rfl (fun c1 => ?_) (fun c1 => ?_)
  · have c1k := c1
    try simp only [decide_eq_true_eq, decide_eq_false_iff_not, Int.not_lt, Int.not_le, gt_iff_lt, ge_iff_le, Bool.or_eq_true, Bool.and_eq_true, Bool.or_eq_false_iff, Bool.not_eq_true', Bool.not_eq_false', Int.toNat_natCast] at c1
    refine .seq ?_
    refine Wk.rg [0] rfl rfl ?_
    refine asg rfl .no (.u rfl) ?_
    refine .nil ?_
    refine .code ?_
    refine .ret ?_
    refine We.fin0 Try.results12 (.tmp rfl .nil) ?_
    exact ⟨rfl, fin_false (rs_max c1)⟩
  · have c1k := c1
    try simp only [decide_eq_true_eq, decide_eq_false_iff_not, Int.not_lt, Int.not_le, gt_iff_lt, ge_iff_le, Bool.or_eq_true, Bool.and_eq_true, Bool.or_eq_false_iff, Bool.not_eq_true', Bool.not_eq_false', Int.toNat_natCast] at c1
    refine .skip ?_
    refine .code ?_
    refine .seq ?_
    refine Wk.rg [0, 1] rfl rfl ?_
    refine mk rfl .u64 ?_; intro b22
    refine asg rfl .no (.u rfl) ?_
    refine .nil ?_
    refine .code ?_
    refine .seq ?_
    refine Wk.rg [0] rfl rfl ?_
    refine asg rfl .no (.u rfl) ?_
    refine .nil ?_
    refine .code ?_
    refine .seq ?_
    refine .seq ?_
    refine Wk.rg [0, 1, 2] rfl rfl ?_
    refine fz rfl .no Fx.fo27_0 (.u rfl) ?_
    refine lA rfl .no Fx.ag23 (.u rfl) (fun _ => RdN.part (n := 5) (.there .here) rfl) (fun _ => rfl) ?_
    refine mv rfl .no (.u rfl) ?_
    refine .nil ?_
    refine .code ?_
    refine .block ?_
    refine Wk.lop (α := Nat) (fun i => [(4, true, .int .i64 (1024 - tot s i)), (25, true, .int .i64 (i : Int))]) (fun i => [.mp b22 .u64 (cntM (nums (allM s i)))])
      (fun i Gl => i ≤ 5 ∧ tot s i ≤ 1024 ∧ (∀ j, j < i → LvOk s j (s.lv j)) ∧ Dist (allM s i)) (fun i => 5 - i) 0 [(1, true, _), (3, true, _), (24, true, _)] [.blk b1 _]
      (ESub.cons rfl rfl (ESub.cons rfl rfl (ESub.cons rfl rfl (ESub.cons rfl rfl (ESub.cons rfl rfl ESub.nil)))))
      (MSub.cons .here rfl (MSub.cons .here rfl MSub.nil)) ?_ ?_
    · exact ⟨by omega, by simp [tot], fun j hj => by omega, dist_nil⟩
    intro i N0 Gl0 hN0 hGl0 hF0
    try dsimp only at hF0 hN0 ⊢
    obtain ⟨hi, ht, hall, hdi⟩ := hF0
    refine .seq ?_
    refine Wk.rg [0] rfl rfl ?_
    refine cp rfl .no (.u rfl) (.u rfl) rfl ?_
    refine .nil ?_
    refine .code ?_
    refine .seq ?_
    refine .cond rfl (fun c2 => ?_) (fun c2 => ?_)
    · have c2k := c2
      try simp only [decide_eq_true_eq, decide_eq_false_iff_not, Int.not_lt, Int.not_le, gt_iff_lt, ge_iff_le, Bool.or_eq_true, Bool.and_eq_true, Bool.or_eq_false_iff, Bool.not_eq_true', Bool.not_eq_false', Int.toNat_natCast] at c2
      refine .skip ?_
      refine .code ?_
      refine .seq ?_
      refine .block ?_
      refine .seq ?_
      refine Wk.rg [0, 1, 2, 3] rfl rfl ?_
      have hli := hs.len i (by omega); have htn := tot_nonneg s i
      refine mv rfl .no (.u rfl) ?_
      refine ix rfl .no Fx.ar23 Fx.ag22 (.u rfl) (.u rfl) (fun _ => by omega) (fun _ => by omega) (fun _ => (s.arr_lv hd (k := i) (by omega))) ?_
      refine asg rfl .no (.u rfl) ?_
      refine asg rfl .no (.u rfl) ?_
      refine .nil ?_
      refine .code ?_
      refine .seq ?_
      refine .seq ?_
      refine Wk.rg [0, 1, 2, 3] rfl rfl ?_
      refine mv rfl .no (.u rfl) ?_
      refine ln rfl .no Fx.sn22 (.u rfl) ?_
      refine mv rfl .no (.u rfl) ?_
      refine cp rfl .no (.u rfl) (.u rfl) rfl ?_
      refine .nil ?_
      refine .code ?_
      refine .cond rfl (fun c3 => ?_) (fun c3 => ?_)
      · have c3k := c3
        try simp only [decide_eq_true_eq, decide_eq_false_iff_not, Int.not_lt, Int.not_le, gt_iff_lt, ge_iff_le, Bool.or_eq_true, Bool.and_eq_true, Bool.or_eq_false_iff, Bool.not_eq_true', Bool.not_eq_false', Int.toNat_natCast] at c3
        refine .seq ?_
        refine Wk.rg [0] rfl rfl ?_
        refine asg rfl .no (.u rfl) ?_
        refine .nil ?_
        refine .code ?_
        refine .ret ?_
        refine We.fin0 Try.results12 (.tmp rfl .nil) ?_
        exact ⟨rfl, fin_false (rs_few (by omega) c3)⟩
      · have c3k := c3
        try simp only [decide_eq_true_eq, decide_eq_false_iff_not, Int.not_lt, Int.not_le, gt_iff_lt, ge_iff_le, Bool.or_eq_true, Bool.and_eq_true, Bool.or_eq_false_iff, Bool.not_eq_true', Bool.not_eq_false', Int.toNat_natCast] at c3
        refine .skip ?_
        refine .code ?_
        refine .seq ?_
        refine Wk.rg [0, 1, 2, 3, 4] rfl rfl ?_
        refine mv rfl .no (.u rfl) ?_
        refine mv rfl .no (.u rfl) ?_
        refine ln rfl .no Fx.sn22 (.u rfl) ?_
        refine ar rfl .no (.u rfl) (.u rfl) rfl (fun _ => wrap_i64 (by omega) (by omega)) ?_
        refine asg rfl .no (.u rfl) ?_
        refine .nil ?_
        refine .code ?_
        refine .seq ?_
        refine Wk.rg [0, 1, 2] rfl rfl ?_
        refine mv rfl .no (.u rfl) ?_
        refine ln rfl .no Fx.sn22 (.u rfl) ?_
        refine mv rfl .no (.u rfl) ?_
        refine .nil ?_
        refine .code ?_
        refine .block ?_
        refine Wk.lop (α := Nat) (fun k => [(39, true, .int .i64 (k : Int))]) (fun k => [.mp b22 .u64 (cntM (nums (allM s i ++ (s.lv i).take k)))])
          (fun k Gl => Part s i k) (fun k => (s.lv i).length - k) 0 [(1, true, _), (3, true, _), (4, true, _), (5, true, _), (6, true, _), (24, true, _), (25, true, _), (37, true, _), (38, true, _)] [.blk b1 _]
          (ESub.cons rfl rfl (ESub.cons rfl rfl (ESub.cons rfl rfl (ESub.cons rfl rfl (ESub.cons rfl rfl (ESub.cons rfl rfl (ESub.cons rfl rfl (ESub.cons rfl rfl (ESub.cons rfl rfl (ESub.cons rfl rfl ESub.nil))))))))))
          (MSub.cons .here (cnt_zero s i _) (MSub.cons .here rfl MSub.nil)) ?_ ?_
        · exact Part.zero hdi
        intro k N1 Gl1 hN1 hGl1 hF1
        try dsimp only at hF1 hN1 ⊢
        have hP : Part s i k := hF1; have hkl := hP.le
        refine .seq ?_
        refine Wk.rg [0] rfl rfl ?_
        refine cp rfl .no (.u rfl) (.u rfl) rfl ?_
        refine .nil ?_
        refine .code ?_
        refine .seq ?_
        refine .cond rfl (fun c4 => ?_) (fun c4 => ?_)
        · have c4k := c4
          try simp only [decide_eq_true_eq, decide_eq_false_iff_not, Int.not_lt, Int.not_le, gt_iff_lt, ge_iff_le, Bool.or_eq_true, Bool.and_eq_true, Bool.or_eq_false_iff, Bool.not_eq_true', Bool.not_eq_false', Int.toNat_natCast] at c4
          refine .skip ?_
          refine .code ?_
          refine .seq ?_
          refine .block ?_
          refine .seq ?_
          refine Wk.rg [0, 1, 2, 3, 4, 5] rfl rfl ?_
          have hwf := (hs.wf i (by omega) _ (getD_mem (k := k) (by omega))).level; have hcb := cnt_bd (nums (allM s i ++ (s.lv i).take k)) ((s.lv i).getD k Meta.zero).number
          refine mv rfl .no (.u rfl) ?_
          refine ih rfl .no Fx.se22 (.u rfl) (.u rfl) (fun _ => by omega) (fun _ => by omega) (fun _ => (hs.lv i (by omega)).nn (k := k) (by omega)) ?_
          refine lA rfl .no Fx.ag48 (.u rfl) (fun _ => ((((hs.mono hGl0).mono hGl1).lv i (by omega)).gat k (by omega) (by omega)).rd) (fun _ => rfl) ?_
          refine al rfl Fx.zq48 ?_; intro b8
          refine asg rfl .no (.u rfl) ?_
          refine sw rfl (.u rfl) (.u rfl) rfl Fx.sz48 .here rfl (Meta.one _) ?_
          refine .nil ?_
          refine .code ?_
          refine .seq ?_
          refine Wk.rg [0, 1, 2, 3, 4, 5] rfl rfl ?_
          refine mv rfl .no (.u rfl) ?_
          refine fz rfl .no Fx.fo48_3 (.u rfl) ?_
          refine ld rfl .no Fx.ag24 (.u rfl) (fun _ => Rd.own .here rfl) ?_
          refine lk rfl .no Fx.mp58 Fx.zv3 (.u rfl) (.u rfl) (.there .here) (cnt_get _ _) ?_
          refine ar rfl .no (.u rfl) (.u rfl) rfl (fun _ => wrap_i64 (by omega) (by omega)) ?_
          refine mu rfl Fx.mp58 (.u rfl) (.u rfl) (.u rfl) (.there .here) ?_
          refine .nil ?_
          refine .code ?_
          refine .seq ?_
          refine Wk.draw (mc := ⟨false, false⟩) [0, 1, 2, 3, 4, 5, 6, 7, 8, 9, 10, 11, 12, 13, 14, 15, 16, 17, 18, 19, 20, 21, 22, 23, 24, 25, 26, 27, 28, 29, 30] Fx.mix (by kernel_rfl) ?_
          refine fz rfl .no Fx.fo48_0 (.u rfl) ?_
          refine ld rfl .no Fx.ag5 (.u rfl) (fun _ => Rd.own (.there .here) rfl) ?_
          refine cw rfl .no Fx.cv5_3 (.u rfl) (fun _ => wrap_i64 (by omega) (by omega)) ?_
          refine mv rfl .no (.u rfl) ?_
          refine cp rfl .no (.u rfl) (.u rfl) rfl ?_
          refine mv rfl .no (.u rfl) ?_
          refine lA rfl (.f rfl rfl) Fx.ag48 (.u rfl) (fun _ => RdN.own (.there .here)) (fun _ => rfl) ?_
          refine kp rfl (.f rfl rfl) Fx.go29 (Eva.cons (.u rfl) (Eva.cons (.s rfl) Eva.nil)) (Gp.add (.there (.there .here)) Gp.nil) (fun hc hle hq => fits_ok s hd _ b1 _ RdNP.add hwf.1) ?_
          refine nt rfl (.f rfl rfl) (.s rfl) ?_
          refine pkO rfl .no (.u rfl) (.s rfl) ?_
          refine mv rfl .no (.u rfl) ?_
          refine mv rfl (.f rfl rfl) (.u rfl) ?_
          refine fz rfl (.f rfl rfl) Fx.fo48_3 (.u rfl) ?_
          refine ld rfl (.f rfl rfl) Fx.ag24 (.s rfl) (fun _ => Rd.own (.there .here) rfl) ?_
          refine lk rfl (.f rfl rfl) Fx.mp58 Fx.zv3 (.s rfl) (.s rfl) .here (cnt_upd _ _ _ _) ?_
          refine cp rfl (.f rfl rfl) (.s rfl) (.u rfl) rfl ?_
          refine pkO rfl .no (.u rfl) (.s rfl) ?_
          refine mv rfl .no (.u rfl) ?_
          refine mv rfl (.f rfl rfl) (.u rfl) ?_
          refine cp rfl (.f rfl rfl) (.s rfl) (.u rfl) rfl ?_
          refine mv rfl (.f rfl rfl) (.s rfl) ?_
          refine mv rfl (.tc rfl rfl) (.u rfl) ?_
          refine mv rfl (.tc rfl rfl) (.u rfl) ?_
          refine ar rfl (.tc rfl rfl) (.s rfl) (.u rfl) rfl (fun hc => wrap_i64 (by omega) (by omega)) ?_
          refine ih rfl (.tc rfl rfl) Fx.se22 (.s rfl) (.s rfl) (fun hc => by simp only [Bool.and_eq_true, decide_eq_true_eq] at hc; omega) (fun hc => by simp only [Bool.and_eq_true, decide_eq_true_eq] at hc; omega) (fun hc => (hs.lv i (by omega)).nn (k := k) (by omega)) ?_
          refine lA rfl (.tc rfl rfl) Fx.ag48 (.s rfl) (fun hc => ((((hs.mono hGl0).mono hGl1).lv i (by omega)).gat (k - 1) (by simp only [Bool.and_eq_true, decide_eq_true_eq] at hc; omega) (by omega)).rd) (fun _ => rfl) ?_
          refine lA rfl (.tc rfl rfl) Fx.ag48 (.u rfl) (fun _ => RdN.own (.there .here)) (fun _ => rfl) ?_
          refine kv rfl (.tc rfl rfl) Fx.go30 (Eva.cons (.s rfl) (Eva.cons (.s rfl) Eva.nil)) (fun hc => stands_ok _ _ _ (hs.wf i (by omega) _ (getD_mem (by simp only [Bool.and_eq_true, decide_eq_true_eq] at hc; omega))).level.1) ?_
          refine nt rfl (.tc rfl rfl) (.s rfl) ?_
          refine pkA rfl (.f rfl rfl) (.s rfl) (.s rfl) ?_
          refine pkO rfl .no (.u rfl) (.s rfl) ?_
          refine .nil ?_
          refine .code ?_
          refine .cond rfl (fun c5 => ?_) (fun c5 => ?_)
          · have c5k := c5
            try simp only [decide_eq_true_eq, decide_eq_false_iff_not, Int.not_lt, Int.not_le, gt_iff_lt, ge_iff_le, Bool.or_eq_true, Bool.and_eq_true, Bool.or_eq_false_iff, Bool.not_eq_true', Bool.not_eq_false', Int.toNat_natCast] at c5
            refine .seq ?_
            refine Wk.rg [0] rfl rfl ?_
            refine asg rfl .no (.u rfl) ?_
            refine .nil ?_
            refine .code ?_
            refine .ret ?_
            refine We.fin0 Try.results12 (.tmp rfl .nil) ?_
            exact ⟨rfl, fin_false (rt_bad (by omega) (by omega) hP c5k)⟩
          · have c5k := c5
            try simp only [decide_eq_true_eq, decide_eq_false_iff_not, Int.not_lt, Int.not_le, gt_iff_lt, ge_iff_le, Bool.or_eq_true, Bool.and_eq_true, Bool.or_eq_false_iff, Bool.not_eq_true', Bool.not_eq_false', Int.toNat_natCast] at c5
            refine .skip ?_
            refine .blk ?_
            refine .code ?_
            refine Wk.rg [0, 1] rfl rfl ?_
            refine ar rfl .no (.u rfl) (.u rfl) rfl (fun _ => wrap_i64 (by omega) (by omega)) ?_
            refine mv rfl .no (.u rfl) ?_
            refine .nil ?_
            have hst := rt_good (by omega) hP c5k
            refine We.lpo (k + 1) ?_ ?_ ?_ ?_ ?_
            · exact (ESub.cons rfl rfl (ESub.cons rfl rfl (ESub.cons rfl rfl (ESub.cons rfl rfl (ESub.cons rfl rfl (ESub.cons rfl rfl (ESub.cons rfl rfl (ESub.cons rfl rfl (ESub.cons rfl rfl (ESub.cons rfl rfl ESub.nil))))))))))
            · exact (MSub.cons .here (cnt_step (by omega) hst.2) (MSub.cons (.there .here) rfl MSub.nil))
            · first | omega | (dsimp only; omega)
            · exact hGl1
            · exact hst.1
        · have c4k := c4
          try simp only [decide_eq_true_eq, decide_eq_false_iff_not, Int.not_lt, Int.not_le, gt_iff_lt, ge_iff_le, Bool.or_eq_true, Bool.and_eq_true, Bool.or_eq_false_iff, Bool.not_eq_true', Bool.not_eq_false', Int.toNat_natCast] at c4
          refine .exit ?_
          refine .xcode ?_
          refine .xlp ?_
          refine .xblk ?_
          refine .blk ?_
          refine .code ?_
          refine Wk.rg [0, 1] rfl rfl ?_
          refine ar rfl .no (.u rfl) (.u rfl) rfl (fun _ => wrap_i64 (by omega) (by omega)) ?_
          refine mv rfl .no (.u rfl) ?_
          refine .nil ?_
          refine We.lpo (i + 1) ?_ ?_ ?_ ?_ ?_
          · exact (ESub.cons rfl (congrArg _ (by rw [show tot s (i + 1) = tot s i + (s.lv i).length from rfl]; omega)) (ESub.cons rfl rfl (ESub.cons rfl rfl (ESub.cons rfl rfl (ESub.cons rfl rfl ESub.nil)))))
          · exact (MSub.cons .here (cnt_next (by omega)) (MSub.cons .here rfl MSub.nil))
          · first | omega | (dsimp only; omega)
          · exact hGl0.trans hGl1
          · exact ⟨by omega, by rw [show tot s (i + 1) = tot s i + (s.lv i).length from rfl]; omega, fun j hj => (by by_cases e : j = i; (subst e; exact hP.lvOk (by omega)); exact hall j (by omega)), hP.next (by omega)⟩
    · have c2k := c2
      try simp only [decide_eq_true_eq, decide_eq_false_iff_not, Int.not_lt, Int.not_le, gt_iff_lt, ge_iff_le, Bool.or_eq_true, Bool.and_eq_true, Bool.or_eq_false_iff, Bool.not_eq_true', Bool.not_eq_false', Int.toNat_natCast] at c2
      refine .exit ?_
      refine .xcode ?_
      refine .xlp ?_
      refine .xblk ?_
      refine .code ?_
      refine .seq ?_
      refine Wk.rg [0] rfl rfl ?_
      refine asg rfl .no (.u rfl) ?_
      refine .nil ?_
      refine .code ?_
      refine .ret ?_
      refine We.fin0 Try.results12 (.tmp rfl .nil) ?_
      exact ⟨rfl, fin_true (rs_done c1 (by omega) ht hall hdi)⟩

theorem idx_ok (h : Sh) (l : List Meta) (G : PM) (hs : SlR G 40 Meta.cells h l) (hl : l.length * 112 ≤ 140737488351232) (f : Nat) (hf : goFn Try.prog f = true) (vc : List Value) (p : Meta → Bool) (hc : ∀ G', PM.le G G' → ∀ m ∈ l, Ct Try.prog f ([m.val] ++ vc).toArray G' [] fun _ μ' u => μ' = [] ∧ u = .bool (p m)) : Ct Try.prog 50 ([h.val l.length, .func (.func f) #[] vc.toArray] : List Value).toArray G [] (fun _ μ' u => μ' = [] ∧ u = .int .i64 (idxI p l)) := by
  refine Ct.of Try.func50 rfl Try.ntmps50 rfl fun w0 hs0 => ?_
  refine .seq ?_
  refine Wk.rg [0] rfl rfl ?_
  refine asg rfl .no (.u rfl) ?_
  refine .nil ?_
  refine .code ?_
  refine .seq ?_
  refine .seq ?_
  refine Wk.rg [0, 1, 2] rfl rfl ?_
  refine mv rfl .no (.u rfl) ?_
  refine ln rfl .no Fx.sn22 (.u rfl) ?_
  refine mv rfl .no (.u rfl) ?_
  refine .nil ?_
  refine .code ?_
  refine .block ?_
  refine Wk.lop (α := Nat) (fun k => [(8, true, .int .i64 (k : Int))]) (fun _ => [])
    (fun k Gl => k ≤ l.length ∧ ∀ j, j < k → p (l.getD j Meta.zero) = false) (fun k => l.length - k) 0 [(0, true, _), (1, true, _), (7, true, _)] []
    (ESub.cons rfl rfl (ESub.cons rfl rfl (ESub.cons rfl rfl (ESub.cons rfl rfl ESub.nil))))
    MSub.nil ?_ ?_
  · exact ⟨by omega, fun j hj => by omega⟩
  intro k N0 Gl0 hN0 hGl0 hF0
  try dsimp only at hF0 hN0 ⊢
  obtain ⟨hk, hno⟩ := hF0
  refine .seq ?_
  refine Wk.rg [0] rfl rfl ?_
  refine cp rfl .no (.u rfl) (.u rfl) rfl ?_
  refine .nil ?_
  refine .code ?_
  refine .seq ?_
  refine .cond rfl (fun c1 => ?_) (fun c1 => ?_)
  · have c1k := c1
    try simp only [decide_eq_true_eq, decide_eq_false_iff_not, Int.not_lt, Int.not_le, gt_iff_lt, ge_iff_le, Bool.or_eq_true, Bool.and_eq_true, Bool.or_eq_false_iff, Bool.not_eq_true', Bool.not_eq_false', Int.toNat_natCast] at c1
    refine .skip ?_
    refine .code ?_
    refine .seq ?_
    refine .block ?_
    refine .seq ?_
    refine Wk.rg [0, 1] rfl rfl ?_
    refine mv rfl .no (.u rfl) ?_
    refine asg rfl .no (.u rfl) ?_
    refine .nil ?_
    refine .code ?_
    refine .seq ?_
    refine Wk.rg [0, 1, 2, 3, 4, 5] rfl rfl ?_
    refine mv rfl .no (.u rfl) ?_
    refine mv rfl .no (.u rfl) ?_
    refine mv rfl .no (.u rfl) ?_
    refine ih rfl .no Fx.se22 (.u rfl) (.u rfl) (fun _ => by omega) (fun _ => by omega) (fun _ => hs.nn (k := k) (by omega)) ?_
    refine lA rfl .no Fx.ag48 (.u rfl) (fun _ => ((hs.mono hGl0).gat k (by omega) (by omega)).rd) (fun _ => rfl) ?_
    refine kf rfl .no (.u rfl) hf (Eva.cons (.u rfl) Eva.nil) (fun _ => hc _ hGl0 _ (getD_mem (k := k) (by omega))) ?_
    refine .nil ?_
    refine .code ?_
    refine .cond rfl (fun c2 => ?_) (fun c2 => ?_)
    · have c2k := c2
      try simp only [decide_eq_true_eq, decide_eq_false_iff_not, Int.not_lt, Int.not_le, gt_iff_lt, ge_iff_le, Bool.or_eq_true, Bool.and_eq_true, Bool.or_eq_false_iff, Bool.not_eq_true', Bool.not_eq_false', Int.toNat_natCast] at c2
      refine .seq ?_
      refine Wk.rg [0, 1] rfl rfl ?_
      refine mv rfl .no (.u rfl) ?_
      refine asg rfl .no (.u rfl) ?_
      refine .nil ?_
      refine .code ?_
      refine .ret ?_
      refine We.fin0 Try.results50 (.tmp rfl .nil) ?_
      exact ⟨rfl, idx_hit (by omega) hno c2k⟩
    · have c2k := c2
      try simp only [decide_eq_true_eq, decide_eq_false_iff_not, Int.not_lt, Int.not_le, gt_iff_lt, ge_iff_le, Bool.or_eq_true, Bool.and_eq_true, Bool.or_eq_false_iff, Bool.not_eq_true', Bool.not_eq_false', Int.toNat_natCast] at c2
      refine .skip ?_
      refine .blk ?_
      refine .code ?_
      refine Wk.rg [0, 1] rfl rfl ?_
      refine ar rfl .no (.u rfl) (.u rfl) rfl (fun _ => wrap_i64 (by omega) (by omega)) ?_
      refine mv rfl .no (.u rfl) ?_
      refine .nil ?_
      refine We.lpo (k + 1) ?_ ?_ ?_ ?_ ?_
      · exact (ESub.cons rfl rfl (ESub.cons rfl rfl (ESub.cons rfl rfl (ESub.cons rfl rfl ESub.nil))))
      · exact MSub.nil
      · first | omega | (dsimp only; omega)
      · exact hGl0
      · exact ⟨by omega, idx_step hno c2k⟩
  · have c1k := c1
    try simp only [decide_eq_true_eq, decide_eq_false_iff_not, Int.not_lt, Int.not_le, gt_iff_lt, ge_iff_le, Bool.or_eq_true, Bool.and_eq_true, Bool.or_eq_false_iff, Bool.not_eq_true', Bool.not_eq_false', Int.toNat_natCast] at c1
    refine .exit ?_
    refine .xcode ?_
    refine .xlp ?_
    refine .xblk ?_
    refine .code ?_
    refine .seq ?_
    refine Wk.rg [0] rfl rfl ?_
    refine asg rfl .no (.u rfl) ?_
    refine .nil ?_
    refine .code ?_
    refine .ret ?_
    refine We.fin0 Try.results50 (.tmp rfl .nil) ?_
    exact ⟨rfl, idx_none (by omega) hno⟩

end Go.Proofs.Ytnhdaaggkdegpaa

namespace Go.Proofs.Ytnhdaaggkdegpaa
set_option linter.unusedSimpArgs false
set_option linter.unusedVariables false
open Go.Tan Go.RowKit

namespace Fx
theorem se33 : slE Try.prog 33 = some (5, 1, 1) := by kernel_rfl
theorem zv5 : (Try.prog.info? 5).bind (·.zero) = some (.int .u8 0) := by kernel_rfl
theorem cv24_5 : cvK Try.prog 24 5 = some .u8 := by kernel_rfl
theorem cv3_24 : cvK Try.prog 3 24 = some .u64 := by kernel_rfl
theorem go68 : goFn Try.prog 68 = true := by kernel_rfl
theorem sn33 : (slE Try.prog 33).isSome = true := by kernel_rfl
theorem cv5_24 : cvK Try.prog 5 24 = some .u64 := by kernel_rfl
end Fx
theorem Num_ok (xs : List Y) (h : Sh) (G : PM) (hs : SlR G 1 encY h xs) (n : BitVec 64) (hl : xs.length ≤ 100000000000000) : Ct Try.prog 68 ([h.val xs.length, uv .u64 n] : List Value).toArray G [] (PR 5 (fun L => L = xs ++ numN n.toNat)) := by
  refine Ct.of Try.func68 rfl Try.ntmps68 rfl fun w0 hs0 => ?_
  have ln := num_len10 n.isLt
  refine .seq ?_
  refine Wk.rg [0] rfl rfl ?_
  refine asg rfl .no (.u rfl) ?_
  refine .nil ?_
  refine .code ?_
  refine .seq ?_
  refine Wk.rg [0, 1, 2, 3] rfl rfl ?_
  refine b0B rfl Fx.se33 ?_; intro b6
  refine mv rfl .no (.u rfl) ?_
  refine apY0 rfl Fx.se33 Fx.zv5 (.u rfl) (.u rfl) .here hs.sc (by (try simp only [List.length_append, List.length_cons, List.length_nil, yl_len]); omega) ?_
  intro v8 L8 _ ov8 eL8
  have lL8 : L8.length = xs.length := by rw [eL8]
  refine asg rfl .no (.u rfl) ?_
  refine .nil ?_
  refine .code ?_
  refine .seq ?_
  refine .block ?_
  refine Wk.lop (α := BitVec 64 × Value × List Y) (fun gh => [(1, true, uv .u64 gh.1), (5, true, gh.2.1)]) (fun gh => [rB gh.2.1 5 gh.2.2])
    (fun gh Gl => (gh.2.2 ++ numN gh.1.toNat = xs ++ numN n.toNat)) (fun gh => gh.1.toNat) (n, v8, L8) [] []
    (ESub.cons rfl rfl (ESub.cons rfl rfl ESub.nil))
    (MSub.cons .here rfl MSub.nil) ?_ ?_
  · (try dsimp only) <;> (rw [eL8])
  intro gh N0 Gl0 hN0 hGl0 hF0
  obtain ⟨m, v, L⟩ := gh; dsimp only at hF0 hN0 ⊢
  have eq := hF0
  have hs := hs.mono hGl0
  have tq : @BitVec.toNat IntKind.u64.bits m = m.toNat := rfl
  have lq := congrArg List.length eq
  simp only [List.length_append] at lq
  have lp := num_pos m.toNat
  refine .seq ?_
  refine .seq ?_
  refine Wk.rg [0, 1] rfl rfl ?_
  refine mv rfl .no (.u rfl) ?_
  refine cp rfl .no (.u rfl) (.u rfl) rfl ?_
  refine .nil ?_
  refine .code ?_
  refine .cond rfl (fun c1 => ?_) (fun c1 => ?_)
  · have c1k := c1
    try simp only [decide_eq_true_eq, decide_eq_false_iff_not, Int.not_lt, Int.not_le, gt_iff_lt, ge_iff_le, Bool.or_eq_true, Bool.and_eq_true, Bool.or_eq_false_iff, Bool.and_eq_false_iff, Bool.not_eq_true', Bool.not_eq_false', Int.toNat_natCast, bne_iff_ne, beq_iff_eq, bne_eq_false_iff_eq, beq_eq_false_iff_ne, ne_eq] at c1
    refine .skip ?_
    refine .code ?_
    refine .seq ?_
    refine .block ?_
    refine Wk.rg [0, 1, 2, 3, 4, 5, 6] rfl rfl ?_
    refine mv rfl .no (.u rfl) ?_
    refine mv rfl .no (.u rfl) ?_
    refine cu (k := .u64) rfl .no rfl Fx.cv24_5 (.u rfl) ?_
    refine bw (k := .u8) (b := 128#8) rfl .no rfl (.u rfl) (.u rfl) rfl ?_
    refine Go.Tan.b1 rfl Fx.se33 Fx.zv5 (.u rfl) rfl rfl (by decide) ?_; intro b17
    refine apY rfl Fx.se33 Fx.zv5 (.u rfl) (.u rfl) (.there .here) (Sc.one .here) (by show _ + 1 ≤ _; omega) ?_
    intro v18 L18 ov18 eL18
    have lL18 : L18.length = L.length + 1 := by rw [eL18, List.length_append]; first | rfl | simp [yl_len]
    refine asg rfl .no (.u rfl) ?_
    refine .nil ?_
    refine .blk ?_
    refine .code ?_
    refine Wk.rg [0, 1, 2] rfl rfl ?_
    refine mv rfl .no (.u rfl) ?_
    refine rw' (k := .u64) rfl .no (.u rfl) (.u rfl) (fun _ => by decide) ?_
    refine asg rfl .no (.u rfl) ?_
    refine .nil ?_
    refine We.lpo (m >>> 7, v18, L18) ?_ ?_ ?_ ?_ ?_
    · exact (ESub.cons rfl rfl (ESub.cons rfl rfl ESub.nil))
    · exact (MSub.cons .here rfl MSub.nil)
    · (dsimp only; rw [shr7]; omega)
    · exact hGl0
    · (try dsimp only) <;> (rw [eL18, ← eq, num_more (m := m) (by omega), List.append_assoc]; rfl)
  · have c1k := c1
    try simp only [decide_eq_true_eq, decide_eq_false_iff_not, Int.not_lt, Int.not_le, gt_iff_lt, ge_iff_le, Bool.or_eq_true, Bool.and_eq_true, Bool.or_eq_false_iff, Bool.and_eq_false_iff, Bool.not_eq_true', Bool.not_eq_false', Int.toNat_natCast, bne_iff_ne, beq_iff_eq, bne_eq_false_iff_eq, beq_eq_false_iff_ne, ne_eq] at c1
    refine .exit ?_
    refine .xcode ?_
    refine .xlp ?_
    refine .xblk ?_
    refine .code ?_
    refine .seq ?_
    refine Wk.rg [0, 1, 2, 3, 4, 5] rfl rfl ?_
    refine mv rfl .no (.u rfl) ?_
    refine mv rfl .no (.u rfl) ?_
    refine cu (k := .u64) rfl .no rfl Fx.cv24_5 (.u rfl) ?_
    refine Go.Tan.b1 rfl Fx.se33 Fx.zv5 (.u rfl) rfl rfl (by decide) ?_; intro b22
    refine apY rfl Fx.se33 Fx.zv5 (.u rfl) (.u rfl) (.there .here) (Sc.one .here) (by show _ + 1 ≤ _; omega) ?_
    intro v23 L23 ov23 eL23
    have lL23 : L23.length = L.length + 1 := by rw [eL23, List.length_append]; first | rfl | simp [yl_len]
    refine asg rfl .no (.u rfl) ?_
    refine .nil ?_
    refine .code ?_
    refine .ret ?_
    refine We.fin Try.results68 (.tmp rfl .nil) (MSub.cons .here rfl MSub.nil) ?_
    exact ⟨L23, by rw [eL23, ← eq, num_last (m := m) (by omega)]; rfl, rfl⟩

theorem Num_i (xs : List Y) (h : Sh) (G : PM) (hs : SlR G 1 encY h xs) (x : Int) (hx : u64 x) (hl : xs.length ≤ 100000000000000) : Ct Try.prog 68 ([h.val xs.length, .int .u64 x] : List Value).toArray G [] (PR 5 (fun L => L = xs ++ numN x.toNat)) := by
  rw [uvI hx, ← ofI hx]; exact Num_ok xs h G hs _ hl
theorem Str_ok (xs : List Y) (h : Sh) (G : PM) (hs : SlR G 1 encY h xs) (s : ByteArray) (hl : xs.length + s.size ≤ 100000000000000) : Ct Try.prog 45 ([h.val xs.length, .string s] : List Value).toArray G [] (PR 5 (fun L => L = xs ++ strL (yb s))) := by
  refine Ct.of Try.func45 rfl Try.ntmps45 rfl fun w0 hs0 => ?_
  have ly := yb_len s
  have ln := num_len10 (n := s.size) (by omega)
  refine .seq ?_
  refine Wk.rg [0] rfl rfl ?_
  refine asg rfl .no (.u rfl) ?_
  refine .nil ?_
  refine .code ?_
  refine .seq ?_
  refine Wk.rg [0, 1, 2, 3, 4, 5, 6, 7] rfl rfl ?_
  refine mv rfl .no (.u rfl) ?_
  refine mv rfl .no (.u rfl) ?_
  refine ls rfl .no Fx.st9 (.u rfl) ?_
  refine cw rfl .no Fx.cv3_24 (.u rfl) (fun _ => wrap_u64 (by omega) (by omega)) ?_
  refine kc rfl Fx.go68 (Eva.cons (.u rfl) (Eva.cons (.u rfl) Eva.nil)) (Ct.rowc (Num_i xs h _ hs (s.size : Int) ⟨by omega, by omega⟩ (by omega))) ?_
  rintro v9 G9 μ9 hG9 ⟨L9, ov9, eL9, rfl⟩
  have hs := hs.mono hG9
  refine mv rfl .no (.u rfl) ?_
  have l9 : L9.length = xs.length + (numN s.size).length := by rw [eL9, List.length_append, Int.toNat_natCast]
  refine apT rfl Fx.se33 Fx.st9 Fx.zv5 (.u rfl) (.u rfl) .here (by (try simp only [List.length_append]); omega) ?_; intro v11 L11 ov11 eL11
  refine asg rfl .no (.u rfl) ?_
  refine .nil ?_
  refine .code ?_
  refine .ret ?_
  refine We.fin Try.results45 (.tmp rfl .nil) (MSub.cons .here rfl MSub.nil) ?_
  exact ⟨L11, by rw [eL11, eL9, strL, ly, Int.toNat_natCast, List.append_assoc], rfl⟩

theorem number_ok (xs : List Y) (h : Sh) (G : PM) (hs : SlR G 1 encY h xs) (hl : xs.length ≤ 100000000000000) : Ct Try.prog 59 ([h.val xs.length] : List Value).toArray G [] (fun _ μ' u => ∃ n k e, NumR xs n k e ∧ μ' = [] ∧ u = .tuple #[.int .u64 (n : Int), .int .i64 (k : Int), .int .i64 e]) := by
  refine Ct.of Try.func59 rfl Try.ntmps59 rfl fun w0 hs0 => ?_
  refine .seq ?_
  refine Wk.rg [0, 1, 2] rfl rfl ?_
  refine asg rfl .no (.u rfl) ?_
  refine asg rfl .no (.u rfl) ?_
  refine asg rfl .no (.u rfl) ?_
  refine .nil ?_
  refine .code ?_
  refine .seq ?_
  refine Wk.rg [0] rfl rfl ?_
  refine asg rfl .no (.u rfl) ?_
  refine .nil ?_
  refine .code ?_
  refine .seq ?_
  refine .seq ?_
  refine Wk.rg [0, 1, 2] rfl rfl ?_
  refine mv rfl .no (.u rfl) ?_
  refine ln rfl .no Fx.sn33 (.u rfl) ?_
  refine mv rfl .no (.u rfl) ?_
  refine .nil ?_
  refine .code ?_
  refine .block ?_
  refine Wk.lop (α := Nat × BitVec 64) (fun gh => [(5, true, uv .u64 gh.2), (10, true, .int .i64 (gh.1 : Int))]) (fun _ => [])
    (fun gh Gl => (gh.1 ≤ xs.length) ∧ (gh.1 ≤ 9) ∧ (gh.2.toNat < 128 ^ gh.1) ∧ (numP xs = numG gh.1 gh.2.toNat (xs.drop gh.1))) (fun gh => xs.length - gh.1) (0, 0#64) [(8, true, _), (9, true, _)] []
    (ESub.cons rfl rfl (ESub.cons rfl (by first | rfl | exact evi (by omega)) (ESub.cons rfl rfl (ESub.cons rfl rfl ESub.nil))))
    MSub.nil ?_ ?_
  · refine ⟨?_, ?_, ?_, ?_⟩
    · (try dsimp only) <;> (first | omega | rfl | assumption | (simp; done))
    · (try dsimp only) <;> (first | omega | rfl | assumption | (simp; done))
    · (try dsimp only) <;> (decide)
    · (try dsimp only) <;> (rfl)
  intro gh N0 Gl0 hN0 hGl0 hF0
  obtain ⟨k, w⟩ := gh; dsimp only at hF0 hN0 ⊢
  obtain ⟨hk, h9, hw, e⟩ := hF0
  have hs := hs.mono hGl0
  have tq : @BitVec.toNat IntKind.u8.bits (xs.getD k 0) = (xs.getD k 0).toNat := rfl
  refine .seq ?_
  refine Wk.rg [0] rfl rfl ?_
  refine cp rfl .no (.u rfl) (.u rfl) rfl ?_
  refine .nil ?_
  refine .code ?_
  refine .seq ?_
  refine .cond rfl (fun c1 => ?_) (fun c1 => ?_)
  · have c1k := c1
    try simp only [decide_eq_true_eq, decide_eq_false_iff_not, Int.not_lt, Int.not_le, gt_iff_lt, ge_iff_le, Bool.or_eq_true, Bool.and_eq_true, Bool.or_eq_false_iff, Bool.and_eq_false_iff, Bool.not_eq_true', Bool.not_eq_false', Int.toNat_natCast, bne_iff_ne, beq_iff_eq, bne_eq_false_iff_eq, beq_eq_false_iff_ne, ne_eq] at c1
    refine .skip ?_
    refine .code ?_
    refine .seq ?_
    refine .block ?_
    refine .seq ?_
    refine Wk.rg [0, 1, 2, 3, 4] rfl rfl ?_
    refine mv rfl .no (.u rfl) ?_
    refine ih rfl .no Fx.se33 (.u rfl) (.u rfl) (fun _ => by omega) (fun _ => by omega) (fun _ => hs.nn (k := k) (by omega)) ?_
    refine ld rfl .no Fx.ag5 (.u rfl) (fun _ => (hs.yat (k) (by omega) (by omega)).rd) ?_
    refine asg rfl .no (.u rfl) ?_
    refine asg rfl .no (.u rfl) ?_
    refine .nil ?_
    refine .code ?_
    refine .seq ?_
    refine .seq ?_
    refine Wk.rg [0, 1, 2, 3, 4, 5] rfl rfl ?_
    refine mv rfl .no (.u rfl) ?_
    refine cp rfl .no (.u rfl) (.u rfl) rfl ?_
    refine mv rfl .no (.u rfl) ?_
    refine mv rfl (.t rfl rfl) (.u rfl) ?_
    refine cp rfl (.t rfl rfl) (.s rfl) (.u rfl) rfl ?_
    refine pkA rfl .no (.u rfl) (.s rfl) ?_
    refine .nil ?_
    refine .code ?_
    refine .cond rfl (fun c2 => ?_) (fun c2 => ?_)
    · have c2k := c2
      try simp only [decide_eq_true_eq, decide_eq_false_iff_not, Int.not_lt, Int.not_le, gt_iff_lt, ge_iff_le, Bool.or_eq_true, Bool.and_eq_true, Bool.or_eq_false_iff, Bool.and_eq_false_iff, Bool.not_eq_true', Bool.not_eq_false', Int.toNat_natCast, bne_iff_ne, beq_iff_eq, bne_eq_false_iff_eq, beq_eq_false_iff_ne, ne_eq] at c2
      refine .seq ?_
      refine Wk.rg [0, 1, 2] rfl rfl ?_
      refine asg rfl .no (.u rfl) ?_
      refine asg rfl .no (.u rfl) ?_
      refine asg rfl .no (.u rfl) ?_
      refine .nil ?_
      refine .code ?_
      refine .ret ?_
      refine We.fin0 Try.results59 (.tmp rfl (.tmp rfl (.tmp rfl .nil))) ?_
      exact ⟨0, 0, 11, .of (np_form e (by omega) (by omega) (by omega)), rfl, rfl⟩
    · have c2k := c2
      try simp only [decide_eq_true_eq, decide_eq_false_iff_not, Int.not_lt, Int.not_le, gt_iff_lt, ge_iff_le, Bool.or_eq_true, Bool.and_eq_true, Bool.or_eq_false_iff, Bool.and_eq_false_iff, Bool.not_eq_true', Bool.not_eq_false', Int.toNat_natCast, bne_iff_ne, beq_iff_eq, bne_eq_false_iff_eq, beq_eq_false_iff_ne, ne_eq] at c2
      refine .skip ?_
      refine .code ?_
      refine .seq ?_
      refine Wk.rg [0, 1, 2, 3, 4, 5, 6, 7, 8] rfl rfl ?_
      refine mv rfl .no (.u rfl) ?_
      refine mv rfl .no (.u rfl) ?_
      refine bw (k := .u8) (b := 127#8) rfl .no rfl (.u rfl) (.u rfl) rfl ?_
      refine cu (k := .u8) rfl .no rfl Fx.cv5_24 (.u rfl) ?_
      refine mv rfl .no (.u rfl) ?_
      refine arn (((7 * k) : Nat) : Int) rfl .no (.u rfl) (.u rfl) rfl (fun _ => by omega) (fun _ => wrap_i64 (by omega) (by omega)) ?_
      refine lw (k := .u64) rfl .no rfl (.u rfl) (.u rfl) (fun _ => by omega) ?_
      refine bw (k := .u64) rfl .no rfl (.u rfl) (.u rfl) rfl ?_
      refine asg rfl .no (.u rfl) ?_
      refine .nil ?_
      refine .code ?_
      refine .seq ?_
      refine Wk.rg [0, 1] rfl rfl ?_
      refine mv rfl .no (.u rfl) ?_
      refine cp rfl .no (.u rfl) (.u rfl) rfl ?_
      refine .nil ?_
      refine .code ?_
      refine .cond rfl (fun c3 => ?_) (fun c3 => ?_)
      · have c3k := c3
        try simp only [decide_eq_true_eq, decide_eq_false_iff_not, Int.not_lt, Int.not_le, gt_iff_lt, ge_iff_le, Bool.or_eq_true, Bool.and_eq_true, Bool.or_eq_false_iff, Bool.and_eq_false_iff, Bool.not_eq_true', Bool.not_eq_false', Int.toNat_natCast, bne_iff_ne, beq_iff_eq, bne_eq_false_iff_eq, beq_eq_false_iff_ne, ne_eq] at c3
        refine .seq ?_
        refine .seq ?_
        refine Wk.rg [0, 1, 2, 3, 4, 5] rfl rfl ?_
        refine mv rfl .no (.u rfl) ?_
        refine cp rfl .no (.u rfl) (.u rfl) rfl ?_
        refine mv rfl .no (.u rfl) ?_
        refine mv rfl (.t rfl rfl) (.u rfl) ?_
        refine cp rfl (.t rfl rfl) (.s rfl) (.u rfl) rfl ?_
        refine pkA rfl .no (.u rfl) (.s rfl) ?_
        refine .nil ?_
        refine .code ?_
        refine .cond rfl (fun c4 => ?_) (fun c4 => ?_)
        · have c4k := c4
          try simp only [decide_eq_true_eq, decide_eq_false_iff_not, Int.not_lt, Int.not_le, gt_iff_lt, ge_iff_le, Bool.or_eq_true, Bool.and_eq_true, Bool.or_eq_false_iff, Bool.and_eq_false_iff, Bool.not_eq_true', Bool.not_eq_false', Int.toNat_natCast, bne_iff_ne, beq_iff_eq, bne_eq_false_iff_eq, beq_eq_false_iff_ne, ne_eq] at c4
          refine .seq ?_
          refine Wk.rg [0, 1, 2] rfl rfl ?_
          refine asg rfl .no (.u rfl) ?_
          refine asg rfl .no (.u rfl) ?_
          refine asg rfl .no (.u rfl) ?_
          refine .nil ?_
          refine .code ?_
          refine .ret ?_
          refine We.fin0 Try.results59 (.tmp rfl (.tmp rfl (.tmp rfl .nil))) ?_
          exact ⟨0, 0, 11, .of (np_zero e (by omega) (by omega) (by omega)), rfl, rfl⟩
        · have c4k := c4
          try simp only [decide_eq_true_eq, decide_eq_false_iff_not, Int.not_lt, Int.not_le, gt_iff_lt, ge_iff_le, Bool.or_eq_true, Bool.and_eq_true, Bool.or_eq_false_iff, Bool.and_eq_false_iff, Bool.not_eq_true', Bool.not_eq_false', Int.toNat_natCast, bne_iff_ne, beq_iff_eq, bne_eq_false_iff_eq, beq_eq_false_iff_ne, ne_eq] at c4
          refine .skip ?_
          refine .code ?_
          refine .seq ?_
          refine Wk.rg [0, 1, 2, 3, 4, 5] rfl rfl ?_
          refine mv rfl .no (.u rfl) ?_
          refine mv rfl .no (.u rfl) ?_
          refine arn (((k + 1) : Nat) : Int) rfl .no (.u rfl) (.u rfl) rfl (fun _ => by omega) (fun _ => wrap_i64 (by omega) (by omega)) ?_
          refine asg rfl .no (.u rfl) ?_
          refine asg rfl .no (.u rfl) ?_
          refine asg rfl .no (.u rfl) ?_
          refine .nil ?_
          refine .code ?_
          refine .ret ?_
          refine We.fin0 Try.results59 (.tmp rfl (.tmp rfl (.tmp rfl .nil))) ?_
          exact ⟨_, _, 0, .of (np_end e hw h9 (by omega) (by omega) (by omega) (by omega)), rfl, rfl⟩
      · have c3k := c3
        try simp only [decide_eq_true_eq, decide_eq_false_iff_not, Int.not_lt, Int.not_le, gt_iff_lt, ge_iff_le, Bool.or_eq_true, Bool.and_eq_true, Bool.or_eq_false_iff, Bool.and_eq_false_iff, Bool.not_eq_true', Bool.not_eq_false', Int.toNat_natCast, bne_iff_ne, beq_iff_eq, bne_eq_false_iff_eq, beq_eq_false_iff_ne, ne_eq] at c3
        refine .skip ?_
        refine .blk ?_
        refine .code ?_
        refine Wk.rg [0, 1] rfl rfl ?_
        refine arn (((k + 1) : Nat) : Int) rfl .no (.u rfl) (.u rfl) rfl (fun _ => by omega) (fun _ => wrap_i64 (by omega) (by omega)) ?_
        refine mv rfl .no (.u rfl) ?_
        refine .nil ?_
        refine We.lpo (k + 1, w ||| (xs.getD k 0 &&& 127#8).setWidth 64 <<< (7 * k)) ?_ ?_ ?_ ?_ ?_
        · exact (ESub.cons rfl rfl (ESub.cons rfl (by first | rfl | exact evi (by omega)) (ESub.cons rfl rfl (ESub.cons rfl rfl ESub.nil))))
        · exact MSub.nil
        · first | omega | (dsimp only; omega)
        · exact hGl0
        · refine ⟨?_, ?_, ?_, ?_⟩
          · (try dsimp only) <;> (first | omega | rfl | assumption | (simp; done))
          · (try dsimp only) <;> (exact (np_more e hw h9 (by omega) (by omega) (by omega)).2.2)
          · (try dsimp only) <;> (exact (np_more e hw h9 (by omega) (by omega) (by omega)).2.1)
          · (try dsimp only) <;> (exact (np_more e hw h9 (by omega) (by omega) (by omega)).1)
  · have c1k := c1
    try simp only [decide_eq_true_eq, decide_eq_false_iff_not, Int.not_lt, Int.not_le, gt_iff_lt, ge_iff_le, Bool.or_eq_true, Bool.and_eq_true, Bool.or_eq_false_iff, Bool.and_eq_false_iff, Bool.not_eq_true', Bool.not_eq_false', Int.toNat_natCast, bne_iff_ne, beq_iff_eq, bne_eq_false_iff_eq, beq_eq_false_iff_ne, ne_eq] at c1
    refine .exit ?_
    refine .xcode ?_
    refine .xlp ?_
    refine .xblk ?_
    refine .code ?_
    refine .seq ?_
    refine Wk.rg [0, 1, 2] rfl rfl ?_
    refine asg rfl .no (.u rfl) ?_
    refine asg rfl .no (.u rfl) ?_
    refine asg rfl .no (.u rfl) ?_
    refine .nil ?_
    refine .code ?_
    refine .ret ?_
    refine We.fin0 Try.results59 (.tmp rfl (.tmp rfl (.tmp rfl .nil))) ?_
    exact ⟨0, 0, 10, .of (np_short e (by omega)), rfl, rfl⟩

end Go.Proofs.Ytnhdaaggkdegpaa

namespace Go.Proofs.Ytnhdaaggkdegpaa
set_option linter.unusedSimpArgs false
set_option linter.unusedVariables false
open Go.Tan Go.RowKit

namespace Fx
theorem bp101_0 : bPl Try.prog 101 [0] = some ([.slice none 0 0, .int .i64 0], [(0, 1)]) := by kernel_rfl
theorem pt66 : ptT Try.prog 66 = true := by kernel_rfl
theorem fo101_1 : fOff Try.prog 101 1 = some 1 := by kernel_rfl
theorem ag35 : aggN Try.prog 35 = some none := by kernel_rfl
theorem fo101_0 : fOff Try.prog 101 0 = some 0 := by kernel_rfl
theorem ag33 : aggN Try.prog 33 = some none := by kernel_rfl
theorem go59 : goFn Try.prog 59 = true := by kernel_rfl
theorem sz35 : szT Try.prog 35 = some 1 := by kernel_rfl
theorem sz33 : szT Try.prog 33 = some 1 := by kernel_rfl
theorem cv24_3 : cvK Try.prog 24 3 = some .i64 := by kernel_rfl
theorem bs33_9 : bsT Try.prog 33 9 = true := by kernel_rfl
theorem go60 : goFn Try.prog 60 = true := by kernel_rfl
theorem go63 : goFn Try.prog 63 = true := by kernel_rfl
end Fx
theorem cNew_ok (xs : List Y) (h : Sh) (G : PM) (hs : SlR G 1 encY h xs) (hl : xs.length ≤ 100000000000000) : Ct Try.prog 35 ([h.val xs.length] : List Value).toArray G [] (fun G' μ' u => ∃ b s, μ' = [.blk b (cl [Sh.val s xs.length, .int .i64 0] 101)] ∧ u = .pointer (some ⟨b, 0, none⟩) ∧ SlR G' 1 encY s xs) := by
  refine Ct.of Try.func35 rfl Try.ntmps35 rfl fun w0 hs0 => ?_
  refine .seq ?_
  refine Wk.rg [0] rfl rfl ?_
  refine asg rfl .no (.u rfl) ?_
  refine .nil ?_
  refine .code ?_
  refine .seq ?_
  refine Wk.rg [0, 1, 2, 3, 4, 5] rfl rfl ?_
  refine b0B rfl Fx.se33 ?_; intro b3
  refine mv rfl .no (.u rfl) ?_
  refine apY0 rfl Fx.se33 Fx.zv5 (.u rfl) (.u rfl) .here hs.sc (by (try simp only [List.length_append, List.length_cons, List.length_nil, yl_len]); omega) ?_
  intro v5 L5 _ ov5 eL5
  have lL5 : L5.length = xs.length := by rw [eL5]
  refine bCe ([v5, .int .i64 0]) rfl .no Fx.bp101_0 (.cons (.u rfl) (cells_one ov5) .nil) rfl (rfl) ?_
  refine bx rfl (.u rfl) rfl ?_; intro b7
  refine asg rfl .no (.u rfl) ?_
  refine .nil ?_
  refine .code ?_
  refine .ret ?_
  refine we_fb (.there .here) (by first | (intro b hb; cases hb; done) | simp [keys, Res.keys]) ?_; intro GfR5 hR5 hleR5 evR5 hsR5; subst evR5
  have hs := hs.mono hleR5
  refine We.fin Try.results35 (.tmp rfl .nil) (MSub.cons .here rfl MSub.nil) ?_
  subst eL5
  exact ⟨b7, hR5, rfl, rfl, hsR5⟩

theorem rNum_ok (xs : List Y) (e : Int) (s : Sh) (b : Nat) (G : PM) (hs : SlR G 1 encY s xs) (hl : xs.length ≤ 100000000000000) : Ct Try.prog 36 ([.pointer (some ⟨b, 0, none⟩)] : List Value).toArray G [.blk b (cl [s.val xs.length, .int .i64 e] 101)] (fun G' μ' u => ∃ n L e' s', rdNum ⟨xs, e⟩ = (n, ⟨L, e'⟩) ∧ μ' = [.blk b (cl [Sh.val s' L.length, .int .i64 e'] 101)] ∧ u = .int .u64 (n : Int) ∧ SlR G' 1 encY s' L) := by
  refine Ct.of Try.func36 rfl Try.ntmps36 rfl fun w0 hs0 => ?_
  refine .seq ?_
  refine Wk.rg [0] rfl rfl ?_
  refine asg rfl .no (.u rfl) ?_
  refine .nil ?_
  refine .code ?_
  refine .seq ?_
  refine .seq ?_
  refine Wk.rg [0, 1, 2, 3, 4, 5, 6, 7, 8] rfl rfl ?_
  refine mv rfl .no (.u rfl) ?_
  refine pe rfl .no Fx.pt66 (.u rfl) (.u rfl) ?_
  refine mv rfl .no (.u rfl) ?_
  refine mv rfl (Gd.f (b := false) rfl rfl) (.u rfl) ?_
  refine nc rfl (Gd.f (b := false) rfl rfl) (.u rfl) ?_
  refine fz rfl (Gd.f (b := false) rfl rfl) Fx.fo101_1 (.u rfl) ?_
  refine ld rfl (Gd.f (b := false) rfl rfl) Fx.ag35 (.u rfl) (fun _ => Rd.own .here (by first | exact wap_f rfl | rfl)) ?_
  refine cp rfl (Gd.f (b := false) rfl rfl) (.u rfl) (.u rfl) rfl ?_
  refine pkO rfl .no (.u rfl) (.u rfl) ?_
  refine .nil ?_
  refine .code ?_
  refine .cond rfl (fun c1 => ?_) (fun c1 => ?_)
  · have c1k := c1
    try simp only [decide_eq_true_eq, decide_eq_false_iff_not, Int.not_lt, Int.not_le, gt_iff_lt, ge_iff_le, Bool.or_eq_true, Bool.and_eq_true, Bool.or_eq_false_iff, Bool.and_eq_false_iff, Bool.not_eq_true', Bool.not_eq_false', Int.toNat_natCast, bne_iff_ne, beq_iff_eq, bne_eq_false_iff_eq, beq_eq_false_iff_ne, ne_eq] at c1
    refine .seq ?_
    refine Wk.rg [0] rfl rfl ?_
    refine asg rfl .no (.u rfl) ?_
    refine .nil ?_
    refine .code ?_
    refine .ret ?_
    refine We.fin Try.results36 (.tmp rfl .nil) (MSub.cons .here rfl MSub.nil) ?_
    exact ⟨0, xs, e, s, rd_num_bad (by simpa using c1k), rfl, rfl, hs⟩
  · have c1k := c1
    try simp only [decide_eq_true_eq, decide_eq_false_iff_not, Int.not_lt, Int.not_le, gt_iff_lt, ge_iff_le, Bool.or_eq_true, Bool.and_eq_true, Bool.or_eq_false_iff, Bool.and_eq_false_iff, Bool.not_eq_true', Bool.not_eq_false', Int.toNat_natCast, bne_iff_ne, beq_iff_eq, bne_eq_false_iff_eq, beq_eq_false_iff_ne, ne_eq] at c1
    refine .skip ?_
    refine .code ?_
    refine .seq ?_
    refine Wk.rg [0, 1, 2, 3, 4, 5, 6, 7, 8, 9, 10, 11] rfl rfl ?_
    refine mv rfl .no (.u rfl) ?_
    refine nc rfl .no (.u rfl) ?_
    refine fz rfl .no Fx.fo101_0 (.u rfl) ?_
    refine ld rfl .no Fx.ag33 (.u rfl) (fun _ => Rd.own .here (by first | exact wap_f rfl | rfl)) ?_
    refine kc rfl Fx.go59 (Eva.cons (.u rfl) Eva.nil) (number_ok xs s _ hs hl) ?_
    rintro _ G20 μ20 hG20 ⟨n20, k20, e20, hN, rfl, rfl⟩
    have hNl := hN.le; have hNt := hN.lt
    have hs := hs.mono hG20
    refine mv rfl .no (.u rfl) ?_
    refine ex rfl .no (.u rfl) rfl ?_
    refine ex rfl .no (.u rfl) rfl ?_
    refine ex rfl .no (.u rfl) rfl ?_
    refine asg rfl .no (.u rfl) ?_
    refine asg rfl .no (.u rfl) ?_
    refine asg rfl .no (.u rfl) ?_
    refine .nil ?_
    refine .code ?_
    refine .seq ?_
    refine Wk.rg [0, 1, 2, 3, 4] rfl rfl ?_
    refine mv rfl .no (.u rfl) ?_
    refine mv rfl .no (.u rfl) ?_
    refine nc rfl .no (.u rfl) ?_
    refine fz rfl .no Fx.fo101_1 (.u rfl) ?_
    refine s1 rfl (.u rfl) (.u rfl) rfl Fx.sz35 .here (by first | decide | (simp only [wa_len, ba_len, List.length_append, List.length_cons, List.length_nil]; omega)) (rfl) ?_
    refine .nil ?_
    refine .code ?_
    refine .seq ?_
    refine Wk.rg [0, 1, 2, 3, 4, 5, 6, 7, 8, 9] rfl rfl ?_
    refine mv rfl .no (.u rfl) ?_
    refine mv rfl .no (.u rfl) ?_
    refine nc rfl .no (.u rfl) ?_
    refine fz rfl .no Fx.fo101_0 (.u rfl) ?_
    refine ld rfl .no Fx.ag33 (.u rfl) (fun _ => Rd.own .here (by first | exact wap_f rfl | rfl)) ?_
    refine mv rfl .no (.u rfl) ?_
    refine kD (k20) rfl .no Fx.se33 hs (.u rfl) (.u rfl) (fun _ => by omega) (fun _ => by omega) ?_
    intro h34 L34 eL34 lL34 hs34
    have lL34 := lL34 rfl
    refine nc rfl .no (.u rfl) ?_
    refine fz rfl .no Fx.fo101_0 (.u rfl) ?_
    refine s1 rfl (.u rfl) (.u rfl) rfl Fx.sz33 .here (show 0 < 2 by decide) (rfl) ?_
    refine .nil ?_
    refine .code ?_
    refine .seq ?_
    refine Wk.rg [0, 1] rfl rfl ?_
    refine mv rfl .no (.u rfl) ?_
    refine asg rfl .no (.u rfl) ?_
    refine .nil ?_
    refine .code ?_
    refine .ret ?_
    refine We.fin Try.results36 (.tmp rfl .nil) (MSub.cons .here rfl MSub.nil) ?_
    exact ⟨n20, L34, e20, h34, rd_num_ok (by simpa using c1k) hN eL34, rfl, rfl, hs34⟩

theorem rStr_ok (xs : List Y) (e : Int) (s : Sh) (b : Nat) (G : PM) (hs : SlR G 1 encY s xs) (hl : xs.length ≤ 100000000000000) (most : Nat) (hm : most ≤ 100000000000000) : Ct Try.prog 61 ([.pointer (some ⟨b, 0, none⟩), .int .i64 (most : Int)] : List Value).toArray G [.blk b (cl [s.val xs.length, .int .i64 e] 101)] (fun G' μ' u => ∃ M L e' s', rdStr most ⟨xs, e⟩ = (M, ⟨L, e'⟩) ∧ μ' = [.blk b (cl [Sh.val s' L.length, .int .i64 e'] 101)] ∧ u = .string (bstr M) ∧ SlR G' 1 encY s' L) := by
  refine Ct.of Try.func61 rfl Try.ntmps61 rfl fun w0 hs0 => ?_
  refine .seq ?_
  refine Wk.rg [0] rfl rfl ?_
  refine asg rfl .no (.u rfl) ?_
  refine .nil ?_
  refine .code ?_
  refine .seq ?_
  refine .seq ?_
  refine Wk.rg [0, 1, 2, 3, 4, 5, 6, 7, 8] rfl rfl ?_
  refine mv rfl .no (.u rfl) ?_
  refine pe rfl .no Fx.pt66 (.u rfl) (.u rfl) ?_
  refine mv rfl .no (.u rfl) ?_
  refine mv rfl (Gd.f (b := false) rfl rfl) (.u rfl) ?_
  refine nc rfl (Gd.f (b := false) rfl rfl) (.u rfl) ?_
  refine fz rfl (Gd.f (b := false) rfl rfl) Fx.fo101_1 (.u rfl) ?_
  refine ld rfl (Gd.f (b := false) rfl rfl) Fx.ag35 (.u rfl) (fun _ => Rd.own .here (by first | exact wap_f rfl | rfl)) ?_
  refine cp rfl (Gd.f (b := false) rfl rfl) (.u rfl) (.u rfl) rfl ?_
  refine pkO rfl .no (.u rfl) (.u rfl) ?_
  refine .nil ?_
  refine .code ?_
  refine .cond rfl (fun c1 => ?_) (fun c1 => ?_)
  · have c1k := c1
    try simp only [decide_eq_true_eq, decide_eq_false_iff_not, Int.not_lt, Int.not_le, gt_iff_lt, ge_iff_le, Bool.or_eq_true, Bool.and_eq_true, Bool.or_eq_false_iff, Bool.and_eq_false_iff, Bool.not_eq_true', Bool.not_eq_false', Int.toNat_natCast, bne_iff_ne, beq_iff_eq, bne_eq_false_iff_eq, beq_eq_false_iff_ne, ne_eq] at c1
    refine .seq ?_
    refine Wk.rg [0] rfl rfl ?_
    refine asg rfl .no (.u rfl) ?_
    refine .nil ?_
    refine .code ?_
    refine .ret ?_
    refine We.fin Try.results61 (.tmp rfl .nil) (MSub.cons .here rfl MSub.nil) ?_
    exact ⟨[], xs, e, s, rd_str_bad (by simpa using c1k), rfl, rfl, hs⟩
  · have c1k := c1
    try simp only [decide_eq_true_eq, decide_eq_false_iff_not, Int.not_lt, Int.not_le, gt_iff_lt, ge_iff_le, Bool.or_eq_true, Bool.and_eq_true, Bool.or_eq_false_iff, Bool.and_eq_false_iff, Bool.not_eq_true', Bool.not_eq_false', Int.toNat_natCast, bne_iff_ne, beq_iff_eq, bne_eq_false_iff_eq, beq_eq_false_iff_ne, ne_eq] at c1
    refine .skip ?_
    refine .code ?_
    refine .seq ?_
    refine Wk.rg [0, 1, 2, 3, 4, 5, 6, 7, 8, 9, 10, 11] rfl rfl ?_
    refine mv rfl .no (.u rfl) ?_
    refine nc rfl .no (.u rfl) ?_
    refine fz rfl .no Fx.fo101_0 (.u rfl) ?_
    refine ld rfl .no Fx.ag33 (.u rfl) (fun _ => Rd.own .here (by first | exact wap_f rfl | rfl)) ?_
    refine kc rfl Fx.go59 (Eva.cons (.u rfl) Eva.nil) (number_ok xs s _ hs hl) ?_
    rintro _ G24 μ24 hG24 ⟨n20, k20, e20, hN, rfl, rfl⟩
    have hNl := hN.le; have hNt := hN.lt
    have hs := hs.mono hG24
    refine mv rfl .no (.u rfl) ?_
    refine ex rfl .no (.u rfl) rfl ?_
    refine ex rfl .no (.u rfl) rfl ?_
    refine ex rfl .no (.u rfl) rfl ?_
    refine asg rfl .no (.u rfl) ?_
    refine asg rfl .no (.u rfl) ?_
    refine asg rfl .no (.u rfl) ?_
    refine .nil ?_
    refine .code ?_
    refine .seq ?_
    refine .block ?_
    refine .seq ?_
    refine Wk.rg [0, 1, 2] rfl rfl ?_
    refine mv rfl .no (.u rfl) ?_
    refine cp rfl .no (.u rfl) (.u rfl) rfl ?_
    refine asg rfl .no (.u rfl) ?_
    refine .nil ?_
    refine .code ?_
    refine .cond rfl (fun c2 => ?_) (fun c2 => ?_)
    · have c2k := c2
      try simp only [decide_eq_true_eq, decide_eq_false_iff_not, Int.not_lt, Int.not_le, gt_iff_lt, ge_iff_le, Bool.or_eq_true, Bool.and_eq_true, Bool.or_eq_false_iff, Bool.and_eq_false_iff, Bool.not_eq_true', Bool.not_eq_false', Int.toNat_natCast, bne_iff_ne, beq_iff_eq, bne_eq_false_iff_eq, beq_eq_false_iff_ne, ne_eq] at c2
      refine .seq ?_
      refine Wk.rg [0, 1, 2, 3, 4] rfl rfl ?_
      refine mv rfl .no (.u rfl) ?_
      refine mv rfl .no (.u rfl) ?_
      refine nc rfl .no (.u rfl) ?_
      refine fz rfl .no Fx.fo101_1 (.u rfl) ?_
      refine s1 rfl (.u rfl) (.u rfl) rfl Fx.sz35 .here (by first | decide | (simp only [wa_len, ba_len, List.length_append, List.length_cons, List.length_nil]; omega)) (rfl) ?_
      refine .nil ?_
      refine .code ?_
      refine .seq ?_
      refine Wk.rg [0] rfl rfl ?_
      refine asg rfl .no (.u rfl) ?_
      refine .nil ?_
      refine .code ?_
      refine .ret ?_
      refine We.fin Try.results61 (.tmp rfl .nil) (MSub.cons .here rfl MSub.nil) ?_
      exact ⟨[], xs, e20, s, rd_str_form (by simpa using c1k) hN (by simpa using c2k), rfl, rfl, hs⟩
    · have c2k := c2
      try simp only [decide_eq_true_eq, decide_eq_false_iff_not, Int.not_lt, Int.not_le, gt_iff_lt, ge_iff_le, Bool.or_eq_true, Bool.and_eq_true, Bool.or_eq_false_iff, Bool.and_eq_false_iff, Bool.not_eq_true', Bool.not_eq_false', Int.toNat_natCast, bne_iff_ne, beq_iff_eq, bne_eq_false_iff_eq, beq_eq_false_iff_ne, ne_eq] at c2
      refine .seq ?_
      refine Wk.rg [0, 1, 2, 3, 4, 5] rfl rfl ?_
      refine mv rfl .no (.u rfl) ?_
      refine mv rfl .no (.u rfl) ?_
      refine mAn (0) (most) rfl .no (.u rfl) (.u rfl) (fun _ => by omega) (fun _ => by omega) ?_
      refine cw rfl .no Fx.cv3_24 (.u rfl) (fun _ => wrap_u64 (by omega) (by omega)) ?_
      refine cp rfl .no (.u rfl) (.u rfl) rfl ?_
      refine asg rfl .no (.u rfl) ?_
      refine .nil ?_
      refine .code ?_
      refine .cond rfl (fun c3 => ?_) (fun c3 => ?_)
      · have c3k := c3
        try simp only [decide_eq_true_eq, decide_eq_false_iff_not, Int.not_lt, Int.not_le, gt_iff_lt, ge_iff_le, Bool.or_eq_true, Bool.and_eq_true, Bool.or_eq_false_iff, Bool.and_eq_false_iff, Bool.not_eq_true', Bool.not_eq_false', Int.toNat_natCast, bne_iff_ne, beq_iff_eq, bne_eq_false_iff_eq, beq_eq_false_iff_ne, ne_eq] at c3
        refine .seq ?_
        refine Wk.rg [0, 1, 2, 3] rfl rfl ?_
        refine mv rfl .no (.u rfl) ?_
        refine nc rfl .no (.u rfl) ?_
        refine fz rfl .no Fx.fo101_1 (.u rfl) ?_
        refine s1 rfl (.u rfl) (.u rfl) rfl Fx.sz35 .here (by first | decide | (simp only [wa_len, ba_len, List.length_append, List.length_cons, List.length_nil]; omega)) (rfl) ?_
        refine .nil ?_
        refine .code ?_
        refine .seq ?_
        refine Wk.rg [0] rfl rfl ?_
        refine asg rfl .no (.u rfl) ?_
        refine .nil ?_
        refine .code ?_
        refine .ret ?_
        refine We.fin Try.results61 (.tmp rfl .nil) (MSub.cons .here rfl MSub.nil) ?_
        exact ⟨[], xs, 4, s, rd_str_long (by simpa using c1k) hN (by simpa using c2k) (by omega), rfl, rfl, hs⟩
      · have c3k := c3
        try simp only [decide_eq_true_eq, decide_eq_false_iff_not, Int.not_lt, Int.not_le, gt_iff_lt, ge_iff_le, Bool.or_eq_true, Bool.and_eq_true, Bool.or_eq_false_iff, Bool.and_eq_false_iff, Bool.not_eq_true', Bool.not_eq_false', Int.toNat_natCast, bne_iff_ne, beq_iff_eq, bne_eq_false_iff_eq, beq_eq_false_iff_ne, ne_eq] at c3
        refine .seq ?_
        refine Wk.rg [0, 1, 2, 3, 4, 5, 6, 7, 8, 9, 10] rfl rfl ?_
        refine mv rfl .no (.u rfl) ?_
        refine mv rfl .no (.u rfl) ?_
        refine nc rfl .no (.u rfl) ?_
        refine fz rfl .no Fx.fo101_0 (.u rfl) ?_
        refine ld rfl .no Fx.ag33 (.u rfl) (fun _ => Rd.own .here (by first | exact wap_f rfl | rfl)) ?_
        refine ln rfl .no Fx.sn33 (.u rfl) ?_
        refine mv rfl .no (.u rfl) ?_
        refine ar rfl .no (.u rfl) (.u rfl) rfl (fun _ => wrap_i64 (by omega) (by omega)) ?_
        refine cw rfl .no Fx.cv3_24 (.u rfl) (fun _ => wrap_u64 (by omega) (by omega)) ?_
        refine cp rfl .no (.u rfl) (.u rfl) rfl ?_
        refine asg rfl .no (.u rfl) ?_
        refine .nil ?_
        refine .code ?_
        refine .cond rfl (fun c4 => ?_) (fun c4 => ?_)
        · have c4k := c4
          try simp only [decide_eq_true_eq, decide_eq_false_iff_not, Int.not_lt, Int.not_le, gt_iff_lt, ge_iff_le, Bool.or_eq_true, Bool.and_eq_true, Bool.or_eq_false_iff, Bool.and_eq_false_iff, Bool.not_eq_true', Bool.not_eq_false', Int.toNat_natCast, bne_iff_ne, beq_iff_eq, bne_eq_false_iff_eq, beq_eq_false_iff_ne, ne_eq] at c4
          refine .seq ?_
          refine Wk.rg [0, 1, 2, 3] rfl rfl ?_
          refine mv rfl .no (.u rfl) ?_
          refine nc rfl .no (.u rfl) ?_
          refine fz rfl .no Fx.fo101_1 (.u rfl) ?_
          refine s1 rfl (.u rfl) (.u rfl) rfl Fx.sz35 .here (by first | decide | (simp only [wa_len, ba_len, List.length_append, List.length_cons, List.length_nil]; omega)) (rfl) ?_
          refine .nil ?_
          refine .code ?_
          refine .seq ?_
          refine Wk.rg [0] rfl rfl ?_
          refine asg rfl .no (.u rfl) ?_
          refine .nil ?_
          refine .code ?_
          refine .ret ?_
          refine We.fin Try.results61 (.tmp rfl .nil) (MSub.cons .here rfl MSub.nil) ?_
          exact ⟨[], xs, 10, s, rd_str_short (by simpa using c1k) hN (by simpa using c2k) (by omega) (by omega), rfl, rfl, hs⟩
        · have c4k := c4
          try simp only [decide_eq_true_eq, decide_eq_false_iff_not, Int.not_lt, Int.not_le, gt_iff_lt, ge_iff_le, Bool.or_eq_true, Bool.and_eq_true, Bool.or_eq_false_iff, Bool.and_eq_false_iff, Bool.not_eq_true', Bool.not_eq_false', Int.toNat_natCast, bne_iff_ne, beq_iff_eq, bne_eq_false_iff_eq, beq_eq_false_iff_ne, ne_eq] at c4
          refine .skip ?_
          refine .blk ?_
          refine .code ?_
          refine .seq ?_
          refine Wk.rg [0, 1, 2, 3, 4] rfl rfl ?_
          refine mv rfl .no (.u rfl) ?_
          refine mv rfl .no (.u rfl) ?_
          refine cw rfl .no Fx.cv24_3 (.u rfl) (fun _ => wrap_i64 (by omega) (by omega)) ?_
          refine arn (((k20 + n20) : Nat) : Int) rfl .no (.u rfl) (.u rfl) rfl (fun _ => by omega) (fun _ => wrap_i64 (by omega) (by omega)) ?_
          refine asg rfl .no (.u rfl) ?_
          refine .nil ?_
          refine .code ?_
          refine .seq ?_
          refine Wk.rg [0, 1, 2, 3, 4, 5, 6, 7, 8] rfl rfl ?_
          refine mv rfl .no (.u rfl) ?_
          refine nc rfl .no (.u rfl) ?_
          refine fz rfl .no Fx.fo101_0 (.u rfl) ?_
          refine ld rfl .no Fx.ag33 (.u rfl) (fun _ => Rd.own .here (by first | exact wap_f rfl | rfl)) ?_
          refine mv rfl .no (.u rfl) ?_
          refine mv rfl .no (.u rfl) ?_
          refine kS (k20) ((k20 + n20)) rfl .no Fx.se33 hs (.u rfl) (.u rfl) (.u rfl) (fun _ => by omega) (fun _ => by omega) (fun _ => by omega) (fun _ => by omega) ?_
          intro h68 L68 eL68 lL68 hs68
          have lL68 := lL68 rfl
          refine sB rfl .no Fx.bs33_9 (.u rfl) (fun _ => hs68.sc) ?_
          refine asg rfl .no (.u rfl) ?_
          refine .nil ?_
          refine .code ?_
          refine .seq ?_
          refine Wk.rg [0, 1, 2, 3, 4, 5, 6, 7, 8, 9] rfl rfl ?_
          refine mv rfl .no (.u rfl) ?_
          refine mv rfl .no (.u rfl) ?_
          refine nc rfl .no (.u rfl) ?_
          refine fz rfl .no Fx.fo101_0 (.u rfl) ?_
          refine ld rfl .no Fx.ag33 (.u rfl) (fun _ => Rd.own .here (by first | exact wap_f rfl | rfl)) ?_
          refine mv rfl .no (.u rfl) ?_
          refine kD ((k20 + n20)) rfl .no Fx.se33 hs (.u rfl) (.u rfl) (fun _ => by omega) (fun _ => by omega) ?_
          intro h76 L76 eL76 lL76 hs76
          have lL76 := lL76 rfl
          refine nc rfl .no (.u rfl) ?_
          refine fz rfl .no Fx.fo101_0 (.u rfl) ?_
          refine s1 rfl (.u rfl) (.u rfl) rfl Fx.sz33 .here (by first | decide | (simp only [wa_len, ba_len, List.length_append, List.length_cons, List.length_nil]; omega)) (rfl) ?_
          refine .nil ?_
          refine .code ?_
          refine .seq ?_
          refine Wk.rg [0, 1] rfl rfl ?_
          refine mv rfl .no (.u rfl) ?_
          refine asg rfl .no (.u rfl) ?_
          refine .nil ?_
          refine .code ?_
          refine .ret ?_
          refine We.fin Try.results61 (.tmp rfl .nil) (MSub.cons .here rfl MSub.nil) ?_
          obtain rfl : e = 0 := by simpa using c1k
          exact ⟨L68, L76, 0, h76, rd_str_ok rfl hN (by simpa using c2k) (by omega) (by omega) eL68 eL76, rfl, rfl, hs76⟩

theorem rFix_ok (xs : List Y) (e : Int) (s : Sh) (b : Nat) (G : PM) (hs : SlR G 1 encY s xs) (hl : xs.length ≤ 100000000000000) : Ct Try.prog 62 ([.pointer (some ⟨b, 0, none⟩), .int .i64 ((1 : Nat) : Int)] : List Value).toArray G [.blk b (cl [s.val xs.length, .int .i64 e] 101)] (fun G' μ' u => ∃ y L e' s', rdByte ⟨xs, e⟩ = (y, ⟨L, e'⟩) ∧ μ' = [.blk b (cl [Sh.val s' L.length, .int .i64 e'] 101)] ∧ u = uv .u64 (y.setWidth 64) ∧ SlR G' 1 encY s' L) := by
  refine Ct.of Try.func62 rfl Try.ntmps62 rfl fun w0 hs0 => ?_
  refine .seq ?_
  refine Wk.rg [0] rfl rfl ?_
  refine asg rfl .no (.u rfl) ?_
  refine .nil ?_
  refine .code ?_
  refine .seq ?_
  refine .seq ?_
  refine Wk.rg [0, 1, 2, 3, 4, 5, 6, 7, 8] rfl rfl ?_
  refine mv rfl .no (.u rfl) ?_
  refine pe rfl .no Fx.pt66 (.u rfl) (.u rfl) ?_
  refine mv rfl .no (.u rfl) ?_
  refine mv rfl (Gd.f (b := false) rfl rfl) (.u rfl) ?_
  refine nc rfl (Gd.f (b := false) rfl rfl) (.u rfl) ?_
  refine fz rfl (Gd.f (b := false) rfl rfl) Fx.fo101_1 (.u rfl) ?_
  refine ld rfl (Gd.f (b := false) rfl rfl) Fx.ag35 (.u rfl) (fun _ => Rd.own .here (by first | exact wap_f rfl | rfl)) ?_
  refine cp rfl (Gd.f (b := false) rfl rfl) (.u rfl) (.u rfl) rfl ?_
  refine pkO rfl .no (.u rfl) (.u rfl) ?_
  refine .nil ?_
  refine .code ?_
  refine .cond rfl (fun c1 => ?_) (fun c1 => ?_)
  · have c1k := c1
    try simp only [decide_eq_true_eq, decide_eq_false_iff_not, Int.not_lt, Int.not_le, gt_iff_lt, ge_iff_le, Bool.or_eq_true, Bool.and_eq_true, Bool.or_eq_false_iff, Bool.and_eq_false_iff, Bool.not_eq_true', Bool.not_eq_false', Int.toNat_natCast, bne_iff_ne, beq_iff_eq, bne_eq_false_iff_eq, beq_eq_false_iff_ne, ne_eq] at c1
    refine .seq ?_
    refine Wk.rg [0] rfl rfl ?_
    refine asg rfl .no (.u rfl) ?_
    refine .nil ?_
    refine .code ?_
    refine .ret ?_
    refine We.fin Try.results62 (.tmp rfl .nil) (MSub.cons .here rfl MSub.nil) ?_
    exact ⟨0, xs, e, s, rd_byte_bad (by simpa using c1k), rfl, rfl, hs⟩
  · have c1k := c1
    try simp only [decide_eq_true_eq, decide_eq_false_iff_not, Int.not_lt, Int.not_le, gt_iff_lt, ge_iff_le, Bool.or_eq_true, Bool.and_eq_true, Bool.or_eq_false_iff, Bool.and_eq_false_iff, Bool.not_eq_true', Bool.not_eq_false', Int.toNat_natCast, bne_iff_ne, beq_iff_eq, bne_eq_false_iff_eq, beq_eq_false_iff_ne, ne_eq] at c1
    refine .skip ?_
    refine .code ?_
    refine .seq ?_
    refine .seq ?_
    refine Wk.rg [0, 1, 2, 3, 4, 5] rfl rfl ?_
    refine mv rfl .no (.u rfl) ?_
    refine cp rfl .no (.u rfl) (.u rfl) rfl ?_
    refine mv rfl .no (.u rfl) ?_
    refine mv rfl (.f rfl rfl) (.u rfl) ?_
    refine cp rfl (.f rfl rfl) (.s rfl) (.u rfl) rfl ?_
    refine pkO rfl .no (.u rfl) (.s rfl) ?_
    refine .nil ?_
    refine .code ?_
    refine .cond rfl (fun c2 => ?_) (fun c2 => ?_)
    · have c2k := c2
      exact absurd c2 (by decide)
    · have c2k := c2
      try simp only [decide_eq_true_eq, decide_eq_false_iff_not, Int.not_lt, Int.not_le, gt_iff_lt, ge_iff_le, Bool.or_eq_true, Bool.and_eq_true, Bool.or_eq_false_iff, Bool.and_eq_false_iff, Bool.not_eq_true', Bool.not_eq_false', Int.toNat_natCast, bne_iff_ne, beq_iff_eq, bne_eq_false_iff_eq, beq_eq_false_iff_ne, ne_eq] at c2
      refine .skip ?_
      refine .code ?_
      refine .seq ?_
      refine .seq ?_
      refine Wk.rg [0, 1, 2, 3, 4, 5, 6] rfl rfl ?_
      refine mv rfl .no (.u rfl) ?_
      refine mv rfl .no (.u rfl) ?_
      refine nc rfl .no (.u rfl) ?_
      refine fz rfl .no Fx.fo101_0 (.u rfl) ?_
      refine ld rfl .no Fx.ag33 (.u rfl) (fun _ => Rd.own .here (by first | exact wap_f rfl | rfl)) ?_
      refine ln rfl .no Fx.sn33 (.u rfl) ?_
      refine cp rfl .no (.u rfl) (.u rfl) rfl ?_
      refine .nil ?_
      refine .code ?_
      refine .cond rfl (fun c3 => ?_) (fun c3 => ?_)
      · have c3k := c3
        try simp only [decide_eq_true_eq, decide_eq_false_iff_not, Int.not_lt, Int.not_le, gt_iff_lt, ge_iff_le, Bool.or_eq_true, Bool.and_eq_true, Bool.or_eq_false_iff, Bool.and_eq_false_iff, Bool.not_eq_true', Bool.not_eq_false', Int.toNat_natCast, bne_iff_ne, beq_iff_eq, bne_eq_false_iff_eq, beq_eq_false_iff_ne, ne_eq] at c3
        refine .seq ?_
        refine Wk.rg [0, 1, 2, 3] rfl rfl ?_
        refine mv rfl .no (.u rfl) ?_
        refine nc rfl .no (.u rfl) ?_
        refine fz rfl .no Fx.fo101_1 (.u rfl) ?_
        refine s1 rfl (.u rfl) (.u rfl) rfl Fx.sz35 .here (by first | decide | (simp only [wa_len, ba_len, List.length_append, List.length_cons, List.length_nil]; omega)) (rfl) ?_
        refine .nil ?_
        refine .code ?_
        refine .seq ?_
        refine Wk.rg [0] rfl rfl ?_
        refine asg rfl .no (.u rfl) ?_
        refine .nil ?_
        refine .code ?_
        refine .ret ?_
        refine We.fin Try.results62 (.tmp rfl .nil) (MSub.cons .here rfl MSub.nil) ?_
        exact ⟨0, xs, 10, s, rd_byte_short (by simpa using c1k) (by omega), rfl, rfl, hs⟩
      · have c3k := c3
        try simp only [decide_eq_true_eq, decide_eq_false_iff_not, Int.not_lt, Int.not_le, gt_iff_lt, ge_iff_le, Bool.or_eq_true, Bool.and_eq_true, Bool.or_eq_false_iff, Bool.and_eq_false_iff, Bool.not_eq_true', Bool.not_eq_false', Int.toNat_natCast, bne_iff_ne, beq_iff_eq, bne_eq_false_iff_eq, beq_eq_false_iff_ne, ne_eq] at c3
        refine .skip ?_
        refine .code ?_
        refine .seq ?_
        refine Wk.rg [0] rfl rfl ?_
        refine asg rfl .no (.u rfl) ?_
        refine .nil ?_
        refine .code ?_
        refine .seq ?_
        refine .seq ?_
        refine Wk.rg [0, 1] rfl rfl ?_
        refine mv rfl .no (.u rfl) ?_
        refine mv rfl .no (.u rfl) ?_
        refine .nil ?_
        refine .code ?_
        refine .block ?_
        refine Wk.lop (α := Nat × BitVec 64) (fun gh => [(5, true, uv .u64 gh.2), (36, true, .int .i64 (gh.1 : Int))]) (fun _ => [])
          (fun gh Gl => (gh.1 ≤ 1) ∧ (gh.2 = if gh.1 = 0 then 0#64 else (xs.getD 0 0).setWidth 64)) (fun gh => 1 - gh.1) (0, 0#64) [(0, true, _), (1, true, _), (35, true, _)] [_]
          (ESub.cons rfl rfl (ESub.cons rfl (by first | rfl | exact evi (by omega)) (ESub.cons rfl rfl (ESub.cons rfl rfl (ESub.cons rfl rfl ESub.nil)))))
          (MSub.cons .here rfl MSub.nil) ?_ ?_
        · refine ⟨?_, ?_⟩
          · (try dsimp only) <;> (first | omega | rfl | assumption | (simp; done))
          · (try dsimp only) <;> (rfl)
        intro gh N0 Gl0 hN0 hGl0 hF0
        obtain ⟨k, m⟩ := gh; dsimp only at hF0 hN0 ⊢
        obtain ⟨hk, em⟩ := hF0
        have hs := hs.mono hGl0
        refine .seq ?_
        refine Wk.rg [0] rfl rfl ?_
        refine cp rfl .no (.u rfl) (.u rfl) rfl ?_
        refine .nil ?_
        refine .code ?_
        refine .seq ?_
        refine .cond rfl (fun c4 => ?_) (fun c4 => ?_)
        · have c4k := c4
          try simp only [decide_eq_true_eq, decide_eq_false_iff_not, Int.not_lt, Int.not_le, gt_iff_lt, ge_iff_le, Bool.or_eq_true, Bool.and_eq_true, Bool.or_eq_false_iff, Bool.and_eq_false_iff, Bool.not_eq_true', Bool.not_eq_false', Int.toNat_natCast, bne_iff_ne, beq_iff_eq, bne_eq_false_iff_eq, beq_eq_false_iff_ne, ne_eq] at c4
          refine .skip ?_
          refine .code ?_
          refine .seq ?_
          refine .block ?_
          refine .seq ?_
          refine Wk.rg [0, 1] rfl rfl ?_
          refine mv rfl .no (.u rfl) ?_
          refine asg rfl .no (.u rfl) ?_
          refine .nil ?_
          refine .code ?_
          refine Wk.rg [0, 1, 2, 3, 4, 5, 6, 7, 8, 9, 10, 11, 12, 13] rfl rfl ?_
          refine mv rfl .no (.u rfl) ?_
          refine mv rfl .no (.u rfl) ?_
          refine nc rfl .no (.u rfl) ?_
          refine fz rfl .no Fx.fo101_0 (.u rfl) ?_
          refine ld rfl .no Fx.ag33 (.u rfl) (fun _ => Rd.own .here (by first | exact wap_f rfl | rfl)) ?_
          refine mv rfl .no (.u rfl) ?_
          refine ih rfl .no Fx.se33 (.u rfl) (.u rfl) (fun _ => by omega) (fun _ => by omega) (fun _ => hs.nn (k := k) (by omega)) ?_
          refine ld rfl .no Fx.ag5 (.u rfl) (fun _ => (hs.yat (k) (by omega) (by omega)).rd) ?_
          refine cu (k := .u8) rfl .no rfl Fx.cv5_24 (.u rfl) ?_
          refine mv rfl .no (.u rfl) ?_
          refine arn (((8 * k) : Nat) : Int) rfl .no (.u rfl) (.u rfl) rfl (fun _ => by omega) (fun _ => wrap_i64 (by omega) (by omega)) ?_
          refine lw (k := .u64) rfl .no rfl (.u rfl) (.u rfl) (fun _ => by omega) ?_
          refine bw (k := .u64) rfl .no rfl (.u rfl) (.u rfl) rfl ?_
          refine asg rfl .no (.u rfl) ?_
          refine .nil ?_
          refine .blk ?_
          refine .code ?_
          refine Wk.rg [0, 1] rfl rfl ?_
          refine arn (((k + 1) : Nat) : Int) rfl .no (.u rfl) (.u rfl) rfl (fun _ => by omega) (fun _ => wrap_i64 (by omega) (by omega)) ?_
          refine mv rfl .no (.u rfl) ?_
          refine .nil ?_
          refine We.lpo (k + 1, m ||| (xs.getD k 0).setWidth 64 <<< (8 * k)) ?_ ?_ ?_ ?_ ?_
          · exact (ESub.cons rfl rfl (ESub.cons rfl (by first | rfl | exact evi (by omega)) (ESub.cons rfl rfl (ESub.cons rfl rfl (ESub.cons rfl rfl ESub.nil)))))
          · exact (MSub.cons .here rfl MSub.nil)
          · first | omega | (dsimp only; omega)
          · exact hGl0
          · refine ⟨?_, ?_⟩
            · (try dsimp only) <;> (first | omega | rfl | assumption | (simp; done))
            · (try dsimp only) <;> ((obtain rfl : k = 0 := by omega); rw [em, if_pos rfl]; simp)
        · have c4k := c4
          try simp only [decide_eq_true_eq, decide_eq_false_iff_not, Int.not_lt, Int.not_le, gt_iff_lt, ge_iff_le, Bool.or_eq_true, Bool.and_eq_true, Bool.or_eq_false_iff, Bool.and_eq_false_iff, Bool.not_eq_true', Bool.not_eq_false', Int.toNat_natCast, bne_iff_ne, beq_iff_eq, bne_eq_false_iff_eq, beq_eq_false_iff_ne, ne_eq] at c4
          refine .exit ?_
          refine .xcode ?_
          refine .xlp ?_
          refine .xblk ?_
          refine .code ?_
          refine .seq ?_
          refine Wk.rg [0, 1, 2, 3, 4, 5, 6, 7, 8, 9] rfl rfl ?_
          refine mv rfl .no (.u rfl) ?_
          refine mv rfl .no (.u rfl) ?_
          refine nc rfl .no (.u rfl) ?_
          refine fz rfl .no Fx.fo101_0 (.u rfl) ?_
          refine ld rfl .no Fx.ag33 (.u rfl) (fun _ => Rd.own .here (by first | exact wap_f rfl | rfl)) ?_
          refine mv rfl .no (.u rfl) ?_
          refine kD (1) rfl .no Fx.se33 hs (.u rfl) (.u rfl) (fun _ => by omega) (fun _ => by omega) ?_
          intro h59 L59 eL59 lL59 hs59
          have lL59 := lL59 rfl
          refine nc rfl .no (.u rfl) ?_
          refine fz rfl .no Fx.fo101_0 (.u rfl) ?_
          refine s1 rfl (.u rfl) (.u rfl) rfl Fx.sz33 .here (by first | decide | (simp only [wa_len, ba_len, List.length_append, List.length_cons, List.length_nil]; omega)) (rfl) ?_
          refine .nil ?_
          refine .code ?_
          refine .seq ?_
          refine Wk.rg [0, 1] rfl rfl ?_
          refine mv rfl .no (.u rfl) ?_
          refine asg rfl .no (.u rfl) ?_
          refine .nil ?_
          refine .code ?_
          refine .ret ?_
          refine We.fin Try.results62 (.tmp rfl .nil) (MSub.cons .here rfl MSub.nil) ?_
          obtain rfl : k = 1 := by omega
          obtain rfl : e = 0 := by simpa using c1k
          exact ⟨_, L59, 0, h59, rd_byte_ok rfl (by omega) eL59, rfl, by rw [em]; rfl, hs59⟩

theorem rFault_ok (xs : List Y) (e : Int) (s : Sh) (b : Nat) (G : PM) (hp : RdNP G b 0 [s.val xs.length, .int .i64 e]) : Ct Try.prog 60 ([.pointer (some ⟨b, 0, none⟩)] : List Value).toArray G [] (fun _ μ' u => μ' = [] ∧ u = .int .i64 e) := by
  refine Ct.of Try.func60 rfl Try.ntmps60 rfl fun w0 hs0 => ?_
  refine .seq ?_
  refine Wk.rg [0] rfl rfl ?_
  refine asg rfl .no (.u rfl) ?_
  refine .nil ?_
  refine .code ?_
  refine .seq ?_
  refine .seq ?_
  refine Wk.rg [0, 1] rfl rfl ?_
  refine mv rfl .no (.u rfl) ?_
  refine pe rfl .no Fx.pt66 (.u rfl) (.u rfl) ?_
  refine .nil ?_
  refine .code ?_
  refine Wk.condF rfl rfl ?_
  refine .skip ?_
  refine .code ?_
  refine .seq ?_
  refine Wk.rg [0, 1, 2, 3, 4] rfl rfl ?_
  refine mv rfl .no (.u rfl) ?_
  refine nc rfl .no (.u rfl) ?_
  refine fz rfl .no Fx.fo101_1 (.u rfl) ?_
  refine ld rfl .no Fx.ag35 (.u rfl) (fun _ => (hp.z rfl).rd) ?_
  refine asg rfl .no (.u rfl) ?_
  refine .nil ?_
  refine .code ?_
  refine .ret ?_
  refine We.fin0 Try.results60 (.tmp rfl .nil) ?_
  exact ⟨rfl, rfl⟩

theorem rLeft_ok (xs : List Y) (e : Int) (s : Sh) (b : Nat) (G : PM) (hp : RdNP G b 0 [s.val xs.length, .int .i64 e]) : Ct Try.prog 63 ([.pointer (some ⟨b, 0, none⟩)] : List Value).toArray G [] (fun _ μ' u => μ' = [] ∧ u = .int .i64 (xs.length : Int)) := by
  refine Ct.of Try.func63 rfl Try.ntmps63 rfl fun w0 hs0 => ?_
  refine .seq ?_
  refine Wk.rg [0] rfl rfl ?_
  refine asg rfl .no (.u rfl) ?_
  refine .nil ?_
  refine .code ?_
  refine .seq ?_
  refine .seq ?_
  refine Wk.rg [0, 1] rfl rfl ?_
  refine mv rfl .no (.u rfl) ?_
  refine pe rfl .no Fx.pt66 (.u rfl) (.u rfl) ?_
  refine .nil ?_
  refine .code ?_
  refine Wk.condF rfl rfl ?_
  refine .skip ?_
  refine .code ?_
  refine .seq ?_
  refine Wk.rg [0, 1, 2, 3, 4, 5] rfl rfl ?_
  refine mv rfl .no (.u rfl) ?_
  refine nc rfl .no (.u rfl) ?_
  refine fz rfl .no Fx.fo101_0 (.u rfl) ?_
  refine ld rfl .no Fx.ag33 (.u rfl) (fun _ => (hp.z rfl).rd) ?_
  refine ln rfl .no Fx.sn33 (.u rfl) ?_
  refine asg rfl .no (.u rfl) ?_
  refine .nil ?_
  refine .code ?_
  refine .ret ?_
  refine We.fin0 Try.results63 (.tmp rfl .nil) ?_
  exact ⟨rfl, rfl⟩

theorem rEnd_ok (xs : List Y) (e : Int) (s : Sh) (b : Nat) (G : PM) (hp : RdNP G b 0 [s.val xs.length, .int .i64 e]) : Ct Try.prog 39 ([.pointer (some ⟨b, 0, none⟩)] : List Value).toArray G [] (fun _ μ' u => μ' = [] ∧ u = .int .i64 (endI xs e)) := by
  refine Ct.of Try.func39 rfl Try.ntmps39 rfl fun w0 hs0 => ?_
  refine .seq ?_
  refine Wk.rg [0] rfl rfl ?_
  refine asg rfl .no (.u rfl) ?_
  refine .nil ?_
  refine .code ?_
  refine .seq ?_
  refine .seq ?_
  refine Wk.rg [0, 1, 2, 3, 4, 5, 6, 7] rfl rfl ?_
  refine mv rfl .no (.u rfl) ?_
  refine kv rfl .no Fx.go60 (Eva.cons (.u rfl) Eva.nil) (fun _ => rFault_ok xs e s b _ hp) ?_
  refine cp rfl .no (.u rfl) (.u rfl) rfl ?_
  refine mv rfl .no (.u rfl) ?_
  refine mv rfl (.t rfl rfl) (.u rfl) ?_
  refine kv rfl (.t rfl rfl) Fx.go63 (Eva.cons (.s rfl) Eva.nil) (fun hc => rLeft_ok xs e s b _ hp) ?_
  refine cp rfl (.t rfl rfl) (.s rfl) (.u rfl) rfl ?_
  refine pkA rfl .no (.u rfl) (.s rfl) ?_
  refine .nil ?_
  refine .code ?_
  refine .cond rfl (fun c1 => ?_) (fun c1 => ?_)
  · have c1k := c1
    try simp only [decide_eq_true_eq, decide_eq_false_iff_not, Int.not_lt, Int.not_le, gt_iff_lt, ge_iff_le, Bool.or_eq_true, Bool.and_eq_true, Bool.or_eq_false_iff, Bool.not_eq_true', Bool.not_eq_false', Int.toNat_natCast, bne_iff_ne, beq_iff_eq, bne_eq_false_iff_eq, beq_eq_false_iff_ne, ne_eq] at c1
    refine .seq ?_
    refine Wk.rg [0] rfl rfl ?_
    refine asg rfl .no (.u rfl) ?_
    refine .nil ?_
    refine .code ?_
    refine .ret ?_
    refine We.fin0 Try.results39 (.tmp rfl .nil) ?_
    exact ⟨rfl, congrArg (Value.int .i64) (by unfold endI; rw [if_pos (by simpa using c1k)])⟩
  · have c1k := c1
    try simp only [decide_eq_true_eq, decide_eq_false_iff_not, Int.not_lt, Int.not_le, gt_iff_lt, ge_iff_le, Bool.or_eq_true, Bool.and_eq_true, Bool.or_eq_false_iff, Bool.not_eq_true', Bool.not_eq_false', Int.toNat_natCast, bne_iff_ne, beq_iff_eq, bne_eq_false_iff_eq, beq_eq_false_iff_ne, ne_eq] at c1
    refine .skip ?_
    refine .code ?_
    refine .seq ?_
    refine Wk.rg [0, 1, 2] rfl rfl ?_
    refine mv rfl .no (.u rfl) ?_
    refine kv rfl .no Fx.go60 (Eva.cons (.u rfl) Eva.nil) (fun _ => rFault_ok xs e s b _ hp) ?_
    refine asg rfl .no (.u rfl) ?_
    refine .nil ?_
    refine .code ?_
    refine .ret ?_
    refine We.fin0 Try.results39 (.tmp rfl .nil) ?_
    exact ⟨rfl, congrArg (Value.int .i64) (by unfold endI; rw [if_neg (by simpa using c1k)])⟩

end Go.Proofs.Ytnhdaaggkdegpaa

namespace Go.Proofs.Ytnhdaaggkdegpaa
set_option linter.unusedSimpArgs false
set_option linter.unusedVariables false
open Go.Tan Go.RowKit

namespace Fx
theorem sz3 : szT Try.prog 3 = some 1 := by kernel_rfl
end Fx
end Go.Proofs.Ytnhdaaggkdegpaa

namespace Go.Proofs.Ytnhdaaggkdegpaa
set_option linter.unusedSimpArgs false
set_option linter.unusedVariables false
open Go.Tan Go.RowKit

namespace Fx
theorem se84 : slE Try.prog 84 = some (24, 1, 8) := by kernel_rfl
theorem sn84 : (slE Try.prog 84).isSome = true := by kernel_rfl
end Fx
theorem numbers_ok (xs : List Y) (h : Sh) (ns : List Int) (hn : Sh) (G : PM) (hs : SlR G 1 encY h xs) (hsn : SlR G 1 encQ hn ns) (hu : ∀ x ∈ ns, u64 x) (hl : xs.length + 10 * ns.length ≤ 100000000000000) : Ct Try.prog 44 ([h.val xs.length, hn.val ns.length] : List Value).toArray G [] (fun G' μ' u => ∃ (s : Sh) (L : List Y), L = xs ++ numsL ns ∧ μ' = [] ∧ u = s.val L.length ∧ SlR G' 1 encY s L) := by
  refine Ct.of Try.func44 rfl Try.ntmps44 rfl fun w0 hs0 => ?_
  refine .seq ?_
  refine Wk.rg [0] rfl rfl ?_
  refine asg rfl .no (.u rfl) ?_
  refine .nil ?_
  refine .code ?_
  refine .seq ?_
  refine .seq ?_
  refine Wk.rg [0, 1, 2] rfl rfl ?_
  refine mv rfl .no (.u rfl) ?_
  refine ln rfl .no Fx.sn84 (.u rfl) ?_
  refine mv rfl .no (.u rfl) ?_
  refine .nil ?_
  refine .code ?_
  refine .block ?_
  refine Wk.lop (α := Nat × Sh × List Y) (fun gh => [(0, true, gh.2.1.val gh.2.2.length), (9, true, .int .i64 (gh.1 : Int))]) (fun _ => [])
    (fun gh Gl => (gh.1 ≤ ns.length) ∧ (gh.2.2 = xs ++ numsL (ns.take gh.1)) ∧ (SlR Gl 1 encY gh.2.1 gh.2.2)) (fun gh => ns.length - gh.1) (0, h, xs) [(7, true, _), (8, true, _)] []
    (ESub.cons rfl rfl (ESub.cons rfl (by first | rfl | exact evi (by omega)) (ESub.cons rfl rfl (ESub.cons rfl rfl ESub.nil))))
    MSub.nil ?_ ?_
  · refine ⟨?_, ?_, ?_⟩
    · (try dsimp only) <;> (first | omega | rfl | assumption | (simp; done))
    · (try dsimp only) <;> (simp [numsL])
    · (try dsimp only) <;> (exact hs)
  intro gh N0 Gl0 hN0 hGl0 hF0
  obtain ⟨k, h0, L⟩ := gh; dsimp only at hF0 hN0 ⊢
  obtain ⟨hk, eL, hsl⟩ := hF0
  have hs := hs.mono hGl0
  have hsn := hsn.mono hGl0
  have lt := numsL_take hu k
  have lL : L.length = xs.length + (numsL (ns.take k)).length := by rw [eL, List.length_append]
  refine .seq ?_
  refine Wk.rg [0] rfl rfl ?_
  refine cp rfl .no (.u rfl) (.u rfl) rfl ?_
  refine .nil ?_
  refine .code ?_
  refine .seq ?_
  refine .cond rfl (fun c1 => ?_) (fun c1 => ?_)
  · have c1k := c1
    try simp only [decide_eq_true_eq, decide_eq_false_iff_not, Int.not_lt, Int.not_le, gt_iff_lt, ge_iff_le, Bool.or_eq_true, Bool.and_eq_true, Bool.or_eq_false_iff, Bool.not_eq_true', Bool.not_eq_false', Int.toNat_natCast, bne_iff_ne, beq_iff_eq, bne_eq_false_iff_eq, beq_eq_false_iff_ne, ne_eq] at c1
    refine .skip ?_
    refine .code ?_
    refine .seq ?_
    refine .block ?_
    refine .seq ?_
    refine Wk.rg [0, 1, 2] rfl rfl ?_
    refine ih rfl .no Fx.se84 (.u rfl) (.u rfl) (fun _ => by omega) (fun _ => by omega) (fun _ => hsn.nn (k := k) (by first | omega | (simp only [Bool.and_eq_true, decide_eq_true_eq] at hc; omega) | (simp only [List.length_cons, List.length_nil]; omega))) ?_
    obtain ⟨x12, ex12⟩ := getx (k := k) (xs := ns) (by omega)
    refine ld rfl .no Fx.ag24 (.u rfl) (fun _ => (hsn.u1 k (by omega) ex12).rd) ?_
    refine asg rfl .no (.u rfl) ?_
    refine .nil ?_
    refine .code ?_
    refine Wk.rg [0, 1, 2, 3] rfl rfl ?_
    refine mv rfl .no (.u rfl) ?_
    refine mv rfl .no (.u rfl) ?_
    refine kc rfl Fx.go68 (Eva.cons (.u rfl) (Eva.cons (.u rfl) Eva.nil)) (Ct.frzB (Num_i L h0 _ hsl x12 (hu x12 (List.mem_of_getElem? ex12)) (by omega))) ?_
    rintro _ G15 μ15 hG15 ⟨h15, L15, eL15, rfl, rfl, hs15⟩
    have hs := hs.mono hG15
    have hsn := hsn.mono hG15
    have hsl := hsl.mono hG15
    refine asg rfl .no (.u rfl) ?_
    refine .nil ?_
    refine .blk ?_
    refine .code ?_
    refine Wk.rg [0, 1] rfl rfl ?_
    refine arn (((k + 1) : Nat) : Int) rfl .no (.u rfl) (.u rfl) rfl (fun _ => by omega) (fun _ => wrap_i64 (by omega) (by omega)) ?_
    refine mv rfl .no (.u rfl) ?_
    refine .nil ?_
    refine We.lpo (k + 1, h15, L15) ?_ ?_ ?_ ?_ ?_
    · exact (ESub.cons rfl rfl (ESub.cons rfl (by first | rfl | exact evi (by omega)) (ESub.cons rfl rfl (ESub.cons rfl rfl ESub.nil))))
    · exact MSub.nil
    · first | omega | (dsimp only; omega)
    · exact (hGl0).trans hG15
    · refine ⟨?_, ?_, ?_⟩
      · (try dsimp only) <;> (first | omega | rfl | assumption | (simp; done))
      · (try dsimp only) <;> (rw [eL15, eL, numsL_snoc ex12, List.append_assoc])
      · (try dsimp only) <;> (exact hs15)
  · have c1k := c1
    try simp only [decide_eq_true_eq, decide_eq_false_iff_not, Int.not_lt, Int.not_le, gt_iff_lt, ge_iff_le, Bool.or_eq_true, Bool.and_eq_true, Bool.or_eq_false_iff, Bool.not_eq_true', Bool.not_eq_false', Int.toNat_natCast, bne_iff_ne, beq_iff_eq, bne_eq_false_iff_eq, beq_eq_false_iff_ne, ne_eq] at c1
    refine .exit ?_
    refine .xcode ?_
    refine .xlp ?_
    refine .xblk ?_
    refine .code ?_
    refine .seq ?_
    refine Wk.rg [0, 1] rfl rfl ?_
    refine mv rfl .no (.u rfl) ?_
    refine asg rfl .no (.u rfl) ?_
    refine .nil ?_
    refine .code ?_
    refine .ret ?_
    refine We.fin0 Try.results44 (.tmp rfl .nil) ?_
    obtain rfl : k = ns.length := by omega
    rw [List.take_length] at eL
    exact ⟨h0, L, eL, rfl, rfl, hsl⟩

end Go.Proofs.Ytnhdaaggkdegpaa

namespace Go.Proofs.Ytnhdaaggkdegpaa
set_option linter.unusedSimpArgs false
set_option linter.unusedVariables false
open Go.Tan Go.RowKit

namespace Fx
theorem fo69_0 : fOff Try.prog 69 0 = some 0 := by kernel_rfl
theorem ag66 : aggN Try.prog 66 = some none := by kernel_rfl
theorem go36 : goFn Try.prog 36 = true := by kernel_rfl
theorem fo69_1 : fOff Try.prog 69 1 = some 1 := by kernel_rfl
theorem ag4 : aggN Try.prog 4 = some none := by kernel_rfl
theorem sz4 : szT Try.prog 4 = some 1 := by kernel_rfl
end Fx
theorem upTo_ok (xs : List Y) (e : Int) (bad : Bool) (s : Sh) (br b : Nat) (G : PM) (hs : SlR G 1 encY s xs) (hl : xs.length ≤ 100000000000000) (most : Nat) : Ct Try.prog 37 ([.pointer (some ⟨br, 0, none⟩), .int .u64 (most : Int)] : List Value).toArray G [.blk br (cl [.pointer (some ⟨b, 0, none⟩), .bool bad] 69), .blk b (cl [Sh.val s xs.length, .int .i64 e] 101)] (fun G' μ' u => ∃ n L e' s' bad', rdNum ⟨xs, e⟩ = (n, ⟨L, e'⟩) ∧ bad' = (bad || (decide (most < n) || !decide (e' = 0))) ∧ μ' = [.blk br (cl [.pointer (some ⟨b, 0, none⟩), .bool bad'] 69), .blk b (cl [Sh.val s' L.length, .int .i64 e'] 101)] ∧ u = .int .u64 (n : Int) ∧ SlR G' 1 encY s' L) := by
  refine Ct.of Try.func37 rfl Try.ntmps37 rfl fun w0 hs0 => ?_
  refine .seq ?_
  refine Wk.rg [0] rfl rfl ?_
  refine asg rfl .no (.u rfl) ?_
  refine .nil ?_
  refine .code ?_
  refine .seq ?_
  refine Wk.rg [0, 1, 2, 3, 4, 5] rfl rfl ?_
  refine mv rfl .no (.u rfl) ?_
  refine nc rfl .no (.u rfl) ?_
  refine fz rfl .no Fx.fo69_0 (.u rfl) ?_
  refine ld rfl .no Fx.ag66 (.u rfl) (fun _ => Rd.own .here (by first | exact wap_f rfl | rfl)) ?_
  refine ka rfl (.inr rfl) Fx.go36 (Eva.cons (.u rfl) Eva.nil) (mtk1 (.there .here)) (rNum_ok xs e s b _ hs hl) ?_
  rintro _ G10 μ10 hG10 ⟨n10, L10, e10, s10, hN, rfl, rfl, hs10⟩
  have hs := hs.mono hG10
  refine asg rfl .no (.u rfl) ?_
  refine .nil ?_
  refine .code ?_
  refine .seq ?_
  refine Wk.rg [0, 1, 2, 3, 4, 5, 6, 7, 8, 9, 10, 11, 12, 13, 14, 15, 16, 17, 18, 19, 20] rfl rfl ?_
  refine mv rfl .no (.u rfl) ?_
  refine mv rfl .no (.u rfl) ?_
  refine nc rfl .no (.u rfl) ?_
  refine fz rfl .no Fx.fo69_1 (.u rfl) ?_
  refine ld rfl .no Fx.ag4 (.u rfl) (fun _ => Rd.own (.there .here) (by first | exact wap_f rfl | rfl)) ?_
  refine mv rfl .no (.u rfl) ?_
  refine mv rfl (.f rfl rfl) (.u rfl) ?_
  refine mv rfl (.f rfl rfl) (.u rfl) ?_
  refine cp rfl (.f rfl rfl) (.s rfl) (.s rfl) rfl ?_
  refine pkO rfl .no (.u rfl) (.s rfl) ?_
  refine mv rfl .no (.u rfl) ?_
  refine mv rfl (.f rfl rfl) (.u rfl) ?_
  refine nc rfl (.f rfl rfl) (.s rfl) ?_
  refine fz rfl (.f rfl rfl) Fx.fo69_0 (.s rfl) ?_
  refine ld rfl (.f rfl rfl) Fx.ag66 (.s rfl) (fun hc => Rd.own (.there .here) (by first | exact wap_f rfl | rfl)) ?_
  refine kp rfl (.f rfl rfl) Fx.go60 (Eva.cons (.s rfl) Eva.nil) (Gp.add .here Gp.nil) (fun hc hle hq => rFault_ok L10 e10 s10 b _ RdNP.add) ?_
  refine cp rfl (.f rfl rfl) (.s rfl) (.u rfl) rfl ?_
  refine pkO rfl .no (.u rfl) (.s rfl) ?_
  refine nc rfl .no (.u rfl) ?_
  refine fz rfl .no Fx.fo69_1 (.u rfl) ?_
  refine s1 rfl (.u rfl) (.u rfl) rfl Fx.sz4 (.there .here) (show 1 < 2 by decide) (rfl) ?_
  refine .nil ?_
  refine .code ?_
  refine .seq ?_
  refine Wk.rg [0, 1] rfl rfl ?_
  refine mv rfl .no (.u rfl) ?_
  refine asg rfl .no (.u rfl) ?_
  refine .nil ?_
  refine .code ?_
  refine .ret ?_
  refine We.fin Try.results37 (.tmp rfl .nil) (MSub.cons .here rfl (MSub.cons .here rfl MSub.nil)) ?_
  exact ⟨n10, L10, e10, s10, _, hN, up_bad, rfl, rfl, hs10⟩

end Go.Proofs.Ytnhdaaggkdegpaa

namespace Go.Proofs.Ytnhdaaggkdegpaa
set_option linter.unusedSimpArgs false
set_option linter.unusedVariables false
open Go.Tan Go.RowKit

namespace Fx
theorem go37 : goFn Try.prog 37 = true := by kernel_rfl
theorem bp48_0 : bPl Try.prog 48 [0] = some (Meta.zero.cells, [(0, 1)]) := by kernel_rfl
theorem sz24 : szT Try.prog 24 = some 1 := by kernel_rfl
theorem fo48_2 : fOff Try.prog 48 2 = some 2 := by kernel_rfl
theorem go61 : goFn Try.prog 61 = true := by kernel_rfl
theorem sz9 : szT Try.prog 9 = some 1 := by kernel_rfl
theorem go62 : goFn Try.prog 62 = true := by kernel_rfl
theorem fo48_8 : fOff Try.prog 48 8 = some 8 := by kernel_rfl
theorem ar46 : arE Try.prog 46 = some (32, 5, 1) := by kernel_rfl
theorem sz5 : szT Try.prog 5 = some 1 := by kernel_rfl
end Fx
set_option maxHeartbeats 1000000 in
theorem meta_ok (xs : List Y) (e : Int) (bad : Bool) (s : Sh) (br b : Nat) (G : PM) (hs : SlR G 1 encY s xs) (hl : xs.length ≤ 100000000000000) : Ct Try.prog 38 ([.pointer (some ⟨br, 0, none⟩)] : List Value).toArray G [.blk br (cl [.pointer (some ⟨b, 0, none⟩), .bool bad] 69), .blk b (cl [Sh.val s xs.length, .int .i64 e] 101)] (fun G' μ' u => ∃ m L e' s' bad', MetaT ⟨xs, e⟩ ⟨L, e'⟩ bad bad' m ∧ L.length ≤ xs.length ∧ μ' = [.blk br (cl [.pointer (some ⟨b, 0, none⟩), .bool bad'] 69), .blk b (cl [Sh.val s' L.length, .int .i64 e'] 101)] ∧ u = Meta.val m ∧ SlR G' 1 encY s' L) := by
  refine Ct.of Try.func38 rfl Try.ntmps38 rfl fun w0 hs0 => ?_
  refine .seq ?_
  refine Wk.rg [0] rfl rfl ?_
  refine al rfl Fx.zq48 ?_; intro b2
  refine .nil ?_
  refine .code ?_
  refine .seq ?_
  refine Wk.rg [0, 1, 2, 3, 4, 5] rfl rfl ?_
  refine mv rfl .no (.u rfl) ?_
  refine ka rfl (.inr rfl) Fx.go37 (Eva.cons (.u rfl) (Eva.cons (.u rfl) Eva.nil)) (mtk2 (.there .here) (.there .here)) (upTo_ok xs e bad s br b _ hs (by omega) 255) ?_
  rintro _ G6 μ6 hG6 ⟨n6, L6, e6, s6, bad6, hN6, hb6, rfl, rfl, hs6⟩
  have lL6 := rdnum_le hN6; have nL6 := rdnum_lt hN6; simp only at lL6
  have hs := hs.mono hG6
  refine cv rfl .no Fx.cv24_5 (.u rfl) ?_
  refine bCe (([.int .u8 (IntKind.u8.wrap (n6 : Int)), .int .u64 0, .int .u64 0, .int .u64 0, .int .i64 0, .int .i64 0, .string ByteArray.empty, .string ByteArray.empty] ++ ba 32 (fun _ => 0#8))) rfl .no Fx.bp48_0 (.cons (.u rfl) rfl .nil) rfl (rfl) ?_
  refine al rfl Fx.zq48 ?_; intro b3
  refine sw rfl (.u rfl) (.u rfl) rfl Fx.sz48 .here (by first | exact (ba_len _ _).trans (ba_len _ _).symm | exact (wa_len _ _).trans (wa_len _ _).symm | exact ba_len _ _ | exact wa_len _ _ | rfl | (simp only [wa_len, ba_len, List.length_append, List.length_cons, List.length_nil])) (mone rfl rfl rfl rfl rfl rfl rfl rfl) ?_
  refine .nil ?_
  refine .code ?_
  refine .seq ?_
  refine Wk.rg [0, 1, 2, 3, 4, 5, 6] rfl rfl ?_
  refine mv rfl .no (.u rfl) ?_
  refine nc rfl .no (.u rfl) ?_
  refine fz rfl .no Fx.fo69_0 (.u rfl) ?_
  refine ld rfl .no Fx.ag66 (.u rfl) (fun _ => Rd.own (.there .here) (by first | exact wap_f rfl | rfl)) ?_
  refine ka rfl (.inr rfl) Fx.go36 (Eva.cons (.u rfl) Eva.nil) (mtk1 (.there (.there .here))) (rNum_ok L6 e6 s6 b _ hs6 (by omega)) ?_
  rintro _ G13 μ13 hG13 ⟨n13, L13, e13, s13, hN13, rfl, rfl, hs13⟩
  have lL13 := rdnum_le hN13; have nL13 := rdnum_lt hN13; simp only at lL13
  have hs := hs.mono hG13
  have hs6 := hs6.mono hG13
  refine fz rfl .no Fx.fo48_1 (.u rfl) ?_
  refine s1 rfl (.u rfl) (.u rfl) rfl Fx.sz24 (.there .here) (show 1 < 40 by decide) (rfl) ?_
  refine .nil ?_
  refine .code ?_
  refine .seq ?_
  refine Wk.rg [0, 1, 2, 3, 4, 5, 6] rfl rfl ?_
  refine mv rfl .no (.u rfl) ?_
  refine nc rfl .no (.u rfl) ?_
  refine fz rfl .no Fx.fo69_0 (.u rfl) ?_
  refine ld rfl .no Fx.ag66 (.u rfl) (fun _ => Rd.own (.there (.there .here)) (by first | exact wap_f rfl | rfl)) ?_
  refine ka rfl (.inr rfl) Fx.go36 (Eva.cons (.u rfl) Eva.nil) (mtk1 (.there .here)) (rNum_ok L13 e13 s13 b _ hs13 (by omega)) ?_
  rintro _ G19 μ19 hG19 ⟨n19, L19, e19, s19, hN19, rfl, rfl, hs19⟩
  have lL19 := rdnum_le hN19; have nL19 := rdnum_lt hN19; simp only at lL19
  have hs := hs.mono hG19
  have hs6 := hs6.mono hG19
  have hs13 := hs13.mono hG19
  refine fz rfl .no Fx.fo48_2 (.u rfl) ?_
  refine s1 rfl (.u rfl) (.u rfl) rfl Fx.sz24 (.there .here) (show 2 < 40 by decide) (rfl) ?_
  refine .nil ?_
  refine .code ?_
  refine .seq ?_
  refine Wk.rg [0, 1, 2, 3, 4, 5, 6] rfl rfl ?_
  refine mv rfl .no (.u rfl) ?_
  refine nc rfl .no (.u rfl) ?_
  refine fz rfl .no Fx.fo69_0 (.u rfl) ?_
  refine ld rfl .no Fx.ag66 (.u rfl) (fun _ => Rd.own (.there (.there .here)) (by first | exact wap_f rfl | rfl)) ?_
  refine ka rfl (.inr rfl) Fx.go36 (Eva.cons (.u rfl) Eva.nil) (mtk1 (.there .here)) (rNum_ok L19 e19 s19 b _ hs19 (by omega)) ?_
  rintro _ G25 μ25 hG25 ⟨n25, L25, e25, s25, hN25, rfl, rfl, hs25⟩
  have lL25 := rdnum_le hN25; have nL25 := rdnum_lt hN25; simp only at lL25
  have hs := hs.mono hG25
  have hs6 := hs6.mono hG25
  have hs13 := hs13.mono hG25
  have hs19 := hs19.mono hG25
  refine fz rfl .no Fx.fo48_3 (.u rfl) ?_
  refine s1 rfl (.u rfl) (.u rfl) rfl Fx.sz24 (.there .here) (show 3 < 40 by decide) (rfl) ?_
  refine .nil ?_
  refine .code ?_
  refine .seq ?_
  refine Wk.rg [0, 1, 2, 3, 4] rfl rfl ?_
  refine mv rfl .no (.u rfl) ?_
  refine ka rfl (.inr rfl) Fx.go37 (Eva.cons (.u rfl) (Eva.cons (.u rfl) Eva.nil)) (mtk2 (.there (.there .here)) (.there .here)) (upTo_ok L25 e25 bad6 s25 br b _ hs25 (by omega) 9223372036854775807) ?_
  rintro _ G28 μ28 hG28 ⟨n28, L28, e28, s28, bad28, hN28, hb28, rfl, rfl, hs28⟩
  have lL28 := rdnum_le hN28; have nL28 := rdnum_lt hN28; simp only at lL28
  have hs := hs.mono hG28
  have hs6 := hs6.mono hG28
  have hs13 := hs13.mono hG28
  have hs19 := hs19.mono hG28
  have hs25 := hs25.mono hG28
  refine cv rfl .no Fx.cv24_3 (.u rfl) ?_
  refine fz rfl .no Fx.fo48_4 (.u rfl) ?_
  refine s1 rfl (.u rfl) (.u rfl) rfl Fx.sz3 (.there (.there .here)) (show 4 < 40 by decide) (rfl) ?_
  refine .nil ?_
  refine .code ?_
  refine .seq ?_
  refine Wk.rg [0, 1, 2, 3, 4] rfl rfl ?_
  refine mv rfl .no (.u rfl) ?_
  refine ka rfl (.inr rfl) Fx.go37 (Eva.cons (.u rfl) (Eva.cons (.u rfl) Eva.nil)) (mtk2 (.there .here) (.there .here)) (upTo_ok L28 e28 bad28 s28 br b _ hs28 (by omega) 9223372036854775807) ?_
  rintro _ G32 μ32 hG32 ⟨n32, L32, e32, s32, bad32, hN32, hb32, rfl, rfl, hs32⟩
  have lL32 := rdnum_le hN32; have nL32 := rdnum_lt hN32; simp only at lL32
  have hs := hs.mono hG32
  have hs6 := hs6.mono hG32
  have hs13 := hs13.mono hG32
  have hs19 := hs19.mono hG32
  have hs25 := hs25.mono hG32
  have hs28 := hs28.mono hG32
  refine cv rfl .no Fx.cv24_3 (.u rfl) ?_
  refine fz rfl .no Fx.fo48_5 (.u rfl) ?_
  refine s1 rfl (.u rfl) (.u rfl) rfl Fx.sz3 (.there (.there .here)) (show 5 < 40 by decide) (rfl) ?_
  refine .nil ?_
  refine .code ?_
  refine .seq ?_
  refine Wk.rg [0, 1, 2, 3, 4, 5, 6] rfl rfl ?_
  refine mv rfl .no (.u rfl) ?_
  refine nc rfl .no (.u rfl) ?_
  refine fz rfl .no Fx.fo69_0 (.u rfl) ?_
  refine ld rfl .no Fx.ag66 (.u rfl) (fun _ => Rd.own (.there .here) (by first | exact wap_f rfl | rfl)) ?_
  refine ka rfl (.inr rfl) Fx.go61 (Eva.cons (.u rfl) (Eva.cons (.u rfl) Eva.nil)) (mtk1 (.there (.there .here))) (rStr_ok L32 e32 s32 b _ hs32 (by omega) 1024 (by decide)) ?_
  rintro _ G39 μ39 hG39 ⟨M39, L39, e39, s39, hN39, rfl, rfl, hs39⟩
  have lL39 := rdstr_le hN39; simp only at lL39
  have hs := hs.mono hG39
  have hs6 := hs6.mono hG39
  have hs13 := hs13.mono hG39
  have hs19 := hs19.mono hG39
  have hs25 := hs25.mono hG39
  have hs28 := hs28.mono hG39
  have hs32 := hs32.mono hG39
  refine fz rfl .no Fx.fo48_6 (.u rfl) ?_
  refine s1 rfl (.u rfl) (.u rfl) rfl Fx.sz9 (.there .here) (show 6 < 40 by decide) (rfl) ?_
  refine .nil ?_
  refine .code ?_
  refine .seq ?_
  refine Wk.rg [0, 1, 2, 3, 4, 5, 6] rfl rfl ?_
  refine mv rfl .no (.u rfl) ?_
  refine nc rfl .no (.u rfl) ?_
  refine fz rfl .no Fx.fo69_0 (.u rfl) ?_
  refine ld rfl .no Fx.ag66 (.u rfl) (fun _ => Rd.own (.there (.there .here)) (by first | exact wap_f rfl | rfl)) ?_
  refine ka rfl (.inr rfl) Fx.go61 (Eva.cons (.u rfl) (Eva.cons (.u rfl) Eva.nil)) (mtk1 (.there .here)) (rStr_ok L39 e39 s39 b _ hs39 (by omega) 1024 (by decide)) ?_
  rintro _ G45 μ45 hG45 ⟨M45, L45, e45, s45, hN45, rfl, rfl, hs45⟩
  have lL45 := rdstr_le hN45; simp only at lL45
  have hs := hs.mono hG45
  have hs6 := hs6.mono hG45
  have hs13 := hs13.mono hG45
  have hs19 := hs19.mono hG45
  have hs25 := hs25.mono hG45
  have hs28 := hs28.mono hG45
  have hs32 := hs32.mono hG45
  have hs39 := hs39.mono hG45
  refine fz rfl .no Fx.fo48_7 (.u rfl) ?_
  refine s1 rfl (.u rfl) (.u rfl) rfl Fx.sz9 (.there .here) (show 7 < 40 by decide) (rfl) ?_
  refine .nil ?_
  refine .code ?_
  refine .seq ?_
  refine .seq ?_
  refine Wk.rg [0] rfl rfl ?_
  refine mv rfl .no (.u rfl) ?_
  refine .nil ?_
  refine .code ?_
  refine .block ?_
  refine Wk.lop (α := Nat × List Y × Int × Sh × (Nat → Y) × List Y) (fun gh => [(47, true, .int .i64 (gh.1 : Int))]) (fun gh => [.blk b3 (cl ([.int .u8 (IntKind.u8.wrap (n6 : Int)), .int .u64 (n13 : Int), .int .u64 (n19 : Int), .int .u64 (n25 : Int), .int .i64 (IntKind.i64.wrap (n28 : Int)), .int .i64 (IntKind.i64.wrap (n32 : Int)), .string (bstr M39), .string (bstr M45)] ++ ba 32 gh.2.2.2.2.1) 48), .blk b (cl [Sh.val gh.2.2.2.1 gh.2.1.length, .int .i64 gh.2.2.1] 101)])
    (fun gh Gl => (gh.1 ≤ 32) ∧ (gh.2.2.2.2.2.length = gh.1) ∧ (ByR ⟨L45, e45⟩ ⟨gh.2.1, gh.2.2.1⟩ bad32 gh.2.2.2.2.2) ∧ (∀ i, gh.2.2.2.2.1 i = gh.2.2.2.2.2.getD i 0) ∧ (gh.2.1.length ≤ 100000000000000) ∧ (gh.2.1.length ≤ xs.length) ∧ (SlR Gl 1 encY gh.2.2.2.1 gh.2.1)) (fun gh => 32 - gh.1) (0, L45, e45, s45, (fun _ => 0#8), []) [(0, true, _), (2, true, _), (3, true, _)] [_, _]
    (ESub.cons rfl (by first | rfl | exact evi (by omega)) (ESub.cons rfl rfl (ESub.cons rfl rfl (ESub.cons rfl rfl ESub.nil))))
    (MSub.cons .here rfl (MSub.cons .here rfl (MSub.cons .here rfl (MSub.cons .here rfl MSub.nil)))) ?_ ?_
  · refine ⟨?_, ?_, ?_, ?_, ?_, ?_, ?_⟩
    · (try dsimp only) <;> (first | omega | rfl | assumption | (simp; done))
    · (try dsimp only) <;> (first | omega | rfl | assumption | (simp; done))
    · (try dsimp only) <;> (exact ByR.zero)
    · (try dsimp only) <;> (exact fun i => by simp)
    · (try dsimp only) <;> (first | omega | rfl | assumption | (simp; done))
    · (try dsimp only) <;> (first | omega | rfl | assumption | (simp; done))
    · (try dsimp only) <;> (exact hs45)
  intro gh N0 Gl0 hN0 hGl0 hF0
  obtain ⟨k, L, ee, s9, f, rt⟩ := gh; dsimp only at hF0 hN0 ⊢
  obtain ⟨hk, hr, hB, ef, lL, lX, hsl⟩ := hF0
  have hs := hs.mono hGl0
  have hs6 := hs6.mono hGl0
  have hs13 := hs13.mono hGl0
  have hs19 := hs19.mono hGl0
  have hs25 := hs25.mono hGl0
  have hs28 := hs28.mono hGl0
  have hs32 := hs32.mono hGl0
  have hs39 := hs39.mono hGl0
  have hs45 := hs45.mono hGl0
  refine .seq ?_
  refine Wk.rg [0] rfl rfl ?_
  refine cp rfl .no (.u rfl) (.u rfl) rfl ?_
  refine .nil ?_
  refine .code ?_
  refine .seq ?_
  refine .cond rfl (fun c1 => ?_) (fun c1 => ?_)
  · have c1k := c1
    try simp only [decide_eq_true_eq, decide_eq_false_iff_not, Int.not_lt, Int.not_le, gt_iff_lt, ge_iff_le, Bool.or_eq_true, Bool.and_eq_true, Bool.or_eq_false_iff, Bool.and_eq_false_iff, Bool.not_eq_true', Bool.not_eq_false', Int.toNat_natCast, bne_iff_ne, beq_iff_eq, bne_eq_false_iff_eq, beq_eq_false_iff_ne, ne_eq] at c1
    refine .skip ?_
    refine .code ?_
    refine .seq ?_
    refine .block ?_
    refine .seq ?_
    refine Wk.rg [0, 1] rfl rfl ?_
    refine mv rfl .no (.u rfl) ?_
    refine asg rfl .no (.u rfl) ?_
    refine .nil ?_
    refine .code ?_
    refine Wk.rg [0, 1, 2, 3, 4, 5, 6, 7, 8, 9] rfl rfl ?_
    refine mv rfl .no (.u rfl) ?_
    refine mv rfl .no (.u rfl) ?_
    refine nc rfl .no (.u rfl) ?_
    refine fz rfl .no Fx.fo69_0 (.u rfl) ?_
    refine ld rfl .no Fx.ag66 (.u rfl) (fun _ => Rd.own (.there (.there .here)) (by first | exact wap_f rfl | rfl)) ?_
    refine ka rfl (.inr rfl) Fx.go62 (Eva.cons (.u rfl) (Eva.cons (.u rfl) Eva.nil)) (mtk1 (.there .here)) (rFix_ok L ee s9 b _ hsl lL) ?_
    rintro _ G55 μ55 hG55 ⟨y55, L55, e55, s55, hN55, rfl, rfl, hs55⟩
    have lL55 := rdbyte_le hN55; simp only at lL55
    have hs := hs.mono hG55
    have hs6 := hs6.mono hG55
    have hs13 := hs13.mono hG55
    have hs19 := hs19.mono hG55
    have hs25 := hs25.mono hG55
    have hs28 := hs28.mono hG55
    have hs32 := hs32.mono hG55
    have hs39 := hs39.mono hG55
    have hs45 := hs45.mono hG55
    have hsl := hsl.mono hG55
    refine cu (k := .u64) rfl .no rfl Fx.cv24_5 (.u rfl) ?_
    refine fz rfl .no Fx.fo48_8 (.u rfl) ?_
    refine iA rfl .no Fx.ar46 (.u rfl) (.u rfl) (fun _ => by omega) (fun _ => by omega) ?_
    refine s1 rfl (.u rfl) (.u rfl) rfl Fx.sz5 (.there .here) (by show _ < 40; omega) (mset (k := k) (by omega)) ?_
    refine .nil ?_
    refine .blk ?_
    refine .code ?_
    refine Wk.rg [0, 1] rfl rfl ?_
    refine arn (((k + 1) : Nat) : Int) rfl .no (.u rfl) (.u rfl) rfl (fun _ => by omega) (fun _ => wrap_i64 (by omega) (by omega)) ?_
    refine mv rfl .no (.u rfl) ?_
    refine .nil ?_
    refine We.lpo (k + 1, L55, e55, s55, upd f k ((y55.setWidth 64).setWidth 8), rt ++ [y55]) ?_ ?_ ?_ ?_ ?_
    · exact (ESub.cons rfl (by first | rfl | exact evi (by omega)) (ESub.cons rfl rfl (ESub.cons rfl rfl (ESub.cons rfl rfl ESub.nil))))
    · exact (MSub.cons .here rfl (MSub.cons .here rfl (MSub.cons .here rfl (MSub.cons .here rfl MSub.nil))))
    · first | omega | (dsimp only; omega)
    · exact (hGl0).trans hG55
    · refine ⟨?_, ?_, ?_, ?_, ?_, ?_, ?_⟩
      · (try dsimp only) <;> (first | omega | rfl | assumption | (simp; done))
      · (try dsimp only) <;> (simp [hr])
      · (try dsimp only) <;> (exact hB.step (by omega) hN55)
      · (try dsimp only) <;> (exact rt_step hr ef)
      · (try dsimp only) <;> (first | omega | rfl | assumption | (simp; done))
      · (try dsimp only) <;> (first | omega | rfl | assumption | (simp; done))
      · (try dsimp only) <;> (exact hs55)
  · have c1k := c1
    try simp only [decide_eq_true_eq, decide_eq_false_iff_not, Int.not_lt, Int.not_le, gt_iff_lt, ge_iff_le, Bool.or_eq_true, Bool.and_eq_true, Bool.or_eq_false_iff, Bool.and_eq_false_iff, Bool.not_eq_true', Bool.not_eq_false', Int.toNat_natCast, bne_iff_ne, beq_iff_eq, bne_eq_false_iff_eq, beq_eq_false_iff_ne, ne_eq] at c1
    refine .exit ?_
    refine .xcode ?_
    refine .xlp ?_
    refine .xblk ?_
    refine .code ?_
    refine .seq ?_
    refine Wk.rg [0, 1] rfl rfl ?_
    refine lA rfl .no Fx.ag48 (.u rfl) (fun _ => RdN.own .here) (fun _ => (by first | exact (ba_len _ _).trans (ba_len _ _).symm | exact (wa_len _ _).trans (wa_len _ _).symm | exact ba_len _ _ | exact wa_len _ _ | rfl | (simp only [wa_len, ba_len, List.length_append, List.length_cons, List.length_nil]))) ?_
    refine sw rfl (.u rfl) (.u rfl) rfl Fx.sz48 (.there (.there (.there .here))) (by first | exact (ba_len _ _).trans (ba_len _ _).symm | exact (wa_len _ _).trans (wa_len _ _).symm | exact ba_len _ _ | exact wa_len _ _ | rfl | (simp only [wa_len, ba_len, List.length_append, List.length_cons, List.length_nil])) (mone rfl rfl rfl rfl rfl rfl rfl rfl) ?_
    refine .nil ?_
    refine .code ?_
    refine .ret ?_
    refine We.fin Try.results38 (.cell rfl (fun w hw => run_loadVarN Fx.ag48 (RdN.own .here) ((by first | exact (ba_len _ _).trans (ba_len _ _).symm | exact (wa_len _ _).trans (wa_len _ _).symm | exact ba_len _ _ | exact wa_len _ _ | rfl | (simp only [wa_len, ba_len, List.length_append, List.length_cons, List.length_nil]))) hw) .nil) (MSub.cons (.there (.there (.there .here))) rfl (MSub.cons (.there (.there .here)) rfl MSub.nil)) ?_
    obtain rfl : k = 32 := by omega
    exact ⟨_, L, ee, s9, bad32, metaT hN6 hb6 w_u8 hN13 hN19 hN25 hN28 hb28 w_i64 hN32 hb32 w_i64 hN39 hN45 hB hr (funext fun i => by rw [← ef i]; rfl), lX, rfl, rfl, hsl⟩

end Go.Proofs.Ytnhdaaggkdegpaa
