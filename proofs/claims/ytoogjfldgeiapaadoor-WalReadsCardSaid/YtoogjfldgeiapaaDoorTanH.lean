/- Words: operations on unsigned numbers, told of bit vectors. No condition. -/
import Derived.Test.YtoogjfldgeiapaaDoorTanG
namespace Go.Tan
open Go.RowKit
/-- an unsigned number of a kind's width -/
def uv (k : IntKind) (x : BitVec k.bits) : Value := .int k (x.toNat : Int)
theorem wrap_nat {k : IntKind} (hk : k.signed = false) (n : Nat) : k.wrap (n : Int) = ((BitVec.ofNat k.bits n).toNat : Int) := by
  simp [IntKind.wrap, hk]
section
variable {dr : Bool} {mc : Md} {P : Program} {n : Nat} {l : List Oper} {K : Env → PM → Mem → Prop} {i : Nat} {σ : List Nat} {ρ : Env} {G : PM} {μ : Mem}
variable {d t : Nat} {p : String} {af : Array Edge} {g : Option (Nat × Bool)} {c : Bool}
def bitB (op : BinOp) {w : Nat} (x y : BitVec w) : Option (BitVec w) :=
  match op with
  | .and => some (x &&& y)
  | .or => some (x ||| y)
  | .xor => some (x ^^^ y)
  | .andNot => some (x &&& ~~~y)
  | .add => some (x + y)
  | .sub => some (x - y)
  | .mul => some (x * y)
  | _ => none
theorem wrap_uv {k : IntKind} (hk : k.signed = false) (z : BitVec k.bits) : k.wrap (z.toNat : Int) = (z.toNat : Int) := by rw [wrap_nat hk]; simp
theorem wrap_ofInt {k : IntKind} (hk : k.signed = false) (z : Int) : k.wrap z = ((BitVec.ofInt k.bits z).toNat : Int) := by
  simp [IntKind.wrap, hk, BitVec.toNat_ofInt]
  exact (Int.max_eq_left (Int.emod_nonneg _ (Int.pow_ne_zero (by decide)))).symm
theorem run_bits {op : BinOp} {k : IntKind} {x y r : BitVec k.bits} (hk : k.signed = false) (T : TypeId) (h : bitB op x y = some r) (w : World) : (binOp op T (uv k x) (uv k y)).run P w = .ok (uv k r) w := by
  have hofi : ∀ z : BitVec k.bits, BitVec.ofInt k.bits (z.toNat : Int) = z := fun z => by simp
  cases op <;> simp only [bitB, Option.some.injEq, reduceCtorEq] at h <;> subst h
  case and => simp only [binOp, uv, Op.intBits, hofi, wrap_uv hk, ne_eq, not_true_eq_false, if_false]; rfl
  case or => simp only [binOp, uv, Op.intBits, hofi, wrap_uv hk, ne_eq, not_true_eq_false, if_false]; rfl
  case xor => simp only [binOp, uv, Op.intBits, hofi, wrap_uv hk, ne_eq, not_true_eq_false, if_false]; rfl
  case andNot => simp only [binOp, uv, Op.intBits, hofi, wrap_uv hk, ne_eq, not_true_eq_false, if_false]; rfl
  case add =>
    have : k.wrap ((x.toNat : Int) + (y.toNat : Int)) = ((x + y).toNat : Int) := by
      rw [wrap_ofInt hk, BitVec.ofInt_add, hofi, hofi]
    simp only [binOp, uv, Op.intArith, this, ne_eq, not_true_eq_false, if_false]; rfl
  case sub =>
    have : k.wrap ((x.toNat : Int) - (y.toNat : Int)) = ((x - y).toNat : Int) := by
      rw [wrap_ofInt hk, Int.sub_eq_add_neg, BitVec.ofInt_add, BitVec.ofInt_neg, hofi, hofi, ← BitVec.sub_eq_add_neg]
    simp only [binOp, uv, Op.intArith, this, ne_eq, not_true_eq_false, if_false]; rfl
  case mul =>
    have : k.wrap ((x.toNat : Int) * (y.toNat : Int)) = ((x * y).toNat : Int) := by
      rw [wrap_ofInt hk, BitVec.ofInt_mul, hofi, hofi]
    simp only [binOp, uv, Op.intArith, this, ne_eq, not_true_eq_false, if_false]; rfl
theorem run_shl {k k' : IntKind} {x : BitVec k.bits} {m : Int} (hk : k.signed = false) (h0 : 0 ≤ m) (T : TypeId) (w : World) : (binOp .shl T (uv k x) (.int k' m)).run P w = .ok (uv k (x <<< m.toNat)) w := by
  have : k.wrap ((x.toNat : Int) * 2 ^ (min m.toNat k.bits)) = ((x <<< m.toNat).toNat : Int) := by
    rw [show (x.toNat : Int) * 2 ^ (min m.toNat k.bits) = ((x.toNat * 2 ^ (min m.toNat k.bits) : Nat) : Int) by simp, wrap_nat hk]
    congr 1
    rw [BitVec.toNat_ofNat, BitVec.toNat_shiftLeft, Nat.shiftLeft_eq]
    rcases Nat.le_total m.toNat k.bits with h | h
    · rw [Nat.min_eq_left h]
    · rw [Nat.min_eq_right h, Nat.mul_mod_left]
      obtain ⟨q, hq⟩ := Nat.le.dest h
      rw [← hq, Nat.pow_add, Nat.mul_comm (2 ^ k.bits), ← Nat.mul_assoc, Nat.mul_mod_left]
  simp only [binOp, uv, Op.shift, if_neg (show ¬ m < 0 by omega), this]; rfl
theorem run_shr {k k' : IntKind} {x : BitVec k.bits} {m : Int} (h0 : 0 ≤ m) (T : TypeId) (w : World) : (binOp .shr T (uv k x) (.int k' m)).run P w = .ok (uv k (x >>> m.toNat)) w := by
  have : (x.toNat : Int).fdiv (2 ^ (min m.toNat k.bits)) = ((x >>> m.toNat).toNat : Int) := by
    rw [show ((2 : Int) ^ (min m.toNat k.bits)) = ((2 ^ (min m.toNat k.bits) : Nat) : Int) by simp, Int.fdiv_eq_ediv_of_nonneg _ (Int.natCast_nonneg _), ← Int.natCast_ediv, BitVec.toNat_ushiftRight, Nat.shiftRight_eq_div_pow]
    congr 1
    rcases Nat.le_total m.toNat k.bits with h | h
    · rw [Nat.min_eq_left h]
    · rw [Nat.min_eq_right h, Nat.div_eq_of_lt x.isLt, Nat.div_eq_of_lt (Nat.lt_of_lt_of_le x.isLt (Nat.pow_le_pow_right (by decide) h))]
  simp only [binOp, uv, Op.shift, if_neg (show ¬ m < 0 by omega), this]; rfl
/-- '+', '-', '*', '&', '|', '^', '&^' of words -/
theorem bw {op : BinOp} {T T' : TypeId} {x y : Operand} {k : IntKind} {a b r : BitVec k.bits} (ho : nth l i = some ⟨some d, .binOp op T x y T', t, p, af, g⟩) (hg : Gd l ρ g c) (hk : k.signed = false) (hx : Ev ρ c x (uv k a)) (hy : Ev ρ c y (uv k b)) (hr : bitB op a b = some r)
    (h : Wo dr mc P n l K σ ((d, c, uv k r) :: ρ) G μ) : Wo dr mc P n l K (i :: σ) ρ G μ :=
  .pure ho (.inl rfl) hg (fun hc q w ha => by
    have e1 := hx.eval ha hc; have e2 := hy.eval ha hc
    have hq : (eqGuard op T x y (uv k a) (uv k b)).run P w = .ok () w := eqGuard_int ..
    simp [execOp, e1, e2, hq, run_bits hk T hr]) h
theorem lw {T T' : TypeId} {x y : Operand} {k k' : IntKind} {a : BitVec k.bits} {m : Int} (ho : nth l i = some ⟨some d, .binOp .shl T x y T', t, p, af, g⟩) (hg : Gd l ρ g c) (hk : k.signed = false) (hx : Ev ρ c x (uv k a)) (hy : Ev ρ c y (.int k' m)) (h0 : c = true → 0 ≤ m)
    (h : Wo dr mc P n l K σ ((d, c, uv k (a <<< m.toNat)) :: ρ) G μ) : Wo dr mc P n l K (i :: σ) ρ G μ :=
  .pure ho (.inl rfl) hg (fun hc q w ha => by
    have e1 := hx.eval ha hc; have e2 := hy.eval ha hc
    have hq : (eqGuard .shl T x y (uv k a) (.int k' m)).run P w = .ok () w := eqGuard_int ..
    simp [execOp, e1, e2, hq, run_shl hk (h0 hc) T]) h
theorem rw' {T T' : TypeId} {x y : Operand} {k k' : IntKind} {a : BitVec k.bits} {m : Int} (ho : nth l i = some ⟨some d, .binOp .shr T x y T', t, p, af, g⟩) (hg : Gd l ρ g c) (hx : Ev ρ c x (uv k a)) (hy : Ev ρ c y (.int k' m)) (h0 : c = true → 0 ≤ m)
    (h : Wo dr mc P n l K σ ((d, c, uv k (a >>> m.toNat)) :: ρ) G μ) : Wo dr mc P n l K (i :: σ) ρ G μ :=
  .pure ho (.inl rfl) hg (fun hc q w ha => by
    have e1 := hx.eval ha hc; have e2 := hy.eval ha hc
    have hq : (eqGuard .shr T x y (uv k a) (.int k' m)).run P w = .ok () w := eqGuard_int ..
    simp [execOp, e1, e2, hq, run_shr (h0 hc) T]) h
/-- from one width to another -/
theorem cu {S D : TypeId} {x : Operand} {k k' : IntKind} {a : BitVec k.bits} (ho : nth l i = some ⟨some d, .convert S D x, t, p, af, g⟩) (hg : Gd l ρ g c) (hk' : k'.signed = false) (hk : cvK P S D = some k') (hx : Ev ρ c x (uv k a))
    (h : Wo dr mc P n l K σ ((d, c, uv k' (a.setWidth k'.bits)) :: ρ) G μ) : Wo dr mc P n l K (i :: σ) ρ G μ :=
  cv ho hg hk hx (by
    have : k'.wrap (a.toNat : Int) = ((a.setWidth k'.bits).toNat : Int) := by rw [wrap_nat hk']; simp
    rw [this]; exact h)
/-- from a number to a word -/
theorem ci {S D : TypeId} {x : Operand} {k k' : IntKind} {a : Int} (ho : nth l i = some ⟨some d, .convert S D x, t, p, af, g⟩) (hg : Gd l ρ g c) (hk' : k'.signed = false) (hk : cvK P S D = some k') (hx : Ev ρ c x (.int k a))
    (h : Wo dr mc P n l K σ ((d, c, uv k' (BitVec.ofInt k'.bits a)) :: ρ) G μ) : Wo dr mc P n l K (i :: σ) ρ G μ :=
  cv ho hg hk hx (by rw [wrap_ofInt hk']; exact h)
/-! ## Slices of arrays, slices with an open end -/
theorem add_zero' (a : Addr) : a.add 0 = a := by simp [Addr.add]
theorem sa0 {T m e sz : Nat} {x : Operand} {b o : Nat} (ho : nth l i = some ⟨some d, .slice T x none none none, t, p, af, g⟩) (hg : Gd l ρ g c) (hT : arE P T = some (m, e, sz)) (hx : Ev ρ c x (.pointer (some ⟨b, o, none⟩)))
    (h : Wo dr mc P n l K σ ((d, c, .slice (some ⟨b, o, none⟩) m m) :: ρ) G μ) : Wo dr mc P n l K (i :: σ) ρ G μ :=
  .pure ho (.inl rfl) hg (fun hc a w ha => by
    obtain ⟨hu, inf, hi, hs⟩ := arE_some hT
    simp [execOp, hx.eval ha hc, Instr.sliceAt, run_underlying hu, Instr.sureAddr, Instr.sliceBounds, sizeOf, typeInfo, hi, add_zero']) h
theorem sal {T m e sz : Nat} {x y : Operand} {k : IntKind} {b o : Nat} {lo : Int} (ho : nth l i = some ⟨some d, .slice T x (some y) none none, t, p, af, g⟩) (hg : Gd l ρ g c) (hT : arE P T = some (m, e, sz)) (hx : Ev ρ c x (.pointer (some ⟨b, o, none⟩))) (hy : Ev ρ c y (.int k lo))
    (h0 : c = true → 0 ≤ lo) (h1 : c = true → lo < m) (h : Wo dr mc P n l K σ ((d, c, .slice (some ⟨b, o + lo.toNat * sz, none⟩) (m - lo.toNat) (m - lo.toNat)) :: ρ) G μ) : Wo dr mc P n l K (i :: σ) ρ G μ :=
  .pure ho (.inl rfl) hg (fun hc a w ha => by
    obtain ⟨hu, inf, hi, hs⟩ := arE_some hT
    have e0 := h0 hc; have e1 := h1 hc
    have hne : m ≠ lo.toNat := by omega
    have hle : lo ≤ (m : Int) := by omega
    simp [execOp, hx.eval ha hc, hy.eval ha hc, Instr.sliceAt, run_underlying hu, Instr.sureAddr, Instr.sliceBounds, Instr.sliceBound, asIntOf, sizeOf, typeInfo, hi, e0, hle, hne, add_lit, hs]) h
theorem sab {T m e sz : Nat} {x y z : Operand} {k k' : IntKind} {b o : Nat} {lo hi : Int} (ho : nth l i = some ⟨some d, .slice T x (some y) (some z) none, t, p, af, g⟩) (hg : Gd l ρ g c) (hT : arE P T = some (m, e, sz)) (hx : Ev ρ c x (.pointer (some ⟨b, o, none⟩))) (hy : Ev ρ c y (.int k lo)) (hz : Ev ρ c z (.int k' hi))
    (h0 : c = true → 0 ≤ lo) (h1 : c = true → lo ≤ hi) (h2 : c = true → hi ≤ m) (h3 : c = true → lo < m) (h : Wo dr mc P n l K σ ((d, c, .slice (some ⟨b, o + lo.toNat * sz, none⟩) (hi.toNat - lo.toNat) (m - lo.toNat)) :: ρ) G μ) : Wo dr mc P n l K (i :: σ) ρ G μ :=
  .pure ho (.inl rfl) hg (fun hc a w ha => by
    obtain ⟨hu, inf, hi', hs⟩ := arE_some hT
    have e0 := h0 hc; have e1 := h1 hc; have e2 := h2 hc; have e3 := h3 hc
    have hne : m ≠ lo.toNat := by omega
    have hhi : 0 ≤ hi := by omega
    simp [execOp, hx.eval ha hc, hy.eval ha hc, hz.eval ha hc, Instr.sliceAt, run_underlying hu, Instr.sureAddr, Instr.sliceBounds, Instr.sliceBound, asIntOf, sizeOf, typeInfo, hi', e0, e2, hhi, hne, add_lit, hs]
    intro hlt; exfalso; omega) h
theorem sd {T e sz by' : Nat} {x y : Operand} {k : IntKind} {s : Sh} {m : Nat} {lo : Int} (ho : nth l i = some ⟨some d, .slice T x (some y) none none, t, p, af, g⟩) (hg : Gd l ρ g c) (hT : slE P T = some (e, sz, by')) (hx : Ev ρ c x (s.val m)) (hy : Ev ρ c y (.int k lo))
    (h0 : c = true → 0 ≤ lo) (h1 : c = true → lo ≤ m) (h : Wo dr mc P n l K σ ((d, c, (s.cut lo.toNat sz).val (m - lo.toNat)) :: ρ) G μ) : Wo dr mc P n l K (i :: σ) ρ G μ :=
  .pure ho (.inl rfl) hg (fun hc a w ha => by
    obtain ⟨hu, inf, hi', rfl, rfl⟩ := slE_some hT
    have hx' := hx.eval ha hc
    simp only [Sh.val] at hx'
    have e0 := h0 hc; have e1 := h1 hc
    simp [execOp, hx', hy.eval ha hc, Instr.sliceAt, run_underlying hu, Instr.slice, Instr.sliceBounds, Instr.sliceBound, asIntOf, e0, e1, sizeOf, typeInfo, hi', Sh.val, Sh.cut]) h
theorem se {T e sz by' : Nat} {x z : Operand} {k : IntKind} {s : Sh} {m : Nat} {hi : Int} (ho : nth l i = some ⟨some d, .slice T x none (some z) none, t, p, af, g⟩) (hg : Gd l ρ g c) (hT : slE P T = some (e, sz, by')) (hx : Ev ρ c x (s.val m)) (hz : Ev ρ c z (.int k hi))
    (h0 : c = true → 0 ≤ hi) (h1 : c = true → hi ≤ s.cap) (h : Wo dr mc P n l K σ ((d, c, s.val hi.toNat) :: ρ) G μ) : Wo dr mc P n l K (i :: σ) ρ G μ :=
  .pure ho (.inl rfl) hg (fun hc a w ha => by
    obtain ⟨hu, inf, hi', rfl, rfl⟩ := slE_some hT
    have hx' := hx.eval ha hc
    simp only [Sh.val] at hx'
    have e0 := h0 hc; have e1 := h1 hc
    have hid : ∀ oa : Option Addr, oa.map (fun a => a.add 0) = oa := fun oa => by cases oa <;> simp [add_zero']
    simp [execOp, hx', hz.eval ha hc, Instr.sliceAt, run_underlying hu, Instr.slice, Instr.sliceBounds, Instr.sliceBound, asIntOf, e0, e1, sizeOf, typeInfo, hi', Sh.val, hid]) h
/-! ## A row of one's own, opened: from now on a block -/
theorem Tr.openRow {G0 : PM} {K0 : List Nat} {w0 w : World} {E sz m : Nat} {v : Value} {xs : List Value} (h : Tr G0 K0 w0 G (.row v E sz m xs :: μ) w) :
    (v = .slice none 0 0 ∧ m = 0 ∧ xs = [] ∧ Tr G0 K0 w0 G μ w) ∨ ∃ g cap ys, v = .slice (some ⟨g, 0, none⟩) m cap ∧ m ≤ cap ∧ Tr G0 K0 w0 G (.blk g (cl (xs ++ ys) E) :: μ) w := by
  have hrow : w.ownsRow 0 E sz v m xs := h.sat.own _ (List.mem_cons_self ..)
  have hnd := h.sat.nodup
  rcases hrow.2 with ⟨rfl, rfl⟩ | ⟨g, cap, cur, rfl, _, hg, hnc, hcm, hcs, htake⟩
  · have hx : xs = [] := List.eq_nil_of_length_eq_zero (by simpa using hrow.1)
    subst hx
    exact .inl ⟨rfl, rfl, rfl, Tr.left (ν := [.row (.slice none 0 0) E sz 0 []]) (h.perm (List.perm_append_comm (l₁ := [Res.row (.slice none 0 0) E sz 0 []])))⟩
  · have hk : keys (.row (.slice (some ⟨g, 0, none⟩) m cap) E sz m xs :: μ) = g :: keys μ := by simp [keys, Res.keys, Value.ownBlock]
    have hk' : keys (.blk g (.cells cur E (0, 0)) :: μ) = g :: keys μ := by simp [keys, Res.keys]
    rw [hk] at hnd
    have hb : Tr G0 K0 w0 G (.blk g (.cells cur E (0, 0)) :: μ) w := by
      refine { h with sat := ⟨h.sat.sub, fun r hr => ?_, by rw [hk', ← hk]; exact h.sat.apart, by rw [hk']; exact hnd⟩, mine := by rw [hk', ← hk]; exact h.mine }
      rcases List.mem_cons.1 hr with rfl | hr
      · exact hg
      · exact h.sat.own r (List.mem_cons_of_mem _ hr)
    refine .inr ⟨g, cap, cur.toList.drop (m * sz), rfl, hnc, ?_⟩
    have e : cl (xs ++ cur.toList.drop (m * sz)) E = .cells cur E (0, 0) := by
      unfold cl
      rw [← htake, List.take_append_drop]
    rw [e]; exact hb
theorem we_rb {X : Cx} {e : Exit} {k : List KI} {E sz m : Nat} {v : Value} {xs : List Value} {μ' : Mem} (hm : MTake μ (.row v E sz m xs) μ') (h0 : v = .slice none 0 0 → m = 0 → xs = [] → We X e k ρ G μ')
    (h1 : ∀ g cap ys, v = .slice (some ⟨g, 0, none⟩) m cap → m ≤ cap → We X e k ρ G (.blk g (cl (xs ++ ys) E) :: μ')) : We X e k ρ G μ :=
  ⟨fun a w ha ht => by
    rcases Tr.openRow (ht.perm hm.perm) with ⟨e1, e2, e3, ht'⟩ | ⟨g, cap, ys, e1, e2, ht'⟩
    · exact (h0 e1 e2 e3).out a w ha ht'
    · exact (h1 g cap ys e1 e2).out a w ha ht'⟩
/-- a block becomes a row -/
theorem Tr.toRow {G0 : PM} {K0 : List Nat} {w0 w : World} {E sz m g : Nat} {xs : List Value} (h : Tr G0 K0 w0 G (.blk g (cl xs E) :: μ) w) (hl : xs.length = m * sz) (hm : m ≤ maxLen) : Tr G0 K0 w0 G (.row (.slice (some ⟨g, 0, none⟩) m m) E sz m xs :: μ) w := by
  have hk : keys (.row (.slice (some ⟨g, 0, none⟩) m m) E sz m xs :: μ) = g :: keys μ := by simp [keys, Res.keys, Value.ownBlock]
  have hk' : keys (.blk g (cl xs E) :: μ) = g :: keys μ := by simp [keys, Res.keys]
  have hg : w.heap[g]? = some (cl xs E) := h.sat.own _ (List.mem_cons_self ..)
  refine { h with sat := ⟨h.sat.sub, fun r hr => ?_, by rw [hk, ← hk']; exact h.sat.apart, by rw [hk, ← hk']; exact h.sat.nodup⟩, mine := by rw [hk, ← hk']; exact h.mine }
  rcases List.mem_cons.1 hr with rfl | hr
  · exact ⟨hl, .inr ⟨g, m, xs.toArray, rfl, Nat.zero_le _, hg, Nat.le_refl _, hm, by simpa using hl, by simp [← hl]⟩⟩
  · exact h.sat.own r (List.mem_cons_of_mem _ hr)
/-- '[]T{}' -/
theorem b0 {T E sz by' : Nat} (hdf : dr = false) (ho : nth l i = some ⟨some d, .buildSlice T 0 #[], t, p, af, none⟩) (hT : slE P T = some (E, sz, by'))
    (h : ∀ v, Wo dr mc P n l K σ ((d, true, v) :: ρ) G (.row v E sz 0 [] :: μ)) : Wo dr mc P n l K (i :: σ) ρ G μ := by
  refine .act (μ₁ := []) (μ₂ := μ) (post := fun G' μ' v => G' = G ∧ μ' = [.row v E sz 0 []]) ho (.inr hdf) .no (List.Perm.refl _) (fun a w ha hs => .inl ?_) ?_
  · obtain ⟨hu, inf, hi, hs1, _⟩ := slE_some hT
    have ht0 : Tr G [] w G [] w := ⟨⟨hs.sub, (fun r hr => nomatch hr), (fun b hb => nomatch hb), List.nodup_nil⟩, rfl, rfl, rfl, Nat.le_refl _, fun b _ _ => ⟨rfl, rfl⟩, (fun b hb => nomatch hb), fun b o _ hb => hb⟩
    refine ⟨.slice (some ⟨w.heap.size, 0, none⟩) 0 0, w.alloc (cl [] E), G, [.row (.slice (some ⟨w.heap.size, 0, none⟩) 0 0) E sz 0 []], .inl ?_, Tr.toRow (ht0.alloc (cl [] E)) (by simp) (Nat.zero_le _), rfl, rfl⟩
    simp [execOp, Instr.buildSlice, run_underlying hu, sizeOf, typeInfo, hi, Instr.fill, newRow, cl]
    rw [show Array.map (fun _ => (default : Value)) (Array.range 0) = #[] from by simp [Array.eq_empty_iff_size_eq_zero]]
  · rintro v G' μ' _ ⟨rfl, rfl⟩
    exact h v
end
end Go.Tan
