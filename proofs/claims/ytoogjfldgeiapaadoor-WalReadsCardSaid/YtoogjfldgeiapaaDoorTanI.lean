/- Lists that are read through slices, lists of bytes that grow in rows of one's own, numbers told as natural numbers. No condition. -/
import Derived.Test.YtoogjfldgeiapaaDoorSealA
import Derived.Laws.BytesString
import Derived.Laws.MakeOwn
namespace Go.Tan
open Go.RowKit
theorem flat_V (xs : List Y) : xs.flatMap encY = xs.map V := by
  induction xs with
  | nil => rfl
  | cons a r ih => simp only [List.flatMap_cons, List.map_cons, ih, encY]; rfl
theorem one_V (xs : List Y) : ∀ u ∈ xs.map V, u.oneCell' = true := by
  intro u hu; obtain ⟨y, _, rfl⟩ := List.mem_map.1 hu; rfl
/-- a row of one's own, of bytes -/
abbrev rB (v : Value) (E : Nat) (xs : List Y) : Res := .row v E 1 xs.length (xs.map V)
/-- a slice that may be read, and its bytes -/
structure Sc (G : PM) (μ : Mem) (v : Value) (ys : List Y) : Prop where
  ex : ∃ oa cap, v = .slice oa ys.length cap ∧ (0 < ys.length → ∃ b o, oa = some ⟨b, o, none⟩ ∧ RdN G μ b o (ys.map V))
theorem SlR.sc {G : PM} {μ : Mem} {s : Sh} {ys : List Y} (h : SlR G 1 encY s ys) : Sc G μ (s.val ys.length) ys :=
  ⟨s.oa, s.cap, rfl, fun h0 => ⟨s.b, s.o, h.nn h0, by rw [← flat_V]; exact (SlR.flat (enc := encY) (fun _ _ => rfl) h).rd⟩⟩
theorem Sc.blk {G : PM} {μ μ' : Mem} {b o cap m : Nat} {cs : List Value} {T : TypeId} {ys : List Y} (hm : MTake μ (.blk b (cl cs T)) μ') (hn : ys.length = m) (hc : (cs.drop o).take m = ys.map V) : Sc G μ (.slice (some ⟨b, o, none⟩) m cap) ys := by
  subst hn; exact ⟨_, _, rfl, fun _ => ⟨b, o, rfl, RdN.part hm hc⟩⟩
theorem yl_V (n : Nat) (f : Nat → Y) : (yl n f).map V = ba n f := by rw [← flat_V, yl_flat]
theorem Sc.arr {G : PM} {μ μ' : Mem} {b cap m : Nat} {f : Nat → Y} {T : TypeId} (hm : MTake μ (.blk b (cl (ba m f) T)) μ') : Sc G μ (.slice (some ⟨b, 0, none⟩) m cap) (yl m f) :=
  Sc.blk hm (yl_len m f) (by rw [yl_V, List.drop_zero, List.take_of_length_le (by rw [ba_len]; exact Nat.le_refl _)])
theorem Sc.one {G : PM} {μ μ' : Mem} {b : Nat} {y : Y} {T : TypeId} (hm : MTake μ (.blk b (cl [V y] T)) μ') : Sc G μ (.slice (some ⟨b, 0, none⟩) 1 1) [y] :=
  Sc.blk hm rfl rfl
theorem Rd.row {G : PM} {μ μ' : Mem} {b m cap E sz m' o : Nat} {xs : List Value} {v : Value} (h : MTake μ (.row (.slice (some ⟨b, 0, none⟩) m cap) E sz m' xs) μ') (hv : xs[o]? = some v) : Rd G μ ⟨b, o, none⟩ v := by
  intro w hs
  have hrow : w.ownsRow 0 E sz _ m' xs := hs.own _ (h.perm.mem_iff.2 (List.mem_cons_self ..))
  have := World.ownsRow.cells hrow (g := b) rfl o v hv
  rwa [add_lit, Nat.zero_add] at this
theorem Sc.row {G : PM} {μ μ' : Mem} {b cap E : Nat} {ys : List Y} (hm : MTake μ (rB (.slice (some ⟨b, 0, none⟩) ys.length cap) E ys) μ') : Sc G μ (.slice (some ⟨b, 0, none⟩) ys.length cap) ys :=
  ⟨_, _, rfl, fun _ => ⟨b, 0, rfl, fun j v hj => Rd.row hm (by rw [Nat.zero_add]; exact hj)⟩⟩
/-! ## A part of a list -/
theorem SlR.cutn {α : Type} {G : PM} {sz : Nat} {enc : α → List Value} {s : Sh} {xs : List α} (h : SlR G sz enc s xs) {lo m : Nat} (h1 : lo + m ≤ xs.length) : SlR G sz enc (s.cut lo sz) ((xs.drop lo).take m) := by
  have hle := h.le
  by_cases hm : lo < xs.length
  · have hcut : s.cut lo sz = ⟨some ⟨s.b, s.o + lo * sz, none⟩, s.cap - lo⟩ := by
      unfold Sh.cut; rw [if_neg (by omega), h.nn hm]; simp [add_lit]
    rw [hcut]
    refine ⟨fun _ => rfl, by simp; omega, fun i x hx => ?_⟩
    have hx' : xs[lo + i]? = some x := by
      rw [List.getElem?_take] at hx
      split at hx
      · rwa [List.getElem?_drop] at hx
      · cases hx
    have := h.rd (lo + i) x hx'
    rw [Nat.add_mul, ← Nat.add_assoc] at this
    exact this
  · have e : (xs.drop lo).take m = [] := by rw [List.drop_of_length_le (by omega)]; simp
    rw [e]; exact ⟨fun h => absurd rfl h, by simp, fun i x hx => by simp at hx⟩
theorem SlR.cutx {α : Type} {G : PM} {sz : Nat} {enc : α → List Value} {s : Sh} {xs : List α} (h : SlR G sz enc s xs) (lo m : Nat) : ∃ s', SlR G sz enc s' ((xs.drop lo).take m) := by
  by_cases hl : lo ≤ xs.length
  · have e : (xs.drop lo).take m = (xs.drop lo).take (min m (xs.length - lo)) := by
      have e := List.take_eq_take_min (l := xs.drop lo) (i := m)
      rwa [List.length_drop] at e
    exact ⟨_, by rw [e]; exact h.cutn (by omega)⟩
  · exact ⟨⟨none, 0⟩, by rw [List.drop_of_length_le (by omega), List.take_nil]; exact SlR.nul⟩
theorem SlR.nth {α : Type} {G : PM} {sz : Nat} {enc : α → List Value} {s : Sh} {xs : List α} (h : SlR G sz enc s xs) {j : Int} (k : Nat) {x : α} (hj : j.toNat = k) (hx : xs[k]? = some x) : RdNP G s.b (s.o + j.toNat * sz) (enc x) := by
  rw [hj]; exact h.rd k x hx
section
variable {dr : Bool} {mc : Md} {P : Program} {n : Nat} {l : List Oper} {K : Env → PM → Mem → Prop} {i : Nat} {σ : List Nat} {ρ : Env} {G : PM} {μ : Mem}
variable {d t : Nat} {p : String} {af : Array Edge} {g : Option (Nat × Bool)} {c : Bool}
/-- 'xs[lo:hi]' -/
theorem kS {α : Type} {enc : α → List Value} {T e sz by' : Nat} {x y z : Operand} {k k' : IntKind} {s : Sh} {xs : List α} {a b : Int} (lo hi : Nat) (ho : nth l i = some ⟨some d, .slice T x (some y) (some z) none, t, p, af, g⟩) (hg : Gd l ρ g c) (hT : slE P T = some (e, sz, by')) (hs : SlR G sz enc s xs)
    (hx : Ev ρ c x (s.val xs.length)) (hy : Ev ρ c y (.int k a)) (hz : Ev ρ c z (.int k' b)) (ha : c = true → a = lo) (hb : c = true → b = hi) (h1 : c = true → lo ≤ hi) (h2 : c = true → hi ≤ xs.length)
    (h : ∀ s' L, L = (xs.drop lo).take (hi - lo) → (c = true → L.length = hi - lo) → SlR G sz enc s' L → Wo dr mc P n l K σ ((d, c, s'.val L.length) :: ρ) G μ) : Wo dr mc P n l K (i :: σ) ρ G μ := by
  cases c with
  | false =>
    obtain ⟨s', hs'⟩ := hs.cutx lo (hi - lo)
    exact .pure ho (.inl rfl) hg (fun hc => nomatch hc) (h s' _ rfl (fun hc => nomatch hc) hs')
  | true =>
    obtain rfl := ha rfl; obtain rfl := hb rfl
    have e1 := h1 rfl; have e2 := h2 rfl; have e3 := hs.le
    have hl : ((xs.drop lo).take (hi - lo)).length = hi - lo := by simp; omega
    refine scn (q := ((xs.drop lo).take (hi - lo)).length) ho hg hT hx hy hz (fun _ => by omega) (fun _ => by omega) (fun _ => by omega) (fun _ => by rw [hl]; omega) ?_
    rw [Int.toNat_natCast]
    exact h _ _ rfl (fun _ => hl) (hs.cutn (by omega))
/-- 'xs[lo:]' -/
theorem kD {α : Type} {enc : α → List Value} {T e sz by' : Nat} {x y : Operand} {k : IntKind} {s : Sh} {xs : List α} {a : Int} (lo : Nat) (ho : nth l i = some ⟨some d, .slice T x (some y) none none, t, p, af, g⟩) (hg : Gd l ρ g c) (hT : slE P T = some (e, sz, by')) (hs : SlR G sz enc s xs)
    (hx : Ev ρ c x (s.val xs.length)) (hy : Ev ρ c y (.int k a)) (ha : c = true → a = lo) (h1 : c = true → lo ≤ xs.length)
    (h : ∀ s' L, L = xs.drop lo → (c = true → L.length = xs.length - lo) → SlR G sz enc s' L → Wo dr mc P n l K σ ((d, c, s'.val L.length) :: ρ) G μ) : Wo dr mc P n l K (i :: σ) ρ G μ := by
  have ht : (xs.drop lo).take (xs.length - lo) = xs.drop lo := List.take_of_length_le (by simp)
  cases c with
  | false =>
    obtain ⟨s', hs'⟩ := hs.cutx lo (xs.length - lo)
    rw [ht] at hs'
    exact .pure ho (.inl rfl) hg (fun hc => nomatch hc) (h s' _ rfl (fun hc => nomatch hc) hs')
  | true =>
    obtain rfl := ha rfl
    have e1 := h1 rfl; have e3 := hs.le
    have hl : (xs.drop lo).length = xs.length - lo := by simp
    refine sd ho hg hT hx hy (fun _ => by omega) (fun _ => by omega) ?_
    rw [Int.toNat_natCast, ← hl]
    refine h _ _ rfl (fun _ => hl) ?_
    rw [← ht]; exact hs.cutn (by omega)
/-- 'xs[:hi]' -/
theorem kE {α : Type} {enc : α → List Value} {T e sz by' : Nat} {x y : Operand} {k : IntKind} {s : Sh} {xs : List α} {a : Int} (hi : Nat) (ho : nth l i = some ⟨some d, .slice T x none (some y) none, t, p, af, g⟩) (hg : Gd l ρ g c) (hT : slE P T = some (e, sz, by')) (hs : SlR G sz enc s xs)
    (hx : Ev ρ c x (s.val xs.length)) (hy : Ev ρ c y (.int k a)) (ha : c = true → a = hi) (h1 : c = true → hi ≤ xs.length)
    (h : ∀ s' L, L = xs.take hi → (c = true → L.length = hi) → SlR G sz enc s' L → Wo dr mc P n l K σ ((d, c, s'.val L.length) :: ρ) G μ) : Wo dr mc P n l K (i :: σ) ρ G μ := by
  have htake : SlR G sz enc s (xs.take hi) := by
    refine ⟨fun hne => hs.there (fun e => hne (by rw [e]; simp)), by have := hs.le; rw [List.length_take]; omega, fun j u hj => ?_⟩
    rw [List.getElem?_take] at hj
    split at hj
    · exact hs.rd j u hj
    · cases hj
  cases c with
  | false => exact .pure ho (.inl rfl) hg (fun hc => nomatch hc) (h s _ rfl (fun hc => nomatch hc) htake)
  | true =>
    obtain rfl := ha rfl
    have e1 := h1 rfl; have e3 := hs.le
    have hl : (xs.take hi).length = hi := by simp; omega
    refine se ho hg hT hx hy (fun _ => by omega) (fun _ => by omega) ?_
    rw [Int.toNat_natCast]
    have := h s _ rfl (fun _ => hl) htake
    rwa [hl] at this
/-! ## Numbers that are natural -/
theorem arn {op : BinOp} {T T' : TypeId} {x y : Operand} {k : IntKind} {a1 a2 r : Int} (r' : Int) (ho : nth l i = some ⟨some d, .binOp op T x y T', t, p, af, g⟩) (hg : Gd l ρ g c) (hx : Ev ρ c x (.int k a1)) (hy : Ev ρ c y (.int k a2)) (hr : arI op a1 a2 = some r) (he : c = true → r = r') (hw : c = true → k.wrap r' = r')
    (h : Wo dr mc P n l K σ ((d, c, .int k r') :: ρ) G μ) : Wo dr mc P n l K (i :: σ) ρ G μ :=
  .pure ho (.inl rfl) hg (fun hc a w ha => by obtain rfl := he hc; simp [execOp, hx.eval ha hc, hy.eval ha hc, eqGuard_int, run_ar T hr w, hw hc]) h
theorem rmn {T T' : TypeId} {x y : Operand} {k : IntKind} {a1 a2 : Int} (a b : Nat) (ho : nth l i = some ⟨some d, .binOp .rem T x y T', t, p, af, g⟩) (hg : Gd l ρ g c) (hx : Ev ρ c x (.int k a1)) (hy : Ev ρ c y (.int k a2)) (h1 : c = true → a1 = a) (h2 : c = true → a2 = b) (h0 : c = true → b ≠ 0)
    (h : Wo dr mc P n l K σ ((d, c, .int k ((a % b : Nat) : Int)) :: ρ) G μ) : Wo dr mc P n l K (i :: σ) ρ G μ :=
  .pure ho (.inl rfl) hg (fun hc q w ha => by
    obtain rfl := h1 hc; obtain rfl := h2 hc
    have := h0 hc
    have e : ((a : Int).tmod (b : Int)) = ((a % b : Nat) : Int) := rfl
    simp [execOp, hx.eval ha hc, hy.eval ha hc, eqGuard_int, binOp, Op.intDiv, h0 hc, e]) h
theorem qun {T T' : TypeId} {x y : Operand} {a1 a2 : Int} (a b : Nat) (ho : nth l i = some ⟨some d, .binOp .quo T x y T', t, p, af, g⟩) (hg : Gd l ρ g c) (hx : Ev ρ c x (.int .i64 a1)) (hy : Ev ρ c y (.int .i64 a2)) (h1 : c = true → a1 = a) (h2 : c = true → a2 = b) (h0 : c = true → b ≠ 0) (h3 : c = true → a ≤ 9223372036854775807)
    (h : Wo dr mc P n l K σ ((d, c, .int .i64 ((a / b : Nat) : Int)) :: ρ) G μ) : Wo dr mc P n l K (i :: σ) ρ G μ :=
  .pure ho (.inl rfl) hg (fun hc q w ha => by
    obtain rfl := h1 hc; obtain rfl := h2 hc
    have h3 := h3 hc
    have e : ((a : Int).tdiv (b : Int)) = ((a / b : Nat) : Int) := rfl
    have hle : a / b ≤ a := Nat.div_le_self a b
    have hw : IntKind.i64.wrap ((a / b : Nat) : Int) = ((a / b : Nat) : Int) := by
      generalize a / b = q at hle
      exact wrap_i64 (by omega) (by omega)
    simp only [Int.natCast_ediv] at hw
    simp [execOp, hx.eval ha hc, hy.eval ha hc, eqGuard_int, binOp, Op.intDiv, h0 hc, e, hw]) h
theorem mIn {T T' : TypeId} {x y : Operand} {k : IntKind} {a1 a2 : Int} (a b : Nat) (ho : nth l i = some ⟨some d, .call { callee := .builtin .min, args := #[x, y], argTypes := #[T, T'] }, t, p, af, g⟩) (hg : Gd l ρ g c) (hx : Ev ρ c x (.int k a1)) (hy : Ev ρ c y (.int k a2)) (h1 : c = true → a1 = a) (h2 : c = true → a2 = b)
    (h : Wo dr mc P n l K σ ((d, c, .int k ((min a b : Nat) : Int)) :: ρ) G μ) : Wo dr mc P n l K (i :: σ) ρ G μ :=
  .read ho (.inl rfl) hg (fun hc q w ha _ => by
    obtain rfl := h1 hc; obtain rfl := h2 hc
    have e : (if (b : Int) < (a : Int) then (b : Int) else (a : Int)) = ((min a b : Nat) : Int) := by split <;> omega
    simp [execOp, resolve, invoke, builtin, hx.eval ha hc, hy.eval ha hc, Builtin.min_, Builtin.min2]
    simpa using e) h
theorem mAn {T T' : TypeId} {x y : Operand} {k : IntKind} {a1 a2 : Int} (a b : Nat) (ho : nth l i = some ⟨some d, .call { callee := .builtin .max, args := #[x, y], argTypes := #[T, T'] }, t, p, af, g⟩) (hg : Gd l ρ g c) (hx : Ev ρ c x (.int k a1)) (hy : Ev ρ c y (.int k a2)) (h1 : c = true → a1 = a) (h2 : c = true → a2 = b)
    (h : Wo dr mc P n l K σ ((d, c, .int k ((max a b : Nat) : Int)) :: ρ) G μ) : Wo dr mc P n l K (i :: σ) ρ G μ :=
  .read ho (.inl rfl) hg (fun hc q w ha _ => by
    obtain rfl := h1 hc; obtain rfl := h2 hc
    have e : (if (b : Int) > (a : Int) then (b : Int) else (a : Int)) = ((max a b : Nat) : Int) := by split <;> omega
    simp [execOp, resolve, invoke, builtin, hx.eval ha hc, hy.eval ha hc, Builtin.max_, Builtin.max2]
    simpa using e) h
/-- '-x' -/
theorem ng {T : TypeId} {x : Operand} {k : IntKind} {a : Int} (ho : nth l i = some ⟨some d, .unOp .neg T x, t, p, af, g⟩) (hg : Gd l ρ g c) (hx : Ev ρ c x (.int k a)) (hw : c = true → k.wrap (-a) = -a) (h : Wo dr mc P n l K σ ((d, c, .int k (-a)) :: ρ) G μ) : Wo dr mc P n l K (i :: σ) ρ G μ :=
  .pure ho (.inl rfl) hg (fun hc q w ha => by simp [execOp, hx.eval ha hc, Op.unary, Op.intArith, hw hc]) h
theorem nw {T : TypeId} {x : Operand} {k : IntKind} {a : BitVec k.bits} (ho : nth l i = some ⟨some d, .unOp .neg T x, t, p, af, g⟩) (hg : Gd l ρ g c) (hk : k.signed = false) (hx : Ev ρ c x (uv k a)) (h : Wo dr mc P n l K σ ((d, c, uv k (-a)) :: ρ) G μ) : Wo dr mc P n l K (i :: σ) ρ G μ :=
  .pure ho (.inl rfl) hg (fun hc q w ha => by
    have e1 := hx.eval ha hc
    have e : k.wrap (-(a.toNat : Int)) = ((-a).toNat : Int) := by rw [wrap_ofInt hk, BitVec.ofInt_neg]; simp
    simp [execOp, e1, uv, Op.unary, Op.intArith, e]) h
theorem xw {T : TypeId} {x : Operand} {k : IntKind} {a : BitVec k.bits} (ho : nth l i = some ⟨some d, .unOp .xor T x, t, p, af, g⟩) (hg : Gd l ρ g c) (hk : k.signed = false) (hx : Ev ρ c x (uv k a)) (h : Wo dr mc P n l K σ ((d, c, uv k (~~~a)) :: ρ) G μ) : Wo dr mc P n l K (i :: σ) ρ G μ :=
  .pure ho (.inl rfl) hg (fun hc q w ha => by
    have e1 := hx.eval ha hc
    have e2 : BitVec.ofInt k.bits k.max = BitVec.allOnes k.bits := by
      cases k <;> first | rfl | cases hk
    have e3 : BitVec.allOnes k.bits ^^^ a = ~~~a := by simp
    have e : k.wrap (((~~~a).toNat : Nat) : Int) = ((~~~a).toNat : Int) := wrap_uv hk _
    simp only [execOp, e1, uv, Op.unary, Op.intBits, hk, if_false, e2, Bool.false_eq_true, Sem.run_bind]
    simp [e3]
    simpa using e) h
/-! ## Appending bytes -/
theorem Sat.rowOne {E sz m : Nat} {v : Value} {xs : List Value} {w : World} (hs : Sat G [.row v E sz m xs] w) : v.oneCell' = true := by
  have hrow : w.ownsRow 0 E sz v m xs := hs.own _ (List.mem_singleton.2 rfl)
  rcases hrow.2 with ⟨rfl, _⟩ | ⟨g, cap, cur, rfl, _⟩ <;> rfl
theorem apY {T E : Nat} {x y : Operand} {v u : Value} {xs ys : List Y} {μ' : Mem} (ho : nth l i = some ⟨some d, .call { callee := .builtin .append, args := #[x, y], argTypes := #[T, T] }, t, p, af, none⟩)
    (hT : slE P T = some (E, 1, 1)) (hz : (P.info? E).bind (·.zero) = some (.int .u8 0)) (hx : Ev ρ true x v) (hy : Ev ρ true y u) (hm : MTake μ (rB v E xs) μ') (hs : Sc G μ u ys) (hb : xs.length + ys.length ≤ 140737488355328)
    (h : ∀ v' L, v'.oneCell' = true → L = xs ++ ys → Wo dr mc P n l K σ ((d, true, v') :: ρ) G (rB v' E L :: μ')) (hmc : mc.a = false ∨ dr = false := by first | exact .inl rfl | exact .inr rfl) : Wo dr mc P n l K (i :: σ) ρ G μ := by
  obtain ⟨oa, cap, rfl, hr⟩ := hs.ex
  refine .act (μ₁ := [rB v E xs]) (μ₂ := μ') (post := fun G' μ' v' => G' = G ∧ v'.oneCell' = true ∧ μ' = [rB v' E (xs ++ ys)]) ho (by rcases hmc with h | h <;> simp [kindOf, h]) .no hm.perm (fun a w ha hs => .inl ?_) ?_
  · obtain ⟨v', w', hrun, ht⟩ := run_ap (ty := t) (cp := cap) (news := ys.map V) (k := ys.length) (oa := oa) hT hz rfl hs.left (by simp) (fun hk => by
      obtain ⟨b, o, h1, h2⟩ := hr hk
      exact ⟨b, o, h1, fun j u hj => h2 j u hj w (hs.perm hm.perm.symm)⟩) (one_V ys) (by omega) (by unfold maxLen; omega)
    refine ⟨v', w', G, [rB v' E (xs ++ ys)], .inl (by simp [execOp, resolve, invoke, builtin, hx.eval ha rfl, hy.eval ha rfl, hrun]), ?_, rfl, ht.sat.rowOne, rfl⟩
    simp only [rB, List.length_append, List.map_append]; exact ht
  · rintro v' G' μ'' _ ⟨rfl, h1, rfl⟩
    exact h v' _ h1 rfl
/-- a row's value, where it is not nothing -/
theorem Sat.rowVal {E sz m : Nat} {v : Value} {xs : List Value} {w : World} (hs : Sat G μ w) (hm : .row v E sz m xs ∈ μ) (h0 : 0 < m) : ∃ b cap, v = .slice (some ⟨b, 0, none⟩) m cap ∧ m ≤ cap := by
  have hrow : w.ownsRow 0 E sz v m xs := hs.own _ hm
  rcases hrow.2 with ⟨rfl, rfl⟩ | ⟨g, cap, cur, rfl, _, hg, hnc, _⟩
  · omega
  · exact ⟨g, cap, rfl, hnc⟩
theorem we_rv {X : Cx} {e : Exit} {k : List KI} {E sz m : Nat} {v : Value} {xs : List Value} {μ' : Mem} (hm : MTake μ (.row v E sz m xs) μ') (h0 : 0 < m) (h : ∀ b cap, v = .slice (some ⟨b, 0, none⟩) m cap → m ≤ cap → We X e k ρ G μ) : We X e k ρ G μ :=
  ⟨fun a w ha ht => by
    obtain ⟨b, cap, h1, h2⟩ := ht.sat.rowVal (hm.perm.mem_iff.2 (List.mem_cons_self ..)) h0
    exact (h b cap h1 h2).out a w ha ht⟩
theorem wk_rv {X : Cx} {cd : Code} {k : List KI} {E sz m : Nat} {v : Value} {xs : List Value} {μ' : Mem} (hm : MTake μ (.row v E sz m xs) μ') (h0 : 0 < m) (h : ∀ b cap, v = .slice (some ⟨b, 0, none⟩) m cap → m ≤ cap → Wk X cd k ρ G μ) : Wk X cd k ρ G μ :=
  ⟨fun a w ha ht => by
    obtain ⟨b, cap, h1, h2⟩ := ht.sat.rowVal (hm.perm.mem_iff.2 (List.mem_cons_self ..)) h0
    exact (h b cap h1 h2).out a w ha ht⟩
/-- a row of bytes becomes memory that stays -/
theorem Tr.frzB {G0 : PM} {K0 : List Nat} {w0 w : World} {E : Nat} {v : Value} {xs : List Y} (h : Tr G0 K0 w0 G (rB v E xs :: μ) w) (hK : ∀ b ∈ K0, b ∈ keys μ) :
    ∃ G' s, PM.le G G' ∧ v = Sh.val s xs.length ∧ SlR G' 1 encY s xs ∧ Tr G0 K0 w0 G' μ w := by
  obtain ⟨G', s, h1, h2, h3, h4, h5, h6⟩ := h.freezeRow hK
  exact ⟨G', s, h1, h2, SlR.ofRow (fun _ _ => rfl) h3 h4 (by rw [flat_V]; exact h5), h6⟩
theorem we_fb {X : Cx} {e : Exit} {k : List KI} {E : Nat} {v : Value} {xs : List Y} {μ' : Mem} (hm : MTake μ (rB v E xs) μ') (hK : ∀ b ∈ X.K0, b ∈ keys μ') (h : ∀ G' s, PM.le G G' → v = Sh.val s xs.length → SlR G' 1 encY s xs → We X e k ρ G' μ') : We X e k ρ G μ :=
  ⟨fun a w ha ht => by
    obtain ⟨G', s, h1, h2, h3, h4⟩ := (ht.perm hm.perm).frzB hK
    exact (h G' s h1 h2 h3).out a w ha h4⟩
theorem wk_fb {X : Cx} {cd : Code} {k : List KI} {E : Nat} {v : Value} {xs : List Y} {μ' : Mem} (hm : MTake μ (rB v E xs) μ') (hK : ∀ b ∈ X.K0, b ∈ keys μ') (h : ∀ G' s, PM.le G G' → v = Sh.val s xs.length → SlR G' 1 encY s xs → Wk X cd k ρ G' μ') : Wk X cd k ρ G μ :=
  ⟨fun a w ha ht => by
    obtain ⟨G', s, h1, h2, h3, h4⟩ := (ht.perm hm.perm).frzB hK
    exact (h G' s h1 h2 h3).out a w ha h4⟩
/-- a function that answers bytes of its own: the bytes as memory that stays -/
theorem Ct.frz {f : FuncId} {args : Array Value} {μ0 : Mem} {Q : PM → Mem → Value → Prop} (h : Ct P f args G [] Q) {E : Nat} {R : List Y → Prop} (hQ : ∀ G' μ' u, Q G' μ' u → ∃ L, R L ∧ μ' = [rB u E L]) :
    Ct P f args G [] (fun G' μ' u => ∃ (s : Sh) (L : List Y), R L ∧ μ' = [] ∧ u = s.val L.length ∧ SlR G' 1 encY s L) := by
  intro w hs
  refine (h w hs).mono ?_
  rintro e w' ⟨v, G', μ', rfl, ht, hp⟩
  obtain ⟨L, hL, rfl⟩ := hQ _ _ _ hp
  obtain ⟨G2, s, h1, h2, h3, h4⟩ := ht.frzB (by intro b hb; cases hb)
  exact ⟨v, G2, [], rfl, h4, s, L, hL, rfl, h2, h3⟩
/-! ## Made rows -/
theorem made_u8 (m : Nat) : (madeCells (Value.int .u8 0).cells m).toList = (List.replicate m (0#8)).map V := by
  have hc : (Value.int .u8 0).cells = #[.int .u8 0] := rfl
  rw [hc]
  unfold madeCells
  rw [Array.toList_map]
  refine List.ext_getElem? fun j => ?_
  by_cases hj : j < m
  · simp [hj, Nat.mod_one]; rfl
  · simp [hj]
theorem mkY {T E : Nat} {x y : Operand} {a b : Int} {k k' : IntKind} (lo cap : Nat) (ho : nth l i = some ⟨some d, .makeSlice T x y, t, p, af, none⟩) (hT : slE P T = some (E, 1, 1)) (hz : (P.info? E).bind (·.zero) = some (.int .u8 0)) (hx : Ev ρ true x (.int k a)) (hy : Ev ρ true y (.int k' b)) (ha : a = lo) (hb : b = cap) (h1 : lo ≤ cap) (h2 : cap ≤ 140737488355328)
    (h : ∀ b, Wo dr mc P n l K σ ((d, true, .slice (some ⟨b, 0, none⟩) lo cap) :: ρ) G (rB (.slice (some ⟨b, 0, none⟩) lo cap) E (List.replicate lo 0#8) :: μ)) : Wo dr mc P n l K (i :: σ) ρ G μ := by
  subst ha; subst hb
  refine .act (μ₁ := []) (μ₂ := μ) (post := fun G' μ' v => ∃ b, G' = G ∧ v = .slice (some ⟨b, 0, none⟩) lo cap ∧ μ' = [rB (.slice (some ⟨b, 0, none⟩) lo cap) E (List.replicate lo 0#8)]) ho (.inl rfl) .no (.refl _) (fun q w hq hs => .inl ?_) ?_
  · obtain ⟨hu, inf, hi, hs1, hb1⟩ := slE_some hT
    rw [hi] at hz
    simp only [Option.bind_some] at hz
    have hrun := run_make (P := P) w T E inf _ hu hi hz k k' lo cap (by omega) (by omega) (by rw [hb1]; omega) (by omega)
    simp only [Int.toNat_natCast, hs1, Nat.mul_one] at hrun
    have h0 : Tr G (keys []) w G [.blk w.heap.size (.cells (madeCells (Value.int .u8 0).cells cap) E (0, 0))] _ := (Tr.begin (Sat.left (μ := []) hs)).alloc _
    refine ⟨_, _, G, _, .inl (by simp [execOp, hx.eval hq rfl, hy.eval hq rfl, hrun]), h0.asRow (m := lo) (cap := cap) (sz := 1) (xs := (List.replicate lo 0#8).map V) (by simp) h1 (by unfold maxLen; omega) (by rw [size_madeCells]; omega) ?_, w.heap.size, rfl, rfl, by simp [rB]⟩
    rw [made_u8, ← List.map_take]
    simp [Nat.min_eq_left h1]
  · rintro v G' μ'' _ ⟨b, rfl, rfl, rfl⟩
    exact h b
/-- 'xs[i] = z' in a row of one's own -/
theorem s1r {T E m cap b o : Nat} {x y : Operand} {z : Y} {xs : List Y} {μ' : Mem} (ho : nth l i = some ⟨none, .store T x y, t, p, af, none⟩) (hx : Ev ρ true x (.pointer (some ⟨b, o, none⟩))) (hy : Ev ρ true y (V z)) (hz : szT P T = some 1)
    (hm : MTake μ (rB (.slice (some ⟨b, 0, none⟩) m cap) E xs) μ') (hl : o < xs.length) (h : ∀ L, L = xs.set o z → L.length = xs.length → Wo dr mc P n l K σ ρ G (rB (.slice (some ⟨b, 0, none⟩) m cap) E L :: μ')) : Wo dr mc P n l K (i :: σ) ρ G μ := by
  refine .act (μ₁ := [rB (.slice (some ⟨b, 0, none⟩) m cap) E xs]) (μ₂ := μ') (post := fun G' μ' v => G' = G ∧ μ' = [rB (.slice (some ⟨b, 0, none⟩) m cap) E (xs.set o z)] ∧ v = undef) ho (.inl rfl) .no hm.perm (fun a w ha hs => .inl ?_) ?_
  · have hs' := hs.left
    have hrow : w.ownsRow 0 E 1 (.slice (some ⟨b, 0, none⟩) m cap) xs.length (xs.map V) := hs'.own _ (List.mem_singleton.2 rfl)
    rcases hrow.2 with ⟨e, _⟩ | ⟨g, cap', cur, e, _, hg, hnc, hcm, hcs, htake⟩
    · cases e
    · simp only [Value.slice.injEq, Option.some.injEq, Addr.mk.injEq, and_true, true_and] at e
      obtain ⟨rfl, rfl, rfl⟩ := e
      have hk : keys [rB (.slice (some ⟨b, 0, none⟩) xs.length cap) E xs] = [b] := by simp [keys, Res.keys, Value.ownBlock]
      have hsat : Sat G [.blk b (.cells cur E (0, 0))] w := ⟨hs'.sub, fun r hr => by rw [List.mem_singleton.1 hr]; exact hg, fun c hc => hs'.apart c (by simpa [keys, Res.keys, Value.ownBlock] using hc), by simp [keys, Res.keys]⟩
      have hsz : o < cur.size := by rw [hcs]; omega
      have hst := run_storeCells_at P b o E [V z] 0 cur w hg (by simp; omega) (by intro v hv; rw [List.mem_singleton.1 hv]; rfl)
      simp only [Nat.add_zero, List.length_singleton] at hst
      have h2 := (Tr.setArr (cs' := (cur.toList.take o ++ [V z] ++ cur.toList.drop (o + 1)).toArray) hsat).asRow (m := xs.length) (cap := cap) (sz := 1) (xs := (xs.set o z).map V) (by simp) hnc hcm ?_ ?_
      · refine ⟨undef, _, G, _, .inr ⟨?_, rfl⟩, by rw [hk]; exact h2, rfl, by simp [rB], rfl⟩
        cases hi : P.info? T with
        | none => simp [szT, hi] at hz
        | some inf =>
          simp only [szT, hi, Option.map_some, Option.some.injEq] at hz
          have hvc : (V z).cells = #[V z] := rfl
          simp only [execOp, hx.eval ha rfl, hy.eval ha rfl]
          simp [Instr.storeAt, Instr.sureAddr, storeVar, hvc, sizeOf, typeInfo, hi, hz, hst]
      · simp; omega
      · have h3 : cur.toList.take o ++ [V z] ++ cur.toList.drop (o + 1) = cur.toList.set o (V z) := by
          rw [List.set_eq_take_append_cons_drop, if_pos (by simpa using hsz)]; simp
        rw [h3, List.map_set, ← htake]
        refine List.ext_getElem? fun j => ?_
        simp only [List.getElem?_take, List.getElem?_set, Nat.mul_one]
        by_cases hj : j < xs.length
        · by_cases he : o = j
          · subst he; simp [hj, hsz]; omega
          · simp [hj, he]
        · by_cases he : o = j
          · omega
          · simp [hj, he]
  · rintro v G' μ'' _ ⟨rfl, rfl, rfl⟩
    exact h _ rfl (by simp)
/-! ## Texts of bytes -/
def bstr (xs : List Y) : ByteArray := (xs.map fun y => (y.toNat : Int)).foldl (fun r n => r.push (UInt8.ofNat n.toNat)) ByteArray.empty
theorem bstr_data (xs : List Y) : (bstr xs).data.toList = xs.map fun y => UInt8.ofNat y.toNat := by
  have key : ∀ (ns : List Int) (s : ByteArray), (ns.foldl (fun r n => r.push (UInt8.ofNat n.toNat)) s).data.toList = s.data.toList ++ ns.map fun n => UInt8.ofNat n.toNat := by
    intro ns
    induction ns with
    | nil => intro s; simp
    | cons n ns ih => intro s; rw [List.foldl_cons, ih]; simp
  unfold bstr
  rw [key]
  simp [Function.comp_def]
theorem bstr_inj {xs ys : List Y} (h : bstr xs = bstr ys) : xs = ys := by
  have h1 : (bstr xs).data.toList = (bstr ys).data.toList := by rw [h]
  rw [bstr_data, bstr_data] at h1
  have hinj : ∀ a b : Y, UInt8.ofNat a.toNat = UInt8.ofNat b.toNat → a = b := by
    intro a b hab
    have := congrArg UInt8.toNat hab
    rw [UInt8.toNat_ofNat', UInt8.toNat_ofNat'] at this
    have ha := a.isLt; have hb := b.isLt
    exact BitVec.eq_of_toNat_eq (by omega)
  clear h
  induction xs generalizing ys with
  | nil => cases ys with
    | nil => rfl
    | cons b ys => simp at h1
  | cons a xs ih => cases ys with
    | nil => simp at h1
    | cons b ys =>
      simp only [List.map_cons, List.cons.injEq] at h1
      rw [hinj a b h1.1, ih h1.2]
theorem bstr_beq (xs ys : List Y) : ((bstr xs).toList == (bstr ys).toList) = decide (xs = ys) := by
  rw [ByteArray.toList_eq, ByteArray.toList_eq]
  by_cases h : xs = ys
  · subst h; simp
  · have : ¬ (bstr xs).data.toList = (bstr ys).data.toList := fun e => h (bstr_inj (ByteArray.ext (Array.toList_inj.1 e)))
    simp [h]
    exact fun e => this (by rw [e])
theorem bstr_len (xs : List Y) : (bstr xs).size = xs.length := by
  have := congrArg List.length (bstr_data xs)
  simpa using this
def bsT (P : Program) (S D : TypeId) : Bool := match P.underlying S, P.underlying D with
  | some (.slice e), some .string => match P.underlying e with | some (.int .u8) => true | _ => false
  | _, _ => false
/-- 'string(xs)' -/
theorem sB {S D : TypeId} {x : Operand} {u : Value} {ys : List Y} (ho : nth l i = some ⟨some d, .convert S D x, t, p, af, g⟩) (hg : Gd l ρ g c) (hS : bsT P S D = true) (hx : Ev ρ c x u) (hs : c = true → Sc G μ u ys)
    (h : Wo dr mc P n l K σ ((d, c, .string (bstr ys)) :: ρ) G μ) : Wo dr mc P n l K (i :: σ) ρ G μ :=
  .read ho (.inl rfl) hg (fun hc a w ha hsat => by
    unfold bsT at hS
    split at hS
    · rename_i e h1 h2
      split at hS
      · rename_i h3
        obtain ⟨oa, cap, rfl, hr⟩ := (hs hc).ex
        have hconv := run_convert_bytes_string w S D e oa ys.length cap h1 h3 h2
        have hb : (Conv.bytesToString (.slice oa ys.length cap)).run P w = .ok (.string (bstr ys)) w := by
          cases oa with
          | none =>
            have : ys = [] := by
              cases ys with
              | nil => rfl
              | cons y ys => obtain ⟨b, o, h, _⟩ := hr (by simp); cases h
            subst this
            simp [Conv.bytesToString]; rfl
          | some ad =>
            have hl : (loadCells ad ys.length).run P w = .ok ((ys.map fun y => (y.toNat : Int)).map (Value.int .u8)).toArray w := by
              have e1 : (ys.map fun y => (y.toNat : Int)).map (Value.int .u8) = ys.map V := by rw [List.map_map]; rfl
              rw [e1]
              rcases Nat.eq_zero_or_pos ys.length with h0 | h0
              · have : ys = [] := List.eq_nil_of_length_eq_zero h0
                subst this
                simp [loadCells, loadCellsFrom]
              · obtain ⟨b, o, e2, hrd⟩ := hr h0
                simp only [Option.some.injEq] at e2
                subst e2
                exact run_loadN hrd hsat (by simp)
            exact run_bytesToString w ad ys.length cap _ hl
        simp [execOp, hx.eval ha hc, hconv, hb]
      · cases hS
    · cases hS) h
/-- texts of bytes, compared -/
theorem cb {T T' : TypeId} {x y : Operand} {xs ys : List Y} (ho : nth l i = some ⟨some d, .binOp .eql T x y T', t, p, af, g⟩) (hg : Gd l ρ g c) (hx : Ev ρ c x (.string (bstr xs))) (hy : Ev ρ c y (.string (bstr ys)))
    (h : Wo dr mc P n l K σ ((d, c, .bool (decide (xs = ys))) :: ρ) G μ) : Wo dr mc P n l K (i :: σ) ρ G μ := cs ho hg hx hy (by rw [cmpS, bstr_beq]) h
theorem cbn {T T' : TypeId} {x y : Operand} {xs ys : List Y} (ho : nth l i = some ⟨some d, .binOp .neq T x y T', t, p, af, g⟩) (hg : Gd l ρ g c) (hx : Ev ρ c x (.string (bstr xs))) (hy : Ev ρ c y (.string (bstr ys)))
    (h : Wo dr mc P n l K σ ((d, c, .bool (!decide (xs = ys))) :: ρ) G μ) : Wo dr mc P n l K (i :: σ) ρ G μ := cs ho hg hx hy (by rw [cmpS, bstr_beq]) h
/-! ## A pointer is not nil -/
def ptT (P : Program) (T : TypeId) : Bool := match P.underlying T with | some (.pointer _) => true | _ => false
theorem run_eqp {T : TypeId} {a : Addr} (hT : ptT P T = true) (w : World) : (Op.equal T (.pointer (some a)) (.pointer none)).run P w = .ok false w := by
  unfold ptT at hT
  split at hT
  · rename_i e hu
    unfold Op.equal
    rw [show Op.maxDepth = 9999 + 1 from rfl, Op.equalIn]
    simp [run_underlying hu]
  · cases hT
theorem pn {T T' : TypeId} {x y : Operand} {a : Addr} (ho : nth l i = some ⟨some d, .binOp .neq T x y T', t, p, af, g⟩) (hg : Gd l ρ g c) (hT : ptT P T = true) (hx : Ev ρ c x (.pointer (some a))) (hy : Ev ρ c y (.pointer none)) (h : Wo dr mc P n l K σ ((d, c, .bool true) :: ρ) G μ) : Wo dr mc P n l K (i :: σ) ρ G μ :=
  .pure ho (.inl rfl) hg (fun hc q w ha => by
    have hq : (eqGuard .neq T x y (.pointer (some a)) (.pointer none)).run P w = .ok () w := by unfold eqGuard; simp
    simp [execOp, hx.eval ha hc, hy.eval ha hc, hq, binOp, run_eqp hT]) h
theorem pe {T T' : TypeId} {x y : Operand} {a : Addr} (ho : nth l i = some ⟨some d, .binOp .eql T x y T', t, p, af, g⟩) (hg : Gd l ρ g c) (hT : ptT P T = true) (hx : Ev ρ c x (.pointer (some a))) (hy : Ev ρ c y (.pointer none)) (h : Wo dr mc P n l K σ ((d, c, .bool false) :: ρ) G μ) : Wo dr mc P n l K (i :: σ) ρ G μ :=
  .pure ho (.inl rfl) hg (fun hc q w ha => by
    have hq : (eqGuard .eql T x y (.pointer (some a)) (.pointer none)).run P w = .ok () w := by unfold eqGuard; simp
    simp [execOp, hx.eval ha hc, hy.eval ha hc, hq, binOp, run_eqp hT]) h
/-! ## '[]byte{}' as a block, and appending to it -/
theorem b0B {T E sz by' : Nat} (ho : nth l i = some ⟨some d, .buildSlice T 0 #[], t, p, af, none⟩) (hT : slE P T = some (E, sz, by'))
    (h : ∀ b, Wo dr mc P n l K σ ((d, true, .slice (some ⟨b, 0, none⟩) 0 0) :: ρ) G (.blk b (cl [] E) :: μ)) : Wo dr mc P n l K (i :: σ) ρ G μ :=
  .box (ob := cl [] E) (mkv := fun b => .slice (some ⟨b, 0, none⟩) 0 0) ho (.inl rfl) rfl (fun a w ha => by
    obtain ⟨hu, inf, hi, hs1, _⟩ := slE_some hT
    simp [execOp, Instr.buildSlice, run_underlying hu, sizeOf, typeInfo, hi, Instr.fill, newRow, cl]
    rw [show Array.map (fun _ => (default : Value)) (Array.range 0) = #[] from by simp [Array.eq_empty_iff_size_eq_zero]]) h
theorem Sat.toRow {E b : Nat} {w : World} (h : Sat G [.blk b (cl [] E)] w) : Sat G [rB (.slice (some ⟨b, 0, none⟩) 0 0) E []] w :=
  ((Tr.begin h).toRow (m := 0) (sz := 1) (by simp) (Nat.zero_le _)).sat
theorem apY0 {T E b : Nat} {x y : Operand} {u : Value} {ys : List Y} {μ' : Mem} (ho : nth l i = some ⟨some d, .call { callee := .builtin .append, args := #[x, y], argTypes := #[T, T] }, t, p, af, none⟩)
    (hT : slE P T = some (E, 1, 1)) (hz : (P.info? E).bind (·.zero) = some (.int .u8 0)) (hx : Ev ρ true x (.slice (some ⟨b, 0, none⟩) 0 0)) (hy : Ev ρ true y u) (hm : MTake μ (.blk b (cl [] E)) μ') (hs : Sc G μ u ys) (hb : ys.length ≤ 140737488355328)
    (h : ∀ v' L ν, v'.oneCell' = true → L = ys → Wo dr mc P n l K σ ((d, true, v') :: ρ) G (rB v' E L :: (μ' ++ ν))) : Wo dr mc P n l K (i :: σ) ρ G μ := by
  obtain ⟨oa, cap, rfl, hr⟩ := hs.ex
  clear hs
  have hrun0 : ∀ a w, Ag n ρ a → Sat G ([.blk b (cl [] E)] ++ μ') w → ∃ v' w', (execOp a.eval ⟨some d, .call { callee := .builtin .append, args := #[x, y], argTypes := #[T, T] }, t, p, af, none⟩).run P w = .ok (.value v') w' ∧ Tr G (keys [.blk b (cl [] E)]) w G [rB v' E ys] w' := by
    intro a w ha hs
    have hrow := Sat.toRow hs.left
    obtain ⟨v', w', hrun, ht⟩ := run_ap (ty := t) (cp := cap) (m := 0) (xs := []) (news := ys.map V) (k := ys.length) (oa := oa) hT hz rfl hrow (by simp) (fun hk => by
      obtain ⟨b, o, h1, h2⟩ := hr hk
      exact ⟨b, o, h1, fun j u hj => h2 j u hj w (hs.perm hm.perm.symm)⟩) (one_V ys) (by omega) (by unfold maxLen; omega)
    refine ⟨v', w', by simp [execOp, resolve, invoke, builtin, hx.eval ha rfl, hy.eval ha rfl, hrun], ?_⟩
    simpa [keys, Res.keys, Value.ownBlock] using ht
  by_cases hmc : mc.a = true
  · refine .fresh (μ₁ := [.blk b (cl [] E)]) (μ₂ := μ') (post := fun G' μa μb v' => G' = G ∧ v'.oneCell' = true ∧ μa = [rB v' E ys] ∧ Weak (μa ++ μb) [.blk b (cl [] E)]) ho (.inl (by simp [kindOf, hmc])) rfl hm.perm (fun a w ha hs => ?_) (fun v G' μa μb hq => hq.2.2.2) ?_
    · by_cases hy0 : ys.length = 0
      · -- nothing is appended: the block itself
        obtain ⟨v', w', h1, h2⟩ := hrun0 a w ha hs
        have hys : ys = [] := List.eq_nil_of_length_eq_zero hy0
        subst hys
        have hb0 : w.heap[b]? = some (cl [] E) := hs.own _ (List.mem_append_left _ (List.mem_singleton.2 rfl))
        obtain ⟨hu, inf, hi, hs1, hb1⟩ := slE_some hT
        have hv : v' = .slice (some ⟨b, 0, none⟩) 0 0 := by
          have hrun : (execOp a.eval ⟨some d, .call { callee := .builtin .append, args := #[x, y], argTypes := #[T, T] }, t, p, af, none⟩).run P w = .ok (.value (.slice (some ⟨b, 0, none⟩) 0 0)) w := by
            simp only [execOp, resolve, invoke, builtin, hx.eval ha rfl, hy.eval ha rfl]
            cases oa <;> simp [hx.eval ha rfl, hy.eval ha rfl, Builtin.append_, run_underlying hu, sizeOf, typeInfo, hi, Builtin.lenOf, Builtin.firstCells, loadCells, loadCellsFrom, storeCells]
          rw [hrun] at h1
          simp only [Result.ok.injEq, Next.value.injEq] at h1
          exact h1.1.symm
        refine ⟨v', w', G, [rB v' E []], [], h1, h2, rfl, h2.sat.rowOne, rfl, ?_⟩
        subst hv
        refine ⟨fun w1 hw1 r hr1 => ?_, fun c hc => ?_, by simp [keys, Res.keys]⟩
        · rw [List.mem_singleton.1 hr1]
          have hrow : w1.ownsRow 0 E 1 (.slice (some ⟨b, 0, none⟩) 0 0) 0 [] := hw1 _ (List.mem_singleton.2 rfl)
          rcases hrow.2 with ⟨e, _⟩ | ⟨g, cap', cur, e, _, hg, hnc, hcm, hcs, htake⟩
          · cases e
          · simp only [Value.slice.injEq, Option.some.injEq, Addr.mk.injEq, and_true, true_and] at e
            obtain ⟨rfl, rfl⟩ := e
            have : cur = #[] := Array.eq_empty_of_size_eq_zero (by simpa using hcs)
            subst this
            exact hg
        · simpa [keys, Res.keys, Value.ownBlock] using hc
      · -- a new row
        have hb0 : w.heap[b]? = some (cl [] E) := hs.own _ (List.mem_append_left _ (List.mem_singleton.2 rfl))
        obtain ⟨hu, inf, hi, hs1, hb1⟩ := slE_some hT
        have hz' := hz
        rw [hi] at hz'
        simp only [Option.bind_some] at hz'
        obtain ⟨b2, o2, rfl, hrd⟩ := hr (by omega)
        have hnews : ∀ j u, (ys.map V)[j]? = some u → w.cell? ((⟨b2, o2, none⟩ : Addr).add j) = some u := fun j u hj => by rw [add_lit]; exact hrd j u hj w (hs.perm hm.perm.symm)
        have hrun := run_append_grow (P := P) w T t E inf _ hu hi hz' ⟨b, 0, none⟩ 0 0 [] (by simp) (fun j u hj => by simp at hj) ⟨b2, o2, none⟩ ys.length cap (ys.map V) (by rw [hs1]; simp) hnews (by omega) (by omega) (growslice_fits (by omega) (by rw [hb1]; omega))
        have h2 := ((Tr.begin hs.left).drew).alloc (.cells (([] : List Value).toArray ++ (ys.map V).toArray ++ Builtin.zeroCells (Value.int .u8 0).cells (grownCap w (0 + ys.length) 0 E - (0 + ys.length))) E)
        have hge := grownCap_ge w (0 + ys.length) 0 E
        have h3 := h2.asRow (m := ys.length) (cap := grownCap w (0 + ys.length) 0 E) (sz := 1) (xs := ys.map V) (by simp) (by omega) (grownCap_le_maxLen w (0 + ys.length) 0 E (by unfold maxLen; omega)) (by
          simp only [Array.size_append, List.size_toArray, size_zeroCells, List.length_map, List.length_nil]
          have : (Value.int .u8 0).cells.size = 1 := rfl
          rw [this]; omega) (by simp)
        refine ⟨_, _, G, [_], [.blk b (cl [] E)], ?_, h3, rfl, ?_, rfl, ?_⟩
        · simp only [Nat.zero_add] at hrun ⊢
          simp [execOp, resolve, invoke, builtin, hx.eval ha rfl, hy.eval ha rfl, hrun]
        · rfl
        · refine ⟨fun w1 hw1 r hr1 => hw1 r (List.mem_cons_of_mem _ hr1), fun c hc => ?_, by simp [keys, Res.keys]⟩
          rw [keys_append]
          exact List.mem_append_right _ hc
    · rintro v' G' μa μb _ ⟨rfl, h1, rfl, _⟩
      exact h v' _ μb h1 rfl
  · refine .act (μ₁ := [.blk b (cl [] E)]) (μ₂ := μ') (post := fun G' μ' v' => G' = G ∧ v'.oneCell' = true ∧ μ' = [rB v' E ys]) ho (.inl (by simp [kindOf, hmc])) .no hm.perm (fun a w ha hs => .inl ?_) ?_
    · obtain ⟨v', w', h1, h2⟩ := hrun0 a w ha hs
      exact ⟨v', w', G, [rB v' E ys], .inl h1, h2, rfl, h2.sat.rowOne, rfl⟩
    · rintro v' G' μ'' _ ⟨rfl, h1, rfl⟩
      have := h v' _ [] h1 rfl
      rwa [List.append_nil] at this
theorem we_e0 {X : Cx} {e : Exit} {k : List KI} {E b : Nat} {μ' : Mem} (hm : MTake μ (.blk b (cl [] E)) μ') (h : We X e k ρ G (rB (.slice (some ⟨b, 0, none⟩) 0 0) E [] :: μ')) : We X e k ρ G μ :=
  ⟨fun a w ha ht => h.out a w ha ((ht.perm hm.perm).toRow (m := 0) (sz := 1) (by simp) (Nat.zero_le _))⟩
theorem wk_nilB {X : Cx} {cd : Code} {k : List KI} (E : Nat) (h : Wk X cd k ρ G (rB (.slice none 0 0) E [] :: μ)) : Wk X cd k ρ G μ := wk_nilRow E 1 h
theorem we_nilB {X : Cx} {e : Exit} {k : List KI} (E : Nat) (h : We X e k ρ G (rB (.slice none 0 0) E [] :: μ)) : We X e k ρ G μ := we_nilRow E 1 h
theorem evi {k : IntKind} {a b : Int} (h : a = b) : Value.int k a = Value.int k b := by rw [h]
/-- answers bytes of its own -/
abbrev PR (E : Nat) (R : List Y → Prop) : PM → Mem → Value → Prop := fun _ μ' u => ∃ L, R L ∧ μ' = [rB u E L]
/-- answers bytes that stay -/
abbrev PS (R : List Y → Prop) : PM → Mem → Value → Prop := fun G' μ' u => ∃ (s : Sh) (L : List Y), R L ∧ μ' = [] ∧ u = s.val L.length ∧ SlR G' 1 encY s L
theorem Ct.frzB {f : FuncId} {args : Array Value} {E : Nat} {R : List Y → Prop} (h : Ct P f args G [] (PR E R)) : Ct P f args G [] (PS R) := Ct.frz (μ0 := []) h (fun _ _ _ h => h)
/-- words that stay -/
theorem RdNP.wat {b m : Nat} {y : Nat → W} (h : RdNP G b 0 (wa m y)) {j : Int} (a : Nat) (hj : 0 + j.toNat * 1 = a) (ha : a < m) : RdP G ⟨b, 0 + j.toNat * 1, none⟩ (U (y a)) := by
  rw [hj]; have := h a _ (wa_at ha); rwa [Nat.zero_add] at this
/-- from a small word to a number -/
theorem cn {S D : TypeId} {x : Operand} {k : IntKind} {a : BitVec k.bits} (ho : nth l i = some ⟨some d, .convert S D x, t, p, af, g⟩) (hg : Gd l ρ g c) (hk : cvK P S D = some .i64) (hb : k.bits ≤ 32) (hx : Ev ρ c x (uv k a))
    (h : ∀ m : Nat, m = a.toNat → m < 2 ^ k.bits → Wo dr mc P n l K σ ((d, c, .int .i64 (m : Int)) :: ρ) G μ) : Wo dr mc P n l K (i :: σ) ρ G μ :=
  cw ho hg hk hx (fun _ => wrap_i64 (by omega) (by
    have h1 := a.isLt
    have h2 : 2 ^ k.bits ≤ 2 ^ 32 := Nat.pow_le_pow_right (by decide) hb
    omega)) (h a.toNat rfl a.isLt)
/-! ## Memory of one's own, lent for the time of a call -/
def PM.del (G : PM) (b : Nat) : PM := fun c => if c = b then none else G c
theorem mtk1 {μ μ1 : Mem} {r1 : Res} (h1 : MTake μ r1 μ1) : μ.Perm ([r1] ++ μ1) := h1.perm
theorem mtk2 {μ μ1 μ2 : Mem} {r1 r2 : Res} (h1 : MTake μ r1 μ1) (h2 : MTake μ1 r2 μ2) : μ.Perm ([r1, r2] ++ μ2) := h1.perm.trans (h2.perm.cons _)
theorem mtk3 {μ μ1 μ2 μ3 : Mem} {r1 r2 r3 : Res} (h1 : MTake μ r1 μ1) (h2 : MTake μ1 r2 μ2) (h3 : MTake μ2 r3 μ3) : μ.Perm ([r1, r2, r3] ++ μ3) := h1.perm.trans ((h2.perm.trans (h3.perm.cons _)).cons _)
theorem Ct.lend {f : FuncId} {args : Array Value} {b : Nat} {o : Obj} {Q : Mem → Value → Prop} (h : Ct P f args (G.add b o) μ (fun _ μ' u => Q μ' u)) : Ct P f args G (.blk b o :: μ) (fun _ μ' u => ∃ ν, μ' = .blk b o :: ν ∧ Q ν u) := by
  intro w hs
  have hk : keys (.blk b o :: μ) = b :: keys μ := by simp [keys, Res.keys]
  have hnd := hs.nodup
  rw [hk] at hnd
  have hbμ := (List.nodup_cons.1 hnd).1
  have hbo : w.heap[b]? = some o := hs.own _ (List.mem_cons_self ..)
  have hs2 : Sat (G.add b o) μ w := by
    refine ⟨fun c u hc => ?_, fun r hr => hs.own r (List.mem_cons_of_mem _ hr), fun c hc => ?_, (List.nodup_cons.1 hnd).2⟩
    · unfold PM.add at hc
      split at hc
      · rename_i e; subst e; cases hc; exact hbo
      · exact hs.sub c u hc
    · unfold PM.add
      rw [if_neg (fun (e : c = b) => hbμ (e ▸ hc))]
      exact hs.apart c (by rw [hk]; exact List.mem_cons_of_mem _ hc)
  refine (h w hs2).mono ?_
  rintro e w' ⟨v, G', μ', rfl, ht, hQ⟩
  have hGb : G' b = some o := ht.le b o hbμ (PM.add_same G b o)
  have hk' : keys (.blk b o :: μ') = b :: keys μ' := by simp [keys, Res.keys]
  have hbμ' : b ∉ keys μ' := fun hm => by have := ht.sat.apart b hm; rw [hGb] at this; cases this
  refine ⟨v, G'.del b, .blk b o :: μ', rfl, ⟨⟨fun c u hc => ?_, fun r hr => ?_, fun c hc => ?_, ?_⟩, ht.os, ht.tape, ht.output, ht.size, fun c hc hK => ?_, fun c hc => ?_, fun c u hK hc => ?_⟩, μ', rfl, hQ⟩
  · unfold PM.del at hc
    split at hc
    · cases hc
    · exact ht.sat.sub c u hc
  · rcases List.mem_cons.1 hr with rfl | hr
    · exact ht.sat.sub b o hGb
    · exact ht.sat.own r hr
  · rw [hk'] at hc
    unfold PM.del
    split
    · rfl
    · rename_i hne
      rcases List.mem_cons.1 hc with e | hc
      · exact absurd e hne
      · exact ht.sat.apart c hc
  · rw [hk']; exact List.nodup_cons.2 ⟨hbμ', ht.sat.nodup⟩
  · rw [hk] at hK
    have hne : c ≠ b := fun e => hK (by rw [e]; exact List.mem_cons_self ..)
    have h1 := ht.old c hc (fun hm => hK (List.mem_cons_of_mem _ hm))
    refine ⟨h1.1, ?_⟩
    unfold PM.del
    rw [if_neg hne, h1.2]
    unfold PM.add
    rw [if_neg hne]
  · rw [hk'] at hc
    rw [hk]
    rcases List.mem_cons.1 hc with rfl | hc
    · exact .inl (List.mem_cons_self ..)
    · rcases ht.mine c hc with h1 | h1
      · exact .inl (List.mem_cons_of_mem _ h1)
      · exact .inr h1
  · rw [hk] at hK
    have hne : c ≠ b := fun e => hK (by rw [e]; exact List.mem_cons_self ..)
    unfold PM.del
    rw [if_neg hne]
    exact ht.le c u (fun hm => hK (List.mem_cons_of_mem _ hm)) (by unfold PM.add; rw [if_neg hne]; exact hc)
/-- what is asked of the memory's own first, then the contract -/
theorem Ct.pre {f : FuncId} {args : Array Value} {Q : PM → Mem → Value → Prop} (h : (∃ w, Sat G μ w) → Ct P f args G μ Q) : Ct P f args G μ Q := fun w hs => h ⟨w, hs⟩ w hs
theorem Ct.lendB {f : FuncId} {args : Array Value} {E : Nat} {v : Value} {xs : List Y} {Q : Mem → Value → Prop}
    (h : ∀ (s : Sh) (G2 : PM), PM.le G G2 → v = s.val xs.length → SlR G2 1 encY s xs → Ct P f args G2 μ (fun _ μ' u => Q μ' u)) : Ct P f args G (rB v E xs :: μ) (fun _ μ' u => ∃ ν, μ' = rB v E xs :: ν ∧ Q ν u) := by
  intro w hs
  have hrow : w.ownsRow 0 E 1 v xs.length (xs.map V) := hs.own _ (List.mem_cons_self ..)
  have hnd := hs.nodup
  rcases hrow.2 with ⟨rfl, h0⟩ | ⟨g, cap, cur, rfl, _, hg, hnc, hcm, hcs, htake⟩
  · have hx : xs = [] := List.eq_nil_of_length_eq_zero h0
    subst hx
    have hk : keys (rB (.slice none 0 0) E [] :: μ) = keys μ := by simp [keys, Res.keys, Value.ownBlock]
    have hs2 : Sat G μ w := ⟨hs.sub, fun r hr => hs.own r (List.mem_cons_of_mem _ hr), by rw [← hk]; exact hs.apart, by rw [← hk]; exact hs.nodup⟩
    refine (h ⟨none, 0⟩ G (PM.le.refl G) rfl SlR.nul w hs2).mono ?_
    rintro e w' ⟨u, G', μ', rfl, ht, hQ⟩
    refine ⟨u, G', _, rfl, ?_, μ', rfl, hQ⟩
    rw [hk]; exact ht.nilRow
  · have hk : keys (rB (.slice (some ⟨g, 0, none⟩) xs.length cap) E xs :: μ) = keys (.blk g (.cells cur E (0, 0)) :: μ) := by simp [keys, Res.keys, Value.ownBlock]
    have hs2 : Sat G (.blk g (.cells cur E (0, 0)) :: μ) w := by
      refine ⟨hs.sub, fun r hr => ?_, by rw [← hk]; exact hs.apart, by rw [← hk]; exact hs.nodup⟩
      rcases List.mem_cons.1 hr with rfl | hr
      · exact hg
      · exact hs.own r (List.mem_cons_of_mem _ hr)
    have hGg : G g = none := hs2.apart g (by simp [keys, Res.keys])
    have hsl : SlR (G.add g (.cells cur E (0, 0))) 1 encY ⟨some ⟨g, 0, none⟩, cap⟩ xs := by
      refine SlR.ofRow (fun _ _ => rfl) hnc (fun _ => rfl) ?_
      rw [flat_V]
      intro j u hj w' hs'
      show w'.cell? ⟨g, 0 + j, none⟩ = some u
      rw [Nat.zero_add, cell_of_row w' g j cur E (0, 0) (hs' g _ (PM.add_same G g _))]
      rw [← htake, List.getElem?_take] at hj
      split at hj
      · simpa using hj
      · cases hj
    refine (Ct.lend (h ⟨some ⟨g, 0, none⟩, cap⟩ _ (PM.le_add hGg) rfl hsl) w hs2).mono ?_
    rintro e w' ⟨u, G', μ', rfl, ht, ν, rfl, hQ⟩
    refine ⟨u, G', _, rfl, ?_, ν, rfl, hQ⟩
    rw [hk]
    exact ht.asRow (by simp) hnc hcm hcs htake
theorem Ct.perm {f : FuncId} {args : Array Value} {μ' : Mem} {Q : PM → Mem → Value → Prop} (p : μ.Perm μ') (h : Ct P f args G μ Q) : Ct P f args G μ' Q := by
  intro w hs
  refine (h w (hs.perm p.symm)).mono ?_
  rintro e w' ⟨u, G', ν, rfl, ht, hQ⟩
  refine ⟨u, G', ν, rfl, ⟨ht.sat, ht.os, ht.tape, ht.output, ht.size, fun b hb hK => ht.old b hb (fun hm => hK ((keys_perm p).mem_iff.1 hm)), fun b hb => ?_, fun b o hK hb => ht.le b o (fun hm => hK ((keys_perm p).mem_iff.1 hm)) hb⟩, hQ⟩
  rcases ht.mine b hb with h1 | h1
  · exact .inl ((keys_perm p).mem_iff.1 h1)
  · exact .inr h1
theorem Ct.mono {f : FuncId} {args : Array Value} {Q Q' : PM → Mem → Value → Prop} (h : Ct P f args G μ Q) (hq : ∀ G' μ' u, Q G' μ' u → Q' G' μ' u) : Ct P f args G μ Q' := by
  intro w hs
  refine (h w hs).mono ?_
  rintro e w' ⟨u, G', ν, rfl, ht, hQ⟩
  exact ⟨u, G', ν, rfl, ht, hq _ _ _ hQ⟩
theorem bCe {T : TypeId} {ps : List (Nat × Operand)} {vs : List Value} {ws : List (List Value)} {zs : List Value} {pls : List (Nat × Nat)} (cs : List Value) (ho : nth l i = some ⟨some d, .build T ps.toArray, t, p, af, g⟩) (hg : Gd l ρ g c) (hF : bPl P T (ps.map (·.1)) = some (zs, pls)) (hv : EvC n ρ c ps vs ws) (hb : bOk zs.length pls ws = true) (he : bFold zs pls ws = cs)
    (h : Wo dr mc P n l K σ ((d, c, .agg cs.toArray) :: ρ) G μ) : Wo dr mc P n l K (i :: σ) ρ G μ := bC ho hg hF hv hb (by rw [he]; exact h)
/-- a row's value is kept in a cell -/
theorem s1v {T T' E sz m : TypeId} {x y : Operand} {b o : Nat} {v : Value} {xs cs cs' : List Value} {μ' μ2 : Mem} (ho : nth l i = some ⟨none, .store T x y, t, p, af, none⟩) (hx : Ev ρ true x (.pointer (some ⟨b, o, none⟩))) (hy : Ev ρ true y v) (hr : MTake μ (.row v E sz m xs) μ2) (hz : szT P T = some 1)
    (hm : MTake μ (.blk b (cl cs T')) μ') (hl : o < cs.length) (hcs : cs.set o v = cs') (h : Wo dr mc P n l K σ ρ G (.blk b (cl cs' T') :: μ')) : Wo dr mc P n l K (i :: σ) ρ G μ := by
  refine .act (μ₁ := [.blk b (cl cs T')]) (μ₂ := μ') (post := fun G' μ' v => G' = G ∧ μ' = [.blk b (cl cs' T')] ∧ v = undef) ho (.inl rfl) .no hm.perm (fun a w ha hs => .inl ?_) ?_
  · have hs' := hs.left
    have hrow : w.ownsRow 0 E sz v m xs := (hs.perm hm.perm.symm).own _ (hr.perm.mem_iff.2 (List.mem_cons_self ..))
    have hv : v.oneCell' = true := by rcases hrow.2 with ⟨rfl, _⟩ | ⟨g, cap, cur, rfl, _⟩ <;> rfl
    have hb : w.heap[b]? = some (cl cs T') := hs'.own _ (List.mem_singleton.2 rfl)
    have hv' : v.cells = #[v] := by cases v <;> first | rfl | cases hv
    have h2 := Tr.setRow (cs' := cs') hs'
    refine ⟨undef, w.setRow b cs'.toArray, G, _, .inr ⟨?_, rfl⟩, h2, rfl, rfl, rfl⟩
    cases hi : P.info? T with
    | none => simp [szT, hi] at hz
    | some inf =>
      simp only [szT, hi, Option.map_some, Option.some.injEq] at hz
      have := run_storeCells_at P b o T' [v] 0 cs.toArray w hb (by simp; omega) (by intro u hu; rw [List.mem_singleton.1 hu]; exact hv)
      simp only [Nat.add_zero, List.length_singleton] at this
      have e : cs.take o ++ [v] ++ cs.drop (o + 1) = cs' := by rw [← hcs, List.set_eq_take_append_cons_drop, if_pos hl]; simp
      simp only [e] at this
      simp [execOp, hx.eval ha rfl, hy.eval ha rfl, Instr.storeAt, Instr.sureAddr, storeVar, hv', sizeOf, typeInfo, hi, hz, this]
  · rintro v G' μ'' _ ⟨rfl, rfl, rfl⟩
    exact h
/-- a row's value, whatever it is -/
theorem Sat.rowSh {E sz m : Nat} {v : Value} {xs : List Value} {w : World} (hs : Sat G μ w) (hm : .row v E sz m xs ∈ μ) : ∃ (s : Sh) (b : Nat), v = s.val m ∧ m ≤ s.cap ∧ (0 < m → s.oa = some ⟨b, 0, none⟩) := by
  have hrow : w.ownsRow 0 E sz v m xs := hs.own _ hm
  rcases hrow.2 with ⟨rfl, rfl⟩ | ⟨g, cap, cur, rfl, _, hg, hnc, _⟩
  · exact ⟨⟨none, 0⟩, 0, rfl, Nat.le_refl _, fun h => absurd h (Nat.lt_irrefl _)⟩
  · exact ⟨⟨some ⟨g, 0, none⟩, cap⟩, g, rfl, hnc, fun _ => rfl⟩
theorem wk_rs {X : Cx} {cd : Code} {k : List KI} {E sz m : Nat} {v : Value} {xs : List Value} {μ' : Mem} (hm : MTake μ (.row v E sz m xs) μ') (h : ∀ (s : Sh) (b : Nat), v = s.val m → m ≤ s.cap → (0 < m → s.oa = some ⟨b, 0, none⟩) → Wk X cd k ρ G μ) : Wk X cd k ρ G μ :=
  ⟨fun a w ha ht => by
    obtain ⟨s, b, h1, h2, h3⟩ := ht.sat.rowSh (hm.perm.mem_iff.2 (List.mem_cons_self ..))
    exact (h s b h1 h2 h3).out a w ha ht⟩
theorem we_rs {X : Cx} {e : Exit} {k : List KI} {E sz m : Nat} {v : Value} {xs : List Value} {μ' : Mem} (hm : MTake μ (.row v E sz m xs) μ') (h : ∀ (s : Sh) (b : Nat), v = s.val m → m ≤ s.cap → (0 < m → s.oa = some ⟨b, 0, none⟩) → We X e k ρ G μ) : We X e k ρ G μ :=
  ⟨fun a w ha ht => by
    obtain ⟨s, b, h1, h2, h3⟩ := ht.sat.rowSh (hm.perm.mem_iff.2 (List.mem_cons_self ..))
    exact (h s b h1 h2 h3).out a w ha ht⟩
theorem Sc.rowS {μ' : Mem} {s : Sh} {b E : Nat} {ys : List Y} (hm : MTake μ (rB (s.val ys.length) E ys) μ') (h0 : 0 < ys.length → s.oa = some ⟨b, 0, none⟩) : Sc G μ (s.val ys.length) ys := by
  refine ⟨s.oa, s.cap, rfl, fun h => ⟨b, 0, h0 h, fun j v hj => ?_⟩⟩
  have e := h0 h
  have e2 : s.val ys.length = .slice (some ⟨b, 0, none⟩) ys.length s.cap := by unfold Sh.val; rw [e]
  rw [e2] at hm
  exact Rd.row hm (by rw [Nat.zero_add]; exact hj)
theorem keys_sub {μ1 μ2 : Mem} (h : MSub μ1 μ2) : ∀ b ∈ keys μ1, b ∈ keys μ2 := by
  obtain ⟨ν, hν⟩ := h
  intro b hb
  exact (keys_perm hν).mem_iff.2 (by rw [keys_append]; exact List.mem_append_left _ hb)
/-- the answer of bytes, with the value's form -/
abbrev PRc (E : Nat) (R : List Y → Prop) : PM → Mem → Value → Prop := fun _ μ' u => ∃ L, u.oneCell' = true ∧ R L ∧ μ' = [rB u E L]
theorem Ct.rowc {f : FuncId} {args : Array Value} {E : Nat} {R : List Y → Prop} (h : Ct P f args G μ (PR E R)) : Ct P f args G μ (PRc E R) := by
  intro w hs
  refine (h w hs).mono ?_
  rintro e w' ⟨u, G', ν, rfl, ht, L, hR, rfl⟩
  exact ⟨u, G', _, rfl, ht, L, ht.sat.rowOne, hR, rfl⟩
theorem one1 {a : Value} (h : a.oneCell' = true) : ∀ u ∈ [a], u.oneCell' = true := by intro u hu; rw [List.mem_singleton.1 hu]; exact h
theorem one2 {a b : Value} (h : a.oneCell' = true) (h2 : b.oneCell' = true) : ∀ u ∈ [a, b], u.oneCell' = true := by
  intro u hu
  rcases List.mem_cons.1 hu with rfl | hu
  · exact h
  · rw [List.mem_singleton.1 hu]; exact h2
end
end Go.Tan
