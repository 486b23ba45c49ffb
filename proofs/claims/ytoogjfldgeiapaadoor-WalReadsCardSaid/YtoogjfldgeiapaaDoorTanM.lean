/- More rules: slices held against nil, 'copy' into a row of one's own, rows of slices. No condition: proved for every program. -/
import Derived.Test.YtoogjfldgeiapaaDoorTanL
import Derived.Laws.CopyRow
namespace Go.Tan
open Go.RowKit
section
variable {dr : Bool} {mc : Md} {P : Program} {n : Nat} {l : List Oper} {K : Env → PM → Mem → Prop} {i : Nat} {σ : List Nat} {ρ : Env} {G : PM} {μ : Mem}
variable {d t : Nat} {p : String} {af : Array Edge} {g : Option (Nat × Bool)} {c : Bool}
theorem run_eqn {T m : Nat} {s : Sh} (hT : (slE P T).isSome = true) (w : World) : (Op.equal T (s.val m) (.slice none 0 0)).run P w = .ok s.oa.isNone w := by
  unfold slE at hT
  split at hT
  · rename_i e hu
    unfold Op.equal
    rw [show Op.maxDepth = 9999 + 1 from rfl, Op.equalIn]
    obtain ⟨oa, cap⟩ := s
    cases oa <;> simp [run_underlying hu, Sh.val]
  · cases hT
/-- 'xs == nil' -/
theorem sn0 {T T' m : Nat} {x y : Operand} {s : Sh} (ho : nth l i = some ⟨some d, .binOp .eql T x y T', t, p, af, g⟩) (hg : Gd l ρ g c) (hT : (slE P T).isSome = true) (hx : Ev ρ c x (s.val m)) (hy : Ev ρ c y (.slice none 0 0)) (h : Wo dr mc P n l K σ ((d, c, .bool s.oa.isNone) :: ρ) G μ) : Wo dr mc P n l K (i :: σ) ρ G μ :=
  .pure ho (.inl rfl) hg (fun hc q w ha => by
    have hq : (eqGuard .eql T x y (s.val m) (.slice none 0 0)).run P w = .ok () w := by unfold eqGuard; simp [Sh.val]
    have hb : (binOp .eql T (s.val m) (.slice none 0 0)).run P w = .ok (.bool s.oa.isNone) w := by
      have := run_eqn (P := P) (s := s) (m := m) hT w
      simp only [Sh.val] at this ⊢
      simp [binOp, this]
    simp [execOp, hx.eval ha hc, hy.eval ha hc, hq, hb]) h
/-- 'xs != nil' -/
theorem sn1 {T T' m : Nat} {x y : Operand} {s : Sh} (ho : nth l i = some ⟨some d, .binOp .neq T x y T', t, p, af, g⟩) (hg : Gd l ρ g c) (hT : (slE P T).isSome = true) (hx : Ev ρ c x (s.val m)) (hy : Ev ρ c y (.slice none 0 0)) (h : Wo dr mc P n l K σ ((d, c, .bool (!s.oa.isNone)) :: ρ) G μ) : Wo dr mc P n l K (i :: σ) ρ G μ :=
  .pure ho (.inl rfl) hg (fun hc q w ha => by
    have hq : (eqGuard .neq T x y (s.val m) (.slice none 0 0)).run P w = .ok () w := by unfold eqGuard; simp [Sh.val]
    have hb : (binOp .neq T (s.val m) (.slice none 0 0)).run P w = .ok (.bool (!s.oa.isNone)) w := by
      have := run_eqn (P := P) (s := s) (m := m) hT w
      simp only [Sh.val] at this ⊢
      simp [binOp, this]
    simp [execOp, hx.eval ha hc, hy.eval ha hc, hq, hb]) h
/-- bytes one above the other -/
theorem or8 {a b : Nat} (h1 : a < 256) (h2 : b < 256) : BitVec.ofInt 64 (a : Int) ||| BitVec.ofInt 64 ((256 * b : Nat) : Int) = BitVec.ofNat 64 (a + 256 * b) := by
  have e1 : BitVec.ofInt 64 (a : Int) = BitVec.ofNat 64 a := by simp
  have e2 : BitVec.ofInt 64 ((256 * b : Nat) : Int) = BitVec.ofNat 64 (256 * b) := BitVec.ofInt_natCast ..
  rw [e1, e2]
  apply BitVec.eq_of_toNat_eq
  rw [BitVec.toNat_or, BitVec.toNat_ofNat, BitVec.toNat_ofNat, BitVec.toNat_ofNat, Nat.mod_eq_of_lt (by omega), Nat.mod_eq_of_lt (by omega), Nat.mod_eq_of_lt (by omega)]
  have := Nat.two_pow_add_eq_or_of_lt (i := 8) (b := a) (by omega) b
  rw [show (2 : Nat) ^ 8 = 256 from rfl] at this
  rw [show a ||| 256 * b = 256 * b ||| a from Nat.or_comm _ _, ← this, Nat.add_comm]
theorem or8r {T T' : Nat} {x y : Operand} {a1 a2 : Int} (a b : Nat) (ho : nth l i = some ⟨some d, .binOp .or T x y T', t, p, af, g⟩) (hg : Gd l ρ g c) (hx : Ev ρ c x (.int .i64 a1)) (hy : Ev ρ c y (.int .i64 a2)) (e1 : c = true → a1 = a) (e2 : c = true → a2 = (256 * b : Nat)) (h1 : a < 256) (h2 : b < 256)
    (h : Wo dr mc P n l K σ ((d, c, .int .i64 ((a + 256 * b : Nat) : Int)) :: ρ) G μ) : Wo dr mc P n l K (i :: σ) ρ G μ :=
  .pure ho (.inl rfl) hg (fun hc q w ha => by
    have e1' := e1 hc; have e2' := e2 hc
    subst e1'; subst e2'
    have hb : (binOp .or T (.int .i64 (a : Int)) (.int .i64 ((256 * b : Nat) : Int))).run P w = .ok (.int .i64 ((a + 256 * b : Nat) : Int)) w := by
      have h3 := or8 h1 h2
      have h4 : IntKind.i64.wrap ((BitVec.ofNat 64 (a + 256 * b)).toNat : Int) = ((a + 256 * b : Nat) : Int) := by
        rw [BitVec.toNat_ofNat, Nat.mod_eq_of_lt (by omega)]
        exact wrap_i64 (by omega) (by omega)
      have h5 : (Op.intBits .or .i64 (a : Int) ((256 * b : Nat) : Int)) = pure (.int .i64 (IntKind.i64.wrap ((BitVec.ofInt 64 (a : Int) ||| BitVec.ofInt 64 ((256 * b : Nat) : Int)).toNat : Int))) := rfl
      have h6 : binOp .or T (.int .i64 (a : Int)) (.int .i64 ((256 * b : Nat) : Int)) = Op.intBits .or .i64 (a : Int) ((256 * b : Nat) : Int) := rfl
      rw [h6, h5, h3, h4]; rfl
    simp only [execOp, hx.eval ha hc, hy.eval ha hc, Sem.run_bind, eqGuard_int, Result.andThen_ok, hb]; rfl) h
/-! ## 'copy' -/
theorem RdN.take {b o : Nat} {cs : List Value} (h : RdN G μ b o cs) (q : Nat) : RdN G μ b o (cs.take q) := fun j v hj => by
  rw [List.getElem?_take] at hj
  split at hj
  · exact h j v hj
  · cases hj
theorem splice_take {A C : List Value} {o m : Nat} (h1 : o + C.length ≤ m) (h2 : m ≤ A.length) : (A.take o ++ C ++ A.drop (o + C.length)).take m = (A.take m).take o ++ C ++ (A.take m).drop (o + C.length) := by
  have hl : (A.take o ++ C).length = o + C.length := by rw [List.length_append, List.length_take]; omega
  rw [List.take_append, List.take_of_length_le (by omega), hl, List.take_take, Nat.min_eq_left (by omega), List.drop_take]
/-- into a row of one's own, from a place on -/
theorem cpY {T E b o m cap m2 cap2 : Nat} {x y : Operand} {u : Value} {xs ys : List Y} {μ' : Mem} (ho : nth l i = some ⟨some d, .call { callee := .builtin .copy, args := #[x, y], argTypes := #[T, T] }, t, p, af, none⟩)
    (hT : slE P T = some (E, 1, 1)) (hx : Ev ρ true x (.slice (some ⟨b, o, none⟩) m2 cap2)) (hy : Ev ρ true y u) (hm : MTake μ (rB (.slice (some ⟨b, 0, none⟩) m cap) E xs) μ') (hsc : Sc G μ u ys) (ho2 : o + m2 = xs.length) (hfit : ys.length ≤ m2)
    (h : ∀ L, L = xs.take o ++ ys ++ xs.drop (o + ys.length) → L.length = xs.length → Wo dr mc P n l K σ ((d, true, .int .i64 (ys.length : Int)) :: ρ) G (rB (.slice (some ⟨b, 0, none⟩) m cap) E L :: μ')) : Wo dr mc P n l K (i :: σ) ρ G μ := by
  obtain ⟨oa, cap3, rfl, hr⟩ := hsc.ex
  refine .act (μ₁ := [rB (.slice (some ⟨b, 0, none⟩) m cap) E xs]) (μ₂ := μ') (post := fun G' μ' v => G' = G ∧ μ' = [rB (.slice (some ⟨b, 0, none⟩) m cap) E (xs.take o ++ ys ++ xs.drop (o + ys.length))] ∧ v = .int .i64 (ys.length : Int)) ho (.inl rfl) .no hm.perm (fun a w ha hs => .inl ?_) ?_
  · have hs' := hs.left
    have hrow : w.ownsRow 0 E 1 (.slice (some ⟨b, 0, none⟩) m cap) xs.length (xs.map V) := hs'.own _ (List.mem_singleton.2 rfl)
    obtain ⟨hu, inf, hi, hs1, hb1⟩ := slE_some hT
    rcases hrow.2 with ⟨e, _⟩ | ⟨g, cap', cur, e, _, hg, hnc, hcm, hcs, htake⟩
    · cases e
    · simp only [Value.slice.injEq, Option.some.injEq, Addr.mk.injEq, and_true, true_and] at e
      obtain ⟨rfl, rfl, rfl⟩ := e
      have hk : keys [rB (.slice (some ⟨b, 0, none⟩) xs.length cap) E xs] = [b] := by simp [keys, Res.keys, Value.ownBlock]
      have hsat : Sat G [.blk b (.cells cur E (0, 0))] w := ⟨hs'.sub, fun r hr => by rw [List.mem_singleton.1 hr]; exact hg, fun c hc => hs'.apart c (by simpa [keys, Res.keys, Value.ownBlock] using hc), by simp [keys, Res.keys]⟩
      simp only [Nat.mul_one] at hcs htake
      by_cases h0 : ys.length = 0
      · obtain rfl : ys = [] := List.eq_nil_of_length_eq_zero h0
        have e1 : xs.take o ++ [] ++ xs.drop (o + ([] : List Y).length) = xs := by simp
        rw [e1]
        refine ⟨_, w, G, _, .inl ?_, Tr.begin hs', rfl, rfl, rfl⟩
        have hz : (P.info? E).map (·.size) = some 1 := by rw [hi]; simp [hs1]
        cases oa with
        | none => simp [execOp, resolve, invoke, builtin, hx.eval ha rfl, hy.eval ha rfl, Builtin.copy_, run_underlying hu, Builtin.lenOf, Builtin.firstCells, sizeOf, typeInfo, hi, storeCells, goInt]
        | some a0 => simp [execOp, resolve, invoke, builtin, hx.eval ha rfl, hy.eval ha rfl, Builtin.copy_, run_underlying hu, Builtin.lenOf, Builtin.firstCells, sizeOf, typeInfo, hi, storeCells, goInt, loadCells, loadCellsFrom]
      · obtain ⟨b0, o0, rfl, hrd⟩ := hr (by omega)
        have hsat0 : Sat G μ w := hs.perm hm.perm.symm
        have hrun := run_copy_row (P := P) w T T t E b o m2 cap2 ⟨b0, o0, none⟩ ys.length cap3 cur E (ys.map V) hu (by rw [hi]; simp [hs1]) hg (by rw [List.length_map]; exact (Nat.min_eq_left hfit).symm)
          (fun j v hj => by rw [add_lit]; exact hrd j v hj w hsat0) (by rw [List.length_map, hcs]; omega) (one_V ys)
        rw [List.length_map] at hrun
        have h2 := (Tr.setArr (cs' := (cur.toList.take o ++ ys.map V ++ cur.toList.drop (o + ys.length)).toArray) hsat).asRow (m := xs.length) (cap := cap) (sz := 1) (xs := (xs.take o ++ ys ++ xs.drop (o + ys.length)).map V) (by simp; omega) hnc hcm ?_ ?_
        · have hl : (xs.take o ++ ys ++ xs.drop (o + ys.length)).length = xs.length := by simp; omega
          refine ⟨_, w.setRow b (cur.toList.take o ++ ys.map V ++ cur.toList.drop (o + ys.length)).toArray, G, [rB (.slice (some ⟨b, 0, none⟩) xs.length cap) E (xs.take o ++ ys ++ xs.drop (o + ys.length))], .inl ?_, ?_, rfl, rfl, rfl⟩
          · simp only [execOp, resolve, invoke, builtin, hx.eval ha rfl, hy.eval ha rfl]
            simp [hx.eval ha rfl, hy.eval ha rfl, hrun, goInt]
          · rw [hk]; simp only [rB, hl]; exact h2
        · simp; omega
        · have hml : (ys.map V).length = ys.length := List.length_map ..
          have := splice_take (A := cur.toList) (C := ys.map V) (o := o) (m := xs.length) (by omega) (by have : cur.toList.length = cur.size := Array.length_toList ..; omega)
          rw [htake, hml] at this
          simp only [Nat.mul_one, List.map_append, List.map_take, List.map_drop]
          exact this
  · rintro v G' μ'' _ ⟨rfl, rfl, rfl⟩
    exact h _ rfl (by simp; omega)
theorem keys_k {r r' : Res} {μ1 ν : Mem} (h : MTake μ r' μ1) (e : r'.keys = r.keys) (hs : ∀ b ∈ keys ν, b ∈ keys μ1) : ∀ b ∈ keys (r :: ν), b ∈ keys μ := by
  intro b hb
  have h1 : b ∈ r.keys ++ keys ν := by simpa [keys] using hb
  refine (keys_perm h.perm).mem_iff.2 ?_
  show b ∈ keys (r' :: μ1)
  have h2 : b ∈ r'.keys ++ keys μ1 := by
    rcases List.mem_append.1 h1 with h1 | h1
    · exact List.mem_append_left _ (by rw [e]; exact h1)
    · exact List.mem_append_right _ (hs b h1)
  simpa [keys] using h2
theorem keys_0 : ∀ b ∈ keys [], b ∈ keys μ := fun b hb => by cases hb
/-! ## Rows of elements -/
/-- a row of one's own, its elements so many cells each -/
abbrev rS {α : Type} (sz : Nat) (enc : α → List Value) (v : Value) (E : Nat) (xs : List α) : Res := .row v E sz xs.length (xs.flatMap enc)
/-- one more element -/
theorem apS {α : Type} {enc : α → List Value} {sz T E by' b cp : Nat} {x y : Operand} {v z : Value} {xs : List α} {μ' μ2 : Mem} (a : α) (ho : nth l i = some ⟨some d, .call { callee := .builtin .append, args := #[x, y], argTypes := #[T, T] }, t, p, af, none⟩)
    (hT : slE P T = some (E, sz, by')) (hz : (P.info? E).bind (·.zero) = some z) (hzs : z.cells.size = sz) (hx : Ev ρ true x v) (hy : Ev ρ true y (.slice (some ⟨b, 0, none⟩) 1 cp)) (hm : MTake μ (rS sz enc v E xs) μ') (hb : MTake μ (.blk b (cl (enc a) E)) μ2) (ha : (enc a).length = sz) (h1 : ∀ u ∈ enc a, u.oneCell' = true) (hl : (xs.length + 1) * by' ≤ 140737488355328) (hl2 : xs.length + 1 ≤ maxLen)
    (h : ∀ v', v'.oneCell' = true → Wo dr mc P n l K σ ((d, true, v') :: ρ) G (rS sz enc v' E (xs ++ [a]) :: μ')) (hmc : mc.a = false ∨ dr = false := by first | exact .inl rfl | exact .inr rfl) : Wo dr mc P n l K (i :: σ) ρ G μ := by
  refine .act (μ₁ := [rS sz enc v E xs]) (μ₂ := μ') (post := fun G' μ' v' => G' = G ∧ v'.oneCell' = true ∧ μ' = [rS sz enc v' E (xs ++ [a])]) ho (by rcases hmc with h | h <;> simp [kindOf, h]) .no hm.perm (fun q w hq hs => .inl ?_) ?_
  · obtain ⟨v', w', hrun, ht⟩ := run_ap (ty := t) (cp := cp) (news := enc a) (k := 1) (oa := some ⟨b, 0, none⟩) hT hz hzs hs.left (by rw [ha]; omega) (fun _ => ⟨b, 0, rfl, fun j u hj => (RdN.own hb) j u hj w (hs.perm hm.perm.symm)⟩) h1 hl hl2
    refine ⟨v', w', G, [rS sz enc v' E (xs ++ [a])], .inl (by simp [execOp, resolve, invoke, builtin, hx.eval hq rfl, hy.eval hq rfl, hrun]), ?_, rfl, ht.sat.rowOne, rfl⟩
    simp only [rS, List.length_append, List.flatMap_append, List.flatMap_cons, List.flatMap_nil, List.append_nil]; exact ht
  · rintro v' G' μ'' _ ⟨rfl, h1, rfl⟩
    exact h v' h1
/-- it becomes memory that stays -/
theorem Tr.frzS {α : Type} {enc : α → List Value} {sz : Nat} {G0 : PM} {K0 : List Nat} {w0 w : World} {E : Nat} {v : Value} {xs : List α} (hsz : ∀ x ∈ xs, (enc x).length = sz) (h : Tr G0 K0 w0 G (rS sz enc v E xs :: μ) w) (hK : ∀ b ∈ K0, b ∈ keys μ) :
    ∃ G' s, PM.le G G' ∧ v = Sh.val s xs.length ∧ SlR G' sz enc s xs ∧ Tr G0 K0 w0 G' μ w := by
  obtain ⟨G', s, h1, h2, h3, h4, h5, h6⟩ := h.freezeRow hK
  exact ⟨G', s, h1, h2, SlR.ofRow hsz h3 h4 h5, h6⟩
theorem we_fs {α : Type} {enc : α → List Value} {sz : Nat} {X : Cx} {e : Exit} {k : List KI} {E : Nat} {v : Value} {xs : List α} {μ' : Mem} (hm : MTake μ (rS sz enc v E xs) μ') (hsz : ∀ x ∈ xs, (enc x).length = sz) (hK : ∀ b ∈ X.K0, b ∈ keys μ') (h : ∀ G' s, PM.le G G' → v = Sh.val s xs.length → SlR G' sz enc s xs → We X e k ρ G' μ') : We X e k ρ G μ :=
  ⟨fun a w ha ht => by
    obtain ⟨G', s, h1, h2, h3, h4⟩ := (ht.perm hm.perm).frzS hsz hK
    exact (h G' s h1 h2 h3).out a w ha h4⟩
theorem wk_fs {α : Type} {enc : α → List Value} {sz : Nat} {X : Cx} {cd : Code} {k : List KI} {E : Nat} {v : Value} {xs : List α} {μ' : Mem} (hm : MTake μ (rS sz enc v E xs) μ') (hsz : ∀ x ∈ xs, (enc x).length = sz) (hK : ∀ b ∈ X.K0, b ∈ keys μ') (h : ∀ G' s, PM.le G G' → v = Sh.val s xs.length → SlR G' sz enc s xs → Wk X cd k ρ G' μ') : Wk X cd k ρ G μ :=
  ⟨fun a w ha ht => by
    obtain ⟨G', s, h1, h2, h3, h4⟩ := (ht.perm hm.perm).frzS hsz hK
    exact (h G' s h1 h2 h3).out a w ha h4⟩
theorem wk_nilS {α : Type} (sz : Nat) (enc : α → List Value) {X : Cx} {cd : Code} {k : List KI} (E : Nat) (h : Wk X cd k ρ G (rS sz enc (.slice none 0 0) E [] :: μ)) : Wk X cd k ρ G μ := wk_nilRow E sz h
theorem we_nilS {α : Type} (sz : Nat) (enc : α → List Value) {X : Cx} {e : Exit} {k : List KI} (E : Nat) (h : We X e k ρ G (rS sz enc (.slice none 0 0) E [] :: μ)) : We X e k ρ G μ := we_nilRow E sz h
/-- numbers -/
def encN (n : Nat) : List Value := [.int .i64 (n : Int)]
/-- slices that stay -/
structure AllS (G : PM) (ps : List (Sh × List Y)) : Prop where
  all : ∀ p ∈ ps, SlR G 1 encY p.1 p.2
theorem AllS.mono {G G' : PM} {ps : List (Sh × List Y)} (h : AllS G ps) (hle : PM.le G G') : AllS G' ps := ⟨fun p hp => (h.all p hp).mono hle⟩
theorem AllS.nil {G : PM} : AllS G [] := ⟨fun p hp => by cases hp⟩
theorem AllS.snoc {G : PM} {ps : List (Sh × List Y)} {s : Sh} {L : List Y} (h : AllS G ps) (hs : SlR G 1 encY s L) : AllS G (ps ++ [(s, L)]) := ⟨fun p hp => by
  rcases List.mem_append.1 hp with hp | hp
  · exact h.all p hp
  · rw [List.mem_singleton.1 hp]; exact hs⟩
theorem SlP.of {G : PM} {s : Sh} {ps : List (Sh × List Y)} (h : SlR G 1 encP s ps) (hA : AllS G ps) : SlP G s ps := ⟨h, hA.all⟩
theorem SlP.nul {G : PM} : SlP G ⟨Option.none, 0⟩ [] := ⟨SlR.nul, fun p hp => by cases hp⟩
theorem SlP.take {G : PM} {s s' : Sh} {ps L : List (Sh × List Y)} {k : Nat} (h : SlP G s ps) (e : L = ps.take k) (hs : SlR G 1 encP s' L) : SlP G s' L := ⟨hs, fun p hp => h.all p (by rw [e] at hp; exact List.mem_of_mem_take hp)⟩
/-- 'xs[lo:]' of a row of one's own -/
theorem slr {T e sz by' b m cap : Nat} {x y : Operand} {k : IntKind} {lo : Int} (q : Nat) (ho : nth l i = some ⟨some d, .slice T x (some y) none none, t, p, af, none⟩) (hT : slE P T = some (e, sz, by')) (hx : Ev ρ true x (.slice (some ⟨b, 0, none⟩) m cap)) (hy : Ev ρ true y (.int k lo))
    (hq : lo = q) (h1 : q ≤ m) (h2 : m ≤ cap) (h3 : q < cap) (h : Wo dr mc P n l K σ ((d, true, .slice (some ⟨b, q * sz, none⟩) (m - q) (cap - q)) :: ρ) G μ) : Wo dr mc P n l K (i :: σ) ρ G μ :=
  .pure ho (.inl rfl) .no (fun _ a w ha => by
    obtain ⟨hu, inf, hi, rfl, rfl⟩ := slE_some hT
    subst hq
    have hx' := hx.eval ha rfl
    have hn : ¬ cap = q := by omega
    simp [execOp, hx', hy.eval ha rfl, Instr.sliceAt, run_underlying hu, Instr.slice, Instr.sliceBounds, Instr.sliceBound, asIntOf, sizeOf, typeInfo, hi, h1, h2, hn, add_lit]) h
/-- a great word as a number -/
theorem cnb {S D : TypeId} {x : Operand} {k : IntKind} {a : BitVec k.bits} (ho : nth l i = some ⟨some d, .convert S D x, t, p, af, g⟩) (hg : Gd l ρ g c) (hk : cvK P S D = some .i64) (hx : Ev ρ c x (uv k a)) (hb : c = true → a.toNat ≤ 9223372036854775807)
    (h : ∀ m : Nat, m = a.toNat → Wo dr mc P n l K σ ((d, c, .int .i64 (m : Int)) :: ρ) G μ) : Wo dr mc P n l K (i :: σ) ρ G μ :=
  cw ho hg hk hx (fun hc => wrap_i64 (by omega) (by have := hb hc; omega)) (h a.toNat rfl)
/-- 'append(xs, ys...)' of what may be read -/
theorem apL {α : Type} {enc : α → List Value} {sz T E by' : Nat} {x y : Operand} {v z : Value} {s : Sh} {xs ys : List α} {μ' : Mem} (ho : nth l i = some ⟨some d, .call { callee := .builtin .append, args := #[x, y], argTypes := #[T, T] }, t, p, af, none⟩)
    (hT : slE P T = some (E, sz, by')) (hz : (P.info? E).bind (·.zero) = some z) (hzs : z.cells.size = sz) (hx : Ev ρ true x v) (hy : Ev ρ true y (s.val ys.length)) (hm : MTake μ (rS sz enc v E xs) μ') (hs : SlR G sz enc s ys) (hsz : ∀ a ∈ ys, (enc a).length = sz) (h1 : ∀ u ∈ ys.flatMap enc, u.oneCell' = true) (hl : (xs.length + ys.length) * by' ≤ 140737488355328) (hl2 : xs.length + ys.length ≤ maxLen)
    (h : ∀ v', v'.oneCell' = true → Wo dr mc P n l K σ ((d, true, v') :: ρ) G (rS sz enc v' E (xs ++ ys) :: μ')) (hmc : mc.a = false ∨ dr = false := by first | exact .inl rfl | exact .inr rfl) : Wo dr mc P n l K (i :: σ) ρ G μ := by
  refine .act (μ₁ := [rS sz enc v E xs]) (μ₂ := μ') (post := fun G' μ' v' => G' = G ∧ v'.oneCell' = true ∧ μ' = [rS sz enc v' E (xs ++ ys)]) ho (by rcases hmc with h | h <;> simp [kindOf, h]) .no hm.perm (fun q w hq hs' => .inl ?_) ?_
  · obtain ⟨v', w', hrun, ht⟩ := run_ap (ty := t) (cp := s.cap) (news := ys.flatMap enc) (k := ys.length) (oa := s.oa) hT hz hzs hs'.left (flat_len hsz) (fun h0 => ⟨s.b, s.o, hs.nn h0, fun j u hj => ((SlR.flat hsz hs).rd (μ := μ)) j u hj w (hs'.perm hm.perm.symm)⟩) h1 hl hl2
    refine ⟨v', w', G, [rS sz enc v' E (xs ++ ys)], .inl ?_, ?_, rfl, ht.sat.rowOne, rfl⟩
    · have hy' := hy.eval hq rfl
      simp only [Sh.val] at hy'
      simp [execOp, resolve, invoke, builtin, hx.eval hq rfl, hy', hrun]
    · simp only [rS, List.length_append, List.flatMap_append]; exact ht
  · rintro v' G' μ'' _ ⟨rfl, h1, rfl⟩
    exact h v' h1
theorem SlR.tk {α : Type} {G : PM} {sz : Nat} {enc : α → List Value} {s : Sh} {xs : List α} (h : SlR G sz enc s xs) (k : Nat) : SlR G sz enc s (xs.take k) := by
  refine ⟨fun hne => h.there (fun e => hne (by rw [e, List.take_nil])), by rw [List.length_take]; have := h.le; omega, fun i x hx => ?_⟩
  rw [List.getElem?_take] at hx
  split at hx
  · exact h.rd i x hx
  · cases hx
theorem SlP.tk {G : PM} {s : Sh} {ps : List (Sh × List Y)} (h : SlP G s ps) (k : Nat) : SlP G s (ps.take k) := ⟨h.sl.tk k, fun p hp => h.all p (List.mem_of_mem_take hp)⟩
theorem SlR.n1 {G : PM} {s : Sh} {xs : List Nat} (h : SlR G 1 encN s xs) {j : Int} (k : Nat) {x : Nat} (hj : j.toNat = k) (hx : xs[k]? = some x) : RdP G ⟨s.b, s.o + j.toNat * 1, none⟩ (.int .i64 (x : Int)) := by
  have := (h.nth k hj hx) 0 _ rfl
  simpa using this
theorem encP_one (ps : List (Sh × List Y)) : ∀ u ∈ ps.flatMap encP, u.oneCell' = true := by
  intro u hu
  obtain ⟨q, _, hq⟩ := List.mem_flatMap.1 hu
  rw [encP, List.mem_singleton] at hq
  rw [hq]; rfl
end
end Go.Tan
