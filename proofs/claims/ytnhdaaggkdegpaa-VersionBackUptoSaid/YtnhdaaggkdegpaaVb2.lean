/- Lemmas and contracts, joined: Blocks that stay; slices of arrays that stay; arrays out of slices; lists of lists of bytes; arrays of bytes compared. No condition. From a contract to a row: the arguments opened by their readings; shut by 'below the old heap nothing has turned'. No condition. Arguments opened: words, arrays of bytes, slices of bytes; tables that are laid. No condition. SHA-256 as plain data: a block's words, its rounds, the state behind so many blocks, what stands behind the bytes. No condition. Codec's fixed numbers, crossing in place, keyed sums and sealing as plain data. No condition. Rows out of what may only be read. No condition. More rules: slices held against nil, 'copy' into a row of one's own, rows of slices. No condition: proved for every program. Two structs, or two arrays, held against each other: of integers, texts and bools, to whatever depth. No condition: proved for every program. Texts laid behind bytes, texts as bytes, elements of a row of one's own read and written. No condition: proved for every program. Numbers and texts as bytes, laid and taken: plain data. No condition. The data of the version and pick layers as plain data, and what the document says of them. No condition. Plain laws for the program's test of a state: numbers seen once, tables level by level. No condition. What is put together next, as plain data. No condition. Edits as bytes: what is laid, what is taken, and that one is the other's way back. Plain data. No condition. Edits: their bytes, and the edits whose bytes those are. Plain data. No condition. Numbers as words: what the loops of the codec come to. Plain data. No condition. Numbers as the document takes and lays them: what its loops come to. Plain data. No condition. Memory of one's own that is given away for good; rows of numbers. No condition. Steps of a taking, with what was told of each. Plain data. No condition. Metas that are the same, cell by cell. Plain data. No condition. So many, one behind the other: what is known of a taking at each round. Plain data. No condition. What was taken, round by round, is the edit whose bytes those are. Plain data. No condition. Statements that leave their order open: values and reads in one order, calls in each order. No condition: proved for every program. -/
import Derived.Test.YtnhdaaggkdegpaaVb1
import Derived.ProofKit
import Derived.Lib.LaidTab
import Derived.Laws.CopyRow
import Derived.Lib.AppendStr
import Derived.Laws.IdiomStrings
set_option linter.unusedSimpArgs false
set_option linter.unusedVariables false
set_option linter.unusedSectionVars false
namespace Go.Tan
open Go.RowKit
/-- a block that stays -/
structure PB (G : PM) (b : Nat) (o : Obj) : Prop where
  h : G b = some o
theorem PB.mono {G G' : PM} {b : Nat} {o : Obj} (h : PB G b o) (hle : PM.le G G') : PB G' b o := ⟨hle b o h.h⟩
theorem PB.rdn {G : PM} {b o m : Nat} {cs cs' : List Value} {T : TypeId} (h : PB G b (cl cs T)) (hc : (cs.drop o).take m = cs') : RdNP G b o cs' := fun j v hj => by
  subst hc
  refine RdP.blk h.h ?_
  rw [List.getElem?_take] at hj
  split at hj
  · rw [List.getElem?_drop] at hj; exact hj
  · cases hj
theorem PB.rd {G : PM} {b o : Nat} {cs : List Value} {T : TypeId} {v : Value} (h : PB G b (cl cs T)) (hv : cs[o]? = some v) : RdP G ⟨b, o, none⟩ v := RdP.blk h.h hv
theorem PB.sl {G : PM} {b o m cap : Nat} {cs : List Value} {T : TypeId} {f : Nat → Y} (h : PB G b (cl cs T)) (hc : (cs.drop o).take m = ba m f) (hm : m ≤ cap) : SlR G 1 encY ⟨some ⟨b, o, none⟩, cap⟩ (yl m f) :=
  SlR.ofRow (fun _ _ => rfl) (by rw [yl_len]; exact hm) (fun _ => rfl) (by rw [yl_flat]; exact h.rdn hc)
theorem SlR.arr {G : PM} {s : Sh} {xs : List Y} {m : Nat} (h : SlR G 1 encY s xs) (hm : m ≤ xs.length) : RdNP G s.b s.o (ba m (fun i => xs.getD i 0)) := by
  intro j v hj
  have hlt : j < m := by have := (List.getElem?_eq_some_iff.1 hj).1; rwa [ba_len] at this
  rw [ba_at hlt] at hj
  obtain rfl := Option.some.inj hj
  have := h.rd j (xs.getD j 0) (by simp [show j < xs.length by omega]) 0 _ rfl
  simpa using this
theorem ba_take {m q : Nat} {f : Nat → Y} (h : q ≤ m) : ((ba m f).drop 0).take q = ba q f := by
  rw [List.drop_zero]
  refine List.ext_getElem? fun j => ?_
  rw [List.getElem?_take]
  by_cases hj : j < q
  · rw [if_pos hj, ba_at hj, ba_at (by omega)]
  · rw [if_neg hj, List.getElem?_eq_none (by rw [ba_len]; omega)]
theorem ba_all {m : Nat} {f : Nat → Y} : ((ba m f).drop 0).take m = ba m f := ba_take (Nat.le_refl m)
theorem app_l {m : Nat} {f : Nat → Y} {r : List Value} : ((ba m f ++ r).drop 0).take m = ba m f := by
  rw [List.drop_zero, List.take_append_of_le_length (by rw [ba_len]; exact Nat.le_refl _), List.take_of_length_le (by rw [ba_len]; exact Nat.le_refl _)]
theorem app_r {m q : Nat} {f f' : Nat → Y} : ((ba m f ++ ba q f').drop m).take q = ba q f' := by
  have h : (ba m f ++ ba q f').drop m = ba q f' := by have := List.drop_left (l₁ := ba m f) (l₂ := ba q f'); rwa [ba_len] at this
  rw [h, List.take_of_length_le (by rw [ba_len]; exact Nat.le_refl _)]
/-! ### Lists of lists of bytes -/
def encP (p : Sh × List Y) : List Value := [p.1.val p.2.length]
structure SlP (G : PM) (h : Sh) (ps : List (Sh × List Y)) : Prop where
  sl : SlR G 1 encP h ps
  all : ∀ p ∈ ps, SlR G 1 encY p.1 p.2
theorem SlP.mono {G G' : PM} {h : Sh} {ps : List (Sh × List Y)} (s : SlP G h ps) (hle : PM.le G G') : SlP G' h ps := ⟨s.sl.mono hle, fun p hp => (s.all p hp).mono hle⟩
theorem getx {α : Type} {k : Nat} {xs : List α} (h : k < xs.length) : ∃ x, xs[k]? = some x := ⟨xs[k], by simp [h]⟩
theorem SlP.at {G : PM} {h : Sh} {ps : List (Sh × List Y)} (s : SlP G h ps) {j : Int} (k : Nat) {p : Sh × List Y} (hj : j.toNat = k) (hp : ps[k]? = some p) : RdP G ⟨h.b, h.o + j.toNat * 1, none⟩ (p.1.val p.2.length) := by
  have := (s.sl.nth k hj hp) 0 _ rfl
  simpa using this
theorem SlP.get {G : PM} {h : Sh} {ps : List (Sh × List Y)} (s : SlP G h ps) {k : Nat} {p : Sh × List Y} (hp : ps[k]? = some p) : SlR G 1 encY p.1 p.2 := s.all p (List.mem_of_getElem? hp)
def catL (ps : List (Sh × List Y)) : List Y := ps.flatMap (·.2)
theorem cat_take {ps : List (Sh × List Y)} {k : Nat} {p : Sh × List Y} (hp : ps[k]? = some p) : catL (ps.take (k + 1)) = catL (ps.take k) ++ p.2 := by
  have hlt : k < ps.length := (List.getElem?_eq_some_iff.1 hp).1
  have e : ps[k] = p := (List.getElem?_eq_some_iff.1 hp).2
  rw [catL, List.take_succ_eq_append_getElem hlt, List.flatMap_append, e]; simp [catL]
theorem cat_len {ps : List (Sh × List Y)} {k : Nat} {p : Sh × List Y} (hp : ps[k]? = some p) : (catL (ps.take k)).length + p.2.length ≤ (catL ps).length := by
  have h1 := congrArg List.length (cat_take hp)
  rw [List.length_append] at h1
  rw [← h1]
  conv => rhs; rw [← List.take_append_drop (k + 1) ps]
  rw [catL, catL, List.flatMap_append, List.length_append]; omega
section
variable {dr : Bool} {mc : Md} {P : Program} {n : Nat} {l : List Oper} {K : Env → PM → Mem → Prop} {i : Nat} {σ : List Nat} {ρ : Env} {G : PM} {μ : Mem}
variable {d t : Nat} {p : String} {af : Array Edge} {g : Option (Nat × Bool)} {c : Bool}
theorem wk_fz {X : Cx} {cd : Code} {k : List KI} {b : Nat} {o : Obj} {μ' : Mem} (hm : MTake μ (.blk b o) μ') (hK : ∀ b ∈ X.K0, b ∈ keys μ') (h : ∀ G', PM.le G G' → PB G' b o → Wk X cd k ρ G' μ') : Wk X cd k ρ G μ :=
  ⟨fun a w ha ht => by
    have ht' := ht.perm hm.perm
    have hk : keys (.blk b o :: μ') = b :: keys μ' := by simp [keys, Res.keys]
    have hnd := ht'.sat.nodup
    rw [hk] at hnd
    have hG : G b = none := ht'.sat.apart b (by rw [hk]; exact List.mem_cons_self ..)
    exact (h _ (PM.le_add hG) ⟨PM.add_same G b o⟩).out a w ha (ht'.freeze fun hb => (List.nodup_cons.1 hnd).1 (hK b hb))⟩
/-- 'a[:]' of an array of bytes that stays -/
theorem kA {T T' m e b o : Nat} {x : Operand} {cs : List Value} {f : Nat → Y} (ho : nth l i = some ⟨some d, .slice T x none none none, t, p, af, g⟩) (hg : Gd l ρ g c) (hT : arE P T = some (m, e, 1)) (hx : Ev ρ c x (.pointer (some ⟨b, o, none⟩))) (hG : PB G b (cl cs T')) (hc : (cs.drop o).take m = ba m f)
    (h : ∀ s' L, L = yl m f → L.length = m → SlR G 1 encY s' L → Wo dr mc P n l K σ ((d, c, s'.val L.length) :: ρ) G μ) : Wo dr mc P n l K (i :: σ) ρ G μ := by
  refine sa0 ho hg hT hx ?_
  have := h ⟨some ⟨b, o, none⟩, m⟩ (yl m f) rfl (yl_len m f) (hG.sl hc (Nat.le_refl m))
  rw [yl_len] at this
  exact this
/-- 'a[:hi]' of an array -/
theorem sah {T m e sz : Nat} {x z : Operand} {k : IntKind} {b o : Nat} {hi : Int} (ho : nth l i = some ⟨some d, .slice T x none (some z) none, t, p, af, g⟩) (hg : Gd l ρ g c) (hT : arE P T = some (m, e, sz)) (hx : Ev ρ c x (.pointer (some ⟨b, o, none⟩))) (hz : Ev ρ c z (.int k hi))
    (h0 : c = true → 0 ≤ hi) (h1 : c = true → hi ≤ m) (h : Wo dr mc P n l K σ ((d, c, .slice (some ⟨b, o, none⟩) hi.toNat m) :: ρ) G μ) : Wo dr mc P n l K (i :: σ) ρ G μ :=
  .pure ho (.inl rfl) hg (fun hc a w ha => by
    obtain ⟨hu, inf, hi', hs⟩ := arE_some hT
    have e0 := h0 hc; have e1 := h1 hc
    simp [execOp, hx.eval ha hc, hz.eval ha hc, Instr.sliceAt, run_underlying hu, Instr.sureAddr, Instr.sliceBounds, Instr.sliceBound, asIntOf, sizeOf, typeInfo, hi', e0, e1, add_zero']) h
/-- '[n]T(xs)', as an address -/
theorem sp {T m e sz k cap : Nat} {x : Operand} {ad : Addr} (ho : nth l i = some ⟨some d, .sliceToArrayPointer T x, t, p, af, g⟩) (hg : Gd l ρ g c) (hT : arE P T = some (m, e, sz)) (hx : Ev ρ c x (.slice (some ad) k cap)) (hm : c = true → m ≤ k)
    (h : Wo dr mc P n l K σ ((d, c, .pointer (some ad)) :: ρ) G μ) : Wo dr mc P n l K (i :: σ) ρ G μ :=
  .pure ho (.inl rfl) hg (fun hc a w ha => by
    obtain ⟨hu, inf, hi', hs⟩ := arE_some hT
    have := hm hc
    simp [execOp, hx.eval ha hc, Instr.arrayAt, run_underlying hu, show ¬ k < m by omega]) h
theorem spS {T m e sz : Nat} {x : Operand} {s : Sh} {xs : List Y} (ho : nth l i = some ⟨some d, .sliceToArrayPointer T x, t, p, af, g⟩) (hg : Gd l ρ g c) (hT : arE P T = some (m, e, sz)) (hs : SlR G 1 encY s xs) (hx : Ev ρ c x (s.val xs.length)) (hm : c = true → m ≤ xs.length) (h0 : 0 < m)
    (h : Wo dr mc P n l K σ ((d, c, .pointer (some ⟨s.b, s.o, none⟩)) :: ρ) G μ) : Wo dr mc P n l K (i :: σ) ρ G μ :=
  .pure ho (.inl rfl) hg (fun hc a w ha => by
    obtain ⟨hu, inf, hi', hsz⟩ := arE_some hT
    have h1 := hm hc
    have e := hs.nn (k := 0) (by omega)
    have hx' := hx.eval ha hc
    simp only [Sh.val] at hx'
    rw [e] at hx'
    simp [execOp, hx', Instr.arrayAt, run_underlying hu, show ¬ xs.length < m by omega]) h
/-! ### Arrays of bytes, compared -/
def baT (P : Program) (T m : Nat) : Bool := match P.underlying T with
  | some (.array k e) => (match P.underlying e with | some (.int .u8) => true | _ => false) && Nat.beq k m && Nat.beq (P.cellsOf e) 1 && Nat.beq (P.cellsOf T) m && P.keyTypeAt 2 T && !P.eqGuardType P.depth T
  | _ => false
theorem ba_lits {T m : Nat} {f : Nat → Y} (h : baT P T m = true) : P.keyLits 2 T (ba m f) = some ((yl m f).map fun y => Lit.int .u8 y.toNat) ∧ (Value.agg (ba m f).toArray).formed P T = true ∧ P.keyTypeAt 2 T = true ∧ P.eqGuardType P.depth T = false := by
  unfold baT at h
  split at h
  · rename_i k e hu
    simp only [Bool.and_eq_true, Bool.not_eq_true'] at h
    obtain ⟨⟨⟨⟨⟨he, hk⟩, hce⟩, hcT⟩, hkt⟩, hgu⟩ := h
    split at he
    · rename_i hue
      have hk := Nat.eq_of_beq_eq_true hk
      have hce := Nat.eq_of_beq_eq_true hce
      have hcT := Nat.eq_of_beq_eq_true hcT
      subst hk
      refine ⟨?_, ?_, hkt, hgu⟩
      · have hone : ∀ q ∈ List.range k, P.keyLits 1 e (((ba k f).drop (q * P.cellsOf e)).take (P.cellsOf e)) = some [Lit.int .u8 (f q).toNat] := by
          intro q hq
          have hq := List.mem_range.1 hq
          rw [hce, Nat.mul_one]
          have hd : ((ba k f).drop q).take 1 = [V (f q)] := by
            refine List.ext_getElem? fun j => ?_
            rw [List.getElem?_take, List.getElem?_drop]
            cases j with
            | zero => simp [ba_at hq]
            | succ j => simp
          rw [hd]
          have hlt := (f q).isLt
          unfold Program.keyLits
          simp [hue, Lit.wf, V, uv, IntKind.min, IntKind.max, IntKind.signed, IntKind.bits]
          omega
        have hmap : ∀ (r : List Nat), (∀ q ∈ r, P.keyLits 1 e (((ba k f).drop (q * P.cellsOf e)).take (P.cellsOf e)) = some [Lit.int .u8 (f q).toNat]) →
            r.mapM (fun q => P.keyLits 1 e (((ba k f).drop (q * P.cellsOf e)).take (P.cellsOf e))) = some (r.map fun q => [Lit.int .u8 (f q).toNat]) := by
          intro r
          induction r with
          | nil => intro _; simp
          | cons a r ih => intro hr; simp [List.mapM_cons, hr a (List.mem_cons_self ..), ih (fun q hq => hr q (List.mem_cons_of_mem _ hq))]
        have hfl : ∀ r : List Nat, (r.map fun q => [Lit.int .u8 (f q).toNat]).flatten = (r.map f).map fun y => Lit.int .u8 y.toNat := by
          intro r
          induction r with
          | nil => rfl
          | cons a r ih => simp only [List.map_cons, List.flatten_cons, ih]; rfl
        unfold Program.keyLits
        simp only [hu, ba_len, hcT, if_true, hmap _ hone, Option.map_some, hfl]
        rfl
      · simp [Value.formed, hu, ba_len, hcT]
    · cases he
  · cases h
theorem lits_inj {m : Nat} {f f' : Nat → Y} (h : ((yl m f).map fun y => Lit.int .u8 y.toNat) = (yl m f').map fun y => Lit.int .u8 y.toNat) : yl m f = yl m f' := by
  have key : ∀ (xs ys : List Y), (xs.map fun y => Lit.int .u8 y.toNat) = (ys.map fun y => Lit.int .u8 y.toNat) → xs = ys := by
    intro xs
    induction xs with
    | nil => intro ys h; cases ys with
      | nil => rfl
      | cons y ys => simp at h
    | cons x xs ih => intro ys h; cases ys with
      | nil => simp at h
      | cons y ys =>
        simp only [List.map_cons, List.cons.injEq, Lit.int.injEq, true_and] at h
        rw [ih ys h.2, BitVec.eq_of_toNat_eq (x := x) (y := y) (by omega)]
  exact key _ _ h
theorem run_eqB {T m : Nat} {f f' : Nat → Y} (h : baT P T m = true) (w : World) : (Op.equal T (.agg (ba m f).toArray) (.agg (ba m f').toArray)).run P w = .ok (decide (yl m f = yl m f')) w := by
  obtain ⟨h1, h2, h3, h4⟩ := ba_lits (f := f) h
  obtain ⟨h1', h2', _, _⟩ := ba_lits (f := f') h
  obtain ⟨r, hr, hiff⟩ := run_equalIn_deep 9998 2 T h3 w 2 2 _ _ _ _ h2 h2' (by simpa [Value.cells] using h1) (by simpa [Value.cells] using h1')
  have : r = decide (yl m f = yl m f') := by
    by_cases e : yl m f = yl m f'
    · rw [decide_eq_true e]; exact hiff.2 (by rw [e])
    · rw [decide_eq_false e]
      cases r with
      | false => rfl
      | true => exact absurd (lits_inj (hiff.1 rfl)) e
  rw [← this]; exact hr
theorem nqB {T T' m : Nat} {x y : Operand} {f f' : Nat → Y} (ho : nth l i = some ⟨some d, .binOp .neq T x y T', t, p, af, g⟩) (hg : Gd l ρ g c) (hT : baT P T m = true) (hx : Ev ρ c x (.agg (ba m f).toArray)) (hy : Ev ρ c y (.agg (ba m f').toArray))
    (h : Wo dr mc P n l K σ ((d, c, .bool (!decide (yl m f = yl m f'))) :: ρ) G μ) : Wo dr mc P n l K (i :: σ) ρ G μ :=
  .pure ho (.inl rfl) hg (fun hc a w ha => by
    simp [execOp, hx.eval ha hc, hy.eval ha hc, eqGuard_agg (ba_lits (f := f) hT).2.2.2, binOp, run_eqB hT]) h
theorem eqB {T T' m : Nat} {x y : Operand} {f f' : Nat → Y} (ho : nth l i = some ⟨some d, .binOp .eql T x y T', t, p, af, g⟩) (hg : Gd l ρ g c) (hT : baT P T m = true) (hx : Ev ρ c x (.agg (ba m f).toArray)) (hy : Ev ρ c y (.agg (ba m f').toArray))
    (h : Wo dr mc P n l K σ ((d, c, .bool (decide (yl m f = yl m f'))) :: ρ) G μ) : Wo dr mc P n l K (i :: σ) ρ G μ :=
  .pure ho (.inl rfl) hg (fun hc a w ha => by
    simp [execOp, hx.eval ha hc, hy.eval ha hc, eqGuard_agg (ba_lits (f := f) hT).2.2.2, binOp, run_eqB hT]) h
/-! ### A statement that leaves its order open, each order by itself -/
def WoT (P : Program) (n : Nat) (l : List Oper) (K : Env → PM → Mem → Prop) : Nat → Array Bool → Env → PM → Mem → Prop
  | 0, listed, ρ, G, μ => rdy l listed = [] ∧ K ρ G μ
  | m + 1, listed, ρ, G, μ => rdy l listed ≠ [] ∧ ∀ j ∈ rdy l listed, Wo false (⟨false, false⟩ : Md) P n l (fun ρ' G' μ' => WoT P n l K m (listed.setIfInBounds j true) ρ' G' μ') [j] ρ G μ
theorem WoT.any {K : Env → PM → Mem → Prop} {Q : Exit → Act → World → Prop} {G0 : PM} {K0 : List Nat} {w0 : World} (hds : ∀ j oj, nth l j = some oj → dstOk n oj.dst)
    (hQ : ∀ ρ G μ, K ρ G μ → ∀ a w, Ag n ρ a → Tr G0 K0 w0 G μ w → Q .normal a w) :
    ∀ (m : Nat) (listed : Array Bool) (ρ : Env) (G : PM) (μ : Mem) (a : Act) (w : World), WoT P n l K m listed ρ G μ → Ag n ρ a → Tr G0 K0 w0 G μ w → wpAny P .any l.toArray Q m listed a w
  | 0, listed, ρ, G, μ, a, w, H, ha, ht => ⟨H.1, hQ _ _ _ H.2 a w ha ht⟩
  | m + 1, listed, ρ, G, μ, a, w, H, ha, ht => by
    refine ⟨fun h0 => absurd h0 H.1, fun j hj => ?_⟩
    obtain ⟨o, ho, h⟩ := (H.2 j hj).head ha ht (next := wpAny P .any l.toArray Q m (listed.setIfInBounds j true)) (Q := Q) hds
      (fun ρ' G' μ' a' w' H' ha' ht' => by cases H' with | nil h => exact WoT.any hds hQ m _ ρ' G' μ' a' w' h ha' ht')
    simp only [wpOp, nth_eq, ho]
    split
    · rename_i hw; rw [if_pos hw] at h; exact .inl h
    · rename_i hw; rw [if_neg hw] at h; exact h
theorem Wk.drawT {X : Cx} {k : List KI} {id : Nat} {ρ : Env} {G : PM} {μ : Mem} {l : List Oper} (hm : X.P.follows .mixedOrders = true) (hds : dstAll X.n l = true)
    (h : WoT X.P X.n l (fun ρ G μ => We X .normal k ρ G μ) l.length (Array.replicate l.length false) ρ G μ) : Wk X (.region id l.toArray true) k ρ G μ := by
  refine ⟨fun a w ha ht => wp_region_any hm ?_⟩
  have := WoT.any (Q := Qof X k) (dstAll_ok hds) (fun _ _ _ h a w ha ht => h.out a w ha ht) l.length (Array.replicate l.length false) ρ G μ a _ h ha ht.drew
  simpa using this
theorem WoT.last {K : Env → PM → Mem → Prop} {listed : Array Bool} (hr : rdy l listed = []) (h : K ρ G μ) : WoT P n l K 0 listed ρ G μ := ⟨hr, h⟩
theorem WoT.n1 {K : Env → PM → Mem → Prop} {m : Nat} {listed : Array Bool} (j : Nat) (hr : rdy l listed = [j]) (h : Wo false (⟨false, false⟩ : Md) P n l (fun ρ' G' μ' => WoT P n l K m (listed.setIfInBounds j true) ρ' G' μ') [j] ρ G μ) : WoT P n l K (m + 1) listed ρ G μ :=
  ⟨by rw [hr]; simp, fun j' hj' => by rw [hr] at hj'; obtain rfl := List.mem_singleton.1 hj'; exact h⟩
theorem WoT.n2 {K : Env → PM → Mem → Prop} {m : Nat} {listed : Array Bool} (j j2 : Nat) (hr : rdy l listed = [j, j2]) (h : Wo false (⟨false, false⟩ : Md) P n l (fun ρ' G' μ' => WoT P n l K m (listed.setIfInBounds j true) ρ' G' μ') [j] ρ G μ)
    (h2 : Wo false (⟨false, false⟩ : Md) P n l (fun ρ' G' μ' => WoT P n l K m (listed.setIfInBounds j2 true) ρ' G' μ') [j2] ρ G μ) : WoT P n l K (m + 1) listed ρ G μ :=
  ⟨by rw [hr]; simp, fun j' hj' => by
    rw [hr] at hj'
    rcases List.mem_cons.1 hj' with rfl | hj'
    · exact h
    · obtain rfl := List.mem_singleton.1 hj'; exact h2⟩
/-! ### '[]byte("text")' -/
def csT (P : Program) (S : TypeId) : Bool := match P.underlying S with
  | some (.slice e) => match P.underlying e with | some (.int .u8) => true | _ => false
  | _ => false
theorem freeze_at {w : World} {b k E : Nat} {C : Array Value} (hb : w.heap[b]? = some (.cells C E (0, 0))) : ∃ fr, (w.freeze ⟨b, k, none⟩ 1).heap[b]? = some (.cells C E fr) ∧ (∀ c, c ≠ b → (w.freeze ⟨b, k, none⟩ 1).heap[c]? = w.heap[c]?) ∧ (w.freeze ⟨b, k, none⟩ 1).heap.size = w.heap.size ∧ (w.freeze ⟨b, k, none⟩ 1).os = w.os ∧ (w.freeze ⟨b, k, none⟩ 1).tape = w.tape ∧ (w.freeze ⟨b, k, none⟩ 1).output = w.output := by
  unfold World.freeze
  rw [if_neg (by decide)]
  refine ⟨(k, k + 1), ?_, fun c hc => ?_, by simp, rfl, rfl, rfl⟩
  · have hlt : b < w.heap.size := (Array.getElem?_eq_some_iff.1 hb).1
    have hv := (Array.getElem?_eq_some_iff.1 hb).2
    rw [Array.getElem?_eq_getElem (by simpa using hlt), Array.getElem_modify]; simp [hv]
  · simp only [Array.getElem?_modify]
    rw [if_neg (fun e => hc e.symm)]
theorem mkS {S E b m cap : Nat} {x : Operand} {cs : List Value} {μ' : Mem} (ys : List Y) (hdf : dr = false) (ho : nth l i = some ⟨some d, .convert S S x, t, p, af, none⟩) (hS : csT P S = true) (hx : Ev ρ true x (.slice (some ⟨b, 0, none⟩) m cap)) (hm : MTake μ (.blk b (cl cs E)) μ') (hcs : cs = ys.map V) (hn : ys.length = m) (hcap : m ≤ cap)
    (h : ∀ G', PM.le G G' → SlR G' 1 encY ⟨some ⟨b, 0, none⟩, cap⟩ ys → Wo dr mc P n l K σ ((d, true, Sh.val ⟨some ⟨b, 0, none⟩, cap⟩ ys.length) :: ρ) G' μ') : Wo dr mc P n l K (i :: σ) ρ G μ := by
  subst hn; subst hcs
  refine .act (μ₁ := [.blk b (cl (ys.map V) E)]) (μ₂ := μ') (post := fun G' μ' v => μ' = [] ∧ v = .slice (some ⟨b, 0, none⟩) ys.length cap ∧ ∃ fr, G' b = some (.cells (ys.map V).toArray E fr)) ho (.inr hdf) .no hm.perm (fun a w ha hs => .inl ?_) ?_
  · unfold csT at hS
    split at hS
    · rename_i e hu
      split at hS
      · rename_i hue
        have hs' := hs.left
        have hb : w.heap[b]? = some (cl (ys.map V) E) := hs'.own _ (List.mem_singleton.2 rfl)
        have hG : G b = none := hs'.apart b (by simp [keys, Res.keys])
        obtain ⟨fr, h1, h2, h3, h4, h5, h6⟩ := freeze_at (k := (ys.map V).toArray.size) hb
        have hsh : w.shape? b = some (E, (ys.map V).toArray.size) := by unfold World.shape?; rw [hb]
        refine ⟨_, w.freeze ⟨b, (ys.map V).toArray.size, none⟩ 1, G.add b (.cells (ys.map V).toArray E fr), [], .inl ?_, ?_, rfl, rfl, fr, PM.add_same _ _ _⟩
        · simp [execOp, hx.eval ha rfl, convert, run_underlying hu, run_underlying hue, markStringish, hsh]
        · refine ⟨⟨fun c u hc => ?_, (fun r hr => nomatch hr), (fun c hc => nomatch hc), List.nodup_nil⟩, h4, h5, h6, by omega, fun c hc hK => ?_, (fun c hc => nomatch hc), fun c u hK hc => ?_⟩
          · unfold PM.add at hc
            split at hc
            · rename_i e; subst e; rw [← hc]; exact h1
            · rename_i hne; rw [h2 c hne]; exact hs.sub c u hc
          · have hne : c ≠ b := fun e => hK (by simp [keys, Res.keys, e])
            exact ⟨h2 c hne, by unfold PM.add; rw [if_neg hne]⟩
          · have hne : c ≠ b := fun e => hK (by simp [keys, Res.keys, e])
            unfold PM.add; rw [if_neg hne]; exact hc
      · cases hS
    · cases hS
  · rintro v G' μ'' hle ⟨rfl, rfl, fr, hG'⟩
    refine h G' hle (SlR.ofRow (fun _ _ => rfl) hcap (fun _ => rfl) ?_)
    rw [flat_V]
    intro j u hj w hs
    show w.cell? ⟨b, 0 + j, none⟩ = some u
    rw [Nat.zero_add, cell_of_row w b j _ E fr (hs b _ hG')]
    simpa using hj
/-! ### Truths that are known; operations that are not wanted -/
theorem wo_b {e : Bool} {dd : Nat} (e' : Bool) (h : e = e') (H : Wo dr mc P n l K σ ((dd, c, .bool e') :: ρ) G μ) : Wo dr mc P n l K σ ((dd, c, .bool e) :: ρ) G μ := by rw [h]; exact H
theorem skp {o : Oper} (v : Value) (ho : nth l i = some o) (hk : kindOf mc o.op = .pure) (hg : Gd l ρ o.guard false) (h : Wo dr mc P n l K σ (lay ρ o.dst false v) G μ) : Wo dr mc P n l K (i :: σ) ρ G μ :=
  .pure ho (.inl hk) hg (fun hc => nomatch hc) h
theorem skr {o : Oper} (v : Value) (ho : nth l i = some o) (hk : kindOf mc o.op = .read) (hg : Gd l ρ o.guard false) (h : Wo dr mc P n l K σ (lay ρ o.dst false v) G μ) : Wo dr mc P n l K (i :: σ) ρ G μ :=
  .read ho (.inl hk) hg (fun hc => nomatch hc) h
theorem ska {o : Oper} (v : Value) (ho : nth l i = some o) (hk : kindOf mc o.op = .act) (hg : Gd l ρ o.guard false) (h : Wo dr mc P n l K σ (lay ρ o.dst false v) G μ) : Wo dr mc P n l K (i :: σ) ρ G μ :=
  .callv (f := 0) (args := #[]) (Gp := G) ho (.inr (.inl hk)) hg (fun hc => nomatch hc) (fun hc => nomatch hc) h
theorem skc {o : Oper} (v : Value) (ho : nth l i = some o) (hk : kindOf mc o.op = .call) (hg : Gd l ρ o.guard false) (h : Wo dr mc P n l K σ (lay ρ o.dst false v) G μ) : Wo dr mc P n l K (i :: σ) ρ G μ :=
  .callv (f := 0) (args := #[]) (Gp := G) ho (.inl hk) hg (fun hc => nomatch hc) (fun hc => nomatch hc) h
/-! ### '%' and '/' of words -/
theorem mw {T T' : TypeId} {x y : Operand} {k : IntKind} {a b : BitVec k.bits} (ho : nth l i = some ⟨some d, .binOp .rem T x y T', t, p, af, g⟩) (hg : Gd l ρ g c) (hx : Ev ρ c x (uv k a)) (hy : Ev ρ c y (uv k b)) (h0 : c = true → b ≠ 0#k.bits)
    (h : Wo dr mc P n l K σ ((d, c, uv k (a % b)) :: ρ) G μ) : Wo dr mc P n l K (i :: σ) ρ G μ :=
  .pure ho (.inl rfl) hg (fun hc q w ha => by
    have e1 := hx.eval ha hc; have e2 := hy.eval ha hc
    have hq : (eqGuard .rem T x y (uv k a) (uv k b)).run P w = .ok () w := eqGuard_int ..
    have hb : (b.toNat : Int) ≠ 0 := fun e => h0 hc (BitVec.eq_of_toNat_eq (by simpa using e))
    have e3 : ((a.toNat : Int).tmod (b.toNat : Int)) = (((a % b).toNat : Nat) : Int) := by rw [BitVec.toNat_umod]; rfl
    have hb2 : ¬ b.toNat = 0 := fun e => hb (by rw [e]; rfl)
    simp only [execOp, e1, e2, Sem.run_bind, hq, Result.andThen_ok]
    simp [binOp, uv, Op.intDiv, hb2]
    simpa using e3) h
theorem dw {T T' : TypeId} {x y : Operand} {k : IntKind} {a b : BitVec k.bits} (ho : nth l i = some ⟨some d, .binOp .quo T x y T', t, p, af, g⟩) (hg : Gd l ρ g c) (hk : k.signed = false) (hx : Ev ρ c x (uv k a)) (hy : Ev ρ c y (uv k b)) (h0 : c = true → b ≠ 0#k.bits)
    (h : Wo dr mc P n l K σ ((d, c, uv k (a / b)) :: ρ) G μ) : Wo dr mc P n l K (i :: σ) ρ G μ :=
  .pure ho (.inl rfl) hg (fun hc q w ha => by
    have e1 := hx.eval ha hc; have e2 := hy.eval ha hc
    have hq : (eqGuard .quo T x y (uv k a) (uv k b)).run P w = .ok () w := eqGuard_int ..
    have hb : (b.toNat : Int) ≠ 0 := fun e => h0 hc (BitVec.eq_of_toNat_eq (by simpa using e))
    have e3 : k.wrap ((a.toNat : Int).tdiv (b.toNat : Int)) = (((a / b).toNat : Nat) : Int) := by
      have : ((a.toNat : Int).tdiv (b.toNat : Int)) = (((a / b).toNat : Nat) : Int) := by rw [BitVec.toNat_udiv]; rfl
      rw [this, wrap_uv hk]
    have hb2 : ¬ b.toNat = 0 := fun e => hb (by rw [e]; rfl)
    simp only [execOp, e1, e2, Sem.run_bind, hq, Result.andThen_ok]
    simp [binOp, uv, Op.intDiv, hb2]
    simpa using e3) h
end
end Go.Tan

namespace Go.Tan
open Go.RowKit Go.ChangeShapes
section
variable {H : Type} {R : Nat} {enc : TypeId × Value → H} {P : Program} {w : World} {base : Nat} {sp : Nat → Bool} {held : Bool} {fuel : Nat} {t : TypeId} {cs : List Value} {x : DataW H × List MemPlace}

theorem trod_array {n : Nat} {e : TypeId} (ht : P.underlying t = some (.array n e)) (h : DataW.trod enc P w base sp held fuel t cs = some x) :
    ∃ (xs : List (DataW H × List MemPlace)) (m : Nat), fuel = m + 1 ∧ x = (.agg (xs.map (·.1)), xs.flatMap (·.2)) ∧ cs.length = P.cellsOf t ∧ xs.length = n ∧
      ∀ i, i < n → DataW.trod enc P w base sp held m e ((cs.drop (i * P.cellsOf e)).take (P.cellsOf e)) = xs[i]? := by
  cases fuel with
  | zero => simp [DataW.trod] at h
  | succ m =>
    unfold DataW.trod at h
    rw [ht] at h
    split at h <;> simp_all
    obtain ⟨hl, xs, hp, hd⟩ := h
    exact ⟨xs, hd.symm, by simpa using mapM_some_length hp, fun i hi => mapM_some_get hp i i (by simp [hi])⟩

theorem weightsEach_mem {ts : List TypeId} {ds : List (DataW H)} {i : Nat} {d : DataW H} {t : TypeId} (ht : ts[i]? = some t) (hd : ds[i]? = some d) {n : Nat} (hn : n ∈ d.weights P t) : n ∈ DataW.weightsEach P ts ds := by
  induction i generalizing ts ds with
  | zero =>
    cases ts with
    | nil => simp at ht
    | cons a r =>
      cases ds with
      | nil => simp at hd
      | cons b q =>
        simp only [List.getElem?_cons_zero, Option.some.injEq] at ht hd
        subst ht; subst hd
        simp only [DataW.weightsEach, List.mem_append]; exact .inl hn
  | succ i ih =>
    cases ts with
    | nil => simp at ht
    | cons a r =>
      cases ds with
      | nil => simp at hd
      | cons b q =>
        simp only [List.getElem?_cons_succ] at ht hd
        simp only [DataW.weightsEach, List.mem_append]; exact .inr (ih ht hd)
theorem weightsAll_mem {e : TypeId} {ds : List (DataW H)} {i : Nat} {d : DataW H} (hd : ds[i]? = some d) {n : Nat} (hn : n ∈ d.weights P e) : n ∈ DataW.weightsAll P e ds := by
  induction i generalizing ds with
  | zero =>
    cases ds with
    | nil => simp at hd
    | cons b q =>
      simp only [List.getElem?_cons_zero, Option.some.injEq] at hd
      subst hd
      simp only [DataW.weightsAll, List.mem_append]; exact .inl hn
  | succ i ih =>
    cases ds with
    | nil => simp at hd
    | cons b q =>
      simp only [List.getElem?_cons_succ] at hd
      simp only [DataW.weightsAll, List.mem_append]; exact .inr (ih hd)

/-- Cells read at a type, and all that is met weighs what can be. -/
def Rg (R : Nat) (enc : TypeId × Value → H) (P : Program) (w : World) (t : TypeId) (cs : List Value) : Prop :=
  ∃ fuel x, DataW.trod enc P w 0 (fun _ => true) true fuel t cs = some x ∧ ∀ n ∈ x.1.weights P t, n ≤ R

theorem Rg.len {fs : Array Field} (ht : P.underlying t = some (.struct fs)) (h : Rg R enc P w t cs) : cs.length = P.cellsOf t := by
  obtain ⟨fuel, x, h, _⟩ := h
  obtain ⟨xs, n, _, _, hl, _⟩ := DataW.trod_struct ht h
  exact hl
theorem Rg.fld {fs : Array Field} (ht : P.underlying t = some (.struct fs)) (h : Rg R enc P w t cs) (i T o : Nat) (hf0 : (fs[i]?).map (fun f => (f.type, f.offset)) = some (T, o)) {sz : Nat} (hsz : P.cellsOf T = sz) : Rg R enc P w T ((cs.drop o).take sz) := by
  obtain ⟨f, hf, he⟩ := Option.map_eq_some_iff.1 hf0
  obtain ⟨rfl, rfl⟩ := Prod.mk.inj he
  obtain ⟨fuel, x, h, hw⟩ := h
  obtain ⟨xs, n, rfl, rfl, hl, hxs, hall⟩ := DataW.trod_struct ht h
  have hi : i < xs.length := by rw [hxs]; exact (Array.getElem?_eq_some_iff.1 hf).1
  have h1 := hall i f hf
  rw [List.getElem?_eq_getElem hi] at h1
  rw [← hsz]
  refine ⟨n, _, h1, fun k hk => hw k ?_⟩
  simp only [DataW.weights, ht]
  refine weightsEach_mem (i := i) (t := f.type) (d := xs[i].1) ?_ ?_ hk
  · simp [hf]
  · simp [List.getElem?_eq_getElem hi]
theorem Rg.elm {n : Nat} {e : TypeId} (ht : P.underlying t = some (.array n e)) (h : Rg R enc P w t cs) {i : Nat} (hi : i < n) {sz : Nat} (hsz : P.cellsOf e = sz) : Rg R enc P w e ((cs.drop (i * sz)).take sz) := by
  obtain ⟨fuel, x, h, hw⟩ := h
  obtain ⟨xs, m, rfl, rfl, hl, hxs, hall⟩ := trod_array ht h
  have h1 := hall i hi
  rw [List.getElem?_eq_getElem (by omega)] at h1
  rw [← hsz]
  refine ⟨m, _, h1, fun k hk => hw k ?_⟩
  simp only [DataW.weights, ht]
  exact weightsAll_mem (i := i) (by simp [List.getElem?_eq_getElem (show i < xs.length by omega)]) hk
theorem Rg.int {k : IntKind} (ht : P.underlying t = some (.int k)) (h : Rg R enc P w t cs) : ∃ n, cs = [.int k n] ∧ k.min ≤ n ∧ n ≤ k.max := by
  obtain ⟨fuel, x, h, _⟩ := h
  obtain ⟨n, rfl, _, hw⟩ := DataW.trod_int ht h
  simp only [Lit.wf, Bool.and_eq_true, decide_eq_true_eq] at hw
  exact ⟨n, rfl, hw⟩
theorem Rg.bool (ht : P.underlying t = some .bool) (h : Rg R enc P w t cs) : ∃ b, cs = [.bool b] := by
  obtain ⟨fuel, x, h, _⟩ := h
  obtain ⟨b, rfl, _⟩ := DataW.trod_bool ht h
  exact ⟨b, rfl⟩
theorem Rg.str (ht : P.underlying t = some .string) (h : Rg R enc P w t cs) : ∃ s : ByteArray, cs = [.string s] ∧ s.size ≤ R := by
  obtain ⟨fuel, x, h, hw⟩ := h
  obtain ⟨s, rfl, rfl, _⟩ := DataW.trod_string ht h
  refine ⟨s, rfl, ?_⟩
  have := hw s.data.toList.length (by simp [DataW.weights])
  have e : s.data.toList.length = s.size := Array.length_toList
  rw [e] at this
  exact this
theorem take1 {l : List Value} {o : Nat} {v : Value} (h : (l.drop o).take 1 = [v]) : l[o]? = some v := by
  have h1 : ((l.drop o).take 1)[0]? = some v := by rw [h]; rfl
  rw [List.getElem?_take] at h1
  simpa [List.getElem?_drop] using h1
theorem take_at {l : List Value} {o n j : Nat} {v : Value} (h : ((l.drop o).take n)[j]? = some v) : l[o + j]? = some v := by
  rw [List.getElem?_take] at h
  split at h
  · simpa [List.getElem?_drop] using h
  · cases h
theorem Rg.intAt {fs : Array Field} {k : IntKind} (ht : P.underlying t = some (.struct fs)) (h : Rg R enc P w t cs) (i T o : Nat) (hf : (fs[i]?).map (fun f => (f.type, f.offset)) = some (T, o)) (hu : P.underlying T = some (.int k)) (hsz : P.cellsOf T = 1) : ∃ n, cs[o]? = some (.int k n) ∧ k.min ≤ n ∧ n ≤ k.max := by
  obtain ⟨n, h1, h2⟩ := (h.fld ht i T o hf hsz).int hu
  exact ⟨n, take1 h1, h2⟩
theorem Rg.strAt {fs : Array Field} (ht : P.underlying t = some (.struct fs)) (h : Rg R enc P w t cs) (i T o : Nat) (hf : (fs[i]?).map (fun f => (f.type, f.offset)) = some (T, o)) (hu : P.underlying T = some .string) (hsz : P.cellsOf T = 1) : ∃ s : ByteArray, cs[o]? = some (.string s) ∧ s.size ≤ R := by
  obtain ⟨n, h1, h2⟩ := (h.fld ht i T o hf hsz).str hu
  exact ⟨n, take1 h1, h2⟩
theorem Rg.ints {n : Nat} {e : TypeId} {k : IntKind} (ht : P.underlying t = some (.array n e)) (h : Rg R enc P w t cs) (hu : P.underlying e = some (.int k)) (hsz : P.cellsOf e = 1) : ∃ r : Nat → Int, ∀ j, j < n → cs[j]? = some (.int k (r j)) ∧ k.min ≤ r j ∧ r j ≤ k.max := by
  have : ∀ j, ∃ m : Int, j < n → cs[j]? = some (.int k m) ∧ k.min ≤ m ∧ m ≤ k.max := by
    intro j
    by_cases hj : j < n
    · obtain ⟨m, h1, h2⟩ := (h.elm ht hj hsz).int hu
      exact ⟨m, fun _ => ⟨by have := take1 h1; simpa using this, h2⟩⟩
    · exact ⟨0, fun h => absurd h hj⟩
  exact ⟨fun j => Classical.choose (this j), fun j hj => Classical.choose_spec (this j) hj⟩
theorem list_eq {l l' : List Value} (hl : l.length = l'.length) (h : ∀ i, i < l'.length → l[i]? = l'[i]?) : l = l' := by
  refine List.ext_getElem? fun i => ?_
  by_cases hi : i < l'.length
  · exact h i hi
  · rw [List.getElem?_eq_none (by omega), List.getElem?_eq_none (by omega)]
theorem cells?_len {a : Addr} {n : Nat} (h : w.cells? base a n = some cs) : cs.length = n ∧ ∀ j, j < n → w.cell? (a.add j) = cs[j]? := by
  unfold World.cells? at h
  split at h
  · exact ⟨by simpa using mapM_some_length h, fun j hj => mapM_some_get h j j (by simp [hj])⟩
  · cases h
theorem RdP.heap {a : Addr} {v : Value} (h : w.cell? a = some v) : RdP (fun b => w.heap[b]?) a v := by
  intro w' hs
  unfold World.cell? at h ⊢
  cases ho : w.heap[a.block]? with
  | none => rw [ho] at h; cases h
  | some o =>
    rw [hs a.block o ho]
    rw [ho] at h
    exact h
theorem spot_none {a : Addr} {v : Value} (h : w.cell? a = some v) : a.spot = none := by
  unfold World.cell? at h
  split at h
  · split at h
    · cases h
    · rename_i hs; simpa using hs
  · cases h
/-- A slice whose elements can be read. -/
theorem Rg.sl {e : TypeId} {sz by' : Nat} {α : Type} (en : α → List Value) (Q : α → Prop) (ht : P.underlying t = some (.slice e)) (h : Rg R enc P w t cs) (hsz : P.cellsOf e = sz) (h0 : 0 < sz) (hby : P.bytesOf e = by')
    (hel : ∀ cs', Rg R enc P w e cs' → ∃ a, cs' = en a ∧ Q a) : ∃ (hd : Sh) (l : List α), cs = [hd.val l.length] ∧ SlR (fun b => w.heap[b]?) sz en hd l ∧ hd.cap * by' ≤ R ∧ ∀ a ∈ l, Q a := by
  obtain ⟨fuel, x, h, hw⟩ := h
  rcases DataW.trod_slice ht h with ⟨rfl, rfl⟩ | ⟨a, len, cap, elems, rest, n, rfl, rfl, rfl, _, hlc, _, hlen, hall, hrest, _⟩
  · exact ⟨⟨none, 0⟩, [], rfl, SlR.nul, by simp, fun a ha => by cases ha⟩
  · have hcap : (elems.length + rest.length) * by' ≤ R := by
      have := hw ((elems.length + rest.length) * by') (by simp [DataW.weights, ht, hby])
      simpa using this
    rw [(hrest rfl).1, hlen, show len + (cap - len) = cap by omega] at hcap
    have hel' : ∀ i, i < len → ∃ m : α, w.cells? 0 (a.add (i * sz)) sz = some (en m) ∧ Q m := by
      intro i hi
      have h1 := hall i hi
      rw [List.getElem?_eq_getElem (by omega), hsz, Option.bind_eq_some_iff] at h1
      obtain ⟨cs', h2, h3⟩ := h1
      obtain ⟨m, rfl, hm⟩ := hel cs' ⟨n, _, h3, fun k hk => hw k (by
        simp only [DataW.weights, ht, List.mem_cons, List.mem_append]
        exact .inr (.inl (weightsAll_mem (i := i) (by simp [List.getElem?_eq_getElem (show i < elems.length by omega)]) hk)))⟩
      exact ⟨m, h2, hm⟩
    have hspot : 0 < len → a.spot = none := by
      intro hpos
      obtain ⟨m, h1, _⟩ := hel' 0 hpos
      obtain ⟨h2, h3⟩ := cells?_len h1
      have h4 := h3 0 h0
      rw [List.getElem?_eq_getElem (by omega)] at h4
      exact spot_none (a := a) (by simpa [Addr.add] using h4)
    rcases Nat.eq_zero_or_pos len with hz | hpos
    · refine ⟨⟨some a, cap⟩, [], by rw [hz]; rfl, ⟨fun h => absurd rfl h, by simp, fun i y hy => by simp at hy⟩, hcap, fun y hy => by cases hy⟩
    · have hne : Nonempty α := ⟨Classical.choose (hel' 0 hpos)⟩
      have hch : ∀ i, ∃ m : α, i < len → w.cells? 0 (a.add (i * sz)) sz = some (en m) ∧ Q m := by
        intro i
        by_cases hi : i < len
        · obtain ⟨m, hm⟩ := hel' i hi; exact ⟨m, fun _ => hm⟩
        · exact ⟨Classical.choice hne, fun h => absurd h hi⟩
      obtain ⟨M, hM⟩ : ∃ M : Nat → α, ∀ i, i < len → w.cells? 0 (a.add (i * sz)) sz = some (en (M i)) ∧ Q (M i) := ⟨fun i => Classical.choose (hch i), fun i => Classical.choose_spec (hch i)⟩
      refine ⟨⟨some a, cap⟩, (List.range len).map M, by simp [Sh.val], ⟨fun _ => ?_, by simpa using hlc, fun i y hy j v hj => ?_⟩, hcap, fun y hy => ?_⟩
      · have := hspot hpos
        show some a = some ⟨a.block, a.off, none⟩
        cases a; simp_all
      · have hi : i < len := by
          have := (List.getElem?_eq_some_iff.1 hy).1
          simpa using this
        have hy' : y = M i := by
          simp [hi] at hy; exact hy.symm
        subst hy'
        obtain ⟨h1, _⟩ := hM i hi
        obtain ⟨h2, h3⟩ := cells?_len h1
        have hjl : j < sz := by rw [← h2]; exact (List.getElem?_eq_some_iff.1 hj).1
        have h4 := h3 j hjl
        rw [hj] at h4
        have h5 := RdP.heap h4
        have hadd : (a.add (i * sz)).add j = ⟨a.block, a.off + i * sz + j, none⟩ := by
          have hs := hspot hpos
          cases a with
          | mk b o s =>
            simp only at hs; subst hs
            by_cases hz1 : i * sz = 0 <;> by_cases hz2 : j = 0 <;> simp [Addr.add, hz1, hz2]
        rw [hadd] at h5
        exact h5
      · obtain ⟨i, hi, rfl⟩ := List.mem_map.1 hy
        exact (hM i (by simpa using hi)).2

/-! ### Shutting -/
theorem trodAll_stays {W W' : World} {sp' : Nat → Bool} (hl : laidOutB P = true) : ∀ {ts : List TypeId} {vs : List Value} {ds : List (DataW H)} {ps : List MemPlace}, (∀ t ∈ ts, P.readableRec t = true ∧ t < P.types.size) →
    DataW.TrodAll enc P W 0 (fun _ => true) true ts vs ds ps → (∀ p ∈ ps, W.sameAt W' p) → (∀ p ∈ ps, sp' p.block = true) → DataW.TrodAll enc P W' 0 sp' true ts vs ds ps
  | [], _, _, _, _, h, _, _ => by
    obtain ⟨rfl, rfl, rfl⟩ := trodAll_nil h
    rfl
  | t :: ts, _, _, _, ht, h, hs, hp => by
    obtain ⟨v, vs1, d, ds1, a, b, rfl, rfl, rfl, h1, h2⟩ := trodAll_cons h
    obtain ⟨hr, hrow⟩ := ht t (List.mem_cons_self ..)
    exact ⟨a, b, WideElems.Trod_stays hl hr hrow h1 (fun p hp' => hs p (List.mem_append_left _ hp')) (fun p hp' => hp p (List.mem_append_left _ hp')),
      trodAll_stays hl (fun u hu => ht u (List.mem_cons_of_mem _ hu)) h2 (fun p hp' => hs p (List.mem_append_right _ hp')) (fun p hp' => hp p (List.mem_append_right _ hp')), rfl⟩
theorem post_true {fn : Func} {s : ChangeSpec} {apart fresh handsOn again : Bool} {W W' : World} {args : Array Value} {ds gs : List (DataW H)} {before : List MemPlace} {T : TypeId} (hl : laidOutB P = true)
    (hW : DataW.Whole enc P fn.params.toList s.vars apart W args.toList ds gs before) (hv : s.vars = []) (hpar : ∀ t ∈ fn.params.toList, P.readableRec t = true ∧ t < P.types.size)
    (hfn : s.fn H (ds ++ gs) = { results := [.lit (.bool true)], args := ds }) (hr : fn.resultTypes = #[T]) (hT : P.underlying T = some .bool) (hb : Below W.heap.size W W') :
    s.post enc P fn apart fresh handsOn again W args (.bool true) W' := by
  have hlt := hW.lt
  have hW2 := hW
  obtain ⟨p, q, hA, hV, rfl, hz, hn⟩ := hW
  have hq : q = [] := by rw [hv] at hV; exact (trodVars_none hV).2
  subst hq
  have hres : ∀ (b : Nat) (sp : Nat → Bool) (hd : Bool), DataW.TrodAll enc P W' b sp hd fn.resultTypes.toList ((Value.bool true).resultList fn.resultTypes.size) [.lit (.bool true)] [] := by
    intro b sp hd
    rw [hr]
    exact trodAll_mk1 (shut_bool hT true)
  have hargs : ∀ sp : Nat → Bool, (∀ x ∈ p, sp x.block = true) → DataW.TrodAll enc P W' 0 sp true fn.params.toList args.toList ds p := fun sp hsp =>
    trodAll_stays hl hpar hA (fun x hx => hb.same (hlt x (List.mem_append_left _ hx))) hsp
  have hvars : ∀ sp : Nat → Bool, DataW.TrodVars enc P W' sp s.vars ([] : List (DataW H)) [] := fun sp => by rw [hv]; rfl
  refine ⟨ds, gs, p ++ [], [], p, [], hW2, ?_, ?_, ?_, hb.frame _, fun _ => ⟨?_, _, [], p ++ [], ⟨[] ++ p, [], trodAll_append (hargs _ fun _ _ => rfl) (hres _ _ _), hvars _, by simp, ?_, ?_⟩, ?_⟩⟩
  · rw [hfn]; exact hres _ _ _
  · rw [hfn]; exact hargs _ (fun x hx => by simpa using hlt x (List.mem_append_left _ hx))
  · rw [hfn]; exact hvars _
  · rw [hr]
    intro j t r hj hrr
    match j, hj, hrr with
    | 0, hj, hrr =>
      simp [Value.resultList] at hj hrr
      subst hj; subst hrr
      simp [Value.okWide, hT, Cell.okWide, Cell.ok]
  · intro b off hp
    rw [hb.frozen (p := ⟨b, off, none⟩) (hlt _ hp)]
    exact hz b off hp
  · intro ha; exact hn ha
  · intro x hx _; exact hx
/-- The road from a law's contract to the row. -/
theorem of_ct {f : FuncId} {fn : Func} {s : ChangeSpec} {apart fresh handsOn again : Bool} {W : World} {args : Array Value} {ds gs : List (DataW H)} {before : List MemPlace} {T : TypeId} (hl : laidOutB P = true)
    (hW : DataW.Whole enc P fn.params.toList s.vars apart W args.toList ds gs before) (hv : s.vars = []) (hpar : ∀ t ∈ fn.params.toList, P.readableRec t = true ∧ t < P.types.size)
    (hfn : s.fn H (ds ++ gs) = { results := [.lit (.bool true)], args := ds }) (hr : fn.resultTypes = #[T]) (hT : P.underlying T = some .bool)
    (hc : Ct P f args (fun b => W.heap[b]?) [] fun _ μ' u => μ' = [] ∧ u = .bool true) :
    Calls P f args W fun e W' => ∃ v, e = .returned v ∧ s.post enc P fn apart fresh handsOn again W args v W' := by
  refine (hc W ⟨fun b o h => h, (fun r hr => nomatch hr), (fun b hb => nomatch hb), List.nodup_nil⟩).mono fun e W' ⟨v, G', μ', he, htr, hμ, hv'⟩ => ?_
  subst hv'
  refine ⟨_, he, post_true hl hW hv hpar hfn hr hT ⟨htr.os, htr.tape, htr.output, htr.size, fun k hk => (htr.old k hk (by simp [keys])).1⟩⟩
/-- An argument's reading, with its weights. -/
theorem Rg.arg {W : World} {v : Value} {d : DataW H} {ps : List MemPlace} {ts : List TypeId} {ds : List (DataW H)} {i : Nat} (h : DataW.Trod enc P W 0 (fun _ => true) true t v d ps) (hw : (DataW.weightsEach P ts ds).all (· ≤ reachBytes) = true) (ht : ts[i]? = some t) (hd : ds[i]? = some d) : Rg 140737488351232 enc P W t v.cells.toList := by
  obtain ⟨fuel, h⟩ := h
  refine ⟨fuel, _, h, fun n hn => ?_⟩
  have := List.all_eq_true.1 hw n (weightsEach_mem ht hd hn)
  have h2 : n ≤ reachBytes := by simpa using this
  exact h2
end
end Go.Tan

namespace Go.Tan
open Go.RowKit
variable {H : Type} {R : Nat} {enc : TypeId × Value → H} {P : Program} {w : World} {t : TypeId} {cs : List Value}
theorem min_u {k : IntKind} (hk : k.signed = false) : k.min = 0 := by cases k <;> first | rfl | cases hk
theorem max_u {k : IntKind} (hk : k.signed = false) : k.max = 2 ^ k.bits - 1 := by cases k <;> first | rfl | cases hk
theorem Rg.uw {k : IntKind} (hk : k.signed = false) (ht : P.underlying t = some (.int k)) (h : Rg R enc P w t cs) : ∃ x : BitVec k.bits, cs = [uv k x] := by
  obtain ⟨n, rfl, h1, h2⟩ := h.int ht
  rw [min_u hk] at h1
  rw [max_u hk] at h2
  refine ⟨BitVec.ofNat k.bits n.toNat, ?_⟩
  unfold uv
  have hlt : n.toNat < 2 ^ k.bits := by
    have : ((2 : Int) ^ k.bits) = ((2 ^ k.bits : Nat) : Int) := by simp
    omega
  rw [BitVec.toNat_ofNat, Nat.mod_eq_of_lt hlt, Int.toNat_of_nonneg h1]
theorem Rg.alen {n : Nat} {e : TypeId} (ht : P.underlying t = some (.array n e)) (h : Rg R enc P w t cs) : cs.length = P.cellsOf t := by
  obtain ⟨fuel, x, h, _⟩ := h
  obtain ⟨xs, m, _, _, hl, _⟩ := trod_array ht h
  exact hl
theorem at_take {cs : List Value} {o : Nat} {v : Value} (h : (cs.drop o).take 1 = [v]) : cs[o]? = some v := by
  have := congrArg (·[0]?) h
  simpa [List.getElem?_take, List.getElem?_drop] using this
theorem Rg.ba {n : Nat} {e : TypeId} (ht : P.underlying t = some (.array n e)) (h : Rg R enc P w t cs) (he : P.underlying e = some (.int .u8)) (hce : P.cellsOf e = 1) (hct : P.cellsOf t = n) : ∃ f : Nat → Y, cs = ba n f := by
  have hl := h.alen ht
  have hx : ∀ j, ∃ y : Y, j < n → cs[j]? = some (V y) := by
    intro j
    by_cases hj : j < n
    · obtain ⟨x, hx⟩ := (h.elm ht hj hce).uw rfl he
      exact ⟨x, fun _ => at_take (by simpa using hx)⟩
    · exact ⟨0, fun h => absurd h hj⟩
  refine ⟨fun j => Classical.choose (hx j), List.ext_getElem? fun j => ?_⟩
  by_cases hj : j < n
  · rw [ba_at hj]; exact Classical.choose_spec (hx j) hj
  · rw [List.getElem?_eq_none (by omega), List.getElem?_eq_none (by rw [ba_len]; omega)]
theorem Rg.bsl {e : TypeId} (ht : P.underlying t = some (.slice e)) (h : Rg R enc P w t cs) (he : P.underlying e = some (.int .u8)) (hce : P.cellsOf e = 1) (hby : P.bytesOf e = 1) :
    ∃ (hd : Sh) (l : List Y), cs = [hd.val l.length] ∧ SlR (fun b => w.heap[b]?) 1 encY hd l ∧ hd.cap ≤ R ∧ l.length ≤ R := by
  obtain ⟨hd, l, h1, h2, h3, _⟩ := h.sl encY (fun _ => True) ht hce (by decide) hby (fun cs' h' => by obtain ⟨x, hx⟩ := h'.uw rfl he; exact ⟨x, hx, trivial⟩)
  exact ⟨hd, l, h1, h2, by omega, by have := h2.le; omega⟩
theorem split2 {cs : List Value} {a b : Nat} (h : cs.length = a + b) : cs = (cs.drop 0).take a ++ (cs.drop a).take b := by
  rw [List.drop_zero, List.take_of_length_le (l := cs.drop a) (by simp; omega), List.take_append_drop]
theorem split3 {cs : List Value} {a b c : Nat} (h : cs.length = a + b + c) : cs = (cs.drop 0).take a ++ ((cs.drop a).take b ++ (cs.drop (a + b)).take c) := by
  have h1 := split2 (cs := cs) (a := a) (b := b + c) (by omega)
  have h2 : (cs.drop a).take (b + c) = (cs.drop a).take b ++ (cs.drop (a + b)).take c := by
    rw [List.take_add, List.drop_drop]
  rw [← h2]; exact h1
/-! ### Tables -/
theorem tab_rd {w : World} {name : String} {zs : List Int} {g m : Nat} {y : Nat → W} (h : Lib.TabIs P w name .u32 zs) (hg : P.globalNamed name = some g) (hz : zs.length = m) (hy : ∀ j, j < m → zs.getD j 0 = ((y j).toNat : Int)) : RdNP (fun b => w.heap[b]?) g 0 (wa m y) := by
  intro j v hj
  have hlt : j < m := by have := (List.getElem?_eq_some_iff.1 hj).1; rwa [wa_len] at this
  rw [wa_at hlt] at hj
  obtain rfl := Option.some.inj hj
  have h1 := h.cell hg j (by omega)
  rw [hy j hlt] at h1
  rw [Nat.zero_add]
  exact RdP.heap h1
theorem laid_tail {x : String × DataW Unit} {rest : List (String × DataW Unit)} {W : World} (h : laidMet P (x :: rest) W) : laidMet P rest W := by
  obtain ⟨ps, ⟨g', t', cs, fuel, p, q, hg', ht', hvar, hd, hr, he⟩, hn, hb⟩ := h
  subst he
  exact ⟨q, hr, (List.nodup_append.1 hn).2.1, fun b off hm => hb b off (List.mem_append_right _ hm)⟩
end Go.Tan

namespace Go.Tan
open Go.RowKit
/-! ### Helpers of walks -/
theorem one_app {xs ys : List Value} (h1 : ∀ u ∈ xs, u.oneCell' = true) (h2 : ∀ u ∈ ys, u.oneCell' = true) : ∀ u ∈ xs ++ ys, u.oneCell' = true := by
  intro u hu; rcases List.mem_append.1 hu with h | h
  · exact h1 u h
  · exact h2 u h
theorem wap_at1 {n : Nat} {y : Nat → W} {r : List Value} {j : Int} {o : Nat} (a : Nat) (hj : o + j.toNat * 1 = a) (h : a < n) : (wa n y ++ r)[o + j.toNat * 1]? = some (U (y a)) := by
  rw [hj, List.getElem?_append_left (by rw [wa_len]; exact h)]; exact wa_at h
theorem wap_set1 {n : Nat} {y : Nat → W} {r : List Value} {j : Int} {z : W} {o : Nat} (a : Nat) (hj : o + j.toNat * 1 = a) (h : a < n) : (wa n y ++ r).set (o + j.toNat * 1) (U z) = wa n (upd y a z) ++ r := by
  rw [hj, List.set_append_left _ _ (by rw [wa_len]; exact h)]; rw [wa_set]
theorem wap_f {n o : Nat} {y : Nat → W} {r : List Value} {v : Option Value} (h : r[o - n]? = v) (hn : n ≤ o := by decide) : (wa n y ++ r)[o]? = v := by
  rw [List.getElem?_append_right (by rw [wa_len]; exact hn), wa_len]; exact h
theorem wap_s {n o : Nat} {y : Nat → W} {r r' : List Value} {v : Value} (h : r.set (o - n) v = r') (hn : n ≤ o := by decide) : (wa n y ++ r).set o v = wa n y ++ r' := by
  rw [List.set_append_right _ _ (by rw [wa_len]; exact hn), wa_len, h]
theorem map_at1 {xs : List Y} {j : Int} {o : Nat} (a : Nat) (hj : o + j.toNat * 1 = a) (h : a < xs.length) : (xs.map V)[o + j.toNat * 1]? = some (V (xs.getD a 0)) := by
  rw [hj]; simp [h]
theorem wa_congr {n : Nat} {f f' : Nat → W} (h : ∀ i, i < n → f i = f' i) : wa n f = wa n f' := by
  unfold wa
  refine List.map_congr_left fun i hi => ?_
  rw [h i (List.mem_range.1 hi)]
/-! ### Words -/
/-- turned to the right, as the program has it -/
def rotr (x : W) (k : Nat) : W := x <<< (32 - k) ||| x >>> k
theorem rotI_neg {x : W} {k : Nat} (h : k ∈ [2, 6, 7, 11, 13, 17, 18, 19, 22, 25]) : rotI x (-(k : Int)) = rotr x k := by
  simp only [List.mem_cons, List.not_mem_nil, or_false] at h
  rcases h with rfl | rfl | rfl | rfl | rfl | rfl | rfl | rfl | rfl | rfl <;> rfl
def kL : List W := [0x428a2f98, 0x71374491, 0xb5c0fbcf, 0xe9b5dba5, 0x3956c25b, 0x59f111f1, 0x923f82a4, 0xab1c5ed5, 0xd807aa98, 0x12835b01, 0x243185be, 0x550c7dc3, 0x72be5d74, 0x80deb1fe, 0x9bdc06a7, 0xc19bf174, 0xe49b69c1, 0xefbe4786, 0x0fc19dc6, 0x240ca1cc, 0x2de92c6f, 0x4a7484aa, 0x5cb0a9dc, 0x76f988da, 0x983e5152, 0xa831c66d, 0xb00327c8, 0xbf597fc7, 0xc6e00bf3, 0xd5a79147, 0x06ca6351, 0x14292967, 0x27b70a85, 0x2e1b2138, 0x4d2c6dfc, 0x53380d13, 0x650a7354, 0x766a0abb, 0x81c2c92e, 0x92722c85, 0xa2bfe8a1, 0xa81a664b, 0xc24b8b70, 0xc76c51a3, 0xd192e819, 0xd6990624, 0xf40e3585, 0x106aa070, 0x19a4c116, 0x1e376c08, 0x2748774c, 0x34b0bcb5, 0x391c0cb3, 0x4ed8aa4a, 0x5b9cca4f, 0x682e6ff3, 0x748f82ee, 0x78a5636f, 0x84c87814, 0x8cc70208, 0x90befffa, 0xa4506ceb, 0xbef9a3f7, 0xc67178f2]
def kW : Nat → W := fun i => kL.getD i 0
def ivL : List W := [1779033703, 3144134277, 1013904242, 2773480762, 1359893119, 2600822924, 528734635, 1541459225]
def ivW : Nat → W := fun i => ivL.getD i 0
/-- four bytes, the highest first -/
def beW (b : Nat → Y) (i : Nat) : W := (b i).setWidth 32 <<< 24 ||| (b (i + 1)).setWidth 32 <<< 16 ||| (b (i + 2)).setWidth 32 <<< 8 ||| (b (i + 3)).setWidth 32
def shB (f : Nat → Y) (i : Nat) : Nat → W
  | 0 => 0#32
  | c + 1 => shB f i c <<< 8 ||| (f (4 * i + c)).setWidth 32
theorem shB_four (f : Nat → Y) (i : Nat) : shB f i 4 = beW f (4 * i) := by
  simp only [shB, beW, BitVec.shiftLeft_or_distrib, ← BitVec.shiftLeft_add, Nat.add_zero]
  simp [BitVec.shiftLeft_or_distrib, ← BitVec.shiftLeft_add, BitVec.or_assoc]
def s0W (x : W) : W := rotr x 7 ^^^ rotr x 18 ^^^ x >>> 3
def s1W (x : W) : W := rotr x 17 ^^^ rotr x 19 ^^^ x >>> 10
/-- the first 16 words, so many of them -/
def w16 (b : Nat → Y) : Nat → Nat → W
  | 0 => fun _ => 0#32
  | k + 1 => upd (w16 b k) k (beW b (4 * k))
/-- a block's words, so many behind the first 16 -/
def sched (b : Nat → Y) : Nat → Nat → W
  | 0 => w16 b 16
  | k + 1 => upd (sched b k) (16 + k) (sched b k k + sched b k (9 + k) + s0W (sched b k (1 + k)) + s1W (sched b k (14 + k)))
def chW (e f g : W) : W := g ^^^ (e &&& (f ^^^ g))
def majW (a b c : W) : W := a &&& b ||| c &&& (a ||| b)
theorem ch_eq (e f g : W) : (e &&& f) ^^^ (~~~e &&& g) = chW e f g := by
  unfold chW
  apply BitVec.eq_of_getLsbD_eq
  intro i hi
  simp only [BitVec.getLsbD_xor, BitVec.getLsbD_and, BitVec.getLsbD_not, hi, decide_true, Bool.true_and]
  cases e.getLsbD i <;> cases f.getLsbD i <;> cases g.getLsbD i <;> rfl
theorem maj_eq (a b c : W) : (a &&& b) ^^^ (a &&& c) ^^^ (b &&& c) = majW a b c := by
  unfold majW
  apply BitVec.eq_of_getLsbD_eq
  intro i hi
  simp only [BitVec.getLsbD_xor, BitVec.getLsbD_and, BitVec.getLsbD_or]
  cases a.getLsbD i <;> cases b.getLsbD i <;> cases c.getLsbD i <;> rfl
def tW (x : Nat → W) (k w : W) : W := x 7 + (rotr (x 4) 6 ^^^ rotr (x 4) 11 ^^^ rotr (x 4) 25) + chW (x 4) (x 5) (x 6) + k + w
def uW (x : Nat → W) : W := (rotr (x 0) 2 ^^^ rotr (x 0) 13 ^^^ rotr (x 0) 22) + majW (x 0) (x 1) (x 2)
def rndW (x : Nat → W) (k w : W) : Nat → W := fun i => match i with
  | 0 => tW x k w + uW x | 1 => x 0 | 2 => x 1 | 3 => x 2 | 4 => x 3 + tW x k w | 5 => x 4 | 6 => x 5 | _ => x 6
def rnds (w s : Nat → W) : Nat → Nat → W
  | 0 => s
  | k + 1 => rndW (rnds w s k) (kW k) (w k)
/-- the words behind a block -/
def shaC (s : Nat → W) (b : Nat → Y) : Nat → W := fun i => s i + rnds (sched b 48) s 64 i
def blkF (xs : List Y) (k : Nat) : Nat → Y := fun i => xs.getD (64 * k + i) 0
/-- the words behind so many blocks -/
def shaW (xs : List Y) : Nat → Nat → W
  | 0 => ivW
  | k + 1 => shaC (shaW xs k) (blkF xs k)
theorem w16_congr {b b' : Nat → Y} (h : ∀ i, i < 64 → b i = b' i) : ∀ k, k ≤ 16 → w16 b k = w16 b' k
  | 0, _ => rfl
  | k + 1, hk => by
    rw [w16, w16, w16_congr h k (by omega)]
    unfold beW
    rw [h _ (by omega), h _ (by omega), h _ (by omega), h _ (by omega)]
theorem sched_congr {b b' : Nat → Y} (h : ∀ i, i < 64 → b i = b' i) : ∀ k, sched b k = sched b' k
  | 0 => w16_congr h 16 (by omega)
  | k + 1 => by rw [sched, sched, sched_congr h k]
theorem shaC_congr {s : Nat → W} {b b' : Nat → Y} (h : ∀ i, i < 64 → b i = b' i) : shaC s b = shaC s b' := by
  unfold shaC; rw [sched_congr h]
theorem shaW_congr {xs ys : List Y} {k : Nat} (h : ∀ i, i < 64 * k → xs.getD i 0 = ys.getD i 0) : shaW xs k = shaW ys k := by
  induction k with
  | zero => rfl
  | succ k ih =>
    rw [shaW, shaW, ih (fun i hi => h i (by omega))]
    exact shaC_congr fun i hi => h _ (by omega)
theorem shaW_app {xs ys : List Y} {k : Nat} (h : 64 * k ≤ xs.length) : shaW (xs ++ ys) k = shaW xs k :=
  shaW_congr fun i hi => by simp [List.getD_eq_getElem?_getD, List.getElem?_append_left (show i < xs.length by omega)]
/-- what stands behind the bytes, without the length -/
def zeros (n : Nat) : Nat := (119 - n % 64) % 64
def len64 (n : Nat) : BitVec 64 := BitVec.ofInt 64 (n : Int) * 8#64
def lenF (n : Nat) (j : Nat) : Y := (len64 n >>> (56 - 8 * j)).setWidth 8
def lenB (n j : Nat) : List Y := (List.range j).map (lenF n)
def tailL (n : Nat) : List Y := 128#8 :: List.replicate (zeros n) 0#8 ++ lenB n 8
def padL (xs : List Y) : List Y := xs ++ tailL xs.length
theorem lenB_len (n j : Nat) : (lenB n j).length = j := by simp [lenB]
theorem lenB_snoc (n j : Nat) : lenB n (j + 1) = lenB n j ++ [lenF n j] := by simp [lenB, List.range_succ]
theorem tail_len (n : Nat) : (tailL n).length = zeros n + 9 := by simp [tailL, lenB_len]
theorem pad_len (xs : List Y) : (padL xs).length % 64 = 0 := by
  have : zeros xs.length = (119 - xs.length % 64) % 64 := rfl
  simp only [padL, List.length_append, tail_len]; omega
/-- the digest -/
def shaD (xs : List Y) : Nat → Y := fun i => ((shaW (padL xs) ((padL xs).length / 64) (i / 4)) >>> (24 - 8 * (i % 4))).setWidth 8
def shaL (xs : List Y) : List Y := yl 32 (shaD xs)
/-- the state's cells; what is not a whole block yet -/
def stC (xs : List Y) (vp : Value) : List Value := wa 8 (shaW xs (xs.length / 64)) ++ [vp, .int .i64 (xs.length : Int)]
def restL (xs : List Y) : List Y := xs.drop (64 * (xs.length / 64))
theorem rest_len (xs : List Y) : (restL xs).length = xs.length % 64 := by simp [restL]; omega
theorem w16_ge (b : Nat → Y) : ∀ (k j : Nat), k ≤ j → w16 b k j = 0#32
  | 0, _, _ => rfl
  | k + 1, j, h => by rw [w16, upd, if_neg (by omega)]; exact w16_ge b k j (by omega)
theorem upd_w16 (b : Nat → Y) {k j : Nat} (h : k ≤ j) : upd (w16 b k) j 0#32 = w16 b k := by
  have := upd_self (w16 b k) j
  rwa [w16_ge b k j h] at this
theorem getD_part {xs : List Y} {lo m c : Nat} (h : c < m) : ((xs.drop lo).take m).getD c 0 = xs.getD (lo + c) 0 := by
  simp [List.getD_eq_getElem?_getD, List.getElem?_take, h, List.getElem?_drop]
theorem upd_if {s x : Nat → W} {k : Nat} : upd (fun i => if i < k then s i + x i else s i) k ((if k < k then s k + x k else s k) + x k) = fun i => if i < k + 1 then s i + x i else s i := by
  funext i
  unfold upd
  by_cases h : i = k
  · subst h; simp
  · rw [if_neg h]
    by_cases h2 : i < k
    · simp [h2, show i < k + 1 by omega]
    · simp [h2, show ¬ i < k + 1 by omega]
end Go.Tan

namespace Go.Tan
open Go.RowKit
/-- the lowest bytes of a number -/
def fixL (n : BitVec 64) (many : Nat) : List Y := (List.range many).map fun j => (n >>> (8 * j)).setWidth 8
theorem fix_len (n : BitVec 64) (many : Nat) : (fixL n many).length = many := by simp [fixL]
theorem fix_snoc (n : BitVec 64) (k : Nat) : fixL n (k + 1) = fixL n k ++ [(n >>> (8 * k)).setWidth 8] := by simp [fixL, List.range_succ]
/-- crossed up to a place -/
def crT (key nonce : Nat → Y) (count : W) (xs : List Y) (m : Nat) : List Y := yl xs.length fun i => if i < m then crF key nonce count xs i else xs.getD i 0
theorem crT_len (key nonce : Nat → Y) (count : W) (xs : List Y) (m : Nat) : (crT key nonce count xs m).length = xs.length := yl_len _ _
theorem yl_congr {n : Nat} {f f' : Nat → Y} (h : ∀ i, i < n → f i = f' i) : yl n f = yl n f' := by
  unfold yl
  refine List.map_congr_left fun i hi => ?_
  rw [h i (List.mem_range.1 hi)]
theorem yl_self (xs : List Y) : yl xs.length (fun i => xs.getD i 0) = xs := by
  refine List.ext_getElem? fun i => ?_
  by_cases h : i < xs.length
  · simp [yl, h]
  · simp [yl, h]
theorem yl_set {n j : Nat} {f : Nat → Y} {z : Y} : (yl n f).set j z = yl n (upd f j z) := by
  refine List.ext_getElem? fun i => ?_
  rw [List.getElem?_set]
  by_cases h : j = i
  · subst h
    by_cases hj : j < n
    · simp [yl, upd, hj]
    · simp [yl, hj]
  · simp only [if_neg h]
    by_cases hi : i < n
    · simp [yl, upd, hi, show ¬ i = j from fun e => h e.symm]
    · simp [yl, hi]
theorem crT_zero (key nonce : Nat → Y) (count : W) (xs : List Y) : crT key nonce count xs 0 = xs := by
  unfold crT
  rw [yl_congr (f' := fun i => xs.getD i 0) (fun i _ => by simp), yl_self]
theorem crT_all {key nonce : Nat → Y} {count : W} {xs : List Y} {m : Nat} (h : xs.length ≤ m) : crT key nonce count xs m = crossL key nonce count xs := by
  unfold crT crossL
  exact yl_congr fun i hi => by rw [if_pos (by omega)]
theorem crT_step {key nonce : Nat → Y} {count : W} {xs : List Y} {j i : Nat} (hi : i < 64) (hl : 64 * j + i < xs.length) :
    (crT key nonce count xs (64 * j + i)).set (64 * j + i) ((crT key nonce count xs (64 * j + i)).getD (64 * j + i) 0 ^^^ chaB key nonce (count + BitVec.ofNat 32 j) i) = crT key nonce count xs (64 * j + (i + 1)) := by
  unfold crT
  rw [yl_at hl, if_neg (by omega), yl_set]
  refine yl_congr fun q hq => ?_
  unfold upd
  by_cases h : q = 64 * j + i
  · rw [if_pos h, if_pos (by omega), h]
    unfold crF
    rw [show (64 * j + i) / 64 = j by omega, show (64 * j + i) % 64 = i by omega]
  · rw [if_neg h]
    show (if q < 64 * j + i then crF key nonce count xs q else xs.getD q 0) = _
    by_cases h2 : q < 64 * j + i
    · rw [if_pos h2, if_pos (by omega)]
    · rw [if_neg h2, if_neg (by omega)]
/-! ### Keyed sums -/
/-- a key that is too long stands for its digest -/
def keyL (key : List Y) : List Y := if key.length > 64 then shaL key else key
def padF (key : List Y) (by' : Y) : Nat → Y := fun i => if i < (keyL key).length then by' ^^^ (keyL key).getD i 0 else by'
def macL (key xs : List Y) : Nat → Y := shaD (yl 64 (padF key 92#8) ++ shaL (yl 64 (padF key 54#8) ++ xs))
theorem shaL_len (xs : List Y) : (shaL xs).length = 32 := yl_len _ _
theorem keyL_len {key : List Y} : (keyL key).length ≤ 64 := by
  unfold keyL; split
  · rw [shaL_len]; decide
  · omega
/-! ### Sealing -/
/-- what a tag is made of -/
def tagL (ad nonce crossed : List Y) : List Y := fixL (BitVec.ofInt 64 (ad.length : Int)) 8 ++ ad ++ nonce ++ crossed
def tagF (mac nonce : Nat → Y) (ad crossed : List Y) : Nat → Y := macL (yl 32 mac) (tagL ad (yl 12 nonce) crossed)
def sealL (enc mac nonce : Nat → Y) (ad text : List Y) : List Y := crossL enc nonce 1#32 text ++ yl 16 (tagF mac nonce ad (crossL enc nonce 1#32 text))
/-- what is opened: none, if it was not sealed so -/
def openL (enc mac nonce : Nat → Y) (ad s : List Y) : Option (List Y) :=
  if s.length < 16 then none
  else if yl 16 (tagF mac nonce ad (s.take (s.length - 16))) = s.drop (s.length - 16) then some (crossL enc nonce 1#32 (s.take (s.length - 16))) else none
theorem cross_len (key nonce : Nat → Y) (count : W) (xs : List Y) : (crossL key nonce count xs).length = xs.length := yl_len _ _
theorem seal_len (enc mac nonce : Nat → Y) (ad text : List Y) : (sealL enc mac nonce ad text).length = text.length + 16 := by simp [sealL, cross_len, yl_len]
theorem cr_end {key nonce : Nat → Y} {count : W} {xs : List Y} {j i : Nat} (h : i = min (xs.length - 64 * j) 64) : crT key nonce count xs (64 * j + i) = crT key nonce count xs (64 * (j + 1)) := by
  unfold crT
  refine yl_congr fun q hq => ?_
  by_cases h1 : q < 64 * j + i
  · rw [if_pos h1, if_pos (by omega)]
  · rw [if_neg h1, if_neg (by omega)]
theorem cut_oa {b o lo cap : Nat} (h : lo < cap) {q : Nat} (hq : q = o + lo) : (Sh.cut ⟨some ⟨b, o, none⟩, cap⟩ lo 1).oa = some ⟨b, q, none⟩ := by
  subst hq
  unfold Sh.cut
  rw [if_neg (by show ¬ cap = lo; omega)]
  simp [add_lit]
theorem open_short {enc mac nonce : Nat → Y} {ad s : List Y} (h : s.length < 16) : openL enc mac nonce ad s = none := by unfold openL; rw [if_pos h]
theorem open_bad {enc mac nonce : Nat → Y} {ad s : List Y} (h : 16 ≤ s.length) (hn : ¬ yl 16 (tagF mac nonce ad (s.take (s.length - 16))) = s.drop (s.length - 16)) : openL enc mac nonce ad s = none := by
  unfold openL; rw [if_neg (by omega), if_neg hn]
theorem open_good {enc mac nonce : Nat → Y} {ad s : List Y} (h : 16 ≤ s.length) (hn : yl 16 (tagF mac nonce ad (s.take (s.length - 16))) = s.drop (s.length - 16)) : openL enc mac nonce ad s = some (crossL enc nonce 1#32 (s.take (s.length - 16))) := by
  unfold openL; rw [if_neg (by omega), if_pos hn]
theorem cross_cross (key nonce : Nat → Y) (count : W) (xs : List Y) : crossL key nonce count (crossL key nonce count xs) = xs := by
  conv => rhs; rw [← yl_self xs]
  rw [crossL, cross_len]
  refine yl_congr fun i hi => ?_
  unfold crF
  rw [show (crossL key nonce count xs).getD i 0 = crF key nonce count xs i from yl_at hi]
  unfold crF
  rw [BitVec.xor_assoc, BitVec.xor_self, BitVec.xor_zero]
theorem open_seal (enc mac nonce : Nat → Y) (ad text : List Y) : openL enc mac nonce ad (sealL enc mac nonce ad text) = some text := by
  have hl := seal_len enc mac nonce ad text
  have hc := cross_len enc nonce 1#32 text
  have ht : (sealL enc mac nonce ad text).take ((sealL enc mac nonce ad text).length - 16) = crossL enc nonce 1#32 text := by
    rw [hl, show text.length + 16 - 16 = (crossL enc nonce 1#32 text).length by omega]; exact List.take_left
  have hd : (sealL enc mac nonce ad text).drop ((sealL enc mac nonce ad text).length - 16) = yl 16 (tagF mac nonce ad (crossL enc nonce 1#32 text)) := by
    rw [hl, show text.length + 16 - 16 = (crossL enc nonce 1#32 text).length by omega]; exact List.drop_left
  rw [open_good (by omega) (by rw [ht, hd]), ht, cross_cross]
theorem seal_open {enc mac nonce : Nat → Y} {ad s L : List Y} (h : openL enc mac nonce ad s = some L) : sealL enc mac nonce ad L = s ∧ 16 ≤ s.length ∧ L.length = s.length - 16 := by
  unfold openL at h
  split at h
  · cases h
  · split at h
    · rename_i h1 h2
      obtain rfl := Option.some.inj h
      refine ⟨?_, by omega, by rw [cross_len, List.length_take]; omega⟩
      rw [sealL, cross_cross, h2, List.take_append_drop]
    · cases h
theorem open_iff {enc mac nonce : Nat → Y} {ad s : List Y} (h : 16 ≤ s.length) : (openL enc mac nonce ad s).isSome = decide (yl 16 (tagF mac nonce ad (s.take (s.length - 16))) = s.drop (s.length - 16)) := by
  by_cases hn : yl 16 (tagF mac nonce ad (s.take (s.length - 16))) = s.drop (s.length - 16)
  · rw [open_good h hn, decide_eq_true hn]; rfl
  · rw [open_bad h hn, decide_eq_false hn]; rfl
/-- what opening answers -/
def OpenR (o : Option (List Y)) (L : List Y) (e : Int) : Prop := (o = some L ∧ e = 0) ∨ (o = none ∧ L = [] ∧ e = 60)
theorem OpenR.ok {o : Option (List Y)} {L : List Y} {e : Int} (h : OpenR o L e) : (e == 0) = o.isSome := by
  rcases h with ⟨rfl, rfl⟩ | ⟨rfl, _, rfl⟩ <;> rfl
theorem OpenR.some {L L' : List Y} {e : Int} (h : OpenR (some L') L e) : L = L' ∧ e = 0 := by
  rcases h with ⟨h, rfl⟩ | ⟨h, _⟩
  · exact ⟨(Option.some.inj h).symm, rfl⟩
  · cases h
theorem OpenR.none {L : List Y} {e : Int} (h : OpenR none L e) : L = [] ∧ e = 60 := by
  rcases h with ⟨h, _⟩ | ⟨_, h⟩
  · cases h
  · exact h
theorem OpenR.uniq {o : Option (List Y)} {L L' : List Y} {e e' : Int} (h : OpenR o L e) (h' : OpenR o L' e') : L = L' ∧ e = e' := by
  rcases h with ⟨h1, rfl⟩ | ⟨h1, rfl, rfl⟩
  · rw [h1] at h'; obtain ⟨rfl, rfl⟩ := h'.some; exact ⟨rfl, rfl⟩
  · rw [h1] at h'; obtain ⟨rfl, rfl⟩ := h'.none; exact ⟨rfl, rfl⟩
/-- what a text is sealed with, as cells -/
def withC (enc mac nonce : Nat → Y) (va : Value) : List Value := ba 32 enc ++ ba 32 mac ++ (ba 12 nonce ++ [va])
theorem with_k {enc mac nonce : Nat → Y} {va : Value} : ((withC enc mac nonce va).drop 0).take 64 = ba 32 enc ++ ba 32 mac := by
  have : (ba 32 enc ++ ba 32 mac).length = 64 := by simp [ba_len]
  rw [List.drop_zero, withC, ← this, List.take_left]
theorem with_n {enc mac nonce : Nat → Y} {va : Value} : ((withC enc mac nonce va).drop 64).take 12 = ba 12 nonce := by
  have : (ba 32 enc ++ ba 32 mac).length = 64 := by simp [ba_len]
  have h2 : (withC enc mac nonce va).drop 64 = ba 12 nonce ++ [va] := by rw [withC, ← this, List.drop_left]
  rw [h2]
  have h3 : (ba 12 nonce).length = 12 := ba_len _ _
  conv => lhs; rw [← h3]
  exact List.take_left
theorem with_a {enc mac nonce : Nat → Y} {va : Value} : (withC enc mac nonce va)[76]? = Option.some va := by
  have : (ba 32 enc ++ ba 32 mac).length = 64 := by simp [ba_len]
  rw [withC, List.getElem?_append_right (by rw [this]; decide), this, List.getElem?_append_right (by rw [ba_len]; decide), ba_len]; rfl
theorem other_fin {o : Option (List Y)} {L : List Y} {e : Int} {q : Bool} (h : OpenR o L e) (hq : o.isSome = q) : (true && (q == q) && (q || e == 60)) = true := by
  subst hq
  rcases h with ⟨rfl, rfl⟩ | ⟨rfl, _, rfl⟩ <;> rfl
theorem turned_fin {o : Option (List Y)} {q : Bool} {b : Y} (hq : o.isSome = q) (hb : b = 0 → o.isSome = true) : (true && (q == q) && ((b.toNat : Int) != 0 || q)) = true := by
  subst hq
  by_cases h : b = 0
  · rw [hb h]; simp
  · have : (b.toNat : Int) ≠ 0 := fun e => h (BitVec.eq_of_toNat_eq (by simpa using e))
    have h2 : ((b.toNat : Int) != 0) = true := by rw [bne_iff_ne]; exact this
    rw [h2]; simp
theorem turned_same {xs : List Y} {j k : Nat} {z : Y} (hz : z = 0) (hj : j = k) (hk : k < xs.length) : xs.set j (xs.getD k 0 ^^^ z) = xs := by
  subst hz; subst hj
  rw [show xs.getD j 0 ^^^ (0 : Y) = xs.getD j 0 from BitVec.xor_zero]
  refine List.ext_getElem? fun i => ?_
  rw [List.getElem?_set]
  split
  · rename_i e; subst e; simp [hk]
  · rfl
theorem set_same {xs : List Y} {o j : Nat} (h : o + j < xs.length) : xs.set (o + j) (xs.getD (o + j) 0) = xs := by
  refine List.ext_getElem? fun i => ?_
  rw [List.getElem?_set]
  split
  · rename_i e; subst e; simp [h]
  · rfl
theorem yl_snoc (k : Nat) (f : Nat → Y) : yl (k + 1) f = yl k f ++ [f k] := by simp [yl, List.range_succ]
theorem byte_mod (m : BitVec 64) : (m % 256#64).setWidth 8 = m.setWidth 8 := by
  apply BitVec.eq_of_toNat_eq
  simp [BitVec.toNat_setWidth, BitVec.toNat_umod]
theorem div256 (m : BitVec 64) : m / 256#64 = m >>> 8 := by
  apply BitVec.eq_of_toNat_eq
  simp [BitVec.toNat_udiv, BitVec.toNat_ushiftRight, Nat.shiftRight_eq_div_pow]
theorem Sc.arrh {G : PM} {μ μ' : Mem} {b cap m q : Nat} {f : Nat → Y} {T : TypeId} (hm : MTake μ (.blk b (cl (ba m f) T)) μ') (hq : q ≤ m) : Sc G μ (.slice (some ⟨b, 0, none⟩) q cap) (yl q f) :=
  Sc.blk hm (yl_len q f) (by rw [yl_V]; exact ba_take hq)
end Go.Tan

namespace Go.Tan
open Go.RowKit
section
variable {dr : Bool} {mc : Md} {P : Program} {n : Nat} {l : List Oper} {K : Env → PM → Mem → Prop} {i : Nat} {σ : List Nat} {ρ : Env} {G : PM} {μ : Mem}
variable {d t : Nat} {p : String} {af : Array Edge} {g : Option (Nat × Bool)} {c : Bool}
/-- 'append(xs, ys...)' where xs may only be read: there is no room, so the row is new -/
theorem apF {T E b o m cap : Nat} {x y : Operand} {u : Value} {xs ys : List Y} (hdf : mc.a = false ∨ dr = false) (ho : nth l i = some ⟨some d, .call { callee := .builtin .append, args := #[x, y], argTypes := #[T, T] }, t, p, af, none⟩)
    (hT : slE P T = some (E, 1, 1)) (hz : (P.info? E).bind (·.zero) = some (.int .u8 0)) (hx : Ev ρ true x (.slice (some ⟨b, o, none⟩) m cap)) (hy : Ev ρ true y u) (hold : SlR G 1 encY ⟨some ⟨b, o, none⟩, cap⟩ xs) (hm : xs.length = m) (hs : Sc G μ u ys) (h0 : 0 < ys.length) (hg : cap < m + ys.length) (hb : xs.length + ys.length ≤ 140737488355328)
    (h : ∀ v' L, v'.oneCell' = true → L = xs ++ ys → Wo dr mc P n l K σ ((d, true, v') :: ρ) G (rB v' E L :: μ)) : Wo dr mc P n l K (i :: σ) ρ G μ := by
  subst hm
  obtain ⟨oa, cp, rfl, hr⟩ := hs.ex
  clear hs
  obtain ⟨b2, o2, rfl, hrd⟩ := hr h0
  refine .act (μ₁ := []) (μ₂ := μ) (post := fun G' μ' v' => G' = G ∧ v'.oneCell' = true ∧ μ' = [rB v' E (xs ++ ys)]) ho (by rcases hdf with h | h <;> simp [kindOf, h]) .no (.refl _) (fun a w ha hs => .inl ?_) ?_
  · obtain ⟨hu, inf, hi, hs1, hb1⟩ := slE_some hT
    have hz' := hz
    rw [hi] at hz'
    simp only [Option.bind_some] at hz'
    have hnews : ∀ j u, (ys.map V)[j]? = some u → w.cell? ((⟨b2, o2, none⟩ : Addr).add j) = some u := fun j u hj => by rw [add_lit]; exact hrd j u hj w hs
    have holds : ∀ j u, (xs.map V)[j]? = some u → w.cell? ((⟨b, o, none⟩ : Addr).add j) = some u := fun j u hj => by
      rw [add_lit]
      have h1 := SlR.flat (enc := encY) (fun _ _ => rfl) hold
      rw [flat_V] at h1
      exact h1 j u hj w hs.sub
    have hrun := run_append_grow (P := P) w T t E inf _ hu hi hz' ⟨b, o, none⟩ xs.length cap (xs.map V) (by rw [hs1]; simp) holds ⟨b2, o2, none⟩ ys.length cp (ys.map V) (by rw [hs1]; simp) hnews (by omega) (by omega) (growslice_fits (by omega) (by rw [hb1]; omega))
    have h2 := ((Tr.begin (Sat.left (μ := []) hs)).drew).alloc (.cells ((xs.map V).toArray ++ (ys.map V).toArray ++ Builtin.zeroCells (Value.int .u8 0).cells (grownCap w (xs.length + ys.length) cap E - (xs.length + ys.length))) E)
    have hge := grownCap_ge w (xs.length + ys.length) cap E
    have h3 := h2.asRow (m := xs.length + ys.length) (cap := grownCap w (xs.length + ys.length) cap E) (sz := 1) (xs := (xs ++ ys).map V) (by simp) hge (grownCap_le_maxLen w (xs.length + ys.length) cap E (by unfold maxLen; omega)) (by
      simp only [Array.size_append, List.size_toArray, size_zeroCells, List.length_map]
      have : (Value.int .u8 0).cells.size = 1 := rfl
      rw [this]; omega) (by rw [Array.toList_append, Array.toList_append, List.map_append]; exact List.take_left' (by simp))
    refine ⟨_, _, G, _, .inl (by simp [execOp, resolve, invoke, builtin, hx.eval ha rfl, hy.eval ha rfl, hrun]; rfl), h3, rfl, rfl, ?_⟩
    simp [rB]
  · rintro v' G' μ'' _ ⟨rfl, h1, rfl⟩
    exact h v' _ h1 rfl
/-- a literal of bytes becomes a row -/
theorem wk_br {X : Cx} {cd : Code} {k : List KI} {b E : Nat} {cs : List Value} {μ' : Mem} (xs : List Y) (m : Nat) (hm : MTake μ (.blk b (cl cs E)) μ') (hx : cs = xs.map V) (hl : xs.length = m) (hb : m ≤ 140737488355328)
    (h : Wk X cd k ρ G (rB (.slice (some ⟨b, 0, none⟩) m m) E xs :: μ')) : Wk X cd k ρ G μ :=
  ⟨fun a w ha ht => by
    subst hl; subst hx
    exact h.out a w ha ((ht.perm hm.perm).asRow (sz := 1) (by simp) (Nat.le_refl _) (by unfold maxLen; omega) (by simp) (by rw [Nat.mul_one]; exact List.take_of_length_le (by simp)))⟩
/-- 'xs[:hi:hi]' -/
theorem kM {α : Type} {enc : α → List Value} {T e sz by' : Nat} {x y z : Operand} {s : Sh} {xs : List α} (hi : Nat) (ho : nth l i = some ⟨some d, .slice T x none (some y) (some z), t, p, af, none⟩) (hT : slE P T = some (e, sz, by')) (hs : SlR G sz enc s xs)
    (hx : Ev ρ true x (s.val xs.length)) (hy : Ev ρ true y (.int .i64 hi)) (hz : Ev ρ true z (.int .i64 hi)) (h1 : hi ≤ xs.length)
    (h : ∀ s' L, L = xs.take hi → L.length = hi → SlR G sz enc s' L → Wo dr mc P n l K σ ((d, true, s'.val L.length) :: ρ) G μ) : Wo dr mc P n l K (i :: σ) ρ G μ := by
  have hl : (xs.take hi).length = hi := by simp; omega
  have htake : SlR G sz enc ⟨s.oa, hi⟩ (xs.take hi) := by
    refine ⟨fun hne => hs.there (fun e => hne (by rw [e]; simp)), by rw [hl]; exact Nat.le_refl _, fun j u hj => ?_⟩
    rw [List.getElem?_take] at hj
    split at hj
    · exact hs.rd j u hj
    · cases hj
  have h2 := h _ _ rfl hl htake
  rw [hl] at h2
  refine .pure ho (.inl rfl) .no (fun hc a w ha => ?_) h2
  obtain ⟨hu, inf, hi', rfl, rfl⟩ := slE_some hT
  have hx' := hx.eval ha hc
  simp only [Sh.val] at hx'
  have e3 := hs.le
  have hid : ∀ oa : Option Addr, oa.map (fun a => a.add 0) = oa := fun oa => by cases oa <;> simp [add_zero']
  have e4 : hi ≤ s.cap := by omega
  simp [execOp, hx', hy.eval ha hc, hz.eval ha hc, Instr.sliceAt, run_underlying hu, Instr.slice, Instr.sliceBounds, Instr.sliceBound, asIntOf, e4, sizeOf, typeInfo, hi', Sh.val, hid]
theorem mAq {T T' : TypeId} {x y : Operand} {k : IntKind} {a1 a2 : Int} (q : Int) (ho : nth l i = some ⟨some d, .call { callee := .builtin .max, args := #[x, y], argTypes := #[T, T'] }, t, p, af, none⟩) (hx : Ev ρ true x (.int k a1)) (hy : Ev ρ true y (.int k a2)) (he : (if a2 > a1 then a2 else a1) = q)
    (h : Wo dr mc P n l K σ ((d, true, .int k q) :: ρ) G μ) : Wo dr mc P n l K (i :: σ) ρ G μ := mA ho .no hx hy (by rw [he]; exact h)
theorem Ct.lendK {f : FuncId} {args : Array Value} {b : Nat} {o : Obj} {Q : Mem → Value → Prop} (h : PM.le G (G.add b o) → Ct P f args (G.add b o) μ (fun _ μ' u => Q μ' u)) : Ct P f args G (.blk b o :: μ) (fun _ μ' u => ∃ ν, μ' = .blk b o :: ν ∧ Q ν u) := by
  intro w hs
  exact Ct.lend (h (PM.le_add (hs.apart b (by simp [keys, Res.keys])))) w hs
theorem Sh.val_inj {s s' : Sh} {m : Nat} (h : s.val m = s'.val m) : s = s' := by
  cases s; cases s'; simp only [Sh.val, Value.slice.injEq, true_and] at h; rw [h.1, h.2]
end
end Go.Tan

namespace Go.Tan
open Go.RowKit
section
variable {dr : Bool} {mc : Md} {P : Program} {n : Nat} {l : List Oper} {K : Env → PM → Mem → Prop} {i : Nat} {σ : List Nat} {ρ : Env} {G : PM} {μ : Mem}
variable {d t : Nat} {p : String} {af : Array Edge} {g : Option (Nat × Bool)} {c : Bool}
theorem run_eqn {T m : Nat} {s : Sh} (hT : (slE P T).isSome = true) (w : World) : (Op.equal T (s.val m) (.slice none 0 0)).run P w = .ok s.oa.isNone w := by
  unfold slE at hT
  split at hT
  · rename_i e hu
    unfold Op.equal
    rw [show Op.maxDepth = 9999 + 1 from rfl, Op.equalIn]
    obtain ⟨oa, cap⟩ := s
    cases oa <;> simp [run_underlying hu, Sh.val]
  · cases hT
/-- 'xs == nil' -/
theorem sn0 {T T' m : Nat} {x y : Operand} {s : Sh} (ho : nth l i = some ⟨some d, .binOp .eql T x y T', t, p, af, g⟩) (hg : Gd l ρ g c) (hT : (slE P T).isSome = true) (hx : Ev ρ c x (s.val m)) (hy : Ev ρ c y (.slice none 0 0)) (h : Wo dr mc P n l K σ ((d, c, .bool s.oa.isNone) :: ρ) G μ) : Wo dr mc P n l K (i :: σ) ρ G μ :=
  .pure ho (.inl rfl) hg (fun hc q w ha => by
    have hq : (eqGuard .eql T x y (s.val m) (.slice none 0 0)).run P w = .ok () w := by unfold eqGuard; simp [Sh.val]
    have hb : (binOp .eql T (s.val m) (.slice none 0 0)).run P w = .ok (.bool s.oa.isNone) w := by
      have := run_eqn (P := P) (s := s) (m := m) hT w
      simp only [Sh.val] at this ⊢
      simp [binOp, this]
    simp [execOp, hx.eval ha hc, hy.eval ha hc, hq, hb]) h
/-- 'xs != nil' -/
theorem sn1 {T T' m : Nat} {x y : Operand} {s : Sh} (ho : nth l i = some ⟨some d, .binOp .neq T x y T', t, p, af, g⟩) (hg : Gd l ρ g c) (hT : (slE P T).isSome = true) (hx : Ev ρ c x (s.val m)) (hy : Ev ρ c y (.slice none 0 0)) (h : Wo dr mc P n l K σ ((d, c, .bool (!s.oa.isNone)) :: ρ) G μ) : Wo dr mc P n l K (i :: σ) ρ G μ :=
  .pure ho (.inl rfl) hg (fun hc q w ha => by
    have hq : (eqGuard .neq T x y (s.val m) (.slice none 0 0)).run P w = .ok () w := by unfold eqGuard; simp [Sh.val]
    have hb : (binOp .neq T (s.val m) (.slice none 0 0)).run P w = .ok (.bool (!s.oa.isNone)) w := by
      have := run_eqn (P := P) (s := s) (m := m) hT w
      simp only [Sh.val] at this ⊢
      simp [binOp, this]
    simp [execOp, hx.eval ha hc, hy.eval ha hc, hq, hb]) h
/-- bytes one above the other -/
theorem or8 {a b : Nat} (h1 : a < 256) (h2 : b < 256) : BitVec.ofInt 64 (a : Int) ||| BitVec.ofInt 64 ((256 * b : Nat) : Int) = BitVec.ofNat 64 (a + 256 * b) := by
  have e1 : BitVec.ofInt 64 (a : Int) = BitVec.ofNat 64 a := by simp
  have e2 : BitVec.ofInt 64 ((256 * b : Nat) : Int) = BitVec.ofNat 64 (256 * b) := BitVec.ofInt_natCast ..
  rw [e1, e2]
  apply BitVec.eq_of_toNat_eq
  rw [BitVec.toNat_or, BitVec.toNat_ofNat, BitVec.toNat_ofNat, BitVec.toNat_ofNat, Nat.mod_eq_of_lt (by omega), Nat.mod_eq_of_lt (by omega), Nat.mod_eq_of_lt (by omega)]
  have := Nat.two_pow_add_eq_or_of_lt (i := 8) (b := a) (by omega) b
  rw [show (2 : Nat) ^ 8 = 256 from rfl] at this
  rw [show a ||| 256 * b = 256 * b ||| a from Nat.or_comm _ _, ← this, Nat.add_comm]
theorem or8r {T T' : Nat} {x y : Operand} {a1 a2 : Int} (a b : Nat) (ho : nth l i = some ⟨some d, .binOp .or T x y T', t, p, af, g⟩) (hg : Gd l ρ g c) (hx : Ev ρ c x (.int .i64 a1)) (hy : Ev ρ c y (.int .i64 a2)) (e1 : c = true → a1 = a) (e2 : c = true → a2 = (256 * b : Nat)) (h1 : a < 256) (h2 : b < 256)
    (h : Wo dr mc P n l K σ ((d, c, .int .i64 ((a + 256 * b : Nat) : Int)) :: ρ) G μ) : Wo dr mc P n l K (i :: σ) ρ G μ :=
  .pure ho (.inl rfl) hg (fun hc q w ha => by
    have e1' := e1 hc; have e2' := e2 hc
    subst e1'; subst e2'
    have hb : (binOp .or T (.int .i64 (a : Int)) (.int .i64 ((256 * b : Nat) : Int))).run P w = .ok (.int .i64 ((a + 256 * b : Nat) : Int)) w := by
      have h3 := or8 h1 h2
      have h4 : IntKind.i64.wrap ((BitVec.ofNat 64 (a + 256 * b)).toNat : Int) = ((a + 256 * b : Nat) : Int) := by
        rw [BitVec.toNat_ofNat, Nat.mod_eq_of_lt (by omega)]
        exact wrap_i64 (by omega) (by omega)
      have h5 : (Op.intBits .or .i64 (a : Int) ((256 * b : Nat) : Int)) = pure (.int .i64 (IntKind.i64.wrap ((BitVec.ofInt 64 (a : Int) ||| BitVec.ofInt 64 ((256 * b : Nat) : Int)).toNat : Int))) := rfl
      have h6 : binOp .or T (.int .i64 (a : Int)) (.int .i64 ((256 * b : Nat) : Int)) = Op.intBits .or .i64 (a : Int) ((256 * b : Nat) : Int) := rfl
      rw [h6, h5, h3, h4]; rfl
    simp only [execOp, hx.eval ha hc, hy.eval ha hc, Sem.run_bind, eqGuard_int, Result.andThen_ok, hb]; rfl) h
/-! ## 'copy' -/
theorem RdN.take {b o : Nat} {cs : List Value} (h : RdN G μ b o cs) (q : Nat) : RdN G μ b o (cs.take q) := fun j v hj => by
  rw [List.getElem?_take] at hj
  split at hj
  · exact h j v hj
  · cases hj
theorem splice_take {A C : List Value} {o m : Nat} (h1 : o + C.length ≤ m) (h2 : m ≤ A.length) : (A.take o ++ C ++ A.drop (o + C.length)).take m = (A.take m).take o ++ C ++ (A.take m).drop (o + C.length) := by
  have hl : (A.take o ++ C).length = o + C.length := by rw [List.length_append, List.length_take]; omega
  rw [List.take_append, List.take_of_length_le (by omega), hl, List.take_take, Nat.min_eq_left (by omega), List.drop_take]
/-- into a row of one's own, from a place on -/
theorem cpY {T E b o m cap m2 cap2 : Nat} {x y : Operand} {u : Value} {xs ys : List Y} {μ' : Mem} (ho : nth l i = some ⟨some d, .call { callee := .builtin .copy, args := #[x, y], argTypes := #[T, T] }, t, p, af, none⟩)
    (hT : slE P T = some (E, 1, 1)) (hx : Ev ρ true x (.slice (some ⟨b, o, none⟩) m2 cap2)) (hy : Ev ρ true y u) (hm : MTake μ (rB (.slice (some ⟨b, 0, none⟩) m cap) E xs) μ') (hsc : Sc G μ u ys) (ho2 : o + m2 = xs.length) (hfit : ys.length ≤ m2)
    (h : ∀ L, L = xs.take o ++ ys ++ xs.drop (o + ys.length) → L.length = xs.length → Wo dr mc P n l K σ ((d, true, .int .i64 (ys.length : Int)) :: ρ) G (rB (.slice (some ⟨b, 0, none⟩) m cap) E L :: μ')) : Wo dr mc P n l K (i :: σ) ρ G μ := by
  obtain ⟨oa, cap3, rfl, hr⟩ := hsc.ex
  refine .act (μ₁ := [rB (.slice (some ⟨b, 0, none⟩) m cap) E xs]) (μ₂ := μ') (post := fun G' μ' v => G' = G ∧ μ' = [rB (.slice (some ⟨b, 0, none⟩) m cap) E (xs.take o ++ ys ++ xs.drop (o + ys.length))] ∧ v = .int .i64 (ys.length : Int)) ho (.inl rfl) .no hm.perm (fun a w ha hs => .inl ?_) ?_
  · have hs' := hs.left
    have hrow : w.ownsRow 0 E 1 (.slice (some ⟨b, 0, none⟩) m cap) xs.length (xs.map V) := hs'.own _ (List.mem_singleton.2 rfl)
    obtain ⟨hu, inf, hi, hs1, hb1⟩ := slE_some hT
    rcases hrow.2 with ⟨e, _⟩ | ⟨g, cap', cur, e, _, hg, hnc, hcm, hcs, htake⟩
    · cases e
    · simp only [Value.slice.injEq, Option.some.injEq, Addr.mk.injEq, and_true, true_and] at e
      obtain ⟨rfl, rfl, rfl⟩ := e
      have hk : keys [rB (.slice (some ⟨b, 0, none⟩) xs.length cap) E xs] = [b] := by simp [keys, Res.keys, Value.ownBlock]
      have hsat : Sat G [.blk b (.cells cur E (0, 0))] w := ⟨hs'.sub, fun r hr => by rw [List.mem_singleton.1 hr]; exact hg, fun c hc => hs'.apart c (by simpa [keys, Res.keys, Value.ownBlock] using hc), by simp [keys, Res.keys]⟩
      simp only [Nat.mul_one] at hcs htake
      by_cases h0 : ys.length = 0
      · obtain rfl : ys = [] := List.eq_nil_of_length_eq_zero h0
        have e1 : xs.take o ++ [] ++ xs.drop (o + ([] : List Y).length) = xs := by simp
        rw [e1]
        refine ⟨_, w, G, _, .inl ?_, Tr.begin hs', rfl, rfl, rfl⟩
        have hz : (P.info? E).map (·.size) = some 1 := by rw [hi]; simp [hs1]
        cases oa with
        | none => simp [execOp, resolve, invoke, builtin, hx.eval ha rfl, hy.eval ha rfl, Builtin.copy_, run_underlying hu, Builtin.lenOf, Builtin.firstCells, sizeOf, typeInfo, hi, storeCells, goInt]
        | some a0 => simp [execOp, resolve, invoke, builtin, hx.eval ha rfl, hy.eval ha rfl, Builtin.copy_, run_underlying hu, Builtin.lenOf, Builtin.firstCells, sizeOf, typeInfo, hi, storeCells, goInt, loadCells, loadCellsFrom]
      · obtain ⟨b0, o0, rfl, hrd⟩ := hr (by omega)
        have hsat0 : Sat G μ w := hs.perm hm.perm.symm
        have hrun := run_copy_row (P := P) w T T t E b o m2 cap2 ⟨b0, o0, none⟩ ys.length cap3 cur E (ys.map V) hu (by rw [hi]; simp [hs1]) hg (by rw [List.length_map]; exact (Nat.min_eq_left hfit).symm)
          (fun j v hj => by rw [add_lit]; exact hrd j v hj w hsat0) (by rw [List.length_map, hcs]; omega) (one_V ys)
        rw [List.length_map] at hrun
        have h2 := (Tr.setArr (cs' := (cur.toList.take o ++ ys.map V ++ cur.toList.drop (o + ys.length)).toArray) hsat).asRow (m := xs.length) (cap := cap) (sz := 1) (xs := (xs.take o ++ ys ++ xs.drop (o + ys.length)).map V) (by simp; omega) hnc hcm ?_ ?_
        · have hl : (xs.take o ++ ys ++ xs.drop (o + ys.length)).length = xs.length := by simp; omega
          refine ⟨_, w.setRow b (cur.toList.take o ++ ys.map V ++ cur.toList.drop (o + ys.length)).toArray, G, [rB (.slice (some ⟨b, 0, none⟩) xs.length cap) E (xs.take o ++ ys ++ xs.drop (o + ys.length))], .inl ?_, ?_, rfl, rfl, rfl⟩
          · simp only [execOp, resolve, invoke, builtin, hx.eval ha rfl, hy.eval ha rfl]
            simp [hx.eval ha rfl, hy.eval ha rfl, hrun, goInt]
          · rw [hk]; simp only [rB, hl]; exact h2
        · simp; omega
        · have hml : (ys.map V).length = ys.length := List.length_map ..
          have := splice_take (A := cur.toList) (C := ys.map V) (o := o) (m := xs.length) (by omega) (by have : cur.toList.length = cur.size := Array.length_toList ..; omega)
          rw [htake, hml] at this
          simp only [Nat.mul_one, List.map_append, List.map_take, List.map_drop]
          exact this
  · rintro v G' μ'' _ ⟨rfl, rfl, rfl⟩
    exact h _ rfl (by simp; omega)
theorem keys_k {r r' : Res} {μ1 ν : Mem} (h : MTake μ r' μ1) (e : r'.keys = r.keys) (hs : ∀ b ∈ keys ν, b ∈ keys μ1) : ∀ b ∈ keys (r :: ν), b ∈ keys μ := by
  intro b hb
  have h1 : b ∈ r.keys ++ keys ν := by simpa [keys] using hb
  refine (keys_perm h.perm).mem_iff.2 ?_
  show b ∈ keys (r' :: μ1)
  have h2 : b ∈ r'.keys ++ keys μ1 := by
    rcases List.mem_append.1 h1 with h1 | h1
    · exact List.mem_append_left _ (by rw [e]; exact h1)
    · exact List.mem_append_right _ (hs b h1)
  simpa [keys] using h2
theorem keys_0 : ∀ b ∈ keys [], b ∈ keys μ := fun b hb => by cases hb
/-! ## Rows of elements -/
/-- a row of one's own, its elements so many cells each -/
abbrev rS {α : Type} (sz : Nat) (enc : α → List Value) (v : Value) (E : Nat) (xs : List α) : Res := .row v E sz xs.length (xs.flatMap enc)
/-- one more element -/
theorem apS {α : Type} {enc : α → List Value} {sz T E by' b cp : Nat} {x y : Operand} {v z : Value} {xs : List α} {μ' μ2 : Mem} (a : α) (ho : nth l i = some ⟨some d, .call { callee := .builtin .append, args := #[x, y], argTypes := #[T, T] }, t, p, af, none⟩)
    (hT : slE P T = some (E, sz, by')) (hz : (P.info? E).bind (·.zero) = some z) (hzs : z.cells.size = sz) (hx : Ev ρ true x v) (hy : Ev ρ true y (.slice (some ⟨b, 0, none⟩) 1 cp)) (hm : MTake μ (rS sz enc v E xs) μ') (hb : MTake μ (.blk b (cl (enc a) E)) μ2) (ha : (enc a).length = sz) (h1 : ∀ u ∈ enc a, u.oneCell' = true) (hl : (xs.length + 1) * by' ≤ 140737488355328) (hl2 : xs.length + 1 ≤ maxLen)
    (h : ∀ v', v'.oneCell' = true → Wo dr mc P n l K σ ((d, true, v') :: ρ) G (rS sz enc v' E (xs ++ [a]) :: μ')) (hmc : mc.a = false ∨ dr = false := by first | exact .inl rfl | exact .inr rfl) : Wo dr mc P n l K (i :: σ) ρ G μ := by
  refine .act (μ₁ := [rS sz enc v E xs]) (μ₂ := μ') (post := fun G' μ' v' => G' = G ∧ v'.oneCell' = true ∧ μ' = [rS sz enc v' E (xs ++ [a])]) ho (by rcases hmc with h | h <;> simp [kindOf, h]) .no hm.perm (fun q w hq hs => .inl ?_) ?_
  · obtain ⟨v', w', hrun, ht⟩ := run_ap (ty := t) (cp := cp) (news := enc a) (k := 1) (oa := some ⟨b, 0, none⟩) hT hz hzs hs.left (by rw [ha]; omega) (fun _ => ⟨b, 0, rfl, fun j u hj => (RdN.own hb) j u hj w (hs.perm hm.perm.symm)⟩) h1 hl hl2
    refine ⟨v', w', G, [rS sz enc v' E (xs ++ [a])], .inl (by simp [execOp, resolve, invoke, builtin, hx.eval hq rfl, hy.eval hq rfl, hrun]), ?_, rfl, ht.sat.rowOne, rfl⟩
    simp only [rS, List.length_append, List.flatMap_append, List.flatMap_cons, List.flatMap_nil, List.append_nil]; exact ht
  · rintro v' G' μ'' _ ⟨rfl, h1, rfl⟩
    exact h v' h1
/-- it becomes memory that stays -/
theorem Tr.frzS {α : Type} {enc : α → List Value} {sz : Nat} {G0 : PM} {K0 : List Nat} {w0 w : World} {E : Nat} {v : Value} {xs : List α} (hsz : ∀ x ∈ xs, (enc x).length = sz) (h : Tr G0 K0 w0 G (rS sz enc v E xs :: μ) w) (hK : ∀ b ∈ K0, b ∈ keys μ) :
    ∃ G' s, PM.le G G' ∧ v = Sh.val s xs.length ∧ SlR G' sz enc s xs ∧ Tr G0 K0 w0 G' μ w := by
  obtain ⟨G', s, h1, h2, h3, h4, h5, h6⟩ := h.freezeRow hK
  exact ⟨G', s, h1, h2, SlR.ofRow hsz h3 h4 h5, h6⟩
theorem we_fs {α : Type} {enc : α → List Value} {sz : Nat} {X : Cx} {e : Exit} {k : List KI} {E : Nat} {v : Value} {xs : List α} {μ' : Mem} (hm : MTake μ (rS sz enc v E xs) μ') (hsz : ∀ x ∈ xs, (enc x).length = sz) (hK : ∀ b ∈ X.K0, b ∈ keys μ') (h : ∀ G' s, PM.le G G' → v = Sh.val s xs.length → SlR G' sz enc s xs → We X e k ρ G' μ') : We X e k ρ G μ :=
  ⟨fun a w ha ht => by
    obtain ⟨G', s, h1, h2, h3, h4⟩ := (ht.perm hm.perm).frzS hsz hK
    exact (h G' s h1 h2 h3).out a w ha h4⟩
theorem wk_fs {α : Type} {enc : α → List Value} {sz : Nat} {X : Cx} {cd : Code} {k : List KI} {E : Nat} {v : Value} {xs : List α} {μ' : Mem} (hm : MTake μ (rS sz enc v E xs) μ') (hsz : ∀ x ∈ xs, (enc x).length = sz) (hK : ∀ b ∈ X.K0, b ∈ keys μ') (h : ∀ G' s, PM.le G G' → v = Sh.val s xs.length → SlR G' sz enc s xs → Wk X cd k ρ G' μ') : Wk X cd k ρ G μ :=
  ⟨fun a w ha ht => by
    obtain ⟨G', s, h1, h2, h3, h4⟩ := (ht.perm hm.perm).frzS hsz hK
    exact (h G' s h1 h2 h3).out a w ha h4⟩
theorem wk_nilS {α : Type} (sz : Nat) (enc : α → List Value) {X : Cx} {cd : Code} {k : List KI} (E : Nat) (h : Wk X cd k ρ G (rS sz enc (.slice none 0 0) E [] :: μ)) : Wk X cd k ρ G μ := wk_nilRow E sz h
theorem we_nilS {α : Type} (sz : Nat) (enc : α → List Value) {X : Cx} {e : Exit} {k : List KI} (E : Nat) (h : We X e k ρ G (rS sz enc (.slice none 0 0) E [] :: μ)) : We X e k ρ G μ := we_nilRow E sz h
/-- numbers -/
def encN (n : Nat) : List Value := [.int .i64 (n : Int)]
/-- slices that stay -/
structure AllS (G : PM) (ps : List (Sh × List Y)) : Prop where
  all : ∀ p ∈ ps, SlR G 1 encY p.1 p.2
theorem AllS.mono {G G' : PM} {ps : List (Sh × List Y)} (h : AllS G ps) (hle : PM.le G G') : AllS G' ps := ⟨fun p hp => (h.all p hp).mono hle⟩
theorem AllS.nil {G : PM} : AllS G [] := ⟨fun p hp => by cases hp⟩
theorem AllS.snoc {G : PM} {ps : List (Sh × List Y)} {s : Sh} {L : List Y} (h : AllS G ps) (hs : SlR G 1 encY s L) : AllS G (ps ++ [(s, L)]) := ⟨fun p hp => by
  rcases List.mem_append.1 hp with hp | hp
  · exact h.all p hp
  · rw [List.mem_singleton.1 hp]; exact hs⟩
theorem SlP.of {G : PM} {s : Sh} {ps : List (Sh × List Y)} (h : SlR G 1 encP s ps) (hA : AllS G ps) : SlP G s ps := ⟨h, hA.all⟩
theorem SlP.nul {G : PM} : SlP G ⟨Option.none, 0⟩ [] := ⟨SlR.nul, fun p hp => by cases hp⟩
theorem SlP.take {G : PM} {s s' : Sh} {ps L : List (Sh × List Y)} {k : Nat} (h : SlP G s ps) (e : L = ps.take k) (hs : SlR G 1 encP s' L) : SlP G s' L := ⟨hs, fun p hp => h.all p (by rw [e] at hp; exact List.mem_of_mem_take hp)⟩
/-- 'xs[lo:]' of a row of one's own -/
theorem slr {T e sz by' b m cap : Nat} {x y : Operand} {k : IntKind} {lo : Int} (q : Nat) (ho : nth l i = some ⟨some d, .slice T x (some y) none none, t, p, af, none⟩) (hT : slE P T = some (e, sz, by')) (hx : Ev ρ true x (.slice (some ⟨b, 0, none⟩) m cap)) (hy : Ev ρ true y (.int k lo))
    (hq : lo = q) (h1 : q ≤ m) (h2 : m ≤ cap) (h3 : q < cap) (h : Wo dr mc P n l K σ ((d, true, .slice (some ⟨b, q * sz, none⟩) (m - q) (cap - q)) :: ρ) G μ) : Wo dr mc P n l K (i :: σ) ρ G μ :=
  .pure ho (.inl rfl) .no (fun _ a w ha => by
    obtain ⟨hu, inf, hi, rfl, rfl⟩ := slE_some hT
    subst hq
    have hx' := hx.eval ha rfl
    have hn : ¬ cap = q := by omega
    simp [execOp, hx', hy.eval ha rfl, Instr.sliceAt, run_underlying hu, Instr.slice, Instr.sliceBounds, Instr.sliceBound, asIntOf, sizeOf, typeInfo, hi, h1, h2, hn, add_lit]) h
/-- a great word as a number -/
theorem cnb {S D : TypeId} {x : Operand} {k : IntKind} {a : BitVec k.bits} (ho : nth l i = some ⟨some d, .convert S D x, t, p, af, g⟩) (hg : Gd l ρ g c) (hk : cvK P S D = some .i64) (hx : Ev ρ c x (uv k a)) (hb : c = true → a.toNat ≤ 9223372036854775807)
    (h : ∀ m : Nat, m = a.toNat → Wo dr mc P n l K σ ((d, c, .int .i64 (m : Int)) :: ρ) G μ) : Wo dr mc P n l K (i :: σ) ρ G μ :=
  cw ho hg hk hx (fun hc => wrap_i64 (by omega) (by have := hb hc; omega)) (h a.toNat rfl)
/-- 'append(xs, ys...)' of what may be read -/
theorem apL {α : Type} {enc : α → List Value} {sz T E by' : Nat} {x y : Operand} {v z : Value} {s : Sh} {xs ys : List α} {μ' : Mem} (ho : nth l i = some ⟨some d, .call { callee := .builtin .append, args := #[x, y], argTypes := #[T, T] }, t, p, af, none⟩)
    (hT : slE P T = some (E, sz, by')) (hz : (P.info? E).bind (·.zero) = some z) (hzs : z.cells.size = sz) (hx : Ev ρ true x v) (hy : Ev ρ true y (s.val ys.length)) (hm : MTake μ (rS sz enc v E xs) μ') (hs : SlR G sz enc s ys) (hsz : ∀ a ∈ ys, (enc a).length = sz) (h1 : ∀ u ∈ ys.flatMap enc, u.oneCell' = true) (hl : (xs.length + ys.length) * by' ≤ 140737488355328) (hl2 : xs.length + ys.length ≤ maxLen)
    (h : ∀ v', v'.oneCell' = true → Wo dr mc P n l K σ ((d, true, v') :: ρ) G (rS sz enc v' E (xs ++ ys) :: μ')) (hmc : mc.a = false ∨ dr = false := by first | exact .inl rfl | exact .inr rfl) : Wo dr mc P n l K (i :: σ) ρ G μ := by
  refine .act (μ₁ := [rS sz enc v E xs]) (μ₂ := μ') (post := fun G' μ' v' => G' = G ∧ v'.oneCell' = true ∧ μ' = [rS sz enc v' E (xs ++ ys)]) ho (by rcases hmc with h | h <;> simp [kindOf, h]) .no hm.perm (fun q w hq hs' => .inl ?_) ?_
  · obtain ⟨v', w', hrun, ht⟩ := run_ap (ty := t) (cp := s.cap) (news := ys.flatMap enc) (k := ys.length) (oa := s.oa) hT hz hzs hs'.left (flat_len hsz) (fun h0 => ⟨s.b, s.o, hs.nn h0, fun j u hj => ((SlR.flat hsz hs).rd (μ := μ)) j u hj w (hs'.perm hm.perm.symm)⟩) h1 hl hl2
    refine ⟨v', w', G, [rS sz enc v' E (xs ++ ys)], .inl ?_, ?_, rfl, ht.sat.rowOne, rfl⟩
    · have hy' := hy.eval hq rfl
      simp only [Sh.val] at hy'
      simp [execOp, resolve, invoke, builtin, hx.eval hq rfl, hy', hrun]
    · simp only [rS, List.length_append, List.flatMap_append]; exact ht
  · rintro v' G' μ'' _ ⟨rfl, h1, rfl⟩
    exact h v' h1
theorem SlR.tk {α : Type} {G : PM} {sz : Nat} {enc : α → List Value} {s : Sh} {xs : List α} (h : SlR G sz enc s xs) (k : Nat) : SlR G sz enc s (xs.take k) := by
  refine ⟨fun hne => h.there (fun e => hne (by rw [e, List.take_nil])), by rw [List.length_take]; have := h.le; omega, fun i x hx => ?_⟩
  rw [List.getElem?_take] at hx
  split at hx
  · exact h.rd i x hx
  · cases hx
theorem SlP.tk {G : PM} {s : Sh} {ps : List (Sh × List Y)} (h : SlP G s ps) (k : Nat) : SlP G s (ps.take k) := ⟨h.sl.tk k, fun p hp => h.all p (List.mem_of_mem_take hp)⟩
theorem SlR.n1 {G : PM} {s : Sh} {xs : List Nat} (h : SlR G 1 encN s xs) {j : Int} (k : Nat) {x : Nat} (hj : j.toNat = k) (hx : xs[k]? = some x) : RdP G ⟨s.b, s.o + j.toNat * 1, none⟩ (.int .i64 (x : Int)) := by
  have := (h.nth k hj hx) 0 _ rfl
  simpa using this
theorem encP_one (ps : List (Sh × List Y)) : ∀ u ∈ ps.flatMap encP, u.oneCell' = true := by
  intro u hu
  obtain ⟨q, _, hq⟩ := List.mem_flatMap.1 hu
  rw [encP, List.mem_singleton] at hq
  rw [hq]; rfl
end
end Go.Tan

namespace Go.Tan
open Go.RowKit
inductive CK where
  | int (k : IntKind)
  | str
  | bool
  deriving DecidableEq
def litOf : Value → Lit
  | .int k n => .int k n
  | .string s => .string s.data.toList
  | .bool b => .bool b
  | _ => .bool false
inductive CkOk : CK → Value → Prop where
  | int {k : IntKind} {n : Int} (h1 : k.min ≤ n) (h2 : n ≤ k.max) : CkOk (.int k) (.int k n)
  | str {s : ByteArray} (h : s.size ≤ maxLen) : CkOk .str (.string s)
  | bool {b : Bool} : CkOk .bool (.bool b)
inductive Conf : List CK → List Value → Prop where
  | nil : Conf [] []
  | cons {k v ks cs} (h : CkOk k v) (r : Conf ks cs) : Conf (k :: ks) (v :: cs)
theorem CkOk.u {k : IntKind} (hk : k.signed = false) (x : BitVec k.bits) : CkOk (.int k) (uv k x) := by
  have := x.isLt
  refine .int ?_ ?_
  · rw [min_u hk]; omega
  · rw [max_u hk]
    have h2 : ((2 ^ k.bits : Nat) : Int) = (2 : Int) ^ k.bits := by simp
    omega
theorem Conf.len {ks : List CK} {cs : List Value} (h : Conf ks cs) : cs.length = ks.length := by
  induction h with
  | nil => rfl
  | cons _ _ ih => simp [ih]
theorem Conf.app {ks ks' : List CK} {cs cs' : List Value} (h : Conf ks cs) (h' : Conf ks' cs') : Conf (ks ++ ks') (cs ++ cs') := by
  induction h with
  | nil => exact h'
  | cons h1 _ ih => exact .cons h1 ih
theorem Conf.split {ks ks' : List CK} : ∀ {cs : List Value}, Conf (ks ++ ks') cs → Conf ks (cs.take ks.length) ∧ Conf ks' (cs.drop ks.length) := by
  induction ks with
  | nil => intro cs h; exact ⟨by simpa using Conf.nil, by simpa using h⟩
  | cons k ks ih =>
    intro cs h
    cases h with
    | cons h1 r =>
      obtain ⟨h2, h3⟩ := ih r
      exact ⟨.cons h1 h2, h3⟩
theorem Conf.one {ks : List CK} {cs : List Value} (h : Conf ks cs) : ∀ u ∈ cs, u.oneCell' = true := by
  induction h with
  | nil => intro u hu; cases hu
  | cons h1 _ ih =>
    intro u hu
    rcases List.mem_cons.1 hu with rfl | hu
    · cases h1 <;> rfl
    · exact ih u hu
theorem Conf.inj {ks : List CK} {cs cs' : List Value} (h : Conf ks cs) (h' : Conf ks cs') (e : cs.map litOf = cs'.map litOf) : cs = cs' := by
  induction h generalizing cs' with
  | nil => cases h'; rfl
  | cons h1 _ ih =>
    cases h' with
    | cons h2 r2 =>
      simp only [List.map_cons, List.cons.injEq] at e
      rw [ih r2 e.2]
      congr 1
      cases h1 with
      | int _ _ => cases h2 with | int _ _ => have := e.1; simp only [litOf, Lit.int.injEq, true_and] at this; rw [this]
      | @str s1 _ => cases h2 with
        | @str s2 _ =>
          have := e.1
          simp only [litOf, Lit.string.injEq] at this
          have h3 : s1.data = s2.data := by
            have := congrArg List.toArray this
            simpa using this
          obtain ⟨d1⟩ := s1
          obtain ⟨d2⟩ := s2
          simp only at h3
          rw [h3]
      | bool => cases h2 with | bool => have := e.1; simp only [litOf, Lit.bool.injEq] at this; rw [this]
/-! ### A type's cells, one by one -/
def shpF (P : Program) (f : TypeId → Option (List CK)) : Nat → List Field → Option (List CK)
  | _, [] => some []
  | o, fl :: r => match f fl.type with
    | some ks => if fl.offset = o ∧ P.cellsOf fl.type = ks.length then (shpF P f (o + ks.length) r).map (ks ++ ·) else none
    | none => none
def shp (P : Program) : Nat → TypeId → Option (List CK)
  | 0, _ => none
  | d + 1, t => match P.underlying t with
    | some (.int k) => some [.int k]
    | some .string => some [.str]
    | some .bool => some [.bool]
    | some (.array n e) => match shp P d e with
      | some ks => if P.cellsOf e = ks.length ∧ P.cellsOf t = n * ks.length then some (List.replicate n ks).flatten else none
      | none => none
    | some (.struct fs) => match shpF P (shp P d) 0 fs.toList with
      | some ks => if P.cellsOf t = ks.length ∧ fs.all (·.name != "_") = true then some ks else none
      | none => none
    | _ => none
theorem conf_rep {ks : List CK} : ∀ {n : Nat} {cs : List Value}, Conf (List.replicate n ks).flatten cs → ∀ i, i < n → Conf ks ((cs.drop (i * ks.length)).take ks.length)
  | 0, _, _, i, hi => by omega
  | n + 1, cs, h, i, hi => by
    rw [List.replicate_succ, List.flatten_cons] at h
    obtain ⟨h1, h2⟩ := h.split
    cases i with
    | zero => simpa using h1
    | succ i =>
      have := conf_rep h2 i (by omega)
      rw [List.drop_drop] at this
      rwa [Nat.succ_mul, Nat.add_comm]
theorem chunks {α : Type} {f : Value → α} {L : Nat} : ∀ {n : Nat} {cs : List Value}, cs.length = n * L → ((List.range n).map fun i => ((cs.drop (i * L)).take L).map f).flatten = cs.map f
  | 0, cs, h => by
    obtain rfl : cs = [] := List.eq_nil_of_length_eq_zero (by simpa using h)
    rfl
  | n + 1, cs, h => by
    rw [List.range_succ_eq_map, List.map_cons, List.flatten_cons, List.map_map, Nat.zero_mul, List.drop_zero]
    have h2 := chunks (f := f) (L := L) (n := n) (cs := cs.drop L) (by rw [List.length_drop, h, Nat.succ_mul]; omega)
    have e : (List.map ((fun i => List.map f (List.take L (List.drop (i * L) cs))) ∘ Nat.succ) (List.range n)) = (List.range n).map fun i => (((cs.drop L).drop (i * L)).take L).map f := by
      apply List.map_congr_left
      intro i _
      simp only [Function.comp, List.drop_drop, Nat.succ_mul, Nat.add_comm]
    rw [e, h2, ← List.map_append, List.take_append_drop]
theorem mapM_all {α β : Type} {f : α → Option β} {g : α → β} : ∀ {l : List α}, (∀ x ∈ l, f x = some (g x)) → l.mapM f = some (l.map g)
  | [], _ => by simp
  | x :: l, h => by simp [List.mapM_cons, h x (List.mem_cons_self ..), mapM_all (l := l) fun z hz => h z (List.mem_cons_of_mem _ hz)]
section
variable {P : Program}
theorem conf_fields {d : Nat} (ih : ∀ t ks cs, shp P d t = some ks → Conf ks cs → P.keyLits d t cs = some (cs.map litOf)) : ∀ (fs : List Field) (o : Nat) (ks : List CK) (cs : List Value), shpF P (shp P d) o fs = some ks → Conf ks (cs.drop o) →
    ∃ r, fs.mapM (fun f => P.keyLits d f.type ((cs.drop f.offset).take (P.cellsOf f.type))) = some r ∧ r.flatten = (cs.drop o).map litOf
  | [], o, ks, cs, h, hc => by
    simp only [shpF, Option.some.injEq] at h
    subst h
    have := hc.len
    exact ⟨[], by simp, by rw [List.eq_nil_of_length_eq_zero this]; rfl⟩
  | fl :: r, o, ks, cs, h, hc => by
    simp only [shpF] at h
    split at h
    · rename_i ks1 h1
      split at h
      · rename_i h2
        cases h3 : shpF P (shp P d) (o + ks1.length) r with
        | none => rw [h3] at h; cases h
        | some ks2 =>
          rw [h3] at h
          simp only [Option.map_some, Option.some.injEq] at h
          subst h
          obtain ⟨c1, c2⟩ := hc.split
          rw [List.drop_drop] at c2
          obtain ⟨rr, hr1, hr2⟩ := conf_fields ih r (o + ks1.length) ks2 cs h3 c2
          have hk := ih fl.type ks1 _ h1 c1
          refine ⟨((cs.drop o).take ks1.length).map litOf :: rr, ?_, ?_⟩
          · rw [List.mapM_cons, h2.1, h2.2, hk, hr1]; rfl
          · rw [List.flatten_cons, hr2, ← List.map_append, ← List.drop_drop, List.take_append_drop]
      · cases h
    · cases h
theorem conf_lits : ∀ (d : Nat) (t : TypeId) (ks : List CK) (cs : List Value), shp P d t = some ks → Conf ks cs → P.keyLits d t cs = some (cs.map litOf)
  | 0, _, _, _, h, _ => by cases h
  | d + 1, t, ks, cs, h, hc => by
    simp only [shp] at h
    unfold Program.keyLits
    split at h
    · rename_i k hu
      simp only [Option.some.injEq] at h
      subst h
      cases hc with
      | cons h1 r => cases r; cases h1 with | int a b => simp [hu, Lit.wf, a, b, litOf]
    · rename_i hu
      simp only [Option.some.injEq] at h
      subst h
      cases hc with
      | cons h1 r => cases r; cases h1 with | str a => simp [hu, a, litOf]
    · rename_i hu
      simp only [Option.some.injEq] at h
      subst h
      cases hc with
      | cons h1 r => cases r; cases h1 with | bool => simp [hu, litOf]
    · rename_i n e hu
      split at h
      · rename_i ks1 h1
        split at h
        · rename_i h2
          simp only [Option.some.injEq] at h
          subst h
          have hl : cs.length = n * ks1.length := by
            rw [hc.len]; simp
          have hm := mapM_all (l := List.range n) (f := fun i => P.keyLits d e ((cs.drop (i * P.cellsOf e)).take (P.cellsOf e))) (g := fun i => ((cs.drop (i * ks1.length)).take ks1.length).map litOf)
            (fun i hi => by rw [h2.1]; exact conf_lits d e ks1 _ h1 (conf_rep hc i (List.mem_range.1 hi)))
          rw [hu]
          simp only [hl, h2.2, if_true, hm, Option.map_some, chunks hl]
        · cases h
      · cases h
    · rename_i fs hu
      split at h
      · rename_i ks1 h1
        split at h
        · rename_i h2
          simp only [Option.some.injEq] at h
          subst h
          obtain ⟨r, hr1, hr2⟩ := conf_fields (conf_lits d) fs.toList 0 ks1 cs h1 (by simpa using hc)
          rw [hu]
          simp only [hc.len, h2.1, h2.2, and_self, if_true, hr1, Option.map_some, hr2, List.drop_zero]
        · cases h
      · cases h
    · cases h
/-- the closed facts of a type whose values are held against each other -/
def eqT (P : Program) (m : Nat) (T : TypeId) (ks : List CK) : Bool :=
  (match shp P m T with | some k => k == ks | none => false) && P.keyTypeAt m T && !P.eqGuardType P.depth T && Nat.ble m 10000 && (match P.underlying T with | some (.struct _) | some (.array _ _) => Nat.beq (P.cellsOf T) ks.length | _ => false)
theorem run_eqC {T m : Nat} {ks : List CK} {cs cs' : List Value} {r : Bool} (hT : eqT P m T ks = true) (h1 : Conf ks cs) (h2 : Conf ks cs') (hr : r = true ↔ cs = cs') (w : World) :
    (Op.equal T (.agg cs.toArray) (.agg cs'.toArray)).run P w = .ok r w ∧ P.eqGuardType P.depth T = false := by
  simp only [eqT, Bool.and_eq_true, Bool.not_eq_true'] at hT
  obtain ⟨⟨⟨⟨hs, hk⟩, hg⟩, hm⟩, hf⟩ := hT
  have hs' : shp P m T = some ks := by
    split at hs
    · rename_i k hk'; rw [hk', beq_iff_eq.1 hs]
    · cases hs
  have hm := Nat.le_of_ble_eq_true hm
  have hform : ∀ cs : List Value, Conf ks cs → (Value.agg cs.toArray).formed P T = true := by
    intro cs hc
    have hl := hc.len
    simp only [Value.formed]
    split at hf <;> rename_i hu <;> first | (rw [hu]; have := Nat.eq_of_beq_eq_true hf; simp [this, hl]) | cases hf
  obtain ⟨r', hr', hiff⟩ := run_equalIn_deep (10000 - m) m T hk w m m (.agg cs.toArray) (.agg cs'.toArray) (cs.map litOf) (cs'.map litOf) (hform _ h1) (hform _ h2) (by simpa [Value.cells] using conf_lits m T ks cs hs' h1) (by simpa [Value.cells] using conf_lits m T ks cs' hs' h2)
  rw [show 10000 - m + m = 10000 by omega] at hr'
  have e : r' = r := by
    have h3 : r' = true ↔ r = true := by
      rw [hiff, hr]
      exact ⟨fun e => h1.inj h2 e, fun e => by rw [e]⟩
    cases r <;> cases r' <;> simp_all
  subst e
  exact ⟨hr', hg⟩
variable {dr : Bool} {mc : Md} {n : Nat} {l : List Oper} {K : Env → PM → Mem → Prop} {i : Nat} {σ : List Nat} {ρ : Env} {G : PM} {μ : Mem}
variable {d t : Nat} {p : String} {af : Array Edge} {g : Option (Nat × Bool)} {c : Bool}
/-- '==' -/
theorem eqC {T T' m : Nat} {x y : Operand} {ks : List CK} {cs cs' : List Value} (r : Bool) (ho : nth l i = some ⟨some d, .binOp .eql T x y T', t, p, af, g⟩) (hg : Gd l ρ g c) (hT : eqT P m T ks = true) (hx : Ev ρ c x (.agg cs.toArray)) (hy : Ev ρ c y (.agg cs'.toArray))
    (h1 : c = true → Conf ks cs) (h2 : c = true → Conf ks cs') (hr : c = true → (r = true ↔ cs = cs')) (h : Wo dr mc P n l K σ ((d, c, .bool r) :: ρ) G μ) : Wo dr mc P n l K (i :: σ) ρ G μ :=
  .pure ho (.inl rfl) hg (fun hc a w ha => by
    obtain ⟨h3, h4⟩ := run_eqC hT (h1 hc) (h2 hc) (hr hc) w
    simp [execOp, hx.eval ha hc, hy.eval ha hc, eqGuard_agg h4, binOp, h3]) h
/-- '!=' -/
theorem nqC {T T' m : Nat} {x y : Operand} {ks : List CK} {cs cs' : List Value} (r : Bool) (ho : nth l i = some ⟨some d, .binOp .neq T x y T', t, p, af, g⟩) (hg : Gd l ρ g c) (hT : eqT P m T ks = true) (hx : Ev ρ c x (.agg cs.toArray)) (hy : Ev ρ c y (.agg cs'.toArray))
    (h1 : c = true → Conf ks cs) (h2 : c = true → Conf ks cs') (hr : c = true → (r = true ↔ cs = cs')) (h : Wo dr mc P n l K σ ((d, c, .bool (!r)) :: ρ) G μ) : Wo dr mc P n l K (i :: σ) ρ G μ :=
  .pure ho (.inl rfl) hg (fun hc a w ha => by
    obtain ⟨h3, h4⟩ := run_eqC hT (h1 hc) (h2 hc) (hr hc) w
    simp [execOp, hx.eval ha hc, hy.eval ha hc, eqGuard_agg h4, binOp, h3]) h
/-- '!=' of bools -/
theorem nb {T T' : TypeId} {x y : Operand} {b1 b2 : Bool} (ho : nth l i = some ⟨some d, .binOp .neq T x y T', t, p, af, g⟩) (hg : Gd l ρ g c) (hT : boolT P T = true) (hx : Ev ρ c x (.bool b1)) (hy : Ev ρ c y (.bool b2))
    (h : Wo dr mc P n l K σ ((d, c, .bool (!(b1 == b2))) :: ρ) G μ) : Wo dr mc P n l K (i :: σ) ρ G μ :=
  .pure ho (.inl rfl) hg (fun hc a w ha => by
    unfold boolT at hT
    split at hT
    · rename_i hu
      have h1 : ∀ w, (Op.equalIn (9999 + 1) T (.bool b1) (.bool b2)).run P w = .ok (b1 == b2) w := fun w => by
        rw [Op.equalIn]; simp only [Sem.run_bind, run_underlying hu, Result.andThen_ok, Sem.run_pure]
      have h2 : (eqGuard .neq T x y (.bool b1) (.bool b2)).run P w = .ok () w := by unfold eqGuard; simp
      simp only [execOp, hx.eval ha hc, hy.eval ha hc, Sem.run_bind, h2, Result.andThen_ok, binOp, Op.equal, Op.maxDepth]
      rw [show (10000 : Nat) = 9999 + 1 from rfl, h1]
      rfl
    · cases hT) h
end
theorem Conf.u8 {y : Y} {ks : List CK} {cs : List Value} (h : Conf ks cs) : Conf (.int .u8 :: ks) (V y :: cs) := .cons (CkOk.u (k := .u8) rfl y) h
theorem Conf.u64 {y : BitVec 64} {ks : List CK} {cs : List Value} (h : Conf ks cs) : Conf (.int .u64 :: ks) (uv .u64 y :: cs) := .cons (CkOk.u (k := .u64) rfl y) h
theorem Conf.ba (n : Nat) (f : Nat → Y) : Conf (List.replicate n (.int .u8)) (ba n f) := by
  have key : ∀ xs : List Nat, Conf (List.replicate xs.length (.int .u8)) (xs.map fun i => V (f i)) := by
    intro xs
    induction xs with
    | nil => exact .nil
    | cons x xs ih => exact Conf.u8 ih
  have := key (List.range n)
  rw [List.length_range] at this
  exact this
end Go.Tan

namespace Go.Tan
open Go.RowKit Go.Lib
/-- a text's bytes -/
def yb (s : ByteArray) : List Y := s.toList.map fun x => BitVec.ofNat 8 x.toNat
theorem bstr_yb (s : ByteArray) : bstr (yb s) = s := by
  have h : (bstr (yb s)).data.toList = s.data.toList := by
    rw [bstr_data, yb, ByteArray.toList_eq, List.map_map]
    conv => rhs; rw [← List.map_id s.data.toList]
    refine List.map_congr_left fun x _ => ?_
    simp only [Function.comp, id]
    have := x.toNat_lt
    rw [BitVec.toNat_ofNat, Nat.mod_eq_of_lt (by omega)]
    simp
  have h2 : (bstr (yb s)).data = s.data := by
    have := congrArg List.toArray h
    simpa using this
  obtain ⟨d⟩ := s
  cases hb : bstr (yb ⟨d⟩) with
  | mk d' => rw [hb] at h2; simp only at h2; rw [h2]
theorem yb_bstr (xs : List Y) : yb (bstr xs) = xs := bstr_inj (bstr_yb _)
theorem yb_len (s : ByteArray) : (yb s).length = s.size := by rw [yb, List.length_map, ByteArray.toList_eq]; simp
theorem yb_cells (s : ByteArray) : (yb s).map V = strCells s := by
  unfold yb strCells
  rw [List.map_map, ByteArray.toList_eq]
  refine List.map_congr_left fun x _ => ?_
  have := x.toNat_lt
  have e : (BitVec.ofNat 8 x.toNat).toNat = x.toNat := by rw [BitVec.toNat_ofNat, Nat.mod_eq_of_lt (by omega)]
  show Value.int .u8 (((BitVec.ofNat 8 x.toNat).toNat : Nat) : Int) = _
  rw [e]
section
variable {dr : Bool} {mc : Md} {P : Program} {n : Nat} {l : List Oper} {K : Env → PM → Mem → Prop} {i : Nat} {σ : List Nat} {ρ : Env} {G : PM} {μ : Mem}
variable {d t : Nat} {p : String} {af : Array Edge} {g : Option (Nat × Bool)} {c : Bool}
theorem run_apT {T U E ty : Nat} {v : Value} {xs : List Y} {s : ByteArray} {w : World} (hT : slE P T = some (E, 1, 1)) (hU : strT P U = true) (hz : (P.info? E).bind (·.zero) = some (.int .u8 0)) (hs : Sat G [rB v E xs] w) (hb : xs.length + s.size ≤ 140737488355328) :
    ∃ v' w', (Builtin.append_ #[T, U] ty #[v, .string s]).run P w = .ok v' w' ∧ Tr G (keys [rB v E xs]) w G [rB v' E (xs ++ yb s)] w' := by
  obtain ⟨hu, inf, hi, hs1, hb1⟩ := slE_some hT
  have hu2 : P.underlying U = some .string := by
    unfold strT at hU
    split at hU
    · assumption
    · cases hU
  rw [hi] at hz
  simp only [Option.bind_some] at hz
  have hown : w.ownsRow 0 E 1 v xs.length (xs.map V) := hs.own _ (List.mem_singleton.2 rfl)
  have hbegin := Tr.begin hs
  have hyl := yb_len s
  have hyc := yb_cells s
  have hml : (xs.map V).length = xs.length := List.length_map ..
  have hsl : (strCells s).length = s.size := strCells_length s
  have hmm : maxLen = 9223372036854775807 := rfl
  have eR : rB v E (xs ++ yb s) = .row v E 1 (xs.length + s.size) (xs.map V ++ strCells s) := by simp only [rB, List.length_append, List.map_append, hyl, hyc]
  have hlen : (xs.map V ++ strCells s).length = (xs.length + s.size) * 1 := by rw [List.length_append, hml, hsl]; omega
  by_cases hk : s.size = 0
  · have hn : strCells s = [] := List.eq_nil_of_length_eq_zero (by rw [hsl]; exact hk)
    have hy0 : yb s = [] := List.eq_nil_of_length_eq_zero (by rw [hyl]; exact hk)
    refine ⟨v, w, ?_, by rw [hy0, List.append_nil]; exact hbegin⟩
    have hf := run_firstCells_string (P := P) w 1 s
    rw [hk, hn] at hf
    rcases hown.2 with ⟨rfl, hm⟩ | ⟨g, cap, cur, rfl, _, hg, hnc, _, _, _⟩
    · simp [Builtin.append_, run_underlying hu, run_underlying hu2, sizeOf, typeInfo, hi, hs1, Builtin.lenOf, hk, hf]
    · simp [Builtin.append_, run_underlying hu, run_underlying hu2, sizeOf, typeInfo, hi, hs1, Builtin.lenOf, hk, hf, hnc, storeCells]
  · have fresh : ∀ (old : Nat), Tr G (keys [rB v E xs]) w G [.row (.slice (some ⟨w.heap.size, 0, none⟩) (xs.length + s.size) (grownCap w (xs.length + s.size) old E)) E 1 (xs.length + s.size) (xs.map V ++ strCells s)]
        (w.drew.alloc (.cells ((xs.map V).toArray ++ (strCells s).toArray ++ Builtin.zeroCells (Value.int .u8 0).cells (grownCap w (xs.length + s.size) old E - (xs.length + s.size))) E)) := by
      intro old
      have h2 := (hbegin.drew).alloc (.cells ((xs.map V).toArray ++ (strCells s).toArray ++ Builtin.zeroCells (Value.int .u8 0).cells (grownCap w (xs.length + s.size) old E - (xs.length + s.size))) E)
      have h3 : Tr G (keys [rB v E xs]) w G [.blk w.heap.size (.cells ((xs.map V).toArray ++ (strCells s).toArray ++ Builtin.zeroCells (Value.int .u8 0).cells (grownCap w (xs.length + s.size) old E - (xs.length + s.size))) E)] _ := Tr.left (ν := [rB v E xs]) h2
      have hge := grownCap_ge w (xs.length + s.size) old E
      refine h3.asRow hlen hge (grownCap_le_maxLen w (xs.length + s.size) old E (by rw [hmm]; omega)) ?_ ?_
      · have hz1 : (Value.int IntKind.u8 0).cells.size = 1 := rfl
        simp only [Array.size_append, List.size_toArray, size_zeroCells, hz1, hml, hsl]
        omega
      · simp only [Array.toList_append, List.append_assoc]
        rw [← List.append_assoc, ← hlen]
        exact List.take_left
    rcases hown.2 with ⟨rfl, hm⟩ | ⟨g, cap, cur, rfl, _, hg, hnc, hcm, hcs, htake⟩
    · have hx : xs = [] := List.eq_nil_of_length_eq_zero hm
      subst hx
      have hrun := run_append_nil_string (P := P) w T U ty E inf (.int .u8 0) hu hu2 hi hz s (by omega) (by omega) (by rw [hb1]; simp only [List.length_nil] at hb; omega)
      have hf := fresh 0
      have e1 : (s.data.map fun b => Value.int .u8 b.toNat) = (strCells s).toArray := by
        apply Array.ext'
        simp [strCells]
      rw [e1] at hrun
      simp only [List.length_nil, Nat.zero_add, List.map_nil, List.nil_append, Array.empty_append] at hf
      refine ⟨_, _, hrun, ?_⟩
      have eR2 : ∀ u, rB u E ([] ++ yb s) = .row u E 1 s.size (strCells s) := fun u => by simp only [rB, List.nil_append, hyl, hyc]
      rw [eR2]; exact hf
    · by_cases hroom : xs.length + s.size ≤ cap
      · simp only [Nat.mul_one] at hcs htake
        have hrun := run_append_room_string (P := P) w T U ty E inf hu hu2 hi hs1 g xs.length cap cur hg s hroom (by omega)
        have hsat : Sat G [.blk g (.cells cur E (0, 0))] w := ⟨hs.sub, fun r hr => by rw [List.mem_singleton.1 hr]; exact hg, fun c hc => hs.apart c (by simpa [keys, Res.keys, Value.ownBlock] using hc), by simp [keys, Res.keys]⟩
        refine ⟨_, _, hrun, ?_⟩
        have h2 := Tr.setArr (cs' := (cur.toList.take xs.length ++ strCells s ++ cur.toList.drop (xs.length + s.size)).toArray) hsat
        have h3 := h2.asRow (m := xs.length + s.size) (cap := cap) (sz := 1) (xs := xs.map V ++ strCells s) hlen hroom hcm ?_ ?_
        · have eR3 : ∀ u, rB u E (xs ++ yb s) = .row u E 1 (xs.length + s.size) (xs.map V ++ strCells s) := fun u => by simp only [rB, List.length_append, List.map_append, hyl, hyc]
          rw [eR3]
          simpa [keys, Res.keys, Value.ownBlock] using h3
        · simp only [List.size_toArray, List.length_append, List.length_take, List.length_drop, Array.length_toList, hsl]
          omega
        · rw [htake, ← hlen]
          exact List.take_left
      · have holds : ∀ j u, (xs.map V)[j]? = some u → w.cell? ((⟨g, 0, none⟩ : Addr).add j) = some u := hown.cells (g := g) rfl
        have hrun := run_append_grow_string (P := P) w T U ty E inf (.int .u8 0) hu hu2 hi hz ⟨g, 0, none⟩ xs.length cap (xs.map V) (by rw [hml, hs1]; omega) holds s (by omega) (by omega) (growslice_fits (by omega) (by rw [hb1]; omega))
        have eR3 : ∀ u, rB u E (xs ++ yb s) = .row u E 1 (xs.length + s.size) (xs.map V ++ strCells s) := fun u => by simp only [rB, List.length_append, List.map_append, hyl, hyc]
        refine ⟨_, _, hrun, ?_⟩
        rw [eR3]; exact fresh cap
/-- 'append(b, s...)' -/
theorem apT {T U E : Nat} {x y : Operand} {v : Value} {s : ByteArray} {xs : List Y} {μ' : Mem} (ho : nth l i = some ⟨some d, .call { callee := .builtin .append, args := #[x, y], argTypes := #[T, U] }, t, p, af, none⟩)
    (hT : slE P T = some (E, 1, 1)) (hU : strT P U = true) (hz : (P.info? E).bind (·.zero) = some (.int .u8 0)) (hx : Ev ρ true x v) (hy : Ev ρ true y (.string s)) (hm : MTake μ (rB v E xs) μ') (hb : xs.length + s.size ≤ 140737488355328)
    (h : ∀ v' L, v'.oneCell' = true → L = xs ++ yb s → Wo dr mc P n l K σ ((d, true, v') :: ρ) G (rB v' E L :: μ')) (hmc : mc.a = false ∨ dr = false := by first | exact .inl rfl | exact .inr rfl) : Wo dr mc P n l K (i :: σ) ρ G μ := by
  refine .act (μ₁ := [rB v E xs]) (μ₂ := μ') (post := fun G' μ' v' => G' = G ∧ v'.oneCell' = true ∧ μ' = [rB v' E (xs ++ yb s)]) ho (by rcases hmc with h | h <;> simp [kindOf, h]) .no hm.perm (fun a w ha hs => .inl ?_) ?_
  · obtain ⟨v', w', hrun, ht⟩ := run_apT (ty := t) (s := s) hT hU hz hs.left hb
    exact ⟨v', w', G, [rB v' E (xs ++ yb s)], .inl (by simp [execOp, resolve, invoke, builtin, hx.eval ha rfl, hy.eval ha rfl, hrun]), ht, rfl, ht.sat.rowOne, rfl⟩
  · rintro v' G' μ'' _ ⟨rfl, h1, rfl⟩
    exact h v' _ h1 rfl
/-- '[]byte(s)', to be read -/
def sbT (P : Program) (S D : TypeId) : Bool := match P.underlying S, P.underlying D with
  | some .string, some (.slice e) => match P.underlying e with | some (.int .u8) => true | _ => false
  | _, _ => false
theorem cvS {S D : TypeId} {x : Operand} {s : ByteArray} (hdf : dr = false) (ho : nth l i = some ⟨some d, .convert S D x, t, p, af, none⟩) (hS : sbT P S D = true) (hx : Ev ρ true x (.string s))
    (h : ∀ G' s', PM.le G G' → SlR G' 1 encY s' (yb s) → Wo dr mc P n l K σ ((d, true, s'.val (yb s).length) :: ρ) G' μ) : Wo dr mc P n l K (i :: σ) ρ G μ := by
  refine .act (μ₁ := []) (μ₂ := μ) (post := fun G' μ' v => μ' = [] ∧ ∃ s', v = s'.val (yb s).length ∧ SlR G' 1 encY s' (yb s)) ho (.inr hdf) .no (.refl _) (fun a w ha hs => .inl ?_) ?_
  · unfold sbT at hS
    split at hS
    · rename_i e h1 h2
      split at hS
      · rename_i h3
        have hrun := run_bytes_of_string (P := P) w S D e s h1 h2 h3
        have hge := grownCap_ge w s.size 0 e
        have h0 : Tr G (keys []) w G [] w := Tr.begin (Sat.left (μ := []) hs)
        have h4 := (h0.drew).alloc (.cells (bytesRow s (grownCap w s.size 0 e)) e ((bytesRow s (grownCap w s.size 0 e)).size, (bytesRow s (grownCap w s.size 0 e)).size + 1))
        have h5 := h4.freeze (by simp [keys])
        refine ⟨.slice (some ⟨w.heap.size, 0, none⟩) s.size (grownCap w s.size 0 e), _, _, [], .inl (by simp [execOp, hx.eval ha rfl, hrun]), h5, rfl, ⟨some ⟨w.heap.size, 0, none⟩, grownCap w s.size 0 e⟩, by rw [yb_len]; rfl, ?_⟩
        refine SlR.ofRow (fun _ _ => rfl) (by rw [yb_len]; exact hge) (fun _ => rfl) (fun j v hj => ?_)
        rw [flat_V, yb_cells] at hj
        show RdP _ ⟨w.heap.size, 0 + j, none⟩ v
        rw [Nat.zero_add]
        refine RdP.blk (cs := (bytesRow s (grownCap w s.size 0 e)).toList) (by rw [Array.toArray_toList]; exact PM.add_same _ _ _) ?_
        have hlt : j < (strCells s).length := (List.getElem?_eq_some_iff.1 hj).1
        unfold bytesRow
        rw [Array.toList_append, List.getElem?_append_left (by simpa [strCells] using hlt)]
        simpa [strCells] using hj
      · cases hS
    · cases hS
  · rintro v G' μ'' hle ⟨rfl, s', rfl, hs'⟩
    exact h G' s' hle hs'
/-! ## Elements of a row of one's own -/
theorem flat_at {α : Type} {enc : α → List Value} {sz : Nat} : ∀ {xs : List α} {k : Nat} {x : α}, (∀ y ∈ xs, (enc y).length = sz) → xs[k]? = some x → ((xs.flatMap enc).drop (k * sz)).take sz = enc x
  | y :: ys, 0, x, hsz, hx => by
    simp only [List.getElem?_cons_zero, Option.some.injEq] at hx
    subst hx
    rw [Nat.zero_mul, List.drop_zero, List.flatMap_cons, List.take_left' (hsz y (List.mem_cons_self ..))]
  | y :: ys, k + 1, x, hsz, hx => by
    rw [List.flatMap_cons, Nat.succ_mul, Nat.add_comm, ← List.drop_drop, List.drop_left' (hsz y (List.mem_cons_self ..))]
    exact flat_at (fun z hz => hsz z (List.mem_cons_of_mem _ hz)) (by simpa using hx)
  | [], _, _, _, hx => by simp at hx
theorem flat_set {α : Type} {enc : α → List Value} {sz : Nat} {y : α} : ∀ {xs : List α} {k : Nat}, (∀ z ∈ xs, (enc z).length = sz) → (enc y).length = sz → k < xs.length → put (xs.flatMap enc) (k * sz) (enc y) = (xs.set k y).flatMap enc
  | z :: zs, 0, hsz, hy, _ => by
    unfold put
    rw [Nat.zero_mul, List.take_zero, List.nil_append, Nat.zero_add, List.flatMap_cons, hy, List.drop_left' (hsz z (List.mem_cons_self ..))]
    simp
  | z :: zs, k + 1, hsz, hy, hk => by
    have ih := flat_set (xs := zs) (k := k) (fun u hu => hsz u (List.mem_cons_of_mem _ hu)) hy (by simpa using hk)
    have hz := hsz z (List.mem_cons_self ..)
    unfold put at ih ⊢
    rw [List.set_cons_succ, List.flatMap_cons, List.flatMap_cons, ← ih, Nat.succ_mul]
    have e1 : (enc z ++ zs.flatMap enc).take (k * sz + sz) = enc z ++ (zs.flatMap enc).take (k * sz) := by rw [List.take_append, List.take_of_length_le (by omega), hz, Nat.add_sub_cancel]
    have e2 : (enc z ++ zs.flatMap enc).drop (k * sz + sz + (enc y).length) = (zs.flatMap enc).drop (k * sz + (enc y).length) := by
      rw [List.drop_append, List.drop_of_length_le (by omega), hz, show k * sz + sz + (enc y).length - sz = k * sz + (enc y).length by omega, List.nil_append]
    rw [e1, e2]
    simp only [List.append_assoc]
  | [], _, _, _, hk => by simp at hk
theorem RdN.rowS {α : Type} {enc : α → List Value} {sz b m cap E k : Nat} {xs : List α} {x : α} {μ' : Mem} (h : MTake μ (rS sz enc (.slice (some ⟨b, 0, none⟩) m cap) E xs) μ') (hsz : ∀ y ∈ xs, (enc y).length = sz) (hx : xs[k]? = some x) {q : Nat} (hq : q = k * sz) : RdN G μ b q (enc x) := by
  subst hq
  intro j v hj
  refine Rd.row h ?_
  rw [← flat_at hsz hx, List.getElem?_take] at hj
  split at hj
  · rw [List.getElem?_drop] at hj; exact hj
  · cases hj
/-- 'xs[k] = y' -/
theorem stS {α : Type} {enc : α → List Value} {T E sz m cap b o k : Nat} {x y : Operand} {v : Value} {xs : List α} {u : α} {μ' : Mem} (ho : nth l i = some ⟨none, .store T x y, t, p, af, none⟩) (hx : Ev ρ true x (.pointer (some ⟨b, o, none⟩))) (hy : Ev ρ true y v) (hv : v.cells = (enc u).toArray) (hz : szT P T = some sz)
    (hm : MTake μ (rS sz enc (.slice (some ⟨b, 0, none⟩) m cap) E xs) μ') (hsz : ∀ y ∈ xs, (enc y).length = sz) (hu : (enc u).length = sz) (h1 : ∀ c ∈ enc u, c.oneCell' = true) (hq : o = k * sz) (hk : k < xs.length)
    (h : Wo dr mc P n l K σ ρ G (rS sz enc (.slice (some ⟨b, 0, none⟩) m cap) E (xs.set k u) :: μ')) : Wo dr mc P n l K (i :: σ) ρ G μ := by
  subst hq
  refine .act (μ₁ := [rS sz enc (.slice (some ⟨b, 0, none⟩) m cap) E xs]) (μ₂ := μ') (post := fun G' μ' v => G' = G ∧ μ' = [rS sz enc (.slice (some ⟨b, 0, none⟩) m cap) E (xs.set k u)] ∧ v = undef) ho (.inl rfl) .no hm.perm (fun a w ha hs => .inl ?_) ?_
  · have hs' := hs.left
    have hrow : w.ownsRow 0 E sz (.slice (some ⟨b, 0, none⟩) m cap) xs.length (xs.flatMap enc) := hs'.own _ (List.mem_singleton.2 rfl)
    have hfl := flat_len hsz
    rcases hrow.2 with ⟨e, _⟩ | ⟨g, cap', cur, e, _, hg, hnc, hcm, hcs, htake⟩
    · cases e
    · simp only [Value.slice.injEq, Option.some.injEq, Addr.mk.injEq, and_true, true_and] at e
      obtain ⟨rfl, rfl, rfl⟩ := e
      have hkey : keys [rS sz enc (.slice (some ⟨b, 0, none⟩) xs.length cap) E xs] = [b] := by simp [keys, Res.keys, Value.ownBlock]
      have hsat : Sat G [.blk b (.cells cur E (0, 0))] w := ⟨hs'.sub, fun r hr => by rw [List.mem_singleton.1 hr]; exact hg, fun c hc => hs'.apart c (by simpa [keys, Res.keys, Value.ownBlock] using hc), by simp [keys, Res.keys]⟩
      have hin : k * sz + sz ≤ xs.length * sz := by rw [← Nat.succ_mul]; exact Nat.mul_le_mul_right _ hk
      have hcap : xs.length * sz ≤ cap * sz := Nat.mul_le_mul_right _ hnc
      have hst := run_storeCells_at P b (k * sz) E (enc u) 0 cur w hg (by rw [Nat.add_zero, hu]; omega) h1
      simp only [Nat.add_zero, hu] at hst
      have h2 := (Tr.setArr (cs' := (cur.toList.take (k * sz) ++ enc u ++ cur.toList.drop (k * sz + sz)).toArray) hsat).asRow (m := xs.length) (cap := cap) (sz := sz) (xs := (xs.set k u).flatMap enc) ?_ hnc hcm ?_ ?_
      · refine ⟨undef, _, G, _, .inr ⟨?_, rfl⟩, by rw [hkey]; exact h2, rfl, by simp [rS], rfl⟩
        cases hi : P.info? T with
        | none => simp [szT, hi] at hz
        | some inf =>
          simp only [szT, hi, Option.map_some, Option.some.injEq] at hz
          simp only [execOp, hx.eval ha rfl, hy.eval ha rfl]
          simp [Instr.storeAt, Instr.sureAddr, storeVar, hv, sizeOf, typeInfo, hi, hz, hst, hu]
      · rw [flat_len (sz := sz) (fun z hz' => by
          rcases List.mem_or_eq_of_mem_set hz' with hz' | rfl
          · exact hsz z hz'
          · exact hu), List.length_set]
      · simp only [List.size_toArray, List.length_append, List.length_take, List.length_drop, Array.length_toList, hu]
        omega
      · have := splice_take (A := cur.toList) (C := enc u) (o := k * sz) (m := xs.length * sz) (by rw [hu]; exact hin) (by have : cur.toList.length = cur.size := Array.length_toList ..; omega)
        rw [hu, htake] at this
        rw [this]
        have h5 := flat_set (xs := xs) hsz hu hk
        unfold put at h5
        rw [hu] at h5
        exact h5
  · rintro v G' μ'' _ ⟨rfl, rfl, rfl⟩
    exact h
end
end Go.Tan

namespace Go.Tan
open Go.RowKit
/-- a number's bytes -/
def numN (n : Nat) : List Y := if h : n < 128 then [BitVec.ofNat 8 n] else BitVec.ofNat 8 (n % 128 + 128) :: numN (n / 128)
termination_by n
decreasing_by omega
theorem num_small {n : Nat} (h : n < 128) : numN n = [BitVec.ofNat 8 n] := by rw [numN, dif_pos h]
theorem num_big {n : Nat} (h : ¬ n < 128) : numN n = BitVec.ofNat 8 (n % 128 + 128) :: numN (n / 128) := by rw [numN, dif_neg h]
theorem num_pos (n : Nat) : 0 < (numN n).length := by
  by_cases h : n < 128
  · rw [num_small h]; simp
  · rw [num_big h]; simp
theorem num_len : ∀ (k n : Nat), n < 128 ^ k → 0 < k → (numN n).length ≤ k
  | 0, _, _, h => by omega
  | k + 1, n, h, _ => by
    by_cases hn : n < 128
    · rw [num_small hn]; simp
    · rw [num_big hn]
      by_cases hk : k = 0
      · subst hk; omega
      · have := num_len k (n / 128) (by rw [Nat.pow_succ] at h; omega) (by omega)
        simp; omega
theorem num_len10 {n : Nat} (h : n < 18446744073709551616) : (numN n).length ≤ 10 := num_len 10 n (by omega) (by decide)
/-- the number that stands ahead, how many bytes it has, or its fault -/
def numG : Nat → Nat → List Y → Nat × Nat × Int
  | _, _, [] => (0, 0, 10)
  | k, acc, x :: r =>
    if k = 9 ∧ 1 < x.toNat then (0, 0, 11)
    else if x.toNat < 128 then (if 0 < k ∧ x.toNat = 0 then (0, 0, 11) else (acc + x.toNat * 128 ^ k, k + 1, 0))
    else numG (k + 1) (acc + (x.toNat - 128) * 128 ^ k) r
def numP (b : List Y) : Nat × Nat × Int := numG 0 0 b
theorem toN {n : Nat} (h : n < 256) : (BitVec.ofNat 8 n).toNat = n := by rw [BitVec.toNat_ofNat]; omega
theorem pow9 : (128 : Nat) ^ 9 = 9223372036854775808 := by decide
theorem numG_enc : ∀ (m n k acc : Nat) (r : List Y), n ≤ m → acc + n * 128 ^ k < 18446744073709551616 → (k = 0 ∨ 0 < n) → k ≤ 9 → numG k acc (numN n ++ r) = (acc + n * 128 ^ k, k + (numN n).length, 0) := by
  intro m
  induction m with
  | zero =>
    intro n k acc r hm h1 h2 h3
    obtain rfl : n = 0 := by omega
    rw [num_small (by omega)]
    have hk : k = 0 := by omega
    subst hk
    simp [numG]
  | succ m ih =>
    intro n k acc r hm h1 h2 h3
    by_cases hn : n < 128
    · rw [num_small hn]
      have ht := toN (n := n) (by omega)
      have h9 : ¬ (k = 9 ∧ 1 < (BitVec.ofNat 8 n).toNat) := by
        rintro ⟨rfl, h⟩
        rw [ht] at h
        rw [pow9] at h1
        omega
      simp only [List.cons_append, List.nil_append, numG]
      rw [if_neg h9, if_pos (by omega), if_neg (by omega), ht]
      rfl
    · rw [num_big hn]
      have ht := toN (n := n % 128 + 128) (by omega)
      have hk : k < 9 := by
        rcases Nat.lt_or_ge k 9 with h | h
        · exact h
        · have : k = 9 := by omega
          subst this
          rw [pow9] at h1
          omega
      simp only [List.cons_append, numG]
      rw [if_neg (by omega), if_neg (by omega), ht, Nat.add_sub_cancel]
      have e : acc + n % 128 * 128 ^ k + n / 128 * 128 ^ (k + 1) = acc + n * 128 ^ k := by
        rw [Nat.pow_succ, Nat.add_assoc]
        congr 1
        have h5 : n / 128 * (128 ^ k * 128) = (n / 128 * 128) * 128 ^ k := by rw [Nat.mul_comm (128 ^ k) 128, Nat.mul_assoc]
        rw [h5, ← Nat.add_mul]
        congr 1
        omega
      rw [ih (n / 128) (k + 1) _ r (by omega) (by rw [e]; exact h1) (.inr (by omega)) (by omega), e, List.length_cons]
      congr 2
      omega
theorem num_back {n : Nat} (h : n < 18446744073709551616) (r : List Y) : numP (numN n ++ r) = (n, (numN n).length, 0) := by
  have := numG_enc n n 0 0 r (Nat.le_refl _) (by omega) (.inl rfl) (by omega)
  simpa [numP] using this
theorem pow_le {j k : Nat} (h : j ≤ k) : (128 : Nat) ^ j ≤ 128 ^ k := Nat.pow_le_pow_right (by decide) h
theorem numG_dec : ∀ (b : List Y) (k acc v j : Nat), acc < 128 ^ k → k ≤ 9 → numG k acc b = (v, j, 0) → ∃ n, v = acc + n * 128 ^ k ∧ (0 < k → 0 < n) ∧ j = k + (numN n).length ∧ b = numN n ++ b.drop (numN n).length ∧ v < 18446744073709551616
  | [], k, acc, v, j, _, _, h => by simp [numG] at h
  | x :: r, k, acc, v, j, ha, hk, h => by
    simp only [numG] at h
    have hx := x.isLt
    split at h
    · simp at h
    · rename_i h9
      split at h
      · rename_i hx1
        split at h
        · simp at h
        · rename_i h0
          simp only [Prod.mk.injEq, and_true] at h
          obtain ⟨rfl, rfl⟩ := h
          have hb : BitVec.ofNat 8 x.toNat = x := by simp
          refine ⟨x.toNat, rfl, fun hk0 => by omega, by rw [num_small hx1]; rfl, by rw [num_small hx1, hb]; rfl, ?_⟩
          rcases Nat.lt_or_ge k 9 with hlt | hge
          · have h1 : acc + x.toNat * 128 ^ k < 128 ^ (k + 1) := by
              rw [Nat.pow_succ]
              have : x.toNat * 128 ^ k ≤ 127 * 128 ^ k := Nat.mul_le_mul_right _ (by omega)
              omega
            have h2 := pow_le (show k + 1 ≤ 9 by omega)
            rw [pow9] at h2
            omega
          · obtain rfl : k = 9 := by omega
            rw [pow9] at ha ⊢
            omega
      · rename_i hx1
        have hk9 : k < 9 := by omega
        obtain ⟨n, e1, e2, e3, e4, e5⟩ := numG_dec r (k + 1) (acc + (x.toNat - 128) * 128 ^ k) v j (by
          rw [Nat.pow_succ]
          have : (x.toNat - 128) * 128 ^ k ≤ 127 * 128 ^ k := Nat.mul_le_mul_right _ (by omega)
          omega) (by omega) h
        have hn := e2 (by omega)
        have hbig : ¬ (n * 128 + (x.toNat - 128)) < 128 := by omega
        have hnum : numN (n * 128 + (x.toNat - 128)) = x :: numN n := by
          rw [num_big hbig]
          have q1 : (n * 128 + (x.toNat - 128)) % 128 + 128 = x.toNat := by omega
          have q2 : (n * 128 + (x.toNat - 128)) / 128 = n := by omega
          rw [q1, q2]
          simp
        refine ⟨n * 128 + (x.toNat - 128), ?_, fun _ => by omega, ?_, ?_, e5⟩
        · rw [e1, Nat.pow_succ, Nat.add_mul]
          generalize 128 ^ k = q
          have hq : n * (q * 128) = n * 128 * q := by rw [Nat.mul_comm q 128, ← Nat.mul_assoc]
          rw [hq]
          generalize n * 128 * q = u
          generalize (x.toNat - 128) * q = t
          omega
        · rw [hnum, e3, List.length_cons]; omega
        · rw [hnum, List.length_cons, List.drop_succ_cons, List.cons_append, ← e4]
theorem num_canon {b : List Y} {v j : Nat} (h : numP b = (v, j, 0)) : b = numN v ++ b.drop j ∧ v < 18446744073709551616 ∧ j = (numN v).length ∧ j ≤ b.length := by
  obtain ⟨n, e1, _, e3, e4, e5⟩ := numG_dec b 0 0 v j (by simp) (by omega) h
  have hv : v = n := by rw [e1]; simp
  subst hv
  have hj : j = (numN v).length := by omega
  refine ⟨by rw [hj]; exact e4, e5, hj, ?_⟩
  rw [hj, e4]; simp
/-- a fault comes with nothing -/
theorem num_fault : ∀ (b : List Y) (k acc v j : Nat) (e : Int), numG k acc b = (v, j, e) → e ≠ 0 → v = 0 ∧ j = 0
  | [], k, acc, v, j, e, h, he => by
    simp only [numG, Prod.mk.injEq] at h
    exact ⟨h.1.symm, h.2.1.symm⟩
  | x :: r, k, acc, v, j, e, h, he => by
    simp only [numG] at h
    split at h
    · simp only [Prod.mk.injEq] at h; exact ⟨h.1.symm, h.2.1.symm⟩
    · split at h
      · split at h
        · simp only [Prod.mk.injEq] at h; exact ⟨h.1.symm, h.2.1.symm⟩
        · simp only [Prod.mk.injEq] at h; exact absurd h.2.2.symm he
      · exact num_fault r _ _ _ _ _ h he
/-! ### What is taken -/
structure Rd' where
  rest : List Y
  bad : Int
def rdNum (s : Rd') : Nat × Rd' := if s.bad ≠ 0 then (0, s) else ((numP s.rest).1, ⟨s.rest.drop (numP s.rest).2.1, (numP s.rest).2.2⟩)
def rdStr (most : Nat) (s : Rd') : List Y × Rd' :=
  if s.bad ≠ 0 then ([], s)
  else if (numP s.rest).2.2 ≠ 0 then ([], ⟨s.rest, (numP s.rest).2.2⟩)
  else if most < (numP s.rest).1 then ([], ⟨s.rest, 4⟩)
  else if s.rest.length - (numP s.rest).2.1 < (numP s.rest).1 then ([], ⟨s.rest, 10⟩)
  else ((s.rest.drop (numP s.rest).2.1).take (numP s.rest).1, ⟨s.rest.drop ((numP s.rest).2.1 + (numP s.rest).1), 0⟩)
def rdByte (s : Rd') : Y × Rd' := if s.bad ≠ 0 then (0, s) else if s.rest.length < 1 then (0, ⟨s.rest, 10⟩) else (s.rest.getD 0 0, ⟨s.rest.drop 1, 0⟩)
def strL (xs : List Y) : List Y := numN xs.length ++ xs
end Go.Tan

namespace Go.Tan
/-- A sentence as a bool. -/
noncomputable def B (p : Prop) : Bool := @decide p (Classical.propDecidable p)
theorem B_iff {p : Prop} : B p = true ↔ p := by unfold B; exact @decide_eq_true_iff p (Classical.propDecidable p)
theorem B_true {p : Prop} (h : p) : B p = true := B_iff.2 h
theorem B_false {p : Prop} (h : ¬ p) : B p = false := by
  cases hb : B p with
  | false => rfl
  | true => exact absurd (B_iff.1 hb) h
theorem B_not {p : Prop} (h : B p = false) : ¬ p := fun hp => by rw [B_true hp] at h; cases h

structure Opts where
  mem : Int
  table : Int
  zero : Int
  base : Int
  block : Int
  every : Int
  bits : Int
def Opts.cells (o : Opts) : List Value := [.int .i64 o.mem, .int .i64 o.table, .int .i64 o.zero, .int .i64 o.base, .int .i64 o.block, .int .i64 o.every, .int .i64 o.bits]
def Opts.val (o : Opts) : Value := .agg o.cells.toArray
def within (n m : Int) : Bool := decide (0 < n) && decide (n ≤ m)
def rightO (o : Opts) : Bool :=
  within o.mem 1048576 && within o.table 1048576 && within o.block 262144 && within o.zero 64 && within o.base 1073741824 && within o.every 1024 && within o.bits 64
theorem rightO_base {o : Opts} (h : rightO o = true) : 0 < o.base ∧ o.base ≤ 1073741824 := by
  simp only [rightO, within, Bool.and_eq_true, decide_eq_true_eq] at h; omega
def limit (o : Opts) (level : Int) : Int := if level < 1 ∨ 3 < level ∨ rightO o = false then 0 else o.base * 4 ^ (level - 1).toNat

theorem lim_shl {o : Opts} {level : Int} (h1 : 1 ≤ level) (h2 : level ≤ 3) (h : rightO o = true) : tup [.int .i64 (IntKind.i64.wrap (o.base * 2 ^ (min (2 * (level - 1)).toNat IntKind.i64.bits)))] = .int .i64 (limit o level) := by
  have hb := rightO_base h
  have : level = 1 ∨ level = 2 ∨ level = 3 := by omega
  rw [limit, if_neg (by simp [h]; omega)]
  rcases this with rfl | rfl | rfl
  · show Value.int .i64 (IntKind.i64.wrap (o.base * 2 ^ 0)) = .int .i64 (o.base * 4 ^ 0)
    rw [wrap_i64 (by omega) (by omega)]; rfl
  · show Value.int .i64 (IntKind.i64.wrap (o.base * 2 ^ 2)) = .int .i64 (o.base * 4 ^ 1)
    rw [wrap_i64 (by omega) (by omega)]; rfl
  · show Value.int .i64 (IntKind.i64.wrap (o.base * 2 ^ 4)) = .int .i64 (o.base * 4 ^ 2)
    rw [wrap_i64 (by omega) (by omega)]; rfl

theorem rightO_perm (o : Opts) : (within o.mem 1048576 && within o.table 1048576 && within o.zero 64 && within o.base 1073741824 && within o.block 262144 && within o.every 1024 && within o.bits 64) = rightO o := by
  unfold rightO
  cases within o.zero 64 <;> cases within o.base 1073741824 <;> cases within o.block 262144 <;> simp

theorem pow_small (o : Opts) (k : Nat) (h : rightO o = true) (hk : (k : Int) ≤ 2) : 0 ≤ o.base * 4 ^ k ∧ o.base * 4 ^ k ≤ 17179869184 := by
  have hb := rightO_base h
  match k, hk with
  | 0, _ => simp; omega
  | 1, _ => simp; omega
  | 2, _ => simp; omega
  | n + 3, hk => omega
theorem lim_fin {o : Opts} {level : Int} {k : Nat} (h1 : 1 ≤ level) (h2 : level ≤ 3) (h : rightO o = true) (hk : (k : Int) + 1 = level) : Value.int .i64 (o.base * 4 ^ k) = .int .i64 (limit o level) := by
  rw [limit, if_neg (by simp [h]; omega), show (level - 1).toNat = k by omega]

structure Meta where
  level : Int
  gen : Int
  epoch : Int
  number : Int
  size : Int
  count : Int
  min : ByteArray
  max : ByteArray
  root : Nat → Int
def Meta.cells (m : Meta) : List Value :=
  [.int .u8 m.level, .int .u64 m.gen, .int .u64 m.epoch, .int .u64 m.number, .int .i64 m.size, .int .i64 m.count, .string m.min, .string m.max] ++ (List.range 32).map fun i => .int .u8 (m.root i)
def Meta.val (m : Meta) : Value := .agg m.cells.toArray
def Meta.zero : Meta := ⟨0, 0, 0, 0, 0, 0, ByteArray.empty, ByteArray.empty, fun _ => 0⟩
theorem Meta.len (m : Meta) : m.cells.length = 40 := rfl
theorem Meta.one (m : Meta) : ∀ u ∈ m.cells, u.oneCell' = true := by
  intro u hu
  simp only [Meta.cells, List.mem_append, List.mem_cons, List.not_mem_nil, or_false, List.mem_map] at hu
  rcases hu with (rfl | rfl | rfl | rfl | rfl | rfl | rfl | rfl) | ⟨i, _, rfl⟩ <;> rfl
structure Meta.wf (m : Meta) : Prop where
  level : 0 ≤ m.level ∧ m.level < 256
  number : 0 ≤ m.number ∧ m.number < 18446744073709551616
  size : -9223372036854775808 ≤ m.size ∧ m.size ≤ 9223372036854775807
  minL : m.min.size ≤ 9223372036854775807
  maxL : m.max.size ≤ 9223372036854775807
  gen : 0 ≤ m.gen ∧ m.gen ≤ 18446744073709551615
  epoch : 0 ≤ m.epoch ∧ m.epoch ≤ 18446744073709551615
  count : -9223372036854775808 ≤ m.count ∧ m.count ≤ 9223372036854775807
  root : ∀ j, j < 32 → 0 ≤ m.root j ∧ m.root j ≤ 255

structure State where
  lv : Nat → List Meta
  log : Int
  next : Int
  seq : Int
  least : Int
  gens : Nat → Int
def State.cells (s : State) (hd : Nat → Sh) : List Value :=
  (List.range 5).map (fun i => (hd i).val (s.lv i).length) ++ [.int .u64 s.log, .int .u64 s.next, .int .u64 s.seq, .int .u64 s.least] ++ (List.range 5).map fun i => .int .u64 (s.gens i)
def State.val (s : State) (hd : Nat → Sh) : Value := .agg (s.cells hd).toArray
theorem State.cell_lv (s : State) (hd : Nat → Sh) {k : Nat} (h : k < 5) : (s.cells hd)[0 + k * 1]? = some ((hd k).val (s.lv k).length) := by
  match k, h with
  | 0, _ => rfl | 1, _ => rfl | 2, _ => rfl | 3, _ => rfl | 4, _ => rfl
theorem State.cell_gen (s : State) (hd : Nat → Sh) {k : Nat} (h : k < 5) : (s.cells hd)[9 + k * 1]? = some (.int .u64 (s.gens k)) := by
  match k, h with
  | 0, _ => rfl | 1, _ => rfl | 2, _ => rfl | 3, _ => rfl | 4, _ => rfl
/-- A state's tables lie in memory that stays. -/
structure StR (G : PM) (s : State) (hd : Nat → Sh) : Prop where
  lv : ∀ i, i < 5 → SlR G 40 Meta.cells (hd i) (s.lv i)
  len : ∀ i, i < 5 → (s.lv i).length * 112 ≤ 140737488351232
  wf : ∀ i, i < 5 → ∀ m ∈ s.lv i, m.wf
theorem StR.mono {G G' : PM} {s : State} {hd : Nat → Sh} (h : StR G s hd) (hle : PM.le G G') : StR G' s hd := ⟨fun i hi => (h.lv i hi).mono hle, h.len, h.wf⟩
theorem SlR.get {G : PM} {h : Sh} {xs : List Meta} (s : SlR G 40 Meta.cells h xs) {k : Nat} (hk : k < xs.length) : RdNP G h.b (h.o + k * 40) (xs.getD k Meta.zero).cells :=
  s.rd k _ (by simp [hk])
theorem SlR.gat {G : PM} {h : Sh} {xs : List Meta} (s : SlR G 40 Meta.cells h xs) {j : Int} (k : Nat) (hj : j.toNat = k) (hk : k < xs.length) : RdNP G h.b (h.o + j.toNat * 40) (xs.getD k Meta.zero).cells := by
  rw [hj]; exact s.get hk
theorem getD_mem {xs : List Meta} {k : Nat} (h : k < xs.length) : xs.getD k Meta.zero ∈ xs := by simp [h]

def lt (a b : ByteArray) : Bool := Op.bytesLess a.toList b.toList
def le (a b : ByteArray) : Bool := Op.bytesLess a.toList b.toList || a.toList == b.toList
/-- P18.1: a meta that is right for a state. -/
def good (s : State) (m : Meta) : Bool :=
  decide (m.level < 5) && le m.min m.max && decide ((m.min.size : Int) ≤ 1024) && decide ((m.max.size : Int) ≤ 1024) && decide (m.count ≥ 1) && decide (m.size ≥ 1) && decide (m.number < s.next) && decide (m.gen ≤ s.gens m.level.toNat)
/-- May a table stand ahead of another one, on a level? -/
def pairOk (level : Int) (a b : Meta) : Bool := if level = 0 then decide (b.number < a.number) else lt a.max b.min

theorem stands_eq (a b : Meta) (h0 : 0 ≤ a.level) : (if (a.level == 0) = true then decide (a.number > b.number) else lt a.max b.min) = pairOk a.level a b := by
  unfold pairOk
  by_cases h : a.level = 0
  · simp [h]
  · simp [h]
theorem bmax (a b : Int) : (if b > a then b else a) > 1024 ↔ ¬ (a ≤ 1024 ∧ b ≤ 1024) := by split <;> omega

theorem fits_fin {s : State} {m : Meta} (h1 : m.level < 5) (h2 : (!(Op.bytesLess m.min.toList m.max.toList || m.min.toList == m.max.toList)) = false)
    (h3 : (if ((m.max.size : Nat) : Int) > ((m.min.size : Nat) : Int) then ((m.max.size : Nat) : Int) else ((m.min.size : Nat) : Int)) ≤ 1024) (h4 : 1 ≤ m.count) (h5 : 1 ≤ m.size) :
    tup [.bool (decide (m.number < s.next) && decide (m.gen ≤ s.gens m.level.toNat))] = .bool (good s m) := by
  have h2' : le m.min m.max = true := by unfold le; cases h : (Op.bytesLess m.min.toList m.max.toList || m.min.toList == m.max.toList) <;> simp_all
  have h6 : ((m.min.size : Nat) : Int) ≤ 1024 ∧ ((m.max.size : Nat) : Int) ≤ 1024 := by split at h3 <;> omega
  simp only [tup, good, h2', decide_eq_true h1, decide_eq_true h6.1, decide_eq_true h6.2, decide_eq_true (show m.count ≥ 1 from h4), decide_eq_true (show m.size ≥ 1 from h5), Bool.true_and]
/-- How many tables the first levels have. -/
def tot (s : State) : Nat → Int
  | 0 => 0
  | n + 1 => tot s n + (s.lv n).length
theorem tot_nonneg (s : State) : ∀ n, 0 ≤ tot s n
  | 0 => Int.le_refl _
  | n + 1 => by have := tot_nonneg s n; simp only [tot]; omega
theorem tot_mono (s : State) : ∀ {n m : Nat}, n ≤ m → tot s n ≤ tot s m := by
  intro n m h
  induction h with
  | refl => exact Int.le_refl _
  | step _ ih => simp only [tot]; omega
def nums (l : List Meta) : List Int := l.map (·.number)
def allM (s : State) : Nat → List Meta
  | 0 => []
  | n + 1 => allM s n ++ s.lv n
theorem allM_len (s : State) : ∀ n, ((allM s n).length : Int) = tot s n
  | 0 => rfl
  | n + 1 => by simp only [allM, tot, List.length_append, ← allM_len s n]; omega
theorem mem_allM {s : State} {m : Meta} : ∀ {n : Nat}, m ∈ allM s n ↔ ∃ i, i < n ∧ m ∈ s.lv i
  | 0 => by simp [allM]
  | n + 1 => by
    simp only [allM, List.mem_append, mem_allM (n := n)]
    constructor
    · rintro (⟨i, hi, hm⟩ | hm)
      · exact ⟨i, by omega, hm⟩
      · exact ⟨n, by omega, hm⟩
    · rintro ⟨i, hi, hm⟩
      by_cases h : i = n
      · subst h; exact .inr hm
      · exact .inl ⟨i, by omega, hm⟩
/-- A level's tables are right and stand as they must. -/
def LvOk (s : State) (i : Nat) (l : List Meta) : Prop :=
  (∀ m ∈ l, m.level = i ∧ good s m = true) ∧ ∀ j, j + 1 < l.length → pairOk i (l.getD j Meta.zero) (l.getD (j + 1) Meta.zero) = true
/-- P18.1. -/
structure RightP (s : State) : Prop where
  seq : s.seq ≤ 72057594037927935
  least : s.least ≤ 72057594037927935
  log : s.log ≤ s.next
  few : tot s 5 ≤ 1024
  lv : ∀ i, i < 5 → LvOk s i (s.lv i)
  apart : ∀ a b, a < (allM s 5).length → b < a → ((allM s 5).getD a Meta.zero).number ≠ ((allM s 5).getD b Meta.zero).number
noncomputable def rightS (s : State) : Bool := B (RightP s)
theorem rightS_true {s : State} (h : RightP s) : rightS s = true := B_true h
theorem rightS_false {s : State} (h : ¬ RightP s) : rightS s = false := B_false h
theorem rightP_of {s : State} (h : rightS s = true) : RightP s := B_iff.1 h

noncomputable def ordB (level : Int) (l : List Meta) : Bool := B (∀ j, j + 1 < l.length → pairOk level (l.getD j Meta.zero) (l.getD (j + 1) Meta.zero) = true)
theorem ordB_iff {level : Int} {l : List Meta} : ordB level l = true ↔ ∀ j, j + 1 < l.length → pairOk level (l.getD j Meta.zero) (l.getD (j + 1) Meta.zero) = true := B_iff
/-- The document's test of two tables that stand side by side. -/
def wrongPair (level : Int) (a b : Meta) : Bool :=
  (level == 0) && decide (a.number ≤ b.number) || (decide (level > 0) && !(lt a.max b.min))
theorem wrongPair_eq {level : Int} (h0 : 0 ≤ level) (a b : Meta) : wrongPair level a b = !pairOk level a b := by
  unfold wrongPair pairOk
  by_cases h : level = 0
  · subst h; by_cases hh : b.number < a.number <;> simp [hh] <;> omega
  · have : level > 0 := by omega
    simp [h, this]
theorem wrong_of {level : Int} {a b : Meta} {r : Bool} (h0 : 0 ≤ level) (h : ((level == 0) && decide (a.number ≤ b.number) || (decide (level > 0) && !(Op.bytesLess a.max.toList b.min.toList))) = r) : pairOk level a b = !r := by
  rw [← h]; show _ = !(wrongPair level a b); rw [wrongPair_eq h0]; simp
theorem ord_true {level : Int} {l : List Meta} {k : Nat} (h : l.length ≤ k) (hall : ∀ j, j + 1 < k → pairOk level (l.getD j Meta.zero) (l.getD (j + 1) Meta.zero) = true) : tup [.bool true] = .bool (ordB level l) := by
  have : ordB level l = true := ordB_iff.2 fun j hj => hall j (by omega)
  rw [this]; rfl
theorem ord_false {level : Int} {l : List Meta} {k : Nat} (h1 : 1 ≤ k) (h2 : k < l.length) (hw : pairOk level (l.getD (k - 1) Meta.zero) (l.getD k Meta.zero) = false) : tup [.bool false] = .bool (ordB level l) := by
  have : ordB level l = false := by
    refine B_false fun hh => ?_
    have := hh (k - 1) (by omega)
    rw [show k - 1 + 1 = k by omega] at this
    rw [this] at hw; cases hw
  rw [this]; rfl
theorem ord_step {level : Int} {l : List Meta} {k : Nat} (hall : ∀ j, j + 1 < k → pairOk level (l.getD j Meta.zero) (l.getD (j + 1) Meta.zero) = true) (h1 : 1 ≤ k) (hw : pairOk level (l.getD (k - 1) Meta.zero) (l.getD k Meta.zero) = true) :
    ∀ j, j + 1 < k + 1 → pairOk level (l.getD j Meta.zero) (l.getD (j + 1) Meta.zero) = true := by
  intro j hj
  by_cases h : j + 1 = k
  · subst h; simpa using hw
  · exact hall j (by omega)
theorem metas_len (l : List Meta) : ∀ x ∈ l, x.cells.length = 40 := fun x _ => x.len
theorem metas_one (l : List Meta) : ∀ u ∈ l.flatMap Meta.cells, u.oneCell' = true := fun u hu => by
  obtain ⟨m, _, hm⟩ := List.mem_flatMap.1 hu
  exact m.one u hm
theorem allM_row (s : State) (k : Nat) (v : Value) (E : Nat) : Res.row v E 40 ((allM s k).length + (s.lv k).length) ((allM s k).flatMap Meta.cells ++ (s.lv k).flatMap Meta.cells) = Res.row v E 40 (allM s (k + 1)).length ((allM s (k + 1)).flatMap Meta.cells) := by
  simp only [allM, List.length_append, List.flatMap_append]

/-! ### What the loops come to -/
theorem fin_false {s : State} (h : ¬ RightP s) : tup [.bool false] = .bool (rightS s) := by rw [rightS_false h]; rfl
theorem fin_true {s : State} (h : RightP s) : tup [.bool true] = .bool (rightS s) := by rw [rightS_true h]; rfl
theorem rs_head {s : State} (h : ((72057594037927935 < s.seq ∨ 72057594037927935 < s.least) ∨ s.next < s.log) ∨ 1024 < tot s 5) : ¬ RightP s := by
  intro hr
  have h1 := hr.seq; have h2 := hr.least; have h3 := hr.log; have h4 := hr.few
  omega
theorem rs_ord {s : State} {i : Nat} (hi : i < 5) (h : ordB i (s.lv i) = false) : ¬ RightP s := by
  intro hr
  have := ordB_iff.2 (hr.lv i hi).2
  rw [this] at h; cases h
theorem rs_good {s : State} {i k : Nat} (hi : i < 5) (hk : k < (s.lv i).length) (h : (((s.lv i).getD k Meta.zero).level != (i : Int)) = true ∨ good s ((s.lv i).getD k Meta.zero) = false) : ¬ RightP s := by
  intro hr
  have := (hr.lv i hi).1 _ (getD_mem hk)
  rcases h with h | h
  · rw [this.1] at h; simp at h
  · rw [this.2] at h; cases h
theorem good_step {s : State} {i k : Nat} (hg : ∀ j, j < k → ((s.lv i).getD j Meta.zero).level = i ∧ good s ((s.lv i).getD j Meta.zero) = true)
    (h : (((s.lv i).getD k Meta.zero).level != (i : Int)) = false ∧ good s ((s.lv i).getD k Meta.zero) = true) : ∀ j, j < k + 1 → ((s.lv i).getD j Meta.zero).level = i ∧ good s ((s.lv i).getD j Meta.zero) = true := by
  intro j hj
  by_cases e : j = k
  · subst e; exact ⟨by simpa using h.1, h.2⟩
  · exact hg j (by omega)
theorem lv_step {s : State} {i k : Nat} (hall : ∀ j, j < i → LvOk s j (s.lv j)) (ho : ordB i (s.lv i) = true) (hk : (s.lv i).length ≤ k) (hg : ∀ j, j < k → ((s.lv i).getD j Meta.zero).level = i ∧ good s ((s.lv i).getD j Meta.zero) = true) :
    ∀ j, j < i + 1 → LvOk s j (s.lv j) := by
  intro j hj
  by_cases e : j = i
  · subst e
    refine ⟨fun m hm => ?_, ordB_iff.1 ho⟩
    obtain ⟨q, hq, rfl⟩ := List.getElem_of_mem hm
    have := hg q (by omega)
    simpa [hq] using this
  · exact hall j (by omega)
theorem num_step1 {s : State} {p q : Nat} (h : ∀ b, b < q → ((allM s 5).getD p Meta.zero).number ≠ ((allM s 5).getD b Meta.zero).number) (hc : (((allM s 5).getD p Meta.zero).number == ((allM s 5).getD q Meta.zero).number) = false) :
    ∀ b, b < q + 1 → ((allM s 5).getD p Meta.zero).number ≠ ((allM s 5).getD b Meta.zero).number := by
  intro b hb
  by_cases e : b = q
  · subst e; simpa using hc
  · exact h b (by omega)
theorem num_step {s : State} {p q : Nat} (h : ∀ a b, a < p → b < a → ((allM s 5).getD a Meta.zero).number ≠ ((allM s 5).getD b Meta.zero).number) (hq : p ≤ q) (h1 : ∀ b, b < q → ((allM s 5).getD p Meta.zero).number ≠ ((allM s 5).getD b Meta.zero).number) :
    ∀ a b, a < p + 1 → b < a → ((allM s 5).getD a Meta.zero).number ≠ ((allM s 5).getD b Meta.zero).number := by
  intro a b ha hb
  by_cases e : a = p
  · subst e; exact h1 b (by omega)
  · exact h a b (by omega) hb
theorem rs_num {s : State} {p q : Nat} (hp : p < (allM s 5).length) (hq : q < p) (h : (((allM s 5).getD p Meta.zero).number == ((allM s 5).getD q Meta.zero).number) = true) : ¬ RightP s := by
  intro hr
  exact hr.apart p q hp hq (by simpa using h)
theorem rs_all {s : State} {i p : Nat} (h1 : ((s.seq ≤ 72057594037927935 ∧ s.least ≤ 72057594037927935) ∧ s.log ≤ s.next) ∧ tot s 5 ≤ 1024) (hi : 5 ≤ i) (hall : ∀ j, j < i → LvOk s j (s.lv j)) (hp : (allM s 5).length ≤ p)
    (hn : ∀ a b, a < p → b < a → ((allM s 5).getD a Meta.zero).number ≠ ((allM s 5).getD b Meta.zero).number) : RightP s := by
  exact ⟨h1.1.1.1, h1.1.1.2, h1.1.2, h1.2, fun j hj => hall j (by omega), fun a b ha hb => hn a b (by omega) hb⟩
end Go.Tan

namespace Go.Tan

theorem State.arr_lv (s : State) (hd : Nat → Sh) {k : Nat} (h : k < 5) : (((s.cells hd).drop 0).take 5)[k]? = some ((hd k).val (s.lv k).length) := by
  match k, h with
  | 0, _ => rfl | 1, _ => rfl | 2, _ => rfl | 3, _ => rfl | 4, _ => rfl
theorem RdNP.add {G : PM} {b : Nat} {cs : List Value} {T : TypeId} : RdNP (G.add b (cl cs T)) b 0 cs := fun j v hj => by
  rw [Nat.zero_add]; exact RdP.blk (PM.add_same G b _) hj

/-- How often a number was seen: once or never. -/
def cnt (L : List Int) (x : Int) : Int := if x ∈ L then 1 else 0
def cntM (L : List Int) (x : Int) : Option Value := if x ∈ L then some (.int .i64 1) else none
theorem cnt_get (L : List Int) (x : Int) : (cntM L x).getD (.int .i64 0) = .int .i64 (cnt L x) := by unfold cntM cnt; split <;> rfl
theorem cnt_bd (L : List Int) (x : Int) : 0 ≤ cnt L x ∧ cnt L x ≤ 1 := by unfold cnt; split <;> omega
theorem cnt_upd (m : Int → Option Value) (x : Int) (u z : Value) : ((fun j => if j = x then some u else m j) x).getD z = u := by simp
theorem cnt_push {L : List Int} {x : Int} (h : x ∉ L) : (fun j => if j = x then some (Value.int .i64 (cnt L x + 1)) else cntM L j) = cntM (L ++ [x]) := by
  funext j
  unfold cntM cnt
  by_cases hj : j = x
  · subst hj; simp [h]
  · simp [hj]
theorem cnt_not {L : List Int} {x : Int} (h : cnt L x + 1 ≤ 1) : x ∉ L := by intro hm; simp [cnt, hm] at h
theorem cnt_mem {L : List Int} {x : Int} (h : 1 < cnt L x + 1) : x ∈ L := by
  by_cases hm : x ∈ L
  · exact hm
  · simp [cnt, hm] at h

def Dist (l : List Meta) : Prop := ∀ a b, a < l.length → b < a → (l.getD a Meta.zero).number ≠ (l.getD b Meta.zero).number
theorem getD_app_left {l r : List Meta} {k : Nat} (h : k < l.length) : (l ++ r).getD k Meta.zero = l.getD k Meta.zero := by
  simp [List.getElem?_append_left h]
theorem getD_app_at {l r : List Meta} {m : Meta} : (l ++ m :: r).getD l.length Meta.zero = m := by simp
theorem dist_nil : Dist [] := fun a b h => by simp at h
theorem dist_push {l : List Meta} {m : Meta} (h : Dist l) (hm : m.number ∉ nums l) : Dist (l ++ [m]) := by
  intro a b ha hb
  simp only [List.length_append, List.length_singleton] at ha
  by_cases e : a = l.length
  · subst e
    rw [getD_app_at, getD_app_left hb]
    intro e
    exact hm (List.mem_map.2 ⟨_, getD_mem hb, e.symm⟩)
  · rw [getD_app_left (by omega), getD_app_left (by omega)]
    exact h a b (by omega) hb
/-- The tables of the first levels stand ahead of all. -/
theorem allM_pre (s : State) {i : Nat} : ∀ {n : Nat}, i < n → ∃ r, allM s n = allM s i ++ s.lv i ++ r
  | 0, h => by omega
  | n + 1, h => by
    by_cases e : i = n
    · subst e; exact ⟨[], by simp [allM]⟩
    · obtain ⟨r, hr⟩ := allM_pre s (i := i) (n := n) (by omega)
      exact ⟨r ++ s.lv n, by simp [allM, hr]⟩
theorem take_snoc {l : List Meta} {k : Nat} (h : k < l.length) : l.take (k + 1) = l.take k ++ [l.getD k Meta.zero] := by
  rw [List.take_succ_eq_append_getElem h]; simp [h]
theorem rs_dup {s : State} {i k : Nat} (hi : i < 5) (hk : k < (s.lv i).length) (h : ((s.lv i).getD k Meta.zero).number ∈ nums (allM s i ++ (s.lv i).take k)) : ¬ RightP s := by
  intro hr
  obtain ⟨r, hr5⟩ := allM_pre s hi
  have hsplit : allM s 5 = (allM s i ++ (s.lv i).take k) ++ ((s.lv i).getD k Meta.zero) :: ((s.lv i).drop (k + 1) ++ r) := by
    rw [hr5]
    have : s.lv i = (s.lv i).take k ++ (s.lv i).getD k Meta.zero :: (s.lv i).drop (k + 1) := by
      have h1 := List.take_append_drop (k + 1) (s.lv i)
      rw [take_snoc hk] at h1
      simpa using h1.symm
    generalize hm : (s.lv i).getD k Meta.zero = m at this
    rw [show allM s i ++ s.lv i ++ r = allM s i ++ (s.lv i) ++ r from rfl]
    conv => lhs; rw [this]
    simp
  obtain ⟨m, hm, hmn⟩ := List.mem_map.1 h
  obtain ⟨b, hb, rfl⟩ := List.getElem_of_mem hm
  have := hr.apart (allM s i ++ (s.lv i).take k).length b (by rw [hsplit]; simp) hb
  rw [hsplit, getD_app_at, getD_app_left hb] at this
  apply this
  rw [← hmn, List.getD_eq_getElem?_getD, List.getElem?_eq_getElem hb]
  rfl

theorem cnt_zero (s : State) (i b : Nat) : Res.mp b .u64 (cntM (nums (allM s i))) = Res.mp b .u64 (cntM (nums (allM s i ++ (s.lv i).take 0))) := by simp
theorem cnt_next {s : State} {i k b : Nat} (h : (s.lv i).length ≤ k) : Res.mp b .u64 (cntM (nums (allM s i ++ (s.lv i).take k))) = Res.mp b .u64 (cntM (nums (allM s (i + 1)))) := by
  rw [List.take_of_length_le h]; rfl
theorem cnt_step {s : State} {i k b : Nat} (hk : k < (s.lv i).length) (h : ((s.lv i).getD k Meta.zero).number ∉ nums (allM s i ++ (s.lv i).take k)) :
    Res.mp b .u64 (fun j => if j = ((s.lv i).getD k Meta.zero).number then some (Value.int .i64 (cnt (nums (allM s i ++ (s.lv i).take k)) ((s.lv i).getD k Meta.zero).number + 1)) else cntM (nums (allM s i ++ (s.lv i).take k)) j) =
      Res.mp b .u64 (cntM (nums (allM s i ++ (s.lv i).take (k + 1)))) := by
  rw [cnt_push h, take_snoc hk]
  simp [nums]
/-- What is known of a level's first tables. -/
structure Part (s : State) (i k : Nat) : Prop where
  le : k ≤ (s.lv i).length
  good : ∀ j, j < k → ((s.lv i).getD j Meta.zero).level = i ∧ good s ((s.lv i).getD j Meta.zero) = true
  pair : ∀ j, j + 1 < k → pairOk i ((s.lv i).getD j Meta.zero) ((s.lv i).getD (j + 1) Meta.zero) = true
  dist : Dist (allM s i ++ (s.lv i).take k)
theorem Part.zero {s : State} {i : Nat} (h : Dist (allM s i)) : Part s i 0 := ⟨Nat.zero_le _, fun j hj => by omega, fun j hj => by omega, by simpa using h⟩
theorem Part.step {s : State} {i k : Nat} (h : Part s i k) (hk : k < (s.lv i).length) (h1 : ((s.lv i).getD k Meta.zero).level = i ∧ Go.Tan.good s ((s.lv i).getD k Meta.zero) = true)
    (h2 : ((s.lv i).getD k Meta.zero).number ∉ nums (allM s i ++ (s.lv i).take k)) (h3 : 0 < k → pairOk i ((s.lv i).getD (k - 1) Meta.zero) ((s.lv i).getD k Meta.zero) = true) : Part s i (k + 1) := by
  refine ⟨by omega, fun j hj => ?_, fun j hj => ?_, ?_⟩
  · by_cases e : j = k
    · subst e; exact h1
    · exact h.good j (by omega)
  · by_cases e : j + 1 = k
    · subst e; have := h3 (by omega); simpa using this
    · exact h.pair j (by omega)
  · rw [take_snoc hk, ← List.append_assoc]; exact dist_push h.dist h2
theorem Part.lvOk {s : State} {i k : Nat} (h : Part s i k) (hk : (s.lv i).length ≤ k) : LvOk s i (s.lv i) :=
  ⟨fun m hm => by
    obtain ⟨q, hq, rfl⟩ := List.getElem_of_mem hm
    have := h.good q (by omega)
    simpa [hq] using this, fun j hj => h.pair j (by omega)⟩
theorem Part.next {s : State} {i k : Nat} (h : Part s i k) (hk : (s.lv i).length ≤ k) : Dist (allM s (i + 1)) := by
  have := h.dist; rw [List.take_of_length_le hk] at this; exact this
theorem rs_few {s : State} {i : Nat} (hi : i < 5) (h : 1024 - tot s i < (s.lv i).length) : ¬ RightP s := by
  intro hr
  have h1 := tot_mono s (show i + 1 ≤ 5 by omega)
  rw [show tot s (i + 1) = tot s i + (s.lv i).length from rfl] at h1
  have := hr.few
  omega
theorem rs_max {s : State} (h : 72057594037927935 < (if s.least > s.seq then s.least else s.seq) ∨ s.next < s.log) : ¬ RightP s := by
  intro hr
  have h1 := hr.seq; have h2 := hr.least; have h3 := hr.log
  rcases h with h | h
  · split at h <;> omega
  · omega
theorem rs_done {s : State} {i : Nat} (h1 : (if s.least > s.seq then s.least else s.seq) ≤ 72057594037927935 ∧ s.log ≤ s.next) (hi : i = 5) (ht : tot s i ≤ 1024) (hall : ∀ j, j < i → LvOk s j (s.lv j)) (hd : Dist (allM s i)) : RightP s := by
  subst hi
  refine ⟨?_, ?_, h1.2, ht, hall, hd⟩
  · have := h1.1; split at this <;> omega
  · have := h1.1; split at this <;> omega
/-- The program's test of one table, taken apart. -/
theorem rt_bad {s : State} {i k : Nat} (hi : i < 5) (hk : k < (s.lv i).length) (hp : Part s i k)
    (h : ((((s.lv i).getD k Meta.zero).level != (i : Int)) || !good s ((s.lv i).getD k Meta.zero) || decide (cnt (nums (allM s i ++ (s.lv i).take k)) ((s.lv i).getD k Meta.zero).number + 1 > 1) ||
      (decide ((k : Int) > 0) && !pairOk ((s.lv i).getD (k - 1) Meta.zero).level ((s.lv i).getD (k - 1) Meta.zero) ((s.lv i).getD k Meta.zero))) = true) : ¬ RightP s := by
  simp only [Bool.or_eq_true, Bool.and_eq_true, decide_eq_true_eq, Bool.not_eq_true'] at h
  rcases h with ((h | h) | h) | ⟨h1, h2⟩
  · exact rs_good hi hk (.inl h)
  · exact rs_good hi hk (.inr h)
  · exact rs_dup hi hk (cnt_mem (by omega))
  · intro hr
    have h3 := (hr.lv i hi).2 (k - 1) (by omega)
    rw [show k - 1 + 1 = k by omega] at h3
    rw [(hp.good (k - 1) (by omega)).1, h3] at h2
    cases h2
theorem rt_good {s : State} {i k : Nat} (hk : k < (s.lv i).length) (hp : Part s i k)
    (h : ((((s.lv i).getD k Meta.zero).level != (i : Int)) || !good s ((s.lv i).getD k Meta.zero) || decide (cnt (nums (allM s i ++ (s.lv i).take k)) ((s.lv i).getD k Meta.zero).number + 1 > 1) ||
      (decide ((k : Int) > 0) && !pairOk ((s.lv i).getD (k - 1) Meta.zero).level ((s.lv i).getD (k - 1) Meta.zero) ((s.lv i).getD k Meta.zero))) = false) :
    Part s i (k + 1) ∧ ((s.lv i).getD k Meta.zero).number ∉ nums (allM s i ++ (s.lv i).take k) := by
  simp only [Bool.or_eq_false_iff, Bool.and_eq_false_iff, decide_eq_false_iff_not, Bool.not_eq_false', bne_eq_false_iff_eq] at h
  obtain ⟨⟨⟨h1, h2⟩, h3⟩, h4⟩ := h
  have hn := cnt_not (show cnt (nums (allM s i ++ (s.lv i).take k)) ((s.lv i).getD k Meta.zero).number + 1 ≤ 1 by omega)
  refine ⟨hp.step hk ⟨h1, h2⟩ hn fun h0 => ?_, hn⟩
  rcases h4 with h4 | h4
  · omega
  · rw [(hp.good (k - 1) (by omega)).1] at h4; exact h4

/-! ### How much a level has -/
def over : Int → List Meta → Bool
  | _, [] => false
  | r, m :: ms => if m.size > r then true else over (r - m.size) ms
def fullB (s : State) (o : Opts) (level : Int) : Bool := if level = 0 then decide (((s.lv 0).length : Int) ≥ o.zero) else over (limit o level) (s.lv level.toNat)
noncomputable def fullTop (s : State) (o : Opts) (level : Int) : Bool := decide (level ≥ 0) && decide (level ≤ 3) && rightO o && rightS s && fullB s o level
theorem limit_bd (o : Opts) (level : Int) : 0 ≤ limit o level ∧ limit o level ≤ 1000000000000 := by
  unfold limit
  split
  · omega
  · rename_i h
    simp only [not_or, Bool.not_eq_false] at h
    have := pow_small o (level - 1).toNat h.2.2 (by omega)
    omega
theorem drop_at {l : List Meta} {k : Nat} (h : k < l.length) : l.drop k = l.getD k Meta.zero :: l.drop (k + 1) := by
  rw [List.drop_eq_getElem_cons h]; simp [h]
theorem over_step {L r : Int} {l : List Meta} {k : Nat} (h : over L l = over r (l.drop k)) (hk : k < l.length) (hc : (l.getD k Meta.zero).size ≤ r) : over L l = over (r - (l.getD k Meta.zero).size) (l.drop (k + 1)) := by
  rw [h, drop_at hk]; simp only [over]; rw [if_neg (by omega)]
theorem over_hit {r : Int} {l : List Meta} {k : Nat} (hk : k < l.length) (hc : r < (l.getD k Meta.zero).size) : over r (l.drop k) = true := by
  rw [drop_at hk]; simp only [over]; rw [if_pos (by omega)]
theorem over_end {r : Int} {l : List Meta} {k : Nat} (hk : l.length ≤ k) : over r (l.drop k) = false := by
  rw [List.drop_of_length_le hk]; rfl
theorem right_sizes {s : State} {level : Int} (h : rightS s = true) (h5 : level < 5) : ∀ m ∈ s.lv level.toNat, 1 ≤ m.size := by
  intro m hm
  have := ((rightP_of h).lv level.toNat (by omega)).1 m hm
  have hg := this.2
  simp only [good, Bool.and_eq_true, decide_eq_true_eq] at hg
  omega
theorem ft_no {s : State} {o : Opts} {level : Int} (h : ((rightS s = false ∨ rightO o = false) ∨ level < 0) ∨ 3 < level) : tup [.bool false] = .bool (fullTop s o level) := by
  have : fullTop s o level = false := by
    unfold fullTop
    rcases h with ((h | h) | h) | h
    · simp [h]
    · simp [h]
    · rw [decide_eq_false (by omega : ¬ level ≥ 0)]; simp
    · rw [decide_eq_false (by omega : ¬ level ≤ 3)]; simp
  rw [this]; rfl
theorem ft_more {s : State} {o : Opts} {level : Int} {r : Bool} (h : ((rightS s = true ∧ rightO o = true) ∧ 0 ≤ level) ∧ level ≤ 3) (h0 : (level == 0) = false) (hr : over (limit o level) (s.lv level.toNat) = r) : tup [.bool r] = .bool (fullTop s o level) := by
  have : fullTop s o level = r := by
    unfold fullTop fullB
    rw [if_neg (by simpa using h0), hr, decide_eq_true (by omega : level ≥ 0), decide_eq_true h.2, h.1.1.1, h.1.1.2]; rfl
  rw [this]; rfl
theorem ft_zero {s : State} {o : Opts} {level : Int} (h : ((rightS s = true ∧ rightO o = true) ∧ 0 ≤ level) ∧ level ≤ 3) (h0 : (level == 0) = true) : tup [.bool (decide (((s.lv 0).length : Int) ≥ o.zero))] = .bool (fullTop s o level) := by
  have : fullTop s o level = decide (((s.lv 0).length : Int) ≥ o.zero) := by
    unfold fullTop fullB
    rw [if_pos (by simpa using h0), decide_eq_true (by omega : level ≥ 0), decide_eq_true h.2, h.1.1.1, h.1.1.2]; rfl
  rw [this]; rfl

/-! ### The first one -/
def isOld (s : State) (level : Int) (m : Meta) : Bool := decide (m.gen < s.gens level.toNat)
def idxI (p : Meta → Bool) (l : List Meta) : Int := match l.findIdx? p with | some i => i | none => -1
theorem idx_step {p : Meta → Bool} {l : List Meta} {k : Nat} (h : ∀ j, j < k → p (l.getD j Meta.zero) = false) (hk : p (l.getD k Meta.zero) = false) : ∀ j, j < k + 1 → p (l.getD j Meta.zero) = false := by
  intro j hj
  by_cases e : j = k
  · subst e; exact hk
  · exact h j (by omega)
theorem idx_none {p : Meta → Bool} {l : List Meta} {k : Nat} (hk : l.length ≤ k) (h : ∀ j, j < k → p (l.getD j Meta.zero) = false) : tup [.int .i64 (-1)] = .int .i64 (idxI p l) := by
  have : l.findIdx? p = none := by
    rw [List.findIdx?_eq_none_iff]
    intro m hm
    obtain ⟨q, hq, rfl⟩ := List.getElem_of_mem hm
    have := h q (by omega)
    simpa [hq] using this
  simp [idxI, this, tup]
theorem idx_hit {p : Meta → Bool} {l : List Meta} {k : Nat} (hk : k < l.length) (h : ∀ j, j < k → p (l.getD j Meta.zero) = false) (hp : p (l.getD k Meta.zero) = true) : tup [.int .i64 (k : Int)] = .int .i64 (idxI p l) := by
  have : l.findIdx? p = some k := by
    rw [List.findIdx?_eq_some_iff_getElem]
    refine ⟨hk, by simpa [hk] using hp, fun j hj => ?_⟩
    have := h j hj
    simpa [show j < l.length by omega] using this
  simp [idxI, this, tup]
def oldTop (s : State) (level : Int) : Bool := decide (level ≥ 0) && decide (level < 5) && decide (idxI (isOld s level) (s.lv level.toNat) ≥ 0)
theorem old_no {s : State} {level : Int} (h : level < 0 ∨ 5 ≤ level) : tup [.bool false] = .bool (oldTop s level) := by
  have : oldTop s level = false := by
    unfold oldTop
    rcases h with h | h
    · rw [decide_eq_false (by omega : ¬ level ≥ 0)]; simp
    · rw [decide_eq_false (by omega : ¬ level < 5)]; simp
  rw [this]; rfl
theorem old_hit {s : State} {level : Int} {k : Nat} (h : 0 ≤ level ∧ level < 5) (hk : k < (s.lv level.toNat).length) (hn : ∀ j, j < k → isOld s level ((s.lv level.toNat).getD j Meta.zero) = false) (hp : isOld s level ((s.lv level.toNat).getD k Meta.zero) = true) : tup [.bool true] = .bool (oldTop s level) := by
  have h1 := idx_hit hk hn hp
  simp only [tup, Value.int.injEq, true_and] at h1
  unfold oldTop
  rw [← h1, decide_eq_true (by omega : level ≥ 0), decide_eq_true h.2, decide_eq_true (by omega : (k : Int) ≥ 0)]; rfl
theorem old_none {s : State} {level : Int} {k : Nat} (h : 0 ≤ level ∧ level < 5) (hk : (s.lv level.toNat).length ≤ k) (hn : ∀ j, j < k → isOld s level ((s.lv level.toNat).getD j Meta.zero) = false) : tup [.bool false] = .bool (oldTop s level) := by
  have h1 := idx_none hk hn
  simp only [tup, Value.int.injEq, true_and] at h1
  unfold oldTop
  rw [← h1, decide_eq_true (by omega : level ≥ 0), decide_eq_true h.2]; rfl

/-! ### Lists that are gathered -/
def encU (x : Int) : List Value := [.int .u64 x]
theorem num_row {l : List Meta} {k E : Nat} {v : Value} (hk : k < l.length) : Res.row v E 1 (k + 1) ((nums (l.take k)).flatMap encU ++ [.int .u64 (l.getD k Meta.zero).number]) = Res.row v E 1 (k + 1) ((nums (l.take (k + 1))).flatMap encU) := by
  rw [take_snoc hk]; simp [nums, encU]
theorem num_val (l : List Meta) (h : Sh) : tup [h.val l.length] = h.val (nums l).length := by simp [tup, nums]
def ovp (lo hi : ByteArray) (m : Meta) : Bool := !lt m.max lo && le m.min hi
def ovl (s : State) (level : Int) (lo hi : ByteArray) : List Meta := if 0 ≤ level ∧ level < 5 then (s.lv level.toNat).filter (ovp lo hi) else []
theorem ovl_in {s : State} {level : Int} {lo hi : ByteArray} (h : 0 ≤ level ∧ level < 5) : ovl s level lo hi = (s.lv level.toNat).filter (ovp lo hi) := by rw [ovl, if_pos h]
theorem ovl_out {s : State} {level : Int} {lo hi : ByteArray} (h : level < 0 ∨ 5 ≤ level) : ovl s level lo hi = [] := by rw [ovl, if_neg (by omega)]
theorem filt_len (l : List Meta) (p : Meta → Bool) (k : Nat) : ((l.take k).filter p).length ≤ l.length := Nat.le_trans (List.length_filter_le _ _) (by simp only [List.length_take]; omega)
theorem ov_yes {l : List Meta} {lo hi : ByteArray} {k E : Nat} {v : Value} (hk : k < l.length) (h : ovp lo hi (l.getD k Meta.zero) = true) :
    Res.row v E 40 (((l.take k).filter (ovp lo hi)).length + 1) (((l.take k).filter (ovp lo hi)).flatMap Meta.cells ++ (l.getD k Meta.zero).cells) = Res.row v E 40 ((l.take (k + 1)).filter (ovp lo hi)).length (((l.take (k + 1)).filter (ovp lo hi)).flatMap Meta.cells) := by
  generalize hm : l.getD k Meta.zero = m at h ⊢
  rw [take_snoc hk, hm, List.filter_append, List.filter_cons_of_pos h]
  simp
theorem ov_no {l : List Meta} {lo hi : ByteArray} {k E : Nat} {v : Value} (hk : k < l.length) (h : ovp lo hi (l.getD k Meta.zero) = false) :
    Res.row v E 40 ((l.take k).filter (ovp lo hi)).length (((l.take k).filter (ovp lo hi)).flatMap Meta.cells) = Res.row v E 40 ((l.take (k + 1)).filter (ovp lo hi)).length (((l.take (k + 1)).filter (ovp lo hi)).flatMap Meta.cells) := by
  generalize hm : l.getD k Meta.zero = m at h
  rw [take_snoc hk, hm, List.filter_append, List.filter_cons_of_neg (by simp [h])]
  simp
end Go.Tan

namespace Go.Tan

structure Job where
  why : Int
  level : Int
  to : Int
  low : List Int
  high : List Int
def Job.cells (j : Job) (h1 h2 : Sh) : List Value := [.int .u8 j.why, .int .i64 j.level, .int .i64 j.to, h1.val j.low.length, h2.val j.high.length]
def Job.val (j : Job) (h1 h2 : Sh) : Value := .agg (j.cells h1 h2).toArray
def Job.zero : Job := ⟨0, 0, 0, [], []⟩
structure JobR (G : PM) (j : Job) (h1 h2 : Sh) : Prop where
  low : SlR G 1 encU h1 j.low
  high : SlR G 1 encU h2 j.high
  lenL : j.low.length * 112 ≤ 140737488351232
  lenH : j.high.length * 112 ≤ 140737488351232
theorem JobR.mono {G G' : PM} {j : Job} {h1 h2 : Sh} (h : JobR G j h1 h2) (hle : PM.le G G') : JobR G' j h1 h2 := ⟨h.low.mono hle, h.high.mono hle, h.lenL, h.lenH⟩
theorem JobR.zero {G : PM} : JobR G Job.zero ⟨none, 0⟩ ⟨none, 0⟩ := ⟨SlR.nul, SlR.nul, by decide, by decide⟩

def fmin (l : List Meta) (a : ByteArray) : ByteArray := l.foldl (fun x m => minS x m.min) a
def fmax (l : List Meta) (a : ByteArray) : ByteArray := l.foldl (fun x m => maxS x m.max) a
theorem minS_self (a : ByteArray) : minS a a = a := by unfold minS; split <;> rfl
theorem maxS_self (a : ByteArray) : maxS a a = a := by unfold maxS; split <;> rfl
def lowMin (l : List Meta) : ByteArray := fmin l (l.getD 0 Meta.zero).min
def lowMax (l : List Meta) : ByteArray := fmax l (l.getD 0 Meta.zero).max
theorem fmin_snoc {l : List Meta} {a : ByteArray} {k : Nat} (h : k < l.length) : fmin (l.take (k + 1)) a = minS (fmin (l.take k) a) (l.getD k Meta.zero).min := by
  rw [take_snoc h]; simp [fmin]
theorem fmax_snoc {l : List Meta} {a : ByteArray} {k : Nat} (h : k < l.length) : fmax (l.take (k + 1)) a = maxS (fmax (l.take k) a) (l.getD k Meta.zero).max := by
  rw [take_snoc h]; simp [fmax]
theorem fmin_one {l : List Meta} (h : 0 < l.length) : fmin (l.take 1) (l.getD 0 Meta.zero).min = (l.getD 0 Meta.zero).min := by
  rw [fmin_snoc h]; simp [fmin, minS_self]
theorem fmax_one {l : List Meta} (h : 0 < l.length) : fmax (l.take 1) (l.getD 0 Meta.zero).max = (l.getD 0 Meta.zero).max := by
  rw [fmax_snoc h]; simp [fmax, maxS_self]
def downJ (s : State) (why level : Int) (low : List Meta) : Job := ⟨why, level, level + 1, nums low, nums (ovl s (level + 1) (lowMin low) (lowMax low))⟩
theorem ovl_len {s : State} {G : PM} {hd : Nat → Sh} (hs : StR G s hd) (level : Int) (lo hi : ByteArray) : (ovl s level lo hi).length * 112 ≤ 140737488351232 := by
  unfold ovl
  split
  · rename_i h
    have h1 := hs.len level.toNat (by omega)
    have h2 := List.length_filter_le (ovp lo hi) (s.lv level.toNat)
    omega
  · simp
theorem nums_len (l : List Meta) : (nums l).length = l.length := by simp [nums]
theorem downJ_ok {G : PM} {s : State} {hd : Nat → Sh} {why level : Int} {low : List Meta} {h1 h2 : Sh} (hs : StR G s hd) (hl : low.length * 112 ≤ 140737488351232) (a : SlR G 1 encU h1 (nums low)) (b : SlR G 1 encU h2 (nums (ovl s (level + 1) (lowMin low) (lowMax low)))) : JobR G (downJ s why level low) h1 h2 :=
  ⟨a, b, by show (nums low).length * 112 ≤ _; rw [nums_len]; exact hl, by show (nums _).length * 112 ≤ _; rw [nums_len]; exact ovl_len hs _ _ _⟩

theorem Job.one (j : Job) (h1 h2 : Sh) : ∀ u ∈ j.cells h1 h2, u.oneCell' = true := by
  intro u hu
  simp only [Job.cells, List.mem_cons, List.not_mem_nil, or_false] at hu
  rcases hu with rfl | rfl | rfl | rfl | rfl <;> rfl
/-- The low tables of a full level. -/
def lowOf (s : State) (turn : Int) (i : Nat) : List Meta := if i = 0 then s.lv 0 else [(s.lv i).getD (turn.tmod ((s.lv i).length : Int)).toNat Meta.zero]
def pickF (s : State) (o : Opts) (turn : Int) : Nat → Nat → Option Job
  | 0, _ => none
  | n + 1, i => if fullB s o (i : Int) = true then some (downJ s 1 i (lowOf s turn i)) else pickF s o turn n (i + 1)
def oldI (s : State) (i : Nat) : Int := idxI (isOld s (i : Int)) (s.lv (i : Int).toNat)
def oldJ (s : State) (i : Nat) : Job := if i = 0 then downJ s 2 0 (s.lv 0) else ⟨2, i, i, nums [(s.lv i).getD (oldI s i).toNat Meta.zero], []⟩
def pickO (s : State) : Nat → Nat → Option Job
  | 0, _ => none
  | n + 1, i => if oldI s i < 0 then pickO s n (i + 1) else some (oldJ s i)
noncomputable def pickJ (s : State) (o : Opts) (turn : Int) : Job × Bool :=
  if rightO o = true ∧ rightS s = true then
    match pickF s o turn 4 0 with
    | some j => (j, true)
    | none => match pickO s 5 0 with
      | some j => (j, true)
      | none => (Job.zero, false)
  else (Job.zero, false)
def PickP (s : State) (o : Opts) (turn : Int) (G : PM) (u : Value) : Prop :=
  ∃ h1 h2 : Sh, u = .tuple #[(pickJ s o turn).1.val h1 h2, .bool (pickJ s o turn).2] ∧ JobR G (pickJ s o turn).1 h1 h2
theorem pick_fin {s : State} {o : Opts} {turn : Int} {j : Job} {b : Bool} {h1 h2 : Sh} {G : PM} (h : pickJ s o turn = (j, b)) (hj : JobR G j h1 h2) : PickP s o turn G (tup [.agg (j.cells h1 h2).toArray, .bool b]) :=
  ⟨h1, h2, by rw [h]; rfl, by rw [h]; exact hj⟩
theorem pick_no {s : State} {o : Opts} {turn : Int} (h : rightO o = false ∨ rightS s = false) : pickJ s o turn = (Job.zero, false) := by
  unfold pickJ; rw [if_neg]; rintro ⟨h1, h2⟩; rcases h with h | h <;> simp_all
theorem pick_full {s : State} {o : Opts} {turn : Int} {k : Nat} (h : rightO o = true ∧ rightS s = true) (hf : pickF s o turn 4 0 = pickF s o turn (4 - k) k) (hk : k < 4) (hb : fullB s o (k : Int) = true) : pickJ s o turn = (downJ s 1 k (lowOf s turn k), true) := by
  have : pickF s o turn 4 0 = some (downJ s 1 k (lowOf s turn k)) := by
    rw [hf, show 4 - k = (3 - k) + 1 by omega, pickF, if_pos hb]
  unfold pickJ; rw [if_pos h, this]
theorem pickF_step {s : State} {o : Opts} {turn : Int} {k : Nat} (hf : pickF s o turn 4 0 = pickF s o turn (4 - k) k) (hb : k < 4 → fullB s o (k : Int) = false) : pickF s o turn 4 0 = pickF s o turn (4 - (k + 1)) (k + 1) := by
  by_cases hk : k < 4
  · rw [hf, show 4 - k = (4 - (k + 1)) + 1 by omega, pickF, if_neg (by rw [hb hk]; decide)]
  · rw [hf, show 4 - k = 0 by omega, show 4 - (k + 1) = 0 by omega]; rfl
theorem pick_old {s : State} {o : Opts} {turn : Int} {k j : Nat} (h : rightO o = true ∧ rightS s = true) (hf : pickF s o turn 4 0 = pickF s o turn (4 - k) k) (hk : 4 ≤ k) (ho : pickO s 5 0 = pickO s (5 - j) j) (hj : j < 5) (hi : 0 ≤ oldI s j) : pickJ s o turn = (oldJ s j, true) := by
  have h1 : pickF s o turn 4 0 = none := by rw [hf, show 4 - k = 0 by omega]; rfl
  have h2 : pickO s 5 0 = some (oldJ s j) := by rw [ho, show 5 - j = (4 - j) + 1 by omega, pickO, if_neg (by omega)]
  unfold pickJ; rw [if_pos h, h1]; simp only; rw [h2]
theorem pickO_step {s : State} {j : Nat} (ho : pickO s 5 0 = pickO s (5 - j) j) (hj : j < 5) (hi : oldI s j < 0) : pickO s 5 0 = pickO s (5 - (j + 1)) (j + 1) := by
  rw [ho, show 5 - j = (5 - (j + 1)) + 1 by omega, pickO, if_pos hi]
theorem pick_none {s : State} {o : Opts} {turn : Int} {k j : Nat} (hf : pickF s o turn 4 0 = pickF s o turn (4 - k) k) (hk : 4 ≤ k) (ho : pickO s 5 0 = pickO s (5 - j) j) (hj : 5 ≤ j) : pickJ s o turn = (Job.zero, false) := by
  have h1 : pickF s o turn 4 0 = none := by rw [hf, show 4 - k = 0 by omega]; rfl
  have h2 : pickO s 5 0 = none := by rw [ho, show 5 - j = 0 by omega]; rfl
  unfold pickJ; rw [h1]; simp only; rw [h2]; split <;> rfl
theorem lowOf_zero {s : State} {turn : Int} {k : Nat} (h : k = 0) : lowOf s turn k = s.lv k := by subst h; simp [lowOf]
theorem lowOf_pos {s : State} {turn : Int} {k : Nat} (h : k ≠ 0) : lowOf s turn k = [(s.lv k).getD (turn.tmod ((s.lv k).length : Int)).toNat Meta.zero] := by simp [lowOf, h]
theorem oldJ_zero {s : State} {k : Nat} (h : k = 0) : oldJ s k = downJ s 2 0 (s.lv 0) := by simp [oldJ, h]
theorem oldJ_pos {s : State} {k : Nat} (h : k ≠ 0) : oldJ s k = ⟨2, k, k, nums [(s.lv k).getD (oldI s k).toNat Meta.zero], []⟩ := by simp [oldJ, h]
theorem full_ne {s : State} {o : Opts} {k : Nat} (h : rightO o = true) (hf : fullB s o (k : Int) = true) : 0 < (s.lv k).length := by
  unfold fullB at hf
  split at hf
  · rename_i hk
    obtain rfl : k = 0 := by omega
    simp only [rightO, within, Bool.and_eq_true, decide_eq_true_eq] at h hf
    omega
  · rw [Int.toNat_natCast] at hf
    cases hl : s.lv k with
    | nil => rw [hl] at hf; simp [over] at hf
    | cons a r => simp
theorem tm_bd {n : Nat} {turn : Int} (h0 : 0 ≤ turn) (hn : 0 < n) : 0 ≤ turn.tmod (n : Int) ∧ turn.tmod (n : Int) < n :=
  ⟨Int.tmod_nonneg _ h0, Int.tmod_lt_of_pos _ (by omega)⟩
theorem idx_bd {p : Meta → Bool} {l : List Meta} (h : 0 ≤ idxI p l) : (idxI p l).toNat < l.length := by
  unfold idxI at h ⊢
  cases hf : l.findIdx? p with
  | none => rw [hf] at h; simp at h
  | some i => simp only [Int.toNat_natCast]; exact (List.findIdx?_eq_some_iff_getElem.1 hf).1
theorem oldI_bd {s : State} {j : Nat} (h : 0 ≤ oldI s j) : (oldI s j).toNat < (s.lv j).length := idx_bd h
theorem at_some {l : List Meta} {k : Nat} (h : k < l.length) : l[k]? = some (l.getD k Meta.zero) := by simp [h]
theorem ft_is {s : State} {o : Opts} {k : Nat} (h : fullTop s o (k : Int) = true) : k < 4 ∧ fullB s o (k : Int) = true := by
  unfold fullTop at h; simp only [Bool.and_eq_true, decide_eq_true_eq] at h; exact ⟨by omega, by simp_all⟩
theorem ft_isnt {s : State} {o : Opts} {k : Nat} (hr : rightS s = true ∧ rightO o = true) (h : fullTop s o (k : Int) = false) : k < 4 → fullB s o (k : Int) = false := by
  intro hk; unfold fullTop at h; simp only [hr.1, hr.2, decide_eq_true (show (k : Int) ≥ 0 by omega), Bool.true_and] at h
  by_cases hb : fullB s o (k : Int) = true
  · simp [hb] at h; omega
  · simpa using hb
theorem ot_is {s : State} {j : Nat} (h : oldTop s (j : Int) = true) : 0 ≤ oldI s j := by
  unfold oldTop at h; simp only [Bool.and_eq_true, decide_eq_true_eq] at h; exact h.2
theorem ot_isnt {s : State} {j : Nat} (hj : j < 5) (h : oldTop s (j : Int) = false) : oldI s j < 0 := by
  unfold oldTop at h; simp only [decide_eq_true (show (j : Int) ≥ 0 by omega), decide_eq_true (show (j : Int) < 5 by omega), Bool.true_and, decide_eq_false_iff_not] at h
  unfold oldI; omega
theorem old_lt {s : State} {j q : Nat} (h : 0 ≤ oldI s j) (hq : q ≤ (s.lv j).length) (hn : ∀ i, i < q → isOld s (j : Int) ((s.lv j).getD i Meta.zero) = false) : q < (s.lv j).length := by
  rcases Nat.lt_or_ge q (s.lv j).length with h1 | h1
  · exact h1
  · have := idx_none (p := isOld s (j : Int)) h1 hn
    simp only [tup, Value.int.injEq, true_and] at this
    have h2 : oldI s j = idxI (isOld s (j : Int)) (s.lv j) := rfl
    omega
theorem old_at {s : State} {j q : Nat} (hq : q < (s.lv j).length) (hn : ∀ i, i < q → isOld s (j : Int) ((s.lv j).getD i Meta.zero) = false) (hp : isOld s (j : Int) ((s.lv j).getD q Meta.zero) = true) : oldI s j = q := by
  have := idx_hit (p := isOld s (j : Int)) hq hn hp
  simp only [tup, Value.int.injEq, true_and] at this
  exact this.symm
theorem gen_le {s : State} {j q : Nat} (h : rightS s = true) (hj : j < 5) (hq : q < (s.lv j).length) : ((s.lv j).getD q Meta.zero).gen ≤ s.gens j := by
  have h1 := ((rightP_of h).lv j hj).1 _ (getD_mem hq)
  have h2 := h1.2
  simp only [good, Bool.and_eq_true, decide_eq_true_eq] at h2
  have h3 := h2.2
  rw [h1.1, Int.toNat_natCast] at h3; exact h3
theorem isOld_eq {s : State} {j : Nat} {m : Meta} (h : (m.gen == s.gens j) = true) : isOld s (j : Int) m = false := by
  simp only [beq_iff_eq] at h; simp [isOld, h]
theorem isOld_ne {s : State} {j : Nat} {m : Meta} (h : (m.gen == s.gens j) = false) (hle : m.gen ≤ s.gens j) : isOld s (j : Int) m = true := by
  simp only [beq_eq_false_iff_ne, ne_eq] at h; simp only [isOld, Int.toNat_natCast, decide_eq_true_eq]; omega

def sameL (a b : List Int) : Bool := a == b
def sameJ (a b : Job) : Bool := decide (a.why = b.why ∧ a.level = b.level ∧ a.to = b.to ∧ a.low = b.low ∧ a.high = b.high)
theorem sameJ_self (a : Job) : sameJ a a = true := by simp [sameJ]

theorem SlR.ua {G : PM} {h : Sh} {xs : List Int} (s : SlR G 1 encU h xs) {j : Int} (k : Nat) (hj : j.toNat = k) (hk : k < xs.length) : RdP G ⟨h.b, h.o + j.toNat * 1, none⟩ (.int .u64 (xs.getD k 0)) := by
  have := s.rd k (xs.getD k 0) (by simp [hk]) 0 _ rfl
  rw [hj]; simpa using this
/-! ### The states that the law shows -/
def opts0 : Opts := ⟨100, 100, 1, 10, 10, 2, 10⟩
def State.zero : State := ⟨fun _ => [], 0, 0, 0, 0, fun _ => 0⟩
def hd0 : Nat → Sh := fun _ => ⟨none, 0⟩
def meta1 : Meta := ⟨0, 0, 0, 4, 1, 1, ByteArray.empty, ByteArray.empty, fun _ => 0⟩
def State.one : State := ⟨fun | 0 => [meta1] | _ => [], 0, 5, 0, 0, fun _ => 0⟩
def hd1 (b : Nat) : Nat → Sh := fun | 0 => ⟨some ⟨b, 0, none⟩, 1⟩ | _ => ⟨none, 0⟩
theorem st_zero {G : PM} : StR G State.zero hd0 := ⟨fun _ _ => SlR.nul, fun _ _ => Nat.zero_le _, fun _ _ m hm => nomatch hm⟩
theorem st_one {G : PM} {b : Nat} {T : TypeId} (h : G b = some (cl ([meta1].flatMap Meta.cells) T)) : StR G State.one (hd1 b) := by
  refine ⟨fun i _ => ?_, fun i _ => ?_, fun i _ m hm => ?_⟩
  · match i with
    | 0 => exact SlR.ofBlk h (metas_len _) (by decide)
    | n + 1 => exact SlR.nul
  · match i with
    | 0 => decide
    | n + 1 => exact Nat.zero_le _
  · match i, hm with
    | 0, hm =>
      obtain rfl : m = meta1 := by simpa [State.one] using hm
      exact ⟨by decide, by decide, by decide, by decide, by decide, by decide, by decide, by decide, fun _ _ => (show (0 : Int) ≤ 0 ∧ (0 : Int) ≤ 255 by decide)⟩
    | n + 1, hm => exact nomatch hm
theorem right_zero : rightS State.zero = true := by
  refine rightS_true ⟨by decide, by decide, by decide, by decide, fun i _ => ⟨fun m hm => (nomatch hm), fun j hj => absurd hj (Nat.not_lt_zero _)⟩, fun a b ha => absurd ha (Nat.not_lt_zero _)⟩
theorem good_one : good State.one meta1 = true := by
  simp [good, le, meta1, State.one]
theorem right_one : rightS State.one = true := by
  refine rightS_true ⟨by decide, by decide, by decide, by decide, fun i _ => ?_, fun a b ha hb => ?_⟩
  · match i with
    | 0 =>
      refine ⟨fun m hm => ?_, fun j hj => ?_⟩
      · obtain rfl : m = meta1 := by simpa [State.one] using hm
        exact ⟨rfl, good_one⟩
      · simp [State.one] at hj
    | n + 1 => exact ⟨fun m hm => (nomatch hm), fun j hj => absurd hj (Nat.not_lt_zero _)⟩
  · simp [allM, State.one] at ha; omega
theorem pick_zero : pickJ State.zero opts0 0 = (Job.zero, false) := by
  have h1 : pickF State.zero opts0 0 4 0 = none := rfl
  have h2 : pickO State.zero 5 0 = none := rfl
  unfold pickJ; rw [h1]; simp only; rw [h2]; split <;> rfl
theorem pick_one : pickJ State.one opts0 0 = (⟨1, 0, 1, [4], []⟩, true) := by
  have h1 : pickF State.one opts0 0 4 0 = some ⟨1, 0, 1, [4], []⟩ := rfl
  unfold pickJ; rw [if_pos ⟨by decide, right_one⟩, h1]

/-! ### Is there anything to be done? -/
noncomputable def busy (s : State) (o : Opts) : Nat → Bool
  | 0 => false
  | n + 1 => busy s o n || fullTop s o (n : Int) || oldTop s (n : Int)
def anyFrom (p : Nat → Bool) : Nat → Nat → Bool
  | 0, _ => false
  | n + 1, i => p i || anyFrom p n (i + 1)
theorem pickF_some (s : State) (o : Opts) (turn : Int) : ∀ n i, (pickF s o turn n i).isSome = anyFrom (fun j => fullB s o (j : Int)) n i
  | 0, _ => rfl
  | n + 1, i => by
    unfold pickF anyFrom
    cases h : fullB s o (i : Int) with
    | true => simp
    | false => simp [pickF_some s o turn n (i + 1)]
theorem pickO_some (s : State) : ∀ n i, (pickO s n i).isSome = anyFrom (fun j => decide (oldI s j ≥ 0)) n i
  | 0, _ => rfl
  | n + 1, i => by
    unfold pickO anyFrom
    by_cases h : oldI s i < 0
    · rw [if_pos h, pickO_some s n (i + 1), decide_eq_false (by omega)]; simp
    · rw [if_neg h, decide_eq_true (by omega)]; simp
theorem pick_busy {s : State} {o : Opts} {turn : Int} (hs : rightS s = true) (ho : rightO o = true) : (pickJ s o turn).2 = busy s o 5 := by
  have h1 : (pickJ s o turn).2 = ((pickF s o turn 4 0).isSome || (pickO s 5 0).isSome) := by
    unfold pickJ; rw [if_pos ⟨ho, hs⟩]
    cases pickF s o turn 4 0 with
    | some j => rfl
    | none => cases pickO s 5 0 <;> rfl
  have hf : ∀ k : Nat, k < 4 → fullTop s o (k : Int) = fullB s o (k : Int) := by
    intro k hk
    unfold fullTop; rw [decide_eq_true (show (k : Int) ≥ 0 by omega), decide_eq_true (show (k : Int) ≤ 3 by omega), hs, ho]; simp
  have hf4 : fullTop s o (4 : Int) = false := by unfold fullTop; rw [decide_eq_false (show ¬ (4 : Int) ≤ 3 by omega)]; simp
  have hod : ∀ k : Nat, k < 5 → oldTop s (k : Int) = decide (oldI s k ≥ 0) := by
    intro k hk
    unfold oldTop; rw [decide_eq_true (show (k : Int) ≥ 0 by omega), decide_eq_true (show (k : Int) < 5 by omega)]; simp [oldI]
  rw [h1, pickF_some, pickO_some]
  simp only [busy, anyFrom, Nat.zero_add, Bool.or_false, Bool.false_or]
  rw [hf 0 (by decide), hf 1 (by decide), hf 2 (by decide), hf 3 (by decide), hod 0 (by decide), hod 1 (by decide), hod 2 (by decide), hod 3 (by decide), hod 4 (by decide), show fullTop s o ((4 : Nat) : Int) = false from hf4, Bool.or_false]
  ac_rfl

/-! ### Two jobs that are the same -/
theorem sm_no {a b : Job} (h : (((((a.why != b.why) || (a.level != b.level)) || (a.to != b.to)) || ((a.low.length : Int) != (b.low.length : Int))) || ((a.high.length : Int) != (b.high.length : Int))) = true) : tup [.bool false] = .bool (sameJ a b) := by
  have : sameJ a b = false := by
    unfold sameJ
    rw [decide_eq_false_iff_not]
    rintro ⟨h1, h2, h3, h4, h5⟩
    simp [h1, h2, h3, h4, h5] at h
  rw [this]; rfl
theorem sm_hd {a b : Job} (h : (((((a.why != b.why) || (a.level != b.level)) || (a.to != b.to)) || ((a.low.length : Int) != (b.low.length : Int))) || ((a.high.length : Int) != (b.high.length : Int))) = false) : a.why = b.why ∧ a.level = b.level ∧ a.to = b.to ∧ a.low.length = b.low.length ∧ a.high.length = b.high.length := by
  simp only [Bool.or_eq_false_iff, bne_eq_false_iff_eq] at h
  obtain ⟨⟨⟨⟨h1, h2⟩, h3⟩, h4⟩, h5⟩ := h
  exact ⟨h1, h2, h3, by omega, by omega⟩
theorem sm_low {a b : Job} {k : Nat} (h : (a.low.getD k 0 != b.low.getD k 0) = true) : tup [.bool false] = .bool (sameJ a b) := by
  have : sameJ a b = false := by
    unfold sameJ
    rw [decide_eq_false_iff_not]
    rintro ⟨_, _, _, h4, _⟩
    rw [h4] at h; simp at h
  rw [this]; rfl
theorem sm_high {a b : Job} {k : Nat} (h : (a.high.getD k 0 != b.high.getD k 0) = true) : tup [.bool false] = .bool (sameJ a b) := by
  have : sameJ a b = false := by
    unfold sameJ
    rw [decide_eq_false_iff_not]
    rintro ⟨_, _, _, _, h4⟩
    rw [h4] at h; simp at h
  rw [this]; rfl
theorem sm_step {l r : List Int} {k : Nat} (h : ∀ j, j < k → l.getD j 0 = r.getD j 0) (hk : (l.getD k 0 != r.getD k 0) = false) : ∀ j, j < k + 1 → l.getD j 0 = r.getD j 0 := by
  intro j hj
  by_cases e : j = k
  · subst e; simpa using hk
  · exact h j (by omega)
theorem sm_eq {l r : List Int} {k : Nat} (hl : l.length = r.length) (hk : l.length ≤ k) (h : ∀ j, j < k → l.getD j 0 = r.getD j 0) : l = r := by
  refine List.ext_getElem hl fun i h1 h2 => ?_
  have := h i (by omega)
  simpa [h1, h2] using this
theorem sm_yes {a b : Job} (h : a.why = b.why ∧ a.level = b.level ∧ a.to = b.to) (hl : a.low = b.low) (hh : a.high = b.high) : tup [.bool true] = .bool (sameJ a b) := by
  have : sameJ a b = true := by unfold sameJ; rw [decide_eq_true_eq]; exact ⟨h.1, h.2.1, h.2.2, hl, hh⟩
  rw [this]; rfl
end Go.Tan

namespace Go.Tan
open Go.RowKit
/-! ### Taking, with what follows -/
section
variable {α β : Type}
def pNum (k : Nat → List Y → Option α) (r : List Y) : Option α := if (numP r).2.2 = 0 then k (numP r).1 (r.drop (numP r).2.1) else none
def pUp (most : Nat) (k : Nat → List Y → Option α) : List Y → Option α := pNum fun n r => if n ≤ most then k n r else none
def pStr (most : Nat) (k : List Y → List Y → Option α) : List Y → Option α := pUp most fun n r => if n ≤ r.length then k (r.take n) (r.drop n) else none
def pByte (k : Y → List Y → Option α) (r : List Y) : Option α := if r.length < 1 then none else k (r.getD 0 0) (r.drop 1)
/-- so many, one behind the other -/
def pRep (f : (β → List Y → Option α) → List Y → Option α) : Nat → (List β → List Y → Option α) → List Y → Option α
  | 0, k => k []
  | n + 1, k => f fun x => pRep f n fun xs => k (x :: xs)
theorem num_k {n : Nat} (h : n < 18446744073709551616) (k : Nat → List Y → Option α) (r : List Y) : pNum k (numN n ++ r) = k n r := by
  unfold pNum; rw [num_back h, if_pos rfl]; simp
theorem up_k {most n : Nat} (h : n < 18446744073709551616) (hn : n ≤ most) (k : Nat → List Y → Option α) (r : List Y) : pUp most k (numN n ++ r) = k n r := by
  unfold pUp; rw [num_k h, if_pos hn]
theorem up_no {most n : Nat} (h : n < 18446744073709551616) (hn : ¬ n ≤ most) (k : Nat → List Y → Option α) (r : List Y) : pUp most k (numN n ++ r) = none := by
  unfold pUp; rw [num_k h, if_neg hn]
theorem str_k {most : Nat} {xs : List Y} (h : xs.length < 18446744073709551616) (hn : xs.length ≤ most) (k : List Y → List Y → Option α) (r : List Y) : pStr most k (strL xs ++ r) = k xs r := by
  unfold pStr strL; rw [List.append_assoc, up_k h hn, if_pos (by simp), List.take_left, List.drop_left]
theorem str_no {most : Nat} {xs : List Y} (h : xs.length < 18446744073709551616) (hn : ¬ xs.length ≤ most) (k : List Y → List Y → Option α) (r : List Y) : pStr most k (strL xs ++ r) = none := by
  unfold pStr strL; rw [List.append_assoc, up_no h hn]
theorem byte_k (x : Y) (k : Y → List Y → Option α) (r : List Y) : pByte k (x :: r) = k x r := by simp [pByte]
theorem num_inv {k : Nat → List Y → Option α} {r : List Y} {a : α} (h : pNum k r = some a) : ∃ n r', r = numN n ++ r' ∧ n < 18446744073709551616 ∧ k n r' = some a := by
  unfold pNum at h
  split at h
  · rename_i he
    have := num_canon (b := r) (v := (numP r).1) (j := (numP r).2.1) (by rw [← he])
    exact ⟨_, _, this.1, this.2.1, h⟩
  · cases h
theorem up_inv {most : Nat} {k : Nat → List Y → Option α} {r : List Y} {a : α} (h : pUp most k r = some a) : ∃ n r', r = numN n ++ r' ∧ n < 18446744073709551616 ∧ n ≤ most ∧ k n r' = some a := by
  obtain ⟨n, r', h1, h2, h3⟩ := num_inv h
  split at h3
  · rename_i hn; exact ⟨n, r', h1, h2, hn, h3⟩
  · cases h3
theorem str_inv {most : Nat} {k : List Y → List Y → Option α} {r : List Y} {a : α} (h : pStr most k r = some a) : ∃ xs r', r = strL xs ++ r' ∧ xs.length ≤ most ∧ k xs r' = some a := by
  obtain ⟨n, r', h1, h2, h3, h4⟩ := up_inv h
  split at h4
  · rename_i hn
    have hl : (r'.take n).length = n := by rw [List.length_take]; omega
    refine ⟨r'.take n, r'.drop n, ?_, by omega, h4⟩
    rw [h1, strL, hl, List.append_assoc, List.take_append_drop]
  · cases h4
theorem byte_inv {k : Y → List Y → Option α} {r : List Y} {a : α} (h : pByte k r = some a) : ∃ x r', r = x :: r' ∧ k x r' = some a := by
  unfold pByte at h
  split at h
  · cases h
  · cases r with
    | nil => rename_i hn; simp at hn
    | cons x r => exact ⟨x, r, rfl, by simpa using h⟩
end
/-! ### A taking that has gone well so far, or is lost -/
/-- what was begun with comes to what follows at the rest; or it is lost, and that is known -/
def Tk {α : Type} (O : Option α) (s : Rd') (bad : Bool) (k : List Y → Option α) : Prop := (s.bad = 0 ∧ bad = false ∧ O = k s.rest) ∨ (O = none ∧ (bad = true ∨ s.bad ≠ 0))
section
variable {α β : Type} {O : Option α} {s : Rd'} {bad : Bool}
theorem Tk.start {b : List Y} {k : List Y → Option α} : Tk (k b) ⟨b, 0⟩ false k := .inl ⟨rfl, rfl, rfl⟩
theorem Tk.num {k : Nat → List Y → Option α} (h : Tk O s bad (pNum k)) : Tk O (rdNum s).2 bad (k (rdNum s).1) := by
  unfold rdNum
  rcases h with ⟨h1, h2, h3⟩ | ⟨h1, h2⟩
  · rw [if_neg (by simp [h1])]
    unfold pNum at h3
    split at h3
    · rename_i he; exact .inl ⟨he, h2, h3⟩
    · rename_i he; exact .inr ⟨h3, .inr he⟩
  · split
    · exact .inr ⟨h1, h2⟩
    · rename_i he
      rcases h2 with h2 | h2
      · exact .inr ⟨h1, .inl h2⟩
      · exact absurd h2 he
theorem Tk.bad_of {k : List Y → Option α} (h : Tk O s bad k) {c : Bool} (hc : s.bad = 0 → bad = false → c = true → O = none) : Tk O s (bad || c) k := by
  rcases h with ⟨h1, h2, h3⟩ | ⟨h1, h2⟩
  · cases c with
    | false => exact .inl ⟨h1, by simp [h2], h3⟩
    | true => exact .inr ⟨hc h1 h2 rfl, .inl (by simp)⟩
  · refine .inr ⟨h1, ?_⟩
    rcases h2 with h2 | h2
    · exact .inl (by simp [h2])
    · exact .inr h2
/-- a number that may be so great -/
theorem Tk.up {most : Nat} {k : Nat → List Y → Option α} (h : Tk O s bad (pUp most k)) {c : Bool} (hc : c = (decide (most < (rdNum s).1) || !decide ((rdNum s).2.bad = 0))) : Tk O (rdNum s).2 (bad || c) (k (rdNum s).1) := by
  have h' := Tk.num (k := fun n r => if n ≤ most then k n r else none) h
  rcases h' with ⟨h1, h2, h3⟩ | ⟨h1, h2⟩
  · simp only at h3
    by_cases hn : (rdNum s).1 ≤ most
    · rw [if_pos hn] at h3
      have : c = false := by rw [hc, h1, decide_eq_false (by omega)]; rfl
      exact .inl ⟨h1, by rw [h2, this]; rfl, h3⟩
    · rw [if_neg hn] at h3
      have : c = true := by rw [hc, decide_eq_true (by omega)]; rfl
      exact .inr ⟨h3, .inl (by rw [this]; simp)⟩
  · refine .inr ⟨h1, ?_⟩
    rcases h2 with h2 | h2
    · exact .inl (by rw [h2]; rfl)
    · exact .inr h2
theorem Tk.str {most : Nat} {k : List Y → List Y → Option α} (h : Tk O s bad (pStr most k)) : Tk O (rdStr most s).2 bad (k (rdStr most s).1) := by
  unfold rdStr
  rcases h with ⟨h1, h2, h3⟩ | ⟨h1, h2⟩
  · rw [if_neg (by simp [h1])]
    unfold pStr pUp pNum at h3
    split at h3
    · rename_i he
      rw [if_neg (by simp [he])]
      simp only at h3
      split at h3
      · rename_i hm
        rw [if_neg (by omega)]
        split at h3
        · rename_i hl
          rw [List.length_drop] at hl
          rw [if_neg (by omega)]
          refine .inl ⟨rfl, h2, ?_⟩
          rw [h3, List.drop_drop]
        · rename_i hl
          rw [List.length_drop] at hl
          rw [if_pos (by omega)]
          exact .inr ⟨h3, .inr (by simp)⟩
      · rename_i hm
        rw [if_pos (by omega)]
        exact .inr ⟨h3, .inr (by simp)⟩
    · rename_i he
      rw [if_pos he]
      exact .inr ⟨h3, .inr he⟩
  · split
    · exact .inr ⟨h1, h2⟩
    · rename_i he
      rcases h2 with h2 | h2
      · exact .inr ⟨h1, .inl h2⟩
      · exact absurd h2 he
theorem Tk.byte {k : Y → List Y → Option α} (h : Tk O s bad (pByte k)) : Tk O (rdByte s).2 bad (k (rdByte s).1) := by
  unfold rdByte
  rcases h with ⟨h1, h2, h3⟩ | ⟨h1, h2⟩
  · rw [if_neg (by simp [h1])]
    unfold pByte at h3
    split at h3
    · rename_i hl; rw [if_pos hl]; exact .inr ⟨h3, .inr (by simp)⟩
    · rename_i hl; rw [if_neg hl]; exact .inl ⟨rfl, h2, h3⟩
  · split
    · exact .inr ⟨h1, h2⟩
    · rename_i he
      rcases h2 with h2 | h2
      · exact .inr ⟨h1, .inl h2⟩
      · exact absurd h2 he
/-- where it is lost it stays lost -/
theorem Tk.lost {k k' : List Y → Option α} {s' : Rd'} {bad' : Bool} (h : Tk O s bad k) (hl : bad = true ∨ s.bad ≠ 0) (hl' : bad' = true ∨ s'.bad ≠ 0) : Tk O s' bad' k' := by
  rcases h with ⟨h1, h2, _⟩ | ⟨h1, _⟩
  · rcases hl with hl | hl
    · rw [h2] at hl; cases hl
    · exact absurd h1 hl
  · exact .inr ⟨h1, hl'⟩
def pEnd (a : α) (r : List Y) : Option α := if r = [] then some a else none
/-- the end -/
theorem Tk.fin {a : α} (h : Tk O s bad (pEnd a)) : O = if bad = false ∧ s.bad = 0 ∧ s.rest = [] then some a else none := by
  rcases h with ⟨h1, h2, h3⟩ | ⟨h1, h2⟩
  · rw [h3, pEnd]
    by_cases hr : s.rest = []
    · rw [if_pos hr, if_pos ⟨h2, h1, hr⟩]
    · rw [if_neg hr, if_neg (fun hh => hr hh.2.2)]
  · rw [h1, if_neg]
    rintro ⟨h3, h4, _⟩
    rcases h2 with h2 | h2
    · rw [h3] at h2; cases h2
    · exact h2 h4
end
end Go.Tan

namespace Go.Tan
open Go.RowKit
structure Gone where
  level : Int
  number : Int
def Gone.cells (g : Gone) : List Value := [.int .u8 g.level, .int .u64 g.number]
def Gone.zero : Gone := ⟨0, 0⟩
structure Gone.wf (g : Gone) : Prop where
  level : 0 ≤ g.level ∧ g.level < 256
  number : 0 ≤ g.number ∧ g.number < 18446744073709551616
structure Edit where
  log : Int
  next : Int
  seq : Int
  least : Int
  gens : Nat → Int
  add : List Meta
  drop : List Gone
def Edit.cells (e : Edit) (ha hd : Sh) : List Value :=
  [.int .u64 e.log, .int .u64 e.next, .int .u64 e.seq, .int .u64 e.least] ++ (List.range 5).map (fun i => .int .u64 (e.gens i)) ++ [ha.val e.add.length, hd.val e.drop.length]
def Edit.val (e : Edit) (ha hd : Sh) : Value := .agg (e.cells ha hd).toArray
def Edit.zero : Edit := ⟨0, 0, 0, 0, fun _ => 0, [], []⟩
def u64 (x : Int) : Prop := 0 ≤ x ∧ x < 18446744073709551616
structure Edit.wf (e : Edit) : Prop where
  log : u64 e.log
  next : u64 e.next
  seq : u64 e.seq
  least : u64 e.least
  gens : ∀ i, i < 5 → u64 (e.gens i)
  add : ∀ m ∈ e.add, m.wf
  drop : ∀ g ∈ e.drop, g.wf
/-- an edit's tables lie in memory that stays -/
structure EdR (G : PM) (e : Edit) (ha hd : Sh) : Prop where
  add : SlR G 40 Meta.cells ha e.add
  drop : SlR G 2 Gone.cells hd e.drop
  wf : e.wf
theorem EdR.mono {G G' : PM} {e : Edit} {ha hd : Sh} (h : EdR G e ha hd) (hle : PM.le G G') : EdR G' e ha hd := ⟨h.add.mono hle, h.drop.mono hle, h.wf⟩
def u64N (x : Int) : Nat := (x % 18446744073709551616).toNat
theorem u64N_lt (x : Int) : u64N x < 18446744073709551616 := by unfold u64N; omega
theorem u64N_of {x : Int} (h : u64 x) : u64N x = x.toNat := by unfold u64N u64 at *; omega
def encM (m : Meta) : List Y :=
  numN m.level.toNat ++ numN m.gen.toNat ++ numN m.epoch.toNat ++ numN m.number.toNat ++ numN (u64N m.size) ++ numN (u64N m.count) ++ strL (yb m.min) ++ strL (yb m.max) ++ (List.range 32).map fun i => BitVec.ofInt 8 (m.root i)
def encG (g : Gone) : List Y := numN g.level.toNat ++ numN g.number.toNat
def numsL (l : List Int) : List Y := l.flatMap fun x => numN x.toNat
def encE (e : Edit) : List Y :=
  numN e.log.toNat ++ numN e.next.toNat ++ numN e.seq.toNat ++ numN e.least.toNat ++ ((List.range 5).flatMap fun i => numN (e.gens i).toNat) ++ numN e.add.length ++ e.add.flatMap encM ++ numN e.drop.length ++ e.drop.flatMap encG
section
variable {α : Type}
def pMeta (k : Meta → List Y → Option α) : List Y → Option α :=
  pUp 255 fun l => pNum fun g => pNum fun ep => pNum fun nu => pUp 9223372036854775807 fun sz => pUp 9223372036854775807 fun ct => pStr 1024 fun mn => pStr 1024 fun mx => pRep pByte 32 fun rt =>
    k ⟨l, g, ep, nu, sz, ct, bstr mn, bstr mx, fun i => ((rt.getD i 0).toNat : Int)⟩
def pGone (k : Gone → List Y → Option α) : List Y → Option α := pUp 255 fun l => pNum fun n => k ⟨l, n⟩
end
def decO : List Y → Option Edit :=
  pNum fun log => pNum fun next => pNum fun seq => pNum fun least => pRep pNum 5 fun gs => pUp 1024 fun na => pRep pMeta na fun add => pUp 1024 fun nd => pRep pGone nd fun drop =>
    pEnd ⟨log, next, seq, least, fun i => ((gs.getD i 0 : Nat) : Int), add, drop⟩
/-! ### What was laid is taken -/
section
variable {α β : Type}
theorem rep_k {f : (β → List Y → Option α) → List Y → Option α} {γ : Type} {en : γ → List Y} {ca : γ → β} : ∀ (xs : List γ), (∀ x ∈ xs, ∀ k r, f k (en x ++ r) = k (ca x) r) → ∀ (k : List β → List Y → Option α) (r : List Y), pRep f xs.length k (xs.flatMap en ++ r) = k (xs.map ca) r
  | [], _, k, r => rfl
  | x :: xs, h, k, r => by
    rw [List.length_cons, pRep, List.flatMap_cons, List.append_assoc, h x (List.mem_cons_self ..), rep_k xs (fun y hy => h y (List.mem_cons_of_mem _ hy))]
    rfl
theorem rep_no {f : (β → List Y → Option α) → List Y → Option α} {γ : Type} {en : γ → List Y} {ca : γ → β} {good : γ → Prop} : ∀ (xs : List γ), (∀ x ∈ xs, good x → ∀ k r, f k (en x ++ r) = k (ca x) r) → (∀ x ∈ xs, ¬ good x → ∀ k r, f k (en x ++ r) = none) → (∃ x ∈ xs, ¬ good x) →
    ∀ (k : List β → List Y → Option α) (r : List Y), pRep f xs.length k (xs.flatMap en ++ r) = none
  | [], _, _, hx, _, _ => by obtain ⟨x, hx, _⟩ := hx; cases hx
  | x :: xs, h, hn, hx, k, r => by
    rw [List.length_cons, pRep, List.flatMap_cons, List.append_assoc]
    by_cases hg : good x
    · rw [h x (List.mem_cons_self ..) hg]
      refine rep_no xs (fun y hy => h y (List.mem_cons_of_mem _ hy)) (fun y hy => hn y (List.mem_cons_of_mem _ hy)) ?_ _ _
      obtain ⟨y, hy, hyg⟩ := hx
      rcases List.mem_cons.1 hy with rfl | hy
      · exact absurd hg hyg
      · exact ⟨y, hy, hyg⟩
    · exact hn x (List.mem_cons_self ..) hg _ _
theorem rep_inv {f : (β → List Y → Option α) → List Y → Option α} {en : β → List Y} {Q : β → Prop} (hf : ∀ (k : β → List Y → Option α) (r : List Y) (a : α), f k r = some a → ∃ x r', r = en x ++ r' ∧ Q x ∧ k x r' = some a) :
    ∀ (n : Nat) (k : List β → List Y → Option α) (r : List Y) (a : α), pRep f n k r = some a → ∃ xs r', xs.length = n ∧ r = xs.flatMap en ++ r' ∧ (∀ x ∈ xs, Q x) ∧ k xs r' = some a
  | 0, k, r, a, h => ⟨[], r, rfl, rfl, (fun x hx => by cases hx), h⟩
  | n + 1, k, r, a, h => by
    obtain ⟨x, r1, h1, h2, h3⟩ := hf _ r a h
    obtain ⟨xs, r2, e1, e2, e3, e4⟩ := rep_inv hf n _ r1 a h3
    refine ⟨x :: xs, r2, by simp [e1], by rw [h1, e2]; simp, fun y hy => ?_, e4⟩
    rcases List.mem_cons.1 hy with rfl | hy
    · exact h2
    · exact e3 y hy
end
def Meta.canon (m : Meta) : Meta := { m with root := fun i => if i < 32 then m.root i else 0 }
theorem canon_cells (m : Meta) : m.canon.cells = m.cells := by
  unfold Meta.cells Meta.canon
  congr 1
def Meta.fits (m : Meta) : Prop := 0 ≤ m.size ∧ 0 ≤ m.count ∧ m.min.size ≤ 1024 ∧ m.max.size ≤ 1024
theorem nat_of {x : Int} (h : 0 ≤ x) : ((x.toNat : Nat) : Int) = x := Int.toNat_of_nonneg h
theorem meta_k {α : Type} {m : Meta} (hw : m.wf) (hf : m.fits) (k : Meta → List Y → Option α) (r : List Y) : pMeta k (encM m ++ r) = k m.canon r := by
  obtain ⟨h1, h2, h3, h4⟩ := hf
  have l1 := hw.level; have l2 := hw.gen; have l3 := hw.epoch; have l4 := hw.number; have l5 := hw.size; have l6 := hw.count
  unfold pMeta encM
  simp only [List.append_assoc]
  have s5 : u64N m.size = m.size.toNat := by unfold u64N; omega
  have s6 : u64N m.count = m.count.toNat := by unfold u64N; omega
  rw [up_k (by omega) (by omega), num_k (by omega), num_k (by omega), num_k (by omega), s5, s6, up_k (by omega) (by omega), up_k (by omega) (by omega), str_k (by rw [yb_len]; omega) (by rw [yb_len]; omega), str_k (by rw [yb_len]; omega) (by rw [yb_len]; omega)]
  have hr := rep_k (α := α) (f := pByte) (en := fun y : Y => [y]) (ca := id) ((List.range 32).map fun i => BitVec.ofInt 8 (m.root i)) (fun y _ k r => byte_k y k r)
  have hfl : ∀ l : List Y, (l.flatMap fun y => [y]) = l := fun l => by induction l with | nil => rfl | cons a l ih => simp only [List.flatMap_cons, ih]; rfl
  rw [hfl, List.length_map, List.length_range] at hr
  rw [hr]
  congr 1
  unfold Meta.canon
  rw [nat_of l1.1, nat_of l2.1, nat_of l3.1, nat_of l4.1, nat_of h1, nat_of h2, bstr_yb, bstr_yb]
  congr 1
  funext i
  by_cases hi : i < 32
  · have hb := hw.root i hi
    rw [if_pos hi, List.map_id, List.getD_eq_getElem?_getD, List.getElem?_map, List.getElem?_range hi]
    simp only [Option.map_some, Option.getD_some]
    rw [BitVec.toNat_ofInt]
    omega
  · rw [if_neg hi, List.map_id, List.getD_eq_getElem?_getD, List.getElem?_eq_none (by simp; omega)]
    rfl
theorem meta_no {α : Type} {m : Meta} (hw : m.wf) (hf : ¬ m.fits) (k : Meta → List Y → Option α) (r : List Y) : pMeta k (encM m ++ r) = none := by
  have l1 := hw.level; have l2 := hw.gen; have l3 := hw.epoch; have l4 := hw.number; have l5 := hw.size; have l6 := hw.count; have l7 := hw.minL; have l8 := hw.maxL
  unfold pMeta encM
  simp only [List.append_assoc]
  rw [up_k (by omega) (by omega), num_k (by omega), num_k (by omega), num_k (by omega)]
  by_cases h1 : 0 ≤ m.size
  · have s5 : u64N m.size = m.size.toNat := by unfold u64N; omega
    rw [s5, up_k (by omega) (by omega)]
    by_cases h2 : 0 ≤ m.count
    · have s6 : u64N m.count = m.count.toNat := by unfold u64N; omega
      rw [s6, up_k (by omega) (by omega)]
      by_cases h3 : m.min.size ≤ 1024
      · rw [str_k (by rw [yb_len]; omega) (by rw [yb_len]; omega)]
        exact str_no (by rw [yb_len]; omega) (by rw [yb_len]; exact fun h4 => hf ⟨h1, h2, h3, h4⟩) _ _
      · exact str_no (by rw [yb_len]; omega) (by rw [yb_len]; exact h3) _ _
    · exact up_no (by unfold u64N; omega) (by unfold u64N; omega) _ _
  · exact up_no (by unfold u64N; omega) (by unfold u64N; omega) _ _
theorem gone_k {α : Type} {g : Gone} (hw : g.wf) (k : Gone → List Y → Option α) (r : List Y) : pGone k (encG g ++ r) = k g r := by
  have l1 := hw.level; have l2 := hw.number
  unfold pGone encG
  rw [List.append_assoc, up_k (by omega) (by omega), num_k (by omega), nat_of l1.1, nat_of l2.1]
def Edit.canon (e : Edit) : Edit := { e with gens := fun i => if i < 5 then e.gens i else 0, add := e.add.map Meta.canon }
theorem gens_flat (g : Nat → Int) : ((List.range 5).flatMap fun i => numN (g i).toNat) = ((List.range 5).map g).flatMap fun x => numN x.toNat := by rw [List.flatMap_map]
theorem edit_k {e : Edit} (hw : e.wf) (ha : e.add.length ≤ 1024) (hd : e.drop.length ≤ 1024) (hf : ∀ m ∈ e.add, m.fits) : decO (encE e) = some e.canon := by
  have l1 := hw.log; have l2 := hw.next; have l3 := hw.seq; have l4 := hw.least
  unfold u64 at l1 l2 l3 l4
  unfold decO encE
  rw [gens_flat]
  simp only [List.append_assoc]
  rw [num_k (by omega), num_k (by omega), num_k (by omega), num_k (by omega)]
  have hg := rep_k (α := Edit) (f := pNum) (en := fun x : Int => numN x.toNat) (ca := Int.toNat) ((List.range 5).map e.gens) (fun x hx k r => by
    obtain ⟨i, hi, rfl⟩ := List.mem_map.1 hx
    have := hw.gens i (List.mem_range.1 hi)
    unfold u64 at this
    exact num_k (by omega) k r)
  rw [List.length_map, List.length_range] at hg
  rw [hg, up_k (by omega) ha, rep_k (en := encM) (ca := Meta.canon) e.add (fun m hm k r => meta_k (hw.add m hm) (hf m hm) k r), up_k (by omega) hd]
  have hdr := rep_k (α := Edit) (f := pGone) (en := encG) (ca := id) e.drop (fun g hg k r => gone_k (hw.drop g hg) k r) 
  have h2 := hdr (fun drop => pEnd ⟨(e.log.toNat : Int), (e.next.toNat : Int), (e.seq.toNat : Int), (e.least.toNat : Int), fun i => (((((List.range 5).map e.gens).map Int.toNat).getD i 0 : Nat) : Int), e.add.map Meta.canon, drop⟩) []
  rw [List.append_nil] at h2
  rw [h2, pEnd, if_pos rfl, List.map_id]
  congr 1
  unfold Edit.canon
  rw [nat_of l1.1, nat_of l2.1, nat_of l3.1, nat_of l4.1]
  congr 1
  funext i
  by_cases hi : i < 5
  · have hgi := hw.gens i hi
    unfold u64 at hgi
    rw [if_pos hi, List.map_map, List.getD_eq_getElem?_getD, List.getElem?_map, List.getElem?_range hi]
    simp only [Option.map_some, Option.getD_some, Function.comp]
    omega
  · rw [if_neg hi, List.getD_eq_getElem?_getD, List.getElem?_eq_none (by simp; omega)]
    rfl
theorem edit_no {e : Edit} (hw : e.wf) (ha : e.add.length ≤ 1024) (hf : ∃ m ∈ e.add, ¬ m.fits) : decO (encE e) = none := by
  have l1 := hw.log; have l2 := hw.next; have l3 := hw.seq; have l4 := hw.least
  unfold u64 at l1 l2 l3 l4
  unfold decO encE
  rw [gens_flat]
  simp only [List.append_assoc]
  rw [num_k (by omega), num_k (by omega), num_k (by omega), num_k (by omega)]
  have hg := rep_k (α := Edit) (f := pNum) (en := fun x : Int => numN x.toNat) (ca := Int.toNat) ((List.range 5).map e.gens) (fun x hx k r => by
    obtain ⟨i, hi, rfl⟩ := List.mem_map.1 hx
    have := hw.gens i (List.mem_range.1 hi)
    unfold u64 at this
    exact num_k (by omega) k r)
  rw [List.length_map, List.length_range] at hg
  rw [hg, up_k (by omega) ha]
  exact rep_no (en := encM) (ca := Meta.canon) (good := Meta.fits) e.add (fun m hm hg k r => meta_k (hw.add m hm) hg k r) (fun m hm hg k r => meta_no (hw.add m hm) hg k r) hf _ _
/-! ### What is taken is laid so -/
theorem meta_inv {α : Type} {k : Meta → List Y → Option α} {r : List Y} {a : α} (h : pMeta k r = some a) : ∃ m r', r = encM m ++ r' ∧ m.wf ∧ k m r' = some a := by
  obtain ⟨l, r1, e1, b1, c1, h⟩ := up_inv h
  obtain ⟨g, r2, e2, b2, h⟩ := num_inv h
  obtain ⟨ep, r3, e3, b3, h⟩ := num_inv h
  obtain ⟨nu, r4, e4, b4, h⟩ := num_inv h
  obtain ⟨sz, r5, e5, b5, c5, h⟩ := up_inv h
  obtain ⟨ct, r6, e6, b6, c6, h⟩ := up_inv h
  obtain ⟨mn, r7, e7, c7, h⟩ := str_inv h
  obtain ⟨mx, r8, e8, c8, h⟩ := str_inv h
  obtain ⟨rt, r9, e9, e10, _, h⟩ := rep_inv (en := fun y : Y => [y]) (Q := fun _ => True) (fun k r a h => by
    obtain ⟨x, r', h1, h2⟩ := byte_inv h
    exact ⟨x, r', h1, trivial, h2⟩) 32 _ _ _ h
  have hfl : ∀ l : List Y, (l.flatMap fun y => [y]) = l := fun l => by induction l with | nil => rfl | cons a l ih => simp only [List.flatMap_cons, ih]; rfl
  rw [hfl] at e10
  refine ⟨_, r9, ?_, ?_, h⟩
  · unfold encM
    simp only [Int.toNat_natCast]
    have s5 : u64N (sz : Int) = sz := by unfold u64N; omega
    have s6 : u64N (ct : Int) = ct := by unfold u64N; omega
    have hroot : ((List.range 32).map fun i => BitVec.ofInt 8 (((rt.getD i 0).toNat : Nat) : Int)) = rt := by
      refine List.ext_getElem? fun i => ?_
      by_cases hi : i < 32
      · rw [List.getElem?_map, List.getElem?_range hi]
        have hr : i < rt.length := by omega
        simp [hr]
      · rw [List.getElem?_eq_none (by simp; omega), List.getElem?_eq_none (by omega)]
    rw [s5, s6, yb_bstr, yb_bstr, hroot, e1, e2, e3, e4, e5, e6, e7, e8, e10]
    simp only [List.append_assoc]
  · have hb : ∀ i, ((rt.getD i 0).toNat : Int) ≤ 255 := fun i => by have := (rt.getD i 0).isLt; omega
    refine ⟨⟨by simp only; omega, by simp only; omega⟩, ⟨by simp only; omega, by simp only; omega⟩, ⟨by simp only; omega, by simp only; omega⟩, by simp only [bstr_len]; omega, by simp only [bstr_len]; omega, ⟨by simp only; omega, by simp only; omega⟩, ⟨by simp only; omega, by simp only; omega⟩, ⟨by simp only; omega, by simp only; omega⟩, fun j _ => ⟨by simp only; omega, hb j⟩⟩
theorem gone_inv {α : Type} {k : Gone → List Y → Option α} {r : List Y} {a : α} (h : pGone k r = some a) : ∃ g r', r = encG g ++ r' ∧ g.wf ∧ k g r' = some a := by
  obtain ⟨l, r1, e1, b1, c1, h⟩ := up_inv h
  obtain ⟨n, r2, e2, b2, h⟩ := num_inv h
  refine ⟨_, r2, ?_, ⟨⟨by simp only; omega, by simp only; omega⟩, ⟨by simp only; omega, by simp only; omega⟩⟩, h⟩
  unfold encG
  simp only [Int.toNat_natCast]
  rw [e1, e2, List.append_assoc]
theorem edit_inv {b : List Y} {e : Edit} (h : decO b = some e) : encE e = b ∧ e.wf ∧ e.add.length ≤ 1024 ∧ e.drop.length ≤ 1024 := by
  unfold decO at h
  obtain ⟨a1, r1, e1, b1, h⟩ := num_inv h
  obtain ⟨a2, r2, e2, b2, h⟩ := num_inv h
  obtain ⟨a3, r3, e3, b3, h⟩ := num_inv h
  obtain ⟨a4, r4, e4, b4, h⟩ := num_inv h
  obtain ⟨gs, r5, e5, e6, q6, h⟩ := rep_inv (en := numN) (Q := fun n => n < 18446744073709551616) (fun k r a h => by
    obtain ⟨n, r', h1, h2, h3⟩ := num_inv h
    exact ⟨n, r', h1, h2, h3⟩) 5 _ _ _ h
  obtain ⟨na, r7, e7, b7, c7, h⟩ := up_inv h
  obtain ⟨add, r8, e8, e9, q9, h⟩ := rep_inv (en := encM) (Q := Meta.wf) (fun k r a h => meta_inv h) na _ _ _ h
  obtain ⟨nd, r10, e10, b10, c10, h⟩ := up_inv h
  obtain ⟨drop, r11, e11, e12, q12, h⟩ := rep_inv (en := encG) (Q := Gone.wf) (fun k r a h => gone_inv h) nd _ _ _ h
  unfold pEnd at h
  split at h
  · rename_i hr
    simp only [Option.some.injEq] at h
    subst h; subst hr
    have hgs : ((List.range 5).flatMap fun i => numN (((gs.getD i 0 : Nat) : Int)).toNat) = gs.flatMap numN := by
      have : (List.range 5).map (fun i => gs.getD i 0) = gs := by
        refine List.ext_getElem? fun i => ?_
        by_cases hi : i < 5
        · rw [List.getElem?_map, List.getElem?_range hi]
          have hr : i < gs.length := by omega
          simp [hr]
        · rw [List.getElem?_eq_none (by simp; omega), List.getElem?_eq_none (by omega)]
      conv => rhs; rw [← this]
      rw [List.flatMap_map]
      simp
    refine ⟨?_, ⟨⟨by simp only; omega, by simp only; omega⟩, ⟨by simp only; omega, by simp only; omega⟩, ⟨by simp only; omega, by simp only; omega⟩, ⟨by simp only; omega, by simp only; omega⟩, fun i hi => ?_, q9, q12⟩, by simp only; omega, by simp only; omega⟩
    · unfold encE
      simp only
      rw [hgs, Int.toNat_natCast, Int.toNat_natCast, Int.toNat_natCast, Int.toNat_natCast, e8, e11, e1, e2, e3, e4, e6, e7, e9, e10, e12]
      simp only [List.append_assoc, List.append_nil]
    · have hr : i < gs.length := by omega
      have := q6 (gs.getD i 0) (by simp [hr])
      refine ⟨by simp only; omega, by simp only; omega⟩
  · cases h
end Go.Tan

namespace Go.Tan
open Go.RowKit
theorem or128 (x : Y) : (x ||| 128#8).toNat = x.toNat % 128 + 128 := by
  have h := x.isLt
  have hd : ∀ y : Y, (y ||| 128#8).toNat = y.toNat % 128 + 128 := by decide
  exact hd x
theorem and127 (x : Y) : (x &&& 127#8).toNat = x.toNat % 128 := by
  have hd : ∀ y : Y, (y &&& 127#8).toNat = y.toNat % 128 := by decide
  exact hd x
theorem num_more {m : BitVec 64} (h : ¬ m.toNat < 128) : numN m.toNat = (m.setWidth 8 ||| 128#8) :: numN (m >>> 7).toNat := by
  rw [num_big h]
  have e1 : BitVec.ofNat 8 (m.toNat % 128 + 128) = m.setWidth 8 ||| 128#8 := by
    apply BitVec.eq_of_toNat_eq
    rw [or128, BitVec.toNat_ofNat, BitVec.toNat_setWidth]
    omega
  have e2 : (m >>> 7).toNat = m.toNat / 128 := by rw [BitVec.toNat_ushiftRight, Nat.shiftRight_eq_div_pow]
  rw [e1, e2]
theorem num_last {m : BitVec 64} (h : m.toNat < 128) : numN m.toNat = [m.setWidth 8] := by
  rw [num_small h]
  rfl
theorem shr7 (m : BitVec 64) : (m >>> 7).toNat = m.toNat / 128 := by rw [BitVec.toNat_ushiftRight, Nat.shiftRight_eq_div_pow]
theorem uvI {x : Int} (h : u64 x) : Value.int .u64 x = uv .u64 (BitVec.ofInt 64 x) := by
  unfold u64 at h
  show Value.int .u64 x = Value.int .u64 (((BitVec.ofInt 64 x).toNat : Nat) : Int)
  congr 1
  rw [BitVec.toNat_ofInt]
  omega
theorem ofI {x : Int} (h : u64 x) : (BitVec.ofInt 64 x).toNat = x.toNat := by
  unfold u64 at h
  rw [BitVec.toNat_ofInt]; omega
/-! ### A number is taken -/
theorem pow128 (k : Nat) : (128 : Nat) ^ k = 2 ^ (7 * k) := by rw [Nat.pow_mul]
theorem acc_or {w : BitVec 64} {x : Y} {k : Nat} (hw : w.toNat < 128 ^ k) (hk : k ≤ 9) (hx : k = 9 → x.toNat ≤ 1) : (w ||| (x &&& 127#8).setWidth 64 <<< (7 * k)).toNat = w.toNat + (x.toNat % 128) * 128 ^ k := by
  have hxl := x.isLt
  have h1 : ((x &&& 127#8).setWidth 64 <<< (7 * k)).toNat = 2 ^ (7 * k) * (x.toNat % 128) := by
    rw [BitVec.toNat_shiftLeft, BitVec.toNat_setWidth, and127, Nat.mod_eq_of_lt (a := x.toNat % 128) (by omega), Nat.shiftLeft_eq, Nat.mul_comm]
    refine Nat.mod_eq_of_lt ?_
    rcases Nat.lt_or_ge k 9 with h | h
    · have h2 : (2 : Nat) ^ (7 * k) ≤ 2 ^ 56 := Nat.pow_le_pow_right (by decide) (by omega)
      have h3 : 2 ^ (7 * k) * (x.toNat % 128) ≤ 2 ^ 56 * 127 := Nat.mul_le_mul h2 (by omega)
      have h4 : (2 : Nat) ^ 56 * 127 < 2 ^ 64 := by decide
      omega
    · obtain rfl : k = 9 := by omega
      have := hx rfl
      have h3 : (2 : Nat) ^ (7 * 9) * (x.toNat % 128) ≤ 2 ^ (7 * 9) * 1 := Nat.mul_le_mul_left _ (by omega)
      have h4 : (2 : Nat) ^ (7 * 9) * 1 < 2 ^ 64 := by decide
      omega
  rw [BitVec.toNat_or, h1]
  have h5 := Nat.two_pow_add_eq_or_of_lt (i := 7 * k) (b := w.toNat) (by rw [← pow128]; exact hw) (x.toNat % 128)
  rw [show w.toNat ||| 2 ^ (7 * k) * (x.toNat % 128) = 2 ^ (7 * k) * (x.toNat % 128) ||| w.toNat from Nat.or_comm _ _, ← h5, ← pow128, Nat.mul_comm]
  omega
theorem drop_cons {xs : List Y} {k : Nat} (h : k < xs.length) : xs.drop k = xs.getD k 0 :: xs.drop (k + 1) := by
  rw [List.drop_eq_getElem_cons h]; simp [h]
section
variable {xs : List Y} {k : Nat} {w : BitVec 64}
theorem np_form (e : numP xs = numG k w.toNat (xs.drop k)) (h : k < xs.length) (hk : k = 9) (hx : 1 < (xs.getD k 0).toNat) : numP xs = (0, 0, 11) := by
  rw [e, drop_cons h, numG, if_pos ⟨hk, hx⟩]
theorem np_zero (e : numP xs = numG k w.toNat (xs.drop k)) (h : k < xs.length) (hk : 0 < k) (hx : (xs.getD k 0).toNat = 0) : numP xs = (0, 0, 11) := by
  rw [e, drop_cons h, numG, if_neg (by omega), if_pos (by omega), if_pos ⟨hk, hx⟩]
theorem np_end (e : numP xs = numG k w.toNat (xs.drop k)) (hw : w.toNat < 128 ^ k) (h9 : k ≤ 9) (h : k < xs.length) (hf : ¬ (k = 9 ∧ 1 < (xs.getD k 0).toNat)) (hx : (xs.getD k 0).toNat < 128) (hz : ¬ (0 < k ∧ (xs.getD k 0).toNat = 0)) :
    numP xs = ((w ||| (xs.getD k 0 &&& 127#8).setWidth 64 <<< (7 * k)).toNat, k + 1, 0) := by
  rw [e, drop_cons h, numG, if_neg hf, if_pos hx, if_neg hz, acc_or hw h9 (by omega), Nat.mod_eq_of_lt hx]
theorem np_more (e : numP xs = numG k w.toNat (xs.drop k)) (hw : w.toNat < 128 ^ k) (h9 : k ≤ 9) (h : k < xs.length) (hf : ¬ (k = 9 ∧ 1 < (xs.getD k 0).toNat)) (hx : ¬ (xs.getD k 0).toNat < 128) :
    numP xs = numG (k + 1) (w ||| (xs.getD k 0 &&& 127#8).setWidth 64 <<< (7 * k)).toNat (xs.drop (k + 1)) ∧ (w ||| (xs.getD k 0 &&& 127#8).setWidth 64 <<< (7 * k)).toNat < 128 ^ (k + 1) ∧ k + 1 ≤ 9 := by
  have hxl := (xs.getD k 0).isLt
  have hm : (xs.getD k 0).toNat % 128 = (xs.getD k 0).toNat - 128 := by omega
  rw [acc_or hw h9 (by omega), hm]
  refine ⟨by rw [e, drop_cons h, numG, if_neg hf, if_neg hx], ?_, by omega⟩
  rw [Nat.pow_succ]
  have : ((xs.getD k 0).toNat - 128) * 128 ^ k ≤ 127 * 128 ^ k := Nat.mul_le_mul_right _ (by omega)
  omega
theorem np_short (e : numP xs = numG k w.toNat (xs.drop k)) (h : xs.length ≤ k) : numP xs = (0, 0, 10) := by
  rw [e, List.drop_of_length_le h, numG]
end
/-- what a number's taking comes to, as it is told -/
structure NumR (xs : List Y) (n k : Nat) (e : Int) : Prop where
  eq : numP xs = (n, k, e)
  lt : n < 18446744073709551616
  le : k ≤ xs.length
theorem NumR.of {xs : List Y} {n k : Nat} {e : Int} (h : numP xs = (n, k, e)) : NumR xs n k e := by
  by_cases he : e = 0
  · subst he
    obtain ⟨_, h2, _, h4⟩ := num_canon h
    exact ⟨h, h2, h4⟩
  · obtain ⟨rfl, rfl⟩ := num_fault xs 0 0 n k e h he
    exact ⟨h, by decide, Nat.zero_le _⟩
theorem rd_num_bad {xs : List Y} {e : Int} (h : ¬ e = 0) : rdNum ⟨xs, e⟩ = (0, ⟨xs, e⟩) := by unfold rdNum; rw [if_pos h]
theorem rd_num_ok {xs L : List Y} {e e' : Int} {n k : Nat} (h : e = 0) (hN : NumR xs n k e') (eL : L = xs.drop k) : rdNum ⟨xs, e⟩ = (n, ⟨L, e'⟩) := by
  unfold rdNum; rw [if_neg (by simp [h])]; simp only [hN.eq, eL]
theorem rd_str_bad {most : Nat} {xs : List Y} {e : Int} (h : ¬ e = 0) : rdStr most ⟨xs, e⟩ = ([], ⟨xs, e⟩) := by unfold rdStr; rw [if_pos h]
theorem rd_str_form {most n k : Nat} {xs : List Y} {e e' : Int} (h : e = 0) (hN : NumR xs n k e') (he : ¬ e' = 0) : rdStr most ⟨xs, e⟩ = ([], ⟨xs, e'⟩) := by
  unfold rdStr; rw [if_neg (by simp [h])]; simp only [hN.eq]; rw [if_pos he]
theorem rd_str_long {most n k : Nat} {xs : List Y} {e e' : Int} (h : e = 0) (hN : NumR xs n k e') (he : e' = 0) (hn : most < n) : rdStr most ⟨xs, e⟩ = ([], ⟨xs, 4⟩) := by
  unfold rdStr; rw [if_neg (by simp [h])]; simp only [hN.eq]; rw [if_neg (by simp [he]), if_pos hn]
theorem rd_str_short {most n k : Nat} {xs : List Y} {e e' : Int} (h : e = 0) (hN : NumR xs n k e') (he : e' = 0) (hn : ¬ most < n) (hl : xs.length - k < n) : rdStr most ⟨xs, e⟩ = ([], ⟨xs, 10⟩) := by
  unfold rdStr; rw [if_neg (by simp [h])]; simp only [hN.eq]; rw [if_neg (by simp [he]), if_neg hn, if_pos hl]
theorem rd_str_ok {most n k : Nat} {xs L M : List Y} {e e' : Int} (h : e = 0) (hN : NumR xs n k e') (he : e' = 0) (hn : ¬ most < n) (hl : ¬ xs.length - k < n) (eL : L = (xs.drop k).take (k + n - k)) (eM : M = xs.drop (k + n)) : rdStr most ⟨xs, e⟩ = (L, ⟨M, 0⟩) := by
  unfold rdStr; rw [if_neg (by simp [h])]; simp only [hN.eq]; rw [if_neg (by simp [he]), if_neg hn, if_neg hl, eL, eM, Nat.add_sub_cancel_left]
theorem rd_byte_bad {xs : List Y} {e : Int} (h : ¬ e = 0) : rdByte ⟨xs, e⟩ = (0, ⟨xs, e⟩) := by unfold rdByte; rw [if_pos h]
theorem rd_byte_short {xs : List Y} {e : Int} (h : e = 0) (hl : xs.length < 1) : rdByte ⟨xs, e⟩ = (0, ⟨xs, 10⟩) := by unfold rdByte; rw [if_neg (by simp [h]), if_pos hl]
theorem rd_byte_ok {xs L : List Y} {e : Int} (h : e = 0) (hl : ¬ xs.length < 1) (eL : L = xs.drop 1) : rdByte ⟨xs, e⟩ = (xs.getD 0 0, ⟨L, 0⟩) := by unfold rdByte; rw [if_neg (by simp [h]), if_neg hl, eL]
def endI (xs : List Y) (e : Int) : Int := if e = 0 ∧ 0 < xs.length then 12 else e
end Go.Tan

namespace Go.Tan
open Go.RowKit
/-! ### How many groups, and laying them -/
/-- the first so many of a number's bytes -/
theorem num_at : ∀ (i n : Nat), i < (numN n).length → (numN n).getD i 0 = if i + 1 < (numN n).length then BitVec.ofNat 8 (n / 128 ^ i % 128 + 128) else BitVec.ofNat 8 (n / 128 ^ i)
  | 0, n, h => by
    by_cases hn : n < 128
    · rw [num_small hn]; simp
    · rw [num_big hn]
      have := num_pos (n / 128)
      rw [if_pos (by simp only [List.length_cons]; omega)]
      simp
  | i + 1, n, h => by
    by_cases hn : n < 128
    · rw [num_small hn] at h; simp at h
    · rw [num_big hn] at h ⊢
      simp only [List.length_cons, List.getD_cons_succ] at h ⊢
      rw [num_at i (n / 128) (by omega), Nat.div_div_eq_div_mul, Nat.pow_succ, Nat.mul_comm]
      by_cases hi : i + 1 < (numN (n / 128)).length
      · rw [if_pos hi, if_pos (by omega)]
      · rw [if_neg hi, if_neg (by omega)]
theorem num_lastlt : ∀ (n : Nat), n / 128 ^ ((numN n).length - 1) < 128 := by
  intro n
  induction n using Nat.strongRecOn with
  | ind n ih =>
    by_cases hn : n < 128
    · rw [num_small hn]; simpa using hn
    · have h1 := ih (n / 128) (by omega)
      have h2 := num_pos (n / 128)
      rw [num_big hn, List.length_cons]
      have e : (numN (n / 128)).length + 1 - 1 = ((numN (n / 128)).length - 1) + 1 := by omega
      rw [e, Nat.pow_succ, Nat.mul_comm, ← Nat.div_div_eq_div_mul]
      exact h1
theorem take_snY {xs : List Y} {i : Nat} (h : i < xs.length) : xs.take i ++ [xs.getD i 0] = xs.take (i + 1) := by
  rw [List.take_succ_eq_append_getElem h]; simp [h]
/-- one more byte: a group that is not the last, and the last -/
theorem num_grp {n i : Nat} {m : BitVec 64} {L : List Y} (e : L = (numN n).take i) (hm : m.toNat = n / 128 ^ i) (h : i + 1 < (numN n).length) : L ++ [(m % 128#64).setWidth 8 + 128#8] = (numN n).take (i + 1) := by
  rw [← take_snY (by omega), e, num_at i n (by omega), if_pos h, ← hm]
  congr 2
  apply BitVec.eq_of_toNat_eq
  have e1 : (128#64).toNat = 128 := rfl
  have e2 : (128#8).toNat = 128 := rfl
  rw [BitVec.toNat_add, BitVec.toNat_setWidth, BitVec.toNat_umod, e1, e2, BitVec.toNat_ofNat]
  omega
theorem num_grp1 {n i : Nat} {m : BitVec 64} {L : List Y} (e : L = (numN n).take i) (hm : m.toNat = n / 128 ^ i) (h : ¬ i + 1 < (numN n).length) (h2 : i < (numN n).length) : L ++ [(m % 128#64).setWidth 8] = (numN n).take (i + 1) := by
  rw [← take_snY (by omega), e, num_at i n (by omega), if_neg h, ← hm]
  congr 2
  have hl := num_lastlt n
  rw [show (numN n).length - 1 = i by omega, ← hm] at hl
  apply BitVec.eq_of_toNat_eq
  have e1 : (128#64).toNat = 128 := rfl
  rw [BitVec.toNat_setWidth, BitVec.toNat_umod, e1, BitVec.toNat_ofNat]
  omega
theorem div128 {n i : Nat} {m : BitVec 64} (hm : m.toNat = n / 128 ^ i) : (m / 128#64).toNat = n / 128 ^ (i + 1) := by
  rw [BitVec.toNat_udiv, hm, Nat.pow_succ, Nat.div_div_eq_div_mul]; rfl
theorem div1 (m : BitVec 64) : (m / 128#64).toNat = m.toNat / 128 := by rw [BitVec.toNat_udiv]; rfl
theorem grp_step {k n : Nat} {m : BitVec 64} (e : k + (numN m.toNat).length = 1 + (numN n).length) (h : 127 < m.toNat) : k + 1 + (numN (m / 128#64).toNat).length = 1 + (numN n).length := by
  rw [num_big (by omega), List.length_cons] at e
  rw [div1]; omega
theorem grp_end {k n : Nat} {m : BitVec 64} (e : k + (numN m.toNat).length = 1 + (numN n).length) (h : m.toNat ≤ 127) : k = (numN n).length := by
  rw [num_small (by omega)] at e
  simp at e; omega
/-! ### Taking -/
def Lead (B : List Y) (I k : Nat) : Prop := ∀ j, j < k → 128 ≤ (B.getD (I + j) 0).toNat
def accN (B : List Y) (I : Nat) : Nat → Nat
  | 0 => 0
  | k + 1 => accN B I k + ((B.getD (I + k) 0).toNat - 128) * 128 ^ k
section
variable {B : List Y} {I k : Nat}
theorem Lead.zero : Lead B I 0 := fun j hj => by omega
theorem Lead.succ (h : Lead B I k) (hx : 128 ≤ (B.getD (I + k) 0).toNat) : Lead B I (k + 1) := fun j hj => by
  by_cases e : j = k
  · subst e; exact hx
  · exact h j (by omega)
theorem drop_get (B : List Y) (I j : Nat) : (B.drop I).getD j 0 = B.getD (I + j) 0 := by simp [List.getD_eq_getElem?_getD, List.getElem?_drop]
theorem lead_walk : ∀ (k : Nat), Lead B I k → k ≤ 9 → I + k ≤ B.length → numP (B.drop I) = numG k (accN B I k) ((B.drop I).drop k)
  | 0, _, _, _ => rfl
  | k + 1, h, h9, hl => by
    rw [lead_walk k (fun j hj => h j (by omega)) (by omega) (by omega), drop_cons (by simp only [List.length_drop]; omega), drop_get, numG, if_neg (by omega), if_neg (by have := h k (by omega); omega)]
    rfl
theorem rf_10 (h : Lead B I k) (hk : k = 10) (hl : I + k ≤ B.length) : numP (B.drop I) = (0, 0, 11) := by
  subst hk
  rw [lead_walk 9 (fun j hj => h j (by omega)) (by omega) (by omega), drop_cons (by simp only [List.length_drop]; omega), drop_get, numG, if_pos ⟨rfl, by have := h 9 (by omega); omega⟩]
theorem rf_short (h : Lead B I k) (hk : k ≤ 9) (h1 : I + k ≤ B.length) (hl : B.length ≤ I + k) : numP (B.drop I) = (0, 0, 10) := by
  rw [lead_walk k h hk h1, List.drop_of_length_le (by simp only [List.length_drop]; omega), numG]
theorem rf_form (h : Lead B I k) (hk : k ≤ 9) (h1 : I + k < B.length) (hx : (B.getD (I + k) 0).toNat < 128) (hb : k = 9 ∧ 1 < (B.getD (I + k) 0).toNat ∨ 0 < k ∧ (B.getD (I + k) 0).toNat = 0) : numP (B.drop I) = (0, 0, 11) := by
  rw [lead_walk k h hk (by omega), drop_cons (by simp only [List.length_drop]; omega), drop_get, numG]
  by_cases c : k = 9 ∧ 1 < (B.getD (I + k) 0).toNat
  · rw [if_pos c]
  · rw [if_neg c, if_pos hx, if_pos (by omega)]
theorem rf_ok (h : Lead B I k) (hk : k ≤ 9) (h1 : I + k < B.length) (hx : (B.getD (I + k) 0).toNat < 128) (hb : ¬ (k = 9 ∧ 1 < (B.getD (I + k) 0).toNat)) (hc : ¬ (0 < k ∧ (B.getD (I + k) 0).toNat = 0)) : numP (B.drop I) = (accN B I k + (B.getD (I + k) 0).toNat * 128 ^ k, k + 1, 0) := by
  rw [lead_walk k h hk (by omega), drop_cons (by simp only [List.length_drop]; omega), drop_get, numG, if_neg hb, if_pos hx, if_neg hc]
/-- so far the number is that, from the end on -/
theorem back_step {i T : Nat} {w : BitVec 64} (e : w.toNat * 128 ^ (i + 1) + accN B I (i + 1) = T) (hT : T < 18446744073709551616) (hx : 128 ≤ (B.getD (I + i) 0).toNat) :
    (w * 128#64 + ((B.getD (I + i) 0) - 128#8).setWidth 64).toNat * 128 ^ i + accN B I i = T := by
  have hxl := (B.getD (I + i) 0).isLt
  have hp : 0 < 128 ^ i := Nat.pow_pos (by decide)
  rw [accN, Nat.pow_succ] at e
  have e1 : ((B.getD (I + i) 0 - 128#8).setWidth 64).toNat = (B.getD (I + i) 0).toNat - 128 := by
    rw [BitVec.toNat_setWidth, BitVec.toNat_sub]
    have : (128#8).toNat = 128 := rfl
    rw [this]; omega
  have e2 : w.toNat * (128 ^ i * 128) = (w.toNat * 128) * 128 ^ i := by rw [Nat.mul_comm (128 ^ i) 128, ← Nat.mul_assoc]
  rw [e2] at e
  have e3 : (w.toNat * 128 + ((B.getD (I + i) 0).toNat - 128)) * 128 ^ i + accN B I i = T := by rw [Nat.add_mul]; omega
  have hlt : w.toNat * 128 + ((B.getD (I + i) 0).toNat - 128) < 18446744073709551616 := by
    have : (w.toNat * 128 + ((B.getD (I + i) 0).toNat - 128)) * 1 ≤ (w.toNat * 128 + ((B.getD (I + i) 0).toNat - 128)) * 128 ^ i := Nat.mul_le_mul_left _ hp
    omega
  have e4 : (w * 128#64 + ((B.getD (I + i) 0) - 128#8).setWidth 64).toNat = w.toNat * 128 + ((B.getD (I + i) 0).toNat - 128) := by
    rw [BitVec.toNat_add, e1, BitVec.toNat_mul]
    have : (128#64).toNat = 128 := rfl
    rw [this]; omega
  rw [e4]; exact e3
theorem back_start {x : Y} (hx : x = B.getD (I + k) 0) : (x.setWidth 64).toNat * 128 ^ k + accN B I k = accN B I k + (B.getD (I + k) 0).toNat * 128 ^ k := by
  have h := x.isLt
  rw [BitVec.toNat_setWidth, Nat.mod_eq_of_lt (by omega), hx]; omega
theorem back_end {T : Nat} {w : BitVec 64} (e : w.toNat * 128 ^ 0 + accN B I 0 = T) : w.toNat = T := by rw [accN, Nat.pow_zero] at e; omega
end
theorem rn_bad {B : List Y} {I : Nat} {e e' : Int} (h : e = 0) (hN : numP (B.drop I) = (0, 0, e')) : rdNum ⟨B.drop I, e⟩ = (0, ⟨B.drop I, e'⟩) := rd_num_ok h (.of hN) rfl
theorem rn_ok {B : List Y} {I k n T : Nat} {e : Int} (h : e = 0) (hN : numP (B.drop I) = (T, k + 1, 0)) (hn : n = T) : rdNum ⟨B.drop I, e⟩ = (n, ⟨B.drop (I + k + 1), 0⟩) := by
  subst hn; refine rd_num_ok h (.of hN) ?_; rw [List.drop_drop]; rfl
theorem num_inv0 {s : Rd'} {n : Nat} {L : List Y} {e' : Int} (h : rdNum s = (n, ⟨L, e'⟩)) (h0 : s.bad = 0) : ∃ k, NumR s.rest n k e' ∧ L = s.rest.drop k := by
  unfold rdNum at h
  rw [if_neg (by simp [h0])] at h
  simp only [Prod.mk.injEq, Rd'.mk.injEq] at h
  exact ⟨(numP s.rest).2.1, .of (by rw [← h.1, ← h.2.2]), h.2.1.symm⟩
theorem rdnum_lt {s : Rd'} {n : Nat} {t : Rd'} (h : rdNum s = (n, t)) : n < 18446744073709551616 := by
  unfold rdNum at h
  split at h
  · simp only [Prod.mk.injEq] at h; omega
  · simp only [Prod.mk.injEq] at h
    have := NumR.of (xs := s.rest) (n := (numP s.rest).1) (k := (numP s.rest).2.1) (e := (numP s.rest).2.2) rfl
    have := this.lt
    omega
theorem qs_form {B : List Y} {I I' n most : Nat} {e e' : Int} (h : e = 0) (hN : rdNum ⟨B.drop I, e⟩ = (n, ⟨B.drop I', e'⟩)) (he : ¬ e' = 0) : rdStr most ⟨B.drop I, e⟩ = ([], ⟨B.drop I', e'⟩) := by
  obtain ⟨k, hk, hL⟩ := num_inv0 hN h
  obtain ⟨_, rfl⟩ := num_fault _ _ _ _ _ _ hk.eq he
  rw [hL, List.drop_zero]; exact rd_str_form h hk he
theorem qs_long {B : List Y} {I I' n most : Nat} {e e' : Int} (h : e = 0) (hN : rdNum ⟨B.drop I, e⟩ = (n, ⟨B.drop I', e'⟩)) (he : e' = 0) (hn : most < n) : rdStr most ⟨B.drop I, e⟩ = ([], ⟨B.drop I, 4⟩) := by
  obtain ⟨k, hk, hL⟩ := num_inv0 hN h
  exact rd_str_long h hk he hn
theorem qs_len {B : List Y} {I' k : Nat} {r : List Y} (hL : B.drop I' = r.drop k) : B.length - I' = r.length - k := by
  have := congrArg List.length hL
  simpa only [List.length_drop] using this
theorem qs_short {B : List Y} {I I' n most : Nat} {e e' : Int} (h : e = 0) (hN : rdNum ⟨B.drop I, e⟩ = (n, ⟨B.drop I', e'⟩)) (he : e' = 0) (hI' : I' ≤ B.length) (hn : ¬ most < n) (hl : B.length - I' < n) : rdStr most ⟨B.drop I, e⟩ = ([], ⟨B.drop I, 10⟩) := by
  obtain ⟨k, hk, hL⟩ := num_inv0 hN h
  have := qs_len hL
  simp only at this
  exact rd_str_short h hk he hn (by omega)
theorem qs_ok {B L : List Y} {I I' n most : Nat} (hN : rdNum ⟨B.drop I, 0⟩ = (n, ⟨B.drop I', 0⟩)) (hI' : I' ≤ B.length) (hn : ¬ most < n) (hl : ¬ B.length - I' < n) (eL : L = (B.drop I').take (I' + n - I')) : rdStr most ⟨B.drop I, 0⟩ = (L, ⟨B.drop (I' + n), 0⟩) := by
  obtain ⟨k, hk, hL⟩ := num_inv0 hN rfl
  have := qs_len hL
  simp only at this
  refine rd_str_ok rfl hk rfl hn (by omega) ?_ ?_
  · rw [eL, hL, Nat.add_sub_cancel_left, Nat.add_sub_cancel_left]
  · rw [← List.drop_drop, hL, List.drop_drop]
end Go.Tan

namespace Go.Tan
open Go.RowKit
section
variable {P : Program} {G : PM} {μ : Mem}
theorem Ct.give {f : FuncId} {args : Array Value} {b : Nat} {o : Obj} {post : PM → Mem → Value → Prop} (h : PM.le G (G.add b o) → Ct P f args (G.add b o) μ post) : Ct P f args G (.blk b o :: μ) post := by
  intro w hs
  have hk : keys (.blk b o :: μ) = b :: keys μ := by simp [keys, Res.keys]
  have hnd := hs.nodup
  rw [hk] at hnd
  have hbμ := (List.nodup_cons.1 hnd).1
  have hbo : w.heap[b]? = some o := hs.own _ (List.mem_cons_self ..)
  have hs2 : Sat (G.add b o) μ w := by
    refine ⟨fun c u hc => ?_, fun r hr => hs.own r (List.mem_cons_of_mem _ hr), fun c hc => ?_, (List.nodup_cons.1 hnd).2⟩
    · unfold PM.add at hc
      split at hc
      · rename_i e; subst e; cases hc; exact hbo
      · exact hs.sub c u hc
    · unfold PM.add
      rw [if_neg (fun (e : c = b) => hbμ (e ▸ hc))]
      exact hs.apart c (by rw [hk]; exact List.mem_cons_of_mem _ hc)
  refine (h (PM.le_add (hs.apart b (by simp [keys, Res.keys]))) w hs2).mono ?_
  rintro e w' ⟨v, G', μ', rfl, ht, hQ⟩
  refine ⟨v, G', μ', rfl, ⟨ht.sat, ht.os, ht.tape, ht.output, ht.size, fun c hc hK => ?_, fun c hc => ?_, fun c u hK hc => ?_⟩, hQ⟩
  · rw [hk] at hK
    have hne : c ≠ b := fun e => hK (by rw [e]; exact List.mem_cons_self ..)
    have h1 := ht.old c hc (fun hm => hK (List.mem_cons_of_mem _ hm))
    refine ⟨h1.1, ?_⟩
    rw [h1.2]
    unfold PM.add
    rw [if_neg hne]
  · rw [hk]
    rcases ht.mine c hc with h1 | h1
    · exact .inl (List.mem_cons_of_mem _ h1)
    · exact .inr h1
  · rw [hk] at hK
    have hne : c ≠ b := fun e => hK (by rw [e]; exact List.mem_cons_self ..)
    exact ht.le c u (fun hm => hK (List.mem_cons_of_mem _ hm)) (by unfold PM.add; rw [if_neg hne]; exact hc)
end
def encQ (x : Int) : List Value := [.int .u64 x]
theorem encQ_map : ∀ ns : List Int, ns.flatMap encQ = ns.map (Value.int .u64)
  | [] => rfl
  | x :: ns => by rw [List.flatMap_cons, encQ_map ns]; rfl
theorem SlR.u1 {G : PM} {s : Sh} {xs : List Int} (h : SlR G 1 encQ s xs) {j : Int} (k : Nat) {x : Int} (hj : j.toNat = k) (hx : xs[k]? = some x) : RdP G ⟨s.b, s.o + j.toNat * 1, none⟩ (.int .u64 x) := by
  have := (h.nth k hj hx) 0 _ rfl
  simpa using this
theorem SlR.lit {G : PM} {b cap : Nat} {ns : List Int} {T : TypeId} (h : ns.length ≤ cap) : SlR (G.add b (cl (ns.flatMap encQ) T)) 1 encQ ⟨some ⟨b, 0, none⟩, cap⟩ ns := by
  refine ⟨fun _ => rfl, h, fun i x hx j v hj => ?_⟩
  have h0 : j = 0 ∧ v = .int .u64 x := by
    cases j with
    | zero => simp [encQ] at hj; exact ⟨rfl, hj.symm⟩
    | succ j => simp [encQ] at hj
  obtain ⟨rfl, rfl⟩ := h0
  have := RdNP.add (G := G) (b := b) (cs := ns.flatMap encQ) (T := T) i (.int .u64 x) (by rw [encQ_map, List.getElem?_map, hx]; rfl)
  simpa [Sh.b, Sh.o] using this
theorem SlR.part {G : PM} {b o cap : Nat} {ns : List Int} {cs : List Value} (hp : RdNP G b 0 cs) (hc : (cs.drop o).take ns.length = ns.flatMap encQ) (h : ns.length ≤ cap) : SlR G 1 encQ ⟨some ⟨b, o, none⟩, cap⟩ ns := by
  refine ⟨fun _ => rfl, h, fun i x hx j v hj => ?_⟩
  have h0 : j = 0 ∧ v = .int .u64 x := by
    cases j with
    | zero => simp [encQ] at hj; exact ⟨rfl, hj.symm⟩
    | succ j => simp [encQ] at hj
  obtain ⟨rfl, rfl⟩ := h0
  have hi : i < ns.length := by
    rcases Nat.lt_or_ge i ns.length with h | h
    · exact h
    · rw [List.getElem?_eq_none h] at hx; cases hx
  have hg : cs[o + i]? = some (.int .u64 x) := by
    have := congrArg (fun l => l[i]?) hc
    simp only [encQ_map, List.getElem?_map, hx, List.getElem?_take, if_pos hi, List.getElem?_drop] at this
    exact this
  have := hp (o + i) (.int .u64 x) hg
  simpa [Sh.b, Sh.o] using this
theorem numsL_snoc {ns : List Int} {k : Nat} {x : Int} (h : ns[k]? = some x) : numsL (ns.take (k + 1)) = numsL (ns.take k) ++ numN x.toNat := by
  rw [List.take_add_one, h]; simp [numsL]
theorem numsL_len : ∀ {ns : List Int}, (∀ x ∈ ns, u64 x) → (numsL ns).length ≤ 10 * ns.length
  | [], _ => by simp [numsL]
  | x :: ns, h => by
    have h1 := h x (List.mem_cons_self ..)
    unfold u64 at h1
    have h2 := num_len10 (n := x.toNat) (by omega)
    have h3 := numsL_len (ns := ns) (fun y hy => h y (List.mem_cons_of_mem _ hy))
    have : numsL (x :: ns) = numN x.toNat ++ numsL ns := by simp [numsL]
    rw [this, List.length_append, List.length_cons]; omega
theorem numsL_take {ns : List Int} (h : ∀ x ∈ ns, u64 x) (k : Nat) : (numsL (ns.take k)).length ≤ 10 * ns.length := by
  have h1 := numsL_len (ns := ns.take k) (fun x hx => h x (List.mem_of_mem_take hx))
  rw [List.length_take] at h1; omega
theorem up_bad {bad : Bool} {n most : Nat} {e : Int} : ((bad || decide ((most : Int) < (n : Int))) || !decide (e = 0)) = (bad || (decide (most < n) || !decide (e = 0))) := by
  rw [Bool.or_assoc, decide_eq_decide.2 (show ((most : Int) < (n : Int)) ↔ most < n by omega)]
end Go.Tan

namespace Go.Tan
open Go.RowKit
section
variable {α : Type} {O : Option α} {s t : Rd'} {bad : Bool}
theorem Tk.numE {k : Nat → List Y → Option α} {n : Nat} (h : Tk O s bad (pNum k)) (hN : rdNum s = (n, t)) : Tk O t bad (k n) := by
  have := h.num; rw [hN] at this; exact this
theorem Tk.upE {most n : Nat} {k : Nat → List Y → Option α} {K : List Y → Option α} {L : List Y} {e' : Int} {bad' : Bool} (h : Tk O s bad (pUp most k)) (hN : rdNum s = (n, ⟨L, e'⟩)) (hb : bad' = (bad || (decide (most < n) || !decide (e' = 0)))) (hK : n ≤ most → K = k n) : Tk O ⟨L, e'⟩ bad' K := by
  have h1 := Tk.up (c := (decide (most < n) || !decide (e' = 0))) h (by rw [hN])
  rw [hN, ← hb] at h1
  by_cases hn : n ≤ most
  · rw [hK hn]; exact h1
  · have ht : bad' = true := by rw [hb, decide_eq_true (show most < n by omega)]; simp
    exact h1.lost (.inl ht) (.inl ht)
theorem Tk.strE {most : Nat} {k : List Y → List Y → Option α} {M : List Y} (h : Tk O s bad (pStr most k)) (hN : rdStr most s = (M, t)) : Tk O t bad (k M) := by
  have := h.str; rw [hN] at this; exact this
theorem Tk.byteE {k : Y → List Y → Option α} {y : Y} (h : Tk O s bad (pByte k)) (hN : rdByte s = (y, t)) : Tk O t bad (k y) := by
  have := h.byte; rw [hN] at this; exact this
end
theorem rdnum_le {s t : Rd'} {n : Nat} (h : rdNum s = (n, t)) : t.rest.length ≤ s.rest.length := by
  unfold rdNum at h
  split at h
  · simp only [Prod.mk.injEq] at h; rw [← h.2]; exact Nat.le_refl _
  · simp only [Prod.mk.injEq] at h; rw [← h.2]; simp
theorem rdstr_le {s t : Rd'} {most : Nat} {M : List Y} (h : rdStr most s = (M, t)) : t.rest.length ≤ s.rest.length := by
  unfold rdStr at h
  repeat' split at h
  all_goals (simp only [Prod.mk.injEq] at h; rw [← h.2]; simp)
theorem rdbyte_le {s t : Rd'} {y : Y} (h : rdByte s = (y, t)) : t.rest.length ≤ s.rest.length := by
  unfold rdByte at h
  repeat' split at h
  all_goals (simp only [Prod.mk.injEq] at h; rw [← h.2]; simp)
/-- so many of 32 bytes are taken -/
structure ByR (s0 s : Rd') (bad : Bool) (rt : List Y) : Prop where
  len : rt.length ≤ 32
  tk : ∀ (α : Type) (O : Option α) (K : List Y → List Y → Option α), Tk O s0 bad (pRep pByte 32 K) → Tk O s bad (pRep pByte (32 - rt.length) fun r => K (rt ++ r))
theorem ByR.zero {s0 : Rd'} {bad : Bool} : ByR s0 s0 bad [] := ⟨by simp, fun _ _ _ h => h⟩
theorem ByR.step {s0 s t : Rd'} {bad : Bool} {rt : List Y} {y : Y} (h : ByR s0 s bad rt) (hl : rt.length < 32) (hN : rdByte s = (y, t)) : ByR s0 t bad (rt ++ [y]) := by
  refine ⟨by simp; omega, fun α O K hK => ?_⟩
  have h1 := h.tk α O K hK
  obtain ⟨m, hm⟩ : ∃ m, 32 - rt.length = m + 1 := ⟨31 - rt.length, by omega⟩
  rw [hm, pRep] at h1
  have h2 := h1.byteE hN
  have hm2 : 32 - (rt ++ [y]).length = m := by simp; omega
  rw [hm2]
  have e : (fun r => K (rt ++ [y] ++ r)) = fun xs => K (rt ++ y :: xs) := by funext r; simp
  rw [e]; exact h2
theorem ByR.all {s0 s : Rd'} {bad : Bool} {rt : List Y} (h : ByR s0 s bad rt) (hl : rt.length = 32) {α : Type} {O : Option α} {K : List Y → List Y → Option α} (hK : Tk O s0 bad (pRep pByte 32 K)) : Tk O s bad (K rt) := by
  have h1 := h.tk α O K hK
  rw [hl, Nat.sub_self, pRep, List.append_nil] at h1
  exact h1
/-- what is known of a taking of one meta -/
def MetaT (s t : Rd') (bad bad' : Bool) (m : Meta) : Prop := ∀ (α : Type) (O : Option α) (k : Meta → List Y → Option α), Tk O s bad (pMeta k) → Tk O t bad' (k m)
theorem metaT {s t9 : Rd'} {b0 b1 b2 b3 : Bool} {n1 n2 n3 n4 n5 n6 : Nat} {L1 L5 L6 M7 M8 rt : List Y} {e1 e5 e6 : Int} {t2 t3 t4 t7 t8 : Rd'} {lv sz ct : Int} {root : Nat → Int}
    (h1 : rdNum s = (n1, ⟨L1, e1⟩)) (q1 : b1 = (b0 || (decide (255 < n1) || !decide (e1 = 0)))) (w1 : n1 ≤ 255 → lv = n1)
    (h2 : rdNum ⟨L1, e1⟩ = (n2, t2)) (h3 : rdNum t2 = (n3, t3)) (h4 : rdNum t3 = (n4, t4))
    (h5 : rdNum t4 = (n5, ⟨L5, e5⟩)) (q5 : b2 = (b1 || (decide (9223372036854775807 < n5) || !decide (e5 = 0)))) (w5 : n5 ≤ 9223372036854775807 → sz = n5)
    (h6 : rdNum ⟨L5, e5⟩ = (n6, ⟨L6, e6⟩)) (q6 : b3 = (b2 || (decide (9223372036854775807 < n6) || !decide (e6 = 0)))) (w6 : n6 ≤ 9223372036854775807 → ct = n6)
    (h7 : rdStr 1024 ⟨L6, e6⟩ = (M7, t7)) (h8 : rdStr 1024 t7 = (M8, t8)) (h9 : ByR t8 t9 b3 rt) (hl : rt.length = 32) (hr : root = fun i => ((rt.getD i 0).toNat : Int)) :
    MetaT s t9 b0 b3 ⟨lv, n2, n3, n4, sz, ct, bstr M7, bstr M8, root⟩ := by
  intro α O k h
  subst hr
  unfold pMeta at h
  have a1 := h.upE (K := pNum fun g => pNum fun ep => pNum fun nu => pUp 9223372036854775807 fun sz => pUp 9223372036854775807 fun ct => pStr 1024 fun mn => pStr 1024 fun mx => pRep pByte 32 fun rt =>
    k ⟨lv, g, ep, nu, sz, ct, bstr mn, bstr mx, fun i => ((rt.getD i 0).toNat : Int)⟩) h1 q1 (fun hn => by rw [w1 hn])
  have a2 := a1.numE h2
  have a3 := a2.numE h3
  have a4 := a3.numE h4
  have a5 := a4.upE (K := pUp 9223372036854775807 fun ct => pStr 1024 fun mn => pStr 1024 fun mx => pRep pByte 32 fun rt =>
    k ⟨lv, n2, n3, n4, sz, ct, bstr mn, bstr mx, fun i => ((rt.getD i 0).toNat : Int)⟩) h5 q5 (fun hn => by rw [w5 hn])
  have a6 := a5.upE (K := pStr 1024 fun mn => pStr 1024 fun mx => pRep pByte 32 fun rt =>
    k ⟨lv, n2, n3, n4, sz, ct, bstr mn, bstr mx, fun i => ((rt.getD i 0).toNat : Int)⟩) h6 q6 (fun hn => by rw [w6 hn])
  have a7 := a6.strE h7
  have a8 := a7.strE h8
  exact h9.all hl a8
theorem w_u8 {n : Nat} (h : n ≤ 255) : IntKind.u8.wrap (n : Int) = n := wrap_u8 (by omega) (by omega)
theorem w_i64 {n : Nat} (h : n ≤ 9223372036854775807) : IntKind.i64.wrap (n : Int) = n := wrap_i64 (by omega) (by omega)
theorem rt_step {rt : List Y} {k : Nat} {f : Nat → Y} {y : Y} (hr : rt.length = k) (ef : ∀ i, f i = rt.getD i 0) : ∀ i, upd f k ((y.setWidth 64).setWidth 8) i = (rt ++ [y]).getD i 0 := by
  intro i
  have hy : (y.setWidth 64).setWidth 8 = y := by
    apply BitVec.eq_of_toNat_eq
    have := y.isLt
    simp only [BitVec.toNat_setWidth]; omega
  unfold upd
  by_cases h : i = k
  · rw [if_pos h, hy, h, ← hr]; simp
  · rw [if_neg h, ef i]
    simp only [List.getD_eq_getElem?_getD]
    rcases Nat.lt_or_ge i rt.length with h1 | h1
    · rw [List.getElem?_append_left h1]
    · rw [List.getElem?_eq_none h1, List.getElem?_eq_none (by simp; omega)]
theorem mset {a b c d e g h i : Value} {f : Nat → Y} {k m : Nat} {y : Y} (hm : m = 8 + k) : ([a, b, c, d, e, g, h, i] ++ ba 32 f).set m (V y) = [a, b, c, d, e, g, h, i] ++ ba 32 (upd f k y) := by
  subst hm
  rw [List.set_append_right _ _ (by simp)]
  congr 1
  simp only [List.length_cons, List.length_nil]
  rw [show 8 + k - (0 + 1 + 1 + 1 + 1 + 1 + 1 + 1 + 1) = k by omega]
  exact ba_set
theorem mone {a b c d e g h i : Value} {f : Nat → Y} (h1 : a.oneCell' = true) (h2 : b.oneCell' = true) (h3 : c.oneCell' = true) (h4 : d.oneCell' = true) (h5 : e.oneCell' = true) (h6 : g.oneCell' = true) (h7 : h.oneCell' = true) (h8 : i.oneCell' = true) : ∀ u ∈ [a, b, c, d, e, g, h, i] ++ ba 32 f, u.oneCell' = true := by
  intro u hu
  rcases List.mem_append.1 hu with hu | hu
  · simp only [List.mem_cons, List.not_mem_nil, or_false] at hu
    rcases hu with rfl | rfl | rfl | rfl | rfl | rfl | rfl | rfl <;> assumption
  · unfold ba at hu
    obtain ⟨j, _, rfl⟩ := List.mem_map.1 hu
    rfl
/-! ### Looking up -/
def lookM (s : State) (u : ByteArray) : Nat → List Meta
  | 0 => []
  | n + 1 => lookM s u n ++ ovl s (n : Int) u u
theorem ovu_len (s : State) (k : Nat) (u : ByteArray) : (ovl s (k : Int) u u).length ≤ (s.lv k).length := by
  unfold ovl
  split
  · exact List.length_filter_le _ _
  · simp
theorem lookM_len (s : State) (u : ByteArray) : ∀ n, ((lookM s u n).length : Int) ≤ tot s n
  | 0 => by simp [lookM, tot]
  | n + 1 => by
    have h1 := lookM_len s u n
    have h2 := ovu_len s n u
    simp only [lookM, tot, List.length_append]; omega
theorem lookM_row (s : State) (u : ByteArray) (k : Nat) (v : Value) (E : Nat) : Res.row v E 40 ((lookM s u k).length + (ovl s (k : Int) u u).length) ((lookM s u k).flatMap Meta.cells ++ (ovl s (k : Int) u u).flatMap Meta.cells) = Res.row v E 40 (lookM s u (k + 1)).length ((lookM s u (k + 1)).flatMap Meta.cells) := by
  simp only [lookM, List.length_append, List.flatMap_append]
end Go.Tan

namespace Go.Tan
open Go.RowKit
theorem Conf.rep {k : CK} {f : Nat → Value} : ∀ (l : List Nat), (∀ i ∈ l, CkOk k (f i)) → Conf (List.replicate l.length k) (l.map f)
  | [], _ => .nil
  | i :: l, h => .cons (h i (List.mem_cons_self ..)) (Conf.rep l fun j hj => h j (List.mem_cons_of_mem _ hj))
def metaKs : List CK := [.int .u8, .int .u64, .int .u64, .int .u64, .int .i64, .int .i64, .str, .str] ++ List.replicate 32 (.int .u8)
theorem meta_conf {m : Meta} (h : m.wf) : Conf metaKs m.cells := by
  have l1 := h.level; have l2 := h.gen; have l3 := h.epoch; have l4 := h.number; have l5 := h.size; have l6 := h.count; have l7 := h.minL; have l8 := h.maxL
  refine Conf.app ?_ ?_
  · refine .cons (.int ?_ ?_) (.cons (.int ?_ ?_) (.cons (.int ?_ ?_) (.cons (.int ?_ ?_) (.cons (.int ?_ ?_) (.cons (.int ?_ ?_) (.cons (.str ?_) (.cons (.str ?_) .nil)))))))
    all_goals first
      | (simp only [IntKind.min, IntKind.max, IntKind.bits, IntKind.signed]; simp; omega)
      | (simp only [maxLen]; omega)
  · have := Conf.rep (k := .int .u8) (f := fun i => .int .u8 (m.root i)) (List.range 32) (fun i hi => by
      have hr := h.root i (List.mem_range.1 hi)
      refine .int ?_ ?_
      all_goals (simp only [IntKind.min, IntKind.max, IntKind.bits, IntKind.signed]; simp; omega))
    rw [List.length_range] at this
    exact this
open Classical in
noncomputable def eqM (a b : Meta) : Bool := decide (a.cells = b.cells)
theorem eqM_iff {a b : Meta} : eqM a b = true ↔ a.cells = b.cells := by unfold eqM; simp
open Classical in
noncomputable def sameM (a b : List Meta) : Bool := decide (a.map Meta.cells = b.map Meta.cells)
theorem sameM_iff {a b : List Meta} : sameM a b = true ↔ a.map Meta.cells = b.map Meta.cells := by unfold sameM; simp
theorem sameM_refl (a : List Meta) : sameM a a = true := by unfold sameM; simp
theorem sameM_len {a b : List Meta} (h : a.length ≠ b.length) : sameM a b = false := by
  refine Bool.eq_false_iff.2 fun e0 => ?_
  have e := sameM_iff.1 e0
  exact h (by have := congrArg List.length e; simpa using this)
theorem sameM_no {a b : List Meta} {k : Nat} (hk : k < a.length) (hl : a.length = b.length) (h : eqM (a.getD k Meta.zero) (b.getD k Meta.zero) = false) : sameM a b = false := by
  refine Bool.eq_false_iff.2 fun e0 => ?_
  have e := sameM_iff.1 e0
  have h1 := congrArg (fun l => l[k]?) e
  have hb : k < b.length := by omega
  simp only [List.getElem?_map, List.getElem?_eq_getElem hk, List.getElem?_eq_getElem hb, Option.map_some, Option.some.injEq] at h1
  have : eqM (a.getD k Meta.zero) (b.getD k Meta.zero) = true := eqM_iff.2 (by simpa [hk, hb] using h1)
  rw [h] at this; cases this
theorem sameM_yes {a b : List Meta} (hl : a.length = b.length) (h : ∀ j, j < a.length → eqM (a.getD j Meta.zero) (b.getD j Meta.zero) = true) : sameM a b = true := by
  refine sameM_iff.2 (List.ext_getElem (by simpa using hl) fun i h1 h2 => ?_)
  simp only [List.length_map] at h1 h2
  have := eqM_iff.1 (h i h1)
  simpa [h1, h2] using this
end Go.Tan

namespace Go.Tan
open Go.RowKit
structure RpR {β : Type} (f : ∀ α : Type, (β → List Y → Option α) → List Y → Option α) (N : Nat) (s0 s : Rd') (bad0 bad : Bool) (rt : List β) : Prop where
  len : rt.length ≤ N
  tk : ∀ (α : Type) (O : Option α) (K : List β → List Y → Option α), Tk O s0 bad0 (pRep (f α) N K) → Tk O s bad (pRep (f α) (N - rt.length) fun r => K (rt ++ r))
section
variable {β : Type} {f : ∀ α : Type, (β → List Y → Option α) → List Y → Option α} {N : Nat} {s0 s t : Rd'} {bad0 bad bad' : Bool} {rt : List β} {x : β}
theorem RpR.zero : RpR f N s0 s0 bad0 bad0 [] := ⟨by simp, fun _ _ _ h => h⟩
theorem RpR.step (h : RpR f N s0 s bad0 bad rt) (hl : rt.length < N) (hx : ∀ (α : Type) (O : Option α) (k : β → List Y → Option α), Tk O s bad (f α k) → Tk O t bad' (k x)) : RpR f N s0 t bad0 bad' (rt ++ [x]) := by
  refine ⟨by simp; omega, fun α O K hK => ?_⟩
  have h1 := h.tk α O K hK
  obtain ⟨m, hm⟩ : ∃ m, N - rt.length = m + 1 := ⟨N - 1 - rt.length, by omega⟩
  rw [hm, pRep] at h1
  have h2 := hx α O _ h1
  have hm2 : N - (rt ++ [x]).length = m := by simp; omega
  rw [hm2]
  have e : (fun r => K (rt ++ [x] ++ r)) = fun xs => K (rt ++ x :: xs) := by funext r; simp
  rw [e]; exact h2
theorem RpR.all (h : RpR f N s0 s bad0 bad rt) (hl : rt.length = N) {α : Type} {O : Option α} {K : List β → List Y → Option α} (hK : Tk O s0 bad0 (pRep (f α) N K)) : Tk O s bad (K rt) := by
  have h1 := h.tk α O K hK
  rw [hl, Nat.sub_self, pRep, List.append_nil] at h1
  exact h1
theorem RpR.stop (h : RpR f N s0 s bad0 bad rt) (hb : bad = true) {α : Type} {O : Option α} {K : List β → List Y → Option α} {k' : List Y → Option α} (hK : Tk O s0 bad0 (pRep (f α) N K)) : Tk O s bad k' :=
  (h.tk α O K hK).lost (.inl hb) (.inl hb)
end
/-! ### An edit's nine numbers -/
def nine (g : Nat → Int) : List Value := (List.range 9).map fun i => .int .u64 (g i)
theorem nine_len (g : Nat → Int) : (nine g).length = 9 := by simp [nine]
theorem nine_set {g : Nat → Int} {k : Nat} {x : Int} {v w : Value} (hk : k < 9) : (nine g ++ [v, w]).set k (.int .u64 x) = nine (upd g k x) ++ [v, w] := by
  rw [List.set_append_left _ _ (by rw [nine_len]; exact hk)]
  congr 1
  refine List.ext_getElem? fun i => ?_
  rw [List.getElem?_set, nine_len]
  unfold nine upd
  by_cases h : k = i
  · subst h; simp [hk]
  · rw [if_neg h, List.getElem?_map, List.getElem?_map]
    by_cases hi : i < 9
    · rw [List.getElem?_range hi]; simp [Ne.symm h]
    · rw [List.getElem?_eq_none (by simp; omega)]; rfl
/-- what follows the nine numbers -/
def decK (gs : List Nat) : List Y → Option Edit :=
  pUp 1024 fun na => pRep pMeta na fun add => pUp 1024 fun nd => pRep pGone nd fun drop =>
    pEnd ⟨(gs.getD 0 0 : Nat), (gs.getD 1 0 : Nat), (gs.getD 2 0 : Nat), (gs.getD 3 0 : Nat), fun i => ((gs.getD (i + 4) 0 : Nat) : Int), add, drop⟩
theorem decO9 : decO = pRep pNum 9 decK := rfl
end Go.Tan

namespace Go.Tan
open Go.RowKit
theorem nine_a {g : Nat → Int} {a b : Value} : (nine g ++ [a, b])[9]? = some a := rfl
theorem nine_d {g : Nat → Int} {a b : Value} : (nine g ++ [a, b])[10]? = some b := rfl
theorem nine_sa {g : Nat → Int} {a b v : Value} : (nine g ++ [a, b]).set 9 v = nine g ++ [v, b] := rfl
theorem nine_sd {g : Nat → Int} {a b v : Value} : (nine g ++ [a, b]).set 10 v = nine g ++ [a, v] := rfl
theorem nine2_len {g : Nat → Int} {a b : Value} : (nine g ++ [a, b]).length = 11 := by rw [List.length_append, nine_len]; rfl
theorem nine_one {g : Nat → Int} {a b : Value} (ha : a.oneCell' = true) (hb : b.oneCell' = true) : ∀ u ∈ nine g ++ [a, b], u.oneCell' = true := by
  intro u hu
  rcases List.mem_append.1 hu with hu | hu
  · unfold nine at hu
    obtain ⟨j, _, rfl⟩ := List.mem_map.1 hu
    rfl
  · simp only [List.mem_cons, List.not_mem_nil, or_false] at hu
    rcases hu with rfl | rfl <;> assumption
theorem nine_st {g : Nat → Int} {k m : Nat} {x : Int} {v w : Value} (hm : m = k) (hk : k < 9) : (nine g ++ [v, w]).set m (.int .u64 x) = nine (upd g k x) ++ [v, w] := by subst hm; exact nine_set hk
theorem four_at {b k : Nat} {j : Int} (hj : j = k) (hk : k < 4) : ([.pointer (some ⟨b, 0, none⟩), .pointer (some ⟨b, 1, none⟩), .pointer (some ⟨b, 2, none⟩), .pointer (some ⟨b, 3, none⟩)] : List Value)[0 + j.toNat * 1]? = some (.pointer (some ⟨b, k, none⟩)) := by
  subst hj
  rcases (show k = 0 ∨ k = 1 ∨ k = 2 ∨ k = 3 by omega) with rfl | rfl | rfl | rfl <;> rfl
theorem gs_step {rt : List Nat} {k : Nat} {g : Nat → Int} {y : Nat} (hr : rt.length = k) (ef : ∀ i, g i = ((rt.getD i 0 : Nat) : Int)) : ∀ i, upd g k (y : Int) i = (((rt ++ [y]).getD i 0 : Nat) : Int) := by
  intro i
  unfold upd
  by_cases h : i = k
  · rw [if_pos h, h, ← hr]; simp
  · rw [if_neg h, ef i]
    simp only [List.getD_eq_getElem?_getD]
    rcases Nat.lt_or_ge i rt.length with h1 | h1
    · rw [List.getElem?_append_left h1]
    · rw [List.getElem?_eq_none h1, List.getElem?_eq_none (by simp; omega)]
def edE (gs : List Nat) (add : List Meta) (drop : List Gone) : Edit := ⟨(gs.getD 0 0 : Nat), (gs.getD 1 0 : Nat), (gs.getD 2 0 : Nat), (gs.getD 3 0 : Nat), fun i => ((gs.getD (i + 4) 0 : Nat) : Int), add, drop⟩
def decK2 (gs : List Nat) (add : List Meta) : List Y → Option Edit := pUp 1024 fun nd => pRep pGone nd fun drop => pEnd (edE gs add drop)
theorem edE_cells {gs : List Nat} {add : List Meta} {drop : List Gone} {g : Nat → Int} {ha hd : Sh} (hg : ∀ i, g i = ((gs.getD i 0 : Nat) : Int)) : nine g ++ [ha.val add.length, hd.val drop.length] = (edE gs add drop).cells ha hd := by
  obtain rfl : g = fun i => ((gs.getD i 0 : Nat) : Int) := funext hg
  rfl
theorem zero_cells : nine (fun _ => 0) ++ [.slice none 0 0, .slice none 0 0] = Edit.zero.cells ⟨none, 0⟩ ⟨none, 0⟩ := rfl
section
variable {O : Option Edit} {xs L : List Y} {gs : List Nat} {add : List Meta} {drop : List Gone} {e : Int} {s t : Rd'} {bad bad' : Bool} {n N : Nat}
theorem dec_a (h : RpR (fun α => @pNum α) 9 ⟨xs, 0⟩ t false false gs) (hl : gs.length = 9) : Tk (decO xs) t false (decK gs) := by
  refine h.all hl ?_
  rw [decO9]; exact Tk.start
theorem dec_b (h : Tk O s bad (decK gs)) (hN : rdNum s = (n, ⟨L, e⟩)) (hb : bad' = (bad || (decide (1024 < n) || !decide (e = 0)))) : Tk O ⟨L, e⟩ bad' (pRep pMeta n (decK2 gs)) :=
  Tk.upE (k := fun n => pRep pMeta n (decK2 gs)) h hN hb (fun _ => rfl)
theorem dec_c (h : Tk O s bad (pRep pMeta N (decK2 gs))) (hR : RpR (fun α => @pMeta α) N s t bad bad' add) (hn : n + add.length = N) (he : n = 0 ∨ bad' = true) : Tk O t bad' (decK2 gs add) := by
  rcases he with he | he
  · exact hR.all (by omega) h
  · exact hR.stop he h
theorem dec_d (h : Tk O s bad (decK2 gs add)) (hN : rdNum s = (n, ⟨L, e⟩)) (hb : bad' = (bad || (decide (1024 < n) || !decide (e = 0)))) : Tk O ⟨L, e⟩ bad' (pRep pGone n fun drop => pEnd (edE gs add drop)) :=
  Tk.upE (k := fun n => pRep pGone n fun drop => pEnd (edE gs add drop)) h hN hb (fun _ => rfl)
theorem dec_e (h : Tk O s bad (pRep pGone N fun drop => pEnd (edE gs add drop))) (hR : RpR (fun α => @pGone α) N s t bad bad' drop) (hn : n + drop.length = N) (he : n = 0 ∨ bad' = true) : Tk O t bad' (pEnd (edE gs add drop)) := by
  rcases he with he | he
  · exact hR.all (by omega) h
  · exact hR.stop he h
theorem dec_no (h : Tk O ⟨L, e⟩ bad (pEnd (edE gs add drop))) (hc : bad = true ∨ endI L e ≠ 0) : O = none := by
  rw [h.fin, if_neg]
  rintro ⟨h1, h2, h3⟩
  rcases hc with hc | hc
  · rw [h1] at hc; cases hc
  · refine hc ?_
    simp only at h2 h3
    subst h2; subst h3; rfl
theorem dec_yes (h : Tk O ⟨L, e⟩ bad (pEnd (edE gs add drop))) (hb : bad = false) (hc : endI L e = 0) : O = some (edE gs add drop) := by
  rw [h.fin, if_pos]
  unfold endI at hc
  split at hc
  · cases hc
  · rename_i hn
    refine ⟨hb, hc, ?_⟩
    cases L with
    | nil => rfl
    | cons y L => exact absurd ⟨hc, by simp⟩ hn
end
theorem up_le {bad bad' : Bool} {n most : Nat} {e : Int} (hb : bad' = (bad || (decide (most < n) || !decide (e = 0)))) (h : bad' = false) : n ≤ most := by
  rw [h] at hb
  simp at hb
  omega
/-- what is known of a taking of one that is gone -/
theorem goneT {s t : Rd'} {L : List Y} {e : Int} {b0 b1 : Bool} {n1 n2 : Nat} {lv : Int} (h1 : rdNum s = (n1, ⟨L, e⟩)) (q1 : b1 = (b0 || (decide (255 < n1) || !decide (e = 0)))) (w1 : n1 ≤ 255 → lv = n1) (h2 : rdNum ⟨L, e⟩ = (n2, t)) :
    ∀ (α : Type) (O : Option α) (k : Gone → List Y → Option α), Tk O s b0 (pGone k) → Tk O t b1 (k ⟨lv, n2⟩) := by
  intro α O k h
  unfold pGone at h
  have a1 := h.upE (K := pNum fun n => k ⟨lv, n⟩) h1 q1 (fun hn => by rw [w1 hn])
  exact a1.numE h2
theorem gones_one (gs : List Gone) : ∀ u ∈ gs.flatMap Gone.cells, u.oneCell' = true := by
  intro u hu
  obtain ⟨q, _, hq⟩ := List.mem_flatMap.1 hu
  simp only [Gone.cells, List.mem_cons, List.not_mem_nil, or_false] at hq
  rcases hq with rfl | rfl <;> rfl
theorem gones1 {g : Gone} : ∀ u ∈ g.cells, u.oneCell' = true := by
  intro u hu
  simp only [Gone.cells, List.mem_cons, List.not_mem_nil, or_false] at hu
  rcases hu with rfl | rfl <;> rfl
/-- what a decoding comes to -/
def DecR (xs : List Y) (e : Edit) (err : Int) : Prop := (decO xs = some e ∧ err = 0) ∨ (decO xs = none ∧ e = Edit.zero ∧ err = 180)
theorem Edit.zero_wf : Edit.zero.wf := ⟨⟨by decide, by decide⟩, ⟨by decide, by decide⟩, ⟨by decide, by decide⟩, ⟨by decide, by decide⟩, (fun _ _ => ⟨show (0 : Int) ≤ 0 by decide, show (0 : Int) < 18446744073709551616 by decide⟩), (fun _ h => by cases h), (fun _ h => by cases h)⟩
theorem EdR.zero {G : PM} : EdR G Edit.zero ⟨none, 0⟩ ⟨none, 0⟩ := ⟨SlR.nul, SlR.nul, Edit.zero_wf⟩
end Go.Tan

namespace Go.Tan
open Go.RowKit
section
variable {P : Program} {n : Nat} {l : List Oper} {K K' : Env → PM → Mem → Prop} {dr : Bool} {mc : Md}
theorem Wo.bind1 {i : Nat} {σ : List Nat} {ρ : Env} {G : PM} {μ : Mem} (hm : ∀ ρ G μ, K ρ G μ → Wo dr mc P n l K' σ ρ G μ) (H : Wo dr mc P n l K [i] ρ G μ) : Wo dr mc P n l K' (i :: σ) ρ G μ := by
  have h0 : ∀ {ρ G μ}, Wo dr mc P n l K [] ρ G μ → Wo dr mc P n l K' σ ρ G μ := fun h => by cases h with | nil h => exact hm _ _ _ h
  cases H with
  | pure ho hk hg hr h => exact .pure ho hk hg hr (h0 h)
  | read ho hk hg hr h => exact .read ho hk hg hr (h0 h)
  | make ho hk hg hr h => exact .make ho hk hg hr fun b => h0 (h b)
  | box ho hk hg hr h => exact .box ho hk hg hr fun b => h0 (h b)
  | callv ho hk hg hr hf h => exact .callv ho hk hg hr hf (h0 h)
  | call ho hk hg hr hf h => exact .call ho hk hg hr hf fun v G' μ' a b => h0 (h v G' μ' a b)
  | callg hd ho hg hr hf h => exact .callg hd ho hg hr hf fun v G' μ' a b => h0 (h v G' μ' a b)
  | fresh ho hk hg hp hr hw h => exact .fresh ho hk hg hp hr hw fun v G' μa μb a b => h0 (h v G' μa μb a b)
  | act ho hk hg hp hr h => exact .act ho hk hg hp hr fun v G' μ' a b => h0 (h v G' μ' a b)
theorem Wo.cut1 {j : Nat} {σ : List Nat} {ρ : Env} {G : PM} {μ : Mem} (H : Wo dr mc P n l K (j :: σ) ρ G μ) : Wo dr mc P n l (fun ρ G μ => Wo dr mc P n l K σ ρ G μ) [j] ρ G μ := by
  cases H with
  | pure ho hk hg hr h => exact .pure ho hk hg hr (.nil h)
  | read ho hk hg hr h => exact .read ho hk hg hr (.nil h)
  | make ho hk hg hr h => exact .make ho hk hg hr fun b => .nil (h b)
  | box ho hk hg hr h => exact .box ho hk hg hr fun b => .nil (h b)
  | callv ho hk hg hr hf h => exact .callv ho hk hg hr hf (.nil h)
  | call ho hk hg hr hf h => exact .call ho hk hg hr hf fun v G' μ' a b => .nil (h v G' μ' a b)
  | callg hd ho hg hr hf h => exact .callg hd ho hg hr hf fun v G' μ' a b => .nil (h v G' μ' a b)
  | fresh ho hk hg hp hr hw h => exact .fresh ho hk hg hp hr hw fun v G' μa μb a b => .nil (h v G' μa μb a b)
  | act ho hk hg hp hr h => exact .act ho hk hg hp hr fun v G' μ' a b => .nil (h v G' μ' a b)
/-- May it go ahead of all that is left, whatever is chosen? -/
def oneOk (mc : Md) (l : List Oper) (listed : Array Bool) (i : Nat) : Bool :=
  (rdy l listed).contains i && match nth l i with
  | some oi => (kindOf mc oi.op == .pure || kindOf mc oi.op == .read) && (List.range l.length).all fun j => listed.getD j true || j == i || match nth l j with
    | some oj => dep l l.length j i || (oi.apart l.toArray oj && (kindOf mc oi.op == .pure || kindOf mc oj.op != .act))
    | none => false
  | none => false
def Wt (mc : Md) (P : Program) (n : Nat) (l : List Oper) (K : Env → PM → Mem → Prop) : Nat → Array Bool → Env → PM → Mem → Prop
  | 0, listed, ρ, G, μ => rdy l listed = [] ∧ K ρ G μ
  | m + 1, listed, ρ, G, μ => (∃ i, oneOk mc l listed i = true ∧ Wo true mc P n l (fun ρ' G' μ' => Wt mc P n l K m (listed.setIfInBounds i true) ρ' G' μ') [i] ρ G μ) ∨
      (rdy l listed ≠ [] ∧ ∀ j ∈ rdy l listed, Wo true mc P n l (fun ρ' G' μ' => Wt mc P n l K m (listed.setIfInBounds j true) ρ' G' μ') [j] ρ G μ)
theorem Wt.kok (hK : KOk K) : ∀ (m : Nat) (listed : Array Bool), KOk (fun ρ G μ => Wt mc P n l K m listed ρ G μ)
  | 0, listed => ⟨fun ρ ρ' G μ e h => ⟨h.1, hK.1 _ _ _ _ e h.2⟩, fun ρ G μ μ' p h => ⟨h.1, hK.2 _ _ _ _ p h.2⟩⟩
  | m + 1, listed => by
    refine ⟨fun ρ ρ' G μ e h => ?_, fun ρ G μ μ' p h => ?_⟩
    · rcases h with ⟨i, h1, h2⟩ | ⟨h1, h2⟩
      · exact .inl ⟨i, h1, h2.congr (Wt.kok hK m _) e⟩
      · exact .inr ⟨h1, fun j hj => (h2 j hj).congr (Wt.kok hK m _) e⟩
    · rcases h with ⟨i, h1, h2⟩ | ⟨h1, h2⟩
      · exact .inl ⟨i, h1, h2.perm (Wt.kok hK m _) p⟩
      · exact .inr ⟨h1, fun j hj => (h2 j hj).perm (Wt.kok hK m _) p⟩
def unlN (listed : Array Bool) : Nat := listed.toList.count false
theorem unlN_set {listed : Array Bool} {i : Nat} (h : listed.getD i true = false) : unlN (listed.setIfInBounds i true) + 1 = unlN listed := by
  rcases Nat.lt_or_ge i listed.size with h' | h'
  · have h2 : listed.toList[i]'(by simpa using h') = false := by simpa [h'] using h
    unfold unlN
    rw [Array.toList_setIfInBounds, List.count_set (by simpa using h')]
    have hp : 0 < listed.toList.count false := List.count_pos_iff.2 (by rw [← h2]; exact List.getElem_mem _)
    rw [if_pos (by rw [h2]; rfl), if_neg (by decide)]
    omega
  · simp [h'] at h
theorem unlN_pos {listed : Array Bool} {i : Nat} (h : listed.getD i true = false) : 0 < unlN listed := by
  have := unlN_set h; omega
theorem oneOk_mono {listed : Array Bool} {i j : Nat} (hne : i ≠ j) (h : oneOk mc l listed i = true) : oneOk mc l (listed.setIfInBounds j true) i = true := by
  unfold oneOk at h ⊢
  simp only [Bool.and_eq_true] at h ⊢
  obtain ⟨h1, h2⟩ := h
  refine ⟨by simpa using rdy_mono (by simpa using h1) hne, ?_⟩
  cases hi : nth l i with
  | none => rw [hi] at h2; cases h2
  | some oi =>
    simp only [hi, Bool.and_eq_true] at h2 ⊢
    refine ⟨h2.1, List.all_eq_true.2 fun k hk => ?_⟩
    have h3 := List.all_eq_true.1 h2.2 k hk
    by_cases e : j = k
    · subst e
      have : (listed.setIfInBounds j true).getD j true = true := by
        rcases Nat.lt_or_ge j listed.size with h' | h' <;> simp [h']
      rw [this]; rfl
    · rw [getD_set_ne true e]; exact h3
theorem Wt.front (hK : KOk K) (hs : Region.noSelect l.toArray = true) (hmk : ∀ j oj, nth l j = some oj → kindOf mc oj.op = .make → Makes P oj) (hds : ∀ j oj, nth l j = some oj → dstOk n oj.dst) :
    ∀ (m : Nat) (listed : Array Bool) (j : Nat) (ρ : Env) (G : PM) (μ : Mem), unlN listed = m + 1 → Closed l listed → j ∈ rdy l listed → Wt mc P n l K (m + 1) listed ρ G μ → Wo true mc P n l (fun ρ' G' μ' => Wt mc P n l K m (listed.setIfInBounds j true) ρ' G' μ') [j] ρ G μ
  | m, listed, j, ρ, G, μ, hu, hcl, hj, H => by
    rcases H with ⟨i, h1, h2⟩ | ⟨_, h2⟩
    · by_cases e : j = i
      · subst e; exact h2
      · have hi : i ∈ rdy l listed := by unfold oneOk at h1; simp only [Bool.and_eq_true] at h1; simpa using h1.1
        have hj' := rdy_mono hj e
        have hiun := (rdy_iff.1 hi).1
        have hjun := (rdy_iff.1 hj).1
        have hu1 := unlN_set hiun
        have hjun' : (listed.setIfInBounds i true).getD j true = false := by rw [getD_set_ne true (Ne.symm e)]; exact hjun
        have hp := unlN_pos hjun'
        obtain ⟨m', rfl⟩ : ∃ m', m = m' + 1 := ⟨m - 1, by omega⟩
        obtain ⟨_, oi, hoi, _⟩ := rdy_iff.1 hi
        obtain ⟨_, oj, hoj, _⟩ := rdy_iff.1 hj
        have h3 : Wo true mc P n l (fun ρ' G' μ' => Wt mc P n l K m' ((listed.setIfInBounds i true).setIfInBounds j true) ρ' G' μ') (i :: [j]) ρ G μ :=
          h2.bind1 fun ρ' G' μ' h => Wt.front hK hs hmk hds m' (listed.setIfInBounds i true) j ρ' G' μ' (by omega) (hcl.set hi) hj' h
        have hnoe := not_dep hcl hiun hj l.length
        have hjl : j < l.length := by
          have := (nth_eq l j).trans hoj
          exact (by simpa using (Array.getElem?_eq_some_iff.1 this).1)
        have h1' := h1
        unfold oneOk at h1'
        simp only [Bool.and_eq_true, hoi] at h1'
        obtain ⟨_, hki, hall⟩ := h1'
        have h4 := List.all_eq_true.1 hall j (List.mem_range.2 hjl)
        simp only [hjun, hoj, hnoe, Bool.false_or, Bool.or_eq_true, beq_iff_eq, e, false_or, Bool.and_eq_true, bne_iff_ne] at h4
        simp only [Bool.or_eq_true, beq_iff_eq] at hki
        have hkk : kindOf mc oi.op = .pure ∨ (kindOf mc oi.op = .read ∧ kindOf mc oj.op ≠ .act) ∨ kindOf mc oj.op = .make := by
          rcases hki with h5 | h5
          · exact .inl h5
          · rcases h4.2 with h6 | h6
            · exact .inl h6
            · exact .inr (.inl ⟨h5, h6⟩)
        have h5 := Wo.swap (Wt.kok hK m' _) rfl hoi hoj (apart_of hs hoi hoj h4.1) hds (hmk j oj hoj) hkk h3
        refine h5.cut1.bind1 fun ρ' G' μ' h => .nil (.inl ⟨i, oneOk_mono (Ne.symm e) h1, ?_⟩)
        rw [Array.setIfInBounds_comm _ _ e]
        exact h
    · exact h2 j hj
theorem Wt.any {Q : Exit → Act → World → Prop} {G0 : PM} {K0 : List Nat} {w0 : World} (hK : KOk K) (hs : Region.noSelect l.toArray = true) (hmk : ∀ j oj, nth l j = some oj → kindOf mc oj.op = .make → Makes P oj) (hds : ∀ j oj, nth l j = some oj → dstOk n oj.dst)
    (hQ : ∀ ρ G μ, K ρ G μ → ∀ a w, Ag n ρ a → Tr G0 K0 w0 G μ w → Q .normal a w) :
    ∀ (m : Nat) (listed : Array Bool) (ρ : Env) (G : PM) (μ : Mem) (a : Act) (w : World), unlN listed = m → Closed l listed → Wt mc P n l K m listed ρ G μ → Ag n ρ a → Tr G0 K0 w0 G μ w → wpAny P .any l.toArray Q m listed a w
  | 0, listed, ρ, G, μ, a, w, _, _, H, ha, ht => ⟨H.1, hQ _ _ _ H.2 a w ha ht⟩
  | m + 1, listed, ρ, G, μ, a, w, hu, hcl, H, ha, ht => by
    refine ⟨fun h0 => ?_, fun j hj => ?_⟩
    · rcases H with ⟨i, h1, _⟩ | ⟨h1, _⟩
      · have hi : i ∈ rdy l listed := by unfold oneOk at h1; simp only [Bool.and_eq_true] at h1; simpa using h1.1
        unfold rdy at hi
        rw [h0] at hi; cases hi
      · exact absurd h0 h1
    · have hj' : j ∈ rdy l listed := hj
      have hu1 := unlN_set (rdy_iff.1 hj').1
      obtain ⟨o, ho, h⟩ := (Wt.front hK hs hmk hds m listed j ρ G μ hu hcl hj' H).head ha ht (next := wpAny P .any l.toArray Q m (listed.setIfInBounds j true)) (Q := Q) hds
        (fun ρ' G' μ' a' w' H' ha' ht' => by cases H' with | nil h => exact Wt.any hK hs hmk hds hQ m _ ρ' G' μ' a' w' (by omega) (hcl.set hj') h ha' ht')
      simp only [wpOp, nth_eq, ho]
      split
      · rename_i hw; rw [if_pos hw] at h; exact .inl h
      · rename_i hw; rw [if_neg hw] at h; exact h
def mixOk (P : Program) (n : Nat) (l : List Oper) : Bool := Region.noSelect l.toArray && (l.all fun o => match o.dst with | some d => decide (d < n) | none => true) && allocOk P l
theorem Wk.mix {X : Cx} {k : List KI} {id : Nat} {ρ : Env} {G : PM} {μ : Mem} (mc : Md) (hm : X.P.follows .mixedOrders = true) (hok : mixOk X.P X.n l = true)
    (h : Wt mc X.P X.n l (fun ρ G μ => We X .normal k ρ G μ) l.length (Array.replicate l.length false) ρ G μ) : Wk X (.region id l.toArray true) k ρ G μ := by
  simp only [mixOk, Bool.and_eq_true] at hok
  obtain ⟨⟨h1, h2⟩, h3⟩ := hok
  refine ⟨fun a w ha ht => wp_region_any hm ?_⟩
  have hu : unlN (Array.replicate l.length false) = l.length := by simp [unlN]
  have := Wt.any (Q := Qof X k) (We.kok .normal) h1 (fun j oj hj hk => makes_of hk (List.all_eq_true.1 h3 oj (mem_of_nth hj)))
    (fun j oj hj => by
      have := List.all_eq_true.1 h2 oj (mem_of_nth hj)
      cases hd : oj.dst with
      | none => trivial
      | some d => rw [hd] at this; show d < X.n; exact of_decide_eq_true this) (fun _ _ _ h a w ha ht => h.out a w ha ht) l.length _ ρ G μ a _ hu (Closed.none l.length) h ha ht.drew
  simpa using this
variable {ρ : Env} {G : PM} {μ : Mem} {m : Nat} {listed : Array Bool}
theorem Wt.last (hr : rdy l listed = []) (h : K ρ G μ) : Wt mc P n l K 0 listed ρ G μ := ⟨hr, h⟩
theorem Wt.one (i : Nat) (hc : oneOk mc l listed i = true) (h : Wo true mc P n l (fun ρ' G' μ' => Wt mc P n l K m (listed.setIfInBounds i true) ρ' G' μ') [i] ρ G μ) : Wt mc P n l K (m + 1) listed ρ G μ := .inl ⟨i, hc, h⟩
theorem Wt.b1 (j : Nat) (hr : rdy l listed = [j]) (h : Wo true mc P n l (fun ρ' G' μ' => Wt mc P n l K m (listed.setIfInBounds j true) ρ' G' μ') [j] ρ G μ) : Wt mc P n l K (m + 1) listed ρ G μ :=
  .inr ⟨by rw [hr]; simp, fun j' hj' => by rw [hr] at hj'; obtain rfl := List.mem_singleton.1 hj'; exact h⟩
theorem Wt.b2 (j j2 : Nat) (hr : rdy l listed = [j, j2]) (h : Wo true mc P n l (fun ρ' G' μ' => Wt mc P n l K m (listed.setIfInBounds j true) ρ' G' μ') [j] ρ G μ)
    (h2 : Wo true mc P n l (fun ρ' G' μ' => Wt mc P n l K m (listed.setIfInBounds j2 true) ρ' G' μ') [j2] ρ G μ) : Wt mc P n l K (m + 1) listed ρ G μ :=
  .inr ⟨by rw [hr]; simp, fun j' hj' => by
    rw [hr] at hj'
    rcases List.mem_cons.1 hj' with rfl | hj'
    · exact h
    · obtain rfl := List.mem_singleton.1 hj'; exact h2⟩
theorem Wt.b3 (j j2 j3 : Nat) (hr : rdy l listed = [j, j2, j3]) (h : Wo true mc P n l (fun ρ' G' μ' => Wt mc P n l K m (listed.setIfInBounds j true) ρ' G' μ') [j] ρ G μ)
    (h2 : Wo true mc P n l (fun ρ' G' μ' => Wt mc P n l K m (listed.setIfInBounds j2 true) ρ' G' μ') [j2] ρ G μ) (h3 : Wo true mc P n l (fun ρ' G' μ' => Wt mc P n l K m (listed.setIfInBounds j3 true) ρ' G' μ') [j3] ρ G μ) : Wt mc P n l K (m + 1) listed ρ G μ :=
  .inr ⟨by rw [hr]; simp, fun j' hj' => by
    rw [hr] at hj'
    rcases List.mem_cons.1 hj' with rfl | hj'
    · exact h
    · rcases List.mem_cons.1 hj' with rfl | hj'
      · exact h2
      · obtain rfl := List.mem_singleton.1 hj'; exact h3⟩
end
end Go.Tan
