/- Blocks that stay; slices of arrays that stay; arrays out of slices; lists of lists of bytes; arrays of bytes compared. No condition. -/
import Derived.Test.YtoogjfldgeiapaaDoorTanI
namespace Go.Tan
open Go.RowKit
/-- a block that stays -/
structure PB (G : PM) (b : Nat) (o : Obj) : Prop where
  h : G b = some o
theorem PB.mono {G G' : PM} {b : Nat} {o : Obj} (h : PB G b o) (hle : PM.le G G') : PB G' b o := ⟨hle b o h.h⟩
theorem PB.rdn {G : PM} {b o m : Nat} {cs cs' : List Value} {T : TypeId} (h : PB G b (cl cs T)) (hc : (cs.drop o).take m = cs') : RdNP G b o cs' := fun j v hj => by
  subst hc
  refine RdP.blk h.h ?_
  rw [List.getElem?_take] at hj
  split at hj
  · rw [List.getElem?_drop] at hj; exact hj
  · cases hj
theorem PB.rd {G : PM} {b o : Nat} {cs : List Value} {T : TypeId} {v : Value} (h : PB G b (cl cs T)) (hv : cs[o]? = some v) : RdP G ⟨b, o, none⟩ v := RdP.blk h.h hv
theorem PB.sl {G : PM} {b o m cap : Nat} {cs : List Value} {T : TypeId} {f : Nat → Y} (h : PB G b (cl cs T)) (hc : (cs.drop o).take m = ba m f) (hm : m ≤ cap) : SlR G 1 encY ⟨some ⟨b, o, none⟩, cap⟩ (yl m f) :=
  SlR.ofRow (fun _ _ => rfl) (by rw [yl_len]; exact hm) (fun _ => rfl) (by rw [yl_flat]; exact h.rdn hc)
theorem SlR.arr {G : PM} {s : Sh} {xs : List Y} {m : Nat} (h : SlR G 1 encY s xs) (hm : m ≤ xs.length) : RdNP G s.b s.o (ba m (fun i => xs.getD i 0)) := by
  intro j v hj
  have hlt : j < m := by have := (List.getElem?_eq_some_iff.1 hj).1; rwa [ba_len] at this
  rw [ba_at hlt] at hj
  obtain rfl := Option.some.inj hj
  have := h.rd j (xs.getD j 0) (by simp [show j < xs.length by omega]) 0 _ rfl
  simpa using this
theorem ba_take {m q : Nat} {f : Nat → Y} (h : q ≤ m) : ((ba m f).drop 0).take q = ba q f := by
  rw [List.drop_zero]
  refine List.ext_getElem? fun j => ?_
  rw [List.getElem?_take]
  by_cases hj : j < q
  · rw [if_pos hj, ba_at hj, ba_at (by omega)]
  · rw [if_neg hj, List.getElem?_eq_none (by rw [ba_len]; omega)]
theorem ba_all {m : Nat} {f : Nat → Y} : ((ba m f).drop 0).take m = ba m f := ba_take (Nat.le_refl m)
theorem app_l {m : Nat} {f : Nat → Y} {r : List Value} : ((ba m f ++ r).drop 0).take m = ba m f := by
  rw [List.drop_zero, List.take_append_of_le_length (by rw [ba_len]; exact Nat.le_refl _), List.take_of_length_le (by rw [ba_len]; exact Nat.le_refl _)]
theorem app_r {m q : Nat} {f f' : Nat → Y} : ((ba m f ++ ba q f').drop m).take q = ba q f' := by
  have h : (ba m f ++ ba q f').drop m = ba q f' := by have := List.drop_left (l₁ := ba m f) (l₂ := ba q f'); rwa [ba_len] at this
  rw [h, List.take_of_length_le (by rw [ba_len]; exact Nat.le_refl _)]
/-! ### Lists of lists of bytes -/
def encP (p : Sh × List Y) : List Value := [p.1.val p.2.length]
structure SlP (G : PM) (h : Sh) (ps : List (Sh × List Y)) : Prop where
  sl : SlR G 1 encP h ps
  all : ∀ p ∈ ps, SlR G 1 encY p.1 p.2
theorem SlP.mono {G G' : PM} {h : Sh} {ps : List (Sh × List Y)} (s : SlP G h ps) (hle : PM.le G G') : SlP G' h ps := ⟨s.sl.mono hle, fun p hp => (s.all p hp).mono hle⟩
theorem getx {α : Type} {k : Nat} {xs : List α} (h : k < xs.length) : ∃ x, xs[k]? = some x := ⟨xs[k], by simp [h]⟩
theorem SlP.at {G : PM} {h : Sh} {ps : List (Sh × List Y)} (s : SlP G h ps) {j : Int} (k : Nat) {p : Sh × List Y} (hj : j.toNat = k) (hp : ps[k]? = some p) : RdP G ⟨h.b, h.o + j.toNat * 1, none⟩ (p.1.val p.2.length) := by
  have := (s.sl.nth k hj hp) 0 _ rfl
  simpa using this
theorem SlP.get {G : PM} {h : Sh} {ps : List (Sh × List Y)} (s : SlP G h ps) {k : Nat} {p : Sh × List Y} (hp : ps[k]? = some p) : SlR G 1 encY p.1 p.2 := s.all p (List.mem_of_getElem? hp)
def catL (ps : List (Sh × List Y)) : List Y := ps.flatMap (·.2)
theorem cat_take {ps : List (Sh × List Y)} {k : Nat} {p : Sh × List Y} (hp : ps[k]? = some p) : catL (ps.take (k + 1)) = catL (ps.take k) ++ p.2 := by
  have hlt : k < ps.length := (List.getElem?_eq_some_iff.1 hp).1
  have e : ps[k] = p := (List.getElem?_eq_some_iff.1 hp).2
  rw [catL, List.take_succ_eq_append_getElem hlt, List.flatMap_append, e]; simp [catL]
theorem cat_len {ps : List (Sh × List Y)} {k : Nat} {p : Sh × List Y} (hp : ps[k]? = some p) : (catL (ps.take k)).length + p.2.length ≤ (catL ps).length := by
  have h1 := congrArg List.length (cat_take hp)
  rw [List.length_append] at h1
  rw [← h1]
  conv => rhs; rw [← List.take_append_drop (k + 1) ps]
  rw [catL, catL, List.flatMap_append, List.length_append]; omega
section
variable {dr : Bool} {mc : Md} {P : Program} {n : Nat} {l : List Oper} {K : Env → PM → Mem → Prop} {i : Nat} {σ : List Nat} {ρ : Env} {G : PM} {μ : Mem}
variable {d t : Nat} {p : String} {af : Array Edge} {g : Option (Nat × Bool)} {c : Bool}
theorem wk_fz {X : Cx} {cd : Code} {k : List KI} {b : Nat} {o : Obj} {μ' : Mem} (hm : MTake μ (.blk b o) μ') (hK : ∀ b ∈ X.K0, b ∈ keys μ') (h : ∀ G', PM.le G G' → PB G' b o → Wk X cd k ρ G' μ') : Wk X cd k ρ G μ :=
  ⟨fun a w ha ht => by
    have ht' := ht.perm hm.perm
    have hk : keys (.blk b o :: μ') = b :: keys μ' := by simp [keys, Res.keys]
    have hnd := ht'.sat.nodup
    rw [hk] at hnd
    have hG : G b = none := ht'.sat.apart b (by rw [hk]; exact List.mem_cons_self ..)
    exact (h _ (PM.le_add hG) ⟨PM.add_same G b o⟩).out a w ha (ht'.freeze fun hb => (List.nodup_cons.1 hnd).1 (hK b hb))⟩
/-- 'a[:]' of an array of bytes that stays -/
theorem kA {T T' m e b o : Nat} {x : Operand} {cs : List Value} {f : Nat → Y} (ho : nth l i = some ⟨some d, .slice T x none none none, t, p, af, g⟩) (hg : Gd l ρ g c) (hT : arE P T = some (m, e, 1)) (hx : Ev ρ c x (.pointer (some ⟨b, o, none⟩))) (hG : PB G b (cl cs T')) (hc : (cs.drop o).take m = ba m f)
    (h : ∀ s' L, L = yl m f → L.length = m → SlR G 1 encY s' L → Wo dr mc P n l K σ ((d, c, s'.val L.length) :: ρ) G μ) : Wo dr mc P n l K (i :: σ) ρ G μ := by
  refine sa0 ho hg hT hx ?_
  have := h ⟨some ⟨b, o, none⟩, m⟩ (yl m f) rfl (yl_len m f) (hG.sl hc (Nat.le_refl m))
  rw [yl_len] at this
  exact this
/-- 'a[:hi]' of an array -/
theorem sah {T m e sz : Nat} {x z : Operand} {k : IntKind} {b o : Nat} {hi : Int} (ho : nth l i = some ⟨some d, .slice T x none (some z) none, t, p, af, g⟩) (hg : Gd l ρ g c) (hT : arE P T = some (m, e, sz)) (hx : Ev ρ c x (.pointer (some ⟨b, o, none⟩))) (hz : Ev ρ c z (.int k hi))
    (h0 : c = true → 0 ≤ hi) (h1 : c = true → hi ≤ m) (h : Wo dr mc P n l K σ ((d, c, .slice (some ⟨b, o, none⟩) hi.toNat m) :: ρ) G μ) : Wo dr mc P n l K (i :: σ) ρ G μ :=
  .pure ho (.inl rfl) hg (fun hc a w ha => by
    obtain ⟨hu, inf, hi', hs⟩ := arE_some hT
    have e0 := h0 hc; have e1 := h1 hc
    simp [execOp, hx.eval ha hc, hz.eval ha hc, Instr.sliceAt, run_underlying hu, Instr.sureAddr, Instr.sliceBounds, Instr.sliceBound, asIntOf, sizeOf, typeInfo, hi', e0, e1, add_zero']) h
/-- '[n]T(xs)', as an address -/
theorem sp {T m e sz k cap : Nat} {x : Operand} {ad : Addr} (ho : nth l i = some ⟨some d, .sliceToArrayPointer T x, t, p, af, g⟩) (hg : Gd l ρ g c) (hT : arE P T = some (m, e, sz)) (hx : Ev ρ c x (.slice (some ad) k cap)) (hm : c = true → m ≤ k)
    (h : Wo dr mc P n l K σ ((d, c, .pointer (some ad)) :: ρ) G μ) : Wo dr mc P n l K (i :: σ) ρ G μ :=
  .pure ho (.inl rfl) hg (fun hc a w ha => by
    obtain ⟨hu, inf, hi', hs⟩ := arE_some hT
    have := hm hc
    simp [execOp, hx.eval ha hc, Instr.arrayAt, run_underlying hu, show ¬ k < m by omega]) h
theorem spS {T m e sz : Nat} {x : Operand} {s : Sh} {xs : List Y} (ho : nth l i = some ⟨some d, .sliceToArrayPointer T x, t, p, af, g⟩) (hg : Gd l ρ g c) (hT : arE P T = some (m, e, sz)) (hs : SlR G 1 encY s xs) (hx : Ev ρ c x (s.val xs.length)) (hm : c = true → m ≤ xs.length) (h0 : 0 < m)
    (h : Wo dr mc P n l K σ ((d, c, .pointer (some ⟨s.b, s.o, none⟩)) :: ρ) G μ) : Wo dr mc P n l K (i :: σ) ρ G μ :=
  .pure ho (.inl rfl) hg (fun hc a w ha => by
    obtain ⟨hu, inf, hi', hsz⟩ := arE_some hT
    have h1 := hm hc
    have e := hs.nn (k := 0) (by omega)
    have hx' := hx.eval ha hc
    simp only [Sh.val] at hx'
    rw [e] at hx'
    simp [execOp, hx', Instr.arrayAt, run_underlying hu, show ¬ xs.length < m by omega]) h
/-! ### Arrays of bytes, compared -/
def baT (P : Program) (T m : Nat) : Bool := match P.underlying T with
  | some (.array k e) => (match P.underlying e with | some (.int .u8) => true | _ => false) && Nat.beq k m && Nat.beq (P.cellsOf e) 1 && Nat.beq (P.cellsOf T) m && P.keyTypeAt 2 T && !P.eqGuardType P.depth T
  | _ => false
theorem ba_lits {T m : Nat} {f : Nat → Y} (h : baT P T m = true) : P.keyLits 2 T (ba m f) = some ((yl m f).map fun y => Lit.int .u8 y.toNat) ∧ (Value.agg (ba m f).toArray).formed P T = true ∧ P.keyTypeAt 2 T = true ∧ P.eqGuardType P.depth T = false := by
  unfold baT at h
  split at h
  · rename_i k e hu
    simp only [Bool.and_eq_true, Bool.not_eq_true'] at h
    obtain ⟨⟨⟨⟨⟨he, hk⟩, hce⟩, hcT⟩, hkt⟩, hgu⟩ := h
    split at he
    · rename_i hue
      have hk := Nat.eq_of_beq_eq_true hk
      have hce := Nat.eq_of_beq_eq_true hce
      have hcT := Nat.eq_of_beq_eq_true hcT
      subst hk
      refine ⟨?_, ?_, hkt, hgu⟩
      · have hone : ∀ q ∈ List.range k, P.keyLits 1 e (((ba k f).drop (q * P.cellsOf e)).take (P.cellsOf e)) = some [Lit.int .u8 (f q).toNat] := by
          intro q hq
          have hq := List.mem_range.1 hq
          rw [hce, Nat.mul_one]
          have hd : ((ba k f).drop q).take 1 = [V (f q)] := by
            refine List.ext_getElem? fun j => ?_
            rw [List.getElem?_take, List.getElem?_drop]
            cases j with
            | zero => simp [ba_at hq]
            | succ j => simp
          rw [hd]
          have hlt := (f q).isLt
          unfold Program.keyLits
          simp [hue, Lit.wf, V, uv, IntKind.min, IntKind.max, IntKind.signed, IntKind.bits]
          omega
        have hmap : ∀ (r : List Nat), (∀ q ∈ r, P.keyLits 1 e (((ba k f).drop (q * P.cellsOf e)).take (P.cellsOf e)) = some [Lit.int .u8 (f q).toNat]) →
            r.mapM (fun q => P.keyLits 1 e (((ba k f).drop (q * P.cellsOf e)).take (P.cellsOf e))) = some (r.map fun q => [Lit.int .u8 (f q).toNat]) := by
          intro r
          induction r with
          | nil => intro _; simp
          | cons a r ih => intro hr; simp [List.mapM_cons, hr a (List.mem_cons_self ..), ih (fun q hq => hr q (List.mem_cons_of_mem _ hq))]
        have hfl : ∀ r : List Nat, (r.map fun q => [Lit.int .u8 (f q).toNat]).flatten = (r.map f).map fun y => Lit.int .u8 y.toNat := by
          intro r
          induction r with
          | nil => rfl
          | cons a r ih => simp only [List.map_cons, List.flatten_cons, ih]; rfl
        unfold Program.keyLits
        simp only [hu, ba_len, hcT, if_true, hmap _ hone, Option.map_some, hfl]
        rfl
      · simp [Value.formed, hu, ba_len, hcT]
    · cases he
  · cases h
theorem lits_inj {m : Nat} {f f' : Nat → Y} (h : ((yl m f).map fun y => Lit.int .u8 y.toNat) = (yl m f').map fun y => Lit.int .u8 y.toNat) : yl m f = yl m f' := by
  have key : ∀ (xs ys : List Y), (xs.map fun y => Lit.int .u8 y.toNat) = (ys.map fun y => Lit.int .u8 y.toNat) → xs = ys := by
    intro xs
    induction xs with
    | nil => intro ys h; cases ys with
      | nil => rfl
      | cons y ys => simp at h
    | cons x xs ih => intro ys h; cases ys with
      | nil => simp at h
      | cons y ys =>
        simp only [List.map_cons, List.cons.injEq, Lit.int.injEq, true_and] at h
        rw [ih ys h.2, BitVec.eq_of_toNat_eq (x := x) (y := y) (by omega)]
  exact key _ _ h
theorem run_eqB {T m : Nat} {f f' : Nat → Y} (h : baT P T m = true) (w : World) : (Op.equal T (.agg (ba m f).toArray) (.agg (ba m f').toArray)).run P w = .ok (decide (yl m f = yl m f')) w := by
  obtain ⟨h1, h2, h3, h4⟩ := ba_lits (f := f) h
  obtain ⟨h1', h2', _, _⟩ := ba_lits (f := f') h
  obtain ⟨r, hr, hiff⟩ := run_equalIn_deep 9998 2 T h3 w 2 2 _ _ _ _ h2 h2' (by simpa [Value.cells] using h1) (by simpa [Value.cells] using h1')
  have : r = decide (yl m f = yl m f') := by
    by_cases e : yl m f = yl m f'
    · rw [decide_eq_true e]; exact hiff.2 (by rw [e])
    · rw [decide_eq_false e]
      cases r with
      | false => rfl
      | true => exact absurd (lits_inj (hiff.1 rfl)) e
  rw [← this]; exact hr
theorem nqB {T T' m : Nat} {x y : Operand} {f f' : Nat → Y} (ho : nth l i = some ⟨some d, .binOp .neq T x y T', t, p, af, g⟩) (hg : Gd l ρ g c) (hT : baT P T m = true) (hx : Ev ρ c x (.agg (ba m f).toArray)) (hy : Ev ρ c y (.agg (ba m f').toArray))
    (h : Wo dr mc P n l K σ ((d, c, .bool (!decide (yl m f = yl m f'))) :: ρ) G μ) : Wo dr mc P n l K (i :: σ) ρ G μ :=
  .pure ho (.inl rfl) hg (fun hc a w ha => by
    simp [execOp, hx.eval ha hc, hy.eval ha hc, eqGuard_agg (ba_lits (f := f) hT).2.2.2, binOp, run_eqB hT]) h
theorem eqB {T T' m : Nat} {x y : Operand} {f f' : Nat → Y} (ho : nth l i = some ⟨some d, .binOp .eql T x y T', t, p, af, g⟩) (hg : Gd l ρ g c) (hT : baT P T m = true) (hx : Ev ρ c x (.agg (ba m f).toArray)) (hy : Ev ρ c y (.agg (ba m f').toArray))
    (h : Wo dr mc P n l K σ ((d, c, .bool (decide (yl m f = yl m f'))) :: ρ) G μ) : Wo dr mc P n l K (i :: σ) ρ G μ :=
  .pure ho (.inl rfl) hg (fun hc a w ha => by
    simp [execOp, hx.eval ha hc, hy.eval ha hc, eqGuard_agg (ba_lits (f := f) hT).2.2.2, binOp, run_eqB hT]) h
/-! ### A statement that leaves its order open, each order by itself -/
def WoT (P : Program) (n : Nat) (l : List Oper) (K : Env → PM → Mem → Prop) : Nat → Array Bool → Env → PM → Mem → Prop
  | 0, listed, ρ, G, μ => rdy l listed = [] ∧ K ρ G μ
  | m + 1, listed, ρ, G, μ => rdy l listed ≠ [] ∧ ∀ j ∈ rdy l listed, Wo false (⟨false, false⟩ : Md) P n l (fun ρ' G' μ' => WoT P n l K m (listed.setIfInBounds j true) ρ' G' μ') [j] ρ G μ
theorem WoT.any {K : Env → PM → Mem → Prop} {Q : Exit → Act → World → Prop} {G0 : PM} {K0 : List Nat} {w0 : World} (hds : ∀ j oj, nth l j = some oj → dstOk n oj.dst)
    (hQ : ∀ ρ G μ, K ρ G μ → ∀ a w, Ag n ρ a → Tr G0 K0 w0 G μ w → Q .normal a w) :
    ∀ (m : Nat) (listed : Array Bool) (ρ : Env) (G : PM) (μ : Mem) (a : Act) (w : World), WoT P n l K m listed ρ G μ → Ag n ρ a → Tr G0 K0 w0 G μ w → wpAny P .any l.toArray Q m listed a w
  | 0, listed, ρ, G, μ, a, w, H, ha, ht => ⟨H.1, hQ _ _ _ H.2 a w ha ht⟩
  | m + 1, listed, ρ, G, μ, a, w, H, ha, ht => by
    refine ⟨fun h0 => absurd h0 H.1, fun j hj => ?_⟩
    obtain ⟨o, ho, h⟩ := (H.2 j hj).head ha ht (next := wpAny P .any l.toArray Q m (listed.setIfInBounds j true)) (Q := Q) hds
      (fun ρ' G' μ' a' w' H' ha' ht' => by cases H' with | nil h => exact WoT.any hds hQ m _ ρ' G' μ' a' w' h ha' ht')
    simp only [wpOp, nth_eq, ho]
    split
    · rename_i hw; rw [if_pos hw] at h; exact .inl h
    · rename_i hw; rw [if_neg hw] at h; exact h
theorem Wk.drawT {X : Cx} {k : List KI} {id : Nat} {ρ : Env} {G : PM} {μ : Mem} {l : List Oper} (hm : X.P.follows .mixedOrders = true) (hds : dstAll X.n l = true)
    (h : WoT X.P X.n l (fun ρ G μ => We X .normal k ρ G μ) l.length (Array.replicate l.length false) ρ G μ) : Wk X (.region id l.toArray true) k ρ G μ := by
  refine ⟨fun a w ha ht => wp_region_any hm ?_⟩
  have := WoT.any (Q := Qof X k) (dstAll_ok hds) (fun _ _ _ h a w ha ht => h.out a w ha ht) l.length (Array.replicate l.length false) ρ G μ a _ h ha ht.drew
  simpa using this
theorem WoT.last {K : Env → PM → Mem → Prop} {listed : Array Bool} (hr : rdy l listed = []) (h : K ρ G μ) : WoT P n l K 0 listed ρ G μ := ⟨hr, h⟩
theorem WoT.n1 {K : Env → PM → Mem → Prop} {m : Nat} {listed : Array Bool} (j : Nat) (hr : rdy l listed = [j]) (h : Wo false (⟨false, false⟩ : Md) P n l (fun ρ' G' μ' => WoT P n l K m (listed.setIfInBounds j true) ρ' G' μ') [j] ρ G μ) : WoT P n l K (m + 1) listed ρ G μ :=
  ⟨by rw [hr]; simp, fun j' hj' => by rw [hr] at hj'; obtain rfl := List.mem_singleton.1 hj'; exact h⟩
theorem WoT.n2 {K : Env → PM → Mem → Prop} {m : Nat} {listed : Array Bool} (j j2 : Nat) (hr : rdy l listed = [j, j2]) (h : Wo false (⟨false, false⟩ : Md) P n l (fun ρ' G' μ' => WoT P n l K m (listed.setIfInBounds j true) ρ' G' μ') [j] ρ G μ)
    (h2 : Wo false (⟨false, false⟩ : Md) P n l (fun ρ' G' μ' => WoT P n l K m (listed.setIfInBounds j2 true) ρ' G' μ') [j2] ρ G μ) : WoT P n l K (m + 1) listed ρ G μ :=
  ⟨by rw [hr]; simp, fun j' hj' => by
    rw [hr] at hj'
    rcases List.mem_cons.1 hj' with rfl | hj'
    · exact h
    · obtain rfl := List.mem_singleton.1 hj'; exact h2⟩
/-! ### '[]byte("text")' -/
def csT (P : Program) (S : TypeId) : Bool := match P.underlying S with
  | some (.slice e) => match P.underlying e with | some (.int .u8) => true | _ => false
  | _ => false
theorem freeze_at {w : World} {b k E : Nat} {C : Array Value} (hb : w.heap[b]? = some (.cells C E (0, 0))) : ∃ fr, (w.freeze ⟨b, k, none⟩ 1).heap[b]? = some (.cells C E fr) ∧ (∀ c, c ≠ b → (w.freeze ⟨b, k, none⟩ 1).heap[c]? = w.heap[c]?) ∧ (w.freeze ⟨b, k, none⟩ 1).heap.size = w.heap.size ∧ (w.freeze ⟨b, k, none⟩ 1).os = w.os ∧ (w.freeze ⟨b, k, none⟩ 1).tape = w.tape ∧ (w.freeze ⟨b, k, none⟩ 1).output = w.output := by
  unfold World.freeze
  rw [if_neg (by decide)]
  refine ⟨(k, k + 1), ?_, fun c hc => ?_, by simp, rfl, rfl, rfl⟩
  · have hlt : b < w.heap.size := (Array.getElem?_eq_some_iff.1 hb).1
    have hv := (Array.getElem?_eq_some_iff.1 hb).2
    rw [Array.getElem?_eq_getElem (by simpa using hlt), Array.getElem_modify]; simp [hv]
  · simp only [Array.getElem?_modify]
    rw [if_neg (fun e => hc e.symm)]
theorem mkS {S E b m cap : Nat} {x : Operand} {cs : List Value} {μ' : Mem} (ys : List Y) (hdf : dr = false) (ho : nth l i = some ⟨some d, .convert S S x, t, p, af, none⟩) (hS : csT P S = true) (hx : Ev ρ true x (.slice (some ⟨b, 0, none⟩) m cap)) (hm : MTake μ (.blk b (cl cs E)) μ') (hcs : cs = ys.map V) (hn : ys.length = m) (hcap : m ≤ cap)
    (h : ∀ G', PM.le G G' → SlR G' 1 encY ⟨some ⟨b, 0, none⟩, cap⟩ ys → Wo dr mc P n l K σ ((d, true, Sh.val ⟨some ⟨b, 0, none⟩, cap⟩ ys.length) :: ρ) G' μ') : Wo dr mc P n l K (i :: σ) ρ G μ := by
  subst hn; subst hcs
  refine .act (μ₁ := [.blk b (cl (ys.map V) E)]) (μ₂ := μ') (post := fun G' μ' v => μ' = [] ∧ v = .slice (some ⟨b, 0, none⟩) ys.length cap ∧ ∃ fr, G' b = some (.cells (ys.map V).toArray E fr)) ho (.inr hdf) .no hm.perm (fun a w ha hs => .inl ?_) ?_
  · unfold csT at hS
    split at hS
    · rename_i e hu
      split at hS
      · rename_i hue
        have hs' := hs.left
        have hb : w.heap[b]? = some (cl (ys.map V) E) := hs'.own _ (List.mem_singleton.2 rfl)
        have hG : G b = none := hs'.apart b (by simp [keys, Res.keys])
        obtain ⟨fr, h1, h2, h3, h4, h5, h6⟩ := freeze_at (k := (ys.map V).toArray.size) hb
        have hsh : w.shape? b = some (E, (ys.map V).toArray.size) := by unfold World.shape?; rw [hb]
        refine ⟨_, w.freeze ⟨b, (ys.map V).toArray.size, none⟩ 1, G.add b (.cells (ys.map V).toArray E fr), [], .inl ?_, ?_, rfl, rfl, fr, PM.add_same _ _ _⟩
        · simp [execOp, hx.eval ha rfl, convert, run_underlying hu, run_underlying hue, markStringish, hsh]
        · refine ⟨⟨fun c u hc => ?_, (fun r hr => nomatch hr), (fun c hc => nomatch hc), List.nodup_nil⟩, h4, h5, h6, by omega, fun c hc hK => ?_, (fun c hc => nomatch hc), fun c u hK hc => ?_⟩
          · unfold PM.add at hc
            split at hc
            · rename_i e; subst e; rw [← hc]; exact h1
            · rename_i hne; rw [h2 c hne]; exact hs.sub c u hc
          · have hne : c ≠ b := fun e => hK (by simp [keys, Res.keys, e])
            exact ⟨h2 c hne, by unfold PM.add; rw [if_neg hne]⟩
          · have hne : c ≠ b := fun e => hK (by simp [keys, Res.keys, e])
            unfold PM.add; rw [if_neg hne]; exact hc
      · cases hS
    · cases hS
  · rintro v G' μ'' hle ⟨rfl, rfl, fr, hG'⟩
    refine h G' hle (SlR.ofRow (fun _ _ => rfl) hcap (fun _ => rfl) ?_)
    rw [flat_V]
    intro j u hj w hs
    show w.cell? ⟨b, 0 + j, none⟩ = some u
    rw [Nat.zero_add, cell_of_row w b j _ E fr (hs b _ hG')]
    simpa using hj
/-! ### Truths that are known; operations that are not wanted -/
theorem wo_b {e : Bool} {dd : Nat} (e' : Bool) (h : e = e') (H : Wo dr mc P n l K σ ((dd, c, .bool e') :: ρ) G μ) : Wo dr mc P n l K σ ((dd, c, .bool e) :: ρ) G μ := by rw [h]; exact H
theorem skp {o : Oper} (v : Value) (ho : nth l i = some o) (hk : kindOf mc o.op = .pure) (hg : Gd l ρ o.guard false) (h : Wo dr mc P n l K σ (lay ρ o.dst false v) G μ) : Wo dr mc P n l K (i :: σ) ρ G μ :=
  .pure ho (.inl hk) hg (fun hc => nomatch hc) h
theorem skr {o : Oper} (v : Value) (ho : nth l i = some o) (hk : kindOf mc o.op = .read) (hg : Gd l ρ o.guard false) (h : Wo dr mc P n l K σ (lay ρ o.dst false v) G μ) : Wo dr mc P n l K (i :: σ) ρ G μ :=
  .read ho (.inl hk) hg (fun hc => nomatch hc) h
theorem ska {o : Oper} (v : Value) (ho : nth l i = some o) (hk : kindOf mc o.op = .act) (hg : Gd l ρ o.guard false) (h : Wo dr mc P n l K σ (lay ρ o.dst false v) G μ) : Wo dr mc P n l K (i :: σ) ρ G μ :=
  .callv (f := 0) (args := #[]) (Gp := G) ho (.inr (.inl hk)) hg (fun hc => nomatch hc) (fun hc => nomatch hc) h
theorem skc {o : Oper} (v : Value) (ho : nth l i = some o) (hk : kindOf mc o.op = .call) (hg : Gd l ρ o.guard false) (h : Wo dr mc P n l K σ (lay ρ o.dst false v) G μ) : Wo dr mc P n l K (i :: σ) ρ G μ :=
  .callv (f := 0) (args := #[]) (Gp := G) ho (.inl hk) hg (fun hc => nomatch hc) (fun hc => nomatch hc) h
/-! ### '%' and '/' of words -/
theorem mw {T T' : TypeId} {x y : Operand} {k : IntKind} {a b : BitVec k.bits} (ho : nth l i = some ⟨some d, .binOp .rem T x y T', t, p, af, g⟩) (hg : Gd l ρ g c) (hx : Ev ρ c x (uv k a)) (hy : Ev ρ c y (uv k b)) (h0 : c = true → b ≠ 0#k.bits)
    (h : Wo dr mc P n l K σ ((d, c, uv k (a % b)) :: ρ) G μ) : Wo dr mc P n l K (i :: σ) ρ G μ :=
  .pure ho (.inl rfl) hg (fun hc q w ha => by
    have e1 := hx.eval ha hc; have e2 := hy.eval ha hc
    have hq : (eqGuard .rem T x y (uv k a) (uv k b)).run P w = .ok () w := eqGuard_int ..
    have hb : (b.toNat : Int) ≠ 0 := fun e => h0 hc (BitVec.eq_of_toNat_eq (by simpa using e))
    have e3 : ((a.toNat : Int).tmod (b.toNat : Int)) = (((a % b).toNat : Nat) : Int) := by rw [BitVec.toNat_umod]; rfl
    have hb2 : ¬ b.toNat = 0 := fun e => hb (by rw [e]; rfl)
    simp only [execOp, e1, e2, Sem.run_bind, hq, Result.andThen_ok]
    simp [binOp, uv, Op.intDiv, hb2]
    simpa using e3) h
theorem dw {T T' : TypeId} {x y : Operand} {k : IntKind} {a b : BitVec k.bits} (ho : nth l i = some ⟨some d, .binOp .quo T x y T', t, p, af, g⟩) (hg : Gd l ρ g c) (hk : k.signed = false) (hx : Ev ρ c x (uv k a)) (hy : Ev ρ c y (uv k b)) (h0 : c = true → b ≠ 0#k.bits)
    (h : Wo dr mc P n l K σ ((d, c, uv k (a / b)) :: ρ) G μ) : Wo dr mc P n l K (i :: σ) ρ G μ :=
  .pure ho (.inl rfl) hg (fun hc q w ha => by
    have e1 := hx.eval ha hc; have e2 := hy.eval ha hc
    have hq : (eqGuard .quo T x y (uv k a) (uv k b)).run P w = .ok () w := eqGuard_int ..
    have hb : (b.toNat : Int) ≠ 0 := fun e => h0 hc (BitVec.eq_of_toNat_eq (by simpa using e))
    have e3 : k.wrap ((a.toNat : Int).tdiv (b.toNat : Int)) = (((a / b).toNat : Nat) : Int) := by
      have : ((a.toNat : Int).tdiv (b.toNat : Int)) = (((a / b).toNat : Nat) : Int) := by rw [BitVec.toNat_udiv]; rfl
      rw [this, wrap_uv hk]
    have hb2 : ¬ b.toNat = 0 := fun e => hb (by rw [e]; rfl)
    simp only [execOp, e1, e2, Sem.run_bind, hq, Result.andThen_ok]
    simp [binOp, uv, Op.intDiv, hb2]
    simpa using e3) h
end
end Go.Tan
