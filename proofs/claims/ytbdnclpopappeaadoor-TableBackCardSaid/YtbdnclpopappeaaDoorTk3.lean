/- Lemmas and contracts, joined: Steps of what is walked where tables are laid. Plain data. No condition. Steps of what is walked where a table is built. Plain data. No condition. Steps of what is walked where a table is read. Plain data, and what lies in memory of a table that is read. No condition. Steps of what is walked where a table tells of a key. Plain data. No condition. Steps of the laws of tables. Plain data. No condition. The arguments of the laws as plain data: whatever is handed in reads so. No condition. Many plain steps at once: a function of the code tells which goal is left behind all steps that only move values or only lead from one piece of code to the next. No condition: proved for every program. Calls that may panic, and calls that are deferred. No condition: proved for every program. Contracts of functions, walked. -/
import Derived.Test.YtbdnclpopappeaaDoorTk2
import Derived.Test.YtbdnclpopappeaaDoorCards
import Derived.Test.YtbdnclpopappeaaDoorTie
import Derived.OpenShut
import Derived.Deep.DeepHandedRow
import Derived.Deep.CondSized
import Derived.JoinedCond
import Derived.Test.YtbdnclpopappeaaDoorRows
import Derived.KernelRfl
set_option linter.unusedSimpArgs false
set_option linter.unusedVariables false
set_option linter.unusedSectionVars false
namespace Go.Tan
open Go.RowKit
theorem mtk4 {μ μ1 μ2 μ3 μ4 : Mem} {r1 r2 r3 r4 : Res} (h1 : MTake μ r1 μ1) (h2 : MTake μ1 r2 μ2) (h3 : MTake μ2 r3 μ3) (h4 : MTake μ3 r4 μ4) : μ.Perm ([r1, r2, r3, r4] ++ μ4) := h1.perm.trans ((mtk3 h2 h3 h4).cons _)
/-! ### Texts, each once -/
def emT : ByteArray := ByteArray.empty
theorem encT_len (l : List ByteArray) : ∀ x ∈ l, (encT x).length = 1 := fun _ _ => rfl
theorem encT_at {l : List ByteArray} {j : Int} (k : Nat) (hj : 0 + j.toNat * 1 = k) (hk : k < l.length) : (l.flatMap encT)[0 + j.toNat * 1]? = some (.string (l.getD k emT)) := by
  rw [hj]
  have := flat_at (encT_len l) (List.getElem?_eq_getElem hk)
  rw [Nat.mul_one] at this
  have h2 := congrArg (fun z => z[0]?) this
  simp only [List.getElem?_take, List.getElem?_drop] at h2
  simp only [Nat.add_zero, Nat.lt_one_iff, if_true] at h2
  rw [h2, List.getD_eq_getElem?_getD, List.getElem?_eq_getElem hk]; rfl
theorem encT_ix {l : List ByteArray} {o : Nat} (k : Nat) (ho : o = k) (hk : k < l.length) : (l.flatMap encT)[o]? = some (.string (l.getD k emT)) := by
  have := encT_at (l := l) (j := (k : Int)) k (by omega) hk
  rwa [show 0 + (k : Int).toNat * 1 = o by omega] at this
theorem cmp_snoc' : ∀ (l : List ByteArray) (p y : ByteArray), cmpU' p (l ++ [y]) = cmpU' p l ++ (if y = l.getLastD p then [] else [y])
  | [], p, y => by simp only [List.nil_append, cmpU', List.getLastD_nil]; by_cases h : y = p <;> simp [h]
  | b :: l, p, y => by
    simp only [List.cons_append, cmpU', List.getLastD_cons]
    split
    · rename_i h; subst h; exact cmp_snoc' l _ y
    · rw [cmp_snoc' l b y]; rfl
theorem getD_T {l : List ByteArray} {k : Nat} (h : k < l.length) : l.getD k emT = l[k] := by rw [List.getD_eq_getElem?_getD, List.getElem?_eq_getElem h]; rfl
theorem cmp_snoc {l : List ByteArray} {j : Nat} (h1 : 1 ≤ j) (h2 : j < l.length) : cmpU (l.take (j + 1)) = cmpU (l.take j) ++ (if l.getD j emT = l.getD (j - 1) emT then [] else [l.getD j emT]) := by
  cases l with
  | nil => simp at h2
  | cons a l =>
    obtain ⟨i, rfl⟩ : ∃ i, j = i + 1 := ⟨j - 1, by omega⟩
    have hi : i < l.length := by simpa using h2
    rw [List.take_succ_cons, List.take_succ_cons, List.take_add_one, List.getElem?_eq_getElem hi]
    simp only [cmpU, Option.toList_some, cmp_snoc', List.cons_append]
    have e1 : (a :: l).getD (i + 1) emT = l[i] := by rw [List.getD_cons_succ, getD_T hi]
    have e2 : (l.take i).getLastD a = (a :: l).getD (i + 1 - 1) emT := by
      rw [Nat.add_sub_cancel]
      cases i with
      | zero => simp
      | succ i =>
        rw [List.getD_cons_succ, getD_T (by omega), List.getLastD_eq_getLast?, List.getLast?_take]
        simp only [Nat.add_eq_zero_iff, Nat.succ_ne_self, and_false, if_false, Nat.add_sub_cancel]
        rw [List.getElem?_eq_getElem (by omega)]; rfl
    rw [e1, e2]
/-- the first so many are all other than the one ahead -/
theorem cmp_all {l : List ByteArray} : ∀ k, k ≤ l.length → (∀ j, 1 ≤ j → j < k → ¬ l.getD j emT = l.getD (j - 1) emT) → cmpU (l.take k) = l.take k
  | 0, _, _ => rfl
  | 1, h, _ => by
    cases l with
    | nil => simp at h
    | cons a l => rfl
  | k + 2, h, hj => by
    rw [cmp_snoc (by omega) (by omega), cmp_all (k + 1) (by omega) (fun j h1 h2 => hj j h1 (by omega)), if_neg (hj (k + 1) (by omega) (by omega)), List.take_add_one (i := k + 1), List.getElem?_eq_getElem (by omega), getD_T (by omega)]
    rfl
theorem cmp_short {l : List ByteArray} (h : (l.length : Int) < 2) : cmpU l = l := by
  match l with
  | [] => rfl
  | [a] => rfl
  | a :: b :: r => simp at h; omega
theorem cmp_full {l : List ByteArray} {k : Nat} (h : l.length ≤ k) (hj : ∀ j, 1 ≤ j → j < k → ¬ l.getD j emT = l.getD (j - 1) emT) : cmpU l = l := by
  have := cmp_all l.length (Nat.le_refl _) fun j h1 h2 => hj j h1 (by omega)
  rwa [List.take_length] at this
/-- where the taking out stands: so many are looked at, the first are those that stay -/
structure CmR (l M : List ByteArray) (c j : Nat) : Prop where
  len : M.length = l.length
  cj : c < j
  jl : j ≤ l.length
  c1 : 1 ≤ c
  fst : M.take c = cmpU (l.take j)
  rest : ∀ i, j ≤ i + 1 → M.getD i emT = l.getD i emT
theorem CmR.start {l : List ByteArray} {k : Nat} (hk : 1 ≤ k) (hl : k < l.length) (hj : ∀ j, 1 ≤ j → j < k → ¬ l.getD j emT = l.getD (j - 1) emT) (he : l.getD k emT = l.getD (k - 1) emT) : CmR l l k (k + 1) :=
  ⟨rfl, by omega, by omega, hk, by rw [cmp_snoc hk hl, cmp_all k (by omega) hj, if_pos he, List.append_nil], fun _ _ => rfl⟩
theorem CmR.same {l M : List ByteArray} {c j : Nat} (h : CmR l M c j) (hl : j < l.length) (he : M.getD j emT = M.getD (j - 1) emT) : CmR l M c (j + 1) := by
  have hc := h.c1; have hcj := h.cj
  refine ⟨h.len, by omega, by omega, hc, ?_, fun i hi => h.rest i (by omega)⟩
  rw [h.rest j (by omega), h.rest (j - 1) (by omega)] at he
  rw [cmp_snoc (by omega) hl, if_pos he, List.append_nil]; exact h.fst
theorem CmR.next {l M : List ByteArray} {c j : Nat} (h : CmR l M c j) (hl : j < l.length) (he : ¬ M.getD j emT = M.getD (j - 1) emT) : CmR l (M.set c (M.getD j emT)) (c + 1) (j + 1) := by
  have hc := h.c1; have hcj := h.cj; have hlen := h.len
  have hr := he
  rw [h.rest j (by omega), h.rest (j - 1) (by omega)] at hr
  refine ⟨by rw [List.length_set]; exact hlen, by omega, by omega, by omega, ?_, fun i hi => ?_⟩
  · rw [cmp_snoc (by omega) hl, if_neg hr, ← h.fst, List.take_add_one, List.getElem?_set_self (by omega), List.take_set_of_le (Nat.le_refl _), h.rest j (by omega)]; rfl
  · have : c ≠ i := by omega
    rw [List.getD_eq_getElem?_getD, List.getElem?_set_ne this, ← List.getD_eq_getElem?_getD]
    exact h.rest i (by omega)
theorem CmR.fin {l M : List ByteArray} {c j : Nat} (h : CmR l M c j) (hl : l.length ≤ j) : M.take c = cmpU l := by
  rw [h.fst, List.take_of_length_le (by omega)]
theorem str_f {a b : ByteArray} (h : (a.toList == b.toList) = false) : ¬ a = b := fun e => by rw [e, beq_self_eq_true] at h; cases h
theorem cm_snoc {l : List ByteArray} {k : Nat} (h : ∀ j, 1 ≤ j → j < k → ¬ l.getD j emT = l.getD (j - 1) emT) (c : ((l.getD k emT).toList == (l.getD (k - 1) emT).toList) = false) : ∀ j, 1 ≤ j → j < k + 1 → ¬ l.getD j emT = l.getD (j - 1) emT := fun j h1 h2 => by
  by_cases e : j = k
  · subst e; exact str_f c
  · exact h j h1 (by omega)
theorem row_put {X A L : List Y} (hl : X.length < 18446744073709551616) (e1 : A = [] ++ numN (BitVec.ofInt 64 (X.length : Int)).toNat) (e2 : L = A ++ yl 32 (leafD X)) : L = rowL X := by
  rw [e2, e1, numI hl]; rfl
/-! ### The writer -/
def wrC (enc mac : Nat → Y) (va vo vl : Value) : List Value := ba 32 enc ++ ba 32 mac ++ [va, vo, vl]
section
variable {enc mac : Nat → Y} {va vo vl v : Value}
theorem wrc_len : (wrC enc mac va vo vl).length = 67 := by simp [wrC, ba_len]
theorem wrc_key : ((wrC enc mac va vo vl).drop 0).take 64 = ba 32 enc ++ ba 32 mac := by rw [wrC, List.drop_zero, List.take_left' k64]
theorem wrc_ad : (wrC enc mac va vo vl)[64]? = some va := by rw [wrC, List.getElem?_append_right (by rw [k64]; decide), k64]; rfl
theorem wrc_out : (wrC enc mac va vo vl)[65]? = some vo := by rw [wrC, List.getElem?_append_right (by rw [k64]; decide), k64]; rfl
theorem wrc_lvs : (wrC enc mac va vo vl)[66]? = some vl := by rw [wrC, List.getElem?_append_right (by rw [k64]; decide), k64]; rfl
theorem wrs_out : (wrC enc mac va vo vl).set 65 v = wrC enc mac va v vl := by rw [wrC, List.set_append_right _ _ (by rw [k64]; decide), k64]; rfl
theorem wrs_lvs : (wrC enc mac va vo vl).set 66 v = wrC enc mac va vo v := by rw [wrC, List.set_append_right _ _ (by rw [k64]; decide), k64]; rfl
end
end Go.Tan

namespace Go.Tan
open Go.RowKit
def badT (h : Hd) (l : List Ent) (blk every : Int) : Prop := ¬ h.kind = 2#8 ∨ h.right = false ∨ l = [] ∨ blk < 1 ∨ 1048576 < blk ∨ every < 1 ∨ 1024 < every ∨ (∃ e ∈ l, rightE e = false) ∨ risesE l = false
def tabOf (root : Nat → Y) (h : Hd) (l : List Ent) (blk every bits : Int) : Tab := ⟨root, h, every.toNat, bits, cutsE blk l⟩
def BuildR (root : Nat → Y) (h : Hd) (l : List Ent) (blk every bits : Int) (L : List Y) (m : Meta) (er : Int) : Prop :=
  (badT h l blk every ∧ L = [] ∧ m = Meta.zero ∧ er = 1) ∨ (¬ badT h l blk every ∧ L = (tabOf root h l blk every bits).bytes ∧ m = (tabOf root h l blk every bits).info ∧ er = 0)
section
variable {root : Nat → Y} {h : Hd} {l : List Ent} {blk every bits : Int}
theorem tb_c : (((h.kind.toNat : Int) != 2) || !h.right || ((l.length : Int) == 0) || decide (blk < 1) || decide (blk > 1048576) || decide (every < 1) || decide (every > 1024) || l.any (fun e => !rightE e) || !risesE l) = true ↔ badT h l blk every := by
  have e1 : (((h.kind.toNat : Int) != 2) = true) ↔ ¬ h.kind = 2#8 := by
    rw [bne_iff_ne]
    exact ⟨fun q e => q (by rw [e]; rfl), fun q e => q (BitVec.eq_of_toNat_eq (by show _ = 2; omega))⟩
  have e2 : (((l.length : Int) == 0) = true) ↔ l = [] := by
    rw [beq_iff_eq]
    exact ⟨fun q => List.eq_nil_of_length_eq_zero (by omega), fun q => by rw [q]; rfl⟩
  unfold badT
  simp only [Bool.or_eq_true, e1, e2, decide_eq_true_eq, Bool.not_eq_true', List.any_eq_true, gt_iff_lt, or_assoc]
theorem tb_bad (c : (((h.kind.toNat : Int) != 2) || !h.right || ((l.length : Int) == 0) || decide (blk < 1) || decide (blk > 1048576) || decide (every < 1) || decide (every > 1024) || l.any (fun e => !rightE e) || !risesE l) = true) : BuildR root h l blk every bits [] Meta.zero 1 := .inl ⟨tb_c.1 c, rfl, rfl, rfl⟩
theorem good_of (hn : ¬ badT h l blk every) (hl : lightE l) : (tabOf root h l blk every bits).Good := by
  have he : (tabOf root h l blk every bits).ents = l := cuts_flat blk l
  have hev : 1 ≤ every ∧ every ≤ 1024 := ⟨Int.not_lt.1 fun q => hn (.inr (.inr (.inr (.inr (.inr (.inl q)))))), Int.not_lt.1 fun q => hn (.inr (.inr (.inr (.inr (.inr (.inr (.inl q))))))) ⟩
  refine ⟨⟨by rw [he]; exact hl, cuts_ne blk l, by show every.toNat ≤ 1024; omega⟩, ?_, ?_, by show 1 ≤ every.toNat; omega, ?_, ?_, ?_⟩
  · apply Classical.byContradiction; intro q; exact hn (.inl q)
  · show h.right = true
    cases q : h.right with
    | true => rfl
    | false => exact absurd (.inr (.inl q)) hn
  · rw [he]; intro e hm
    cases q : rightE e with
    | true => rfl
    | false => exact absurd (.inr (.inr (.inr (.inr (.inr (.inr (.inr (.inl ⟨e, hm, q⟩)))))))) hn
  · rw [he]
    cases q : risesE l with
    | true => rfl
    | false => exact absurd (.inr (.inr (.inr (.inr (.inr (.inr (.inr (.inr q)))))))) hn
  · intro q
    have : l = [] := by rw [← he]; unfold Tab.ents; rw [q]; rfl
    exact hn (.inr (.inr (.inl this)))
theorem tb_good (c : (((h.kind.toNat : Int) != 2) || !h.right || ((l.length : Int) == 0) || decide (blk < 1) || decide (blk > 1048576) || decide (every < 1) || decide (every > 1024) || l.any (fun e => !rightE e) || !risesE l) = false) (hl : lightE l) : ¬ badT h l blk every ∧ (tabOf root h l blk every bits).Good ∧ 1 ≤ every := by
  have hn : ¬ badT h l blk every := fun q => by rw [tb_c.2 q] at c; cases c
  exact ⟨hn, good_of hn hl, Int.not_lt.1 fun q => hn (.inr (.inr (.inr (.inr (.inr (.inl q))))))⟩
end
theorem blk_built {t : Tab} (g : t.Good) {i : Nat} (h : i < t.cs.length) : buildB (t.cs.getD i []) t.every = (blkL t.every (t.cs.getD i []), 0) := by
  have hr : ∀ e ∈ t.cs.getD i [], rightE e = true := fun e he => g.ents e (List.mem_flatten.2 ⟨_, getD_memE h, he⟩)
  have hc : risesE (t.cs.getD i []) = true := pw_rises ((List.pairwise_flatten.1 (rises_pw g.rises)).1 _ (getD_memE h))
  have h1 := wt_memE (getD_memE h)
  have h2 : wtE t.cs.flatten ≤ 50000 := g.ok.light.2
  have h3 : t.cs.flatten.length ≤ 300 := g.ok.light.1
  have he := g.ok.every
  have h0 := g.ev1
  have := buildB_ok (l := t.cs.getD i []) (every := (t.every : Int)) (fun q => by
    rcases q with q | q | q | ⟨e, he, q⟩
    · omega
    · omega
    · rw [hc] at q; cases q
    · rw [hr e he] at q; cases q) (fun q => by
    have hw := blkL_le (every := t.every) (l := t.cs.getD i []) (by omega) (by omega) (by omega)
    rcases q with ⟨k, hk, q⟩ | q
    · have := outB_le (every := t.every) (l := t.cs.getD i []) (by omega) (by omega) (by omega) (k + 1) (by omega)
      have := wtE_take (t.cs.getD i []) (k + 1)
      rw [Int.toNat_natCast] at q; omega
    · rw [Int.toNat_natCast] at q; omega)
  rw [this, Int.toNat_natCast]
section
variable {root : Nat → Y} {h : Hd} {l rest L R B : List Ent} {blk every bits er : Int} {k : Nat} {x y : Ent}
theorem tb_part (g : (tabOf root h l blk every bits).Good) (he : 1 ≤ every) (hr : rest = ((cutsE blk l).drop k).flatten) (h0 : 0 < (rest.length : Int)) (e1 : L = rest.take (cutA blk 0 rest)) (e2 : R = rest.drop (cutA blk 0 rest)) :
    k < (cutsE blk l).length ∧ (cutsE blk l).getD k [] = L ∧ R = ((cutsE blk l).drop (k + 1)).flatten ∧ L.length = cutA blk 0 rest ∧ 0 < L.length ∧ (∀ {X : List Y} {er : Int}, (X, er) = buildB L every → X = blkL every.toNat L ∧ er = 0) := by
  have hne : rest ≠ [] := fun q => by rw [q] at h0; simp at h0
  obtain ⟨h1, h2, h3⟩ := cuts_step hr hne
  have hp := cutA_pos blk 0 hne
  have hl := cutA_le blk rest 0
  refine ⟨h1, by rw [h2, e1], by rw [h3, e2], by rw [e1, List.length_take]; omega, by rw [e1, List.length_take]; omega, fun {X er} hb => ?_⟩
  have := blk_built g (i := k) h1
  have e : (tabOf root h l blk every bits).cs.getD k [] = L := by rw [e1]; exact h2
  rw [e, show ((tabOf root h l blk every bits).every : Int) = every by show (every.toNat : Int) = every; omega] at this
  rw [this] at hb
  simp only [Prod.mk.injEq] at hb
  exact hb
theorem tb_bnd1 (hk : k < (cutsE blk l).length) (hL : (cutsE blk l).getD k [] = L) (hR : R = ((cutsE blk l).drop (k + 1)).flatten) (h0 : 0 < (R.length : Int)) (hx : L[L.length - 1]? = some x) (hy : R[0]? = some y) : betwL (yb x.user) (yb y.user) = bndE (cutsE blk l) k := by
  have hne : R ≠ [] := fun q => by rw [q] at h0; simp at h0
  obtain ⟨h1, h2, _⟩ := cuts_step hR hne
  have hp := cutA_pos blk 0 hne
  unfold bndE
  rw [if_pos h1, hL, h2]
  have e1 : lastU L = x.user := by unfold lastU; rw [ri_at hx]
  have e2 : firstU (R.take (cutA blk 0 R)) = y.user := by
    unfold firstU
    rw [List.getD_eq_getElem?_getD, List.getElem?_take_of_lt hp, hy]; rfl
  rw [e1, e2]
theorem tb_bnd0 (hL : (cutsE blk l).getD k [] = L) (hR : R = ((cutsE blk l).drop (k + 1)).flatten) (h0 : (R.length : Int) ≤ 0) (hx : L[L.length - 1]? = some x) : yb x.user = bndE (cutsE blk l) k := by
  have hn : R = [] := List.eq_nil_of_length_eq_zero (by omega)
  have h1 := cuts_end hR hn
  unfold bndE
  rw [if_neg (by omega), hL]
  have e1 : lastU L = x.user := by unfold lastU; rw [ri_at hx]
  rw [e1]
end
section
variable {t : Tab} {k : Nat} {O D' X W L1 L2 : List Y} {US : List ByteArray} {L : List Ent}
theorem tb_prt (hL : t.cs.getD k [] = L) (e : X = sealL (keyEnc t.root (headL t.h)) (keyMac t.root (headL t.h)) (nonceF (BitVec.ofInt 64 ((2 + k : Nat) : Int))) (headL t.h) (blkL t.every L)) : X = t.prt k := by rw [e]; unfold Tab.prt sealAt; rw [hL]
theorem tb_out (eO : O = t.out k) (eX : X = t.prt k) (e : L1 = O ++ X) : L1 = t.out (k + 1) := by rw [e, eO, eX, t.out_succ]
theorem tb_row (eR : O = t.rows k) (eX : X = t.prt k) (eW : W = rowL X) {s : List Y} (es : s = bndE t.cs k) (e1 : L1 = O ++ strL s) (e2 : L2 = L1 ++ W) : L2 = t.rows (k + 1) := by rw [e2, e1, eR, eW, eX, es, t.rows_succ, List.append_assoc]
theorem tb_lvs {D D2 : List Dg} (eD : D = t.lvs k) (eX : X = t.prt k) (e : D2 = D ++ [leafD X]) : D2 = t.lvs (k + 1) := by rw [e, eD, eX, t.lvs_succ]
theorem tb_usr (hk : k < t.cs.length) (hL : t.cs.getD k [] = L) (eU : US = (t.cs.take k).flatten.map (·.user)) : US ++ L.map (·.user) = (t.cs.take (k + 1)).flatten.map (·.user) := by rw [eU, cs_take hk, List.map_append, hL]
theorem us_snoc {j : Nat} {x : Ent} (h : L[j]? = some x) : US ++ (L.take j).map (·.user) ++ [x.user] = US ++ (L.take (j + 1)).map (·.user) := by
  rw [List.take_add_one, h, List.map_append, List.append_assoc]; rfl
end
theorem tb_light {l rest : List Ent} {blk : Int} {k : Nat} (hl : lightE l) (hr : rest = ((cutsE blk l).drop k).flatten) : lightE rest := by
  have e : l = ((cutsE blk l).take k).flatten ++ rest := by rw [hr, ← List.flatten_append, List.take_append_drop, cuts_flat]
  have h1 := wtE_app ((cutsE blk l).take k).flatten rest
  have h2 : l.length = ((cutsE blk l).take k).flatten.length + rest.length := by rw [← List.length_append, ← e]
  rw [← e] at h1
  exact ⟨by have := hl.1; omega, by have := hl.2; omega⟩
theorem usz {L : List Ent} {j : Nat} {x : Ent} (hl : lightE L) (hx : L[j]? = some x) : x.user.size ≤ 50000 ∧ x.value.size ≤ 50000 := by
  have hj := (List.getElem?_eq_some_iff.1 hx).1
  have := wtE_at hj
  rw [ri_at hx] at this
  have := hl.2
  omega
theorem str_bd {L A : List Y} {s : ByteArray} (e : L = A ++ strL (yb s)) (hs : s.size ≤ 50000) : L.length ≤ A.length + 50010 := by
  have := num_len10 (n := (yb s).length) (by rw [yb_len]; omega)
  rw [e, List.length_append, strL, List.length_append, yb_len] at *; omega
theorem row_bd {W X : List Y} (e : W = rowL X) (hx : X.length ≤ 100000000) : 32 ≤ W.length ∧ W.length ≤ 42 := by
  have := num_len10 (n := X.length) (by omega)
  rw [e, rowL, List.length_append, yl_len]; omega
theorem cmp_sub' : ∀ {l : List ByteArray} {p s : ByteArray}, s ∈ cmpU' p l → s ∈ l
  | b :: l, p, s, h => by
    unfold cmpU' at h
    split at h
    · exact List.mem_cons_of_mem _ (cmp_sub' h)
    · rcases List.mem_cons.1 h with rfl | h
      · exact List.mem_cons_self ..
      · exact List.mem_cons_of_mem _ (cmp_sub' h)
theorem cmp_sub : ∀ {l : List ByteArray} {s : ByteArray}, s ∈ cmpU l → s ∈ l
  | a :: l, s, h => by
    unfold cmpU at h
    rcases List.mem_cons.1 h with rfl | h
    · exact List.mem_cons_self ..
    · exact List.mem_cons_of_mem _ (cmp_sub' h)
theorem usr_sz {l : List Ent} (hl : lightE l) : ∀ s ∈ cmpU (l.map (·.user)), s.size ≤ 1000000 := fun s hs => by
  obtain ⟨e, he, rfl⟩ := List.mem_map.1 (cmp_sub hs)
  obtain ⟨i, hi, rfl⟩ := List.getElem_of_mem he
  have := (usz hl (List.getElem?_eq_getElem hi)).1
  omega
section
variable {root : Nat → Y} {h : Hd} {l : List Ent} {blk every bits : Int}
theorem tab_users : (tabOf root h l blk every bits).users = l.map (·.user) := by
  unfold Tab.users Tab.ents tabOf; rw [cuts_flat]
theorem tb_all {US : List ByteArray} {k : Nat} (hk : (cutsE blk l).length ≤ k) (eU : US = ((tabOf root h l blk every bits).cs.take k).flatten.map (·.user)) : US = l.map (·.user) := by
  rw [eU]
  show ((cutsE blk l).take k).flatten.map _ = _
  rw [List.take_of_length_le hk, cuts_flat]
theorem tb_filt {M X : List Y} {US : List ByteArray} (eU : US = l.map (·.user)) (eM : M = makeB (cmpU US) bits) (eX : X = sealL (keyEnc root (headL h)) (keyMac root (headL h)) (nonceF (BitVec.ofInt 64 ((1 : Nat) : Int))) (headL h) M) : X = (tabOf root h l blk every bits).filt := by
  unfold Tab.filt; rw [tab_users, eX, eM, eU]; rfl
theorem tb_idx {R W N L I : List Y} (eR : R = (tabOf root h l blk every bits).rows (cutsE blk l).length) (eF : W = rowL (tabOf root h l blk every bits).filt) (eN : N = [] ++ numN (BitVec.ofInt 64 ((cutsE blk l).length : Int)).toNat) (hc : (cutsE blk l).length ≤ 300) (eL : L = R ++ W) (eI : I = N ++ L) : I = (tabOf root h l blk every bits).idx := by
  rw [numI (by omega)] at eN
  rw [eI, eN, eL, eR, eF]; rfl
theorem tb_sidx {I X : List Y} (eI : I = (tabOf root h l blk every bits).idx) (eX : X = sealL (keyEnc root (headL h)) (keyMac root (headL h)) (nonceF (BitVec.ofInt 64 ((0 : Nat) : Int))) (headL h) I) : X = (tabOf root h l blk every bits).sidx := by
  unfold Tab.sidx; rw [eX, eI]; rfl
theorem tb_bytes {O F S O1 O2 L : List Y} {z : Int} (eO : O = (tabOf root h l blk every bits).out (cutsE blk l).length) (eF : F = (tabOf root h l blk every bits).filt) (eS : S = (tabOf root h l blk every bits).sidx) (e1 : O1 = O ++ F) (e2 : O2 = O1 ++ S) (hz : z = (S.length : Int)) (eL : L = O2 ++ fixL (BitVec.ofInt 64 z) 8) : L = (tabOf root h l blk every bits).bytes := by
  rw [eL, e2, e1, hz, eO, eF, eS]; rfl
theorem tb_info {L : List Y} {D0 D1 D2 : List Dg} {F S : List Y} {x y : Ent} (eL : L = (tabOf root h l blk every bits).bytes) (e0 : D0 = (tabOf root h l blk every bits).lvs (cutsE blk l).length) (eF : F = (tabOf root h l blk every bits).filt) (eS : S = (tabOf root h l blk every bits).sidx) (e1 : D1 = D0 ++ [leafD F]) (e2 : D2 = D1 ++ [leafD S]) (hx : l[0]? = some x) (hy : l[l.length - 1]? = some y) :
    [V h.level, uv .u64 h.gen, uv .u64 h.epoch, uv .u64 h.num, .int .i64 (L.length : Int), .int .i64 (l.length : Int), .string x.user, .string y.user] ++ ba 32 (rootD D2) = (tabOf root h l blk every bits).info.cells := by
  have he : (tabOf root h l blk every bits).ents = l := cuts_flat blk l
  have e3 : D2 = (tabOf root h l blk every bits).leaves := by rw [e2, e1, e0, eF, eS]; rfl
  have e4 : firstU l = x.user := by unfold firstU; rw [ri_at hx]
  have e5 : lastU l = y.user := by unfold lastU; rw [ri_at hy]
  rw [e3, eL, ← e4, ← e5]
  conv => lhs; rw [show (l.length : Int) = ((tabOf root h l blk every bits).ents.length : Int) by rw [he], show firstU l = firstU (tabOf root h l blk every bits).ents by rw [he], show lastU l = lastU (tabOf root h l blk every bits).ents by rw [he]]
  rfl
end
theorem mt_len {a b c d e f g i : Value} {w : Nat → Y} : ([a, b, c, d, e, f, g, i] ++ ba 32 w).length = 40 := by rw [List.length_append, ba_len]; rfl
theorem usr_len (cs : List (List Ent)) (k : Nat) : ((cs.take k).flatten.map (·.user)).length ≤ cs.flatten.length := by rw [List.length_map]; exact (wt_flat k).2
end Go.Tan

namespace Go.Tan
open Go.RowKit
def rowC (p : RowT × Sh) : List Value := [.string (bstr p.1.bound), p.2.val p.1.bytes.length] ++ ba 32 p.1.leaf
theorem rowC_len {p : RowT × Sh} : (rowC p).length = 34 := by rw [rowC, List.length_append, ba_len]; rfl
theorem rowC_leaf {p : RowT × Sh} : ((rowC p).drop 2).take 32 = ba 32 p.1.leaf := by
  show (ba 32 p.1.leaf).take 32 = _
  exact List.take_of_length_le (by rw [ba_len]; exact Nat.le_refl _)
theorem rowC_one (p : RowT × Sh) : ∀ u ∈ rowC p, u.oneCell' = true := one_app (one2 rfl rfl) (ba_one _ _)
structure RdrR (G : PM) (h : Hd) (ps : List (RowT × Sh)) (ix : List Y) (ha hr hi : Sh) : Prop where
  ad : SlR G 1 encY ha (headL h)
  rows : SlR G 34 rowC hr ps
  each : ∀ p ∈ ps, SlR G 1 encY p.2 p.1.bytes
  ix : SlR G 1 encY hi ix
  sm : ∀ p ∈ ps, p.1.bytes.length ≤ 1000000
  len : ps.length ≤ 1000000
theorem RdrR.mono {G G' : PM} {h : Hd} {ps : List (RowT × Sh)} {ix : List Y} {ha hr hi : Sh} (r : RdrR G h ps ix ha hr hi) (hle : PM.le G G') : RdrR G' h ps ix ha hr hi :=
  ⟨r.ad.mono hle, r.rows.mono hle, fun p hp => (r.each p hp).mono hle, r.ix.mono hle, r.sm, r.len⟩
theorem map_fst {ps : List (RowT × Sh)} {rows : List RowT} {i : Nat} {p : RowT × Sh} (e : ps.map (·.1) = rows) (hp : ps[i]? = some p) : rows.getD i rowZ = p.1 := by
  rw [← e, List.getD_eq_getElem?_getD, List.getElem?_map, hp]; rfl
section
variable {root : Nat → Y} {h : Hd} {x : RowT} {part i : Nat} {L : List Y} {rows : List RowT} {l : List Ent}
theorem wh_leaf (hw : wholeT root h x part = some L) : decide (yl 32 (leafD x.bytes) = yl 32 x.leaf) = true := by
  unfold wholeT at hw
  split at hw
  · rename_i q; exact decide_eq_true q
  · cases hw
theorem wh_open (hw : wholeT root h x part = some L) : openAt root h part x.bytes = some L := by
  unfold wholeT at hw
  split at hw
  · exact hw
  · cases hw
theorem wh_len (hw : wholeT root h x part = some L) : L.length ≤ x.bytes.length := by
  have := (seal_open (wh_open hw)).2.2
  omega
theorem en_inv (he : entsT root h rows i = some l) : ∃ y, wholeT root h (rows.getD i rowZ) (2 + i) = some y ∧ readB y = (l, 0) := by
  unfold entsT at he
  cases hw : wholeT root h (rows.getD i rowZ) (2 + i) with
  | none => rw [hw] at he; cases he
  | some y =>
    rw [hw, Option.bind_some] at he
    split at he
    · rename_i q
      refine ⟨y, rfl, ?_⟩
      simp only [Option.some.injEq] at he
      rw [← he, ← q]
    · cases he
end
/-! ### the beginning -/
theorem Tk.got {α : Type} {a : α} {s : Rd'} {bad : Bool} {k : List Y → Option α} (h : Tk (some a) s bad k) : s.bad = 0 ∧ some a = k s.rest := by
  rcases h with ⟨h1, _, h3⟩ | ⟨h1, _⟩
  · exact ⟨h1, h3⟩
  · cases h1
theorem Tk.put {α : Type} {a : α} {r : List Y} {k : List Y → Option α} (h : k r = some a) : Tk (some a) ⟨r, 0⟩ false k := .inl ⟨rfl, rfl, h.symm⟩
def kkT (b : List Y) : Nat := (unfK (b.drop (b.length - 8)) 8).toNat
def restT (b : List Y) : List Y := (b.drop 30).take (b.length - 38)
theorem restT_len {b : List Y} (h : 38 ≤ b.length) : (restT b).length = b.length - 38 := by unfold restT; rw [List.length_take, List.length_drop]; omega
structure BegR (root : Nat → Y) (m : Meta) (b : List Y) (rows : List RowT) (ix : List Y) : Prop where
  take : takeH b = (hdM m, 0)
  size : (b.length : Int) = m.size
  long : 38 ≤ b.length
  kk : kkT b ≤ b.length - 38
  eix : ix = (restT b).drop (b.length - 38 - kkT b)
  opn : ∃ y, openAt root (hdM m) 0 ix = some y ∧ (pNum fun n r => if 0 < n then rowsP (n + 1) [] ((restT b).take (b.length - 38 - kkT b)) r else none) y = some rows
  root : (yl 32 (rootD (rows.map (·.leaf) ++ [leafD ix]))).map (fun y => ((y.toNat : Nat) : Int)) = (List.range 32).map m.root
theorem beg_inv {root : Nat → Y} {m : Meta} {b : List Y} {rows : List RowT} {ix : List Y} (h : beginT root m b = some (rows, ix)) : BegR root m b rows ix := by
  unfold beginT at h
  split at h
  · rename_i c
    obtain ⟨c1, c2, c3, c4, c5⟩ := c
    simp only at h
    cases ho : openAt root (hdM m) 0 (((b.drop 30).take (b.length - 38)).drop (b.length - 38 - (unfK (b.drop (b.length - 8)) 8).toNat)) with
    | none => rw [ho] at h; cases h
    | some y =>
      rw [ho, Option.bind_some] at h
      cases hp : (pNum fun n r => if 0 < n then rowsP (n + 1) [] (((b.drop 30).take (b.length - 38)).take (b.length - 38 - (unfK (b.drop (b.length - 8)) 8).toNat)) r else none) y with
      | none => rw [hp] at h; cases h
      | some rs =>
        rw [hp, Option.bind_some] at h
        split at h
        · rename_i hr
          simp only [Option.some.injEq, Prod.mk.injEq] at h
          obtain ⟨rfl, rfl⟩ := h
          exact ⟨Prod.ext c3 c1, c2, c4, c5, rfl, ⟨y, ho, hp⟩, hr⟩
        · cases h
  · cases h
theorem root_wf {m : Meta} (hw : m.wf) {d : Dg} (h : (yl 32 d).map (fun y => ((y.toNat : Nat) : Int)) = (List.range 32).map m.root) : yl 32 d = yl 32 (fun i => BitVec.ofInt 8 (m.root i)) := by
  have e : ∀ i, i < 32 → d i = BitVec.ofInt 8 (m.root i) := fun i hi => by
    have := congrArg (fun z => z[i]?) h
    simp only [yl, List.getElem?_map, List.getElem?_range hi, Option.map_some, Option.some.injEq] at this
    apply BitVec.eq_of_toNat_eq
    rw [← this, BitVec.ofInt_natCast, BitVec.toNat_ofNat]
    have := (d i).isLt; omega
  exact yl_congr e
theorem root_cells {m : Meta} (hw : m.wf) : (m.cells.drop 8).take 32 = ba 32 (fun i => BitVec.ofInt 8 (m.root i)) := by
  have e : m.cells = [.int .u8 m.level, .int .u64 m.gen, .int .u64 m.epoch, .int .u64 m.number, .int .i64 m.size, .int .i64 m.count, .string m.min, .string m.max] ++ (List.range 32).map fun i => .int .u8 (m.root i) := rfl
  rw [e]
  show ((List.range 32).map fun i => Value.int .u8 (m.root i)).take 32 = _
  rw [List.take_of_length_le (by simp)]
  unfold ba
  refine List.map_congr_left fun i hi => ?_
  have := hw.root i (by simpa using hi)
  show Value.int .u8 (m.root i) = .int .u8 ((BitVec.ofInt 8 (m.root i)).toNat : Int)
  rw [BitVec.toNat_ofInt]
  congr 1; omega
/-! one row of the index -/
section
variable {rows acc : List RowT} {rest r : List Y} {n k : Nat}
theorem row_take {α : Type} {a : α} {f : List Y → Nat → Dg → List Y → Option α} (h : rowP false f r = some a) : Tk (some a) ⟨r, 0⟩ false (pStr 1024 fun bd => pNum fun size => pRep pByte 32 fun xs => f bd size (fun i => xs.getD i 0)) := Tk.put h
theorem row_last {α : Type} {a : α} {f : List Y → Nat → Dg → List Y → Option α} (h : rowP true f r = some a) : Tk (some a) ⟨r, 0⟩ false (pNum fun size => pRep pByte 32 fun xs => f [] size (fun i => xs.getD i 0)) := Tk.put h
theorem rows_some (h : rowsP (n + 1) acc rest r = some rows) : rowP (n == 0) (fun bd size d r => if size ≤ rest.length then rowsP n (acc ++ [⟨bd, rest.take size, d⟩]) (rest.drop size) r else none) r = some rows := h
theorem rows_got {s : Rd'} {bad : Bool} {size : Nat} {bd : List Y} {d : Dg} (h : Tk (some rows) s bad (fun r => if size ≤ rest.length then rowsP n (acc ++ [⟨bd, rest.take size, d⟩]) (rest.drop size) r else none)) :
    s.bad = 0 ∧ size ≤ rest.length ∧ rowsP n (acc ++ [⟨bd, rest.take size, d⟩]) (rest.drop size) s.rest = some rows := by
  obtain ⟨h1, h2⟩ := h.got
  split at h2
  · rename_i q; exact ⟨h1, q, h2.symm⟩
  · cases h2
theorem rows_end (h : rowsP 0 acc rest r = some rows) : r = [] ∧ rest = [] ∧ acc = rows := by
  unfold rowsP at h
  split at h
  · rename_i q; simp only [Option.some.injEq] at h; exact ⟨q.1, q.2, h⟩
  · cases h
end
structure AllB (G : PM) (ps : List (RowT × Sh)) : Prop where
  each : ∀ p ∈ ps, SlR G 1 encY p.2 p.1.bytes
  sm : ∀ p ∈ ps, p.1.bytes.length ≤ 1000000
theorem AllB.mono {G G' : PM} {ps : List (RowT × Sh)} (h : AllB G ps) (hle : PM.le G G') : AllB G' ps := ⟨fun p hp => (h.each p hp).mono hle, h.sm⟩
theorem AllB.nil {G : PM} : AllB G [] := ⟨fun p hp => (by cases hp), fun p hp => (by cases hp)⟩
theorem AllB.snoc {G : PM} {ps : List (RowT × Sh)} {p : RowT × Sh} (h : AllB G ps) (hs : SlR G 1 encY p.2 p.1.bytes) (hl : p.1.bytes.length ≤ 1000000) : AllB G (ps ++ [p]) :=
  ⟨fun q hq => by
    rcases List.mem_append.1 hq with hq | hq
    · exact h.each q hq
    · rw [List.mem_singleton.1 hq]; exact hs, fun q hq => by
    rcases List.mem_append.1 hq with hq | hq
    · exact h.sm q hq
    · rw [List.mem_singleton.1 hq]; exact hl⟩
theorem bg_need1 {a b : Int} {h : Hd} (e : a = b) (hl : 38 ≤ a) : (((a == b) && ((0 : Int) == 0)) && decide (h = h) && decide (a ≥ 38)) = true := by subst e; simp [hl]
theorem bg_rows0 {rows : List RowT} {n : Nat} {A r : List Y} (h : some rows = if 0 < n then rowsP (n + 1) [] A r else none) : 0 < n ∧ rowsP (n + 1) [] A r = some rows := by
  split at h
  · rename_i q; exact ⟨q, h.symm⟩
  · cases h
section
variable {rows acc : List RowT} {A R : List Y} {n k : Nat}
def rowF (n : Nat) (acc : List RowT) (A : List Y) (bd : List Y) (size : Nat) (d : Dg) (r : List Y) : Option (List RowT) := if size ≤ A.length then rowsP n (acc ++ [⟨bd, A.take size, d⟩]) (A.drop size) r else none
theorem bg_str (h : rowsP (n + 1 - k) acc A R = some rows) (hk : k < n) : Tk (some rows) ⟨R, 0⟩ false (pStr 1024 fun bd => pNum fun size => pRep pByte 32 fun xs => rowF (n - k) acc A bd size (fun i => xs.getD i 0)) := by
  rw [show n + 1 - k = (n - k) + 1 by omega] at h
  have h' := rows_some h
  rw [show (n - k == 0) = false from beq_eq_false_iff_ne.2 (by omega)] at h'
  exact row_take h'
theorem bg_last (h : rowsP (n + 1 - k) acc A R = some rows) (hk : ¬ k < n) (hk2 : k ≤ n) : Tk (some rows) ⟨R, 0⟩ false (pNum fun size => pRep pByte 32 fun xs => rowF (n - k) acc A [] size (fun i => xs.getD i 0)) := by
  rw [show n + 1 - k = (n - k) + 1 by omega] at h
  have h' := rows_some h
  rw [show (n - k == 0) = true from beq_iff_eq.2 (by omega)] at h'
  exact row_last h'
theorem bg_got {s : Rd'} {size : Nat} {bd rt : List Y} {f : Nat → Y} (hf : ∀ i, f i = rt.getD i 0) (h : Tk (some rows) s false (rowF (n - k) acc A bd size (fun i => rt.getD i 0))) :
    s.bad = 0 ∧ size ≤ A.length ∧ rowsP (n + 1 - (k + 1)) (acc ++ [⟨bd, A.take size, f⟩]) (A.drop size) s.rest = some rows := by
  have := rows_got h
  rw [show n + 1 - (k + 1) = n - k by omega, show f = fun i => rt.getD i 0 from funext hf]
  exact this
end
theorem byte_dec {L L' : List Y} {e e' : Int} {y : Y} (h : rdByte ⟨L, e⟩ = (y, ⟨L', e'⟩)) : L'.length ≤ L.length ∧ (e' = 0 → e = 0 ∧ L'.length + 1 ≤ L.length) := by
  unfold rdByte at h
  split at h
  · rename_i q
    simp only [Prod.mk.injEq, Rd'.mk.injEq] at h
    obtain ⟨_, rfl, rfl⟩ := h
    exact ⟨Nat.le_refl _, fun z => absurd z q⟩
  · rename_i q
    have q' : e = 0 := Classical.byContradiction q
    split at h
    · simp only [Prod.mk.injEq, Rd'.mk.injEq] at h
      obtain ⟨_, rfl, rfl⟩ := h
      exact ⟨Nat.le_refl _, fun z => by cases z⟩
    · rename_i q2
      simp only [Prod.mk.injEq, Rd'.mk.injEq] at h
      obtain ⟨_, rfl, rfl⟩ := h
      simp only at q2
      exact ⟨by rw [List.length_drop]; omega, fun _ => ⟨q', by rw [List.length_drop]; omega⟩⟩
def rwC (bd : List Y) (v : Value) (f : Nat → Y) : List Value := [.string (bstr bd), v] ++ ba 32 f
theorem rwC_len {bd : List Y} {v : Value} {f : Nat → Y} : (rwC bd v f).length = 34 := by rw [rwC, List.length_append, ba_len]; rfl
theorem rwC_leaf {bd : List Y} {v : Value} {f : Nat → Y} : ((rwC bd v f).drop 2).take 32 = ba 32 f := by
  show (ba 32 f).take 32 = _
  exact List.take_of_length_le (by rw [ba_len]; exact Nat.le_refl _)
theorem rwC_set {bd : List Y} {v : Value} {f : Nat → Y} {m : Nat} {z : Y} {k : Nat} (hm : m = 2 + k) : (rwC bd v f).set m (V z) = rwC bd v (upd f k z) := by
  subst hm
  unfold rwC
  rw [List.set_append_right _ _ (by simp), show 2 + k - ([Value.string (bstr bd), v] : List Value).length = 0 + (k : Int).toNat * 1 by simp, ba_set1 k (by omega)]
end Go.Tan

namespace Go.Tan
open Go.RowKit
/-- is an entry not ahead of a key at a moment? -/
def hitE (user : ByteArray) (seq : BitVec 64) (e : Ent) : Bool := !aheadE e ⟨user, seq, 0, ByteArray.empty⟩
theorem hit_val {user : ByteArray} {seq : BitVec 64} {e : Ent} : ((!le e.user user) || ((e.user.toList == user.toList) && decide ((e.seq.toNat : Int) ≤ (seq.toNat : Int)))) = hitE user seq e := by
  unfold hitE
  rw [← ri_neg (x := e) (y := ⟨user, seq, 0, ByteArray.empty⟩)]
def notLt (user : ByteArray) (p : RowT × Sh) : Bool := !lt (bstr p.1.bound) user
theorem from_idx {user : ByteArray} : ∀ (l : List (RowT × Sh)), idxZ (notLt user) l = if fromT user (l.map (·.1)) < l.length then (fromT user (l.map (·.1)) : Int) else -1
  | [] => rfl
  | p :: l => by
    have ih := from_idx (user := user) l
    unfold idxZ at ih ⊢
    rw [List.findIdx?_cons]
    unfold fromT
    rw [List.map_cons]
    by_cases h : lt (bstr p.1.bound) user = true
    · have hn : notLt user p = false := by unfold notLt; rw [h]; rfl
      rw [hn]
      simp only [h, if_true, Bool.false_eq_true, if_false, List.length_cons]
      cases hf : l.findIdx? (notLt user) with
      | none =>
        rw [hf] at ih
        simp only at ih
        simp only [Option.map_none]
        split at ih
        · have := Int.natCast_nonneg (fromT user (l.map (·.1))); omega
        · rename_i q; rw [if_neg (by omega)]
      | some i =>
        rw [hf] at ih
        simp only at ih
        simp only [Option.map_some]
        split at ih
        · rw [if_pos (by omega)]; omega
        · have := Int.natCast_nonneg i; omega
    · have hn : notLt user p = true := by unfold notLt; simp only [Bool.not_eq_true] at h; rw [h]; rfl
      rw [hn]
      simp [h]
theorem find_idx {α : Type} {p : α → Bool} : ∀ (l : List α), (idxZ p l < 0 ∧ l.find? p = none) ∨ ∃ x, 0 ≤ idxZ p l ∧ l[(idxZ p l).toNat]? = some x ∧ l.find? p = some x
  | [] => .inl ⟨by show (-1 : Int) < 0; decide, rfl⟩
  | a :: l => by
    unfold idxZ
    rw [List.findIdx?_cons, List.find?_cons]
    cases h : p a with
    | true => exact .inr ⟨a, Int.le_refl _, rfl, rfl⟩
    | false =>
      have ih := find_idx (p := p) l
      unfold idxZ at ih
      simp only [Bool.false_eq_true, if_false]
      cases hf : l.findIdx? p with
      | none =>
        rw [hf] at ih
        rcases ih with ⟨_, h2⟩ | ⟨x, h1, _⟩
        · exact .inl ⟨by simp, h2⟩
        · simp at h1
      | some i =>
        rw [hf] at ih
        rcases ih with ⟨h1, _⟩ | ⟨x, h1, h2, h3⟩
        · simp only at h1; omega
        · refine .inr ⟨x, ?_, ?_, h3⟩
          · simp only [Option.map_some]; exact Int.natCast_nonneg _
          · simp only [Option.map_some, Int.toNat_natCast] at h2 ⊢
            rw [List.getElem?_cons_succ]; exact h2
theorem rowsP_len : ∀ {n : Nat} {acc rows : List RowT} {rest r : List Y}, rowsP n acc rest r = some rows → rows.length = acc.length + n
  | 0, acc, rows, rest, r, h => by rw [(rows_end h).2.2]; rfl
  | n + 1, acc, rows, rest, r, h => by
    have key : ∀ {α : Type} {a : α} {last : Bool} {f : List Y → Nat → Dg → List Y → Option α} {r : List Y}, rowP last f r = some a → ∃ bd size d r', f bd size d r' = some a := by
      intro α a last f r h
      have h3 : ∀ {bd : List Y} {r : List Y}, (pNum fun size => pRep pByte 32 fun xs => f bd size (fun i => xs.getD i 0)) r = some a → ∃ bd size d r', f bd size d r' = some a := by
        intro bd r h
        obtain ⟨size, r2, _, _, h⟩ := num_inv h
        have h4 : ∀ (m : Nat) (K : List Y → List Y → Option α) (r : List Y), pRep pByte m K r = some a → ∃ xs r', K xs r' = some a := by
          intro m
          induction m with
          | zero => intro K r h; exact ⟨[], r, h⟩
          | succ m ih =>
            intro K r h
            obtain ⟨x, r', _, h⟩ := byte_inv h
            obtain ⟨xs, r2, h⟩ := ih _ _ h
            exact ⟨_, _, h⟩
        obtain ⟨xs, r3, h⟩ := h4 _ _ _ h
        exact ⟨_, _, _, _, h⟩
      unfold rowP at h
      cases last with
      | true => exact h3 h
      | false =>
        simp only [Bool.false_eq_true, if_false] at h
        obtain ⟨bd, r', _, _, h⟩ := str_inv h
        exact h3 h
    obtain ⟨bd, size, d, r', h2⟩ := key (rows_some h)
    split at h2
    · have := rowsP_len h2
      rw [this, List.length_append]; simp; omega
    · cases h2
theorem beg_len {root : Nat → Y} {m : Meta} {b : List Y} {rows : List RowT} {ix : List Y} (h : beginT root m b = some (rows, ix)) : 2 ≤ rows.length := by
  obtain ⟨y, _, hp⟩ := (beg_inv h).opn
  obtain ⟨n, r, _, _, hp⟩ := num_inv hp
  split at hp
  · have := rowsP_len hp
    simp at this; omega
  · cases hp
theorem get_inv {root : Nat → Y} {m : Meta} {b : List Y} {user : ByteArray} {seq : BitVec 64} {R : Option Ent} (h : getT root m b user seq = some R) :
    ∃ rows ix f, beginT root m b = some (rows, ix) ∧ wholeT root (hdM m) (rows.getD (rows.length - 1) rowZ) 1 = some f ∧ (mayB f user = false → R = none) ∧
      (mayB f user = true → getG root (hdM m) rows user seq (rows.length - 1 - fromT user (rows.take (rows.length - 1))) (fromT user (rows.take (rows.length - 1))) = some R) := by
  unfold getT at h
  cases hb : beginT root m b with
  | none => rw [hb] at h; cases h
  | some p =>
    obtain ⟨rows, ix⟩ := p
    rw [hb, Option.bind_some] at h
    simp only at h
    cases hf : wholeT root (hdM m) (rows.getD (rows.length - 1) rowZ) 1 with
    | none => rw [hf] at h; cases h
    | some f =>
      rw [hf, Option.bind_some] at h
      refine ⟨rows, ix, f, rfl, hf, fun q => ?_, fun q => ?_⟩
      · rw [if_pos q] at h; exact (Option.some.inj h).symm
      · rw [if_neg (by rw [q]; simp)] at h; exact h
theorem gg_step {root : Nat → Y} {hd : Hd} {rows : List RowT} {user : ByteArray} {seq : BitVec 64} {R : Option Ent} {n j : Nat} (hj : j < n) (h : getG root hd rows user seq (n - j) j = some R) :
    ∃ l, entsT root hd rows j = some l ∧ (l.find? (hitE user seq) = none → getG root hd rows user seq (n - (j + 1)) (j + 1) = some R) ∧ (∀ e, l.find? (hitE user seq) = some e → R = if e.user = user then some e else none) := by
  obtain ⟨m, hm⟩ : ∃ m, n - j = m + 1 := ⟨n - j - 1, by omega⟩
  rw [hm, getG] at h
  cases hl : entsT root hd rows j with
  | none => rw [hl] at h; cases h
  | some l =>
    rw [hl, Option.bind_some] at h
    refine ⟨l, rfl, fun q => ?_, fun e q => ?_⟩
    · have e1 : firstE l user seq = none := q
      rw [e1] at h
      rw [show n - (j + 1) = m by omega]; exact h
    · have e1 : firstE l user seq = some e := q
      rw [e1] at h
      simp only at h
      split at h
      · rename_i he; rw [if_pos he]; exact (Option.some.inj h).symm
      · rename_i he; rw [if_neg he]; exact (Option.some.inj h).symm
theorem outB_ge (every : Nat) (l : List Ent) : ∀ k, k ≤ (outB every l k).length
  | 0 => Nat.zero_le _
  | k + 1 => by
    have := outB_ge every l k
    have h1 := num_pos (comB (lastB l k) (keyE (l.getD k Ent.zero)) (k % every == 0))
    unfold outB entB
    simp only [List.length_append]; omega
theorem read_len {y : List Y} {l : List Ent} (h : readB y = (l, 0)) : l.length ≤ y.length := by
  unfold readB at h
  split at h
  · rename_i l' hp
    simp only [Prod.mk.injEq, and_true] at h
    subst h
    obtain ⟨a, r, _, _, hp⟩ := num_inv hp
    obtain ⟨n, r2, _, _, hp⟩ := num_inv hp
    split at hp
    · cases he : entsP n [] [] r2 with
      | none => rw [he] at hp; cases hp
      | some l2 =>
        rw [he, Option.bind_some] at hp
        split at hp
        · rename_i hb
          simp only [Option.some.injEq] at hp
          subst hp
          have hlen : y = blkL (a : Int).toNat l2 := by
            unfold buildB at hb
            split at hb
            · simp only [Prod.mk.injEq] at hb; exact absurd hb.2 (by decide)
            · split at hb
              · simp only [Prod.mk.injEq] at hb; exact absurd hb.2 (by decide)
              · simp only [Prod.mk.injEq] at hb; exact hb.1.symm
          have := outB_ge (a : Int).toNat l2 l2.length
          rw [hlen]; unfold blkL
          rw [List.length_append, List.length_append]; omega
        · cases hp
    · cases hp
  · simp only [Prod.mk.injEq] at h; exact absurd h.2 (by decide)
theorem gi_start {root : Nat → Y} {hd : Hd} {ps L : List (RowT × Sh)} {user : ByteArray} {seq : BitVec 64} {R : Option Ent} (hpl : 1 ≤ ps.length) (eL : L = ps.take (ps.length - 1))
    (h : getG root hd (ps.map (·.1)) user seq (ps.length - 1 - fromT user ((ps.map (·.1)).take (ps.length - 1))) (fromT user ((ps.map (·.1)).take (ps.length - 1))) = some R) :
    (idxZ (notLt user) L = -1 ∧ R = none) ∨ (0 ≤ idxZ (notLt user) L ∧ idxZ (notLt user) L ≤ ((ps.length - 1 : Nat) : Int) ∧ getG root hd (ps.map (·.1)) user seq (ps.length - 1 - (idxZ (notLt user) L).toNat) (idxZ (notLt user) L).toNat = some R) := by
  have e1 : (ps.map (·.1)).take (ps.length - 1) = L.map (·.1) := by rw [eL, List.map_take]
  have e2 : L.length = ps.length - 1 := by rw [eL, List.length_take]; omega
  rw [e1] at h
  have hi := from_idx (user := user) L
  have hle := from_le (user := user) (L.map (·.1))
  rw [List.length_map] at hle
  split at hi
  · rename_i q
    refine .inr ⟨by omega, by omega, ?_⟩
    rw [hi, Int.toNat_natCast]; exact h
  · rename_i q
    refine .inl ⟨hi, ?_⟩
    rw [show ps.length - 1 - fromT user (L.map (·.1)) = 0 by omega, getG] at h
    exact (Option.some.inj h).symm
theorem gi_none {user : ByteArray} {seq : BitVec 64} {l : List Ent} (h : idxZ (hitE user seq) l < 0) : l.find? (hitE user seq) = none := by
  rcases find_idx (p := hitE user seq) l with ⟨_, h2⟩ | ⟨x, h1, _⟩
  · exact h2
  · omega
theorem gi_end {root : Nat → Y} {hd : Hd} {rows : List RowT} {user : ByteArray} {seq : BitVec 64} {R : Option Ent} {k : Int} {n : Nat} (hI : (k = -1 ∧ R = none) ∨ (0 ≤ k ∧ k ≤ (n : Int) ∧ getG root hd rows user seq (n - k.toNat) k.toNat = some R)) (hk : k < 0 ∨ (n : Int) ≤ k) : R = none := by
  rcases hI with ⟨_, h⟩ | ⟨h1, h2, h3⟩
  · exact h
  · rw [show n - k.toNat = 0 by omega, getG] at h3
    exact (Option.some.inj h3).symm
theorem all_inv {root : Nat → Y} {m : Meta} {b : List Y} {l : List Ent} (h : allT root m b = some l) :
    ∃ rows ix f, beginT root m b = some (rows, ix) ∧ wholeT root (hdM m) (rows.getD (rows.length - 1) rowZ) 1 = some f ∧ allG root (hdM m) rows (rows.length - 1) 0 [] = some l ∧ (risesE l = true ∧ (l.length : Int) = m.count ∧ (l = [] ∨ firstU l = m.min ∧ lastU l = m.max)) := by
  unfold allT at h
  cases hb : beginT root m b with
  | none => rw [hb] at h; cases h
  | some p =>
    obtain ⟨rows, ix⟩ := p
    rw [hb, Option.bind_some] at h
    simp only at h
    cases hf : wholeT root (hdM m) (rows.getD (rows.length - 1) rowZ) 1 with
    | none => rw [hf] at h; cases h
    | some f =>
      rw [hf, Option.bind_some] at h
      cases hg : allG root (hdM m) rows (rows.length - 1) 0 [] with
      | none => rw [hg] at h; cases h
      | some l2 =>
        rw [hg, Option.bind_some] at h
        split at h
        · rename_i hq
          obtain rfl := Option.some.inj h
          exact ⟨rows, ix, f, rfl, hf, hg, hq⟩
        · cases h
theorem ag_step {root : Nat → Y} {hd : Hd} {rows : List RowT} {l acc : List Ent} {n j : Nat} (hj : j < n) (h : allG root hd rows (n - j) j acc = some l) : ∃ x, entsT root hd rows j = some x ∧ allG root hd rows (n - (j + 1)) (j + 1) (acc ++ x) = some l := by
  obtain ⟨m, hm⟩ : ∃ m, n - j = m + 1 := ⟨n - j - 1, by omega⟩
  rw [hm, allG] at h
  cases hl : entsT root hd rows j with
  | none => rw [hl] at h; cases h
  | some x =>
    rw [hl, Option.bind_some] at h
    exact ⟨x, rfl, by rw [show n - (j + 1) = m by omega]; exact h⟩
theorem ag_end {root : Nat → Y} {hd : Hd} {rows : List RowT} {l acc : List Ent} {n k : Nat} (hk : n ≤ k) (h : allG root hd rows (n - k) k acc = some l) : acc = l := by
  rw [show n - k = 0 by omega, allG] at h
  exact Option.some.inj h
theorem ents_oneC {l : List Ent} : ∀ u ∈ l.flatMap Ent.cells, u.oneCell' = true := fun u hu => by
  obtain ⟨e, _, he⟩ := List.mem_flatMap.1 hu
  exact Ent.one e u he
theorem al_need {m : Meta} {l : List Ent} (h : risesE l = true ∧ (l.length : Int) = m.count ∧ (l = [] ∨ firstU l = m.min ∧ lastU l = m.max)) :
    (risesE l && ((l.length : Int) == m.count) && (((l.length : Int) == 0) || (((l.getD 0 Ent.zero).user.toList == m.min.toList) && ((l.getD (l.length - 1) Ent.zero).user.toList == m.max.toList)))) = true := by
  obtain ⟨h1, h2, h3⟩ := h
  rw [h1, h2]
  rcases h3 with rfl | ⟨h3, h4⟩
  · simp at h2 ⊢; exact .inl h2.symm
  · unfold firstU at h3; unfold lastU at h4
    rw [h3, h4]; simp
end Go.Tan

namespace Go.Tan
open Go.RowKit
def entKs : List CK := [.str, .int .u64, .int .u8, .str]
theorem ent_conf {e : Ent} (h1 : e.user.size ≤ 1000000) (h2 : e.value.size ≤ 1000000) : Conf entKs e.cells := by
  refine .cons (.str ?_) (Conf.u64 (Conf.u8 (.cons (.str ?_) .nil)))
  all_goals (simp only [maxLen]; omega)
theorem cells_inj {a b : Ent} (h : a.cells = b.cells) : a = b := by
  obtain ⟨u, s, k, v⟩ := a
  obtain ⟨u', s', k', v'⟩ := b
  simp only [Ent.cells, List.cons.injEq, Value.string.injEq, and_true] at h
  obtain ⟨h1, h2, h3, h4⟩ := h
  have e2 : s = s' := by
    injection h2 with _ h2
    exact BitVec.eq_of_toNat_eq (Int.ofNat_inj.1 h2)
  have e3 : k = k' := by
    injection h3 with _ h3
    exact BitVec.eq_of_toNat_eq (Int.ofNat_inj.1 h3)
  rw [h1, e2, e3, h4]
theorem ent_iff {a b : Ent} : B (a = b) = true ↔ a.cells = b.cells := ⟨fun h => by rw [B_iff.1 h], fun h => B_true (cells_inj h)⟩
theorem lg_step {l : List Ent} {k : Nat} {x : Ent} (h : l[k]? = some x) : wtE (l.take (k + 1)) = wtE (l.take k) + (x.user.size + x.value.size) := by
  have hk := (List.getElem?_eq_some_iff.1 h).1
  rw [wtE_snoc hk, List.getD_eq_getElem?_getD, h]; rfl
theorem lg_no {l : List Ent} {k : Nat} {x : Ent} (h : l[k]? = some x) (c : 300 ≤ k ∨ 50000 < wtE (l.take k) + (x.user.size + x.value.size)) : B (lightE l) = false := B_false fun q => by
  have hk := (List.getElem?_eq_some_iff.1 h).1
  rcases c with c | c
  · have := q.1; omega
  · rw [← lg_step h] at c
    have := wtE_take l (k + 1)
    have := q.2; omega
theorem lg_yes {l : List Ent} {k : Nat} (hk : l.length ≤ k) (h1 : k ≤ 300) (h2 : wtE (l.take k) ≤ 50000) : B (lightE l) = true := B_true ⟨by omega, by rwa [List.take_of_length_le hk] at h2⟩
theorem info_wf {t : Tab} (o : t.Ok) : t.info.wf := by
  have hb := o.bytes_le
  have hl := o.light
  have hu : ∀ i, (t.ents.getD i Ent.zero).user.size ≤ 50000 := fun i => by
    by_cases h : i < t.ents.length
    · have := wtE_at h; have := hl.2; omega
    · rw [List.getD_eq_getElem?_getD, List.getElem?_eq_none (by omega)]; decide
  have h1 := hu 0
  have h2 := hu (t.ents.length - 1)
  have a1 := t.h.level.isLt; have a2 := t.h.gen.isLt; have a3 := t.h.epoch.isLt; have a4 := t.h.num.isLt
  have b1 := hl.1
  refine ⟨⟨?_, ?_⟩, ⟨?_, ?_⟩, ⟨?_, ?_⟩, ?_, ?_, ⟨?_, ?_⟩, ⟨?_, ?_⟩, ⟨?_, ?_⟩, fun j hj => ?_⟩
  all_goals first
    | (show (firstU t.ents).size ≤ _; unfold firstU; omega)
    | (show (lastU t.ents).size ≤ _; unfold lastU; omega)
    | skip
  all_goals simp only [Tab.info]
  all_goals first
    | omega
    | (have := (rootD t.leaves j).isLt; omega)
theorem sb_len {a b : List Ent} (h : a.length ≠ b.length) : B (a = b) = false := B_false fun q => h (by rw [q])
theorem sb_no {a b : List Ent} {k : Nat} {x y : Ent} (hx : a[k]? = some x) (hy : b[k]? = some y) (h : ¬ x = y) : B (a = b) = false := B_false fun q => by rw [q, hy] at hx; exact h (Option.some.inj hx).symm
theorem sb_yes {a b : List Ent} {k : Nat} (hl : a.length = b.length) (hk : a.length ≤ k) (h : ∀ j, j < k → a[j]? = b[j]?) : B (a = b) = true := B_true (List.ext_getElem? fun j => by
  by_cases hj : j < k
  · exact h j hj
  · rw [List.getElem?_eq_none (by omega), List.getElem?_eq_none (by omega)])
theorem sb_step {a b : List Ent} {k : Nat} {x y : Ent} (h : ∀ j, j < k → a[j]? = b[j]?) (hx : a[k]? = some x) (hy : b[k]? = some y) (e : x = y) : ∀ j, j < k + 1 → a[j]? = b[j]? := fun j hj => by
  rcases Nat.lt_succ_iff_lt_or_eq.1 hj with h1 | rfl
  · exact h j h1
  · rw [hx, hy, e]
theorem sz_of {l : List Ent} (h : lightE l) : ∀ e ∈ l, e.user.size ≤ 1000000 ∧ e.value.size ≤ 1000000 := fun e he => by
  obtain ⟨i, hi, rfl⟩ := List.getElem_of_mem he
  have := usz h (List.getElem?_eq_getElem hi)
  omega
theorem meta0_wf : Meta.zero.wf := ⟨⟨by decide, by decide⟩, ⟨by decide, by decide⟩, ⟨by decide, by decide⟩, by decide, by decide, ⟨by decide, by decide⟩, ⟨by decide, by decide⟩, ⟨by decide, by decide⟩, fun _ _ => ⟨by show (0 : Int) ≤ 0; decide, by show (0 : Int) ≤ 255; decide⟩⟩
def bsA : ByteArray := ⟨#[97]⟩
def bsB : ByteArray := ⟨#[98]⟩
def entA : Ent := ⟨bsA, 5#64, 0#8, ByteArray.empty⟩
def hdT : Hd := ⟨2#8, 0#8, 0#64, 0#64, 0#64⟩
theorem sh_bad {root : Nat → Y} {L : List Y} {m : Meta} {er : Int} {blk every bits : Int} (h : BuildR root hdT [] blk every bits L m er) : er = 1 := by
  rcases h with h | h
  · exact h.2.2.2
  · exact absurd (.inr (.inr (.inl rfl))) h.1
theorem sh_nb : ¬ badT hdT [entA] 1 1 := by
  have h1 : rightE entA = true := by unfold rightE entA; simp only [ByteArray.toList_eq]; decide
  have h2 : risesE [entA] = true := risesE_yes (k := 0) (by simp) (fun i hi => absurd hi (Nat.not_lt_zero _))
  rintro (h | h | h | h | h | h | h | ⟨e, he, h⟩ | h)
  · exact h rfl
  · exact absurd h (by decide)
  · cases h
  · omega
  · omega
  · omega
  · omega
  · obtain rfl := List.mem_singleton.1 he; rw [h1] at h; cases h
  · rw [h2] at h; cases h
theorem sh_light : lightE [entA] := ⟨by decide, by decide⟩
theorem sh_good {root : Nat → Y} {bits : Int} {L : List Y} {m : Meta} {er : Int} (h : BuildR root hdT [entA] 1 1 bits L m er) :
    er = 0 ∧ m.wf ∧ L.length ≤ 150000 ∧ ∀ user seq, getT root m L user seq = some (tellE [entA] user seq) := by
  rcases h with h | ⟨hn, rfl, rfl, rfl⟩
  · exact absurd h.1 sh_nb
  · have g := good_of (root := root) (bits := bits) sh_nb sh_light
    exact ⟨rfl, info_wf g.ok, g.ok.bytes_le, fun user seq => by have e := tells g (user := user) (seq := seq); have e2 : (tabOf root hdT [entA] 1 1 bits).ents = [entA] := cuts_flat 1 [entA]; rw [e2] at e; exact e⟩
theorem sh_a1 : aheadE entA ⟨bsA, 9#64, 0, ByteArray.empty⟩ = false := by unfold aheadE lt; simp only [ByteArray.toList_eq]; decide
theorem sh_a2 : aheadE entA ⟨bsA, 4#64, 0, ByteArray.empty⟩ = true := by unfold aheadE lt; simp only [ByteArray.toList_eq]; decide
theorem sh_a3 : aheadE entA ⟨bsB, 9#64, 0, ByteArray.empty⟩ = true := by unfold aheadE lt; simp only [ByteArray.toList_eq]; decide
theorem sh_t1 : tellE [entA] bsA 9#64 = some entA := by unfold tellE firstE; rw [List.find?_cons, sh_a1]; simp [entA]
theorem sh_t2 : tellE [entA] bsA 4#64 = none := by unfold tellE firstE; rw [List.find?_cons, sh_a2]; rfl
theorem sh_t3 : tellE [entA] bsB 9#64 = none := by unfold tellE firstE; rw [List.find?_cons, sh_a3]; rfl
/-- what a table is made with -/
def ofT (h : Hd) (b e i : Int) : List Value := [V h.kind, V h.level, uv .u64 h.gen, uv .u64 h.epoch, uv .u64 h.num, .int .i64 b, .int .i64 e, .int .i64 i]
theorem of_len {root : Nat → Y} {h : Hd} {b e i : Int} : (ba 32 root ++ ofT h b e i).length = 40 := by rw [List.length_append, ba_len]; rfl
theorem of_h {root : Nat → Y} {h : Hd} {b e i : Int} : ((ba 32 root ++ ofT h b e i).drop 32).take 5 = [V h.kind, V h.level, uv .u64 h.gen, uv .u64 h.epoch, uv .u64 h.num] := by rw [List.drop_left' (ba_len _ _)]; rfl
theorem of_s {root : Nat → Y} {h : Hd} {b e i : Int} : ((ba 32 root ++ ofT h b e i).drop 37).take 3 = [.int .i64 b, .int .i64 e, .int .i64 i] := by
  have : (ba 32 root ++ ofT h b e i).drop 37 = (ofT h b e i).drop 5 := by
    rw [show (37 : Nat) = (ba 32 root).length + 5 by rw [ba_len], List.drop_append]; simp
  rw [this]; rfl
section
variable {root : Nat → Y} {h : Hd} {l : List Ent} {blk every bits er : Int} {L : List Y} {m : Meta}
theorem tb_all2 (hB : BuildR root h l blk every bits L m er) (hl : lightE l) (h0 : er = 0) :
    m.wf ∧ L.length ≤ 150000 ∧ allT root m L = some l ∧ m.size = (L.length : Int) ∧ m.count = (l.length : Int) := by
  rcases hB with hB | ⟨hn, rfl, rfl, _⟩
  · have := hB.2.2.2; omega
  · have g := good_of (root := root) (bits := bits) hn hl
    have e2 : (tabOf root h l blk every bits).ents = l := cuts_flat blk l
    have e := all_built g
    rw [e2] at e
    exact ⟨info_wf g.ok, g.ok.bytes_le, e, rfl, by show ((tabOf root h l blk every bits).ents.length : Int) = _; rw [e2]⟩
theorem tb_err (hB : BuildR root h l blk every bits L m er) (h0 : ¬ er = 0) : L = [] ∧ m = Meta.zero := by
  rcases hB with hB | hB
  · exact ⟨hB.2.1, hB.2.2.1⟩
  · exact absurd hB.2.2.2 h0
end
end Go.Tan

namespace Go.Proofs.YtbdnclpopappeaaDoor
set_option linter.unusedSimpArgs false
set_option linter.unusedVariables false
open Go.Tan Go.RowKit
set_option maxRecDepth 100000
namespace Fx
theorem co126 : Tryd.prog.cellsOf 126 = 1 := by kernel_rfl
theorem co162 : Tryd.prog.cellsOf 162 = 64 := by kernel_rfl
theorem co26 : Tryd.prog.cellsOf 26 = 5 := by kernel_rfl
theorem co5 : Tryd.prog.cellsOf 5 = 1 := by kernel_rfl
theorem co24 : Tryd.prog.cellsOf 24 = 1 := by kernel_rfl
theorem co28 : Tryd.prog.cellsOf 28 = 3 := by kernel_rfl
theorem co3 : Tryd.prog.cellsOf 3 = 1 := by kernel_rfl
theorem co43 : Tryd.prog.cellsOf 43 = 4 := by kernel_rfl
theorem co9 : Tryd.prog.cellsOf 9 = 1 := by kernel_rfl
theorem by43 : Tryd.prog.bytesOf 43 = 48 := by kernel_rfl
theorem co30 : Tryd.prog.cellsOf 30 = 40 := by kernel_rfl
theorem co23 : Tryd.prog.cellsOf 23 = 32 := by kernel_rfl
end Fx
theorem gC : Tryd.prog.globalNamed "tantalus/sha.constants" = some 0 := by kernel_rfl
theorem gCT : (Tryd.prog.globals[0]?).map (·.type) = some 162 := by kernel_rfl
def kInts : List Int := [1116352408, 1899447441, 3049323471, 3921009573, 961987163, 1508970993, 2453635748, 2870763221, 3624381080, 310598401, 607225278, 1426881987, 1925078388, 2162078206, 2614888103, 3248222580, 3835390401, 4022224774, 264347078, 604807628, 770255983, 1249150122, 1555081692, 1996064986, 2554220882, 2821834349, 2952996808, 3210313671, 3336571891, 3584528711, 113926993, 338241895, 666307205, 773529912, 1294757372, 1396182291, 1695183700, 1986661051, 2177026350, 2456956037, 2730485921, 2820302411, 3259730800, 3345764771, 3516065817, 3600352804, 4094571909, 275423344, 430227734, 506948616, 659060556, 883997877, 958139571, 1322822218, 1537002063, 1747873779, 1955562222, 2024104815, 2227730452, 2361852424, 2428436474, 2756734187, 3204031479, 3329325298]
theorem kInts_at : ∀ j, j < 64 → kInts.getD j 0 = ((kW j).toNat : Int) := by decide
theorem tabC {W : World} {rest : List (String × DataW Unit)} (h : laidMet Tryd.prog (("tantalus/sha.constants", Rows.laid_tantalus_sha_constants) :: rest) W) : RdNP (fun b => W.heap[b]?) 0 0 (wa 64 kW) :=
  tab_rd (Lib.tabIs_of_head (zs := kInts) (rest := rest) gC gCT Tryd.underlying162 Tryd.underlying126 Fx.co126 Fx.co162 h) gC rfl kInts_at
def kCells : Array Value := #[.int .u32 1116352408, .int .u32 1899447441, .int .u32 3049323471, .int .u32 3921009573, .int .u32 961987163, .int .u32 1508970993, .int .u32 2453635748, .int .u32 2870763221, .int .u32 3624381080, .int .u32 310598401, .int .u32 607225278, .int .u32 1426881987, .int .u32 1925078388, .int .u32 2162078206, .int .u32 2614888103, .int .u32 3248222580, .int .u32 3835390401, .int .u32 4022224774, .int .u32 264347078, .int .u32 604807628, .int .u32 770255983, .int .u32 1249150122, .int .u32 1555081692, .int .u32 1996064986, .int .u32 2554220882, .int .u32 2821834349, .int .u32 2952996808, .int .u32 3210313671, .int .u32 3336571891, .int .u32 3584528711, .int .u32 113926993, .int .u32 338241895, .int .u32 666307205, .int .u32 773529912, .int .u32 1294757372, .int .u32 1396182291, .int .u32 1695183700, .int .u32 1986661051, .int .u32 2177026350, .int .u32 2456956037, .int .u32 2730485921, .int .u32 2820302411, .int .u32 3259730800, .int .u32 3345764771, .int .u32 3516065817, .int .u32 3600352804, .int .u32 4094571909, .int .u32 275423344, .int .u32 430227734, .int .u32 506948616, .int .u32 659060556, .int .u32 883997877, .int .u32 958139571, .int .u32 1322822218, .int .u32 1537002063, .int .u32 1747873779, .int .u32 1955562222, .int .u32 2024104815, .int .u32 2227730452, .int .u32 2361852424, .int .u32 2428436474, .int .u32 2756734187, .int .u32 3204031479, .int .u32 3329325298]
def setO : Obj → Obj
  | .cells _ t frozen => .cells kCells t frozen
  | o => o
/-- a world for the witnesses: the settled one, the tables as they are laid -/
noncomputable def laidWorld (os : Os) : World :=
  { World.holding Tryd.prog os ⟨#[], #[], []⟩ with heap := (World.holding Tryd.prog os ⟨#[], #[], []⟩).heap.modify 0 setO }
section
variable {H : Type} {R : Nat} {enc : TypeId × Value → H} {W : World} {cs : List Value}
theorem split5 (hl : cs.length = 5) {a b c d e : Value} (h0 : (cs.drop 0).take 1 = [a]) (h1 : (cs.drop 1).take 1 = [b]) (h2 : (cs.drop 2).take 1 = [c]) (h3 : (cs.drop 3).take 1 = [d]) (h4 : (cs.drop 4).take 1 = [e]) : cs = [a, b, c, d, e] := by
  match cs, hl with
  | [p, q, r, s, t], _ => simp at h0 h1 h2 h3 h4; rw [h0, h1, h2, h3, h4]
theorem split4 (hl : cs.length = 4) {a b c d : Value} (h0 : (cs.drop 0).take 1 = [a]) (h1 : (cs.drop 1).take 1 = [b]) (h2 : (cs.drop 2).take 1 = [c]) (h3 : (cs.drop 3).take 1 = [d]) : cs = [a, b, c, d] := by
  match cs, hl with
  | [p, q, r, s], _ => simp at h0 h1 h2 h3; rw [h0, h1, h2, h3]
theorem split3 (hl : cs.length = 3) {a b c : Value} (h0 : (cs.drop 0).take 1 = [a]) (h1 : (cs.drop 1).take 1 = [b]) (h2 : (cs.drop 2).take 1 = [c]) : cs = [a, b, c] := by
  match cs, hl with
  | [p, q, r], _ => simp at h0 h1 h2; rw [h0, h1, h2]
theorem splitO (hl : cs.length = 40) {a b c : List Value} (h0 : (cs.drop 0).take 32 = a) (h1 : (cs.drop 32).take 5 = b) (h2 : (cs.drop 37).take 3 = c) : cs = a ++ (b ++ c) := by
  rw [← h0, ← h1, ← h2, List.drop_zero]
  have e1 : cs.drop 37 = (cs.drop 32).drop 5 := by rw [List.drop_drop]
  rw [e1, List.take_of_length_le (l := (cs.drop 32).drop 5) (by simp [hl]), List.take_append_drop, List.take_append_drop]
theorem head_of (h : Rg R enc Tryd.prog W 26 cs) : ∃ hd : Hd, cs = [V hd.kind, V hd.level, uv .u64 hd.gen, uv .u64 hd.epoch, uv .u64 hd.num] := by
  have hl := h.len Tryd.underlying26
  rw [Fx.co26] at hl
  obtain ⟨a, ha⟩ := (h.fld Tryd.underlying26 0 5 0 rfl Fx.co5).uw rfl Tryd.underlying5
  obtain ⟨b, hb⟩ := (h.fld Tryd.underlying26 1 5 1 rfl Fx.co5).uw rfl Tryd.underlying5
  obtain ⟨c, hc⟩ := (h.fld Tryd.underlying26 2 24 2 rfl Fx.co24).uw rfl Tryd.underlying24
  obtain ⟨d, hd⟩ := (h.fld Tryd.underlying26 3 24 3 rfl Fx.co24).uw rfl Tryd.underlying24
  obtain ⟨e, he⟩ := (h.fld Tryd.underlying26 4 24 4 rfl Fx.co24).uw rfl Tryd.underlying24
  exact ⟨⟨a, b, c, d, e⟩, split5 hl ha hb hc hd he⟩
theorem shape_of (h : Rg R enc Tryd.prog W 28 cs) : ∃ a b c : Int, cs = [.int .i64 a, .int .i64 b, .int .i64 c] := by
  have hl := h.len Tryd.underlying28
  rw [Fx.co28] at hl
  obtain ⟨a, ha, _⟩ := (h.fld Tryd.underlying28 0 3 0 rfl Fx.co3).int Tryd.underlying3
  obtain ⟨b, hb, _⟩ := (h.fld Tryd.underlying28 1 3 1 rfl Fx.co3).int Tryd.underlying3
  obtain ⟨c, hc, _⟩ := (h.fld Tryd.underlying28 2 3 2 rfl Fx.co3).int Tryd.underlying3
  exact ⟨a, b, c, split3 hl ha hb hc⟩
theorem ent_of (h : Rg R enc Tryd.prog W 43 cs) : ∃ e : Ent, cs = e.cells ∧ e.user.size ≤ R ∧ e.value.size ≤ R := by
  have hl := h.len Tryd.underlying43
  rw [Fx.co43] at hl
  obtain ⟨a, ha, wa⟩ := (h.fld Tryd.underlying43 0 9 0 rfl Fx.co9).str Tryd.underlying9
  obtain ⟨b, hb⟩ := (h.fld Tryd.underlying43 1 24 1 rfl Fx.co24).uw rfl Tryd.underlying24
  obtain ⟨c, hc⟩ := (h.fld Tryd.underlying43 2 5 2 rfl Fx.co5).uw rfl Tryd.underlying5
  obtain ⟨d, hd, wd⟩ := (h.fld Tryd.underlying43 3 9 3 rfl Fx.co9).str Tryd.underlying9
  exact ⟨⟨a, b, c, d⟩, split4 hl ha hb hc hd, wa, wd⟩
theorem ents_of (hR : R ≤ 140737488351232) (h : Rg R enc Tryd.prog W 31 cs) : ∃ (hd : Sh) (l : List Ent), cs = [hd.val l.length] ∧ SlR (fun b => W.heap[b]?) 4 Ent.cells hd l := by
  obtain ⟨hd, l, h1, h2, _⟩ := h.sl Ent.cells (fun e => e.user.size ≤ R ∧ e.value.size ≤ R) Tryd.underlying31 Fx.co43 (by decide) Fx.by43 (fun cs' h' => ent_of h')
  exact ⟨hd, l, h1, h2⟩
theorem of17_of (h : Rg R enc Tryd.prog W 30 cs) : ∃ (root : Nat → Y) (hd : Hd) (a b c : Int), cs = ba 32 root ++ ofT hd a b c := by
  have hl := h.len Tryd.underlying30
  rw [Fx.co30] at hl
  obtain ⟨r, hr⟩ := (h.fld Tryd.underlying30 0 23 0 rfl Fx.co23).ba Tryd.underlying23 Tryd.underlying5 Fx.co5 Fx.co23
  obtain ⟨hd, hh⟩ := head_of (h.fld Tryd.underlying30 1 26 32 rfl Fx.co26)
  obtain ⟨a, b, c, hs⟩ := shape_of (h.fld Tryd.underlying30 2 28 37 rfl Fx.co28)
  exact ⟨r, hd, a, b, c, splitO hl hr hh hs⟩
theorem agg_of {t : TypeId} {fs : Array Field} {base : Nat} {v : Value} (ht : Tryd.prog.underlying t = some (.struct fs)) (h : Value.okWide Tryd.prog W .any base t v) {l : List Value} (hl : v.cells.toList = l) : v = .agg l.toArray := by
  unfold Value.okWide at h
  rw [ht] at h
  obtain ⟨c, rfl, _⟩ := h
  rw [← hl]; rfl
theorem one_of {v u : Value} (h : v.cells.toList = [u]) (hu : u.oneCell' = true) (hn : ∀ c, v ≠ .agg c) : v = u := by
  cases v <;> first | (exact absurd rfl (hn _)) | (simp [Value.cells] at h; exact h)
theorem sl_of {t e : TypeId} {base : Nat} {v u : Value} (ht : Tryd.prog.underlying t = some (.slice e)) (h : Value.okWide Tryd.prog W .any base t v) (hl : v.cells.toList = [u]) (hu : u.oneCell' = true) : v = u := by
  refine one_of hl hu fun c hc => ?_
  subst hc
  unfold Value.okWide at h
  rw [ht] at h
  simp [Cell.okWide, ht, Cell.ok] at h
end
theorem tanOwn : ownKnob Tryd.prog.godebug = none := by kernel_rfl
theorem tanLaid : laidOutB Tryd.prog = true := by kernel_rfl

end Go.Proofs.YtbdnclpopappeaaDoor

namespace Go.Tan
open Go.RowKit
end Go.Tan

namespace Go.Tan
open Go.RowKit
section
variable {mc : Md} {P : Program} {n : Fm} {l : List Oper} {K : Env → PM → Mem → Prop} {i : Nat} {σ : List Nat} {ρ : Env} {G : PM} {μ : Mem}
variable {d t : Nat} {p : String} {af : Array Edge}
end

/-! ## What is deferred -/
theorem upon_mono {P : Program} {o : Oper} {a : Act} {next next' : Act → World → Prop} {Q Q' : Exit → Act → World → Prop} (h1 : ∀ a w, next a w → next' a w) (h2 : ∀ ch a w, Q (.panic ch) a w → Q' (.panic ch) a w) (h3 : LetsOut Q → LetsOut Q') :
    ∀ r, o.upon P a next Q r → o.upon P a next' Q' r := by
  intro r h
  unfold Oper.upon at h ⊢
  split at h
  · exact h1 _ _ h
  · exact h1 _ _ h
  · exact h1 _ _ h
  · refine h.mono fun e w' he => ?_
    cases e with
    | returned v => exact h1 _ _ he
    | panicked ch => exact h2 _ _ _ he
    | outgrown => exact h3 he
  · exact h.mono fun v w' he => h1 _ _ he
  · exact h2 _ _ _ h
  · exact h.elim
theorem wpOps_append {P : Program} {ops : Array Oper} {Q : Exit → Act → World → Prop} {σ2 : List Nat} : ∀ {σ1 : List Nat} {a : Act} {w : World}, wpOps P ops (Exit.then (wpOps P ops Q σ2) Q) σ1 a w → wpOps P ops Q (σ1 ++ σ2) a w
  | [], a, w, h => h
  | i :: σ1, a, w, h => by
    simp only [wpOps, List.cons_append] at h ⊢
    cases ho : ops[i]? with
    | none => simp only [ho] at h; exact wpOps_append h
    | some o =>
      simp only [ho] at h
      dsimp only
      split at h
      · rename_i hw
        rw [if_pos hw]
        rcases h with h | ⟨h, hl⟩
        · exact .inl (upon_mono (fun a w h => wpOps_append h) (fun ch a w h => h) (fun h => h) _ h)
        · exact .inr ⟨h, hl⟩
      · rename_i hw
        rw [if_neg hw]; exact wpOps_append h
def Cx.dfr (X : Cx) (d : Deferred) (die1 : List PanicEntry → Env → PM → Mem → Prop)
    (ok1 : ∀ ch ρ G μ a w, die1 ch ρ G μ → Ag ⟨X.n.n, [d], die1⟩ ρ a → Tr X.G0 X.K0 X.w0 G μ w → Leaves X.P X.fn a.tmps (RR X.post X.die X.G0 X.K0 X.w0) a.defers (.panicking ch) w) : Cx :=
  ⟨X.P, X.fn, ⟨X.n.n, [d], die1⟩, X.G0, X.K0, X.w0, X.post, X.die, ok1⟩
theorem Qof_same {X Y : Cx} (h1 : X.P = Y.P) (h2 : X.fn = Y.fn) (h3 : X.R = Y.R) : ∀ k, Qof X k = Qof Y k
  | [] => by simp only [Qof, h1, h2, h3]
  | .code c :: k => by simp only [Qof, Qof_same h1 h2 h3 k, h1]
  | .blk id :: k => by simp only [Qof, Qof_same h1 h2 h3 k]
  | .lp I :: k => by simp only [Qof, Qof_same h1 h2 h3 k]
structure DefOp (P : Program) (n : Fm) (l : List Oper) (j : Nat) (d : Deferred) (ρ : Env) : Prop where
  of : ∃ o, nth l j = some o ∧ o.guard = none ∧ o.dst = none ∧ ∀ a w, Ag n ρ a → (execOp a.eval o).run P w = .ok (.defer d) w
theorem Wk.defer {X : Cx} {k : List KI} {ρ : Env} {G : PM} {μ : Mem} {id : Nat} {l : List Oper} (σ1 : List Nat) (j : Nat) (d : Deferred) (die1 : List PanicEntry → Env → PM → Mem → Prop)
    (ok1 : ∀ ch ρ G μ a w, die1 ch ρ G μ → Ag ⟨X.n.n, [d], die1⟩ ρ a → Tr X.G0 X.K0 X.w0 G μ w → Leaves X.P X.fn a.tmps (RR X.post X.die X.G0 X.K0 X.w0) a.defers (.panicking ch) w)
    (hσ : List.range l.length = σ1 ++ [j]) (hds : dstAll X.n l = true) (h0 : X.n.ds = [])
    (h : Wo false ⟨false, false⟩ X.P X.n l (fun ρ G μ => DefOp X.P X.n l j d ρ ∧ We (X.dfr d die1 ok1) .normal k ρ G μ) σ1 ρ G μ) : Wk X (.region id l.toArray false) k ρ G μ := by
  refine ⟨fun a w ha ht => wp_region ?_⟩
  have hr : List.range l.toArray.size = σ1 ++ [j] := by simpa using hσ
  rw [hr]
  refine wpOps_append ?_
  refine Wo.run (Q := Exit.then (wpOps X.P l.toArray (Qof X k) [j]) (Qof X k)) (dstAll_ok hds) (fun _ => Qof_panic X k) (fun ρ G μ hK a w ha ht => ?_) _ _ _ _ a w h ha ht
  obtain ⟨⟨o, ho, hg, hdst, hrun⟩, hwe⟩ := hK
  show wpOps X.P l.toArray (Qof X k) [j] a w
  simp only [wpOps, nth_eq, ho]
  rw [if_pos (by simp [Region.wanted, hg])]
  refine .inl ?_
  unfold Oper.wp
  rw [hrun a w ha]
  simp only [Oper.upon, wpOps, hdst, Act.put]
  have := hwe.out { a with defers := d :: a.defers } w ⟨ha.size, by show d :: a.defers = [d]; rw [ha.defers, h0], ha.get⟩ ht
  rwa [Qof_same (X := X.dfr d die1 ok1) (Y := X) rfl rfl rfl k] at this
theorem We.finD {X : Cx} {ρ : Env} {G : PM} {μ : Mem} (h : ∀ a w, Ag X.n ρ a → Tr X.G0 X.K0 X.w0 G μ w → Leaves X.P X.fn a.tmps X.R X.n.ds .returning w) : We X .ret [] ρ G μ :=
  ⟨fun a w ha ht => by
    show Leaves X.P X.fn a.tmps X.R a.defers .returning w
    rw [ha.defers]; exact h a w ha ht⟩
def ifT (P : Program) (T : TypeId) : Bool := match P.underlying T with | some (.interface _) => true | _ => false
theorem ifT_some {P : Program} {T : TypeId} (h : ifT P T = true) : ∃ q, P.underlying T = some (.interface q) := by
  unfold ifT at h
  split at h
  · rename_i q hq; exact ⟨q, hq⟩
  · cases h
/-- a deferred call of a function, that is known to come back where nothing is wrong -/
def dfc (f : FuncId) (args : List Value) : Deferred := { target := .fn (.func f) #[], args := args.toArray }
theorem We.finR {X : Cx} {ρ : Env} {G : PM} {μ μ' : Mem} {vs : List Value} {rs : List ResultVar} {f : FuncId} {args : List Value} (hf : goFn X.P f = true) (hds : X.n.ds = [dfc f args])
    (hq : ∀ w, CallsD X.P f args.toArray .returning w (fun e u' w' => (∃ v, e = .returned v) ∧ u' = .returning ∧ w' = w)) (hr : X.fn.results = rs.toArray) (h : Rs X.P ρ G μ rs vs) (hM : MSub μ' μ) (hp : X.post G μ' (tup vs)) : We X .ret [] ρ G μ :=
  We.finD fun a w ha ht => by
    rw [hds]
    refine leaves_cons (by simp) (f := f) (args := args.toArray) (by simp [invoke, run_callFunc hf]) ((hq w).mono ?_)
    rintro e u' w' ⟨⟨v, rfl⟩, rfl, rfl⟩
    exact ⟨_, results_run (by rw [hr]; exact h) ha ht.sat, .inl ⟨_, G, μ', rfl, hM.tr ht, hp⟩⟩
/-- a statement that defers one call -/
theorem wk_dfr {X : Cx} {k : List KI} {ρ : Env} {G : PM} {μ : Mem} {id : Nat} {l : List Oper} {f : FuncId} {x : Operand} {tys : Array TypeId} {v : Value} {t : Nat} {p : String} {af : Array Edge}
    (hl : l = [⟨none, .defer { callee := .value (.func f), args := #[x], argTypes := tys }, t, p, af, none⟩]) (h0 : X.n.ds = []) (hx : ev ρ x = some (true, v))
    (h : We (X.dfr (dfc f [v]) (fun _ _ _ _ => False) (fun _ _ _ _ _ _ hq => hq.elim)) .normal k ρ G μ) : Wk X (.region id l.toArray false) k ρ G μ := by
  subst hl
  refine Wk.defer [] 0 (dfc f [v]) (fun _ _ _ _ => False) (fun _ _ _ _ _ _ hq => hq.elim) rfl rfl h0 (.nil ⟨⟨_, rfl, rfl, rfl, fun a w ha => ?_⟩, h⟩)
  have hv : a.eval x = v := ha.eval hx rfl
  have hfn : a.eval (.func f) = .func (.func f) #[] #[] := rfl
  simp [execOp, resolve, Deferred.ofValue, hv, hfn, dfc]
end Go.Tan

namespace Go.Proofs.YtbdnclpopappeaaDoor
set_option linter.unusedSimpArgs false
set_option linter.unusedVariables false
open Go.Tan Go.RowKit


end Go.Proofs.YtbdnclpopappeaaDoor

namespace Go.Proofs.YtbdnclpopappeaaDoor
set_option linter.unusedSimpArgs false
set_option linter.unusedVariables false
open Go.Tan Go.RowKit

namespace FxTbA
theorem st9 : strT Tryd.prog 9 = true := by kernel_rfl
theorem ag24 : aggN Tryd.prog 24 = some none := by kernel_rfl
theorem ag5 : aggN Tryd.prog 5 = some none := by kernel_rfl
theorem mix : Tryd.prog.follows .mixedOrders = true := by kernel_rfl
theorem se36 : slE Tryd.prog 36 = some (5, 1, 1) := by kernel_rfl
theorem zv5 : (Tryd.prog.info? 5).bind (·.zero) = some (.int .u8 0) := by kernel_rfl
theorem bs36_9 : bsT Tryd.prog 36 9 = true := by kernel_rfl
theorem zq26 : zrL Tryd.prog 26 = some ([V 0#8, V 0#8, uv .u64 0#64, uv .u64 0#64, uv .u64 0#64]) := by kernel_rfl
theorem sz26 : szT Tryd.prog 26 = some 5 := by kernel_rfl
theorem ag26 : aggN Tryd.prog 26 = some (some 5) := by kernel_rfl
end FxTbA
namespace Fx
theorem fo43_0 : fOff Tryd.prog 43 0 = some 0 := by kernel_rfl
theorem ag9 : aggN Tryd.prog 9 = some none := by kernel_rfl
theorem fo43_3 : fOff Tryd.prog 43 3 = some 3 := by kernel_rfl
theorem fo43_1 : fOff Tryd.prog 43 1 = some 1 := by kernel_rfl
theorem fo43_2 : fOff Tryd.prog 43 2 = some 2 := by kernel_rfl
theorem se31 : slE Tryd.prog 31 = some (43, 4, 48) := by kernel_rfl
theorem sn31 : (slE Tryd.prog 31).isSome = true := by kernel_rfl
theorem ag43 : aggN Tryd.prog 43 = some (some 4) := by kernel_rfl
theorem go40 : goFn Tryd.prog 40 = true := by kernel_rfl
theorem go11 : goFn Tryd.prog 11 = true := by kernel_rfl
theorem zr43 : zrL Tryd.prog 43 = some ([.string ByteArray.empty, .int .u64 0, .int .u8 0, .string ByteArray.empty]) := by kernel_rfl
theorem sz43 : szT Tryd.prog 43 = some 4 := by kernel_rfl
theorem fo38_0 : fOff Tryd.prog 38 0 = some 0 := by kernel_rfl
theorem fo38_1 : fOff Tryd.prog 38 1 = some 1 := by kernel_rfl
theorem fo38_2 : fOff Tryd.prog 38 2 = some 2 := by kernel_rfl
theorem fo38_3 : fOff Tryd.prog 38 3 = some 3 := by kernel_rfl
theorem bp26_0_1_2_3_4 : bPl Tryd.prog 26 [0, 1, 2, 3, 4] = some ([V 0#8, V 0#8, uv .u64 0#64, uv .u64 0#64, uv .u64 0#64], [(0, 1), (1, 1), (2, 1), (3, 1), (4, 1)]) := by kernel_rfl
end Fx
theorem eRight_ok (e : Ent) (G : PM) : Ct Tryd.prog 11 ([e.val] : List Value).toArray G [] (fun _ μ' u => μ' = [] ∧ u = .bool (rightE e)) := by
  refine Ct.of Tryd.func11 rfl Tryd.ntmps11 rfl fun w0 hs0 => ?_
  refine .seq ?_
  refine Wk.rg [0, 1] rfl rfl ?_
  refine bx rfl (.u rfl) rfl ?_; intro b1
  refine asg rfl .no (.u rfl) ?_
  refine .nil ?_
  refine .code ?_
  refine .seq ?_
  refine .block ?_
  refine .seq ?_
  refine .seq ?_
  refine Wk.rg [0, 1, 2, 3, 4] rfl rfl ?_
  refine fz rfl .no Fx.fo43_0 (.u rfl) ?_
  refine ld rfl .no Fx.ag9 (.u rfl) (fun _ => Rd.own .here (by first | exact wap_f rfl | rfl)) ?_
  refine ls rfl .no FxTbA.st9 (.u rfl) ?_
  refine cp rfl .no (.u rfl) (.u rfl) rfl ?_
  refine asg rfl .no (.u rfl) ?_
  refine .nil ?_
  refine .code ?_
  refine .cond rfl (fun c1 => ?_) (fun c1 => ?_)
  · have c1k := c1
    try simp only [decide_eq_true_eq, decide_eq_false_iff_not, Int.not_lt, Int.not_le, gt_iff_lt, ge_iff_le, Bool.or_eq_true, Bool.and_eq_true, Bool.or_eq_false_iff, Bool.and_eq_false_iff, Bool.not_eq_true', Bool.not_eq_false', Int.toNat_natCast, bne_iff_ne, beq_iff_eq, bne_eq_false_iff_eq, beq_eq_false_iff_ne, ne_eq] at c1
    refine .skip ?_
    refine .code ?_
    refine Wk.condT rfl c1k ?_
    refine .seq ?_
    refine Wk.rg [0] rfl rfl ?_
    refine asg rfl .no (.u rfl) ?_
    refine .nil ?_
    refine .code ?_
    refine .ret ?_
    refine We.fin0 Tryd.results11 (.tmp rfl .nil) ?_
    exact ⟨rfl, congrArg Value.bool (eR1 c1).symm⟩
  · have c1k := c1
    try simp only [decide_eq_true_eq, decide_eq_false_iff_not, Int.not_lt, Int.not_le, gt_iff_lt, ge_iff_le, Bool.or_eq_true, Bool.and_eq_true, Bool.or_eq_false_iff, Bool.and_eq_false_iff, Bool.not_eq_true', Bool.not_eq_false', Int.toNat_natCast, bne_iff_ne, beq_iff_eq, bne_eq_false_iff_eq, beq_eq_false_iff_ne, ne_eq] at c1
    refine .seq ?_
    refine Wk.rg [0, 1, 2, 3, 4] rfl rfl ?_
    refine fz rfl .no Fx.fo43_3 (.u rfl) ?_
    refine ld rfl .no Fx.ag9 (.u rfl) (fun _ => Rd.own .here (by first | exact wap_f rfl | rfl)) ?_
    refine ls rfl .no FxTbA.st9 (.u rfl) ?_
    refine cp rfl .no (.u rfl) (.u rfl) rfl ?_
    refine asg rfl .no (.u rfl) ?_
    refine .nil ?_
    refine .code ?_
    refine .cond rfl (fun c2 => ?_) (fun c2 => ?_)
    · have c2k := c2
      try simp only [decide_eq_true_eq, decide_eq_false_iff_not, Int.not_lt, Int.not_le, gt_iff_lt, ge_iff_le, Bool.or_eq_true, Bool.and_eq_true, Bool.or_eq_false_iff, Bool.and_eq_false_iff, Bool.not_eq_true', Bool.not_eq_false', Int.toNat_natCast, bne_iff_ne, beq_iff_eq, bne_eq_false_iff_eq, beq_eq_false_iff_ne, ne_eq] at c2
      refine .skip ?_
      refine .code ?_
      refine Wk.condT rfl c2k ?_
      refine .seq ?_
      refine Wk.rg [0] rfl rfl ?_
      refine asg rfl .no (.u rfl) ?_
      refine .nil ?_
      refine .code ?_
      refine .ret ?_
      refine We.fin0 Tryd.results11 (.tmp rfl .nil) ?_
      exact ⟨rfl, congrArg Value.bool (eR2 c2).symm⟩
    · have c2k := c2
      try simp only [decide_eq_true_eq, decide_eq_false_iff_not, Int.not_lt, Int.not_le, gt_iff_lt, ge_iff_le, Bool.or_eq_true, Bool.and_eq_true, Bool.or_eq_false_iff, Bool.and_eq_false_iff, Bool.not_eq_true', Bool.not_eq_false', Int.toNat_natCast, bne_iff_ne, beq_iff_eq, bne_eq_false_iff_eq, beq_eq_false_iff_ne, ne_eq] at c2
      refine Wk.rg [0, 1, 2, 3] rfl rfl ?_
      refine fz rfl .no Fx.fo43_1 (.u rfl) ?_
      refine ld rfl .no FxTbA.ag24 (.u rfl) (fun _ => Rd.own .here (by first | exact wap_f rfl | rfl)) ?_
      refine cp rfl .no (.u rfl) (.u rfl) rfl ?_
      refine asg rfl .no (.u rfl) ?_
      refine .nil ?_
      refine .code ?_
      refine .cond rfl (fun c3 => ?_) (fun c3 => ?_)
      · have c3k := c3
        try simp only [decide_eq_true_eq, decide_eq_false_iff_not, Int.not_lt, Int.not_le, gt_iff_lt, ge_iff_le, Bool.or_eq_true, Bool.and_eq_true, Bool.or_eq_false_iff, Bool.and_eq_false_iff, Bool.not_eq_true', Bool.not_eq_false', Int.toNat_natCast, bne_iff_ne, beq_iff_eq, bne_eq_false_iff_eq, beq_eq_false_iff_ne, ne_eq] at c3
        refine .seq ?_
        refine Wk.rg [0] rfl rfl ?_
        refine asg rfl .no (.u rfl) ?_
        refine .nil ?_
        refine .code ?_
        refine .ret ?_
        refine We.fin0 Tryd.results11 (.tmp rfl .nil) ?_
        exact ⟨rfl, congrArg Value.bool (eR3 c3).symm⟩
      · have c3k := c3
        try simp only [decide_eq_true_eq, decide_eq_false_iff_not, Int.not_lt, Int.not_le, gt_iff_lt, ge_iff_le, Bool.or_eq_true, Bool.and_eq_true, Bool.or_eq_false_iff, Bool.and_eq_false_iff, Bool.not_eq_true', Bool.not_eq_false', Int.toNat_natCast, bne_iff_ne, beq_iff_eq, bne_eq_false_iff_eq, beq_eq_false_iff_ne, ne_eq] at c3
        refine .seq ?_
        refine Wk.rg [0, 1, 2, 3] rfl rfl ?_
        refine fz rfl .no Fx.fo43_2 (.u rfl) ?_
        refine ld rfl .no FxTbA.ag5 (.u rfl) (fun _ => Rd.own .here (by first | exact wap_f rfl | rfl)) ?_
        refine cp rfl .no (.u rfl) (.u rfl) rfl ?_
        refine asg rfl .no (.u rfl) ?_
        refine .nil ?_
        refine .code ?_
        refine .cond rfl (fun c4 => ?_) (fun c4 => ?_)
        · have c4k := c4
          try simp only [decide_eq_true_eq, decide_eq_false_iff_not, Int.not_lt, Int.not_le, gt_iff_lt, ge_iff_le, Bool.or_eq_true, Bool.and_eq_true, Bool.or_eq_false_iff, Bool.and_eq_false_iff, Bool.not_eq_true', Bool.not_eq_false', Int.toNat_natCast, bne_iff_ne, beq_iff_eq, bne_eq_false_iff_eq, beq_eq_false_iff_ne, ne_eq] at c4
          refine .seq ?_
          refine Wk.rg [0, 1, 2, 3] rfl rfl ?_
          refine fz rfl .no Fx.fo43_3 (.u rfl) ?_
          refine ld rfl .no Fx.ag9 (.u rfl) (fun _ => Rd.own .here (by first | exact wap_f rfl | rfl)) ?_
          refine cs rfl .no (.u rfl) (.u rfl) rfl ?_
          refine asg rfl .no (.u rfl) ?_
          refine .nil ?_
          refine .code ?_
          refine .ret ?_
          refine We.fin0 Tryd.results11 (.tmp rfl .nil) ?_
          exact ⟨rfl, congrArg Value.bool (eR4 c1 c2 c3 c4).symm⟩
        · have c4k := c4
          try simp only [decide_eq_true_eq, decide_eq_false_iff_not, Int.not_lt, Int.not_le, gt_iff_lt, ge_iff_le, Bool.or_eq_true, Bool.and_eq_true, Bool.or_eq_false_iff, Bool.and_eq_false_iff, Bool.not_eq_true', Bool.not_eq_false', Int.toNat_natCast, bne_iff_ne, beq_iff_eq, bne_eq_false_iff_eq, beq_eq_false_iff_ne, ne_eq] at c4
          refine .skip ?_
          refine .blk ?_
          refine .code ?_
          refine .seq ?_
          refine Wk.rg [0, 1, 2, 3] rfl rfl ?_
          refine fz rfl .no Fx.fo43_2 (.u rfl) ?_
          refine ld rfl .no FxTbA.ag5 (.u rfl) (fun _ => Rd.own .here (by first | exact wap_f rfl | rfl)) ?_
          refine cp rfl .no (.u rfl) (.u rfl) rfl ?_
          refine asg rfl .no (.u rfl) ?_
          refine .nil ?_
          refine .code ?_
          refine .ret ?_
          refine We.fin0 Tryd.results11 (.tmp rfl .nil) ?_
          exact ⟨rfl, congrArg Value.bool (eR5 c1 c2 c3 c4).symm⟩

theorem betw_ok (a b : ByteArray) (G : PM) (ha : a.size ≤ 1000000) : Ct Tryd.prog 26 ([.string a, .string b] : List Value).toArray G [] (fun _ μ' u => μ' = [] ∧ u = .string (bstr (betwL (yb a) (yb b)))) := by
  refine Ct.of Tryd.func26 rfl Tryd.ntmps26 rfl fun w0 hs0 => ?_
  refine .seq ?_
  refine Wk.rg [0] rfl rfl ?_
  refine asg rfl .no (.u rfl) ?_
  refine .nil ?_
  refine .code ?_
  refine .seq ?_
  refine .seq ?_
  refine Wk.rg [0, 1, 2, 3, 4, 5] rfl rfl ?_
  refine mv rfl .no (.u rfl) ?_
  refine ls rfl .no FxTbA.st9 (.u rfl) ?_
  refine mv rfl .no (.u rfl) ?_
  refine ls rfl .no FxTbA.st9 (.u rfl) ?_
  refine mIn (a.size) (b.size) rfl .no (.u rfl) (.u rfl) (fun _ => by omega) (fun _ => by omega) ?_
  refine mv rfl .no (.u rfl) ?_
  refine .nil ?_
  refine .code ?_
  refine .block ?_
  refine Wk.lop (α := Nat) (fun k => [(11, true, .int .i64 (k : Int))]) (fun _ => [])
    (fun k Gl => (k ≤ a.size ∧ k ≤ b.size) ∧ (∀ j, j < k → (yb a).getD j 0 = (yb b).getD j 0)) (fun k => a.size - k) 0 [(0, true, _), (1, true, _), (10, true, _)] []
    (ESub.cons rfl (by first | rfl | exact evi (by omega)) (ESub.cons rfl rfl (ESub.cons rfl rfl (ESub.cons rfl rfl ESub.nil))))
    MSub.nil ?_ ?_
  · refine ⟨?_, ?_⟩
    · (try dsimp only) <;> (first | omega | rfl | assumption | (simp; done))
    · (try dsimp only) <;> (exact fun j h => absurd h (Nat.not_lt_zero _))
  intro k N0 Gl0 hN0 hGl0 hF0
  try dsimp only at hF0 hN0 ⊢
  obtain ⟨hk, hj⟩ := hF0
  refine .seq ?_
  refine Wk.rg [0] rfl rfl ?_
  refine cp rfl .no (.u rfl) (.u rfl) rfl ?_
  refine .nil ?_
  refine .code ?_
  refine .seq ?_
  refine .cond rfl (fun c1 => ?_) (fun c1 => ?_)
  · have c1k := c1
    try simp only [decide_eq_true_eq, decide_eq_false_iff_not, Int.not_lt, Int.not_le, gt_iff_lt, ge_iff_le, Bool.or_eq_true, Bool.and_eq_true, Bool.or_eq_false_iff, Bool.not_eq_true', Bool.not_eq_false', Int.toNat_natCast, bne_iff_ne, beq_iff_eq, bne_eq_false_iff_eq, beq_eq_false_iff_ne, ne_eq] at c1
    refine .skip ?_
    refine .code ?_
    refine .seq ?_
    refine .block ?_
    refine .seq ?_
    refine Wk.rg [0, 1] rfl rfl ?_
    refine mv rfl .no (.u rfl) ?_
    refine asg rfl .no (.u rfl) ?_
    refine .nil ?_
    refine .code ?_
    refine .seq ?_
    refine .seq ?_
    refine Wk.draw (mc := ⟨false, false⟩) [0, 1, 2, 3, 4, 5, 6] FxTbA.mix (by kernel_rfl) ?_
    refine mv rfl .no (.u rfl) ?_
    refine mv rfl .no (.u rfl) ?_
    refine sI (k) rfl .no FxTbA.st9 (.u rfl) (.u rfl) (fun _ => by omega) (fun _ => by first | omega | (simp only [Bool.and_eq_true, decide_eq_true_eq] at hc; omega)) ?_
    refine mv rfl .no (.u rfl) ?_
    refine mv rfl .no (.u rfl) ?_
    refine sI (k) rfl .no FxTbA.st9 (.u rfl) (.u rfl) (fun _ => by omega) (fun _ => by first | omega | (simp only [Bool.and_eq_true, decide_eq_true_eq] at hc; omega)) ?_
    refine cp rfl .no (.u rfl) (.u rfl) rfl ?_
    refine .nil ?_
    refine .code ?_
    refine .cond rfl (fun c2 => ?_) (fun c2 => ?_)
    · have c2k := c2
      try simp only [decide_eq_true_eq, decide_eq_false_iff_not, Int.not_lt, Int.not_le, gt_iff_lt, ge_iff_le, Bool.or_eq_true, Bool.and_eq_true, Bool.or_eq_false_iff, Bool.not_eq_true', Bool.not_eq_false', Int.toNat_natCast, bne_iff_ne, beq_iff_eq, bne_eq_false_iff_eq, beq_eq_false_iff_ne, ne_eq] at c2
      refine .exit ?_
      refine .xcode ?_
      refine .xblk ?_
      refine .code ?_
      refine Wk.rg [0, 1] rfl rfl ?_
      refine arn (((k + 1) : Nat) : Int) rfl .no (.u rfl) (.u rfl) rfl (fun _ => by omega) (fun _ => wrap_i64 (by omega) (by omega)) ?_
      refine mv rfl .no (.u rfl) ?_
      refine .nil ?_
      refine We.lpo (k + 1) ?_ ?_ ?_ ?_ ?_
      · exact (ESub.cons rfl (by first | rfl | exact evi (by omega)) (ESub.cons rfl rfl (ESub.cons rfl rfl (ESub.cons rfl rfl ESub.nil))))
      · exact MSub.nil
      · first | omega | (dsimp only; omega)
      · exact hGl0
      · refine ⟨?_, ?_⟩
        · (try dsimp only) <;> (first | omega | rfl | assumption | (simp; done))
        · (try dsimp only) <;> (exact bt_snoc hj c2)
    · have c2k := c2
      try simp only [decide_eq_true_eq, decide_eq_false_iff_not, Int.not_lt, Int.not_le, gt_iff_lt, ge_iff_le, Bool.or_eq_true, Bool.and_eq_true, Bool.or_eq_false_iff, Bool.not_eq_true', Bool.not_eq_false', Int.toNat_natCast, bne_iff_ne, beq_iff_eq, bne_eq_false_iff_eq, beq_eq_false_iff_ne, ne_eq] at c2
      refine .skip ?_
      refine .code ?_
      refine .seq ?_
      refine .seq ?_
      refine Wk.draw (mc := ⟨false, false⟩) [0, 1, 2, 3, 4, 5, 6, 7, 8, 9, 10, 11, 12, 13, 14, 15, 16] FxTbA.mix (by kernel_rfl) ?_
      refine mv rfl .no (.u rfl) ?_
      refine mv rfl .no (.u rfl) ?_
      refine sI (k) rfl .no FxTbA.st9 (.u rfl) (.u rfl) (fun _ => by omega) (fun _ => by first | omega | (simp only [Bool.and_eq_true, decide_eq_true_eq] at hc; omega)) ?_
      refine mv rfl .no (.u rfl) ?_
      refine mv rfl .no (.u rfl) ?_
      refine sI (k) rfl .no FxTbA.st9 (.u rfl) (.u rfl) (fun _ => by omega) (fun _ => by first | omega | (simp only [Bool.and_eq_true, decide_eq_true_eq] at hc; omega)) ?_
      refine cp rfl .no (.u rfl) (.u rfl) rfl ?_
      refine mv rfl .no (.u rfl) ?_
      refine mv rfl (.t rfl rfl) (.u rfl) ?_
      refine mv rfl (.t rfl rfl) (.u rfl) ?_
      refine sI (k) rfl (.t rfl rfl) FxTbA.st9 (.s rfl) (.s rfl) (fun hc => by omega) (fun hc => by first | omega | (simp only [Bool.and_eq_true, decide_eq_true_eq] at hc; omega)) ?_
      refine mv rfl (.t rfl rfl) (.u rfl) ?_
      refine mv rfl (.t rfl rfl) (.u rfl) ?_
      refine sI (k) rfl (.t rfl rfl) FxTbA.st9 (.s rfl) (.s rfl) (fun hc => by omega) (fun hc => by first | omega | (simp only [Bool.and_eq_true, decide_eq_true_eq] at hc; omega)) ?_
      refine bw (k := .u8) rfl (.t rfl rfl) rfl (.s rfl) (.s rfl) rfl ?_
      refine cp rfl (.t rfl rfl) (.s rfl) (.u rfl) rfl ?_
      refine pkA rfl .no (.u rfl) (.s rfl) ?_
      refine .nil ?_
      refine .code ?_
      refine .cond rfl (fun c3 => ?_) (fun c3 => ?_)
      · have c3k := c3
        try simp only [decide_eq_true_eq, decide_eq_false_iff_not, Int.not_lt, Int.not_le, gt_iff_lt, ge_iff_le, Bool.or_eq_true, Bool.and_eq_true, Bool.or_eq_false_iff, Bool.not_eq_true', Bool.not_eq_false', Int.toNat_natCast, bne_iff_ne, beq_iff_eq, bne_eq_false_iff_eq, beq_eq_false_iff_ne, ne_eq] at c3
        refine .seq ?_
        refine Wk.draw (mc := ⟨false, false⟩) [0, 1, 2, 3, 4, 5, 6, 7, 8, 9, 10] FxTbA.mix (by kernel_rfl) ?_
        refine mv rfl .no (.u rfl) ?_
        refine mv rfl .no (.u rfl) ?_
        refine sE (k) rfl .no FxTbA.st9 (.u rfl) (.u rfl) (fun _ => by omega) (fun _ => by omega) ?_
        refine mv rfl .no (.u rfl) ?_
        refine mv rfl .no (.u rfl) ?_
        refine sI (k) rfl .no FxTbA.st9 (.u rfl) (.u rfl) (fun _ => by omega) (fun _ => by first | omega | (simp only [Bool.and_eq_true, decide_eq_true_eq] at hc; omega)) ?_
        refine bw (k := .u8) (b := 1#8) rfl .no rfl (.u rfl) (.u rfl) rfl ?_
        refine Go.Tan.b1 rfl FxTbA.se36 FxTbA.zv5 (.u rfl) rfl rfl (by decide) ?_; intro b45
        refine sB rfl .no FxTbA.bs36_9 (.u rfl) (fun _ => (Sc.one .here)) ?_
        refine sP rfl .no (.u rfl) (.u rfl) (fun _ => bt_room ha) ?_
        refine asg rfl .no (.u rfl) ?_
        refine .nil ?_
        refine .code ?_
        refine .ret ?_
        refine We.fin0 Tryd.results26 (.tmp rfl .nil) ?_
        exact ⟨rfl, congrArg Value.string (bt_yes (by omega) hj c3)⟩
      · have c3k := c3
        try simp only [decide_eq_true_eq, decide_eq_false_iff_not, Int.not_lt, Int.not_le, gt_iff_lt, ge_iff_le, Bool.or_eq_true, Bool.and_eq_true, Bool.or_eq_false_iff, Bool.not_eq_true', Bool.not_eq_false', Int.toNat_natCast, bne_iff_ne, beq_iff_eq, bne_eq_false_iff_eq, beq_eq_false_iff_ne, ne_eq] at c3
        refine .skip ?_
        refine .code ?_
        refine .exit ?_
        refine .xnot rfl ?_
        refine .xcode ?_
        refine .xlp ?_
        refine .xblk ?_
        refine .code ?_
        refine .seq ?_
        refine Wk.rg [0, 1] rfl rfl ?_
        refine mv rfl .no (.u rfl) ?_
        refine asg rfl .no (.u rfl) ?_
        refine .nil ?_
        refine .code ?_
        refine .ret ?_
        refine We.fin0 Tryd.results26 (.tmp rfl .nil) ?_
        exact ⟨rfl, congrArg Value.string (bt_no (by omega) hj c2 c3k)⟩
  · have c1k := c1
    try simp only [decide_eq_true_eq, decide_eq_false_iff_not, Int.not_lt, Int.not_le, gt_iff_lt, ge_iff_le, Bool.or_eq_true, Bool.and_eq_true, Bool.or_eq_false_iff, Bool.not_eq_true', Bool.not_eq_false', Int.toNat_natCast, bne_iff_ne, beq_iff_eq, bne_eq_false_iff_eq, beq_eq_false_iff_ne, ne_eq] at c1
    refine .exit ?_
    refine .xcode ?_
    refine .xlp ?_
    refine .xblk ?_
    refine .code ?_
    refine .seq ?_
    refine Wk.rg [0, 1] rfl rfl ?_
    refine mv rfl .no (.u rfl) ?_
    refine asg rfl .no (.u rfl) ?_
    refine .nil ?_
    refine .code ?_
    refine .ret ?_
    refine We.fin0 Tryd.results26 (.tmp rfl .nil) ?_
    exact ⟨rfl, congrArg Value.string (bt_end hk (by omega) hj)⟩

theorem idxE_ok (h : Sh) (l : List Ent) (G : PM) (hs : SlR G 4 Ent.cells h l) (hl : l.length ≤ 100000000) (f : Nat) (hf : goFn Tryd.prog f = true) (vc : List Value) (p : Ent → Bool) (hc : ∀ G', PM.le G G' → ∀ m ∈ l, Ct Tryd.prog f ([m.val] ++ vc).toArray G' [] fun _ μ' u => μ' = [] ∧ u = .bool (p m)) : Ct Tryd.prog 40 ([h.val l.length, .func (.func f) #[] vc.toArray] : List Value).toArray G [] (fun _ μ' u => μ' = [] ∧ u = .int .i64 (idxZ p l)) := by
  refine Ct.of Tryd.func40 rfl Tryd.ntmps40 rfl fun w0 hs0 => ?_
  refine .seq ?_
  refine Wk.rg [0] rfl rfl ?_
  refine asg rfl .no (.u rfl) ?_
  refine .nil ?_
  refine .code ?_
  refine .seq ?_
  refine .seq ?_
  refine Wk.rg [0, 1, 2] rfl rfl ?_
  refine mv rfl .no (.u rfl) ?_
  refine ln rfl .no Fx.sn31 (.u rfl) ?_
  refine mv rfl .no (.u rfl) ?_
  refine .nil ?_
  refine .code ?_
  refine .block ?_
  refine Wk.lop (α := Nat) (fun k => [(8, true, .int .i64 (k : Int))]) (fun _ => [])
    (fun k Gl => (k ≤ l.length) ∧ (∀ j y, j < k → l[j]? = some y → p y = false)) (fun k => l.length - k) 0 [(0, true, _), (1, true, _), (7, true, _)] []
    (ESub.cons rfl (by first | rfl | exact evi (by omega)) (ESub.cons rfl rfl (ESub.cons rfl rfl (ESub.cons rfl rfl ESub.nil))))
    MSub.nil ?_ ?_
  · refine ⟨?_, ?_⟩
    · (try dsimp only) <;> (first | omega | rfl | assumption | (simp; done))
    · (try dsimp only) <;> (exact fun j y h => absurd h (Nat.not_lt_zero _))
  intro k N0 Gl0 hN0 hGl0 hF0
  try dsimp only at hF0 hN0 ⊢
  obtain ⟨hk, hno⟩ := hF0
  have hs := hs.mono hGl0
  refine .seq ?_
  refine Wk.rg [0] rfl rfl ?_
  refine cp rfl .no (.u rfl) (.u rfl) rfl ?_
  refine .nil ?_
  refine .code ?_
  refine .seq ?_
  refine .cond rfl (fun c1 => ?_) (fun c1 => ?_)
  · have c1k := c1
    try simp only [decide_eq_true_eq, decide_eq_false_iff_not, Int.not_lt, Int.not_le, gt_iff_lt, ge_iff_le, Bool.or_eq_true, Bool.and_eq_true, Bool.or_eq_false_iff, Bool.not_eq_true', Bool.not_eq_false', Int.toNat_natCast, bne_iff_ne, beq_iff_eq, bne_eq_false_iff_eq, beq_eq_false_iff_ne, ne_eq] at c1
    refine .skip ?_
    refine .code ?_
    refine .seq ?_
    refine .block ?_
    refine .seq ?_
    refine Wk.rg [0, 1] rfl rfl ?_
    refine mv rfl .no (.u rfl) ?_
    refine asg rfl .no (.u rfl) ?_
    refine .nil ?_
    refine .code ?_
    refine .seq ?_
    refine Wk.rg [0, 1, 2, 3, 4, 5] rfl rfl ?_
    refine mv rfl .no (.u rfl) ?_
    refine mv rfl .no (.u rfl) ?_
    refine mv rfl .no (.u rfl) ?_
    refine ih rfl .no Fx.se31 (.u rfl) (.u rfl) (fun _ => by omega) (fun _ => by omega) (fun _ => hs.nn (k := k) (by first | omega | (simp only [Bool.and_eq_true, decide_eq_true_eq] at hc; omega) | (simp only [List.length_cons, List.length_nil]; omega))) ?_
    obtain ⟨x, ex⟩ := getx (k := k) (xs := l) (by omega)
    refine lA rfl .no Fx.ag43 (.u rfl) (fun _ => (hs.at (by omega) ex).rd) (fun _ => Ent.len _) ?_
    refine kf rfl .no (.u rfl) hf (Eva.cons (.u rfl) Eva.nil) (fun _ => hc _ hGl0 x (List.mem_of_getElem? ex)) ?_
    refine .nil ?_
    refine .code ?_
    refine .cond rfl (fun c2 => ?_) (fun c2 => ?_)
    · have c2k := c2
      try simp only [decide_eq_true_eq, decide_eq_false_iff_not, Int.not_lt, Int.not_le, gt_iff_lt, ge_iff_le, Bool.or_eq_true, Bool.and_eq_true, Bool.or_eq_false_iff, Bool.not_eq_true', Bool.not_eq_false', Int.toNat_natCast, bne_iff_ne, beq_iff_eq, bne_eq_false_iff_eq, beq_eq_false_iff_ne, ne_eq] at c2
      refine .seq ?_
      refine Wk.rg [0, 1] rfl rfl ?_
      refine mv rfl .no (.u rfl) ?_
      refine asg rfl .no (.u rfl) ?_
      refine .nil ?_
      refine .code ?_
      refine .ret ?_
      refine We.fin0 Tryd.results40 (.tmp rfl .nil) ?_
      exact ⟨rfl, idz_hit hno ex (by simpa using c2k)⟩
    · have c2k := c2
      try simp only [decide_eq_true_eq, decide_eq_false_iff_not, Int.not_lt, Int.not_le, gt_iff_lt, ge_iff_le, Bool.or_eq_true, Bool.and_eq_true, Bool.or_eq_false_iff, Bool.not_eq_true', Bool.not_eq_false', Int.toNat_natCast, bne_iff_ne, beq_iff_eq, bne_eq_false_iff_eq, beq_eq_false_iff_ne, ne_eq] at c2
      refine .skip ?_
      refine .blk ?_
      refine .code ?_
      refine Wk.rg [0, 1] rfl rfl ?_
      refine arn (((k + 1) : Nat) : Int) rfl .no (.u rfl) (.u rfl) rfl (fun _ => by omega) (fun _ => wrap_i64 (by omega) (by omega)) ?_
      refine mv rfl .no (.u rfl) ?_
      refine .nil ?_
      refine We.lpo (k + 1) ?_ ?_ ?_ ?_ ?_
      · exact (ESub.cons rfl (by first | rfl | exact evi (by omega)) (ESub.cons rfl rfl (ESub.cons rfl rfl (ESub.cons rfl rfl ESub.nil))))
      · exact MSub.nil
      · first | omega | (dsimp only; omega)
      · exact hGl0
      · refine ⟨?_, ?_⟩
        · (try dsimp only) <;> (first | omega | rfl | assumption | (simp; done))
        · (try dsimp only) <;> (exact idz_step hno ex (by simpa using c2k))
  · have c1k := c1
    try simp only [decide_eq_true_eq, decide_eq_false_iff_not, Int.not_lt, Int.not_le, gt_iff_lt, ge_iff_le, Bool.or_eq_true, Bool.and_eq_true, Bool.or_eq_false_iff, Bool.not_eq_true', Bool.not_eq_false', Int.toNat_natCast, bne_iff_ne, beq_iff_eq, bne_eq_false_iff_eq, beq_eq_false_iff_ne, ne_eq] at c1
    refine .exit ?_
    refine .xcode ?_
    refine .xlp ?_
    refine .xblk ?_
    refine .code ?_
    refine .seq ?_
    refine Wk.rg [0] rfl rfl ?_
    refine asg rfl .no (.u rfl) ?_
    refine .nil ?_
    refine .code ?_
    refine .ret ?_
    refine We.fin0 Tryd.results40 (.tmp rfl .nil) ?_
    exact ⟨rfl, idz_none hno (by omega)⟩

theorem contE_ok (h : Sh) (l : List Ent) (G : PM) (hs : SlR G 4 Ent.cells h l) (hl : l.length ≤ 100000000) (f : Nat) (hf : goFn Tryd.prog f = true) (vc : List Value) (p : Ent → Bool) (hc : ∀ G', PM.le G G' → ∀ m ∈ l, Ct Tryd.prog f ([m.val] ++ vc).toArray G' [] fun _ μ' u => μ' = [] ∧ u = .bool (p m)) : Ct Tryd.prog 21 ([h.val l.length, .func (.func f) #[] vc.toArray] : List Value).toArray G [] (fun _ μ' u => μ' = [] ∧ u = .bool (l.any p)) := by
  refine Ct.of Tryd.func21 rfl Tryd.ntmps21 rfl fun w0 hs0 => ?_
  refine .seq ?_
  refine Wk.rg [0] rfl rfl ?_
  refine asg rfl .no (.u rfl) ?_
  refine .nil ?_
  refine .code ?_
  refine .seq ?_
  refine Wk.rg [0, 1, 2, 3, 4] rfl rfl ?_
  refine mv rfl .no (.u rfl) ?_
  refine mv rfl .no (.u rfl) ?_
  refine kv rfl .no Fx.go40 (Eva.cons (.u rfl) (Eva.cons (.u rfl) Eva.nil)) (fun _ => idxE_ok h l _ hs hl f hf vc p hc) ?_
  refine cp rfl .no (.u rfl) (.u rfl) rfl ?_
  refine asg rfl .no (.u rfl) ?_
  refine .nil ?_
  refine .code ?_
  refine .ret ?_
  refine We.fin0 Tryd.results21 (.tmp rfl .nil) ?_
  exact ⟨rfl, congrArg Value.bool idz_ge⟩

theorem tBad_ok (e : Ent) (G : PM) : Ct Tryd.prog 19 ([e.val] : List Value).toArray G [] (fun _ μ' u => μ' = [] ∧ u = .bool (!rightE e)) := by
  refine Ct.of Tryd.func19 rfl Tryd.ntmps19 rfl fun w0 hs0 => ?_
  refine .seq ?_
  refine Wk.rg [0, 1] rfl rfl ?_
  refine bx rfl (.u rfl) rfl ?_; intro b1
  refine asg rfl .no (.u rfl) ?_
  refine .nil ?_
  refine .code ?_
  refine .seq ?_
  refine Wk.rg [0, 1, 2, 3] rfl rfl ?_
  refine lA rfl .no Fx.ag43 (.u rfl) (fun _ => RdN.own .here) (fun _ => (by first | rfl | exact Ent.len _)) ?_
  refine kv rfl .no Fx.go11 (Eva.cons (.u rfl) Eva.nil) (fun _ => eRight_ok _ _) ?_
  refine nt rfl .no (.u rfl) ?_
  refine asg rfl .no (.u rfl) ?_
  refine .nil ?_
  refine .code ?_
  refine .ret ?_
  refine We.fin0 Tryd.results19 (.tmp rfl .nil) ?_
  exact ⟨rfl, rfl⟩

theorem bBad_ok (e : Ent) (G : PM) : Ct Tryd.prog 48 ([e.val] : List Value).toArray G [] (fun _ μ' u => μ' = [] ∧ u = .bool (!rightE e)) := by
  refine Ct.of Tryd.func48 rfl Tryd.ntmps48 rfl fun w0 hs0 => ?_
  refine .seq ?_
  refine Wk.rg [0, 1] rfl rfl ?_
  refine bx rfl (.u rfl) rfl ?_; intro b1
  refine asg rfl .no (.u rfl) ?_
  refine .nil ?_
  refine .code ?_
  refine .seq ?_
  refine Wk.rg [0, 1, 2, 3] rfl rfl ?_
  refine lA rfl .no Fx.ag43 (.u rfl) (fun _ => RdN.own .here) (fun _ => (by first | rfl | exact Ent.len _)) ?_
  refine kv rfl .no Fx.go11 (Eva.cons (.u rfl) Eva.nil) (fun _ => eRight_ok _ _) ?_
  refine nt rfl .no (.u rfl) ?_
  refine asg rfl .no (.u rfl) ?_
  refine .nil ?_
  refine .code ?_
  refine .ret ?_
  refine We.fin0 Tryd.results48 (.tmp rfl .nil) ?_
  exact ⟨rfl, rfl⟩

theorem rises_ok (h : Sh) (l : List Ent) (G : PM) (hs : SlR G 4 Ent.cells h l) (hl : l.length ≤ 10000000000000) : Ct Tryd.prog 22 ([h.val l.length] : List Value).toArray G [] (fun _ μ' u => μ' = [] ∧ u = .bool (risesE l)) := by
  refine Ct.of Tryd.func22 rfl Tryd.ntmps22 rfl fun w0 hs0 => ?_
  refine .seq ?_
  refine Wk.rg [0] rfl rfl ?_
  refine asg rfl .no (.u rfl) ?_
  refine .nil ?_
  refine .code ?_
  refine .seq ?_
  refine .seq ?_
  refine Wk.rg [0] rfl rfl ?_
  refine asg rfl .no (.u rfl) ?_
  refine .nil ?_
  refine .code ?_
  refine .block ?_
  refine Wk.lop (α := Nat) (fun k => [(3, true, .int .i64 (k : Int))]) (fun _ => [])
    (fun k Gl => (1 ≤ k ∧ (k ≤ l.length ∨ l.length = 0)) ∧ (∀ j, j + 1 < k → aheadE (l.getD j Ent.zero) (l.getD (j + 1) Ent.zero) = true)) (fun k => l.length - k) 1 [(0, true, _)] []
    (ESub.cons rfl (by first | rfl | exact evi (by omega)) (ESub.cons rfl rfl ESub.nil))
    MSub.nil ?_ ?_
  · refine ⟨?_, ?_⟩
    · (try dsimp only) <;> (first | omega | rfl | assumption | (simp; done))
    · (try dsimp only) <;> (exact fun j h => absurd h (by omega))
  intro k N0 Gl0 hN0 hGl0 hF0
  try dsimp only at hF0 hN0 ⊢
  obtain ⟨hk, hj⟩ := hF0
  have hs := hs.mono hGl0
  refine .seq ?_
  refine .seq ?_
  refine Wk.rg [0, 1, 2, 3] rfl rfl ?_
  refine mv rfl .no (.u rfl) ?_
  refine mv rfl .no (.u rfl) ?_
  refine ln rfl .no Fx.sn31 (.u rfl) ?_
  refine cp rfl .no (.u rfl) (.u rfl) rfl ?_
  refine .nil ?_
  refine .code ?_
  refine .cond rfl (fun c1 => ?_) (fun c1 => ?_)
  · have c1k := c1
    try simp only [decide_eq_true_eq, decide_eq_false_iff_not, Int.not_lt, Int.not_le, gt_iff_lt, ge_iff_le, Bool.or_eq_true, Bool.and_eq_true, Bool.or_eq_false_iff, Bool.not_eq_true', Bool.not_eq_false', Int.toNat_natCast, bne_iff_ne, beq_iff_eq, bne_eq_false_iff_eq, beq_eq_false_iff_ne, ne_eq] at c1
    refine .skip ?_
    refine .code ?_
    refine .seq ?_
    refine .block ?_
    refine .seq ?_
    refine Wk.mixp ⟨false, false⟩ FxTbA.mix (by kernel_rfl) ?_
    refine Wp.one 0 (by kernel_rfl) ?_
    refine mv rfl .no (.u rfl) ?_
    refine .nil ?_
    refine Wp.one 1 (by kernel_rfl) ?_
    refine mv rfl .no (.u rfl) ?_
    refine .nil ?_
    refine Wp.one 2 (by kernel_rfl) ?_
    refine ar rfl .no (.u rfl) (.u rfl) rfl (fun _ => wrap_i64 (by omega) (by omega)) ?_
    refine .nil ?_
    refine Wp.one 3 (by kernel_rfl) ?_
    refine ih rfl .no Fx.se31 (.u rfl) (.u rfl) (fun _ => by omega) (fun _ => by omega) (fun _ => hs.nn (k := ((((k : Nat) : Int) - (1 : Int))).toNat) (by first | omega | (simp only [Bool.and_eq_true, decide_eq_true_eq] at hc; omega) | (simp only [List.length_cons, List.length_nil]; omega))) ?_
    refine .nil ?_
    refine Wp.one 4 (by kernel_rfl) ?_
    obtain ⟨x, ex⟩ := getx (k := k - 1) (xs := l) (by omega)
    refine lA rfl .no Fx.ag43 (.u rfl) (fun _ => (hs.at (by omega) ex).rd) (fun _ => Ent.len _) ?_
    refine .nil ?_
    refine Wp.one 5 (by kernel_rfl) ?_
    refine mv rfl .no (.u rfl) ?_
    refine .nil ?_
    refine Wp.one 6 (by kernel_rfl) ?_
    refine mv rfl .no (.u rfl) ?_
    refine .nil ?_
    refine Wp.one 7 (by kernel_rfl) ?_
    refine ih rfl .no Fx.se31 (.u rfl) (.u rfl) (fun _ => by omega) (fun _ => by omega) (fun _ => hs.nn (k := k) (by first | omega | (simp only [Bool.and_eq_true, decide_eq_true_eq] at hc; omega) | (simp only [List.length_cons, List.length_nil]; omega))) ?_
    refine .nil ?_
    refine Wp.pr 8 (by kernel_rfl) ?_
    obtain ⟨y, ey⟩ := getx (k := k) (xs := l) (by omega)
    refine lA rfl .no Fx.ag43 (.u rfl) (fun _ => (hs.at (by omega) ey).rd) (fun _ => Ent.len _) ?_
    refine .nil ⟨⟨rfl, rfl⟩, ?_⟩
    refine Wp.b2 9 10 (by kernel_rfl) ?_ ?_
    · refine al rfl Fx.zr43 ?_; intro b4
      refine .nil ?_
      refine Wp.b1 10 (by kernel_rfl) ?_
      refine al rfl Fx.zr43 ?_; intro b5
      refine .nil ?_
      refine Wp.b1 11 (by kernel_rfl) ?_
      refine sw rfl (.u rfl) (.u rfl) rfl Fx.sz43 (.there .here) (by first | rfl | exact Ent.len _) (Ent.one _) ?_
      refine .nil ?_
      refine Wp.b1 12 (by kernel_rfl) ?_
      refine sw rfl (.u rfl) (.u rfl) rfl Fx.sz43 (.there .here) (by first | rfl | exact Ent.len _) (Ent.one _) ?_
      refine .nil ?_
      refine Wp.last (by kernel_rfl) ?_
      refine .code ?_
      refine .seq ?_
      refine Wk.rg [0, 1, 2, 3, 4, 5, 6, 7, 8, 9, 10, 11, 12, 13, 14, 15, 16, 17, 18] rfl rfl ?_
      refine fz rfl .no Fx.fo43_0 (.u rfl) ?_
      refine ld rfl .no Fx.ag9 (.u rfl) (fun _ => Rd.own (.there .here) (by first | exact wap_f rfl | rfl)) ?_
      refine fz rfl .no Fx.fo43_0 (.u rfl) ?_
      refine ld rfl .no Fx.ag9 (.u rfl) (fun _ => Rd.own .here (by first | exact wap_f rfl | rfl)) ?_
      refine cs rfl .no (.u rfl) (.u rfl) rfl ?_
      refine mv rfl .no (.u rfl) ?_
      refine fz rfl (.f rfl rfl) Fx.fo43_0 (.u rfl) ?_
      refine ld rfl (.f rfl rfl) Fx.ag9 (.s rfl) (fun hc => Rd.own (.there .here) (by first | exact wap_f rfl | rfl)) ?_
      refine fz rfl (.f rfl rfl) Fx.fo43_0 (.u rfl) ?_
      refine ld rfl (.f rfl rfl) Fx.ag9 (.s rfl) (fun hc => Rd.own .here (by first | exact wap_f rfl | rfl)) ?_
      refine cs rfl (.f rfl rfl) (.s rfl) (.s rfl) rfl ?_
      refine mv rfl (.f rfl rfl) (.s rfl) ?_
      refine fz rfl (.tc rfl rfl) Fx.fo43_1 (.u rfl) ?_
      refine ld rfl (.tc rfl rfl) FxTbA.ag24 (.s rfl) (fun hc => Rd.own (.there .here) (by first | exact wap_f rfl | rfl)) ?_
      refine fz rfl (.tc rfl rfl) Fx.fo43_1 (.u rfl) ?_
      refine ld rfl (.tc rfl rfl) FxTbA.ag24 (.s rfl) (fun hc => Rd.own .here (by first | exact wap_f rfl | rfl)) ?_
      refine cp rfl (.tc rfl rfl) (.s rfl) (.s rfl) rfl ?_
      refine pkA rfl (.f rfl rfl) (.s rfl) (.s rfl) ?_
      refine pkO rfl .no (.u rfl) (.s rfl) ?_
      refine .nil ?_
      refine .code ?_
      refine .cond rfl (fun c2 => ?_) (fun c2 => ?_)
      · have c2k := c2
        try simp only [decide_eq_true_eq, decide_eq_false_iff_not, Int.not_lt, Int.not_le, gt_iff_lt, ge_iff_le, Bool.or_eq_true, Bool.and_eq_true, Bool.or_eq_false_iff, Bool.not_eq_true', Bool.not_eq_false', Int.toNat_natCast, bne_iff_ne, beq_iff_eq, bne_eq_false_iff_eq, beq_eq_false_iff_ne, ne_eq] at c2
        refine .seq ?_
        refine Wk.rg [0] rfl rfl ?_
        refine asg rfl .no (.u rfl) ?_
        refine .nil ?_
        refine .code ?_
        refine .ret ?_
        refine We.fin0 Tryd.results22 (.tmp rfl .nil) ?_
        exact ⟨rfl, congrArg Value.bool (ri_no hk.1 ex ey c2k).symm⟩
      · have c2k := c2
        try simp only [decide_eq_true_eq, decide_eq_false_iff_not, Int.not_lt, Int.not_le, gt_iff_lt, ge_iff_le, Bool.or_eq_true, Bool.and_eq_true, Bool.or_eq_false_iff, Bool.not_eq_true', Bool.not_eq_false', Int.toNat_natCast, bne_iff_ne, beq_iff_eq, bne_eq_false_iff_eq, beq_eq_false_iff_ne, ne_eq] at c2
        refine .skip ?_
        refine .blk ?_
        refine .code ?_
        refine Wk.rg [0, 1, 2] rfl rfl ?_
        refine mv rfl .no (.u rfl) ?_
        refine arn (((k + 1) : Nat) : Int) rfl .no (.u rfl) (.u rfl) rfl (fun _ => by omega) (fun _ => wrap_i64 (by omega) (by omega)) ?_
        refine asg rfl .no (.u rfl) ?_
        refine .nil ?_
        refine We.lpo (k + 1) ?_ ?_ ?_ ?_ ?_
        · exact (ESub.cons rfl (by first | rfl | exact evi (by omega)) (ESub.cons rfl rfl ESub.nil))
        · exact MSub.nil
        · first | omega | (dsimp only; omega)
        · exact hGl0
        · refine ⟨?_, ?_⟩
          · (try dsimp only) <;> (first | omega | rfl | assumption | (simp; done))
          · (try dsimp only) <;> (exact ri_step hk.1 hj ex ey c2k)
    · refine al rfl Fx.zr43 ?_; intro b5
      refine .nil ?_
      refine Wp.b1 9 (by kernel_rfl) ?_
      refine al rfl Fx.zr43 ?_; intro b4
      refine .nil ?_
      refine Wp.b1 11 (by kernel_rfl) ?_
      refine sw rfl (.u rfl) (.u rfl) rfl Fx.sz43 .here (by first | rfl | exact Ent.len _) (Ent.one _) ?_
      refine .nil ?_
      refine Wp.b1 12 (by kernel_rfl) ?_
      refine sw rfl (.u rfl) (.u rfl) rfl Fx.sz43 (.there .here) (by first | rfl | exact Ent.len _) (Ent.one _) ?_
      refine .nil ?_
      refine Wp.last (by kernel_rfl) ?_
      refine .code ?_
      refine .seq ?_
      refine Wk.rg [0, 1, 2, 3, 4, 5, 6, 7, 8, 9, 10, 11, 12, 13, 14, 15, 16, 17, 18] rfl rfl ?_
      refine fz rfl .no Fx.fo43_0 (.u rfl) ?_
      refine ld rfl .no Fx.ag9 (.u rfl) (fun _ => Rd.own (.there .here) (by first | exact wap_f rfl | rfl)) ?_
      refine fz rfl .no Fx.fo43_0 (.u rfl) ?_
      refine ld rfl .no Fx.ag9 (.u rfl) (fun _ => Rd.own .here (by first | exact wap_f rfl | rfl)) ?_
      refine cs rfl .no (.u rfl) (.u rfl) rfl ?_
      refine mv rfl .no (.u rfl) ?_
      refine fz rfl (.f rfl rfl) Fx.fo43_0 (.u rfl) ?_
      refine ld rfl (.f rfl rfl) Fx.ag9 (.s rfl) (fun hc => Rd.own (.there .here) (by first | exact wap_f rfl | rfl)) ?_
      refine fz rfl (.f rfl rfl) Fx.fo43_0 (.u rfl) ?_
      refine ld rfl (.f rfl rfl) Fx.ag9 (.s rfl) (fun hc => Rd.own .here (by first | exact wap_f rfl | rfl)) ?_
      refine cs rfl (.f rfl rfl) (.s rfl) (.s rfl) rfl ?_
      refine mv rfl (.f rfl rfl) (.s rfl) ?_
      refine fz rfl (.tc rfl rfl) Fx.fo43_1 (.u rfl) ?_
      refine ld rfl (.tc rfl rfl) FxTbA.ag24 (.s rfl) (fun hc => Rd.own (.there .here) (by first | exact wap_f rfl | rfl)) ?_
      refine fz rfl (.tc rfl rfl) Fx.fo43_1 (.u rfl) ?_
      refine ld rfl (.tc rfl rfl) FxTbA.ag24 (.s rfl) (fun hc => Rd.own .here (by first | exact wap_f rfl | rfl)) ?_
      refine cp rfl (.tc rfl rfl) (.s rfl) (.s rfl) rfl ?_
      refine pkA rfl (.f rfl rfl) (.s rfl) (.s rfl) ?_
      refine pkO rfl .no (.u rfl) (.s rfl) ?_
      refine .nil ?_
      refine .code ?_
      refine .cond rfl (fun c2 => ?_) (fun c2 => ?_)
      · have c2k := c2
        try simp only [decide_eq_true_eq, decide_eq_false_iff_not, Int.not_lt, Int.not_le, gt_iff_lt, ge_iff_le, Bool.or_eq_true, Bool.and_eq_true, Bool.or_eq_false_iff, Bool.not_eq_true', Bool.not_eq_false', Int.toNat_natCast, bne_iff_ne, beq_iff_eq, bne_eq_false_iff_eq, beq_eq_false_iff_ne, ne_eq] at c2
        refine .seq ?_
        refine Wk.rg [0] rfl rfl ?_
        refine asg rfl .no (.u rfl) ?_
        refine .nil ?_
        refine .code ?_
        refine .ret ?_
        refine We.fin0 Tryd.results22 (.tmp rfl .nil) ?_
        exact ⟨rfl, congrArg Value.bool (ri_no hk.1 ex ey c2k).symm⟩
      · have c2k := c2
        try simp only [decide_eq_true_eq, decide_eq_false_iff_not, Int.not_lt, Int.not_le, gt_iff_lt, ge_iff_le, Bool.or_eq_true, Bool.and_eq_true, Bool.or_eq_false_iff, Bool.not_eq_true', Bool.not_eq_false', Int.toNat_natCast, bne_iff_ne, beq_iff_eq, bne_eq_false_iff_eq, beq_eq_false_iff_ne, ne_eq] at c2
        refine .skip ?_
        refine .blk ?_
        refine .code ?_
        refine Wk.rg [0, 1, 2] rfl rfl ?_
        refine mv rfl .no (.u rfl) ?_
        refine arn (((k + 1) : Nat) : Int) rfl .no (.u rfl) (.u rfl) rfl (fun _ => by omega) (fun _ => wrap_i64 (by omega) (by omega)) ?_
        refine asg rfl .no (.u rfl) ?_
        refine .nil ?_
        refine We.lpo (k + 1) ?_ ?_ ?_ ?_ ?_
        · exact (ESub.cons rfl (by first | rfl | exact evi (by omega)) (ESub.cons rfl rfl ESub.nil))
        · exact MSub.nil
        · first | omega | (dsimp only; omega)
        · exact hGl0
        · refine ⟨?_, ?_⟩
          · (try dsimp only) <;> (first | omega | rfl | assumption | (simp; done))
          · (try dsimp only) <;> (exact ri_step hk.1 hj ex ey c2k)
  · have c1k := c1
    try simp only [decide_eq_true_eq, decide_eq_false_iff_not, Int.not_lt, Int.not_le, gt_iff_lt, ge_iff_le, Bool.or_eq_true, Bool.and_eq_true, Bool.or_eq_false_iff, Bool.not_eq_true', Bool.not_eq_false', Int.toNat_natCast, bne_iff_ne, beq_iff_eq, bne_eq_false_iff_eq, beq_eq_false_iff_ne, ne_eq] at c1
    refine .exit ?_
    refine .xcode ?_
    refine .xlp ?_
    refine .xblk ?_
    refine .code ?_
    refine .seq ?_
    refine Wk.rg [0] rfl rfl ?_
    refine asg rfl .no (.u rfl) ?_
    refine .nil ?_
    refine .code ?_
    refine .ret ?_
    refine We.fin0 Tryd.results22 (.tmp rfl .nil) ?_
    exact ⟨rfl, congrArg Value.bool (ri_yes (by omega) hj).symm⟩

theorem cut_ok (h : Sh) (l : List Ent) (least : Int) (G : PM) (hs : SlR G 4 Ent.cells h l) (hw : wtE l ≤ 100000000) (hl : l.length ≤ 100000000) : Ct Tryd.prog 24 ([h.val l.length, .int .i64 least] : List Value).toArray G [] (fun _ μ' u => μ' = [] ∧ u = .int .i64 (cutA least 0 l : Int)) := by
  refine Ct.of Tryd.func24 rfl Tryd.ntmps24 rfl fun w0 hs0 => ?_
  refine .seq ?_
  refine Wk.rg [0] rfl rfl ?_
  refine asg rfl .no (.u rfl) ?_
  refine .nil ?_
  refine .code ?_
  refine .seq ?_
  refine Wk.rg [0] rfl rfl ?_
  refine asg rfl .no (.u rfl) ?_
  refine .nil ?_
  refine .code ?_
  refine .seq ?_
  refine .seq ?_
  refine Wk.rg [0, 1, 2] rfl rfl ?_
  refine mv rfl .no (.u rfl) ?_
  refine ln rfl .no Fx.sn31 (.u rfl) ?_
  refine mv rfl .no (.u rfl) ?_
  refine .nil ?_
  refine .code ?_
  refine .block ?_
  refine Wk.lop (α := Nat) (fun k => [(5, true, .int .i64 (sumA l k)), (10, true, .int .i64 (k : Int))]) (fun _ => [])
    (fun k Gl => (k ≤ l.length) ∧ (∀ j, j < k → sumA l (j + 1) < least)) (fun k => l.length - k) 0 [(0, true, _), (1, true, _), (8, true, _), (9, true, _)] []
    (ESub.cons rfl (by first | rfl | exact evi (by omega)) (ESub.cons rfl (by first | rfl | exact evi (by omega)) (ESub.cons rfl rfl (ESub.cons rfl rfl (ESub.cons rfl rfl (ESub.cons rfl rfl ESub.nil))))))
    MSub.nil ?_ ?_
  · refine ⟨?_, ?_⟩
    · (try dsimp only) <;> (first | omega | rfl | assumption | (simp; done))
    · (try dsimp only) <;> (exact fun j h => absurd h (Nat.not_lt_zero _))
  intro k N0 Gl0 hN0 hGl0 hF0
  try dsimp only at hF0 hN0 ⊢
  obtain ⟨hk, hj⟩ := hF0
  have hs := hs.mono hGl0
  have h1 := sumA_le hw hl (k := k) (by omega)
  refine .seq ?_
  refine Wk.rg [0] rfl rfl ?_
  refine cp rfl .no (.u rfl) (.u rfl) rfl ?_
  refine .nil ?_
  refine .code ?_
  refine .seq ?_
  refine .cond rfl (fun c1 => ?_) (fun c1 => ?_)
  · have c1k := c1
    try simp only [decide_eq_true_eq, decide_eq_false_iff_not, Int.not_lt, Int.not_le, gt_iff_lt, ge_iff_le, Bool.or_eq_true, Bool.and_eq_true, Bool.or_eq_false_iff, Bool.not_eq_true', Bool.not_eq_false', Int.toNat_natCast, bne_iff_ne, beq_iff_eq, bne_eq_false_iff_eq, beq_eq_false_iff_ne, ne_eq] at c1
    refine .skip ?_
    refine .code ?_
    refine .seq ?_
    refine .block ?_
    refine .seq ?_
    refine Wk.rg [0, 1, 2, 3, 4, 5] rfl rfl ?_
    refine mv rfl .no (.u rfl) ?_
    refine ih rfl .no Fx.se31 (.u rfl) (.u rfl) (fun _ => by omega) (fun _ => by omega) (fun _ => hs.nn (k := k) (by first | omega | (simp only [Bool.and_eq_true, decide_eq_true_eq] at hc; omega) | (simp only [List.length_cons, List.length_nil]; omega))) ?_
    obtain ⟨x, ex⟩ := getx (k := k) (xs := l) (by omega)
    refine lA rfl .no Fx.ag43 (.u rfl) (fun _ => (hs.at (by omega) ex).rd) (fun _ => Ent.len _) ?_
    refine al rfl Fx.zr43 ?_; intro b7
    refine asg rfl .no (.u rfl) ?_
    refine sw rfl (.u rfl) (.u rfl) rfl Fx.sz43 .here (by first | rfl | exact Ent.len _) (Ent.one _) ?_
    refine .nil ?_
    refine .code ?_
    refine .seq ?_
    refine Wk.rg [0, 1, 2, 3, 4, 5, 6, 7, 8, 9, 10] rfl rfl ?_
    refine mv rfl .no (.u rfl) ?_
    refine fz rfl .no Fx.fo43_0 (.u rfl) ?_
    refine ld rfl .no Fx.ag9 (.u rfl) (fun _ => Rd.own .here (by first | exact wap_f rfl | rfl)) ?_
    refine ls rfl .no FxTbA.st9 (.u rfl) ?_
    refine fz rfl .no Fx.fo43_3 (.u rfl) ?_
    refine ld rfl .no Fx.ag9 (.u rfl) (fun _ => Rd.own .here (by first | exact wap_f rfl | rfl)) ?_
    refine ls rfl .no FxTbA.st9 (.u rfl) ?_
    have hn := sumA_next ex
    have h2 := sumA_le hw hl (k := k + 1) (by omega)
    refine arn (((x.user.size + x.value.size) : Nat) : Int) rfl .no (.u rfl) (.u rfl) rfl (fun _ => by omega) (fun _ => wrap_i64 (by omega) (by omega)) ?_
    refine arn ((((x.user.size + x.value.size) + 8) : Nat) : Int) rfl .no (.u rfl) (.u rfl) rfl (fun _ => by omega) (fun _ => wrap_i64 (by omega) (by omega)) ?_
    refine ar rfl .no (.u rfl) (.u rfl) rfl (fun _ => wrap_i64 (by omega) (by omega)) ?_
    refine asg rfl .no (.u rfl) ?_
    refine .nil ?_
    refine .code ?_
    refine .seq ?_
    refine Wk.rg [0, 1, 2] rfl rfl ?_
    refine mv rfl .no (.u rfl) ?_
    refine mv rfl .no (.u rfl) ?_
    refine cp rfl .no (.u rfl) (.u rfl) rfl ?_
    refine .nil ?_
    refine .code ?_
    refine .cond rfl (fun c2 => ?_) (fun c2 => ?_)
    · have c2k := c2
      try simp only [decide_eq_true_eq, decide_eq_false_iff_not, Int.not_lt, Int.not_le, gt_iff_lt, ge_iff_le, Bool.or_eq_true, Bool.and_eq_true, Bool.or_eq_false_iff, Bool.not_eq_true', Bool.not_eq_false', Int.toNat_natCast, bne_iff_ne, beq_iff_eq, bne_eq_false_iff_eq, beq_eq_false_iff_ne, ne_eq] at c2
      refine .seq ?_
      refine Wk.rg [0, 1, 2] rfl rfl ?_
      refine mv rfl .no (.u rfl) ?_
      refine arn (((k + 1) : Nat) : Int) rfl .no (.u rfl) (.u rfl) rfl (fun _ => by omega) (fun _ => wrap_i64 (by omega) (by omega)) ?_
      refine asg rfl .no (.u rfl) ?_
      refine .nil ?_
      refine .code ?_
      refine .ret ?_
      refine We.fin0 Tryd.results24 (.tmp rfl .nil) ?_
      exact ⟨rfl, by rw [cutA_at least l 0 k (by omega) (fun j h => by have := hj j h; omega) (by omega)]; rfl⟩
    · have c2k := c2
      try simp only [decide_eq_true_eq, decide_eq_false_iff_not, Int.not_lt, Int.not_le, gt_iff_lt, ge_iff_le, Bool.or_eq_true, Bool.and_eq_true, Bool.or_eq_false_iff, Bool.not_eq_true', Bool.not_eq_false', Int.toNat_natCast, bne_iff_ne, beq_iff_eq, bne_eq_false_iff_eq, beq_eq_false_iff_ne, ne_eq] at c2
      refine .skip ?_
      refine .blk ?_
      refine .code ?_
      refine Wk.rg [0, 1] rfl rfl ?_
      refine arn (((k + 1) : Nat) : Int) rfl .no (.u rfl) (.u rfl) rfl (fun _ => by omega) (fun _ => wrap_i64 (by omega) (by omega)) ?_
      refine mv rfl .no (.u rfl) ?_
      refine .nil ?_
      refine We.lpo (k + 1) ?_ ?_ ?_ ?_ ?_
      · exact (ESub.cons rfl (evi (by omega)) (ESub.cons rfl (by first | rfl | exact evi (by omega)) (ESub.cons rfl rfl (ESub.cons rfl rfl (ESub.cons rfl rfl (ESub.cons rfl rfl ESub.nil))))))
      · exact MSub.nil
      · first | omega | (dsimp only; omega)
      · exact hGl0
      · refine ⟨?_, ?_⟩
        · (try dsimp only) <;> (first | omega | rfl | assumption | (simp; done))
        · (try dsimp only) <;> (exact cut_snoc hj (by omega))
  · have c1k := c1
    try simp only [decide_eq_true_eq, decide_eq_false_iff_not, Int.not_lt, Int.not_le, gt_iff_lt, ge_iff_le, Bool.or_eq_true, Bool.and_eq_true, Bool.or_eq_false_iff, Bool.not_eq_true', Bool.not_eq_false', Int.toNat_natCast, bne_iff_ne, beq_iff_eq, bne_eq_false_iff_eq, beq_eq_false_iff_ne, ne_eq] at c1
    refine .exit ?_
    refine .xcode ?_
    refine .xlp ?_
    refine .xblk ?_
    refine .code ?_
    refine .seq ?_
    refine Wk.rg [0, 1, 2] rfl rfl ?_
    refine mv rfl .no (.u rfl) ?_
    refine ln rfl .no Fx.sn31 (.u rfl) ?_
    refine asg rfl .no (.u rfl) ?_
    refine .nil ?_
    refine .code ?_
    refine .ret ?_
    refine We.fin0 Tryd.results24 (.tmp rfl .nil) ?_
    exact ⟨rfl, by rw [cutA_all least l 0 (fun j h => by have := hj j (by omega); omega)]; rfl⟩

theorem tHead_ok (m : Meta) (G : PM) (hw : m.wf) : Ct Tryd.prog 16 ([m.val] : List Value).toArray G [] (fun _ μ' u => μ' = [] ∧ u = .agg ((hdM m).cells).toArray) := by
  refine Ct.of Tryd.func16 rfl Tryd.ntmps16 rfl fun w0 hs0 => ?_
  refine .seq ?_
  refine Wk.rg [0, 1] rfl rfl ?_
  refine bx rfl (.u rfl) rfl ?_; intro b1
  refine al rfl FxTbA.zq26 ?_; intro b2
  refine .nil ?_
  refine .code ?_
  refine .seq ?_
  refine Wk.rg [0, 1, 2, 3, 4, 5, 6, 7, 8, 9] rfl rfl ?_
  refine fz rfl .no Fx.fo38_0 (.u rfl) ?_
  refine ld rfl .no FxTbA.ag5 (.u rfl) (fun _ => Rd.own (.there .here) (by first | exact wap_f rfl | rfl)) ?_
  refine fz rfl .no Fx.fo38_1 (.u rfl) ?_
  refine ld rfl .no FxTbA.ag24 (.u rfl) (fun _ => Rd.own (.there .here) (by first | exact wap_f rfl | rfl)) ?_
  refine fz rfl .no Fx.fo38_2 (.u rfl) ?_
  refine ld rfl .no FxTbA.ag24 (.u rfl) (fun _ => Rd.own (.there .here) (by first | exact wap_f rfl | rfl)) ?_
  refine fz rfl .no Fx.fo38_3 (.u rfl) ?_
  refine ld rfl .no FxTbA.ag24 (.u rfl) (fun _ => Rd.own (.there .here) (by first | exact wap_f rfl | rfl)) ?_
  refine bC rfl .no Fx.bp26_0_1_2_3_4 (.cons (.u rfl) rfl (.cons (.u rfl) rfl (.cons (.u rfl) rfl (.cons (.u rfl) rfl (.cons (.u rfl) rfl .nil))))) rfl ?_
  refine sw rfl (.u rfl) (.u rfl) rfl FxTbA.sz26 .here (by first | rfl | exact Meta.len _) (one5 rfl rfl rfl rfl rfl) ?_
  refine .nil ?_
  refine .code ?_
  refine .ret ?_
  refine We.fin0 Tryd.results16 (.cell rfl (fun w hw => run_loadVarN FxTbA.ag26 (RdN.own .here) ((by first | rfl | exact Meta.len _)) hw) .nil) ?_
  exact ⟨rfl, by rw [← hd_cells hw]; rfl⟩

end Go.Proofs.YtbdnclpopappeaaDoor

namespace Go.Proofs.YtbdnclpopappeaaDoor
set_option linter.unusedSimpArgs false
set_option linter.unusedVariables false
open Go.Tan Go.RowKit

namespace Fx
theorem cv3_105 : cvK Tryd.prog 3 105 = some .u64 := by kernel_rfl
theorem go62 : goFn Tryd.prog 62 = true := by kernel_rfl
end Fx
theorem rot_ok (x : W) (k : Int) (G : PM) : Ct Tryd.prog 62 ([U x, .int .i64 k] : List Value).toArray G [] (fun _ μ' u => μ' = [] ∧ u = U (rotI x k)) := by
  refine Ct.of Tryd.func62 rfl Tryd.ntmps62 rfl fun w0 hs0 => ?_
  refine .seq ?_
  refine Wk.rg [0] rfl rfl ?_
  refine asg rfl .no (.u rfl) ?_
  refine .nil ?_
  refine .code ?_
  refine .seq ?_
  refine Wk.rg [0, 1, 2, 3] rfl rfl ?_
  refine mv rfl .no (.u rfl) ?_
  refine ci rfl .no rfl Fx.cv3_105 (.u rfl) ?_
  refine bw (k := .u64) (b := 31#64) rfl .no rfl (.u rfl) (.u rfl) rfl ?_
  refine asg rfl .no (.u rfl) ?_
  refine .nil ?_
  refine .code ?_
  refine .seq ?_
  refine Wk.rg [0, 1, 2, 3, 4, 5, 6, 7, 8] rfl rfl ?_
  refine mv rfl .no (.u rfl) ?_
  refine mv rfl .no (.u rfl) ?_
  refine lw (k := .u32) rfl .no rfl (.u rfl) (.u rfl) (fun _ => Int.natCast_nonneg _) ?_
  refine mv rfl .no (.u rfl) ?_
  refine mv rfl .no (.u rfl) ?_
  refine bw (k := .u64) (a := 32#64) rfl .no rfl (.u rfl) (.u rfl) rfl ?_
  refine rw' (k := .u32) rfl .no (.u rfl) (.u rfl) (fun _ => Int.natCast_nonneg _) ?_
  refine bw (k := .u32) rfl .no rfl (.u rfl) (.u rfl) rfl ?_
  refine asg rfl .no (.u rfl) ?_
  refine .nil ?_
  refine .code ?_
  refine .ret ?_
  refine We.fin0 Tryd.results62 (.tmp rfl .nil) ?_
  exact ⟨rfl, rfl⟩

theorem mix_ok (a b c d : W) (G : PM) : Ct Tryd.prog 90 ([U a, U b, U c, U d] : List Value).toArray G [] (fun _ μ' u => μ' = [] ∧ u = mixV (mixW a b c d)) := by
  refine Ct.of Tryd.func90 rfl Tryd.ntmps90 rfl fun w0 hs0 => ?_
  refine .seq ?_
  refine Wk.rg [0, 1, 2, 3] rfl rfl ?_
  refine asg rfl .no (.u rfl) ?_
  refine asg rfl .no (.u rfl) ?_
  refine asg rfl .no (.u rfl) ?_
  refine asg rfl .no (.u rfl) ?_
  refine .nil ?_
  refine .code ?_
  refine .seq ?_
  refine Wk.rg [0, 1, 2, 3] rfl rfl ?_
  refine mv rfl .no (.u rfl) ?_
  refine mv rfl .no (.u rfl) ?_
  refine bw (k := .u32) rfl .no rfl (.u rfl) (.u rfl) rfl ?_
  refine asg rfl .no (.u rfl) ?_
  refine .nil ?_
  refine .code ?_
  refine .seq ?_
  refine Wk.rg [0, 1, 2, 3, 4] rfl rfl ?_
  refine mv rfl .no (.u rfl) ?_
  refine mv rfl .no (.u rfl) ?_
  refine bw (k := .u32) rfl .no rfl (.u rfl) (.u rfl) rfl ?_
  refine kv rfl .no Fx.go62 (Eva.cons (.u rfl) (Eva.cons (.u rfl) Eva.nil)) (fun _ => rot_ok _ _ _) ?_
  refine asg rfl .no (.u rfl) ?_
  refine .nil ?_
  refine .code ?_
  refine .seq ?_
  refine Wk.rg [0, 1, 2, 3] rfl rfl ?_
  refine mv rfl .no (.u rfl) ?_
  refine mv rfl .no (.u rfl) ?_
  refine bw (k := .u32) rfl .no rfl (.u rfl) (.u rfl) rfl ?_
  refine asg rfl .no (.u rfl) ?_
  refine .nil ?_
  refine .code ?_
  refine .seq ?_
  refine Wk.rg [0, 1, 2, 3, 4] rfl rfl ?_
  refine mv rfl .no (.u rfl) ?_
  refine mv rfl .no (.u rfl) ?_
  refine bw (k := .u32) rfl .no rfl (.u rfl) (.u rfl) rfl ?_
  refine kv rfl .no Fx.go62 (Eva.cons (.u rfl) (Eva.cons (.u rfl) Eva.nil)) (fun _ => rot_ok _ _ _) ?_
  refine asg rfl .no (.u rfl) ?_
  refine .nil ?_
  refine .code ?_
  refine .seq ?_
  refine Wk.rg [0, 1, 2, 3] rfl rfl ?_
  refine mv rfl .no (.u rfl) ?_
  refine mv rfl .no (.u rfl) ?_
  refine bw (k := .u32) rfl .no rfl (.u rfl) (.u rfl) rfl ?_
  refine asg rfl .no (.u rfl) ?_
  refine .nil ?_
  refine .code ?_
  refine .seq ?_
  refine Wk.rg [0, 1, 2, 3, 4] rfl rfl ?_
  refine mv rfl .no (.u rfl) ?_
  refine mv rfl .no (.u rfl) ?_
  refine bw (k := .u32) rfl .no rfl (.u rfl) (.u rfl) rfl ?_
  refine kv rfl .no Fx.go62 (Eva.cons (.u rfl) (Eva.cons (.u rfl) Eva.nil)) (fun _ => rot_ok _ _ _) ?_
  refine asg rfl .no (.u rfl) ?_
  refine .nil ?_
  refine .code ?_
  refine .seq ?_
  refine Wk.rg [0, 1, 2, 3] rfl rfl ?_
  refine mv rfl .no (.u rfl) ?_
  refine mv rfl .no (.u rfl) ?_
  refine bw (k := .u32) rfl .no rfl (.u rfl) (.u rfl) rfl ?_
  refine asg rfl .no (.u rfl) ?_
  refine .nil ?_
  refine .code ?_
  refine .seq ?_
  refine Wk.rg [0, 1, 2, 3, 4] rfl rfl ?_
  refine mv rfl .no (.u rfl) ?_
  refine mv rfl .no (.u rfl) ?_
  refine bw (k := .u32) rfl .no rfl (.u rfl) (.u rfl) rfl ?_
  refine kv rfl .no Fx.go62 (Eva.cons (.u rfl) (Eva.cons (.u rfl) Eva.nil)) (fun _ => rot_ok _ _ _) ?_
  refine asg rfl .no (.u rfl) ?_
  refine .nil ?_
  refine .code ?_
  refine .seq ?_
  refine Wk.rg [0, 1, 2, 3, 4, 5, 6, 7] rfl rfl ?_
  refine mv rfl .no (.u rfl) ?_
  refine mv rfl .no (.u rfl) ?_
  refine mv rfl .no (.u rfl) ?_
  refine mv rfl .no (.u rfl) ?_
  refine asg rfl .no (.u rfl) ?_
  refine asg rfl .no (.u rfl) ?_
  refine asg rfl .no (.u rfl) ?_
  refine asg rfl .no (.u rfl) ?_
  refine .nil ?_
  refine .code ?_
  refine .ret ?_
  refine We.fin0 Tryd.results90 (.tmp rfl (.tmp rfl (.tmp rfl (.tmp rfl .nil)))) ?_
  exact ⟨rfl, rfl⟩

end Go.Proofs.YtbdnclpopappeaaDoor

namespace Go.Proofs.YtbdnclpopappeaaDoor
set_option linter.unusedSimpArgs false
set_option linter.unusedVariables false
open Go.Tan Go.RowKit


end Go.Proofs.YtbdnclpopappeaaDoor

namespace Go.Proofs.YtbdnclpopappeaaDoor
set_option linter.unusedSimpArgs false
set_option linter.unusedVariables false
open Go.Tan Go.RowKit

namespace Fx
theorem se168 : slE Tryd.prog 168 = some (126, 1, 4) := by kernel_rfl
theorem sn168 : (slE Tryd.prog 168).isSome = true := by kernel_rfl
theorem mix : Tryd.prog.follows .mixedOrders = true := by kernel_rfl
theorem ag126 : aggN Tryd.prog 126 = some none := by kernel_rfl
theorem se36 : slE Tryd.prog 36 = some (5, 1, 1) := by kernel_rfl
theorem ag5 : aggN Tryd.prog 5 = some none := by kernel_rfl
theorem cv5_126 : cvK Tryd.prog 5 126 = some .u32 := by kernel_rfl
theorem sz126 : szT Tryd.prog 126 = some 1 := by kernel_rfl
theorem zq156 : zrL Tryd.prog 156 = some (ba 64 (fun _ => 0#8)) := by kernel_rfl
theorem bp166_0_1_2_3 : bPl Tryd.prog 166 [0, 1, 2, 3] = some ([.int .u32 0, .int .u32 0, .int .u32 0, .int .u32 0, .int .u32 0, .int .u32 0, .int .u32 0, .int .u32 0, .int .u32 0, .int .u32 0, .int .u32 0, .int .u32 0, .int .u32 0, .int .u32 0, .int .u32 0, .int .u32 0], [(0, 1), (1, 1), (2, 1), (3, 1)]) := by kernel_rfl
theorem zr166 : zrL Tryd.prog 166 = some ([.int .u32 0, .int .u32 0, .int .u32 0, .int .u32 0, .int .u32 0, .int .u32 0, .int .u32 0, .int .u32 0, .int .u32 0, .int .u32 0, .int .u32 0, .int .u32 0, .int .u32 0, .int .u32 0, .int .u32 0, .int .u32 0]) := by kernel_rfl
theorem sz166 : szT Tryd.prog 166 = some 16 := by kernel_rfl
theorem ar166 : arE Tryd.prog 166 = some (16, 126, 1) := by kernel_rfl
theorem ar22 : arE Tryd.prog 22 = some (32, 5, 1) := by kernel_rfl
theorem go89 : goFn Tryd.prog 89 = true := by kernel_rfl
theorem ar112 : arE Tryd.prog 112 = some (12, 5, 1) := by kernel_rfl
theorem ag166 : aggN Tryd.prog 166 = some (some 16) := by kernel_rfl
theorem go90 : goFn Tryd.prog 90 = true := by kernel_rfl
theorem cv126_5 : cvK Tryd.prog 126 5 = some .u8 := by kernel_rfl
theorem ar156 : arE Tryd.prog 156 = some (64, 5, 1) := by kernel_rfl
theorem sz5 : szT Tryd.prog 5 = some 1 := by kernel_rfl
theorem ag156 : aggN Tryd.prog 156 = some (some 64) := by kernel_rfl
theorem sz156 : szT Tryd.prog 156 = some 64 := by kernel_rfl
end Fx
theorem words_ok (y : Nat → W) (f : Nat → Y) (m bt bk off n cap kn : Nat) (T T2 : TypeId) (G : PM) (hm : off + n ≤ m) (hk4 : 4 * n ≤ kn) (hn : n ≤ 1000) : Ct Tryd.prog 89 ([(Sh.mk (some ⟨bt, off, none⟩) cap).val n, (Sh.mk (some ⟨bk, 0, none⟩) kn).val kn] : List Value).toArray G ([.blk bt (cl (wa m y) T), .blk bk (cl (ba kn f) T2)] : Mem) (fun G' μ' u => μ' = [.blk bt (cl (wa m (setW y f off n)) T), .blk bk (cl (ba kn f) T2)] ∧ u = .tuple #[]) := by
  refine Ct.of Tryd.func89 rfl Tryd.ntmps89 rfl fun w0 hs0 => ?_
  refine .seq ?_
  refine Wk.rg [0, 1, 2] rfl rfl ?_
  refine mv rfl .no (.u rfl) ?_
  refine ln rfl .no Fx.sn168 (.u rfl) ?_
  refine mv rfl .no (.u rfl) ?_
  refine .nil ?_
  refine .code ?_
  refine .block ?_
  refine Wk.lop (α := Nat) (fun i => [(8, true, .int .i64 (i : Int))]) (fun i => [.blk bt (cl (wa m (setW y f off i)) T)])
    (fun i Gl => i ≤ n) (fun i => n - i) 0 [(0, true, _), (1, true, _), (7, true, _)] [.blk bk _]
    (ESub.cons rfl rfl (ESub.cons rfl rfl (ESub.cons rfl rfl (ESub.cons rfl rfl ESub.nil))))
    (MSub.cons .here rfl (MSub.cons .here rfl MSub.nil)) ?_ ?_
  · show 0 ≤ n; omega
  intro i N0 Gl0 hN0 hGl0 hF0
  try dsimp only at hF0 hN0 ⊢
  have hi : i ≤ n := hF0
  refine .seq ?_
  refine Wk.rg [0] rfl rfl ?_
  refine cp rfl .no (.u rfl) (.u rfl) rfl ?_
  refine .nil ?_
  refine .code ?_
  refine .seq ?_
  refine .cond rfl (fun c1 => ?_) (fun c1 => ?_)
  · have c1k := c1
    try simp only [decide_eq_true_eq, decide_eq_false_iff_not, Int.not_lt, Int.not_le, gt_iff_lt, ge_iff_le, Bool.or_eq_true, Bool.and_eq_true, Bool.or_eq_false_iff, Bool.not_eq_true', Bool.not_eq_false', Int.toNat_natCast] at c1
    refine .skip ?_
    refine .code ?_
    refine .seq ?_
    refine .block ?_
    refine .seq ?_
    refine Wk.rg [0, 1] rfl rfl ?_
    refine mv rfl .no (.u rfl) ?_
    refine asg rfl .no (.u rfl) ?_
    refine .nil ?_
    refine .code ?_
    refine .seq ?_
    refine Wk.rg [0] rfl rfl ?_
    refine asg rfl .no (.u rfl) ?_
    refine .nil ?_
    refine .code ?_
    refine .block ?_
    refine Wk.lop (α := Nat) (fun c => [(5, true, .int .i64 (3 - (c : Int)))]) (fun c => [.blk bt (cl (wa m (upd (setW y f off i) (off + i) (shW (setW y f off i (off + i)) f i c))) T)])
      (fun c Gl => c ≤ 4) (fun c => 4 - c) 0 [(0, true, _), (1, true, _), (4, true, _), (7, true, _), (8, true, _)] [.blk bk _]
      (ESub.cons rfl rfl (ESub.cons rfl rfl (ESub.cons rfl rfl (ESub.cons rfl rfl (ESub.cons rfl rfl (ESub.cons rfl rfl ESub.nil))))))
      (MSub.cons .here ws_start (MSub.cons .here rfl MSub.nil)) ?_ ?_
    · show 0 ≤ 4; omega
    intro c N1 Gl1 hN1 hGl1 hF1
    try dsimp only at hF1 hN1 ⊢
    have hc : c ≤ 4 := hF1
    refine .seq ?_
    refine .seq ?_
    refine Wk.rg [0, 1] rfl rfl ?_
    refine mv rfl .no (.u rfl) ?_
    refine cp rfl .no (.u rfl) (.u rfl) rfl ?_
    refine .nil ?_
    refine .code ?_
    refine .cond rfl (fun c2 => ?_) (fun c2 => ?_)
    · have c2k := c2
      try simp only [decide_eq_true_eq, decide_eq_false_iff_not, Int.not_lt, Int.not_le, gt_iff_lt, ge_iff_le, Bool.or_eq_true, Bool.and_eq_true, Bool.or_eq_false_iff, Bool.not_eq_true', Bool.not_eq_false', Int.toNat_natCast] at c2
      refine .skip ?_
      refine .code ?_
      refine .seq ?_
      refine .block ?_
      refine Wk.draw (mc := ⟨false, false⟩) [0, 1, 2, 3, 4, 5, 6, 7, 8, 9, 10, 11, 12, 13, 14, 15, 16, 17] Fx.mix (by kernel_rfl) ?_
      refine mv rfl .no (.u rfl) ?_
      refine mv rfl .no (.u rfl) ?_
      refine mv rfl .no (.u rfl) ?_
      refine mv rfl .no (.u rfl) ?_
      refine ih rfl .no Fx.se168 (.u rfl) (.u rfl) (fun _ => by omega) (fun _ => by omega) (fun _ => rfl) ?_
      refine ld rfl .no Fx.ag126 (.u rfl) (fun _ => Rd.own .here (wa_at1 (off + i) (by show off + _ * 1 = off + i; omega) (by omega))) ?_
      refine lw (k := .u32) rfl .no rfl (.u rfl) (.u rfl) (fun _ => by decide) ?_
      refine mv rfl .no (.u rfl) ?_
      refine mv rfl .no (.u rfl) ?_
      refine ar rfl .no (.u rfl) (.u rfl) rfl (fun _ => wrap_i64 (by omega) (by omega)) ?_
      refine mv rfl .no (.u rfl) ?_
      refine ar rfl .no (.u rfl) (.u rfl) rfl (fun _ => wrap_i64 (by omega) (by omega)) ?_
      refine ih rfl .no Fx.se36 (.u rfl) (.u rfl) (fun _ => by omega) (fun _ => by omega) (fun _ => rfl) ?_
      refine ld rfl .no Fx.ag5 (.u rfl) (fun _ => Rd.own (.there .here) (ba_at1 (4 * i + (3 - c)) (by show 0 + _ * 1 = _; omega) (by omega))) ?_
      refine cu (k := .u8) rfl .no rfl Fx.cv5_126 (.u rfl) ?_
      refine bw (k := .u32) rfl .no rfl (.u rfl) (.u rfl) rfl ?_
      refine ih rfl .no Fx.se168 (.u rfl) (.u rfl) (fun _ => by omega) (fun _ => by omega) (fun _ => rfl) ?_
      refine s1 rfl (.u rfl) (.u rfl) rfl Fx.sz126 .here (by rw [wa_len]; show off + _ * 1 < m; omega) (wa_set1 (off + i) (by show off + _ * 1 = off + i; omega)) ?_
      refine .nil ?_
      refine .blk ?_
      refine .code ?_
      refine Wk.rg [0, 1, 2] rfl rfl ?_
      refine mv rfl .no (.u rfl) ?_
      refine ar rfl .no (.u rfl) (.u rfl) rfl (fun _ => wrap_i64 (by omega) (by omega)) ?_
      refine asg rfl .no (.u rfl) ?_
      refine .nil ?_
      refine We.lpo (c + 1) ?_ ?_ ?_ ?_ ?_
      · exact (ESub.cons rfl (congrArg _ (by omega)) (ESub.cons rfl rfl (ESub.cons rfl rfl (ESub.cons rfl rfl (ESub.cons rfl rfl (ESub.cons rfl rfl ESub.nil))))))
      · exact (MSub.cons .here (ws_step (by rw [upd_at]; rfl)) (MSub.cons .here rfl MSub.nil))
      · first | omega | (dsimp only; omega)
      · exact hGl1
      · show c + 1 ≤ 4; omega
    · have c2k := c2
      try simp only [decide_eq_true_eq, decide_eq_false_iff_not, Int.not_lt, Int.not_le, gt_iff_lt, ge_iff_le, Bool.or_eq_true, Bool.and_eq_true, Bool.or_eq_false_iff, Bool.not_eq_true', Bool.not_eq_false', Int.toNat_natCast] at c2
      refine .exit ?_
      refine .xcode ?_
      refine .xlp ?_
      refine .xblk ?_
      refine .blk ?_
      refine .code ?_
      refine Wk.rg [0, 1] rfl rfl ?_
      refine ar rfl .no (.u rfl) (.u rfl) rfl (fun _ => wrap_i64 (by omega) (by omega)) ?_
      refine mv rfl .no (.u rfl) ?_
      refine .nil ?_
      refine We.lpo (i + 1) ?_ ?_ ?_ ?_ ?_
      · exact (ESub.cons rfl rfl (ESub.cons rfl rfl (ESub.cons rfl rfl (ESub.cons rfl rfl ESub.nil))))
      · exact (MSub.cons .here (ws_end (by omega)) (MSub.cons .here rfl MSub.nil))
      · first | omega | (dsimp only; omega)
      · exact hGl0.trans hGl1
      · show i + 1 ≤ n; omega
  · have c1k := c1
    try simp only [decide_eq_true_eq, decide_eq_false_iff_not, Int.not_lt, Int.not_le, gt_iff_lt, ge_iff_le, Bool.or_eq_true, Bool.and_eq_true, Bool.or_eq_false_iff, Bool.not_eq_true', Bool.not_eq_false', Int.toNat_natCast] at c1
    refine .exit ?_
    refine .xcode ?_
    refine .xlp ?_
    refine .xblk ?_
    refine .nil ?_
    refine We.fin Tryd.results89 .nil (MSub.cons .here rfl (MSub.cons .here rfl MSub.nil)) ?_
    obtain rfl : i = n := by omega
    exact ⟨rfl, rfl⟩

theorem Block_ok (key nonce : Nat → Y) (count : W) (G : PM) : Ct Tryd.prog 81 ([.agg (ba 32 key).toArray, .agg (ba 12 nonce).toArray, U count] : List Value).toArray G [] (fun _ μ' u => μ' = [] ∧ u = .agg (ba 64 (chaB key nonce count)).toArray) := by
  refine Ct.of Tryd.func81 rfl Tryd.ntmps81 rfl fun w0 hs0 => ?_
  refine .seq ?_
  refine Wk.rg [0, 1, 2] rfl rfl ?_
  refine bx rfl (.u rfl) rfl ?_; intro b3
  refine bx rfl (.u rfl) rfl ?_; intro b4
  refine al rfl Fx.zq156 ?_; intro b6
  refine .nil ?_
  refine .code ?_
  refine .seq ?_
  refine Wk.rg [0, 1, 2] rfl rfl ?_
  refine bC rfl .no Fx.bp166_0_1_2_3 (.cons (.u rfl) rfl (.cons (.u rfl) rfl (.cons (.u rfl) rfl (.cons (.u rfl) rfl .nil)))) rfl ?_
  refine al rfl Fx.zr166 ?_; intro b7
  refine sw rfl (.u rfl) (.u rfl) rfl Fx.sz166 .here rfl (by decide) ?_
  refine .nil ?_
  refine .code ?_
  refine .seq ?_
  refine Wk.draw (mc := ⟨true, false⟩) [0, 1, 2] Fx.mix (by kernel_rfl) ?_
  refine sab rfl .no Fx.ar166 (.u rfl) (.u rfl) (.u rfl) (fun _ => by decide) (fun _ => by decide) (fun _ => by decide) (fun _ => by decide) ?_
  refine sa0 rfl .no Fx.ar22 (.u rfl) ?_
  refine ka rfl (.inl rfl) Fx.go89 (Eva.cons (.u rfl) (Eva.cons (.u rfl) Eva.nil)) (take2 .here (.there (.there .here))) (words_ok (x0) key 16 b7 b3 4 8 12 32 166 22 _ (by decide) (by decide) (by decide)) ?_
  rintro u G2 μ2 hG2 ⟨rfl, rfl⟩
  simp only [lay, List.cons_append, List.nil_append, setW_x1, setW_x2]
  refine .nil ?_
  refine .code ?_
  refine .seq ?_
  refine Wk.rg [0, 1, 2] rfl rfl ?_
  refine mv rfl .no (.u rfl) ?_
  refine iA rfl .no Fx.ar166 (.u rfl) (.u rfl) (fun _ => by decide) (fun _ => by decide) ?_
  refine s1 rfl (.u rfl) (.u rfl) rfl Fx.sz126 .here (by rw [wa_len]; decide) (wa_set1 12 rfl) ?_
  refine .nil ?_
  refine .code ?_
  refine .seq ?_
  refine Wk.draw (mc := ⟨true, false⟩) [0, 1, 2] Fx.mix (by kernel_rfl) ?_
  refine sal rfl .no Fx.ar166 (.u rfl) (.u rfl) (fun _ => by decide) (fun _ => by decide) ?_
  refine sa0 rfl .no Fx.ar112 (.u rfl) ?_
  refine ka rfl (.inl rfl) Fx.go89 (Eva.cons (.u rfl) (Eva.cons (.u rfl) Eva.nil)) (take2 .here (.there (.there .here))) (words_ok (upd (x1 key 8) 12 count) nonce 16 b7 b4 13 3 3 12 166 112 _ (by decide) (by decide) (by decide)) ?_
  rintro u G2 μ2 hG2 ⟨rfl, rfl⟩
  simp only [lay, List.cons_append, List.nil_append, setW_x1, setW_x2]
  refine .nil ?_
  refine .code ?_
  refine .seq ?_
  refine Wk.rg [0, 1, 2] rfl rfl ?_
  refine lA rfl .no Fx.ag166 (.u rfl) (fun _ => RdN.own .here) (fun _ => rfl) ?_
  refine al rfl Fx.zr166 ?_; intro b8
  refine sw rfl (.u rfl) (.u rfl) rfl Fx.sz166 .here rfl (wa_one _ _) ?_
  refine .nil ?_
  refine .code ?_
  refine .seq ?_
  refine .seq ?_
  refine Wk.rg [0] rfl rfl ?_
  refine mv rfl .no (.u rfl) ?_
  refine .nil ?_
  refine .code ?_
  refine .block ?_
  refine Wk.lop (α := Nat) (fun r => [(24, true, .int .i64 (r : Int))]) (fun r => [.blk b8 (cl (wa 16 (rounds (x2 key nonce count 3) r)) 166)])
    (fun r Gl => r ≤ 10) (fun r => 10 - r) 0 [(6, true, _), (7, true, _), (8, true, _)] [.blk b7 _, .blk b4 _, .blk b3 _, .blk b6 _]
    (ESub.cons rfl rfl (ESub.cons rfl rfl (ESub.cons rfl rfl (ESub.cons rfl rfl ESub.nil))))
    (MSub.cons .here rfl (MSub.cons .here rfl (MSub.cons .here rfl (MSub.cons .here rfl (MSub.cons .here rfl MSub.nil))))) ?_ ?_
  · show 0 ≤ 10; omega
  intro r N0 Gl0 hN0 hGl0 hF0
  try dsimp only at hF0 hN0 ⊢
  have hr : r ≤ 10 := hF0
  refine .seq ?_
  refine Wk.rg [0] rfl rfl ?_
  refine cp rfl .no (.u rfl) (.u rfl) rfl ?_
  refine .nil ?_
  refine .code ?_
  refine .seq ?_
  refine .cond rfl (fun c1 => ?_) (fun c1 => ?_)
  · have c1k := c1
    try simp only [decide_eq_true_eq, decide_eq_false_iff_not, Int.not_lt, Int.not_le, gt_iff_lt, ge_iff_le, Bool.or_eq_true, Bool.and_eq_true, Bool.or_eq_false_iff, Bool.not_eq_true', Bool.not_eq_false', Int.toNat_natCast] at c1
    refine .skip ?_
    refine .code ?_
    refine .seq ?_
    refine .block ?_
    refine .seq ?_
    refine .seq ?_
    refine Wk.rg [0] rfl rfl ?_
    refine mv rfl .no (.u rfl) ?_
    refine .nil ?_
    refine .code ?_
    refine .block ?_
    refine Wk.lop (α := Nat) (fun q => [(26, true, .int .i64 (q : Int))]) (fun q => [.blk b8 (cl (wa 16 (colsM (rounds (x2 key nonce count 3) r) q)) 166)])
      (fun q Gl => q ≤ 4) (fun q => 4 - q) 0 [(6, true, _), (7, true, _), (8, true, _), (24, true, _)] [.blk b7 _, .blk b4 _, .blk b3 _, .blk b6 _]
      (ESub.cons rfl rfl (ESub.cons rfl rfl (ESub.cons rfl rfl (ESub.cons rfl rfl (ESub.cons rfl rfl ESub.nil)))))
      (MSub.cons .here rfl (MSub.cons .here rfl (MSub.cons .here rfl (MSub.cons .here rfl (MSub.cons .here rfl MSub.nil))))) ?_ ?_
    · show 0 ≤ 4; omega
    intro q N1 Gl1 hN1 hGl1 hF1
    try dsimp only at hF1 hN1 ⊢
    have hq : q ≤ 4 := hF1
    refine .seq ?_
    refine Wk.rg [0] rfl rfl ?_
    refine cp rfl .no (.u rfl) (.u rfl) rfl ?_
    refine .nil ?_
    refine .code ?_
    refine .seq ?_
    refine .cond rfl (fun c2 => ?_) (fun c2 => ?_)
    · have c2k := c2
      try simp only [decide_eq_true_eq, decide_eq_false_iff_not, Int.not_lt, Int.not_le, gt_iff_lt, ge_iff_le, Bool.or_eq_true, Bool.and_eq_true, Bool.or_eq_false_iff, Bool.not_eq_true', Bool.not_eq_false', Int.toNat_natCast] at c2
      refine .skip ?_
      refine .code ?_
      refine .seq ?_
      refine .block ?_
      refine .seq ?_
      refine Wk.rg [0, 1] rfl rfl ?_
      refine mv rfl .no (.u rfl) ?_
      refine asg rfl .no (.u rfl) ?_
      refine .nil ?_
      refine .code ?_
      refine Wk.draw (mc := ⟨false, false⟩) [0, 1, 2, 3, 4, 5, 6, 7, 8, 9, 10, 11, 12, 13, 14, 15, 16, 17, 18, 19, 20, 21, 22, 23, 24, 25, 26, 27, 28, 29, 30, 31, 32, 33, 34, 35] Fx.mix (by kernel_rfl) ?_
      refine mv rfl .no (.u rfl) ?_
      refine mv rfl .no (.u rfl) ?_
      refine ar rfl .no (.u rfl) (.u rfl) rfl (fun _ => wrap_i64 (by omega) (by omega)) ?_
      refine mv rfl .no (.u rfl) ?_
      refine ar rfl .no (.u rfl) (.u rfl) rfl (fun _ => wrap_i64 (by omega) (by omega)) ?_
      refine mv rfl .no (.u rfl) ?_
      refine ar rfl .no (.u rfl) (.u rfl) rfl (fun _ => wrap_i64 (by omega) (by omega)) ?_
      refine mv rfl .no (.u rfl) ?_
      refine iA rfl .no Fx.ar166 (.u rfl) (.u rfl) (fun _ => by omega) (fun _ => by omega) ?_
      refine ld rfl .no Fx.ag126 (.u rfl) (fun _ => Rd.own .here (wa_at1 q (by omega) (by omega))) ?_
      refine mv rfl .no (.u rfl) ?_
      refine ar rfl .no (.u rfl) (.u rfl) rfl (fun _ => wrap_i64 (by omega) (by omega)) ?_
      refine iA rfl .no Fx.ar166 (.u rfl) (.u rfl) (fun _ => by omega) (fun _ => by omega) ?_
      refine ld rfl .no Fx.ag126 (.u rfl) (fun _ => Rd.own .here (wa_at1 (4 + q) (by omega) (by omega))) ?_
      refine mv rfl .no (.u rfl) ?_
      refine ar rfl .no (.u rfl) (.u rfl) rfl (fun _ => wrap_i64 (by omega) (by omega)) ?_
      refine iA rfl .no Fx.ar166 (.u rfl) (.u rfl) (fun _ => by omega) (fun _ => by omega) ?_
      refine ld rfl .no Fx.ag126 (.u rfl) (fun _ => Rd.own .here (wa_at1 (8 + q) (by omega) (by omega))) ?_
      refine mv rfl .no (.u rfl) ?_
      refine ar rfl .no (.u rfl) (.u rfl) rfl (fun _ => wrap_i64 (by omega) (by omega)) ?_
      refine iA rfl .no Fx.ar166 (.u rfl) (.u rfl) (fun _ => by omega) (fun _ => by omega) ?_
      refine ld rfl .no Fx.ag126 (.u rfl) (fun _ => Rd.own .here (wa_at1 (12 + q) (by omega) (by omega))) ?_
      refine kv rfl .no Fx.go90 (Eva.cons (.u rfl) (Eva.cons (.u rfl) (Eva.cons (.u rfl) (Eva.cons (.u rfl) Eva.nil)))) (fun _ => mix_ok _ _ _ _ _) ?_
      refine mv rfl .no (.u rfl) ?_
      refine ex rfl .no (.u rfl) rfl ?_
      refine ex rfl .no (.u rfl) rfl ?_
      refine ex rfl .no (.u rfl) rfl ?_
      refine ex rfl .no (.u rfl) rfl ?_
      refine iA rfl .no Fx.ar166 (.u rfl) (.u rfl) (fun _ => by omega) (fun _ => by omega) ?_
      refine s1 rfl (.u rfl) (.u rfl) rfl Fx.sz126 .here (by rw [wa_len]; omega) (wa_set1 q (by omega)) ?_
      refine iA rfl .no Fx.ar166 (.u rfl) (.u rfl) (fun _ => by omega) (fun _ => by omega) ?_
      refine s1 rfl (.u rfl) (.u rfl) rfl Fx.sz126 .here (by rw [wa_len]; omega) (wa_set1 (4 + q) (by omega)) ?_
      refine iA rfl .no Fx.ar166 (.u rfl) (.u rfl) (fun _ => by omega) (fun _ => by omega) ?_
      refine s1 rfl (.u rfl) (.u rfl) rfl Fx.sz126 .here (by rw [wa_len]; omega) (wa_set1 (8 + q) (by omega)) ?_
      refine iA rfl .no Fx.ar166 (.u rfl) (.u rfl) (fun _ => by omega) (fun _ => by omega) ?_
      refine s1 rfl (.u rfl) (.u rfl) rfl Fx.sz126 .here (by rw [wa_len]; omega) (wa_set1 (12 + q) (by omega)) ?_
      refine .nil ?_
      refine .blk ?_
      refine .code ?_
      refine Wk.rg [0, 1] rfl rfl ?_
      refine ar rfl .no (.u rfl) (.u rfl) rfl (fun _ => wrap_i64 (by omega) (by omega)) ?_
      refine mv rfl .no (.u rfl) ?_
      refine .nil ?_
      refine We.lpo (q + 1) ?_ ?_ ?_ ?_ ?_
      · exact (ESub.cons rfl rfl (ESub.cons rfl rfl (ESub.cons rfl rfl (ESub.cons rfl rfl (ESub.cons rfl rfl ESub.nil)))))
      · exact (MSub.cons .here rfl (MSub.cons .here rfl (MSub.cons .here rfl (MSub.cons .here rfl (MSub.cons .here rfl MSub.nil)))))
      · first | omega | (dsimp only; omega)
      · exact hGl1
      · show q + 1 ≤ 4; omega
    · have c2k := c2
      try simp only [decide_eq_true_eq, decide_eq_false_iff_not, Int.not_lt, Int.not_le, gt_iff_lt, ge_iff_le, Bool.or_eq_true, Bool.and_eq_true, Bool.or_eq_false_iff, Bool.not_eq_true', Bool.not_eq_false', Int.toNat_natCast] at c2
      refine .exit ?_
      refine .xcode ?_
      refine .xlp ?_
      refine .xblk ?_
      refine .code ?_
      refine .seq ?_
      refine Wk.rg [0, 1, 2, 3, 4, 5, 6, 7, 8, 9, 10, 11, 12, 13, 14, 15, 16, 17, 18, 19, 20, 21] rfl rfl ?_
      obtain rfl : q = 4 := by omega
      simp only [colsM_eq (rounds (x2 key nonce count 3) r) 4 (Nat.le_refl 4)]
      refine iA rfl .no Fx.ar166 (.u rfl) (.u rfl) (fun _ => by decide) (fun _ => by decide) ?_
      refine ld rfl .no Fx.ag126 (.u rfl) (fun _ => Rd.own .here (wa_at1 0 rfl (by decide))) ?_
      refine iA rfl .no Fx.ar166 (.u rfl) (.u rfl) (fun _ => by decide) (fun _ => by decide) ?_
      refine ld rfl .no Fx.ag126 (.u rfl) (fun _ => Rd.own .here (wa_at1 5 rfl (by decide))) ?_
      refine iA rfl .no Fx.ar166 (.u rfl) (.u rfl) (fun _ => by decide) (fun _ => by decide) ?_
      refine ld rfl .no Fx.ag126 (.u rfl) (fun _ => Rd.own .here (wa_at1 10 rfl (by decide))) ?_
      refine iA rfl .no Fx.ar166 (.u rfl) (.u rfl) (fun _ => by decide) (fun _ => by decide) ?_
      refine ld rfl .no Fx.ag126 (.u rfl) (fun _ => Rd.own .here (wa_at1 15 rfl (by decide))) ?_
      refine kv rfl .no Fx.go90 (Eva.cons (.u rfl) (Eva.cons (.u rfl) (Eva.cons (.u rfl) (Eva.cons (.u rfl) Eva.nil)))) (fun _ => mix_ok _ _ _ _ _) ?_
      refine mv rfl .no (.u rfl) ?_
      refine ex rfl .no (.u rfl) rfl ?_
      refine ex rfl .no (.u rfl) rfl ?_
      refine ex rfl .no (.u rfl) rfl ?_
      refine ex rfl .no (.u rfl) rfl ?_
      refine iA rfl .no Fx.ar166 (.u rfl) (.u rfl) (fun _ => by decide) (fun _ => by decide) ?_
      refine s1 rfl (.u rfl) (.u rfl) rfl Fx.sz126 .here (by rw [wa_len]; decide) (wa_set1 0 rfl) ?_
      refine iA rfl .no Fx.ar166 (.u rfl) (.u rfl) (fun _ => by decide) (fun _ => by decide) ?_
      refine s1 rfl (.u rfl) (.u rfl) rfl Fx.sz126 .here (by rw [wa_len]; decide) (wa_set1 5 rfl) ?_
      refine iA rfl .no Fx.ar166 (.u rfl) (.u rfl) (fun _ => by decide) (fun _ => by decide) ?_
      refine s1 rfl (.u rfl) (.u rfl) rfl Fx.sz126 .here (by rw [wa_len]; decide) (wa_set1 10 rfl) ?_
      refine iA rfl .no Fx.ar166 (.u rfl) (.u rfl) (fun _ => by decide) (fun _ => by decide) ?_
      refine s1 rfl (.u rfl) (.u rfl) rfl Fx.sz126 .here (by rw [wa_len]; decide) (wa_set1 15 rfl) ?_
      refine .nil ?_
      refine .code ?_
      refine .seq ?_
      refine Wk.rg [0, 1, 2, 3, 4, 5, 6, 7, 8, 9, 10, 11, 12, 13, 14, 15, 16, 17, 18, 19, 20, 21] rfl rfl ?_
      refine iA rfl .no Fx.ar166 (.u rfl) (.u rfl) (fun _ => by decide) (fun _ => by decide) ?_
      refine ld rfl .no Fx.ag126 (.u rfl) (fun _ => Rd.own .here (wa_at1 1 rfl (by decide))) ?_
      refine iA rfl .no Fx.ar166 (.u rfl) (.u rfl) (fun _ => by decide) (fun _ => by decide) ?_
      refine ld rfl .no Fx.ag126 (.u rfl) (fun _ => Rd.own .here (wa_at1 6 rfl (by decide))) ?_
      refine iA rfl .no Fx.ar166 (.u rfl) (.u rfl) (fun _ => by decide) (fun _ => by decide) ?_
      refine ld rfl .no Fx.ag126 (.u rfl) (fun _ => Rd.own .here (wa_at1 11 rfl (by decide))) ?_
      refine iA rfl .no Fx.ar166 (.u rfl) (.u rfl) (fun _ => by decide) (fun _ => by decide) ?_
      refine ld rfl .no Fx.ag126 (.u rfl) (fun _ => Rd.own .here (wa_at1 12 rfl (by decide))) ?_
      refine kv rfl .no Fx.go90 (Eva.cons (.u rfl) (Eva.cons (.u rfl) (Eva.cons (.u rfl) (Eva.cons (.u rfl) Eva.nil)))) (fun _ => mix_ok _ _ _ _ _) ?_
      refine mv rfl .no (.u rfl) ?_
      refine ex rfl .no (.u rfl) rfl ?_
      refine ex rfl .no (.u rfl) rfl ?_
      refine ex rfl .no (.u rfl) rfl ?_
      refine ex rfl .no (.u rfl) rfl ?_
      refine iA rfl .no Fx.ar166 (.u rfl) (.u rfl) (fun _ => by decide) (fun _ => by decide) ?_
      refine s1 rfl (.u rfl) (.u rfl) rfl Fx.sz126 .here (by rw [wa_len]; decide) (wa_set1 1 rfl) ?_
      refine iA rfl .no Fx.ar166 (.u rfl) (.u rfl) (fun _ => by decide) (fun _ => by decide) ?_
      refine s1 rfl (.u rfl) (.u rfl) rfl Fx.sz126 .here (by rw [wa_len]; decide) (wa_set1 6 rfl) ?_
      refine iA rfl .no Fx.ar166 (.u rfl) (.u rfl) (fun _ => by decide) (fun _ => by decide) ?_
      refine s1 rfl (.u rfl) (.u rfl) rfl Fx.sz126 .here (by rw [wa_len]; decide) (wa_set1 11 rfl) ?_
      refine iA rfl .no Fx.ar166 (.u rfl) (.u rfl) (fun _ => by decide) (fun _ => by decide) ?_
      refine s1 rfl (.u rfl) (.u rfl) rfl Fx.sz126 .here (by rw [wa_len]; decide) (wa_set1 12 rfl) ?_
      refine .nil ?_
      refine .code ?_
      refine .seq ?_
      refine Wk.rg [0, 1, 2, 3, 4, 5, 6, 7, 8, 9, 10, 11, 12, 13, 14, 15, 16, 17, 18, 19, 20, 21] rfl rfl ?_
      refine iA rfl .no Fx.ar166 (.u rfl) (.u rfl) (fun _ => by decide) (fun _ => by decide) ?_
      refine ld rfl .no Fx.ag126 (.u rfl) (fun _ => Rd.own .here (wa_at1 2 rfl (by decide))) ?_
      refine iA rfl .no Fx.ar166 (.u rfl) (.u rfl) (fun _ => by decide) (fun _ => by decide) ?_
      refine ld rfl .no Fx.ag126 (.u rfl) (fun _ => Rd.own .here (wa_at1 7 rfl (by decide))) ?_
      refine iA rfl .no Fx.ar166 (.u rfl) (.u rfl) (fun _ => by decide) (fun _ => by decide) ?_
      refine ld rfl .no Fx.ag126 (.u rfl) (fun _ => Rd.own .here (wa_at1 8 rfl (by decide))) ?_
      refine iA rfl .no Fx.ar166 (.u rfl) (.u rfl) (fun _ => by decide) (fun _ => by decide) ?_
      refine ld rfl .no Fx.ag126 (.u rfl) (fun _ => Rd.own .here (wa_at1 13 rfl (by decide))) ?_
      refine kv rfl .no Fx.go90 (Eva.cons (.u rfl) (Eva.cons (.u rfl) (Eva.cons (.u rfl) (Eva.cons (.u rfl) Eva.nil)))) (fun _ => mix_ok _ _ _ _ _) ?_
      refine mv rfl .no (.u rfl) ?_
      refine ex rfl .no (.u rfl) rfl ?_
      refine ex rfl .no (.u rfl) rfl ?_
      refine ex rfl .no (.u rfl) rfl ?_
      refine ex rfl .no (.u rfl) rfl ?_
      refine iA rfl .no Fx.ar166 (.u rfl) (.u rfl) (fun _ => by decide) (fun _ => by decide) ?_
      refine s1 rfl (.u rfl) (.u rfl) rfl Fx.sz126 .here (by rw [wa_len]; decide) (wa_set1 2 rfl) ?_
      refine iA rfl .no Fx.ar166 (.u rfl) (.u rfl) (fun _ => by decide) (fun _ => by decide) ?_
      refine s1 rfl (.u rfl) (.u rfl) rfl Fx.sz126 .here (by rw [wa_len]; decide) (wa_set1 7 rfl) ?_
      refine iA rfl .no Fx.ar166 (.u rfl) (.u rfl) (fun _ => by decide) (fun _ => by decide) ?_
      refine s1 rfl (.u rfl) (.u rfl) rfl Fx.sz126 .here (by rw [wa_len]; decide) (wa_set1 8 rfl) ?_
      refine iA rfl .no Fx.ar166 (.u rfl) (.u rfl) (fun _ => by decide) (fun _ => by decide) ?_
      refine s1 rfl (.u rfl) (.u rfl) rfl Fx.sz126 .here (by rw [wa_len]; decide) (wa_set1 13 rfl) ?_
      refine .nil ?_
      refine .code ?_
      refine Wk.rg [0, 1, 2, 3, 4, 5, 6, 7, 8, 9, 10, 11, 12, 13, 14, 15, 16, 17, 18, 19, 20, 21] rfl rfl ?_
      refine iA rfl .no Fx.ar166 (.u rfl) (.u rfl) (fun _ => by decide) (fun _ => by decide) ?_
      refine ld rfl .no Fx.ag126 (.u rfl) (fun _ => Rd.own .here (wa_at1 3 rfl (by decide))) ?_
      refine iA rfl .no Fx.ar166 (.u rfl) (.u rfl) (fun _ => by decide) (fun _ => by decide) ?_
      refine ld rfl .no Fx.ag126 (.u rfl) (fun _ => Rd.own .here (wa_at1 4 rfl (by decide))) ?_
      refine iA rfl .no Fx.ar166 (.u rfl) (.u rfl) (fun _ => by decide) (fun _ => by decide) ?_
      refine ld rfl .no Fx.ag126 (.u rfl) (fun _ => Rd.own .here (wa_at1 9 rfl (by decide))) ?_
      refine iA rfl .no Fx.ar166 (.u rfl) (.u rfl) (fun _ => by decide) (fun _ => by decide) ?_
      refine ld rfl .no Fx.ag126 (.u rfl) (fun _ => Rd.own .here (wa_at1 14 rfl (by decide))) ?_
      refine kv rfl .no Fx.go90 (Eva.cons (.u rfl) (Eva.cons (.u rfl) (Eva.cons (.u rfl) (Eva.cons (.u rfl) Eva.nil)))) (fun _ => mix_ok _ _ _ _ _) ?_
      refine mv rfl .no (.u rfl) ?_
      refine ex rfl .no (.u rfl) rfl ?_
      refine ex rfl .no (.u rfl) rfl ?_
      refine ex rfl .no (.u rfl) rfl ?_
      refine ex rfl .no (.u rfl) rfl ?_
      refine iA rfl .no Fx.ar166 (.u rfl) (.u rfl) (fun _ => by decide) (fun _ => by decide) ?_
      refine s1 rfl (.u rfl) (.u rfl) rfl Fx.sz126 .here (by rw [wa_len]; decide) (wa_set1 3 rfl) ?_
      refine iA rfl .no Fx.ar166 (.u rfl) (.u rfl) (fun _ => by decide) (fun _ => by decide) ?_
      refine s1 rfl (.u rfl) (.u rfl) rfl Fx.sz126 .here (by rw [wa_len]; decide) (wa_set1 4 rfl) ?_
      refine iA rfl .no Fx.ar166 (.u rfl) (.u rfl) (fun _ => by decide) (fun _ => by decide) ?_
      refine s1 rfl (.u rfl) (.u rfl) rfl Fx.sz126 .here (by rw [wa_len]; decide) (wa_set1 9 rfl) ?_
      refine iA rfl .no Fx.ar166 (.u rfl) (.u rfl) (fun _ => by decide) (fun _ => by decide) ?_
      refine s1 rfl (.u rfl) (.u rfl) rfl Fx.sz126 .here (by rw [wa_len]; decide) (wa_set1 14 rfl) ?_
      refine .nil ?_
      refine .blk ?_
      refine .code ?_
      refine Wk.rg [0, 1] rfl rfl ?_
      refine ar rfl .no (.u rfl) (.u rfl) rfl (fun _ => wrap_i64 (by omega) (by omega)) ?_
      refine mv rfl .no (.u rfl) ?_
      refine .nil ?_
      refine We.lpo (r + 1) ?_ ?_ ?_ ?_ ?_
      · exact (ESub.cons rfl rfl (ESub.cons rfl rfl (ESub.cons rfl rfl (ESub.cons rfl rfl ESub.nil))))
      · exact (MSub.cons .here (congrArg (fun z => Res.blk b8 (cl (wa 16 z) 166)) (diagM_eq (cols (rounds (x2 key nonce count 3) r) 4))) (MSub.cons .here rfl (MSub.cons .here rfl (MSub.cons .here rfl (MSub.cons .here rfl MSub.nil)))))
      · first | omega | (dsimp only; omega)
      · exact hGl0.trans hGl1
      · show r + 1 ≤ 10; omega
  · have c1k := c1
    try simp only [decide_eq_true_eq, decide_eq_false_iff_not, Int.not_lt, Int.not_le, gt_iff_lt, ge_iff_le, Bool.or_eq_true, Bool.and_eq_true, Bool.or_eq_false_iff, Bool.not_eq_true', Bool.not_eq_false', Int.toNat_natCast] at c1
    refine .exit ?_
    refine .xcode ?_
    refine .xlp ?_
    refine .xblk ?_
    refine .code ?_
    refine .seq ?_
    refine Wk.rg [0] rfl rfl ?_
    obtain rfl : r = 10 := by omega
    refine al rfl Fx.zq156 ?_; intro b10
    refine .nil ?_
    refine .code ?_
    refine .seq ?_
    refine .seq ?_
    refine Wk.rg [0] rfl rfl ?_
    refine mv rfl .no (.u rfl) ?_
    refine .nil ?_
    refine .code ?_
    refine .block ?_
    refine Wk.lop (α := Nat) (fun i => [(135, true, .int .i64 (i : Int))]) (fun i => [.blk b10 (cl (ba 64 (outs (chaB key nonce count) (4 * i))) 156)])
      (fun i Gl => i ≤ 16) (fun i => 16 - i) 0 [(6, true, _), (7, true, _), (8, true, _), (10, true, _)] [.blk b8 _, .blk b7 _, .blk b4 _, .blk b3 _, .blk b6 _]
      (ESub.cons rfl rfl (ESub.cons rfl rfl (ESub.cons rfl rfl (ESub.cons rfl rfl (ESub.cons rfl rfl ESub.nil)))))
      (MSub.cons .here rfl (MSub.cons .here rfl (MSub.cons .here rfl (MSub.cons .here rfl (MSub.cons .here rfl (MSub.cons .here rfl MSub.nil)))))) ?_ ?_
    · show 0 ≤ 16; omega
    intro i N2 Gl2 hN2 hGl2 hF2
    try dsimp only at hF2 hN2 ⊢
    have hi : i ≤ 16 := hF2
    refine .seq ?_
    refine Wk.rg [0] rfl rfl ?_
    refine cp rfl .no (.u rfl) (.u rfl) rfl ?_
    refine .nil ?_
    refine .code ?_
    refine .seq ?_
    refine .cond rfl (fun c3 => ?_) (fun c3 => ?_)
    · have c3k := c3
      try simp only [decide_eq_true_eq, decide_eq_false_iff_not, Int.not_lt, Int.not_le, gt_iff_lt, ge_iff_le, Bool.or_eq_true, Bool.and_eq_true, Bool.or_eq_false_iff, Bool.not_eq_true', Bool.not_eq_false', Int.toNat_natCast] at c3
      refine .skip ?_
      refine .code ?_
      refine .seq ?_
      refine .block ?_
      refine .seq ?_
      refine Wk.rg [0, 1] rfl rfl ?_
      refine mv rfl .no (.u rfl) ?_
      refine asg rfl .no (.u rfl) ?_
      refine .nil ?_
      refine .code ?_
      refine .seq ?_
      refine Wk.draw (mc := ⟨false, false⟩) [0, 1, 2, 3, 4, 5, 6, 7] Fx.mix (by kernel_rfl) ?_
      refine mv rfl .no (.u rfl) ?_
      refine iA rfl .no Fx.ar166 (.u rfl) (.u rfl) (fun _ => by omega) (fun _ => by omega) ?_
      refine ld rfl .no Fx.ag126 (.u rfl) (fun _ => Rd.own (.there .here) (wa_at1 i (by omega) (by omega))) ?_
      refine mv rfl .no (.u rfl) ?_
      refine iA rfl .no Fx.ar166 (.u rfl) (.u rfl) (fun _ => by omega) (fun _ => by omega) ?_
      refine ld rfl .no Fx.ag126 (.u rfl) (fun _ => Rd.own (.there (.there .here)) (wa_at1 i (by omega) (by omega))) ?_
      refine bw (k := .u32) rfl .no rfl (.u rfl) (.u rfl) rfl ?_
      refine asg rfl .no (.u rfl) ?_
      refine .nil ?_
      refine .code ?_
      refine .seq ?_
      refine Wk.rg [0] rfl rfl ?_
      refine mv rfl .no (.u rfl) ?_
      refine .nil ?_
      refine .code ?_
      refine .block ?_
      refine Wk.lop (α := Nat) (fun c => [(12, true, U (chaW key nonce count i >>> (8 * c))), (145, true, .int .i64 (c : Int))]) (fun c => [.blk b10 (cl (ba 64 (outs (chaB key nonce count) (4 * i + c))) 156)])
        (fun c Gl => c ≤ 4) (fun c => 4 - c) 0 [(6, true, _), (7, true, _), (8, true, _), (10, true, _), (11, true, _), (135, true, _)] [.blk b8 _, .blk b7 _, .blk b4 _, .blk b3 _, .blk b6 _]
        (ESub.cons rfl shr_zero' (ESub.cons rfl rfl (ESub.cons rfl rfl (ESub.cons rfl rfl (ESub.cons rfl rfl (ESub.cons rfl rfl (ESub.cons rfl rfl (ESub.cons rfl rfl ESub.nil))))))))
        (MSub.cons .here rfl (MSub.cons .here rfl (MSub.cons .here rfl (MSub.cons .here rfl (MSub.cons .here rfl (MSub.cons .here rfl MSub.nil)))))) ?_ ?_
      · show 0 ≤ 4; omega
      intro c N3 Gl3 hN3 hGl3 hF3
      try dsimp only at hF3 hN3 ⊢
      have hc : c ≤ 4 := hF3
      refine .seq ?_
      refine Wk.rg [0] rfl rfl ?_
      refine cp rfl .no (.u rfl) (.u rfl) rfl ?_
      refine .nil ?_
      refine .code ?_
      refine .seq ?_
      refine .cond rfl (fun c4 => ?_) (fun c4 => ?_)
      · have c4k := c4
        try simp only [decide_eq_true_eq, decide_eq_false_iff_not, Int.not_lt, Int.not_le, gt_iff_lt, ge_iff_le, Bool.or_eq_true, Bool.and_eq_true, Bool.or_eq_false_iff, Bool.not_eq_true', Bool.not_eq_false', Int.toNat_natCast] at c4
        refine .skip ?_
        refine .code ?_
        refine .seq ?_
        refine .block ?_
        refine .seq ?_
        refine Wk.rg [0, 1] rfl rfl ?_
        refine mv rfl .no (.u rfl) ?_
        refine asg rfl .no (.u rfl) ?_
        refine .nil ?_
        refine .code ?_
        refine .seq ?_
        refine Wk.rg [0, 1, 2, 3, 4, 5, 6, 7] rfl rfl ?_
        refine mv rfl .no (.u rfl) ?_
        refine ar rfl .no (.u rfl) (.u rfl) rfl (fun _ => wrap_i64 (by omega) (by omega)) ?_
        refine mv rfl .no (.u rfl) ?_
        refine ar rfl .no (.u rfl) (.u rfl) rfl (fun _ => wrap_i64 (by omega) (by omega)) ?_
        refine mv rfl .no (.u rfl) ?_
        refine cu (k := .u32) rfl .no rfl Fx.cv126_5 (.u rfl) ?_
        refine iA rfl .no Fx.ar156 (.u rfl) (.u rfl) (fun _ => by omega) (fun _ => by omega) ?_
        refine s1 rfl (.u rfl) (.u rfl) rfl Fx.sz5 .here (by rw [ba_len]; omega) (ba_set1 (4 * i + c) (by omega)) ?_
        refine .nil ?_
        refine .code ?_
        refine Wk.rg [0, 1, 2] rfl rfl ?_
        refine mv rfl .no (.u rfl) ?_
        refine rw' (k := .u32) rfl .no (.u rfl) (.u rfl) (fun _ => by decide) ?_
        refine asg rfl .no (.u rfl) ?_
        refine .nil ?_
        refine .blk ?_
        refine .code ?_
        refine Wk.rg [0, 1] rfl rfl ?_
        refine ar rfl .no (.u rfl) (.u rfl) rfl (fun _ => wrap_i64 (by omega) (by omega)) ?_
        refine mv rfl .no (.u rfl) ?_
        refine .nil ?_
        refine We.lpo (c + 1) ?_ ?_ ?_ ?_ ?_
        · exact (ESub.cons rfl shr_next (ESub.cons rfl rfl (ESub.cons rfl rfl (ESub.cons rfl rfl (ESub.cons rfl rfl (ESub.cons rfl rfl (ESub.cons rfl rfl (ESub.cons rfl rfl ESub.nil))))))))
        · exact (MSub.cons .here (out_put (by omega)) (MSub.cons .here rfl (MSub.cons .here rfl (MSub.cons .here rfl (MSub.cons .here rfl (MSub.cons .here rfl MSub.nil))))))
        · first | omega | (dsimp only; omega)
        · exact hGl3
        · show c + 1 ≤ 4; omega
      · have c4k := c4
        try simp only [decide_eq_true_eq, decide_eq_false_iff_not, Int.not_lt, Int.not_le, gt_iff_lt, ge_iff_le, Bool.or_eq_true, Bool.and_eq_true, Bool.or_eq_false_iff, Bool.not_eq_true', Bool.not_eq_false', Int.toNat_natCast] at c4
        refine .exit ?_
        refine .xcode ?_
        refine .xlp ?_
        refine .xblk ?_
        refine .blk ?_
        refine .code ?_
        refine Wk.rg [0, 1] rfl rfl ?_
        refine ar rfl .no (.u rfl) (.u rfl) rfl (fun _ => wrap_i64 (by omega) (by omega)) ?_
        refine mv rfl .no (.u rfl) ?_
        refine .nil ?_
        obtain rfl : c = 4 := by omega
        refine We.lpo (i + 1) ?_ ?_ ?_ ?_ ?_
        · exact (ESub.cons rfl rfl (ESub.cons rfl rfl (ESub.cons rfl rfl (ESub.cons rfl rfl (ESub.cons rfl rfl ESub.nil)))))
        · exact (MSub.cons .here rfl (MSub.cons .here rfl (MSub.cons .here rfl (MSub.cons .here rfl (MSub.cons .here rfl (MSub.cons .here rfl MSub.nil))))))
        · first | omega | (dsimp only; omega)
        · exact hGl2.trans hGl3
        · show i + 1 ≤ 16; omega
    · have c3k := c3
      try simp only [decide_eq_true_eq, decide_eq_false_iff_not, Int.not_lt, Int.not_le, gt_iff_lt, ge_iff_le, Bool.or_eq_true, Bool.and_eq_true, Bool.or_eq_false_iff, Bool.not_eq_true', Bool.not_eq_false', Int.toNat_natCast] at c3
      refine .exit ?_
      refine .xcode ?_
      refine .xlp ?_
      refine .xblk ?_
      refine .code ?_
      refine .seq ?_
      refine Wk.rg [0, 1] rfl rfl ?_
      refine lA rfl .no Fx.ag156 (.u rfl) (fun _ => RdN.own .here) (fun _ => rfl) ?_
      refine sw rfl (.u rfl) (.u rfl) rfl Fx.sz156 (.there (.there (.there (.there (.there .here))))) rfl (ba_one _ _) ?_
      refine .nil ?_
      refine .code ?_
      refine .ret ?_
      refine We.fin0 Tryd.results81 (.cell rfl (fun w hw => run_loadVarN Fx.ag156 (RdN.own .here) rfl hw) .nil) ?_
      obtain rfl : i = 16 := by omega
      exact ⟨rfl, by rw [ba_congr (fun i hi => (outs_eq (chaB key nonce count) hi).symm)]; rfl⟩

end Go.Proofs.YtbdnclpopappeaaDoor

namespace Go.Proofs.YtbdnclpopappeaaDoor
set_option linter.unusedSimpArgs false
set_option linter.unusedVariables false
open Go.Tan Go.RowKit

namespace Fx
theorem zq162 : zrL Tryd.prog 162 = some (wa 64 (fun _ => 0#32)) := by kernel_rfl
theorem sn36 : (slE Tryd.prog 36).isSome = true := by kernel_rfl
theorem ar162 : arE Tryd.prog 162 = some (64, 126, 1) := by kernel_rfl
theorem go85 : goFn Tryd.prog 85 = true := by kernel_rfl
theorem fo132_0 : fOff Tryd.prog 132 0 = some 0 := by kernel_rfl
theorem ar130 : arE Tryd.prog 130 = some (8, 126, 1) := by kernel_rfl
theorem bp130_0_1_2_3_4_5_6_7 : bPl Tryd.prog 130 [0, 1, 2, 3, 4, 5, 6, 7] = some ([.int .u32 0, .int .u32 0, .int .u32 0, .int .u32 0, .int .u32 0, .int .u32 0, .int .u32 0, .int .u32 0], [(0, 1), (1, 1), (2, 1), (3, 1), (4, 1), (5, 1), (6, 1), (7, 1)]) := by kernel_rfl
end Fx
theorem right_ok (x : W) (k : Nat) (G : PM) (hk : k ∈ [2, 6, 7, 11, 13, 17, 18, 19, 22, 25]) : Ct Tryd.prog 85 ([U x, .int .i64 (k : Int)] : List Value).toArray G [] (fun _ μ' u => μ' = [] ∧ u = U (rotr x k)) := by
  refine Ct.of Tryd.func85 rfl Tryd.ntmps85 rfl fun w0 hs0 => ?_
  have hk2 : k ≤ 31 := by simp only [List.mem_cons, List.not_mem_nil, or_false] at hk; omega
  refine .seq ?_
  refine Wk.rg [0] rfl rfl ?_
  refine asg rfl .no (.u rfl) ?_
  refine .nil ?_
  refine .code ?_
  refine .seq ?_
  refine Wk.rg [0, 1, 2, 3, 4] rfl rfl ?_
  refine mv rfl .no (.u rfl) ?_
  refine mv rfl .no (.u rfl) ?_
  refine ng rfl .no (.u rfl) (fun _ => wrap_i64 (by omega) (by omega)) ?_
  refine kv rfl .no Fx.go62 (Eva.cons (.u rfl) (Eva.cons (.u rfl) Eva.nil)) (fun _ => rot_ok _ _ _) ?_
  refine asg rfl .no (.u rfl) ?_
  refine .nil ?_
  refine .code ?_
  refine .ret ?_
  refine We.fin0 Tryd.results85 (.tmp rfl .nil) ?_
  exact ⟨rfl, by rw [← rotI_neg hk]; rfl⟩

set_option maxHeartbeats 1000000 in
theorem block_ok (s : Nat → W) (xs : List Y) (h : Sh) (vp nn : Value) (bs : Nat) (G : PM) (hs : SlR G 1 encY h xs) (hK : RdNP G 0 0 (wa 64 kW)) (hl : 64 ≤ xs.length) : Ct Tryd.prog 79 ([.pointer (some ⟨bs, 0, none⟩), h.val xs.length] : List Value).toArray G [.blk bs (cl (wa 8 s ++ [vp, nn]) 132)] (fun _ μ' u => μ' = [.blk bs (cl (wa 8 (shaC s (fun i => xs.getD i 0)) ++ [vp, nn]) 132)] ∧ u = .tuple #[]) := by
  refine Ct.of Tryd.func79 rfl Tryd.ntmps79 rfl fun w0 hs0 => ?_
  refine .seq ?_
  refine Wk.rg [0] rfl rfl ?_
  refine al rfl Fx.zq162 ?_; intro b4
  refine .nil ?_
  refine .code ?_
  refine .seq ?_
  refine .seq ?_
  refine Wk.rg [0] rfl rfl ?_
  refine mv rfl .no (.u rfl) ?_
  refine .nil ?_
  refine .code ?_
  refine .block ?_
  refine Wk.lop (α := Nat × (Nat → W)) (fun gh => [(24, true, .int .i64 (gh.1 : Int))]) (fun gh => [.blk b4 (cl (wa 64 gh.2) 162)])
    (fun gh Gl => (gh.1 ≤ 16) ∧ (gh.2 = w16 (fun i => xs.getD i 0) gh.1)) (fun gh => 16 - gh.1) (0, fun _ => 0#32) [(0, true, _), (1, true, _), (4, true, _)] [_]
    (ESub.cons rfl (by first | rfl | exact evi (by omega)) (ESub.cons rfl rfl (ESub.cons rfl rfl (ESub.cons rfl rfl ESub.nil))))
    (MSub.cons .here rfl (MSub.cons .here rfl MSub.nil)) ?_ ?_
  · refine ⟨?_, ?_⟩
    · (try dsimp only) <;> (first | omega | rfl | assumption | (simp; done))
    · (try dsimp only) <;> (first | omega | rfl | assumption | (simp; done))
  intro gh N0 Gl0 hN0 hGl0 hF0
  obtain ⟨k, y⟩ := gh; dsimp only at hF0 hN0 ⊢
  obtain ⟨hk, ey⟩ := hF0
  have hs := hs.mono hGl0
  have hK := hK.mono hGl0
  refine .seq ?_
  refine Wk.rg [0] rfl rfl ?_
  refine cp rfl .no (.u rfl) (.u rfl) rfl ?_
  refine .nil ?_
  refine .code ?_
  refine .seq ?_
  refine .cond rfl (fun c1 => ?_) (fun c1 => ?_)
  · have c1k := c1
    try simp only [decide_eq_true_eq, decide_eq_false_iff_not, Int.not_lt, Int.not_le, gt_iff_lt, ge_iff_le, Bool.or_eq_true, Bool.and_eq_true, Bool.or_eq_false_iff, Bool.not_eq_true', Bool.not_eq_false', Int.toNat_natCast, bne_iff_ne, beq_iff_eq, bne_eq_false_iff_eq, beq_eq_false_iff_ne, ne_eq] at c1
    refine .skip ?_
    refine .code ?_
    refine .seq ?_
    refine .block ?_
    refine .seq ?_
    refine Wk.rg [0, 1] rfl rfl ?_
    refine mv rfl .no (.u rfl) ?_
    refine asg rfl .no (.u rfl) ?_
    refine .nil ?_
    refine .code ?_
    refine .seq ?_
    refine Wk.rg [0, 1, 2, 3, 4, 5, 6, 7, 8] rfl rfl ?_
    refine mv rfl .no (.u rfl) ?_
    refine mv rfl .no (.u rfl) ?_
    refine arn (((4 * k) : Nat) : Int) rfl .no (.u rfl) (.u rfl) rfl (fun _ => by omega) (fun _ => wrap_i64 (by omega) (by omega)) ?_
    refine mv rfl .no (.u rfl) ?_
    refine arn (((4 * k) : Nat) : Int) rfl .no (.u rfl) (.u rfl) rfl (fun _ => by omega) (fun _ => wrap_i64 (by omega) (by omega)) ?_
    refine arn ((((4 * k) + 4) : Nat) : Int) rfl .no (.u rfl) (.u rfl) rfl (fun _ => by omega) (fun _ => wrap_i64 (by omega) (by omega)) ?_
    refine kS ((4 * k)) (((4 * k) + 4)) rfl .no Fx.se36 hs (.u rfl) (.u rfl) (.u rfl) (fun _ => by omega) (fun _ => by omega) (fun _ => by omega) (fun _ => by omega) ?_
    intro h33 L33 eL33 lL33 hs33
    have lL33 := lL33 rfl
    refine ln rfl .no Fx.sn36 (.u rfl) ?_
    refine mv rfl .no (.u rfl) ?_
    refine .nil ?_
    refine .code ?_
    refine .block ?_
    refine Wk.lop (α := Nat × (Nat → W)) (fun gh => [(35, true, .int .i64 (gh.1 : Int))]) (fun gh => [.blk b4 (cl (wa 64 gh.2) 162)])
      (fun gh Gl => (gh.1 ≤ 4) ∧ (gh.2 = upd y k (shB (fun i => xs.getD i 0) k gh.1))) (fun gh => 4 - gh.1) (0, y) [(0, true, _), (1, true, _), (4, true, _), (5, true, _), (24, true, _), (33, true, _), (34, true, _)] [_]
      (ESub.cons rfl (by first | rfl | exact evi (by omega)) (ESub.cons rfl rfl (ESub.cons rfl rfl (ESub.cons rfl rfl (ESub.cons rfl rfl (ESub.cons rfl rfl (ESub.cons rfl rfl (ESub.cons rfl rfl ESub.nil))))))))
      (MSub.cons .here rfl (MSub.cons .here rfl MSub.nil)) ?_ ?_
    · refine ⟨?_, ?_⟩
      · (try dsimp only) <;> (first | omega | rfl | assumption | (simp; done))
      · (try dsimp only) <;> (rw [ey]; exact (upd_w16 _ (Nat.le_refl k)).symm)
    intro gh N1 Gl1 hN1 hGl1 hF1
    obtain ⟨c, y2⟩ := gh; dsimp only at hF1 hN1 ⊢
    obtain ⟨hc, ey2⟩ := hF1
    have hs := hs.mono hGl1
    have hK := hK.mono hGl1
    have hs33 := hs33.mono hGl1
    refine .seq ?_
    refine Wk.rg [0] rfl rfl ?_
    refine cp rfl .no (.u rfl) (.u rfl) rfl ?_
    refine .nil ?_
    refine .code ?_
    refine .seq ?_
    refine .cond rfl (fun c2 => ?_) (fun c2 => ?_)
    · have c2k := c2
      try simp only [decide_eq_true_eq, decide_eq_false_iff_not, Int.not_lt, Int.not_le, gt_iff_lt, ge_iff_le, Bool.or_eq_true, Bool.and_eq_true, Bool.or_eq_false_iff, Bool.not_eq_true', Bool.not_eq_false', Int.toNat_natCast, bne_iff_ne, beq_iff_eq, bne_eq_false_iff_eq, beq_eq_false_iff_ne, ne_eq] at c2
      refine .skip ?_
      refine .code ?_
      refine .seq ?_
      refine .block ?_
      refine .seq ?_
      refine Wk.rg [0, 1, 2] rfl rfl ?_
      refine ih rfl .no Fx.se36 (.u rfl) (.u rfl) (fun _ => by omega) (fun _ => by omega) (fun _ => hs33.nn (k := c) (by omega)) ?_
      refine ld rfl .no Fx.ag5 (.u rfl) (fun _ => (hs33.yat (c) (by omega) (by omega)).rd) ?_
      refine asg rfl .no (.u rfl) ?_
      refine .nil ?_
      refine .code ?_
      refine Wk.rg [0, 1, 2, 3, 4, 5, 6, 7, 8, 9] rfl rfl ?_
      refine mv rfl .no (.u rfl) ?_
      refine mv rfl .no (.u rfl) ?_
      refine iA rfl .no Fx.ar162 (.u rfl) (.u rfl) (fun _ => by omega) (fun _ => by omega) ?_
      refine ld rfl .no Fx.ag126 (.u rfl) (fun _ => Rd.own .here (by first | exact wa_at1 (k) (by omega) (by omega) | exact ba_at1 (k) (by omega) (by omega) | exact wap_at1 (k) (by omega) (by omega) | rfl)) ?_
      refine lw (k := .u32) rfl .no rfl (.u rfl) (.u rfl) (fun _ => by decide) ?_
      refine mv rfl .no (.u rfl) ?_
      refine cu (k := .u8) rfl .no rfl Fx.cv5_126 (.u rfl) ?_
      refine bw (k := .u32) rfl .no rfl (.u rfl) (.u rfl) rfl ?_
      refine iA rfl .no Fx.ar162 (.u rfl) (.u rfl) (fun _ => by omega) (fun _ => by omega) ?_
      refine s1 rfl (.u rfl) (.u rfl) rfl Fx.sz126 .here (by first | decide | (simp only [wa_len, ba_len, List.length_append, List.length_cons, List.length_nil]; omega)) (by first | exact wa_set1 (k) (by omega) | exact ba_set1 (k) (by omega) | exact wap_set1 (k) (by omega) (by omega) | rfl) ?_
      refine .nil ?_
      refine .blk ?_
      refine .code ?_
      refine Wk.rg [0, 1] rfl rfl ?_
      refine arn (((c + 1) : Nat) : Int) rfl .no (.u rfl) (.u rfl) rfl (fun _ => by omega) (fun _ => wrap_i64 (by omega) (by omega)) ?_
      refine mv rfl .no (.u rfl) ?_
      refine .nil ?_
      refine We.lpo (c + 1, upd y2 k (y2 k <<< Int.toNat 8 ||| BitVec.setWidth 32 (L33.getD c 0))) ?_ ?_ ?_ ?_ ?_
      · exact (ESub.cons rfl (by first | rfl | exact evi (by omega)) (ESub.cons rfl rfl (ESub.cons rfl rfl (ESub.cons rfl rfl (ESub.cons rfl rfl (ESub.cons rfl rfl (ESub.cons rfl rfl (ESub.cons rfl rfl ESub.nil))))))))
      · exact (MSub.cons .here rfl (MSub.cons .here rfl MSub.nil))
      · first | omega | (dsimp only; omega)
      · exact hGl1
      · refine ⟨?_, ?_⟩
        · (try dsimp only) <;> (first | omega | rfl | assumption | (simp; done))
        · (try dsimp only) <;> (rw [ey2, upd_at, upd_upd, shB, eL33, getD_part (by omega)]; rfl)
    · have c2k := c2
      try simp only [decide_eq_true_eq, decide_eq_false_iff_not, Int.not_lt, Int.not_le, gt_iff_lt, ge_iff_le, Bool.or_eq_true, Bool.and_eq_true, Bool.or_eq_false_iff, Bool.not_eq_true', Bool.not_eq_false', Int.toNat_natCast, bne_iff_ne, beq_iff_eq, bne_eq_false_iff_eq, beq_eq_false_iff_ne, ne_eq] at c2
      refine .exit ?_
      refine .xcode ?_
      refine .xlp ?_
      refine .xblk ?_
      refine .blk ?_
      refine .code ?_
      refine Wk.rg [0, 1] rfl rfl ?_
      refine arn (((k + 1) : Nat) : Int) rfl .no (.u rfl) (.u rfl) rfl (fun _ => by omega) (fun _ => wrap_i64 (by omega) (by omega)) ?_
      refine mv rfl .no (.u rfl) ?_
      refine .nil ?_
      refine We.lpo (k + 1, y2) ?_ ?_ ?_ ?_ ?_
      · exact (ESub.cons rfl (by first | rfl | exact evi (by omega)) (ESub.cons rfl rfl (ESub.cons rfl rfl (ESub.cons rfl rfl ESub.nil))))
      · exact (MSub.cons .here rfl (MSub.cons .here rfl MSub.nil))
      · first | omega | (dsimp only; omega)
      · exact (hGl0).trans hGl1
      · refine ⟨?_, ?_⟩
        · (try dsimp only) <;> (first | omega | rfl | assumption | (simp; done))
        · (try dsimp only) <;> (obtain rfl : c = 4 := (by omega); rw [ey2, ey, shB_four]; rfl)
  · have c1k := c1
    try simp only [decide_eq_true_eq, decide_eq_false_iff_not, Int.not_lt, Int.not_le, gt_iff_lt, ge_iff_le, Bool.or_eq_true, Bool.and_eq_true, Bool.or_eq_false_iff, Bool.not_eq_true', Bool.not_eq_false', Int.toNat_natCast, bne_iff_ne, beq_iff_eq, bne_eq_false_iff_eq, beq_eq_false_iff_ne, ne_eq] at c1
    refine .exit ?_
    refine .xcode ?_
    refine .xlp ?_
    refine .xblk ?_
    refine .code ?_
    refine .seq ?_
    refine .seq ?_
    obtain rfl : k = 16 := by omega
    refine Wk.rg [0] rfl rfl ?_
    refine asg rfl .no (.u rfl) ?_
    refine .nil ?_
    refine .code ?_
    refine .block ?_
    refine Wk.lop (α := Nat × (Nat → W)) (fun gh => [(8, true, .int .i64 ((16 + gh.1 : Nat) : Int))]) (fun gh => [.blk b4 (cl (wa 64 gh.2) 162)])
      (fun gh Gl => (gh.1 ≤ 48) ∧ (gh.2 = sched (fun i => xs.getD i 0) gh.1)) (fun gh => 48 - gh.1) (0, _) [(0, true, _), (4, true, _)] [_]
      (ESub.cons rfl (by first | rfl | exact evi (by omega)) (ESub.cons rfl rfl (ESub.cons rfl rfl ESub.nil)))
      (MSub.cons .here rfl (MSub.cons .here rfl MSub.nil)) ?_ ?_
    · refine ⟨?_, ?_⟩
      · (try dsimp only) <;> (first | omega | rfl | assumption | (simp; done))
      · (try dsimp only) <;> (first | omega | rfl | assumption | (simp; done))
    intro gh N2 Gl2 hN2 hGl2 hF2
    obtain ⟨k1, y⟩ := gh; dsimp only at hF2 hN2 ⊢
    obtain ⟨hk1, ey⟩ := hF2
    have hs := hs.mono hGl2
    have hK := hK.mono hGl2
    refine .seq ?_
    refine .seq ?_
    refine Wk.rg [0, 1] rfl rfl ?_
    refine mv rfl .no (.u rfl) ?_
    refine cp rfl .no (.u rfl) (.u rfl) rfl ?_
    refine .nil ?_
    refine .code ?_
    refine .cond rfl (fun c3 => ?_) (fun c3 => ?_)
    · have c3k := c3
      try simp only [decide_eq_true_eq, decide_eq_false_iff_not, Int.not_lt, Int.not_le, gt_iff_lt, ge_iff_le, Bool.or_eq_true, Bool.and_eq_true, Bool.or_eq_false_iff, Bool.not_eq_true', Bool.not_eq_false', Int.toNat_natCast, bne_iff_ne, beq_iff_eq, bne_eq_false_iff_eq, beq_eq_false_iff_ne, ne_eq] at c3
      refine .skip ?_
      refine .code ?_
      refine .seq ?_
      refine .block ?_
      refine .seq ?_
      refine Wk.draw (mc := ⟨false, false⟩) [0, 1, 2, 3, 4, 5, 6, 7, 8, 9] Fx.mix (by kernel_rfl) ?_
      refine mv rfl .no (.u rfl) ?_
      refine arn (((1 + k1) : Nat) : Int) rfl .no (.u rfl) (.u rfl) rfl (fun _ => by omega) (fun _ => wrap_i64 (by omega) (by omega)) ?_
      refine iA rfl .no Fx.ar162 (.u rfl) (.u rfl) (fun _ => by omega) (fun _ => by omega) ?_
      refine ld rfl .no Fx.ag126 (.u rfl) (fun _ => Rd.own .here (by first | exact wa_at1 ((1 + k1)) (by omega) (by omega) | exact ba_at1 ((1 + k1)) (by omega) (by omega) | exact wap_at1 ((1 + k1)) (by omega) (by omega) | rfl)) ?_
      refine mv rfl .no (.u rfl) ?_
      refine arn (((14 + k1) : Nat) : Int) rfl .no (.u rfl) (.u rfl) rfl (fun _ => by omega) (fun _ => wrap_i64 (by omega) (by omega)) ?_
      refine iA rfl .no Fx.ar162 (.u rfl) (.u rfl) (fun _ => by omega) (fun _ => by omega) ?_
      refine ld rfl .no Fx.ag126 (.u rfl) (fun _ => Rd.own .here (by first | exact wa_at1 ((14 + k1)) (by omega) (by omega) | exact ba_at1 ((14 + k1)) (by omega) (by omega) | exact wap_at1 ((14 + k1)) (by omega) (by omega) | rfl)) ?_
      refine asg rfl .no (.u rfl) ?_
      refine asg rfl .no (.u rfl) ?_
      refine .nil ?_
      refine .code ?_
      refine Wk.draw (mc := ⟨false, false⟩) [0, 1, 2, 3, 4, 5, 6, 7, 8, 9, 10, 12, 15, 16, 19, 21, 24, 25, 11, 13, 14, 17, 18, 20, 22, 23, 26, 27, 28, 29] Fx.mix (by kernel_rfl) ?_
      refine mv rfl .no (.u rfl) ?_
      refine mv rfl .no (.u rfl) ?_
      refine arn ((k1 : Nat) : Int) rfl .no (.u rfl) (.u rfl) rfl (fun _ => by omega) (fun _ => wrap_i64 (by omega) (by omega)) ?_
      refine iA rfl .no Fx.ar162 (.u rfl) (.u rfl) (fun _ => by omega) (fun _ => by omega) ?_
      refine ld rfl .no Fx.ag126 (.u rfl) (fun _ => Rd.own .here (by first | exact wa_at1 (k1) (by omega) (by omega) | exact ba_at1 (k1) (by omega) (by omega) | exact wap_at1 (k1) (by omega) (by omega) | rfl)) ?_
      refine mv rfl .no (.u rfl) ?_
      refine arn (((9 + k1) : Nat) : Int) rfl .no (.u rfl) (.u rfl) rfl (fun _ => by omega) (fun _ => wrap_i64 (by omega) (by omega)) ?_
      refine iA rfl .no Fx.ar162 (.u rfl) (.u rfl) (fun _ => by omega) (fun _ => by omega) ?_
      refine ld rfl .no Fx.ag126 (.u rfl) (fun _ => Rd.own .here (by first | exact wa_at1 ((9 + k1)) (by omega) (by omega) | exact ba_at1 ((9 + k1)) (by omega) (by omega) | exact wap_at1 ((9 + k1)) (by omega) (by omega) | rfl)) ?_
      refine bw (k := .u32) rfl .no rfl (.u rfl) (.u rfl) rfl ?_
      refine mv rfl .no (.u rfl) ?_
      refine mv rfl .no (.u rfl) ?_
      refine mv rfl .no (.u rfl) ?_
      refine rw' (k := .u32) rfl .no (.u rfl) (.u rfl) (fun _ => by decide) ?_
      refine mv rfl .no (.u rfl) ?_
      refine mv rfl .no (.u rfl) ?_
      refine mv rfl .no (.u rfl) ?_
      refine rw' (k := .u32) rfl .no (.u rfl) (.u rfl) (fun _ => by decide) ?_
      refine kv rfl .no Fx.go85 (Eva.cons (.u rfl) (Eva.cons (.u rfl) Eva.nil)) (fun _ => right_ok _ 7 _ (by decide)) ?_
      refine kv rfl .no Fx.go85 (Eva.cons (.u rfl) (Eva.cons (.u rfl) Eva.nil)) (fun _ => right_ok _ 18 _ (by decide)) ?_
      refine bw (k := .u32) rfl .no rfl (.u rfl) (.u rfl) rfl ?_
      refine bw (k := .u32) rfl .no rfl (.u rfl) (.u rfl) rfl ?_
      refine bw (k := .u32) rfl .no rfl (.u rfl) (.u rfl) rfl ?_
      refine kv rfl .no Fx.go85 (Eva.cons (.u rfl) (Eva.cons (.u rfl) Eva.nil)) (fun _ => right_ok _ 17 _ (by decide)) ?_
      refine kv rfl .no Fx.go85 (Eva.cons (.u rfl) (Eva.cons (.u rfl) Eva.nil)) (fun _ => right_ok _ 19 _ (by decide)) ?_
      refine bw (k := .u32) rfl .no rfl (.u rfl) (.u rfl) rfl ?_
      refine bw (k := .u32) rfl .no rfl (.u rfl) (.u rfl) rfl ?_
      refine bw (k := .u32) rfl .no rfl (.u rfl) (.u rfl) rfl ?_
      refine iA rfl .no Fx.ar162 (.u rfl) (.u rfl) (fun _ => by omega) (fun _ => by omega) ?_
      refine s1 rfl (.u rfl) (.u rfl) rfl Fx.sz126 .here (by first | decide | (simp only [wa_len, ba_len, List.length_append, List.length_cons, List.length_nil]; omega)) (by first | exact wa_set1 (((16 + k1 : Nat))) (by omega) | exact ba_set1 (((16 + k1 : Nat))) (by omega) | exact wap_set1 (((16 + k1 : Nat))) (by omega) (by omega) | rfl) ?_
      refine .nil ?_
      refine .blk ?_
      refine .code ?_
      refine Wk.rg [0, 1, 2] rfl rfl ?_
      refine mv rfl .no (.u rfl) ?_
      refine arn (((((16 + k1 : Nat)) + 1) : Nat) : Int) rfl .no (.u rfl) (.u rfl) rfl (fun _ => by omega) (fun _ => wrap_i64 (by omega) (by omega)) ?_
      refine asg rfl .no (.u rfl) ?_
      refine .nil ?_
      refine We.lpo (k1 + 1, _) (ESub.cons rfl (by first | rfl | exact evi (by omega)) (ESub.cons rfl rfl (ESub.cons rfl rfl ESub.nil))) (MSub.cons .here rfl (MSub.cons .here rfl MSub.nil)) ?_ ?_ ?_
      · first | omega | (dsimp only; omega)
      · exact hGl2
      · refine ⟨?_, ?_⟩
        · (try dsimp only) <;> (first | omega | rfl | assumption | (simp; done))
        · (try dsimp only) <;> (rw [ey]; rfl)
    · have c3k := c3
      try simp only [decide_eq_true_eq, decide_eq_false_iff_not, Int.not_lt, Int.not_le, gt_iff_lt, ge_iff_le, Bool.or_eq_true, Bool.and_eq_true, Bool.or_eq_false_iff, Bool.not_eq_true', Bool.not_eq_false', Int.toNat_natCast, bne_iff_ne, beq_iff_eq, bne_eq_false_iff_eq, beq_eq_false_iff_ne, ne_eq] at c3
      refine .exit ?_
      refine .xcode ?_
      refine .xlp ?_
      refine .xblk ?_
      refine .code ?_
      refine .seq ?_
      obtain rfl : k1 = 48 := by omega
      refine Wk.draw (mc := ⟨false, false⟩) [0, 1, 2, 3, 4, 5, 6, 7, 8, 9, 10, 11, 12, 13, 14, 15, 16, 17, 18, 19, 20, 21, 22, 23, 24, 25, 26, 27, 28, 29, 30, 31, 32, 33, 34, 35, 36, 37, 38, 39, 40, 41, 42, 43, 44, 45, 46, 47] Fx.mix (by kernel_rfl) ?_
      refine mv rfl .no (.u rfl) ?_
      refine nc rfl .no (.u rfl) ?_
      refine fz rfl .no Fx.fo132_0 (.u rfl) ?_
      refine iA rfl .no Fx.ar130 (.u rfl) (.u rfl) (fun _ => by decide) (fun _ => by decide) ?_
      refine ld rfl .no Fx.ag126 (.u rfl) (fun _ => Rd.own (.there .here) (by first | exact wa_at1 (0) (by omega) (by omega) | exact ba_at1 (0) (by omega) (by omega) | exact wap_at1 (0) (by omega) (by omega) | rfl)) ?_
      refine mv rfl .no (.u rfl) ?_
      refine nc rfl .no (.u rfl) ?_
      refine fz rfl .no Fx.fo132_0 (.u rfl) ?_
      refine iA rfl .no Fx.ar130 (.u rfl) (.u rfl) (fun _ => by decide) (fun _ => by decide) ?_
      refine ld rfl .no Fx.ag126 (.u rfl) (fun _ => Rd.own (.there .here) (by first | exact wa_at1 (1) (by omega) (by omega) | exact ba_at1 (1) (by omega) (by omega) | exact wap_at1 (1) (by omega) (by omega) | rfl)) ?_
      refine mv rfl .no (.u rfl) ?_
      refine nc rfl .no (.u rfl) ?_
      refine fz rfl .no Fx.fo132_0 (.u rfl) ?_
      refine iA rfl .no Fx.ar130 (.u rfl) (.u rfl) (fun _ => by decide) (fun _ => by decide) ?_
      refine ld rfl .no Fx.ag126 (.u rfl) (fun _ => Rd.own (.there .here) (by first | exact wa_at1 (2) (by omega) (by omega) | exact ba_at1 (2) (by omega) (by omega) | exact wap_at1 (2) (by omega) (by omega) | rfl)) ?_
      refine mv rfl .no (.u rfl) ?_
      refine nc rfl .no (.u rfl) ?_
      refine fz rfl .no Fx.fo132_0 (.u rfl) ?_
      refine iA rfl .no Fx.ar130 (.u rfl) (.u rfl) (fun _ => by decide) (fun _ => by decide) ?_
      refine ld rfl .no Fx.ag126 (.u rfl) (fun _ => Rd.own (.there .here) (by first | exact wa_at1 (3) (by omega) (by omega) | exact ba_at1 (3) (by omega) (by omega) | exact wap_at1 (3) (by omega) (by omega) | rfl)) ?_
      refine mv rfl .no (.u rfl) ?_
      refine nc rfl .no (.u rfl) ?_
      refine fz rfl .no Fx.fo132_0 (.u rfl) ?_
      refine iA rfl .no Fx.ar130 (.u rfl) (.u rfl) (fun _ => by decide) (fun _ => by decide) ?_
      refine ld rfl .no Fx.ag126 (.u rfl) (fun _ => Rd.own (.there .here) (by first | exact wa_at1 (4) (by omega) (by omega) | exact ba_at1 (4) (by omega) (by omega) | exact wap_at1 (4) (by omega) (by omega) | rfl)) ?_
      refine mv rfl .no (.u rfl) ?_
      refine nc rfl .no (.u rfl) ?_
      refine fz rfl .no Fx.fo132_0 (.u rfl) ?_
      refine iA rfl .no Fx.ar130 (.u rfl) (.u rfl) (fun _ => by decide) (fun _ => by decide) ?_
      refine ld rfl .no Fx.ag126 (.u rfl) (fun _ => Rd.own (.there .here) (by first | exact wa_at1 (5) (by omega) (by omega) | exact ba_at1 (5) (by omega) (by omega) | exact wap_at1 (5) (by omega) (by omega) | rfl)) ?_
      refine mv rfl .no (.u rfl) ?_
      refine nc rfl .no (.u rfl) ?_
      refine fz rfl .no Fx.fo132_0 (.u rfl) ?_
      refine iA rfl .no Fx.ar130 (.u rfl) (.u rfl) (fun _ => by decide) (fun _ => by decide) ?_
      refine ld rfl .no Fx.ag126 (.u rfl) (fun _ => Rd.own (.there .here) (by first | exact wa_at1 (6) (by omega) (by omega) | exact ba_at1 (6) (by omega) (by omega) | exact wap_at1 (6) (by omega) (by omega) | rfl)) ?_
      refine mv rfl .no (.u rfl) ?_
      refine nc rfl .no (.u rfl) ?_
      refine fz rfl .no Fx.fo132_0 (.u rfl) ?_
      refine iA rfl .no Fx.ar130 (.u rfl) (.u rfl) (fun _ => by decide) (fun _ => by decide) ?_
      refine ld rfl .no Fx.ag126 (.u rfl) (fun _ => Rd.own (.there .here) (by first | exact wa_at1 (7) (by omega) (by omega) | exact ba_at1 (7) (by omega) (by omega) | exact wap_at1 (7) (by omega) (by omega) | rfl)) ?_
      refine asg rfl .no (.u rfl) ?_
      refine asg rfl .no (.u rfl) ?_
      refine asg rfl .no (.u rfl) ?_
      refine asg rfl .no (.u rfl) ?_
      refine asg rfl .no (.u rfl) ?_
      refine asg rfl .no (.u rfl) ?_
      refine asg rfl .no (.u rfl) ?_
      refine asg rfl .no (.u rfl) ?_
      refine .nil ?_
      refine .code ?_
      refine .seq ?_
      refine .seq ?_
      refine Wk.rg [0] rfl rfl ?_
      refine mv rfl .no (.u rfl) ?_
      refine .nil ?_
      refine .code ?_
      refine .block ?_
      refine Wk.lop (α := Nat × (Nat → W)) (fun gh => [(11, true, U (gh.2 0)), (12, true, U (gh.2 1)), (13, true, U (gh.2 2)), (14, true, U (gh.2 3)), (15, true, U (gh.2 4)), (16, true, U (gh.2 5)), (17, true, U (gh.2 6)), (18, true, U (gh.2 7)), (131, true, .int .i64 (gh.1 : Int))]) (fun _ => [])
        (fun gh Gl => (gh.1 ≤ 64) ∧ (gh.2 = rnds y s gh.1)) (fun gh => 64 - gh.1) (0, s) [(0, true, _), (4, true, _)] [_, _]
        (ESub.cons rfl rfl (ESub.cons rfl rfl (ESub.cons rfl rfl (ESub.cons rfl rfl (ESub.cons rfl rfl (ESub.cons rfl rfl (ESub.cons rfl rfl (ESub.cons rfl rfl (ESub.cons rfl (by first | rfl | exact evi (by omega)) (ESub.cons rfl rfl (ESub.cons rfl rfl ESub.nil)))))))))))
        (MSub.cons .here rfl (MSub.cons .here rfl MSub.nil)) ?_ ?_
      · refine ⟨?_, ?_⟩
        · (try dsimp only) <;> (first | omega | rfl | assumption | (simp; done))
        · (try dsimp only) <;> (first | omega | rfl | assumption | (simp; done))
      intro gh N3 Gl3 hN3 hGl3 hF3
      obtain ⟨k2, x⟩ := gh; dsimp only at hF3 hN3 ⊢
      obtain ⟨hk2, ex⟩ := hF3
      have hs := hs.mono hGl3
      have hK := hK.mono hGl3
      refine .seq ?_
      refine Wk.rg [0] rfl rfl ?_
      refine cp rfl .no (.u rfl) (.u rfl) rfl ?_
      refine .nil ?_
      refine .code ?_
      refine .seq ?_
      refine .cond rfl (fun c4 => ?_) (fun c4 => ?_)
      · have c4k := c4
        try simp only [decide_eq_true_eq, decide_eq_false_iff_not, Int.not_lt, Int.not_le, gt_iff_lt, ge_iff_le, Bool.or_eq_true, Bool.and_eq_true, Bool.or_eq_false_iff, Bool.not_eq_true', Bool.not_eq_false', Int.toNat_natCast, bne_iff_ne, beq_iff_eq, bne_eq_false_iff_eq, beq_eq_false_iff_ne, ne_eq] at c4
        refine .skip ?_
        refine .code ?_
        refine .seq ?_
        refine .block ?_
        refine .seq ?_
        refine Wk.rg [0, 1] rfl rfl ?_
        refine mv rfl .no (.u rfl) ?_
        refine asg rfl .no (.u rfl) ?_
        refine .nil ?_
        refine .code ?_
        refine .seq ?_
        refine Wk.draw (mc := ⟨false, false⟩) [0, 1, 3, 6, 10, 11, 12, 13, 14, 15, 16, 18, 19, 20, 22, 23, 24, 2, 4, 5, 7, 8, 9, 17, 21, 25, 26] Fx.mix (by kernel_rfl) ?_
        refine mv rfl .no (.u rfl) ?_
        refine mv rfl .no (.u rfl) ?_
        refine mv rfl .no (.u rfl) ?_
        refine mv rfl .no (.u rfl) ?_
        refine mv rfl .no (.u rfl) ?_
        refine mv rfl .no (.u rfl) ?_
        refine mv rfl .no (.u rfl) ?_
        refine mv rfl .no (.u rfl) ?_
        refine bw (k := .u32) rfl .no rfl (.u rfl) (.u rfl) rfl ?_
        refine bw (k := .u32) rfl .no rfl (.u rfl) (.u rfl) rfl ?_
        refine bw (k := .u32) rfl .no rfl (.u rfl) (.u rfl) rfl ?_
        refine mv rfl .no (.u rfl) ?_
        refine iA rfl .no Fx.ar162 (.u rfl) (.u rfl) (fun _ => by omega) (fun _ => by omega) ?_
        refine ld rfl .no Fx.ag126 (.u rfl) (fun _ => (hK.wat (k2) (by omega) (by omega)).rd) ?_
        refine mv rfl .no (.u rfl) ?_
        refine iA rfl .no Fx.ar162 (.u rfl) (.u rfl) (fun _ => by omega) (fun _ => by omega) ?_
        refine ld rfl .no Fx.ag126 (.u rfl) (fun _ => Rd.own .here (by first | exact wa_at1 (k2) (by omega) (by omega) | exact ba_at1 (k2) (by omega) (by omega) | exact wap_at1 (k2) (by omega) (by omega) | rfl)) ?_
        refine kv rfl .no Fx.go85 (Eva.cons (.u rfl) (Eva.cons (.u rfl) Eva.nil)) (fun _ => right_ok _ 6 _ (by decide)) ?_
        refine kv rfl .no Fx.go85 (Eva.cons (.u rfl) (Eva.cons (.u rfl) Eva.nil)) (fun _ => right_ok _ 11 _ (by decide)) ?_
        refine bw (k := .u32) rfl .no rfl (.u rfl) (.u rfl) rfl ?_
        refine kv rfl .no Fx.go85 (Eva.cons (.u rfl) (Eva.cons (.u rfl) Eva.nil)) (fun _ => right_ok _ 25 _ (by decide)) ?_
        refine bw (k := .u32) rfl .no rfl (.u rfl) (.u rfl) rfl ?_
        refine bw (k := .u32) rfl .no rfl (.u rfl) (.u rfl) rfl ?_
        refine bw (k := .u32) rfl .no rfl (.u rfl) (.u rfl) rfl ?_
        refine bw (k := .u32) rfl .no rfl (.u rfl) (.u rfl) rfl ?_
        refine bw (k := .u32) rfl .no rfl (.u rfl) (.u rfl) rfl ?_
        refine asg rfl .no (.u rfl) ?_
        refine .nil ?_
        refine .code ?_
        refine .seq ?_
        refine Wk.rg [0, 1, 2, 3, 4, 5, 6, 7, 8, 9, 10, 11, 12, 13, 14, 15, 16, 17, 18] rfl rfl ?_
        refine mv rfl .no (.u rfl) ?_
        refine kv rfl .no Fx.go85 (Eva.cons (.u rfl) (Eva.cons (.u rfl) Eva.nil)) (fun _ => right_ok _ 2 _ (by decide)) ?_
        refine mv rfl .no (.u rfl) ?_
        refine kv rfl .no Fx.go85 (Eva.cons (.u rfl) (Eva.cons (.u rfl) Eva.nil)) (fun _ => right_ok _ 13 _ (by decide)) ?_
        refine bw (k := .u32) rfl .no rfl (.u rfl) (.u rfl) rfl ?_
        refine mv rfl .no (.u rfl) ?_
        refine kv rfl .no Fx.go85 (Eva.cons (.u rfl) (Eva.cons (.u rfl) Eva.nil)) (fun _ => right_ok _ 22 _ (by decide)) ?_
        refine bw (k := .u32) rfl .no rfl (.u rfl) (.u rfl) rfl ?_
        refine mv rfl .no (.u rfl) ?_
        refine mv rfl .no (.u rfl) ?_
        refine bw (k := .u32) rfl .no rfl (.u rfl) (.u rfl) rfl ?_
        refine mv rfl .no (.u rfl) ?_
        refine mv rfl .no (.u rfl) ?_
        refine mv rfl .no (.u rfl) ?_
        refine bw (k := .u32) rfl .no rfl (.u rfl) (.u rfl) rfl ?_
        refine bw (k := .u32) rfl .no rfl (.u rfl) (.u rfl) rfl ?_
        refine bw (k := .u32) rfl .no rfl (.u rfl) (.u rfl) rfl ?_
        refine bw (k := .u32) rfl .no rfl (.u rfl) (.u rfl) rfl ?_
        refine asg rfl .no (.u rfl) ?_
        refine .nil ?_
        refine .code ?_
        refine Wk.rg [0, 1, 2, 3, 4, 5, 6, 7, 8, 9, 10, 11, 12, 13, 14, 15, 16, 17, 18, 19] rfl rfl ?_
        refine mv rfl .no (.u rfl) ?_
        refine mv rfl .no (.u rfl) ?_
        refine bw (k := .u32) rfl .no rfl (.u rfl) (.u rfl) rfl ?_
        refine mv rfl .no (.u rfl) ?_
        refine mv rfl .no (.u rfl) ?_
        refine mv rfl .no (.u rfl) ?_
        refine mv rfl .no (.u rfl) ?_
        refine mv rfl .no (.u rfl) ?_
        refine bw (k := .u32) rfl .no rfl (.u rfl) (.u rfl) rfl ?_
        refine mv rfl .no (.u rfl) ?_
        refine mv rfl .no (.u rfl) ?_
        refine mv rfl .no (.u rfl) ?_
        refine asg rfl .no (.u rfl) ?_
        refine asg rfl .no (.u rfl) ?_
        refine asg rfl .no (.u rfl) ?_
        refine asg rfl .no (.u rfl) ?_
        refine asg rfl .no (.u rfl) ?_
        refine asg rfl .no (.u rfl) ?_
        refine asg rfl .no (.u rfl) ?_
        refine asg rfl .no (.u rfl) ?_
        refine .nil ?_
        refine .blk ?_
        refine .code ?_
        refine Wk.rg [0, 1] rfl rfl ?_
        refine arn (((k2 + 1) : Nat) : Int) rfl .no (.u rfl) (.u rfl) rfl (fun _ => by omega) (fun _ => wrap_i64 (by omega) (by omega)) ?_
        refine mv rfl .no (.u rfl) ?_
        refine .nil ?_
        refine We.lpo (k2 + 1, rndW x (kW k2) (y k2)) ?_ ?_ ?_ ?_ ?_
        · exact (ESub.cons rfl rfl (ESub.cons rfl rfl (ESub.cons rfl rfl (ESub.cons rfl rfl (ESub.cons rfl rfl (ESub.cons rfl rfl (ESub.cons rfl rfl (ESub.cons rfl rfl (ESub.cons rfl (by first | rfl | exact evi (by omega)) (ESub.cons rfl rfl (ESub.cons rfl rfl ESub.nil)))))))))))
        · exact (MSub.cons .here rfl (MSub.cons .here rfl MSub.nil))
        · first | omega | (dsimp only; omega)
        · exact hGl3
        · refine ⟨?_, ?_⟩
          · (try dsimp only) <;> (first | omega | rfl | assumption | (simp; done))
          · (try dsimp only) <;> (rw [ex]; rfl)
      · have c4k := c4
        try simp only [decide_eq_true_eq, decide_eq_false_iff_not, Int.not_lt, Int.not_le, gt_iff_lt, ge_iff_le, Bool.or_eq_true, Bool.and_eq_true, Bool.or_eq_false_iff, Bool.not_eq_true', Bool.not_eq_false', Int.toNat_natCast, bne_iff_ne, beq_iff_eq, bne_eq_false_iff_eq, beq_eq_false_iff_ne, ne_eq] at c4
        refine .exit ?_
        refine .xcode ?_
        refine .xlp ?_
        refine .xblk ?_
        refine .code ?_
        refine .seq ?_
        obtain rfl : k2 = 64 := by omega
        refine Wk.rg [0, 1, 2, 3, 4, 5, 6, 7, 8, 9] rfl rfl ?_
        refine mv rfl .no (.u rfl) ?_
        refine mv rfl .no (.u rfl) ?_
        refine mv rfl .no (.u rfl) ?_
        refine mv rfl .no (.u rfl) ?_
        refine mv rfl .no (.u rfl) ?_
        refine mv rfl .no (.u rfl) ?_
        refine mv rfl .no (.u rfl) ?_
        refine mv rfl .no (.u rfl) ?_
        refine bCe (wa 8 x) rfl .no Fx.bp130_0_1_2_3_4_5_6_7 (.cons (.u rfl) rfl (.cons (.u rfl) rfl (.cons (.u rfl) rfl (.cons (.u rfl) rfl (.cons (.u rfl) rfl (.cons (.u rfl) rfl (.cons (.u rfl) rfl (.cons (.u rfl) rfl .nil)))))))) rfl (by simp [bFold, put, wa, List.range_succ]) ?_
        refine mv rfl .no (.u rfl) ?_
        refine .nil ?_
        refine .code ?_
        refine .block ?_
        refine Wk.lop (α := Nat × (Nat → W)) (fun gh => [(200, true, .int .i64 (gh.1 : Int))]) (fun gh => [.blk bs (cl (wa 8 gh.2 ++ [vp, nn]) 132)])
          (fun gh Gl => (gh.1 ≤ 8) ∧ (gh.2 = fun i => if i < gh.1 then s i + x i else s i)) (fun gh => 8 - gh.1) (0, s) [(0, true, _), (199, true, _)] [_]
          (ESub.cons rfl (by first | rfl | exact evi (by omega)) (ESub.cons rfl rfl (ESub.cons rfl rfl ESub.nil)))
          (MSub.cons (.there .here) rfl (MSub.cons .here rfl MSub.nil)) ?_ ?_
        · refine ⟨?_, ?_⟩
          · (try dsimp only) <;> (first | omega | rfl | assumption | (simp; done))
          · (try dsimp only) <;> (funext i; simp)
        intro gh N4 Gl4 hN4 hGl4 hF4
        obtain ⟨k3, z⟩ := gh; dsimp only at hF4 hN4 ⊢
        obtain ⟨hk3, ez⟩ := hF4
        have hs := hs.mono hGl4
        have hK := hK.mono hGl4
        refine .seq ?_
        refine Wk.rg [0] rfl rfl ?_
        refine cp rfl .no (.u rfl) (.u rfl) rfl ?_
        refine .nil ?_
        refine .code ?_
        refine .seq ?_
        refine .cond rfl (fun c5 => ?_) (fun c5 => ?_)
        · have c5k := c5
          try simp only [decide_eq_true_eq, decide_eq_false_iff_not, Int.not_lt, Int.not_le, gt_iff_lt, ge_iff_le, Bool.or_eq_true, Bool.and_eq_true, Bool.or_eq_false_iff, Bool.not_eq_true', Bool.not_eq_false', Int.toNat_natCast, bne_iff_ne, beq_iff_eq, bne_eq_false_iff_eq, beq_eq_false_iff_ne, ne_eq] at c5
          refine .skip ?_
          refine .code ?_
          refine .seq ?_
          refine .block ?_
          refine .seq ?_
          refine Wk.rg [0, 1, 2, 3] rfl rfl ?_
          refine mv rfl .no (.u rfl) ?_
          refine ix rfl .no Fx.ar130 Fx.ag126 (.u rfl) (.u rfl) (fun _ => by omega) (fun _ => by omega) (fun _ => wa_at (n := 8) (y := x) (j := k3) (by omega)) ?_
          refine asg rfl .no (.u rfl) ?_
          refine asg rfl .no (.u rfl) ?_
          refine .nil ?_
          refine .code ?_
          refine Wk.draw (mc := ⟨false, false⟩) [0, 1, 2, 3, 4, 5, 6, 7, 8, 9, 10, 11] Fx.mix (by kernel_rfl) ?_
          refine mv rfl .no (.u rfl) ?_
          refine mv rfl .no (.u rfl) ?_
          refine nc rfl .no (.u rfl) ?_
          refine fz rfl .no Fx.fo132_0 (.u rfl) ?_
          refine iA rfl .no Fx.ar130 (.u rfl) (.u rfl) (fun _ => by omega) (fun _ => by omega) ?_
          refine ld rfl .no Fx.ag126 (.u rfl) (fun _ => Rd.own .here (by first | exact wa_at1 (k3) (by omega) (by omega) | exact ba_at1 (k3) (by omega) (by omega) | exact wap_at1 (k3) (by omega) (by omega) | rfl)) ?_
          refine mv rfl .no (.u rfl) ?_
          refine bw (k := .u32) rfl .no rfl (.u rfl) (.u rfl) rfl ?_
          refine nc rfl .no (.u rfl) ?_
          refine fz rfl .no Fx.fo132_0 (.u rfl) ?_
          refine iA rfl .no Fx.ar130 (.u rfl) (.u rfl) (fun _ => by omega) (fun _ => by omega) ?_
          refine s1 rfl (.u rfl) (.u rfl) rfl Fx.sz126 .here (by first | decide | (simp only [wa_len, ba_len, List.length_append, List.length_cons, List.length_nil]; omega)) (by first | exact wa_set1 (k3) (by omega) | exact ba_set1 (k3) (by omega) | exact wap_set1 (k3) (by omega) (by omega) | rfl) ?_
          refine .nil ?_
          refine .blk ?_
          refine .code ?_
          refine Wk.rg [0, 1] rfl rfl ?_
          refine arn (((k3 + 1) : Nat) : Int) rfl .no (.u rfl) (.u rfl) rfl (fun _ => by omega) (fun _ => wrap_i64 (by omega) (by omega)) ?_
          refine mv rfl .no (.u rfl) ?_
          refine .nil ?_
          refine We.lpo (k3 + 1, _) (ESub.cons rfl (by first | rfl | exact evi (by omega)) (ESub.cons rfl rfl (ESub.cons rfl rfl ESub.nil))) (MSub.cons .here rfl (MSub.cons .here rfl MSub.nil)) ?_ ?_ ?_
          · first | omega | (dsimp only; omega)
          · exact hGl4
          · refine ⟨?_, ?_⟩
            · (try dsimp only) <;> (first | omega | rfl | assumption | (simp; done))
            · (try dsimp only) <;> (rw [ez]; exact upd_if)
        · have c5k := c5
          try simp only [decide_eq_true_eq, decide_eq_false_iff_not, Int.not_lt, Int.not_le, gt_iff_lt, ge_iff_le, Bool.or_eq_true, Bool.and_eq_true, Bool.or_eq_false_iff, Bool.not_eq_true', Bool.not_eq_false', Int.toNat_natCast, bne_iff_ne, beq_iff_eq, bne_eq_false_iff_eq, beq_eq_false_iff_ne, ne_eq] at c5
          refine .exit ?_
          refine .xcode ?_
          refine .xlp ?_
          refine .xblk ?_
          refine .nil ?_
          refine We.fin Tryd.results79 .nil (MSub.cons .here rfl MSub.nil) ?_
          obtain rfl : k3 = 8 := by omega
          refine ⟨?_, rfl⟩
          rw [ez, ex, ey, wa_congr (f := fun i => if i < 8 then s i + rnds (sched (fun i => xs.getD i 0) 48) s 64 i else s i) (f' := shaC s (fun i => xs.getD i 0)) (fun i hi => by rw [if_pos hi]; rfl)]

end Go.Proofs.YtbdnclpopappeaaDoor

namespace Go.Proofs.YtbdnclpopappeaaDoor
set_option linter.unusedSimpArgs false
set_option linter.unusedVariables false
open Go.Tan Go.RowKit

namespace Fx
theorem fo132_2 : fOff Tryd.prog 132 2 = some 9 := by kernel_rfl
theorem ag3 : aggN Tryd.prog 3 = some none := by kernel_rfl
theorem sz3 : szT Tryd.prog 3 = some 1 := by kernel_rfl
theorem fo132_1 : fOff Tryd.prog 132 1 = some 8 := by kernel_rfl
theorem ag36 : aggN Tryd.prog 36 = some none := by kernel_rfl
theorem zv5 : (Tryd.prog.info? 5).bind (·.zero) = some (.int .u8 0) := by kernel_rfl
theorem sz36 : szT Tryd.prog 36 = some 1 := by kernel_rfl
theorem go79 : goFn Tryd.prog 79 = true := by kernel_rfl
end Fx
theorem block_row (s : Nat → W) (xs : List Y) (v vp nn : Value) (bs : Nat) (G : PM) (hK : RdNP G 0 0 (wa 64 kW)) (hl : 64 ≤ xs.length) : Ct Tryd.prog 79 ([.pointer (some ⟨bs, 0, none⟩), v] : List Value).toArray G [rB v 5 xs, .blk bs (cl (wa 8 s ++ [vp, nn]) 132)] (fun _ μ' u => ∃ ν, μ' = rB v 5 xs :: ν ∧ ν = [.blk bs (cl (wa 8 (shaC s (fun i => xs.getD i 0)) ++ [vp, nn]) 132)] ∧ u = .tuple #[]) :=
  Ct.lendB (fun h G2 hle hv hs => by subst hv; exact block_ok s xs h vp nn bs G2 hs (hK.mono hle) hl)
theorem st_s8 {y : Nat → W} {a b v : Value} : (wa 8 y ++ [a, b]).set 8 v = wa 8 y ++ [v, b] := wap_s rfl
theorem st_s9 {y : Nat → W} {a b v : Value} : (wa 8 y ++ [a, b]).set 9 v = wa 8 y ++ [a, v] := wap_s rfl
theorem st_eq {zs : List Y} {j m b T : Nat} {vp : Value} (hj : zs.length / 64 = j) (hm : m = zs.length) : Res.blk b (cl (wa 8 (shaW zs j) ++ [vp, .int .i64 (m : Int)]) T) = .blk b (cl (stC zs vp) T) := by
  subst hj; subst hm; rfl
theorem put_step {zs L : List Y} {j b T : Nat} {vq nn : Value} (eL : L = zs.drop (64 * j)) (h : 64 ≤ L.length) : Res.blk b (cl (wa 8 (shaC (shaW zs j) (fun i => L.getD i 0)) ++ [vq, nn]) T) = .blk b (cl (wa 8 (shaW zs (j + 1)) ++ [vq, nn]) T) := by
  rw [shaW, shaC_congr (b' := blkF zs j)]
  intro i hi
  rw [eL, blkF]; simp [List.getD_eq_getElem?_getD, List.getElem?_drop]
theorem put_first {xs ys L : List Y} {b T k : Nat} {vq nn : Value} (eL : L = restL xs ++ ys.take k) (hk : k = min (64 - (restL xs).length) ys.length) (h : 64 ≤ L.length) : Res.blk b (cl (wa 8 (shaC (shaW xs (xs.length / 64)) (fun i => L.getD i 0)) ++ [vq, nn]) T) = .blk b (cl (wa 8 (shaW (xs ++ ys) (xs.length / 64 + 1)) ++ [vq, nn]) T) := by
  have hr := rest_len xs
  rw [eL, List.length_append, List.length_take] at h
  rw [shaW, shaW_app (by omega), shaC_congr (b' := blkF (xs ++ ys) (xs.length / 64))]
  intro i hi
  rw [eL, blkF]
  simp only [List.getD_eq_getElem?_getD, List.getElem?_append, List.getElem?_take, hr]
  by_cases h1 : i < xs.length % 64
  · simp [h1, restL, show 64 * (xs.length / 64) + i < xs.length by omega]
  · rw [if_neg h1, if_pos (by omega), if_neg (by omega)]
    congr 2; omega
theorem put_rest {xs ys L : List Y} (eL : L = restL xs ++ ys.take (min (64 - (restL xs).length) ys.length)) (h : L.length < 64) : L = restL (xs ++ ys) ∧ (xs ++ ys).length / 64 = xs.length / 64 ∧ shaW (xs ++ ys) (xs.length / 64) = shaW xs (xs.length / 64) := by
  have hr := rest_len xs
  rw [eL, List.length_append, List.length_take] at h
  have e : (xs ++ ys).length / 64 = xs.length / 64 := by rw [List.length_append]; omega
  refine ⟨?_, e, shaW_app (by omega)⟩
  have h5 : min (64 - (restL xs).length) ys.length = ys.length := by omega
  rw [eL, h5, List.take_length, restL, restL, e, List.drop_append_of_le_length (by omega)]
theorem put_drop {xs ys : List Y} (h : 64 ≤ (restL xs).length + ys.length) : ys.drop (min (64 - (restL xs).length) ys.length) = (xs ++ ys).drop (64 * (xs.length / 64 + 1)) := by
  have hr := rest_len xs
  rw [List.drop_append, List.drop_of_length_le (show xs.length ≤ 64 * (xs.length / 64 + 1) by omega), List.nil_append]
  congr 1; omega
theorem put_drop0 {xs ys : List Y} (h : (restL xs).length = 0) : ys = (xs ++ ys).drop (64 * (xs.length / 64)) := by
  have hr := rest_len xs
  rw [show 64 * (xs.length / 64) = xs.length by omega, List.drop_left]
theorem put_zero {xs ys : List Y} {b T : Nat} {vq nn : Value} (h : (restL xs).length = 0) : Res.blk b (cl (wa 8 (shaW xs (xs.length / 64)) ++ [vq, nn]) T) = .blk b (cl (wa 8 (shaW (xs ++ ys) (xs.length / 64)) ++ [vq, nn]) T) := by
  rw [shaW_app (by omega)]
theorem put_ok (xs ys : List Y) (h : Sh) (vp : Value) (bs : Nat) (G : PM) (hs : SlR G 1 encY h ys) (hK : RdNP G 0 0 (wa 64 kW)) (hl : xs.length + ys.length ≤ 4611686018427387904) : Ct Tryd.prog 65 ([.pointer (some ⟨bs, 0, none⟩), h.val ys.length] : List Value).toArray G [.blk bs (cl (stC xs vp) 132), rB vp 5 (restL xs)] (fun _ μ' u => ∃ vp', μ' = [.blk bs (cl (stC (xs ++ ys) vp') 132), rB vp' 5 (restL (xs ++ ys))] ∧ u = .tuple #[]) := by
  refine Ct.of Tryd.func65 rfl Tryd.ntmps65 rfl fun w0 hs0 => ?_
  have hr := rest_len xs
  refine .seq ?_
  refine Wk.rg [0, 1, 2, 3, 4, 5, 6, 7, 8, 9] rfl rfl ?_
  refine mv rfl .no (.u rfl) ?_
  refine nc rfl .no (.u rfl) ?_
  refine fz rfl .no Fx.fo132_2 (.u rfl) ?_
  refine ld rfl .no Fx.ag3 (.u rfl) (fun _ => Rd.own .here (by first | exact wap_f rfl | rfl)) ?_
  refine mv rfl .no (.u rfl) ?_
  refine ln rfl .no Fx.sn36 (.u rfl) ?_
  refine arn (((xs.length + ys.length) : Nat) : Int) rfl .no (.u rfl) (.u rfl) rfl (fun _ => by omega) (fun _ => wrap_i64 (by omega) (by omega)) ?_
  refine nc rfl .no (.u rfl) ?_
  refine fz rfl .no Fx.fo132_2 (.u rfl) ?_
  refine s1 rfl (.u rfl) (.u rfl) rfl Fx.sz3 .here (by first | decide | (simp only [stC, wa_len, ba_len, List.length_append, List.length_cons, List.length_nil]; omega)) (by first | exact st_s8 | exact st_s9) ?_
  refine .nil ?_
  refine .code ?_
  refine .seq ?_
  refine .seq ?_
  refine Wk.rg [0, 1, 2, 3, 4, 5] rfl rfl ?_
  refine mv rfl .no (.u rfl) ?_
  refine nc rfl .no (.u rfl) ?_
  refine fz rfl .no Fx.fo132_1 (.u rfl) ?_
  refine ld rfl .no Fx.ag36 (.u rfl) (fun _ => Rd.own .here (by first | exact wap_f rfl | rfl)) ?_
  refine lr rfl .no Fx.sn36 (.u rfl) (.there .here) ?_
  refine cp rfl .no (.u rfl) (.u rfl) rfl ?_
  refine .nil ?_
  refine .code ?_
  refine .cond rfl (fun c1 => ?_) (fun c1 => ?_)
  · have c1k := c1
    try simp only [decide_eq_true_eq, decide_eq_false_iff_not, Int.not_lt, Int.not_le, gt_iff_lt, ge_iff_le, Bool.or_eq_true, Bool.and_eq_true, Bool.or_eq_false_iff, Bool.not_eq_true', Bool.not_eq_false', Int.toNat_natCast, bne_iff_ne, beq_iff_eq, bne_eq_false_iff_eq, beq_eq_false_iff_ne, ne_eq] at c1
    refine .seq ?_
    refine Wk.rg [0, 1, 2, 3, 4, 5, 6, 7, 8, 9] rfl rfl ?_
    refine mv rfl .no (.u rfl) ?_
    refine nc rfl .no (.u rfl) ?_
    refine fz rfl .no Fx.fo132_1 (.u rfl) ?_
    refine ld rfl .no Fx.ag36 (.u rfl) (fun _ => Rd.own .here (by first | exact wap_f rfl | rfl)) ?_
    refine lr rfl .no Fx.sn36 (.u rfl) (.there .here) ?_
    refine arn (((64 - (restL xs).length) : Nat) : Int) rfl .no (.u rfl) (.u rfl) rfl (fun _ => by omega) (fun _ => wrap_i64 (by omega) (by omega)) ?_
    refine mv rfl .no (.u rfl) ?_
    refine ln rfl .no Fx.sn36 (.u rfl) ?_
    refine mIn ((64 - (restL xs).length)) (ys.length) rfl .no (.u rfl) (.u rfl) (fun _ => by omega) (fun _ => by omega) ?_
    refine asg rfl .no (.u rfl) ?_
    refine .nil ?_
    refine .code ?_
    refine .seq ?_
    refine Wk.draw (mc := ⟨false, false⟩) [0, 1, 2, 3, 4, 5, 6, 7, 8, 9, 10, 11] Fx.mix (by kernel_rfl) ?_
    refine mv rfl .no (.u rfl) ?_
    refine mv rfl .no (.u rfl) ?_
    refine nc rfl .no (.u rfl) ?_
    refine fz rfl .no Fx.fo132_1 (.u rfl) ?_
    refine ld rfl .no Fx.ag36 (.u rfl) (fun _ => Rd.own .here (by first | exact wap_f rfl | rfl)) ?_
    refine mv rfl .no (.u rfl) ?_
    refine mv rfl .no (.u rfl) ?_
    refine kE ((min (64 - (restL xs).length) ys.length)) rfl .no Fx.se36 hs (.u rfl) (.u rfl) (fun _ => by omega) (fun _ => by omega) ?_
    intro h36 L36 eL36 lL36 hs36
    have lL36 := lL36 rfl
    refine apY rfl Fx.se36 Fx.zv5 (.u rfl) (.u rfl) (.there .here) hs36.sc (by (try simp only [List.length_append, List.length_cons, List.length_nil, yl_len]); omega) ?_
    intro v37 L37 ov37 eL37
    have lL37 : L37.length = (restL xs).length + L36.length := by rw [eL37, List.length_append]
    refine nc rfl .no (.u rfl) ?_
    refine fz rfl .no Fx.fo132_1 (.u rfl) ?_
    refine s1v rfl (.u rfl) (.u rfl) .here Fx.sz36 (.there .here) (by first | decide | (simp only [stC, wa_len, ba_len, List.length_append, List.length_cons, List.length_nil]; omega)) (by first | exact st_s8 | exact st_s9) ?_
    refine .nil ?_
    refine .code ?_
    refine .seq ?_
    refine Wk.rg [0, 1, 2, 3] rfl rfl ?_
    refine mv rfl .no (.u rfl) ?_
    refine mv rfl .no (.u rfl) ?_
    refine kD ((min (64 - (restL xs).length) ys.length)) rfl .no Fx.se36 hs (.u rfl) (.u rfl) (fun _ => by omega) (fun _ => by omega) ?_
    intro h42 L42 eL42 lL42 hs42
    have lL42 := lL42 rfl
    refine asg rfl .no (.u rfl) ?_
    refine .nil ?_
    refine .code ?_
    refine .seq ?_
    refine .seq ?_
    refine Wk.rg [0, 1, 2, 3, 4, 5] rfl rfl ?_
    refine mv rfl .no (.u rfl) ?_
    refine nc rfl .no (.u rfl) ?_
    refine fz rfl .no Fx.fo132_1 (.u rfl) ?_
    refine ld rfl .no Fx.ag36 (.u rfl) (fun _ => Rd.own .here (by first | exact wap_f rfl | rfl)) ?_
    refine lr rfl .no Fx.sn36 (.u rfl) (.there .here) ?_
    refine cp rfl .no (.u rfl) (.u rfl) rfl ?_
    refine .nil ?_
    refine .code ?_
    refine .cond rfl (fun c2 => ?_) (fun c2 => ?_)
    · have c2k := c2
      try simp only [decide_eq_true_eq, decide_eq_false_iff_not, Int.not_lt, Int.not_le, gt_iff_lt, ge_iff_le, Bool.or_eq_true, Bool.and_eq_true, Bool.or_eq_false_iff, Bool.not_eq_true', Bool.not_eq_false', Int.toNat_natCast, bne_iff_ne, beq_iff_eq, bne_eq_false_iff_eq, beq_eq_false_iff_ne, ne_eq] at c2
      refine .ret ?_
      refine We.fin Tryd.results65 .nil (MSub.cons .here rfl (MSub.cons .here rfl MSub.nil)) ?_
      obtain ⟨e1, e2, e3⟩ := put_rest (eL37.trans (by rw [eL36])) (by omega)
      exact ⟨v37, by rw [← e1, ← e3, st_eq e2 (by simp)], rfl⟩
    · have c2k := c2
      try simp only [decide_eq_true_eq, decide_eq_false_iff_not, Int.not_lt, Int.not_le, gt_iff_lt, ge_iff_le, Bool.or_eq_true, Bool.and_eq_true, Bool.or_eq_false_iff, Bool.not_eq_true', Bool.not_eq_false', Int.toNat_natCast, bne_iff_ne, beq_iff_eq, bne_eq_false_iff_eq, beq_eq_false_iff_ne, ne_eq] at c2
      refine .skip ?_
      refine .code ?_
      refine .seq ?_
      refine Wk.rg [0, 1, 2, 3, 4, 5] rfl rfl ?_
      refine mv rfl .no (.u rfl) ?_
      refine mv rfl .no (.u rfl) ?_
      refine nc rfl .no (.u rfl) ?_
      refine fz rfl .no Fx.fo132_1 (.u rfl) ?_
      refine ld rfl .no Fx.ag36 (.u rfl) (fun _ => Rd.own .here (by first | exact wap_f rfl | rfl)) ?_
      refine ka rfl (.inr rfl) Fx.go79 (Eva.cons (.u rfl) (Eva.cons (.u rfl) Eva.nil)) (mtk2 (.there .here) .here) (block_row _ L37 _ _ _ _ _ hK (by omega)) ?_
      rintro _ G54 μ54 hG54 ⟨_, rfl, rfl, rfl⟩
      have hs := hs.mono hG54
      have hK := hK.mono hG54
      have hs36 := hs36.mono hG54
      have hs42 := hs42.mono hG54
      refine .nil ?_
      refine .code ?_
      refine Wk.rg [0, 1, 2, 3] rfl rfl ?_
      refine mv rfl .no (.u rfl) ?_
      refine nc rfl .no (.u rfl) ?_
      refine fz rfl .no Fx.fo132_1 (.u rfl) ?_
      refine s1 rfl (.u rfl) (.u rfl) rfl Fx.sz36 (.there .here) (by first | decide | (simp only [stC, wa_len, ba_len, List.length_append, List.length_cons, List.length_nil]; omega)) (by first | exact st_s8 | exact st_s9) ?_
      refine .nil ?_
      refine we_nilB 5 ?_
      refine .code ?_
      refine .seq ?_
      refine .block ?_
      refine Wk.lop (α := Nat × Sh × List Y × Value) (fun gh => [(1, true, gh.2.1.val gh.2.2.1.length)]) (fun gh => [.blk bs (cl (wa 8 (shaW (xs ++ ys) gh.1) ++ [gh.2.2.2, .int .i64 ((xs.length + ys.length : Nat) : Int)]) 132)])
        (fun gh Gl => (64 * gh.1 ≤ xs.length + ys.length) ∧ (gh.2.2.1 = (xs ++ ys).drop (64 * gh.1)) ∧ (SlR Gl 1 encY gh.2.1 gh.2.2.1)) (fun gh => gh.2.2.1.length) (xs.length / 64 + 1, _, _, _) [(0, true, _)] [_]
        (ESub.cons rfl rfl (ESub.cons rfl rfl ESub.nil))
        (MSub.cons (.there .here) (put_first (eL37.trans (by rw [eL36])) rfl (by omega)) (MSub.cons .here rfl MSub.nil)) ?_ ?_
      · refine ⟨?_, ?_, ?_⟩
        · (try dsimp only) <;> (omega)
        · (try dsimp only) <;> (rw [eL42]; exact put_drop (by omega))
        · (try dsimp only) <;> (exact hs42)
      intro gh N0 Gl0 hN0 hGl0 hF0
      obtain ⟨j, h', L, vq⟩ := gh; dsimp only at hF0 hN0 ⊢
      obtain ⟨hj, eL, hL⟩ := hF0
      have hs := hs.mono hGl0
      have hK := hK.mono hGl0
      have hs36 := hs36.mono hGl0
      have hs42 := hs42.mono hGl0
      have lL : L.length = xs.length + ys.length - 64 * j := by rw [eL]; simp
      refine .seq ?_
      refine .seq ?_
      refine Wk.rg [0, 1, 2] rfl rfl ?_
      refine mv rfl .no (.u rfl) ?_
      refine ln rfl .no Fx.sn36 (.u rfl) ?_
      refine cp rfl .no (.u rfl) (.u rfl) rfl ?_
      refine .nil ?_
      refine .code ?_
      refine .cond rfl (fun c3 => ?_) (fun c3 => ?_)
      · have c3k := c3
        try simp only [decide_eq_true_eq, decide_eq_false_iff_not, Int.not_lt, Int.not_le, gt_iff_lt, ge_iff_le, Bool.or_eq_true, Bool.and_eq_true, Bool.or_eq_false_iff, Bool.not_eq_true', Bool.not_eq_false', Int.toNat_natCast, bne_iff_ne, beq_iff_eq, bne_eq_false_iff_eq, beq_eq_false_iff_ne, ne_eq] at c3
        refine .skip ?_
        refine .code ?_
        refine .seq ?_
        refine .block ?_
        refine Wk.rg [0, 1, 2] rfl rfl ?_
        refine mv rfl .no (.u rfl) ?_
        refine mv rfl .no (.u rfl) ?_
        refine ka rfl (.inr rfl) Fx.go79 (Eva.cons (.u rfl) (Eva.cons (.u rfl) Eva.nil)) (mtk1 .here) (block_ok _ L h' _ _ _ _ hL hK (by omega)) ?_
        rintro _ G65 μ65 hG65 ⟨rfl, rfl⟩
        have hs := hs.mono hG65
        have hK := hK.mono hG65
        have hs36 := hs36.mono hG65
        have hs42 := hs42.mono hG65
        have hL := hL.mono hG65
        refine .nil ?_
        refine .blk ?_
        refine .code ?_
        refine Wk.rg [0, 1, 2] rfl rfl ?_
        refine mv rfl .no (.u rfl) ?_
        refine kD (64) rfl .no Fx.se36 hL (.u rfl) (.u rfl) (fun _ => by omega) (fun _ => by omega) ?_
        intro h62 L62 eL62 lL62 hs62
        have lL62 := lL62 rfl
        refine asg rfl .no (.u rfl) ?_
        refine .nil ?_
        refine We.lpo (j + 1, h62, L62, vq) ?_ ?_ ?_ ?_ ?_
        · exact (ESub.cons rfl rfl (ESub.cons rfl rfl ESub.nil))
        · exact (MSub.cons .here (put_step eL (by omega)) (MSub.cons .here rfl MSub.nil))
        · first | omega | (dsimp only; omega)
        · exact (hGl0).trans hG65
        · refine ⟨?_, ?_, ?_⟩
          · (try dsimp only) <;> (omega)
          · (try dsimp only) <;> (rw [eL62, eL, List.drop_drop]; congr 1)
          · (try dsimp only) <;> (exact hs62)
      · have c3k := c3
        try simp only [decide_eq_true_eq, decide_eq_false_iff_not, Int.not_lt, Int.not_le, gt_iff_lt, ge_iff_le, Bool.or_eq_true, Bool.and_eq_true, Bool.or_eq_false_iff, Bool.not_eq_true', Bool.not_eq_false', Int.toNat_natCast, bne_iff_ne, beq_iff_eq, bne_eq_false_iff_eq, beq_eq_false_iff_ne, ne_eq] at c3
        refine .exit ?_
        refine .xcode ?_
        refine .xlp ?_
        refine .xblk ?_
        refine .code ?_
        refine Wk.rg [0, 1, 2, 3, 4, 5, 6] rfl rfl ?_
        refine mv rfl .no (.u rfl) ?_
        refine b0B rfl Fx.se36 ?_; intro b67
        refine mv rfl .no (.u rfl) ?_
        refine apY0 rfl Fx.se36 Fx.zv5 (.u rfl) (.u rfl) .here hL.sc (by (try simp only [List.length_append, List.length_cons, List.length_nil, yl_len]); omega) ?_
        intro v69 L69 _ ov69 eL69
        have lL69 : L69.length = L.length := by rw [eL69]
        refine nc rfl .no (.u rfl) ?_
        refine fz rfl .no Fx.fo132_1 (.u rfl) ?_
        refine s1v rfl (.u rfl) (.u rfl) .here Fx.sz36 (.there .here) (by first | decide | (simp only [stC, wa_len, ba_len, List.length_append, List.length_cons, List.length_nil]; omega)) (by first | exact st_s8 | exact st_s9) ?_
        refine .nil ?_
        refine .nil ?_
        refine We.fin Tryd.results65 .nil (MSub.cons .here rfl (MSub.cons .here rfl MSub.nil)) ?_
        have ej : (xs ++ ys).length / 64 = j := by rw [List.length_append]; omega
        exact ⟨v69, by rw [st_eq ej (by simp), eL69, eL, restL, ej], rfl⟩
  · have c1k := c1
    try simp only [decide_eq_true_eq, decide_eq_false_iff_not, Int.not_lt, Int.not_le, gt_iff_lt, ge_iff_le, Bool.or_eq_true, Bool.and_eq_true, Bool.or_eq_false_iff, Bool.not_eq_true', Bool.not_eq_false', Int.toNat_natCast, bne_iff_ne, beq_iff_eq, bne_eq_false_iff_eq, beq_eq_false_iff_ne, ne_eq] at c1
    refine .skip ?_
    refine .code ?_
    refine .seq ?_
    refine .block ?_
    refine Wk.lop (α := Nat × Sh × List Y × Value) (fun gh => [(1, true, gh.2.1.val gh.2.2.1.length)]) (fun gh => [.blk bs (cl (wa 8 (shaW (xs ++ ys) gh.1) ++ [gh.2.2.2, .int .i64 ((xs.length + ys.length : Nat) : Int)]) 132)])
      (fun gh Gl => (64 * gh.1 ≤ xs.length + ys.length) ∧ (gh.2.2.1 = (xs ++ ys).drop (64 * gh.1)) ∧ (SlR Gl 1 encY gh.2.1 gh.2.2.1)) (fun gh => gh.2.2.1.length) (xs.length / 64, _, _, _) [(0, true, _)] [_]
      (ESub.cons rfl rfl (ESub.cons rfl rfl ESub.nil))
      (MSub.cons .here (put_zero (by omega)) (MSub.cons .here rfl MSub.nil)) ?_ ?_
    · refine ⟨?_, ?_, ?_⟩
      · (try dsimp only) <;> (omega)
      · (try dsimp only) <;> (exact put_drop0 (by omega))
      · (try dsimp only) <;> (exact hs)
    intro gh N1 Gl1 hN1 hGl1 hF1
    obtain ⟨j, h', L, vq⟩ := gh; dsimp only at hF1 hN1 ⊢
    obtain ⟨hj, eL, hL⟩ := hF1
    have hs := hs.mono hGl1
    have hK := hK.mono hGl1
    have lL : L.length = xs.length + ys.length - 64 * j := by rw [eL]; simp
    refine .seq ?_
    refine .seq ?_
    refine Wk.rg [0, 1, 2] rfl rfl ?_
    refine mv rfl .no (.u rfl) ?_
    refine ln rfl .no Fx.sn36 (.u rfl) ?_
    refine cp rfl .no (.u rfl) (.u rfl) rfl ?_
    refine .nil ?_
    refine .code ?_
    refine .cond rfl (fun c4 => ?_) (fun c4 => ?_)
    · have c4k := c4
      try simp only [decide_eq_true_eq, decide_eq_false_iff_not, Int.not_lt, Int.not_le, gt_iff_lt, ge_iff_le, Bool.or_eq_true, Bool.and_eq_true, Bool.or_eq_false_iff, Bool.not_eq_true', Bool.not_eq_false', Int.toNat_natCast, bne_iff_ne, beq_iff_eq, bne_eq_false_iff_eq, beq_eq_false_iff_ne, ne_eq] at c4
      refine .skip ?_
      refine .code ?_
      refine .seq ?_
      refine .block ?_
      refine Wk.rg [0, 1, 2] rfl rfl ?_
      refine mv rfl .no (.u rfl) ?_
      refine mv rfl .no (.u rfl) ?_
      refine ka rfl (.inr rfl) Fx.go79 (Eva.cons (.u rfl) (Eva.cons (.u rfl) Eva.nil)) (mtk1 .here) (block_ok _ L h' _ _ _ _ hL hK (by omega)) ?_
      rintro _ G65 μ65 hG65 ⟨rfl, rfl⟩
      have hs := hs.mono hG65
      have hK := hK.mono hG65
      have hL := hL.mono hG65
      refine .nil ?_
      refine .blk ?_
      refine .code ?_
      refine Wk.rg [0, 1, 2] rfl rfl ?_
      refine mv rfl .no (.u rfl) ?_
      refine kD (64) rfl .no Fx.se36 hL (.u rfl) (.u rfl) (fun _ => by omega) (fun _ => by omega) ?_
      intro h62 L62 eL62 lL62 hs62
      have lL62 := lL62 rfl
      refine asg rfl .no (.u rfl) ?_
      refine .nil ?_
      refine We.lpo (j + 1, h62, L62, vq) ?_ ?_ ?_ ?_ ?_
      · exact (ESub.cons rfl rfl (ESub.cons rfl rfl ESub.nil))
      · exact (MSub.cons .here (put_step eL (by omega)) (MSub.cons .here rfl MSub.nil))
      · first | omega | (dsimp only; omega)
      · exact (hGl1).trans hG65
      · refine ⟨?_, ?_, ?_⟩
        · (try dsimp only) <;> (omega)
        · (try dsimp only) <;> (rw [eL62, eL, List.drop_drop]; congr 1)
        · (try dsimp only) <;> (exact hs62)
    · have c4k := c4
      try simp only [decide_eq_true_eq, decide_eq_false_iff_not, Int.not_lt, Int.not_le, gt_iff_lt, ge_iff_le, Bool.or_eq_true, Bool.and_eq_true, Bool.or_eq_false_iff, Bool.not_eq_true', Bool.not_eq_false', Int.toNat_natCast, bne_iff_ne, beq_iff_eq, bne_eq_false_iff_eq, beq_eq_false_iff_ne, ne_eq] at c4
      refine .exit ?_
      refine .xcode ?_
      refine .xlp ?_
      refine .xblk ?_
      refine .code ?_
      refine Wk.rg [0, 1, 2, 3, 4, 5, 6] rfl rfl ?_
      refine mv rfl .no (.u rfl) ?_
      refine b0B rfl Fx.se36 ?_; intro b67
      refine mv rfl .no (.u rfl) ?_
      refine apY0 rfl Fx.se36 Fx.zv5 (.u rfl) (.u rfl) .here hL.sc (by (try simp only [List.length_append, List.length_cons, List.length_nil, yl_len]); omega) ?_
      intro v69 L69 _ ov69 eL69
      have lL69 : L69.length = L.length := by rw [eL69]
      refine nc rfl .no (.u rfl) ?_
      refine fz rfl .no Fx.fo132_1 (.u rfl) ?_
      refine s1v rfl (.u rfl) (.u rfl) .here Fx.sz36 (.there .here) (by first | decide | (simp only [stC, wa_len, ba_len, List.length_append, List.length_cons, List.length_nil]; omega)) (by first | exact st_s8 | exact st_s9) ?_
      refine .nil ?_
      refine .nil ?_
      refine We.fin Tryd.results65 .nil (MSub.cons .here rfl (MSub.cons .here rfl MSub.nil)) ?_
      have ej : (xs ++ ys).length / 64 = j := by rw [List.length_append]; omega
      exact ⟨v69, by rw [st_eq ej (by simp), eL69, eL, restL, ej], rfl⟩

end Go.Proofs.YtbdnclpopappeaaDoor

namespace Go.Proofs.YtbdnclpopappeaaDoor
set_option linter.unusedSimpArgs false
set_option linter.unusedVariables false
open Go.Tan Go.RowKit

namespace Fx
theorem zr132 : zrL Tryd.prog 132 = some ([.int .u32 0, .int .u32 0, .int .u32 0, .int .u32 0, .int .u32 0, .int .u32 0, .int .u32 0, .int .u32 0, .slice none 0 0, .int .i64 0]) := by kernel_rfl
theorem bp132_0 : bPl Tryd.prog 132 [0] = some ([.int .u32 0, .int .u32 0, .int .u32 0, .int .u32 0, .int .u32 0, .int .u32 0, .int .u32 0, .int .u32 0, .slice none 0 0, .int .i64 0], [(0, 8)]) := by kernel_rfl
theorem sz132 : szT Tryd.prog 132 = some 10 := by kernel_rfl
theorem ag132 : aggN Tryd.prog 132 = some (some 10) := by kernel_rfl
theorem go64 : goFn Tryd.prog 64 = true := by kernel_rfl
theorem pt154 : ptT Tryd.prog 154 = true := by kernel_rfl
theorem go65 : goFn Tryd.prog 65 = true := by kernel_rfl
theorem zq23 : zrL Tryd.prog 23 = some (ba 32 (fun _ => 0#8)) := by kernel_rfl
theorem ag130 : aggN Tryd.prog 130 = some (some 8) := by kernel_rfl
theorem bp132_0_1_2 : bPl Tryd.prog 132 [0, 1, 2] = some ([.int .u32 0, .int .u32 0, .int .u32 0, .int .u32 0, .int .u32 0, .int .u32 0, .int .u32 0, .int .u32 0, .slice none 0 0, .int .i64 0], [(0, 8), (8, 1), (9, 1)]) := by kernel_rfl
theorem cv3_24 : cvK Tryd.prog 3 24 = some .u64 := by kernel_rfl
theorem cv24_5 : cvK Tryd.prog 24 5 = some .u8 := by kernel_rfl
theorem ar23 : arE Tryd.prog 23 = some (32, 5, 1) := by kernel_rfl
theorem ag23 : aggN Tryd.prog 23 = some (some 32) := by kernel_rfl
theorem sz23 : szT Tryd.prog 23 = some 32 := by kernel_rfl
end Fx
theorem begin_ok (G : PM) : Ct Tryd.prog 64 ([] : List Value).toArray G [] (fun _ μ' u => μ' = [] ∧ u = .agg (stC [] (.slice none 0 0)).toArray) := by
  refine Ct.of Tryd.func64 rfl Tryd.ntmps64 rfl fun w0 hs0 => ?_
  refine .seq ?_
  refine Wk.rg [0] rfl rfl ?_
  refine al rfl Fx.zr132 ?_; intro b0
  refine .nil ?_
  refine .code ?_
  refine .seq ?_
  refine Wk.rg [0, 1, 2] rfl rfl ?_
  refine bCe (wa 8 ivW) rfl .no Fx.bp130_0_1_2_3_4_5_6_7 (.cons (.u rfl) rfl (.cons (.u rfl) rfl (.cons (.u rfl) rfl (.cons (.u rfl) rfl (.cons (.u rfl) rfl (.cons (.u rfl) rfl (.cons (.u rfl) rfl (.cons (.u rfl) rfl .nil)))))))) rfl (by rfl) ?_
  refine bCe (stC [] (.slice none 0 0)) rfl .no Fx.bp132_0 (.cons (.u rfl) rfl .nil) rfl (by rfl) ?_
  refine sw rfl (.u rfl) (.u rfl) rfl Fx.sz132 .here (by rfl) (one_app (wa_one _ _) (one2 rfl rfl)) ?_
  refine .nil ?_
  refine .code ?_
  refine .ret ?_
  refine We.fin0 Tryd.results64 (.cell rfl (fun w hw => run_loadVarN Fx.ag132 (RdN.own .here) ((by rfl)) hw) .nil) ?_
  exact ⟨rfl, rfl⟩

theorem New_ok (G : PM) : Ct Tryd.prog 87 ([] : List Value).toArray G [] (fun _ μ' u => ∃ b, μ' = [.blk b (cl (stC [] (.slice none 0 0)) 132), rB (.slice none 0 0) 5 (restL [])] ∧ u = .pointer (some ⟨b, 0, none⟩)) := by
  refine Ct.of Tryd.func87 rfl Tryd.ntmps87 rfl fun w0 hs0 => ?_
  refine .seq ?_
  refine Wk.rg [0] rfl rfl ?_
  refine asg rfl .no (.u rfl) ?_
  refine .nil ?_
  refine .code ?_
  refine .seq ?_
  refine Wk.rg [0, 1, 2] rfl rfl ?_
  refine kv rfl .no Fx.go64 Eva.nil (fun _ => begin_ok _) ?_
  refine al rfl Fx.zr132 ?_; intro b1
  refine sw rfl (.u rfl) (.u rfl) rfl Fx.sz132 .here (by rfl) (one_app (wa_one _ _) (one2 rfl rfl)) ?_
  refine .nil ?_
  refine .code ?_
  refine .seq ?_
  refine Wk.rg [0] rfl rfl ?_
  refine asg rfl .no (.u rfl) ?_
  refine .nil ?_
  refine we_nilB 5 ?_
  refine .code ?_
  refine .ret ?_
  refine We.fin Tryd.results87 (.tmp rfl .nil) (MSub.cons (.there .here) rfl (MSub.cons .here rfl MSub.nil)) ?_
  exact ⟨_, rfl, rfl⟩

theorem Write_ok (xs ys : List Y) (h : Sh) (vp : Value) (bs : Nat) (G : PM) (hs : SlR G 1 encY h ys) (hK : RdNP G 0 0 (wa 64 kW)) (hl : xs.length + ys.length ≤ 4611686018427387904) : Ct Tryd.prog 88 ([.pointer (some ⟨bs, 0, none⟩), h.val ys.length] : List Value).toArray G [.blk bs (cl (stC xs vp) 132), rB vp 5 (restL xs)] (fun _ μ' u => ∃ vp', μ' = [.blk bs (cl (stC (xs ++ ys) vp') 132), rB vp' 5 (restL (xs ++ ys))] ∧ u = .tuple #[]) := by
  refine Ct.of Tryd.func88 rfl Tryd.ntmps88 rfl fun w0 hs0 => ?_
  refine .seq ?_
  refine Wk.rg [0, 1] rfl rfl ?_
  refine mv rfl .no (.u rfl) ?_
  refine pn rfl .no Fx.pt154 (.u rfl) (.u rfl) ?_
  refine .nil ?_
  refine .code ?_
  refine Wk.condT rfl rfl ?_
  refine Wk.rg [0, 1, 2] rfl rfl ?_
  refine mv rfl .no (.u rfl) ?_
  refine mv rfl .no (.u rfl) ?_
  refine ka rfl (.inr rfl) Fx.go65 (Eva.cons (.u rfl) (Eva.cons (.u rfl) Eva.nil)) (mtk2 .here .here) (put_ok _ _ _ _ _ _ hs hK hl) ?_
  rintro _ G8 μ8 hG8 ⟨vq, rfl, rfl⟩
  have hs := hs.mono hG8
  have hK := hK.mono hG8
  refine .nil ?_
  refine .nil ?_
  refine We.fin Tryd.results88 .nil (MSub.cons .here rfl (MSub.cons .here rfl MSub.nil)) ?_
  exact ⟨vq, rfl, rfl⟩

theorem st_w {xs : List Y} {vp : Value} : ((stC xs vp).drop 0).take 8 = wa 8 (shaW xs (xs.length / 64)) := by
  rw [List.drop_zero, stC, List.take_append_of_le_length (by rw [wa_len]; exact Nat.le_refl _), List.take_of_length_le (by rw [wa_len]; exact Nat.le_refl _)]
theorem st_b {zs : List Value} {xs : List Y} {v : Value} (h : zs.length = 10) : bFold zs [(0, 8), (8, 1), (9, 1)] [wa 8 (shaW xs (xs.length / 64)), [v], [.int .i64 (xs.length : Int)]] = stC xs v := by
  match zs, h with
  | [a, b, c, d, e, f, g, h, i, j], _ => rfl
theorem lenF_int {n q : Nat} (h : q < 8) : lenF n q = ((BitVec.ofInt 64 (n : Int) * 8#64) >>> (56 - 8 * (q : Int)).toNat).setWidth 8 := by
  rw [show (56 - 8 * (q : Int)).toNat = 56 - 8 * q by omega]; rfl
theorem StSum_ok (xs : List Y) (vp : Value) (bs : Nat) (G : PM) (hK : RdNP G 0 0 (wa 64 kW)) (hl : xs.length ≤ 1152921504606846976) : Ct Tryd.prog 66 ([.pointer (some ⟨bs, 0, none⟩)] : List Value).toArray G [.blk bs (cl (stC xs vp) 132), rB vp 5 (restL xs)] (fun _ μ' u => μ' = [.blk bs (cl (stC xs vp) 132), rB vp 5 (restL xs)] ∧ u = .agg (ba 32 (shaD xs)).toArray) := by
  refine Ct.of Tryd.func66 rfl Tryd.ntmps66 rfl fun w0 hs0 => ?_
  have hr := rest_len xs
  have hz : zeros xs.length = (119 - xs.length % 64) % 64 := rfl
  refine .seq ?_
  refine Wk.rg [0] rfl rfl ?_
  refine al rfl Fx.zq23 ?_; intro b2
  refine .nil ?_
  refine .code ?_
  refine .seq ?_
  refine Wk.rg [0, 1, 2] rfl rfl ?_
  refine kv rfl .no Fx.go64 Eva.nil (fun _ => begin_ok _) ?_
  refine al rfl Fx.zr132 ?_; intro b3
  refine sw rfl (.u rfl) (.u rfl) rfl Fx.sz132 .here (by rfl) (one_app (wa_one _ _) (one2 rfl rfl)) ?_
  refine .nil ?_
  refine .code ?_
  refine .seq ?_
  refine .seq ?_
  refine Wk.rg [0, 1] rfl rfl ?_
  refine mv rfl .no (.u rfl) ?_
  refine pn rfl .no Fx.pt154 (.u rfl) (.u rfl) ?_
  refine .nil ?_
  refine .code ?_
  refine Wk.condT rfl rfl ?_
  refine wk_rs (.there (.there (.there .here))) ?_; intro sRP bbRP evRP lcRP oaRP; subst evRP
  refine Wk.draw (mc := ⟨false, true⟩) [0, 1, 2, 3, 5, 6, 7, 8, 10, 11, 12, 13, 4, 9, 14, 15] Fx.mix (by kernel_rfl) ?_
  refine mv rfl .no (.u rfl) ?_
  refine nc rfl .no (.u rfl) ?_
  refine fz rfl .no Fx.fo132_0 (.u rfl) ?_
  refine lA rfl .no Fx.ag130 (.u rfl) (fun _ => RdN.part (n := 8) (cs' := wa 8 (shaW xs (xs.length / 64))) (.there (.there .here)) (st_w)) (fun _ => (by first | exact (ba_len _ _).trans (ba_len _ _).symm | exact (wa_len _ _).trans (wa_len _ _).symm | exact ba_len _ _ | exact wa_len _ _ | rfl | (simp only [wa_len, ba_len, List.length_append, List.length_cons, List.length_nil]))) ?_
  refine mv rfl .no (.u rfl) ?_
  refine nc rfl .no (.u rfl) ?_
  refine fz rfl .no Fx.fo132_1 (.u rfl) ?_
  refine ld rfl .no Fx.ag36 (.u rfl) (fun _ => Rd.own (.there (.there .here)) (by first | exact wap_f rfl | rfl)) ?_
  refine mv rfl .no (.u rfl) ?_
  refine nc rfl .no (.u rfl) ?_
  refine fz rfl .no Fx.fo132_2 (.u rfl) ?_
  refine ld rfl .no Fx.ag3 (.u rfl) (fun _ => Rd.own (.there (.there .here)) (by first | exact wap_f rfl | rfl)) ?_
  refine b0B rfl Fx.se36 ?_; intro b16
  refine apY0 rfl Fx.se36 Fx.zv5 (.u rfl) (.u rfl) .here (Sc.rowS (.there (.there (.there (.there .here)))) oaRP) (by (try simp only [List.length_append, List.length_cons, List.length_nil, yl_len]); omega) ?_
  intro v21 L21 _ ov21 eL21
  have lL21 : L21.length = (restL xs).length := by rw [eL21]
  refine bCe (stC xs v21) rfl .no Fx.bp132_0_1_2 (.cons (.u rfl) rfl (.cons (.u rfl) (cells_one ov21) (.cons (.u rfl) rfl .nil))) rfl (st_b rfl) ?_
  refine sw rfl (.u rfl) (.u rfl) rfl Fx.sz132 (.there .here) (by rfl) (one_app (wa_one _ _) (one2 ov21 rfl)) ?_
  refine .nil ?_
  refine .code ?_
  refine .seq ?_
  subst eL21
  refine Wk.rg [0, 1, 2, 3, 4] rfl rfl ?_
  refine fz rfl .no Fx.fo132_2 (.u rfl) ?_
  refine ld rfl .no Fx.ag3 (.u rfl) (fun _ => Rd.own .here (by first | exact wap_f rfl | rfl)) ?_
  refine ci rfl .no rfl Fx.cv3_24 (.u rfl) ?_
  refine bw (k := .u64) (b := 8#64) rfl .no rfl (.u rfl) (.u rfl) rfl ?_
  refine asg rfl .no (.u rfl) ?_
  refine .nil ?_
  refine .code ?_
  refine .seq ?_
  refine Wk.rg [0, 1] rfl rfl ?_
  refine mkY (1) (72) rfl Fx.se36 Fx.zv5 (.u rfl) (.u rfl) (by first | rfl | omega) (by first | rfl | omega) (by omega) (by omega) ?_; intro b31
  have lR31 : (List.replicate (1) (0#8 : Y)).length = 1 := List.length_replicate
  refine asg rfl .no (.u rfl) ?_
  refine .nil ?_
  refine .code ?_
  refine .seq ?_
  refine Wk.rg [0, 1, 2] rfl rfl ?_
  refine mv rfl .no (.u rfl) ?_
  refine ia rfl .no Fx.se36 (.u rfl) (.u rfl) (fun _ => by omega) (fun _ => by omega) ?_
  refine s1r (z := 128#8) rfl (.u rfl) (.u rfl) Fx.sz5 .here (by omega) ?_; intro Ls6_2 eLs6_2 lLs6_2
  refine .nil ?_
  refine .code ?_
  refine .seq ?_
  refine .block ?_
  refine Wk.lop (α := Nat × Value × List Y) (fun gh => [(5, true, gh.2.1)]) (fun gh => [rB gh.2.1 5 gh.2.2])
    (fun gh Gl => (gh.1 ≤ zeros xs.length) ∧ (gh.2.2 = 128#8 :: List.replicate gh.1 0#8)) (fun gh => zeros xs.length - gh.1) (0, _, _) [(2, true, _), (3, true, _), (4, true, _)] [_, _, _, _, _]
    (ESub.cons rfl rfl (ESub.cons rfl rfl (ESub.cons rfl rfl (ESub.cons rfl rfl ESub.nil))))
    (MSub.cons .here rfl (MSub.cons .here rfl (MSub.cons .here rfl (MSub.cons .here rfl (MSub.cons .here rfl (MSub.cons .here rfl MSub.nil)))))) ?_ ?_
  · refine ⟨?_, ?_⟩
    · (try dsimp only) <;> (exact Nat.zero_le _)
    · (try dsimp only) <;> (rw [eLs6_2]; rfl)
  intro gh N0 Gl0 hN0 hGl0 hF0
  obtain ⟨j, v, L⟩ := gh; dsimp only at hF0 hN0 ⊢
  obtain ⟨hj, eL⟩ := hF0
  have hK := hK.mono hGl0
  have lL : L.length = j + 1 := by rw [eL]; simp
  have hz : zeros xs.length = (119 - xs.length % 64) % 64 := rfl
  refine .seq ?_
  refine .seq ?_
  refine Wk.rg [0, 1, 2, 3, 4, 5, 6] rfl rfl ?_
  refine fz rfl .no Fx.fo132_2 (.u rfl) ?_
  refine ld rfl .no Fx.ag3 (.u rfl) (fun _ => Rd.own (.there .here) (by first | exact wap_f rfl | rfl)) ?_
  refine mv rfl .no (.u rfl) ?_
  refine lr rfl .no Fx.sn36 (.u rfl) .here ?_
  refine arn (((xs.length + L.length) : Nat) : Int) rfl .no (.u rfl) (.u rfl) rfl (fun _ => by omega) (fun _ => wrap_i64 (by omega) (by omega)) ?_
  refine rmn ((xs.length + L.length)) (64) rfl .no (.u rfl) (.u rfl) (fun _ => by omega) (fun _ => by omega) (fun _ => by first | decide | omega) ?_
  refine cp rfl .no (.u rfl) (.u rfl) rfl ?_
  refine .nil ?_
  refine .code ?_
  refine .cond rfl (fun c1 => ?_) (fun c1 => ?_)
  · have c1k := c1
    try simp only [decide_eq_true_eq, decide_eq_false_iff_not, Int.not_lt, Int.not_le, gt_iff_lt, ge_iff_le, Bool.or_eq_true, Bool.and_eq_true, Bool.or_eq_false_iff, Bool.not_eq_true', Bool.not_eq_false', Int.toNat_natCast, bne_iff_ne, beq_iff_eq, bne_eq_false_iff_eq, beq_eq_false_iff_ne, ne_eq] at c1
    refine .skip ?_
    refine .code ?_
    refine .block ?_
    refine Wk.rg [0, 1, 2, 3] rfl rfl ?_
    refine mv rfl .no (.u rfl) ?_
    refine Go.Tan.b1 rfl Fx.se36 Fx.zv5 (.u rfl) rfl rfl (by decide) ?_; intro b42
    refine apY rfl Fx.se36 Fx.zv5 (.u rfl) (.u rfl) (.there .here) (Sc.one (y := 0#8) .here) (by show _ + 1 ≤ _; omega) ?_
    intro v43 L43 ov43 eL43
    have lL43 : L43.length = L.length + 1 := by rw [eL43, List.length_append]; first | rfl | simp [yl_len]
    refine asg rfl .no (.u rfl) ?_
    refine .nil ?_
    refine .blk ?_
    refine We.lpo (j + 1, v43, L43) ?_ ?_ ?_ ?_ ?_
    · exact (ESub.cons rfl rfl (ESub.cons rfl rfl (ESub.cons rfl rfl (ESub.cons rfl rfl ESub.nil))))
    · exact (MSub.cons .here rfl (MSub.cons (.there .here) rfl (MSub.cons (.there .here) rfl (MSub.cons (.there .here) rfl (MSub.cons (.there .here) rfl (MSub.cons (.there .here) rfl MSub.nil))))))
    · (try dsimp only); omega
    · exact hGl0
    · refine ⟨?_, ?_⟩
      · (try dsimp only) <;> (omega)
      · (try dsimp only) <;> (rw [eL43, eL, List.cons_append, ← List.replicate_succ'])
  · have c1k := c1
    try simp only [decide_eq_true_eq, decide_eq_false_iff_not, Int.not_lt, Int.not_le, gt_iff_lt, ge_iff_le, Bool.or_eq_true, Bool.and_eq_true, Bool.or_eq_false_iff, Bool.not_eq_true', Bool.not_eq_false', Int.toNat_natCast, bne_iff_ne, beq_iff_eq, bne_eq_false_iff_eq, beq_eq_false_iff_ne, ne_eq] at c1
    refine .exit ?_
    refine .xcode ?_
    refine .xlp ?_
    refine .xblk ?_
    refine .code ?_
    refine .seq ?_
    refine .seq ?_
    refine Wk.rg [0] rfl rfl ?_
    refine asg rfl .no (.u rfl) ?_
    refine .nil ?_
    refine .code ?_
    refine .block ?_
    refine Wk.lop (α := Nat × Value × List Y) (fun gh => [(5, true, gh.2.1), (6, true, .int .i64 (56 - 8 * (gh.1 : Int)))]) (fun gh => [rB gh.2.1 5 gh.2.2])
      (fun gh Gl => (gh.1 ≤ 8) ∧ (gh.2.2 = (128#8 :: List.replicate (zeros xs.length) 0#8) ++ lenB xs.length gh.1)) (fun gh => 8 - gh.1) (0, _, _) [(2, true, _), (3, true, _), (4, true, _)] [_, _, _, _, _]
      (ESub.cons rfl rfl (ESub.cons rfl (by first | rfl | exact evi (by omega)) (ESub.cons rfl rfl (ESub.cons rfl rfl (ESub.cons rfl rfl ESub.nil)))))
      (MSub.cons .here rfl (MSub.cons .here rfl (MSub.cons .here rfl (MSub.cons .here rfl (MSub.cons .here rfl (MSub.cons .here rfl MSub.nil)))))) ?_ ?_
    · refine ⟨?_, ?_⟩
      · (try dsimp only) <;> (first | omega | rfl | assumption | (simp; done))
      · (try dsimp only) <;> (rw [eL, show j = zeros xs.length by omega]; simp [lenB])
    intro gh N1 Gl1 hN1 hGl1 hF1
    obtain ⟨q, v, L⟩ := gh; dsimp only at hF1 hN1 ⊢
    obtain ⟨hq, eL⟩ := hF1
    have hK := hK.mono hGl1
    have lL : L.length = zeros xs.length + 1 + q := by rw [eL]; simp [lenB_len]; omega
    refine .seq ?_
    refine .seq ?_
    refine Wk.rg [0, 1] rfl rfl ?_
    refine mv rfl .no (.u rfl) ?_
    refine cp rfl .no (.u rfl) (.u rfl) rfl ?_
    refine .nil ?_
    refine .code ?_
    refine .cond rfl (fun c2 => ?_) (fun c2 => ?_)
    · have c2k := c2
      try simp only [decide_eq_true_eq, decide_eq_false_iff_not, Int.not_lt, Int.not_le, gt_iff_lt, ge_iff_le, Bool.or_eq_true, Bool.and_eq_true, Bool.or_eq_false_iff, Bool.not_eq_true', Bool.not_eq_false', Int.toNat_natCast, bne_iff_ne, beq_iff_eq, bne_eq_false_iff_eq, beq_eq_false_iff_ne, ne_eq] at c2
      refine .skip ?_
      refine .code ?_
      refine .seq ?_
      refine .block ?_
      refine Wk.rg [0, 1, 2, 3, 4, 5, 6, 7] rfl rfl ?_
      refine mv rfl .no (.u rfl) ?_
      refine mv rfl .no (.u rfl) ?_
      refine mv rfl .no (.u rfl) ?_
      refine rw' (k := .u64) rfl .no (.u rfl) (.u rfl) (fun _ => by omega) ?_
      refine cu (k := .u64) rfl .no rfl Fx.cv24_5 (.u rfl) ?_
      refine Go.Tan.b1 rfl Fx.se36 Fx.zv5 (.u rfl) rfl rfl (by decide) ?_; intro b53
      refine apY rfl Fx.se36 Fx.zv5 (.u rfl) (.u rfl) (.there .here) (Sc.one .here) (by show _ + 1 ≤ _; omega) ?_
      intro v54 L54 ov54 eL54
      have lL54 : L54.length = L.length + 1 := by rw [eL54, List.length_append]; first | rfl | simp [yl_len]
      refine asg rfl .no (.u rfl) ?_
      refine .nil ?_
      refine .blk ?_
      refine .code ?_
      refine Wk.rg [0, 1, 2] rfl rfl ?_
      refine mv rfl .no (.u rfl) ?_
      refine ar rfl .no (.u rfl) (.u rfl) rfl (fun _ => wrap_i64 (by omega) (by omega)) ?_
      refine asg rfl .no (.u rfl) ?_
      refine .nil ?_
      refine We.lpo (q + 1, v54, L54) ?_ ?_ ?_ ?_ ?_
      · exact (ESub.cons rfl rfl (ESub.cons rfl (by first | rfl | exact evi (by omega)) (ESub.cons rfl rfl (ESub.cons rfl rfl (ESub.cons rfl rfl ESub.nil)))))
      · exact (MSub.cons .here rfl (MSub.cons (.there .here) rfl (MSub.cons (.there .here) rfl (MSub.cons (.there .here) rfl (MSub.cons (.there .here) rfl (MSub.cons (.there .here) rfl MSub.nil))))))
      · first | omega | (dsimp only; omega)
      · exact hGl1
      · refine ⟨?_, ?_⟩
        · (try dsimp only) <;> (first | omega | rfl | assumption | (simp; done))
        · (try dsimp only) <;> (rw [eL54, eL, lenB_snoc, ← List.append_assoc, lenF_int (by omega)]; rfl)
    · have c2k := c2
      try simp only [decide_eq_true_eq, decide_eq_false_iff_not, Int.not_lt, Int.not_le, gt_iff_lt, ge_iff_le, Bool.or_eq_true, Bool.and_eq_true, Bool.or_eq_false_iff, Bool.not_eq_true', Bool.not_eq_false', Int.toNat_natCast, bne_iff_ne, beq_iff_eq, bne_eq_false_iff_eq, beq_eq_false_iff_ne, ne_eq] at c2
      refine .exit ?_
      refine .xcode ?_
      refine .xlp ?_
      refine .xblk ?_
      refine .code ?_
      refine .seq ?_
      have e8 : L = tailL xs.length := by rw [eL, show q = 8 by omega]; rfl
      subst e8
      have lt := tail_len xs.length
      have hz : zeros xs.length = (119 - xs.length % 64) % 64 := rfl
      refine wk_fb .here (keys_sub (MSub.cons (.there (.there (.there .here))) rfl (MSub.cons (.there (.there (.there .here))) rfl MSub.nil))) ?_; intro GfR31 hR31 hleR31 evR31 hsR31; subst evR31
      have hK := hK.mono hleR31
      refine Wk.rg [0, 1] rfl rfl ?_
      refine mv rfl .no (.u rfl) ?_
      refine ka rfl (.inr rfl) Fx.go65 (Eva.cons (.u rfl) (Eva.cons (.u rfl) Eva.nil)) (mtk2 .here .here) (put_ok xs (tailL xs.length) _ _ _ _ hsR31 hK (by omega)) ?_
      rintro _ G56 μ56 hG56 ⟨vq, rfl, rfl⟩
      have hK := hK.mono hG56
      have hsR31 := hsR31.mono hG56
      refine .nil ?_
      refine .code ?_
      refine .seq ?_
      refine Wk.rg [0] rfl rfl ?_
      refine al rfl Fx.zq23 ?_; intro b7
      refine .nil ?_
      refine .code ?_
      refine .seq ?_
      refine .seq ?_
      refine Wk.rg [0] rfl rfl ?_
      refine mv rfl .no (.u rfl) ?_
      refine .nil ?_
      refine .code ?_
      refine .block ?_
      refine Wk.lop (α := Nat × (Nat → Y)) (fun gh => [(57, true, .int .i64 (gh.1 : Int))]) (fun gh => [.blk b7 (cl (ba 32 gh.2) 23)])
        (fun gh Gl => (gh.1 ≤ 32) ∧ (gh.2 = outs (shaD xs) gh.1)) (fun gh => 32 - gh.1) (0, fun _ => 0#8) [(2, true, _), (3, true, _), (7, true, _)] [_, _, _, _, _]
        (ESub.cons rfl (by first | rfl | exact evi (by omega)) (ESub.cons rfl rfl (ESub.cons rfl rfl (ESub.cons rfl rfl ESub.nil))))
        (MSub.cons .here rfl (MSub.cons .here rfl (MSub.cons .here rfl (MSub.cons .here rfl (MSub.cons .here rfl (MSub.cons .here rfl MSub.nil)))))) ?_ ?_
      · refine ⟨?_, ?_⟩
        · (try dsimp only) <;> (first | omega | rfl | assumption | (simp; done))
        · (try dsimp only) <;> (first | omega | rfl | assumption | (simp; done))
      intro gh N2 Gl2 hN2 hGl2 hF2
      obtain ⟨i, f⟩ := gh; dsimp only at hF2 hN2 ⊢
      obtain ⟨hi, ef⟩ := hF2
      have hK := hK.mono hGl2
      have hsR31 := hsR31.mono hGl2
      refine .seq ?_
      refine Wk.rg [0] rfl rfl ?_
      refine cp rfl .no (.u rfl) (.u rfl) rfl ?_
      refine .nil ?_
      refine .code ?_
      refine .seq ?_
      refine .cond rfl (fun c3 => ?_) (fun c3 => ?_)
      · have c3k := c3
        try simp only [decide_eq_true_eq, decide_eq_false_iff_not, Int.not_lt, Int.not_le, gt_iff_lt, ge_iff_le, Bool.or_eq_true, Bool.and_eq_true, Bool.or_eq_false_iff, Bool.not_eq_true', Bool.not_eq_false', Int.toNat_natCast, bne_iff_ne, beq_iff_eq, bne_eq_false_iff_eq, beq_eq_false_iff_ne, ne_eq] at c3
        refine .skip ?_
        refine .code ?_
        refine .seq ?_
        refine .block ?_
        refine .seq ?_
        refine Wk.rg [0, 1] rfl rfl ?_
        refine mv rfl .no (.u rfl) ?_
        refine asg rfl .no (.u rfl) ?_
        refine .nil ?_
        refine .code ?_
        refine Wk.rg [0, 1, 2, 3, 4, 5, 6, 7, 8, 9, 10, 11, 12, 13] rfl rfl ?_
        refine mv rfl .no (.u rfl) ?_
        refine mv rfl .no (.u rfl) ?_
        refine qun (i) (4) rfl .no (.u rfl) (.u rfl) (fun _ => by omega) (fun _ => by omega) (fun _ => by first | decide | omega) (fun _ => by omega) ?_
        refine fz rfl .no Fx.fo132_0 (.u rfl) ?_
        refine iA rfl .no Fx.ar130 (.u rfl) (.u rfl) (fun _ => by omega) (fun _ => by omega) ?_
        refine ld rfl .no Fx.ag126 (.u rfl) (fun _ => Rd.own (.there .here) (by first | exact wa_at1 ((i / 4)) (by omega) (by omega) | exact ba_at1 ((i / 4)) (by omega) (by omega) | exact wap_at1 ((i / 4)) (by omega) (by omega) | rfl)) ?_
        refine mv rfl .no (.u rfl) ?_
        refine rmn (i) (4) rfl .no (.u rfl) (.u rfl) (fun _ => by omega) (fun _ => by omega) (fun _ => by first | decide | omega) ?_
        refine arn (((8 * (i % 4)) : Nat) : Int) rfl .no (.u rfl) (.u rfl) rfl (fun _ => by omega) (fun _ => wrap_i64 (by omega) (by omega)) ?_
        refine arn (((24 - 8 * (i % 4)) : Nat) : Int) rfl .no (.u rfl) (.u rfl) rfl (fun _ => by omega) (fun _ => wrap_i64 (by omega) (by omega)) ?_
        refine rw' (k := .u32) rfl .no (.u rfl) (.u rfl) (fun _ => by omega) ?_
        refine cu (k := .u32) rfl .no rfl Fx.cv126_5 (.u rfl) ?_
        refine iA rfl .no Fx.ar23 (.u rfl) (.u rfl) (fun _ => by omega) (fun _ => by omega) ?_
        refine s1 rfl (.u rfl) (.u rfl) rfl Fx.sz5 .here (by first | decide | (simp only [wa_len, ba_len, List.length_append, List.length_cons, List.length_nil]; omega)) (by first | exact wa_set1 (i) (by omega) | exact ba_set1 (i) (by omega) | exact wap_set1 (i) (by omega) (by omega) | rfl) ?_
        refine .nil ?_
        refine .blk ?_
        refine .code ?_
        refine Wk.rg [0, 1] rfl rfl ?_
        refine arn (((i + 1) : Nat) : Int) rfl .no (.u rfl) (.u rfl) rfl (fun _ => by omega) (fun _ => wrap_i64 (by omega) (by omega)) ?_
        refine mv rfl .no (.u rfl) ?_
        refine .nil ?_
        refine We.lpo (i + 1, upd f i (shaD xs i)) ?_ ?_ ?_ ?_ ?_
        · exact (ESub.cons rfl (by first | rfl | exact evi (by omega)) (ESub.cons rfl rfl (ESub.cons rfl rfl (ESub.cons rfl rfl ESub.nil))))
        · exact (MSub.cons .here rfl (MSub.cons .here rfl (MSub.cons .here rfl (MSub.cons .here rfl (MSub.cons .here rfl (MSub.cons .here rfl MSub.nil))))))
        · first | omega | (dsimp only; omega)
        · exact hGl2
        · refine ⟨?_, ?_⟩
          · (try dsimp only) <;> (first | omega | rfl | assumption | (simp; done))
          · (try dsimp only) <;> (rw [ef]; rfl)
      · have c3k := c3
        try simp only [decide_eq_true_eq, decide_eq_false_iff_not, Int.not_lt, Int.not_le, gt_iff_lt, ge_iff_le, Bool.or_eq_true, Bool.and_eq_true, Bool.or_eq_false_iff, Bool.not_eq_true', Bool.not_eq_false', Int.toNat_natCast, bne_iff_ne, beq_iff_eq, bne_eq_false_iff_eq, beq_eq_false_iff_ne, ne_eq] at c3
        refine .exit ?_
        refine .xcode ?_
        refine .xlp ?_
        refine .xblk ?_
        refine .code ?_
        refine .seq ?_
        refine Wk.rg [0, 1] rfl rfl ?_
        refine lA rfl .no Fx.ag23 (.u rfl) (fun _ => RdN.own .here) (fun _ => (by first | exact (ba_len _ _).trans (ba_len _ _).symm | exact (wa_len _ _).trans (wa_len _ _).symm | exact ba_len _ _ | exact wa_len _ _ | rfl | (simp only [wa_len, ba_len, List.length_append, List.length_cons, List.length_nil]))) ?_
        refine sw rfl (.u rfl) (.u rfl) rfl Fx.sz23 (.there (.there (.there .here))) (by first | exact (ba_len _ _).trans (ba_len _ _).symm | exact (wa_len _ _).trans (wa_len _ _).symm | exact ba_len _ _ | exact wa_len _ _ | rfl | (simp only [wa_len, ba_len, List.length_append, List.length_cons, List.length_nil])) (by first | exact ba_one _ _ | exact wa_one _ _ | exact one_V _ | decide | exact one_app (wa_one _ _) (by simp [Value.oneCell'])) ?_
        refine .nil ?_
        refine .code ?_
        refine .ret ?_
        refine We.fin Tryd.results66 (.cell rfl (fun w hw => run_loadVarN Fx.ag23 (RdN.own .here) ((by first | exact (ba_len _ _).trans (ba_len _ _).symm | exact (wa_len _ _).trans (wa_len _ _).symm | exact ba_len _ _ | exact wa_len _ _ | rfl | (simp only [wa_len, ba_len, List.length_append, List.length_cons, List.length_nil]))) hw) .nil) (MSub.cons (.there (.there (.there (.there .here)))) rfl (MSub.cons (.there (.there (.there (.there .here)))) rfl MSub.nil)) ?_
        obtain rfl : i = 32 := by omega
        exact ⟨rfl, by rw [ef, ba_congr (fun i hi => (outs_eq (shaD xs) hi).symm)]; rfl⟩

end Go.Proofs.YtbdnclpopappeaaDoor

namespace Go.Proofs.YtbdnclpopappeaaDoor
set_option linter.unusedSimpArgs false
set_option linter.unusedVariables false
open Go.Tan Go.RowKit

namespace Fx
theorem ag22 : aggN Tryd.prog 22 = some (some 32) := by kernel_rfl
theorem ag112 : aggN Tryd.prog 112 = some (some 12) := by kernel_rfl
theorem go81 : goFn Tryd.prog 81 = true := by kernel_rfl
theorem se56 : slE Tryd.prog 56 = some (36, 1, 24) := by kernel_rfl
theorem sn56 : (slE Tryd.prog 56).isSome = true := by kernel_rfl
theorem go66 : goFn Tryd.prog 66 = true := by kernel_rfl
end Fx
theorem Fix_ok (xs : List Y) (h : Sh) (n : BitVec 64) (many : Nat) (G : PM) (hs : SlR G 1 encY h xs) (hl : xs.length ≤ 140737488351232) (hm : many ≤ 8) : Ct Tryd.prog 32 ([h.val xs.length, uv .u64 n, .int .i64 (many : Int)] : List Value).toArray G [] (PR 5 (fun L => L = xs ++ fixL n many)) := by
  refine Ct.of Tryd.func32 rfl Tryd.ntmps32 rfl fun w0 hs0 => ?_
  refine .seq ?_
  refine Wk.rg [0] rfl rfl ?_
  refine asg rfl .no (.u rfl) ?_
  refine .nil ?_
  refine .code ?_
  refine .seq ?_
  refine Wk.rg [0, 1, 2, 3] rfl rfl ?_
  refine b0B rfl Fx.se36 ?_; intro b8
  refine mv rfl .no (.u rfl) ?_
  refine apY0 rfl Fx.se36 Fx.zv5 (.u rfl) (.u rfl) .here hs.sc (by (try simp only [List.length_append, List.length_cons, List.length_nil, yl_len]); omega) ?_
  intro v10 L10 _ ov10 eL10
  have lL10 : L10.length = xs.length := by rw [eL10]
  refine asg rfl .no (.u rfl) ?_
  refine .nil ?_
  refine .code ?_
  refine .seq ?_
  refine .seq ?_
  refine Wk.rg [0, 1, 2, 3] rfl rfl ?_
  refine mv rfl .no (.u rfl) ?_
  refine mIn (many) (8) rfl .no (.u rfl) (.u rfl) (fun _ => by omega) (fun _ => by omega) ?_
  refine mAn (0) ((min many 8)) rfl .no (.u rfl) (.u rfl) (fun _ => by omega) (fun _ => by omega) ?_
  refine mv rfl .no (.u rfl) ?_
  refine .nil ?_
  refine .code ?_
  refine .block ?_
  refine Wk.lop (α := Nat × Value × List Y × BitVec 64) (fun gh => [(1, true, uv .u64 gh.2.2.2), (7, true, gh.2.1), (14, true, .int .i64 (gh.1 : Int))]) (fun gh => [rB gh.2.1 5 gh.2.2.1])
    (fun gh Gl => (gh.1 ≤ many) ∧ (gh.2.2.1 = xs ++ fixL n gh.1) ∧ (gh.2.2.2 = n >>> (8 * gh.1))) (fun gh => many - gh.1) (0, _, _, n) [(13, true, _)] []
    (ESub.cons rfl rfl (ESub.cons rfl rfl (ESub.cons rfl (by first | rfl | exact evi (by omega)) (ESub.cons rfl rfl ESub.nil))))
    (MSub.cons .here rfl MSub.nil) ?_ ?_
  · refine ⟨?_, ?_, ?_⟩
    · (try dsimp only) <;> (first | omega | rfl | assumption | (simp; done))
    · (try dsimp only) <;> (rw [eL10]; simp [fixL])
    · (try dsimp only) <;> (simp)
  intro gh N0 Gl0 hN0 hGl0 hF0
  obtain ⟨k, v, L, m⟩ := gh; dsimp only at hF0 hN0 ⊢
  obtain ⟨hk, eL, em⟩ := hF0
  have hs := hs.mono hGl0
  have lL : L.length = xs.length + k := by rw [eL]; simp [fix_len]
  refine .seq ?_
  refine Wk.rg [0] rfl rfl ?_
  refine cp rfl .no (.u rfl) (.u rfl) rfl ?_
  refine .nil ?_
  refine .code ?_
  refine .seq ?_
  refine .cond rfl (fun c1 => ?_) (fun c1 => ?_)
  · have c1k := c1
    try simp only [decide_eq_true_eq, decide_eq_false_iff_not, Int.not_lt, Int.not_le, gt_iff_lt, ge_iff_le, Bool.or_eq_true, Bool.and_eq_true, Bool.or_eq_false_iff, Bool.not_eq_true', Bool.not_eq_false', Int.toNat_natCast, bne_iff_ne, beq_iff_eq, bne_eq_false_iff_eq, beq_eq_false_iff_ne, ne_eq] at c1
    refine .skip ?_
    refine .code ?_
    refine .seq ?_
    refine .block ?_
    refine .seq ?_
    refine Wk.rg [0, 1, 2, 3, 4, 5] rfl rfl ?_
    refine mv rfl .no (.u rfl) ?_
    refine mv rfl .no (.u rfl) ?_
    refine cu (k := .u64) rfl .no rfl Fx.cv24_5 (.u rfl) ?_
    refine Go.Tan.b1 rfl Fx.se36 Fx.zv5 (.u rfl) rfl rfl (by decide) ?_; intro b19
    refine apY rfl Fx.se36 Fx.zv5 (.u rfl) (.u rfl) (.there .here) (Sc.one .here) (by show _ + 1 ≤ _; omega) ?_
    intro v20 L20 ov20 eL20
    have lL20 : L20.length = L.length + 1 := by rw [eL20, List.length_append]; first | rfl | simp [yl_len]
    refine asg rfl .no (.u rfl) ?_
    refine .nil ?_
    refine .code ?_
    refine Wk.rg [0, 1, 2] rfl rfl ?_
    refine mv rfl .no (.u rfl) ?_
    refine rw' (k := .u64) rfl .no (.u rfl) (.u rfl) (fun _ => by decide) ?_
    refine asg rfl .no (.u rfl) ?_
    refine .nil ?_
    refine .blk ?_
    refine .code ?_
    refine Wk.rg [0, 1] rfl rfl ?_
    refine arn (((k + 1) : Nat) : Int) rfl .no (.u rfl) (.u rfl) rfl (fun _ => by omega) (fun _ => wrap_i64 (by omega) (by omega)) ?_
    refine mv rfl .no (.u rfl) ?_
    refine .nil ?_
    refine We.lpo (k + 1, v20, L20, m >>> 8) ?_ ?_ ?_ ?_ ?_
    · exact (ESub.cons rfl rfl (ESub.cons rfl rfl (ESub.cons rfl (by first | rfl | exact evi (by omega)) (ESub.cons rfl rfl ESub.nil))))
    · exact (MSub.cons .here rfl MSub.nil)
    · first | omega | (dsimp only; omega)
    · exact hGl0
    · refine ⟨?_, ?_, ?_⟩
      · (try dsimp only) <;> (first | omega | rfl | assumption | (simp; done))
      · (try dsimp only) <;> (rw [eL20, eL, em, fix_snoc, List.append_assoc]; rfl)
      · (try dsimp only) <;> (rw [em, ← BitVec.shiftRight_add]; rfl)
  · have c1k := c1
    try simp only [decide_eq_true_eq, decide_eq_false_iff_not, Int.not_lt, Int.not_le, gt_iff_lt, ge_iff_le, Bool.or_eq_true, Bool.and_eq_true, Bool.or_eq_false_iff, Bool.not_eq_true', Bool.not_eq_false', Int.toNat_natCast, bne_iff_ne, beq_iff_eq, bne_eq_false_iff_eq, beq_eq_false_iff_ne, ne_eq] at c1
    refine .exit ?_
    refine .xcode ?_
    refine .xlp ?_
    refine .xblk ?_
    refine .code ?_
    refine .seq ?_
    refine Wk.rg [0, 1] rfl rfl ?_
    refine mv rfl .no (.u rfl) ?_
    refine asg rfl .no (.u rfl) ?_
    refine .nil ?_
    refine .code ?_
    refine .ret ?_
    refine We.fin Tryd.results32 (.tmp rfl .nil) (MSub.cons .here rfl MSub.nil) ?_
    obtain rfl : k = many := by omega
    exact ⟨L, eL, rfl⟩

theorem Cross_ok (key nonce : Nat → Y) (count : W) (h : Sh) (xs : List Y) (G : PM) (hs : SlR G 1 encY h xs) (hl : xs.length ≤ 140737488351232) : Ct Tryd.prog 71 ([.agg (ba 32 key).toArray, .agg (ba 12 nonce).toArray, U count, h.val xs.length] : List Value).toArray G [] (PR 5 (fun L => L = crossL key nonce count xs)) := by
  refine Ct.of Tryd.func71 rfl Tryd.ntmps71 rfl fun w0 hs0 => ?_
  refine .seq ?_
  refine Wk.rg [0, 1, 2] rfl rfl ?_
  refine bx rfl (.u rfl) rfl ?_; intro b4
  refine bx rfl (.u rfl) rfl ?_; intro b5
  refine asg rfl .no (.u rfl) ?_
  refine .nil ?_
  refine .code ?_
  refine .seq ?_
  refine Wk.rg [0, 1, 2, 3] rfl rfl ?_
  refine b0B rfl Fx.se36 ?_; intro b14
  refine mv rfl .no (.u rfl) ?_
  refine apY0 rfl Fx.se36 Fx.zv5 (.u rfl) (.u rfl) .here hs.sc (by (try simp only [List.length_append, List.length_cons, List.length_nil, yl_len]); omega) ?_
  intro v16 L16 _ ov16 eL16
  have lL16 : L16.length = xs.length := by rw [eL16]
  refine asg rfl .no (.u rfl) ?_
  refine .nil ?_
  refine .code ?_
  refine .seq ?_
  refine .seq ?_
  refine wk_rs .here ?_; intro sR16 bbR16 evR16 lcR16 oaR16; subst evR16
  obtain rfl := eL16.symm
  refine Wk.rg [0, 1] rfl rfl ?_
  refine mv rfl .no (.u rfl) ?_
  refine asg rfl .no (.u rfl) ?_
  refine .nil ?_
  refine .code ?_
  refine .block ?_
  refine Wk.lop (α := Nat × Sh × List Y) (fun gh => [(2, true, U (count + BitVec.ofNat 32 gh.1)), (10, true, gh.2.1.val (xs.length - 64 * gh.1))]) (fun gh => [rB (sR16.val xs.length) 5 gh.2.2])
    (fun gh Gl => (gh.2.2.length = xs.length) ∧ (gh.2.2 = crT key nonce count xs (64 * gh.1)) ∧ (64 * gh.1 < xs.length → gh.2.1.oa = some ⟨bbR16, 64 * gh.1, none⟩) ∧ (xs.length - 64 * gh.1 ≤ gh.2.1.cap)) (fun gh => xs.length - 64 * gh.1) (0, sR16, xs) [(4, true, _), (5, true, _), (9, true, _)] [_, _]
    (ESub.cons rfl (by simp) (ESub.cons rfl rfl (ESub.cons rfl rfl (ESub.cons rfl rfl (ESub.cons rfl rfl ESub.nil)))))
    (MSub.cons .here rfl (MSub.cons .here rfl (MSub.cons .here rfl MSub.nil))) ?_ ?_
  · refine ⟨?_, ?_, ?_, ?_⟩
    · (try dsimp only) <;> (rfl)
    · (try dsimp only) <;> (exact (crT_zero _ _ _ _).symm)
    · (try dsimp only) <;> (exact oaR16)
    · (try dsimp only) <;> (exact lcR16)
  intro gh N0 Gl0 hN0 hGl0 hF0
  obtain ⟨j, r, L⟩ := gh; dsimp only at hF0 hN0 ⊢
  obtain ⟨lL, eL, hr, hrc⟩ := hF0
  have hs := hs.mono hGl0
  refine .seq ?_
  refine .seq ?_
  refine Wk.rg [0, 1, 2] rfl rfl ?_
  refine mv rfl .no (.u rfl) ?_
  refine ln rfl .no Fx.sn36 (.u rfl) ?_
  refine cp rfl .no (.u rfl) (.u rfl) rfl ?_
  refine .nil ?_
  refine .code ?_
  refine .cond rfl (fun c1 => ?_) (fun c1 => ?_)
  · have c1k := c1
    try simp only [decide_eq_true_eq, decide_eq_false_iff_not, Int.not_lt, Int.not_le, gt_iff_lt, ge_iff_le, Bool.or_eq_true, Bool.and_eq_true, Bool.or_eq_false_iff, Bool.not_eq_true', Bool.not_eq_false', Int.toNat_natCast, bne_iff_ne, beq_iff_eq, bne_eq_false_iff_eq, beq_eq_false_iff_ne, ne_eq] at c1
    refine .skip ?_
    refine .code ?_
    refine .seq ?_
    refine .block ?_
    refine .seq ?_
    have hlt : 64 * j < xs.length := by omega
    have e1 := oaR16 (by omega)
    have e2 := hr hlt
    obtain ⟨so, sc⟩ := sR16
    obtain ⟨ro, rc⟩ := r
    simp only at e1 e2
    subst e1; subst e2
    refine Wk.rg [0, 1, 2, 3, 4, 5] rfl rfl ?_
    refine lA rfl .no Fx.ag22 (.u rfl) (fun _ => RdN.own (.there (.there .here))) (fun _ => (by first | exact (ba_len _ _).trans (ba_len _ _).symm | exact (wa_len _ _).trans (wa_len _ _).symm | exact ba_len _ _ | exact wa_len _ _ | rfl | (simp only [wa_len, ba_len, List.length_append, List.length_cons, List.length_nil]))) ?_
    refine lA rfl .no Fx.ag112 (.u rfl) (fun _ => RdN.own (.there .here)) (fun _ => (by first | exact (ba_len _ _).trans (ba_len _ _).symm | exact (wa_len _ _).trans (wa_len _ _).symm | exact ba_len _ _ | exact wa_len _ _ | rfl | (simp only [wa_len, ba_len, List.length_append, List.length_cons, List.length_nil]))) ?_
    refine mv rfl .no (.u rfl) ?_
    refine kv rfl .no Fx.go81 (Eva.cons (.u rfl) (Eva.cons (.u rfl) (Eva.cons (.u rfl) Eva.nil))) (fun _ => Block_ok _ _ _ _) ?_
    refine al rfl Fx.zq156 ?_; intro b11
    refine sw rfl (.u rfl) (.u rfl) rfl Fx.sz156 .here (by first | exact (ba_len _ _).trans (ba_len _ _).symm | exact (wa_len _ _).trans (wa_len _ _).symm | exact ba_len _ _ | exact wa_len _ _ | rfl | (simp only [wa_len, ba_len, List.length_append, List.length_cons, List.length_nil])) (ba_one _ _) ?_
    refine .nil ?_
    refine .code ?_
    refine .seq ?_
    refine Wk.rg [0, 1, 2, 3] rfl rfl ?_
    refine mv rfl .no (.u rfl) ?_
    refine ln rfl .no Fx.sn36 (.u rfl) ?_
    refine mIn ((xs.length - 64 * j)) (64) rfl .no (.u rfl) (.u rfl) (fun _ => by omega) (fun _ => by omega) ?_
    refine asg rfl .no (.u rfl) ?_
    refine .nil ?_
    refine .code ?_
    refine .seq ?_
    refine .seq ?_
    refine Wk.rg [0, 1] rfl rfl ?_
    refine mv rfl .no (.u rfl) ?_
    refine mv rfl .no (.u rfl) ?_
    refine .nil ?_
    refine .code ?_
    refine .block ?_
    refine Wk.lop (α := Nat × List Y) (fun gh => [(31, true, .int .i64 (gh.1 : Int))]) (fun gh => [rB (Sh.val ⟨some ⟨bbR16, 0, none⟩, sc⟩ xs.length) 5 gh.2])
      (fun gh Gl => (gh.1 ≤ min (xs.length - 64 * j) 64) ∧ (gh.2 = crT key nonce count xs (64 * j + gh.1))) (fun gh => 64 - gh.1) (0, L) [(2, true, _), (4, true, _), (5, true, _), (9, true, _), (10, true, _), (11, true, _), (12, true, _), (30, true, _)] [_, _, _]
      (ESub.cons rfl (by first | rfl | exact evi (by omega)) (ESub.cons rfl rfl (ESub.cons rfl rfl (ESub.cons rfl rfl (ESub.cons rfl rfl (ESub.cons rfl rfl (ESub.cons rfl rfl (ESub.cons rfl rfl (ESub.cons rfl rfl ESub.nil)))))))))
      (MSub.cons (.there .here) rfl (MSub.cons .here rfl (MSub.cons .here rfl (MSub.cons .here rfl MSub.nil)))) ?_ ?_
    · refine ⟨?_, ?_⟩
      · (try dsimp only) <;> (exact Nat.zero_le _)
      · (try dsimp only) <;> (rw [eL]; rfl)
    intro gh N1 Gl1 hN1 hGl1 hF1
    obtain ⟨i, L2⟩ := gh; dsimp only at hF1 hN1 ⊢
    obtain ⟨hi, eL2⟩ := hF1
    have hs := hs.mono hGl1
    have lL2 : L2.length = xs.length := by rw [eL2, crT_len]
    refine .seq ?_
    refine Wk.rg [0] rfl rfl ?_
    refine cp rfl .no (.u rfl) (.u rfl) rfl ?_
    refine .nil ?_
    refine .code ?_
    refine .seq ?_
    refine .cond rfl (fun c2 => ?_) (fun c2 => ?_)
    · have c2k := c2
      try simp only [decide_eq_true_eq, decide_eq_false_iff_not, Int.not_lt, Int.not_le, gt_iff_lt, ge_iff_le, Bool.or_eq_true, Bool.and_eq_true, Bool.or_eq_false_iff, Bool.not_eq_true', Bool.not_eq_false', Int.toNat_natCast, bne_iff_ne, beq_iff_eq, bne_eq_false_iff_eq, beq_eq_false_iff_ne, ne_eq] at c2
      refine .skip ?_
      refine .code ?_
      refine .seq ?_
      refine .block ?_
      refine .seq ?_
      refine Wk.rg [0, 1] rfl rfl ?_
      refine mv rfl .no (.u rfl) ?_
      refine asg rfl .no (.u rfl) ?_
      refine .nil ?_
      refine .code ?_
      refine Wk.draw (mc := ⟨false, false⟩) [0, 1, 2, 3, 4, 5, 6, 7, 8, 9] Fx.mix (by kernel_rfl) ?_
      refine mv rfl .no (.u rfl) ?_
      refine mv rfl .no (.u rfl) ?_
      refine ih rfl .no Fx.se36 (.u rfl) (.u rfl) (fun _ => by omega) (fun _ => by omega) (fun _ => rfl) ?_
      refine ld rfl .no Fx.ag5 (.u rfl) (fun _ => Rd.row .here (map_at1 (o := 64 * j) (64 * j + i) (by omega) (by omega))) ?_
      refine mv rfl .no (.u rfl) ?_
      refine iA rfl .no Fx.ar156 (.u rfl) (.u rfl) (fun _ => by omega) (fun _ => by omega) ?_
      refine ld rfl .no Fx.ag5 (.u rfl) (fun _ => Rd.own (.there .here) (by first | exact wa_at1 (i) (by omega) (by omega) | exact ba_at1 (i) (by omega) (by omega) | exact wap_at1 (i) (by omega) (by omega) | rfl)) ?_
      refine bw (k := .u8) rfl .no rfl (.u rfl) (.u rfl) rfl ?_
      refine ih rfl .no Fx.se36 (.u rfl) (.u rfl) (fun _ => by omega) (fun _ => by omega) (fun _ => rfl) ?_
      refine s1r rfl (.u rfl) (.u rfl) Fx.sz5 .here (by show 64 * j + _ * 1 < _; omega) ?_; intro L9 eL9 lL9
      refine .nil ?_
      refine .blk ?_
      refine .code ?_
      refine Wk.rg [0, 1] rfl rfl ?_
      refine arn (((i + 1) : Nat) : Int) rfl .no (.u rfl) (.u rfl) rfl (fun _ => by omega) (fun _ => wrap_i64 (by omega) (by omega)) ?_
      refine mv rfl .no (.u rfl) ?_
      refine .nil ?_
      refine We.lpo (i + 1, L9) ?_ ?_ ?_ ?_ ?_
      · exact (ESub.cons rfl (by first | rfl | exact evi (by omega)) (ESub.cons rfl rfl (ESub.cons rfl rfl (ESub.cons rfl rfl (ESub.cons rfl rfl (ESub.cons rfl rfl (ESub.cons rfl rfl (ESub.cons rfl rfl (ESub.cons rfl rfl ESub.nil)))))))))
      · exact (MSub.cons .here rfl (MSub.cons .here rfl (MSub.cons .here rfl (MSub.cons .here rfl MSub.nil))))
      · first | omega | (dsimp only; omega)
      · exact hGl1
      · refine ⟨?_, ?_⟩
        · (try dsimp only) <;> (omega)
        · (try dsimp only) <;> (rw [eL9, eL2, show (Sh.o ⟨some ⟨bbR16, 64 * j, none⟩, rc⟩ + (i : Int).toNat * 1) = 64 * j + i from (by show 64 * j + _ * 1 = _; omega)]; exact crT_step (xs := xs) (j := j) (i := i) (by omega) (by omega))
    · have c2k := c2
      try simp only [decide_eq_true_eq, decide_eq_false_iff_not, Int.not_lt, Int.not_le, gt_iff_lt, ge_iff_le, Bool.or_eq_true, Bool.and_eq_true, Bool.or_eq_false_iff, Bool.not_eq_true', Bool.not_eq_false', Int.toNat_natCast, bne_iff_ne, beq_iff_eq, bne_eq_false_iff_eq, beq_eq_false_iff_ne, ne_eq] at c2
      refine .exit ?_
      refine .xcode ?_
      refine .xlp ?_
      refine .xblk ?_
      refine .code ?_
      refine Wk.rg [0, 1, 2, 3] rfl rfl ?_
      refine mv rfl .no (.u rfl) ?_
      refine mv rfl .no (.u rfl) ?_
      refine sd rfl .no Fx.se36 (.u rfl) (.u rfl) (fun _ => by omega) (fun _ => by omega) ?_
      refine asg rfl .no (.u rfl) ?_
      refine .nil ?_
      refine .blk ?_
      refine .code ?_
      refine Wk.rg [0, 1, 2] rfl rfl ?_
      refine mv rfl .no (.u rfl) ?_
      refine bw (k := .u32) (b := 1#32) rfl .no rfl (.u rfl) (.u rfl) rfl ?_
      refine asg rfl .no (.u rfl) ?_
      refine .nil ?_
      refine We.lpo (j + 1, Sh.cut ⟨some ⟨bbR16, 64 * j, none⟩, rc⟩ (min (xs.length - 64 * j) 64) 1, L2) ?_ ?_ ?_ ?_ ?_
      · exact (ESub.cons rfl (by show U (count + BitVec.ofNat 32 j + 1#32) = U (count + BitVec.ofNat 32 (j + 1)); rw [BitVec.add_assoc, ← BitVec.ofNat_add]) (ESub.cons rfl (congrArg (Sh.val _) (by omega)) (ESub.cons rfl rfl (ESub.cons rfl rfl (ESub.cons rfl rfl ESub.nil)))))
      · exact (MSub.cons .here (by rfl) (MSub.cons (.there .here) rfl (MSub.cons (.there .here) rfl MSub.nil)))
      · first | omega | (dsimp only; omega)
      · exact (hGl0).trans hGl1
      · refine ⟨?_, ?_, ?_, ?_⟩
        · (try dsimp only) <;> (rw [eL2, crT_len])
        · (try dsimp only) <;> (rw [eL2]; exact cr_end (by omega))
        · (try dsimp only) <;> (intro h3; have hrc2 : xs.length - 64 * j ≤ rc := hrc; exact cut_oa (by omega) (by omega))
        · (try dsimp only) <;> (show _ ≤ rc - _; have hrc2 : xs.length - 64 * j ≤ rc := hrc; omega)
  · have c1k := c1
    try simp only [decide_eq_true_eq, decide_eq_false_iff_not, Int.not_lt, Int.not_le, gt_iff_lt, ge_iff_le, Bool.or_eq_true, Bool.and_eq_true, Bool.or_eq_false_iff, Bool.not_eq_true', Bool.not_eq_false', Int.toNat_natCast, bne_iff_ne, beq_iff_eq, bne_eq_false_iff_eq, beq_eq_false_iff_ne, ne_eq] at c1
    refine .exit ?_
    refine .xcode ?_
    refine .xlp ?_
    refine .xblk ?_
    refine .code ?_
    refine .seq ?_
    refine Wk.rg [0, 1] rfl rfl ?_
    refine mv rfl .no (.u rfl) ?_
    refine asg rfl .no (.u rfl) ?_
    refine .nil ?_
    refine .code ?_
    refine .ret ?_
    refine We.fin Tryd.results71 (.tmp rfl .nil) (MSub.cons .here rfl MSub.nil) ?_
    exact ⟨L, by rw [eL, crT_all (by omega)], rfl⟩

theorem shaSum_ok (ps : List (Sh × List Y)) (h : Sh) (G : PM) (hs : SlP G h ps) (hK : RdNP G 0 0 (wa 64 kW)) (hl : (catL ps).length ≤ 1152921504606846976) (hn : ps.length ≤ 1000) : Ct Tryd.prog 45 ([h.val ps.length] : List Value).toArray G [] (fun _ μ' u => μ' = [] ∧ u = .agg (ba 32 (shaD (catL ps))).toArray) := by
  refine Ct.of Tryd.func45 rfl Tryd.ntmps45 rfl fun w0 hs0 => ?_
  refine .seq ?_
  refine Wk.rg [0] rfl rfl ?_
  refine al rfl Fx.zq23 ?_; intro b2
  refine .nil ?_
  refine .code ?_
  refine .seq ?_
  refine Wk.rg [0, 1, 2] rfl rfl ?_
  refine kv rfl .no Fx.go64 Eva.nil (fun _ => begin_ok _) ?_
  refine al rfl Fx.zr132 ?_; intro b3
  refine sw rfl (.u rfl) (.u rfl) rfl Fx.sz132 .here (by rfl) (one_app (wa_one _ _) (one2 rfl rfl)) ?_
  refine .nil ?_
  refine we_nilB 5 ?_
  refine .code ?_
  refine .seq ?_
  refine .seq ?_
  refine Wk.rg [0, 1, 2] rfl rfl ?_
  refine mv rfl .no (.u rfl) ?_
  refine ln rfl .no Fx.sn56 (.u rfl) ?_
  refine mv rfl .no (.u rfl) ?_
  refine .nil ?_
  refine .code ?_
  refine .block ?_
  refine Wk.lop (α := Nat × Value) (fun gh => [(9, true, .int .i64 (gh.1 : Int))]) (fun gh => [rB gh.2 5 (restL (catL (ps.take gh.1))), .blk b3 (cl (stC (catL (ps.take gh.1)) gh.2) 132)])
    (fun gh Gl => (gh.1 ≤ ps.length)) (fun gh => ps.length - gh.1) (0, .slice none 0 0) [(2, true, _), (3, true, _), (7, true, _), (8, true, _)] [_]
    (ESub.cons rfl (by first | rfl | exact evi (by omega)) (ESub.cons rfl rfl (ESub.cons rfl rfl (ESub.cons rfl rfl (ESub.cons rfl rfl ESub.nil)))))
    (MSub.cons .here (by simp [restL, catL]) (MSub.cons .here rfl (MSub.cons .here rfl MSub.nil))) ?_ ?_
  · (try dsimp only) <;> (first | omega | rfl | assumption | (simp; done))
  intro gh N0 Gl0 hN0 hGl0 hF0
  obtain ⟨k, vq⟩ := gh; dsimp only at hF0 hN0 ⊢
  have hk := hF0
  have hs := hs.mono hGl0
  have hK := hK.mono hGl0
  refine .seq ?_
  refine Wk.rg [0] rfl rfl ?_
  refine cp rfl .no (.u rfl) (.u rfl) rfl ?_
  refine .nil ?_
  refine .code ?_
  refine .seq ?_
  refine .cond rfl (fun c1 => ?_) (fun c1 => ?_)
  · have c1k := c1
    try simp only [decide_eq_true_eq, decide_eq_false_iff_not, Int.not_lt, Int.not_le, gt_iff_lt, ge_iff_le, Bool.or_eq_true, Bool.and_eq_true, Bool.or_eq_false_iff, Bool.not_eq_true', Bool.not_eq_false', Int.toNat_natCast, bne_iff_ne, beq_iff_eq, bne_eq_false_iff_eq, beq_eq_false_iff_ne, ne_eq] at c1
    refine .skip ?_
    refine .code ?_
    refine .seq ?_
    refine .block ?_
    refine .seq ?_
    refine Wk.rg [0, 1, 2] rfl rfl ?_
    refine ih rfl .no Fx.se56 (.u rfl) (.u rfl) (fun _ => by omega) (fun _ => by omega) (fun _ => hs.sl.nn (k := k) (by omega)) ?_
    obtain ⟨p12, ep12⟩ := getx (k := k) (xs := ps) (by omega)
    have hq12 := hs.get ep12
    refine ld rfl .no Fx.ag36 (.u rfl) (fun _ => (hs.at (k) (by omega) ep12).rd) ?_
    refine asg rfl .no (.u rfl) ?_
    refine .nil ?_
    refine .code ?_
    refine Wk.rg [0, 1] rfl rfl ?_
    refine mv rfl .no (.u rfl) ?_
    refine ka rfl (.inr rfl) Fx.go65 (Eva.cons (.u rfl) (Eva.cons (.u rfl) Eva.nil)) (mtk2 (.there .here) .here) (put_ok (catL (ps.take k)) p12.2 _ _ _ _ hq12 hK (by have := cat_len ep12; omega)) ?_
    rintro _ G14 μ14 hG14 ⟨vq', rfl, rfl⟩
    have hs := hs.mono hG14
    have hK := hK.mono hG14
    have hq12 := hq12.mono hG14
    refine .nil ?_
    refine .blk ?_
    refine .code ?_
    refine Wk.rg [0, 1] rfl rfl ?_
    refine arn (((k + 1) : Nat) : Int) rfl .no (.u rfl) (.u rfl) rfl (fun _ => by omega) (fun _ => wrap_i64 (by omega) (by omega)) ?_
    refine mv rfl .no (.u rfl) ?_
    refine .nil ?_
    refine We.lpo (k + 1, vq') ?_ ?_ ?_ ?_ ?_
    · exact (ESub.cons rfl (by first | rfl | exact evi (by omega)) (ESub.cons rfl rfl (ESub.cons rfl rfl (ESub.cons rfl rfl (ESub.cons rfl rfl ESub.nil)))))
    · exact (MSub.cons (.there .here) (by rw [cat_take ep12]) (MSub.cons .here (by rw [cat_take ep12]) (MSub.cons .here rfl MSub.nil)))
    · first | omega | (dsimp only; omega)
    · exact (hGl0).trans hG14
    · (try dsimp only) <;> (first | omega | rfl | assumption | (simp; done))
  · have c1k := c1
    try simp only [decide_eq_true_eq, decide_eq_false_iff_not, Int.not_lt, Int.not_le, gt_iff_lt, ge_iff_le, Bool.or_eq_true, Bool.and_eq_true, Bool.or_eq_false_iff, Bool.not_eq_true', Bool.not_eq_false', Int.toNat_natCast, bne_iff_ne, beq_iff_eq, bne_eq_false_iff_eq, beq_eq_false_iff_ne, ne_eq] at c1
    refine .exit ?_
    refine .xcode ?_
    refine .xlp ?_
    refine .xblk ?_
    refine .code ?_
    refine .seq ?_
    obtain rfl : k = ps.length := by omega
    rw [List.take_length]
    refine Wk.rg [0, 1] rfl rfl ?_
    refine ka rfl (.inr rfl) Fx.go66 (Eva.cons (.u rfl) Eva.nil) (mtk2 (.there .here) .here) (StSum_ok (catL ps) _ _ _ hK hl) ?_
    rintro _ G16 μ16 hG16 ⟨rfl, rfl⟩
    have hs := hs.mono hG16
    have hK := hK.mono hG16
    refine sw rfl (.u rfl) (.u rfl) rfl Fx.sz23 (.there (.there .here)) (by first | exact (ba_len _ _).trans (ba_len _ _).symm | exact (wa_len _ _).trans (wa_len _ _).symm | exact ba_len _ _ | exact wa_len _ _ | rfl | (simp only [wa_len, ba_len, List.length_append, List.length_cons, List.length_nil])) (by first | exact ba_one _ _ | exact wa_one _ _ | exact one_V _ | decide | exact one_app (wa_one _ _) (by simp [Value.oneCell'])) ?_
    refine .nil ?_
    refine .code ?_
    refine .ret ?_
    refine We.fin0 Tryd.results45 (.cell rfl (fun w hw => run_loadVarN Fx.ag23 (RdN.own .here) ((by first | exact (ba_len _ _).trans (ba_len _ _).symm | exact (wa_len _ _).trans (wa_len _ _).symm | exact ba_len _ _ | exact wa_len _ _ | rfl | (simp only [wa_len, ba_len, List.length_append, List.length_cons, List.length_nil]))) hw) .nil) ?_
    exact ⟨rfl, rfl⟩

end Go.Proofs.YtbdnclpopappeaaDoor
