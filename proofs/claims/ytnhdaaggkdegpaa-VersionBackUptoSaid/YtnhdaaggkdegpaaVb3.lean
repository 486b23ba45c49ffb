/- Lemmas and contracts, joined: Literals of numbers that stay; the bytes of an edit, part by part. No condition. The document's taking: flags that are held beside the reader. Plain data. No condition. Slices that are made and stay; what the law shows. No condition. Texts in order; what a right state's levels have of a key. Plain data. No condition. Contracts of functions, walked. -/
import Derived.Test.YtnhdaaggkdegpaaVb2
import Derived.Test.YtnhdaaggkdegpaaRows
import Derived.KernelRfl
set_option linter.unusedSimpArgs false
set_option linter.unusedVariables false
set_option linter.unusedSectionVars false
namespace Go.Tan
open Go.RowKit
section
variable {dr : Bool} {mc : Md} {P : Program} {n : Nat} {l : List Oper} {K : Env → PM → Mem → Prop} {i : Nat} {σ : List Nat} {ρ : Env} {G : PM} {μ : Mem}
variable {d t : Nat} {p : String} {af : Array Edge} {g : Option (Nat × Bool)} {c : Bool}
/-- '[]T{..}' that nobody writes: it stays -/
theorem bSf {T E sz by' len : Nat} {ps : List (Nat × Operand)} {vs : List (Nat × Value)} {cs : List Value} (ho : nth l i = some ⟨some d, .buildSlice T len ps.toArray, t, p, af, none⟩) (hT : slE P T = some (E, sz, by')) (hv : ∀ a, Ag n ρ a → true = true → ps.map (fun q => (q.1, a.eval q.2)) = vs) (hb : builtSl P T len vs = some cs)
    (h : ∀ b G', PM.le G G' → PB G' b (cl cs E) → Wo dr mc P n l K σ ((d, true, .slice (some ⟨b, 0, none⟩) len len) :: ρ) G' μ) : Wo dr mc P n l K (i :: σ) ρ G μ := by
  refine .fresh (μ₁ := []) (μ₂ := μ) (post := fun G' μa μb v => μa = [] ∧ μb = [] ∧ ∃ b, v = .slice (some ⟨b, 0, none⟩) len len ∧ PB G' b (cl cs E)) ho (.inl rfl) rfl (List.Perm.refl _) (fun a w ha hs => ?_) ?_ ?_
  · have hrun : (execOp a.eval ⟨some d, .buildSlice T len ps.toArray, t, p, af, none⟩).run P w = .ok (.value (.slice (some ⟨w.heap.size, 0, none⟩) len len)) (w.alloc (cl cs E)) := by
      obtain ⟨hu, inf, hi, hs1, _⟩ := slE_some hT
      have h1 := hv a ha rfl
      simp only [builtSl, hu, hi] at hb
      cases hz : inf.zero with
      | none => rw [hz] at hb; cases hb
      | some z =>
        rw [hz] at hb
        simp only at hb
        split at hb
        · cases hb
        · rename_i hle
          simp only [not_or] at hle
          obtain ⟨hle, h0⟩ := hle
          cases hf : Instr.fill (fun j => some (j * inf.size, inf.size)) ((Array.range (len * inf.size)).map (z.cells[· % z.cells.size]!)) vs with
          | none => rw [hf] at hb; cases hb
          | some r =>
            rw [hf] at hb
            simp only [Option.map_some, Option.some.injEq] at hb
            subst hb
            simp [execOp, Instr.buildSlice, run_underlying hu, sizeOf, typeInfo, hi, h0, hle, zeroValue, hz, hf, h1, newRow, cl]
    have hs0 : Sat G [] w := ⟨hs.sub, by simp, by simp [keys], by simp [keys]⟩
    have ht := ((Tr.begin hs0).alloc (cl cs E)).freeze (by simp [keys])
    exact ⟨_, _, _, [], [], hrun, ht, rfl, rfl, _, rfl, ⟨PM.add_same _ _ _⟩⟩
  · rintro v G' μa μb ⟨rfl, rfl, _⟩
    exact ⟨(fun w _ r hr => by cases hr), (fun b hb => by cases hb), by simp [keys]⟩
  · rintro v G' μa μb hle ⟨rfl, rfl, b, rfl, hb⟩
    have := h b G' hle hb
    simp only [List.nil_append, List.append_nil]
    exact this
theorem PB.slq {b cap : Nat} {ns : List Int} {T : TypeId} (h : PB G b (cl (ns.map (Value.int .u64)) T)) (hc : ns.length ≤ cap) : SlR G 1 encQ ⟨some ⟨b, 0, none⟩, cap⟩ ns := by
  refine ⟨fun _ => rfl, hc, fun i x hx j v hj => ?_⟩
  have h0 : j = 0 ∧ v = .int .u64 x := by
    cases j with
    | zero => simp [encQ] at hj; exact ⟨rfl, hj.symm⟩
    | succ j => simp [encQ] at hj
  obtain ⟨rfl, rfl⟩ := h0
  have := h.rd (o := i) (v := .int .u64 x) (by rw [List.getElem?_map, hx]; rfl)
  simpa [Sh.b, Sh.o] using this
/-- '[]uint64{..}' -/
theorem bQ {T E by' len : Nat} {ps : List (Nat × Operand)} {us : List Value} {z : Value} (ns : List Int) (ho : nth l i = some ⟨some d, .buildSlice T len ps.toArray, t, p, af, none⟩) (hT : slE P T = some (E, 1, by')) (hz : (P.info? E).bind (·.zero) = some z) (hv : ∀ a, Ag n ρ a → true = true → ps.map (fun q => (q.1, a.eval q.2)) = parts 0 us) (hus : us = ns.map (Value.int .u64)) (hl : ns.length = len) (h0 : 0 < len ∧ len ≤ 16777216)
    (h : ∀ G' s, PM.le G G' → SlR G' 1 encQ s ns → Wo dr mc P n l K σ ((d, true, s.val ns.length) :: ρ) G' μ) : Wo dr mc P n l K (i :: σ) ρ G μ := by
  subst hus
  refine bSf (vs := parts 0 (ns.map (Value.int .u64))) (cs := ns.map (Value.int .u64)) ho hT hv ?_ (fun b G' hle hb => ?_)
  · obtain ⟨hu, inf, hi, hs1, _⟩ := slE_some hT
    rw [hi] at hz
    simp only [Option.bind_some] at hz
    simp only [builtSl, hu, hi, hz, hs1]
    rw [if_neg (by omega)]
    generalize ha : (Array.range (len * 1)).map (z.cells[· % z.cells.size]!) = arr
    have hs : arr.toList.length = len := by rw [← ha]; simp
    have h2 := fill_parts (ns.map (Value.int .u64)) 0 arr.toList (fun u hu => by obtain ⟨x, _, rfl⟩ := List.mem_map.1 hu; rfl) (by rw [List.length_map]; omega)
    simp only [Array.toArray_toList] at h2
    rw [h2]
    have h3 : arr.toList.drop (0 + (ns.map (Value.int .u64)).length) = [] := List.drop_of_length_le (by rw [List.length_map]; omega)
    rw [h3]
    simp
  · have := h G' ⟨some ⟨b, 0, none⟩, len⟩ hle (hb.slq (by omega))
    rw [Sh.val, hl] at this
    exact this
end
theorem q1 {a : Int} (h : u64 a) : ∀ x ∈ [a], u64 x := by intro x hx; rw [List.mem_singleton.1 hx]; exact h
theorem q2 {a b : Int} (h : u64 a) (h2 : u64 b) : ∀ x ∈ [a, b], u64 x := by
  intro x hx; simp only [List.mem_cons, List.not_mem_nil, or_false] at hx; rcases hx with rfl | rfl <;> assumption
theorem q4 {a b c d : Int} (h : u64 a) (h2 : u64 b) (h3 : u64 c) (h4 : u64 d) : ∀ x ∈ [a, b, c, d], u64 x := by
  intro x hx; simp only [List.mem_cons, List.not_mem_nil, or_false] at hx; rcases hx with rfl | rfl | rfl | rfl <;> assumption
theorem q6 {a b c d e f : Int} (h : u64 a) (h2 : u64 b) (h3 : u64 c) (h4 : u64 d) (h5 : u64 e) (h6 : u64 f) : ∀ x ∈ [a, b, c, d, e, f], u64 x := by
  intro x hx; simp only [List.mem_cons, List.not_mem_nil, or_false] at hx; rcases hx with rfl | rfl | rfl | rfl | rfl | rfl <;> assumption
theorem u64_len {n : Nat} (h : n < 18446744073709551616) : u64 (n : Int) := ⟨by omega, by omega⟩
theorem wrap_q (x : Int) : (IntKind.u64.wrap x).toNat = u64N x := by
  unfold u64N IntKind.wrap
  simp [IntKind.signed, IntKind.bits]
theorem u64_wrap (x : Int) : u64 (IntKind.u64.wrap x) := by
  unfold u64 IntKind.wrap
  simp [IntKind.signed, IntKind.bits]; omega
theorem u64_6 {m : Meta} (h : m.wf) : ∀ x ∈ [m.level, m.gen, m.epoch, m.number, IntKind.u64.wrap m.size, IntKind.u64.wrap m.count], u64 x := by
  have l1 := h.level; have l2 := h.gen; have l3 := h.epoch; have l4 := h.number
  exact q6 ⟨by omega, by omega⟩ ⟨by omega, by omega⟩ ⟨by omega, by omega⟩ ⟨by omega, by omega⟩ (u64_wrap _) (u64_wrap _)
def gensL (e : Edit) : List Int := (List.range 5).map e.gens
theorem gens_u {e : Edit} (h : e.wf) : ∀ x ∈ gensL e, u64 x := by
  intro x hx
  obtain ⟨i, hi, rfl⟩ := List.mem_map.1 hx
  exact h.gens i (List.mem_range.1 hi)
theorem gens_sl {G : PM} {e : Edit} {ha hd : Sh} {b : Nat} {T : TypeId} (h : PB G b (cl (e.cells ha hd) T)) : SlR G 1 encQ ⟨some ⟨b, 4, none⟩, 5⟩ (gensL e) := by
  refine SlR.part (cs := e.cells ha hd) (fun j v hj => ?_) rfl (Nat.le_refl 5)
  have := h.rd hj
  simpa using this
theorem meta_ba {m : Meta} (h : m.wf) : (m.cells.drop 8).take 32 = ba 32 (fun i => BitVec.ofInt 8 (m.root i)) := by
  have e : m.cells.drop 8 = (List.range 32).map fun i => .int .u8 (m.root i) := rfl
  rw [e, List.take_of_length_le (by simp)]
  unfold ba
  refine List.map_congr_left fun i hi => ?_
  have hr := h.root i (List.mem_range.1 hi)
  show Value.int .u8 (m.root i) = V (BitVec.ofInt 8 (m.root i))
  have e2 : (((BitVec.ofInt 8 (m.root i)).toNat : Nat) : Int) = m.root i := by rw [BitVec.toNat_ofInt]; omega
  show Value.int .u8 (m.root i) = Value.int .u8 (((BitVec.ofInt 8 (m.root i)).toNat : Nat) : Int)
  rw [e2]
theorem numsL_nil : numsL [] = [] := rfl
theorem numsL_cons (x : Int) (ns : List Int) : numsL (x :: ns) = numN x.toNat ++ numsL ns := by simp [numsL]
theorem encM_eq (m : Meta) (A : List Y) : A ++ numsL [m.level, m.gen, m.epoch, m.number, IntKind.u64.wrap m.size, IntKind.u64.wrap m.count] ++ strL (yb m.min) ++ strL (yb m.max) ++ yl 32 (fun i => BitVec.ofInt 8 (m.root i)) = A ++ encM m := by
  unfold encM
  simp only [numsL_cons, numsL_nil, wrap_q, List.append_assoc, List.append_nil]
  rfl
theorem encG_eq (g : Gone) (A : List Y) : A ++ numsL [g.level, g.number] = A ++ encG g := by
  unfold encG
  simp only [numsL_cons, numsL_nil, List.append_nil]
theorem encE_eq (e : Edit) : numsL [e.log, e.next, e.seq, e.least] ++ numsL (gensL e) ++ numsL [(e.add.length : Int)] ++ e.add.flatMap encM ++ numsL [(e.drop.length : Int)] ++ e.drop.flatMap encG = encE e := by
  have h : numsL (gensL e) = (List.range 5).flatMap fun i => numN (e.gens i).toNat := by unfold numsL gensL; rw [List.flatMap_map]
  unfold encE
  rw [h]
  simp only [numsL_cons, numsL_nil, List.append_assoc, List.append_nil, Int.toNat_natCast]
theorem flat_snoc {α β : Type} {f : α → List β} {xs : List α} {k : Nat} {x : α} (h : xs[k]? = some x) : (xs.take (k + 1)).flatMap f = (xs.take k).flatMap f ++ f x := by
  rw [List.take_add_one, h]; simp
theorem flat_take {α β : Type} {f : α → List β} {xs : List α} {k : Nat} {x : α} (h : xs[k]? = some x) : ((xs.take k).flatMap f).length + (f x).length ≤ (xs.flatMap f).length := by
  have h1 : xs.flatMap f = (xs.take (k + 1)).flatMap f ++ (xs.drop (k + 1)).flatMap f := by rw [← List.flatMap_append, List.take_append_drop]
  rw [h1, flat_snoc h]; simp only [List.length_append]; omega
theorem flat_take_le {α β : Type} {f : α → List β} {xs : List α} (k : Nat) : ((xs.take k).flatMap f).length ≤ (xs.flatMap f).length := by
  have h1 : xs.flatMap f = (xs.take k).flatMap f ++ (xs.drop k).flatMap f := by rw [← List.flatMap_append, List.take_append_drop]
  rw [h1]; simp only [List.length_append]; omega
theorem strL_len {xs : List Y} (h : xs.length < 18446744073709551616) : (strL xs).length ≤ xs.length + 10 := by
  have := num_len10 h
  unfold strL; rw [List.length_append]; omega
theorem strL_ge (xs : List Y) : xs.length ≤ (strL xs).length := by unfold strL; rw [List.length_append]; omega
theorem encM_ge (m : Meta) : m.min.size + m.max.size ≤ (encM m).length := by
  have h1 := strL_ge (yb m.min); have h2 := strL_ge (yb m.max)
  rw [yb_len] at h1 h2
  unfold encM
  simp only [List.length_append]; omega
theorem encG_len {g : Gone} (h : g.wf) : (encG g).length ≤ 20 := by
  have h1 := h.level; have h2 := h.number
  have n1 := num_len10 (n := g.level.toNat) (by omega); have n2 := num_len10 (n := g.number.toNat) (by omega)
  unfold encG; rw [List.length_append]; omega
theorem gonesL {gs : List Gone} (h : ∀ g ∈ gs, g.wf) : (gs.flatMap encG).length ≤ 20 * gs.length := by
  induction gs with
  | nil => simp
  | cons g gs ih =>
    have h1 := encG_len (h g (List.mem_cons_self ..))
    have h2 := ih fun x hx => h x (List.mem_cons_of_mem _ hx)
    rw [List.flatMap_cons, List.length_append, List.length_cons]; omega
/-- a cell of an element -/
theorem SlR.fat {α : Type} {G : PM} {sz : Nat} {enc : α → List Value} {h : Sh} {xs : List α} (s : SlR G sz enc h xs) {j : Int} {k : Nat} {x : α} (hj : j.toNat = k) (hx : xs[k]? = some x) (q : Nat) {v : Value} (hv : (enc x)[q]? = some v) : RdP G ⟨h.b, h.o + j.toNat * sz + q, none⟩ v := s.at hj hx q v hv
end Go.Tan

namespace Go.Tan
open Go.RowKit
section
variable {α : Type} {O : Option α} {s t : Rd'} {bad : Bool}
theorem Tk.upR {most n : Nat} {k : Nat → List Y → Option α} {K : List Y → Option α} {bad' : Bool} (h : Tk O s bad (pUp most k)) (hN : rdNum s = (n, t)) (hb : bad' = (bad || decide (most < n))) (hK : n ≤ most → K = k n) : Tk O t bad' K := by
  have h1 := Tk.numE (k := fun n r => if n ≤ most then k n r else none) h hN
  by_cases hn : n ≤ most
  · have hd : decide (most < n) = false := decide_eq_false (by omega)
    rw [hK hn, hb, hd, Bool.or_false]
    rcases h1 with ⟨a, b, c⟩ | h1
    · exact .inl ⟨a, b, by simp only [if_pos hn] at c; exact c⟩
    · exact .inr h1
  · have ht : bad' = true := by rw [hb, decide_eq_true (show most < n by omega)]; simp
    rcases h1 with ⟨a, b, c⟩ | h1
    · exact .inr ⟨by simp only [if_neg hn] at c; exact c, .inl ht⟩
    · exact .inr ⟨h1.1, .inl ht⟩
theorem Tk.seen {k : List Y → Option α} (h : Tk O s bad k) : Tk O s (bad || !decide (s.bad = 0)) k :=
  h.bad_of (fun h0 _ hc => by rw [h0] at hc; simp at hc)
end
theorem metaR {s t1 t2 t3 t4 t5 t6 t7 t8 t9 : Rd'} {b3 : Bool} {n1 n2 n3 n4 n5 n6 : Nat} {M7 M8 rt : List Y} {lv sz ct : Int} {root : Nat → Int}
    (h1 : rdNum s = (n1, t1)) (w1 : n1 ≤ 255 → lv = n1) (h2 : rdNum t1 = (n2, t2)) (h3 : rdNum t2 = (n3, t3)) (h4 : rdNum t3 = (n4, t4))
    (h5 : rdNum t4 = (n5, t5)) (w5 : n5 ≤ 9223372036854775807 → sz = n5) (h6 : rdNum t5 = (n6, t6)) (w6 : n6 ≤ 9223372036854775807 → ct = n6)
    (h7 : rdStr 1024 t6 = (M7, t7)) (h8 : rdStr 1024 t7 = (M8, t8)) (hb : b3 = (((false || decide (255 < n1)) || decide (9223372036854775807 < n5)) || decide (9223372036854775807 < n6))) (h9 : ByR t8 t9 b3 rt) (hl : rt.length = 32) (hr : root = fun i => ((rt.getD i 0).toNat : Int)) :
    MetaT s t9 false (b3 || !decide (t9.bad = 0)) ⟨lv, n2, n3, n4, sz, ct, bstr M7, bstr M8, root⟩ := by
  intro α O k h
  subst hr
  unfold pMeta at h
  have a1 := h.upR (K := pNum fun g => pNum fun ep => pNum fun nu => pUp 9223372036854775807 fun sz => pUp 9223372036854775807 fun ct => pStr 1024 fun mn => pStr 1024 fun mx => pRep pByte 32 fun rt =>
    k ⟨lv, g, ep, nu, sz, ct, bstr mn, bstr mx, fun i => ((rt.getD i 0).toNat : Int)⟩) h1 rfl (fun hn => by rw [w1 hn])
  have a2 := a1.numE h2
  have a3 := a2.numE h3
  have a4 := a3.numE h4
  have a5 := a4.upR (K := pUp 9223372036854775807 fun ct => pStr 1024 fun mn => pStr 1024 fun mx => pRep pByte 32 fun rt =>
    k ⟨lv, n2, n3, n4, sz, ct, bstr mn, bstr mx, fun i => ((rt.getD i 0).toNat : Int)⟩) h5 rfl (fun hn => by rw [w5 hn])
  have a6 := a5.upR (K := pStr 1024 fun mn => pStr 1024 fun mx => pRep pByte 32 fun rt =>
    k ⟨lv, n2, n3, n4, sz, ct, bstr mn, bstr mx, fun i => ((rt.getD i 0).toNat : Int)⟩) h6 rfl (fun hn => by rw [w6 hn])
  have a7 := a6.strE h7
  have a8 := a7.strE h8
  rw [← hb] at a8
  exact (h9.all hl a8).seen
theorem lt256 {n : Nat} : decide ((n : Int) < 256) = !decide (255 < n) := by
  by_cases h : n < 256
  · rw [decide_eq_true (by omega), decide_eq_false (p := 255 < n) (by omega)]; rfl
  · rw [decide_eq_false (by omega), decide_eq_true (p := 255 < n) (by omega)]; rfl
theorem lt63 {n : Nat} : decide ((n : Int) < 9223372036854775808) = !decide (9223372036854775807 < n) := by
  by_cases h : n < 9223372036854775808
  · rw [decide_eq_true (by omega), decide_eq_false (p := 9223372036854775807 < n) (by omega)]; rfl
  · rw [decide_eq_false (by omega), decide_eq_true (p := 9223372036854775807 < n) (by omega)]; rfl
theorem le1024 {n : Nat} : decide ((n : Int) ≤ 1024) = !decide (1024 < n) := by
  by_cases h : n ≤ 1024
  · rw [decide_eq_true (by omega), decide_eq_false (p := 1024 < n) (by omega)]; rfl
  · rw [decide_eq_false (by omega), decide_eq_true (p := 1024 < n) (by omega)]; rfl
theorem eq0 {e : Int} : (e == 0) = decide (e = 0) := by by_cases h : e = 0 <;> simp [h]
theorem flag_m {n1 n5 n6 : Nat} {e : Int} : ((((decide ((n1 : Int) < 256) && decide ((n5 : Int) < 9223372036854775808)) && decide ((n6 : Int) < 9223372036854775808)) && (e == 0))) = !((((false || decide (255 < n1)) || decide (9223372036854775807 < n5)) || decide (9223372036854775807 < n6)) || !decide (e = 0)) := by
  rw [lt256, lt63, lt63, eq0]
  cases decide (255 < n1) <;> cases decide (9223372036854775807 < n5) <;> cases decide (9223372036854775807 < n6) <;> cases decide (e = 0) <;> rfl
theorem flag_a {n : Nat} {e : Int} : (!((e == 0) && decide ((n : Int) ≤ 1024))) = (false || (decide (1024 < n) || !decide (e = 0))) := by
  rw [le1024, eq0]
  cases decide (1024 < n) <;> cases decide (e = 0) <;> rfl
theorem flag_d {n : Nat} {bad : Bool} : (!(!bad && decide ((n : Int) ≤ 1024))) = (bad || decide (1024 < n)) := by
  rw [le1024]
  cases decide (1024 < n) <;> cases bad <;> rfl
theorem flag_g {n : Nat} {e : Int} : (!(decide ((n : Int) < 256) && (e == 0))) = (false || (decide (255 < n) || !decide (e = 0))) := by
  rw [lt256, eq0]
  cases decide (255 < n) <;> cases decide (e = 0) <;> rfl
theorem dec_dR {O : Option Edit} {gs : List Nat} {add : List Meta} {s t : Rd'} {bad bad' : Bool} {n : Nat} (h : Tk O s bad (decK2 gs add)) (hN : rdNum s = (n, t)) (hb : bad' = (bad || decide (1024 < n))) : Tk O t bad' (pRep pGone n fun drop => pEnd (edE gs add drop)) :=
  Tk.upR (k := fun n => pRep pGone n fun drop => pEnd (edE gs add drop)) h hN hb (fun _ => rfl)
theorem upR_le {bad : Bool} {n : Nat} (h : (!(!bad && decide ((n : Int) ≤ 1024))) = false) : n ≤ 1024 := by
  rw [flag_d] at h
  simp at h
  omega
end Go.Tan

namespace Go.Tan
open Go.RowKit
section
variable {dr : Bool} {mc : Md} {P : Program} {n : Nat} {l : List Oper} {K : Env → PM → Mem → Prop} {i : Nat} {σ : List Nat} {ρ : Env} {G : PM} {μ : Mem}
variable {d t : Nat} {p : String} {af : Array Edge} {g : Option (Nat × Bool)} {c : Bool}
/-- 'make([]byte, n)' that nobody writes: it stays -/
theorem mkYf {T E : Nat} {x y : Operand} {a b : Int} {k k' : IntKind} (lo cap : Nat) (ho : nth l i = some ⟨some d, .makeSlice T x y, t, p, af, g⟩) (hg : Gd l ρ g true) (hT : slE P T = some (E, 1, 1)) (hz : (P.info? E).bind (·.zero) = some (.int .u8 0)) (hx : Ev ρ true x (.int k a)) (hy : Ev ρ true y (.int k' b)) (ha : a = lo) (hb : b = cap) (h1 : lo ≤ cap) (h2 : cap ≤ 140737488355328)
    (h : ∀ (G' : PM) (s : Sh) (L : List Y), L = List.replicate lo 0#8 → L.length = lo → PM.le G G' → SlR G' 1 encY s L → Wo dr mc P n l K σ ((d, true, s.val L.length) :: ρ) G' μ) : Wo dr mc P n l K (i :: σ) ρ G μ := by
  subst ha; subst hb
  refine .act (μ₁ := []) (μ₂ := μ) (post := fun G' μ' v => ∃ s : Sh, v = s.val (List.replicate lo (0#8 : Y)).length ∧ SlR G' 1 encY s (List.replicate lo 0#8) ∧ μ' = []) ho (.inl rfl) hg (.refl _) (fun q w hq hs => .inl ?_) ?_
  · obtain ⟨hu, inf, hi, hs1, hb1⟩ := slE_some hT
    rw [hi] at hz
    simp only [Option.bind_some] at hz
    have hrun := run_make (P := P) w T E inf _ hu hi hz k k' lo cap (by omega) (by omega) (by rw [hb1]; omega) (by omega)
    simp only [Int.toNat_natCast, hs1, Nat.mul_one] at hrun
    have h0 : Tr G (keys []) w G [.blk w.heap.size (.cells (madeCells (Value.int .u8 0).cells cap) E (0, 0))] _ := (Tr.begin (Sat.left (μ := []) hs)).alloc _
    have h3 := h0.asRow (m := lo) (cap := cap) (sz := 1) (xs := (List.replicate lo 0#8).map V) (by simp) h1 (by unfold maxLen; omega) (by rw [size_madeCells]; omega) (by rw [made_u8, ← List.map_take]; simp [Nat.min_eq_left h1])
    have h4 : Tr G (keys []) w G [rB (.slice (some ⟨w.heap.size, 0, none⟩) lo cap) E (List.replicate lo 0#8)] (w.alloc (.cells (madeCells (Value.int .u8 0).cells cap) E (0, 0))) := by simpa [rB] using h3
    obtain ⟨G', s, _, hv, hsl, ht⟩ := h4.frzB (by simp [keys])
    refine ⟨s.val (List.replicate lo (0#8 : Y)).length, _, G', [], .inl ?_, ht, s, rfl, hsl, rfl⟩
    rw [← hv]
    simp [execOp, hx.eval hq rfl, hy.eval hq rfl, hrun]
  · rintro v G' μ'' hle ⟨s, rfl, hsl, rfl⟩
    exact h G' s _ rfl (by simp) hle hsl
/-- '[]T{x}' that nobody writes: it stays -/
theorem b1f {T E sz by' : Nat} {x : Operand} {v z : Value} {cs : List Value} (ho : nth l i = some ⟨some d, .buildSlice T 1 #[(0, x)], t, p, af, none⟩) (hT : slE P T = some (E, sz, by')) (hz : (P.info? E).bind (·.zero) = some z) (hx : Ev ρ true x v) (hv : v.cells = cs.toArray) (hl : cs.length = sz) (h0 : 0 < sz ∧ sz ≤ 16777216)
    (h : ∀ b G', PM.le G G' → PB G' b (cl cs E) → Wo dr mc P n l K σ ((d, true, .slice (some ⟨b, 0, none⟩) 1 1) :: ρ) G' μ) : Wo dr mc P n l K (i :: σ) ρ G μ := by
  refine bSf (vs := [(0, v)]) (cs := cs) ho hT (fun a ha hc => by simp [hx.eval ha hc]) ?_ h
  obtain ⟨hu, inf, hi, rfl, _⟩ := slE_some hT
  rw [hi] at hz
  simp only [Option.bind_some] at hz
  simp only [builtSl, hu, hi, hz]
  rw [if_neg (by omega)]
  generalize ha : (Array.range (1 * inf.size)).map (z.cells[· % z.cells.size]!) = arr
  have hs : arr.toList.length = inf.size := by rw [← ha]; simp
  have h2 := fill_step (place := fun j => some (j * inf.size, inf.size)) (cs := arr.toList) (j := 0) (off := 0) (size := inf.size) (rest := []) (by simp) hv hl (by omega)
  simp only [Array.toArray_toList] at h2
  rw [h2]
  have h3 : arr.toList.drop (0 + cs.length) = [] := List.drop_of_length_le (by omega)
  rw [h3]
  simp [Instr.fill]
theorem PB.sl1 {α : Type} {enc : α → List Value} {b sz cap : Nat} {x : α} {T : TypeId} (h : PB G b (cl (enc x) T)) (hc : 1 ≤ cap) : SlR G sz enc ⟨some ⟨b, 0, none⟩, cap⟩ [x] := by
  refine ⟨fun _ => rfl, hc, fun i y hy j v hj => ?_⟩
  obtain ⟨rfl, rfl⟩ : i = 0 ∧ y = x := by
    cases i with
    | zero => simp at hy; exact ⟨rfl, hy.symm⟩
    | succ i => simp at hy
  have := h.rd hj
  simpa [Sh.b, Sh.o] using this
end
/-! ### What the law shows -/
theorem enc_zero : encE Edit.zero = List.replicate 11 0#8 := by
  unfold encE Edit.zero
  simp only [Int.toNat_zero, List.length_nil, num_small (show 0 < 128 by decide)]
  rfl
theorem dec_ten : decO (List.replicate 10 0#8) = none := rfl
theorem decR_ten {e : Edit} {err : Int} (h : DecR (List.replicate 10 0#8) e err) : err = 180 := by
  rcases h with ⟨h, _⟩ | ⟨_, _, h⟩
  · rw [dec_ten] at h; cases h
  · exact h
def beforeB (s : State) (e : Edit) : Bool := ((List.range 5).any fun i => decide (e.gens i < s.gens i)) || (((decide (e.log < s.log) || decide (e.next < s.next)) || decide (e.seq < s.seq)) || decide (e.least < s.least))
theorem bef_yes {s : State} {e : Edit} {i : Nat} (hi : i < 5) (h : e.gens i < s.gens i) : beforeB s e = true := by
  unfold beforeB
  rw [List.any_eq_true.2 ⟨i, List.mem_range.2 hi, by simpa using h⟩]; rfl
theorem bef_no {s : State} {e : Edit} (h : ∀ i, i < 5 → ¬ e.gens i < s.gens i) : beforeB s e = (((decide (e.log < s.log) || decide (e.next < s.next)) || decide (e.seq < s.seq)) || decide (e.least < s.least)) := by
  unfold beforeB
  rw [show ((List.range 5).any fun i => decide (e.gens i < s.gens i)) = false from List.any_eq_false.2 (fun i hi => by simpa using h i (List.mem_range.1 hi)), Bool.false_or]
theorem zero_set {k : Nat} (h : k < 5) : (State.zero.cells hd0).set (0 + k * 1) (.slice none 0 0) = State.zero.cells hd0 := by
  match k, h with
  | 0, _ => rfl | 1, _ => rfl | 2, _ => rfl | 3, _ => rfl | 4, _ => rfl
theorem zero_at {k : Nat} (h : k < 5) : (State.zero.cells hd0)[0 + k * 1]? = some (.slice none 0 0) := by
  match k, h with
  | 0, _ => rfl | 1, _ => rfl | 2, _ => rfl | 3, _ => rfl | 4, _ => rfl
theorem State.len {s : State} {hd : Nat → Sh} : (s.cells hd).length = 14 := by simp [State.cells]
theorem State.one' {s : State} {hd : Nat → Sh} : ∀ u ∈ s.cells hd, u.oneCell' = true := by
  intro u hu
  simp only [State.cells, List.mem_append, List.mem_map, List.mem_cons, List.not_mem_nil, or_false] at hu
  rcases hu with (⟨i, _, rfl⟩ | (rfl | rfl | rfl | rfl)) | ⟨i, _, rfl⟩ <;> rfl
theorem Edit.len {e : Edit} {ha hd : Sh} : (e.cells ha hd).length = 11 := by simp [Edit.cells]
theorem Edit.one' {e : Edit} {ha hd : Sh} : ∀ u ∈ e.cells ha hd, u.oneCell' = true := by
  intro u hu
  simp only [Edit.cells, List.mem_append, List.mem_map, List.mem_cons, List.not_mem_nil, or_false] at hu
  rcases hu with ((rfl | rfl | rfl | rfl) | ⟨i, _, rfl⟩) | (rfl | rfl) <;> rfl
theorem gens_at {e : Edit} {j : Int} {k : Nat} (hj : j.toNat = k) (h : k < 5) : ((List.range 5).map (fun i => Value.int .u64 (e.gens i)))[j.toNat]? = some (.int .u64 (e.gens k)) := by
  subst hj
  simp [h]
def edit1 : Edit := ⟨0, 0, 0, 0, fun _ => 0, [], [Gone.zero]⟩
end Go.Tan

namespace Go.Tan
open Go.RowKit
/-! ### Texts in order -/
theorem u8_lt {a b : UInt8} : (a < b) ↔ a.toNat < b.toNat := UInt8.lt_iff_toNat_lt
theorem bl_irr : ∀ (x : List UInt8), Op.bytesLess x x = false
  | [] => rfl
  | a :: x => by
    have h : ¬ a < a := by rw [u8_lt]; omega
    simp [Op.bytesLess, h, bl_irr x]
theorem bl_trans : ∀ {x y z : List UInt8}, Op.bytesLess x y = true → Op.bytesLess y z = true → Op.bytesLess x z = true
  | [], [], _, h, _ => by simp [Op.bytesLess] at h
  | [], _ :: _, [], _, h => by simp [Op.bytesLess] at h
  | [], _ :: _, _ :: _, _, _ => by simp [Op.bytesLess]
  | _ :: _, [], _, h, _ => by simp [Op.bytesLess] at h
  | _ :: _, _ :: _, [], _, h => by simp [Op.bytesLess] at h
  | a :: x, b :: y, c :: z, h, h' => by
    simp only [Op.bytesLess, Bool.or_eq_true, Bool.and_eq_true, decide_eq_true_eq, beq_iff_eq] at h h' ⊢
    rcases h with h | ⟨rfl, h⟩
    · rcases h' with h' | ⟨rfl, _⟩
      · left; rw [u8_lt] at *; omega
      · exact .inl h
    · rcases h' with h' | ⟨rfl, h'⟩
      · exact .inl h'
      · exact .inr ⟨rfl, bl_trans h h'⟩
theorem bl_tri : ∀ (x y : List UInt8), Op.bytesLess x y = true ∨ x = y ∨ Op.bytesLess y x = true
  | [], [] => .inr (.inl rfl)
  | [], _ :: _ => .inl (by simp [Op.bytesLess])
  | _ :: _, [] => .inr (.inr (by simp [Op.bytesLess]))
  | a :: x, b :: y => by
    simp only [Op.bytesLess, Bool.or_eq_true, Bool.and_eq_true, decide_eq_true_eq, beq_iff_eq, List.cons.injEq]
    have hab : a.toNat < b.toNat ∨ a = b ∨ b.toNat < a.toNat := by
      rcases Nat.lt_trichotomy a.toNat b.toNat with h | h | h
      · exact .inl h
      · exact .inr (.inl (UInt8.toNat_inj.1 h))
      · exact .inr (.inr h)
    rcases hab with h | rfl | h
    · exact .inl (.inl (u8_lt.2 h))
    · rcases bl_tri x y with h | rfl | h
      · exact .inl (.inr ⟨rfl, h⟩)
      · exact .inr (.inl ⟨rfl, rfl⟩)
      · exact .inr (.inr (.inr ⟨rfl, h⟩))
    · exact .inr (.inr (.inl (u8_lt.2 h)))
theorem bytes_inj {a b : ByteArray} (h : a.toList = b.toList) : a = b := by
  rw [ByteArray.toList_eq, ByteArray.toList_eq] at h
  cases a with | mk a => cases b with | mk b =>
  congr 1
  exact Array.toList_inj.1 h
theorem lt_irr (a : ByteArray) : lt a a = false := bl_irr _
theorem lt_tr {a b c : ByteArray} (h : lt a b = true) (h' : lt b c = true) : lt a c = true := bl_trans h h'
theorem lt_tri (a b : ByteArray) : lt a b = true ∨ a = b ∨ lt b a = true := by
  rcases bl_tri a.toList b.toList with h | h | h
  · exact .inl h
  · exact .inr (.inl (bytes_inj h))
  · exact .inr (.inr h)
theorem lt_as {a b : ByteArray} (h : lt a b = true) : lt b a = false := by
  cases h' : lt b a with
  | false => rfl
  | true => have := lt_tr h h'; rw [lt_irr] at this; cases this
theorem le_not (a b : ByteArray) : le a b = !lt b a := by
  have e : le a b = (lt a b || a.toList == b.toList) := rfl
  rw [e]
  rcases lt_tri a b with h | rfl | h
  · rw [h, lt_as h]; rfl
  · rw [lt_irr]; simp
  · rw [h, lt_as h]
    have hne : (a.toList == b.toList) = false := by
      rw [beq_eq_false_iff_ne]
      intro e
      rw [bytes_inj e, lt_irr] at h; cases h
    rw [hne]; rfl
theorem le_lt_tr {a b c : ByteArray} (h : le a b = true) (h' : lt b c = true) : lt a c = true := by
  rw [le_not] at h
  rcases lt_tri a b with h2 | rfl | h2
  · exact lt_tr h2 h'
  · exact h'
  · rw [h2] at h; cases h
theorem lt_le_tr {a b c : ByteArray} (h : lt a b = true) (h' : le b c = true) : lt a c = true := by
  rw [le_not] at h'
  rcases lt_tri b c with h2 | rfl | h2
  · exact lt_tr h h2
  · exact h
  · rw [h2] at h'; cases h'
theorem le_tr {a b c : ByteArray} (h : le a b = true) (h' : le b c = true) : le a c = true := by
  rw [le_not] at *
  cases h2 : lt c a with
  | false => rfl
  | true =>
    rcases lt_tri a b with h3 | rfl | h3
    · have := lt_tr h2 h3; rw [this] at h'; cases h'
    · rw [h2] at h'; cases h'
    · rw [h3] at h; cases h
theorem lt_le {a b : ByteArray} (h : lt a b = true) : le a b = true := by rw [le_not, lt_as h]; rfl
/-! ### What is looked up -/
def mayP (u : ByteArray) (m : Meta) : Bool := le m.min u && le u m.max
theorem ovp_may (u : ByteArray) : ovp u u = mayP u := by
  funext m
  unfold ovp mayP
  rw [le_not u m.max, Bool.and_comm]
theorem good_le {s : State} {m : Meta} (h : good s m = true) : le m.min m.max = true := by
  simp only [good, Bool.and_eq_true] at h
  exact h.1.1.1.1.1.1.2
theorem getD_at {l : List Meta} {k : Nat} (h : k < l.length) : l[k]? = some (l.getD k Meta.zero) := by simp [h]
theorem lv_lt {s : State} {i : Nat} (hr : RightP s) (h0 : 0 < i) (h5 : i < 5) : ∀ (d a : Nat), a + d + 1 < (s.lv i).length → lt ((s.lv i).getD a Meta.zero).max ((s.lv i).getD (a + d + 1) Meta.zero).min = true
  | 0, a, h => by
    have := (hr.lv i h5).2 a h
    unfold pairOk at this
    rw [if_neg (by omega)] at this
    exact this
  | d + 1, a, h => by
    have h1 := lv_lt hr h0 h5 d a (by omega)
    have h2 := lv_lt hr h0 h5 0 (a + d + 1) (by omega)
    have h3 := good_le ((hr.lv i h5).1 _ (getD_mem (k := a + d + 1) (by omega))).2
    exact lt_tr (lt_le_tr h1 h3) h2
theorem may_one {s : State} {u : ByteArray} {i a b : Nat} (hr : RightP s) (h0 : 0 < i) (h5 : i < 5) (hab : a < b) (hb : b < (s.lv i).length) (ha : mayP u ((s.lv i).getD a Meta.zero) = true) (hb' : mayP u ((s.lv i).getD b Meta.zero) = true) : False := by
  obtain ⟨d, rfl⟩ : ∃ d, b = a + d + 1 := ⟨b - a - 1, by omega⟩
  have h1 := lv_lt hr h0 h5 d a hb
  unfold mayP at ha hb'
  simp only [Bool.and_eq_true] at ha hb'
  have h2 := lt_le_tr (le_lt_tr ha.2 h1) hb'.1
  rw [lt_irr] at h2; cases h2
/-- how many of a level's first so many have a key -/
def ofN (s : State) (u : ByteArray) (i k : Nat) : Nat := (((s.lv i).take k).filter (mayP u)).length
theorem ofN_zero (s : State) (u : ByteArray) (i : Nat) : ofN s u i 0 = 0 := by simp [ofN]
theorem ofN_yes {s : State} {u : ByteArray} {i k : Nat} (hk : k < (s.lv i).length) (h : mayP u ((s.lv i).getD k Meta.zero) = true) : ofN s u i (k + 1) = ofN s u i k + 1 := by
  unfold ofN; rw [take_snoc hk, List.filter_append, List.filter_cons_of_pos h]; simp
theorem ofN_no {s : State} {u : ByteArray} {i k : Nat} (hk : k < (s.lv i).length) (h : mayP u ((s.lv i).getD k Meta.zero) = false) : ofN s u i (k + 1) = ofN s u i k := by
  unfold ofN; rw [take_snoc hk, List.filter_append, List.filter_cons_of_neg (by rw [h]; decide)]; simp
theorem ofN_le (s : State) (u : ByteArray) (i k : Nat) : ofN s u i k ≤ (s.lv i).length := Nat.le_trans (List.length_filter_le _ _) (by simp only [List.length_take]; omega)
theorem ofN_all {s : State} {u : ByteArray} {i k : Nat} (h : (s.lv i).length ≤ k) : ofN s u i k = ((s.lv i).filter (mayP u)).length := by unfold ofN; rw [List.take_of_length_le h]
theorem ofN_one {s : State} {u : ByteArray} {i : Nat} (hr : RightP s) (h0 : 0 < i) (h5 : i < 5) : ((s.lv i).filter (mayP u)).length ≤ 1 := by
  have key : ∀ k, k ≤ (s.lv i).length → ofN s u i k ≤ 1 ∧ (ofN s u i k = 1 → ∃ a, a < k ∧ mayP u ((s.lv i).getD a Meta.zero) = true) := by
    intro k
    induction k with
    | zero => intro _; rw [ofN_zero]; exact ⟨by omega, fun h => by omega⟩
    | succ k ih =>
      intro hk
      obtain ⟨h1, h2⟩ := ih (by omega)
      cases hm : mayP u ((s.lv i).getD k Meta.zero) with
      | false => rw [ofN_no (by omega) hm]; exact ⟨h1, fun h => by obtain ⟨a, ha, hb⟩ := h2 h; exact ⟨a, by omega, hb⟩⟩
      | true =>
        rw [ofN_yes (by omega) hm]
        by_cases h : ofN s u i k = 1
        · obtain ⟨a, ha, hb⟩ := h2 h
          exact (may_one hr h0 h5 ha (by omega) hb hm).elim
        · exact ⟨by omega, fun _ => ⟨k, by omega, hm⟩⟩
  have := (key _ (Nat.le_refl _)).1
  rwa [ofN_all (Nat.le_refl _)] at this
theorem ovl_may {s : State} {u : ByteArray} {k : Nat} (h : k < 5) : ovl s (k : Int) u u = (s.lv k).filter (mayP u) := by
  rw [ovl_in (by omega), ovp_may]; rfl
theorem lookM_next {s : State} {u : ByteArray} {k : Nat} (h : k < 5) : (lookM s u (k + 1)).length = (lookM s u k).length + ((s.lv k).filter (mayP u)).length := by
  rw [lookM, List.length_append, ovl_may h]
theorem ovl_wf {G : PM} {s : State} {hd : Nat → Sh} {lo hi : ByteArray} {level : Int} (hs : StR G s hd) : ∀ m ∈ ovl s level lo hi, m.wf := by
  intro m hm
  by_cases h : 0 ≤ level ∧ level < 5
  · rw [ovl_in h] at hm
    exact hs.wf level.toNat (by omega) m (List.mem_filter.1 hm).1
  · rw [ovl_out (by omega)] at hm; cases hm
theorem lookM_mem {s : State} {u : ByteArray} {m : Meta} : ∀ {n : Nat}, n ≤ 5 → m ∈ lookM s u n → ∃ i, i < n ∧ m ∈ s.lv i ∧ mayP u m = true
  | 0, _, h => by cases h
  | n + 1, hn, h => by
    rw [lookM, List.mem_append, ovl_may (by omega), List.mem_filter] at h
    rcases h with h | ⟨h1, h2⟩
    · obtain ⟨i, hi, h⟩ := lookM_mem (by omega) h
      exact ⟨i, by omega, h⟩
    · exact ⟨n, by omega, h1, h2⟩
theorem lookM_wf {G : PM} {s : State} {hd : Nat → Sh} {u : ByteArray} (hs : StR G s hd) : ∀ m ∈ lookM s u 5, m.wf := by
  intro m hm
  obtain ⟨i, hi, h, _⟩ := lookM_mem (by decide) hm
  exact hs.wf i hi m h
theorem lookM_lv {s : State} {u : ByteArray} (hr : RightP s) : ∀ {n : Nat}, n ≤ 5 → (lookM s u n).Pairwise fun a b => a.level ≤ b.level
  | 0, _ => .nil
  | n + 1, hn => by
    rw [lookM, ovl_may (by omega)]
    refine List.pairwise_append.2 ⟨lookM_lv hr (by omega), ?_, ?_⟩
    · refine List.Pairwise.imp_of_mem (R := fun _ _ => True) (fun {a b} ha hb _ => ?_) (List.pairwise_of_forall fun _ _ => trivial)
      rw [((hr.lv n (by omega)).1 a (List.mem_filter.1 ha).1).1, ((hr.lv n (by omega)).1 b (List.mem_filter.1 hb).1).1]; exact Int.le_refl _
    · intro a ha b hb
      obtain ⟨i, hi, h, _⟩ := lookM_mem (by omega) ha
      rw [((hr.lv i (by omega)).1 a h).1, ((hr.lv n (by omega)).1 b (List.mem_filter.1 hb).1).1]; omega
theorem lookM_step {s : State} {u : ByteArray} {k : Nat} (hr : RightP s) (h0 : 0 < k) (hk : k < (lookM s u 5).length) : ((lookM s u 5).getD (k - 1) Meta.zero).level ≤ ((lookM s u 5).getD k Meta.zero).level := by
  have := List.pairwise_iff_getElem.1 (lookM_lv hr (n := 5) (by decide) (u := u)) (k - 1) k (by omega) hk (by omega)
  simpa [hk, show k - 1 < (lookM s u 5).length by omega] using this
theorem lookM_may {s : State} {u : ByteArray} {k : Nat} (hk : k < (lookM s u 5).length) : mayP u ((lookM s u 5).getD k Meta.zero) = true := by
  obtain ⟨i, _, _, h⟩ := lookM_mem (n := 5) (by decide) (getD_mem hk)
  exact h
theorem lv_tot (s : State) {i : Nat} (h : i < 5) : ((s.lv i).length : Int) ≤ tot s 5 := by
  have h1 := tot_mono s (show i + 1 ≤ 5 by omega)
  have h2 := tot_nonneg s i
  rw [show tot s (i + 1) = tot s i + (s.lv i).length from rfl] at h1
  omega
theorem ovl_tot (s : State) (level : Int) (lo hi : ByteArray) : ((ovl s level lo hi).length : Int) ≤ tot s 5 := by
  unfold ovl
  split
  · rename_i h
    have h1 := List.length_filter_le (ovp lo hi) (s.lv level.toNat)
    have h2 := lv_tot s (i := level.toNat) (by omega)
    omega
  · exact tot_nonneg s 5
theorem lookM_bad {s : State} {u : ByteArray} {j : Nat} (hr : RightP s) (hj : j < (lookM s u 5).length) (hm : le ((lookM s u 5).getD j Meta.zero).min u = true ∧ le u ((lookM s u 5).getD j Meta.zero).max = true)
    (h : ((!(Op.bytesLess ((lookM s u 5).getD j Meta.zero).min.toList u.toList || ((lookM s u 5).getD j Meta.zero).min.toList == u.toList) || Op.bytesLess ((lookM s u 5).getD j Meta.zero).max.toList u.toList) ||
      (decide ((j : Int) > 0) && decide (((lookM s u 5).getD j Meta.zero).level < ((lookM s u 5).getD (j - 1) Meta.zero).level))) = true) : False := by
  have h1 : (Op.bytesLess ((lookM s u 5).getD j Meta.zero).min.toList u.toList || ((lookM s u 5).getD j Meta.zero).min.toList == u.toList) = true := hm.1
  have h2 : Op.bytesLess ((lookM s u 5).getD j Meta.zero).max.toList u.toList = false := by
    have := hm.2; rw [le_not] at this
    cases e : Op.bytesLess ((lookM s u 5).getD j Meta.zero).max.toList u.toList with
    | false => rfl
    | true => rw [show lt ((lookM s u 5).getD j Meta.zero).max u = true from e] at this; cases this
  rw [h1, h2] at h
  simp only [Bool.not_true, Bool.or_false, Bool.false_or, Bool.and_eq_true, decide_eq_true_eq] at h
  have := lookM_step hr (u := u) (k := j) (by omega) hj
  omega
end Go.Tan

namespace Go.Proofs.Ytnhdaaggkdegpaa
set_option linter.unusedSimpArgs false
set_option linter.unusedVariables false
open Go.Tan Go.RowKit

namespace Fx
theorem fo48_0 : fOff Try.prog 48 0 = some 0 := by kernel_rfl
theorem ag5 : aggN Try.prog 5 = some none := by kernel_rfl
theorem fo48_3 : fOff Try.prog 48 3 = some 3 := by kernel_rfl
theorem ag24 : aggN Try.prog 24 = some none := by kernel_rfl
theorem fo48_7 : fOff Try.prog 48 7 = some 7 := by kernel_rfl
theorem ag9 : aggN Try.prog 9 = some none := by kernel_rfl
theorem fo48_6 : fOff Try.prog 48 6 = some 6 := by kernel_rfl
theorem st9 : strT Try.prog 9 = true := by kernel_rfl
theorem fo48_5 : fOff Try.prog 48 5 = some 5 := by kernel_rfl
theorem ag3 : aggN Try.prog 3 = some none := by kernel_rfl
theorem fo48_4 : fOff Try.prog 48 4 = some 4 := by kernel_rfl
theorem mix : Try.prog.follows .mixedOrders = true := by kernel_rfl
theorem fo27_2 : fOff Try.prog 27 2 = some 6 := by kernel_rfl
theorem fo48_1 : fOff Try.prog 48 1 = some 1 := by kernel_rfl
theorem fo27_5 : fOff Try.prog 27 5 = some 9 := by kernel_rfl
theorem ar25 : arE Try.prog 25 = some (5, 24, 1) := by kernel_rfl
theorem fo27_0 : fOff Try.prog 27 0 = some 0 := by kernel_rfl
theorem ar23 : arE Try.prog 23 = some (5, 22, 1) := by kernel_rfl
theorem ag22 : aggN Try.prog 22 = some none := by kernel_rfl
theorem se22 : slE Try.prog 22 = some (48, 40, 112) := by kernel_rfl
theorem sn22 : (slE Try.prog 22).isSome = true := by kernel_rfl
theorem zv48 : (Try.prog.info? 48).bind (·.zero) = some (.agg (Meta.zero.cells).toArray) := by kernel_rfl
end Fx
theorem stands_ok (a b : Meta) (G : PM) (h0 : 0 ≤ a.level) : Ct Try.prog 30 ([a.val, b.val] : List Value).toArray G [] (fun _ μ' u => μ' = [] ∧ u = .bool (pairOk a.level a b)) := by
  refine Ct.of Try.func30 rfl Try.ntmps30 rfl fun w0 hs0 => ?_
  refine .seq ?_
  refine Wk.rg [0, 1, 2] rfl rfl ?_
  refine bx rfl (.u rfl) rfl ?_; intro b2
  refine bx rfl (.u rfl) rfl ?_; intro b3
  refine asg rfl .no (.u rfl) ?_
  refine .nil ?_
  refine .code ?_
  refine .seq ?_
  refine .seq ?_
  refine Wk.rg [0, 1, 2] rfl rfl ?_
  refine fz rfl .no Fx.fo48_0 (.u rfl) ?_
  refine ld rfl .no Fx.ag5 (.u rfl) (fun _ => Rd.own (.there .here) rfl) ?_
  refine cp rfl .no (.u rfl) (.u rfl) rfl ?_
  refine .nil ?_
  refine .code ?_
  refine .cond rfl (fun c1 => ?_) (fun c1 => ?_)
  · have c1k := c1
    try simp only [decide_eq_true_eq, decide_eq_false_iff_not, Int.not_lt, Int.not_le, gt_iff_lt, ge_iff_le, Bool.or_eq_true, Bool.and_eq_true, Bool.or_eq_false_iff, Bool.not_eq_true', Bool.not_eq_false', Int.toNat_natCast] at c1
    refine .seq ?_
    refine Wk.rg [0, 1, 2, 3, 4, 5] rfl rfl ?_
    refine fz rfl .no Fx.fo48_3 (.u rfl) ?_
    refine ld rfl .no Fx.ag24 (.u rfl) (fun _ => Rd.own (.there .here) rfl) ?_
    refine fz rfl .no Fx.fo48_3 (.u rfl) ?_
    refine ld rfl .no Fx.ag24 (.u rfl) (fun _ => Rd.own .here rfl) ?_
    refine cp rfl .no (.u rfl) (.u rfl) rfl ?_
    refine asg rfl .no (.u rfl) ?_
    refine .nil ?_
    refine .code ?_
    refine .ret ?_
    refine We.fin0 Try.results30 (.tmp rfl .nil) ?_
    exact ⟨rfl, congrArg Value.bool (by rw [← stands_eq a b h0, if_pos c1k])⟩
  · have c1k := c1
    try simp only [decide_eq_true_eq, decide_eq_false_iff_not, Int.not_lt, Int.not_le, gt_iff_lt, ge_iff_le, Bool.or_eq_true, Bool.and_eq_true, Bool.or_eq_false_iff, Bool.not_eq_true', Bool.not_eq_false', Int.toNat_natCast] at c1
    refine .skip ?_
    refine .code ?_
    refine .seq ?_
    refine Wk.rg [0, 1, 2, 3, 4, 5] rfl rfl ?_
    refine fz rfl .no Fx.fo48_7 (.u rfl) ?_
    refine ld rfl .no Fx.ag9 (.u rfl) (fun _ => Rd.own (.there .here) rfl) ?_
    refine fz rfl .no Fx.fo48_6 (.u rfl) ?_
    refine ld rfl .no Fx.ag9 (.u rfl) (fun _ => Rd.own .here rfl) ?_
    refine cs rfl .no (.u rfl) (.u rfl) rfl ?_
    refine asg rfl .no (.u rfl) ?_
    refine .nil ?_
    refine .code ?_
    refine .ret ?_
    refine We.fin0 Try.results30 (.tmp rfl .nil) ?_
    exact ⟨rfl, congrArg Value.bool (by rw [← stands_eq a b h0, if_neg (by rw [c1k]; simp)]; rfl)⟩

theorem fits_ok (s : State) (hd : Nat → Sh) (m : Meta) (b : Nat) (G : PM) (hp : RdNP G b 0 (s.cells hd)) (h0 : 0 ≤ m.level) : Ct Try.prog 29 ([.pointer (some ⟨b, 0, none⟩), m.val] : List Value).toArray G [] (fun _ μ' u => μ' = [] ∧ u = .bool (good s m)) := by
  refine Ct.of Try.func29 rfl Try.ntmps29 rfl fun w0 hs0 => ?_
  refine .seq ?_
  refine Wk.rg [0, 1] rfl rfl ?_
  refine bx rfl (.u rfl) rfl ?_; intro b3
  refine asg rfl .no (.u rfl) ?_
  refine .nil ?_
  refine .code ?_
  refine .seq ?_
  refine .block ?_
  refine .seq ?_
  refine .seq ?_
  refine Wk.rg [0, 1, 2, 3] rfl rfl ?_
  refine fz rfl .no Fx.fo48_0 (.u rfl) ?_
  refine ld rfl .no Fx.ag5 (.u rfl) (fun _ => Rd.own .here rfl) ?_
  refine cp rfl .no (.u rfl) (.u rfl) rfl ?_
  refine asg rfl .no (.u rfl) ?_
  refine .nil ?_
  refine .code ?_
  refine .cond rfl (fun c1 => ?_) (fun c1 => ?_)
  · have c1k := c1
    try simp only [decide_eq_true_eq, decide_eq_false_iff_not, Int.not_lt, Int.not_le, gt_iff_lt, ge_iff_le, Bool.or_eq_true, Bool.and_eq_true, Bool.or_eq_false_iff, Bool.not_eq_true', Bool.not_eq_false', Int.toNat_natCast] at c1
    refine .skip ?_
    refine .code ?_
    refine Wk.condT rfl c1k ?_
    refine .seq ?_
    refine Wk.rg [0] rfl rfl ?_
    refine asg rfl .no (.u rfl) ?_
    refine .nil ?_
    refine .code ?_
    refine .ret ?_
    refine We.fin0 Try.results29 (.tmp rfl .nil) ?_
    exact ⟨rfl, by simp [tup, good]; omega⟩
  · have c1k := c1
    try simp only [decide_eq_true_eq, decide_eq_false_iff_not, Int.not_lt, Int.not_le, gt_iff_lt, ge_iff_le, Bool.or_eq_true, Bool.and_eq_true, Bool.or_eq_false_iff, Bool.not_eq_true', Bool.not_eq_false', Int.toNat_natCast] at c1
    refine .seq ?_
    refine Wk.rg [0, 1, 2, 3, 4, 5] rfl rfl ?_
    refine fz rfl .no Fx.fo48_6 (.u rfl) ?_
    refine ld rfl .no Fx.ag9 (.u rfl) (fun _ => Rd.own .here rfl) ?_
    refine fz rfl .no Fx.fo48_7 (.u rfl) ?_
    refine ld rfl .no Fx.ag9 (.u rfl) (fun _ => Rd.own .here rfl) ?_
    refine cs rfl .no (.u rfl) (.u rfl) rfl ?_
    refine asg rfl .no (.u rfl) ?_
    refine .nil ?_
    refine .code ?_
    refine .cond rfl (fun c2 => ?_) (fun c2 => ?_)
    · have c2k := c2
      try simp only [decide_eq_true_eq, decide_eq_false_iff_not, Int.not_lt, Int.not_le, gt_iff_lt, ge_iff_le, Bool.or_eq_true, Bool.and_eq_true, Bool.or_eq_false_iff, Bool.not_eq_true', Bool.not_eq_false', Int.toNat_natCast] at c2
      refine .skip ?_
      refine .code ?_
      refine Wk.condT rfl c2k ?_
      refine .seq ?_
      refine Wk.rg [0] rfl rfl ?_
      refine asg rfl .no (.u rfl) ?_
      refine .nil ?_
      refine .code ?_
      refine .ret ?_
      refine We.fin0 Try.results29 (.tmp rfl .nil) ?_
      exact ⟨rfl, by have h : le m.min m.max = false := (by simpa [le] using c2k); simp [tup, good, h]⟩
    · have c2k := c2
      try simp only [decide_eq_true_eq, decide_eq_false_iff_not, Int.not_lt, Int.not_le, gt_iff_lt, ge_iff_le, Bool.or_eq_true, Bool.and_eq_true, Bool.or_eq_false_iff, Bool.not_eq_true', Bool.not_eq_false', Int.toNat_natCast] at c2
      refine .seq ?_
      refine Wk.rg [0, 1, 2, 3, 4, 5, 6, 7, 8] rfl rfl ?_
      refine fz rfl .no Fx.fo48_6 (.u rfl) ?_
      refine ld rfl .no Fx.ag9 (.u rfl) (fun _ => Rd.own .here rfl) ?_
      refine ls rfl .no Fx.st9 (.u rfl) ?_
      refine fz rfl .no Fx.fo48_7 (.u rfl) ?_
      refine ld rfl .no Fx.ag9 (.u rfl) (fun _ => Rd.own .here rfl) ?_
      refine ls rfl .no Fx.st9 (.u rfl) ?_
      refine mA rfl .no (.u rfl) (.u rfl) ?_
      refine cp rfl .no (.u rfl) (.u rfl) rfl ?_
      refine asg rfl .no (.u rfl) ?_
      refine .nil ?_
      refine .code ?_
      refine .cond rfl (fun c3 => ?_) (fun c3 => ?_)
      · have c3k := c3
        try simp only [decide_eq_true_eq, decide_eq_false_iff_not, Int.not_lt, Int.not_le, gt_iff_lt, ge_iff_le, Bool.or_eq_true, Bool.and_eq_true, Bool.or_eq_false_iff, Bool.not_eq_true', Bool.not_eq_false', Int.toNat_natCast] at c3
        refine .skip ?_
        refine .code ?_
        refine Wk.condT rfl c3k ?_
        refine .seq ?_
        refine Wk.rg [0] rfl rfl ?_
        refine asg rfl .no (.u rfl) ?_
        refine .nil ?_
        refine .code ?_
        refine .ret ?_
        refine We.fin0 Try.results29 (.tmp rfl .nil) ?_
        exact ⟨rfl, by simp [tup, good]; omega⟩
      · have c3k := c3
        try simp only [decide_eq_true_eq, decide_eq_false_iff_not, Int.not_lt, Int.not_le, gt_iff_lt, ge_iff_le, Bool.or_eq_true, Bool.and_eq_true, Bool.or_eq_false_iff, Bool.not_eq_true', Bool.not_eq_false', Int.toNat_natCast] at c3
        refine .seq ?_
        refine Wk.rg [0, 1, 2, 3] rfl rfl ?_
        refine fz rfl .no Fx.fo48_5 (.u rfl) ?_
        refine ld rfl .no Fx.ag3 (.u rfl) (fun _ => Rd.own .here rfl) ?_
        refine cp rfl .no (.u rfl) (.u rfl) rfl ?_
        refine asg rfl .no (.u rfl) ?_
        refine .nil ?_
        refine .code ?_
        refine .cond rfl (fun c4 => ?_) (fun c4 => ?_)
        · have c4k := c4
          try simp only [decide_eq_true_eq, decide_eq_false_iff_not, Int.not_lt, Int.not_le, gt_iff_lt, ge_iff_le, Bool.or_eq_true, Bool.and_eq_true, Bool.or_eq_false_iff, Bool.not_eq_true', Bool.not_eq_false', Int.toNat_natCast] at c4
          refine .skip ?_
          refine .code ?_
          refine Wk.condT rfl c4k ?_
          refine .seq ?_
          refine Wk.rg [0] rfl rfl ?_
          refine asg rfl .no (.u rfl) ?_
          refine .nil ?_
          refine .code ?_
          refine .ret ?_
          refine We.fin0 Try.results29 (.tmp rfl .nil) ?_
          exact ⟨rfl, by simp [tup, good]; omega⟩
        · have c4k := c4
          try simp only [decide_eq_true_eq, decide_eq_false_iff_not, Int.not_lt, Int.not_le, gt_iff_lt, ge_iff_le, Bool.or_eq_true, Bool.and_eq_true, Bool.or_eq_false_iff, Bool.not_eq_true', Bool.not_eq_false', Int.toNat_natCast] at c4
          refine Wk.rg [0, 1, 2, 3] rfl rfl ?_
          refine fz rfl .no Fx.fo48_4 (.u rfl) ?_
          refine ld rfl .no Fx.ag3 (.u rfl) (fun _ => Rd.own .here rfl) ?_
          refine cp rfl .no (.u rfl) (.u rfl) rfl ?_
          refine asg rfl .no (.u rfl) ?_
          refine .nil ?_
          refine .code ?_
          refine .cond rfl (fun c5 => ?_) (fun c5 => ?_)
          · have c5k := c5
            try simp only [decide_eq_true_eq, decide_eq_false_iff_not, Int.not_lt, Int.not_le, gt_iff_lt, ge_iff_le, Bool.or_eq_true, Bool.and_eq_true, Bool.or_eq_false_iff, Bool.not_eq_true', Bool.not_eq_false', Int.toNat_natCast] at c5
            refine .seq ?_
            refine Wk.rg [0] rfl rfl ?_
            refine asg rfl .no (.u rfl) ?_
            refine .nil ?_
            refine .code ?_
            refine .ret ?_
            refine We.fin0 Try.results29 (.tmp rfl .nil) ?_
            exact ⟨rfl, by simp [tup, good]; omega⟩
          · have c5k := c5
            try simp only [decide_eq_true_eq, decide_eq_false_iff_not, Int.not_lt, Int.not_le, gt_iff_lt, ge_iff_le, Bool.or_eq_true, Bool.and_eq_true, Bool.or_eq_false_iff, Bool.not_eq_true', Bool.not_eq_false', Int.toNat_natCast] at c5
            refine .skip ?_
            refine .blk ?_
            refine .code ?_
            refine .seq ?_
            refine Wk.draw (mc := ⟨false, false⟩) [0, 1, 2, 3, 4, 5, 6, 7, 8, 9, 10, 11, 12, 13, 14, 15, 16, 17, 18, 19] Fx.mix (by kernel_rfl) ?_
            refine fz rfl .no Fx.fo48_3 (.u rfl) ?_
            refine ld rfl .no Fx.ag24 (.u rfl) (fun _ => Rd.own .here rfl) ?_
            refine mv rfl .no (.u rfl) ?_
            refine nc rfl .no (.u rfl) ?_
            refine fz rfl .no Fx.fo27_2 (.u rfl) ?_
            refine ld rfl .no Fx.ag24 (.u rfl) (fun _ => (hp.z rfl).rd) ?_
            refine cp rfl .no (.u rfl) (.u rfl) rfl ?_
            refine mv rfl .no (.u rfl) ?_
            refine fz rfl (.t rfl rfl) Fx.fo48_1 (.u rfl) ?_
            refine ld rfl (.t rfl rfl) Fx.ag24 (.s rfl) (fun _ => Rd.own .here rfl) ?_
            refine mv rfl (.t rfl rfl) (.u rfl) ?_
            refine fz rfl (.t rfl rfl) Fx.fo48_0 (.u rfl) ?_
            refine ld rfl (.t rfl rfl) Fx.ag5 (.s rfl) (fun _ => Rd.own .here rfl) ?_
            refine nc rfl (.t rfl rfl) (.s rfl) ?_
            refine fz rfl (.t rfl rfl) Fx.fo27_5 (.s rfl) ?_
            refine iA rfl (.t rfl rfl) Fx.ar25 (.s rfl) (.s rfl) (fun hc => by omega) (fun hc => by omega) ?_
            refine ld rfl (.t rfl rfl) Fx.ag24 (.s rfl) (fun hc => (hp.z (s.cell_gen hd (by omega))).rd) ?_
            refine cp rfl (.t rfl rfl) (.s rfl) (.s rfl) rfl ?_
            refine pkA rfl .no (.u rfl) (.s rfl) ?_
            refine asg rfl .no (.u rfl) ?_
            refine .nil ?_
            refine .code ?_
            refine .ret ?_
            refine We.fin0 Try.results29 (.tmp rfl .nil) ?_
            exact ⟨rfl, fits_fin c1 c2k c3 c4 c5⟩

theorem good_ok (s : State) (hd : Nat → Sh) (G : PM) (hs : StR G s hd) (m : Meta) (h0 : 0 ≤ m.level) : Ct Try.prog 33 ([s.val hd, m.val] : List Value).toArray G [] (fun _ μ' u => μ' = [] ∧ u = .bool (good s m)) := by
  refine Ct.of Try.func33 rfl Try.ntmps33 rfl fun w0 hs0 => ?_
  refine .seq ?_
  refine Wk.rg [0, 1, 2] rfl rfl ?_
  refine bx rfl (.u rfl) rfl ?_; intro b2
  refine bx rfl (.u rfl) rfl ?_; intro b3
  refine asg rfl .no (.u rfl) ?_
  refine .nil ?_
  refine .code ?_
  refine .seq ?_
  refine Wk.draw (mc := ⟨false, false⟩) [0, 1, 2, 3, 4, 5, 6, 7, 8, 9, 10, 11, 12, 13, 14, 15, 16, 17, 18, 19, 20, 21, 22, 23, 24, 25, 26, 27, 28, 29, 30, 31, 32, 33, 34, 35, 36, 37, 38, 39, 40, 41, 42, 43, 44, 45, 46, 47, 48, 49] Fx.mix (by kernel_rfl) ?_
  refine fz rfl .no Fx.fo48_0 (.u rfl) ?_
  refine ld rfl .no Fx.ag5 (.u rfl) (fun _ => Rd.own .here rfl) ?_
  refine cp rfl .no (.u rfl) (.u rfl) rfl ?_
  refine mv rfl .no (.u rfl) ?_
  refine fz rfl (.t rfl rfl) Fx.fo48_6 (.u rfl) ?_
  refine ld rfl (.t rfl rfl) Fx.ag9 (.s rfl) (fun _ => Rd.own .here rfl) ?_
  refine fz rfl (.t rfl rfl) Fx.fo48_7 (.u rfl) ?_
  refine ld rfl (.t rfl rfl) Fx.ag9 (.s rfl) (fun _ => Rd.own .here rfl) ?_
  refine cs rfl (.t rfl rfl) (.s rfl) (.s rfl) rfl ?_
  refine pkA rfl .no (.u rfl) (.s rfl) ?_
  refine mv rfl .no (.u rfl) ?_
  refine fz rfl (.t rfl rfl) Fx.fo48_6 (.u rfl) ?_
  refine ld rfl (.t rfl rfl) Fx.ag9 (.s rfl) (fun _ => Rd.own .here rfl) ?_
  refine ls rfl (.t rfl rfl) Fx.st9 (.s rfl) ?_
  refine cp rfl (.t rfl rfl) (.s rfl) (.u rfl) rfl ?_
  refine pkA rfl .no (.u rfl) (.s rfl) ?_
  refine mv rfl .no (.u rfl) ?_
  refine fz rfl (.t rfl rfl) Fx.fo48_7 (.u rfl) ?_
  refine ld rfl (.t rfl rfl) Fx.ag9 (.s rfl) (fun _ => Rd.own .here rfl) ?_
  refine ls rfl (.t rfl rfl) Fx.st9 (.s rfl) ?_
  refine cp rfl (.t rfl rfl) (.s rfl) (.u rfl) rfl ?_
  refine pkA rfl .no (.u rfl) (.s rfl) ?_
  refine mv rfl .no (.u rfl) ?_
  refine fz rfl (.t rfl rfl) Fx.fo48_5 (.u rfl) ?_
  refine ld rfl (.t rfl rfl) Fx.ag3 (.s rfl) (fun _ => Rd.own .here rfl) ?_
  refine cp rfl (.t rfl rfl) (.s rfl) (.u rfl) rfl ?_
  refine pkA rfl .no (.u rfl) (.s rfl) ?_
  refine mv rfl .no (.u rfl) ?_
  refine fz rfl (.t rfl rfl) Fx.fo48_4 (.u rfl) ?_
  refine ld rfl (.t rfl rfl) Fx.ag3 (.s rfl) (fun _ => Rd.own .here rfl) ?_
  refine cp rfl (.t rfl rfl) (.s rfl) (.u rfl) rfl ?_
  refine pkA rfl .no (.u rfl) (.s rfl) ?_
  refine mv rfl .no (.u rfl) ?_
  refine fz rfl (.t rfl rfl) Fx.fo48_3 (.u rfl) ?_
  refine ld rfl (.t rfl rfl) Fx.ag24 (.s rfl) (fun _ => Rd.own .here rfl) ?_
  refine fz rfl (.t rfl rfl) Fx.fo27_2 (.u rfl) ?_
  refine ld rfl (.t rfl rfl) Fx.ag24 (.s rfl) (fun _ => Rd.own (.there .here) rfl) ?_
  refine cp rfl (.t rfl rfl) (.s rfl) (.s rfl) rfl ?_
  refine pkA rfl .no (.u rfl) (.s rfl) ?_
  refine mv rfl .no (.u rfl) ?_
  refine fz rfl (.t rfl rfl) Fx.fo48_1 (.u rfl) ?_
  refine ld rfl (.t rfl rfl) Fx.ag24 (.s rfl) (fun _ => Rd.own .here rfl) ?_
  refine fz rfl (.t rfl rfl) Fx.fo48_0 (.u rfl) ?_
  refine ld rfl (.t rfl rfl) Fx.ag5 (.s rfl) (fun _ => Rd.own .here rfl) ?_
  refine fz rfl (.t rfl rfl) Fx.fo27_5 (.u rfl) ?_
  refine iA rfl (.t rfl rfl) Fx.ar25 (.s rfl) (.s rfl) (fun hc => by omega) (fun hc => by simp only [Bool.and_eq_true, decide_eq_true_eq] at hc; omega) ?_
  refine ld rfl (.t rfl rfl) Fx.ag24 (.s rfl) (fun hc => Rd.own (.there .here) (s.cell_gen hd (by simp only [Bool.and_eq_true, decide_eq_true_eq] at hc; omega))) ?_
  refine cp rfl (.t rfl rfl) (.s rfl) (.s rfl) rfl ?_
  refine pkA rfl .no (.u rfl) (.s rfl) ?_
  refine asg rfl .no (.u rfl) ?_
  refine .nil ?_
  refine .code ?_
  refine .ret ?_
  refine We.fin0 Try.results33 (.tmp rfl .nil) ?_
  exact ⟨rfl, rfl⟩

theorem many_ok (s : State) (hd : Nat → Sh) (G : PM) (hs : StR G s hd) : Ct Try.prog 31 ([s.val hd] : List Value).toArray G [] (fun _ μ' u => μ' = [] ∧ u = .bool (decide (1024 < tot s 5))) := by
  refine Ct.of Try.func31 rfl Try.ntmps31 rfl fun w0 hs0 => ?_
  refine .seq ?_
  refine Wk.rg [0, 1] rfl rfl ?_
  refine bx rfl (.u rfl) rfl ?_; intro b1
  refine asg rfl .no (.u rfl) ?_
  refine .nil ?_
  refine .code ?_
  refine .seq ?_
  refine Wk.rg [0] rfl rfl ?_
  refine asg rfl .no (.u rfl) ?_
  refine .nil ?_
  refine .code ?_
  refine .seq ?_
  refine .seq ?_
  refine Wk.rg [0] rfl rfl ?_
  refine asg rfl .no (.u rfl) ?_
  refine .nil ?_
  refine .code ?_
  refine .block ?_
  refine Wk.lop (α := Nat) (fun k => [(3, true, .int .i64 (1024 - tot s k)), (4, true, .int .i64 (k : Int))]) (fun _ => [])
    (fun k Gl => k ≤ 5 ∧ tot s k ≤ 1024) (fun k => 5 - k) 0 [(1, true, _)] [.blk b1 _]
    (ESub.cons rfl rfl (ESub.cons rfl rfl (ESub.cons rfl rfl ESub.nil)))
    (MSub.cons .here rfl MSub.nil) ?_ ?_
  · exact ⟨by omega, by simp [tot]⟩
  intro k N0 Gl0 hN0 hGl0 hF0
  try dsimp only at hF0 hN0 ⊢
  obtain ⟨hk, ht⟩ := hF0; have hn := tot_nonneg s k
  refine .seq ?_
  refine .seq ?_
  refine Wk.rg [0, 1] rfl rfl ?_
  refine mv rfl .no (.u rfl) ?_
  refine cp rfl .no (.u rfl) (.u rfl) rfl ?_
  refine .nil ?_
  refine .code ?_
  refine .cond rfl (fun c1 => ?_) (fun c1 => ?_)
  · have c1k := c1
    try simp only [decide_eq_true_eq, decide_eq_false_iff_not, Int.not_lt, Int.not_le, gt_iff_lt, ge_iff_le, Bool.or_eq_true, Bool.and_eq_true, Bool.or_eq_false_iff, Bool.not_eq_true', Bool.not_eq_false', Int.toNat_natCast] at c1
    refine .skip ?_
    refine .code ?_
    refine .seq ?_
    refine .block ?_
    refine .seq ?_
    refine .seq ?_
    refine Wk.rg [0, 1, 2, 3, 4, 5, 6] rfl rfl ?_
    refine mv rfl .no (.u rfl) ?_
    refine fz rfl .no Fx.fo27_0 (.u rfl) ?_
    refine iA rfl .no Fx.ar23 (.u rfl) (.u rfl) (fun _ => by omega) (fun _ => by omega) ?_
    refine ld rfl .no Fx.ag22 (.u rfl) (fun _ => Rd.own .here (s.cell_lv hd (k := k) (by omega))) ?_
    refine ln rfl .no Fx.sn22 (.u rfl) ?_
    refine mv rfl .no (.u rfl) ?_
    refine cp rfl .no (.u rfl) (.u rfl) rfl ?_
    refine .nil ?_
    refine .code ?_
    refine .cond rfl (fun c2 => ?_) (fun c2 => ?_)
    · have c2k := c2
      try simp only [decide_eq_true_eq, decide_eq_false_iff_not, Int.not_lt, Int.not_le, gt_iff_lt, ge_iff_le, Bool.or_eq_true, Bool.and_eq_true, Bool.or_eq_false_iff, Bool.not_eq_true', Bool.not_eq_false', Int.toNat_natCast] at c2
      refine .seq ?_
      refine Wk.rg [0] rfl rfl ?_
      refine asg rfl .no (.u rfl) ?_
      refine .nil ?_
      refine .code ?_
      refine .ret ?_
      refine We.fin0 Try.results31 (.tmp rfl .nil) ?_
      exact ⟨rfl, by have := tot_mono s (show k + 1 ≤ 5 by omega); rw [show tot s (k + 1) = tot s k + (s.lv k).length from rfl] at this; simp only [tup, Value.bool.injEq]; symm; rw [decide_eq_true_eq]; omega⟩
    · have c2k := c2
      try simp only [decide_eq_true_eq, decide_eq_false_iff_not, Int.not_lt, Int.not_le, gt_iff_lt, ge_iff_le, Bool.or_eq_true, Bool.and_eq_true, Bool.or_eq_false_iff, Bool.not_eq_true', Bool.not_eq_false', Int.toNat_natCast] at c2
      refine .skip ?_
      refine .code ?_
      refine Wk.rg [0, 1, 2, 3, 4, 5, 6, 7] rfl rfl ?_
      refine mv rfl .no (.u rfl) ?_
      refine mv rfl .no (.u rfl) ?_
      refine fz rfl .no Fx.fo27_0 (.u rfl) ?_
      refine iA rfl .no Fx.ar23 (.u rfl) (.u rfl) (fun _ => by omega) (fun _ => by omega) ?_
      refine ld rfl .no Fx.ag22 (.u rfl) (fun _ => Rd.own .here (s.cell_lv hd (k := k) (by omega))) ?_
      refine ln rfl .no Fx.sn22 (.u rfl) ?_
      refine ar rfl .no (.u rfl) (.u rfl) rfl (fun _ => wrap_i64 (by omega) (by omega)) ?_
      refine asg rfl .no (.u rfl) ?_
      refine .nil ?_
      refine .blk ?_
      refine .code ?_
      refine Wk.rg [0, 1, 2] rfl rfl ?_
      refine mv rfl .no (.u rfl) ?_
      refine ar rfl .no (.u rfl) (.u rfl) rfl (fun _ => wrap_i64 (by omega) (by omega)) ?_
      refine asg rfl .no (.u rfl) ?_
      refine .nil ?_
      refine We.lpo (k + 1) ?_ ?_ ?_ ?_ ?_
      · exact (ESub.cons rfl (congrArg _ (by simp only [tot]; omega)) (ESub.cons rfl rfl (ESub.cons rfl rfl ESub.nil)))
      · exact (MSub.cons .here rfl MSub.nil)
      · first | omega | (dsimp only; omega)
      · exact hGl0
      · exact ⟨by omega, by simp only [tot]; omega⟩
  · have c1k := c1
    try simp only [decide_eq_true_eq, decide_eq_false_iff_not, Int.not_lt, Int.not_le, gt_iff_lt, ge_iff_le, Bool.or_eq_true, Bool.and_eq_true, Bool.or_eq_false_iff, Bool.not_eq_true', Bool.not_eq_false', Int.toNat_natCast] at c1
    refine .exit ?_
    refine .xcode ?_
    refine .xlp ?_
    refine .xblk ?_
    refine .code ?_
    refine .seq ?_
    refine Wk.rg [0] rfl rfl ?_
    refine asg rfl .no (.u rfl) ?_
    refine .nil ?_
    refine .code ?_
    refine .ret ?_
    refine We.fin0 Try.results31 (.tmp rfl .nil) ?_
    exact ⟨rfl, by (obtain rfl : k = 5 := by omega); simp only [tup, Value.bool.injEq]; symm; rw [decide_eq_false_iff_not]; omega⟩

theorem order_ok (level : Int) (h : Sh) (l : List Meta) (G : PM) (hs : SlR G 40 Meta.cells h l) (h0 : 0 ≤ level) (hl : l.length * 112 ≤ 140737488351232) : Ct Try.prog 32 ([.int .i64 level, h.val l.length] : List Value).toArray G [] (fun _ μ' u => μ' = [] ∧ u = .bool (ordB level l)) := by
  refine Ct.of Try.func32 rfl Try.ntmps32 rfl fun w0 hs0 => ?_
  refine .seq ?_
  refine Wk.rg [0] rfl rfl ?_
  refine asg rfl .no (.u rfl) ?_
  refine .nil ?_
  refine .code ?_
  refine .seq ?_
  refine .seq ?_
  refine Wk.rg [0] rfl rfl ?_
  refine asg rfl .no (.u rfl) ?_
  refine .nil ?_
  refine .code ?_
  refine .block ?_
  refine Wk.lop (α := Nat) (fun k => [(5, true, .int .i64 (k : Int))]) (fun _ => [])
    (fun k Gl => 1 ≤ k ∧ (k ≤ l.length ∨ l.length = 0 ∧ k = 1) ∧ ∀ j, j + 1 < k → pairOk level (l.getD j Meta.zero) (l.getD (j + 1) Meta.zero) = true) (fun k => l.length - k) 1 [(0, true, _), (1, true, _)] []
    (ESub.cons rfl rfl (ESub.cons rfl rfl (ESub.cons rfl rfl ESub.nil)))
    MSub.nil ?_ ?_
  · exact ⟨by omega, by omega, fun j hj => by omega⟩
  intro k N0 Gl0 hN0 hGl0 hF0
  try dsimp only at hF0 hN0 ⊢
  obtain ⟨hk, hk2, hall⟩ := hF0
  refine .seq ?_
  refine .seq ?_
  refine Wk.rg [0, 1, 2, 3] rfl rfl ?_
  refine mv rfl .no (.u rfl) ?_
  refine mv rfl .no (.u rfl) ?_
  refine ln rfl .no Fx.sn22 (.u rfl) ?_
  refine cp rfl .no (.u rfl) (.u rfl) rfl ?_
  refine .nil ?_
  refine .code ?_
  refine .cond rfl (fun c1 => ?_) (fun c1 => ?_)
  · have c1k := c1
    try simp only [decide_eq_true_eq, decide_eq_false_iff_not, Int.not_lt, Int.not_le, gt_iff_lt, ge_iff_le, Bool.or_eq_true, Bool.and_eq_true, Bool.or_eq_false_iff, Bool.not_eq_true', Bool.not_eq_false', Int.toNat_natCast] at c1
    refine .skip ?_
    refine .code ?_
    refine .seq ?_
    refine .block ?_
    refine .seq ?_
    refine Wk.draw (mc := ⟨false, false⟩) [0, 1, 2, 3, 4, 5, 6, 7, 8, 9, 10, 11, 12, 13, 14, 15, 16, 17, 18, 19, 20, 21, 22, 23, 24, 25, 26, 27, 28, 29, 30, 31, 32, 33] Fx.mix (by kernel_rfl) ?_
    refine mv rfl .no (.u rfl) ?_
    refine cp rfl .no (.u rfl) (.u rfl) rfl ?_
    refine mv rfl .no (.u rfl) ?_
    refine mv rfl (.t rfl rfl) (.u rfl) ?_
    refine mv rfl (.t rfl rfl) (.u rfl) ?_
    refine ar rfl (.t rfl rfl) (.s rfl) (.u rfl) rfl (fun hc => wrap_i64 (by omega) (by omega)) ?_
    refine ih rfl (.t rfl rfl) Fx.se22 (.s rfl) (.s rfl) (fun hc => by omega) (fun hc => by omega) (fun hc => hs.nn (k := k) (by omega)) ?_
    refine fa rfl (.t rfl rfl) Fx.fo48_3 (.s rfl) ?_
    refine ld rfl (.t rfl rfl) Fx.ag24 (.s rfl) (fun hc => ((hs.mono hGl0).gat (k - 1) (by omega) (by omega) 3 _ rfl).rd) ?_
    refine mv rfl (.t rfl rfl) (.u rfl) ?_
    refine mv rfl (.t rfl rfl) (.u rfl) ?_
    refine ih rfl (.t rfl rfl) Fx.se22 (.s rfl) (.s rfl) (fun hc => by omega) (fun hc => by omega) (fun hc => hs.nn (k := k) (by omega)) ?_
    refine fa rfl (.t rfl rfl) Fx.fo48_3 (.s rfl) ?_
    refine ld rfl (.t rfl rfl) Fx.ag24 (.s rfl) (fun hc => ((hs.mono hGl0).gat k (by omega) (by omega) 3 _ rfl).rd) ?_
    refine cp rfl (.t rfl rfl) (.s rfl) (.s rfl) rfl ?_
    refine pkA rfl .no (.u rfl) (.s rfl) ?_
    refine mv rfl .no (.u rfl) ?_
    refine mv rfl (.f rfl rfl) (.u rfl) ?_
    refine cp rfl (.f rfl rfl) (.s rfl) (.u rfl) rfl ?_
    refine mv rfl (.f rfl rfl) (.s rfl) ?_
    refine mv rfl (.tc rfl rfl) (.u rfl) ?_
    refine mv rfl (.tc rfl rfl) (.u rfl) ?_
    refine ar rfl (.tc rfl rfl) (.s rfl) (.u rfl) rfl (fun hc => wrap_i64 (by omega) (by omega)) ?_
    refine ih rfl (.tc rfl rfl) Fx.se22 (.s rfl) (.s rfl) (fun hc => by omega) (fun hc => by omega) (fun hc => hs.nn (k := k) (by omega)) ?_
    refine fa rfl (.tc rfl rfl) Fx.fo48_7 (.s rfl) ?_
    refine ld rfl (.tc rfl rfl) Fx.ag9 (.s rfl) (fun hc => ((hs.mono hGl0).gat (k - 1) (by omega) (by omega) 7 _ rfl).rd) ?_
    refine mv rfl (.tc rfl rfl) (.u rfl) ?_
    refine mv rfl (.tc rfl rfl) (.u rfl) ?_
    refine ih rfl (.tc rfl rfl) Fx.se22 (.s rfl) (.s rfl) (fun hc => by omega) (fun hc => by omega) (fun hc => hs.nn (k := k) (by omega)) ?_
    refine fa rfl (.tc rfl rfl) Fx.fo48_6 (.s rfl) ?_
    refine ld rfl (.tc rfl rfl) Fx.ag9 (.s rfl) (fun hc => ((hs.mono hGl0).gat k (by omega) (by omega) 6 _ rfl).rd) ?_
    refine cs rfl (.tc rfl rfl) (.s rfl) (.s rfl) rfl ?_
    refine pkA rfl (.f rfl rfl) (.s rfl) (.s rfl) ?_
    refine pkO rfl .no (.u rfl) (.s rfl) ?_
    refine .nil ?_
    refine .code ?_
    refine .cond rfl (fun c2 => ?_) (fun c2 => ?_)
    · have c2k := c2
      try simp only [decide_eq_true_eq, decide_eq_false_iff_not, Int.not_lt, Int.not_le, gt_iff_lt, ge_iff_le, Bool.or_eq_true, Bool.and_eq_true, Bool.or_eq_false_iff, Bool.not_eq_true', Bool.not_eq_false', Int.toNat_natCast] at c2
      refine .seq ?_
      refine Wk.rg [0] rfl rfl ?_
      refine asg rfl .no (.u rfl) ?_
      refine .nil ?_
      refine .code ?_
      refine .ret ?_
      refine We.fin0 Try.results32 (.tmp rfl .nil) ?_
      exact ⟨rfl, ord_false hk (by omega) (by simpa using wrong_of h0 c2k)⟩
    · have c2k := c2
      try simp only [decide_eq_true_eq, decide_eq_false_iff_not, Int.not_lt, Int.not_le, gt_iff_lt, ge_iff_le, Bool.or_eq_true, Bool.and_eq_true, Bool.or_eq_false_iff, Bool.not_eq_true', Bool.not_eq_false', Int.toNat_natCast] at c2
      refine .skip ?_
      refine .blk ?_
      refine .code ?_
      refine Wk.rg [0, 1, 2] rfl rfl ?_
      refine mv rfl .no (.u rfl) ?_
      refine ar rfl .no (.u rfl) (.u rfl) rfl (fun _ => wrap_i64 (by omega) (by omega)) ?_
      refine asg rfl .no (.u rfl) ?_
      refine .nil ?_
      refine We.lpo (k + 1) ?_ ?_ ?_ ?_ ?_
      · exact (ESub.cons rfl rfl (ESub.cons rfl rfl (ESub.cons rfl rfl ESub.nil)))
      · exact MSub.nil
      · first | omega | (dsimp only; omega)
      · exact hGl0
      · exact ⟨by omega, by omega, ord_step hall hk (by simpa using wrong_of h0 c2k)⟩
  · have c1k := c1
    try simp only [decide_eq_true_eq, decide_eq_false_iff_not, Int.not_lt, Int.not_le, gt_iff_lt, ge_iff_le, Bool.or_eq_true, Bool.and_eq_true, Bool.or_eq_false_iff, Bool.not_eq_true', Bool.not_eq_false', Int.toNat_natCast] at c1
    refine .exit ?_
    refine .xcode ?_
    refine .xlp ?_
    refine .xblk ?_
    refine .code ?_
    refine .seq ?_
    refine Wk.rg [0] rfl rfl ?_
    refine asg rfl .no (.u rfl) ?_
    refine .nil ?_
    refine .code ?_
    refine .ret ?_
    refine We.fin0 Try.results32 (.tmp rfl .nil) ?_
    exact ⟨rfl, ord_true (by omega) hall⟩

theorem all_ok (s : State) (hd : Nat → Sh) (G : PM) (hs : StR G s hd) (hf : tot s 5 ≤ 1024) : Ct Try.prog 34 ([s.val hd] : List Value).toArray G [] (fun G' μ' u => μ' = [] ∧ ∃ h : Sh, u = h.val (allM s 5).length ∧ SlR G' 40 Meta.cells h (allM s 5)) := by
  refine Ct.of Try.func34 rfl Try.ntmps34 rfl fun w0 hs0 => ?_
  refine .seq ?_
  refine Wk.rg [0, 1] rfl rfl ?_
  refine bx rfl (.u rfl) rfl ?_; intro b1
  refine asg rfl .no (.u rfl) ?_
  refine .nil ?_
  refine .code ?_
  refine .seq ?_
  refine Wk.rg [0] rfl rfl ?_
  refine asg rfl .no (.u rfl) ?_
  refine .nil ?_
  refine .code ?_
  refine .seq ?_
  refine .seq ?_
  refine Wk.rg [0] rfl rfl ?_
  refine asg rfl .no (.u rfl) ?_
  refine .nil ?_
  refine .code ?_
  refine .block ?_
  refine wk_nilRow 48 40 ?_
  refine Wk.lop (α := Nat × Value) (fun gh => [(3, true, gh.2), (4, true, .int .i64 (gh.1 : Int))]) (fun gh => [.row gh.2 48 40 (allM s gh.1).length ((allM s gh.1).flatMap Meta.cells)])
    (fun gh Gl => gh.1 ≤ 5) (fun gh => 5 - gh.1) (0, .slice none 0 0) [(1, true, _)] [.blk b1 _]
    (ESub.cons rfl rfl (ESub.cons rfl rfl (ESub.cons rfl rfl ESub.nil)))
    (MSub.cons .here rfl (MSub.cons .here rfl MSub.nil)) ?_ ?_
  · show 0 ≤ 5; omega
  intro gh N0 Gl0 hN0 hGl0 hF0
  obtain ⟨k, v⟩ := gh; dsimp only at hF0 hN0 ⊢
  have hk : k ≤ 5 := hF0; have hn := tot_mono s (show k ≤ 5 by omega); have hal := allM_len s k
  refine .seq ?_
  refine .seq ?_
  refine Wk.rg [0, 1] rfl rfl ?_
  refine mv rfl .no (.u rfl) ?_
  refine cp rfl .no (.u rfl) (.u rfl) rfl ?_
  refine .nil ?_
  refine .code ?_
  refine .cond rfl (fun c1 => ?_) (fun c1 => ?_)
  · have c1k := c1
    try simp only [decide_eq_true_eq, decide_eq_false_iff_not, Int.not_lt, Int.not_le, gt_iff_lt, ge_iff_le, Bool.or_eq_true, Bool.and_eq_true, Bool.or_eq_false_iff, Bool.not_eq_true', Bool.not_eq_false', Int.toNat_natCast] at c1
    refine .skip ?_
    refine .code ?_
    refine .seq ?_
    refine .block ?_
    refine Wk.rg [0, 1, 2, 3, 4, 5, 6] rfl rfl ?_
    have hn1 := tot_mono s (show k + 1 ≤ 5 by omega); rw [show tot s (k + 1) = tot s k + (s.lv k).length from rfl] at hn1
    refine mv rfl .no (.u rfl) ?_
    refine mv rfl .no (.u rfl) ?_
    refine fz rfl .no Fx.fo27_0 (.u rfl) ?_
    refine iA rfl .no Fx.ar23 (.u rfl) (.u rfl) (fun _ => by omega) (fun _ => by omega) ?_
    refine ld rfl .no Fx.ag22 (.u rfl) (fun _ => Rd.own (.there .here) (s.cell_lv hd (k := k) (by omega))) ?_
    refine ap rfl Fx.se22 Fx.zv48 rfl (.u rfl) (.u rfl) .here (flat_len (metas_len _)) (fun h => ⟨_, _, (hs.lv k (by omega)).nn h, ((hs.lv k (by omega)).mono hGl0 |>.flat (metas_len _)).rd⟩) (metas_one _) (by omega) (by unfold maxLen; omega) ?_; intro v14
    refine asg rfl .no (.u rfl) ?_
    refine .nil ?_
    refine .blk ?_
    refine .code ?_
    refine Wk.rg [0, 1, 2] rfl rfl ?_
    refine mv rfl .no (.u rfl) ?_
    refine ar rfl .no (.u rfl) (.u rfl) rfl (fun _ => wrap_i64 (by omega) (by omega)) ?_
    refine asg rfl .no (.u rfl) ?_
    refine .nil ?_
    refine We.lpo (k + 1, v14) ?_ ?_ ?_ ?_ ?_
    · exact (ESub.cons rfl rfl (ESub.cons rfl rfl (ESub.cons rfl rfl ESub.nil)))
    · exact (MSub.cons .here (allM_row s k _ _) (MSub.cons .here rfl MSub.nil))
    · first | omega | (dsimp only; omega)
    · exact hGl0
    · show k + 1 ≤ 5; omega
  · have c1k := c1
    try simp only [decide_eq_true_eq, decide_eq_false_iff_not, Int.not_lt, Int.not_le, gt_iff_lt, ge_iff_le, Bool.or_eq_true, Bool.and_eq_true, Bool.or_eq_false_iff, Bool.not_eq_true', Bool.not_eq_false', Int.toNat_natCast] at c1
    refine .exit ?_
    refine .xcode ?_
    refine .xlp ?_
    refine .xblk ?_
    refine .code ?_
    refine .seq ?_
    refine Wk.rg [0, 1] rfl rfl ?_
    refine mv rfl .no (.u rfl) ?_
    refine asg rfl .no (.u rfl) ?_
    refine .nil ?_
    refine .code ?_
    refine .ret ?_
    refine we_fr .here (fun b hb => by cases hb) ?_
    intro Gf hh hlef hv hcap hnn hrd; subst hv
    refine We.fin0 Try.results34 (.tmp rfl .nil) ?_
    obtain rfl : k = 5 := by omega
    exact ⟨rfl, hh, rfl, SlR.ofRow (metas_len _) hcap hnn hrd⟩

end Go.Proofs.Ytnhdaaggkdegpaa

namespace Go.Proofs.Ytnhdaaggkdegpaa
set_option linter.unusedSimpArgs false
set_option linter.unusedVariables false
open Go.Tan Go.RowKit

namespace Fx
theorem fo27_3 : fOff Try.prog 27 3 = some 7 := by kernel_rfl
theorem fo27_4 : fOff Try.prog 27 4 = some 8 := by kernel_rfl
theorem fo27_1 : fOff Try.prog 27 1 = some 5 := by kernel_rfl
theorem ag27 : aggN Try.prog 27 = some (some 14) := by kernel_rfl
theorem go31 : goFn Try.prog 31 = true := by kernel_rfl
theorem go32 : goFn Try.prog 32 = true := by kernel_rfl
theorem cv5_3 : cvK Try.prog 5 3 = some .i64 := by kernel_rfl
theorem ag48 : aggN Try.prog 48 = some (some 40) := by kernel_rfl
theorem go33 : goFn Try.prog 33 = true := by kernel_rfl
theorem go34 : goFn Try.prog 34 = true := by kernel_rfl
theorem ag23 : aggN Try.prog 23 = some (some 5) := by kernel_rfl
theorem zr48 : zrL Try.prog 48 = some (Meta.zero.cells) := by kernel_rfl
theorem sz48 : szT Try.prog 48 = some 40 := by kernel_rfl
theorem mp58 : mpE Try.prog 58 = some (.u64, 3) := by kernel_rfl
theorem zv3 : (Try.prog.info? 3).bind (·.zero) = some (.int .i64 0) := by kernel_rfl
theorem go29 : goFn Try.prog 29 = true := by kernel_rfl
theorem go30 : goFn Try.prog 30 = true := by kernel_rfl
end Fx
set_option maxHeartbeats 1000000 in
theorem rRight_ok (s : State) (hd : Nat → Sh) (G : PM) (hs : StR G s hd) : Ct Try.prog 13 ([s.val hd] : List Value).toArray G [] (fun _ μ' u => μ' = [] ∧ u = .bool (rightS s)) := by
  refine Ct.of Try.func13 rfl Try.ntmps13 rfl fun w0 hs0 => ?_
  refine .seq ?_
  refine Wk.rg [0, 1] rfl rfl ?_
  refine bx rfl (.u rfl) rfl ?_; intro b1
  refine asg rfl .no (.u rfl) ?_
  refine .nil ?_
  refine .code ?_
  refine .seq ?_
  refine .seq ?_
  refine Wk.rg [0, 1, 2, 3, 4, 5, 6, 7, 8, 9, 10, 11, 12, 13, 14, 15, 16, 17, 18] rfl rfl ?_
  refine fz rfl .no Fx.fo27_3 (.u rfl) ?_
  refine ld rfl .no Fx.ag24 (.u rfl) (fun _ => Rd.own .here rfl) ?_
  refine cp rfl .no (.u rfl) (.u rfl) rfl ?_
  refine mv rfl .no (.u rfl) ?_
  refine fz rfl (.f rfl rfl) Fx.fo27_4 (.u rfl) ?_
  refine ld rfl (.f rfl rfl) Fx.ag24 (.s rfl) (fun _ => Rd.own .here rfl) ?_
  refine cp rfl (.f rfl rfl) (.s rfl) (.u rfl) rfl ?_
  refine pkO rfl .no (.u rfl) (.s rfl) ?_
  refine mv rfl .no (.u rfl) ?_
  refine fz rfl (.f rfl rfl) Fx.fo27_1 (.u rfl) ?_
  refine ld rfl (.f rfl rfl) Fx.ag24 (.s rfl) (fun _ => Rd.own .here rfl) ?_
  refine fz rfl (.f rfl rfl) Fx.fo27_2 (.u rfl) ?_
  refine ld rfl (.f rfl rfl) Fx.ag24 (.s rfl) (fun _ => Rd.own .here rfl) ?_
  refine cp rfl (.f rfl rfl) (.s rfl) (.s rfl) rfl ?_
  refine pkO rfl .no (.u rfl) (.s rfl) ?_
  refine mv rfl .no (.u rfl) ?_
  refine lA rfl (.f rfl rfl) Fx.ag27 (.u rfl) (fun _ => RdN.own .here) (fun _ => rfl) ?_
  refine kv rfl (.f rfl rfl) Fx.go31 (Eva.cons (.s rfl) Eva.nil) (fun hc => many_ok _ _ _ (by assumption)) ?_
  refine pkO rfl .no (.u rfl) (.s rfl) ?_
  refine .nil ?_
  refine .code ?_
  refine .cond rfl (fun c1 => ?_) (fun c1 => ?_)
  · have c1k := c1
    try simp only [decide_eq_true_eq, decide_eq_false_iff_not, Int.not_lt, Int.not_le, gt_iff_lt, ge_iff_le, Bool.or_eq_true, Bool.and_eq_true, Bool.or_eq_false_iff, Bool.not_eq_true', Bool.not_eq_false', Int.toNat_natCast] at c1
    refine .seq ?_
    refine Wk.rg [0] rfl rfl ?_
    refine asg rfl .no (.u rfl) ?_
    refine .nil ?_
    refine .code ?_
    refine .ret ?_
    refine We.fin0 Try.results13 (.tmp rfl .nil) ?_
    exact ⟨rfl, fin_false (rs_head c1)⟩
  · have c1k := c1
    try simp only [decide_eq_true_eq, decide_eq_false_iff_not, Int.not_lt, Int.not_le, gt_iff_lt, ge_iff_le, Bool.or_eq_true, Bool.and_eq_true, Bool.or_eq_false_iff, Bool.not_eq_true', Bool.not_eq_false', Int.toNat_natCast] at c1
    refine .skip ?_
    refine .code ?_
    refine .seq ?_
    refine .seq ?_
    refine Wk.rg [0] rfl rfl ?_
    refine asg rfl .no (.u rfl) ?_
    refine .nil ?_
    refine .code ?_
    refine .block ?_
    refine Wk.lop (α := Nat) (fun i => [(3, true, .int .i64 (i : Int))]) (fun _ => [])
      (fun i Gl => i ≤ 5 ∧ ∀ j, j < i → LvOk s j (s.lv j)) (fun i => 5 - i) 0 [(1, true, _)] [.blk b1 _]
      (ESub.cons rfl rfl (ESub.cons rfl rfl ESub.nil))
      (MSub.cons .here rfl MSub.nil) ?_ ?_
    · exact ⟨by omega, fun j hj => by omega⟩
    intro i N0 Gl0 hN0 hGl0 hF0
    try dsimp only at hF0 hN0 ⊢
    obtain ⟨hi, hall⟩ := hF0
    refine .seq ?_
    refine .seq ?_
    refine Wk.rg [0, 1] rfl rfl ?_
    refine mv rfl .no (.u rfl) ?_
    refine cp rfl .no (.u rfl) (.u rfl) rfl ?_
    refine .nil ?_
    refine .code ?_
    refine .cond rfl (fun c2 => ?_) (fun c2 => ?_)
    · have c2k := c2
      try simp only [decide_eq_true_eq, decide_eq_false_iff_not, Int.not_lt, Int.not_le, gt_iff_lt, ge_iff_le, Bool.or_eq_true, Bool.and_eq_true, Bool.or_eq_false_iff, Bool.not_eq_true', Bool.not_eq_false', Int.toNat_natCast] at c2
      refine .skip ?_
      refine .code ?_
      refine .seq ?_
      refine .block ?_
      refine .seq ?_
      refine .seq ?_
      refine Wk.rg [0, 1, 2, 3, 4, 5, 6] rfl rfl ?_
      have hli := hs.len i (by omega)
      refine mv rfl .no (.u rfl) ?_
      refine mv rfl .no (.u rfl) ?_
      refine fz rfl .no Fx.fo27_0 (.u rfl) ?_
      refine iA rfl .no Fx.ar23 (.u rfl) (.u rfl) (fun _ => by omega) (fun _ => by omega) ?_
      refine ld rfl .no Fx.ag22 (.u rfl) (fun _ => Rd.own .here (s.cell_lv hd (k := i) (by omega))) ?_
      refine kv rfl .no Fx.go32 (Eva.cons (.u rfl) (Eva.cons (.u rfl) Eva.nil)) (fun _ => order_ok _ _ _ _ ((hs.mono hGl0).lv i (by omega)) (by omega) hli) ?_
      refine nt rfl .no (.u rfl) ?_
      refine .nil ?_
      refine .code ?_
      refine .cond rfl (fun c3 => ?_) (fun c3 => ?_)
      · have c3k := c3
        try simp only [decide_eq_true_eq, decide_eq_false_iff_not, Int.not_lt, Int.not_le, gt_iff_lt, ge_iff_le, Bool.or_eq_true, Bool.and_eq_true, Bool.or_eq_false_iff, Bool.not_eq_true', Bool.not_eq_false', Int.toNat_natCast] at c3
        refine .seq ?_
        refine Wk.rg [0] rfl rfl ?_
        refine asg rfl .no (.u rfl) ?_
        refine .nil ?_
        refine .code ?_
        refine .ret ?_
        refine We.fin0 Try.results13 (.tmp rfl .nil) ?_
        exact ⟨rfl, fin_false (rs_ord (by omega) c3)⟩
      · have c3k := c3
        try simp only [decide_eq_true_eq, decide_eq_false_iff_not, Int.not_lt, Int.not_le, gt_iff_lt, ge_iff_le, Bool.or_eq_true, Bool.and_eq_true, Bool.or_eq_false_iff, Bool.not_eq_true', Bool.not_eq_false', Int.toNat_natCast] at c3
        refine .skip ?_
        refine .code ?_
        refine .seq ?_
        refine Wk.rg [0] rfl rfl ?_
        refine asg rfl .no (.u rfl) ?_
        refine .nil ?_
        refine .code ?_
        refine .block ?_
        refine Wk.lop (α := Nat) (fun k => [(4, true, .int .i64 (k : Int))]) (fun _ => [])
          (fun k Gl => k ≤ (s.lv i).length ∧ ∀ j, j < k → ((s.lv i).getD j Meta.zero).level = i ∧ good s ((s.lv i).getD j Meta.zero) = true) (fun k => (s.lv i).length - k) 0 [(1, true, _), (3, true, _)] [.blk b1 _]
          (ESub.cons rfl rfl (ESub.cons rfl rfl (ESub.cons rfl rfl ESub.nil)))
          (MSub.cons .here rfl MSub.nil) ?_ ?_
        · exact ⟨by omega, fun j hj => by omega⟩
        intro k N1 Gl1 hN1 hGl1 hF1
        try dsimp only at hF1 hN1 ⊢
        obtain ⟨hk, hgood⟩ := hF1
        refine .seq ?_
        refine .seq ?_
        refine Wk.rg [0, 1, 2, 3, 4, 5, 6] rfl rfl ?_
        refine mv rfl .no (.u rfl) ?_
        refine mv rfl .no (.u rfl) ?_
        refine fz rfl .no Fx.fo27_0 (.u rfl) ?_
        refine iA rfl .no Fx.ar23 (.u rfl) (.u rfl) (fun _ => by omega) (fun _ => by omega) ?_
        refine ld rfl .no Fx.ag22 (.u rfl) (fun _ => Rd.own .here (s.cell_lv hd (k := i) (by omega))) ?_
        refine ln rfl .no Fx.sn22 (.u rfl) ?_
        refine cp rfl .no (.u rfl) (.u rfl) rfl ?_
        refine .nil ?_
        refine .code ?_
        refine .cond rfl (fun c4 => ?_) (fun c4 => ?_)
        · have c4k := c4
          try simp only [decide_eq_true_eq, decide_eq_false_iff_not, Int.not_lt, Int.not_le, gt_iff_lt, ge_iff_le, Bool.or_eq_true, Bool.and_eq_true, Bool.or_eq_false_iff, Bool.not_eq_true', Bool.not_eq_false', Int.toNat_natCast] at c4
          refine .skip ?_
          refine .code ?_
          refine .seq ?_
          refine .block ?_
          refine .seq ?_
          refine Wk.draw (mc := ⟨false, false⟩) [0, 1, 2, 3, 4, 5, 6, 7, 8, 9, 10, 11, 12, 13, 14, 15, 16, 17, 18, 19, 20, 21, 22] Fx.mix (by kernel_rfl) ?_
          have hwf := (hs.wf i (by omega) _ (getD_mem (k := k) (by omega))).level
          refine mv rfl .no (.u rfl) ?_
          refine fz rfl .no Fx.fo27_0 (.u rfl) ?_
          refine iA rfl .no Fx.ar23 (.u rfl) (.u rfl) (fun _ => by omega) (fun _ => by omega) ?_
          refine ld rfl .no Fx.ag22 (.u rfl) (fun _ => Rd.own .here (s.cell_lv hd (k := i) (by omega))) ?_
          refine mv rfl .no (.u rfl) ?_
          refine ih rfl .no Fx.se22 (.u rfl) (.u rfl) (fun _ => by omega) (fun _ => by omega) (fun _ => (hs.lv i (by omega)).nn (k := k) (by omega)) ?_
          refine fa rfl .no Fx.fo48_0 (.u rfl) ?_
          refine ld rfl .no Fx.ag5 (.u rfl) (fun _ => ((((hs.mono hGl0).mono hGl1).lv i (by omega)).gat k (by omega) (by omega) 0 _ rfl).rd) ?_
          refine cw rfl .no Fx.cv5_3 (.u rfl) (fun _ => wrap_i64 (by omega) (by omega)) ?_
          refine mv rfl .no (.u rfl) ?_
          refine cp rfl .no (.u rfl) (.u rfl) rfl ?_
          refine mv rfl .no (.u rfl) ?_
          refine lA rfl (.f rfl rfl) Fx.ag27 (.u rfl) (fun _ => RdN.own .here) (fun _ => rfl) ?_
          refine mv rfl (.f rfl rfl) (.u rfl) ?_
          refine fz rfl (.f rfl rfl) Fx.fo27_0 (.u rfl) ?_
          refine iA rfl (.f rfl rfl) Fx.ar23 (.s rfl) (.s rfl) (fun hc => by omega) (fun hc => by omega) ?_
          refine ld rfl (.f rfl rfl) Fx.ag22 (.s rfl) (fun hc => Rd.own .here (s.cell_lv hd (k := i) (by omega))) ?_
          refine mv rfl (.f rfl rfl) (.u rfl) ?_
          refine ih rfl (.f rfl rfl) Fx.se22 (.s rfl) (.s rfl) (fun hc => by omega) (fun hc => by omega) (fun hc => (hs.lv i (by omega)).nn (k := k) (by omega)) ?_
          refine lA rfl (.f rfl rfl) Fx.ag48 (.s rfl) (fun hc => ((((hs.mono hGl0).mono hGl1).lv i (by omega)).gat k (by omega) (by omega)).rd) (fun _ => rfl) ?_
          refine kv rfl (.f rfl rfl) Fx.go33 (Eva.cons (.s rfl) (Eva.cons (.s rfl) Eva.nil)) (fun hc => good_ok _ _ _ ((hs.mono hGl0).mono hGl1) _ hwf.1) ?_
          refine nt rfl (.f rfl rfl) (.s rfl) ?_
          refine pkO rfl .no (.u rfl) (.s rfl) ?_
          refine .nil ?_
          refine .code ?_
          refine .cond rfl (fun c5 => ?_) (fun c5 => ?_)
          · have c5k := c5
            try simp only [decide_eq_true_eq, decide_eq_false_iff_not, Int.not_lt, Int.not_le, gt_iff_lt, ge_iff_le, Bool.or_eq_true, Bool.and_eq_true, Bool.or_eq_false_iff, Bool.not_eq_true', Bool.not_eq_false', Int.toNat_natCast] at c5
            refine .seq ?_
            refine Wk.rg [0] rfl rfl ?_
            refine asg rfl .no (.u rfl) ?_
            refine .nil ?_
            refine .code ?_
            refine .ret ?_
            refine We.fin0 Try.results13 (.tmp rfl .nil) ?_
            exact ⟨rfl, fin_false (rs_good (by omega) (by omega) c5)⟩
          · have c5k := c5
            try simp only [decide_eq_true_eq, decide_eq_false_iff_not, Int.not_lt, Int.not_le, gt_iff_lt, ge_iff_le, Bool.or_eq_true, Bool.and_eq_true, Bool.or_eq_false_iff, Bool.not_eq_true', Bool.not_eq_false', Int.toNat_natCast] at c5
            refine .skip ?_
            refine .blk ?_
            refine .code ?_
            refine Wk.rg [0, 1, 2] rfl rfl ?_
            refine mv rfl .no (.u rfl) ?_
            refine ar rfl .no (.u rfl) (.u rfl) rfl (fun _ => wrap_i64 (by omega) (by omega)) ?_
            refine asg rfl .no (.u rfl) ?_
            refine .nil ?_
            refine We.lpo (k + 1) ?_ ?_ ?_ ?_ ?_
            · exact (ESub.cons rfl rfl (ESub.cons rfl rfl (ESub.cons rfl rfl ESub.nil)))
            · exact (MSub.cons .here rfl MSub.nil)
            · first | omega | (dsimp only; omega)
            · exact hGl1
            · exact ⟨by omega, good_step hgood c5⟩
        · have c4k := c4
          try simp only [decide_eq_true_eq, decide_eq_false_iff_not, Int.not_lt, Int.not_le, gt_iff_lt, ge_iff_le, Bool.or_eq_true, Bool.and_eq_true, Bool.or_eq_false_iff, Bool.not_eq_true', Bool.not_eq_false', Int.toNat_natCast] at c4
          refine .exit ?_
          refine .xcode ?_
          refine .xlp ?_
          refine .xblk ?_
          refine .blk ?_
          refine .code ?_
          refine Wk.rg [0, 1, 2] rfl rfl ?_
          refine mv rfl .no (.u rfl) ?_
          refine ar rfl .no (.u rfl) (.u rfl) rfl (fun _ => wrap_i64 (by omega) (by omega)) ?_
          refine asg rfl .no (.u rfl) ?_
          refine .nil ?_
          refine We.lpo (i + 1) ?_ ?_ ?_ ?_ ?_
          · exact (ESub.cons rfl rfl (ESub.cons rfl rfl ESub.nil))
          · exact (MSub.cons .here rfl MSub.nil)
          · first | omega | (dsimp only; omega)
          · exact hGl0.trans hGl1
          · exact ⟨by omega, lv_step hall c3 (by omega) hgood⟩
    · have c2k := c2
      try simp only [decide_eq_true_eq, decide_eq_false_iff_not, Int.not_lt, Int.not_le, gt_iff_lt, ge_iff_le, Bool.or_eq_true, Bool.and_eq_true, Bool.or_eq_false_iff, Bool.not_eq_true', Bool.not_eq_false', Int.toNat_natCast] at c2
      refine .exit ?_
      refine .xcode ?_
      refine .xlp ?_
      refine .xblk ?_
      refine .code ?_
      refine .seq ?_
      refine Wk.rg [0, 1, 2] rfl rfl ?_
      refine lA rfl .no Fx.ag27 (.u rfl) (fun _ => RdN.own .here) (fun _ => rfl) ?_
      refine kc rfl Fx.go34 (Eva.cons (.u rfl) Eva.nil) (all_ok _ _ _ (hs.mono hGl0) c1.2) ?_
      rintro v Ga μa hGa ⟨rfl, ha, rfl, hsa⟩
      refine asg rfl .no (.u rfl) ?_
      refine .nil ?_
      refine .code ?_
      refine .seq ?_
      refine .seq ?_
      refine Wk.rg [0] rfl rfl ?_
      have hal := allM_len s 5
      refine asg rfl .no (.u rfl) ?_
      refine .nil ?_
      refine .code ?_
      refine .block ?_
      refine Wk.lop (α := Nat) (fun p => [(6, true, .int .i64 (p : Int))]) (fun _ => [])
        (fun p Gl => p ≤ (allM s 5).length ∧ ∀ a b, a < p → b < a → ((allM s 5).getD a Meta.zero).number ≠ ((allM s 5).getD b Meta.zero).number) (fun p => (allM s 5).length - p) 0 [(5, true, _)] [.blk b1 _]
        (ESub.cons rfl rfl (ESub.cons rfl rfl ESub.nil))
        (MSub.cons .here rfl MSub.nil) ?_ ?_
      · exact ⟨by omega, fun a b ha hb => by omega⟩
      intro p N2 Gl2 hN2 hGl2 hF2
      try dsimp only at hF2 hN2 ⊢
      obtain ⟨hp, hpn⟩ := hF2
      refine .seq ?_
      refine .seq ?_
      refine Wk.rg [0, 1, 2, 3] rfl rfl ?_
      refine mv rfl .no (.u rfl) ?_
      refine mv rfl .no (.u rfl) ?_
      refine ln rfl .no Fx.sn22 (.u rfl) ?_
      refine cp rfl .no (.u rfl) (.u rfl) rfl ?_
      refine .nil ?_
      refine .code ?_
      refine .cond rfl (fun c6 => ?_) (fun c6 => ?_)
      · have c6k := c6
        try simp only [decide_eq_true_eq, decide_eq_false_iff_not, Int.not_lt, Int.not_le, gt_iff_lt, ge_iff_le, Bool.or_eq_true, Bool.and_eq_true, Bool.or_eq_false_iff, Bool.not_eq_true', Bool.not_eq_false', Int.toNat_natCast] at c6
        refine .skip ?_
        refine .code ?_
        refine .seq ?_
        refine .block ?_
        refine .seq ?_
        refine Wk.rg [0] rfl rfl ?_
        refine asg rfl .no (.u rfl) ?_
        refine .nil ?_
        refine .code ?_
        refine .block ?_
        refine Wk.lop (α := Nat) (fun q => [(7, true, .int .i64 (q : Int))]) (fun _ => [])
          (fun q Gl => q ≤ p ∧ ∀ b, b < q → ((allM s 5).getD p Meta.zero).number ≠ ((allM s 5).getD b Meta.zero).number) (fun q => p - q) 0 [(5, true, _), (6, true, _)] [.blk b1 _]
          (ESub.cons rfl rfl (ESub.cons rfl rfl (ESub.cons rfl rfl ESub.nil)))
          (MSub.cons .here rfl MSub.nil) ?_ ?_
        · exact ⟨by omega, fun b hb => by omega⟩
        intro q N3 Gl3 hN3 hGl3 hF3
        try dsimp only at hF3 hN3 ⊢
        obtain ⟨hq, hqn⟩ := hF3
        refine .seq ?_
        refine .seq ?_
        refine Wk.rg [0, 1, 2] rfl rfl ?_
        refine mv rfl .no (.u rfl) ?_
        refine mv rfl .no (.u rfl) ?_
        refine cp rfl .no (.u rfl) (.u rfl) rfl ?_
        refine .nil ?_
        refine .code ?_
        refine .cond rfl (fun c7 => ?_) (fun c7 => ?_)
        · have c7k := c7
          try simp only [decide_eq_true_eq, decide_eq_false_iff_not, Int.not_lt, Int.not_le, gt_iff_lt, ge_iff_le, Bool.or_eq_true, Bool.and_eq_true, Bool.or_eq_false_iff, Bool.not_eq_true', Bool.not_eq_false', Int.toNat_natCast] at c7
          refine .skip ?_
          refine .code ?_
          refine .seq ?_
          refine .block ?_
          refine .seq ?_
          refine Wk.draw (mc := ⟨false, false⟩) [0, 1, 2, 3, 4, 5, 6, 7, 8, 9, 10] Fx.mix (by kernel_rfl) ?_
          refine mv rfl .no (.u rfl) ?_
          refine mv rfl .no (.u rfl) ?_
          refine ih rfl .no Fx.se22 (.u rfl) (.u rfl) (fun _ => by omega) (fun _ => by omega) (fun _ => hsa.nn (k := p) (by omega)) ?_
          refine fa rfl .no Fx.fo48_3 (.u rfl) ?_
          refine ld rfl .no Fx.ag24 (.u rfl) (fun _ => (((hsa.mono hGl2).mono hGl3).gat p (by omega) (by omega) 3 _ rfl).rd) ?_
          refine mv rfl .no (.u rfl) ?_
          refine mv rfl .no (.u rfl) ?_
          refine ih rfl .no Fx.se22 (.u rfl) (.u rfl) (fun _ => by omega) (fun _ => by omega) (fun _ => hsa.nn (k := q) (by omega)) ?_
          refine fa rfl .no Fx.fo48_3 (.u rfl) ?_
          refine ld rfl .no Fx.ag24 (.u rfl) (fun _ => (((hsa.mono hGl2).mono hGl3).gat q (by omega) (by omega) 3 _ rfl).rd) ?_
          refine cp rfl .no (.u rfl) (.u rfl) rfl ?_
          refine .nil ?_
          refine .code ?_
          refine .cond rfl (fun c8 => ?_) (fun c8 => ?_)
          · have c8k := c8
            try simp only [decide_eq_true_eq, decide_eq_false_iff_not, Int.not_lt, Int.not_le, gt_iff_lt, ge_iff_le, Bool.or_eq_true, Bool.and_eq_true, Bool.or_eq_false_iff, Bool.not_eq_true', Bool.not_eq_false', Int.toNat_natCast] at c8
            refine .seq ?_
            refine Wk.rg [0] rfl rfl ?_
            refine asg rfl .no (.u rfl) ?_
            refine .nil ?_
            refine .code ?_
            refine .ret ?_
            refine We.fin0 Try.results13 (.tmp rfl .nil) ?_
            exact ⟨rfl, fin_false (rs_num (by omega) (by omega) c8k)⟩
          · have c8k := c8
            try simp only [decide_eq_true_eq, decide_eq_false_iff_not, Int.not_lt, Int.not_le, gt_iff_lt, ge_iff_le, Bool.or_eq_true, Bool.and_eq_true, Bool.or_eq_false_iff, Bool.not_eq_true', Bool.not_eq_false', Int.toNat_natCast] at c8
            refine .skip ?_
            refine .blk ?_
            refine .code ?_
            refine Wk.rg [0, 1, 2] rfl rfl ?_
            refine mv rfl .no (.u rfl) ?_
            refine ar rfl .no (.u rfl) (.u rfl) rfl (fun _ => wrap_i64 (by omega) (by omega)) ?_
            refine asg rfl .no (.u rfl) ?_
            refine .nil ?_
            refine We.lpo (q + 1) ?_ ?_ ?_ ?_ ?_
            · exact (ESub.cons rfl rfl (ESub.cons rfl rfl (ESub.cons rfl rfl ESub.nil)))
            · exact (MSub.cons .here rfl MSub.nil)
            · first | omega | (dsimp only; omega)
            · exact hGl3
            · exact ⟨by omega, num_step1 hqn c8k⟩
        · have c7k := c7
          try simp only [decide_eq_true_eq, decide_eq_false_iff_not, Int.not_lt, Int.not_le, gt_iff_lt, ge_iff_le, Bool.or_eq_true, Bool.and_eq_true, Bool.or_eq_false_iff, Bool.not_eq_true', Bool.not_eq_false', Int.toNat_natCast] at c7
          refine .exit ?_
          refine .xcode ?_
          refine .xlp ?_
          refine .xblk ?_
          refine .blk ?_
          refine .code ?_
          refine Wk.rg [0, 1, 2] rfl rfl ?_
          refine mv rfl .no (.u rfl) ?_
          refine ar rfl .no (.u rfl) (.u rfl) rfl (fun _ => wrap_i64 (by omega) (by omega)) ?_
          refine asg rfl .no (.u rfl) ?_
          refine .nil ?_
          refine We.lpo (p + 1) ?_ ?_ ?_ ?_ ?_
          · exact (ESub.cons rfl rfl (ESub.cons rfl rfl ESub.nil))
          · exact (MSub.cons .here rfl MSub.nil)
          · first | omega | (dsimp only; omega)
          · exact hGl2.trans hGl3
          · exact ⟨by omega, num_step hpn (by omega) hqn⟩
      · have c6k := c6
        try simp only [decide_eq_true_eq, decide_eq_false_iff_not, Int.not_lt, Int.not_le, gt_iff_lt, ge_iff_le, Bool.or_eq_true, Bool.and_eq_true, Bool.or_eq_false_iff, Bool.not_eq_true', Bool.not_eq_false', Int.toNat_natCast] at c6
        refine .exit ?_
        refine .xcode ?_
        refine .xlp ?_
        refine .xblk ?_
        refine .code ?_
        refine .seq ?_
        refine Wk.rg [0] rfl rfl ?_
        refine asg rfl .no (.u rfl) ?_
        refine .nil ?_
        refine .code ?_
        refine .ret ?_
        refine We.fin0 Try.results13 (.tmp rfl .nil) ?_
        exact ⟨rfl, fin_true (rs_all c1 (by omega) hall (by omega) hpn)⟩

set_option maxHeartbeats 1000000 in
theorem vRight_ok (s : State) (hd : Nat → Sh) (G : PM) (hs : StR G s hd) : Ct Try.prog 12 ([s.val hd] : List Value).toArray G [] (fun _ μ' u => μ' = [] ∧ u = .bool (rightS s)) := by
  refine Ct.of Try.func12 rfl Try.ntmps12 rfl fun w0 hs0 => ?_
  refine .seq ?_
  refine Wk.rg [0, 1] rfl rfl ?_
  refine bx rfl (.u rfl) rfl ?_; intro b1
  refine asg rfl .no (.u rfl) ?_
  refine .nil ?_
  refine .code ?_
  refine .seq ?_
  refine .seq ?_
  refine Wk.rg [0, 1, 2, 3, 4, 5, 6, 7, 8, 9, 10, 11, 12] rfl rfl ?_
  refine fz rfl .no Fx.fo27_3 (.u rfl) ?_
  refine ld rfl .no Fx.ag24 (.u rfl) (fun _ => Rd.own .here rfl) ?_
  refine fz rfl .no Fx.fo27_4 (.u rfl) ?_
  refine ld rfl .no Fx.ag24 (.u rfl) (fun _ => Rd.own .here rfl) ?_
  refine mA rfl .no (.u rfl) (.u rfl) ?_
  refine cp rfl .no (.u rfl) (.u rfl) rfl ?_
  refine mv rfl .no (.u rfl) ?_
  refine fz rfl (.f rfl rfl) Fx.fo27_1 (.u rfl) ?_
  refine ld rfl (.f rfl rfl) Fx.ag24 (.s rfl) (fun _ => Rd.own .here rfl) ?_
  refine fz rfl (.f rfl rfl) Fx.fo27_2 (.u rfl) ?_
  refine ld rfl (.f rfl rfl) Fx.ag24 (.s rfl) (fun _ => Rd.own .here rfl) ?_
  refine cp rfl (.f rfl rfl) (.s rfl) (.s rfl) rfl ?_
  refine pkO rfl .no (.u rfl) (.s rfl) ?_
  refine .nil ?_
  refine .code ?_
  refine .cond rfl (fun c1 => ?_) (fun c1 => ?_)
  · have c1k := c1
    try simp only [decide_eq_true_eq, decide_eq_false_iff_not, Int.not_lt, Int.not_le, gt_iff_lt, ge_iff_le, Bool.or_eq_true, Bool.and_eq_true, Bool.or_eq_false_iff, Bool.not_eq_true', Bool.not_eq_false', Int.toNat_natCast] at c1
    refine .seq ?_
    refine Wk.rg [0] rfl rfl ?_
    refine asg rfl .no (.u rfl) ?_
    refine .nil ?_
    refine .code ?_
    refine .ret ?_
    refine We.fin0 Try.results12 (.tmp rfl .nil) ?_
    exact ⟨rfl, fin_false (rs_max c1)⟩
  · have c1k := c1
    try simp only [decide_eq_true_eq, decide_eq_false_iff_not, Int.not_lt, Int.not_le, gt_iff_lt, ge_iff_le, Bool.or_eq_true, Bool.and_eq_true, Bool.or_eq_false_iff, Bool.not_eq_true', Bool.not_eq_false', Int.toNat_natCast] at c1
    refine .skip ?_
    refine .code ?_
    refine .seq ?_
    refine Wk.rg [0, 1] rfl rfl ?_
    refine mk rfl .u64 ?_; intro b22
    refine asg rfl .no (.u rfl) ?_
    refine .nil ?_
    refine .code ?_
    refine .seq ?_
    refine Wk.rg [0] rfl rfl ?_
    refine asg rfl .no (.u rfl) ?_
    refine .nil ?_
    refine .code ?_
    refine .seq ?_
    refine .seq ?_
    refine Wk.rg [0, 1, 2] rfl rfl ?_
    refine fz rfl .no Fx.fo27_0 (.u rfl) ?_
    refine lA rfl .no Fx.ag23 (.u rfl) (fun _ => RdN.part (n := 5) (.there .here) rfl) (fun _ => rfl) ?_
    refine mv rfl .no (.u rfl) ?_
    refine .nil ?_
    refine .code ?_
    refine .block ?_
    refine Wk.lop (α := Nat) (fun i => [(4, true, .int .i64 (1024 - tot s i)), (25, true, .int .i64 (i : Int))]) (fun i => [.mp b22 .u64 (cntM (nums (allM s i)))])
      (fun i Gl => i ≤ 5 ∧ tot s i ≤ 1024 ∧ (∀ j, j < i → LvOk s j (s.lv j)) ∧ Dist (allM s i)) (fun i => 5 - i) 0 [(1, true, _), (3, true, _), (24, true, _)] [.blk b1 _]
      (ESub.cons rfl rfl (ESub.cons rfl rfl (ESub.cons rfl rfl (ESub.cons rfl rfl (ESub.cons rfl rfl ESub.nil)))))
      (MSub.cons .here rfl (MSub.cons .here rfl MSub.nil)) ?_ ?_
    · exact ⟨by omega, by simp [tot], fun j hj => by omega, dist_nil⟩
    intro i N0 Gl0 hN0 hGl0 hF0
    try dsimp only at hF0 hN0 ⊢
    obtain ⟨hi, ht, hall, hdi⟩ := hF0
    refine .seq ?_
    refine Wk.rg [0] rfl rfl ?_
    refine cp rfl .no (.u rfl) (.u rfl) rfl ?_
    refine .nil ?_
    refine .code ?_
    refine .seq ?_
    refine .cond rfl (fun c2 => ?_) (fun c2 => ?_)
    · have c2k := c2
      try simp only [decide_eq_true_eq, decide_eq_false_iff_not, Int.not_lt, Int.not_le, gt_iff_lt, ge_iff_le, Bool.or_eq_true, Bool.and_eq_true, Bool.or_eq_false_iff, Bool.not_eq_true', Bool.not_eq_false', Int.toNat_natCast] at c2
      refine .skip ?_
      refine .code ?_
      refine .seq ?_
      refine .block ?_
      refine .seq ?_
      refine Wk.rg [0, 1, 2, 3] rfl rfl ?_
      have hli := hs.len i (by omega); have htn := tot_nonneg s i
      refine mv rfl .no (.u rfl) ?_
      refine ix rfl .no Fx.ar23 Fx.ag22 (.u rfl) (.u rfl) (fun _ => by omega) (fun _ => by omega) (fun _ => (s.arr_lv hd (k := i) (by omega))) ?_
      refine asg rfl .no (.u rfl) ?_
      refine asg rfl .no (.u rfl) ?_
      refine .nil ?_
      refine .code ?_
      refine .seq ?_
      refine .seq ?_
      refine Wk.rg [0, 1, 2, 3] rfl rfl ?_
      refine mv rfl .no (.u rfl) ?_
      refine ln rfl .no Fx.sn22 (.u rfl) ?_
      refine mv rfl .no (.u rfl) ?_
      refine cp rfl .no (.u rfl) (.u rfl) rfl ?_
      refine .nil ?_
      refine .code ?_
      refine .cond rfl (fun c3 => ?_) (fun c3 => ?_)
      · have c3k := c3
        try simp only [decide_eq_true_eq, decide_eq_false_iff_not, Int.not_lt, Int.not_le, gt_iff_lt, ge_iff_le, Bool.or_eq_true, Bool.and_eq_true, Bool.or_eq_false_iff, Bool.not_eq_true', Bool.not_eq_false', Int.toNat_natCast] at c3
        refine .seq ?_
        refine Wk.rg [0] rfl rfl ?_
        refine asg rfl .no (.u rfl) ?_
        refine .nil ?_
        refine .code ?_
        refine .ret ?_
        refine We.fin0 Try.results12 (.tmp rfl .nil) ?_
        exact ⟨rfl, fin_false (rs_few (by omega) c3)⟩
      · have c3k := c3
        try simp only [decide_eq_true_eq, decide_eq_false_iff_not, Int.not_lt, Int.not_le, gt_iff_lt, ge_iff_le, Bool.or_eq_true, Bool.and_eq_true, Bool.or_eq_false_iff, Bool.not_eq_true', Bool.not_eq_false', Int.toNat_natCast] at c3
        refine .skip ?_
        refine .code ?_
        refine .seq ?_
        refine Wk.rg [0, 1, 2, 3, 4] rfl rfl ?_
        refine mv rfl .no (.u rfl) ?_
        refine mv rfl .no (.u rfl) ?_
        refine ln rfl .no Fx.sn22 (.u rfl) ?_
        refine ar rfl .no (.u rfl) (.u rfl) rfl (fun _ => wrap_i64 (by omega) (by omega)) ?_
        refine asg rfl .no (.u rfl) ?_
        refine .nil ?_
        refine .code ?_
        refine .seq ?_
        refine Wk.rg [0, 1, 2] rfl rfl ?_
        refine mv rfl .no (.u rfl) ?_
        refine ln rfl .no Fx.sn22 (.u rfl) ?_
        refine mv rfl .no (.u rfl) ?_
        refine .nil ?_
        refine .code ?_
        refine .block ?_
        refine Wk.lop (α := Nat) (fun k => [(39, true, .int .i64 (k : Int))]) (fun k => [.mp b22 .u64 (cntM (nums (allM s i ++ (s.lv i).take k)))])
          (fun k Gl => Part s i k) (fun k => (s.lv i).length - k) 0 [(1, true, _), (3, true, _), (4, true, _), (5, true, _), (6, true, _), (24, true, _), (25, true, _), (37, true, _), (38, true, _)] [.blk b1 _]
          (ESub.cons rfl rfl (ESub.cons rfl rfl (ESub.cons rfl rfl (ESub.cons rfl rfl (ESub.cons rfl rfl (ESub.cons rfl rfl (ESub.cons rfl rfl (ESub.cons rfl rfl (ESub.cons rfl rfl (ESub.cons rfl rfl ESub.nil))))))))))
          (MSub.cons .here (cnt_zero s i _) (MSub.cons .here rfl MSub.nil)) ?_ ?_
        · exact Part.zero hdi
        intro k N1 Gl1 hN1 hGl1 hF1
        try dsimp only at hF1 hN1 ⊢
        have hP : Part s i k := hF1; have hkl := hP.le
        refine .seq ?_
        refine Wk.rg [0] rfl rfl ?_
        refine cp rfl .no (.u rfl) (.u rfl) rfl ?_
        refine .nil ?_
        refine .code ?_
        refine .seq ?_
        refine .cond rfl (fun c4 => ?_) (fun c4 => ?_)
        · have c4k := c4
          try simp only [decide_eq_true_eq, decide_eq_false_iff_not, Int.not_lt, Int.not_le, gt_iff_lt, ge_iff_le, Bool.or_eq_true, Bool.and_eq_true, Bool.or_eq_false_iff, Bool.not_eq_true', Bool.not_eq_false', Int.toNat_natCast] at c4
          refine .skip ?_
          refine .code ?_
          refine .seq ?_
          refine .block ?_
          refine .seq ?_
          refine Wk.rg [0, 1, 2, 3, 4, 5] rfl rfl ?_
          have hwf := (hs.wf i (by omega) _ (getD_mem (k := k) (by omega))).level; have hcb := cnt_bd (nums (allM s i ++ (s.lv i).take k)) ((s.lv i).getD k Meta.zero).number
          refine mv rfl .no (.u rfl) ?_
          refine ih rfl .no Fx.se22 (.u rfl) (.u rfl) (fun _ => by omega) (fun _ => by omega) (fun _ => (hs.lv i (by omega)).nn (k := k) (by omega)) ?_
          refine lA rfl .no Fx.ag48 (.u rfl) (fun _ => ((((hs.mono hGl0).mono hGl1).lv i (by omega)).gat k (by omega) (by omega)).rd) (fun _ => rfl) ?_
          refine al rfl Fx.zr48 ?_; intro b8
          refine asg rfl .no (.u rfl) ?_
          refine sw rfl (.u rfl) (.u rfl) rfl Fx.sz48 .here rfl (Meta.one _) ?_
          refine .nil ?_
          refine .code ?_
          refine .seq ?_
          refine Wk.rg [0, 1, 2, 3, 4, 5] rfl rfl ?_
          refine mv rfl .no (.u rfl) ?_
          refine fz rfl .no Fx.fo48_3 (.u rfl) ?_
          refine ld rfl .no Fx.ag24 (.u rfl) (fun _ => Rd.own .here rfl) ?_
          refine lk rfl .no Fx.mp58 Fx.zv3 (.u rfl) (.u rfl) (.there .here) (cnt_get _ _) ?_
          refine ar rfl .no (.u rfl) (.u rfl) rfl (fun _ => wrap_i64 (by omega) (by omega)) ?_
          refine mu rfl Fx.mp58 (.u rfl) (.u rfl) (.u rfl) (.there .here) ?_
          refine .nil ?_
          refine .code ?_
          refine .seq ?_
          refine Wk.draw (mc := ⟨false, false⟩) [0, 1, 2, 3, 4, 5, 6, 7, 8, 9, 10, 11, 12, 13, 14, 15, 16, 17, 18, 19, 20, 21, 22, 23, 24, 25, 26, 27, 28, 29, 30] Fx.mix (by kernel_rfl) ?_
          refine fz rfl .no Fx.fo48_0 (.u rfl) ?_
          refine ld rfl .no Fx.ag5 (.u rfl) (fun _ => Rd.own (.there .here) rfl) ?_
          refine cw rfl .no Fx.cv5_3 (.u rfl) (fun _ => wrap_i64 (by omega) (by omega)) ?_
          refine mv rfl .no (.u rfl) ?_
          refine cp rfl .no (.u rfl) (.u rfl) rfl ?_
          refine mv rfl .no (.u rfl) ?_
          refine lA rfl (.f rfl rfl) Fx.ag48 (.u rfl) (fun _ => RdN.own (.there .here)) (fun _ => rfl) ?_
          refine kp rfl (.f rfl rfl) Fx.go29 (Eva.cons (.u rfl) (Eva.cons (.s rfl) Eva.nil)) (Gp.add (.there (.there .here)) Gp.nil) (fun hc hle hq => fits_ok s hd _ b1 _ RdNP.add hwf.1) ?_
          refine nt rfl (.f rfl rfl) (.s rfl) ?_
          refine pkO rfl .no (.u rfl) (.s rfl) ?_
          refine mv rfl .no (.u rfl) ?_
          refine mv rfl (.f rfl rfl) (.u rfl) ?_
          refine fz rfl (.f rfl rfl) Fx.fo48_3 (.u rfl) ?_
          refine ld rfl (.f rfl rfl) Fx.ag24 (.s rfl) (fun _ => Rd.own (.there .here) rfl) ?_
          refine lk rfl (.f rfl rfl) Fx.mp58 Fx.zv3 (.s rfl) (.s rfl) .here (cnt_upd _ _ _ _) ?_
          refine cp rfl (.f rfl rfl) (.s rfl) (.u rfl) rfl ?_
          refine pkO rfl .no (.u rfl) (.s rfl) ?_
          refine mv rfl .no (.u rfl) ?_
          refine mv rfl (.f rfl rfl) (.u rfl) ?_
          refine cp rfl (.f rfl rfl) (.s rfl) (.u rfl) rfl ?_
          refine mv rfl (.f rfl rfl) (.s rfl) ?_
          refine mv rfl (.tc rfl rfl) (.u rfl) ?_
          refine mv rfl (.tc rfl rfl) (.u rfl) ?_
          refine ar rfl (.tc rfl rfl) (.s rfl) (.u rfl) rfl (fun hc => wrap_i64 (by omega) (by omega)) ?_
          refine ih rfl (.tc rfl rfl) Fx.se22 (.s rfl) (.s rfl) (fun hc => by simp only [Bool.and_eq_true, decide_eq_true_eq] at hc; omega) (fun hc => by simp only [Bool.and_eq_true, decide_eq_true_eq] at hc; omega) (fun hc => (hs.lv i (by omega)).nn (k := k) (by omega)) ?_
          refine lA rfl (.tc rfl rfl) Fx.ag48 (.s rfl) (fun hc => ((((hs.mono hGl0).mono hGl1).lv i (by omega)).gat (k - 1) (by simp only [Bool.and_eq_true, decide_eq_true_eq] at hc; omega) (by omega)).rd) (fun _ => rfl) ?_
          refine lA rfl (.tc rfl rfl) Fx.ag48 (.u rfl) (fun _ => RdN.own (.there .here)) (fun _ => rfl) ?_
          refine kv rfl (.tc rfl rfl) Fx.go30 (Eva.cons (.s rfl) (Eva.cons (.s rfl) Eva.nil)) (fun hc => stands_ok _ _ _ (hs.wf i (by omega) _ (getD_mem (by simp only [Bool.and_eq_true, decide_eq_true_eq] at hc; omega))).level.1) ?_
          refine nt rfl (.tc rfl rfl) (.s rfl) ?_
          refine pkA rfl (.f rfl rfl) (.s rfl) (.s rfl) ?_
          refine pkO rfl .no (.u rfl) (.s rfl) ?_
          refine .nil ?_
          refine .code ?_
          refine .cond rfl (fun c5 => ?_) (fun c5 => ?_)
          · have c5k := c5
            try simp only [decide_eq_true_eq, decide_eq_false_iff_not, Int.not_lt, Int.not_le, gt_iff_lt, ge_iff_le, Bool.or_eq_true, Bool.and_eq_true, Bool.or_eq_false_iff, Bool.not_eq_true', Bool.not_eq_false', Int.toNat_natCast] at c5
            refine .seq ?_
            refine Wk.rg [0] rfl rfl ?_
            refine asg rfl .no (.u rfl) ?_
            refine .nil ?_
            refine .code ?_
            refine .ret ?_
            refine We.fin0 Try.results12 (.tmp rfl .nil) ?_
            exact ⟨rfl, fin_false (rt_bad (by omega) (by omega) hP c5k)⟩
          · have c5k := c5
            try simp only [decide_eq_true_eq, decide_eq_false_iff_not, Int.not_lt, Int.not_le, gt_iff_lt, ge_iff_le, Bool.or_eq_true, Bool.and_eq_true, Bool.or_eq_false_iff, Bool.not_eq_true', Bool.not_eq_false', Int.toNat_natCast] at c5
            refine .skip ?_
            refine .blk ?_
            refine .code ?_
            refine Wk.rg [0, 1] rfl rfl ?_
            refine ar rfl .no (.u rfl) (.u rfl) rfl (fun _ => wrap_i64 (by omega) (by omega)) ?_
            refine mv rfl .no (.u rfl) ?_
            refine .nil ?_
            have hst := rt_good (by omega) hP c5k
            refine We.lpo (k + 1) ?_ ?_ ?_ ?_ ?_
            · exact (ESub.cons rfl rfl (ESub.cons rfl rfl (ESub.cons rfl rfl (ESub.cons rfl rfl (ESub.cons rfl rfl (ESub.cons rfl rfl (ESub.cons rfl rfl (ESub.cons rfl rfl (ESub.cons rfl rfl (ESub.cons rfl rfl ESub.nil))))))))))
            · exact (MSub.cons .here (cnt_step (by omega) hst.2) (MSub.cons (.there .here) rfl MSub.nil))
            · first | omega | (dsimp only; omega)
            · exact hGl1
            · exact hst.1
        · have c4k := c4
          try simp only [decide_eq_true_eq, decide_eq_false_iff_not, Int.not_lt, Int.not_le, gt_iff_lt, ge_iff_le, Bool.or_eq_true, Bool.and_eq_true, Bool.or_eq_false_iff, Bool.not_eq_true', Bool.not_eq_false', Int.toNat_natCast] at c4
          refine .exit ?_
          refine .xcode ?_
          refine .xlp ?_
          refine .xblk ?_
          refine .blk ?_
          refine .code ?_
          refine Wk.rg [0, 1] rfl rfl ?_
          refine ar rfl .no (.u rfl) (.u rfl) rfl (fun _ => wrap_i64 (by omega) (by omega)) ?_
          refine mv rfl .no (.u rfl) ?_
          refine .nil ?_
          refine We.lpo (i + 1) ?_ ?_ ?_ ?_ ?_
          · exact (ESub.cons rfl (congrArg _ (by rw [show tot s (i + 1) = tot s i + (s.lv i).length from rfl]; omega)) (ESub.cons rfl rfl (ESub.cons rfl rfl (ESub.cons rfl rfl (ESub.cons rfl rfl ESub.nil)))))
          · exact (MSub.cons .here (cnt_next (by omega)) (MSub.cons .here rfl MSub.nil))
          · first | omega | (dsimp only; omega)
          · exact hGl0.trans hGl1
          · exact ⟨by omega, by rw [show tot s (i + 1) = tot s i + (s.lv i).length from rfl]; omega, fun j hj => (by by_cases e : j = i; (subst e; exact hP.lvOk (by omega)); exact hall j (by omega)), hP.next (by omega)⟩
    · have c2k := c2
      try simp only [decide_eq_true_eq, decide_eq_false_iff_not, Int.not_lt, Int.not_le, gt_iff_lt, ge_iff_le, Bool.or_eq_true, Bool.and_eq_true, Bool.or_eq_false_iff, Bool.not_eq_true', Bool.not_eq_false', Int.toNat_natCast] at c2
      refine .exit ?_
      refine .xcode ?_
      refine .xlp ?_
      refine .xblk ?_
      refine .code ?_
      refine .seq ?_
      refine Wk.rg [0] rfl rfl ?_
      refine asg rfl .no (.u rfl) ?_
      refine .nil ?_
      refine .code ?_
      refine .ret ?_
      refine We.fin0 Try.results12 (.tmp rfl .nil) ?_
      exact ⟨rfl, fin_true (rs_done c1 (by omega) ht hall hdi)⟩

theorem idx_ok (h : Sh) (l : List Meta) (G : PM) (hs : SlR G 40 Meta.cells h l) (hl : l.length * 112 ≤ 140737488351232) (f : Nat) (hf : goFn Try.prog f = true) (vc : List Value) (p : Meta → Bool) (hc : ∀ G', PM.le G G' → ∀ m ∈ l, Ct Try.prog f ([m.val] ++ vc).toArray G' [] fun _ μ' u => μ' = [] ∧ u = .bool (p m)) : Ct Try.prog 50 ([h.val l.length, .func (.func f) #[] vc.toArray] : List Value).toArray G [] (fun _ μ' u => μ' = [] ∧ u = .int .i64 (idxI p l)) := by
  refine Ct.of Try.func50 rfl Try.ntmps50 rfl fun w0 hs0 => ?_
  refine .seq ?_
  refine Wk.rg [0] rfl rfl ?_
  refine asg rfl .no (.u rfl) ?_
  refine .nil ?_
  refine .code ?_
  refine .seq ?_
  refine .seq ?_
  refine Wk.rg [0, 1, 2] rfl rfl ?_
  refine mv rfl .no (.u rfl) ?_
  refine ln rfl .no Fx.sn22 (.u rfl) ?_
  refine mv rfl .no (.u rfl) ?_
  refine .nil ?_
  refine .code ?_
  refine .block ?_
  refine Wk.lop (α := Nat) (fun k => [(8, true, .int .i64 (k : Int))]) (fun _ => [])
    (fun k Gl => k ≤ l.length ∧ ∀ j, j < k → p (l.getD j Meta.zero) = false) (fun k => l.length - k) 0 [(0, true, _), (1, true, _), (7, true, _)] []
    (ESub.cons rfl rfl (ESub.cons rfl rfl (ESub.cons rfl rfl (ESub.cons rfl rfl ESub.nil))))
    MSub.nil ?_ ?_
  · exact ⟨by omega, fun j hj => by omega⟩
  intro k N0 Gl0 hN0 hGl0 hF0
  try dsimp only at hF0 hN0 ⊢
  obtain ⟨hk, hno⟩ := hF0
  refine .seq ?_
  refine Wk.rg [0] rfl rfl ?_
  refine cp rfl .no (.u rfl) (.u rfl) rfl ?_
  refine .nil ?_
  refine .code ?_
  refine .seq ?_
  refine .cond rfl (fun c1 => ?_) (fun c1 => ?_)
  · have c1k := c1
    try simp only [decide_eq_true_eq, decide_eq_false_iff_not, Int.not_lt, Int.not_le, gt_iff_lt, ge_iff_le, Bool.or_eq_true, Bool.and_eq_true, Bool.or_eq_false_iff, Bool.not_eq_true', Bool.not_eq_false', Int.toNat_natCast] at c1
    refine .skip ?_
    refine .code ?_
    refine .seq ?_
    refine .block ?_
    refine .seq ?_
    refine Wk.rg [0, 1] rfl rfl ?_
    refine mv rfl .no (.u rfl) ?_
    refine asg rfl .no (.u rfl) ?_
    refine .nil ?_
    refine .code ?_
    refine .seq ?_
    refine Wk.rg [0, 1, 2, 3, 4, 5] rfl rfl ?_
    refine mv rfl .no (.u rfl) ?_
    refine mv rfl .no (.u rfl) ?_
    refine mv rfl .no (.u rfl) ?_
    refine ih rfl .no Fx.se22 (.u rfl) (.u rfl) (fun _ => by omega) (fun _ => by omega) (fun _ => hs.nn (k := k) (by omega)) ?_
    refine lA rfl .no Fx.ag48 (.u rfl) (fun _ => ((hs.mono hGl0).gat k (by omega) (by omega)).rd) (fun _ => rfl) ?_
    refine kf rfl .no (.u rfl) hf (Eva.cons (.u rfl) Eva.nil) (fun _ => hc _ hGl0 _ (getD_mem (k := k) (by omega))) ?_
    refine .nil ?_
    refine .code ?_
    refine .cond rfl (fun c2 => ?_) (fun c2 => ?_)
    · have c2k := c2
      try simp only [decide_eq_true_eq, decide_eq_false_iff_not, Int.not_lt, Int.not_le, gt_iff_lt, ge_iff_le, Bool.or_eq_true, Bool.and_eq_true, Bool.or_eq_false_iff, Bool.not_eq_true', Bool.not_eq_false', Int.toNat_natCast] at c2
      refine .seq ?_
      refine Wk.rg [0, 1] rfl rfl ?_
      refine mv rfl .no (.u rfl) ?_
      refine asg rfl .no (.u rfl) ?_
      refine .nil ?_
      refine .code ?_
      refine .ret ?_
      refine We.fin0 Try.results50 (.tmp rfl .nil) ?_
      exact ⟨rfl, idx_hit (by omega) hno c2k⟩
    · have c2k := c2
      try simp only [decide_eq_true_eq, decide_eq_false_iff_not, Int.not_lt, Int.not_le, gt_iff_lt, ge_iff_le, Bool.or_eq_true, Bool.and_eq_true, Bool.or_eq_false_iff, Bool.not_eq_true', Bool.not_eq_false', Int.toNat_natCast] at c2
      refine .skip ?_
      refine .blk ?_
      refine .code ?_
      refine Wk.rg [0, 1] rfl rfl ?_
      refine ar rfl .no (.u rfl) (.u rfl) rfl (fun _ => wrap_i64 (by omega) (by omega)) ?_
      refine mv rfl .no (.u rfl) ?_
      refine .nil ?_
      refine We.lpo (k + 1) ?_ ?_ ?_ ?_ ?_
      · exact (ESub.cons rfl rfl (ESub.cons rfl rfl (ESub.cons rfl rfl (ESub.cons rfl rfl ESub.nil))))
      · exact MSub.nil
      · first | omega | (dsimp only; omega)
      · exact hGl0
      · exact ⟨by omega, idx_step hno c2k⟩
  · have c1k := c1
    try simp only [decide_eq_true_eq, decide_eq_false_iff_not, Int.not_lt, Int.not_le, gt_iff_lt, ge_iff_le, Bool.or_eq_true, Bool.and_eq_true, Bool.or_eq_false_iff, Bool.not_eq_true', Bool.not_eq_false', Int.toNat_natCast] at c1
    refine .exit ?_
    refine .xcode ?_
    refine .xlp ?_
    refine .xblk ?_
    refine .code ?_
    refine .seq ?_
    refine Wk.rg [0] rfl rfl ?_
    refine asg rfl .no (.u rfl) ?_
    refine .nil ?_
    refine .code ?_
    refine .ret ?_
    refine We.fin0 Try.results50 (.tmp rfl .nil) ?_
    exact ⟨rfl, idx_none (by omega) hno⟩

theorem over_ok (s : State) (hd : Nat → Sh) (G : PM) (hs : StR G s hd) (level : Int) (lo hi : ByteArray) : Ct Try.prog 27 ([s.val hd, .int .i64 level, .string lo, .string hi] : List Value).toArray G [] (fun G' μ' u => μ' = [] ∧ ∃ h : Sh, u = h.val (ovl s level lo hi).length ∧ SlR G' 40 Meta.cells h (ovl s level lo hi)) := by
  refine Ct.of Try.func27 rfl Try.ntmps27 rfl fun w0 hs0 => ?_
  refine .seq ?_
  refine Wk.rg [0, 1] rfl rfl ?_
  refine bx rfl (.u rfl) rfl ?_; intro b4
  refine asg rfl .no (.u rfl) ?_
  refine .nil ?_
  refine .code ?_
  refine .seq ?_
  refine Wk.rg [0] rfl rfl ?_
  refine asg rfl .no (.u rfl) ?_
  refine .nil ?_
  refine .code ?_
  refine .seq ?_
  refine .seq ?_
  refine Wk.rg [0, 1, 2, 3, 4, 5] rfl rfl ?_
  refine mv rfl .no (.u rfl) ?_
  refine cp rfl .no (.u rfl) (.u rfl) rfl ?_
  refine mv rfl .no (.u rfl) ?_
  refine mv rfl (.f rfl rfl) (.u rfl) ?_
  refine cp rfl (.f rfl rfl) (.s rfl) (.u rfl) rfl ?_
  refine pkO rfl .no (.u rfl) (.s rfl) ?_
  refine .nil ?_
  refine .code ?_
  refine .cond rfl (fun c1 => ?_) (fun c1 => ?_)
  · have c1k := c1
    try simp only [decide_eq_true_eq, decide_eq_false_iff_not, Int.not_lt, Int.not_le, gt_iff_lt, ge_iff_le, Bool.or_eq_true, Bool.and_eq_true, Bool.or_eq_false_iff, Bool.not_eq_true', Bool.not_eq_false', Int.toNat_natCast] at c1
    refine .seq ?_
    refine Wk.rg [0] rfl rfl ?_
    refine asg rfl .no (.u rfl) ?_
    refine .nil ?_
    refine .code ?_
    refine .ret ?_
    refine We.fin0 Try.results27 (.tmp rfl .nil) ?_
    exact ⟨rfl, ⟨none, 0⟩, by rw [ovl_out c1]; rfl, by rw [ovl_out c1]; exact SlR.nul⟩
  · have c1k := c1
    try simp only [decide_eq_true_eq, decide_eq_false_iff_not, Int.not_lt, Int.not_le, gt_iff_lt, ge_iff_le, Bool.or_eq_true, Bool.and_eq_true, Bool.or_eq_false_iff, Bool.not_eq_true', Bool.not_eq_false', Int.toNat_natCast] at c1
    refine .skip ?_
    refine .code ?_
    refine .seq ?_
    refine .seq ?_
    refine Wk.rg [0, 1, 2, 3, 4, 5] rfl rfl ?_
    have hli := hs.len level.toNat (by omega)
    refine mv rfl .no (.u rfl) ?_
    refine fz rfl .no Fx.fo27_0 (.u rfl) ?_
    refine iA rfl .no Fx.ar23 (.u rfl) (.u rfl) (fun _ => by omega) (fun _ => by omega) ?_
    refine ld rfl .no Fx.ag22 (.u rfl) (fun _ => Rd.own .here (s.cell_lv hd (k := level.toNat) (by omega))) ?_
    refine ln rfl .no Fx.sn22 (.u rfl) ?_
    refine mv rfl .no (.u rfl) ?_
    refine .nil ?_
    refine .code ?_
    refine .block ?_
    refine wk_nilRow 48 40 ?_
    refine Wk.lop (α := Nat × Value) (fun gh => [(9, true, gh.2), (23, true, .int .i64 (gh.1 : Int))]) (fun gh => [.row gh.2 48 40 (((s.lv level.toNat).take gh.1).filter (ovp lo hi)).length ((((s.lv level.toNat).take gh.1).filter (ovp lo hi)).flatMap Meta.cells)])
      (fun gh Gl => gh.1 ≤ (s.lv level.toNat).length) (fun gh => (s.lv level.toNat).length - gh.1) (0, .slice none 0 0) [(2, true, _), (3, true, _), (21, true, _), (22, true, _)] [.blk b4 _]
      (ESub.cons rfl rfl (ESub.cons rfl rfl (ESub.cons rfl rfl (ESub.cons rfl rfl (ESub.cons rfl rfl (ESub.cons rfl rfl ESub.nil))))))
      (MSub.cons .here rfl (MSub.cons .here rfl MSub.nil)) ?_ ?_
    · show 0 ≤ (s.lv level.toNat).length; omega
    intro gh N0 Gl0 hN0 hGl0 hF0
    obtain ⟨k, v⟩ := gh; dsimp only at hF0 hN0 ⊢
    have hk : k ≤ (s.lv level.toNat).length := hF0; have hfl := filt_len (s.lv level.toNat) (ovp lo hi) k
    refine .seq ?_
    refine Wk.rg [0] rfl rfl ?_
    refine cp rfl .no (.u rfl) (.u rfl) rfl ?_
    refine .nil ?_
    refine .code ?_
    refine .seq ?_
    refine .cond rfl (fun c2 => ?_) (fun c2 => ?_)
    · have c2k := c2
      try simp only [decide_eq_true_eq, decide_eq_false_iff_not, Int.not_lt, Int.not_le, gt_iff_lt, ge_iff_le, Bool.or_eq_true, Bool.and_eq_true, Bool.or_eq_false_iff, Bool.not_eq_true', Bool.not_eq_false', Int.toNat_natCast] at c2
      refine .skip ?_
      refine .code ?_
      refine .seq ?_
      refine .block ?_
      refine .seq ?_
      refine Wk.rg [0, 1, 2, 3] rfl rfl ?_
      refine ih rfl .no Fx.se22 (.u rfl) (.u rfl) (fun _ => by omega) (fun _ => by omega) (fun _ => (hs.lv level.toNat (by omega)).nn (k := k) (by omega)) ?_
      refine lA rfl .no Fx.ag48 (.u rfl) (fun _ => (((hs.mono hGl0).lv level.toNat (by omega)).gat k (by omega) (by omega)).rd) (fun _ => rfl) ?_
      refine al rfl Fx.zr48 ?_; intro b11
      refine sw rfl (.u rfl) (.u rfl) rfl Fx.sz48 .here rfl (Meta.one _) ?_
      refine .nil ?_
      refine .code ?_
      refine .seq ?_
      refine Wk.rg [0, 1, 2, 3, 4, 5, 6, 7, 8, 9] rfl rfl ?_
      refine fz rfl .no Fx.fo48_7 (.u rfl) ?_
      refine ld rfl .no Fx.ag9 (.u rfl) (fun _ => Rd.own .here rfl) ?_
      refine mv rfl .no (.u rfl) ?_
      refine cs rfl .no (.u rfl) (.u rfl) rfl ?_
      refine mv rfl .no (.u rfl) ?_
      refine fz rfl (.t rfl rfl) Fx.fo48_6 (.u rfl) ?_
      refine ld rfl (.t rfl rfl) Fx.ag9 (.s rfl) (fun _ => Rd.own .here rfl) ?_
      refine mv rfl (.t rfl rfl) (.u rfl) ?_
      refine cs rfl (.t rfl rfl) (.s rfl) (.s rfl) rfl ?_
      refine pkA rfl .no (.u rfl) (.s rfl) ?_
      refine .nil ?_
      refine .code ?_
      refine .cond rfl (fun c3 => ?_) (fun c3 => ?_)
      · have c3k := c3
        try simp only [decide_eq_true_eq, decide_eq_false_iff_not, Int.not_lt, Int.not_le, gt_iff_lt, ge_iff_le, Bool.or_eq_true, Bool.and_eq_true, Bool.or_eq_false_iff, Bool.not_eq_true', Bool.not_eq_false', Int.toNat_natCast] at c3
        refine Wk.rg [0, 1, 2, 3, 4] rfl rfl ?_
        refine mv rfl .no (.u rfl) ?_
        refine lA rfl .no Fx.ag48 (.u rfl) (fun _ => RdN.own .here) (fun _ => rfl) ?_
        refine Go.Tan.b1 rfl Fx.se22 Fx.zv48 (.u rfl) rfl rfl (by decide) ?_; intro b39
        refine ap rfl Fx.se22 Fx.zv48 rfl (.u rfl) (.u rfl) (.there (.there .here)) (rfl) (fun _ => ⟨_, _, rfl, RdN.own .here⟩) (Meta.one _) (by omega) (by unfold maxLen; omega) ?_; intro v40
        refine asg rfl .no (.u rfl) ?_
        refine .nil ?_
        refine .blk ?_
        refine .code ?_
        refine Wk.rg [0, 1] rfl rfl ?_
        refine ar rfl .no (.u rfl) (.u rfl) rfl (fun _ => wrap_i64 (by omega) (by omega)) ?_
        refine mv rfl .no (.u rfl) ?_
        refine .nil ?_
        refine We.lpo (k + 1, v40) ?_ ?_ ?_ ?_ ?_
        · exact (ESub.cons rfl rfl (ESub.cons rfl rfl (ESub.cons rfl rfl (ESub.cons rfl rfl (ESub.cons rfl rfl (ESub.cons rfl rfl ESub.nil))))))
        · exact (MSub.cons .here (ov_yes (by omega) c3k) (MSub.cons (.there (.there .here)) rfl MSub.nil))
        · first | omega | (dsimp only; omega)
        · exact hGl0
        · show k + 1 ≤ (s.lv level.toNat).length; omega
      · have c3k := c3
        try simp only [decide_eq_true_eq, decide_eq_false_iff_not, Int.not_lt, Int.not_le, gt_iff_lt, ge_iff_le, Bool.or_eq_true, Bool.and_eq_true, Bool.or_eq_false_iff, Bool.not_eq_true', Bool.not_eq_false', Int.toNat_natCast] at c3
        refine .skip ?_
        refine .blk ?_
        refine .code ?_
        refine Wk.rg [0, 1] rfl rfl ?_
        refine ar rfl .no (.u rfl) (.u rfl) rfl (fun _ => wrap_i64 (by omega) (by omega)) ?_
        refine mv rfl .no (.u rfl) ?_
        refine .nil ?_
        refine We.lpo (k + 1, v) ?_ ?_ ?_ ?_ ?_
        · exact (ESub.cons rfl rfl (ESub.cons rfl rfl (ESub.cons rfl rfl (ESub.cons rfl rfl (ESub.cons rfl rfl (ESub.cons rfl rfl ESub.nil))))))
        · exact (MSub.cons (.there .here) (ov_no (by omega) c3k) (MSub.cons (.there .here) rfl MSub.nil))
        · first | omega | (dsimp only; omega)
        · exact hGl0
        · show k + 1 ≤ (s.lv level.toNat).length; omega
    · have c2k := c2
      try simp only [decide_eq_true_eq, decide_eq_false_iff_not, Int.not_lt, Int.not_le, gt_iff_lt, ge_iff_le, Bool.or_eq_true, Bool.and_eq_true, Bool.or_eq_false_iff, Bool.not_eq_true', Bool.not_eq_false', Int.toNat_natCast] at c2
      refine .exit ?_
      refine .xcode ?_
      refine .xlp ?_
      refine .xblk ?_
      refine .code ?_
      refine .seq ?_
      refine Wk.rg [0, 1] rfl rfl ?_
      refine mv rfl .no (.u rfl) ?_
      refine asg rfl .no (.u rfl) ?_
      refine .nil ?_
      refine .code ?_
      refine .ret ?_
      refine we_fr .here (fun b hb => by cases hb) ?_
      intro Gf hh hlef hv hcap hnn hrd; subst hv
      refine We.fin0 Try.results27 (.tmp rfl .nil) ?_
      have hko : k = (s.lv level.toNat).length := by omega
      subst hko
      rw [List.take_length] at hcap hnn hrd
      exact ⟨rfl, hh, by rw [ovl_in c1, List.take_length]; rfl, by rw [ovl_in c1]; exact SlR.ofRow (metas_len _) hcap hnn hrd⟩

theorem rover_ok (s : State) (hd : Nat → Sh) (G : PM) (hs : StR G s hd) (level : Int) (lo hi : ByteArray) : Ct Try.prog 28 ([s.val hd, .int .i64 level, .string lo, .string hi] : List Value).toArray G [] (fun G' μ' u => μ' = [] ∧ ∃ h : Sh, u = h.val (ovl s level lo hi).length ∧ SlR G' 40 Meta.cells h (ovl s level lo hi)) := by
  refine Ct.of Try.func28 rfl Try.ntmps28 rfl fun w0 hs0 => ?_
  refine .seq ?_
  refine Wk.rg [0, 1] rfl rfl ?_
  refine bx rfl (.u rfl) rfl ?_; intro b4
  refine asg rfl .no (.u rfl) ?_
  refine .nil ?_
  refine .code ?_
  refine .seq ?_
  refine Wk.rg [0] rfl rfl ?_
  refine asg rfl .no (.u rfl) ?_
  refine .nil ?_
  refine .code ?_
  refine .seq ?_
  refine .seq ?_
  refine Wk.rg [0, 1, 2, 3, 4, 5] rfl rfl ?_
  refine mv rfl .no (.u rfl) ?_
  refine cp rfl .no (.u rfl) (.u rfl) rfl ?_
  refine mv rfl .no (.u rfl) ?_
  refine mv rfl (.f rfl rfl) (.u rfl) ?_
  refine cp rfl (.f rfl rfl) (.s rfl) (.u rfl) rfl ?_
  refine pkO rfl .no (.u rfl) (.s rfl) ?_
  refine .nil ?_
  refine .code ?_
  refine .cond rfl (fun c1 => ?_) (fun c1 => ?_)
  · have c1k := c1
    try simp only [decide_eq_true_eq, decide_eq_false_iff_not, Int.not_lt, Int.not_le, gt_iff_lt, ge_iff_le, Bool.or_eq_true, Bool.and_eq_true, Bool.or_eq_false_iff, Bool.not_eq_true', Bool.not_eq_false', Int.toNat_natCast] at c1
    refine .seq ?_
    refine Wk.rg [0, 1] rfl rfl ?_
    refine mv rfl .no (.u rfl) ?_
    refine asg rfl .no (.u rfl) ?_
    refine .nil ?_
    refine .code ?_
    refine .ret ?_
    refine We.fin0 Try.results28 (.tmp rfl .nil) ?_
    exact ⟨rfl, ⟨none, 0⟩, by rw [ovl_out c1]; rfl, by rw [ovl_out c1]; exact SlR.nul⟩
  · have c1k := c1
    try simp only [decide_eq_true_eq, decide_eq_false_iff_not, Int.not_lt, Int.not_le, gt_iff_lt, ge_iff_le, Bool.or_eq_true, Bool.and_eq_true, Bool.or_eq_false_iff, Bool.not_eq_true', Bool.not_eq_false', Int.toNat_natCast] at c1
    refine .skip ?_
    refine .code ?_
    refine .seq ?_
    refine .seq ?_
    refine Wk.rg [0] rfl rfl ?_
    have hli := hs.len level.toNat (by omega)
    refine asg rfl .no (.u rfl) ?_
    refine .nil ?_
    refine .code ?_
    refine .block ?_
    refine wk_nilRow 48 40 ?_
    refine Wk.lop (α := Nat × Value) (fun gh => [(9, true, gh.2), (10, true, .int .i64 (gh.1 : Int))]) (fun gh => [.row gh.2 48 40 (((s.lv level.toNat).take gh.1).filter (ovp lo hi)).length ((((s.lv level.toNat).take gh.1).filter (ovp lo hi)).flatMap Meta.cells)])
      (fun gh Gl => gh.1 ≤ (s.lv level.toNat).length) (fun gh => (s.lv level.toNat).length - gh.1) (0, .slice none 0 0) [(1, true, _), (2, true, _), (3, true, _), (4, true, _)] [.blk b4 _]
      (ESub.cons rfl rfl (ESub.cons rfl rfl (ESub.cons rfl rfl (ESub.cons rfl rfl (ESub.cons rfl rfl (ESub.cons rfl rfl ESub.nil))))))
      (MSub.cons .here rfl (MSub.cons .here rfl MSub.nil)) ?_ ?_
    · show 0 ≤ (s.lv level.toNat).length; omega
    intro gh N0 Gl0 hN0 hGl0 hF0
    obtain ⟨k, v⟩ := gh; dsimp only at hF0 hN0 ⊢
    have hk : k ≤ (s.lv level.toNat).length := hF0; have hfl := filt_len (s.lv level.toNat) (ovp lo hi) k
    refine .seq ?_
    refine .seq ?_
    refine Wk.rg [0, 1, 2, 3, 4, 5, 6] rfl rfl ?_
    refine mv rfl .no (.u rfl) ?_
    refine mv rfl .no (.u rfl) ?_
    refine fz rfl .no Fx.fo27_0 (.u rfl) ?_
    refine iA rfl .no Fx.ar23 (.u rfl) (.u rfl) (fun _ => by omega) (fun _ => by omega) ?_
    refine ld rfl .no Fx.ag22 (.u rfl) (fun _ => Rd.own (.there .here) (s.cell_lv hd (k := level.toNat) (by omega))) ?_
    refine ln rfl .no Fx.sn22 (.u rfl) ?_
    refine cp rfl .no (.u rfl) (.u rfl) rfl ?_
    refine .nil ?_
    refine .code ?_
    refine .cond rfl (fun c2 => ?_) (fun c2 => ?_)
    · have c2k := c2
      try simp only [decide_eq_true_eq, decide_eq_false_iff_not, Int.not_lt, Int.not_le, gt_iff_lt, ge_iff_le, Bool.or_eq_true, Bool.and_eq_true, Bool.or_eq_false_iff, Bool.not_eq_true', Bool.not_eq_false', Int.toNat_natCast] at c2
      refine .skip ?_
      refine .code ?_
      refine .seq ?_
      refine .block ?_
      refine .seq ?_
      refine Wk.rg [0, 1, 2, 3, 4, 5, 6, 7, 8] rfl rfl ?_
      refine mv rfl .no (.u rfl) ?_
      refine fz rfl .no Fx.fo27_0 (.u rfl) ?_
      refine iA rfl .no Fx.ar23 (.u rfl) (.u rfl) (fun _ => by omega) (fun _ => by omega) ?_
      refine ld rfl .no Fx.ag22 (.u rfl) (fun _ => Rd.own (.there .here) (s.cell_lv hd (k := level.toNat) (by omega))) ?_
      refine mv rfl .no (.u rfl) ?_
      refine ih rfl .no Fx.se22 (.u rfl) (.u rfl) (fun _ => by omega) (fun _ => by omega) (fun _ => (hs.lv level.toNat (by omega)).nn (k := k) (by omega)) ?_
      refine lA rfl .no Fx.ag48 (.u rfl) (fun _ => (((hs.mono hGl0).lv level.toNat (by omega)).gat k (by omega) (by omega)).rd) (fun _ => rfl) ?_
      refine al rfl Fx.zr48 ?_; intro b11
      refine sw rfl (.u rfl) (.u rfl) rfl Fx.sz48 .here rfl (Meta.one _) ?_
      refine .nil ?_
      refine .code ?_
      refine .seq ?_
      refine Wk.rg [0, 1, 2, 3, 4, 5, 6, 7, 8, 9] rfl rfl ?_
      refine fz rfl .no Fx.fo48_7 (.u rfl) ?_
      refine ld rfl .no Fx.ag9 (.u rfl) (fun _ => Rd.own .here rfl) ?_
      refine mv rfl .no (.u rfl) ?_
      refine cs rfl .no (.u rfl) (.u rfl) rfl ?_
      refine mv rfl .no (.u rfl) ?_
      refine fz rfl (.t rfl rfl) Fx.fo48_6 (.u rfl) ?_
      refine ld rfl (.t rfl rfl) Fx.ag9 (.s rfl) (fun _ => Rd.own .here rfl) ?_
      refine mv rfl (.t rfl rfl) (.u rfl) ?_
      refine cs rfl (.t rfl rfl) (.s rfl) (.s rfl) rfl ?_
      refine pkA rfl .no (.u rfl) (.s rfl) ?_
      refine .nil ?_
      refine .code ?_
      refine .cond rfl (fun c3 => ?_) (fun c3 => ?_)
      · have c3k := c3
        try simp only [decide_eq_true_eq, decide_eq_false_iff_not, Int.not_lt, Int.not_le, gt_iff_lt, ge_iff_le, Bool.or_eq_true, Bool.and_eq_true, Bool.or_eq_false_iff, Bool.not_eq_true', Bool.not_eq_false', Int.toNat_natCast] at c3
        refine Wk.rg [0, 1, 2, 3, 4] rfl rfl ?_
        refine mv rfl .no (.u rfl) ?_
        refine lA rfl .no Fx.ag48 (.u rfl) (fun _ => RdN.own .here) (fun _ => rfl) ?_
        refine Go.Tan.b1 rfl Fx.se22 Fx.zv48 (.u rfl) rfl rfl (by decide) ?_; intro b47
        refine ap rfl Fx.se22 Fx.zv48 rfl (.u rfl) (.u rfl) (.there (.there .here)) (rfl) (fun _ => ⟨_, _, rfl, RdN.own .here⟩) (Meta.one _) (by omega) (by unfold maxLen; omega) ?_; intro v48
        refine asg rfl .no (.u rfl) ?_
        refine .nil ?_
        refine .blk ?_
        refine .code ?_
        refine Wk.rg [0, 1, 2] rfl rfl ?_
        refine mv rfl .no (.u rfl) ?_
        refine ar rfl .no (.u rfl) (.u rfl) rfl (fun _ => wrap_i64 (by omega) (by omega)) ?_
        refine asg rfl .no (.u rfl) ?_
        refine .nil ?_
        refine We.lpo (k + 1, v48) ?_ ?_ ?_ ?_ ?_
        · exact (ESub.cons rfl rfl (ESub.cons rfl rfl (ESub.cons rfl rfl (ESub.cons rfl rfl (ESub.cons rfl rfl (ESub.cons rfl rfl ESub.nil))))))
        · exact (MSub.cons .here (ov_yes (by omega) c3k) (MSub.cons (.there (.there .here)) rfl MSub.nil))
        · first | omega | (dsimp only; omega)
        · exact hGl0
        · show k + 1 ≤ (s.lv level.toNat).length; omega
      · have c3k := c3
        try simp only [decide_eq_true_eq, decide_eq_false_iff_not, Int.not_lt, Int.not_le, gt_iff_lt, ge_iff_le, Bool.or_eq_true, Bool.and_eq_true, Bool.or_eq_false_iff, Bool.not_eq_true', Bool.not_eq_false', Int.toNat_natCast] at c3
        refine .skip ?_
        refine .blk ?_
        refine .code ?_
        refine Wk.rg [0, 1, 2] rfl rfl ?_
        refine mv rfl .no (.u rfl) ?_
        refine ar rfl .no (.u rfl) (.u rfl) rfl (fun _ => wrap_i64 (by omega) (by omega)) ?_
        refine asg rfl .no (.u rfl) ?_
        refine .nil ?_
        refine We.lpo (k + 1, v) ?_ ?_ ?_ ?_ ?_
        · exact (ESub.cons rfl rfl (ESub.cons rfl rfl (ESub.cons rfl rfl (ESub.cons rfl rfl (ESub.cons rfl rfl (ESub.cons rfl rfl ESub.nil))))))
        · exact (MSub.cons (.there .here) (ov_no (by omega) c3k) (MSub.cons (.there .here) rfl MSub.nil))
        · first | omega | (dsimp only; omega)
        · exact hGl0
        · show k + 1 ≤ (s.lv level.toNat).length; omega
    · have c2k := c2
      try simp only [decide_eq_true_eq, decide_eq_false_iff_not, Int.not_lt, Int.not_le, gt_iff_lt, ge_iff_le, Bool.or_eq_true, Bool.and_eq_true, Bool.or_eq_false_iff, Bool.not_eq_true', Bool.not_eq_false', Int.toNat_natCast] at c2
      refine .exit ?_
      refine .xcode ?_
      refine .xlp ?_
      refine .xblk ?_
      refine .code ?_
      refine .seq ?_
      refine Wk.rg [0, 1] rfl rfl ?_
      refine mv rfl .no (.u rfl) ?_
      refine asg rfl .no (.u rfl) ?_
      refine .nil ?_
      refine .code ?_
      refine .ret ?_
      refine we_fr .here (fun b hb => by cases hb) ?_
      intro Gf hh hlef hv hcap hnn hrd; subst hv
      refine We.fin0 Try.results28 (.tmp rfl .nil) ?_
      have hko : k = (s.lv level.toNat).length := by omega
      subst hko
      rw [List.take_length] at hcap hnn hrd
      exact ⟨rfl, hh, by rw [ovl_in c1, List.take_length]; rfl, by rw [ovl_in c1]; exact SlR.ofRow (metas_len _) hcap hnn hrd⟩

end Go.Proofs.Ytnhdaaggkdegpaa

namespace Go.Proofs.Ytnhdaaggkdegpaa
set_option linter.unusedSimpArgs false
set_option linter.unusedVariables false
open Go.Tan Go.RowKit

namespace Fx
theorem se33 : slE Try.prog 33 = some (5, 1, 1) := by kernel_rfl
theorem zv5 : (Try.prog.info? 5).bind (·.zero) = some (.int .u8 0) := by kernel_rfl
theorem cv24_5 : cvK Try.prog 24 5 = some .u8 := by kernel_rfl
theorem cv3_24 : cvK Try.prog 3 24 = some .u64 := by kernel_rfl
theorem go68 : goFn Try.prog 68 = true := by kernel_rfl
theorem sn33 : (slE Try.prog 33).isSome = true := by kernel_rfl
theorem cv5_24 : cvK Try.prog 5 24 = some .u64 := by kernel_rfl
end Fx
theorem Num_ok (xs : List Y) (h : Sh) (G : PM) (hs : SlR G 1 encY h xs) (n : BitVec 64) (hl : xs.length ≤ 100000000000000) : Ct Try.prog 68 ([h.val xs.length, uv .u64 n] : List Value).toArray G [] (PR 5 (fun L => L = xs ++ numN n.toNat)) := by
  refine Ct.of Try.func68 rfl Try.ntmps68 rfl fun w0 hs0 => ?_
  have ln := num_len10 n.isLt
  refine .seq ?_
  refine Wk.rg [0] rfl rfl ?_
  refine asg rfl .no (.u rfl) ?_
  refine .nil ?_
  refine .code ?_
  refine .seq ?_
  refine Wk.rg [0, 1, 2, 3] rfl rfl ?_
  refine b0B rfl Fx.se33 ?_; intro b6
  refine mv rfl .no (.u rfl) ?_
  refine apY0 rfl Fx.se33 Fx.zv5 (.u rfl) (.u rfl) .here hs.sc (by (try simp only [List.length_append, List.length_cons, List.length_nil, yl_len]); omega) ?_
  intro v8 L8 _ ov8 eL8
  have lL8 : L8.length = xs.length := by rw [eL8]
  refine asg rfl .no (.u rfl) ?_
  refine .nil ?_
  refine .code ?_
  refine .seq ?_
  refine .block ?_
  refine Wk.lop (α := BitVec 64 × Value × List Y) (fun gh => [(1, true, uv .u64 gh.1), (5, true, gh.2.1)]) (fun gh => [rB gh.2.1 5 gh.2.2])
    (fun gh Gl => (gh.2.2 ++ numN gh.1.toNat = xs ++ numN n.toNat)) (fun gh => gh.1.toNat) (n, v8, L8) [] []
    (ESub.cons rfl rfl (ESub.cons rfl rfl ESub.nil))
    (MSub.cons .here rfl MSub.nil) ?_ ?_
  · (try dsimp only) <;> (rw [eL8])
  intro gh N0 Gl0 hN0 hGl0 hF0
  obtain ⟨m, v, L⟩ := gh; dsimp only at hF0 hN0 ⊢
  have eq := hF0
  have hs := hs.mono hGl0
  have tq : @BitVec.toNat IntKind.u64.bits m = m.toNat := rfl
  have lq := congrArg List.length eq
  simp only [List.length_append] at lq
  have lp := num_pos m.toNat
  refine .seq ?_
  refine .seq ?_
  refine Wk.rg [0, 1] rfl rfl ?_
  refine mv rfl .no (.u rfl) ?_
  refine cp rfl .no (.u rfl) (.u rfl) rfl ?_
  refine .nil ?_
  refine .code ?_
  refine .cond rfl (fun c1 => ?_) (fun c1 => ?_)
  · have c1k := c1
    try simp only [decide_eq_true_eq, decide_eq_false_iff_not, Int.not_lt, Int.not_le, gt_iff_lt, ge_iff_le, Bool.or_eq_true, Bool.and_eq_true, Bool.or_eq_false_iff, Bool.and_eq_false_iff, Bool.not_eq_true', Bool.not_eq_false', Int.toNat_natCast, bne_iff_ne, beq_iff_eq, bne_eq_false_iff_eq, beq_eq_false_iff_ne, ne_eq] at c1
    refine .skip ?_
    refine .code ?_
    refine .seq ?_
    refine .block ?_
    refine Wk.rg [0, 1, 2, 3, 4, 5, 6] rfl rfl ?_
    refine mv rfl .no (.u rfl) ?_
    refine mv rfl .no (.u rfl) ?_
    refine cu (k := .u64) rfl .no rfl Fx.cv24_5 (.u rfl) ?_
    refine bw (k := .u8) (b := 128#8) rfl .no rfl (.u rfl) (.u rfl) rfl ?_
    refine Go.Tan.b1 rfl Fx.se33 Fx.zv5 (.u rfl) rfl rfl (by decide) ?_; intro b17
    refine apY rfl Fx.se33 Fx.zv5 (.u rfl) (.u rfl) (.there .here) (Sc.one .here) (by show _ + 1 ≤ _; omega) ?_
    intro v18 L18 ov18 eL18
    have lL18 : L18.length = L.length + 1 := by rw [eL18, List.length_append]; first | rfl | simp [yl_len]
    refine asg rfl .no (.u rfl) ?_
    refine .nil ?_
    refine .blk ?_
    refine .code ?_
    refine Wk.rg [0, 1, 2] rfl rfl ?_
    refine mv rfl .no (.u rfl) ?_
    refine rw' (k := .u64) rfl .no (.u rfl) (.u rfl) (fun _ => by decide) ?_
    refine asg rfl .no (.u rfl) ?_
    refine .nil ?_
    refine We.lpo (m >>> 7, v18, L18) ?_ ?_ ?_ ?_ ?_
    · exact (ESub.cons rfl rfl (ESub.cons rfl rfl ESub.nil))
    · exact (MSub.cons .here rfl MSub.nil)
    · (dsimp only; rw [shr7]; omega)
    · exact hGl0
    · (try dsimp only) <;> (rw [eL18, ← eq, num_more (m := m) (by omega), List.append_assoc]; rfl)
  · have c1k := c1
    try simp only [decide_eq_true_eq, decide_eq_false_iff_not, Int.not_lt, Int.not_le, gt_iff_lt, ge_iff_le, Bool.or_eq_true, Bool.and_eq_true, Bool.or_eq_false_iff, Bool.and_eq_false_iff, Bool.not_eq_true', Bool.not_eq_false', Int.toNat_natCast, bne_iff_ne, beq_iff_eq, bne_eq_false_iff_eq, beq_eq_false_iff_ne, ne_eq] at c1
    refine .exit ?_
    refine .xcode ?_
    refine .xlp ?_
    refine .xblk ?_
    refine .code ?_
    refine .seq ?_
    refine Wk.rg [0, 1, 2, 3, 4, 5] rfl rfl ?_
    refine mv rfl .no (.u rfl) ?_
    refine mv rfl .no (.u rfl) ?_
    refine cu (k := .u64) rfl .no rfl Fx.cv24_5 (.u rfl) ?_
    refine Go.Tan.b1 rfl Fx.se33 Fx.zv5 (.u rfl) rfl rfl (by decide) ?_; intro b22
    refine apY rfl Fx.se33 Fx.zv5 (.u rfl) (.u rfl) (.there .here) (Sc.one .here) (by show _ + 1 ≤ _; omega) ?_
    intro v23 L23 ov23 eL23
    have lL23 : L23.length = L.length + 1 := by rw [eL23, List.length_append]; first | rfl | simp [yl_len]
    refine asg rfl .no (.u rfl) ?_
    refine .nil ?_
    refine .code ?_
    refine .ret ?_
    refine We.fin Try.results68 (.tmp rfl .nil) (MSub.cons .here rfl MSub.nil) ?_
    exact ⟨L23, by rw [eL23, ← eq, num_last (m := m) (by omega)]; rfl, rfl⟩

theorem Num_i (xs : List Y) (h : Sh) (G : PM) (hs : SlR G 1 encY h xs) (x : Int) (hx : u64 x) (hl : xs.length ≤ 100000000000000) : Ct Try.prog 68 ([h.val xs.length, .int .u64 x] : List Value).toArray G [] (PR 5 (fun L => L = xs ++ numN x.toNat)) := by
  rw [uvI hx, ← ofI hx]; exact Num_ok xs h G hs _ hl
theorem Str_ok (xs : List Y) (h : Sh) (G : PM) (hs : SlR G 1 encY h xs) (s : ByteArray) (hl : xs.length + s.size ≤ 100000000000000) : Ct Try.prog 45 ([h.val xs.length, .string s] : List Value).toArray G [] (PR 5 (fun L => L = xs ++ strL (yb s))) := by
  refine Ct.of Try.func45 rfl Try.ntmps45 rfl fun w0 hs0 => ?_
  have ly := yb_len s
  have ln := num_len10 (n := s.size) (by omega)
  refine .seq ?_
  refine Wk.rg [0] rfl rfl ?_
  refine asg rfl .no (.u rfl) ?_
  refine .nil ?_
  refine .code ?_
  refine .seq ?_
  refine Wk.rg [0, 1, 2, 3, 4, 5, 6, 7] rfl rfl ?_
  refine mv rfl .no (.u rfl) ?_
  refine mv rfl .no (.u rfl) ?_
  refine ls rfl .no Fx.st9 (.u rfl) ?_
  refine cw rfl .no Fx.cv3_24 (.u rfl) (fun _ => wrap_u64 (by omega) (by omega)) ?_
  refine kc rfl Fx.go68 (Eva.cons (.u rfl) (Eva.cons (.u rfl) Eva.nil)) (Ct.rowc (Num_i xs h _ hs (s.size : Int) ⟨by omega, by omega⟩ (by omega))) ?_
  rintro v9 G9 μ9 hG9 ⟨L9, ov9, eL9, rfl⟩
  have hs := hs.mono hG9
  refine mv rfl .no (.u rfl) ?_
  have l9 : L9.length = xs.length + (numN s.size).length := by rw [eL9, List.length_append, Int.toNat_natCast]
  refine apT rfl Fx.se33 Fx.st9 Fx.zv5 (.u rfl) (.u rfl) .here (by (try simp only [List.length_append]); omega) ?_; intro v11 L11 ov11 eL11
  refine asg rfl .no (.u rfl) ?_
  refine .nil ?_
  refine .code ?_
  refine .ret ?_
  refine We.fin Try.results45 (.tmp rfl .nil) (MSub.cons .here rfl MSub.nil) ?_
  exact ⟨L11, by rw [eL11, eL9, strL, ly, Int.toNat_natCast, List.append_assoc], rfl⟩

theorem number_ok (xs : List Y) (h : Sh) (G : PM) (hs : SlR G 1 encY h xs) (hl : xs.length ≤ 100000000000000) : Ct Try.prog 59 ([h.val xs.length] : List Value).toArray G [] (fun _ μ' u => ∃ n k e, NumR xs n k e ∧ μ' = [] ∧ u = .tuple #[.int .u64 (n : Int), .int .i64 (k : Int), .int .i64 e]) := by
  refine Ct.of Try.func59 rfl Try.ntmps59 rfl fun w0 hs0 => ?_
  refine .seq ?_
  refine Wk.rg [0, 1, 2] rfl rfl ?_
  refine asg rfl .no (.u rfl) ?_
  refine asg rfl .no (.u rfl) ?_
  refine asg rfl .no (.u rfl) ?_
  refine .nil ?_
  refine .code ?_
  refine .seq ?_
  refine Wk.rg [0] rfl rfl ?_
  refine asg rfl .no (.u rfl) ?_
  refine .nil ?_
  refine .code ?_
  refine .seq ?_
  refine .seq ?_
  refine Wk.rg [0, 1, 2] rfl rfl ?_
  refine mv rfl .no (.u rfl) ?_
  refine ln rfl .no Fx.sn33 (.u rfl) ?_
  refine mv rfl .no (.u rfl) ?_
  refine .nil ?_
  refine .code ?_
  refine .block ?_
  refine Wk.lop (α := Nat × BitVec 64) (fun gh => [(5, true, uv .u64 gh.2), (10, true, .int .i64 (gh.1 : Int))]) (fun _ => [])
    (fun gh Gl => (gh.1 ≤ xs.length) ∧ (gh.1 ≤ 9) ∧ (gh.2.toNat < 128 ^ gh.1) ∧ (numP xs = numG gh.1 gh.2.toNat (xs.drop gh.1))) (fun gh => xs.length - gh.1) (0, 0#64) [(8, true, _), (9, true, _)] []
    (ESub.cons rfl rfl (ESub.cons rfl (by first | rfl | exact evi (by omega)) (ESub.cons rfl rfl (ESub.cons rfl rfl ESub.nil))))
    MSub.nil ?_ ?_
  · refine ⟨?_, ?_, ?_, ?_⟩
    · (try dsimp only) <;> (first | omega | rfl | assumption | (simp; done))
    · (try dsimp only) <;> (first | omega | rfl | assumption | (simp; done))
    · (try dsimp only) <;> (decide)
    · (try dsimp only) <;> (rfl)
  intro gh N0 Gl0 hN0 hGl0 hF0
  obtain ⟨k, w⟩ := gh; dsimp only at hF0 hN0 ⊢
  obtain ⟨hk, h9, hw, e⟩ := hF0
  have hs := hs.mono hGl0
  have tq : @BitVec.toNat IntKind.u8.bits (xs.getD k 0) = (xs.getD k 0).toNat := rfl
  refine .seq ?_
  refine Wk.rg [0] rfl rfl ?_
  refine cp rfl .no (.u rfl) (.u rfl) rfl ?_
  refine .nil ?_
  refine .code ?_
  refine .seq ?_
  refine .cond rfl (fun c1 => ?_) (fun c1 => ?_)
  · have c1k := c1
    try simp only [decide_eq_true_eq, decide_eq_false_iff_not, Int.not_lt, Int.not_le, gt_iff_lt, ge_iff_le, Bool.or_eq_true, Bool.and_eq_true, Bool.or_eq_false_iff, Bool.and_eq_false_iff, Bool.not_eq_true', Bool.not_eq_false', Int.toNat_natCast, bne_iff_ne, beq_iff_eq, bne_eq_false_iff_eq, beq_eq_false_iff_ne, ne_eq] at c1
    refine .skip ?_
    refine .code ?_
    refine .seq ?_
    refine .block ?_
    refine .seq ?_
    refine Wk.rg [0, 1, 2, 3, 4] rfl rfl ?_
    refine mv rfl .no (.u rfl) ?_
    refine ih rfl .no Fx.se33 (.u rfl) (.u rfl) (fun _ => by omega) (fun _ => by omega) (fun _ => hs.nn (k := k) (by omega)) ?_
    refine ld rfl .no Fx.ag5 (.u rfl) (fun _ => (hs.yat (k) (by omega) (by omega)).rd) ?_
    refine asg rfl .no (.u rfl) ?_
    refine asg rfl .no (.u rfl) ?_
    refine .nil ?_
    refine .code ?_
    refine .seq ?_
    refine .seq ?_
    refine Wk.rg [0, 1, 2, 3, 4, 5] rfl rfl ?_
    refine mv rfl .no (.u rfl) ?_
    refine cp rfl .no (.u rfl) (.u rfl) rfl ?_
    refine mv rfl .no (.u rfl) ?_
    refine mv rfl (.t rfl rfl) (.u rfl) ?_
    refine cp rfl (.t rfl rfl) (.s rfl) (.u rfl) rfl ?_
    refine pkA rfl .no (.u rfl) (.s rfl) ?_
    refine .nil ?_
    refine .code ?_
    refine .cond rfl (fun c2 => ?_) (fun c2 => ?_)
    · have c2k := c2
      try simp only [decide_eq_true_eq, decide_eq_false_iff_not, Int.not_lt, Int.not_le, gt_iff_lt, ge_iff_le, Bool.or_eq_true, Bool.and_eq_true, Bool.or_eq_false_iff, Bool.and_eq_false_iff, Bool.not_eq_true', Bool.not_eq_false', Int.toNat_natCast, bne_iff_ne, beq_iff_eq, bne_eq_false_iff_eq, beq_eq_false_iff_ne, ne_eq] at c2
      refine .seq ?_
      refine Wk.rg [0, 1, 2] rfl rfl ?_
      refine asg rfl .no (.u rfl) ?_
      refine asg rfl .no (.u rfl) ?_
      refine asg rfl .no (.u rfl) ?_
      refine .nil ?_
      refine .code ?_
      refine .ret ?_
      refine We.fin0 Try.results59 (.tmp rfl (.tmp rfl (.tmp rfl .nil))) ?_
      exact ⟨0, 0, 11, .of (np_form e (by omega) (by omega) (by omega)), rfl, rfl⟩
    · have c2k := c2
      try simp only [decide_eq_true_eq, decide_eq_false_iff_not, Int.not_lt, Int.not_le, gt_iff_lt, ge_iff_le, Bool.or_eq_true, Bool.and_eq_true, Bool.or_eq_false_iff, Bool.and_eq_false_iff, Bool.not_eq_true', Bool.not_eq_false', Int.toNat_natCast, bne_iff_ne, beq_iff_eq, bne_eq_false_iff_eq, beq_eq_false_iff_ne, ne_eq] at c2
      refine .skip ?_
      refine .code ?_
      refine .seq ?_
      refine Wk.rg [0, 1, 2, 3, 4, 5, 6, 7, 8] rfl rfl ?_
      refine mv rfl .no (.u rfl) ?_
      refine mv rfl .no (.u rfl) ?_
      refine bw (k := .u8) (b := 127#8) rfl .no rfl (.u rfl) (.u rfl) rfl ?_
      refine cu (k := .u8) rfl .no rfl Fx.cv5_24 (.u rfl) ?_
      refine mv rfl .no (.u rfl) ?_
      refine arn (((7 * k) : Nat) : Int) rfl .no (.u rfl) (.u rfl) rfl (fun _ => by omega) (fun _ => wrap_i64 (by omega) (by omega)) ?_
      refine lw (k := .u64) rfl .no rfl (.u rfl) (.u rfl) (fun _ => by omega) ?_
      refine bw (k := .u64) rfl .no rfl (.u rfl) (.u rfl) rfl ?_
      refine asg rfl .no (.u rfl) ?_
      refine .nil ?_
      refine .code ?_
      refine .seq ?_
      refine Wk.rg [0, 1] rfl rfl ?_
      refine mv rfl .no (.u rfl) ?_
      refine cp rfl .no (.u rfl) (.u rfl) rfl ?_
      refine .nil ?_
      refine .code ?_
      refine .cond rfl (fun c3 => ?_) (fun c3 => ?_)
      · have c3k := c3
        try simp only [decide_eq_true_eq, decide_eq_false_iff_not, Int.not_lt, Int.not_le, gt_iff_lt, ge_iff_le, Bool.or_eq_true, Bool.and_eq_true, Bool.or_eq_false_iff, Bool.and_eq_false_iff, Bool.not_eq_true', Bool.not_eq_false', Int.toNat_natCast, bne_iff_ne, beq_iff_eq, bne_eq_false_iff_eq, beq_eq_false_iff_ne, ne_eq] at c3
        refine .seq ?_
        refine .seq ?_
        refine Wk.rg [0, 1, 2, 3, 4, 5] rfl rfl ?_
        refine mv rfl .no (.u rfl) ?_
        refine cp rfl .no (.u rfl) (.u rfl) rfl ?_
        refine mv rfl .no (.u rfl) ?_
        refine mv rfl (.t rfl rfl) (.u rfl) ?_
        refine cp rfl (.t rfl rfl) (.s rfl) (.u rfl) rfl ?_
        refine pkA rfl .no (.u rfl) (.s rfl) ?_
        refine .nil ?_
        refine .code ?_
        refine .cond rfl (fun c4 => ?_) (fun c4 => ?_)
        · have c4k := c4
          try simp only [decide_eq_true_eq, decide_eq_false_iff_not, Int.not_lt, Int.not_le, gt_iff_lt, ge_iff_le, Bool.or_eq_true, Bool.and_eq_true, Bool.or_eq_false_iff, Bool.and_eq_false_iff, Bool.not_eq_true', Bool.not_eq_false', Int.toNat_natCast, bne_iff_ne, beq_iff_eq, bne_eq_false_iff_eq, beq_eq_false_iff_ne, ne_eq] at c4
          refine .seq ?_
          refine Wk.rg [0, 1, 2] rfl rfl ?_
          refine asg rfl .no (.u rfl) ?_
          refine asg rfl .no (.u rfl) ?_
          refine asg rfl .no (.u rfl) ?_
          refine .nil ?_
          refine .code ?_
          refine .ret ?_
          refine We.fin0 Try.results59 (.tmp rfl (.tmp rfl (.tmp rfl .nil))) ?_
          exact ⟨0, 0, 11, .of (np_zero e (by omega) (by omega) (by omega)), rfl, rfl⟩
        · have c4k := c4
          try simp only [decide_eq_true_eq, decide_eq_false_iff_not, Int.not_lt, Int.not_le, gt_iff_lt, ge_iff_le, Bool.or_eq_true, Bool.and_eq_true, Bool.or_eq_false_iff, Bool.and_eq_false_iff, Bool.not_eq_true', Bool.not_eq_false', Int.toNat_natCast, bne_iff_ne, beq_iff_eq, bne_eq_false_iff_eq, beq_eq_false_iff_ne, ne_eq] at c4
          refine .skip ?_
          refine .code ?_
          refine .seq ?_
          refine Wk.rg [0, 1, 2, 3, 4, 5] rfl rfl ?_
          refine mv rfl .no (.u rfl) ?_
          refine mv rfl .no (.u rfl) ?_
          refine arn (((k + 1) : Nat) : Int) rfl .no (.u rfl) (.u rfl) rfl (fun _ => by omega) (fun _ => wrap_i64 (by omega) (by omega)) ?_
          refine asg rfl .no (.u rfl) ?_
          refine asg rfl .no (.u rfl) ?_
          refine asg rfl .no (.u rfl) ?_
          refine .nil ?_
          refine .code ?_
          refine .ret ?_
          refine We.fin0 Try.results59 (.tmp rfl (.tmp rfl (.tmp rfl .nil))) ?_
          exact ⟨_, _, 0, .of (np_end e hw h9 (by omega) (by omega) (by omega) (by omega)), rfl, rfl⟩
      · have c3k := c3
        try simp only [decide_eq_true_eq, decide_eq_false_iff_not, Int.not_lt, Int.not_le, gt_iff_lt, ge_iff_le, Bool.or_eq_true, Bool.and_eq_true, Bool.or_eq_false_iff, Bool.and_eq_false_iff, Bool.not_eq_true', Bool.not_eq_false', Int.toNat_natCast, bne_iff_ne, beq_iff_eq, bne_eq_false_iff_eq, beq_eq_false_iff_ne, ne_eq] at c3
        refine .skip ?_
        refine .blk ?_
        refine .code ?_
        refine Wk.rg [0, 1] rfl rfl ?_
        refine arn (((k + 1) : Nat) : Int) rfl .no (.u rfl) (.u rfl) rfl (fun _ => by omega) (fun _ => wrap_i64 (by omega) (by omega)) ?_
        refine mv rfl .no (.u rfl) ?_
        refine .nil ?_
        refine We.lpo (k + 1, w ||| (xs.getD k 0 &&& 127#8).setWidth 64 <<< (7 * k)) ?_ ?_ ?_ ?_ ?_
        · exact (ESub.cons rfl rfl (ESub.cons rfl (by first | rfl | exact evi (by omega)) (ESub.cons rfl rfl (ESub.cons rfl rfl ESub.nil))))
        · exact MSub.nil
        · first | omega | (dsimp only; omega)
        · exact hGl0
        · refine ⟨?_, ?_, ?_, ?_⟩
          · (try dsimp only) <;> (first | omega | rfl | assumption | (simp; done))
          · (try dsimp only) <;> (exact (np_more e hw h9 (by omega) (by omega) (by omega)).2.2)
          · (try dsimp only) <;> (exact (np_more e hw h9 (by omega) (by omega) (by omega)).2.1)
          · (try dsimp only) <;> (exact (np_more e hw h9 (by omega) (by omega) (by omega)).1)
  · have c1k := c1
    try simp only [decide_eq_true_eq, decide_eq_false_iff_not, Int.not_lt, Int.not_le, gt_iff_lt, ge_iff_le, Bool.or_eq_true, Bool.and_eq_true, Bool.or_eq_false_iff, Bool.and_eq_false_iff, Bool.not_eq_true', Bool.not_eq_false', Int.toNat_natCast, bne_iff_ne, beq_iff_eq, bne_eq_false_iff_eq, beq_eq_false_iff_ne, ne_eq] at c1
    refine .exit ?_
    refine .xcode ?_
    refine .xlp ?_
    refine .xblk ?_
    refine .code ?_
    refine .seq ?_
    refine Wk.rg [0, 1, 2] rfl rfl ?_
    refine asg rfl .no (.u rfl) ?_
    refine asg rfl .no (.u rfl) ?_
    refine asg rfl .no (.u rfl) ?_
    refine .nil ?_
    refine .code ?_
    refine .ret ?_
    refine We.fin0 Try.results59 (.tmp rfl (.tmp rfl (.tmp rfl .nil))) ?_
    exact ⟨0, 0, 10, .of (np_short e (by omega)), rfl, rfl⟩

end Go.Proofs.Ytnhdaaggkdegpaa

namespace Go.Proofs.Ytnhdaaggkdegpaa
set_option linter.unusedSimpArgs false
set_option linter.unusedVariables false
open Go.Tan Go.RowKit

namespace Fx
theorem bp101_0 : bPl Try.prog 101 [0] = some ([.slice none 0 0, .int .i64 0], [(0, 1)]) := by kernel_rfl
theorem pt66 : ptT Try.prog 66 = true := by kernel_rfl
theorem fo101_1 : fOff Try.prog 101 1 = some 1 := by kernel_rfl
theorem ag35 : aggN Try.prog 35 = some none := by kernel_rfl
theorem fo101_0 : fOff Try.prog 101 0 = some 0 := by kernel_rfl
theorem ag33 : aggN Try.prog 33 = some none := by kernel_rfl
theorem go59 : goFn Try.prog 59 = true := by kernel_rfl
theorem sz35 : szT Try.prog 35 = some 1 := by kernel_rfl
theorem sz33 : szT Try.prog 33 = some 1 := by kernel_rfl
theorem cv24_3 : cvK Try.prog 24 3 = some .i64 := by kernel_rfl
theorem bs33_9 : bsT Try.prog 33 9 = true := by kernel_rfl
theorem go60 : goFn Try.prog 60 = true := by kernel_rfl
theorem go63 : goFn Try.prog 63 = true := by kernel_rfl
end Fx
theorem cNew_ok (xs : List Y) (h : Sh) (G : PM) (hs : SlR G 1 encY h xs) (hl : xs.length ≤ 100000000000000) : Ct Try.prog 35 ([h.val xs.length] : List Value).toArray G [] (fun G' μ' u => ∃ b s, μ' = [.blk b (cl [Sh.val s xs.length, .int .i64 0] 101)] ∧ u = .pointer (some ⟨b, 0, none⟩) ∧ SlR G' 1 encY s xs) := by
  refine Ct.of Try.func35 rfl Try.ntmps35 rfl fun w0 hs0 => ?_
  refine .seq ?_
  refine Wk.rg [0] rfl rfl ?_
  refine asg rfl .no (.u rfl) ?_
  refine .nil ?_
  refine .code ?_
  refine .seq ?_
  refine Wk.rg [0, 1, 2, 3, 4, 5] rfl rfl ?_
  refine b0B rfl Fx.se33 ?_; intro b3
  refine mv rfl .no (.u rfl) ?_
  refine apY0 rfl Fx.se33 Fx.zv5 (.u rfl) (.u rfl) .here hs.sc (by (try simp only [List.length_append, List.length_cons, List.length_nil, yl_len]); omega) ?_
  intro v5 L5 _ ov5 eL5
  have lL5 : L5.length = xs.length := by rw [eL5]
  refine bCe ([v5, .int .i64 0]) rfl .no Fx.bp101_0 (.cons (.u rfl) (cells_one ov5) .nil) rfl (rfl) ?_
  refine bx rfl (.u rfl) rfl ?_; intro b7
  refine asg rfl .no (.u rfl) ?_
  refine .nil ?_
  refine .code ?_
  refine .ret ?_
  refine we_fb (.there .here) (by first | (intro b hb; cases hb; done) | simp [keys, Res.keys]) ?_; intro GfR5 hR5 hleR5 evR5 hsR5; subst evR5
  have hs := hs.mono hleR5
  refine We.fin Try.results35 (.tmp rfl .nil) (MSub.cons .here rfl MSub.nil) ?_
  subst eL5
  exact ⟨b7, hR5, rfl, rfl, hsR5⟩

theorem rNum_ok (xs : List Y) (e : Int) (s : Sh) (b : Nat) (G : PM) (hs : SlR G 1 encY s xs) (hl : xs.length ≤ 100000000000000) : Ct Try.prog 36 ([.pointer (some ⟨b, 0, none⟩)] : List Value).toArray G [.blk b (cl [s.val xs.length, .int .i64 e] 101)] (fun G' μ' u => ∃ n L e' s', rdNum ⟨xs, e⟩ = (n, ⟨L, e'⟩) ∧ μ' = [.blk b (cl [Sh.val s' L.length, .int .i64 e'] 101)] ∧ u = .int .u64 (n : Int) ∧ SlR G' 1 encY s' L) := by
  refine Ct.of Try.func36 rfl Try.ntmps36 rfl fun w0 hs0 => ?_
  refine .seq ?_
  refine Wk.rg [0] rfl rfl ?_
  refine asg rfl .no (.u rfl) ?_
  refine .nil ?_
  refine .code ?_
  refine .seq ?_
  refine .seq ?_
  refine Wk.rg [0, 1, 2, 3, 4, 5, 6, 7, 8] rfl rfl ?_
  refine mv rfl .no (.u rfl) ?_
  refine pe rfl .no Fx.pt66 (.u rfl) (.u rfl) ?_
  refine mv rfl .no (.u rfl) ?_
  refine mv rfl (Gd.f (b := false) rfl rfl) (.u rfl) ?_
  refine nc rfl (Gd.f (b := false) rfl rfl) (.u rfl) ?_
  refine fz rfl (Gd.f (b := false) rfl rfl) Fx.fo101_1 (.u rfl) ?_
  refine ld rfl (Gd.f (b := false) rfl rfl) Fx.ag35 (.u rfl) (fun _ => Rd.own .here (by first | exact wap_f rfl | rfl)) ?_
  refine cp rfl (Gd.f (b := false) rfl rfl) (.u rfl) (.u rfl) rfl ?_
  refine pkO rfl .no (.u rfl) (.u rfl) ?_
  refine .nil ?_
  refine .code ?_
  refine .cond rfl (fun c1 => ?_) (fun c1 => ?_)
  · have c1k := c1
    try simp only [decide_eq_true_eq, decide_eq_false_iff_not, Int.not_lt, Int.not_le, gt_iff_lt, ge_iff_le, Bool.or_eq_true, Bool.and_eq_true, Bool.or_eq_false_iff, Bool.and_eq_false_iff, Bool.not_eq_true', Bool.not_eq_false', Int.toNat_natCast, bne_iff_ne, beq_iff_eq, bne_eq_false_iff_eq, beq_eq_false_iff_ne, ne_eq] at c1
    refine .seq ?_
    refine Wk.rg [0] rfl rfl ?_
    refine asg rfl .no (.u rfl) ?_
    refine .nil ?_
    refine .code ?_
    refine .ret ?_
    refine We.fin Try.results36 (.tmp rfl .nil) (MSub.cons .here rfl MSub.nil) ?_
    exact ⟨0, xs, e, s, rd_num_bad (by simpa using c1k), rfl, rfl, hs⟩
  · have c1k := c1
    try simp only [decide_eq_true_eq, decide_eq_false_iff_not, Int.not_lt, Int.not_le, gt_iff_lt, ge_iff_le, Bool.or_eq_true, Bool.and_eq_true, Bool.or_eq_false_iff, Bool.and_eq_false_iff, Bool.not_eq_true', Bool.not_eq_false', Int.toNat_natCast, bne_iff_ne, beq_iff_eq, bne_eq_false_iff_eq, beq_eq_false_iff_ne, ne_eq] at c1
    refine .skip ?_
    refine .code ?_
    refine .seq ?_
    refine Wk.rg [0, 1, 2, 3, 4, 5, 6, 7, 8, 9, 10, 11] rfl rfl ?_
    refine mv rfl .no (.u rfl) ?_
    refine nc rfl .no (.u rfl) ?_
    refine fz rfl .no Fx.fo101_0 (.u rfl) ?_
    refine ld rfl .no Fx.ag33 (.u rfl) (fun _ => Rd.own .here (by first | exact wap_f rfl | rfl)) ?_
    refine kc rfl Fx.go59 (Eva.cons (.u rfl) Eva.nil) (number_ok xs s _ hs hl) ?_
    rintro _ G20 μ20 hG20 ⟨n20, k20, e20, hN, rfl, rfl⟩
    have hNl := hN.le; have hNt := hN.lt
    have hs := hs.mono hG20
    refine mv rfl .no (.u rfl) ?_
    refine ex rfl .no (.u rfl) rfl ?_
    refine ex rfl .no (.u rfl) rfl ?_
    refine ex rfl .no (.u rfl) rfl ?_
    refine asg rfl .no (.u rfl) ?_
    refine asg rfl .no (.u rfl) ?_
    refine asg rfl .no (.u rfl) ?_
    refine .nil ?_
    refine .code ?_
    refine .seq ?_
    refine Wk.rg [0, 1, 2, 3, 4] rfl rfl ?_
    refine mv rfl .no (.u rfl) ?_
    refine mv rfl .no (.u rfl) ?_
    refine nc rfl .no (.u rfl) ?_
    refine fz rfl .no Fx.fo101_1 (.u rfl) ?_
    refine s1 rfl (.u rfl) (.u rfl) rfl Fx.sz35 .here (by first | decide | (simp only [wa_len, ba_len, List.length_append, List.length_cons, List.length_nil]; omega)) (rfl) ?_
    refine .nil ?_
    refine .code ?_
    refine .seq ?_
    refine Wk.rg [0, 1, 2, 3, 4, 5, 6, 7, 8, 9] rfl rfl ?_
    refine mv rfl .no (.u rfl) ?_
    refine mv rfl .no (.u rfl) ?_
    refine nc rfl .no (.u rfl) ?_
    refine fz rfl .no Fx.fo101_0 (.u rfl) ?_
    refine ld rfl .no Fx.ag33 (.u rfl) (fun _ => Rd.own .here (by first | exact wap_f rfl | rfl)) ?_
    refine mv rfl .no (.u rfl) ?_
    refine kD (k20) rfl .no Fx.se33 hs (.u rfl) (.u rfl) (fun _ => by omega) (fun _ => by omega) ?_
    intro h34 L34 eL34 lL34 hs34
    have lL34 := lL34 rfl
    refine nc rfl .no (.u rfl) ?_
    refine fz rfl .no Fx.fo101_0 (.u rfl) ?_
    refine s1 rfl (.u rfl) (.u rfl) rfl Fx.sz33 .here (show 0 < 2 by decide) (rfl) ?_
    refine .nil ?_
    refine .code ?_
    refine .seq ?_
    refine Wk.rg [0, 1] rfl rfl ?_
    refine mv rfl .no (.u rfl) ?_
    refine asg rfl .no (.u rfl) ?_
    refine .nil ?_
    refine .code ?_
    refine .ret ?_
    refine We.fin Try.results36 (.tmp rfl .nil) (MSub.cons .here rfl MSub.nil) ?_
    exact ⟨n20, L34, e20, h34, rd_num_ok (by simpa using c1k) hN eL34, rfl, rfl, hs34⟩

theorem rStr_ok (xs : List Y) (e : Int) (s : Sh) (b : Nat) (G : PM) (hs : SlR G 1 encY s xs) (hl : xs.length ≤ 100000000000000) (most : Nat) (hm : most ≤ 100000000000000) : Ct Try.prog 61 ([.pointer (some ⟨b, 0, none⟩), .int .i64 (most : Int)] : List Value).toArray G [.blk b (cl [s.val xs.length, .int .i64 e] 101)] (fun G' μ' u => ∃ M L e' s', rdStr most ⟨xs, e⟩ = (M, ⟨L, e'⟩) ∧ μ' = [.blk b (cl [Sh.val s' L.length, .int .i64 e'] 101)] ∧ u = .string (bstr M) ∧ SlR G' 1 encY s' L) := by
  refine Ct.of Try.func61 rfl Try.ntmps61 rfl fun w0 hs0 => ?_
  refine .seq ?_
  refine Wk.rg [0] rfl rfl ?_
  refine asg rfl .no (.u rfl) ?_
  refine .nil ?_
  refine .code ?_
  refine .seq ?_
  refine .seq ?_
  refine Wk.rg [0, 1, 2, 3, 4, 5, 6, 7, 8] rfl rfl ?_
  refine mv rfl .no (.u rfl) ?_
  refine pe rfl .no Fx.pt66 (.u rfl) (.u rfl) ?_
  refine mv rfl .no (.u rfl) ?_
  refine mv rfl (Gd.f (b := false) rfl rfl) (.u rfl) ?_
  refine nc rfl (Gd.f (b := false) rfl rfl) (.u rfl) ?_
  refine fz rfl (Gd.f (b := false) rfl rfl) Fx.fo101_1 (.u rfl) ?_
  refine ld rfl (Gd.f (b := false) rfl rfl) Fx.ag35 (.u rfl) (fun _ => Rd.own .here (by first | exact wap_f rfl | rfl)) ?_
  refine cp rfl (Gd.f (b := false) rfl rfl) (.u rfl) (.u rfl) rfl ?_
  refine pkO rfl .no (.u rfl) (.u rfl) ?_
  refine .nil ?_
  refine .code ?_
  refine .cond rfl (fun c1 => ?_) (fun c1 => ?_)
  · have c1k := c1
    try simp only [decide_eq_true_eq, decide_eq_false_iff_not, Int.not_lt, Int.not_le, gt_iff_lt, ge_iff_le, Bool.or_eq_true, Bool.and_eq_true, Bool.or_eq_false_iff, Bool.and_eq_false_iff, Bool.not_eq_true', Bool.not_eq_false', Int.toNat_natCast, bne_iff_ne, beq_iff_eq, bne_eq_false_iff_eq, beq_eq_false_iff_ne, ne_eq] at c1
    refine .seq ?_
    refine Wk.rg [0] rfl rfl ?_
    refine asg rfl .no (.u rfl) ?_
    refine .nil ?_
    refine .code ?_
    refine .ret ?_
    refine We.fin Try.results61 (.tmp rfl .nil) (MSub.cons .here rfl MSub.nil) ?_
    exact ⟨[], xs, e, s, rd_str_bad (by simpa using c1k), rfl, rfl, hs⟩
  · have c1k := c1
    try simp only [decide_eq_true_eq, decide_eq_false_iff_not, Int.not_lt, Int.not_le, gt_iff_lt, ge_iff_le, Bool.or_eq_true, Bool.and_eq_true, Bool.or_eq_false_iff, Bool.and_eq_false_iff, Bool.not_eq_true', Bool.not_eq_false', Int.toNat_natCast, bne_iff_ne, beq_iff_eq, bne_eq_false_iff_eq, beq_eq_false_iff_ne, ne_eq] at c1
    refine .skip ?_
    refine .code ?_
    refine .seq ?_
    refine Wk.rg [0, 1, 2, 3, 4, 5, 6, 7, 8, 9, 10, 11] rfl rfl ?_
    refine mv rfl .no (.u rfl) ?_
    refine nc rfl .no (.u rfl) ?_
    refine fz rfl .no Fx.fo101_0 (.u rfl) ?_
    refine ld rfl .no Fx.ag33 (.u rfl) (fun _ => Rd.own .here (by first | exact wap_f rfl | rfl)) ?_
    refine kc rfl Fx.go59 (Eva.cons (.u rfl) Eva.nil) (number_ok xs s _ hs hl) ?_
    rintro _ G24 μ24 hG24 ⟨n20, k20, e20, hN, rfl, rfl⟩
    have hNl := hN.le; have hNt := hN.lt
    have hs := hs.mono hG24
    refine mv rfl .no (.u rfl) ?_
    refine ex rfl .no (.u rfl) rfl ?_
    refine ex rfl .no (.u rfl) rfl ?_
    refine ex rfl .no (.u rfl) rfl ?_
    refine asg rfl .no (.u rfl) ?_
    refine asg rfl .no (.u rfl) ?_
    refine asg rfl .no (.u rfl) ?_
    refine .nil ?_
    refine .code ?_
    refine .seq ?_
    refine .block ?_
    refine .seq ?_
    refine Wk.rg [0, 1, 2] rfl rfl ?_
    refine mv rfl .no (.u rfl) ?_
    refine cp rfl .no (.u rfl) (.u rfl) rfl ?_
    refine asg rfl .no (.u rfl) ?_
    refine .nil ?_
    refine .code ?_
    refine .cond rfl (fun c2 => ?_) (fun c2 => ?_)
    · have c2k := c2
      try simp only [decide_eq_true_eq, decide_eq_false_iff_not, Int.not_lt, Int.not_le, gt_iff_lt, ge_iff_le, Bool.or_eq_true, Bool.and_eq_true, Bool.or_eq_false_iff, Bool.and_eq_false_iff, Bool.not_eq_true', Bool.not_eq_false', Int.toNat_natCast, bne_iff_ne, beq_iff_eq, bne_eq_false_iff_eq, beq_eq_false_iff_ne, ne_eq] at c2
      refine .seq ?_
      refine Wk.rg [0, 1, 2, 3, 4] rfl rfl ?_
      refine mv rfl .no (.u rfl) ?_
      refine mv rfl .no (.u rfl) ?_
      refine nc rfl .no (.u rfl) ?_
      refine fz rfl .no Fx.fo101_1 (.u rfl) ?_
      refine s1 rfl (.u rfl) (.u rfl) rfl Fx.sz35 .here (by first | decide | (simp only [wa_len, ba_len, List.length_append, List.length_cons, List.length_nil]; omega)) (rfl) ?_
      refine .nil ?_
      refine .code ?_
      refine .seq ?_
      refine Wk.rg [0] rfl rfl ?_
      refine asg rfl .no (.u rfl) ?_
      refine .nil ?_
      refine .code ?_
      refine .ret ?_
      refine We.fin Try.results61 (.tmp rfl .nil) (MSub.cons .here rfl MSub.nil) ?_
      exact ⟨[], xs, e20, s, rd_str_form (by simpa using c1k) hN (by simpa using c2k), rfl, rfl, hs⟩
    · have c2k := c2
      try simp only [decide_eq_true_eq, decide_eq_false_iff_not, Int.not_lt, Int.not_le, gt_iff_lt, ge_iff_le, Bool.or_eq_true, Bool.and_eq_true, Bool.or_eq_false_iff, Bool.and_eq_false_iff, Bool.not_eq_true', Bool.not_eq_false', Int.toNat_natCast, bne_iff_ne, beq_iff_eq, bne_eq_false_iff_eq, beq_eq_false_iff_ne, ne_eq] at c2
      refine .seq ?_
      refine Wk.rg [0, 1, 2, 3, 4, 5] rfl rfl ?_
      refine mv rfl .no (.u rfl) ?_
      refine mv rfl .no (.u rfl) ?_
      refine mAn (0) (most) rfl .no (.u rfl) (.u rfl) (fun _ => by omega) (fun _ => by omega) ?_
      refine cw rfl .no Fx.cv3_24 (.u rfl) (fun _ => wrap_u64 (by omega) (by omega)) ?_
      refine cp rfl .no (.u rfl) (.u rfl) rfl ?_
      refine asg rfl .no (.u rfl) ?_
      refine .nil ?_
      refine .code ?_
      refine .cond rfl (fun c3 => ?_) (fun c3 => ?_)
      · have c3k := c3
        try simp only [decide_eq_true_eq, decide_eq_false_iff_not, Int.not_lt, Int.not_le, gt_iff_lt, ge_iff_le, Bool.or_eq_true, Bool.and_eq_true, Bool.or_eq_false_iff, Bool.and_eq_false_iff, Bool.not_eq_true', Bool.not_eq_false', Int.toNat_natCast, bne_iff_ne, beq_iff_eq, bne_eq_false_iff_eq, beq_eq_false_iff_ne, ne_eq] at c3
        refine .seq ?_
        refine Wk.rg [0, 1, 2, 3] rfl rfl ?_
        refine mv rfl .no (.u rfl) ?_
        refine nc rfl .no (.u rfl) ?_
        refine fz rfl .no Fx.fo101_1 (.u rfl) ?_
        refine s1 rfl (.u rfl) (.u rfl) rfl Fx.sz35 .here (by first | decide | (simp only [wa_len, ba_len, List.length_append, List.length_cons, List.length_nil]; omega)) (rfl) ?_
        refine .nil ?_
        refine .code ?_
        refine .seq ?_
        refine Wk.rg [0] rfl rfl ?_
        refine asg rfl .no (.u rfl) ?_
        refine .nil ?_
        refine .code ?_
        refine .ret ?_
        refine We.fin Try.results61 (.tmp rfl .nil) (MSub.cons .here rfl MSub.nil) ?_
        exact ⟨[], xs, 4, s, rd_str_long (by simpa using c1k) hN (by simpa using c2k) (by omega), rfl, rfl, hs⟩
      · have c3k := c3
        try simp only [decide_eq_true_eq, decide_eq_false_iff_not, Int.not_lt, Int.not_le, gt_iff_lt, ge_iff_le, Bool.or_eq_true, Bool.and_eq_true, Bool.or_eq_false_iff, Bool.and_eq_false_iff, Bool.not_eq_true', Bool.not_eq_false', Int.toNat_natCast, bne_iff_ne, beq_iff_eq, bne_eq_false_iff_eq, beq_eq_false_iff_ne, ne_eq] at c3
        refine .seq ?_
        refine Wk.rg [0, 1, 2, 3, 4, 5, 6, 7, 8, 9, 10] rfl rfl ?_
        refine mv rfl .no (.u rfl) ?_
        refine mv rfl .no (.u rfl) ?_
        refine nc rfl .no (.u rfl) ?_
        refine fz rfl .no Fx.fo101_0 (.u rfl) ?_
        refine ld rfl .no Fx.ag33 (.u rfl) (fun _ => Rd.own .here (by first | exact wap_f rfl | rfl)) ?_
        refine ln rfl .no Fx.sn33 (.u rfl) ?_
        refine mv rfl .no (.u rfl) ?_
        refine ar rfl .no (.u rfl) (.u rfl) rfl (fun _ => wrap_i64 (by omega) (by omega)) ?_
        refine cw rfl .no Fx.cv3_24 (.u rfl) (fun _ => wrap_u64 (by omega) (by omega)) ?_
        refine cp rfl .no (.u rfl) (.u rfl) rfl ?_
        refine asg rfl .no (.u rfl) ?_
        refine .nil ?_
        refine .code ?_
        refine .cond rfl (fun c4 => ?_) (fun c4 => ?_)
        · have c4k := c4
          try simp only [decide_eq_true_eq, decide_eq_false_iff_not, Int.not_lt, Int.not_le, gt_iff_lt, ge_iff_le, Bool.or_eq_true, Bool.and_eq_true, Bool.or_eq_false_iff, Bool.and_eq_false_iff, Bool.not_eq_true', Bool.not_eq_false', Int.toNat_natCast, bne_iff_ne, beq_iff_eq, bne_eq_false_iff_eq, beq_eq_false_iff_ne, ne_eq] at c4
          refine .seq ?_
          refine Wk.rg [0, 1, 2, 3] rfl rfl ?_
          refine mv rfl .no (.u rfl) ?_
          refine nc rfl .no (.u rfl) ?_
          refine fz rfl .no Fx.fo101_1 (.u rfl) ?_
          refine s1 rfl (.u rfl) (.u rfl) rfl Fx.sz35 .here (by first | decide | (simp only [wa_len, ba_len, List.length_append, List.length_cons, List.length_nil]; omega)) (rfl) ?_
          refine .nil ?_
          refine .code ?_
          refine .seq ?_
          refine Wk.rg [0] rfl rfl ?_
          refine asg rfl .no (.u rfl) ?_
          refine .nil ?_
          refine .code ?_
          refine .ret ?_
          refine We.fin Try.results61 (.tmp rfl .nil) (MSub.cons .here rfl MSub.nil) ?_
          exact ⟨[], xs, 10, s, rd_str_short (by simpa using c1k) hN (by simpa using c2k) (by omega) (by omega), rfl, rfl, hs⟩
        · have c4k := c4
          try simp only [decide_eq_true_eq, decide_eq_false_iff_not, Int.not_lt, Int.not_le, gt_iff_lt, ge_iff_le, Bool.or_eq_true, Bool.and_eq_true, Bool.or_eq_false_iff, Bool.and_eq_false_iff, Bool.not_eq_true', Bool.not_eq_false', Int.toNat_natCast, bne_iff_ne, beq_iff_eq, bne_eq_false_iff_eq, beq_eq_false_iff_ne, ne_eq] at c4
          refine .skip ?_
          refine .blk ?_
          refine .code ?_
          refine .seq ?_
          refine Wk.rg [0, 1, 2, 3, 4] rfl rfl ?_
          refine mv rfl .no (.u rfl) ?_
          refine mv rfl .no (.u rfl) ?_
          refine cw rfl .no Fx.cv24_3 (.u rfl) (fun _ => wrap_i64 (by omega) (by omega)) ?_
          refine arn (((k20 + n20) : Nat) : Int) rfl .no (.u rfl) (.u rfl) rfl (fun _ => by omega) (fun _ => wrap_i64 (by omega) (by omega)) ?_
          refine asg rfl .no (.u rfl) ?_
          refine .nil ?_
          refine .code ?_
          refine .seq ?_
          refine Wk.rg [0, 1, 2, 3, 4, 5, 6, 7, 8] rfl rfl ?_
          refine mv rfl .no (.u rfl) ?_
          refine nc rfl .no (.u rfl) ?_
          refine fz rfl .no Fx.fo101_0 (.u rfl) ?_
          refine ld rfl .no Fx.ag33 (.u rfl) (fun _ => Rd.own .here (by first | exact wap_f rfl | rfl)) ?_
          refine mv rfl .no (.u rfl) ?_
          refine mv rfl .no (.u rfl) ?_
          refine kS (k20) ((k20 + n20)) rfl .no Fx.se33 hs (.u rfl) (.u rfl) (.u rfl) (fun _ => by omega) (fun _ => by omega) (fun _ => by omega) (fun _ => by omega) ?_
          intro h68 L68 eL68 lL68 hs68
          have lL68 := lL68 rfl
          refine sB rfl .no Fx.bs33_9 (.u rfl) (fun _ => hs68.sc) ?_
          refine asg rfl .no (.u rfl) ?_
          refine .nil ?_
          refine .code ?_
          refine .seq ?_
          refine Wk.rg [0, 1, 2, 3, 4, 5, 6, 7, 8, 9] rfl rfl ?_
          refine mv rfl .no (.u rfl) ?_
          refine mv rfl .no (.u rfl) ?_
          refine nc rfl .no (.u rfl) ?_
          refine fz rfl .no Fx.fo101_0 (.u rfl) ?_
          refine ld rfl .no Fx.ag33 (.u rfl) (fun _ => Rd.own .here (by first | exact wap_f rfl | rfl)) ?_
          refine mv rfl .no (.u rfl) ?_
          refine kD ((k20 + n20)) rfl .no Fx.se33 hs (.u rfl) (.u rfl) (fun _ => by omega) (fun _ => by omega) ?_
          intro h76 L76 eL76 lL76 hs76
          have lL76 := lL76 rfl
          refine nc rfl .no (.u rfl) ?_
          refine fz rfl .no Fx.fo101_0 (.u rfl) ?_
          refine s1 rfl (.u rfl) (.u rfl) rfl Fx.sz33 .here (by first | decide | (simp only [wa_len, ba_len, List.length_append, List.length_cons, List.length_nil]; omega)) (rfl) ?_
          refine .nil ?_
          refine .code ?_
          refine .seq ?_
          refine Wk.rg [0, 1] rfl rfl ?_
          refine mv rfl .no (.u rfl) ?_
          refine asg rfl .no (.u rfl) ?_
          refine .nil ?_
          refine .code ?_
          refine .ret ?_
          refine We.fin Try.results61 (.tmp rfl .nil) (MSub.cons .here rfl MSub.nil) ?_
          obtain rfl : e = 0 := by simpa using c1k
          exact ⟨L68, L76, 0, h76, rd_str_ok rfl hN (by simpa using c2k) (by omega) (by omega) eL68 eL76, rfl, rfl, hs76⟩

theorem rFix_ok (xs : List Y) (e : Int) (s : Sh) (b : Nat) (G : PM) (hs : SlR G 1 encY s xs) (hl : xs.length ≤ 100000000000000) : Ct Try.prog 62 ([.pointer (some ⟨b, 0, none⟩), .int .i64 ((1 : Nat) : Int)] : List Value).toArray G [.blk b (cl [s.val xs.length, .int .i64 e] 101)] (fun G' μ' u => ∃ y L e' s', rdByte ⟨xs, e⟩ = (y, ⟨L, e'⟩) ∧ μ' = [.blk b (cl [Sh.val s' L.length, .int .i64 e'] 101)] ∧ u = uv .u64 (y.setWidth 64) ∧ SlR G' 1 encY s' L) := by
  refine Ct.of Try.func62 rfl Try.ntmps62 rfl fun w0 hs0 => ?_
  refine .seq ?_
  refine Wk.rg [0] rfl rfl ?_
  refine asg rfl .no (.u rfl) ?_
  refine .nil ?_
  refine .code ?_
  refine .seq ?_
  refine .seq ?_
  refine Wk.rg [0, 1, 2, 3, 4, 5, 6, 7, 8] rfl rfl ?_
  refine mv rfl .no (.u rfl) ?_
  refine pe rfl .no Fx.pt66 (.u rfl) (.u rfl) ?_
  refine mv rfl .no (.u rfl) ?_
  refine mv rfl (Gd.f (b := false) rfl rfl) (.u rfl) ?_
  refine nc rfl (Gd.f (b := false) rfl rfl) (.u rfl) ?_
  refine fz rfl (Gd.f (b := false) rfl rfl) Fx.fo101_1 (.u rfl) ?_
  refine ld rfl (Gd.f (b := false) rfl rfl) Fx.ag35 (.u rfl) (fun _ => Rd.own .here (by first | exact wap_f rfl | rfl)) ?_
  refine cp rfl (Gd.f (b := false) rfl rfl) (.u rfl) (.u rfl) rfl ?_
  refine pkO rfl .no (.u rfl) (.u rfl) ?_
  refine .nil ?_
  refine .code ?_
  refine .cond rfl (fun c1 => ?_) (fun c1 => ?_)
  · have c1k := c1
    try simp only [decide_eq_true_eq, decide_eq_false_iff_not, Int.not_lt, Int.not_le, gt_iff_lt, ge_iff_le, Bool.or_eq_true, Bool.and_eq_true, Bool.or_eq_false_iff, Bool.and_eq_false_iff, Bool.not_eq_true', Bool.not_eq_false', Int.toNat_natCast, bne_iff_ne, beq_iff_eq, bne_eq_false_iff_eq, beq_eq_false_iff_ne, ne_eq] at c1
    refine .seq ?_
    refine Wk.rg [0] rfl rfl ?_
    refine asg rfl .no (.u rfl) ?_
    refine .nil ?_
    refine .code ?_
    refine .ret ?_
    refine We.fin Try.results62 (.tmp rfl .nil) (MSub.cons .here rfl MSub.nil) ?_
    exact ⟨0, xs, e, s, rd_byte_bad (by simpa using c1k), rfl, rfl, hs⟩
  · have c1k := c1
    try simp only [decide_eq_true_eq, decide_eq_false_iff_not, Int.not_lt, Int.not_le, gt_iff_lt, ge_iff_le, Bool.or_eq_true, Bool.and_eq_true, Bool.or_eq_false_iff, Bool.and_eq_false_iff, Bool.not_eq_true', Bool.not_eq_false', Int.toNat_natCast, bne_iff_ne, beq_iff_eq, bne_eq_false_iff_eq, beq_eq_false_iff_ne, ne_eq] at c1
    refine .skip ?_
    refine .code ?_
    refine .seq ?_
    refine .seq ?_
    refine Wk.rg [0, 1, 2, 3, 4, 5] rfl rfl ?_
    refine mv rfl .no (.u rfl) ?_
    refine cp rfl .no (.u rfl) (.u rfl) rfl ?_
    refine mv rfl .no (.u rfl) ?_
    refine mv rfl (.f rfl rfl) (.u rfl) ?_
    refine cp rfl (.f rfl rfl) (.s rfl) (.u rfl) rfl ?_
    refine pkO rfl .no (.u rfl) (.s rfl) ?_
    refine .nil ?_
    refine .code ?_
    refine .cond rfl (fun c2 => ?_) (fun c2 => ?_)
    · have c2k := c2
      exact absurd c2 (by decide)
    · have c2k := c2
      try simp only [decide_eq_true_eq, decide_eq_false_iff_not, Int.not_lt, Int.not_le, gt_iff_lt, ge_iff_le, Bool.or_eq_true, Bool.and_eq_true, Bool.or_eq_false_iff, Bool.and_eq_false_iff, Bool.not_eq_true', Bool.not_eq_false', Int.toNat_natCast, bne_iff_ne, beq_iff_eq, bne_eq_false_iff_eq, beq_eq_false_iff_ne, ne_eq] at c2
      refine .skip ?_
      refine .code ?_
      refine .seq ?_
      refine .seq ?_
      refine Wk.rg [0, 1, 2, 3, 4, 5, 6] rfl rfl ?_
      refine mv rfl .no (.u rfl) ?_
      refine mv rfl .no (.u rfl) ?_
      refine nc rfl .no (.u rfl) ?_
      refine fz rfl .no Fx.fo101_0 (.u rfl) ?_
      refine ld rfl .no Fx.ag33 (.u rfl) (fun _ => Rd.own .here (by first | exact wap_f rfl | rfl)) ?_
      refine ln rfl .no Fx.sn33 (.u rfl) ?_
      refine cp rfl .no (.u rfl) (.u rfl) rfl ?_
      refine .nil ?_
      refine .code ?_
      refine .cond rfl (fun c3 => ?_) (fun c3 => ?_)
      · have c3k := c3
        try simp only [decide_eq_true_eq, decide_eq_false_iff_not, Int.not_lt, Int.not_le, gt_iff_lt, ge_iff_le, Bool.or_eq_true, Bool.and_eq_true, Bool.or_eq_false_iff, Bool.and_eq_false_iff, Bool.not_eq_true', Bool.not_eq_false', Int.toNat_natCast, bne_iff_ne, beq_iff_eq, bne_eq_false_iff_eq, beq_eq_false_iff_ne, ne_eq] at c3
        refine .seq ?_
        refine Wk.rg [0, 1, 2, 3] rfl rfl ?_
        refine mv rfl .no (.u rfl) ?_
        refine nc rfl .no (.u rfl) ?_
        refine fz rfl .no Fx.fo101_1 (.u rfl) ?_
        refine s1 rfl (.u rfl) (.u rfl) rfl Fx.sz35 .here (by first | decide | (simp only [wa_len, ba_len, List.length_append, List.length_cons, List.length_nil]; omega)) (rfl) ?_
        refine .nil ?_
        refine .code ?_
        refine .seq ?_
        refine Wk.rg [0] rfl rfl ?_
        refine asg rfl .no (.u rfl) ?_
        refine .nil ?_
        refine .code ?_
        refine .ret ?_
        refine We.fin Try.results62 (.tmp rfl .nil) (MSub.cons .here rfl MSub.nil) ?_
        exact ⟨0, xs, 10, s, rd_byte_short (by simpa using c1k) (by omega), rfl, rfl, hs⟩
      · have c3k := c3
        try simp only [decide_eq_true_eq, decide_eq_false_iff_not, Int.not_lt, Int.not_le, gt_iff_lt, ge_iff_le, Bool.or_eq_true, Bool.and_eq_true, Bool.or_eq_false_iff, Bool.and_eq_false_iff, Bool.not_eq_true', Bool.not_eq_false', Int.toNat_natCast, bne_iff_ne, beq_iff_eq, bne_eq_false_iff_eq, beq_eq_false_iff_ne, ne_eq] at c3
        refine .skip ?_
        refine .code ?_
        refine .seq ?_
        refine Wk.rg [0] rfl rfl ?_
        refine asg rfl .no (.u rfl) ?_
        refine .nil ?_
        refine .code ?_
        refine .seq ?_
        refine .seq ?_
        refine Wk.rg [0, 1] rfl rfl ?_
        refine mv rfl .no (.u rfl) ?_
        refine mv rfl .no (.u rfl) ?_
        refine .nil ?_
        refine .code ?_
        refine .block ?_
        refine Wk.lop (α := Nat × BitVec 64) (fun gh => [(5, true, uv .u64 gh.2), (36, true, .int .i64 (gh.1 : Int))]) (fun _ => [])
          (fun gh Gl => (gh.1 ≤ 1) ∧ (gh.2 = if gh.1 = 0 then 0#64 else (xs.getD 0 0).setWidth 64)) (fun gh => 1 - gh.1) (0, 0#64) [(0, true, _), (1, true, _), (35, true, _)] [_]
          (ESub.cons rfl rfl (ESub.cons rfl (by first | rfl | exact evi (by omega)) (ESub.cons rfl rfl (ESub.cons rfl rfl (ESub.cons rfl rfl ESub.nil)))))
          (MSub.cons .here rfl MSub.nil) ?_ ?_
        · refine ⟨?_, ?_⟩
          · (try dsimp only) <;> (first | omega | rfl | assumption | (simp; done))
          · (try dsimp only) <;> (rfl)
        intro gh N0 Gl0 hN0 hGl0 hF0
        obtain ⟨k, m⟩ := gh; dsimp only at hF0 hN0 ⊢
        obtain ⟨hk, em⟩ := hF0
        have hs := hs.mono hGl0
        refine .seq ?_
        refine Wk.rg [0] rfl rfl ?_
        refine cp rfl .no (.u rfl) (.u rfl) rfl ?_
        refine .nil ?_
        refine .code ?_
        refine .seq ?_
        refine .cond rfl (fun c4 => ?_) (fun c4 => ?_)
        · have c4k := c4
          try simp only [decide_eq_true_eq, decide_eq_false_iff_not, Int.not_lt, Int.not_le, gt_iff_lt, ge_iff_le, Bool.or_eq_true, Bool.and_eq_true, Bool.or_eq_false_iff, Bool.and_eq_false_iff, Bool.not_eq_true', Bool.not_eq_false', Int.toNat_natCast, bne_iff_ne, beq_iff_eq, bne_eq_false_iff_eq, beq_eq_false_iff_ne, ne_eq] at c4
          refine .skip ?_
          refine .code ?_
          refine .seq ?_
          refine .block ?_
          refine .seq ?_
          refine Wk.rg [0, 1] rfl rfl ?_
          refine mv rfl .no (.u rfl) ?_
          refine asg rfl .no (.u rfl) ?_
          refine .nil ?_
          refine .code ?_
          refine Wk.rg [0, 1, 2, 3, 4, 5, 6, 7, 8, 9, 10, 11, 12, 13] rfl rfl ?_
          refine mv rfl .no (.u rfl) ?_
          refine mv rfl .no (.u rfl) ?_
          refine nc rfl .no (.u rfl) ?_
          refine fz rfl .no Fx.fo101_0 (.u rfl) ?_
          refine ld rfl .no Fx.ag33 (.u rfl) (fun _ => Rd.own .here (by first | exact wap_f rfl | rfl)) ?_
          refine mv rfl .no (.u rfl) ?_
          refine ih rfl .no Fx.se33 (.u rfl) (.u rfl) (fun _ => by omega) (fun _ => by omega) (fun _ => hs.nn (k := k) (by omega)) ?_
          refine ld rfl .no Fx.ag5 (.u rfl) (fun _ => (hs.yat (k) (by omega) (by omega)).rd) ?_
          refine cu (k := .u8) rfl .no rfl Fx.cv5_24 (.u rfl) ?_
          refine mv rfl .no (.u rfl) ?_
          refine arn (((8 * k) : Nat) : Int) rfl .no (.u rfl) (.u rfl) rfl (fun _ => by omega) (fun _ => wrap_i64 (by omega) (by omega)) ?_
          refine lw (k := .u64) rfl .no rfl (.u rfl) (.u rfl) (fun _ => by omega) ?_
          refine bw (k := .u64) rfl .no rfl (.u rfl) (.u rfl) rfl ?_
          refine asg rfl .no (.u rfl) ?_
          refine .nil ?_
          refine .blk ?_
          refine .code ?_
          refine Wk.rg [0, 1] rfl rfl ?_
          refine arn (((k + 1) : Nat) : Int) rfl .no (.u rfl) (.u rfl) rfl (fun _ => by omega) (fun _ => wrap_i64 (by omega) (by omega)) ?_
          refine mv rfl .no (.u rfl) ?_
          refine .nil ?_
          refine We.lpo (k + 1, m ||| (xs.getD k 0).setWidth 64 <<< (8 * k)) ?_ ?_ ?_ ?_ ?_
          · exact (ESub.cons rfl rfl (ESub.cons rfl (by first | rfl | exact evi (by omega)) (ESub.cons rfl rfl (ESub.cons rfl rfl (ESub.cons rfl rfl ESub.nil)))))
          · exact (MSub.cons .here rfl MSub.nil)
          · first | omega | (dsimp only; omega)
          · exact hGl0
          · refine ⟨?_, ?_⟩
            · (try dsimp only) <;> (first | omega | rfl | assumption | (simp; done))
            · (try dsimp only) <;> ((obtain rfl : k = 0 := by omega); rw [em, if_pos rfl]; simp)
        · have c4k := c4
          try simp only [decide_eq_true_eq, decide_eq_false_iff_not, Int.not_lt, Int.not_le, gt_iff_lt, ge_iff_le, Bool.or_eq_true, Bool.and_eq_true, Bool.or_eq_false_iff, Bool.and_eq_false_iff, Bool.not_eq_true', Bool.not_eq_false', Int.toNat_natCast, bne_iff_ne, beq_iff_eq, bne_eq_false_iff_eq, beq_eq_false_iff_ne, ne_eq] at c4
          refine .exit ?_
          refine .xcode ?_
          refine .xlp ?_
          refine .xblk ?_
          refine .code ?_
          refine .seq ?_
          refine Wk.rg [0, 1, 2, 3, 4, 5, 6, 7, 8, 9] rfl rfl ?_
          refine mv rfl .no (.u rfl) ?_
          refine mv rfl .no (.u rfl) ?_
          refine nc rfl .no (.u rfl) ?_
          refine fz rfl .no Fx.fo101_0 (.u rfl) ?_
          refine ld rfl .no Fx.ag33 (.u rfl) (fun _ => Rd.own .here (by first | exact wap_f rfl | rfl)) ?_
          refine mv rfl .no (.u rfl) ?_
          refine kD (1) rfl .no Fx.se33 hs (.u rfl) (.u rfl) (fun _ => by omega) (fun _ => by omega) ?_
          intro h59 L59 eL59 lL59 hs59
          have lL59 := lL59 rfl
          refine nc rfl .no (.u rfl) ?_
          refine fz rfl .no Fx.fo101_0 (.u rfl) ?_
          refine s1 rfl (.u rfl) (.u rfl) rfl Fx.sz33 .here (by first | decide | (simp only [wa_len, ba_len, List.length_append, List.length_cons, List.length_nil]; omega)) (rfl) ?_
          refine .nil ?_
          refine .code ?_
          refine .seq ?_
          refine Wk.rg [0, 1] rfl rfl ?_
          refine mv rfl .no (.u rfl) ?_
          refine asg rfl .no (.u rfl) ?_
          refine .nil ?_
          refine .code ?_
          refine .ret ?_
          refine We.fin Try.results62 (.tmp rfl .nil) (MSub.cons .here rfl MSub.nil) ?_
          obtain rfl : k = 1 := by omega
          obtain rfl : e = 0 := by simpa using c1k
          exact ⟨_, L59, 0, h59, rd_byte_ok rfl (by omega) eL59, rfl, by rw [em]; rfl, hs59⟩

theorem rFault_ok (xs : List Y) (e : Int) (s : Sh) (b : Nat) (G : PM) (hp : RdNP G b 0 [s.val xs.length, .int .i64 e]) : Ct Try.prog 60 ([.pointer (some ⟨b, 0, none⟩)] : List Value).toArray G [] (fun _ μ' u => μ' = [] ∧ u = .int .i64 e) := by
  refine Ct.of Try.func60 rfl Try.ntmps60 rfl fun w0 hs0 => ?_
  refine .seq ?_
  refine Wk.rg [0] rfl rfl ?_
  refine asg rfl .no (.u rfl) ?_
  refine .nil ?_
  refine .code ?_
  refine .seq ?_
  refine .seq ?_
  refine Wk.rg [0, 1] rfl rfl ?_
  refine mv rfl .no (.u rfl) ?_
  refine pe rfl .no Fx.pt66 (.u rfl) (.u rfl) ?_
  refine .nil ?_
  refine .code ?_
  refine Wk.condF rfl rfl ?_
  refine .skip ?_
  refine .code ?_
  refine .seq ?_
  refine Wk.rg [0, 1, 2, 3, 4] rfl rfl ?_
  refine mv rfl .no (.u rfl) ?_
  refine nc rfl .no (.u rfl) ?_
  refine fz rfl .no Fx.fo101_1 (.u rfl) ?_
  refine ld rfl .no Fx.ag35 (.u rfl) (fun _ => (hp.z rfl).rd) ?_
  refine asg rfl .no (.u rfl) ?_
  refine .nil ?_
  refine .code ?_
  refine .ret ?_
  refine We.fin0 Try.results60 (.tmp rfl .nil) ?_
  exact ⟨rfl, rfl⟩

theorem rLeft_ok (xs : List Y) (e : Int) (s : Sh) (b : Nat) (G : PM) (hp : RdNP G b 0 [s.val xs.length, .int .i64 e]) : Ct Try.prog 63 ([.pointer (some ⟨b, 0, none⟩)] : List Value).toArray G [] (fun _ μ' u => μ' = [] ∧ u = .int .i64 (xs.length : Int)) := by
  refine Ct.of Try.func63 rfl Try.ntmps63 rfl fun w0 hs0 => ?_
  refine .seq ?_
  refine Wk.rg [0] rfl rfl ?_
  refine asg rfl .no (.u rfl) ?_
  refine .nil ?_
  refine .code ?_
  refine .seq ?_
  refine .seq ?_
  refine Wk.rg [0, 1] rfl rfl ?_
  refine mv rfl .no (.u rfl) ?_
  refine pe rfl .no Fx.pt66 (.u rfl) (.u rfl) ?_
  refine .nil ?_
  refine .code ?_
  refine Wk.condF rfl rfl ?_
  refine .skip ?_
  refine .code ?_
  refine .seq ?_
  refine Wk.rg [0, 1, 2, 3, 4, 5] rfl rfl ?_
  refine mv rfl .no (.u rfl) ?_
  refine nc rfl .no (.u rfl) ?_
  refine fz rfl .no Fx.fo101_0 (.u rfl) ?_
  refine ld rfl .no Fx.ag33 (.u rfl) (fun _ => (hp.z rfl).rd) ?_
  refine ln rfl .no Fx.sn33 (.u rfl) ?_
  refine asg rfl .no (.u rfl) ?_
  refine .nil ?_
  refine .code ?_
  refine .ret ?_
  refine We.fin0 Try.results63 (.tmp rfl .nil) ?_
  exact ⟨rfl, rfl⟩

theorem rEnd_ok (xs : List Y) (e : Int) (s : Sh) (b : Nat) (G : PM) (hp : RdNP G b 0 [s.val xs.length, .int .i64 e]) : Ct Try.prog 39 ([.pointer (some ⟨b, 0, none⟩)] : List Value).toArray G [] (fun _ μ' u => μ' = [] ∧ u = .int .i64 (endI xs e)) := by
  refine Ct.of Try.func39 rfl Try.ntmps39 rfl fun w0 hs0 => ?_
  refine .seq ?_
  refine Wk.rg [0] rfl rfl ?_
  refine asg rfl .no (.u rfl) ?_
  refine .nil ?_
  refine .code ?_
  refine .seq ?_
  refine .seq ?_
  refine Wk.rg [0, 1, 2, 3, 4, 5, 6, 7] rfl rfl ?_
  refine mv rfl .no (.u rfl) ?_
  refine kv rfl .no Fx.go60 (Eva.cons (.u rfl) Eva.nil) (fun _ => rFault_ok xs e s b _ hp) ?_
  refine cp rfl .no (.u rfl) (.u rfl) rfl ?_
  refine mv rfl .no (.u rfl) ?_
  refine mv rfl (.t rfl rfl) (.u rfl) ?_
  refine kv rfl (.t rfl rfl) Fx.go63 (Eva.cons (.s rfl) Eva.nil) (fun hc => rLeft_ok xs e s b _ hp) ?_
  refine cp rfl (.t rfl rfl) (.s rfl) (.u rfl) rfl ?_
  refine pkA rfl .no (.u rfl) (.s rfl) ?_
  refine .nil ?_
  refine .code ?_
  refine .cond rfl (fun c1 => ?_) (fun c1 => ?_)
  · have c1k := c1
    try simp only [decide_eq_true_eq, decide_eq_false_iff_not, Int.not_lt, Int.not_le, gt_iff_lt, ge_iff_le, Bool.or_eq_true, Bool.and_eq_true, Bool.or_eq_false_iff, Bool.not_eq_true', Bool.not_eq_false', Int.toNat_natCast, bne_iff_ne, beq_iff_eq, bne_eq_false_iff_eq, beq_eq_false_iff_ne, ne_eq] at c1
    refine .seq ?_
    refine Wk.rg [0] rfl rfl ?_
    refine asg rfl .no (.u rfl) ?_
    refine .nil ?_
    refine .code ?_
    refine .ret ?_
    refine We.fin0 Try.results39 (.tmp rfl .nil) ?_
    exact ⟨rfl, congrArg (Value.int .i64) (by unfold endI; rw [if_pos (by simpa using c1k)])⟩
  · have c1k := c1
    try simp only [decide_eq_true_eq, decide_eq_false_iff_not, Int.not_lt, Int.not_le, gt_iff_lt, ge_iff_le, Bool.or_eq_true, Bool.and_eq_true, Bool.or_eq_false_iff, Bool.not_eq_true', Bool.not_eq_false', Int.toNat_natCast, bne_iff_ne, beq_iff_eq, bne_eq_false_iff_eq, beq_eq_false_iff_ne, ne_eq] at c1
    refine .skip ?_
    refine .code ?_
    refine .seq ?_
    refine Wk.rg [0, 1, 2] rfl rfl ?_
    refine mv rfl .no (.u rfl) ?_
    refine kv rfl .no Fx.go60 (Eva.cons (.u rfl) Eva.nil) (fun _ => rFault_ok xs e s b _ hp) ?_
    refine asg rfl .no (.u rfl) ?_
    refine .nil ?_
    refine .code ?_
    refine .ret ?_
    refine We.fin0 Try.results39 (.tmp rfl .nil) ?_
    exact ⟨rfl, congrArg (Value.int .i64) (by unfold endI; rw [if_neg (by simpa using c1k)])⟩

end Go.Proofs.Ytnhdaaggkdegpaa

namespace Go.Proofs.Ytnhdaaggkdegpaa
set_option linter.unusedSimpArgs false
set_option linter.unusedVariables false
open Go.Tan Go.RowKit

namespace Fx
theorem go74 : goFn Try.prog 74 = true := by kernel_rfl
theorem go69 : goFn Try.prog 69 = true := by kernel_rfl
theorem sb9_33 : sbT Try.prog 9 33 = true := by kernel_rfl
theorem fo78_2 : fOff Try.prog 78 2 = some 2 := by kernel_rfl
theorem fo78_1 : fOff Try.prog 78 1 = some 1 := by kernel_rfl
theorem fo78_0 : fOff Try.prog 78 0 = some 0 := by kernel_rfl
theorem go64 : goFn Try.prog 64 = true := by kernel_rfl
theorem sz3 : szT Try.prog 3 = some 1 := by kernel_rfl
theorem go40 : goFn Try.prog 40 = true := by kernel_rfl
end Fx
theorem rGroups_ok (n : BitVec 64) (G : PM) : Ct Try.prog 74 ([uv .u64 n] : List Value).toArray G [] (fun _ μ' u => μ' = [] ∧ u = .int .i64 ((numN n.toNat).length : Int)) := by
  refine Ct.of Try.func74 rfl Try.ntmps74 rfl fun w0 hs0 => ?_
  have ln := num_len10 n.isLt
  refine .seq ?_
  refine Wk.rg [0] rfl rfl ?_
  refine asg rfl .no (.u rfl) ?_
  refine .nil ?_
  refine .code ?_
  refine .seq ?_
  refine Wk.rg [0] rfl rfl ?_
  refine asg rfl .no (.u rfl) ?_
  refine .nil ?_
  refine .code ?_
  refine .seq ?_
  refine .block ?_
  refine Wk.lop (α := Nat × BitVec 64) (fun gh => [(0, true, uv .u64 gh.2), (3, true, .int .i64 (gh.1 : Int))]) (fun _ => [])
    (fun gh Gl => (gh.1 + (numN gh.2.toNat).length = 1 + (numN n.toNat).length)) (fun gh => gh.2.toNat) (1, n) [] []
    (ESub.cons rfl rfl (ESub.cons rfl (by first | rfl | exact evi (by omega)) ESub.nil))
    MSub.nil ?_ ?_
  · (try dsimp only) <;> (rfl)
  intro gh N0 Gl0 hN0 hGl0 hF0
  obtain ⟨k, m⟩ := gh; dsimp only at hF0 hN0 ⊢
  have e := hF0
  have tq : @BitVec.toNat IntKind.u64.bits m = m.toNat := rfl
  have lp := num_pos m.toNat
  refine .seq ?_
  refine .seq ?_
  refine Wk.rg [0, 1] rfl rfl ?_
  refine mv rfl .no (.u rfl) ?_
  refine cp rfl .no (.u rfl) (.u rfl) rfl ?_
  refine .nil ?_
  refine .code ?_
  refine .cond rfl (fun c1 => ?_) (fun c1 => ?_)
  · have c1k := c1
    try simp only [decide_eq_true_eq, decide_eq_false_iff_not, Int.not_lt, Int.not_le, gt_iff_lt, ge_iff_le, Bool.or_eq_true, Bool.and_eq_true, Bool.or_eq_false_iff, Bool.and_eq_false_iff, Bool.not_eq_true', Bool.not_eq_false', Int.toNat_natCast, bne_iff_ne, beq_iff_eq, bne_eq_false_iff_eq, beq_eq_false_iff_ne, ne_eq] at c1
    refine .skip ?_
    refine .code ?_
    refine .block ?_
    refine .seq ?_
    refine Wk.rg [0, 1, 2] rfl rfl ?_
    refine mv rfl .no (.u rfl) ?_
    refine dw (k := .u64) (b := 128#64) rfl .no rfl (.u rfl) (.u rfl) (fun _ => show (128#64 : BitVec 64) ≠ 0#64 by decide) ?_
    refine asg rfl .no (.u rfl) ?_
    refine .nil ?_
    refine .code ?_
    refine Wk.rg [0, 1, 2] rfl rfl ?_
    refine mv rfl .no (.u rfl) ?_
    refine arn (((k + 1) : Nat) : Int) rfl .no (.u rfl) (.u rfl) rfl (fun _ => by omega) (fun _ => wrap_i64 (by omega) (by omega)) ?_
    refine asg rfl .no (.u rfl) ?_
    refine .nil ?_
    refine .blk ?_
    refine We.lpo (k + 1, m / 128#64) ?_ ?_ ?_ ?_ ?_
    · exact (ESub.cons rfl rfl (ESub.cons rfl (by first | rfl | exact evi (by omega)) ESub.nil))
    · exact MSub.nil
    · (dsimp only; rw [div1]; omega)
    · exact hGl0
    · (try dsimp only) <;> (exact grp_step e (by omega))
  · have c1k := c1
    try simp only [decide_eq_true_eq, decide_eq_false_iff_not, Int.not_lt, Int.not_le, gt_iff_lt, ge_iff_le, Bool.or_eq_true, Bool.and_eq_true, Bool.or_eq_false_iff, Bool.and_eq_false_iff, Bool.not_eq_true', Bool.not_eq_false', Int.toNat_natCast, bne_iff_ne, beq_iff_eq, bne_eq_false_iff_eq, beq_eq_false_iff_ne, ne_eq] at c1
    refine .exit ?_
    refine .xcode ?_
    refine .xlp ?_
    refine .xblk ?_
    refine .code ?_
    refine .seq ?_
    refine Wk.rg [0, 1] rfl rfl ?_
    refine mv rfl .no (.u rfl) ?_
    refine asg rfl .no (.u rfl) ?_
    refine .nil ?_
    refine .code ?_
    refine .ret ?_
    refine We.fin0 Try.results74 (.tmp rfl .nil) ?_
    obtain rfl := grp_end e (by omega)
    exact ⟨rfl, rfl⟩

theorem rrNum_ok (n : BitVec 64) (G : PM) : Ct Try.prog 69 ([uv .u64 n] : List Value).toArray G [] (PR 5 (fun L => L = numN n.toNat)) := by
  refine Ct.of Try.func69 rfl Try.ntmps69 rfl fun w0 hs0 => ?_
  have ln := num_len10 n.isLt
  refine .seq ?_
  refine Wk.rg [0] rfl rfl ?_
  refine asg rfl .no (.u rfl) ?_
  refine .nil ?_
  refine .code ?_
  refine .seq ?_
  refine Wk.rg [0] rfl rfl ?_
  refine asg rfl .no (.u rfl) ?_
  refine .nil ?_
  refine .code ?_
  refine .seq ?_
  refine wk_nilB 5 ?_
  refine Wk.rg [0, 1, 2] rfl rfl ?_
  refine mv rfl .no (.u rfl) ?_
  refine kv rfl .no Fx.go74 (Eva.cons (.u rfl) Eva.nil) (fun _ => rGroups_ok n _) ?_
  refine asg rfl .no (.u rfl) ?_
  refine .nil ?_
  refine .code ?_
  refine .seq ?_
  refine .seq ?_
  refine Wk.rg [0] rfl rfl ?_
  refine asg rfl .no (.u rfl) ?_
  refine .nil ?_
  refine .code ?_
  refine .block ?_
  refine Wk.lop (α := Nat × Value × List Y × BitVec 64) (fun gh => [(0, true, uv .u64 gh.2.2.2), (3, true, gh.2.1), (5, true, .int .i64 (gh.1 : Int))]) (fun gh => [rB gh.2.1 5 gh.2.2.1])
    (fun gh Gl => (gh.1 ≤ (numN n.toNat).length) ∧ (gh.2.2.1 = (numN n.toNat).take gh.1) ∧ (gh.2.2.2.toNat = n.toNat / 128 ^ gh.1)) (fun gh => (numN n.toNat).length - gh.1) (0, .slice none 0 0, [], n) [(4, true, _)] []
    (ESub.cons rfl rfl (ESub.cons rfl rfl (ESub.cons rfl (by first | rfl | exact evi (by omega)) (ESub.cons rfl rfl ESub.nil))))
    (MSub.cons .here rfl MSub.nil) ?_ ?_
  · refine ⟨?_, ?_, ?_⟩
    · (try dsimp only) <;> (first | omega | rfl | assumption | (simp; done))
    · (try dsimp only) <;> (rfl)
    · (try dsimp only) <;> (rw [Nat.pow_zero, Nat.div_one])
  intro gh N0 Gl0 hN0 hGl0 hF0
  obtain ⟨k, v, L, m⟩ := gh; dsimp only at hF0 hN0 ⊢
  obtain ⟨hk, eL, em⟩ := hF0
  have lL : L.length = k := by rw [eL, List.length_take]; omega
  refine .seq ?_
  refine .seq ?_
  refine Wk.rg [0, 1, 2] rfl rfl ?_
  refine mv rfl .no (.u rfl) ?_
  refine mv rfl .no (.u rfl) ?_
  refine cp rfl .no (.u rfl) (.u rfl) rfl ?_
  refine .nil ?_
  refine .code ?_
  refine .cond rfl (fun c1 => ?_) (fun c1 => ?_)
  · have c1k := c1
    try simp only [decide_eq_true_eq, decide_eq_false_iff_not, Int.not_lt, Int.not_le, gt_iff_lt, ge_iff_le, Bool.or_eq_true, Bool.and_eq_true, Bool.or_eq_false_iff, Bool.and_eq_false_iff, Bool.not_eq_true', Bool.not_eq_false', Int.toNat_natCast, bne_iff_ne, beq_iff_eq, bne_eq_false_iff_eq, beq_eq_false_iff_ne, ne_eq] at c1
    refine .skip ?_
    refine .code ?_
    refine .seq ?_
    refine .block ?_
    refine .seq ?_
    refine Wk.rg [0, 1, 2, 3] rfl rfl ?_
    refine mv rfl .no (.u rfl) ?_
    refine mw (k := .u64) (b := 128#64) rfl .no (.u rfl) (.u rfl) (fun _ => show (128#64 : BitVec 64) ≠ 0#64 by decide) ?_
    refine cu (k := .u64) rfl .no rfl Fx.cv24_5 (.u rfl) ?_
    refine asg rfl .no (.u rfl) ?_
    refine .nil ?_
    refine .code ?_
    refine .seq ?_
    refine .seq ?_
    refine Wk.rg [0, 1, 2, 3] rfl rfl ?_
    refine mv rfl .no (.u rfl) ?_
    refine arn (((k + 1) : Nat) : Int) rfl .no (.u rfl) (.u rfl) rfl (fun _ => by omega) (fun _ => wrap_i64 (by omega) (by omega)) ?_
    refine mv rfl .no (.u rfl) ?_
    refine cp rfl .no (.u rfl) (.u rfl) rfl ?_
    refine .nil ?_
    refine .code ?_
    refine .cond rfl (fun c2 => ?_) (fun c2 => ?_)
    · have c2k := c2
      try simp only [decide_eq_true_eq, decide_eq_false_iff_not, Int.not_lt, Int.not_le, gt_iff_lt, ge_iff_le, Bool.or_eq_true, Bool.and_eq_true, Bool.or_eq_false_iff, Bool.and_eq_false_iff, Bool.not_eq_true', Bool.not_eq_false', Int.toNat_natCast, bne_iff_ne, beq_iff_eq, bne_eq_false_iff_eq, beq_eq_false_iff_ne, ne_eq] at c2
      refine Wk.rg [0, 1, 2] rfl rfl ?_
      refine mv rfl .no (.u rfl) ?_
      refine bw (k := .u8) (b := 128#8) rfl .no rfl (.u rfl) (.u rfl) rfl ?_
      refine asg rfl .no (.u rfl) ?_
      refine .nil ?_
      refine .code ?_
      refine .seq ?_
      refine Wk.rg [0, 1, 2, 3, 4] rfl rfl ?_
      refine mv rfl .no (.u rfl) ?_
      refine mv rfl .no (.u rfl) ?_
      refine Go.Tan.b1 rfl Fx.se33 Fx.zv5 (.u rfl) rfl rfl (by decide) ?_; intro b25
      refine apY rfl Fx.se33 Fx.zv5 (.u rfl) (.u rfl) (.there .here) (Sc.one .here) (by show _ + 1 ≤ _; omega) ?_
      intro v26 L26 ov26 eL26
      have lL26 : L26.length = L.length + 1 := by rw [eL26, List.length_append]; first | rfl | simp [yl_len]
      refine asg rfl .no (.u rfl) ?_
      refine .nil ?_
      refine .code ?_
      refine Wk.rg [0, 1, 2] rfl rfl ?_
      refine mv rfl .no (.u rfl) ?_
      refine dw (k := .u64) (b := 128#64) rfl .no rfl (.u rfl) (.u rfl) (fun _ => show (128#64 : BitVec 64) ≠ 0#64 by decide) ?_
      refine asg rfl .no (.u rfl) ?_
      refine .nil ?_
      refine .blk ?_
      refine .code ?_
      refine Wk.rg [0, 1, 2] rfl rfl ?_
      refine mv rfl .no (.u rfl) ?_
      refine arn (((k + 1) : Nat) : Int) rfl .no (.u rfl) (.u rfl) rfl (fun _ => by omega) (fun _ => wrap_i64 (by omega) (by omega)) ?_
      refine asg rfl .no (.u rfl) ?_
      refine .nil ?_
      refine We.lpo (k + 1, v26, L26, m / 128#64) ?_ ?_ ?_ ?_ ?_
      · exact (ESub.cons rfl rfl (ESub.cons rfl rfl (ESub.cons rfl (by first | rfl | exact evi (by omega)) (ESub.cons rfl rfl ESub.nil))))
      · exact (MSub.cons .here rfl MSub.nil)
      · first | omega | (dsimp only; omega)
      · exact hGl0
      · refine ⟨?_, ?_, ?_⟩
        · (try dsimp only) <;> (first | omega | rfl | assumption | (simp; done))
        · (try dsimp only) <;> (rw [eL26]; exact num_grp eL em (by omega))
        · (try dsimp only) <;> (exact div128 em)
    · have c2k := c2
      try simp only [decide_eq_true_eq, decide_eq_false_iff_not, Int.not_lt, Int.not_le, gt_iff_lt, ge_iff_le, Bool.or_eq_true, Bool.and_eq_true, Bool.or_eq_false_iff, Bool.and_eq_false_iff, Bool.not_eq_true', Bool.not_eq_false', Int.toNat_natCast, bne_iff_ne, beq_iff_eq, bne_eq_false_iff_eq, beq_eq_false_iff_ne, ne_eq] at c2
      refine .skip ?_
      refine .code ?_
      refine .seq ?_
      refine Wk.rg [0, 1, 2, 3, 4] rfl rfl ?_
      refine mv rfl .no (.u rfl) ?_
      refine mv rfl .no (.u rfl) ?_
      refine Go.Tan.b1 rfl Fx.se33 Fx.zv5 (.u rfl) rfl rfl (by decide) ?_; intro b25
      refine apY rfl Fx.se33 Fx.zv5 (.u rfl) (.u rfl) (.there .here) (Sc.one .here) (by show _ + 1 ≤ _; omega) ?_
      intro v26 L26 ov26 eL26
      have lL26 : L26.length = L.length + 1 := by rw [eL26, List.length_append]; first | rfl | simp [yl_len]
      refine asg rfl .no (.u rfl) ?_
      refine .nil ?_
      refine .code ?_
      refine Wk.rg [0, 1, 2] rfl rfl ?_
      refine mv rfl .no (.u rfl) ?_
      refine dw (k := .u64) (b := 128#64) rfl .no rfl (.u rfl) (.u rfl) (fun _ => show (128#64 : BitVec 64) ≠ 0#64 by decide) ?_
      refine asg rfl .no (.u rfl) ?_
      refine .nil ?_
      refine .blk ?_
      refine .code ?_
      refine Wk.rg [0, 1, 2] rfl rfl ?_
      refine mv rfl .no (.u rfl) ?_
      refine arn (((k + 1) : Nat) : Int) rfl .no (.u rfl) (.u rfl) rfl (fun _ => by omega) (fun _ => wrap_i64 (by omega) (by omega)) ?_
      refine asg rfl .no (.u rfl) ?_
      refine .nil ?_
      refine We.lpo (k + 1, v26, L26, m / 128#64) ?_ ?_ ?_ ?_ ?_
      · exact (ESub.cons rfl rfl (ESub.cons rfl rfl (ESub.cons rfl (by first | rfl | exact evi (by omega)) (ESub.cons rfl rfl ESub.nil))))
      · exact (MSub.cons .here rfl MSub.nil)
      · first | omega | (dsimp only; omega)
      · exact hGl0
      · refine ⟨?_, ?_, ?_⟩
        · (try dsimp only) <;> (first | omega | rfl | assumption | (simp; done))
        · (try dsimp only) <;> (rw [eL26]; exact num_grp1 eL em (by omega) (by omega))
        · (try dsimp only) <;> (exact div128 em)
  · have c1k := c1
    try simp only [decide_eq_true_eq, decide_eq_false_iff_not, Int.not_lt, Int.not_le, gt_iff_lt, ge_iff_le, Bool.or_eq_true, Bool.and_eq_true, Bool.or_eq_false_iff, Bool.and_eq_false_iff, Bool.not_eq_true', Bool.not_eq_false', Int.toNat_natCast, bne_iff_ne, beq_iff_eq, bne_eq_false_iff_eq, beq_eq_false_iff_ne, ne_eq] at c1
    refine .exit ?_
    refine .xcode ?_
    refine .xlp ?_
    refine .xblk ?_
    refine .code ?_
    refine .seq ?_
    refine Wk.rg [0, 1] rfl rfl ?_
    refine mv rfl .no (.u rfl) ?_
    refine asg rfl .no (.u rfl) ?_
    refine .nil ?_
    refine .code ?_
    refine .ret ?_
    refine We.fin Try.results69 (.tmp rfl .nil) (MSub.cons .here rfl MSub.nil) ?_
    obtain rfl : k = (numN n.toNat).length := by omega
    exact ⟨L, by rw [eL, List.take_length], rfl⟩

theorem rrNum_i (x : Int) (hx : u64 x) (G : PM) : Ct Try.prog 69 ([.int .u64 x] : List Value).toArray G [] (PR 5 (fun L => L = numN x.toNat)) := by
  rw [uvI hx, ← ofI hx]; exact rrNum_ok _ G
theorem rrStr_ok (s : ByteArray) (G : PM) (hl : s.size ≤ 100000000000000) : Ct Try.prog 70 ([.string s] : List Value).toArray G [] (PR 5 (fun L => L = strL (yb s))) := by
  refine Ct.of Try.func70 rfl Try.ntmps70 rfl fun w0 hs0 => ?_
  have ly := yb_len s
  have ln := num_len10 (n := s.size) (by omega)
  refine .seq ?_
  refine Wk.rg [0] rfl rfl ?_
  refine asg rfl .no (.u rfl) ?_
  refine .nil ?_
  refine .code ?_
  refine .seq ?_
  refine Wk.rg [0, 1, 2, 3, 4] rfl rfl ?_
  refine mv rfl .no (.u rfl) ?_
  refine ls rfl .no Fx.st9 (.u rfl) ?_
  refine cw rfl .no Fx.cv3_24 (.u rfl) (fun _ => wrap_u64 (by omega) (by omega)) ?_
  refine kc rfl Fx.go69 (Eva.cons (.u rfl) Eva.nil) (Ct.rowc (rrNum_i (s.size : Int) ⟨by omega, by omega⟩ _)) ?_
  rintro v7 G7 μ7 hG7 ⟨L7, ov7, eL7, rfl⟩
  refine asg rfl .no (.u rfl) ?_
  refine .nil ?_
  refine .code ?_
  refine .seq ?_
  refine Wk.rg [0, 1, 2, 3, 4] rfl rfl ?_
  refine mv rfl .no (.u rfl) ?_
  refine mv rfl .no (.u rfl) ?_
  refine cvS rfl rfl Fx.sb9_33 (.u rfl) ?_; intro G10 h10 hG10 hs10
  have l7 : L7.length = (numN s.size).length := by rw [eL7, Int.toNat_natCast]
  refine apY rfl Fx.se33 Fx.zv5 (.u rfl) (.u rfl) .here hs10.sc (by (try simp only [List.length_append, List.length_cons, List.length_nil, yl_len]); omega) ?_
  intro v11 L11 ov11 eL11
  have lL11 : L11.length = L7.length + (yb s).length := by rw [eL11, List.length_append]
  refine asg rfl .no (.u rfl) ?_
  refine .nil ?_
  refine .code ?_
  refine .seq ?_
  refine Wk.rg [0, 1] rfl rfl ?_
  refine mv rfl .no (.u rfl) ?_
  refine asg rfl .no (.u rfl) ?_
  refine .nil ?_
  refine .code ?_
  refine .ret ?_
  refine We.fin Try.results70 (.tmp rfl .nil) (MSub.cons .here rfl MSub.nil) ?_
  exact ⟨L11, by rw [eL11, eL7, strL, ly, Int.toNat_natCast], rfl⟩

theorem fail_ok (v1 v2 v3 : Value) (e' : Int) (b : Nat) (G : PM) : Ct Try.prog 64 ([.pointer (some ⟨b, 0, none⟩), .int .i64 e'] : List Value).toArray G [.blk b (cl [v1, v2, v3] 78)] (fun _ μ' u => μ' = [.blk b (cl [v1, v2, .int .i64 e'] 78)] ∧ u = .tuple #[]) := by
  refine Ct.of Try.func64 rfl Try.ntmps64 rfl fun w0 hs0 => ?_
  refine Wk.rg [0, 1, 2, 3, 4] rfl rfl ?_
  refine mv rfl .no (.u rfl) ?_
  refine mv rfl .no (.u rfl) ?_
  refine nc rfl .no (.u rfl) ?_
  refine fz rfl .no Fx.fo78_2 (.u rfl) ?_
  refine s1 rfl (.u rfl) (.u rfl) rfl Fx.sz35 .here (show 2 < 3 by decide) (rfl) ?_
  refine .nil ?_
  refine .nil ?_
  refine We.fin Try.results64 .nil (MSub.cons .here rfl MSub.nil) ?_
  exact ⟨rfl, rfl⟩

set_option maxHeartbeats 1000000 in
theorem qNum_ok (B : List Y) (I : Nat) (e : Int) (s : Sh) (b : Nat) (G : PM) (hs : SlR G 1 encY s B) (hI : I ≤ B.length) (hl : B.length ≤ 100000000000000) : Ct Try.prog 40 ([.pointer (some ⟨b, 0, none⟩)] : List Value).toArray G [.blk b (cl [Sh.val s B.length, .int .i64 (I : Int), .int .i64 e] 78)] (fun G' μ' u => ∃ n I' e', rdNum ⟨B.drop I, e⟩ = (n, ⟨B.drop I', e'⟩) ∧ I' ≤ B.length ∧ μ' = [.blk b (cl [Sh.val s B.length, .int .i64 (I' : Int), .int .i64 e'] 78)] ∧ u = .int .u64 (n : Int)) := by
  refine Ct.of Try.func40 rfl Try.ntmps40 rfl fun w0 hs0 => ?_
  refine .seq ?_
  refine Wk.rg [0] rfl rfl ?_
  refine asg rfl .no (.u rfl) ?_
  refine .nil ?_
  refine .code ?_
  refine .seq ?_
  refine .seq ?_
  refine Wk.rg [0, 1, 2, 3, 4] rfl rfl ?_
  refine mv rfl .no (.u rfl) ?_
  refine nc rfl .no (.u rfl) ?_
  refine fz rfl .no Fx.fo78_2 (.u rfl) ?_
  refine ld rfl .no Fx.ag35 (.u rfl) (fun _ => Rd.own .here (by first | exact wap_f rfl | rfl)) ?_
  refine cp rfl .no (.u rfl) (.u rfl) rfl ?_
  refine .nil ?_
  refine .code ?_
  refine .cond rfl (fun c1 => ?_) (fun c1 => ?_)
  · have c1k := c1
    try simp only [decide_eq_true_eq, decide_eq_false_iff_not, Int.not_lt, Int.not_le, gt_iff_lt, ge_iff_le, Bool.or_eq_true, Bool.and_eq_true, Bool.or_eq_false_iff, Bool.and_eq_false_iff, Bool.not_eq_true', Bool.not_eq_false', Int.toNat_natCast, bne_iff_ne, beq_iff_eq, bne_eq_false_iff_eq, beq_eq_false_iff_ne, ne_eq] at c1
    refine .seq ?_
    refine Wk.rg [0] rfl rfl ?_
    refine asg rfl .no (.u rfl) ?_
    refine .nil ?_
    refine .code ?_
    refine .ret ?_
    refine We.fin Try.results40 (.tmp rfl .nil) (MSub.cons .here rfl MSub.nil) ?_
    exact ⟨0, I, e, rd_num_bad (by simpa using c1k), hI, rfl, rfl⟩
  · have c1k := c1
    try simp only [decide_eq_true_eq, decide_eq_false_iff_not, Int.not_lt, Int.not_le, gt_iff_lt, ge_iff_le, Bool.or_eq_true, Bool.and_eq_true, Bool.or_eq_false_iff, Bool.and_eq_false_iff, Bool.not_eq_true', Bool.not_eq_false', Int.toNat_natCast, bne_iff_ne, beq_iff_eq, bne_eq_false_iff_eq, beq_eq_false_iff_ne, ne_eq] at c1
    refine .skip ?_
    refine .code ?_
    refine .seq ?_
    refine Wk.rg [0] rfl rfl ?_
    refine asg rfl .no (.u rfl) ?_
    refine .nil ?_
    refine .code ?_
    refine .seq ?_
    refine .block ?_
    refine Wk.lop (α := Nat) (fun k => [(3, true, .int .i64 (k : Int))]) (fun _ => [])
      (fun k Gl => (I + k ≤ B.length) ∧ (k ≤ 10) ∧ (Lead B I k)) (fun k => B.length - k) 0 [(0, true, _)] [_]
      (ESub.cons rfl (by first | rfl | exact evi (by omega)) (ESub.cons rfl rfl ESub.nil))
      (MSub.cons .here rfl MSub.nil) ?_ ?_
    · refine ⟨?_, ?_, ?_⟩
      · (try dsimp only) <;> (first | omega | rfl | assumption | (simp; done))
      · (try dsimp only) <;> (first | omega | rfl | assumption | (simp; done))
      · (try dsimp only) <;> (exact Lead.zero)
    intro k N0 Gl0 hN0 hGl0 hF0
    try dsimp only at hF0 hN0 ⊢
    obtain ⟨hk, h10, hld⟩ := hF0
    have hs := hs.mono hGl0
    have tq : @BitVec.toNat IntKind.u8.bits (B.getD (I + k) 0) = (B.getD (I + k) 0).toNat := rfl
    refine .seq ?_
    refine .seq ?_
    refine Wk.draw (mc := ⟨false, false⟩) [0, 1, 2, 3, 4, 5, 6, 7, 8, 9, 10, 11, 12, 13, 14, 15, 16, 17, 18, 19, 20, 21, 22, 23, 24, 25, 26, 27, 28, 29, 30] Fx.mix (by kernel_rfl) ?_
    refine mv rfl .no (.u rfl) ?_
    refine nc rfl .no (.u rfl) ?_
    refine fz rfl .no Fx.fo78_1 (.u rfl) ?_
    refine ld rfl .no Fx.ag3 (.u rfl) (fun _ => Rd.own .here (by first | exact wap_f rfl | rfl)) ?_
    refine mv rfl .no (.u rfl) ?_
    refine arn (((I + k) : Nat) : Int) rfl .no (.u rfl) (.u rfl) rfl (fun _ => by omega) (fun _ => wrap_i64 (by omega) (by omega)) ?_
    refine mv rfl .no (.u rfl) ?_
    refine nc rfl .no (.u rfl) ?_
    refine fz rfl .no Fx.fo78_0 (.u rfl) ?_
    refine ld rfl .no Fx.ag33 (.u rfl) (fun _ => Rd.own .here (by first | exact wap_f rfl | rfl)) ?_
    refine ln rfl .no Fx.sn33 (.u rfl) ?_
    refine cp rfl .no (.u rfl) (.u rfl) rfl ?_
    refine mv rfl .no (.u rfl) ?_
    refine mv rfl (.t rfl rfl) (.u rfl) ?_
    refine cp rfl (.t rfl rfl) (.s rfl) (.u rfl) rfl ?_
    refine pkA rfl .no (.u rfl) (.s rfl) ?_
    refine mv rfl .no (.u rfl) ?_
    refine mv rfl (.t rfl rfl) (.u rfl) ?_
    refine nc rfl (.t rfl rfl) (.s rfl) ?_
    refine fz rfl (.t rfl rfl) Fx.fo78_0 (.s rfl) ?_
    refine ld rfl (.t rfl rfl) Fx.ag33 (.s rfl) (fun hc => Rd.own .here (by first | exact wap_f rfl | rfl)) ?_
    refine mv rfl (.t rfl rfl) (.u rfl) ?_
    refine nc rfl (.t rfl rfl) (.s rfl) ?_
    refine fz rfl (.t rfl rfl) Fx.fo78_1 (.s rfl) ?_
    refine ld rfl (.t rfl rfl) Fx.ag3 (.s rfl) (fun hc => Rd.own .here (by first | exact wap_f rfl | rfl)) ?_
    refine mv rfl (.t rfl rfl) (.u rfl) ?_
    refine arn (((I + k) : Nat) : Int) rfl (.t rfl rfl) (.s rfl) (.s rfl) rfl (fun hc => by (try simp only [Bool.and_eq_true, decide_eq_true_eq] at hc); omega) (fun hc => wrap_i64 (by (try simp only [Bool.and_eq_true, decide_eq_true_eq] at hc); omega) (by (try simp only [Bool.and_eq_true, decide_eq_true_eq] at hc); omega)) ?_
    refine ih rfl (.t rfl rfl) Fx.se33 (.s rfl) (.s rfl) (fun hc => by (try simp only [Bool.and_eq_true, decide_eq_true_eq] at hc); omega) (fun hc => by (try simp only [Bool.and_eq_true, decide_eq_true_eq] at hc); omega) (fun hc => hs.nn (k := (I + k)) (by (try simp only [Bool.and_eq_true, decide_eq_true_eq] at hc); omega)) ?_
    refine ld rfl (.t rfl rfl) Fx.ag5 (.s rfl) (fun hc => (hs.yat ((I + k)) (by (try simp only [Bool.and_eq_true, decide_eq_true_eq] at hc); omega) (by (try simp only [Bool.and_eq_true, decide_eq_true_eq] at hc); omega)).rd) ?_
    refine cp rfl (.t rfl rfl) (.s rfl) (.u rfl) rfl ?_
    refine pkA rfl .no (.u rfl) (.s rfl) ?_
    refine .nil ?_
    refine .code ?_
    refine .cond rfl (fun c2 => ?_) (fun c2 => ?_)
    · have c2k := c2
      try simp only [decide_eq_true_eq, decide_eq_false_iff_not, Int.not_lt, Int.not_le, gt_iff_lt, ge_iff_le, Bool.or_eq_true, Bool.and_eq_true, Bool.or_eq_false_iff, Bool.and_eq_false_iff, Bool.not_eq_true', Bool.not_eq_false', Int.toNat_natCast, bne_iff_ne, beq_iff_eq, bne_eq_false_iff_eq, beq_eq_false_iff_ne, ne_eq] at c2
      refine .skip ?_
      refine .code ?_
      refine .block ?_
      refine Wk.rg [0, 1, 2] rfl rfl ?_
      refine mv rfl .no (.u rfl) ?_
      refine arn (((k + 1) : Nat) : Int) rfl .no (.u rfl) (.u rfl) rfl (fun _ => by omega) (fun _ => wrap_i64 (by omega) (by omega)) ?_
      refine asg rfl .no (.u rfl) ?_
      refine .nil ?_
      refine .blk ?_
      refine We.lpo (k + 1) ?_ ?_ ?_ ?_ ?_
      · exact (ESub.cons rfl (by first | rfl | exact evi (by omega)) (ESub.cons rfl rfl ESub.nil))
      · exact (MSub.cons .here rfl MSub.nil)
      · first | omega | (dsimp only; omega)
      · exact hGl0
      · refine ⟨?_, ?_, ?_⟩
        · (try dsimp only) <;> (first | omega | rfl | assumption | (simp; done))
        · (try dsimp only) <;> (first | omega | rfl | assumption | (simp; done))
        · (try dsimp only) <;> (exact hld.succ (by omega))
    · have c2k := c2
      try simp only [decide_eq_true_eq, decide_eq_false_iff_not, Int.not_lt, Int.not_le, gt_iff_lt, ge_iff_le, Bool.or_eq_true, Bool.and_eq_true, Bool.or_eq_false_iff, Bool.and_eq_false_iff, Bool.not_eq_true', Bool.not_eq_false', Int.toNat_natCast, bne_iff_ne, beq_iff_eq, bne_eq_false_iff_eq, beq_eq_false_iff_ne, ne_eq] at c2
      refine .exit ?_
      refine .xcode ?_
      refine .xlp ?_
      refine .xblk ?_
      refine .code ?_
      refine .seq ?_
      refine .seq ?_
      refine Wk.rg [0, 1] rfl rfl ?_
      refine mv rfl .no (.u rfl) ?_
      refine cp rfl .no (.u rfl) (.u rfl) rfl ?_
      refine .nil ?_
      refine .code ?_
      refine .cond rfl (fun c3 => ?_) (fun c3 => ?_)
      · have c3k := c3
        try simp only [decide_eq_true_eq, decide_eq_false_iff_not, Int.not_lt, Int.not_le, gt_iff_lt, ge_iff_le, Bool.or_eq_true, Bool.and_eq_true, Bool.or_eq_false_iff, Bool.and_eq_false_iff, Bool.not_eq_true', Bool.not_eq_false', Int.toNat_natCast, bne_iff_ne, beq_iff_eq, bne_eq_false_iff_eq, beq_eq_false_iff_ne, ne_eq] at c3
        refine .seq ?_
        refine Wk.rg [0, 1] rfl rfl ?_
        refine mv rfl .no (.u rfl) ?_
        refine ka rfl (.inr rfl) Fx.go64 (Eva.cons (.u rfl) (Eva.cons (.u rfl) Eva.nil)) (mtk1 .here) (fail_ok _ _ _ 11 _ _) ?_
        rintro _ G48 μ48 hG48 ⟨rfl, rfl⟩
        have hs := hs.mono hG48
        refine .nil ?_
        refine .code ?_
        refine .seq ?_
        refine Wk.rg [0] rfl rfl ?_
        refine asg rfl .no (.u rfl) ?_
        refine .nil ?_
        refine .code ?_
        refine .ret ?_
        refine We.fin Try.results40 (.tmp rfl .nil) (MSub.cons .here rfl MSub.nil) ?_
        exact ⟨0, I, 11, rn_bad (by simpa using c1k) (rf_10 hld (by omega) hk), hI, rfl, rfl⟩
      · have c3k := c3
        try simp only [decide_eq_true_eq, decide_eq_false_iff_not, Int.not_lt, Int.not_le, gt_iff_lt, ge_iff_le, Bool.or_eq_true, Bool.and_eq_true, Bool.or_eq_false_iff, Bool.and_eq_false_iff, Bool.not_eq_true', Bool.not_eq_false', Int.toNat_natCast, bne_iff_ne, beq_iff_eq, bne_eq_false_iff_eq, beq_eq_false_iff_ne, ne_eq] at c3
        refine .skip ?_
        refine .code ?_
        refine .seq ?_
        refine .seq ?_
        refine Wk.draw (mc := ⟨false, false⟩) [0, 1, 2, 3, 4, 5, 6, 7, 8, 9, 10, 11] Fx.mix (by kernel_rfl) ?_
        refine mv rfl .no (.u rfl) ?_
        refine nc rfl .no (.u rfl) ?_
        refine fz rfl .no Fx.fo78_1 (.u rfl) ?_
        refine ld rfl .no Fx.ag3 (.u rfl) (fun _ => Rd.own .here (by first | exact wap_f rfl | rfl)) ?_
        refine mv rfl .no (.u rfl) ?_
        refine arn (((I + k) : Nat) : Int) rfl .no (.u rfl) (.u rfl) rfl (fun _ => by omega) (fun _ => wrap_i64 (by omega) (by omega)) ?_
        refine mv rfl .no (.u rfl) ?_
        refine nc rfl .no (.u rfl) ?_
        refine fz rfl .no Fx.fo78_0 (.u rfl) ?_
        refine ld rfl .no Fx.ag33 (.u rfl) (fun _ => Rd.own .here (by first | exact wap_f rfl | rfl)) ?_
        refine ln rfl .no Fx.sn33 (.u rfl) ?_
        refine cp rfl .no (.u rfl) (.u rfl) rfl ?_
        refine .nil ?_
        refine .code ?_
        refine .cond rfl (fun c4 => ?_) (fun c4 => ?_)
        · have c4k := c4
          try simp only [decide_eq_true_eq, decide_eq_false_iff_not, Int.not_lt, Int.not_le, gt_iff_lt, ge_iff_le, Bool.or_eq_true, Bool.and_eq_true, Bool.or_eq_false_iff, Bool.and_eq_false_iff, Bool.not_eq_true', Bool.not_eq_false', Int.toNat_natCast, bne_iff_ne, beq_iff_eq, bne_eq_false_iff_eq, beq_eq_false_iff_ne, ne_eq] at c4
          refine .seq ?_
          refine Wk.rg [0, 1] rfl rfl ?_
          refine mv rfl .no (.u rfl) ?_
          refine ka rfl (.inr rfl) Fx.go64 (Eva.cons (.u rfl) (Eva.cons (.u rfl) Eva.nil)) (mtk1 .here) (fail_ok _ _ _ 10 _ _) ?_
          rintro _ G62 μ62 hG62 ⟨rfl, rfl⟩
          have hs := hs.mono hG62
          refine .nil ?_
          refine .code ?_
          refine .seq ?_
          refine Wk.rg [0] rfl rfl ?_
          refine asg rfl .no (.u rfl) ?_
          refine .nil ?_
          refine .code ?_
          refine .ret ?_
          refine We.fin Try.results40 (.tmp rfl .nil) (MSub.cons .here rfl MSub.nil) ?_
          exact ⟨0, I, 10, rn_bad (by simpa using c1k) (rf_short hld (by omega) hk (by omega)), hI, rfl, rfl⟩
        · have c4k := c4
          try simp only [decide_eq_true_eq, decide_eq_false_iff_not, Int.not_lt, Int.not_le, gt_iff_lt, ge_iff_le, Bool.or_eq_true, Bool.and_eq_true, Bool.or_eq_false_iff, Bool.and_eq_false_iff, Bool.not_eq_true', Bool.not_eq_false', Int.toNat_natCast, bne_iff_ne, beq_iff_eq, bne_eq_false_iff_eq, beq_eq_false_iff_ne, ne_eq] at c4
          refine .skip ?_
          refine .code ?_
          refine .seq ?_
          refine Wk.draw (mc := ⟨false, false⟩) [0, 1, 2, 3, 4, 5, 6, 7, 8, 9, 10, 11, 12] Fx.mix (by kernel_rfl) ?_
          refine mv rfl .no (.u rfl) ?_
          refine nc rfl .no (.u rfl) ?_
          refine fz rfl .no Fx.fo78_0 (.u rfl) ?_
          refine ld rfl .no Fx.ag33 (.u rfl) (fun _ => Rd.own .here (by first | exact wap_f rfl | rfl)) ?_
          refine mv rfl .no (.u rfl) ?_
          refine nc rfl .no (.u rfl) ?_
          refine fz rfl .no Fx.fo78_1 (.u rfl) ?_
          refine ld rfl .no Fx.ag3 (.u rfl) (fun _ => Rd.own .here (by first | exact wap_f rfl | rfl)) ?_
          refine mv rfl .no (.u rfl) ?_
          refine arn (((I + k) : Nat) : Int) rfl .no (.u rfl) (.u rfl) rfl (fun _ => by omega) (fun _ => wrap_i64 (by omega) (by omega)) ?_
          refine ih rfl .no Fx.se33 (.u rfl) (.u rfl) (fun _ => by omega) (fun _ => by omega) (fun _ => hs.nn (k := (I + k)) (by omega)) ?_
          refine ld rfl .no Fx.ag5 (.u rfl) (fun _ => (hs.yat ((I + k)) (by omega) (by omega)).rd) ?_
          refine asg rfl .no (.u rfl) ?_
          refine .nil ?_
          refine .code ?_
          refine .seq ?_
          refine .seq ?_
          refine Wk.rg [0, 1, 2, 3, 4, 5, 6, 7, 8, 9, 10, 11, 12, 13] rfl rfl ?_
          refine mv rfl .no (.u rfl) ?_
          refine cp rfl .no (.u rfl) (.u rfl) rfl ?_
          refine mv rfl .no (.u rfl) ?_
          refine mv rfl (.t rfl rfl) (.u rfl) ?_
          refine cp rfl (.t rfl rfl) (.s rfl) (.u rfl) rfl ?_
          refine pkA rfl .no (.u rfl) (.s rfl) ?_
          refine mv rfl .no (.u rfl) ?_
          refine mv rfl (.f rfl rfl) (.u rfl) ?_
          refine cp rfl (.f rfl rfl) (.s rfl) (.u rfl) rfl ?_
          refine mv rfl (.f rfl rfl) (.s rfl) ?_
          refine mv rfl (.tc rfl rfl) (.u rfl) ?_
          refine cp rfl (.tc rfl rfl) (.s rfl) (.u rfl) rfl ?_
          refine pkA rfl (.f rfl rfl) (.s rfl) (.s rfl) ?_
          refine pkO rfl .no (.u rfl) (.s rfl) ?_
          refine .nil ?_
          refine .code ?_
          refine .cond rfl (fun c5 => ?_) (fun c5 => ?_)
          · have c5k := c5
            try simp only [decide_eq_true_eq, decide_eq_false_iff_not, Int.not_lt, Int.not_le, gt_iff_lt, ge_iff_le, Bool.or_eq_true, Bool.and_eq_true, Bool.or_eq_false_iff, Bool.and_eq_false_iff, Bool.not_eq_true', Bool.not_eq_false', Int.toNat_natCast, bne_iff_ne, beq_iff_eq, bne_eq_false_iff_eq, beq_eq_false_iff_ne, ne_eq] at c5
            refine .seq ?_
            refine Wk.rg [0, 1] rfl rfl ?_
            refine mv rfl .no (.u rfl) ?_
            refine ka rfl (.inr rfl) Fx.go64 (Eva.cons (.u rfl) (Eva.cons (.u rfl) Eva.nil)) (mtk1 .here) (fail_ok _ _ _ 11 _ _) ?_
            rintro _ G90 μ90 hG90 ⟨rfl, rfl⟩
            have hs := hs.mono hG90
            refine .nil ?_
            refine .code ?_
            refine .seq ?_
            refine Wk.rg [0] rfl rfl ?_
            refine asg rfl .no (.u rfl) ?_
            refine .nil ?_
            refine .code ?_
            refine .ret ?_
            refine We.fin Try.results40 (.tmp rfl .nil) (MSub.cons .here rfl MSub.nil) ?_
            exact ⟨0, I, 11, rn_bad (by simpa using c1k) (rf_form hld (by omega) (by omega) (by omega) (by omega)), hI, rfl, rfl⟩
          · have c5k := c5
            try simp only [decide_eq_true_eq, decide_eq_false_iff_not, Int.not_lt, Int.not_le, gt_iff_lt, ge_iff_le, Bool.or_eq_true, Bool.and_eq_true, Bool.or_eq_false_iff, Bool.and_eq_false_iff, Bool.not_eq_true', Bool.not_eq_false', Int.toNat_natCast, bne_iff_ne, beq_iff_eq, bne_eq_false_iff_eq, beq_eq_false_iff_ne, ne_eq] at c5
            refine .skip ?_
            refine .code ?_
            refine .seq ?_
            refine Wk.rg [0, 1, 2] rfl rfl ?_
            refine mv rfl .no (.u rfl) ?_
            refine cu (k := .u8) rfl .no rfl Fx.cv5_24 (.u rfl) ?_
            refine asg rfl .no (.u rfl) ?_
            refine .nil ?_
            refine .code ?_
            refine .seq ?_
            refine .seq ?_
            refine Wk.rg [0, 1, 2] rfl rfl ?_
            refine mv rfl .no (.u rfl) ?_
            refine ar rfl .no (.u rfl) (.u rfl) rfl (fun _ => wrap_i64 (by omega) (by omega)) ?_
            refine asg rfl .no (.u rfl) ?_
            refine .nil ?_
            refine .code ?_
            refine .block ?_
            have rk := rf_ok hld (by omega) (by omega) (by omega) (by omega) (by omega)
            have rl := (NumR.of rk).lt
            refine Wk.lop (α := Nat × BitVec 64) (fun gh => [(5, true, uv .u64 gh.2), (6, true, .int .i64 ((gh.1 : Int) - 1))]) (fun _ => [])
              (fun gh Gl => (gh.1 ≤ k) ∧ (gh.2.toNat * 128 ^ gh.1 + accN B I gh.1 = accN B I k + (B.getD (I + k) 0).toNat * 128 ^ k)) (fun gh => gh.1) (k, (B.getD (I + k) 0).setWidth 64) [(0, true, _), (3, true, _)] [_]
              (ESub.cons rfl rfl (ESub.cons rfl (by first | rfl | exact evi (by omega)) (ESub.cons rfl rfl (ESub.cons rfl rfl ESub.nil))))
              (MSub.cons .here rfl MSub.nil) ?_ ?_
            · refine ⟨?_, ?_⟩
              · (try dsimp only) <;> (first | omega | rfl | assumption | (simp; done))
              · (try dsimp only) <;> (exact back_start rfl)
            intro gh N1 Gl1 hN1 hGl1 hF1
            obtain ⟨i, w⟩ := gh; dsimp only at hF1 hN1 ⊢
            obtain ⟨hi, ew⟩ := hF1
            have hs := hs.mono hGl1
            refine .seq ?_
            refine .seq ?_
            refine Wk.rg [0, 1] rfl rfl ?_
            refine mv rfl .no (.u rfl) ?_
            refine cp rfl .no (.u rfl) (.u rfl) rfl ?_
            refine .nil ?_
            refine .code ?_
            refine .cond rfl (fun c6 => ?_) (fun c6 => ?_)
            · have c6k := c6
              try simp only [decide_eq_true_eq, decide_eq_false_iff_not, Int.not_lt, Int.not_le, gt_iff_lt, ge_iff_le, Bool.or_eq_true, Bool.and_eq_true, Bool.or_eq_false_iff, Bool.and_eq_false_iff, Bool.not_eq_true', Bool.not_eq_false', Int.toNat_natCast, bne_iff_ne, beq_iff_eq, bne_eq_false_iff_eq, beq_eq_false_iff_ne, ne_eq] at c6
              refine .skip ?_
              refine .code ?_
              refine .seq ?_
              refine .block ?_
              refine Wk.draw (mc := ⟨false, false⟩) [0, 1, 2, 3, 4, 5, 6, 7, 8, 9, 10, 11, 12, 13, 14, 15, 16, 17] Fx.mix (by kernel_rfl) ?_
              refine mv rfl .no (.u rfl) ?_
              refine bw (k := .u64) (b := 128#64) rfl .no rfl (.u rfl) (.u rfl) rfl ?_
              refine mv rfl .no (.u rfl) ?_
              refine nc rfl .no (.u rfl) ?_
              refine fz rfl .no Fx.fo78_0 (.u rfl) ?_
              refine ld rfl .no Fx.ag33 (.u rfl) (fun _ => Rd.own .here (by first | exact wap_f rfl | rfl)) ?_
              refine mv rfl .no (.u rfl) ?_
              refine nc rfl .no (.u rfl) ?_
              refine fz rfl .no Fx.fo78_1 (.u rfl) ?_
              refine ld rfl .no Fx.ag3 (.u rfl) (fun _ => Rd.own .here (by first | exact wap_f rfl | rfl)) ?_
              refine mv rfl .no (.u rfl) ?_
              refine arn (((I + (i - 1)) : Nat) : Int) rfl .no (.u rfl) (.u rfl) rfl (fun _ => by omega) (fun _ => wrap_i64 (by omega) (by omega)) ?_
              refine ih rfl .no Fx.se33 (.u rfl) (.u rfl) (fun _ => by omega) (fun _ => by omega) (fun _ => hs.nn (k := (I + (i - 1))) (by omega)) ?_
              refine ld rfl .no Fx.ag5 (.u rfl) (fun _ => (hs.yat ((I + (i - 1))) (by omega) (by omega)).rd) ?_
              refine bw (k := .u8) (b := 128#8) rfl .no rfl (.u rfl) (.u rfl) rfl ?_
              refine cu (k := .u8) rfl .no rfl Fx.cv5_24 (.u rfl) ?_
              refine bw (k := .u64) rfl .no rfl (.u rfl) (.u rfl) rfl ?_
              refine asg rfl .no (.u rfl) ?_
              refine .nil ?_
              refine .blk ?_
              refine .code ?_
              refine Wk.rg [0, 1, 2] rfl rfl ?_
              refine mv rfl .no (.u rfl) ?_
              refine ar rfl .no (.u rfl) (.u rfl) rfl (fun _ => wrap_i64 (by omega) (by omega)) ?_
              refine asg rfl .no (.u rfl) ?_
              refine .nil ?_
              refine We.lpo (i - 1, w * 128#64 + ((B.getD (I + (i - 1)) 0) - 128#8).setWidth 64) ?_ ?_ ?_ ?_ ?_
              · exact (ESub.cons rfl rfl (ESub.cons rfl (by first | rfl | exact evi (by omega)) (ESub.cons rfl rfl (ESub.cons rfl rfl ESub.nil))))
              · exact (MSub.cons .here rfl MSub.nil)
              · (dsimp only; omega)
              · exact hGl1
              · refine ⟨?_, ?_⟩
                · (try dsimp only) <;> (first | omega | rfl | assumption | (simp; done))
                · (try dsimp only) <;> ((obtain ⟨j, rfl⟩ : ∃ j, i = j + 1 := ⟨i - 1, by omega⟩); exact back_step ew rl (hld j (by omega)))
            · have c6k := c6
              try simp only [decide_eq_true_eq, decide_eq_false_iff_not, Int.not_lt, Int.not_le, gt_iff_lt, ge_iff_le, Bool.or_eq_true, Bool.and_eq_true, Bool.or_eq_false_iff, Bool.and_eq_false_iff, Bool.not_eq_true', Bool.not_eq_false', Int.toNat_natCast, bne_iff_ne, beq_iff_eq, bne_eq_false_iff_eq, beq_eq_false_iff_ne, ne_eq] at c6
              refine .exit ?_
              refine .xcode ?_
              refine .xlp ?_
              refine .xblk ?_
              refine .code ?_
              refine .seq ?_
              refine Wk.rg [0, 1, 2, 3, 4, 5, 6, 7, 8, 9, 10] rfl rfl ?_
              refine mv rfl .no (.u rfl) ?_
              refine mv rfl .no (.u rfl) ?_
              refine nc rfl .no (.u rfl) ?_
              refine fz rfl .no Fx.fo78_1 (.u rfl) ?_
              refine ld rfl .no Fx.ag3 (.u rfl) (fun _ => Rd.own .here (by first | exact wap_f rfl | rfl)) ?_
              refine mv rfl .no (.u rfl) ?_
              refine arn (((I + k) : Nat) : Int) rfl .no (.u rfl) (.u rfl) rfl (fun _ => by omega) (fun _ => wrap_i64 (by omega) (by omega)) ?_
              refine arn ((((I + k) + 1) : Nat) : Int) rfl .no (.u rfl) (.u rfl) rfl (fun _ => by omega) (fun _ => wrap_i64 (by omega) (by omega)) ?_
              refine nc rfl .no (.u rfl) ?_
              refine fz rfl .no Fx.fo78_1 (.u rfl) ?_
              refine s1 rfl (.u rfl) (.u rfl) rfl Fx.sz3 .here (show 1 < 3 by decide) (rfl) ?_
              refine .nil ?_
              refine .code ?_
              refine .seq ?_
              refine Wk.rg [0, 1] rfl rfl ?_
              refine mv rfl .no (.u rfl) ?_
              refine asg rfl .no (.u rfl) ?_
              refine .nil ?_
              refine .code ?_
              refine .ret ?_
              refine We.fin Try.results40 (.tmp rfl .nil) (MSub.cons .here rfl MSub.nil) ?_
              obtain rfl : i = 0 := by omega
              obtain rfl : e = 0 := by simpa using c1k
              exact ⟨w.toNat, I + k + 1, 0, rn_ok rfl rk (back_end ew), by omega, rfl, rfl⟩

set_option maxHeartbeats 1000000 in
theorem qStr_ok (B : List Y) (I : Nat) (e : Int) (s : Sh) (b : Nat) (G : PM) (hs : SlR G 1 encY s B) (hI : I ≤ B.length) (hl : B.length ≤ 100000000000000) (most : Nat) (hm : most ≤ 100000000000000) : Ct Try.prog 66 ([.pointer (some ⟨b, 0, none⟩), .int .i64 (most : Int)] : List Value).toArray G [.blk b (cl [Sh.val s B.length, .int .i64 (I : Int), .int .i64 e] 78)] (fun G' μ' u => ∃ M I' e', rdStr most ⟨B.drop I, e⟩ = (M, ⟨B.drop I', e'⟩) ∧ I' ≤ B.length ∧ μ' = [.blk b (cl [Sh.val s B.length, .int .i64 (I' : Int), .int .i64 e'] 78)] ∧ u = .string (bstr M)) := by
  refine Ct.of Try.func66 rfl Try.ntmps66 rfl fun w0 hs0 => ?_
  refine .seq ?_
  refine Wk.rg [0] rfl rfl ?_
  refine asg rfl .no (.u rfl) ?_
  refine .nil ?_
  refine .code ?_
  refine .seq ?_
  refine .seq ?_
  refine Wk.rg [0, 1, 2, 3, 4] rfl rfl ?_
  refine mv rfl .no (.u rfl) ?_
  refine nc rfl .no (.u rfl) ?_
  refine fz rfl .no Fx.fo78_2 (.u rfl) ?_
  refine ld rfl .no Fx.ag35 (.u rfl) (fun _ => Rd.own .here (by first | exact wap_f rfl | rfl)) ?_
  refine cp rfl .no (.u rfl) (.u rfl) rfl ?_
  refine .nil ?_
  refine .code ?_
  refine .cond rfl (fun c1 => ?_) (fun c1 => ?_)
  · have c1k := c1
    try simp only [decide_eq_true_eq, decide_eq_false_iff_not, Int.not_lt, Int.not_le, gt_iff_lt, ge_iff_le, Bool.or_eq_true, Bool.and_eq_true, Bool.or_eq_false_iff, Bool.and_eq_false_iff, Bool.not_eq_true', Bool.not_eq_false', Int.toNat_natCast, bne_iff_ne, beq_iff_eq, bne_eq_false_iff_eq, beq_eq_false_iff_ne, ne_eq] at c1
    refine .seq ?_
    refine Wk.rg [0] rfl rfl ?_
    refine asg rfl .no (.u rfl) ?_
    refine .nil ?_
    refine .code ?_
    refine .ret ?_
    refine We.fin Try.results66 (.tmp rfl .nil) (MSub.cons .here rfl MSub.nil) ?_
    exact ⟨[], I, e, rd_str_bad (by simpa using c1k), hI, rfl, rfl⟩
  · have c1k := c1
    try simp only [decide_eq_true_eq, decide_eq_false_iff_not, Int.not_lt, Int.not_le, gt_iff_lt, ge_iff_le, Bool.or_eq_true, Bool.and_eq_true, Bool.or_eq_false_iff, Bool.and_eq_false_iff, Bool.not_eq_true', Bool.not_eq_false', Int.toNat_natCast, bne_iff_ne, beq_iff_eq, bne_eq_false_iff_eq, beq_eq_false_iff_ne, ne_eq] at c1
    refine .skip ?_
    refine .code ?_
    refine .seq ?_
    refine Wk.rg [0, 1, 2, 3, 4] rfl rfl ?_
    refine mv rfl .no (.u rfl) ?_
    refine nc rfl .no (.u rfl) ?_
    refine fz rfl .no Fx.fo78_1 (.u rfl) ?_
    refine ld rfl .no Fx.ag3 (.u rfl) (fun _ => Rd.own .here (by first | exact wap_f rfl | rfl)) ?_
    refine asg rfl .no (.u rfl) ?_
    refine .nil ?_
    refine .code ?_
    refine .seq ?_
    refine Wk.rg [0, 1, 2] rfl rfl ?_
    refine mv rfl .no (.u rfl) ?_
    refine ka rfl (.inr rfl) Fx.go40 (Eva.cons (.u rfl) Eva.nil) (mtk1 .here) (qNum_ok B I e s b _ hs hI hl) ?_
    rintro _ G18 μ18 hG18 ⟨n18, I', e', hN, hI', rfl, rfl⟩
    have hNt := rdnum_lt hN
    have hs := hs.mono hG18
    refine asg rfl .no (.u rfl) ?_
    refine .nil ?_
    refine .code ?_
    refine .seq ?_
    refine .seq ?_
    refine Wk.rg [0, 1, 2, 3, 4] rfl rfl ?_
    refine mv rfl .no (.u rfl) ?_
    refine nc rfl .no (.u rfl) ?_
    refine fz rfl .no Fx.fo78_2 (.u rfl) ?_
    refine ld rfl .no Fx.ag35 (.u rfl) (fun _ => Rd.own .here (by first | exact wap_f rfl | rfl)) ?_
    refine cp rfl .no (.u rfl) (.u rfl) rfl ?_
    refine .nil ?_
    refine .code ?_
    refine .cond rfl (fun c2 => ?_) (fun c2 => ?_)
    · have c2k := c2
      try simp only [decide_eq_true_eq, decide_eq_false_iff_not, Int.not_lt, Int.not_le, gt_iff_lt, ge_iff_le, Bool.or_eq_true, Bool.and_eq_true, Bool.or_eq_false_iff, Bool.and_eq_false_iff, Bool.not_eq_true', Bool.not_eq_false', Int.toNat_natCast, bne_iff_ne, beq_iff_eq, bne_eq_false_iff_eq, beq_eq_false_iff_ne, ne_eq] at c2
      refine .seq ?_
      refine Wk.rg [0] rfl rfl ?_
      refine asg rfl .no (.u rfl) ?_
      refine .nil ?_
      refine .code ?_
      refine .ret ?_
      refine We.fin Try.results66 (.tmp rfl .nil) (MSub.cons .here rfl MSub.nil) ?_
      exact ⟨[], I', e', qs_form (by simpa using c1k) hN (by simpa using c2k), hI', rfl, rfl⟩
    · have c2k := c2
      try simp only [decide_eq_true_eq, decide_eq_false_iff_not, Int.not_lt, Int.not_le, gt_iff_lt, ge_iff_le, Bool.or_eq_true, Bool.and_eq_true, Bool.or_eq_false_iff, Bool.and_eq_false_iff, Bool.not_eq_true', Bool.not_eq_false', Int.toNat_natCast, bne_iff_ne, beq_iff_eq, bne_eq_false_iff_eq, beq_eq_false_iff_ne, ne_eq] at c2
      refine .skip ?_
      refine .code ?_
      refine .seq ?_
      refine .seq ?_
      refine Wk.rg [0, 1] rfl rfl ?_
      refine mv rfl .no (.u rfl) ?_
      refine cp rfl .no (.u rfl) (.u rfl) rfl ?_
      refine .nil ?_
      refine .code ?_
      refine .cond rfl (fun c3 => ?_) (fun c3 => ?_)
      · have c3k := c3
        try simp only [decide_eq_true_eq, decide_eq_false_iff_not, Int.not_lt, Int.not_le, gt_iff_lt, ge_iff_le, Bool.or_eq_true, Bool.and_eq_true, Bool.or_eq_false_iff, Bool.not_eq_true', Bool.not_eq_false', Int.toNat_natCast, bne_iff_ne, beq_iff_eq, bne_eq_false_iff_eq, beq_eq_false_iff_ne, ne_eq] at c3
        exfalso; omega
      · have c3k := c3
        try simp only [decide_eq_true_eq, decide_eq_false_iff_not, Int.not_lt, Int.not_le, gt_iff_lt, ge_iff_le, Bool.or_eq_true, Bool.and_eq_true, Bool.or_eq_false_iff, Bool.and_eq_false_iff, Bool.not_eq_true', Bool.not_eq_false', Int.toNat_natCast, bne_iff_ne, beq_iff_eq, bne_eq_false_iff_eq, beq_eq_false_iff_ne, ne_eq] at c3
        refine .skip ?_
        refine .code ?_
        refine .seq ?_
        refine .seq ?_
        refine Wk.rg [0, 1, 2, 3] rfl rfl ?_
        refine mv rfl .no (.u rfl) ?_
        refine mv rfl .no (.u rfl) ?_
        refine cw rfl .no Fx.cv3_24 (.u rfl) (fun _ => wrap_u64 (by omega) (by omega)) ?_
        refine cp rfl .no (.u rfl) (.u rfl) rfl ?_
        refine .nil ?_
        refine .code ?_
        refine .cond rfl (fun c4 => ?_) (fun c4 => ?_)
        · have c4k := c4
          try simp only [decide_eq_true_eq, decide_eq_false_iff_not, Int.not_lt, Int.not_le, gt_iff_lt, ge_iff_le, Bool.or_eq_true, Bool.and_eq_true, Bool.or_eq_false_iff, Bool.and_eq_false_iff, Bool.not_eq_true', Bool.not_eq_false', Int.toNat_natCast, bne_iff_ne, beq_iff_eq, bne_eq_false_iff_eq, beq_eq_false_iff_ne, ne_eq] at c4
          refine .seq ?_
          refine Wk.rg [0, 1] rfl rfl ?_
          refine mv rfl .no (.u rfl) ?_
          refine ka rfl (.inr rfl) Fx.go64 (Eva.cons (.u rfl) (Eva.cons (.u rfl) Eva.nil)) (mtk1 .here) (fail_ok _ _ _ 4 _ _) ?_
          rintro _ G31 μ31 hG31 ⟨rfl, rfl⟩
          have hs := hs.mono hG31
          refine .nil ?_
          refine .code ?_
          refine .seq ?_
          refine Wk.rg [0, 1, 2, 3, 4] rfl rfl ?_
          refine mv rfl .no (.u rfl) ?_
          refine mv rfl .no (.u rfl) ?_
          refine nc rfl .no (.u rfl) ?_
          refine fz rfl .no Fx.fo78_1 (.u rfl) ?_
          refine s1 rfl (.u rfl) (.u rfl) rfl Fx.sz3 .here (show 1 < 3 by decide) (rfl) ?_
          refine .nil ?_
          refine .code ?_
          refine .seq ?_
          refine Wk.rg [0] rfl rfl ?_
          refine asg rfl .no (.u rfl) ?_
          refine .nil ?_
          refine .code ?_
          refine .ret ?_
          refine We.fin Try.results66 (.tmp rfl .nil) (MSub.cons .here rfl MSub.nil) ?_
          exact ⟨[], I, 4, qs_long (by simpa using c1k) hN (by simpa using c2k) (by omega), hI, rfl, rfl⟩
        · have c4k := c4
          try simp only [decide_eq_true_eq, decide_eq_false_iff_not, Int.not_lt, Int.not_le, gt_iff_lt, ge_iff_le, Bool.or_eq_true, Bool.and_eq_true, Bool.or_eq_false_iff, Bool.and_eq_false_iff, Bool.not_eq_true', Bool.not_eq_false', Int.toNat_natCast, bne_iff_ne, beq_iff_eq, bne_eq_false_iff_eq, beq_eq_false_iff_ne, ne_eq] at c4
          refine .skip ?_
          refine .code ?_
          refine .seq ?_
          refine .seq ?_
          refine Wk.draw (mc := ⟨false, false⟩) [0, 1, 2, 3, 4, 5, 6, 7, 8, 9, 10, 11, 12] Fx.mix (by kernel_rfl) ?_
          refine mv rfl .no (.u rfl) ?_
          refine mv rfl .no (.u rfl) ?_
          refine nc rfl .no (.u rfl) ?_
          refine fz rfl .no Fx.fo78_0 (.u rfl) ?_
          refine ld rfl .no Fx.ag33 (.u rfl) (fun _ => Rd.own .here (by first | exact wap_f rfl | rfl)) ?_
          refine ln rfl .no Fx.sn33 (.u rfl) ?_
          refine mv rfl .no (.u rfl) ?_
          refine nc rfl .no (.u rfl) ?_
          refine fz rfl .no Fx.fo78_1 (.u rfl) ?_
          refine ld rfl .no Fx.ag3 (.u rfl) (fun _ => Rd.own .here (by first | exact wap_f rfl | rfl)) ?_
          refine ar rfl .no (.u rfl) (.u rfl) rfl (fun _ => wrap_i64 (by omega) (by omega)) ?_
          refine cw rfl .no Fx.cv3_24 (.u rfl) (fun _ => wrap_u64 (by omega) (by omega)) ?_
          refine cp rfl .no (.u rfl) (.u rfl) rfl ?_
          refine .nil ?_
          refine .code ?_
          refine .cond rfl (fun c5 => ?_) (fun c5 => ?_)
          · have c5k := c5
            try simp only [decide_eq_true_eq, decide_eq_false_iff_not, Int.not_lt, Int.not_le, gt_iff_lt, ge_iff_le, Bool.or_eq_true, Bool.and_eq_true, Bool.or_eq_false_iff, Bool.and_eq_false_iff, Bool.not_eq_true', Bool.not_eq_false', Int.toNat_natCast, bne_iff_ne, beq_iff_eq, bne_eq_false_iff_eq, beq_eq_false_iff_ne, ne_eq] at c5
            refine .seq ?_
            refine Wk.rg [0, 1] rfl rfl ?_
            refine mv rfl .no (.u rfl) ?_
            refine ka rfl (.inr rfl) Fx.go64 (Eva.cons (.u rfl) (Eva.cons (.u rfl) Eva.nil)) (mtk1 .here) (fail_ok _ _ _ 10 _ _) ?_
            rintro _ G50 μ50 hG50 ⟨rfl, rfl⟩
            have hs := hs.mono hG50
            refine .nil ?_
            refine .code ?_
            refine .seq ?_
            refine Wk.rg [0, 1, 2, 3, 4] rfl rfl ?_
            refine mv rfl .no (.u rfl) ?_
            refine mv rfl .no (.u rfl) ?_
            refine nc rfl .no (.u rfl) ?_
            refine fz rfl .no Fx.fo78_1 (.u rfl) ?_
            refine s1 rfl (.u rfl) (.u rfl) rfl Fx.sz3 .here (show 1 < 3 by decide) (rfl) ?_
            refine .nil ?_
            refine .code ?_
            refine .seq ?_
            refine Wk.rg [0] rfl rfl ?_
            refine asg rfl .no (.u rfl) ?_
            refine .nil ?_
            refine .code ?_
            refine .ret ?_
            refine We.fin Try.results66 (.tmp rfl .nil) (MSub.cons .here rfl MSub.nil) ?_
            exact ⟨[], I, 10, qs_short (by simpa using c1k) hN (by simpa using c2k) hI' (by omega) (by omega), hI, rfl, rfl⟩
          · have c5k := c5
            try simp only [decide_eq_true_eq, decide_eq_false_iff_not, Int.not_lt, Int.not_le, gt_iff_lt, ge_iff_le, Bool.or_eq_true, Bool.and_eq_true, Bool.or_eq_false_iff, Bool.and_eq_false_iff, Bool.not_eq_true', Bool.not_eq_false', Int.toNat_natCast, bne_iff_ne, beq_iff_eq, bne_eq_false_iff_eq, beq_eq_false_iff_ne, ne_eq] at c5
            refine .skip ?_
            refine .code ?_
            refine .seq ?_
            refine Wk.draw (mc := ⟨false, false⟩) [0, 1, 2, 3, 4, 5, 6, 7, 8, 9, 10, 11, 12, 13, 14, 15, 16, 17] Fx.mix (by kernel_rfl) ?_
            refine mv rfl .no (.u rfl) ?_
            refine nc rfl .no (.u rfl) ?_
            refine fz rfl .no Fx.fo78_0 (.u rfl) ?_
            refine ld rfl .no Fx.ag33 (.u rfl) (fun _ => Rd.own .here (by first | exact wap_f rfl | rfl)) ?_
            refine mv rfl .no (.u rfl) ?_
            refine nc rfl .no (.u rfl) ?_
            refine fz rfl .no Fx.fo78_1 (.u rfl) ?_
            refine ld rfl .no Fx.ag3 (.u rfl) (fun _ => Rd.own .here (by first | exact wap_f rfl | rfl)) ?_
            refine mv rfl .no (.u rfl) ?_
            refine nc rfl .no (.u rfl) ?_
            refine fz rfl .no Fx.fo78_1 (.u rfl) ?_
            refine ld rfl .no Fx.ag3 (.u rfl) (fun _ => Rd.own .here (by first | exact wap_f rfl | rfl)) ?_
            refine mv rfl .no (.u rfl) ?_
            refine cw rfl .no Fx.cv24_3 (.u rfl) (fun _ => wrap_i64 (by omega) (by omega)) ?_
            refine arn (((I' + n18) : Nat) : Int) rfl .no (.u rfl) (.u rfl) rfl (fun _ => by omega) (fun _ => wrap_i64 (by omega) (by omega)) ?_
            refine kS (I') ((I' + n18)) rfl .no Fx.se33 hs (.u rfl) (.u rfl) (.u rfl) (fun _ => by omega) (fun _ => by omega) (fun _ => by omega) (fun _ => by omega) ?_
            intro h70 L70 eL70 lL70 hs70
            have lL70 := lL70 rfl
            refine sB rfl .no Fx.bs33_9 (.u rfl) (fun _ => hs70.sc) ?_
            refine asg rfl .no (.u rfl) ?_
            refine .nil ?_
            refine .code ?_
            refine .seq ?_
            refine Wk.rg [0, 1, 2, 3, 4, 5, 6, 7, 8, 9, 10] rfl rfl ?_
            refine mv rfl .no (.u rfl) ?_
            refine mv rfl .no (.u rfl) ?_
            refine nc rfl .no (.u rfl) ?_
            refine fz rfl .no Fx.fo78_1 (.u rfl) ?_
            refine ld rfl .no Fx.ag3 (.u rfl) (fun _ => Rd.own .here (by first | exact wap_f rfl | rfl)) ?_
            refine mv rfl .no (.u rfl) ?_
            refine cw rfl .no Fx.cv24_3 (.u rfl) (fun _ => wrap_i64 (by omega) (by omega)) ?_
            refine arn (((I' + n18) : Nat) : Int) rfl .no (.u rfl) (.u rfl) rfl (fun _ => by omega) (fun _ => wrap_i64 (by omega) (by omega)) ?_
            refine nc rfl .no (.u rfl) ?_
            refine fz rfl .no Fx.fo78_1 (.u rfl) ?_
            refine s1 rfl (.u rfl) (.u rfl) rfl Fx.sz3 .here (show 1 < 3 by decide) (rfl) ?_
            refine .nil ?_
            refine .code ?_
            refine .seq ?_
            refine Wk.rg [0, 1] rfl rfl ?_
            refine mv rfl .no (.u rfl) ?_
            refine asg rfl .no (.u rfl) ?_
            refine .nil ?_
            refine .code ?_
            refine .ret ?_
            refine We.fin Try.results66 (.tmp rfl .nil) (MSub.cons .here rfl MSub.nil) ?_
            obtain rfl : e = 0 := by simpa using c1k
            obtain rfl : e' = 0 := by simpa using c2k
            exact ⟨L70, I' + n18, 0, qs_ok hN hI' (by omega) (by omega) eL70, by omega, rfl, rfl⟩

theorem qFix_ok (B : List Y) (I : Nat) (e : Int) (s : Sh) (b : Nat) (G : PM) (hs : SlR G 1 encY s B) (hI : I ≤ B.length) (hl : B.length ≤ 100000000000000) : Ct Try.prog 67 ([.pointer (some ⟨b, 0, none⟩), .int .i64 ((1 : Nat) : Int)] : List Value).toArray G [.blk b (cl [Sh.val s B.length, .int .i64 (I : Int), .int .i64 e] 78)] (fun G' μ' u => ∃ y I' e', rdByte ⟨B.drop I, e⟩ = (y, ⟨B.drop I', e'⟩) ∧ I' ≤ B.length ∧ μ' = [.blk b (cl [Sh.val s B.length, .int .i64 (I' : Int), .int .i64 e'] 78)] ∧ u = uv .u64 (y.setWidth 64)) := by
  refine Ct.of Try.func67 rfl Try.ntmps67 rfl fun w0 hs0 => ?_
  refine .seq ?_
  refine Wk.rg [0] rfl rfl ?_
  refine asg rfl .no (.u rfl) ?_
  refine .nil ?_
  refine .code ?_
  refine .seq ?_
  refine .seq ?_
  refine Wk.rg [0, 1, 2, 3, 4] rfl rfl ?_
  refine mv rfl .no (.u rfl) ?_
  refine nc rfl .no (.u rfl) ?_
  refine fz rfl .no Fx.fo78_2 (.u rfl) ?_
  refine ld rfl .no Fx.ag35 (.u rfl) (fun _ => Rd.own .here (by first | exact wap_f rfl | rfl)) ?_
  refine cp rfl .no (.u rfl) (.u rfl) rfl ?_
  refine .nil ?_
  refine .code ?_
  refine .cond rfl (fun c1 => ?_) (fun c1 => ?_)
  · have c1k := c1
    try simp only [decide_eq_true_eq, decide_eq_false_iff_not, Int.not_lt, Int.not_le, gt_iff_lt, ge_iff_le, Bool.or_eq_true, Bool.and_eq_true, Bool.or_eq_false_iff, Bool.and_eq_false_iff, Bool.not_eq_true', Bool.not_eq_false', Int.toNat_natCast, bne_iff_ne, beq_iff_eq, bne_eq_false_iff_eq, beq_eq_false_iff_ne, ne_eq] at c1
    refine .seq ?_
    refine Wk.rg [0] rfl rfl ?_
    refine asg rfl .no (.u rfl) ?_
    refine .nil ?_
    refine .code ?_
    refine .ret ?_
    refine We.fin Try.results67 (.tmp rfl .nil) (MSub.cons .here rfl MSub.nil) ?_
    exact ⟨0, I, e, rd_byte_bad (by simpa using c1k), hI, rfl, rfl⟩
  · have c1k := c1
    try simp only [decide_eq_true_eq, decide_eq_false_iff_not, Int.not_lt, Int.not_le, gt_iff_lt, ge_iff_le, Bool.or_eq_true, Bool.and_eq_true, Bool.or_eq_false_iff, Bool.and_eq_false_iff, Bool.not_eq_true', Bool.not_eq_false', Int.toNat_natCast, bne_iff_ne, beq_iff_eq, bne_eq_false_iff_eq, beq_eq_false_iff_ne, ne_eq] at c1
    refine .skip ?_
    refine .code ?_
    refine .seq ?_
    refine .seq ?_
    refine Wk.rg [0, 1, 2, 3, 4, 5] rfl rfl ?_
    refine mv rfl .no (.u rfl) ?_
    refine cp rfl .no (.u rfl) (.u rfl) rfl ?_
    refine mv rfl .no (.u rfl) ?_
    refine mv rfl (.f rfl rfl) (.u rfl) ?_
    refine cp rfl (.f rfl rfl) (.s rfl) (.u rfl) rfl ?_
    refine pkO rfl .no (.u rfl) (.s rfl) ?_
    refine .nil ?_
    refine .code ?_
    refine .cond rfl (fun c2 => ?_) (fun c2 => ?_)
    · have c2k := c2
      exact absurd c2 (by decide)
    · have c2k := c2
      try simp only [decide_eq_true_eq, decide_eq_false_iff_not, Int.not_lt, Int.not_le, gt_iff_lt, ge_iff_le, Bool.or_eq_true, Bool.and_eq_true, Bool.or_eq_false_iff, Bool.and_eq_false_iff, Bool.not_eq_true', Bool.not_eq_false', Int.toNat_natCast, bne_iff_ne, beq_iff_eq, bne_eq_false_iff_eq, beq_eq_false_iff_ne, ne_eq] at c2
      refine .skip ?_
      refine .code ?_
      refine .seq ?_
      refine .seq ?_
      refine Wk.draw (mc := ⟨false, false⟩) [0, 1, 2, 3, 4, 5, 6, 7, 8, 9, 10, 11] Fx.mix (by kernel_rfl) ?_
      refine mv rfl .no (.u rfl) ?_
      refine mv rfl .no (.u rfl) ?_
      refine nc rfl .no (.u rfl) ?_
      refine fz rfl .no Fx.fo78_0 (.u rfl) ?_
      refine ld rfl .no Fx.ag33 (.u rfl) (fun _ => Rd.own .here (by first | exact wap_f rfl | rfl)) ?_
      refine ln rfl .no Fx.sn33 (.u rfl) ?_
      refine mv rfl .no (.u rfl) ?_
      refine nc rfl .no (.u rfl) ?_
      refine fz rfl .no Fx.fo78_1 (.u rfl) ?_
      refine ld rfl .no Fx.ag3 (.u rfl) (fun _ => Rd.own .here (by first | exact wap_f rfl | rfl)) ?_
      refine ar rfl .no (.u rfl) (.u rfl) rfl (fun _ => wrap_i64 (by omega) (by omega)) ?_
      refine cp rfl .no (.u rfl) (.u rfl) rfl ?_
      refine .nil ?_
      refine .code ?_
      refine .cond rfl (fun c3 => ?_) (fun c3 => ?_)
      · have c3k := c3
        try simp only [decide_eq_true_eq, decide_eq_false_iff_not, Int.not_lt, Int.not_le, gt_iff_lt, ge_iff_le, Bool.or_eq_true, Bool.and_eq_true, Bool.or_eq_false_iff, Bool.and_eq_false_iff, Bool.not_eq_true', Bool.not_eq_false', Int.toNat_natCast, bne_iff_ne, beq_iff_eq, bne_eq_false_iff_eq, beq_eq_false_iff_ne, ne_eq] at c3
        refine .seq ?_
        refine Wk.rg [0, 1] rfl rfl ?_
        refine mv rfl .no (.u rfl) ?_
        refine ka rfl (.inr rfl) Fx.go64 (Eva.cons (.u rfl) (Eva.cons (.u rfl) Eva.nil)) (mtk1 .here) (fail_ok _ _ _ 10 _ _) ?_
        rintro _ G33 μ33 hG33 ⟨rfl, rfl⟩
        have hs := hs.mono hG33
        refine .nil ?_
        refine .code ?_
        refine .seq ?_
        refine Wk.rg [0] rfl rfl ?_
        refine asg rfl .no (.u rfl) ?_
        refine .nil ?_
        refine .code ?_
        refine .ret ?_
        refine We.fin Try.results67 (.tmp rfl .nil) (MSub.cons .here rfl MSub.nil) ?_
        exact ⟨0, I, 10, rd_byte_short (by simpa using c1k) (by simp only [List.length_drop]; omega), hI, rfl, rfl⟩
      · have c3k := c3
        try simp only [decide_eq_true_eq, decide_eq_false_iff_not, Int.not_lt, Int.not_le, gt_iff_lt, ge_iff_le, Bool.or_eq_true, Bool.and_eq_true, Bool.or_eq_false_iff, Bool.and_eq_false_iff, Bool.not_eq_true', Bool.not_eq_false', Int.toNat_natCast, bne_iff_ne, beq_iff_eq, bne_eq_false_iff_eq, beq_eq_false_iff_ne, ne_eq] at c3
        refine .skip ?_
        refine .code ?_
        refine .seq ?_
        refine Wk.rg [0] rfl rfl ?_
        refine asg rfl .no (.u rfl) ?_
        refine .nil ?_
        refine .code ?_
        refine .seq ?_
        refine .seq ?_
        refine Wk.rg [0, 1, 2] rfl rfl ?_
        refine mv rfl .no (.u rfl) ?_
        refine ar rfl .no (.u rfl) (.u rfl) rfl (fun _ => wrap_i64 (by omega) (by omega)) ?_
        refine asg rfl .no (.u rfl) ?_
        refine .nil ?_
        refine .code ?_
        refine .block ?_
        refine Wk.lop (α := Nat × BitVec 64) (fun gh => [(5, true, uv .u64 gh.2), (6, true, .int .i64 ((gh.1 : Int) - 1))]) (fun _ => [])
          (fun gh Gl => (gh.1 ≤ 1) ∧ (gh.2 = if gh.1 = 1 then 0#64 else (B.getD I 0).setWidth 64)) (fun gh => gh.1) (1, 0#64) [(0, true, _), (1, true, _)] [_]
          (ESub.cons rfl rfl (ESub.cons rfl (by first | rfl | exact evi (by omega)) (ESub.cons rfl rfl (ESub.cons rfl rfl ESub.nil))))
          (MSub.cons .here rfl MSub.nil) ?_ ?_
        · refine ⟨?_, ?_⟩
          · (try dsimp only) <;> (first | omega | rfl | assumption | (simp; done))
          · (try dsimp only) <;> (rfl)
        intro gh N0 Gl0 hN0 hGl0 hF0
        obtain ⟨i, m⟩ := gh; dsimp only at hF0 hN0 ⊢
        obtain ⟨hi, em⟩ := hF0
        have hs := hs.mono hGl0
        refine .seq ?_
        refine .seq ?_
        refine Wk.rg [0, 1] rfl rfl ?_
        refine mv rfl .no (.u rfl) ?_
        refine cp rfl .no (.u rfl) (.u rfl) rfl ?_
        refine .nil ?_
        refine .code ?_
        refine .cond rfl (fun c4 => ?_) (fun c4 => ?_)
        · have c4k := c4
          try simp only [decide_eq_true_eq, decide_eq_false_iff_not, Int.not_lt, Int.not_le, gt_iff_lt, ge_iff_le, Bool.or_eq_true, Bool.and_eq_true, Bool.or_eq_false_iff, Bool.and_eq_false_iff, Bool.not_eq_true', Bool.not_eq_false', Int.toNat_natCast, bne_iff_ne, beq_iff_eq, bne_eq_false_iff_eq, beq_eq_false_iff_ne, ne_eq] at c4
          refine .skip ?_
          refine .code ?_
          refine .seq ?_
          refine .block ?_
          refine Wk.draw (mc := ⟨false, false⟩) [0, 1, 2, 3, 4, 5, 6, 7, 8, 9, 10, 11, 12, 13, 14, 15, 16] Fx.mix (by kernel_rfl) ?_
          refine mv rfl .no (.u rfl) ?_
          refine bw (k := .u64) (b := 256#64) rfl .no rfl (.u rfl) (.u rfl) rfl ?_
          refine mv rfl .no (.u rfl) ?_
          refine nc rfl .no (.u rfl) ?_
          refine fz rfl .no Fx.fo78_0 (.u rfl) ?_
          refine ld rfl .no Fx.ag33 (.u rfl) (fun _ => Rd.own .here (by first | exact wap_f rfl | rfl)) ?_
          refine mv rfl .no (.u rfl) ?_
          refine nc rfl .no (.u rfl) ?_
          refine fz rfl .no Fx.fo78_1 (.u rfl) ?_
          refine ld rfl .no Fx.ag3 (.u rfl) (fun _ => Rd.own .here (by first | exact wap_f rfl | rfl)) ?_
          refine mv rfl .no (.u rfl) ?_
          refine arn (((I + (i - 1)) : Nat) : Int) rfl .no (.u rfl) (.u rfl) rfl (fun _ => by omega) (fun _ => wrap_i64 (by omega) (by omega)) ?_
          refine ih rfl .no Fx.se33 (.u rfl) (.u rfl) (fun _ => by omega) (fun _ => by omega) (fun _ => hs.nn (k := (I + (i - 1))) (by omega)) ?_
          refine ld rfl .no Fx.ag5 (.u rfl) (fun _ => (hs.yat ((I + (i - 1))) (by omega) (by omega)).rd) ?_
          refine cu (k := .u8) rfl .no rfl Fx.cv5_24 (.u rfl) ?_
          refine bw (k := .u64) rfl .no rfl (.u rfl) (.u rfl) rfl ?_
          refine asg rfl .no (.u rfl) ?_
          refine .nil ?_
          refine .blk ?_
          refine .code ?_
          refine Wk.rg [0, 1, 2] rfl rfl ?_
          refine mv rfl .no (.u rfl) ?_
          refine ar rfl .no (.u rfl) (.u rfl) rfl (fun _ => wrap_i64 (by omega) (by omega)) ?_
          refine asg rfl .no (.u rfl) ?_
          refine .nil ?_
          refine We.lpo (i - 1, m * 256#64 + (B.getD (I + (i - 1)) 0).setWidth 64) ?_ ?_ ?_ ?_ ?_
          · exact (ESub.cons rfl rfl (ESub.cons rfl (by first | rfl | exact evi (by omega)) (ESub.cons rfl rfl (ESub.cons rfl rfl ESub.nil))))
          · exact (MSub.cons .here rfl MSub.nil)
          · (dsimp only; omega)
          · exact hGl0
          · refine ⟨?_, ?_⟩
            · (try dsimp only) <;> (first | omega | rfl | assumption | (simp; done))
            · (try dsimp only) <;> ((obtain rfl : i = 1 := by omega); rw [em, if_pos rfl]; simp)
        · have c4k := c4
          try simp only [decide_eq_true_eq, decide_eq_false_iff_not, Int.not_lt, Int.not_le, gt_iff_lt, ge_iff_le, Bool.or_eq_true, Bool.and_eq_true, Bool.or_eq_false_iff, Bool.and_eq_false_iff, Bool.not_eq_true', Bool.not_eq_false', Int.toNat_natCast, bne_iff_ne, beq_iff_eq, bne_eq_false_iff_eq, beq_eq_false_iff_ne, ne_eq] at c4
          refine .exit ?_
          refine .xcode ?_
          refine .xlp ?_
          refine .xblk ?_
          refine .code ?_
          refine .seq ?_
          refine Wk.rg [0, 1, 2, 3, 4, 5, 6, 7, 8, 9] rfl rfl ?_
          refine mv rfl .no (.u rfl) ?_
          refine mv rfl .no (.u rfl) ?_
          refine nc rfl .no (.u rfl) ?_
          refine fz rfl .no Fx.fo78_1 (.u rfl) ?_
          refine ld rfl .no Fx.ag3 (.u rfl) (fun _ => Rd.own .here (by first | exact wap_f rfl | rfl)) ?_
          refine mv rfl .no (.u rfl) ?_
          refine arn (((I + 1) : Nat) : Int) rfl .no (.u rfl) (.u rfl) rfl (fun _ => by omega) (fun _ => wrap_i64 (by omega) (by omega)) ?_
          refine nc rfl .no (.u rfl) ?_
          refine fz rfl .no Fx.fo78_1 (.u rfl) ?_
          refine s1 rfl (.u rfl) (.u rfl) rfl Fx.sz3 .here (show 1 < 3 by decide) (rfl) ?_
          refine .nil ?_
          refine .code ?_
          refine .seq ?_
          refine Wk.rg [0, 1] rfl rfl ?_
          refine mv rfl .no (.u rfl) ?_
          refine asg rfl .no (.u rfl) ?_
          refine .nil ?_
          refine .code ?_
          refine .ret ?_
          refine We.fin Try.results67 (.tmp rfl .nil) (MSub.cons .here rfl MSub.nil) ?_
          obtain rfl : i = 0 := by omega
          obtain rfl : e = 0 := by simpa using c1k
          exact ⟨_, I + 1, 0, rd_byte_ok rfl (by simp only [List.length_drop]; omega) (by rw [List.drop_drop]), by omega, rfl, by rw [em, drop_get]; rfl⟩

theorem qEnd_ok (B : List Y) (I : Nat) (e : Int) (s : Sh) (b : Nat) (G : PM) (hp : RdNP G b 0 [s.val B.length, .int .i64 (I : Int), .int .i64 e]) : Ct Try.prog 43 ([.pointer (some ⟨b, 0, none⟩)] : List Value).toArray G [] (fun _ μ' u => μ' = [] ∧ u = .int .i64 (endI (B.drop I) e)) := by
  refine Ct.of Try.func43 rfl Try.ntmps43 rfl fun w0 hs0 => ?_
  refine .seq ?_
  refine Wk.rg [0] rfl rfl ?_
  refine asg rfl .no (.u rfl) ?_
  refine .nil ?_
  refine .code ?_
  refine .seq ?_
  refine .seq ?_
  refine Wk.draw (mc := ⟨false, false⟩) [0, 1, 2, 3, 4, 5, 6, 7, 8, 9, 10, 11, 12, 13, 14, 15, 16] Fx.mix (by kernel_rfl) ?_
  refine mv rfl .no (.u rfl) ?_
  refine nc rfl .no (.u rfl) ?_
  refine fz rfl .no Fx.fo78_2 (.u rfl) ?_
  refine ld rfl .no Fx.ag35 (.u rfl) (fun _ => (hp.z rfl).rd) ?_
  refine cp rfl .no (.u rfl) (.u rfl) rfl ?_
  refine mv rfl .no (.u rfl) ?_
  refine mv rfl (.t rfl rfl) (.u rfl) ?_
  refine nc rfl (.t rfl rfl) (.s rfl) ?_
  refine fz rfl (.t rfl rfl) Fx.fo78_1 (.s rfl) ?_
  refine ld rfl (.t rfl rfl) Fx.ag3 (.s rfl) (fun hc => (hp.z rfl).rd) ?_
  refine mv rfl (.t rfl rfl) (.u rfl) ?_
  refine nc rfl (.t rfl rfl) (.s rfl) ?_
  refine fz rfl (.t rfl rfl) Fx.fo78_0 (.s rfl) ?_
  refine ld rfl (.t rfl rfl) Fx.ag33 (.s rfl) (fun hc => (hp.z rfl).rd) ?_
  refine ln rfl (.t rfl rfl) Fx.sn33 (.s rfl) ?_
  refine cp rfl (.t rfl rfl) (.s rfl) (.s rfl) rfl ?_
  refine pkA rfl .no (.u rfl) (.s rfl) ?_
  refine .nil ?_
  refine .code ?_
  refine .cond rfl (fun c1 => ?_) (fun c1 => ?_)
  · have c1k := c1
    try simp only [decide_eq_true_eq, decide_eq_false_iff_not, Int.not_lt, Int.not_le, gt_iff_lt, ge_iff_le, Bool.or_eq_true, Bool.and_eq_true, Bool.or_eq_false_iff, Bool.not_eq_true', Bool.not_eq_false', Int.toNat_natCast, bne_iff_ne, beq_iff_eq, bne_eq_false_iff_eq, beq_eq_false_iff_ne, ne_eq] at c1
    refine .seq ?_
    refine Wk.rg [0] rfl rfl ?_
    refine asg rfl .no (.u rfl) ?_
    refine .nil ?_
    refine .code ?_
    refine .ret ?_
    refine We.fin0 Try.results43 (.tmp rfl .nil) ?_
    exact ⟨rfl, congrArg (Value.int .i64) (by unfold endI; rw [if_pos (by rw [List.length_drop]; simp at c1k; omega)])⟩
  · have c1k := c1
    try simp only [decide_eq_true_eq, decide_eq_false_iff_not, Int.not_lt, Int.not_le, gt_iff_lt, ge_iff_le, Bool.or_eq_true, Bool.and_eq_true, Bool.or_eq_false_iff, Bool.not_eq_true', Bool.not_eq_false', Int.toNat_natCast, bne_iff_ne, beq_iff_eq, bne_eq_false_iff_eq, beq_eq_false_iff_ne, ne_eq] at c1
    refine .skip ?_
    refine .code ?_
    refine .seq ?_
    refine Wk.rg [0, 1, 2, 3, 4] rfl rfl ?_
    refine mv rfl .no (.u rfl) ?_
    refine nc rfl .no (.u rfl) ?_
    refine fz rfl .no Fx.fo78_2 (.u rfl) ?_
    refine ld rfl .no Fx.ag35 (.u rfl) (fun _ => (hp.z rfl).rd) ?_
    refine asg rfl .no (.u rfl) ?_
    refine .nil ?_
    refine .code ?_
    refine .ret ?_
    refine We.fin0 Try.results43 (.tmp rfl .nil) ?_
    exact ⟨rfl, congrArg (Value.int .i64) (by unfold endI; rw [if_neg (by rw [List.length_drop]; simp at c1k; omega)])⟩

end Go.Proofs.Ytnhdaaggkdegpaa

namespace Go.Proofs.Ytnhdaaggkdegpaa
set_option linter.unusedSimpArgs false
set_option linter.unusedVariables false
open Go.Tan Go.RowKit

namespace Fx
theorem se84 : slE Try.prog 84 = some (24, 1, 8) := by kernel_rfl
theorem sn84 : (slE Try.prog 84).isSome = true := by kernel_rfl
end Fx
theorem numbers_ok (xs : List Y) (h : Sh) (ns : List Int) (hn : Sh) (G : PM) (hs : SlR G 1 encY h xs) (hsn : SlR G 1 encQ hn ns) (hu : ∀ x ∈ ns, u64 x) (hl : xs.length + 10 * ns.length ≤ 100000000000000) : Ct Try.prog 44 ([h.val xs.length, hn.val ns.length] : List Value).toArray G [] (fun G' μ' u => ∃ (s : Sh) (L : List Y), L = xs ++ numsL ns ∧ μ' = [] ∧ u = s.val L.length ∧ SlR G' 1 encY s L) := by
  refine Ct.of Try.func44 rfl Try.ntmps44 rfl fun w0 hs0 => ?_
  refine .seq ?_
  refine Wk.rg [0] rfl rfl ?_
  refine asg rfl .no (.u rfl) ?_
  refine .nil ?_
  refine .code ?_
  refine .seq ?_
  refine .seq ?_
  refine Wk.rg [0, 1, 2] rfl rfl ?_
  refine mv rfl .no (.u rfl) ?_
  refine ln rfl .no Fx.sn84 (.u rfl) ?_
  refine mv rfl .no (.u rfl) ?_
  refine .nil ?_
  refine .code ?_
  refine .block ?_
  refine Wk.lop (α := Nat × Sh × List Y) (fun gh => [(0, true, gh.2.1.val gh.2.2.length), (9, true, .int .i64 (gh.1 : Int))]) (fun _ => [])
    (fun gh Gl => (gh.1 ≤ ns.length) ∧ (gh.2.2 = xs ++ numsL (ns.take gh.1)) ∧ (SlR Gl 1 encY gh.2.1 gh.2.2)) (fun gh => ns.length - gh.1) (0, h, xs) [(7, true, _), (8, true, _)] []
    (ESub.cons rfl rfl (ESub.cons rfl (by first | rfl | exact evi (by omega)) (ESub.cons rfl rfl (ESub.cons rfl rfl ESub.nil))))
    MSub.nil ?_ ?_
  · refine ⟨?_, ?_, ?_⟩
    · (try dsimp only) <;> (first | omega | rfl | assumption | (simp; done))
    · (try dsimp only) <;> (simp [numsL])
    · (try dsimp only) <;> (exact hs)
  intro gh N0 Gl0 hN0 hGl0 hF0
  obtain ⟨k, h0, L⟩ := gh; dsimp only at hF0 hN0 ⊢
  obtain ⟨hk, eL, hsl⟩ := hF0
  have hs := hs.mono hGl0
  have hsn := hsn.mono hGl0
  have lt := numsL_take hu k
  have lL : L.length = xs.length + (numsL (ns.take k)).length := by rw [eL, List.length_append]
  refine .seq ?_
  refine Wk.rg [0] rfl rfl ?_
  refine cp rfl .no (.u rfl) (.u rfl) rfl ?_
  refine .nil ?_
  refine .code ?_
  refine .seq ?_
  refine .cond rfl (fun c1 => ?_) (fun c1 => ?_)
  · have c1k := c1
    try simp only [decide_eq_true_eq, decide_eq_false_iff_not, Int.not_lt, Int.not_le, gt_iff_lt, ge_iff_le, Bool.or_eq_true, Bool.and_eq_true, Bool.or_eq_false_iff, Bool.not_eq_true', Bool.not_eq_false', Int.toNat_natCast, bne_iff_ne, beq_iff_eq, bne_eq_false_iff_eq, beq_eq_false_iff_ne, ne_eq] at c1
    refine .skip ?_
    refine .code ?_
    refine .seq ?_
    refine .block ?_
    refine .seq ?_
    refine Wk.rg [0, 1, 2] rfl rfl ?_
    refine ih rfl .no Fx.se84 (.u rfl) (.u rfl) (fun _ => by omega) (fun _ => by omega) (fun _ => hsn.nn (k := k) (by first | omega | (simp only [List.length_cons, List.length_nil]; omega))) ?_
    obtain ⟨x12, ex12⟩ := getx (k := k) (xs := ns) (by omega)
    refine ld rfl .no Fx.ag24 (.u rfl) (fun _ => (hsn.u1 k (by omega) ex12).rd) ?_
    refine asg rfl .no (.u rfl) ?_
    refine .nil ?_
    refine .code ?_
    refine Wk.rg [0, 1, 2, 3] rfl rfl ?_
    refine mv rfl .no (.u rfl) ?_
    refine mv rfl .no (.u rfl) ?_
    refine kc rfl Fx.go68 (Eva.cons (.u rfl) (Eva.cons (.u rfl) Eva.nil)) (Ct.frzB (Num_i L h0 _ hsl x12 (hu x12 (List.mem_of_getElem? ex12)) (by omega))) ?_
    rintro _ G15 μ15 hG15 ⟨h15, L15, eL15, rfl, rfl, hs15⟩
    have hs := hs.mono hG15
    have hsn := hsn.mono hG15
    have hsl := hsl.mono hG15
    refine asg rfl .no (.u rfl) ?_
    refine .nil ?_
    refine .blk ?_
    refine .code ?_
    refine Wk.rg [0, 1] rfl rfl ?_
    refine arn (((k + 1) : Nat) : Int) rfl .no (.u rfl) (.u rfl) rfl (fun _ => by omega) (fun _ => wrap_i64 (by omega) (by omega)) ?_
    refine mv rfl .no (.u rfl) ?_
    refine .nil ?_
    refine We.lpo (k + 1, h15, L15) ?_ ?_ ?_ ?_ ?_
    · exact (ESub.cons rfl rfl (ESub.cons rfl (by first | rfl | exact evi (by omega)) (ESub.cons rfl rfl (ESub.cons rfl rfl ESub.nil))))
    · exact MSub.nil
    · first | omega | (dsimp only; omega)
    · exact (hGl0).trans hG15
    · refine ⟨?_, ?_, ?_⟩
      · (try dsimp only) <;> (first | omega | rfl | assumption | (simp; done))
      · (try dsimp only) <;> (rw [eL15, eL, numsL_snoc ex12, List.append_assoc])
      · (try dsimp only) <;> (exact hs15)
  · have c1k := c1
    try simp only [decide_eq_true_eq, decide_eq_false_iff_not, Int.not_lt, Int.not_le, gt_iff_lt, ge_iff_le, Bool.or_eq_true, Bool.and_eq_true, Bool.or_eq_false_iff, Bool.not_eq_true', Bool.not_eq_false', Int.toNat_natCast, bne_iff_ne, beq_iff_eq, bne_eq_false_iff_eq, beq_eq_false_iff_ne, ne_eq] at c1
    refine .exit ?_
    refine .xcode ?_
    refine .xlp ?_
    refine .xblk ?_
    refine .code ?_
    refine .seq ?_
    refine Wk.rg [0, 1] rfl rfl ?_
    refine mv rfl .no (.u rfl) ?_
    refine asg rfl .no (.u rfl) ?_
    refine .nil ?_
    refine .code ?_
    refine .ret ?_
    refine We.fin0 Try.results44 (.tmp rfl .nil) ?_
    obtain rfl : k = ns.length := by omega
    rw [List.take_length] at eL
    exact ⟨h0, L, eL, rfl, rfl, hsl⟩

theorem numbers_lit (xs : List Y) (h : Sh) (ns : List Int) (b m cap : Nat) (T : TypeId) (G : PM) (hm : m = ns.length) (hs : SlR G 1 encY h xs) (hc : ns.length ≤ cap) (hu : ∀ x ∈ ns, u64 x) (hl : xs.length + 10 * ns.length ≤ 100000000000000) :
    Ct Try.prog 44 ([h.val xs.length, .slice (some ⟨b, 0, none⟩) m cap] : List Value).toArray G [.blk b (cl (ns.flatMap encQ) T)] (fun G' μ' u => ∃ (s : Sh) (L : List Y), L = xs ++ numsL ns ∧ μ' = [] ∧ u = s.val L.length ∧ SlR G' 1 encY s L) := by
  subst hm
  exact Ct.give fun hle => numbers_ok xs h ns ⟨some ⟨b, 0, none⟩, cap⟩ _ (hs.mono hle) (SlR.lit hc) hu hl
end Go.Proofs.Ytnhdaaggkdegpaa

namespace Go.Proofs.Ytnhdaaggkdegpaa
set_option linter.unusedSimpArgs false
set_option linter.unusedVariables false
open Go.Tan Go.RowKit

namespace Fx
theorem fo69_0 : fOff Try.prog 69 0 = some 0 := by kernel_rfl
theorem ag66 : aggN Try.prog 66 = some none := by kernel_rfl
theorem go36 : goFn Try.prog 36 = true := by kernel_rfl
theorem fo69_1 : fOff Try.prog 69 1 = some 1 := by kernel_rfl
theorem ag4 : aggN Try.prog 4 = some none := by kernel_rfl
theorem sz4 : szT Try.prog 4 = some 1 := by kernel_rfl
end Fx
theorem upTo_ok (xs : List Y) (e : Int) (bad : Bool) (s : Sh) (br b : Nat) (G : PM) (hs : SlR G 1 encY s xs) (hl : xs.length ≤ 100000000000000) (most : Nat) : Ct Try.prog 37 ([.pointer (some ⟨br, 0, none⟩), .int .u64 (most : Int)] : List Value).toArray G [.blk br (cl [.pointer (some ⟨b, 0, none⟩), .bool bad] 69), .blk b (cl [Sh.val s xs.length, .int .i64 e] 101)] (fun G' μ' u => ∃ n L e' s' bad', rdNum ⟨xs, e⟩ = (n, ⟨L, e'⟩) ∧ bad' = (bad || (decide (most < n) || !decide (e' = 0))) ∧ μ' = [.blk br (cl [.pointer (some ⟨b, 0, none⟩), .bool bad'] 69), .blk b (cl [Sh.val s' L.length, .int .i64 e'] 101)] ∧ u = .int .u64 (n : Int) ∧ SlR G' 1 encY s' L) := by
  refine Ct.of Try.func37 rfl Try.ntmps37 rfl fun w0 hs0 => ?_
  refine .seq ?_
  refine Wk.rg [0] rfl rfl ?_
  refine asg rfl .no (.u rfl) ?_
  refine .nil ?_
  refine .code ?_
  refine .seq ?_
  refine Wk.rg [0, 1, 2, 3, 4, 5] rfl rfl ?_
  refine mv rfl .no (.u rfl) ?_
  refine nc rfl .no (.u rfl) ?_
  refine fz rfl .no Fx.fo69_0 (.u rfl) ?_
  refine ld rfl .no Fx.ag66 (.u rfl) (fun _ => Rd.own .here (by first | exact wap_f rfl | rfl)) ?_
  refine ka rfl (.inr rfl) Fx.go36 (Eva.cons (.u rfl) Eva.nil) (mtk1 (.there .here)) (rNum_ok xs e s b _ hs hl) ?_
  rintro _ G10 μ10 hG10 ⟨n10, L10, e10, s10, hN, rfl, rfl, hs10⟩
  have hs := hs.mono hG10
  refine asg rfl .no (.u rfl) ?_
  refine .nil ?_
  refine .code ?_
  refine .seq ?_
  refine Wk.rg [0, 1, 2, 3, 4, 5, 6, 7, 8, 9, 10, 11, 12, 13, 14, 15, 16, 17, 18, 19, 20] rfl rfl ?_
  refine mv rfl .no (.u rfl) ?_
  refine mv rfl .no (.u rfl) ?_
  refine nc rfl .no (.u rfl) ?_
  refine fz rfl .no Fx.fo69_1 (.u rfl) ?_
  refine ld rfl .no Fx.ag4 (.u rfl) (fun _ => Rd.own (.there .here) (by first | exact wap_f rfl | rfl)) ?_
  refine mv rfl .no (.u rfl) ?_
  refine mv rfl (.f rfl rfl) (.u rfl) ?_
  refine mv rfl (.f rfl rfl) (.u rfl) ?_
  refine cp rfl (.f rfl rfl) (.s rfl) (.s rfl) rfl ?_
  refine pkO rfl .no (.u rfl) (.s rfl) ?_
  refine mv rfl .no (.u rfl) ?_
  refine mv rfl (.f rfl rfl) (.u rfl) ?_
  refine nc rfl (.f rfl rfl) (.s rfl) ?_
  refine fz rfl (.f rfl rfl) Fx.fo69_0 (.s rfl) ?_
  refine ld rfl (.f rfl rfl) Fx.ag66 (.s rfl) (fun hc => Rd.own (.there .here) (by first | exact wap_f rfl | rfl)) ?_
  refine kp rfl (.f rfl rfl) Fx.go60 (Eva.cons (.s rfl) Eva.nil) (Gp.add .here Gp.nil) (fun hc hle hq => rFault_ok L10 e10 s10 b _ RdNP.add) ?_
  refine cp rfl (.f rfl rfl) (.s rfl) (.u rfl) rfl ?_
  refine pkO rfl .no (.u rfl) (.s rfl) ?_
  refine nc rfl .no (.u rfl) ?_
  refine fz rfl .no Fx.fo69_1 (.u rfl) ?_
  refine s1 rfl (.u rfl) (.u rfl) rfl Fx.sz4 (.there .here) (show 1 < 2 by decide) (rfl) ?_
  refine .nil ?_
  refine .code ?_
  refine .seq ?_
  refine Wk.rg [0, 1] rfl rfl ?_
  refine mv rfl .no (.u rfl) ?_
  refine asg rfl .no (.u rfl) ?_
  refine .nil ?_
  refine .code ?_
  refine .ret ?_
  refine We.fin Try.results37 (.tmp rfl .nil) (MSub.cons .here rfl (MSub.cons .here rfl MSub.nil)) ?_
  exact ⟨n10, L10, e10, s10, _, hN, up_bad, rfl, rfl, hs10⟩

end Go.Proofs.Ytnhdaaggkdegpaa

namespace Go.Proofs.Ytnhdaaggkdegpaa
set_option linter.unusedSimpArgs false
set_option linter.unusedVariables false
open Go.Tan Go.RowKit

namespace Fx
theorem go37 : goFn Try.prog 37 = true := by kernel_rfl
theorem bp48_0 : bPl Try.prog 48 [0] = some (Meta.zero.cells, [(0, 1)]) := by kernel_rfl
theorem sz24 : szT Try.prog 24 = some 1 := by kernel_rfl
theorem fo48_2 : fOff Try.prog 48 2 = some 2 := by kernel_rfl
theorem go61 : goFn Try.prog 61 = true := by kernel_rfl
theorem sz9 : szT Try.prog 9 = some 1 := by kernel_rfl
theorem go62 : goFn Try.prog 62 = true := by kernel_rfl
theorem fo48_8 : fOff Try.prog 48 8 = some 8 := by kernel_rfl
theorem ar46 : arE Try.prog 46 = some (32, 5, 1) := by kernel_rfl
theorem sz5 : szT Try.prog 5 = some 1 := by kernel_rfl
end Fx
set_option maxHeartbeats 1000000 in
theorem meta_ok (xs : List Y) (e : Int) (bad : Bool) (s : Sh) (br b : Nat) (G : PM) (hs : SlR G 1 encY s xs) (hl : xs.length ≤ 100000000000000) : Ct Try.prog 38 ([.pointer (some ⟨br, 0, none⟩)] : List Value).toArray G [.blk br (cl [.pointer (some ⟨b, 0, none⟩), .bool bad] 69), .blk b (cl [Sh.val s xs.length, .int .i64 e] 101)] (fun G' μ' u => ∃ m L e' s' bad', MetaT ⟨xs, e⟩ ⟨L, e'⟩ bad bad' m ∧ L.length ≤ xs.length ∧ μ' = [.blk br (cl [.pointer (some ⟨b, 0, none⟩), .bool bad'] 69), .blk b (cl [Sh.val s' L.length, .int .i64 e'] 101)] ∧ u = Meta.val m ∧ SlR G' 1 encY s' L) := by
  refine Ct.of Try.func38 rfl Try.ntmps38 rfl fun w0 hs0 => ?_
  refine .seq ?_
  refine Wk.rg [0] rfl rfl ?_
  refine al rfl Fx.zr48 ?_; intro b2
  refine .nil ?_
  refine .code ?_
  refine .seq ?_
  refine Wk.rg [0, 1, 2, 3, 4, 5] rfl rfl ?_
  refine mv rfl .no (.u rfl) ?_
  refine ka rfl (.inr rfl) Fx.go37 (Eva.cons (.u rfl) (Eva.cons (.u rfl) Eva.nil)) (mtk2 (.there .here) (.there .here)) (upTo_ok xs e bad s br b _ hs (by omega) 255) ?_
  rintro _ G6 μ6 hG6 ⟨n6, L6, e6, s6, bad6, hN6, hb6, rfl, rfl, hs6⟩
  have lL6 := rdnum_le hN6; have nL6 := rdnum_lt hN6; simp only at lL6
  have hs := hs.mono hG6
  refine cv rfl .no Fx.cv24_5 (.u rfl) ?_
  refine bCe (([.int .u8 (IntKind.u8.wrap (n6 : Int)), .int .u64 0, .int .u64 0, .int .u64 0, .int .i64 0, .int .i64 0, .string ByteArray.empty, .string ByteArray.empty] ++ ba 32 (fun _ => 0#8))) rfl .no Fx.bp48_0 (.cons (.u rfl) rfl .nil) rfl (rfl) ?_
  refine al rfl Fx.zr48 ?_; intro b3
  refine sw rfl (.u rfl) (.u rfl) rfl Fx.sz48 .here (by first | exact (ba_len _ _).trans (ba_len _ _).symm | exact (wa_len _ _).trans (wa_len _ _).symm | exact ba_len _ _ | exact wa_len _ _ | rfl | (simp only [wa_len, ba_len, List.length_append, List.length_cons, List.length_nil])) (mone rfl rfl rfl rfl rfl rfl rfl rfl) ?_
  refine .nil ?_
  refine .code ?_
  refine .seq ?_
  refine Wk.rg [0, 1, 2, 3, 4, 5, 6] rfl rfl ?_
  refine mv rfl .no (.u rfl) ?_
  refine nc rfl .no (.u rfl) ?_
  refine fz rfl .no Fx.fo69_0 (.u rfl) ?_
  refine ld rfl .no Fx.ag66 (.u rfl) (fun _ => Rd.own (.there .here) (by first | exact wap_f rfl | rfl)) ?_
  refine ka rfl (.inr rfl) Fx.go36 (Eva.cons (.u rfl) Eva.nil) (mtk1 (.there (.there .here))) (rNum_ok L6 e6 s6 b _ hs6 (by omega)) ?_
  rintro _ G13 μ13 hG13 ⟨n13, L13, e13, s13, hN13, rfl, rfl, hs13⟩
  have lL13 := rdnum_le hN13; have nL13 := rdnum_lt hN13; simp only at lL13
  have hs := hs.mono hG13
  have hs6 := hs6.mono hG13
  refine fz rfl .no Fx.fo48_1 (.u rfl) ?_
  refine s1 rfl (.u rfl) (.u rfl) rfl Fx.sz24 (.there .here) (show 1 < 40 by decide) (rfl) ?_
  refine .nil ?_
  refine .code ?_
  refine .seq ?_
  refine Wk.rg [0, 1, 2, 3, 4, 5, 6] rfl rfl ?_
  refine mv rfl .no (.u rfl) ?_
  refine nc rfl .no (.u rfl) ?_
  refine fz rfl .no Fx.fo69_0 (.u rfl) ?_
  refine ld rfl .no Fx.ag66 (.u rfl) (fun _ => Rd.own (.there (.there .here)) (by first | exact wap_f rfl | rfl)) ?_
  refine ka rfl (.inr rfl) Fx.go36 (Eva.cons (.u rfl) Eva.nil) (mtk1 (.there .here)) (rNum_ok L13 e13 s13 b _ hs13 (by omega)) ?_
  rintro _ G19 μ19 hG19 ⟨n19, L19, e19, s19, hN19, rfl, rfl, hs19⟩
  have lL19 := rdnum_le hN19; have nL19 := rdnum_lt hN19; simp only at lL19
  have hs := hs.mono hG19
  have hs6 := hs6.mono hG19
  have hs13 := hs13.mono hG19
  refine fz rfl .no Fx.fo48_2 (.u rfl) ?_
  refine s1 rfl (.u rfl) (.u rfl) rfl Fx.sz24 (.there .here) (show 2 < 40 by decide) (rfl) ?_
  refine .nil ?_
  refine .code ?_
  refine .seq ?_
  refine Wk.rg [0, 1, 2, 3, 4, 5, 6] rfl rfl ?_
  refine mv rfl .no (.u rfl) ?_
  refine nc rfl .no (.u rfl) ?_
  refine fz rfl .no Fx.fo69_0 (.u rfl) ?_
  refine ld rfl .no Fx.ag66 (.u rfl) (fun _ => Rd.own (.there (.there .here)) (by first | exact wap_f rfl | rfl)) ?_
  refine ka rfl (.inr rfl) Fx.go36 (Eva.cons (.u rfl) Eva.nil) (mtk1 (.there .here)) (rNum_ok L19 e19 s19 b _ hs19 (by omega)) ?_
  rintro _ G25 μ25 hG25 ⟨n25, L25, e25, s25, hN25, rfl, rfl, hs25⟩
  have lL25 := rdnum_le hN25; have nL25 := rdnum_lt hN25; simp only at lL25
  have hs := hs.mono hG25
  have hs6 := hs6.mono hG25
  have hs13 := hs13.mono hG25
  have hs19 := hs19.mono hG25
  refine fz rfl .no Fx.fo48_3 (.u rfl) ?_
  refine s1 rfl (.u rfl) (.u rfl) rfl Fx.sz24 (.there .here) (show 3 < 40 by decide) (rfl) ?_
  refine .nil ?_
  refine .code ?_
  refine .seq ?_
  refine Wk.rg [0, 1, 2, 3, 4] rfl rfl ?_
  refine mv rfl .no (.u rfl) ?_
  refine ka rfl (.inr rfl) Fx.go37 (Eva.cons (.u rfl) (Eva.cons (.u rfl) Eva.nil)) (mtk2 (.there (.there .here)) (.there .here)) (upTo_ok L25 e25 bad6 s25 br b _ hs25 (by omega) 9223372036854775807) ?_
  rintro _ G28 μ28 hG28 ⟨n28, L28, e28, s28, bad28, hN28, hb28, rfl, rfl, hs28⟩
  have lL28 := rdnum_le hN28; have nL28 := rdnum_lt hN28; simp only at lL28
  have hs := hs.mono hG28
  have hs6 := hs6.mono hG28
  have hs13 := hs13.mono hG28
  have hs19 := hs19.mono hG28
  have hs25 := hs25.mono hG28
  refine cv rfl .no Fx.cv24_3 (.u rfl) ?_
  refine fz rfl .no Fx.fo48_4 (.u rfl) ?_
  refine s1 rfl (.u rfl) (.u rfl) rfl Fx.sz3 (.there (.there .here)) (show 4 < 40 by decide) (rfl) ?_
  refine .nil ?_
  refine .code ?_
  refine .seq ?_
  refine Wk.rg [0, 1, 2, 3, 4] rfl rfl ?_
  refine mv rfl .no (.u rfl) ?_
  refine ka rfl (.inr rfl) Fx.go37 (Eva.cons (.u rfl) (Eva.cons (.u rfl) Eva.nil)) (mtk2 (.there .here) (.there .here)) (upTo_ok L28 e28 bad28 s28 br b _ hs28 (by omega) 9223372036854775807) ?_
  rintro _ G32 μ32 hG32 ⟨n32, L32, e32, s32, bad32, hN32, hb32, rfl, rfl, hs32⟩
  have lL32 := rdnum_le hN32; have nL32 := rdnum_lt hN32; simp only at lL32
  have hs := hs.mono hG32
  have hs6 := hs6.mono hG32
  have hs13 := hs13.mono hG32
  have hs19 := hs19.mono hG32
  have hs25 := hs25.mono hG32
  have hs28 := hs28.mono hG32
  refine cv rfl .no Fx.cv24_3 (.u rfl) ?_
  refine fz rfl .no Fx.fo48_5 (.u rfl) ?_
  refine s1 rfl (.u rfl) (.u rfl) rfl Fx.sz3 (.there (.there .here)) (show 5 < 40 by decide) (rfl) ?_
  refine .nil ?_
  refine .code ?_
  refine .seq ?_
  refine Wk.rg [0, 1, 2, 3, 4, 5, 6] rfl rfl ?_
  refine mv rfl .no (.u rfl) ?_
  refine nc rfl .no (.u rfl) ?_
  refine fz rfl .no Fx.fo69_0 (.u rfl) ?_
  refine ld rfl .no Fx.ag66 (.u rfl) (fun _ => Rd.own (.there .here) (by first | exact wap_f rfl | rfl)) ?_
  refine ka rfl (.inr rfl) Fx.go61 (Eva.cons (.u rfl) (Eva.cons (.u rfl) Eva.nil)) (mtk1 (.there (.there .here))) (rStr_ok L32 e32 s32 b _ hs32 (by omega) 1024 (by decide)) ?_
  rintro _ G39 μ39 hG39 ⟨M39, L39, e39, s39, hN39, rfl, rfl, hs39⟩
  have lL39 := rdstr_le hN39; simp only at lL39
  have hs := hs.mono hG39
  have hs6 := hs6.mono hG39
  have hs13 := hs13.mono hG39
  have hs19 := hs19.mono hG39
  have hs25 := hs25.mono hG39
  have hs28 := hs28.mono hG39
  have hs32 := hs32.mono hG39
  refine fz rfl .no Fx.fo48_6 (.u rfl) ?_
  refine s1 rfl (.u rfl) (.u rfl) rfl Fx.sz9 (.there .here) (show 6 < 40 by decide) (rfl) ?_
  refine .nil ?_
  refine .code ?_
  refine .seq ?_
  refine Wk.rg [0, 1, 2, 3, 4, 5, 6] rfl rfl ?_
  refine mv rfl .no (.u rfl) ?_
  refine nc rfl .no (.u rfl) ?_
  refine fz rfl .no Fx.fo69_0 (.u rfl) ?_
  refine ld rfl .no Fx.ag66 (.u rfl) (fun _ => Rd.own (.there (.there .here)) (by first | exact wap_f rfl | rfl)) ?_
  refine ka rfl (.inr rfl) Fx.go61 (Eva.cons (.u rfl) (Eva.cons (.u rfl) Eva.nil)) (mtk1 (.there .here)) (rStr_ok L39 e39 s39 b _ hs39 (by omega) 1024 (by decide)) ?_
  rintro _ G45 μ45 hG45 ⟨M45, L45, e45, s45, hN45, rfl, rfl, hs45⟩
  have lL45 := rdstr_le hN45; simp only at lL45
  have hs := hs.mono hG45
  have hs6 := hs6.mono hG45
  have hs13 := hs13.mono hG45
  have hs19 := hs19.mono hG45
  have hs25 := hs25.mono hG45
  have hs28 := hs28.mono hG45
  have hs32 := hs32.mono hG45
  have hs39 := hs39.mono hG45
  refine fz rfl .no Fx.fo48_7 (.u rfl) ?_
  refine s1 rfl (.u rfl) (.u rfl) rfl Fx.sz9 (.there .here) (show 7 < 40 by decide) (rfl) ?_
  refine .nil ?_
  refine .code ?_
  refine .seq ?_
  refine .seq ?_
  refine Wk.rg [0] rfl rfl ?_
  refine mv rfl .no (.u rfl) ?_
  refine .nil ?_
  refine .code ?_
  refine .block ?_
  refine Wk.lop (α := Nat × List Y × Int × Sh × (Nat → Y) × List Y) (fun gh => [(47, true, .int .i64 (gh.1 : Int))]) (fun gh => [.blk b3 (cl ([.int .u8 (IntKind.u8.wrap (n6 : Int)), .int .u64 (n13 : Int), .int .u64 (n19 : Int), .int .u64 (n25 : Int), .int .i64 (IntKind.i64.wrap (n28 : Int)), .int .i64 (IntKind.i64.wrap (n32 : Int)), .string (bstr M39), .string (bstr M45)] ++ ba 32 gh.2.2.2.2.1) 48), .blk b (cl [Sh.val gh.2.2.2.1 gh.2.1.length, .int .i64 gh.2.2.1] 101)])
    (fun gh Gl => (gh.1 ≤ 32) ∧ (gh.2.2.2.2.2.length = gh.1) ∧ (ByR ⟨L45, e45⟩ ⟨gh.2.1, gh.2.2.1⟩ bad32 gh.2.2.2.2.2) ∧ (∀ i, gh.2.2.2.2.1 i = gh.2.2.2.2.2.getD i 0) ∧ (gh.2.1.length ≤ 100000000000000) ∧ (gh.2.1.length ≤ xs.length) ∧ (SlR Gl 1 encY gh.2.2.2.1 gh.2.1)) (fun gh => 32 - gh.1) (0, L45, e45, s45, (fun _ => 0#8), []) [(0, true, _), (2, true, _), (3, true, _)] [_, _]
    (ESub.cons rfl (by first | rfl | exact evi (by omega)) (ESub.cons rfl rfl (ESub.cons rfl rfl (ESub.cons rfl rfl ESub.nil))))
    (MSub.cons .here rfl (MSub.cons .here rfl (MSub.cons .here rfl (MSub.cons .here rfl MSub.nil)))) ?_ ?_
  · refine ⟨?_, ?_, ?_, ?_, ?_, ?_, ?_⟩
    · (try dsimp only) <;> (first | omega | rfl | assumption | (simp; done))
    · (try dsimp only) <;> (first | omega | rfl | assumption | (simp; done))
    · (try dsimp only) <;> (exact ByR.zero)
    · (try dsimp only) <;> (exact fun i => by simp)
    · (try dsimp only) <;> (first | omega | rfl | assumption | (simp; done))
    · (try dsimp only) <;> (first | omega | rfl | assumption | (simp; done))
    · (try dsimp only) <;> (exact hs45)
  intro gh N0 Gl0 hN0 hGl0 hF0
  obtain ⟨k, L, ee, s9, f, rt⟩ := gh; dsimp only at hF0 hN0 ⊢
  obtain ⟨hk, hr, hB, ef, lL, lX, hsl⟩ := hF0
  have hs := hs.mono hGl0
  have hs6 := hs6.mono hGl0
  have hs13 := hs13.mono hGl0
  have hs19 := hs19.mono hGl0
  have hs25 := hs25.mono hGl0
  have hs28 := hs28.mono hGl0
  have hs32 := hs32.mono hGl0
  have hs39 := hs39.mono hGl0
  have hs45 := hs45.mono hGl0
  refine .seq ?_
  refine Wk.rg [0] rfl rfl ?_
  refine cp rfl .no (.u rfl) (.u rfl) rfl ?_
  refine .nil ?_
  refine .code ?_
  refine .seq ?_
  refine .cond rfl (fun c1 => ?_) (fun c1 => ?_)
  · have c1k := c1
    try simp only [decide_eq_true_eq, decide_eq_false_iff_not, Int.not_lt, Int.not_le, gt_iff_lt, ge_iff_le, Bool.or_eq_true, Bool.and_eq_true, Bool.or_eq_false_iff, Bool.and_eq_false_iff, Bool.not_eq_true', Bool.not_eq_false', Int.toNat_natCast, bne_iff_ne, beq_iff_eq, bne_eq_false_iff_eq, beq_eq_false_iff_ne, ne_eq] at c1
    refine .skip ?_
    refine .code ?_
    refine .seq ?_
    refine .block ?_
    refine .seq ?_
    refine Wk.rg [0, 1] rfl rfl ?_
    refine mv rfl .no (.u rfl) ?_
    refine asg rfl .no (.u rfl) ?_
    refine .nil ?_
    refine .code ?_
    refine Wk.rg [0, 1, 2, 3, 4, 5, 6, 7, 8, 9] rfl rfl ?_
    refine mv rfl .no (.u rfl) ?_
    refine mv rfl .no (.u rfl) ?_
    refine nc rfl .no (.u rfl) ?_
    refine fz rfl .no Fx.fo69_0 (.u rfl) ?_
    refine ld rfl .no Fx.ag66 (.u rfl) (fun _ => Rd.own (.there (.there .here)) (by first | exact wap_f rfl | rfl)) ?_
    refine ka rfl (.inr rfl) Fx.go62 (Eva.cons (.u rfl) (Eva.cons (.u rfl) Eva.nil)) (mtk1 (.there .here)) (rFix_ok L ee s9 b _ hsl lL) ?_
    rintro _ G55 μ55 hG55 ⟨y55, L55, e55, s55, hN55, rfl, rfl, hs55⟩
    have lL55 := rdbyte_le hN55; simp only at lL55
    have hs := hs.mono hG55
    have hs6 := hs6.mono hG55
    have hs13 := hs13.mono hG55
    have hs19 := hs19.mono hG55
    have hs25 := hs25.mono hG55
    have hs28 := hs28.mono hG55
    have hs32 := hs32.mono hG55
    have hs39 := hs39.mono hG55
    have hs45 := hs45.mono hG55
    have hsl := hsl.mono hG55
    refine cu (k := .u64) rfl .no rfl Fx.cv24_5 (.u rfl) ?_
    refine fz rfl .no Fx.fo48_8 (.u rfl) ?_
    refine iA rfl .no Fx.ar46 (.u rfl) (.u rfl) (fun _ => by omega) (fun _ => by omega) ?_
    refine s1 rfl (.u rfl) (.u rfl) rfl Fx.sz5 (.there .here) (by show _ < 40; omega) (mset (k := k) (by omega)) ?_
    refine .nil ?_
    refine .blk ?_
    refine .code ?_
    refine Wk.rg [0, 1] rfl rfl ?_
    refine arn (((k + 1) : Nat) : Int) rfl .no (.u rfl) (.u rfl) rfl (fun _ => by omega) (fun _ => wrap_i64 (by omega) (by omega)) ?_
    refine mv rfl .no (.u rfl) ?_
    refine .nil ?_
    refine We.lpo (k + 1, L55, e55, s55, upd f k ((y55.setWidth 64).setWidth 8), rt ++ [y55]) ?_ ?_ ?_ ?_ ?_
    · exact (ESub.cons rfl (by first | rfl | exact evi (by omega)) (ESub.cons rfl rfl (ESub.cons rfl rfl (ESub.cons rfl rfl ESub.nil))))
    · exact (MSub.cons .here rfl (MSub.cons .here rfl (MSub.cons .here rfl (MSub.cons .here rfl MSub.nil))))
    · first | omega | (dsimp only; omega)
    · exact (hGl0).trans hG55
    · refine ⟨?_, ?_, ?_, ?_, ?_, ?_, ?_⟩
      · (try dsimp only) <;> (first | omega | rfl | assumption | (simp; done))
      · (try dsimp only) <;> (simp [hr])
      · (try dsimp only) <;> (exact hB.step (by omega) hN55)
      · (try dsimp only) <;> (exact rt_step hr ef)
      · (try dsimp only) <;> (first | omega | rfl | assumption | (simp; done))
      · (try dsimp only) <;> (first | omega | rfl | assumption | (simp; done))
      · (try dsimp only) <;> (exact hs55)
  · have c1k := c1
    try simp only [decide_eq_true_eq, decide_eq_false_iff_not, Int.not_lt, Int.not_le, gt_iff_lt, ge_iff_le, Bool.or_eq_true, Bool.and_eq_true, Bool.or_eq_false_iff, Bool.and_eq_false_iff, Bool.not_eq_true', Bool.not_eq_false', Int.toNat_natCast, bne_iff_ne, beq_iff_eq, bne_eq_false_iff_eq, beq_eq_false_iff_ne, ne_eq] at c1
    refine .exit ?_
    refine .xcode ?_
    refine .xlp ?_
    refine .xblk ?_
    refine .code ?_
    refine .seq ?_
    refine Wk.rg [0, 1] rfl rfl ?_
    refine lA rfl .no Fx.ag48 (.u rfl) (fun _ => RdN.own .here) (fun _ => (by first | exact (ba_len _ _).trans (ba_len _ _).symm | exact (wa_len _ _).trans (wa_len _ _).symm | exact ba_len _ _ | exact wa_len _ _ | rfl | (simp only [wa_len, ba_len, List.length_append, List.length_cons, List.length_nil]))) ?_
    refine sw rfl (.u rfl) (.u rfl) rfl Fx.sz48 (.there (.there (.there .here))) (by first | exact (ba_len _ _).trans (ba_len _ _).symm | exact (wa_len _ _).trans (wa_len _ _).symm | exact ba_len _ _ | exact wa_len _ _ | rfl | (simp only [wa_len, ba_len, List.length_append, List.length_cons, List.length_nil])) (mone rfl rfl rfl rfl rfl rfl rfl rfl) ?_
    refine .nil ?_
    refine .code ?_
    refine .ret ?_
    refine We.fin Try.results38 (.cell rfl (fun w hw => run_loadVarN Fx.ag48 (RdN.own .here) ((by first | exact (ba_len _ _).trans (ba_len _ _).symm | exact (wa_len _ _).trans (wa_len _ _).symm | exact ba_len _ _ | exact wa_len _ _ | rfl | (simp only [wa_len, ba_len, List.length_append, List.length_cons, List.length_nil]))) hw) .nil) (MSub.cons (.there (.there (.there .here))) rfl (MSub.cons (.there (.there .here)) rfl MSub.nil)) ?_
    obtain rfl : k = 32 := by omega
    exact ⟨_, L, ee, s9, bad32, metaT hN6 hb6 w_u8 hN13 hN19 hN25 hN28 hb28 w_i64 hN32 hb32 w_i64 hN39 hN45 hB hr (funext fun i => by rw [← ef i]; rfl), lX, rfl, rfl, hsl⟩

end Go.Proofs.Ytnhdaaggkdegpaa
