/- Lemmas and contracts, joined: Contracts of functions, walked. Sorting that keeps the order of what is alike: lists with tags. Plain data. No condition. Rows of elements in one's own hands, worked on in place: parts, a part taken out, clearing what lies behind, lending. No condition. Two elements of a list that change places; parts that change places; merging in place. Plain data. No condition. The steps of sorting in place, as lists. Plain data. No condition. Sorting by merging: pieces that are sorted, each of what stood there; the orders of a level's tables. Plain data. No condition. Edits that are the same; what the laws of edits need. Plain data. No condition. What a state becomes by an edit. Plain data. No condition. The document's way: levels that are replaced one by one. Plain data. No condition. States' digests, edits' records, and what records tell. Plain data. No condition. Edits and states that read alike; what is laid is read back. Plain data. No condition. A row of one's own is cut short; 'a & 1'; stacks as rows. No condition. -/
import Derived.Test.YtbdnclpopappeaaDoorTk4
set_option linter.unusedSimpArgs false
set_option linter.unusedVariables false
set_option linter.unusedSectionVars false
namespace Go.Proofs.YtbdnclpopappeaaDoor
set_option linter.unusedSimpArgs false
set_option linter.unusedVariables false
open Go.Tan Go.RowKit

namespace Fx
theorem go69 : goFn Tryd.prog 69 = true := by kernel_rfl
theorem fo109_3 : fOff Tryd.prog 109 3 = some 3 := by kernel_rfl
theorem go70 : goFn Tryd.prog 70 = true := by kernel_rfl
theorem fo109_1 : fOff Tryd.prog 109 1 = some 1 := by kernel_rfl
theorem fo109_0 : fOff Tryd.prog 109 0 = some 0 := by kernel_rfl
theorem fo109_2 : fOff Tryd.prog 109 2 = some 2 := by kernel_rfl
theorem sz9 : szT Tryd.prog 9 = some 1 := by kernel_rfl
theorem go48 : goFn Tryd.prog 48 = true := by kernel_rfl
theorem go22 : goFn Tryd.prog 22 = true := by kernel_rfl
theorem go21 : goFn Tryd.prog 21 = true := by kernel_rfl
theorem bp109_0 : bPl Tryd.prog 109 [0] = some ([.slice none 0 0, .slice none 0 0, .int .i64 0, .string ByteArray.empty], [(0, 1)]) := by kernel_rfl
theorem zq109 : zrL Tryd.prog 109 = some ([.slice none 0 0, .slice none 0 0, .int .i64 0, .string ByteArray.empty]) := by kernel_rfl
theorem sz109 : szT Tryd.prog 109 = some 4 := by kernel_rfl
theorem go49 : goFn Tryd.prog 49 = true := by kernel_rfl
end Fx
theorem eLay_ok (e : Ent) (G : PM) (hu : e.user.size ≤ 10000000) : Ct Tryd.prog 69 ([e.val] : List Value).toArray G [] (fun _ μ' u => μ' = [] ∧ u = .string (bstr (keyE e))) := by
  refine Ct.of Tryd.func69 rfl Tryd.ntmps69 rfl fun w0 hs0 => ?_
  refine .seq ?_
  refine Wk.rg [0, 1] rfl rfl ?_
  refine bx rfl (.u rfl) rfl ?_; intro b1
  refine asg rfl .no (.u rfl) ?_
  refine .nil ?_
  refine .code ?_
  refine .seq ?_
  refine Wk.rg [0, 1, 2, 3, 4, 5, 6, 7, 8, 9, 10, 11, 12] rfl rfl ?_
  refine fz rfl .no Fx.fo43_0 (.u rfl) ?_
  refine ld rfl .no Fx.ag9 (.u rfl) (fun _ => Rd.own .here (by first | exact wap_f rfl | rfl)) ?_
  refine cvS rfl rfl Fx.sb9_36 (.u rfl) ?_; intro G5 h5 hG5 hs5
  refine fz rfl .no Fx.fo43_1 (.u rfl) ?_
  refine ld rfl .no Fx.ag24 (.u rfl) (fun _ => Rd.own .here (by first | exact wap_f rfl | rfl)) ?_
  refine lw (k := .u64) rfl .no rfl (.u rfl) (.u rfl) (fun _ => by decide) ?_
  refine fz rfl .no Fx.fo43_2 (.u rfl) ?_
  refine ld rfl .no Fx.ag5 (.u rfl) (fun _ => Rd.own .here (by first | exact wap_f rfl | rfl)) ?_
  refine cu (k := .u8) rfl .no rfl Fx.cv5_24 (.u rfl) ?_
  refine bw (k := .u64) rfl .no rfl (.u rfl) (.u rfl) rfl ?_
  refine kc rfl Fx.go32 (Eva.cons (.u rfl) (Eva.cons (.u rfl) (Eva.cons (.u rfl) Eva.nil))) (Ct.frzB (Fix_ok _ h5 _ 8 _ hs5 (by rw [yb_len]; omega) (by decide))) ?_
  rintro _ G13 μ13 hG13 ⟨h13, L13, eL13, rfl, rfl, hs13⟩
  have hs5 := hs5.mono hG13
  refine sB rfl .no Fx.bs36_9 (.u rfl) (fun _ => hs13.sc) ?_
  refine asg rfl .no (.u rfl) ?_
  refine .nil ?_
  refine .code ?_
  refine .ret ?_
  refine We.fin0 Tryd.results69 (.tmp rfl .nil) ?_
  exact ⟨rfl, by rw [eL13]; rfl⟩

theorem alike_ok (a b : ByteArray) (G : PM) (ha : a.size ≤ 100000000) : Ct Tryd.prog 70 ([.string a, .string b] : List Value).toArray G [] (fun _ μ' u => μ' = [] ∧ u = .int .i64 (comL (yb a) (yb b) : Int)) := by
  refine Ct.of Tryd.func70 rfl Tryd.ntmps70 rfl fun w0 hs0 => ?_
  refine .seq ?_
  refine Wk.rg [0] rfl rfl ?_
  refine asg rfl .no (.u rfl) ?_
  refine .nil ?_
  refine .code ?_
  refine .seq ?_
  refine Wk.rg [0, 1, 2, 3, 4, 5] rfl rfl ?_
  refine mv rfl .no (.u rfl) ?_
  refine ls rfl .no Fx.st9 (.u rfl) ?_
  refine mv rfl .no (.u rfl) ?_
  refine ls rfl .no Fx.st9 (.u rfl) ?_
  refine mIn (a.size) (b.size) rfl .no (.u rfl) (.u rfl) (fun _ => by omega) (fun _ => by omega) ?_
  refine asg rfl .no (.u rfl) ?_
  refine .nil ?_
  refine .code ?_
  refine .seq ?_
  refine .seq ?_
  refine Wk.rg [0, 1] rfl rfl ?_
  refine mv rfl .no (.u rfl) ?_
  refine mv rfl .no (.u rfl) ?_
  refine .nil ?_
  refine .code ?_
  refine .block ?_
  refine Wk.lop (α := Nat) (fun k => [(13, true, .int .i64 (k : Int))]) (fun _ => [])
    (fun k Gl => (k ≤ a.size ∧ k ≤ b.size) ∧ (∀ j, j < k → (yb a).getD j 0 = (yb b).getD j 0)) (fun k => a.size - k) 0 [(0, true, _), (1, true, _), (5, true, _), (12, true, _)] []
    (ESub.cons rfl (by first | rfl | exact evi (by omega)) (ESub.cons rfl rfl (ESub.cons rfl rfl (ESub.cons rfl rfl (ESub.cons rfl rfl ESub.nil)))))
    MSub.nil ?_ ?_
  · refine ⟨?_, ?_⟩
    · (try dsimp only) <;> (first | omega | rfl | assumption | (simp; done))
    · (try dsimp only) <;> (exact fun j h => absurd h (Nat.not_lt_zero _))
  intro k N0 Gl0 hN0 hGl0 hF0
  try dsimp only at hF0 hN0 ⊢
  obtain ⟨hk, hj⟩ := hF0
  refine .seq ?_
  refine Wk.rg [0] rfl rfl ?_
  refine cp rfl .no (.u rfl) (.u rfl) rfl ?_
  refine .nil ?_
  refine .code ?_
  refine .seq ?_
  refine .cond rfl (fun c1 => ?_) (fun c1 => ?_)
  · have c1k := c1
    try simp only [decide_eq_true_eq, decide_eq_false_iff_not, Int.not_lt, Int.not_le, gt_iff_lt, ge_iff_le, Bool.or_eq_true, Bool.and_eq_true, Bool.or_eq_false_iff, Bool.not_eq_true', Bool.not_eq_false', Int.toNat_natCast, bne_iff_ne, beq_iff_eq, bne_eq_false_iff_eq, beq_eq_false_iff_ne, ne_eq] at c1
    refine .skip ?_
    refine .code ?_
    refine .seq ?_
    refine .block ?_
    refine .seq ?_
    refine Wk.rg [0, 1] rfl rfl ?_
    refine mv rfl .no (.u rfl) ?_
    refine asg rfl .no (.u rfl) ?_
    refine .nil ?_
    refine .code ?_
    refine .seq ?_
    refine Wk.draw (mc := ⟨false, false⟩) [0, 1, 2, 3, 4, 5, 6] Fx.mix (by kernel_rfl) ?_
    refine mv rfl .no (.u rfl) ?_
    refine mv rfl .no (.u rfl) ?_
    refine sI (k) rfl .no Fx.st9 (.u rfl) (.u rfl) (fun _ => by omega) (fun _ => by first | omega | (simp only [Bool.and_eq_true, decide_eq_true_eq] at hc; omega)) ?_
    refine mv rfl .no (.u rfl) ?_
    refine mv rfl .no (.u rfl) ?_
    refine sI (k) rfl .no Fx.st9 (.u rfl) (.u rfl) (fun _ => by omega) (fun _ => by first | omega | (simp only [Bool.and_eq_true, decide_eq_true_eq] at hc; omega)) ?_
    refine cp rfl .no (.u rfl) (.u rfl) rfl ?_
    refine .nil ?_
    refine .code ?_
    refine .cond rfl (fun c2 => ?_) (fun c2 => ?_)
    · have c2k := c2
      try simp only [decide_eq_true_eq, decide_eq_false_iff_not, Int.not_lt, Int.not_le, gt_iff_lt, ge_iff_le, Bool.or_eq_true, Bool.and_eq_true, Bool.or_eq_false_iff, Bool.not_eq_true', Bool.not_eq_false', Int.toNat_natCast, bne_iff_ne, beq_iff_eq, bne_eq_false_iff_eq, beq_eq_false_iff_ne, ne_eq] at c2
      refine .seq ?_
      refine Wk.rg [0, 1] rfl rfl ?_
      refine mv rfl .no (.u rfl) ?_
      refine asg rfl .no (.u rfl) ?_
      refine .nil ?_
      refine .code ?_
      refine .ret ?_
      refine We.fin0 Tryd.results70 (.tmp rfl .nil) ?_
      exact ⟨rfl, al_hit (by omega) hj c2⟩
    · have c2k := c2
      try simp only [decide_eq_true_eq, decide_eq_false_iff_not, Int.not_lt, Int.not_le, gt_iff_lt, ge_iff_le, Bool.or_eq_true, Bool.and_eq_true, Bool.or_eq_false_iff, Bool.not_eq_true', Bool.not_eq_false', Int.toNat_natCast, bne_iff_ne, beq_iff_eq, bne_eq_false_iff_eq, beq_eq_false_iff_ne, ne_eq] at c2
      refine .skip ?_
      refine .blk ?_
      refine .code ?_
      refine Wk.rg [0, 1] rfl rfl ?_
      refine arn (((k + 1) : Nat) : Int) rfl .no (.u rfl) (.u rfl) rfl (fun _ => by omega) (fun _ => wrap_i64 (by omega) (by omega)) ?_
      refine mv rfl .no (.u rfl) ?_
      refine .nil ?_
      refine We.lpo (k + 1) ?_ ?_ ?_ ?_ ?_
      · exact (ESub.cons rfl (by first | rfl | exact evi (by omega)) (ESub.cons rfl rfl (ESub.cons rfl rfl (ESub.cons rfl rfl (ESub.cons rfl rfl ESub.nil)))))
      · exact MSub.nil
      · first | omega | (dsimp only; omega)
      · exact hGl0
      · refine ⟨?_, ?_⟩
        · (try dsimp only) <;> (first | omega | rfl | assumption | (simp; done))
        · (try dsimp only) <;> (exact bt_snoc hj c2)
  · have c1k := c1
    try simp only [decide_eq_true_eq, decide_eq_false_iff_not, Int.not_lt, Int.not_le, gt_iff_lt, ge_iff_le, Bool.or_eq_true, Bool.and_eq_true, Bool.or_eq_false_iff, Bool.not_eq_true', Bool.not_eq_false', Int.toNat_natCast, bne_iff_ne, beq_iff_eq, bne_eq_false_iff_eq, beq_eq_false_iff_ne, ne_eq] at c1
    refine .exit ?_
    refine .xcode ?_
    refine .xlp ?_
    refine .xblk ?_
    refine .code ?_
    refine .seq ?_
    refine Wk.rg [0, 1] rfl rfl ?_
    refine mv rfl .no (.u rfl) ?_
    refine asg rfl .no (.u rfl) ?_
    refine .nil ?_
    refine .code ?_
    refine .ret ?_
    refine We.fin0 Tryd.results70 (.tmp rfl .nil) ?_
    exact ⟨rfl, by rw [al_end hk (by omega) hj]; rfl⟩

theorem add_ok (O P : List Y) (vo : Value) (sp : Sh) (rs : Nat) (last : ByteArray) (bb : Nat) (e : Ent) (anew : Bool) (G : PM) (hP : SlR G 1 encY sp P) (hlO : O.length ≤ 100000000) (hlP : P.length ≤ 1000000000) (hrs : rs ≤ 1000000000) (hll : last.size ≤ 10000000) (hu : e.user.size ≤ 10000000) (hv : e.value.size ≤ 10000000) : Ct Tryd.prog 49 ([.pointer (some ⟨bb, 0, none⟩), e.val, .bool anew] : List Value).toArray G [.blk bb (cl [vo, sp.val P.length, .int .i64 (rs : Int), .string last] 109), rB vo 5 O] (fun G' μ' u => ∃ v' O' sp' P', O' = O ++ entB (yb last) anew e ∧ P' = (if anew = true then P ++ fixL (BitVec.ofInt 64 (O.length : Int)) 4 else P) ∧ μ' = [.blk bb (cl [v', sp'.val P'.length, .int .i64 ((if anew = true then rs + 1 else rs : Nat) : Int), .string (bstr (keyE e))] 109), rB v' 5 O'] ∧ u = .tuple #[] ∧ SlR G' 1 encY sp' P') := by
  refine Ct.of Tryd.func49 rfl Tryd.ntmps49 rfl fun w0 hs0 => ?_
  have hks := key_sz e
  have hcl := comL_le (yb last) (yb (bstr (keyE e)))
  rw [yb_len, yb_len] at hcl
  refine .seq ?_
  refine Wk.rg [0] rfl rfl ?_
  refine bx rfl (.u rfl) rfl ?_; intro b4
  refine .nil ?_
  refine .code ?_
  refine .seq ?_
  refine Wk.rg [0, 1, 2] rfl rfl ?_
  refine lA rfl .no Fx.ag43 (.u rfl) (fun _ => RdN.own .here) (fun _ => (by first | rfl | exact Ent.len _)) ?_
  refine kv rfl .no Fx.go69 (Eva.cons (.u rfl) Eva.nil) (fun _ => eLay_ok e _ hu) ?_
  refine asg rfl .no (.u rfl) ?_
  refine .nil ?_
  refine .code ?_
  refine .seq ?_
  refine Wk.rg [0, 1, 2, 3, 4, 5, 6] rfl rfl ?_
  refine mv rfl .no (.u rfl) ?_
  refine nc rfl .no (.u rfl) ?_
  refine fz rfl .no Fx.fo109_3 (.u rfl) ?_
  refine ld rfl .no Fx.ag9 (.u rfl) (fun _ => Rd.own (.there .here) (by first | exact wap_f rfl | rfl)) ?_
  refine mv rfl .no (.u rfl) ?_
  refine kv rfl .no Fx.go70 (Eva.cons (.u rfl) (Eva.cons (.u rfl) Eva.nil)) (fun _ => alike_ok last (bstr (keyE e)) _ (by omega)) ?_
  refine asg rfl .no (.u rfl) ?_
  refine .nil ?_
  refine .code ?_
  refine .seq ?_
  refine .seq ?_
  refine Wk.rg [0] rfl rfl ?_
  refine mv rfl .no (.u rfl) ?_
  refine .nil ?_
  refine .code ?_
  refine .cond rfl (fun c1 => ?_) (fun c1 => ?_)
  · have c1k := c1
    try simp only [decide_eq_true_eq, decide_eq_false_iff_not, Int.not_lt, Int.not_le, gt_iff_lt, ge_iff_le, Bool.or_eq_true, Bool.and_eq_true, Bool.or_eq_false_iff, Bool.not_eq_true', Bool.not_eq_false', Int.toNat_natCast, bne_iff_ne, beq_iff_eq, bne_eq_false_iff_eq, beq_eq_false_iff_ne, ne_eq] at c1
    refine .seq ?_
    refine Wk.rg [0] rfl rfl ?_
    refine asg rfl .no (.u rfl) ?_
    refine .nil ?_
    refine .code ?_
    refine .seq ?_
    refine Wk.draw (mc := ⟨false, false⟩) [0, 1, 2, 3, 4, 5, 6, 7, 8, 9, 10, 11, 12, 13, 14] Fx.mix (by kernel_rfl) ?_
    refine mv rfl .no (.u rfl) ?_
    refine mv rfl .no (.u rfl) ?_
    refine nc rfl .no (.u rfl) ?_
    refine fz rfl .no Fx.fo109_1 (.u rfl) ?_
    refine ld rfl .no Fx.ag36 (.u rfl) (fun _ => Rd.own (.there .here) (by first | exact wap_f rfl | rfl)) ?_
    refine mv rfl .no (.u rfl) ?_
    refine nc rfl .no (.u rfl) ?_
    refine fz rfl .no Fx.fo109_0 (.u rfl) ?_
    refine ld rfl .no Fx.ag36 (.u rfl) (fun _ => Rd.own (.there .here) (by first | exact wap_f rfl | rfl)) ?_
    refine lr rfl .no Fx.sn36 (.u rfl) (.there (.there .here)) ?_
    refine ci rfl .no rfl Fx.cv3_24 (.u rfl) ?_
    refine kc rfl Fx.go32 (Eva.cons (.u rfl) (Eva.cons (.u rfl) (Eva.cons (.u rfl) Eva.nil))) (Ct.frzB (Fix_ok P sp _ 4 _ hP (by omega) (by decide))) ?_
    rintro _ G29 μ29 hG29 ⟨h29, L29, eL29, rfl, rfl, hs29⟩
    have hP := hP.mono hG29
    refine nc rfl .no (.u rfl) ?_
    refine fz rfl .no Fx.fo109_1 (.u rfl) ?_
    refine s1 rfl (.u rfl) (.u rfl) rfl Fx.sz36 (.there .here) (by first | decide | (simp only [wa_len, ba_len, List.length_append, List.length_cons, List.length_nil]; omega)) (rfl) ?_
    refine .nil ?_
    refine .code ?_
    refine Wk.rg [0, 1, 2, 3, 4, 5, 6, 7] rfl rfl ?_
    refine mv rfl .no (.u rfl) ?_
    refine nc rfl .no (.u rfl) ?_
    refine fz rfl .no Fx.fo109_2 (.u rfl) ?_
    refine ld rfl .no Fx.ag3 (.u rfl) (fun _ => Rd.own .here (by first | exact wap_f rfl | rfl)) ?_
    refine arn (((rs + 1) : Nat) : Int) rfl .no (.u rfl) (.u rfl) rfl (fun _ => by omega) (fun _ => wrap_i64 (by omega) (by omega)) ?_
    refine nc rfl .no (.u rfl) ?_
    refine fz rfl .no Fx.fo109_2 (.u rfl) ?_
    refine s1 rfl (.u rfl) (.u rfl) rfl Fx.sz3 .here (show 2 < 4 by decide) (rfl) ?_
    refine .nil ?_
    refine .code ?_
    refine .seq ?_
    refine Wk.draw (mc := ⟨false, false⟩) [0, 1, 3, 4, 5, 6, 7, 9, 10, 11, 12, 2, 8, 13, 14] Fx.mix (by kernel_rfl) ?_
    refine mv rfl .no (.u rfl) ?_
    refine ci rfl .no rfl Fx.cv3_24 (.u rfl) ?_
    refine mv rfl .no (.u rfl) ?_
    refine ls rfl .no Fx.st9 (.u rfl) ?_
    refine mv rfl .no (.u rfl) ?_
    refine ar rfl .no (.u rfl) (.u rfl) rfl (fun _ => wrap_i64 (by omega) (by omega)) ?_
    refine ci rfl .no rfl Fx.cv3_24 (.u rfl) ?_
    refine fz rfl .no Fx.fo43_3 (.u rfl) ?_
    refine ld rfl .no Fx.ag9 (.u rfl) (fun _ => Rd.own (.there .here) (by first | exact wap_f rfl | rfl)) ?_
    refine ls rfl .no Fx.st9 (.u rfl) ?_
    refine ci rfl .no rfl Fx.cv3_24 (.u rfl) ?_
    refine kc rfl Fx.go31 (Eva.cons (.u rfl) (Eva.cons (.u rfl) Eva.nil)) (Ct.frzB (Num_ok [] ⟨none, 0⟩ _ SlR.nul _ (Nat.zero_le _))) ?_
    rintro _ G41 μ41 hG41 ⟨h41, L41, eL41, rfl, rfl, hs41⟩
    have hP := hP.mono hG41
    have hs29 := hs29.mono hG41
    have lL41 := nm0 eL41
    refine kc rfl Fx.go31 (Eva.cons (.u rfl) (Eva.cons (.u rfl) Eva.nil)) (Ct.frzB (Num_ok L41 h41 _ hs41 _ (by omega))) ?_
    rintro _ G47 μ47 hG47 ⟨h47, L47, eL47, rfl, rfl, hs47⟩
    have hP := hP.mono hG47
    have hs29 := hs29.mono hG47
    have hs41 := hs41.mono hG47
    have lL47 := nmx eL47
    refine kc rfl Fx.go31 (Eva.cons (.u rfl) (Eva.cons (.u rfl) Eva.nil)) (Ct.frzB (Num_ok L47 h47 _ hs47 _ (by omega))) ?_
    rintro _ G52 μ52 hG52 ⟨h52, L52, eL52, rfl, rfl, hs52⟩
    have hP := hP.mono hG52
    have hs29 := hs29.mono hG52
    have hs41 := hs41.mono hG52
    have hs47 := hs47.mono hG52
    refine asg rfl .no (.u rfl) ?_
    refine .nil ?_
    refine .code ?_
    refine .seq ?_
    refine Wk.mixp ⟨false, false⟩ Fx.mix (by kernel_rfl) ?_
    refine Wp.one 0 (by kernel_rfl) ?_
    refine mv rfl .no (.u rfl) ?_
    refine .nil ?_
    refine Wp.one 1 (by kernel_rfl) ?_
    refine mv rfl .no (.u rfl) ?_
    refine .nil ?_
    refine Wp.one 2 (by kernel_rfl) ?_
    refine nc rfl .no (.u rfl) ?_
    refine .nil ?_
    refine Wp.one 3 (by kernel_rfl) ?_
    refine fz rfl .no Fx.fo109_0 (.u rfl) ?_
    refine .nil ?_
    refine Wp.one 4 (by kernel_rfl) ?_
    refine ld rfl .no Fx.ag36 (.u rfl) (fun _ => Rd.own .here (by first | exact wap_f rfl | rfl)) ?_
    refine .nil ?_
    refine Wp.one 5 (by kernel_rfl) ?_
    refine mv rfl .no (.u rfl) ?_
    refine .nil ?_
    refine Wp.one 7 (by kernel_rfl) ?_
    refine mv rfl .no (.u rfl) ?_
    refine .nil ?_
    refine Wp.one 8 (by kernel_rfl) ?_
    refine mv rfl .no (.u rfl) ?_
    refine .nil ?_
    refine Wp.one 9 (by kernel_rfl) ?_
    refine sD (0) rfl .no Fx.st9 (.u rfl) (.u rfl) (fun _ => by omega) (fun _ => by omega) ?_
    refine .nil ?_
    refine Wp.one 11 (by kernel_rfl) ?_
    refine fz rfl .no Fx.fo43_3 (.u rfl) ?_
    refine .nil ?_
    refine Wp.b2 6 12 (by kernel_rfl) ?_ ?_
    · have lL52 := nmx eL52
      refine apY rfl Fx.se36 Fx.zv5 (.u rfl) (.u rfl) (.there (.there .here)) hs52.sc (by (try simp only [List.length_append, List.length_cons, List.length_nil, yl_len]); omega) ?_
      intro v59 L59 ov59 eL59
      have lL59 : L59.length = O.length + L52.length := by rw [eL59, List.length_append]
      refine .nil ?_
      refine Wp.b2 10 12 (by kernel_rfl) ?_ ?_
      · refine apT rfl Fx.se36 Fx.st9 Fx.zv5 (.u rfl) (.u rfl) .here (by rw [bstr_len, List.length_drop, yb_len]; omega) ?_; intro v63 L63 ov63 eL63
        refine .nil ?_
        refine Wp.one 12 (by kernel_rfl) ?_
        refine ld rfl .no Fx.ag9 (.u rfl) (fun _ => Rd.own (.there (.there .here)) (by first | exact wap_f rfl | rfl)) ?_
        refine .nil ?_
        refine Wp.b1 13 (by kernel_rfl) ?_
        have lL63 : L63.length ≤ L59.length + (bstr (keyE e)).size := by rw [eL63, List.length_append, yb_len, bstr_len, List.length_drop, yb_len]; omega
        refine apT rfl Fx.se36 Fx.st9 Fx.zv5 (.u rfl) (.u rfl) .here (by (try simp only [List.length_append]); omega) ?_; intro v66 L66 ov66 eL66
        refine .nil ?_
        refine Wp.one 14 (by kernel_rfl) ?_
        refine nc rfl .no (.u rfl) ?_
        refine .nil ?_
        refine Wp.one 15 (by kernel_rfl) ?_
        refine fz rfl .no Fx.fo109_0 (.u rfl) ?_
        refine .nil ?_
        refine Wp.b1 16 (by kernel_rfl) ?_
        refine s1v rfl (.u rfl) (.u rfl) .here Fx.sz36 (.there .here) (show 0 < 4 by decide) (rfl) ?_
        refine .nil ?_
        refine Wp.last (by kernel_rfl) ?_
        refine .code ?_
        refine Wk.rg [0, 1, 2, 3, 4] rfl rfl ?_
        refine mv rfl .no (.u rfl) ?_
        refine mv rfl .no (.u rfl) ?_
        refine nc rfl .no (.u rfl) ?_
        refine fz rfl .no Fx.fo109_3 (.u rfl) ?_
        refine s1 rfl (.u rfl) (.u rfl) rfl Fx.sz9 .here (show 3 < 4 by decide) (rfl) ?_
        refine .nil ?_
        refine .nil ?_
        refine We.fin Tryd.results49 .nil (MSub.cons .here rfl (MSub.cons .here rfl MSub.nil)) ?_
        subst c1
        exact ⟨_, L66, h29, L29, ad_fin (k := 0) hu hv com_new.symm eL41 eL47 eL52 eL59 eL63 eL66, by rw [if_pos rfl]; exact eL29, rfl, rfl, hs29⟩
      · refine ld rfl .no Fx.ag9 (.u rfl) (fun _ => Rd.own (.there (.there .here)) (by first | exact wap_f rfl | rfl)) ?_
        refine .nil ?_
        refine Wp.b1 10 (by kernel_rfl) ?_
        refine apT rfl Fx.se36 Fx.st9 Fx.zv5 (.u rfl) (.u rfl) .here (by rw [bstr_len, List.length_drop, yb_len]; omega) ?_; intro v63 L63 ov63 eL63
        refine .nil ?_
        refine Wp.b1 13 (by kernel_rfl) ?_
        have lL63 : L63.length ≤ L59.length + (bstr (keyE e)).size := by rw [eL63, List.length_append, yb_len, bstr_len, List.length_drop, yb_len]; omega
        refine apT rfl Fx.se36 Fx.st9 Fx.zv5 (.u rfl) (.u rfl) .here (by (try simp only [List.length_append]); omega) ?_; intro v66 L66 ov66 eL66
        refine .nil ?_
        refine Wp.one 14 (by kernel_rfl) ?_
        refine nc rfl .no (.u rfl) ?_
        refine .nil ?_
        refine Wp.one 15 (by kernel_rfl) ?_
        refine fz rfl .no Fx.fo109_0 (.u rfl) ?_
        refine .nil ?_
        refine Wp.b1 16 (by kernel_rfl) ?_
        refine s1v rfl (.u rfl) (.u rfl) .here Fx.sz36 (.there .here) (show 0 < 4 by decide) (rfl) ?_
        refine .nil ?_
        refine Wp.last (by kernel_rfl) ?_
        refine .code ?_
        refine Wk.rg [0, 1, 2, 3, 4] rfl rfl ?_
        refine mv rfl .no (.u rfl) ?_
        refine mv rfl .no (.u rfl) ?_
        refine nc rfl .no (.u rfl) ?_
        refine fz rfl .no Fx.fo109_3 (.u rfl) ?_
        refine s1 rfl (.u rfl) (.u rfl) rfl Fx.sz9 .here (show 3 < 4 by decide) (rfl) ?_
        refine .nil ?_
        refine .nil ?_
        refine We.fin Tryd.results49 .nil (MSub.cons .here rfl (MSub.cons .here rfl MSub.nil)) ?_
        subst c1
        exact ⟨_, L66, h29, L29, ad_fin (k := 0) hu hv com_new.symm eL41 eL47 eL52 eL59 eL63 eL66, by rw [if_pos rfl]; exact eL29, rfl, rfl, hs29⟩
    · refine ld rfl .no Fx.ag9 (.u rfl) (fun _ => Rd.own (.there .here) (by first | exact wap_f rfl | rfl)) ?_
      refine .nil ?_
      refine Wp.b1 6 (by kernel_rfl) ?_
      have lL52 := nmx eL52
      refine apY rfl Fx.se36 Fx.zv5 (.u rfl) (.u rfl) (.there (.there .here)) hs52.sc (by (try simp only [List.length_append, List.length_cons, List.length_nil, yl_len]); omega) ?_
      intro v59 L59 ov59 eL59
      have lL59 : L59.length = O.length + L52.length := by rw [eL59, List.length_append]
      refine .nil ?_
      refine Wp.b1 10 (by kernel_rfl) ?_
      refine apT rfl Fx.se36 Fx.st9 Fx.zv5 (.u rfl) (.u rfl) .here (by rw [bstr_len, List.length_drop, yb_len]; omega) ?_; intro v63 L63 ov63 eL63
      refine .nil ?_
      refine Wp.b1 13 (by kernel_rfl) ?_
      have lL63 : L63.length ≤ L59.length + (bstr (keyE e)).size := by rw [eL63, List.length_append, yb_len, bstr_len, List.length_drop, yb_len]; omega
      refine apT rfl Fx.se36 Fx.st9 Fx.zv5 (.u rfl) (.u rfl) .here (by (try simp only [List.length_append]); omega) ?_; intro v66 L66 ov66 eL66
      refine .nil ?_
      refine Wp.one 14 (by kernel_rfl) ?_
      refine nc rfl .no (.u rfl) ?_
      refine .nil ?_
      refine Wp.one 15 (by kernel_rfl) ?_
      refine fz rfl .no Fx.fo109_0 (.u rfl) ?_
      refine .nil ?_
      refine Wp.b1 16 (by kernel_rfl) ?_
      refine s1v rfl (.u rfl) (.u rfl) .here Fx.sz36 (.there .here) (show 0 < 4 by decide) (rfl) ?_
      refine .nil ?_
      refine Wp.last (by kernel_rfl) ?_
      refine .code ?_
      refine Wk.rg [0, 1, 2, 3, 4] rfl rfl ?_
      refine mv rfl .no (.u rfl) ?_
      refine mv rfl .no (.u rfl) ?_
      refine nc rfl .no (.u rfl) ?_
      refine fz rfl .no Fx.fo109_3 (.u rfl) ?_
      refine s1 rfl (.u rfl) (.u rfl) rfl Fx.sz9 .here (show 3 < 4 by decide) (rfl) ?_
      refine .nil ?_
      refine .nil ?_
      refine We.fin Tryd.results49 .nil (MSub.cons .here rfl (MSub.cons .here rfl MSub.nil)) ?_
      subst c1
      exact ⟨_, L66, h29, L29, ad_fin (k := 0) hu hv com_new.symm eL41 eL47 eL52 eL59 eL63 eL66, by rw [if_pos rfl]; exact eL29, rfl, rfl, hs29⟩
  · have c1k := c1
    try simp only [decide_eq_true_eq, decide_eq_false_iff_not, Int.not_lt, Int.not_le, gt_iff_lt, ge_iff_le, Bool.or_eq_true, Bool.and_eq_true, Bool.or_eq_false_iff, Bool.not_eq_true', Bool.not_eq_false', Int.toNat_natCast, bne_iff_ne, beq_iff_eq, bne_eq_false_iff_eq, beq_eq_false_iff_ne, ne_eq] at c1
    refine .skip ?_
    refine .code ?_
    refine .seq ?_
    refine Wk.draw (mc := ⟨false, false⟩) [0, 1, 3, 4, 5, 6, 7, 9, 10, 11, 12, 2, 8, 13, 14] Fx.mix (by kernel_rfl) ?_
    refine mv rfl .no (.u rfl) ?_
    refine ci rfl .no rfl Fx.cv3_24 (.u rfl) ?_
    refine mv rfl .no (.u rfl) ?_
    refine ls rfl .no Fx.st9 (.u rfl) ?_
    refine mv rfl .no (.u rfl) ?_
    refine ar rfl .no (.u rfl) (.u rfl) rfl (fun _ => wrap_i64 (by omega) (by omega)) ?_
    refine ci rfl .no rfl Fx.cv3_24 (.u rfl) ?_
    refine fz rfl .no Fx.fo43_3 (.u rfl) ?_
    refine ld rfl .no Fx.ag9 (.u rfl) (fun _ => Rd.own .here (by first | exact wap_f rfl | rfl)) ?_
    refine ls rfl .no Fx.st9 (.u rfl) ?_
    refine ci rfl .no rfl Fx.cv3_24 (.u rfl) ?_
    refine kc rfl Fx.go31 (Eva.cons (.u rfl) (Eva.cons (.u rfl) Eva.nil)) (Ct.frzB (Num_ok [] ⟨none, 0⟩ _ SlR.nul _ (Nat.zero_le _))) ?_
    rintro _ G41 μ41 hG41 ⟨h41, L41, eL41, rfl, rfl, hs41⟩
    have hP := hP.mono hG41
    have lL41 := nm0 eL41
    refine kc rfl Fx.go31 (Eva.cons (.u rfl) (Eva.cons (.u rfl) Eva.nil)) (Ct.frzB (Num_ok L41 h41 _ hs41 _ (by omega))) ?_
    rintro _ G47 μ47 hG47 ⟨h47, L47, eL47, rfl, rfl, hs47⟩
    have hP := hP.mono hG47
    have hs41 := hs41.mono hG47
    have lL47 := nmx eL47
    refine kc rfl Fx.go31 (Eva.cons (.u rfl) (Eva.cons (.u rfl) Eva.nil)) (Ct.frzB (Num_ok L47 h47 _ hs47 _ (by omega))) ?_
    rintro _ G52 μ52 hG52 ⟨h52, L52, eL52, rfl, rfl, hs52⟩
    have hP := hP.mono hG52
    have hs41 := hs41.mono hG52
    have hs47 := hs47.mono hG52
    refine asg rfl .no (.u rfl) ?_
    refine .nil ?_
    refine .code ?_
    refine .seq ?_
    refine Wk.mixp ⟨false, false⟩ Fx.mix (by kernel_rfl) ?_
    refine Wp.one 0 (by kernel_rfl) ?_
    refine mv rfl .no (.u rfl) ?_
    refine .nil ?_
    refine Wp.one 1 (by kernel_rfl) ?_
    refine mv rfl .no (.u rfl) ?_
    refine .nil ?_
    refine Wp.one 2 (by kernel_rfl) ?_
    refine nc rfl .no (.u rfl) ?_
    refine .nil ?_
    refine Wp.one 3 (by kernel_rfl) ?_
    refine fz rfl .no Fx.fo109_0 (.u rfl) ?_
    refine .nil ?_
    refine Wp.one 4 (by kernel_rfl) ?_
    refine ld rfl .no Fx.ag36 (.u rfl) (fun _ => Rd.own (.there .here) (by first | exact wap_f rfl | rfl)) ?_
    refine .nil ?_
    refine Wp.one 5 (by kernel_rfl) ?_
    refine mv rfl .no (.u rfl) ?_
    refine .nil ?_
    refine Wp.one 7 (by kernel_rfl) ?_
    refine mv rfl .no (.u rfl) ?_
    refine .nil ?_
    refine Wp.one 8 (by kernel_rfl) ?_
    refine mv rfl .no (.u rfl) ?_
    refine .nil ?_
    refine Wp.one 9 (by kernel_rfl) ?_
    refine sD ((comL (yb last) (yb (bstr (keyE e))))) rfl .no Fx.st9 (.u rfl) (.u rfl) (fun _ => by omega) (fun _ => by omega) ?_
    refine .nil ?_
    refine Wp.one 11 (by kernel_rfl) ?_
    refine fz rfl .no Fx.fo43_3 (.u rfl) ?_
    refine .nil ?_
    refine Wp.b2 6 12 (by kernel_rfl) ?_ ?_
    · have lL52 := nmx eL52
      refine apY rfl Fx.se36 Fx.zv5 (.u rfl) (.u rfl) (.there (.there .here)) hs52.sc (by (try simp only [List.length_append, List.length_cons, List.length_nil, yl_len]); omega) ?_
      intro v59 L59 ov59 eL59
      have lL59 : L59.length = O.length + L52.length := by rw [eL59, List.length_append]
      refine .nil ?_
      refine Wp.b2 10 12 (by kernel_rfl) ?_ ?_
      · refine apT rfl Fx.se36 Fx.st9 Fx.zv5 (.u rfl) (.u rfl) .here (by rw [bstr_len, List.length_drop, yb_len]; omega) ?_; intro v63 L63 ov63 eL63
        refine .nil ?_
        refine Wp.one 12 (by kernel_rfl) ?_
        refine ld rfl .no Fx.ag9 (.u rfl) (fun _ => Rd.own (.there .here) (by first | exact wap_f rfl | rfl)) ?_
        refine .nil ?_
        refine Wp.b1 13 (by kernel_rfl) ?_
        have lL63 : L63.length ≤ L59.length + (bstr (keyE e)).size := by rw [eL63, List.length_append, yb_len, bstr_len, List.length_drop, yb_len]; omega
        refine apT rfl Fx.se36 Fx.st9 Fx.zv5 (.u rfl) (.u rfl) .here (by (try simp only [List.length_append]); omega) ?_; intro v66 L66 ov66 eL66
        refine .nil ?_
        refine Wp.one 14 (by kernel_rfl) ?_
        refine nc rfl .no (.u rfl) ?_
        refine .nil ?_
        refine Wp.one 15 (by kernel_rfl) ?_
        refine fz rfl .no Fx.fo109_0 (.u rfl) ?_
        refine .nil ?_
        refine Wp.b1 16 (by kernel_rfl) ?_
        refine s1v rfl (.u rfl) (.u rfl) .here Fx.sz36 (.there (.there .here)) (show 0 < 4 by decide) (rfl) ?_
        refine .nil ?_
        refine Wp.last (by kernel_rfl) ?_
        refine .code ?_
        refine Wk.rg [0, 1, 2, 3, 4] rfl rfl ?_
        refine mv rfl .no (.u rfl) ?_
        refine mv rfl .no (.u rfl) ?_
        refine nc rfl .no (.u rfl) ?_
        refine fz rfl .no Fx.fo109_3 (.u rfl) ?_
        refine s1 rfl (.u rfl) (.u rfl) rfl Fx.sz9 .here (show 3 < 4 by decide) (rfl) ?_
        refine .nil ?_
        refine .nil ?_
        refine We.fin Tryd.results49 .nil (MSub.cons .here rfl (MSub.cons .here rfl MSub.nil)) ?_
        subst c1
        exact ⟨_, L66, sp, P, ad_fin (k := comL (yb last) (yb (bstr (keyE e)))) hu hv (by rw [com_old, yb_bstr]) eL41 eL47 eL52 eL59 eL63 eL66, by rw [if_neg (by decide)], rfl, rfl, hP⟩
      · refine ld rfl .no Fx.ag9 (.u rfl) (fun _ => Rd.own (.there .here) (by first | exact wap_f rfl | rfl)) ?_
        refine .nil ?_
        refine Wp.b1 10 (by kernel_rfl) ?_
        refine apT rfl Fx.se36 Fx.st9 Fx.zv5 (.u rfl) (.u rfl) .here (by rw [bstr_len, List.length_drop, yb_len]; omega) ?_; intro v63 L63 ov63 eL63
        refine .nil ?_
        refine Wp.b1 13 (by kernel_rfl) ?_
        have lL63 : L63.length ≤ L59.length + (bstr (keyE e)).size := by rw [eL63, List.length_append, yb_len, bstr_len, List.length_drop, yb_len]; omega
        refine apT rfl Fx.se36 Fx.st9 Fx.zv5 (.u rfl) (.u rfl) .here (by (try simp only [List.length_append]); omega) ?_; intro v66 L66 ov66 eL66
        refine .nil ?_
        refine Wp.one 14 (by kernel_rfl) ?_
        refine nc rfl .no (.u rfl) ?_
        refine .nil ?_
        refine Wp.one 15 (by kernel_rfl) ?_
        refine fz rfl .no Fx.fo109_0 (.u rfl) ?_
        refine .nil ?_
        refine Wp.b1 16 (by kernel_rfl) ?_
        refine s1v rfl (.u rfl) (.u rfl) .here Fx.sz36 (.there (.there .here)) (show 0 < 4 by decide) (rfl) ?_
        refine .nil ?_
        refine Wp.last (by kernel_rfl) ?_
        refine .code ?_
        refine Wk.rg [0, 1, 2, 3, 4] rfl rfl ?_
        refine mv rfl .no (.u rfl) ?_
        refine mv rfl .no (.u rfl) ?_
        refine nc rfl .no (.u rfl) ?_
        refine fz rfl .no Fx.fo109_3 (.u rfl) ?_
        refine s1 rfl (.u rfl) (.u rfl) rfl Fx.sz9 .here (show 3 < 4 by decide) (rfl) ?_
        refine .nil ?_
        refine .nil ?_
        refine We.fin Tryd.results49 .nil (MSub.cons .here rfl (MSub.cons .here rfl MSub.nil)) ?_
        subst c1
        exact ⟨_, L66, sp, P, ad_fin (k := comL (yb last) (yb (bstr (keyE e)))) hu hv (by rw [com_old, yb_bstr]) eL41 eL47 eL52 eL59 eL63 eL66, by rw [if_neg (by decide)], rfl, rfl, hP⟩
    · refine ld rfl .no Fx.ag9 (.u rfl) (fun _ => Rd.own .here (by first | exact wap_f rfl | rfl)) ?_
      refine .nil ?_
      refine Wp.b1 6 (by kernel_rfl) ?_
      have lL52 := nmx eL52
      refine apY rfl Fx.se36 Fx.zv5 (.u rfl) (.u rfl) (.there (.there .here)) hs52.sc (by (try simp only [List.length_append, List.length_cons, List.length_nil, yl_len]); omega) ?_
      intro v59 L59 ov59 eL59
      have lL59 : L59.length = O.length + L52.length := by rw [eL59, List.length_append]
      refine .nil ?_
      refine Wp.b1 10 (by kernel_rfl) ?_
      refine apT rfl Fx.se36 Fx.st9 Fx.zv5 (.u rfl) (.u rfl) .here (by rw [bstr_len, List.length_drop, yb_len]; omega) ?_; intro v63 L63 ov63 eL63
      refine .nil ?_
      refine Wp.b1 13 (by kernel_rfl) ?_
      have lL63 : L63.length ≤ L59.length + (bstr (keyE e)).size := by rw [eL63, List.length_append, yb_len, bstr_len, List.length_drop, yb_len]; omega
      refine apT rfl Fx.se36 Fx.st9 Fx.zv5 (.u rfl) (.u rfl) .here (by (try simp only [List.length_append]); omega) ?_; intro v66 L66 ov66 eL66
      refine .nil ?_
      refine Wp.one 14 (by kernel_rfl) ?_
      refine nc rfl .no (.u rfl) ?_
      refine .nil ?_
      refine Wp.one 15 (by kernel_rfl) ?_
      refine fz rfl .no Fx.fo109_0 (.u rfl) ?_
      refine .nil ?_
      refine Wp.b1 16 (by kernel_rfl) ?_
      refine s1v rfl (.u rfl) (.u rfl) .here Fx.sz36 (.there (.there .here)) (show 0 < 4 by decide) (rfl) ?_
      refine .nil ?_
      refine Wp.last (by kernel_rfl) ?_
      refine .code ?_
      refine Wk.rg [0, 1, 2, 3, 4] rfl rfl ?_
      refine mv rfl .no (.u rfl) ?_
      refine mv rfl .no (.u rfl) ?_
      refine nc rfl .no (.u rfl) ?_
      refine fz rfl .no Fx.fo109_3 (.u rfl) ?_
      refine s1 rfl (.u rfl) (.u rfl) rfl Fx.sz9 .here (show 3 < 4 by decide) (rfl) ?_
      refine .nil ?_
      refine .nil ?_
      refine We.fin Tryd.results49 .nil (MSub.cons .here rfl (MSub.cons .here rfl MSub.nil)) ?_
      subst c1
      exact ⟨_, L66, sp, P, ad_fin (k := comL (yb last) (yb (bstr (keyE e)))) hu hv (by rw [com_old, yb_bstr]) eL41 eL47 eL52 eL59 eL63 eL66, by rw [if_neg (by decide)], rfl, rfl, hP⟩

theorem bBuild_ok (h : Sh) (l : List Ent) (every : Int) (G : PM) (hs : SlR G 4 Ent.cells h l) (hl : l.length ≤ 1000000) : Ct Tryd.prog 25 ([h.val l.length, .int .i64 every] : List Value).toArray G [] (fun _ μ' u => ∃ v L er, (L, er) = buildB l every ∧ μ' = [rB v 5 L] ∧ u = .tuple #[v, .int .i64 er]) := by
  refine Ct.of Tryd.func25 rfl Tryd.ntmps25 rfl fun w0 hs0 => ?_
  refine .seq ?_
  refine Wk.rg [0, 1] rfl rfl ?_
  refine asg rfl .no (.u rfl) ?_
  refine asg rfl .no (.u rfl) ?_
  refine .nil ?_
  refine .code ?_
  refine .seq ?_
  refine .seq ?_
  refine Wk.rg [0, 1, 2, 3, 4, 5, 6, 7, 8, 9, 10, 11, 12, 13, 14] rfl rfl ?_
  refine mv rfl .no (.u rfl) ?_
  refine cp rfl .no (.u rfl) (.u rfl) rfl ?_
  refine mv rfl .no (.u rfl) ?_
  refine mv rfl (.f rfl rfl) (.u rfl) ?_
  refine cp rfl (.f rfl rfl) (.s rfl) (.u rfl) rfl ?_
  refine pkO rfl .no (.u rfl) (.s rfl) ?_
  refine mv rfl .no (.u rfl) ?_
  refine mv rfl (.f rfl rfl) (.u rfl) ?_
  refine kv rfl (.f rfl rfl) Fx.go22 (Eva.cons (.s rfl) Eva.nil) (fun hc => rises_ok h l _ hs (by (try simp only [Bool.and_eq_true, decide_eq_true_eq, Bool.not_eq_true', Bool.or_eq_false_iff, decide_eq_false_iff_not] at hc); omega)) ?_
  refine nt rfl (.f rfl rfl) (.s rfl) ?_
  refine pkO rfl .no (.u rfl) (.s rfl) ?_
  refine mv rfl .no (.u rfl) ?_
  refine mv rfl (.f rfl rfl) (.u rfl) ?_
  refine kv rfl (.f rfl rfl) Fx.go21 (Eva.cons (.s rfl) (Eva.cons (.u rfl) Eva.nil)) (fun hc => contE_ok h l _ hs (by (try simp only [Bool.and_eq_true, decide_eq_true_eq, Bool.not_eq_true', Bool.or_eq_false_iff, decide_eq_false_iff_not] at hc); omega) 48 Fx.go48 [] (fun e => !rightE e) (fun G2 _ e _ => bBad_ok e G2)) ?_
  refine pkO rfl .no (.u rfl) (.s rfl) ?_
  refine .nil ?_
  refine .code ?_
  refine .cond rfl (fun c1 => ?_) (fun c1 => ?_)
  · have c1k := c1
    try simp only [decide_eq_true_eq, decide_eq_false_iff_not, Int.not_lt, Int.not_le, gt_iff_lt, ge_iff_le, Bool.or_eq_true, Bool.and_eq_true, Bool.or_eq_false_iff, Bool.and_eq_false_iff, Bool.not_eq_true', Bool.not_eq_false', Int.toNat_natCast, bne_iff_ne, beq_iff_eq, bne_eq_false_iff_eq, beq_eq_false_iff_ne, ne_eq] at c1
    refine .seq ?_
    refine Wk.rg [0, 1] rfl rfl ?_
    refine asg rfl .no (.u rfl) ?_
    refine asg rfl .no (.u rfl) ?_
    refine .nil ?_
    refine .code ?_
    refine .ret ?_
    refine we_nilB 5 ?_
    refine We.fin Tryd.results25 (.tmp rfl (.tmp rfl .nil)) (MSub.cons .here rfl MSub.nil) ?_
    exact ⟨_, [], 1, bu_arg c1k, rfl, rfl⟩
  · have c1k := c1
    try simp only [decide_eq_true_eq, decide_eq_false_iff_not, Int.not_lt, Int.not_le, gt_iff_lt, ge_iff_le, Bool.or_eq_true, Bool.and_eq_true, Bool.or_eq_false_iff, Bool.and_eq_false_iff, Bool.not_eq_true', Bool.not_eq_false', Int.toNat_natCast, bne_iff_ne, beq_iff_eq, bne_eq_false_iff_eq, beq_eq_false_iff_ne, ne_eq] at c1
    refine .skip ?_
    refine .code ?_
    refine .seq ?_
    refine Wk.rg [0, 1, 2, 3, 4, 5, 6, 7, 8, 9] rfl rfl ?_
    refine mv rfl .no (.u rfl) ?_
    refine ci rfl .no rfl Fx.cv3_24 (.u rfl) ?_
    refine kc rfl Fx.go31 (Eva.cons (.u rfl) (Eva.cons (.u rfl) Eva.nil)) (Ct.frzB (Num_ok [] ⟨none, 0⟩ _ SlR.nul _ (Nat.zero_le _))) ?_
    rintro _ G26 μ26 hG26 ⟨h26, L26, eL26, rfl, rfl, hs26⟩
    have hs := hs.mono hG26
    refine mv rfl .no (.u rfl) ?_
    refine ln rfl .no Fx.sn31 (.u rfl) ?_
    refine ci rfl .no rfl Fx.cv3_24 (.u rfl) ?_
    have lL26 := nm0 eL26
    refine kc rfl Fx.go31 (Eva.cons (.u rfl) (Eva.cons (.u rfl) Eva.nil)) (Ct.rowc (Num_ok L26 h26 _ hs26 _ (by omega))) ?_
    rintro v30 G30 μ30 hG30 ⟨L30, ov30, eL30, rfl⟩
    have hs := hs.mono hG30
    have hs26 := hs26.mono hG30
    refine bCe ([v30, .slice none 0 0, .int .i64 0, .string ByteArray.empty]) rfl .no Fx.bp109_0 (.cons (.u rfl) (cells_one ov30) .nil) rfl (rfl) ?_
    refine al rfl Fx.zq109 ?_; intro b6
    refine sw rfl (.u rfl) (.u rfl) rfl Fx.sz109 .here (by first | rfl | exact Ent.len _) (one4 ov30 rfl rfl rfl) ?_
    refine .nil ?_
    refine .code ?_
    refine .seq ?_
    refine .seq ?_
    refine Wk.rg [0, 1, 2] rfl rfl ?_
    refine mv rfl .no (.u rfl) ?_
    refine ln rfl .no Fx.sn31 (.u rfl) ?_
    refine mv rfl .no (.u rfl) ?_
    refine .nil ?_
    refine .code ?_
    refine .block ?_
    refine Wk.lop (α := Nat × Value × List Y × Sh × List Y × Nat × ByteArray) (fun gh => [(34, true, .int .i64 (gh.1 : Int))]) (fun gh => [.blk b6 (cl [gh.2.1, gh.2.2.2.1.val gh.2.2.2.2.1.length, .int .i64 (gh.2.2.2.2.2.1 : Int), .string gh.2.2.2.2.2.2] 109), rB gh.2.1 5 gh.2.2.1])
      (fun gh Gl => (gh.1 ≤ l.length) ∧ (gh.2.2.1 = outB every.toNat l gh.1) ∧ (gh.2.2.2.2.1 = plcB every.toNat l gh.1) ∧ (gh.2.2.2.2.2.1 = rstB every.toNat gh.1) ∧ (gh.2.2.2.2.2.2 = bstr (lastB l gh.1)) ∧ (∀ j, j < gh.1 → (outB every.toNat l (j + 1)).length ≤ 1048576) ∧ (SlR Gl 1 encY gh.2.2.2.1 gh.2.2.2.2.1)) (fun gh => l.length - gh.1) (0, v30, L30, ⟨none, 0⟩, [], 0, ByteArray.empty) [(1, true, _), (6, true, _), (32, true, _), (33, true, _)] []
      (ESub.cons rfl (by first | rfl | exact evi (by omega)) (ESub.cons rfl rfl (ESub.cons rfl rfl (ESub.cons rfl rfl (ESub.cons rfl rfl ESub.nil)))))
      (MSub.cons .here rfl (MSub.cons .here rfl MSub.nil)) ?_ ?_
    · refine ⟨?_, ?_, ?_, ?_, ?_, ?_, ?_⟩
      · (try dsimp only) <;> (first | omega | rfl | assumption | (simp; done))
      · (try dsimp only) <;> (rw [eL30, eL26]; exact bo_zero (by have := (bu_sz c1k).1; omega) rfl (by have := (bu_sz c1k).1; omega) (by omega))
      · (try dsimp only) <;> (rfl)
      · (try dsimp only) <;> (rfl)
      · (try dsimp only) <;> (exact bnil)
      · (try dsimp only) <;> (exact fun j h => absurd h (Nat.not_lt_zero _))
      · (try dsimp only) <;> (exact SlR.nul)
    intro gh N0 Gl0 hN0 hGl0 hF0
    obtain ⟨k, v, O, sp, P, rs, last⟩ := gh; dsimp only at hF0 hN0 ⊢
    obtain ⟨hk, eO, eP, er, el, hno, hP⟩ := hF0
    have hs := hs.mono hGl0
    have hs26 := hs26.mono hGl0
    obtain ⟨hev, hsz⟩ := bu_sz c1k
    have lO : O.length ≤ 1048576 := by rw [eO]; exact out_bd (by omega) (by omega) hno
    have lP : P.length = 4 * rs := by rw [eP, er, plcB_len]
    have lrs : rs ≤ k := by rw [er]; exact rstB_le _ _
    have ll : last.size ≤ 1032 := by rw [el]; exact last_bd hsz k
    refine .seq ?_
    refine Wk.rg [0] rfl rfl ?_
    refine cp rfl .no (.u rfl) (.u rfl) rfl ?_
    refine .nil ?_
    refine .code ?_
    refine .seq ?_
    refine .cond rfl (fun c2 => ?_) (fun c2 => ?_)
    · have c2k := c2
      try simp only [decide_eq_true_eq, decide_eq_false_iff_not, Int.not_lt, Int.not_le, gt_iff_lt, ge_iff_le, Bool.or_eq_true, Bool.and_eq_true, Bool.or_eq_false_iff, Bool.and_eq_false_iff, Bool.not_eq_true', Bool.not_eq_false', Int.toNat_natCast, bne_iff_ne, beq_iff_eq, bne_eq_false_iff_eq, beq_eq_false_iff_ne, ne_eq] at c2
      refine .skip ?_
      refine .code ?_
      refine .seq ?_
      refine .block ?_
      refine .seq ?_
      refine Wk.rg [0, 1, 2, 3, 4, 5] rfl rfl ?_
      refine mv rfl .no (.u rfl) ?_
      refine ih rfl .no Fx.se31 (.u rfl) (.u rfl) (fun _ => by omega) (fun _ => by omega) (fun _ => hs.nn (k := k) (by first | omega | (simp only [Bool.and_eq_true, decide_eq_true_eq] at hc; omega) | (simp only [List.length_cons, List.length_nil]; omega))) ?_
      obtain ⟨x, ex⟩ := getx (k := k) (xs := l) (by omega)
      refine lA rfl .no Fx.ag43 (.u rfl) (fun _ => (hs.at (by omega) ex).rd) (fun _ => Ent.len _) ?_
      refine al rfl Fx.zr43 ?_; intro b8
      refine asg rfl .no (.u rfl) ?_
      have hxx := hsz x (List.mem_of_getElem? ex)
      refine sw rfl (.u rfl) (.u rfl) rfl Fx.sz43 .here (by first | rfl | exact Ent.len _) (Ent.one _) ?_
      refine .nil ?_
      refine .code ?_
      refine .seq ?_
      refine Wk.draw (mc := ⟨true, false⟩) [0, 1, 2, 3, 4, 5] Fx.mix (by kernel_rfl) ?_
      refine lA rfl .no Fx.ag43 (.u rfl) (fun _ => RdN.own .here) (fun _ => (by first | rfl | exact Ent.len _)) ?_
      refine mv rfl .no (.u rfl) ?_
      refine mv rfl .no (.u rfl) ?_
      refine rmn (k) ((every).toNat) rfl .no (.u rfl) (.u rfl) (fun _ => by omega) (fun _ => by omega) (fun _ => by first | decide | omega) ?_
      refine cp rfl .no (.u rfl) (.u rfl) rfl ?_
      refine ka rfl (.inl rfl) Fx.go49 (Eva.cons (.u rfl) (Eva.cons (.u rfl) (Eva.cons (.u rfl) Eva.nil))) (mtk2 (.there .here) (.there .here)) (add_ok O P v sp rs last b6 x _ _ hP (by omega) (by omega) (by omega) (by omega) (by omega) (by omega)) ?_
      rintro _ G44 μ44 hG44 ⟨v44, O44, sp44, P44, eO44, eP44, rfl, rfl, hP44⟩
      have hs := hs.mono hG44
      have hs26 := hs26.mono hG44
      have hP := hP.mono hG44
      refine .nil ?_
      refine .code ?_
      refine .seq ?_
      refine Wk.rg [0, 1, 2, 3] rfl rfl ?_
      refine fz rfl .no Fx.fo109_0 (.u rfl) ?_
      refine ld rfl .no Fx.ag36 (.u rfl) (fun _ => Rd.own .here (by first | exact wap_f rfl | rfl)) ?_
      refine lr rfl .no Fx.sn36 (.u rfl) (.there .here) ?_
      refine cp rfl .no (.u rfl) (.u rfl) rfl ?_
      refine .nil ?_
      refine .code ?_
      refine .cond rfl (fun c3 => ?_) (fun c3 => ?_)
      · have c3k := c3
        try simp only [decide_eq_true_eq, decide_eq_false_iff_not, Int.not_lt, Int.not_le, gt_iff_lt, ge_iff_le, Bool.or_eq_true, Bool.and_eq_true, Bool.or_eq_false_iff, Bool.and_eq_false_iff, Bool.not_eq_true', Bool.not_eq_false', Int.toNat_natCast, bne_iff_ne, beq_iff_eq, bne_eq_false_iff_eq, beq_eq_false_iff_ne, ne_eq] at c3
        refine .seq ?_
        refine Wk.rg [0, 1] rfl rfl ?_
        refine asg rfl .no (.u rfl) ?_
        refine asg rfl .no (.u rfl) ?_
        refine .nil ?_
        refine .code ?_
        refine .ret ?_
        refine we_nilB 5 ?_
        refine We.fin Tryd.results25 (.tmp rfl (.tmp rfl .nil)) (MSub.cons .here rfl MSub.nil) ?_
        exact ⟨_, [], 4, bu_long1 c1k (k := k) (by omega) (by rw [← bo_step (L := O44) ex el rfl (by rw [eO44, eO])]; omega), rfl, rfl⟩
      · have c3k := c3
        try simp only [decide_eq_true_eq, decide_eq_false_iff_not, Int.not_lt, Int.not_le, gt_iff_lt, ge_iff_le, Bool.or_eq_true, Bool.and_eq_true, Bool.or_eq_false_iff, Bool.and_eq_false_iff, Bool.not_eq_true', Bool.not_eq_false', Int.toNat_natCast, bne_iff_ne, beq_iff_eq, bne_eq_false_iff_eq, beq_eq_false_iff_ne, ne_eq] at c3
        refine .skip ?_
        refine .blk ?_
        refine .code ?_
        refine Wk.rg [0, 1] rfl rfl ?_
        refine arn (((k + 1) : Nat) : Int) rfl .no (.u rfl) (.u rfl) rfl (fun _ => by omega) (fun _ => wrap_i64 (by omega) (by omega)) ?_
        refine mv rfl .no (.u rfl) ?_
        refine .nil ?_
        refine We.lpo (k + 1, v44, O44, sp44, P44, _, _) (ESub.cons rfl (by first | rfl | exact evi (by omega)) (ESub.cons rfl rfl (ESub.cons rfl rfl (ESub.cons rfl rfl (ESub.cons rfl rfl ESub.nil))))) (MSub.cons .here rfl (MSub.cons .here rfl MSub.nil)) ?_ ?_ ?_
        · first | omega | (dsimp only; omega)
        · exact (hGl0).trans hG44
        · refine ⟨?_, ?_, ?_, ?_, ?_, ?_, ?_⟩
          · (try dsimp only) <;> (first | omega | rfl | assumption | (simp; done))
          · (try dsimp only) <;> (exact bo_step (L := O44) ex el rfl (by rw [eO44, eO]))
          · (try dsimp only) <;> (exact plc_step rfl eO eP eP44)
          · (try dsimp only) <;> (exact rst_step rfl er)
          · (try dsimp only) <;> (exact (congrArg bstr (last_le ex)).symm)
          · (try dsimp only) <;> (exact bu_snoc hno (by rw [← bo_step (L := O44) ex el rfl (by rw [eO44, eO])]; omega))
          · (try dsimp only) <;> (exact hP44)
    · have c2k := c2
      try simp only [decide_eq_true_eq, decide_eq_false_iff_not, Int.not_lt, Int.not_le, gt_iff_lt, ge_iff_le, Bool.or_eq_true, Bool.and_eq_true, Bool.or_eq_false_iff, Bool.and_eq_false_iff, Bool.not_eq_true', Bool.not_eq_false', Int.toNat_natCast, bne_iff_ne, beq_iff_eq, bne_eq_false_iff_eq, beq_eq_false_iff_ne, ne_eq] at c2
      refine .exit ?_
      refine .xcode ?_
      refine .xlp ?_
      refine .xblk ?_
      refine .code ?_
      refine .seq ?_
      refine Wk.mixp ⟨true, false⟩ Fx.mix (by kernel_rfl) ?_
      refine Wp.one 0 (by kernel_rfl) ?_
      refine fz rfl .no Fx.fo109_0 (.u rfl) ?_
      refine .nil ?_
      refine Wp.one 1 (by kernel_rfl) ?_
      refine ld rfl .no Fx.ag36 (.u rfl) (fun _ => Rd.own .here (by first | exact wap_f rfl | rfl)) ?_
      refine .nil ?_
      refine Wp.one 2 (by kernel_rfl) ?_
      refine fz rfl .no Fx.fo109_1 (.u rfl) ?_
      refine .nil ?_
      refine Wp.one 3 (by kernel_rfl) ?_
      refine ld rfl .no Fx.ag36 (.u rfl) (fun _ => Rd.own .here (by first | exact wap_f rfl | rfl)) ?_
      refine .nil ?_
      refine Wp.one 5 (by kernel_rfl) ?_
      refine fz rfl .no Fx.fo109_2 (.u rfl) ?_
      refine .nil ?_
      refine Wp.b2 4 6 (by kernel_rfl) ?_ ?_
      · refine apY rfl Fx.se36 Fx.zv5 (.u rfl) (.u rfl) (.there .here) hP.sc (by (try simp only [List.length_append, List.length_cons, List.length_nil, yl_len]); omega) ?_
        intro v54 L54 ov54 eL54
        have lL54 : L54.length = O.length + P.length := by rw [eL54, List.length_append]
        refine .nil ?_
        refine Wp.one 6 (by kernel_rfl) ?_
        refine ld rfl .no Fx.ag3 (.u rfl) (fun _ => Rd.own (.there .here) (by first | exact wap_f rfl | rfl)) ?_
        refine .nil ?_
        refine Wp.one 7 (by kernel_rfl) ?_
        refine ci rfl .no rfl Fx.cv3_24 (.u rfl) ?_
        refine .nil ?_
        refine Wp.b1 8 (by kernel_rfl) ?_
        refine kc rfl Fx.go32 (Eva.cons (.u rfl) (Eva.cons (.u rfl) (Eva.cons (.u rfl) Eva.nil))) (Ct.frzB (Fix_ok [] ⟨none, 0⟩ _ 4 _ SlR.nul (Nat.zero_le _) (by decide))) ?_
        rintro _ G58 μ58 hG58 ⟨h58, L58, eL58, rfl, rfl, hs58⟩
        have hs := hs.mono hG58
        have hs26 := hs26.mono hG58
        have hP := hP.mono hG58
        refine .nil ?_
        refine Wp.b1 9 (by kernel_rfl) ?_
        have lL58 := fx0 eL58
        refine apY rfl Fx.se36 Fx.zv5 (.u rfl) (.u rfl) .here hs58.sc (by (try simp only [List.length_append, List.length_cons, List.length_nil, yl_len]); omega) ?_
        intro v59 L59 ov59 eL59
        have lL59 : L59.length = L54.length + L58.length := by rw [eL59, List.length_append]
        refine .nil ?_
        refine Wp.one 10 (by kernel_rfl) ?_
        refine fz rfl .no Fx.fo109_0 (.u rfl) ?_
        refine .nil ?_
        refine Wp.b1 11 (by kernel_rfl) ?_
        refine s1v rfl (.u rfl) (.u rfl) .here Fx.sz36 (.there .here) (by first | decide | (simp only [wa_len, ba_len, List.length_append, List.length_cons, List.length_nil]; omega)) (rfl) ?_
        refine .nil ?_
        refine Wp.last (by kernel_rfl) ?_
        refine .code ?_
        refine .seq ?_
        refine .seq ?_
        refine Wk.rg [0, 1, 2, 3] rfl rfl ?_
        refine fz rfl .no Fx.fo109_0 (.u rfl) ?_
        refine ld rfl .no Fx.ag36 (.u rfl) (fun _ => Rd.own .here (by first | exact wap_f rfl | rfl)) ?_
        refine lr rfl .no Fx.sn36 (.u rfl) (.there .here) ?_
        refine cp rfl .no (.u rfl) (.u rfl) rfl ?_
        refine .nil ?_
        refine .code ?_
        refine .cond rfl (fun c4 => ?_) (fun c4 => ?_)
        · have c4k := c4
          try simp only [decide_eq_true_eq, decide_eq_false_iff_not, Int.not_lt, Int.not_le, gt_iff_lt, ge_iff_le, Bool.or_eq_true, Bool.and_eq_true, Bool.or_eq_false_iff, Bool.and_eq_false_iff, Bool.not_eq_true', Bool.not_eq_false', Int.toNat_natCast, bne_iff_ne, beq_iff_eq, bne_eq_false_iff_eq, beq_eq_false_iff_ne, ne_eq] at c4
          refine .seq ?_
          refine Wk.rg [0, 1] rfl rfl ?_
          refine asg rfl .no (.u rfl) ?_
          refine asg rfl .no (.u rfl) ?_
          refine .nil ?_
          refine .code ?_
          refine .ret ?_
          refine we_nilB 5 ?_
          refine We.fin Tryd.results25 (.tmp rfl (.tmp rfl .nil)) (MSub.cons .here rfl MSub.nil) ?_
          obtain rfl : k = l.length := by omega
          exact ⟨_, [], 4, bu_long2 c1k (by rw [← bu_all eO eP er eL54 eL58 eL59]; omega), rfl, rfl⟩
        · have c4k := c4
          try simp only [decide_eq_true_eq, decide_eq_false_iff_not, Int.not_lt, Int.not_le, gt_iff_lt, ge_iff_le, Bool.or_eq_true, Bool.and_eq_true, Bool.or_eq_false_iff, Bool.and_eq_false_iff, Bool.not_eq_true', Bool.not_eq_false', Int.toNat_natCast, bne_iff_ne, beq_iff_eq, bne_eq_false_iff_eq, beq_eq_false_iff_ne, ne_eq] at c4
          refine .skip ?_
          refine .code ?_
          refine .seq ?_
          refine Wk.rg [0, 1, 2, 3] rfl rfl ?_
          refine fz rfl .no Fx.fo109_0 (.u rfl) ?_
          refine ld rfl .no Fx.ag36 (.u rfl) (fun _ => Rd.own .here (by first | exact wap_f rfl | rfl)) ?_
          refine asg rfl .no (.u rfl) ?_
          refine asg rfl .no (.u rfl) ?_
          refine .nil ?_
          refine .code ?_
          refine .ret ?_
          refine We.fin Tryd.results25 (.tmp rfl (.tmp rfl .nil)) (MSub.cons (.there .here) rfl MSub.nil) ?_
          obtain rfl : k = l.length := by omega
          have eB := bu_all eO eP er eL54 eL58 eL59
          exact ⟨_, L59, 0, by rw [eB]; exact bu_ok c1k hno (by rw [← eB]; omega), rfl, rfl⟩
      · refine ld rfl .no Fx.ag3 (.u rfl) (fun _ => Rd.own .here (by first | exact wap_f rfl | rfl)) ?_
        refine .nil ?_
        refine Wp.b2 4 7 (by kernel_rfl) ?_ ?_
        · refine apY rfl Fx.se36 Fx.zv5 (.u rfl) (.u rfl) (.there .here) hP.sc (by (try simp only [List.length_append, List.length_cons, List.length_nil, yl_len]); omega) ?_
          intro v54 L54 ov54 eL54
          have lL54 : L54.length = O.length + P.length := by rw [eL54, List.length_append]
          refine .nil ?_
          refine Wp.one 7 (by kernel_rfl) ?_
          refine ci rfl .no rfl Fx.cv3_24 (.u rfl) ?_
          refine .nil ?_
          refine Wp.b1 8 (by kernel_rfl) ?_
          refine kc rfl Fx.go32 (Eva.cons (.u rfl) (Eva.cons (.u rfl) (Eva.cons (.u rfl) Eva.nil))) (Ct.frzB (Fix_ok [] ⟨none, 0⟩ _ 4 _ SlR.nul (Nat.zero_le _) (by decide))) ?_
          rintro _ G58 μ58 hG58 ⟨h58, L58, eL58, rfl, rfl, hs58⟩
          have hs := hs.mono hG58
          have hs26 := hs26.mono hG58
          have hP := hP.mono hG58
          refine .nil ?_
          refine Wp.b1 9 (by kernel_rfl) ?_
          have lL58 := fx0 eL58
          refine apY rfl Fx.se36 Fx.zv5 (.u rfl) (.u rfl) .here hs58.sc (by (try simp only [List.length_append, List.length_cons, List.length_nil, yl_len]); omega) ?_
          intro v59 L59 ov59 eL59
          have lL59 : L59.length = L54.length + L58.length := by rw [eL59, List.length_append]
          refine .nil ?_
          refine Wp.one 10 (by kernel_rfl) ?_
          refine fz rfl .no Fx.fo109_0 (.u rfl) ?_
          refine .nil ?_
          refine Wp.b1 11 (by kernel_rfl) ?_
          refine s1v rfl (.u rfl) (.u rfl) .here Fx.sz36 (.there .here) (by first | decide | (simp only [wa_len, ba_len, List.length_append, List.length_cons, List.length_nil]; omega)) (rfl) ?_
          refine .nil ?_
          refine Wp.last (by kernel_rfl) ?_
          refine .code ?_
          refine .seq ?_
          refine .seq ?_
          refine Wk.rg [0, 1, 2, 3] rfl rfl ?_
          refine fz rfl .no Fx.fo109_0 (.u rfl) ?_
          refine ld rfl .no Fx.ag36 (.u rfl) (fun _ => Rd.own .here (by first | exact wap_f rfl | rfl)) ?_
          refine lr rfl .no Fx.sn36 (.u rfl) (.there .here) ?_
          refine cp rfl .no (.u rfl) (.u rfl) rfl ?_
          refine .nil ?_
          refine .code ?_
          refine .cond rfl (fun c4 => ?_) (fun c4 => ?_)
          · have c4k := c4
            try simp only [decide_eq_true_eq, decide_eq_false_iff_not, Int.not_lt, Int.not_le, gt_iff_lt, ge_iff_le, Bool.or_eq_true, Bool.and_eq_true, Bool.or_eq_false_iff, Bool.and_eq_false_iff, Bool.not_eq_true', Bool.not_eq_false', Int.toNat_natCast, bne_iff_ne, beq_iff_eq, bne_eq_false_iff_eq, beq_eq_false_iff_ne, ne_eq] at c4
            refine .seq ?_
            refine Wk.rg [0, 1] rfl rfl ?_
            refine asg rfl .no (.u rfl) ?_
            refine asg rfl .no (.u rfl) ?_
            refine .nil ?_
            refine .code ?_
            refine .ret ?_
            refine we_nilB 5 ?_
            refine We.fin Tryd.results25 (.tmp rfl (.tmp rfl .nil)) (MSub.cons .here rfl MSub.nil) ?_
            obtain rfl : k = l.length := by omega
            exact ⟨_, [], 4, bu_long2 c1k (by rw [← bu_all eO eP er eL54 eL58 eL59]; omega), rfl, rfl⟩
          · have c4k := c4
            try simp only [decide_eq_true_eq, decide_eq_false_iff_not, Int.not_lt, Int.not_le, gt_iff_lt, ge_iff_le, Bool.or_eq_true, Bool.and_eq_true, Bool.or_eq_false_iff, Bool.and_eq_false_iff, Bool.not_eq_true', Bool.not_eq_false', Int.toNat_natCast, bne_iff_ne, beq_iff_eq, bne_eq_false_iff_eq, beq_eq_false_iff_ne, ne_eq] at c4
            refine .skip ?_
            refine .code ?_
            refine .seq ?_
            refine Wk.rg [0, 1, 2, 3] rfl rfl ?_
            refine fz rfl .no Fx.fo109_0 (.u rfl) ?_
            refine ld rfl .no Fx.ag36 (.u rfl) (fun _ => Rd.own .here (by first | exact wap_f rfl | rfl)) ?_
            refine asg rfl .no (.u rfl) ?_
            refine asg rfl .no (.u rfl) ?_
            refine .nil ?_
            refine .code ?_
            refine .ret ?_
            refine We.fin Tryd.results25 (.tmp rfl (.tmp rfl .nil)) (MSub.cons (.there .here) rfl MSub.nil) ?_
            obtain rfl : k = l.length := by omega
            have eB := bu_all eO eP er eL54 eL58 eL59
            exact ⟨_, L59, 0, by rw [eB]; exact bu_ok c1k hno (by rw [← eB]; omega), rfl, rfl⟩
        · refine ci rfl .no rfl Fx.cv3_24 (.u rfl) ?_
          refine .nil ?_
          refine Wp.b1 4 (by kernel_rfl) ?_
          refine apY rfl Fx.se36 Fx.zv5 (.u rfl) (.u rfl) (.there .here) hP.sc (by (try simp only [List.length_append, List.length_cons, List.length_nil, yl_len]); omega) ?_
          intro v54 L54 ov54 eL54
          have lL54 : L54.length = O.length + P.length := by rw [eL54, List.length_append]
          refine .nil ?_
          refine Wp.b1 8 (by kernel_rfl) ?_
          refine kc rfl Fx.go32 (Eva.cons (.u rfl) (Eva.cons (.u rfl) (Eva.cons (.u rfl) Eva.nil))) (Ct.frzB (Fix_ok [] ⟨none, 0⟩ _ 4 _ SlR.nul (Nat.zero_le _) (by decide))) ?_
          rintro _ G58 μ58 hG58 ⟨h58, L58, eL58, rfl, rfl, hs58⟩
          have hs := hs.mono hG58
          have hs26 := hs26.mono hG58
          have hP := hP.mono hG58
          refine .nil ?_
          refine Wp.b1 9 (by kernel_rfl) ?_
          have lL58 := fx0 eL58
          refine apY rfl Fx.se36 Fx.zv5 (.u rfl) (.u rfl) .here hs58.sc (by (try simp only [List.length_append, List.length_cons, List.length_nil, yl_len]); omega) ?_
          intro v59 L59 ov59 eL59
          have lL59 : L59.length = L54.length + L58.length := by rw [eL59, List.length_append]
          refine .nil ?_
          refine Wp.one 10 (by kernel_rfl) ?_
          refine fz rfl .no Fx.fo109_0 (.u rfl) ?_
          refine .nil ?_
          refine Wp.b1 11 (by kernel_rfl) ?_
          refine s1v rfl (.u rfl) (.u rfl) .here Fx.sz36 (.there .here) (by first | decide | (simp only [wa_len, ba_len, List.length_append, List.length_cons, List.length_nil]; omega)) (rfl) ?_
          refine .nil ?_
          refine Wp.last (by kernel_rfl) ?_
          refine .code ?_
          refine .seq ?_
          refine .seq ?_
          refine Wk.rg [0, 1, 2, 3] rfl rfl ?_
          refine fz rfl .no Fx.fo109_0 (.u rfl) ?_
          refine ld rfl .no Fx.ag36 (.u rfl) (fun _ => Rd.own .here (by first | exact wap_f rfl | rfl)) ?_
          refine lr rfl .no Fx.sn36 (.u rfl) (.there .here) ?_
          refine cp rfl .no (.u rfl) (.u rfl) rfl ?_
          refine .nil ?_
          refine .code ?_
          refine .cond rfl (fun c4 => ?_) (fun c4 => ?_)
          · have c4k := c4
            try simp only [decide_eq_true_eq, decide_eq_false_iff_not, Int.not_lt, Int.not_le, gt_iff_lt, ge_iff_le, Bool.or_eq_true, Bool.and_eq_true, Bool.or_eq_false_iff, Bool.and_eq_false_iff, Bool.not_eq_true', Bool.not_eq_false', Int.toNat_natCast, bne_iff_ne, beq_iff_eq, bne_eq_false_iff_eq, beq_eq_false_iff_ne, ne_eq] at c4
            refine .seq ?_
            refine Wk.rg [0, 1] rfl rfl ?_
            refine asg rfl .no (.u rfl) ?_
            refine asg rfl .no (.u rfl) ?_
            refine .nil ?_
            refine .code ?_
            refine .ret ?_
            refine we_nilB 5 ?_
            refine We.fin Tryd.results25 (.tmp rfl (.tmp rfl .nil)) (MSub.cons .here rfl MSub.nil) ?_
            obtain rfl : k = l.length := by omega
            exact ⟨_, [], 4, bu_long2 c1k (by rw [← bu_all eO eP er eL54 eL58 eL59]; omega), rfl, rfl⟩
          · have c4k := c4
            try simp only [decide_eq_true_eq, decide_eq_false_iff_not, Int.not_lt, Int.not_le, gt_iff_lt, ge_iff_le, Bool.or_eq_true, Bool.and_eq_true, Bool.or_eq_false_iff, Bool.and_eq_false_iff, Bool.not_eq_true', Bool.not_eq_false', Int.toNat_natCast, bne_iff_ne, beq_iff_eq, bne_eq_false_iff_eq, beq_eq_false_iff_ne, ne_eq] at c4
            refine .skip ?_
            refine .code ?_
            refine .seq ?_
            refine Wk.rg [0, 1, 2, 3] rfl rfl ?_
            refine fz rfl .no Fx.fo109_0 (.u rfl) ?_
            refine ld rfl .no Fx.ag36 (.u rfl) (fun _ => Rd.own .here (by first | exact wap_f rfl | rfl)) ?_
            refine asg rfl .no (.u rfl) ?_
            refine asg rfl .no (.u rfl) ?_
            refine .nil ?_
            refine .code ?_
            refine .ret ?_
            refine We.fin Tryd.results25 (.tmp rfl (.tmp rfl .nil)) (MSub.cons (.there .here) rfl MSub.nil) ?_
            obtain rfl : k = l.length := by omega
            have eB := bu_all eO eP er eL54 eL58 eL59
            exact ⟨_, L59, 0, by rw [eB]; exact bu_ok c1k hno (by rw [← eB]; omega), rfl, rfl⟩

end Go.Proofs.YtbdnclpopappeaaDoor

namespace Go.Proofs.YtbdnclpopappeaaDoor
set_option linter.unusedSimpArgs false
set_option linter.unusedVariables false
open Go.Tan Go.RowKit

namespace Fx
theorem zq43 : zrL Tryd.prog 43 = some (Ent.zero.cells) := by kernel_rfl
theorem bp43_ : bPl Tryd.prog 43 [] = some (Ent.zero.cells, []) := by kernel_rfl
theorem bp43_0_1_2 : bPl Tryd.prog 43 [0, 1, 2] = some (Ent.zero.cells, [(0, 1), (1, 1), (2, 1)]) := by kernel_rfl
theorem go57 : goFn Tryd.prog 57 = true := by kernel_rfl
theorem go83 : goFn Tryd.prog 83 = true := by kernel_rfl
theorem go84 : goFn Tryd.prog 84 = true := by kernel_rfl
theorem go77 : goFn Tryd.prog 77 = true := by kernel_rfl
theorem zw43 : (Tryd.prog.info? 43).bind (·.zero) = some (.agg (Ent.zero.cells).toArray) := by kernel_rfl
theorem go25 : goFn Tryd.prog 25 = true := by kernel_rfl
theorem go78 : goFn Tryd.prog 78 = true := by kernel_rfl
end Fx
theorem eTake_ok (s : ByteArray) (G : PM) (hl : s.size ≤ 1000000000) : Ct Tryd.prog 84 ([.string s] : List Value).toArray G [] (fun _ μ' u => μ' = [] ∧ u = .tuple #[(takeE (yb s)).1.val, .int .i64 (takeE (yb s)).2]) := by
  refine Ct.of Tryd.func84 rfl Tryd.ntmps84 rfl fun w0 hs0 => ?_
  have l8 : (yb (bstr ((yb s).drop (s.size - 8)))).length ≤ 1000000000 := by rw [yb_bstr, List.length_drop, yb_len]; omega
  refine .seq ?_
  refine Wk.rg [0, 1] rfl rfl ?_
  refine al rfl Fx.zq43 ?_; intro b2
  refine asg rfl .no (.u rfl) ?_
  refine .nil ?_
  refine .code ?_
  refine .seq ?_
  refine Wk.rg [0, 1, 2, 3] rfl rfl ?_
  refine mv rfl .no (.u rfl) ?_
  refine ls rfl .no Fx.st9 (.u rfl) ?_
  refine ar rfl .no (.u rfl) (.u rfl) rfl (fun _ => wrap_i64 (by omega) (by omega)) ?_
  refine asg rfl .no (.u rfl) ?_
  refine .nil ?_
  refine .code ?_
  refine .seq ?_
  refine .seq ?_
  refine Wk.rg [0, 1] rfl rfl ?_
  refine mv rfl .no (.u rfl) ?_
  refine cp rfl .no (.u rfl) (.u rfl) rfl ?_
  refine .nil ?_
  refine .code ?_
  refine .cond rfl (fun c1 => ?_) (fun c1 => ?_)
  · have c1k := c1
    try simp only [decide_eq_true_eq, decide_eq_false_iff_not, Int.not_lt, Int.not_le, gt_iff_lt, ge_iff_le, Bool.or_eq_true, Bool.and_eq_true, Bool.or_eq_false_iff, Bool.not_eq_true', Bool.not_eq_false', Int.toNat_natCast, bne_iff_ne, beq_iff_eq, bne_eq_false_iff_eq, beq_eq_false_iff_ne, ne_eq] at c1
    refine .seq ?_
    refine Wk.rg [0, 1, 2] rfl rfl ?_
    refine bC rfl .no Fx.bp43_ .nil rfl ?_
    refine sw rfl (.u rfl) (.u rfl) rfl Fx.sz43 .here (by first | rfl | exact Ent.len _) (Ent.one _) ?_
    refine asg rfl .no (.u rfl) ?_
    refine .nil ?_
    refine .code ?_
    refine .ret ?_
    refine We.fin0 Tryd.results84 (.cell rfl (fun w hw => run_loadVarN Fx.ag43 (RdN.own .here) ((by first | rfl | exact Ent.len _)) hw) (.tmp rfl .nil)) ?_
    exact ⟨rfl, by rw [tk_short c1]; rfl⟩
  · have c1k := c1
    try simp only [decide_eq_true_eq, decide_eq_false_iff_not, Int.not_lt, Int.not_le, gt_iff_lt, ge_iff_le, Bool.or_eq_true, Bool.and_eq_true, Bool.or_eq_false_iff, Bool.not_eq_true', Bool.not_eq_false', Int.toNat_natCast, bne_iff_ne, beq_iff_eq, bne_eq_false_iff_eq, beq_eq_false_iff_ne, ne_eq] at c1
    refine .skip ?_
    refine .code ?_
    refine .seq ?_
    refine Wk.rg [0, 1, 2, 3, 4, 5, 6] rfl rfl ?_
    refine mv rfl .no (.u rfl) ?_
    refine mv rfl .no (.u rfl) ?_
    refine sD ((s.size - 8)) rfl .no Fx.st9 (.u rfl) (.u rfl) (fun _ => by omega) (fun _ => by omega) ?_
    refine cvS rfl rfl Fx.sb9_36 (.u rfl) ?_; intro G16 h16 hG16 hs16
    refine kc rfl Fx.go54 (Eva.cons (.u rfl) Eva.nil) (wcNew_ok (yb (bstr ((yb s).drop (s.size - 8)))) h16 _ hs16 (by omega)) ?_
    rintro _ G17 μ17 hG17 ⟨b17, s17, rfl, rfl, hs17⟩
    have hs16 := hs16.mono hG17
    refine ka rfl (.inr rfl) Fx.go55 (Eva.cons (.u rfl) (Eva.cons (.u rfl) Eva.nil)) (mtk1 .here) (rdFix_ok (yb (bstr ((yb s).drop (s.size - 8)))) s17 _ _ hs17 (by rw [yb_bstr, List.length_drop, yb_len]; omega) (by omega)) ?_
    rintro _ G18 μ18 hG18 ⟨s18, rfl, rfl, hs18⟩
    have hs16 := hs16.mono hG18
    have hs17 := hs17.mono hG18
    refine asg rfl .no (.u rfl) ?_
    refine .nil ?_
    refine .code ?_
    refine .seq ?_
    refine Wk.rg [0, 1, 2, 3, 4, 5, 6, 7, 8, 9] rfl rfl ?_
    refine mv rfl .no (.u rfl) ?_
    refine mv rfl .no (.u rfl) ?_
    refine sE ((s.size - 8)) rfl .no Fx.st9 (.u rfl) (.u rfl) (fun _ => by omega) (fun _ => by omega) ?_
    refine mv rfl .no (.u rfl) ?_
    refine rw' (k := .u64) rfl .no (.u rfl) (.u rfl) (fun _ => by decide) ?_
    refine mv rfl .no (.u rfl) ?_
    refine cu (k := .u64) rfl .no rfl Fx.cv24_5 (.u rfl) ?_
    refine bCe ((Ent.cells ⟨bstr ((yb s).take (s.size - 8)), (unfK (yb (bstr ((yb s).drop (s.size - 8)))) 8) >>> 8, (unfK (yb (bstr ((yb s).drop (s.size - 8)))) 8).setWidth 8, ByteArray.empty⟩)) rfl .no Fx.bp43_0_1_2 (.cons (.u rfl) rfl (.cons (.u rfl) rfl (.cons (.u rfl) rfl .nil))) rfl (rfl) ?_
    refine al rfl Fx.zq43 ?_; intro b6
    refine sw rfl (.u rfl) (.u rfl) rfl Fx.sz43 .here (by first | rfl | exact Ent.len _) (Ent.one _) ?_
    refine .nil ?_
    refine .code ?_
    refine .seq ?_
    refine .seq ?_
    refine Wk.rg [0, 1, 2] rfl rfl ?_
    refine lA rfl .no Fx.ag43 (.u rfl) (fun _ => RdN.own .here) (fun _ => (by first | rfl | exact Ent.len _)) ?_
    refine kv rfl .no Fx.go11 (Eva.cons (.u rfl) Eva.nil) (fun _ => eRight_ok ⟨bstr ((yb s).take (s.size - 8)), (unfK (yb (bstr ((yb s).drop (s.size - 8)))) 8) >>> 8, (unfK (yb (bstr ((yb s).drop (s.size - 8)))) 8).setWidth 8, ByteArray.empty⟩ _) ?_
    refine nt rfl .no (.u rfl) ?_
    refine .nil ?_
    refine .code ?_
    refine .cond rfl (fun c2 => ?_) (fun c2 => ?_)
    · have c2k := c2
      try simp only [decide_eq_true_eq, decide_eq_false_iff_not, Int.not_lt, Int.not_le, gt_iff_lt, ge_iff_le, Bool.or_eq_true, Bool.and_eq_true, Bool.or_eq_false_iff, Bool.not_eq_true', Bool.not_eq_false', Int.toNat_natCast, bne_iff_ne, beq_iff_eq, bne_eq_false_iff_eq, beq_eq_false_iff_ne, ne_eq] at c2
      refine .seq ?_
      refine Wk.rg [0, 1, 2] rfl rfl ?_
      refine bC rfl .no Fx.bp43_ .nil rfl ?_
      refine sw rfl (.u rfl) (.u rfl) rfl Fx.sz43 (.there (.there .here)) (by first | rfl | exact Ent.len _) (Ent.one _) ?_
      refine asg rfl .no (.u rfl) ?_
      refine .nil ?_
      refine .code ?_
      refine .ret ?_
      refine We.fin0 Tryd.results84 (.cell rfl (fun w hw => run_loadVarN Fx.ag43 (RdN.own .here) ((by first | rfl | exact Ent.len _)) hw) (.tmp rfl .nil)) ?_
      exact ⟨rfl, by rw [tk_bad2 c1 c2]; rfl⟩
    · have c2k := c2
      try simp only [decide_eq_true_eq, decide_eq_false_iff_not, Int.not_lt, Int.not_le, gt_iff_lt, ge_iff_le, Bool.or_eq_true, Bool.and_eq_true, Bool.or_eq_false_iff, Bool.not_eq_true', Bool.not_eq_false', Int.toNat_natCast, bne_iff_ne, beq_iff_eq, bne_eq_false_iff_eq, beq_eq_false_iff_ne, ne_eq] at c2
      refine .skip ?_
      refine .code ?_
      refine .seq ?_
      refine Wk.rg [0, 1, 2] rfl rfl ?_
      refine lA rfl .no Fx.ag43 (.u rfl) (fun _ => RdN.own .here) (fun _ => (by first | rfl | exact Ent.len _)) ?_
      refine sw rfl (.u rfl) (.u rfl) rfl Fx.sz43 (.there (.there .here)) (by first | rfl | exact Ent.len _) (Ent.one _) ?_
      refine asg rfl .no (.u rfl) ?_
      refine .nil ?_
      refine .code ?_
      refine .ret ?_
      refine We.fin0 Tryd.results84 (.cell rfl (fun w hw => run_loadVarN Fx.ag43 (RdN.own .here) ((by first | rfl | exact Ent.len _)) hw) (.tmp rfl .nil)) ?_
      exact ⟨rfl, by rw [tk_good2 c1 c2]; rfl⟩

theorem text_ok (xs : List Y) (s : Sh) (b n : Nat) (G : PM) (hs : SlR G 1 encY s xs) (hn : n ≤ xs.length) (hl : xs.length ≤ 100000000000000) : Ct Tryd.prog 83 ([.pointer (some ⟨b, 0, none⟩), .int .u64 (n : Int)] : List Value).toArray G [.blk b (cl [s.val xs.length, .int .i64 0] 145)] (fun G' μ' u => ∃ s', μ' = [.blk b (cl [Sh.val s' (xs.drop n).length, .int .i64 0] 145)] ∧ u = .string (bstr (xs.take n)) ∧ SlR G' 1 encY s' (xs.drop n)) := by
  refine Ct.of Tryd.func83 rfl Tryd.ntmps83 rfl fun w0 hs0 => ?_
  refine .seq ?_
  refine Wk.rg [0] rfl rfl ?_
  refine asg rfl .no (.u rfl) ?_
  refine .nil ?_
  refine .code ?_
  refine .seq ?_
  refine Wk.rg [0, 1, 2] rfl rfl ?_
  refine mv rfl .no (.u rfl) ?_
  refine mkY (n) (n) rfl Fx.se36 Fx.zv5 (.u rfl) (.u rfl) (by first | rfl | omega) (by first | rfl | omega) (by omega) (by omega) ?_; intro b8
  have lR8 : (List.replicate (n) (0#8 : Y)).length = n := List.length_replicate
  refine asg rfl .no (.u rfl) ?_
  refine .nil ?_
  refine .code ?_
  refine .seq ?_
  refine .seq ?_
  refine Wk.rg [0, 1, 2] rfl rfl ?_
  refine mv rfl .no (.u rfl) ?_
  refine lr rfl .no Fx.sn36 (.u rfl) .here ?_
  refine mv rfl .no (.u rfl) ?_
  refine .nil ?_
  refine .code ?_
  refine .block ?_
  refine Wk.lop (α := Nat × List Y × Sh) (fun gh => [(11, true, .int .i64 (gh.1 : Int))]) (fun gh => [rB (.slice (some ⟨b8, 0, none⟩) (n : Nat) (n : Nat)) 5 gh.2.1, .blk b (cl [Sh.val gh.2.2 (xs.drop gh.1).length, .int .i64 0] 145)])
    (fun gh Gl => (gh.1 ≤ n) ∧ (gh.2.1 = txM xs n gh.1) ∧ (gh.2.1.length = n) ∧ (SlR Gl 1 encY gh.2.2 (xs.drop gh.1))) (fun gh => n - gh.1) (0, List.replicate n 0#8, s) [(0, true, _), (5, true, _), (10, true, _)] []
    (ESub.cons rfl (by first | rfl | exact evi (by omega)) (ESub.cons rfl rfl (ESub.cons rfl rfl (ESub.cons rfl rfl ESub.nil))))
    (MSub.cons .here rfl (MSub.cons .here rfl MSub.nil)) ?_ ?_
  · refine ⟨?_, ?_, ?_, ?_⟩
    · (try dsimp only) <;> (first | omega | rfl | assumption | (simp; done))
    · (try dsimp only) <;> (rw [tx_zero])
    · (try dsimp only) <;> (exact List.length_replicate)
    · (try dsimp only) <;> (exact hs)
  intro gh N0 Gl0 hN0 hGl0 hF0
  obtain ⟨k, M, s9⟩ := gh; dsimp only at hF0 hN0 ⊢
  obtain ⟨hk, eM, lM, hsl⟩ := hF0
  have hs := hs.mono hGl0
  refine .seq ?_
  refine Wk.rg [0] rfl rfl ?_
  refine cp rfl .no (.u rfl) (.u rfl) rfl ?_
  refine .nil ?_
  refine .code ?_
  refine .seq ?_
  refine .cond rfl (fun c1 => ?_) (fun c1 => ?_)
  · have c1k := c1
    try simp only [decide_eq_true_eq, decide_eq_false_iff_not, Int.not_lt, Int.not_le, gt_iff_lt, ge_iff_le, Bool.or_eq_true, Bool.and_eq_true, Bool.or_eq_false_iff, Bool.not_eq_true', Bool.not_eq_false', Int.toNat_natCast, bne_iff_ne, beq_iff_eq, bne_eq_false_iff_eq, beq_eq_false_iff_ne, ne_eq] at c1
    refine .skip ?_
    refine .code ?_
    refine .seq ?_
    refine .block ?_
    refine .seq ?_
    refine Wk.rg [0, 1] rfl rfl ?_
    refine mv rfl .no (.u rfl) ?_
    refine asg rfl .no (.u rfl) ?_
    refine .nil ?_
    refine .code ?_
    refine Wk.rg [0, 1, 2, 3, 4, 5, 6] rfl rfl ?_
    refine mv rfl .no (.u rfl) ?_
    refine mv rfl .no (.u rfl) ?_
    refine mv rfl .no (.u rfl) ?_
    refine ka rfl (.inr rfl) Fx.go55 (Eva.cons (.u rfl) (Eva.cons (.u rfl) Eva.nil)) (mtk1 (.there .here)) (rFix_ok (xs.drop k) 0 s9 b _ hsl (by rw [List.length_drop]; omega)) ?_
    rintro _ G17 μ17 hG17 ⟨y17, L17, e17, s17, hN17, rfl, rfl, hs17⟩
    obtain ⟨rfl, rfl, rfl⟩ := tx_byte (by omega) hN17
    have hs := hs.mono hG17
    have hsl := hsl.mono hG17
    refine cu (k := .u64) rfl .no rfl Fx.cv24_5 (.u rfl) ?_
    refine ia rfl .no Fx.se36 (.u rfl) (.u rfl) (fun _ => by omega) (fun _ => by omega) ?_
    refine s1r rfl (.u rfl) (.u rfl) Fx.sz5 (.there .here) (by omega) ?_; intro Ls5_6 eLs5_6 lLs5_6
    refine .nil ?_
    refine .blk ?_
    refine .code ?_
    refine Wk.rg [0, 1] rfl rfl ?_
    refine arn (((k + 1) : Nat) : Int) rfl .no (.u rfl) (.u rfl) rfl (fun _ => by omega) (fun _ => wrap_i64 (by omega) (by omega)) ?_
    refine mv rfl .no (.u rfl) ?_
    refine .nil ?_
    refine We.lpo (k + 1, Ls5_6, s17) ?_ ?_ ?_ ?_ ?_
    · exact (ESub.cons rfl (by first | rfl | exact evi (by omega)) (ESub.cons rfl rfl (ESub.cons rfl rfl (ESub.cons rfl rfl ESub.nil))))
    · exact (MSub.cons .here rfl (MSub.cons .here rfl MSub.nil))
    · first | omega | (dsimp only; omega)
    · exact (hGl0).trans hG17
    · refine ⟨?_, ?_, ?_, ?_⟩
      · (try dsimp only) <;> (first | omega | rfl | assumption | (simp; done))
      · (try dsimp only) <;> (rw [eLs5_6, eM]; exact tx_st (by omega) hn (by rw [Nat.zero_add, Nat.mul_one]; rfl) (tx_back _))
      · (try dsimp only) <;> (first | omega | rfl | assumption | (simp; done))
      · (try dsimp only) <;> (exact hs17)
  · have c1k := c1
    try simp only [decide_eq_true_eq, decide_eq_false_iff_not, Int.not_lt, Int.not_le, gt_iff_lt, ge_iff_le, Bool.or_eq_true, Bool.and_eq_true, Bool.or_eq_false_iff, Bool.not_eq_true', Bool.not_eq_false', Int.toNat_natCast, bne_iff_ne, beq_iff_eq, bne_eq_false_iff_eq, beq_eq_false_iff_ne, ne_eq] at c1
    refine .exit ?_
    refine .xcode ?_
    refine .xlp ?_
    refine .xblk ?_
    refine .code ?_
    refine .seq ?_
    subst lM
    refine Wk.rg [0, 1, 2] rfl rfl ?_
    refine mv rfl .no (.u rfl) ?_
    refine sB rfl .no Fx.bs36_9 (.u rfl) (fun _ => (Sc.row .here)) ?_
    refine asg rfl .no (.u rfl) ?_
    refine .nil ?_
    refine .code ?_
    refine .ret ?_
    refine We.fin Tryd.results83 (.tmp rfl .nil) (MSub.cons (.there .here) rfl MSub.nil) ?_
    obtain rfl : k = M.length := by omega
    exact ⟨s9, rfl, congrArg (fun z => Value.string (bstr z)) (eM.trans tx_all), hsl⟩

theorem bTake_ok (xs : List Y) (s : Sh) (b : Nat) (last : ByteArray) (G : PM) (hs : SlR G 1 encY s xs) (hl : xs.length ≤ 100000000) (hk : last.size ≤ 100000000) : Ct Tryd.prog 77 ([.pointer (some ⟨b, 0, none⟩), .string last] : List Value).toArray G [.blk b (cl [s.val xs.length, .int .i64 0] 145)] (fun G' μ' u => (takeV (yb last) xs = none ∧ μ' = [] ∧ ∃ (E : Ent) (key : ByteArray), u = .tuple #[E.val, .string key, .bool false]) ∨ (∃ E key L s', takeV (yb last) xs = some (E, yb key, L) ∧ μ' = [.blk b (cl [Sh.val s' L.length, .int .i64 0] 145)] ∧ u = .tuple #[E.val, .string key, .bool true] ∧ SlR G' 1 encY s' L)) := by
  refine Ct.of Tryd.func77 rfl Tryd.ntmps77 rfl fun w0 hs0 => ?_
  refine .seq ?_
  refine Wk.rg [0, 1, 2] rfl rfl ?_
  refine al rfl Fx.zq43 ?_; intro b4
  refine asg rfl .no (.u rfl) ?_
  refine asg rfl .no (.u rfl) ?_
  refine .nil ?_
  refine .code ?_
  refine .seq ?_
  refine Wk.rg [0, 1, 2, 3, 4, 5, 6, 7, 8] rfl rfl ?_
  refine mv rfl .no (.u rfl) ?_
  refine ka rfl (.inr rfl) Fx.go57 (Eva.cons (.u rfl) Eva.nil) (mtk1 (.there .here)) (rNum_ok xs 0 s b _ hs (by omega)) ?_
  rintro _ G15 μ15 hG15 ⟨n15, L15, e15, s15, hN15, rfl, rfl, hs15⟩
  have lL15 := rdnum_le hN15; have nL15 := rdnum_lt hN15; simp only at lL15
  have hs := hs.mono hG15
  refine mv rfl .no (.u rfl) ?_
  refine ka rfl (.inr rfl) Fx.go57 (Eva.cons (.u rfl) Eva.nil) (mtk1 .here) (rNum_ok L15 e15 s15 b _ hs15 (by omega)) ?_
  rintro _ G17 μ17 hG17 ⟨n17, L17, e17, s17, hN17, rfl, rfl, hs17⟩
  have lL17 := rdnum_le hN17; have nL17 := rdnum_lt hN17; simp only at lL17
  have hs := hs.mono hG17
  have hs15 := hs15.mono hG17
  refine mv rfl .no (.u rfl) ?_
  refine ka rfl (.inr rfl) Fx.go57 (Eva.cons (.u rfl) Eva.nil) (mtk1 .here) (rNum_ok L17 e17 s17 b _ hs17 (by omega)) ?_
  rintro _ G19 μ19 hG19 ⟨n19, L19, e19, s19, hN19, rfl, rfl, hs19⟩
  have lL19 := rdnum_le hN19; have nL19 := rdnum_lt hN19; simp only at lL19
  have hs := hs.mono hG19
  have hs15 := hs15.mono hG19
  have hs17 := hs17.mono hG19
  refine asg rfl .no (.u rfl) ?_
  refine asg rfl .no (.u rfl) ?_
  refine asg rfl .no (.u rfl) ?_
  refine .nil ?_
  refine .code ?_
  refine .seq ?_
  refine Wk.rg [0, 1, 2, 3] rfl rfl ?_
  refine mv rfl .no (.u rfl) ?_
  refine kp rfl .no Fx.go75 (Eva.cons (.u rfl) Eva.nil) (Gp.add .here Gp.nil) (fun _ hle hq => rLeft_ok L19 e19 s19 b _ RdNP.add) ?_
  refine cw rfl .no Fx.cv3_24 (.u rfl) (fun _ => wrap_u64 (by omega) (by omega)) ?_
  refine asg rfl .no (.u rfl) ?_
  refine .nil ?_
  refine .code ?_
  refine .seq ?_
  refine .seq ?_
  refine Wk.rg [0, 1, 2, 3, 4, 5, 6, 7, 8, 9, 10, 11, 12, 13, 14, 15, 16, 17, 18, 19, 20, 21] rfl rfl ?_
  refine mv rfl .no (.u rfl) ?_
  refine kp rfl .no Fx.go58 (Eva.cons (.u rfl) Eva.nil) (Gp.add .here Gp.nil) (fun _ hle hq => rFault_ok L19 e19 s19 b _ RdNP.add) ?_
  refine cp rfl .no (.u rfl) (.u rfl) rfl ?_
  refine mv rfl .no (.u rfl) ?_
  refine mv rfl (.f rfl rfl) (.u rfl) ?_
  refine mv rfl (.f rfl rfl) (.u rfl) ?_
  refine ls rfl (.f rfl rfl) Fx.st9 (.s rfl) ?_
  refine cw rfl (.f rfl rfl) Fx.cv3_24 (.s rfl) (fun hc => wrap_u64 (by (try simp only [Bool.and_eq_true, decide_eq_true_eq, Bool.not_eq_true', Bool.or_eq_false_iff, decide_eq_false_iff_not] at hc); omega) (by (try simp only [Bool.and_eq_true, decide_eq_true_eq, Bool.not_eq_true', Bool.or_eq_false_iff, decide_eq_false_iff_not] at hc); omega)) ?_
  refine cp rfl (.f rfl rfl) (.s rfl) (.s rfl) rfl ?_
  refine pkO rfl .no (.u rfl) (.s rfl) ?_
  refine mv rfl .no (.u rfl) ?_
  refine mv rfl (.f rfl rfl) (.u rfl) ?_
  refine mv rfl (.f rfl rfl) (.u rfl) ?_
  refine cp rfl (.f rfl rfl) (.s rfl) (.s rfl) rfl ?_
  refine pkO rfl .no (.u rfl) (.s rfl) ?_
  refine mv rfl .no (.u rfl) ?_
  refine mv rfl (.f rfl rfl) (.u rfl) ?_
  refine mv rfl (.f rfl rfl) (.u rfl) ?_
  refine mv rfl (.f rfl rfl) (.u rfl) ?_
  refine ar rfl (.f rfl rfl) (.s rfl) (.s rfl) rfl (fun hc => wrap_u64 (by (try simp only [Bool.and_eq_true, decide_eq_true_eq, Bool.not_eq_true', Bool.or_eq_false_iff, decide_eq_false_iff_not] at hc); omega) (by (try simp only [Bool.and_eq_true, decide_eq_true_eq, Bool.not_eq_true', Bool.or_eq_false_iff, decide_eq_false_iff_not] at hc); omega)) ?_
  refine cp rfl (.f rfl rfl) (.s rfl) (.s rfl) rfl ?_
  refine pkO rfl .no (.u rfl) (.s rfl) ?_
  refine .nil ?_
  refine .code ?_
  refine .cond rfl (fun c1 => ?_) (fun c1 => ?_)
  · have c1k := c1
    try simp only [decide_eq_true_eq, decide_eq_false_iff_not, Int.not_lt, Int.not_le, gt_iff_lt, ge_iff_le, Bool.or_eq_true, Bool.and_eq_true, Bool.or_eq_false_iff, Bool.and_eq_false_iff, Bool.not_eq_true', Bool.not_eq_false', Int.toNat_natCast, bne_iff_ne, beq_iff_eq, bne_eq_false_iff_eq, beq_eq_false_iff_ne, ne_eq] at c1
    refine .seq ?_
    refine Wk.rg [0, 1, 2, 3] rfl rfl ?_
    refine bC rfl .no Fx.bp43_ .nil rfl ?_
    refine sw rfl (.u rfl) (.u rfl) rfl Fx.sz43 (.there .here) (by first | rfl | exact Ent.len _) (Ent.one _) ?_
    refine asg rfl .no (.u rfl) ?_
    refine asg rfl .no (.u rfl) ?_
    refine .nil ?_
    refine .code ?_
    refine .ret ?_
    refine We.fin0 Tryd.results77 (.cell rfl (fun w hw => run_loadVarN Fx.ag43 (RdN.own .here) (Ent.len _) hw) (.tmp rfl (.tmp rfl .nil))) ?_
    exact .inl ⟨by rw [tv_num hN15 hN17 hN19, if_neg (fun q => by omega)], rfl, Ent.zero, ByteArray.empty, rfl⟩
  · have c1k := c1
    try simp only [decide_eq_true_eq, decide_eq_false_iff_not, Int.not_lt, Int.not_le, gt_iff_lt, ge_iff_le, Bool.or_eq_true, Bool.and_eq_true, Bool.or_eq_false_iff, Bool.and_eq_false_iff, Bool.not_eq_true', Bool.not_eq_false', Int.toNat_natCast, bne_iff_ne, beq_iff_eq, bne_eq_false_iff_eq, beq_eq_false_iff_ne, ne_eq] at c1
    refine .skip ?_
    refine .code ?_
    refine .seq ?_
    obtain rfl : e19 = 0 := by omega
    refine Wk.draw (mc := ⟨true, false⟩) [0, 1, 2, 3, 4, 5, 6, 7] Fx.mix (by kernel_rfl) ?_
    refine mv rfl .no (.u rfl) ?_
    refine mv rfl .no (.u rfl) ?_
    refine sE (n15) rfl .no Fx.st9 (.u rfl) (.u rfl) (fun _ => by omega) (fun _ => by omega) ?_
    refine mv rfl .no (.u rfl) ?_
    refine mv rfl .no (.u rfl) ?_
    refine ka rfl (.inl rfl) Fx.go83 (Eva.cons (.u rfl) (Eva.cons (.u rfl) Eva.nil)) (mtk1 .here) (text_ok L19 s19 b n17 _ hs19 (by omega) (by omega)) ?_
    rintro _ G51 μ51 hG51 ⟨s51, rfl, rfl, hs51⟩
    have hs := hs.mono hG51
    have hs15 := hs15.mono hG51
    have hs17 := hs17.mono hG51
    have hs19 := hs19.mono hG51
    refine sP rfl .no (.u rfl) (.u rfl) (fun _ => by simp only [bstr_len, List.length_take, yb_len]; omega) ?_
    refine asg rfl .no (.u rfl) ?_
    refine .nil ?_
    refine .code ?_
    refine .seq ?_
    generalize hkey : bstr (yb (bstr ((yb last).take n15)) ++ yb (bstr (L19.take n17))) = key
    have eky : yb key = (yb last).take n15 ++ L19.take n17 := by rw [← hkey, yb_bstr, yb_bstr, yb_bstr]
    have lky : key.size ≤ 200000000 := by rw [← yb_len, eky, List.length_append, List.length_take, List.length_take, yb_len]; omega
    refine Wk.rg [0, 1, 2, 3, 4, 5, 6, 7] rfl rfl ?_
    refine mv rfl .no (.u rfl) ?_
    refine kv rfl .no Fx.go84 (Eva.cons (.u rfl) Eva.nil) (fun _ => eTake_ok key _ (by omega)) ?_
    refine mv rfl .no (.u rfl) ?_
    refine ex rfl .no (.u rfl) rfl ?_
    refine ex rfl .no (.u rfl) rfl ?_
    refine al rfl Fx.zq43 ?_; intro b12
    refine sw rfl (.u rfl) (.u rfl) rfl Fx.sz43 .here (by first | rfl | exact Ent.len _) (Ent.one _) ?_
    refine asg rfl .no (.u rfl) ?_
    refine .nil ?_
    refine .code ?_
    refine .seq ?_
    refine Wk.rg [0, 1, 2, 3, 4] rfl rfl ?_
    refine mv rfl .no (.u rfl) ?_
    refine mv rfl .no (.u rfl) ?_
    refine ka rfl (.inr rfl) Fx.go83 (Eva.cons (.u rfl) (Eva.cons (.u rfl) Eva.nil)) (mtk1 (.there .here)) (text_ok (L19.drop n17) s51 b n19 _ hs51 (by rw [List.length_drop]; omega) (by rw [List.length_drop]; omega)) ?_
    rintro _ G60 μ60 hG60 ⟨s60, rfl, rfl, hs60⟩
    have hs := hs.mono hG60
    have hs15 := hs15.mono hG60
    have hs17 := hs17.mono hG60
    have hs19 := hs19.mono hG60
    have hs51 := hs51.mono hG60
    refine fz rfl .no Fx.fo43_3 (.u rfl) ?_
    refine s1 rfl (.u rfl) (.u rfl) rfl Fx.sz9 (.there .here) (show 3 < 4 by decide) (Ent.set3 _ _) ?_
    refine .nil ?_
    refine .code ?_
    refine .seq ?_
    by_cases hq : (takeE (yb key)).2 = 0
    · refine Wk.rg [0, 1, 2, 3, 4, 5, 6] rfl rfl ?_
      refine lA rfl .no Fx.ag43 (.u rfl) (fun _ => RdN.own .here) (fun _ => (by first | rfl | exact Ent.len _)) ?_
      refine mv rfl .no (.u rfl) ?_
      refine mv rfl .no (.u rfl) ?_
      refine cp rfl .no (.u rfl) (.u rfl) rfl ?_
      refine sw rfl (.u rfl) (.u rfl) rfl Fx.sz43 (.there (.there .here)) (by first | rfl | exact Ent.len _) (Ent.one _) ?_
      refine asg rfl .no (.u rfl) ?_
      refine asg rfl .no (.u rfl) ?_
      refine .nil ?_
      refine .code ?_
      refine .ret ?_
      refine We.fin Tryd.results77 (.cell rfl (fun w hw => run_loadVarN Fx.ag43 (RdN.own .here) (Ent.len _) hw) (.tmp rfl (.tmp rfl .nil))) (MSub.cons (.there (.there .here)) rfl MSub.nil) ?_
      refine .inr ⟨{ (takeE (yb key)).1 with value := bstr ((L19.drop n17).take n19) }, key, (L19.drop n17).drop n19, s60, ?_, rfl, ?_, hs60⟩
      · rw [tv_num hN15 hN17 hN19, if_pos ⟨rfl, by omega, by omega, by omega⟩, ← eky, if_pos hq]
      · rw [show ((takeE (yb key)).2 == 0) = true by rw [hq]; rfl]; rfl
    · refine Wk.rg [0, 1, 2, 3, 4, 5, 6] rfl rfl ?_
      refine lA rfl .no Fx.ag43 (.u rfl) (fun _ => RdN.own .here) (fun _ => (by first | rfl | exact Ent.len _)) ?_
      refine mv rfl .no (.u rfl) ?_
      refine mv rfl .no (.u rfl) ?_
      refine cp rfl .no (.u rfl) (.u rfl) rfl ?_
      refine sw rfl (.u rfl) (.u rfl) rfl Fx.sz43 (.there (.there .here)) (by first | rfl | exact Ent.len _) (Ent.one _) ?_
      refine asg rfl .no (.u rfl) ?_
      refine asg rfl .no (.u rfl) ?_
      refine .nil ?_
      refine .code ?_
      refine .ret ?_
      refine We.fin0 Tryd.results77 (.cell rfl (fun w hw => run_loadVarN Fx.ag43 (RdN.own .here) (Ent.len _) hw) (.tmp rfl (.tmp rfl .nil))) ?_
      refine .inl ⟨?_, rfl, { (takeE (yb key)).1 with value := bstr ((L19.drop n17).take n19) }, key, ?_⟩
      · rw [tv_num hN15 hN17 hN19, if_pos ⟨rfl, by omega, by omega, by omega⟩, ← eky, if_neg hq]
      · rw [show ((takeE (yb key)).2 == 0) = false from beq_eq_false_iff_ne.2 hq]; rfl

theorem bTake_no (xs : List Y) (s : Sh) (b : Nat) (last : ByteArray) (G : PM) (hs : SlR G 1 encY s xs) (hl : xs.length ≤ 100000000) (hk : last.size ≤ 100000000) (hq : takeV (yb last) xs = none) : Ct Tryd.prog 77 ([.pointer (some ⟨b, 0, none⟩), .string last] : List Value).toArray G [.blk b (cl [s.val xs.length, .int .i64 0] 145)] (fun _ μ' u => ∃ (E : Ent) (key : ByteArray), μ' = [] ∧ u = .tuple #[E.val, .string key, .bool false]) :=
  (bTake_ok xs s b last G hs hl hk).mono fun G' μ' u hh => by
    rcases hh with ⟨_, h1, E, key, h2⟩ | ⟨E, key, L, s', h1, _⟩
    · exact ⟨E, key, h1, h2⟩
    · rw [hq] at h1; cases h1
theorem bTake_yes (xs : List Y) (s : Sh) (b : Nat) (last : ByteArray) (G : PM) (hs : SlR G 1 encY s xs) (hl : xs.length ≤ 100000000) (hk : last.size ≤ 100000000) {E : Ent} {K L : List Y} (hq : takeV (yb last) xs = some (E, K, L)) : Ct Tryd.prog 77 ([.pointer (some ⟨b, 0, none⟩), .string last] : List Value).toArray G [.blk b (cl [s.val xs.length, .int .i64 0] 145)] (fun G' μ' u => ∃ key s', yb key = K ∧ μ' = [.blk b (cl [Sh.val s' L.length, .int .i64 0] 145)] ∧ u = .tuple #[E.val, .string key, .bool true] ∧ SlR G' 1 encY s' L) :=
  (bTake_ok xs s b last G hs hl hk).mono fun G' μ' u hh => by
    rcases hh with ⟨h1, _⟩ | ⟨E, key, L, s', h1, h2, h3, h4⟩
    · rw [hq] at h1; cases h1
    · rw [hq] at h1; cases h1; exact ⟨key, s', rfl, h2, h3, h4⟩
theorem bRead_ok (xs : List Y) (h : Sh) (G : PM) (hs : SlR G 1 encY h xs) (hl : xs.length ≤ 1000000) : Ct Tryd.prog 63 ([h.val xs.length] : List Value).toArray G [] (fun G' μ' u => ∃ (h' : Sh) (l : List Ent) (er : Int), (l, er) = readB xs ∧ μ' = [] ∧ u = .tuple #[h'.val l.length, .int .i64 er] ∧ SlR G' 4 Ent.cells h' l) := by
  refine Ct.of Tryd.func63 rfl Tryd.ntmps63 rfl fun w0 hs0 => ?_
  refine .seq ?_
  refine Wk.rg [0, 1] rfl rfl ?_
  refine asg rfl .no (.u rfl) ?_
  refine asg rfl .no (.u rfl) ?_
  refine .nil ?_
  refine .code ?_
  refine .seq ?_
  refine Wk.rg [0, 1, 2] rfl rfl ?_
  refine mv rfl .no (.u rfl) ?_
  refine kc rfl Fx.go54 (Eva.cons (.u rfl) Eva.nil) (wcNew_ok xs h _ hs (by omega)) ?_
  rintro _ G15 μ15 hG15 ⟨b15, s15, rfl, rfl, hs15⟩
  have hs := hs.mono hG15
  refine asg rfl .no (.u rfl) ?_
  refine .nil ?_
  refine .code ?_
  refine .seq ?_
  refine Wk.rg [0, 1, 2, 3, 4, 5] rfl rfl ?_
  refine mv rfl .no (.u rfl) ?_
  refine ka rfl (.inr rfl) Fx.go57 (Eva.cons (.u rfl) Eva.nil) (mtk1 .here) (rNum_ok xs 0 s15 b15 _ hs15 (by omega)) ?_
  rintro _ G17 μ17 hG17 ⟨n17, L17, e17, s17, hN17, rfl, rfl, hs17⟩
  have lL17 := rdnum_le hN17; have nL17 := rdnum_lt hN17; simp only at lL17
  have hs := hs.mono hG17
  have hs15 := hs15.mono hG17
  refine mv rfl .no (.u rfl) ?_
  refine ka rfl (.inr rfl) Fx.go57 (Eva.cons (.u rfl) Eva.nil) (mtk1 .here) (rNum_ok L17 e17 s17 b15 _ hs17 (by omega)) ?_
  rintro _ G19 μ19 hG19 ⟨n19, L19, e19, s19, hN19, rfl, rfl, hs19⟩
  have lL19 := rdnum_le hN19; have nL19 := rdnum_lt hN19; simp only at lL19
  have hs := hs.mono hG19
  have hs15 := hs15.mono hG19
  have hs17 := hs17.mono hG19
  refine asg rfl .no (.u rfl) ?_
  refine asg rfl .no (.u rfl) ?_
  refine .nil ?_
  refine .code ?_
  refine .seq ?_
  refine .seq ?_
  refine Wk.rg [0, 1, 2, 3, 4, 5, 6] rfl rfl ?_
  refine mv rfl .no (.u rfl) ?_
  refine kp rfl .no Fx.go58 (Eva.cons (.u rfl) Eva.nil) (Gp.add .here Gp.nil) (fun _ hle hq => rFault_ok L19 e19 s19 b15 _ RdNP.add) ?_
  refine cp rfl .no (.u rfl) (.u rfl) rfl ?_
  refine mv rfl .no (.u rfl) ?_
  refine mv rfl (.f rfl rfl) (.u rfl) ?_
  refine cp rfl (.f rfl rfl) (.s rfl) (.u rfl) rfl ?_
  refine pkO rfl .no (.u rfl) (.s rfl) ?_
  refine .nil ?_
  refine .code ?_
  refine .cond rfl (fun c1 => ?_) (fun c1 => ?_)
  · have c1k := c1
    try simp only [decide_eq_true_eq, decide_eq_false_iff_not, Int.not_lt, Int.not_le, gt_iff_lt, ge_iff_le, Bool.or_eq_true, Bool.and_eq_true, Bool.or_eq_false_iff, Bool.and_eq_false_iff, Bool.not_eq_true', Bool.not_eq_false', Int.toNat_natCast, bne_iff_ne, beq_iff_eq, bne_eq_false_iff_eq, beq_eq_false_iff_ne, ne_eq] at c1
    refine .seq ?_
    refine Wk.rg [0, 1] rfl rfl ?_
    refine asg rfl .no (.u rfl) ?_
    refine asg rfl .no (.u rfl) ?_
    refine .nil ?_
    refine .code ?_
    refine .ret ?_
    refine We.fin0 Tryd.results63 (.tmp rfl (.tmp rfl .nil)) ?_
    exact ⟨⟨none, 0⟩, [], 100, rb_head hN17 hN19 c1, rfl, rfl, SlR.nul⟩
  · have c1k := c1
    try simp only [decide_eq_true_eq, decide_eq_false_iff_not, Int.not_lt, Int.not_le, gt_iff_lt, ge_iff_le, Bool.or_eq_true, Bool.and_eq_true, Bool.or_eq_false_iff, Bool.and_eq_false_iff, Bool.not_eq_true', Bool.not_eq_false', Int.toNat_natCast, bne_iff_ne, beq_iff_eq, bne_eq_false_iff_eq, beq_eq_false_iff_ne, ne_eq] at c1
    refine .skip ?_
    refine .code ?_
    refine .seq ?_
    refine Wk.rg [0] rfl rfl ?_
    refine asg rfl .no (.u rfl) ?_
    refine .nil ?_
    refine .code ?_
    refine .seq ?_
    refine .seq ?_
    obtain rfl : e19 = 0 := by omega
    refine wk_nilS 4 Ent.cells 43 ?_
    refine Wk.rg [0] rfl rfl ?_
    refine asg rfl .no (.u rfl) ?_
    refine .nil ?_
    refine .code ?_
    refine .block ?_
    refine Wk.lop (α := Nat × ByteArray × Value × List Ent × List Y × Sh) (fun gh => [(6, true, .int .u64 (gh.1 : Int)), (7, true, gh.2.2.1), (8, true, .string gh.2.1)]) (fun gh => [rS 4 Ent.cells gh.2.2.1 43 gh.2.2.2.1, .blk b15 (cl [Sh.val gh.2.2.2.2.2 gh.2.2.2.2.1.length, .int .i64 0] 145)])
      (fun gh Gl => (entsP n19 [] [] L19 = entsP gh.1 (yb gh.2.1) gh.2.2.2.1 gh.2.2.2.2.1) ∧ (gh.2.2.2.1.length + gh.2.2.2.2.1.length ≤ L19.length ∧ gh.2.1.size + gh.2.2.2.2.1.length ≤ L19.length) ∧ (gh.1 ≤ n19) ∧ (SlR Gl 1 encY gh.2.2.2.2.2 gh.2.2.2.2.1)) (fun gh => gh.1) (n19, ByteArray.empty, .slice none 0 0, [], L19, s19) [(0, true, _), (4, true, _), (5, true, _)] []
      (ESub.cons rfl rfl (ESub.cons rfl rfl (ESub.cons rfl rfl (ESub.cons rfl rfl (ESub.cons rfl rfl (ESub.cons rfl rfl ESub.nil))))))
      (MSub.cons .here rfl (MSub.cons .here rfl MSub.nil)) ?_ ?_
    · refine ⟨?_, ?_, ?_, ?_⟩
      · (try dsimp only) <;> (rw [yb_nil])
      · (try dsimp only) <;> (exact ⟨by simp, Nat.le_of_eq (by rw [show ByteArray.empty.size = 0 from rfl]; omega)⟩)
      · (try dsimp only) <;> (first | omega | rfl | assumption | (simp; done))
      · (try dsimp only) <;> (exact hs19)
    intro gh N0 Gl0 hN0 hGl0 hF0
    obtain ⟨m, last, v, acc, R, sR⟩ := gh; dsimp only at hF0 hN0 ⊢
    obtain ⟨hE, hlen, hm, hR⟩ := hF0
    have hs := hs.mono hGl0
    have hs15 := hs15.mono hGl0
    have hs17 := hs17.mono hGl0
    have hs19 := hs19.mono hGl0
    refine .seq ?_
    refine .seq ?_
    refine Wk.rg [0, 1] rfl rfl ?_
    refine mv rfl .no (.u rfl) ?_
    refine cp rfl .no (.u rfl) (.u rfl) rfl ?_
    refine .nil ?_
    refine .code ?_
    refine .cond rfl (fun c2 => ?_) (fun c2 => ?_)
    · have c2k := c2
      try simp only [decide_eq_true_eq, decide_eq_false_iff_not, Int.not_lt, Int.not_le, gt_iff_lt, ge_iff_le, Bool.or_eq_true, Bool.and_eq_true, Bool.or_eq_false_iff, Bool.and_eq_false_iff, Bool.not_eq_true', Bool.not_eq_false', Int.toNat_natCast, bne_iff_ne, beq_iff_eq, bne_eq_false_iff_eq, beq_eq_false_iff_ne, ne_eq] at c2
      refine .skip ?_
      refine .code ?_
      refine .seq ?_
      refine .block ?_
      refine .seq ?_
      rcases hst : takeV (yb last) R with _ | ⟨E2, K2, R2⟩
      · refine Wk.rg [0, 1, 2, 3, 4, 5, 6, 7, 8, 9, 10] rfl rfl ?_
        refine mv rfl .no (.u rfl) ?_
        refine mv rfl .no (.u rfl) ?_
        refine ka rfl (.inr rfl) Fx.go77 (Eva.cons (.u rfl) (Eva.cons (.u rfl) Eva.nil)) (mtk1 (.there .here)) (bTake_no R sR b15 last _ hR (by omega) (by omega) hst) ?_
        rintro _ G34 μ34 hG34 ⟨E34, key34, rfl, rfl⟩
        have hs := hs.mono hG34
        have hs15 := hs15.mono hG34
        have hs17 := hs17.mono hG34
        have hs19 := hs19.mono hG34
        have hR := hR.mono hG34
        refine mv rfl .no (.u rfl) ?_
        refine ex rfl .no (.u rfl) rfl ?_
        refine ex rfl .no (.u rfl) rfl ?_
        refine ex rfl .no (.u rfl) rfl ?_
        refine al rfl Fx.zq43 ?_; intro b9
        refine sw rfl (.u rfl) (.u rfl) rfl Fx.sz43 .here (by first | rfl | exact Ent.len _) (Ent.one _) ?_
        refine asg rfl .no (.u rfl) ?_
        refine asg rfl .no (.u rfl) ?_
        refine .nil ?_
        refine .code ?_
        refine .seq ?_
        refine .seq ?_
        refine Wk.rg [0, 1] rfl rfl ?_
        refine mv rfl .no (.u rfl) ?_
        refine nt rfl .no (.u rfl) ?_
        refine .nil ?_
        refine .code ?_
        refine Wk.condT rfl rfl ?_
        refine .seq ?_
        refine Wk.rg [0, 1] rfl rfl ?_
        refine asg rfl .no (.u rfl) ?_
        refine asg rfl .no (.u rfl) ?_
        refine .nil ?_
        refine .code ?_
        refine .ret ?_
        refine We.fin0 Tryd.results63 (.tmp rfl (.tmp rfl .nil)) ?_
        exact ⟨⟨none, 0⟩, [], 100, rb_lost hN17 hN19 ⟨rfl, by omega⟩ (by rw [hE]; exact en_none (by omega) hst), rfl, rfl, SlR.nul⟩
      · refine Wk.rg [0, 1, 2, 3, 4, 5, 6, 7, 8, 9, 10] rfl rfl ?_
        refine mv rfl .no (.u rfl) ?_
        refine mv rfl .no (.u rfl) ?_
        refine ka rfl (.inr rfl) Fx.go77 (Eva.cons (.u rfl) (Eva.cons (.u rfl) Eva.nil)) (mtk1 (.there .here)) (bTake_yes R sR b15 last _ hR (by omega) (by omega) hst) ?_
        rintro _ G34 μ34 hG34 ⟨key34, s34, rfl, rfl, rfl, hs34⟩
        have hs := hs.mono hG34
        have hs15 := hs15.mono hG34
        have hs17 := hs17.mono hG34
        have hs19 := hs19.mono hG34
        have hR := hR.mono hG34
        refine mv rfl .no (.u rfl) ?_
        refine ex rfl .no (.u rfl) rfl ?_
        refine ex rfl .no (.u rfl) rfl ?_
        refine ex rfl .no (.u rfl) rfl ?_
        refine al rfl Fx.zq43 ?_; intro b9
        refine sw rfl (.u rfl) (.u rfl) rfl Fx.sz43 .here (by first | rfl | exact Ent.len _) (Ent.one _) ?_
        refine asg rfl .no (.u rfl) ?_
        refine asg rfl .no (.u rfl) ?_
        refine .nil ?_
        refine .code ?_
        refine .seq ?_
        refine .seq ?_
        refine Wk.rg [0, 1] rfl rfl ?_
        refine mv rfl .no (.u rfl) ?_
        refine nt rfl .no (.u rfl) ?_
        refine .nil ?_
        refine .code ?_
        refine Wk.condF rfl rfl ?_
        refine .skip ?_
        refine .code ?_
        refine Wk.rg [0, 1, 2, 3, 4, 5, 6] rfl rfl ?_
        refine mv rfl .no (.u rfl) ?_
        refine lA rfl .no Fx.ag43 (.u rfl) (fun _ => RdN.own .here) (fun _ => (by first | rfl | exact Ent.len _)) ?_
        refine Go.Tan.b1 rfl Fx.se31 Fx.zw43 (.u rfl) rfl rfl (by decide) ?_; intro b42
        refine apS (xs := acc) (E2) rfl Fx.se31 Fx.zw43 rfl (.u rfl) (.u rfl) (.there (.there (.there .here))) .here (Ent.len _) (Ent.one _) (by omega) (by unfold maxLen; omega) ?_; intro v43 ov43
        refine mv rfl .no (.u rfl) ?_
        refine asg rfl .no (.u rfl) ?_
        refine asg rfl .no (.u rfl) ?_
        refine .nil ?_
        refine .blk ?_
        refine .code ?_
        refine Wk.rg [0, 1, 2] rfl rfl ?_
        refine mv rfl .no (.u rfl) ?_
        refine ar rfl .no (.u rfl) (.u rfl) rfl (fun _ => wrap_u64 (by omega) (by omega)) ?_
        refine asg rfl .no (.u rfl) ?_
        refine .nil ?_
        refine We.lpo (m - 1, key34, v43, acc ++ [E2], R2, s34) ?_ ?_ ?_ ?_ ?_
        · exact (ESub.cons rfl (congrArg (Value.int .u64) (by dsimp only; omega)) (ESub.cons rfl rfl (ESub.cons rfl rfl (ESub.cons rfl rfl (ESub.cons rfl rfl (ESub.cons rfl rfl ESub.nil))))))
        · exact (MSub.cons .here rfl (MSub.cons (.there (.there .here)) rfl MSub.nil))
        · first | omega | (dsimp only; omega)
        · exact (hGl0).trans hG34
        · refine ⟨?_, ?_, ?_, ?_⟩
          · (try dsimp only) <;> (rw [hE]; exact en_some (by omega) hst)
          · (try dsimp only) <;> (have ht := tv_len hst; rw [yb_len, yb_len] at ht; rw [List.length_append]; simp only [List.length_cons, List.length_nil]; omega)
          · (try dsimp only) <;> (first | omega | rfl | assumption | (simp; done))
          · (try dsimp only) <;> (exact hs34)
    · have c2k := c2
      try simp only [decide_eq_true_eq, decide_eq_false_iff_not, Int.not_lt, Int.not_le, gt_iff_lt, ge_iff_le, Bool.or_eq_true, Bool.and_eq_true, Bool.or_eq_false_iff, Bool.and_eq_false_iff, Bool.not_eq_true', Bool.not_eq_false', Int.toNat_natCast, bne_iff_ne, beq_iff_eq, bne_eq_false_iff_eq, beq_eq_false_iff_ne, ne_eq] at c2
      refine .exit ?_
      refine .xcode ?_
      refine .xlp ?_
      refine .xblk ?_
      refine .code ?_
      refine .seq ?_
      refine .seq ?_
      refine wk_fs .here (fun _ _ => rfl) (by intro b hb; cases hb) ?_; intro GfRL hRL hleRL evRL hsRL; subst evRL
      have hs := hs.mono hleRL
      have hs15 := hs15.mono hleRL
      have hs17 := hs17.mono hleRL
      have hs19 := hs19.mono hleRL
      have hR := hR.mono hleRL
      refine Wk.rg [0, 1, 2, 3, 4, 5, 6, 7, 8] rfl rfl ?_
      refine mv rfl .no (.u rfl) ?_
      refine mv rfl .no (.u rfl) ?_
      refine cw rfl .no Fx.cv24_3 (.u rfl) (fun _ => wrap_i64 (by omega) (by omega)) ?_
      refine kc rfl Fx.go25 (Eva.cons (.u rfl) (Eva.cons (.u rfl) Eva.nil)) (bBuild_ok hRL acc (n17 : Int) _ hsRL (by omega)) ?_
      rintro _ G49 μ49 hG49 ⟨v49, L49, er49, hB49, rfl, rfl⟩
      have hs := hs.mono hG49
      have hs15 := hs15.mono hG49
      have hs17 := hs17.mono hG49
      have hs19 := hs19.mono hG49
      have hR := hR.mono hG49
      have hsRL := hsRL.mono hG49
      refine mv rfl .no (.u rfl) ?_
      refine ex rfl .no (.u rfl) rfl ?_
      refine ex rfl .no (.u rfl) rfl ?_
      refine asg rfl .no (.u rfl) ?_
      refine asg rfl .no (.u rfl) ?_
      refine .nil ?_
      refine .code ?_
      refine .seq ?_
      refine wk_fb .here (by first | (intro b hb; cases hb; done) | simp [keys, Res.keys]) ?_; intro GfR49 hR49 hleR49 evR49 hsR49; subst evR49
      have hs := hs.mono hleR49
      have hs15 := hs15.mono hleR49
      have hs17 := hs17.mono hleR49
      have hs19 := hs19.mono hleR49
      have hR := hR.mono hleR49
      have hsRL := hsRL.mono hleR49
      refine Wk.rg [0, 1, 2, 3, 4, 5, 6, 7] rfl rfl ?_
      refine mv rfl .no (.u rfl) ?_
      refine cp rfl .no (.u rfl) (.u rfl) rfl ?_
      refine mv rfl .no (.u rfl) ?_
      refine mv rfl (.f rfl rfl) (.u rfl) ?_
      refine mv rfl (.f rfl rfl) (.u rfl) ?_
      have l49 := bld_len hB49
      refine kv rfl (.f rfl rfl) Fx.go78 (Eva.cons (.s rfl) (Eva.cons (.s rfl) Eva.nil)) (fun hc => sEqual_ok L49 xs hR49 h _ hsR49 hs (by (try simp only [Bool.and_eq_true, decide_eq_true_eq, Bool.not_eq_true', Bool.or_eq_false_iff, decide_eq_false_iff_not] at hc); omega)) ?_
      refine nt rfl (.f rfl rfl) (.s rfl) ?_
      refine pkO rfl .no (.u rfl) (.s rfl) ?_
      refine .nil ?_
      refine .code ?_
      refine .cond rfl (fun c3 => ?_) (fun c3 => ?_)
      · have c3k := c3
        try simp only [decide_eq_true_eq, decide_eq_false_iff_not, Int.not_lt, Int.not_le, gt_iff_lt, ge_iff_le, Bool.or_eq_true, Bool.and_eq_true, Bool.or_eq_false_iff, Bool.and_eq_false_iff, Bool.not_eq_true', Bool.not_eq_false', Int.toNat_natCast, bne_iff_ne, beq_iff_eq, bne_eq_false_iff_eq, beq_eq_false_iff_ne, ne_eq] at c3
        refine .seq ?_
        refine Wk.rg [0, 1] rfl rfl ?_
        refine asg rfl .no (.u rfl) ?_
        refine asg rfl .no (.u rfl) ?_
        refine .nil ?_
        refine .code ?_
        refine .ret ?_
        refine We.fin0 Tryd.results63 (.tmp rfl (.tmp rfl .nil)) ?_
        exact ⟨⟨none, 0⟩, [], 100, rb_bad hN17 hN19 ⟨rfl, by omega⟩ (by rw [hE, show m = 0 by omega]; rfl) hB49 c3, rfl, rfl, SlR.nul⟩
      · have c3k := c3
        try simp only [decide_eq_true_eq, decide_eq_false_iff_not, Int.not_lt, Int.not_le, gt_iff_lt, ge_iff_le, Bool.or_eq_true, Bool.and_eq_true, Bool.or_eq_false_iff, Bool.and_eq_false_iff, Bool.not_eq_true', Bool.not_eq_false', Int.toNat_natCast, bne_iff_ne, beq_iff_eq, bne_eq_false_iff_eq, beq_eq_false_iff_ne, ne_eq] at c3
        refine .skip ?_
        refine .code ?_
        refine .seq ?_
        refine Wk.rg [0, 1, 2] rfl rfl ?_
        refine mv rfl .no (.u rfl) ?_
        refine asg rfl .no (.u rfl) ?_
        refine asg rfl .no (.u rfl) ?_
        refine .nil ?_
        refine .code ?_
        refine .ret ?_
        refine We.fin0 Tryd.results63 (.tmp rfl (.tmp rfl .nil)) ?_
        exact ⟨hRL, acc, 0, rb_good hN17 hN19 ⟨rfl, by omega⟩ (by rw [hE, show m = 0 by omega]; rfl) hB49 c3.1 c3.2, rfl, rfl, hsRL⟩

end Go.Proofs.YtbdnclpopappeaaDoor

namespace Go.Tan
section
variable {α : Type} {lt : α → α → Bool}
end
end Go.Tan

namespace Go.Tan
open Go.RowKit
theorem flat_tk {α : Type} {enc : α → List Value} {sz : Nat} : ∀ {xs : List α} {q : Nat}, (∀ y ∈ xs, (enc y).length = sz) → (xs.take q).flatMap enc = (xs.flatMap enc).take (q * sz)
  | [], q, _ => by simp
  | x :: xs, 0, _ => by simp
  | x :: xs, q + 1, h => by
    have hx := h x (List.mem_cons_self ..)
    rw [List.take_succ_cons, List.flatMap_cons, List.flatMap_cons, show (q + 1) * sz = (enc x).length + q * sz by rw [hx, Nat.succ_mul]; omega, List.take_length_add_append, flat_tk (fun y hy => h y (List.mem_cons_of_mem _ hy))]
section
variable {dr : Bool} {mc : Md} {P : Program} {n : Fm} {l : List Oper} {K : Env → PM → Mem → Prop} {i : Nat} {σ : List Nat} {ρ : Env} {G : PM} {μ : Mem}
variable {d t : Nat} {p : String} {af : Array Edge} {g : Option (Nat × Bool)} {c : Bool}
/-- 'a >> 1' of a natural number -/
theorem sr1 {T T' : TypeId} {x y : Operand} {k k' : IntKind} {a1 a2 : Int} (A : Nat) (ho : nth l i = some ⟨some d, .binOp .shr T x y T', t, p, af, g⟩) (hg : Gd l ρ g c) (hx : Ev ρ c x (.int k a1)) (hy : Ev ρ c y (.int k' a2)) (e1 : a1 = A) (e2 : a2 = 1) (hk : 1 ≤ k.bits)
    (h : Wo dr mc P n l K σ ((d, c, .int k ((A / 2 : Nat) : Int)) :: ρ) G μ) : Wo dr mc P n l K (i :: σ) ρ G μ := by
  subst e1; subst e2
  refine sr ho hg hx hy (fun _ => by decide) ?_
  have e : (A : Int).fdiv (2 ^ (min (1 : Int).toNat k.bits)) = ((A / 2 : Nat) : Int) := by
    have : min (1 : Int).toNat k.bits = 1 := by show min 1 k.bits = 1; omega
    rw [this, Int.pow_one, Int.fdiv_eq_ediv_of_nonneg _ (by decide)]
    rfl
  rw [e]; exact h
/-- 'xs[:hi]' of a row of one's own -/
theorem srh {T e sz by' : Nat} {x z : Operand} {b m cap : Nat} {k : IntKind} {hi : Int} (q : Nat) (ho : nth l i = some ⟨some d, .slice T x none (some z) none, t, p, af, none⟩) (hT : slE P T = some (e, sz, by')) (hx : Ev ρ true x (.slice (some ⟨b, 0, none⟩) m cap)) (hz : Ev ρ true z (.int k hi))
    (hq : hi = q) (h1 : q ≤ cap) (h : Wo dr mc P n l K σ ((d, true, .slice (some ⟨b, 0, none⟩) q cap) :: ρ) G μ) : Wo dr mc P n l K (i :: σ) ρ G μ := by
  subst hq
  exact se (s := ⟨some ⟨b, 0, none⟩, cap⟩) (m := m) ho .no hT hx hz (fun _ => by omega) (fun _ => by show (q : Int) ≤ cap; omega) (by rw [Int.toNat_natCast]; exact h)
/-- 'clear(xs[n:n+k])' behind a row of one's own -/
theorem clT {α : Type} {enc : α → List Value} {T E sz by' b cap k cp : Nat} {x : Operand} {z : Value} {xs : List α} {μ' : Mem} {dd : Option Nat} (ho : nth l i = some ⟨dd, .call { callee := .builtin .clear, args := #[x], argTypes := #[T] }, t, p, af, none⟩) (hT : slE P T = some (E, sz, by')) (hz : (P.info? E).bind (·.zero) = some z) (hzs : z.cells.size = sz) (hz1 : ∀ u ∈ z.cells, u.oneCell' = true)
    (hx : Ev ρ true x (.slice (some ⟨b, xs.length * sz, none⟩) k cp)) (hm : MTake μ (rS sz enc (.slice (some ⟨b, 0, none⟩) xs.length cap) E xs) μ') (h0 : 0 < k) (hk : xs.length + k ≤ cap) (hsz : ∀ y ∈ xs, (enc y).length = sz)
    (h : Wo dr mc P n l K σ (lay ρ dd true (.tuple #[])) G (rS sz enc (.slice (some ⟨b, 0, none⟩) xs.length cap) E xs :: μ')) : Wo dr mc P n l K (i :: σ) ρ G μ := by
  refine .act (μ₁ := [rS sz enc (.slice (some ⟨b, 0, none⟩) xs.length cap) E xs]) (μ₂ := μ') (post := fun G' μ' v' => G' = G ∧ v' = .tuple #[] ∧ μ' = [rS sz enc (.slice (some ⟨b, 0, none⟩) xs.length cap) E xs]) ho (.inl rfl) .no hm.perm (fun a w ha hs => .inl ?_) ?_
  · have hs' := hs.left
    have hrow : w.ownsRow 0 E sz (.slice (some ⟨b, 0, none⟩) xs.length cap) xs.length (xs.flatMap enc) := hs'.own _ (List.mem_singleton.2 rfl)
    have hfl := flat_len hsz
    obtain ⟨hu, inf, hi, rfl, rfl⟩ := slE_some hT
    rw [hi] at hz
    simp only [Option.bind_some] at hz
    rcases hrow.2 with ⟨e, _⟩ | ⟨g, cap', cur, e, _, hg, hnc, hcm, hcs, htake⟩
    · cases e
    · simp only [Value.slice.injEq, Option.some.injEq, Addr.mk.injEq, and_true, true_and] at e
      obtain ⟨rfl, rfl⟩ := e
      have hsat : Sat G [.blk b (.cells cur E (0, 0))] w := ⟨hs'.sub, fun r hr => by rw [List.mem_singleton.1 hr]; exact hg, fun c hc => hs'.apart c (by simpa [keys, Res.keys, Value.ownBlock] using hc), by simp [keys, Res.keys]⟩
      have hzl : (Builtin.zeroCells z.cells k).toList.length = k * inf.size := by rw [Array.length_toList, size_zeroCells, hzs]
      have hin : xs.length * inf.size + k * inf.size ≤ cap * inf.size := by rw [← Nat.add_mul]; exact Nat.mul_le_mul_right _ hk
      have hz2 : ∀ u ∈ (Builtin.zeroCells z.cells k).toList, u.oneCell' = true := by
        intro u hu
        rw [Array.mem_toList_iff] at hu
        unfold Builtin.zeroCells at hu
        obtain ⟨j, hj, rfl⟩ := Array.mem_map.1 hu
        have hjs : j % z.cells.size < z.cells.size := Nat.mod_lt _ (by
          rcases Nat.eq_zero_or_pos z.cells.size with h0' | h0'
          · rw [h0'] at hj; simp at hj
          · exact h0')
        have : z.cells[j % z.cells.size]! = z.cells[j % z.cells.size] := by simp [hjs]
        rw [this]
        exact hz1 _ (Array.getElem_mem hjs)
      have hst := run_storeCells_at P b (xs.length * inf.size) E (Builtin.zeroCells z.cells k).toList 0 cur w hg (by rw [Nat.add_zero, hzl]; omega) hz2
      simp only [Nat.add_zero] at hst
      refine ⟨.tuple #[], w.setRow b (cur.toList.take (xs.length * inf.size) ++ (Builtin.zeroCells z.cells k).toList ++ cur.toList.drop (xs.length * inf.size + (Builtin.zeroCells z.cells k).toList.length)).toArray, G, _, .inl (by
        have hk0 : k ≠ 0 := by omega
        simp [execOp, resolve, invoke, builtin, hx.eval ha rfl, Builtin.clear_, run_underlying hu, zeroValue, typeInfo, hi, hz, hst]), ?_, rfl, rfl, rfl⟩
      have hkk : keys [rS inf.size enc (.slice (some ⟨b, 0, none⟩) xs.length cap) E xs] = [b] := by simp [keys, Res.keys, Value.ownBlock]
      rw [hkk]
      have h2 := Tr.setArr (cs' := (cur.toList.take (xs.length * inf.size) ++ (Builtin.zeroCells z.cells k).toList ++ cur.toList.drop (xs.length * inf.size + (Builtin.zeroCells z.cells k).toList.length)).toArray) hsat
      have hcl : cur.toList.length = cur.size := Array.length_toList ..
      refine h2.asRow (m := xs.length) (cap := cap) (sz := inf.size) hfl (by omega) hcm ?_ ?_
      · simp only [List.size_toArray, List.length_append, List.length_take, List.length_drop, hcl, hzl]
        omega
      · rw [List.append_assoc, List.take_append_of_le_length (by rw [List.length_take, hcl]; omega), List.take_take, Nat.min_self, htake]
  · rintro v' G' μ'' _ ⟨rfl, rfl, rfl⟩
    exact h
end
theorem Ct.lendS {α : Type} {enc : α → List Value} {sz : Nat} {P : Program} {G : PM} {μ : Mem} {f : FuncId} {args : Array Value} {E : Nat} {v : Value} {xs : List α} {Q : Mem → Value → Prop} (hsz : ∀ x ∈ xs, (enc x).length = sz)
    (h : ∀ (s : Sh) (G2 : PM), PM.le G G2 → v = s.val xs.length → SlR G2 sz enc s xs → Ct P f args G2 μ (fun _ μ' u => Q μ' u)) : Ct P f args G (rS sz enc v E xs :: μ) (fun _ μ' u => ∃ ν, μ' = rS sz enc v E xs :: ν ∧ Q ν u) := by
  intro w hs
  have hrow : w.ownsRow 0 E sz v xs.length (xs.flatMap enc) := hs.own _ (List.mem_cons_self ..)
  have hnd := hs.nodup
  rcases hrow.2 with ⟨rfl, h0⟩ | ⟨g, cap, cur, rfl, _, hg, hnc, hcm, hcs, htake⟩
  · have hx : xs = [] := List.eq_nil_of_length_eq_zero h0
    subst hx
    have hk : keys (rS sz enc (.slice none 0 0) E ([] : List α) :: μ) = keys μ := by simp [keys, Res.keys, Value.ownBlock]
    have hs2 : Sat G μ w := ⟨hs.sub, fun r hr => hs.own r (List.mem_cons_of_mem _ hr), by rw [← hk]; exact hs.apart, by rw [← hk]; exact hs.nodup⟩
    refine (h ⟨none, 0⟩ G (PM.le.refl G) rfl SlR.nul w hs2).mono ?_
    rintro e w' ⟨u, G', μ', rfl, ht, hQ⟩
    refine ⟨u, G', _, rfl, ?_, μ', rfl, hQ⟩
    rw [hk]; exact ht.nilRow
  · have hk : keys (rS sz enc (.slice (some ⟨g, 0, none⟩) xs.length cap) E xs :: μ) = keys (.blk g (.cells cur E (0, 0)) :: μ) := by simp [keys, Res.keys, Value.ownBlock]
    have hs2 : Sat G (.blk g (.cells cur E (0, 0)) :: μ) w := by
      refine ⟨hs.sub, fun r hr => ?_, by rw [← hk]; exact hs.apart, by rw [← hk]; exact hs.nodup⟩
      rcases List.mem_cons.1 hr with rfl | hr
      · exact hg
      · exact hs.own r (List.mem_cons_of_mem _ hr)
    have hGg : G g = none := hs2.apart g (by simp [keys, Res.keys])
    have hsl : SlR (G.add g (.cells cur E (0, 0))) sz enc ⟨some ⟨g, 0, none⟩, cap⟩ xs := by
      refine SlR.ofRow hsz hnc (fun _ => rfl) ?_
      intro j u hj w' hs'
      show w'.cell? ⟨g, 0 + j, none⟩ = some u
      rw [Nat.zero_add, cell_of_row w' g j cur E (0, 0) (hs' g _ (PM.add_same G g _))]
      rw [← htake, List.getElem?_take] at hj
      split at hj
      · simpa using hj
      · cases hj
    refine (Ct.lend (h ⟨some ⟨g, 0, none⟩, cap⟩ _ (PM.le_add hGg) rfl hsl) w hs2).mono ?_
    rintro e w' ⟨u, G', μ', rfl, ht, ν, rfl, hQ⟩
    refine ⟨u, G', _, rfl, ?_, ν, rfl, hQ⟩
    rw [hk]
    exact ht.asRow (flat_len hsz) hnc hcm hcs htake
end Go.Tan

namespace Go.Tan
open Go.RowKit
section
variable {α : Type}
theorem gd_at {l : List α} {k : Nat} {z : α} (h : k < l.length) : l[k]? = some (l.getD k z) := by simp [h]
end
abbrev TM := Meta × Nat
def ms (T : List TM) : List Meta := T.map (·.1)
section
variable {lt : Meta → Meta → Bool}
end
end Go.Tan

namespace Go.Tan
end Go.Tan
namespace Go.Tan
section
variable {cv : Meta → Meta → Int} {P A B R : List TM}
end
end Go.Tan

namespace Go.Tan
section
variable {lt : Meta → Meta → Bool} {bs : Nat} {T O : List TM}
end
end Go.Tan

namespace Go.Tan
open Go.RowKit
end Go.Tan

namespace Go.Tan
open Go.RowKit
end Go.Tan

namespace Go.Tan
open Go.RowKit
end Go.Tan

namespace Go.Tan
open Go.RowKit
/-- where a taking of records stands: the state, the last mark, how many -/
structure Mn where
  st : State
  mark : BitVec 64
  n : Nat
section
variable {m : Mn} {p : List Y} {e : Edit} {x : State}
end
end Go.Tan

namespace Go.Tan
open Go.RowKit
end Go.Tan

namespace Go.Tan
open Go.RowKit
theorem Tr.cutRow {G0 G : PM} {K0 : List Nat} {w0 w : World} {μ : Mem} {b E sz m cap q : Nat} {xs : List Value} (h : Tr G0 K0 w0 G (.row (.slice (some ⟨b, 0, none⟩) m cap) E sz m xs :: μ) w) (hq : q ≤ m) :
    Tr G0 K0 w0 G (.row (.slice (some ⟨b, 0, none⟩) q cap) E sz q (xs.take (q * sz)) :: μ) w := by
  have hk : keys (.row (.slice (some ⟨b, 0, none⟩) q cap) E sz q (xs.take (q * sz)) :: μ) = keys (.row (.slice (some ⟨b, 0, none⟩) m cap) E sz m xs :: μ) := by simp [keys, Res.keys, Value.ownBlock]
  have hrow : w.ownsRow 0 E sz (.slice (some ⟨b, 0, none⟩) m cap) m xs := h.sat.own _ (List.mem_cons_self ..)
  refine { h with sat := ⟨h.sat.sub, fun r hr => ?_, by rw [hk]; exact h.sat.apart, by rw [hk]; exact h.sat.nodup⟩, mine := by rw [hk]; exact h.mine }
  rcases List.mem_cons.1 hr with rfl | hr
  · have hl := hrow.1
    have hqs : q * sz ≤ m * sz := Nat.mul_le_mul_right _ hq
    rcases hrow.2 with ⟨e, _⟩ | ⟨g, cap', cur, e, h0, hg, hnc, hcm, hcs, htake⟩
    · cases e
    · simp only [Value.slice.injEq, Option.some.injEq, Addr.mk.injEq, and_true, true_and] at e
      obtain ⟨rfl, rfl⟩ := e
      refine ⟨by rw [List.length_take, hl, Nat.min_eq_left hqs], .inr ⟨b, cap, cur, rfl, h0, hg, by omega, hcm, hcs, ?_⟩⟩
      rw [← htake, List.take_take, Nat.min_eq_left hqs]
  · exact h.sat.own r (List.mem_cons_of_mem _ hr)
theorem wk_popS {α : Type} {enc : α → List Value} {sz : Nat} {X : Cx} {cd : Code} {k : List KI} {ρ : Env} {G : PM} {μ μ' : Mem} {b cap E : Nat} {xs : List α} (A B : List α) (hsz : ∀ x ∈ xs, (enc x).length = sz) (hm : MTake μ (rS sz enc (.slice (some ⟨b, 0, none⟩) xs.length cap) E xs) μ') (e : xs = A ++ B)
    (h : Wk X cd k ρ G (rS sz enc (.slice (some ⟨b, 0, none⟩) A.length cap) E A :: μ')) : Wk X cd k ρ G μ :=
  ⟨fun a w ha ht => h.out a w ha (by
    subst e
    have := (ht.perm hm.perm).cutRow (q := A.length) (by rw [List.length_append]; omega)
    rw [← flat_tk hsz, List.take_left] at this
    exact this)⟩
section
variable {dr : Bool} {mc : Md} {P : Program} {n : Fm} {l : List Oper} {K : Env → PM → Mem → Prop} {i : Nat} {σ : List Nat} {ρ : Env} {G : PM} {μ : Mem}
variable {d t : Nat} {p : String} {af : Array Edge} {g : Option (Nat × Bool)} {c : Bool}
theorem and1 (A : Nat) : BitVec.ofNat 64 A &&& BitVec.ofNat 64 1 = BitVec.ofNat 64 (A % 2) := by
  apply BitVec.eq_of_toNat_eq
  rw [BitVec.toNat_and, BitVec.toNat_ofNat, BitVec.toNat_ofNat, BitVec.toNat_ofNat, show 1 % 2 ^ 64 = 1 from rfl, Nat.and_one_is_mod]
  omega
/-- 'a & 1' of a natural number -/
theorem an1 {T T' : TypeId} {x y : Operand} {a1 a2 : Int} (A : Nat) (ho : nth l i = some ⟨some d, .binOp .and T x y T', t, p, af, g⟩) (hg : Gd l ρ g c) (hx : Ev ρ c x (.int .i64 a1)) (hy : Ev ρ c y (.int .i64 a2)) (e1 : a1 = A) (e2 : a2 = 1)
    (h : Wo dr mc P n l K σ ((d, c, .int .i64 ((A % 2 : Nat) : Int)) :: ρ) G μ) : Wo dr mc P n l K (i :: σ) ρ G μ :=
  .pure ho (.inl rfl) hg (fun hc q w ha => by
    subst e1; subst e2
    have hb : (binOp .and T (.int .i64 (A : Int)) (.int .i64 1)).run P w = .ok (.int .i64 ((A % 2 : Nat) : Int)) w := by
      have e1 : BitVec.ofInt 64 (A : Int) = BitVec.ofNat 64 A := by simp
      have e2 : BitVec.ofInt 64 (1 : Int) = BitVec.ofNat 64 1 := rfl
      have h4 : IntKind.i64.wrap ((BitVec.ofNat 64 (A % 2)).toNat : Int) = ((A % 2 : Nat) : Int) := by
        rw [BitVec.toNat_ofNat, Nat.mod_eq_of_lt (by omega)]
        exact wrap_i64 (by omega) (by omega)
      have h5 : (Op.intBits .and .i64 (A : Int) 1) = pure (.int .i64 (IntKind.i64.wrap ((BitVec.ofInt 64 (A : Int) &&& BitVec.ofInt 64 (1 : Int)).toNat : Int))) := rfl
      have h6 : binOp .and T (.int .i64 (A : Int)) (.int .i64 1) = Op.intBits .and .i64 (A : Int) 1 := rfl
      rw [h6, h5, e1, e2, and1, h4]; rfl
    simp only [execOp, hx.eval ha hc, hy.eval ha hc, Sem.run_bind, eqGuard_int, Result.andThen_ok, hb]; rfl) h
end
/-! ### The stack as a row: the first part first -/
def stkL (S : List (Nat × Dg)) : List Dg := (S.map (·.2)).reverse
theorem stkL_cons (a : Nat) (r : Dg) (S : List (Nat × Dg)) : stkL ((a, r) :: S) = stkL S ++ [r] := by simp [stkL]
theorem stkL_len (S : List (Nat × Dg)) : (stkL S).length = S.length := by simp [stkL]
def zD : Dg := fun _ => 0#8
theorem stkL_last (a : Nat) (r : Dg) (S : List (Nat × Dg)) : (stkL ((a, r) :: S)).getD S.length zD = r := by
  rw [stkL_cons, List.getD_eq_getElem?_getD, List.getElem?_append_right (by rw [stkL_len]; omega), stkL_len, Nat.sub_self]; rfl
/-- joining from the last but so many down -/
def finB (d : Dg) (L : List Dg) : Nat → Dg
  | 0 => d
  | j + 1 => finB (joinD (L.getD j zD) d) L j
theorem finB_app : ∀ (j : Nat) (d x : Dg) (L : List Dg), j ≤ L.length → finB d (L ++ [x]) j = finB d L j
  | 0, _, _, _, _ => rfl
  | j + 1, d, x, L, h => by
    have e : (L ++ [x]).getD j zD = L.getD j zD := by rw [List.getD_eq_getElem?_getD, List.getElem?_append_left (by omega), ← List.getD_eq_getElem?_getD]
    simp only [finB, e]; exact finB_app j _ x L (by omega)
theorem finB_pred {j : Nat} {d : Dg} {L : List Dg} (h : 0 < j) : finB d L j = finB (joinD (L.getD (j - 1) zD) d) L (j - 1) := by
  obtain ⟨i, rfl⟩ : ∃ i, j = i + 1 := ⟨j - 1, by omega⟩
  rfl
theorem stk_top {S S3 : List (Nat × Dg)} {a : Nat} {s : Dg} (h : S = (a, s) :: S3) : (stkL S).getD ((stkL S).length - 1) zD = s := by
  subst h; rw [stkL_len]; exact stkL_last a s S3
theorem finB_eq : ∀ (S : List (Nat × Dg)) (d : Dg), finB d (stkL S) S.length = finD d S
  | [], d => rfl
  | (a, r) :: S, d => by
    simp only [List.length_cons, finB, finD, stkL_last]
    rw [stkL_cons, finB_app _ _ _ _ (by rw [stkL_len]; exact Nat.le_refl _), finB_eq S]
/-- the whole, out of the row: the last one is joined with those ahead of it -/
theorem stk_done {S : List (Nat × Dg)} {L : List Dg} (h : Stk S L) (h0 : 0 < L.length) : 0 < (stkL S).length ∧ rootD L = finB ((stkL S).getD ((stkL S).length - 1) zD) (stkL S) ((stkL S).length - 1) := by
  rw [stkL_len]
  match S, h with
  | [], h => cases h; cases h0
  | (a, r) :: S, h =>
    refine ⟨Nat.succ_pos _, ?_⟩
    rw [h.done, ← finB_eq S r]
    have e : ((a, r) :: S).length - 1 = S.length := rfl
    rw [e, stkL_last, stkL_cons, finB_app _ _ _ _ (by rw [stkL_len]; exact Nat.le_refl _)]
/-- the loop over one item -/
theorem pend_even {S : List (Nat × Dg)} {d : Dg} {a q : Nat} {l : List Dg} (h : Pend S d a l) (eq : q = l.length / 2 ^ a) (he : q % 2 = 0) : ∃ s S', S = (a, s) :: S' ∧ Pend S' (joinD s d) (a + 1) l ∧ q / 2 = l.length / 2 ^ (a + 1) := by
  subst eq; exact h.even he
theorem pend_odd {S : List (Nat × Dg)} {d : Dg} {a q : Nat} {l : List Dg} (h : Pend S d a l) (eq : q = l.length / 2 ^ a) (he : ¬ q % 2 = 0) : Stk ((a, d) :: S) l := by
  subst eq; exact h.odd (by omega)
theorem pend_pos {S : List (Nat × Dg)} {d : Dg} {a q : Nat} {l : List Dg} (h : Pend S d a l) (eq : q = l.length / 2 ^ a) : 0 < q := by
  obtain ⟨L, seg, hS, hl, hr, he', hb⟩ := h.out
  subst eq
  exact Nat.div_pos (by rw [← he', List.length_append, hl]; omega) (Nat.pow_pos (by decide))
theorem pend_len {S : List (Nat × Dg)} {d : Dg} {a : Nat} {l : List Dg} (h : Pend S d a l) : S.length ≤ l.length := by
  obtain ⟨L, seg, hS, hl, hr, he', hb⟩ := h.out
  have := hS.short
  rw [← he', List.length_append]; omega
end Go.Tan

namespace Go.Proofs.YtbdnclpopappeaaDoor
set_option linter.unusedSimpArgs false
set_option linter.unusedVariables false
open Go.Tan Go.RowKit

theorem leafS_ok {G : PM} {b7 b9 T7 T9 : Nat} {kind : Y} {h : Sh} {p : List Y} (hle : PM.le G ((G.add b7 (cl [V kind] T7)).add b9 (cl [.slice (some ⟨b7, 0, none⟩) 1 1, h.val p.length] T9))) (hq : PM.le (G.add b7 (cl [V kind] T7)) ((G.add b7 (cl [V kind] T7)).add b9 (cl [.slice (some ⟨b7, 0, none⟩) 1 1, h.val p.length] T9))) (hs : SlR G 1 encY h p) (hK : RdNP G 0 0 (wa 64 kW)) (hl : p.length ≤ 100000000000000) :
    Ct Tryd.prog 45 ([.slice (some ⟨b9, 0, none⟩) 2 2] : List Value).toArray ((G.add b7 (cl [V kind] T7)).add b9 (cl [.slice (some ⟨b7, 0, none⟩) 1 1, h.val p.length] T9)) [] (fun _ μ' u => μ' = [] ∧ u = .agg (ba 32 (shaD (kind :: p))).toArray) := by
  have h1 : SlR (G.add b7 (cl [V kind] T7)) 1 encY ⟨some ⟨b7, 0, none⟩, 1⟩ [kind] := SlR.ofBlk (T := T7) (PM.add_same _ _ _) (fun _ _ => rfl) (by simp)
  have hP : SlP ((G.add b7 (cl [V kind] T7)).add b9 (cl [.slice (some ⟨b7, 0, none⟩) 1 1, h.val p.length] T9)) ⟨some ⟨b9, 0, none⟩, 2⟩ [(⟨some ⟨b7, 0, none⟩, 1⟩, [kind]), (h, p)] :=
    ⟨SlR.ofBlk (T := T9) (PM.add_same _ _ _) (fun _ _ => rfl) (by simp), fun q hq' => by
      rcases List.mem_cons.1 hq' with rfl | hq'
      · exact h1.mono hq
      · rw [List.mem_singleton.1 hq']; exact hs.mono hle⟩
  have hh := shaSum_ok _ ⟨some ⟨b9, 0, none⟩, 2⟩ _ hP (hK.mono hle) (by simp [catL]; omega) (by simp)
  rw [show catL [((⟨some ⟨b7, 0, none⟩, 1⟩ : Sh), [kind]), (h, p)] = kind :: p by simp [catL]] at hh
  exact hh
theorem emptyS_ok {G : PM} {b7 b9 T7 T9 : Nat} {kind : Y} (hle : PM.le G ((G.add b7 (cl [V kind] T7)).add b9 (cl [.slice (some ⟨b7, 0, none⟩) 1 1] T9))) (hq : PM.le (G.add b7 (cl [V kind] T7)) ((G.add b7 (cl [V kind] T7)).add b9 (cl [.slice (some ⟨b7, 0, none⟩) 1 1] T9))) (hK : RdNP G 0 0 (wa 64 kW)) :
    Ct Tryd.prog 45 ([.slice (some ⟨b9, 0, none⟩) 1 1] : List Value).toArray ((G.add b7 (cl [V kind] T7)).add b9 (cl [.slice (some ⟨b7, 0, none⟩) 1 1] T9)) [] (fun _ μ' u => μ' = [] ∧ u = .agg (ba 32 (shaD [kind])).toArray) := by
  have h1 : SlR (G.add b7 (cl [V kind] T7)) 1 encY ⟨some ⟨b7, 0, none⟩, 1⟩ [kind] := SlR.ofBlk (T := T7) (PM.add_same _ _ _) (fun _ _ => rfl) (by simp)
  have hP : SlP ((G.add b7 (cl [V kind] T7)).add b9 (cl [.slice (some ⟨b7, 0, none⟩) 1 1] T9)) ⟨some ⟨b9, 0, none⟩, 1⟩ [(⟨some ⟨b7, 0, none⟩, 1⟩, [kind])] :=
    ⟨SlR.ofBlk (T := T9) (PM.add_same _ _ _) (fun _ _ => rfl) (by simp), fun q hq' => by rw [List.mem_singleton.1 hq']; exact h1.mono hq⟩
  have hh := shaSum_ok _ ⟨some ⟨b9, 0, none⟩, 1⟩ _ hP (hK.mono hle) (by simp [catL]) (by simp)
  rw [show catL [((⟨some ⟨b7, 0, none⟩, 1⟩ : Sh), [kind])] = [kind] by simp [catL]] at hh
  exact hh
theorem joinS_ok {G G2 G3 G5 : PM} {b2 b3 b5 b8 T2 T3 T5 T8 : Nat} {a b : Nat → Y} (e2 : G2 = G.add b2 (cl (ba 32 a) T2)) (e3 : G3 = G2.add b3 (cl (ba 32 b) T3)) (e5 : G5 = G3.add b5 (cl [V 1#8] T5))
    (hle : PM.le G (G5.add b8 (cl [.slice (some ⟨b5, 0, none⟩) 1 1, .slice (some ⟨b2, 0, none⟩) 32 32, .slice (some ⟨b3, 0, none⟩) 32 32] T8))) (hq : PM.le G5 (G5.add b8 (cl [.slice (some ⟨b5, 0, none⟩) 1 1, .slice (some ⟨b2, 0, none⟩) 32 32, .slice (some ⟨b3, 0, none⟩) 32 32] T8)) ∧ PM.le G3 G5 ∧ PM.le G2 G3 ∧ PM.le G G2 ∧ True) (hK : RdNP G 0 0 (wa 64 kW)) :
    Ct Tryd.prog 45 ([.slice (some ⟨b8, 0, none⟩) 3 3] : List Value).toArray (G5.add b8 (cl [.slice (some ⟨b5, 0, none⟩) 1 1, .slice (some ⟨b2, 0, none⟩) 32 32, .slice (some ⟨b3, 0, none⟩) 32 32] T8)) [] (fun _ μ' u => μ' = [] ∧ u = .agg (ba 32 (joinD a b)).toArray) := by
  have h1 : SlR G5 1 encY ⟨some ⟨b5, 0, none⟩, 1⟩ [1#8] := by rw [e5]; exact SlR.ofBlk (T := T5) (PM.add_same _ _ _) (fun _ _ => rfl) (by simp)
  have h2 : SlR G2 1 encY ⟨some ⟨b2, 0, none⟩, 32⟩ (yl 32 a) := by rw [e2]; exact ba_sl
  have h3 : SlR G3 1 encY ⟨some ⟨b3, 0, none⟩, 32⟩ (yl 32 b) := by rw [e3]; exact ba_sl
  have l1 := yl_len 32 a
  have l2 := yl_len 32 b
  have hP : SlP (G5.add b8 (cl [.slice (some ⟨b5, 0, none⟩) 1 1, .slice (some ⟨b2, 0, none⟩) 32 32, .slice (some ⟨b3, 0, none⟩) 32 32] T8)) ⟨some ⟨b8, 0, none⟩, 3⟩ [(⟨some ⟨b5, 0, none⟩, 1⟩, [1#8]), (⟨some ⟨b2, 0, none⟩, 32⟩, yl 32 a), (⟨some ⟨b3, 0, none⟩, 32⟩, yl 32 b)] :=
    ⟨SlR.ofBlk (T := T8) (by simp [encP, l1, l2, Sh.val]; exact PM.add_same _ _ _) (fun _ _ => rfl) (by simp), fun q hq' => by
      simp only [List.mem_cons, List.not_mem_nil, or_false] at hq'
      rcases hq' with rfl | rfl | rfl
      · exact h1.mono hq.1
      · exact h2.mono (hq.2.2.1.trans (hq.2.1.trans hq.1))
      · exact h3.mono (hq.2.1.trans hq.1)⟩
  have hh := shaSum_ok _ ⟨some ⟨b8, 0, none⟩, 3⟩ _ hP (hK.mono hle) (by simp [catL, l1, l2]) (by simp)
  rw [show catL [((⟨some ⟨b5, 0, none⟩, 1⟩ : Sh), [1#8]), (⟨some ⟨b2, 0, none⟩, 32⟩, yl 32 a), (⟨some ⟨b3, 0, none⟩, 32⟩, yl 32 b)] = 1#8 :: (yl 32 a ++ yl 32 b) by simp [catL]] at hh
  exact hh
theorem leaf_ok (p : List Y) (h : Sh) (G : PM) (hs : SlR G 1 encY h p) (hK : RdNP G 0 0 (wa 64 kW)) (hl : p.length ≤ 100000000000000) : Ct Tryd.prog 17 ([h.val p.length] : List Value).toArray G [] (fun _ μ' u => μ' = [] ∧ u = .agg (ba 32 (leafD p)).toArray) := by
  refine Ct.of Tryd.func17 rfl Tryd.ntmps17 rfl fun w0 hs0 => ?_
  refine .seq ?_
  refine Wk.rg [0] rfl rfl ?_
  refine al rfl Fx.zq23 ?_; intro b2
  refine .nil ?_
  refine .code ?_
  refine .seq ?_
  refine Wk.rg [0, 1, 2, 3, 4] rfl rfl ?_
  refine Go.Tan.b1 rfl Fx.se36 Fx.zv5 (.u rfl) rfl rfl (by decide) ?_; intro b3
  refine mv rfl .no (.u rfl) ?_
  refine Go.Tan.bN rfl Fx.se56 Fx.zv36 (Evp.cons (.u rfl) (Evp.cons (.u rfl) Evp.nil)) rfl (by decide) (by simp [Value.oneCell', Sh.val]) ?_; intro b5
  refine kp rfl .no Fx.go45 (Eva.cons (.u rfl) Eva.nil) (Gp.add .here (Gp.add .here Gp.nil)) (fun _ hle hq => leafS_ok (kind := 0#8) hle hq.1 hs hK hl) ?_
  refine sw rfl (.u rfl) (.u rfl) rfl Fx.sz23 (.there (.there .here)) (by first | exact (ba_len _ _).trans (ba_len _ _).symm | exact (wa_len _ _).trans (wa_len _ _).symm | exact ba_len _ _ | exact wa_len _ _ | rfl | (simp only [wa_len, ba_len, List.length_append, List.length_cons, List.length_nil])) (by first | exact ba_one _ _ | exact wa_one _ _ | exact one_V _ | decide | exact one_app (wa_one _ _) (by simp [Value.oneCell'])) ?_
  refine .nil ?_
  refine .code ?_
  refine .ret ?_
  refine We.fin0 Tryd.results17 (.cell rfl (fun w hw => run_loadVarN Fx.ag23 (RdN.own .here) ((by first | exact (ba_len _ _).trans (ba_len _ _).symm | exact (wa_len _ _).trans (wa_len _ _).symm | exact ba_len _ _ | exact wa_len _ _ | rfl | (simp only [wa_len, ba_len, List.length_append, List.length_cons, List.length_nil]))) hw) .nil) ?_
  exact ⟨rfl, rfl⟩

theorem join_ok (a b : Dg) (G : PM) (hK : RdNP G 0 0 (wa 64 kW)) : Ct Tryd.prog 46 ([.agg (ba 32 a).toArray, .agg (ba 32 b).toArray] : List Value).toArray G [] (fun _ μ' u => μ' = [] ∧ u = .agg (ba 32 (joinD a b)).toArray) := by
  refine Ct.of Tryd.func46 rfl Tryd.ntmps46 rfl fun w0 hs0 => ?_
  refine .seq ?_
  refine Wk.rg [0, 1, 2] rfl rfl ?_
  refine bx rfl (.u rfl) rfl ?_; intro b2
  refine bx rfl (.u rfl) rfl ?_; intro b3
  refine al rfl Fx.zq23 ?_; intro b4
  refine .nil ?_
  refine .code ?_
  refine .seq ?_
  refine Wk.draw (mc := ⟨false, false⟩) [1, 2, 0, 3, 4, 5] Fx.mix (by kernel_rfl) ?_
  refine sa0 rfl .no Fx.ar23 (.u rfl) ?_
  refine sa0 rfl .no Fx.ar23 (.u rfl) ?_
  refine Go.Tan.b1 rfl Fx.se36 Fx.zv5 (.u rfl) rfl rfl (by decide) ?_; intro b5
  refine Go.Tan.bN rfl Fx.se56 Fx.zv36 (Evp.cons (.u rfl) (Evp.cons (.u rfl) (Evp.cons (.u rfl) Evp.nil))) rfl (by decide) (by simp [Value.oneCell', Sh.val]) ?_; intro b8
  refine kp rfl .no Fx.go45 (Eva.cons (.u rfl) Eva.nil) (Gp.add .here (Gp.add .here (Gp.add (.there .here) (Gp.add (.there .here) Gp.nil)))) (fun _ hle hq => joinS_ok rfl rfl rfl hle hq hK) ?_
  refine sw rfl (.u rfl) (.u rfl) rfl Fx.sz23 (.there (.there .here)) (by first | exact (ba_len _ _).trans (ba_len _ _).symm | exact (wa_len _ _).trans (wa_len _ _).symm | exact ba_len _ _ | exact wa_len _ _ | rfl | (simp only [wa_len, ba_len, List.length_append, List.length_cons, List.length_nil])) (by first | exact ba_one _ _ | exact wa_one _ _ | exact one_V _ | decide | exact one_app (wa_one _ _) (by simp [Value.oneCell'])) ?_
  refine .nil ?_
  refine .code ?_
  refine .ret ?_
  refine We.fin0 Tryd.results46 (.cell rfl (fun w hw => run_loadVarN Fx.ag23 (RdN.own .here) ((by first | exact (ba_len _ _).trans (ba_len _ _).symm | exact (wa_len _ _).trans (wa_len _ _).symm | exact ba_len _ _ | exact wa_len _ _ | rfl | (simp only [wa_len, ba_len, List.length_append, List.length_cons, List.length_nil]))) hw) .nil) ?_
  exact ⟨rfl, rfl⟩

end Go.Proofs.YtbdnclpopappeaaDoor

namespace Go.Proofs.YtbdnclpopappeaaDoor
set_option linter.unusedSimpArgs false
set_option linter.unusedVariables false
open Go.Tan Go.RowKit

namespace FxTbF
theorem se61 : slE Tryd.prog 61 = some (23, 32, 32) := by kernel_rfl
theorem zw23 : (Tryd.prog.info? 23).bind (·.zero) = some (.agg (ba 32 (fun _ => 0#8)).toArray) := by kernel_rfl
end FxTbF
namespace Fx
theorem zv9 : (Tryd.prog.info? 9).bind (·.zero) = some (.string ByteArray.empty) := by kernel_rfl
theorem fo73_0 : fOff Tryd.prog 73 0 = some 0 := by kernel_rfl
theorem fo73_1 : fOff Tryd.prog 73 1 = some 64 := by kernel_rfl
theorem go51 : goFn Tryd.prog 51 = true := by kernel_rfl
theorem go50 : goFn Tryd.prog 50 = true := by kernel_rfl
theorem go17 : goFn Tryd.prog 17 = true := by kernel_rfl
theorem fo73_2 : fOff Tryd.prog 73 2 = some 65 := by kernel_rfl
theorem fo73_3 : fOff Tryd.prog 73 3 = some 66 := by kernel_rfl
theorem ag61 : aggN Tryd.prog 61 = some none := by kernel_rfl
theorem sz61 : szT Tryd.prog 61 = some 1 := by kernel_rfl
end Fx
theorem compact_ok (L : List ByteArray) (v : Value) (G : PM) (hl : L.length ≤ 1000000) : Ct Tryd.prog 30 ([v] : List Value).toArray G [rS 1 encT v 9 L] (fun _ μ' u => ∃ v', μ' = [rS 1 encT v' 9 (cmpU L)] ∧ u = v') := by
  refine Ct.of Tryd.func30 rfl Tryd.ntmps30 rfl fun w0 hs0 => ?_
  refine .seq ?_
  refine Wk.rg [0] rfl rfl ?_
  refine asg rfl .no (.u rfl) ?_
  refine .nil ?_
  refine .code ?_
  refine .seq ?_
  refine .seq ?_
  refine Wk.rg [0, 1, 2] rfl rfl ?_
  refine mv rfl .no (.u rfl) ?_
  refine lr rfl .no Fx.sn74 (.u rfl) .here ?_
  refine cp rfl .no (.u rfl) (.u rfl) rfl ?_
  refine .nil ?_
  refine .code ?_
  refine .cond rfl (fun c1 => ?_) (fun c1 => ?_)
  · have c1k := c1
    try simp only [decide_eq_true_eq, decide_eq_false_iff_not, Int.not_lt, Int.not_le, gt_iff_lt, ge_iff_le, Bool.or_eq_true, Bool.and_eq_true, Bool.or_eq_false_iff, Bool.not_eq_true', Bool.not_eq_false', Int.toNat_natCast, bne_iff_ne, beq_iff_eq, bne_eq_false_iff_eq, beq_eq_false_iff_ne, ne_eq] at c1
    refine .seq ?_
    refine Wk.rg [0, 1] rfl rfl ?_
    refine mv rfl .no (.u rfl) ?_
    refine asg rfl .no (.u rfl) ?_
    refine .nil ?_
    refine .code ?_
    refine .ret ?_
    refine We.fin Tryd.results30 (.tmp rfl .nil) (MSub.cons .here rfl MSub.nil) ?_
    exact ⟨_, by rw [cmp_short (by omega)]; rfl, rfl⟩
  · have c1k := c1
    try simp only [decide_eq_true_eq, decide_eq_false_iff_not, Int.not_lt, Int.not_le, gt_iff_lt, ge_iff_le, Bool.or_eq_true, Bool.and_eq_true, Bool.or_eq_false_iff, Bool.not_eq_true', Bool.not_eq_false', Int.toNat_natCast, bne_iff_ne, beq_iff_eq, bne_eq_false_iff_eq, beq_eq_false_iff_ne, ne_eq] at c1
    refine .skip ?_
    refine .code ?_
    refine .seq ?_
    refine .seq ?_
    refine wk_rv .here (by omega) ?_; intro bbR capR evR lcR; subst evR
    refine Wk.rg [0] rfl rfl ?_
    refine asg rfl .no (.u rfl) ?_
    refine .nil ?_
    refine .code ?_
    refine .block ?_
    refine Wk.lop (α := Nat) (fun k => [(3, true, .int .i64 (k : Int))]) (fun _ => [])
      (fun k Gl => (1 ≤ k ∧ k ≤ L.length) ∧ (∀ j, 1 ≤ j → j < k → ¬ L.getD j emT = L.getD (j - 1) emT)) (fun k => L.length - k) 1 [(0, true, _)] [_]
      (ESub.cons rfl (by first | rfl | exact evi (by omega)) (ESub.cons rfl rfl ESub.nil))
      (MSub.cons .here rfl MSub.nil) ?_ ?_
    · refine ⟨?_, ?_⟩
      · (try dsimp only) <;> (first | omega | rfl | assumption | (simp; done))
      · (try dsimp only) <;> (exact fun j h1 h2 => absurd h1 (by omega))
    intro k N0 Gl0 hN0 hGl0 hF0
    try dsimp only at hF0 hN0 ⊢
    obtain ⟨hk, hj⟩ := hF0
    refine .seq ?_
    refine .seq ?_
    refine Wk.rg [0, 1, 2, 3] rfl rfl ?_
    refine mv rfl .no (.u rfl) ?_
    refine mv rfl .no (.u rfl) ?_
    refine lr rfl .no Fx.sn74 (.u rfl) .here ?_
    refine cp rfl .no (.u rfl) (.u rfl) rfl ?_
    refine .nil ?_
    refine .code ?_
    refine .cond rfl (fun c2 => ?_) (fun c2 => ?_)
    · have c2k := c2
      try simp only [decide_eq_true_eq, decide_eq_false_iff_not, Int.not_lt, Int.not_le, gt_iff_lt, ge_iff_le, Bool.or_eq_true, Bool.and_eq_true, Bool.or_eq_false_iff, Bool.not_eq_true', Bool.not_eq_false', Int.toNat_natCast, bne_iff_ne, beq_iff_eq, bne_eq_false_iff_eq, beq_eq_false_iff_ne, ne_eq] at c2
      refine .skip ?_
      refine .code ?_
      refine .seq ?_
      refine .block ?_
      refine .seq ?_
      refine Wk.mixp ⟨false, false⟩ Fx.mix (by kernel_rfl) ?_
      refine Wp.one 0 (by kernel_rfl) ?_
      refine mv rfl .no (.u rfl) ?_
      refine .nil ?_
      refine Wp.one 1 (by kernel_rfl) ?_
      refine mv rfl .no (.u rfl) ?_
      refine .nil ?_
      refine Wp.one 2 (by kernel_rfl) ?_
      refine ia rfl .no Fx.se74 (.u rfl) (.u rfl) (fun _ => by omega) (fun _ => by omega) ?_
      refine .nil ?_
      refine Wp.one 3 (by kernel_rfl) ?_
      refine ld rfl .no Fx.ag9 (.u rfl) (fun _ => Rd.row .here (encT_ix (k) (by omega) (by omega))) ?_
      refine .nil ?_
      refine Wp.one 4 (by kernel_rfl) ?_
      refine mv rfl .no (.u rfl) ?_
      refine .nil ?_
      refine Wp.one 5 (by kernel_rfl) ?_
      refine mv rfl .no (.u rfl) ?_
      refine .nil ?_
      refine Wp.one 6 (by kernel_rfl) ?_
      refine ar rfl .no (.u rfl) (.u rfl) rfl (fun _ => wrap_i64 (by omega) (by omega)) ?_
      refine .nil ?_
      refine Wp.one 7 (by kernel_rfl) ?_
      refine ia rfl .no Fx.se74 (.u rfl) (.u rfl) (fun _ => by omega) (fun _ => by omega) ?_
      refine .nil ?_
      refine Wp.one 8 (by kernel_rfl) ?_
      refine ld rfl .no Fx.ag9 (.u rfl) (fun _ => Rd.row .here (encT_ix (k - 1) (by omega) (by omega))) ?_
      refine .nil ?_
      refine Wp.one 9 (by kernel_rfl) ?_
      refine cs rfl .no (.u rfl) (.u rfl) rfl ?_
      refine .nil ?_
      refine Wp.last (by kernel_rfl) ?_
      refine .code ?_
      refine .cond rfl (fun c3 => ?_) (fun c3 => ?_)
      · have c3k := c3
        try simp only [decide_eq_true_eq, decide_eq_false_iff_not, Int.not_lt, Int.not_le, gt_iff_lt, ge_iff_le, Bool.or_eq_true, Bool.and_eq_true, Bool.or_eq_false_iff, Bool.not_eq_true', Bool.not_eq_false', Int.toNat_natCast, bne_iff_ne, beq_iff_eq, bne_eq_false_iff_eq, beq_eq_false_iff_ne, ne_eq] at c3
        refine .seq ?_
        refine Wk.rg [0, 1, 2, 3] rfl rfl ?_
        refine mv rfl .no (.u rfl) ?_
        refine mv rfl .no (.u rfl) ?_
        refine slr k rfl Fx.se74 (.u rfl) (.u rfl) (by omega) (by omega) (by omega) (by omega) ?_
        refine asg rfl .no (.u rfl) ?_
        refine .nil ?_
        refine .code ?_
        refine .seq ?_
        refine .seq ?_
        refine Wk.rg [0] rfl rfl ?_
        refine asg rfl .no (.u rfl) ?_
        refine .nil ?_
        refine .code ?_
        refine .block ?_
        refine Wk.lop (α := Nat × Nat × List ByteArray) (fun gh => [(3, true, .int .i64 (gh.2.1 : Int)), (5, true, .int .i64 (gh.1 : Int))]) (fun gh => [rS 1 encT (.slice (some ⟨bbR, 0, none⟩) gh.2.2.length capR) 9 gh.2.2])
          (fun gh Gl => (CmR L gh.2.2 gh.2.1 (k + gh.1)) ∧ (1 ≤ gh.1)) (fun gh => L.length - (k + gh.1)) (1, k, L) [(0, true, _), (4, true, _)] []
          (ESub.cons rfl (by first | rfl | exact evi (by omega)) (ESub.cons rfl (by first | rfl | exact evi (by omega)) (ESub.cons rfl rfl (ESub.cons rfl rfl ESub.nil))))
          (MSub.cons .here rfl MSub.nil) ?_ ?_
        · refine ⟨?_, ?_⟩
          · (try dsimp only) <;> (exact CmR.start hk.1 (by omega) hj (toList_inj c3k))
          · (try dsimp only) <;> (first | omega | rfl | assumption | (simp; done))
        intro gh N1 Gl1 hN1 hGl1 hF1
        obtain ⟨q, c, M⟩ := gh; dsimp only at hF1 hN1 ⊢
        obtain ⟨hC, hq⟩ := hF1
        have hcj := hC.cj; have hjl := hC.jl; have hlen := hC.len; have hc1 := hC.c1
        refine .seq ?_
        refine .seq ?_
        refine Wk.rg [0, 1, 2, 3] rfl rfl ?_
        refine mv rfl .no (.u rfl) ?_
        refine mv rfl .no (.u rfl) ?_
        refine ln rfl .no Fx.sn74 (.u rfl) ?_
        refine cp rfl .no (.u rfl) (.u rfl) rfl ?_
        refine .nil ?_
        refine .code ?_
        refine .cond rfl (fun c4 => ?_) (fun c4 => ?_)
        · have c4k := c4
          try simp only [decide_eq_true_eq, decide_eq_false_iff_not, Int.not_lt, Int.not_le, gt_iff_lt, ge_iff_le, Bool.or_eq_true, Bool.and_eq_true, Bool.or_eq_false_iff, Bool.not_eq_true', Bool.not_eq_false', Int.toNat_natCast, bne_iff_ne, beq_iff_eq, bne_eq_false_iff_eq, beq_eq_false_iff_ne, ne_eq] at c4
          refine .skip ?_
          refine .code ?_
          refine .seq ?_
          refine .block ?_
          refine .seq ?_
          refine Wk.mixp ⟨false, false⟩ Fx.mix (by kernel_rfl) ?_
          refine Wp.one 0 (by kernel_rfl) ?_
          refine mv rfl .no (.u rfl) ?_
          refine .nil ?_
          refine Wp.one 1 (by kernel_rfl) ?_
          refine mv rfl .no (.u rfl) ?_
          refine .nil ?_
          refine Wp.one 2 (by kernel_rfl) ?_
          refine ia rfl .no Fx.se74 (.u rfl) (.u rfl) (fun _ => by omega) (fun _ => by omega) ?_
          refine .nil ?_
          refine Wp.one 3 (by kernel_rfl) ?_
          refine ld rfl .no Fx.ag9 (.u rfl) (fun _ => Rd.row .here (encT_ix (k + q) (by omega) (by omega))) ?_
          refine .nil ?_
          refine Wp.one 4 (by kernel_rfl) ?_
          refine mv rfl .no (.u rfl) ?_
          refine .nil ?_
          refine Wp.one 5 (by kernel_rfl) ?_
          refine mv rfl .no (.u rfl) ?_
          refine .nil ?_
          refine Wp.one 6 (by kernel_rfl) ?_
          refine ar rfl .no (.u rfl) (.u rfl) rfl (fun _ => wrap_i64 (by omega) (by omega)) ?_
          refine .nil ?_
          refine Wp.one 7 (by kernel_rfl) ?_
          refine ia rfl .no Fx.se74 (.u rfl) (.u rfl) (fun _ => by omega) (fun _ => by omega) ?_
          refine .nil ?_
          refine Wp.one 8 (by kernel_rfl) ?_
          refine ld rfl .no Fx.ag9 (.u rfl) (fun _ => Rd.row .here (encT_ix (k + q - 1) (by omega) (by omega))) ?_
          refine .nil ?_
          refine Wp.one 9 (by kernel_rfl) ?_
          refine cs rfl .no (.u rfl) (.u rfl) rfl ?_
          refine .nil ?_
          refine Wp.last (by kernel_rfl) ?_
          refine .code ?_
          refine .cond rfl (fun c5 => ?_) (fun c5 => ?_)
          · have c5k := c5
            try simp only [decide_eq_true_eq, decide_eq_false_iff_not, Int.not_lt, Int.not_le, gt_iff_lt, ge_iff_le, Bool.or_eq_true, Bool.and_eq_true, Bool.or_eq_false_iff, Bool.not_eq_true', Bool.not_eq_false', Int.toNat_natCast, bne_iff_ne, beq_iff_eq, bne_eq_false_iff_eq, beq_eq_false_iff_ne, ne_eq] at c5
            refine .seq ?_
            refine Wk.rg [0, 1, 2, 3, 4, 5, 6, 7] rfl rfl ?_
            refine mv rfl .no (.u rfl) ?_
            refine mv rfl .no (.u rfl) ?_
            refine mv rfl .no (.u rfl) ?_
            refine mv rfl .no (.u rfl) ?_
            refine ia rfl .no Fx.se74 (.u rfl) (.u rfl) (fun _ => by omega) (fun _ => by omega) ?_
            refine ld rfl .no Fx.ag9 (.u rfl) (fun _ => Rd.row .here (encT_ix (k + q) (by omega) (by omega))) ?_
            refine ia rfl .no Fx.se74 (.u rfl) (.u rfl) (fun _ => by omega) (fun _ => by omega) ?_
            refine stS (k := c) (u := (M.getD (k + q) emT)) rfl (.u rfl) (.u rfl) rfl Fx.sz9 .here (fun _ _ => rfl) (rfl) (one1 rfl) (by omega) (by (try simp only [List.length_set]); omega) ?_
            refine .nil ?_
            refine .code ?_
            refine Wk.rg [0, 1, 2] rfl rfl ?_
            refine mv rfl .no (.u rfl) ?_
            refine arn (((c + 1) : Nat) : Int) rfl .no (.u rfl) (.u rfl) rfl (fun _ => by omega) (fun _ => wrap_i64 (by omega) (by omega)) ?_
            refine asg rfl .no (.u rfl) ?_
            refine .nil ?_
            refine .blk ?_
            refine .code ?_
            refine Wk.rg [0, 1, 2] rfl rfl ?_
            refine mv rfl .no (.u rfl) ?_
            refine arn (((q + 1) : Nat) : Int) rfl .no (.u rfl) (.u rfl) rfl (fun _ => by omega) (fun _ => wrap_i64 (by omega) (by omega)) ?_
            refine asg rfl .no (.u rfl) ?_
            refine .nil ?_
            refine We.lpo (q + 1, c + 1, M.set c (M.getD (k + q) emT)) ?_ ?_ ?_ ?_ ?_
            · exact (ESub.cons rfl (by first | rfl | exact evi (by omega)) (ESub.cons rfl (by first | rfl | exact evi (by omega)) (ESub.cons rfl rfl (ESub.cons rfl rfl ESub.nil))))
            · exact (MSub.cons .here (by rw [List.length_set]) MSub.nil)
            · first | omega | (dsimp only; omega)
            · exact hGl1
            · refine ⟨?_, ?_⟩
              · (try dsimp only) <;> (exact hC.next (by omega) (str_f (by simpa using c5k)))
              · (try dsimp only) <;> (first | omega | rfl | assumption | (simp; done))
          · have c5k := c5
            try simp only [decide_eq_true_eq, decide_eq_false_iff_not, Int.not_lt, Int.not_le, gt_iff_lt, ge_iff_le, Bool.or_eq_true, Bool.and_eq_true, Bool.or_eq_false_iff, Bool.not_eq_true', Bool.not_eq_false', Int.toNat_natCast, bne_iff_ne, beq_iff_eq, bne_eq_false_iff_eq, beq_eq_false_iff_ne, ne_eq] at c5
            refine .skip ?_
            refine .blk ?_
            refine .code ?_
            refine Wk.rg [0, 1, 2] rfl rfl ?_
            refine mv rfl .no (.u rfl) ?_
            refine arn (((q + 1) : Nat) : Int) rfl .no (.u rfl) (.u rfl) rfl (fun _ => by omega) (fun _ => wrap_i64 (by omega) (by omega)) ?_
            refine asg rfl .no (.u rfl) ?_
            refine .nil ?_
            refine We.lpo (q + 1, c, M) ?_ ?_ ?_ ?_ ?_
            · exact (ESub.cons rfl (by first | rfl | exact evi (by omega)) (ESub.cons rfl (by first | rfl | exact evi (by omega)) (ESub.cons rfl rfl (ESub.cons rfl rfl ESub.nil))))
            · exact (MSub.cons .here rfl MSub.nil)
            · first | omega | (dsimp only; omega)
            · exact hGl1
            · refine ⟨?_, ?_⟩
              · (try dsimp only) <;> (exact hC.same (by omega) (toList_inj (by simpa using c5k)))
              · (try dsimp only) <;> (first | omega | rfl | assumption | (simp; done))
        · have c4k := c4
          try simp only [decide_eq_true_eq, decide_eq_false_iff_not, Int.not_lt, Int.not_le, gt_iff_lt, ge_iff_le, Bool.or_eq_true, Bool.and_eq_true, Bool.or_eq_false_iff, Bool.not_eq_true', Bool.not_eq_false', Int.toNat_natCast, bne_iff_ne, beq_iff_eq, bne_eq_false_iff_eq, beq_eq_false_iff_ne, ne_eq] at c4
          refine .exit ?_
          refine .xcode ?_
          refine .xlp ?_
          refine .xblk ?_
          refine .code ?_
          refine .seq ?_
          have lcc : (M.take c).length = c := by rw [List.length_take]; omega
          refine wk_popS (M.take c) (M.drop c) (encT_len _) .here (by rw [List.take_append_drop]) ?_
          refine Wk.rg [0, 1, 2, 3] rfl rfl ?_
          refine mv rfl .no (.u rfl) ?_
          refine mv rfl .no (.u rfl) ?_
          refine slr (M.take c).length rfl Fx.se74 (.u rfl) (.u rfl) (by omega) (by omega) (by omega) (by omega) ?_
          refine clT rfl Fx.se74 Fx.zv9 rfl (by decide) (.u rfl) .here (by omega) (by omega) (fun _ _ => rfl) ?_
          refine .nil ?_
          refine .code ?_
          refine .seq ?_
          refine Wk.rg [0, 1, 2, 3] rfl rfl ?_
          refine mv rfl .no (.u rfl) ?_
          refine mv rfl .no (.u rfl) ?_
          refine srh (M.take c).length rfl Fx.se74 (.u rfl) (.u rfl) (by omega) (by omega) ?_
          refine asg rfl .no (.u rfl) ?_
          refine .nil ?_
          refine .code ?_
          refine .ret ?_
          refine We.fin Tryd.results30 (.tmp rfl .nil) (MSub.cons .here rfl MSub.nil) ?_
          exact ⟨_, by rw [← hC.fin (by omega)]; rfl, rfl⟩
      · have c3k := c3
        try simp only [decide_eq_true_eq, decide_eq_false_iff_not, Int.not_lt, Int.not_le, gt_iff_lt, ge_iff_le, Bool.or_eq_true, Bool.and_eq_true, Bool.or_eq_false_iff, Bool.not_eq_true', Bool.not_eq_false', Int.toNat_natCast, bne_iff_ne, beq_iff_eq, bne_eq_false_iff_eq, beq_eq_false_iff_ne, ne_eq] at c3
        refine .skip ?_
        refine .blk ?_
        refine .code ?_
        refine Wk.rg [0, 1, 2] rfl rfl ?_
        refine mv rfl .no (.u rfl) ?_
        refine arn (((k + 1) : Nat) : Int) rfl .no (.u rfl) (.u rfl) rfl (fun _ => by omega) (fun _ => wrap_i64 (by omega) (by omega)) ?_
        refine asg rfl .no (.u rfl) ?_
        refine .nil ?_
        refine We.lpo (k + 1) ?_ ?_ ?_ ?_ ?_
        · exact (ESub.cons rfl (by first | rfl | exact evi (by omega)) (ESub.cons rfl rfl ESub.nil))
        · exact (MSub.cons .here rfl MSub.nil)
        · first | omega | (dsimp only; omega)
        · exact hGl0
        · refine ⟨?_, ?_⟩
          · (try dsimp only) <;> (first | omega | rfl | assumption | (simp; done))
          · (try dsimp only) <;> (exact cm_snoc hj c3k)
    · have c2k := c2
      try simp only [decide_eq_true_eq, decide_eq_false_iff_not, Int.not_lt, Int.not_le, gt_iff_lt, ge_iff_le, Bool.or_eq_true, Bool.and_eq_true, Bool.or_eq_false_iff, Bool.not_eq_true', Bool.not_eq_false', Int.toNat_natCast, bne_iff_ne, beq_iff_eq, bne_eq_false_iff_eq, beq_eq_false_iff_ne, ne_eq] at c2
      refine .exit ?_
      refine .xcode ?_
      refine .xlp ?_
      refine .xblk ?_
      refine .code ?_
      refine .seq ?_
      refine Wk.rg [0, 1] rfl rfl ?_
      refine mv rfl .no (.u rfl) ?_
      refine asg rfl .no (.u rfl) ?_
      refine .nil ?_
      refine .code ?_
      refine .ret ?_
      refine We.fin Tryd.results30 (.tmp rfl .nil) (MSub.cons .here rfl MSub.nil) ?_
      exact ⟨_, by rw [cmp_full (by omega) hj]; rfl, rfl⟩

theorem tPut_ok (enc mac : Nat → Y) (ad : List Y) (ha : Sh) (O : List Y) (D : List Dg) (vo vl : Value) (bw part : Nat) (xs : List Y) (hx : Sh) (G : PM) (hsa : SlR G 1 encY ha ad) (hsx : SlR G 1 encY hx xs) (hK : RdNP G 0 0 (wa 64 kW)) (hla : ad.length ≤ 1000) (hlx : xs.length ≤ 1000000) (hlO : O.length ≤ 100000000) (hlD : D.length ≤ 1000000) (hp : part ≤ 1000000000) : Ct Tryd.prog 28 ([.pointer (some ⟨bw, 0, none⟩), .int .i64 (part : Int), hx.val xs.length] : List Value).toArray G [.blk bw (cl (wrC enc mac (ha.val ad.length) vo vl) 73), rB vo 5 O, rS 32 (ba 32) vl 23 D] (fun _ μ' u => ∃ (X O' W' : List Y) (D' : List Dg) (vo' vl' : Value) (b' cap' : Nat), X = sealL enc mac (nonceF (BitVec.ofInt 64 (part : Int))) ad xs ∧ O' = O ++ X ∧ D' = D ++ [leafD X] ∧ W' = rowL X ∧ μ' = [.blk bw (cl (wrC enc mac (ha.val ad.length) vo' vl') 73), rB vo' 5 O', rS 32 (ba 32) vl' 23 D', rB (.slice (some ⟨b', 0, none⟩) W'.length cap') 5 W'] ∧ u = .slice (some ⟨b', 0, none⟩) W'.length cap') := by
  refine Ct.of Tryd.func28 rfl Tryd.ntmps28 rfl fun w0 hs0 => ?_
  refine .seq ?_
  refine Wk.rg [0] rfl rfl ?_
  refine asg rfl .no (.u rfl) ?_
  refine .nil ?_
  refine .code ?_
  refine .seq ?_
  refine Wk.draw (mc := ⟨false, false⟩) [0, 1, 2, 3, 4, 5, 7, 8, 9, 10, 11, 6, 12, 13] Fx.mix (by kernel_rfl) ?_
  refine mv rfl .no (.u rfl) ?_
  refine nc rfl .no (.u rfl) ?_
  refine fz rfl .no Fx.fo73_0 (.u rfl) ?_
  refine lA rfl .no Fx.ag70 (.u rfl) (fun _ => RdN.part (n := 64) (cs' := ba 32 enc ++ ba 32 mac) .here (wrc_key)) (fun _ => (by first | exact (key_len _ _).trans (key_len _ _).symm | exact key_len _ _ | exact ba_len _ _ | rfl)) ?_
  refine mv rfl .no (.u rfl) ?_
  refine ci rfl .no rfl Fx.cv3_24 (.u rfl) ?_
  refine mv rfl .no (.u rfl) ?_
  refine nc rfl .no (.u rfl) ?_
  refine fz rfl .no Fx.fo73_1 (.u rfl) ?_
  refine ld rfl .no Fx.ag36 (.u rfl) (fun _ => Rd.own .here wrc_ad) ?_
  refine mv rfl .no (.u rfl) ?_
  refine kv rfl .no Fx.go51 (Eva.cons (.u rfl) Eva.nil) (fun _ => Nonce_ok _ _) ?_
  refine kc rfl Fx.go50 (Eva.cons (.u rfl) (Eva.cons (.u rfl) (Eva.cons (.u rfl) (Eva.cons (.u rfl) Eva.nil)))) (Ct.rowc (Seal_ok enc mac (nonceF (BitVec.ofInt 64 (part : Int))) ad ha xs hx _ hsa hsx hK (by omega) (by omega))) ?_
  rintro v21 G21 μ21 hG21 ⟨L21, ov21, eL21, rfl⟩
  have hsa := hsa.mono hG21
  have hsx := hsx.mono hG21
  have hK := hK.mono hG21
  refine asg rfl .no (.u rfl) ?_
  refine .nil ?_
  refine .code ?_
  refine .seq ?_
  refine wk_fb .here (keys_k .here rfl (keys_k .here rfl (keys_k .here rfl (keys_0)))) ?_; intro GfR21 hR21 hleR21 evR21 hsR21; subst evR21
  have hsa := hsa.mono hleR21
  have hsx := hsx.mono hleR21
  have hK := hK.mono hleR21
  refine Wk.rg [0, 1, 2, 3] rfl rfl ?_
  refine mv rfl .no (.u rfl) ?_
  have lL21 : L21.length = xs.length + 16 := by rw [eL21, seal_len]
  refine kv rfl .no Fx.go17 (Eva.cons (.u rfl) Eva.nil) (fun _ => leaf_ok L21 hR21 _ hsR21 hK (by omega)) ?_
  refine al rfl Fx.zq23 ?_; intro b8
  refine sw rfl (.u rfl) (.u rfl) rfl Fx.sz23 .here rfl (ba_one _ _) ?_
  refine .nil ?_
  refine .code ?_
  refine .seq ?_
  refine Wk.rg [0, 1, 2, 3, 4, 5, 6, 7, 8, 9] rfl rfl ?_
  refine mv rfl .no (.u rfl) ?_
  refine mv rfl .no (.u rfl) ?_
  refine nc rfl .no (.u rfl) ?_
  refine fz rfl .no Fx.fo73_2 (.u rfl) ?_
  refine ld rfl .no Fx.ag36 (.u rfl) (fun _ => Rd.own (.there .here) wrc_out) ?_
  refine mv rfl .no (.u rfl) ?_
  refine apY rfl Fx.se36 Fx.zv5 (.u rfl) (.u rfl) (.there (.there .here)) hsR21.sc (by (try simp only [List.length_append, List.length_cons, List.length_nil, yl_len]); omega) ?_
  intro v30 L30 ov30 eL30
  have lL30 : L30.length = O.length + L21.length := by rw [eL30, List.length_append]
  refine nc rfl .no (.u rfl) ?_
  refine fz rfl .no Fx.fo73_2 (.u rfl) ?_
  refine s1v rfl (.u rfl) (.u rfl) .here Fx.sz36 (.there (.there .here)) (by rw [wrc_len]; decide) (wrs_out) ?_
  refine .nil ?_
  refine .code ?_
  refine .seq ?_
  refine Wk.mixp ⟨false, false⟩ Fx.mix (by kernel_rfl) ?_
  refine Wp.one 0 (by kernel_rfl) ?_
  refine mv rfl .no (.u rfl) ?_
  refine .nil ?_
  refine Wp.one 1 (by kernel_rfl) ?_
  refine mv rfl .no (.u rfl) ?_
  refine .nil ?_
  refine Wp.one 2 (by kernel_rfl) ?_
  refine nc rfl .no (.u rfl) ?_
  refine .nil ?_
  refine Wp.one 3 (by kernel_rfl) ?_
  refine fz rfl .no Fx.fo73_3 (.u rfl) ?_
  refine .nil ?_
  refine Wp.one 4 (by kernel_rfl) ?_
  refine ld rfl .no Fx.ag61 (.u rfl) (fun _ => Rd.own .here wrc_lvs) ?_
  refine .nil ?_
  refine Wp.one 5 (by kernel_rfl) ?_
  refine lA rfl .no Fx.ag23 (.u rfl) (fun _ => RdN.own (.there (.there .here))) (fun _ => ba_len _ _) ?_
  refine .nil ?_
  refine Wp.b1 6 (by kernel_rfl) ?_
  refine Go.Tan.b1 rfl FxTbF.se61 FxTbF.zw23 (.u rfl) rfl rfl (by decide) ?_; intro b39
  refine .nil ?_
  refine Wp.b1 7 (by kernel_rfl) ?_
  refine apS (xs := D) ((leafD L21)) rfl FxTbF.se61 FxTbF.zw23 rfl (.u rfl) (.u rfl) (.there (.there (.there (.there .here)))) .here (ba_len _ _) (ba_one _ _) (by omega) (by unfold maxLen; omega) ?_; intro v40 ov40
  refine .nil ?_
  refine Wp.one 8 (by kernel_rfl) ?_
  refine nc rfl .no (.u rfl) ?_
  refine .nil ?_
  refine Wp.one 9 (by kernel_rfl) ?_
  refine fz rfl .no Fx.fo73_3 (.u rfl) ?_
  refine .nil ?_
  refine Wp.b1 10 (by kernel_rfl) ?_
  refine s1v rfl (.u rfl) (.u rfl) .here Fx.sz61 (.there (.there .here)) (by rw [wrc_len]; decide) (wrs_lvs) ?_
  refine .nil ?_
  refine Wp.last (by kernel_rfl) ?_
  refine .code ?_
  refine .seq ?_
  refine Wk.draw (mc := ⟨false, false⟩) [0, 1, 2, 4, 3, 5, 6] Fx.mix (by kernel_rfl) ?_
  refine mv rfl .no (.u rfl) ?_
  refine ln rfl .no Fx.sn36 (.u rfl) ?_
  refine ci rfl .no rfl Fx.cv3_24 (.u rfl) ?_
  refine sa0 rfl .no Fx.ar23 (.u rfl) ?_
  refine kc rfl Fx.go31 (Eva.cons (.u rfl) (Eva.cons (.u rfl) Eva.nil)) (Ct.rowc (Num_ok [] ⟨none, 0⟩ _ SlR.nul _ (Nat.zero_le _))) ?_
  rintro v46 G46 μ46 hG46 ⟨L46, ov46, eL46, rfl⟩
  have hsa := hsa.mono hG46
  have hsx := hsx.mono hG46
  have hK := hK.mono hG46
  have hsR21 := hsR21.mono hG46
  have lL46 := nm0 eL46
  refine apY rfl Fx.se36 Fx.zv5 (.u rfl) (.u rfl) .here (Sc.arr (.there (.there (.there (.there (.there .here)))))) (by (try simp only [List.length_append, List.length_cons, List.length_nil, yl_len]); omega) ?_
  intro v48 L48 ov48 eL48
  have lL48 : L48.length = L46.length + 32 := by rw [eL48, List.length_append]; first | rfl | simp [yl_len]
  refine asg rfl .no (.u rfl) ?_
  refine .nil ?_
  refine .code ?_
  refine .ret ?_
  refine we_rv .here (by rw [eL48, List.length_append, yl_len]; omega) ?_; intro bbR46 capR46 evR46 lcR46; subst evR46
  refine We.fin Tryd.results28 (.tmp rfl .nil) (MSub.cons (.there .here) rfl (MSub.cons (.there (.there (.there .here))) rfl (MSub.cons (.there .here) rfl (MSub.cons .here rfl MSub.nil)))) ?_
  exact ⟨L21, L30, L48, _, _, _, _, _, eL21, eL30, rfl, row_put (by omega) eL46 eL48, rfl, rfl⟩

theorem tPut_row (enc mac : Nat → Y) (ad : List Y) (ha : Sh) (O : List Y) (D : List Dg) (vo vl : Value) (bw part : Nat) (xs : List Y) (v : Value) (G : PM) (hsa : SlR G 1 encY ha ad) (hK : RdNP G 0 0 (wa 64 kW)) (hla : ad.length ≤ 1000) (hlx : xs.length ≤ 1000000) (hlO : O.length ≤ 100000000) (hlD : D.length ≤ 1000000) (hp : part ≤ 1000000000) :
    Ct Tryd.prog 28 ([.pointer (some ⟨bw, 0, none⟩), .int .i64 (part : Int), v] : List Value).toArray G (rB v 5 xs :: [.blk bw (cl (wrC enc mac (ha.val ad.length) vo vl) 73), rB vo 5 O, rS 32 (ba 32) vl 23 D]) (fun _ μ' u => ∃ ν, μ' = rB v 5 xs :: ν ∧ ∃ (X O' W' : List Y) (D' : List Dg) (vo' vl' : Value) (b' cap' : Nat), X = sealL enc mac (nonceF (BitVec.ofInt 64 (part : Int))) ad xs ∧ O' = O ++ X ∧ D' = D ++ [leafD X] ∧ W' = rowL X ∧ ν = [.blk bw (cl (wrC enc mac (ha.val ad.length) vo' vl') 73), rB vo' 5 O', rS 32 (ba 32) vl' 23 D', rB (.slice (some ⟨b', 0, none⟩) W'.length cap') 5 W'] ∧ u = .slice (some ⟨b', 0, none⟩) W'.length cap') :=
  Ct.lendB (fun hx G2 hle hv hs => by subst hv; exact tPut_ok enc mac ad ha O D vo vl bw part xs hx G2 (hsa.mono hle) hs (hK.mono hle) hla hlx hlO hlD hp)
end Go.Proofs.YtbdnclpopappeaaDoor

namespace Go.Proofs.YtbdnclpopappeaaDoor
set_option linter.unusedSimpArgs false
set_option linter.unusedVariables false
open Go.Tan Go.RowKit

namespace Fx
theorem se61 : slE Tryd.prog 61 = some (23, 32, 32) := by kernel_rfl
theorem sn61 : (slE Tryd.prog 61).isSome = true := by kernel_rfl
theorem go46 : goFn Tryd.prog 46 = true := by kernel_rfl
theorem zw23 : (Tryd.prog.info? 23).bind (·.zero) = some (.agg (ba 32 (fun _ => 0#8)).toArray) := by kernel_rfl
end Fx
theorem root_ok (ds : List Dg) (h : Sh) (G : PM) (hs : SlR G 32 (ba 32) h ds) (hK : RdNP G 0 0 (wa 64 kW)) (hl : ds.length ≤ 1000000) : Ct Tryd.prog 18 ([h.val ds.length] : List Value).toArray G [] (fun _ μ' u => μ' = [] ∧ u = .agg (ba 32 (rootD ds)).toArray) := by
  refine Ct.of Tryd.func18 rfl Tryd.ntmps18 rfl fun w0 hs0 => ?_
  refine .seq ?_
  refine Wk.rg [0] rfl rfl ?_
  refine al rfl Fx.zq23 ?_; intro b2
  refine .nil ?_
  refine .code ?_
  refine .seq ?_
  refine .seq ?_
  refine Wk.rg [0, 1, 2] rfl rfl ?_
  refine mv rfl .no (.u rfl) ?_
  refine ln rfl .no Fx.sn61 (.u rfl) ?_
  refine cp rfl .no (.u rfl) (.u rfl) rfl ?_
  refine .nil ?_
  refine .code ?_
  refine .cond rfl (fun c1 => ?_) (fun c1 => ?_)
  · have c1k := c1
    try simp only [decide_eq_true_eq, decide_eq_false_iff_not, Int.not_lt, Int.not_le, gt_iff_lt, ge_iff_le, Bool.or_eq_true, Bool.and_eq_true, Bool.or_eq_false_iff, Bool.and_eq_false_iff, Bool.not_eq_true', Bool.not_eq_false', Int.toNat_natCast, bne_iff_ne, beq_iff_eq, bne_eq_false_iff_eq, beq_eq_false_iff_ne, ne_eq] at c1
    refine .seq ?_
    refine Wk.rg [0, 1, 2, 3] rfl rfl ?_
    refine Go.Tan.b1 rfl Fx.se36 Fx.zv5 (.u rfl) rfl rfl (by decide) ?_; intro b12
    refine Go.Tan.b1 rfl Fx.se56 Fx.zv36 (.u rfl) rfl rfl (by decide) ?_; intro b13
    refine kp rfl .no Fx.go45 (Eva.cons (.u rfl) Eva.nil) (Gp.add .here (Gp.add .here Gp.nil)) (fun _ hle hq => emptyS_ok (kind := 2#8) hle hq.1 hK) ?_
    refine sw rfl (.u rfl) (.u rfl) rfl Fx.sz23 (.there (.there .here)) (by first | exact (ba_len _ _).trans (ba_len _ _).symm | exact (wa_len _ _).trans (wa_len _ _).symm | exact ba_len _ _ | exact wa_len _ _ | rfl | (simp only [wa_len, ba_len, List.length_append, List.length_cons, List.length_nil])) (by first | exact ba_one _ _ | exact wa_one _ _ | exact one_V _ | decide | exact one_app (wa_one _ _) (by simp [Value.oneCell'])) ?_
    refine .nil ?_
    refine .code ?_
    refine .ret ?_
    refine We.fin0 Tryd.results18 (.cell rfl (fun w hw => run_loadVarN Fx.ag23 (RdN.own .here) ((by first | exact (ba_len _ _).trans (ba_len _ _).symm | exact (wa_len _ _).trans (wa_len _ _).symm | exact ba_len _ _ | exact wa_len _ _ | rfl | (simp only [wa_len, ba_len, List.length_append, List.length_cons, List.length_nil]))) hw) .nil) ?_
    obtain rfl : ds = [] := List.eq_nil_of_length_eq_zero (by omega)
    exact ⟨rfl, by rw [root_nil]; rfl⟩
  · have c1k := c1
    try simp only [decide_eq_true_eq, decide_eq_false_iff_not, Int.not_lt, Int.not_le, gt_iff_lt, ge_iff_le, Bool.or_eq_true, Bool.and_eq_true, Bool.or_eq_false_iff, Bool.and_eq_false_iff, Bool.not_eq_true', Bool.not_eq_false', Int.toNat_natCast, bne_iff_ne, beq_iff_eq, bne_eq_false_iff_eq, beq_eq_false_iff_ne, ne_eq] at c1
    refine .skip ?_
    refine .code ?_
    refine .seq ?_
    refine Wk.rg [0] rfl rfl ?_
    refine asg rfl .no (.u rfl) ?_
    refine .nil ?_
    refine .code ?_
    refine .seq ?_
    refine .seq ?_
    refine wk_nilS 32 (ba 32) 23 ?_
    refine Wk.rg [0, 1, 2] rfl rfl ?_
    refine mv rfl .no (.u rfl) ?_
    refine ln rfl .no Fx.sn61 (.u rfl) ?_
    refine mv rfl .no (.u rfl) ?_
    refine .nil ?_
    refine .code ?_
    refine .block ?_
    refine Wk.lop (α := Nat × List (Nat × Dg) × Value) (fun gh => [(3, true, gh.2.2), (17, true, .int .i64 (gh.1 : Int))]) (fun gh => [rS 32 (ba 32) gh.2.2 23 (stkL gh.2.1)])
      (fun gh Gl => (gh.1 ≤ ds.length) ∧ (Stk gh.2.1 (ds.take gh.1))) (fun gh => ds.length - gh.1) (0, [], .slice none 0 0) [(2, true, _), (15, true, _), (16, true, _)] [_]
      (ESub.cons rfl rfl (ESub.cons rfl (by first | rfl | exact evi (by omega)) (ESub.cons rfl rfl (ESub.cons rfl rfl (ESub.cons rfl rfl ESub.nil)))))
      (MSub.cons .here rfl (MSub.cons .here rfl MSub.nil)) ?_ ?_
    · refine ⟨?_, ?_⟩
      · (try dsimp only) <;> (first | omega | rfl | assumption | (simp; done))
      · (try dsimp only) <;> (exact Stk.nil)
    intro gh N0 Gl0 hN0 hGl0 hF0
    obtain ⟨k, S, v⟩ := gh; dsimp only at hF0 hN0 ⊢
    obtain ⟨hk, hS⟩ := hF0
    have hs := hs.mono hGl0
    have hK := hK.mono hGl0
    refine .seq ?_
    refine Wk.rg [0] rfl rfl ?_
    refine cp rfl .no (.u rfl) (.u rfl) rfl ?_
    refine .nil ?_
    refine .code ?_
    refine .seq ?_
    refine .cond rfl (fun c2 => ?_) (fun c2 => ?_)
    · have c2k := c2
      try simp only [decide_eq_true_eq, decide_eq_false_iff_not, Int.not_lt, Int.not_le, gt_iff_lt, ge_iff_le, Bool.or_eq_true, Bool.and_eq_true, Bool.or_eq_false_iff, Bool.and_eq_false_iff, Bool.not_eq_true', Bool.not_eq_false', Int.toNat_natCast, bne_iff_ne, beq_iff_eq, bne_eq_false_iff_eq, beq_eq_false_iff_ne, ne_eq] at c2
      refine .skip ?_
      refine .code ?_
      refine .seq ?_
      refine .block ?_
      refine .seq ?_
      refine Wk.rg [0, 1, 2, 3, 4, 5] rfl rfl ?_
      refine mv rfl .no (.u rfl) ?_
      obtain ⟨x, ex⟩ := getx (k := k) (xs := ds) (by omega)
      refine ih rfl .no Fx.se61 (.u rfl) (.u rfl) (fun _ => by omega) (fun _ => by omega) (fun _ => hs.nn (k := k) (by first | omega | (simp only [Bool.and_eq_true, decide_eq_true_eq] at hc; omega) | (simp only [List.length_cons, List.length_nil]; omega))) ?_
      refine lA rfl .no Fx.ag23 (.u rfl) (fun _ => (hs.at (by omega) ex).rd) (fun _ => ba_len _ _) ?_
      refine al rfl Fx.zq23 ?_; intro b5
      refine asg rfl .no (.u rfl) ?_
      refine sw rfl (.u rfl) (.u rfl) rfl Fx.sz23 .here rfl (ba_one _ _) ?_
      refine .nil ?_
      refine .code ?_
      refine .seq ?_
      refine .seq ?_
      refine Wk.rg [0, 1, 2] rfl rfl ?_
      refine mv rfl .no (.u rfl) ?_
      refine arn (((k + 1) : Nat) : Int) rfl .no (.u rfl) (.u rfl) rfl (fun _ => by omega) (fun _ => wrap_i64 (by omega) (by omega)) ?_
      refine asg rfl .no (.u rfl) ?_
      refine .nil ?_
      refine .code ?_
      refine .block ?_
      refine Wk.lop (α := Nat × Nat × List (Nat × Dg) × Dg × Value) (fun gh => [(3, true, gh.2.2.2.2), (6, true, .int .i64 (gh.1 : Int))]) (fun gh => [.blk b5 (cl (ba 32 gh.2.2.2.1) 23), rS 32 (ba 32) gh.2.2.2.2 23 (stkL gh.2.2.1)])
        (fun gh Gl => (Pend gh.2.2.1 gh.2.2.2.1 gh.2.1 (ds.take (k + 1))) ∧ (gh.1 = (ds.take (k + 1)).length / 2 ^ gh.2.1) ∧ (gh.1 ≤ k + 1)) (fun gh => gh.1) (k + 1, 0, S, x, v) [(2, true, _), (5, true, _), (15, true, _), (16, true, _), (17, true, _)] [_]
        (ESub.cons rfl rfl (ESub.cons rfl (by first | rfl | exact evi (by omega)) (ESub.cons rfl rfl (ESub.cons rfl rfl (ESub.cons rfl rfl (ESub.cons rfl rfl (ESub.cons rfl rfl ESub.nil)))))))
        (MSub.cons .here rfl (MSub.cons .here rfl (MSub.cons .here rfl MSub.nil))) ?_ ?_
      · refine ⟨?_, ?_, ?_⟩
        · (try dsimp only) <;> (rw [List.take_add_one, ex]; exact Pend.start hS x)
        · (try dsimp only) <;> (rw [Nat.pow_zero, Nat.div_one, List.length_take]; omega)
        · (try dsimp only) <;> (first | omega | rfl | assumption | (simp; done))
      intro gh N1 Gl1 hN1 hGl1 hF1
      obtain ⟨q, a, S2, dd, v2⟩ := gh; dsimp only at hF1 hN1 ⊢
      obtain ⟨hP, eq, hqk⟩ := hF1
      have hs := hs.mono hGl1
      have hK := hK.mono hGl1
      have hq0 := pend_pos hP eq
      have hl2 := pend_len hP
      rw [← stkL_len, List.length_take] at hl2
      refine .seq ?_
      refine .seq ?_
      refine Wk.rg [0, 1, 2] rfl rfl ?_
      refine mv rfl .no (.u rfl) ?_
      refine an1 q rfl .no (.u rfl) (.u rfl) rfl rfl ?_
      refine cp rfl .no (.u rfl) (.u rfl) rfl ?_
      refine .nil ?_
      refine .code ?_
      refine .cond rfl (fun c3 => ?_) (fun c3 => ?_)
      · have c3k := c3
        try simp only [decide_eq_true_eq, decide_eq_false_iff_not, Int.not_lt, Int.not_le, gt_iff_lt, ge_iff_le, Bool.or_eq_true, Bool.and_eq_true, Bool.or_eq_false_iff, Bool.and_eq_false_iff, Bool.not_eq_true', Bool.not_eq_false', Int.toNat_natCast, bne_iff_ne, beq_iff_eq, bne_eq_false_iff_eq, beq_eq_false_iff_ne, ne_eq] at c3
        refine .skip ?_
        refine .code ?_
        refine .seq ?_
        refine .block ?_
        refine .seq ?_
        obtain ⟨s, S3, hS3, hP3, hq3⟩ := pend_even hP eq (by omega)
        have hl3 : (stkL S2).length = (stkL S3).length + 1 := by rw [hS3, stkL_cons, List.length_append]; rfl
        refine wk_rv (.there .here) (by omega) ?_; intro bbRS capRS evRS lcRS; subst evRS
        refine Wk.draw (mc := ⟨false, false⟩) [0, 1, 2, 3, 4, 5, 6, 7, 8] Fx.mix (by kernel_rfl) ?_
        refine mv rfl .no (.u rfl) ?_
        refine mv rfl .no (.u rfl) ?_
        refine lr rfl .no Fx.sn61 (.u rfl) (.there .here) ?_
        refine arn ((((stkL S2).length - 1) : Nat) : Int) rfl .no (.u rfl) (.u rfl) rfl (fun _ => by omega) (fun _ => wrap_i64 (by omega) (by omega)) ?_
        refine ia rfl .no Fx.se61 (.u rfl) (.u rfl) (fun _ => by omega) (fun _ => by omega) ?_
        refine lA rfl .no Fx.ag23 (.u rfl) (fun _ => RdN.rowS (.there .here) (fun _ _ => ba_len _ _) (gd_at (z := zD) (k := ((stkL S2).length - 1)) (by omega)) (by omega)) (fun _ => ba_len _ _) ?_
        refine lA rfl .no Fx.ag23 (.u rfl) (fun _ => RdN.own .here) (fun _ => (by first | exact (ba_len _ _).trans (ba_len _ _).symm | exact (wa_len _ _).trans (wa_len _ _).symm | exact ba_len _ _ | exact wa_len _ _ | rfl | (simp only [wa_len, ba_len, List.length_append, List.length_cons, List.length_nil]))) ?_
        refine kv rfl .no Fx.go46 (Eva.cons (.u rfl) (Eva.cons (.u rfl) Eva.nil)) (fun _ => join_ok _ _ _ hK) ?_
        refine sw rfl (.u rfl) (.u rfl) rfl Fx.sz23 .here (by first | exact (ba_len _ _).trans (ba_len _ _).symm | exact (wa_len _ _).trans (wa_len _ _).symm | exact ba_len _ _ | exact wa_len _ _ | rfl | (simp only [wa_len, ba_len, List.length_append, List.length_cons, List.length_nil])) (ba_one _ _) ?_
        refine .nil ?_
        refine .code ?_
        refine Wk.rg [0, 1, 2, 3, 4, 5] rfl rfl ?_
        refine mv rfl .no (.u rfl) ?_
        refine mv rfl .no (.u rfl) ?_
        refine lr rfl .no Fx.sn61 (.u rfl) (.there .here) ?_
        refine ar rfl .no (.u rfl) (.u rfl) rfl (fun _ => wrap_i64 (by omega) (by omega)) ?_
        refine srh (stkL S3).length rfl Fx.se61 (.u rfl) (.u rfl) (by omega) (by omega) ?_
        refine asg rfl .no (.u rfl) ?_
        refine .nil ?_
        refine .blk ?_
        refine .code ?_
        refine wk_popS (stkL S3) [s] (fun _ _ => ba_len _ _) (.there .here) (by rw [hS3, stkL_cons]) ?_
        refine Wk.rg [0, 1, 2] rfl rfl ?_
        refine mv rfl .no (.u rfl) ?_
        refine sr1 (q) rfl .no (.u rfl) (.u rfl) (by first | rfl | omega) rfl (by decide) ?_
        refine asg rfl .no (.u rfl) ?_
        refine .nil ?_
        refine We.lpo (q / 2, a + 1, S3, joinD ((stkL S2).getD ((stkL S2).length - 1) zD) dd, .slice (some ⟨bbRS, 0, none⟩) (stkL S3).length capRS) ?_ ?_ ?_ ?_ ?_
        · exact (ESub.cons rfl rfl (ESub.cons rfl (by first | rfl | exact evi (by omega)) (ESub.cons rfl rfl (ESub.cons rfl rfl (ESub.cons rfl rfl (ESub.cons rfl rfl (ESub.cons rfl rfl ESub.nil)))))))
        · exact (MSub.cons (.there .here) rfl (MSub.cons .here rfl (MSub.cons .here rfl MSub.nil)))
        · first | omega | (dsimp only; omega)
        · exact hGl1
        · refine ⟨?_, ?_, ?_⟩
          · (try dsimp only) <;> (rw [stk_top hS3]; exact hP3)
          · (try dsimp only) <;> (exact hq3)
          · (try dsimp only) <;> (first | omega | rfl | assumption | (simp; done))
      · have c3k := c3
        try simp only [decide_eq_true_eq, decide_eq_false_iff_not, Int.not_lt, Int.not_le, gt_iff_lt, ge_iff_le, Bool.or_eq_true, Bool.and_eq_true, Bool.or_eq_false_iff, Bool.and_eq_false_iff, Bool.not_eq_true', Bool.not_eq_false', Int.toNat_natCast, bne_iff_ne, beq_iff_eq, bne_eq_false_iff_eq, beq_eq_false_iff_ne, ne_eq] at c3
        refine .exit ?_
        refine .xcode ?_
        refine .xlp ?_
        refine .xblk ?_
        refine .code ?_
        refine Wk.rg [0, 1, 2, 3, 4] rfl rfl ?_
        refine mv rfl .no (.u rfl) ?_
        refine lA rfl .no Fx.ag23 (.u rfl) (fun _ => RdN.own .here) (fun _ => (by first | exact (ba_len _ _).trans (ba_len _ _).symm | exact (wa_len _ _).trans (wa_len _ _).symm | exact ba_len _ _ | exact wa_len _ _ | rfl | (simp only [wa_len, ba_len, List.length_append, List.length_cons, List.length_nil]))) ?_
        refine Go.Tan.b1 rfl Fx.se61 Fx.zw23 (.u rfl) rfl rfl (by decide) ?_; intro b44
        refine apS (xs := (stkL S2)) (dd) rfl Fx.se61 Fx.zw23 rfl (.u rfl) (.u rfl) (.there (.there .here)) .here (ba_len _ _) (ba_one _ _) (by omega) (by unfold maxLen; omega) ?_; intro v45 ov45
        refine asg rfl .no (.u rfl) ?_
        refine .nil ?_
        refine .blk ?_
        refine .code ?_
        refine Wk.rg [0, 1] rfl rfl ?_
        refine arn (((k + 1) : Nat) : Int) rfl .no (.u rfl) (.u rfl) rfl (fun _ => by omega) (fun _ => wrap_i64 (by omega) (by omega)) ?_
        refine mv rfl .no (.u rfl) ?_
        refine .nil ?_
        refine We.lpo (k + 1, (a, dd) :: S2, v45) ?_ ?_ ?_ ?_ ?_
        · exact (ESub.cons rfl rfl (ESub.cons rfl (by first | rfl | exact evi (by omega)) (ESub.cons rfl rfl (ESub.cons rfl rfl (ESub.cons rfl rfl ESub.nil)))))
        · exact (MSub.cons .here (by rw [stkL_cons]) (MSub.cons (.there (.there .here)) rfl MSub.nil))
        · first | omega | (dsimp only; omega)
        · exact (hGl0).trans hGl1
        · refine ⟨?_, ?_⟩
          · (try dsimp only) <;> (first | omega | rfl | assumption | (simp; done))
          · (try dsimp only) <;> (exact pend_odd hP eq (by omega))
    · have c2k := c2
      try simp only [decide_eq_true_eq, decide_eq_false_iff_not, Int.not_lt, Int.not_le, gt_iff_lt, ge_iff_le, Bool.or_eq_true, Bool.and_eq_true, Bool.or_eq_false_iff, Bool.and_eq_false_iff, Bool.not_eq_true', Bool.not_eq_false', Int.toNat_natCast, bne_iff_ne, beq_iff_eq, bne_eq_false_iff_eq, beq_eq_false_iff_ne, ne_eq] at c2
      refine .exit ?_
      refine .xcode ?_
      refine .xlp ?_
      refine .xblk ?_
      refine .code ?_
      refine .seq ?_
      obtain rfl : k = ds.length := by omega
      rw [List.take_length] at hS
      obtain ⟨hs0, hroot⟩ := stk_done hS (by omega)
      have hsl := hS.short
      rw [← stkL_len] at hsl
      refine wk_rv .here (by omega) ?_; intro bbRS capRS evRS lcRS; subst evRS
      refine Wk.rg [0, 1, 2, 3, 4, 5, 6, 7] rfl rfl ?_
      refine mv rfl .no (.u rfl) ?_
      refine mv rfl .no (.u rfl) ?_
      refine lr rfl .no Fx.sn61 (.u rfl) .here ?_
      refine arn ((((stkL S).length - 1) : Nat) : Int) rfl .no (.u rfl) (.u rfl) rfl (fun _ => by omega) (fun _ => wrap_i64 (by omega) (by omega)) ?_
      refine ia rfl .no Fx.se61 (.u rfl) (.u rfl) (fun _ => by omega) (fun _ => by omega) ?_
      refine lA rfl .no Fx.ag23 (.u rfl) (fun _ => RdN.rowS .here (fun _ _ => ba_len _ _) (gd_at (z := zD) (k := ((stkL S).length - 1)) (by omega)) (by omega)) (fun _ => ba_len _ _) ?_
      refine al rfl Fx.zq23 ?_; intro b7
      refine sw rfl (.u rfl) (.u rfl) rfl Fx.sz23 .here rfl (ba_one _ _) ?_
      refine .nil ?_
      refine .code ?_
      refine .seq ?_
      refine .seq ?_
      refine Wk.rg [0, 1, 2, 3] rfl rfl ?_
      refine mv rfl .no (.u rfl) ?_
      refine lr rfl .no Fx.sn61 (.u rfl) (.there .here) ?_
      refine ar rfl .no (.u rfl) (.u rfl) rfl (fun _ => wrap_i64 (by omega) (by omega)) ?_
      refine asg rfl .no (.u rfl) ?_
      refine .nil ?_
      refine .code ?_
      refine .block ?_
      refine Wk.lop (α := Nat × Dg) (fun gh => [(8, true, .int .i64 ((gh.1 : Int) - 1))]) (fun gh => [.blk b7 (cl (ba 32 gh.2) 23)])
        (fun gh Gl => (gh.1 ≤ (stkL S).length - 1) ∧ (rootD ds = finB gh.2 (stkL S) gh.1)) (fun gh => gh.1) ((stkL S).length - 1, (stkL S).getD ((stkL S).length - 1) zD) [(2, true, _), (3, true, _), (7, true, _)] [_, _]
        (ESub.cons rfl (evi (by omega)) (ESub.cons rfl rfl (ESub.cons rfl rfl (ESub.cons rfl rfl ESub.nil))))
        (MSub.cons .here rfl (MSub.cons .here rfl (MSub.cons .here rfl MSub.nil))) ?_ ?_
      · refine ⟨?_, ?_⟩
        · (try dsimp only) <;> (first | omega | rfl | assumption | (simp; done))
        · (try dsimp only) <;> (exact hroot)
      intro gh N2 Gl2 hN2 hGl2 hF2
      obtain ⟨j, d⟩ := gh; dsimp only at hF2 hN2 ⊢
      obtain ⟨hj, hd⟩ := hF2
      have hs := hs.mono hGl2
      have hK := hK.mono hGl2
      refine .seq ?_
      refine .seq ?_
      refine Wk.rg [0, 1] rfl rfl ?_
      refine mv rfl .no (.u rfl) ?_
      refine cp rfl .no (.u rfl) (.u rfl) rfl ?_
      refine .nil ?_
      refine .code ?_
      refine .cond rfl (fun c4 => ?_) (fun c4 => ?_)
      · have c4k := c4
        try simp only [decide_eq_true_eq, decide_eq_false_iff_not, Int.not_lt, Int.not_le, gt_iff_lt, ge_iff_le, Bool.or_eq_true, Bool.and_eq_true, Bool.or_eq_false_iff, Bool.and_eq_false_iff, Bool.not_eq_true', Bool.not_eq_false', Int.toNat_natCast, bne_iff_ne, beq_iff_eq, bne_eq_false_iff_eq, beq_eq_false_iff_ne, ne_eq] at c4
        refine .skip ?_
        refine .code ?_
        refine .seq ?_
        refine .block ?_
        refine Wk.draw (mc := ⟨false, false⟩) [0, 1, 2, 3, 4, 5, 6] Fx.mix (by kernel_rfl) ?_
        refine mv rfl .no (.u rfl) ?_
        refine mv rfl .no (.u rfl) ?_
        refine ia rfl .no Fx.se61 (.u rfl) (.u rfl) (fun _ => by omega) (fun _ => by omega) ?_
        refine lA rfl .no Fx.ag23 (.u rfl) (fun _ => RdN.rowS (.there .here) (fun _ _ => ba_len _ _) (gd_at (z := zD) (k := (j - 1)) (by omega)) (by omega)) (fun _ => ba_len _ _) ?_
        refine lA rfl .no Fx.ag23 (.u rfl) (fun _ => RdN.own .here) (fun _ => (by first | exact (ba_len _ _).trans (ba_len _ _).symm | exact (wa_len _ _).trans (wa_len _ _).symm | exact ba_len _ _ | exact wa_len _ _ | rfl | (simp only [wa_len, ba_len, List.length_append, List.length_cons, List.length_nil]))) ?_
        refine kv rfl .no Fx.go46 (Eva.cons (.u rfl) (Eva.cons (.u rfl) Eva.nil)) (fun _ => join_ok _ _ _ hK) ?_
        refine sw rfl (.u rfl) (.u rfl) rfl Fx.sz23 .here (by first | exact (ba_len _ _).trans (ba_len _ _).symm | exact (wa_len _ _).trans (wa_len _ _).symm | exact ba_len _ _ | exact wa_len _ _ | rfl | (simp only [wa_len, ba_len, List.length_append, List.length_cons, List.length_nil])) (ba_one _ _) ?_
        refine .nil ?_
        refine .blk ?_
        refine .code ?_
        refine Wk.rg [0, 1, 2] rfl rfl ?_
        refine mv rfl .no (.u rfl) ?_
        refine ar rfl .no (.u rfl) (.u rfl) rfl (fun _ => wrap_i64 (by omega) (by omega)) ?_
        refine asg rfl .no (.u rfl) ?_
        refine .nil ?_
        refine We.lpo (j - 1, joinD ((stkL S).getD (j - 1) zD) d) ?_ ?_ ?_ ?_ ?_
        · exact (ESub.cons rfl (evi (by omega)) (ESub.cons rfl rfl (ESub.cons rfl rfl (ESub.cons rfl rfl ESub.nil))))
        · exact (MSub.cons .here rfl (MSub.cons .here rfl (MSub.cons .here rfl MSub.nil)))
        · first | omega | (dsimp only; omega)
        · exact hGl2
        · refine ⟨?_, ?_⟩
          · (try dsimp only) <;> (first | omega | rfl | assumption | (simp; done))
          · (try dsimp only) <;> (rw [hd, finB_pred (by omega)])
      · have c4k := c4
        try simp only [decide_eq_true_eq, decide_eq_false_iff_not, Int.not_lt, Int.not_le, gt_iff_lt, ge_iff_le, Bool.or_eq_true, Bool.and_eq_true, Bool.or_eq_false_iff, Bool.and_eq_false_iff, Bool.not_eq_true', Bool.not_eq_false', Int.toNat_natCast, bne_iff_ne, beq_iff_eq, bne_eq_false_iff_eq, beq_eq_false_iff_ne, ne_eq] at c4
        refine .exit ?_
        refine .xcode ?_
        refine .xlp ?_
        refine .xblk ?_
        refine .code ?_
        refine .seq ?_
        refine Wk.rg [0, 1] rfl rfl ?_
        refine lA rfl .no Fx.ag23 (.u rfl) (fun _ => RdN.own .here) (fun _ => (by first | exact (ba_len _ _).trans (ba_len _ _).symm | exact (wa_len _ _).trans (wa_len _ _).symm | exact ba_len _ _ | exact wa_len _ _ | rfl | (simp only [wa_len, ba_len, List.length_append, List.length_cons, List.length_nil]))) ?_
        refine sw rfl (.u rfl) (.u rfl) rfl Fx.sz23 (.there (.there .here)) rfl (ba_one _ _) ?_
        refine .nil ?_
        refine .code ?_
        refine .ret ?_
        refine We.fin0 Tryd.results18 (.cell rfl (fun w hw => run_loadVarN Fx.ag23 (RdN.own .here) ((by first | exact (ba_len _ _).trans (ba_len _ _).symm | exact (wa_len _ _).trans (wa_len _ _).symm | exact ba_len _ _ | exact wa_len _ _ | rfl | (simp only [wa_len, ba_len, List.length_append, List.length_cons, List.length_nil]))) hw) .nil) ?_
        obtain rfl : j = 0 := by omega
        exact ⟨rfl, by rw [hd]; rfl⟩

end Go.Proofs.YtbdnclpopappeaaDoor

namespace Go.Proofs.YtbdnclpopappeaaDoor
set_option linter.unusedSimpArgs false
set_option linter.unusedVariables false
open Go.Tan Go.RowKit

namespace Fx
theorem go19 : goFn Tryd.prog 19 = true := by kernel_rfl
theorem zq38 : zrL Tryd.prog 38 = some (Meta.zero.cells) := by kernel_rfl
theorem fo28_0 : fOff Tryd.prog 28 0 = some 0 := by kernel_rfl
theorem fo28_1 : fOff Tryd.prog 28 1 = some 1 := by kernel_rfl
theorem bp38_ : bPl Tryd.prog 38 [] = some (Meta.zero.cells, []) := by kernel_rfl
theorem sz38 : szT Tryd.prog 38 = some 40 := by kernel_rfl
theorem ag38 : aggN Tryd.prog 38 = some (some 40) := by kernel_rfl
theorem go23 : goFn Tryd.prog 23 = true := by kernel_rfl
theorem bp73_0_1_2 : bPl Tryd.prog 73 [0, 1, 2] = some ([.int .u8 0, .int .u8 0, .int .u8 0, .int .u8 0, .int .u8 0, .int .u8 0, .int .u8 0, .int .u8 0, .int .u8 0, .int .u8 0, .int .u8 0, .int .u8 0, .int .u8 0, .int .u8 0, .int .u8 0, .int .u8 0, .int .u8 0, .int .u8 0, .int .u8 0, .int .u8 0, .int .u8 0, .int .u8 0, .int .u8 0, .int .u8 0, .int .u8 0, .int .u8 0, .int .u8 0, .int .u8 0, .int .u8 0, .int .u8 0, .int .u8 0, .int .u8 0, .int .u8 0, .int .u8 0, .int .u8 0, .int .u8 0, .int .u8 0, .int .u8 0, .int .u8 0, .int .u8 0, .int .u8 0, .int .u8 0, .int .u8 0, .int .u8 0, .int .u8 0, .int .u8 0, .int .u8 0, .int .u8 0, .int .u8 0, .int .u8 0, .int .u8 0, .int .u8 0, .int .u8 0, .int .u8 0, .int .u8 0, .int .u8 0, .int .u8 0, .int .u8 0, .int .u8 0, .int .u8 0, .int .u8 0, .int .u8 0, .int .u8 0, .int .u8 0, .slice none 0 0, .slice none 0 0, .slice none 0 0], [(0, 64), (64, 1), (65, 1)]) := by kernel_rfl
theorem go24 : goFn Tryd.prog 24 = true := by kernel_rfl
theorem go26 : goFn Tryd.prog 26 = true := by kernel_rfl
theorem go27 : goFn Tryd.prog 27 = true := by kernel_rfl
theorem go28 : goFn Tryd.prog 28 = true := by kernel_rfl
theorem fo28_2 : fOff Tryd.prog 28 2 = some 2 := by kernel_rfl
theorem go30 : goFn Tryd.prog 30 = true := by kernel_rfl
theorem go29 : goFn Tryd.prog 29 = true := by kernel_rfl
theorem go18 : goFn Tryd.prog 18 = true := by kernel_rfl
theorem bp38_0_1_2_3_4_5_6_7_8 : bPl Tryd.prog 38 [0, 1, 2, 3, 4, 5, 6, 7, 8] = some (Meta.zero.cells, [(0, 1), (1, 1), (2, 1), (3, 1), (4, 1), (5, 1), (6, 1), (7, 1), (8, 32)]) := by kernel_rfl
end Fx
set_option maxHeartbeats 4000000 in
theorem tBuild_ok (root : Nat → Y) (h : Hd) (l : List Ent) (hl : Sh) (blk every bits : Int) (G : PM) (hs : SlR G 4 Ent.cells hl l) (hli : lightE l) (hK : RdNP G 0 0 (wa 64 kW)) : Ct Tryd.prog 8 ([.agg (ba 32 root).toArray, .agg ([V h.kind, V h.level, uv .u64 h.gen, uv .u64 h.epoch, uv .u64 h.num] : List Value).toArray, hl.val l.length, .agg #[.int .i64 blk, .int .i64 every, .int .i64 bits]] : List Value).toArray G [] (fun G' μ' u => ∃ (h' : Sh) (L : List Y) (m : Meta) (er : Int), BuildR root h l blk every bits L m er ∧ μ' = [] ∧ u = .tuple #[h'.val L.length, m.val, .int .i64 er] ∧ SlR G' 1 encY h' L) := by
  refine Ct.of Tryd.func8 rfl Tryd.ntmps8 rfl fun w0 hs0 => ?_
  have hl1 := hli.1; have hl2 := hli.2
  refine .seq ?_
  refine Wk.rg [0, 1, 2, 3, 4, 5] rfl rfl ?_
  refine bx rfl (.u rfl) rfl ?_; intro b4
  refine bx rfl (.u rfl) rfl ?_; intro b5
  refine bx rfl (.u rfl) rfl ?_; intro b7
  refine asg rfl .no (.u rfl) ?_
  refine al rfl Fx.zq38 ?_; intro b9
  refine asg rfl .no (.u rfl) ?_
  refine .nil ?_
  refine .code ?_
  refine .seq ?_
  refine Wk.rg [0] rfl rfl ?_
  refine asg rfl .no (.u rfl) ?_
  refine .nil ?_
  refine .code ?_
  refine .seq ?_
  refine .seq ?_
  refine Wk.rg [0, 1, 2, 3, 4, 5, 6, 7, 8, 9, 10, 11, 12, 13, 14, 15, 16, 17, 18, 19, 20, 21, 22, 23, 24, 25, 26, 27, 28, 29, 30, 31, 32, 33, 34, 35, 36, 37, 38, 39, 40, 41, 42] rfl rfl ?_
  refine fz rfl .no Fx.fo26_0 (.u rfl) ?_
  refine ld rfl .no Fx.ag5 (.u rfl) (fun _ => Rd.own (.there (.there .here)) (by first | exact wap_f rfl | rfl)) ?_
  refine cp rfl .no (.u rfl) (.u rfl) rfl ?_
  refine mv rfl .no (.u rfl) ?_
  refine lA rfl (.f rfl rfl) Fx.ag26 (.u rfl) (fun _ => RdN.own (.there (.there .here))) (fun _ => (by first | exact (key_len _ _).trans (key_len _ _).symm | exact key_len _ _ | exact ba_len _ _ | exact Ent.len _ | rfl)) ?_
  refine kv rfl (.f rfl rfl) Fx.go20 (Eva.cons (.s rfl) Eva.nil) (fun hc => nRight_ok h _) ?_
  refine nt rfl (.f rfl rfl) (.s rfl) ?_
  refine pkO rfl .no (.u rfl) (.s rfl) ?_
  refine mv rfl .no (.u rfl) ?_
  refine mv rfl (.f rfl rfl) (.u rfl) ?_
  refine ln rfl (.f rfl rfl) Fx.sn31 (.s rfl) ?_
  refine cp rfl (.f rfl rfl) (.s rfl) (.u rfl) rfl ?_
  refine pkO rfl .no (.u rfl) (.s rfl) ?_
  refine mv rfl .no (.u rfl) ?_
  refine fz rfl (.f rfl rfl) Fx.fo28_0 (.u rfl) ?_
  refine ld rfl (.f rfl rfl) Fx.ag3 (.s rfl) (fun hc => Rd.own (.there .here) (by first | exact wap_f rfl | rfl)) ?_
  refine cp rfl (.f rfl rfl) (.s rfl) (.u rfl) rfl ?_
  refine pkO rfl .no (.u rfl) (.s rfl) ?_
  refine mv rfl .no (.u rfl) ?_
  refine fz rfl (.f rfl rfl) Fx.fo28_0 (.u rfl) ?_
  refine ld rfl (.f rfl rfl) Fx.ag3 (.s rfl) (fun hc => Rd.own (.there .here) (by first | exact wap_f rfl | rfl)) ?_
  refine cp rfl (.f rfl rfl) (.s rfl) (.u rfl) rfl ?_
  refine pkO rfl .no (.u rfl) (.s rfl) ?_
  refine mv rfl .no (.u rfl) ?_
  refine fz rfl (.f rfl rfl) Fx.fo28_1 (.u rfl) ?_
  refine ld rfl (.f rfl rfl) Fx.ag3 (.s rfl) (fun hc => Rd.own (.there .here) (by first | exact wap_f rfl | rfl)) ?_
  refine cp rfl (.f rfl rfl) (.s rfl) (.u rfl) rfl ?_
  refine pkO rfl .no (.u rfl) (.s rfl) ?_
  refine mv rfl .no (.u rfl) ?_
  refine fz rfl (.f rfl rfl) Fx.fo28_1 (.u rfl) ?_
  refine ld rfl (.f rfl rfl) Fx.ag3 (.s rfl) (fun hc => Rd.own (.there .here) (by first | exact wap_f rfl | rfl)) ?_
  refine cp rfl (.f rfl rfl) (.s rfl) (.u rfl) rfl ?_
  refine pkO rfl .no (.u rfl) (.s rfl) ?_
  refine mv rfl .no (.u rfl) ?_
  refine mv rfl (.f rfl rfl) (.u rfl) ?_
  refine mv rfl (.f rfl rfl) (.u rfl) ?_
  refine kv rfl (.f rfl rfl) Fx.go21 (Eva.cons (.s rfl) (Eva.cons (.s rfl) Eva.nil)) (fun hc => contE_ok hl l _ hs (by (try simp only [Bool.and_eq_true, decide_eq_true_eq, Bool.not_eq_true', Bool.or_eq_false_iff, decide_eq_false_iff_not] at hc); omega) 19 Fx.go19 [] (fun e => !rightE e) (fun G2 _ e _ => tBad_ok e G2)) ?_
  refine pkO rfl .no (.u rfl) (.s rfl) ?_
  refine mv rfl .no (.u rfl) ?_
  refine mv rfl (.f rfl rfl) (.u rfl) ?_
  refine kv rfl (.f rfl rfl) Fx.go22 (Eva.cons (.s rfl) Eva.nil) (fun hc => rises_ok hl l _ hs (by (try simp only [Bool.and_eq_true, decide_eq_true_eq, Bool.not_eq_true', Bool.or_eq_false_iff, decide_eq_false_iff_not] at hc); omega)) ?_
  refine nt rfl (.f rfl rfl) (.s rfl) ?_
  refine pkO rfl .no (.u rfl) (.s rfl) ?_
  refine .nil ?_
  refine .code ?_
  refine .cond rfl (fun c1 => ?_) (fun c1 => ?_)
  · have c1k := c1
    try simp only [decide_eq_true_eq, decide_eq_false_iff_not, Int.not_lt, Int.not_le, gt_iff_lt, ge_iff_le, Bool.or_eq_true, Bool.and_eq_true, Bool.or_eq_false_iff, Bool.and_eq_false_iff, Bool.not_eq_true', Bool.not_eq_false', Int.toNat_natCast, bne_iff_ne, beq_iff_eq, bne_eq_false_iff_eq, beq_eq_false_iff_ne, ne_eq] at c1
    refine .seq ?_
    refine Wk.rg [0, 1, 2, 3] rfl rfl ?_
    refine bC rfl .no Fx.bp38_ .nil rfl ?_
    refine asg rfl .no (.u rfl) ?_
    refine sw rfl (.u rfl) (.u rfl) rfl Fx.sz38 .here (by first | exact (key_len _ _).trans (key_len _ _).symm | exact key_len _ _ | exact ba_len _ _ | exact Ent.len _ | rfl) (by first | exact ba_one _ _ | exact wa_one _ _ | exact one_V _ | decide | exact one_app (wa_one _ _) (by simp [Value.oneCell'])) ?_
    refine asg rfl .no (.u rfl) ?_
    refine .nil ?_
    refine .code ?_
    refine .ret ?_
    refine We.fin0 Tryd.results8 (.tmp rfl (.cell rfl (fun w hw => run_loadVarN Fx.ag38 (RdN.own .here) ((by first | exact mt_len | exact Meta.len _)) hw) (.tmp rfl .nil))) ?_
    exact ⟨⟨none, 0⟩, [], Meta.zero, 1, tb_bad c1k, rfl, rfl, SlR.nul⟩
  · have c1k := c1
    try simp only [decide_eq_true_eq, decide_eq_false_iff_not, Int.not_lt, Int.not_le, gt_iff_lt, ge_iff_le, Bool.or_eq_true, Bool.and_eq_true, Bool.or_eq_false_iff, Bool.and_eq_false_iff, Bool.not_eq_true', Bool.not_eq_false', Int.toNat_natCast, bne_iff_ne, beq_iff_eq, bne_eq_false_iff_eq, beq_eq_false_iff_ne, ne_eq] at c1
    refine .skip ?_
    refine .code ?_
    refine .seq ?_
    refine wk_fz (.there (.there (.there .here))) (by intro b hb; cases hb) ?_; intro Gfb4 hleb4 hbb4
    have hs := hs.mono hleb4
    have hK := hK.mono hleb4
    refine wk_fz (.there (.there .here)) (by intro b hb; cases hb) ?_; intro Gfb5 hleb5 hbb5
    have hs := hs.mono hleb5
    have hK := hK.mono hleb5
    have hbb4 := hbb4.mono hleb5
    refine wk_fz (.there .here) (by intro b hb; cases hb) ?_; intro Gfb7 hleb7 hbb7
    have hs := hs.mono hleb7
    have hK := hK.mono hleb7
    have hbb4 := hbb4.mono hleb7
    have hbb5 := hbb5.mono hleb7
    refine Wk.mixp ⟨true, false⟩ Fx.mix (by kernel_rfl) ?_
    refine Wp.one 0 (by kernel_rfl) ?_
    refine lA rfl .no Fx.ag23 (.u rfl) (fun _ => (hbb4.rdn (m := 32) (cs' := _) (by first | exact ba_all | exact app_l | exact app_r)).rd) (fun _ => (ba_len _ _)) ?_
    refine .nil ?_
    refine Wp.one 1 (by kernel_rfl) ?_
    refine lA rfl .no Fx.ag26 (.u rfl) (fun _ => (hbb5.rdn (m := 5) (cs' := h.cells) (rfl)).rd) (fun _ => rfl) ?_
    refine .nil ?_
    refine Wp.pr 3 (by kernel_rfl) ?_
    refine lA rfl .no Fx.ag26 (.u rfl) (fun _ => (hbb5.rdn (m := 5) (cs' := h.cells) (rfl)).rd) (fun _ => rfl) ?_
    refine .nil ⟨⟨rfl, rfl⟩, ?_⟩
    refine Wp.pr 5 (by kernel_rfl) ?_
    refine lA rfl .no Fx.ag26 (.u rfl) (fun _ => (hbb5.rdn (m := 5) (cs' := h.cells) (rfl)).rd) (fun _ => rfl) ?_
    refine .nil ⟨⟨rfl, rfl⟩, ?_⟩
    refine Wp.b1 2 (by kernel_rfl) ?_
    refine kv rfl .no Fx.go23 (Eva.cons (.u rfl) (Eva.cons (.u rfl) Eva.nil)) (fun _ => KeyOf_ok root h _ hK) ?_
    refine .nil ?_
    refine Wp.b1 4 (by kernel_rfl) ?_
    refine kc rfl Fx.go15 (Eva.cons (.u rfl) Eva.nil) (Ct.frzB (nLay_ok h _)) ?_
    rintro _ G74 μ74 hG74 ⟨h74, L74, eL74, rfl, rfl, hs74⟩
    have hs := hs.mono hG74
    have hK := hK.mono hG74
    have hbb4 := hbb4.mono hG74
    have hbb5 := hbb5.mono hG74
    have hbb7 := hbb7.mono hG74
    refine .nil ?_
    refine Wp.b1 6 (by kernel_rfl) ?_
    refine kc rfl Fx.go15 (Eva.cons (.u rfl) Eva.nil) (Ct.rowc (nLay_ok h _)) ?_
    rintro v76 G76 μ76 hG76 ⟨L76, ov76, eL76, rfl⟩
    have hs := hs.mono hG76
    have hK := hK.mono hG76
    have hbb4 := hbb4.mono hG76
    have hbb5 := hbb5.mono hG76
    have hbb7 := hbb7.mono hG76
    have hs74 := hs74.mono hG76
    refine .nil ?_
    refine Wp.one 7 (by kernel_rfl) ?_
    refine bCe (wrC (keyEnc root (headL h)) (keyMac root (headL h)) (h74.val L74.length) v76 (.slice none 0 0)) rfl .no Fx.bp73_0_1_2 (.cons (.u rfl) rfl (.cons (.u rfl) rfl (.cons (.u rfl) (cells_one ov76) .nil))) rfl (rfl) ?_
    refine .nil ?_
    refine Wp.b1 8 (by kernel_rfl) ?_
    refine bx rfl (.u rfl) rfl ?_; intro b78
    refine .nil ?_
    refine Wp.one 9 (by kernel_rfl) ?_
    refine asg rfl .no (.u rfl) ?_
    refine .nil ?_
    refine Wp.last (by kernel_rfl) ?_
    refine .code ?_
    refine .seq ?_
    refine wk_nilS 32 (ba 32) 23 ?_
    refine Wk.rg [0] rfl rfl ?_
    refine asg rfl .no (.u rfl) ?_
    refine .nil ?_
    refine .code ?_
    refine .seq ?_
    refine Wk.rg [0] rfl rfl ?_
    refine asg rfl .no (.u rfl) ?_
    refine .nil ?_
    refine .code ?_
    refine .seq ?_
    refine Wk.rg [0] rfl rfl ?_
    refine asg rfl .no (.u rfl) ?_
    refine .nil ?_
    refine .code ?_
    refine .seq ?_
    refine .seq ?_
    obtain ⟨hnb, hg, hev⟩ := tb_good (root := root) (bits := bits) c1k hli
    have hok := hg.ok
    refine wk_nilB 5 ?_
    refine wk_nilS 1 encT 9 ?_
    refine Wk.rg [0, 1] rfl rfl ?_
    refine mv rfl .no (.u rfl) ?_
    refine asg rfl .no (.u rfl) ?_
    refine .nil ?_
    refine .code ?_
    refine .block ?_
    refine Wk.lop (α := Nat × List Ent × Sh × Value × List Y × Value × List ByteArray × Value × List Y × Value × List Dg) (fun gh => [(13, true, gh.2.2.2.1), (14, true, .int .i64 (gh.1 : Int)), (15, true, gh.2.2.2.2.2.1), (16, true, gh.2.2.1.val gh.2.1.length)]) (fun gh => [rS 1 encT gh.2.2.2.2.2.1 9 gh.2.2.2.2.2.2.1, rB gh.2.2.2.1 5 gh.2.2.2.2.1, rS 32 (ba 32) gh.2.2.2.2.2.2.2.2.2.1 23 gh.2.2.2.2.2.2.2.2.2.2, .blk b78 (cl (wrC (keyEnc root (headL h)) (keyMac root (headL h)) (h74.val L74.length) gh.2.2.2.2.2.2.2.1 gh.2.2.2.2.2.2.2.2.2.1) 73), rB gh.2.2.2.2.2.2.2.1 5 gh.2.2.2.2.2.2.2.2.1])
      (fun gh Gl => (gh.1 ≤ (cutsE blk l).length) ∧ (gh.2.1 = ((cutsE blk l).drop gh.1).flatten) ∧ (gh.2.2.2.2.2.2.2.2.1 = (tabOf root h l blk every bits).out gh.1) ∧ (gh.2.2.2.2.1 = (tabOf root h l blk every bits).rows gh.1) ∧ (gh.2.2.2.2.2.2.2.2.2.2 = (tabOf root h l blk every bits).lvs gh.1) ∧ (gh.2.2.2.2.2.2.1 = ((tabOf root h l blk every bits).cs.take gh.1).flatten.map (·.user)) ∧ (SlR Gl 4 Ent.cells gh.2.2.1 gh.2.1)) (fun gh => (cutsE blk l).length - gh.1) (0, l, hl, .slice none 0 0, [], .slice none 0 0, [], v76, L76, .slice none 0 0, []) [(2, true, _), (5, true, _), (7, true, _), (9, true, _), (12, true, _)] [_]
      (ESub.cons rfl rfl (ESub.cons rfl (by first | rfl | exact evi (by omega)) (ESub.cons rfl rfl (ESub.cons rfl rfl (ESub.cons rfl rfl (ESub.cons rfl rfl (ESub.cons rfl rfl (ESub.cons rfl rfl (ESub.cons rfl rfl ESub.nil)))))))))
      (MSub.cons .here rfl (MSub.cons .here rfl (MSub.cons .here rfl (MSub.cons .here rfl (MSub.cons .here rfl (MSub.cons .here rfl MSub.nil)))))) ?_ ?_
    · refine ⟨?_, ?_, ?_, ?_, ?_, ?_, ?_⟩
      · (try dsimp only) <;> (first | omega | rfl | assumption | (simp; done))
      · (try dsimp only) <;> (exact (cuts_flat blk l).symm)
      · (try dsimp only) <;> (rw [eL76]; exact (List.append_nil _).symm)
      · (try dsimp only) <;> (rfl)
      · (try dsimp only) <;> (rfl)
      · (try dsimp only) <;> (rfl)
      · (try dsimp only) <;> (exact hs)
    intro gh N0 Gl0 hN0 hGl0 hF0
    obtain ⟨k, rest, hr, vr, RW, vu, US, vo, O, vl, D⟩ := gh; dsimp only at hF0 hN0 ⊢
    obtain ⟨hk, hrest, eO, eR, eD, eU, hsr⟩ := hF0
    have hs := hs.mono hGl0
    have hK := hK.mono hGl0
    have hbb4 := hbb4.mono hGl0
    have hbb5 := hbb5.mono hGl0
    have hbb7 := hbb7.mono hGl0
    have hs74 := hs74.mono hGl0
    have hrl := tb_light hli hrest; have hrl1 := hrl.1; have hrl2 := hrl.2
    have lO : O.length ≤ 74630 := by rw [eO]; exact hok.out_small hk
    have lR : RW.length ≤ 65600 := by rw [eR]; exact hok.rows_small hk
    have lc : (cutsE blk l).length ≤ 300 := hok.cs_le
    have hcl := cutA_le blk rest 0
    have lD : D.length = k := by rw [eD, Tab.lvs_len]
    have lU : US.length ≤ 300 := by rw [eU]; exact Nat.le_trans (usr_len _ _) (by rw [show (tabOf root h l blk every bits).cs.flatten = l from cuts_flat blk l]; omega)
    refine .seq ?_
    refine .seq ?_
    refine Wk.rg [0, 1, 2] rfl rfl ?_
    refine mv rfl .no (.u rfl) ?_
    refine ln rfl .no Fx.sn31 (.u rfl) ?_
    refine cp rfl .no (.u rfl) (.u rfl) rfl ?_
    refine .nil ?_
    refine .code ?_
    refine .cond rfl (fun c2 => ?_) (fun c2 => ?_)
    · have c2k := c2
      try simp only [decide_eq_true_eq, decide_eq_false_iff_not, Int.not_lt, Int.not_le, gt_iff_lt, ge_iff_le, Bool.or_eq_true, Bool.and_eq_true, Bool.or_eq_false_iff, Bool.and_eq_false_iff, Bool.not_eq_true', Bool.not_eq_false', Int.toNat_natCast, bne_iff_ne, beq_iff_eq, bne_eq_false_iff_eq, beq_eq_false_iff_ne, ne_eq] at c2
      refine .skip ?_
      refine .code ?_
      refine .seq ?_
      refine .block ?_
      refine .seq ?_
      refine Wk.rg [0, 1, 2, 3, 4] rfl rfl ?_
      refine mv rfl .no (.u rfl) ?_
      refine fa rfl .no Fx.fo28_0 (.u rfl) ?_
      refine ld rfl .no Fx.ag3 (.u rfl) (fun _ => (hbb7.rd (by rfl)).rd) ?_
      refine kv rfl .no Fx.go24 (Eva.cons (.u rfl) (Eva.cons (.u rfl) Eva.nil)) (fun _ => cut_ok hr rest blk _ hsr (by omega) (by omega)) ?_
      refine asg rfl .no (.u rfl) ?_
      refine .nil ?_
      refine .code ?_
      refine .seq ?_
      refine Wk.rg [0, 1, 2, 3] rfl rfl ?_
      refine mv rfl .no (.u rfl) ?_
      refine mv rfl .no (.u rfl) ?_
      refine kE ((cutA blk 0 rest)) rfl .no Fx.se31 hsr (.u rfl) (.u rfl) (fun _ => by omega) (fun _ => by omega) ?_
      intro h91 L91 eL91 lL91 hs91
      have lL91 := lL91 rfl
      refine asg rfl .no (.u rfl) ?_
      refine .nil ?_
      refine .code ?_
      refine .seq ?_
      refine Wk.rg [0, 1, 2, 3] rfl rfl ?_
      refine mv rfl .no (.u rfl) ?_
      refine mv rfl .no (.u rfl) ?_
      refine kD ((cutA blk 0 rest)) rfl .no Fx.se31 hsr (.u rfl) (.u rfl) (fun _ => by omega) (fun _ => by omega) ?_
      intro h94 L94 eL94 lL94 hs94
      have lL94 := lL94 rfl
      refine asg rfl .no (.u rfl) ?_
      refine .nil ?_
      refine .code ?_
      refine .seq ?_
      refine Wk.rg [0, 1, 2, 3, 4, 5, 6, 7, 8] rfl rfl ?_
      refine mv rfl .no (.u rfl) ?_
      refine fa rfl .no Fx.fo28_1 (.u rfl) ?_
      refine ld rfl .no Fx.ag3 (.u rfl) (fun _ => (hbb7.rd (by rfl)).rd) ?_
      refine kc rfl Fx.go25 (Eva.cons (.u rfl) (Eva.cons (.u rfl) Eva.nil)) (bBuild_ok h91 L91 every _ hs91 (by omega)) ?_
      rintro _ G99 μ99 hG99 ⟨v99, L99, er99, hB99, rfl, rfl⟩
      obtain ⟨hkc, hLk, hR94, lcut, l0, hbk⟩ := tb_part hg hev hrest (by omega) eL91 eL94
      obtain ⟨eL99, rfl⟩ := hbk hB99
      have hlL : lightE L91 := by rw [eL91]; exact hrl.take _
      have lB : L99.length ≤ 63000 := by rw [eL99]; have := blkL_le (every := every.toNat) (l := L91) (by omega) (by omega) (by have := hlL.2; omega); have := hlL.1; have := hlL.2; omega
      have hs := hs.mono hG99
      have hK := hK.mono hG99
      have hbb4 := hbb4.mono hG99
      have hbb5 := hbb5.mono hG99
      have hbb7 := hbb7.mono hG99
      have hs74 := hs74.mono hG99
      have hsr := hsr.mono hG99
      have hs91 := hs91.mono hG99
      have hs94 := hs94.mono hG99
      refine mv rfl .no (.u rfl) ?_
      refine ex rfl .no (.u rfl) rfl ?_
      refine ex rfl .no (.u rfl) rfl ?_
      refine asg rfl .no (.u rfl) ?_
      refine asg rfl .no (.u rfl) ?_
      refine .nil ?_
      refine .code ?_
      refine .seq ?_
      refine .seq ?_
      refine Wk.rg [0, 1] rfl rfl ?_
      refine mv rfl .no (.u rfl) ?_
      refine cp rfl .no (.u rfl) (.u rfl) rfl ?_
      refine .nil ?_
      refine .code ?_
      refine .cond rfl (fun c3 => ?_) (fun c3 => ?_)
      · have c3k := c3
        first | exact absurd c3 (by decide) | (simp at c3; done) | (exfalso; simp only [decide_eq_true_eq, gt_iff_lt] at c3; omega)
      · have c3k := c3
        try simp only [decide_eq_true_eq, decide_eq_false_iff_not, Int.not_lt, Int.not_le, gt_iff_lt, ge_iff_le, Bool.or_eq_true, Bool.and_eq_true, Bool.or_eq_false_iff, Bool.and_eq_false_iff, Bool.not_eq_true', Bool.not_eq_false', Int.toNat_natCast, bne_iff_ne, beq_iff_eq, bne_eq_false_iff_eq, beq_eq_false_iff_ne, ne_eq] at c3
        refine .skip ?_
        refine .code ?_
        refine .seq ?_
        refine Wk.rg [0, 1, 2, 3, 4, 5, 6] rfl rfl ?_
        refine mv rfl .no (.u rfl) ?_
        refine mv rfl .no (.u rfl) ?_
        refine ar rfl .no (.u rfl) (.u rfl) rfl (fun _ => wrap_i64 (by omega) (by omega)) ?_
        obtain ⟨x, ex⟩ := getx (k := L91.length - 1) (xs := L91) (by omega)
        have hxu := usz hlL ex
        refine ih rfl .no Fx.se31 (.u rfl) (.u rfl) (fun _ => by omega) (fun _ => by omega) (fun _ => hs91.nn (k := (((((cutA blk 0 rest) : Nat) : Int) - (1 : Int))).toNat) (by first | omega | (simp only [Bool.and_eq_true, decide_eq_true_eq] at hc; omega) | (simp only [List.length_cons, List.length_nil]; omega))) ?_
        refine fa rfl .no Fx.fo43_0 (.u rfl) ?_
        refine ld rfl .no Fx.ag9 (.u rfl) (fun _ => (hs91.at (by omega) ex 0 _ rfl).rd) ?_
        refine asg rfl .no (.u rfl) ?_
        refine .nil ?_
        refine .code ?_
        refine .seq ?_
        refine .seq ?_
        refine Wk.rg [0, 1, 2] rfl rfl ?_
        refine mv rfl .no (.u rfl) ?_
        refine ln rfl .no Fx.sn31 (.u rfl) ?_
        refine cp rfl .no (.u rfl) (.u rfl) rfl ?_
        refine .nil ?_
        refine .code ?_
        refine .cond rfl (fun c4 => ?_) (fun c4 => ?_)
        · have c4k := c4
          try simp only [decide_eq_true_eq, decide_eq_false_iff_not, Int.not_lt, Int.not_le, gt_iff_lt, ge_iff_le, Bool.or_eq_true, Bool.and_eq_true, Bool.or_eq_false_iff, Bool.and_eq_false_iff, Bool.not_eq_true', Bool.not_eq_false', Int.toNat_natCast, bne_iff_ne, beq_iff_eq, bne_eq_false_iff_eq, beq_eq_false_iff_ne, ne_eq] at c4
          refine Wk.rg [0, 1, 2, 3, 4, 5, 6] rfl rfl ?_
          refine mv rfl .no (.u rfl) ?_
          refine mv rfl .no (.u rfl) ?_
          refine ih rfl .no Fx.se31 (.u rfl) (.u rfl) (fun _ => by omega) (fun _ => by omega) (fun _ => hs94.nn (k := 0) (by first | omega | (simp only [Bool.and_eq_true, decide_eq_true_eq] at hc; omega) | (simp only [List.length_cons, List.length_nil]; omega))) ?_
          refine fa rfl .no Fx.fo43_0 (.u rfl) ?_
          obtain ⟨y, ey⟩ := getx (k := 0) (xs := L94) (by omega)
          have hbt := betwL_len (yb x.user) (yb y.user); rw [yb_len] at hbt
          refine ld rfl .no Fx.ag9 (.u rfl) (fun _ => (hs94.at (by decide) ey 0 _ rfl).rd) ?_
          refine kv rfl .no Fx.go26 (Eva.cons (.u rfl) (Eva.cons (.u rfl) Eva.nil)) (fun _ => betw_ok x.user y.user _ (by omega)) ?_
          refine asg rfl .no (.u rfl) ?_
          refine .nil ?_
          refine .code ?_
          refine .seq ?_
          refine wk_fb .here (by first | (intro b hb; cases hb; done) | simp [keys, Res.keys]) ?_; intro GfR99 hR99 hleR99 evR99 hsR99; subst evR99
          have hs := hs.mono hleR99
          have hK := hK.mono hleR99
          have hbb4 := hbb4.mono hleR99
          have hbb5 := hbb5.mono hleR99
          have hbb7 := hbb7.mono hleR99
          have hs74 := hs74.mono hleR99
          have hsr := hsr.mono hleR99
          have hs91 := hs91.mono hleR99
          have hs94 := hs94.mono hleR99
          refine wk_fb (.there .here) (by first | (intro b hb; cases hb; done) | simp [keys, Res.keys]) ?_; intro GfRW hRW hleRW evRW hsRW; subst evRW
          have hs := hs.mono hleRW
          have hK := hK.mono hleRW
          have hbb4 := hbb4.mono hleRW
          have hbb5 := hbb5.mono hleRW
          have hbb7 := hbb7.mono hleRW
          have hs74 := hs74.mono hleRW
          have hsr := hsr.mono hleRW
          have hs91 := hs91.mono hleRW
          have hs94 := hs94.mono hleRW
          have hsR99 := hsR99.mono hleRW
          refine Wk.rg [0, 1, 2, 3, 4, 5, 6, 7, 8, 9] rfl rfl ?_
          refine mv rfl .no (.u rfl) ?_
          refine mv rfl .no (.u rfl) ?_
          refine kc rfl Fx.go27 (Eva.cons (.u rfl) (Eva.cons (.u rfl) Eva.nil)) (Ct.rowc (Str_ok RW hRW _ hsRW _ (by first | omega | (rw [bstr_len]; omega)))) ?_
          rintro v123 G123 μ123 hG123 ⟨L123, ov123, eL123, rfl⟩
          have hs := hs.mono hG123
          have hK := hK.mono hG123
          have hbb4 := hbb4.mono hG123
          have hbb5 := hbb5.mono hG123
          have hbb7 := hbb7.mono hG123
          have hs74 := hs74.mono hG123
          have hsr := hsr.mono hG123
          have hs91 := hs91.mono hG123
          have hs94 := hs94.mono hG123
          have hsR99 := hsR99.mono hG123
          have hsRW := hsRW.mono hG123
          refine mv rfl .no (.u rfl) ?_
          refine mv rfl .no (.u rfl) ?_
          refine arn (((2 + k) : Nat) : Int) rfl .no (.u rfl) (.u rfl) rfl (fun _ => by omega) (fun _ => wrap_i64 (by omega) (by omega)) ?_
          refine mv rfl .no (.u rfl) ?_
          refine ka rfl (.inr rfl) Fx.go28 (Eva.cons (.u rfl) (Eva.cons (.u rfl) (Eva.cons (.u rfl) Eva.nil))) (mtk3 (.there (.there (.there .here))) (.there (.there (.there .here))) (.there (.there .here))) (tPut_ok (keyEnc root (headL h)) (keyMac root (headL h)) L74 h74 O D vo vl b78 (2 + k) L99 hR99 _ hs74 hsR99 hK (by rw [eL74, head_len]; decide) (by omega) (by omega) (by omega) (by omega)) ?_
          rintro _ G128 μ128 hG128 ⟨X128, O128, W128, D128, vo128, vl128, bb128, cap128, eX128, eO128, eD128, eW128, rfl, rfl⟩
          have lX128 : X128.length = L99.length + 16 := by rw [eX128, seal_len]
          have lO128 : O128.length = O.length + X128.length := by rw [eO128, List.length_append]
          have lD128 : D128.length = D.length + 1 := by rw [eD128, List.length_append]; rfl
          have hs := hs.mono hG128
          have hK := hK.mono hG128
          have hbb4 := hbb4.mono hG128
          have hbb5 := hbb5.mono hG128
          have hbb7 := hbb7.mono hG128
          have hs74 := hs74.mono hG128
          have hsr := hsr.mono hG128
          have hs91 := hs91.mono hG128
          have hs94 := hs94.mono hG128
          have hsR99 := hsR99.mono hG128
          have hsRW := hsRW.mono hG128
          have lL123 := str_bd eL123 (by first | omega | (rw [bstr_len]; omega))
          have lW128 := row_bd eW128 (by omega)
          refine apY rfl Fx.se36 Fx.zv5 (.u rfl) (.u rfl) (.there (.there (.there (.there .here)))) (Sc.row (.there (.there (.there .here)))) (by (try simp only [List.length_append, List.length_cons, List.length_nil, yl_len]); omega) ?_
          intro v129 L129 ov129 eL129
          have lL129 : L129.length = L123.length + W128.length := by rw [eL129, List.length_append]
          refine asg rfl .no (.u rfl) ?_
          refine .nil ?_
          refine .code ?_
          refine .seq ?_
          refine .seq ?_
          refine Wk.rg [0, 1, 2] rfl rfl ?_
          refine mv rfl .no (.u rfl) ?_
          refine ln rfl .no Fx.sn31 (.u rfl) ?_
          refine mv rfl .no (.u rfl) ?_
          refine .nil ?_
          refine .code ?_
          refine .block ?_
          refine Wk.lop (α := Nat × Value × List ByteArray) (fun gh => [(15, true, gh.2.1), (132, true, .int .i64 (gh.1 : Int))]) (fun gh => [rS 1 encT gh.2.1 9 gh.2.2])
            (fun gh Gl => (gh.1 ≤ L91.length) ∧ (gh.2.2 = US ++ (L91.take gh.1).map (·.user))) (fun gh => L91.length - gh.1) (0, vu, US) [(2, true, _), (5, true, _), (7, true, _), (9, true, _), (12, true, _), (13, true, _), (14, true, _), (16, true, _), (130, true, _), (131, true, _)] [_, _, _, _, _, _]
            (ESub.cons rfl rfl (ESub.cons rfl (by first | rfl | exact evi (by omega)) (ESub.cons rfl rfl (ESub.cons rfl rfl (ESub.cons rfl rfl (ESub.cons rfl rfl (ESub.cons rfl rfl (ESub.cons rfl rfl (ESub.cons rfl rfl (ESub.cons rfl rfl (ESub.cons rfl rfl (ESub.cons rfl rfl ESub.nil))))))))))))
            (MSub.cons (.there (.there (.there (.there (.there .here))))) rfl (MSub.cons .here rfl (MSub.cons .here rfl (MSub.cons .here rfl (MSub.cons .here rfl (MSub.cons .here rfl (MSub.cons .here rfl MSub.nil))))))) ?_ ?_
          · refine ⟨?_, ?_⟩
            · (try dsimp only) <;> (first | omega | rfl | assumption | (simp; done))
            · (try dsimp only) <;> (simp)
          intro gh N1 Gl1 hN1 hGl1 hF1
          obtain ⟨j, w, U2⟩ := gh; dsimp only at hF1 hN1 ⊢
          obtain ⟨hj, eU2⟩ := hF1
          have hs := hs.mono hGl1
          have hK := hK.mono hGl1
          have hbb4 := hbb4.mono hGl1
          have hbb5 := hbb5.mono hGl1
          have hbb7 := hbb7.mono hGl1
          have hs74 := hs74.mono hGl1
          have hsr := hsr.mono hGl1
          have hs91 := hs91.mono hGl1
          have hs94 := hs94.mono hGl1
          have hsR99 := hsR99.mono hGl1
          have hsRW := hsRW.mono hGl1
          have lU2 : U2.length ≤ 600 := by rw [eU2, List.length_append, List.length_map, List.length_take]; omega
          refine .seq ?_
          refine Wk.rg [0] rfl rfl ?_
          refine cp rfl .no (.u rfl) (.u rfl) rfl ?_
          refine .nil ?_
          refine .code ?_
          refine .seq ?_
          refine .cond rfl (fun c5 => ?_) (fun c5 => ?_)
          · have c5k := c5
            try simp only [decide_eq_true_eq, decide_eq_false_iff_not, Int.not_lt, Int.not_le, gt_iff_lt, ge_iff_le, Bool.or_eq_true, Bool.and_eq_true, Bool.or_eq_false_iff, Bool.and_eq_false_iff, Bool.not_eq_true', Bool.not_eq_false', Int.toNat_natCast, bne_iff_ne, beq_iff_eq, bne_eq_false_iff_eq, beq_eq_false_iff_ne, ne_eq] at c5
            refine .skip ?_
            refine .code ?_
            refine .seq ?_
            refine .block ?_
            refine .seq ?_
            refine Wk.rg [0, 1, 2, 3] rfl rfl ?_
            refine ih rfl .no Fx.se31 (.u rfl) (.u rfl) (fun _ => by omega) (fun _ => by omega) (fun _ => hs91.nn (k := j) (by first | omega | (simp only [Bool.and_eq_true, decide_eq_true_eq] at hc; omega) | (simp only [List.length_cons, List.length_nil]; omega))) ?_
            obtain ⟨z, ez⟩ := getx (k := j) (xs := L91) (by omega)
            refine lA rfl .no Fx.ag43 (.u rfl) (fun _ => (hs91.at (by omega) ez).rd) (fun _ => Ent.len _) ?_
            refine al rfl Fx.zq43 ?_; intro b23
            refine sw rfl (.u rfl) (.u rfl) rfl Fx.sz43 .here (by first | exact (key_len _ _).trans (key_len _ _).symm | exact key_len _ _ | exact ba_len _ _ | exact Ent.len _ | rfl) (Ent.one _) ?_
            refine .nil ?_
            refine .code ?_
            refine Wk.rg [0, 1, 2, 3, 4, 5] rfl rfl ?_
            refine mv rfl .no (.u rfl) ?_
            refine fz rfl .no Fx.fo43_0 (.u rfl) ?_
            refine ld rfl .no Fx.ag9 (.u rfl) (fun _ => Rd.own .here (by first | exact wap_f rfl | rfl)) ?_
            refine Go.Tan.b1 rfl Fx.se74 Fx.zv9 (.u rfl) rfl rfl (by decide) ?_; intro b139
            refine apS (xs := U2) (z.user) rfl Fx.se74 Fx.zv9 rfl (.u rfl) (.u rfl) (.there (.there .here)) .here (rfl) (one1 rfl) (by omega) (by unfold maxLen; omega) ?_; intro v140 ov140
            refine asg rfl .no (.u rfl) ?_
            refine .nil ?_
            refine .blk ?_
            refine .code ?_
            refine Wk.rg [0, 1] rfl rfl ?_
            refine arn (((j + 1) : Nat) : Int) rfl .no (.u rfl) (.u rfl) rfl (fun _ => by omega) (fun _ => wrap_i64 (by omega) (by omega)) ?_
            refine mv rfl .no (.u rfl) ?_
            refine .nil ?_
            refine We.lpo (j + 1, v140, U2 ++ [z.user]) ?_ ?_ ?_ ?_ ?_
            · exact (ESub.cons rfl rfl (ESub.cons rfl (by first | rfl | exact evi (by omega)) (ESub.cons rfl rfl (ESub.cons rfl rfl (ESub.cons rfl rfl (ESub.cons rfl rfl (ESub.cons rfl rfl (ESub.cons rfl rfl (ESub.cons rfl rfl (ESub.cons rfl rfl (ESub.cons rfl rfl (ESub.cons rfl rfl ESub.nil))))))))))))
            · exact (MSub.cons .here rfl (MSub.cons (.there (.there .here)) rfl (MSub.cons (.there (.there .here)) rfl (MSub.cons (.there (.there .here)) rfl (MSub.cons (.there (.there .here)) rfl (MSub.cons (.there (.there .here)) rfl (MSub.cons (.there (.there .here)) rfl MSub.nil)))))))
            · first | omega | (dsimp only; omega)
            · exact hGl1
            · refine ⟨?_, ?_⟩
              · (try dsimp only) <;> (first | omega | rfl | assumption | (simp; done))
              · (try dsimp only) <;> (rw [eU2, us_snoc ez])
          · have c5k := c5
            try simp only [decide_eq_true_eq, decide_eq_false_iff_not, Int.not_lt, Int.not_le, gt_iff_lt, ge_iff_le, Bool.or_eq_true, Bool.and_eq_true, Bool.or_eq_false_iff, Bool.and_eq_false_iff, Bool.not_eq_true', Bool.not_eq_false', Int.toNat_natCast, bne_iff_ne, beq_iff_eq, bne_eq_false_iff_eq, beq_eq_false_iff_ne, ne_eq] at c5
            refine .exit ?_
            refine .xcode ?_
            refine .xlp ?_
            refine .xblk ?_
            refine .code ?_
            refine .seq ?_
            refine Wk.rg [0, 1, 2, 3, 4, 5] rfl rfl ?_
            refine mv rfl .no (.u rfl) ?_
            refine nc rfl .no (.u rfl) ?_
            refine fz rfl .no Fx.fo73_2 (.u rfl) ?_
            refine ld rfl .no Fx.ag36 (.u rfl) (fun _ => Rd.own (.there (.there .here)) wrc_out) ?_
            refine lr rfl .no Fx.sn36 (.u rfl) (.there (.there (.there .here))) ?_
            refine cp rfl .no (.u rfl) (.u rfl) rfl ?_
            refine .nil ?_
            refine .code ?_
            refine .cond rfl (fun c6 => ?_) (fun c6 => ?_)
            · have c6k := c6
              first | exact absurd c6 (by decide) | (simp at c6; done) | (exfalso; simp only [decide_eq_true_eq, gt_iff_lt] at c6; omega)
            · have c6k := c6
              try simp only [decide_eq_true_eq, decide_eq_false_iff_not, Int.not_lt, Int.not_le, gt_iff_lt, ge_iff_le, Bool.or_eq_true, Bool.and_eq_true, Bool.or_eq_false_iff, Bool.and_eq_false_iff, Bool.not_eq_true', Bool.not_eq_false', Int.toNat_natCast, bne_iff_ne, beq_iff_eq, bne_eq_false_iff_eq, beq_eq_false_iff_ne, ne_eq] at c6
              refine .skip ?_
              refine .blk ?_
              refine .code ?_
              refine Wk.rg [0, 1, 2] rfl rfl ?_
              refine mv rfl .no (.u rfl) ?_
              refine arn (((k + 1) : Nat) : Int) rfl .no (.u rfl) (.u rfl) rfl (fun _ => by omega) (fun _ => wrap_i64 (by omega) (by omega)) ?_
              refine asg rfl .no (.u rfl) ?_
              refine .nil ?_
              have hX : X128 = (tabOf root h l blk every bits).prt k := tb_prt (t := (tabOf root h l blk every bits)) hLk (by rw [eX128, eL74, eL99]; rfl)
              refine We.lpo (k + 1, L94, h94, v129, L129, w, U2, vo128, O128, vl128, D128) ?_ ?_ ?_ ?_ ?_
              · exact (ESub.cons rfl rfl (ESub.cons rfl (by first | rfl | exact evi (by omega)) (ESub.cons rfl rfl (ESub.cons rfl rfl (ESub.cons rfl rfl (ESub.cons rfl rfl (ESub.cons rfl rfl (ESub.cons rfl rfl (ESub.cons rfl rfl ESub.nil)))))))))
              · exact (MSub.cons .here rfl (MSub.cons .here rfl (MSub.cons (.there (.there .here)) rfl (MSub.cons .here rfl (MSub.cons .here rfl (MSub.cons (.there .here) rfl MSub.nil))))))
              · first | omega | (dsimp only; omega)
              · exact ((((((hGl0).trans hG99).trans hleR99).trans hleRW).trans hG123).trans hG128).trans hGl1
              · refine ⟨?_, ?_, ?_, ?_, ?_, ?_, ?_⟩
                · (try dsimp only) <;> (first | omega | rfl | assumption | (simp; done))
                · (try dsimp only) <;> (exact hR94)
                · (try dsimp only) <;> (exact tb_out (t := (tabOf root h l blk every bits)) eO hX eO128)
                · (try dsimp only) <;> (exact tb_row (t := (tabOf root h l blk every bits)) eR hX eW128 (by rw [yb_bstr]; exact tb_bnd1 hkc hLk hR94 (by omega) ex ey) eL123 eL129)
                · (try dsimp only) <;> (exact tb_lvs (t := (tabOf root h l blk every bits)) eD hX eD128)
                · (try dsimp only) <;> (rw [eU2, show j = L91.length by omega, List.take_length]; exact tb_usr (t := (tabOf root h l blk every bits)) hkc hLk eU)
                · (try dsimp only) <;> (exact hs94)
        · have c4k := c4
          try simp only [decide_eq_true_eq, decide_eq_false_iff_not, Int.not_lt, Int.not_le, gt_iff_lt, ge_iff_le, Bool.or_eq_true, Bool.and_eq_true, Bool.or_eq_false_iff, Bool.and_eq_false_iff, Bool.not_eq_true', Bool.not_eq_false', Int.toNat_natCast, bne_iff_ne, beq_iff_eq, bne_eq_false_iff_eq, beq_eq_false_iff_ne, ne_eq] at c4
          refine .skip ?_
          refine .code ?_
          refine .seq ?_
          refine wk_fb .here (by first | (intro b hb; cases hb; done) | simp [keys, Res.keys]) ?_; intro GfR99 hR99 hleR99 evR99 hsR99; subst evR99
          have hs := hs.mono hleR99
          have hK := hK.mono hleR99
          have hbb4 := hbb4.mono hleR99
          have hbb5 := hbb5.mono hleR99
          have hbb7 := hbb7.mono hleR99
          have hs74 := hs74.mono hleR99
          have hsr := hsr.mono hleR99
          have hs91 := hs91.mono hleR99
          have hs94 := hs94.mono hleR99
          refine wk_fb (.there .here) (by first | (intro b hb; cases hb; done) | simp [keys, Res.keys]) ?_; intro GfRW hRW hleRW evRW hsRW; subst evRW
          have hs := hs.mono hleRW
          have hK := hK.mono hleRW
          have hbb4 := hbb4.mono hleRW
          have hbb5 := hbb5.mono hleRW
          have hbb7 := hbb7.mono hleRW
          have hs74 := hs74.mono hleRW
          have hsr := hsr.mono hleRW
          have hs91 := hs91.mono hleRW
          have hs94 := hs94.mono hleRW
          have hsR99 := hsR99.mono hleRW
          refine Wk.rg [0, 1, 2, 3, 4, 5, 6, 7, 8, 9] rfl rfl ?_
          refine mv rfl .no (.u rfl) ?_
          refine mv rfl .no (.u rfl) ?_
          refine kc rfl Fx.go27 (Eva.cons (.u rfl) (Eva.cons (.u rfl) Eva.nil)) (Ct.rowc (Str_ok RW hRW _ hsRW _ (by first | omega | (rw [bstr_len]; omega)))) ?_
          rintro v123 G123 μ123 hG123 ⟨L123, ov123, eL123, rfl⟩
          have hs := hs.mono hG123
          have hK := hK.mono hG123
          have hbb4 := hbb4.mono hG123
          have hbb5 := hbb5.mono hG123
          have hbb7 := hbb7.mono hG123
          have hs74 := hs74.mono hG123
          have hsr := hsr.mono hG123
          have hs91 := hs91.mono hG123
          have hs94 := hs94.mono hG123
          have hsR99 := hsR99.mono hG123
          have hsRW := hsRW.mono hG123
          refine mv rfl .no (.u rfl) ?_
          refine mv rfl .no (.u rfl) ?_
          refine arn (((2 + k) : Nat) : Int) rfl .no (.u rfl) (.u rfl) rfl (fun _ => by omega) (fun _ => wrap_i64 (by omega) (by omega)) ?_
          refine mv rfl .no (.u rfl) ?_
          refine ka rfl (.inr rfl) Fx.go28 (Eva.cons (.u rfl) (Eva.cons (.u rfl) (Eva.cons (.u rfl) Eva.nil))) (mtk3 (.there (.there (.there .here))) (.there (.there (.there .here))) (.there (.there .here))) (tPut_ok (keyEnc root (headL h)) (keyMac root (headL h)) L74 h74 O D vo vl b78 (2 + k) L99 hR99 _ hs74 hsR99 hK (by rw [eL74, head_len]; decide) (by omega) (by omega) (by omega) (by omega)) ?_
          rintro _ G128 μ128 hG128 ⟨X128, O128, W128, D128, vo128, vl128, bb128, cap128, eX128, eO128, eD128, eW128, rfl, rfl⟩
          have lX128 : X128.length = L99.length + 16 := by rw [eX128, seal_len]
          have lO128 : O128.length = O.length + X128.length := by rw [eO128, List.length_append]
          have lD128 : D128.length = D.length + 1 := by rw [eD128, List.length_append]; rfl
          have hs := hs.mono hG128
          have hK := hK.mono hG128
          have hbb4 := hbb4.mono hG128
          have hbb5 := hbb5.mono hG128
          have hbb7 := hbb7.mono hG128
          have hs74 := hs74.mono hG128
          have hsr := hsr.mono hG128
          have hs91 := hs91.mono hG128
          have hs94 := hs94.mono hG128
          have hsR99 := hsR99.mono hG128
          have hsRW := hsRW.mono hG128
          have lL123 := str_bd eL123 (by first | omega | (rw [bstr_len]; omega))
          have lW128 := row_bd eW128 (by omega)
          refine apY rfl Fx.se36 Fx.zv5 (.u rfl) (.u rfl) (.there (.there (.there (.there .here)))) (Sc.row (.there (.there (.there .here)))) (by (try simp only [List.length_append, List.length_cons, List.length_nil, yl_len]); omega) ?_
          intro v129 L129 ov129 eL129
          have lL129 : L129.length = L123.length + W128.length := by rw [eL129, List.length_append]
          refine asg rfl .no (.u rfl) ?_
          refine .nil ?_
          refine .code ?_
          refine .seq ?_
          refine .seq ?_
          refine Wk.rg [0, 1, 2] rfl rfl ?_
          refine mv rfl .no (.u rfl) ?_
          refine ln rfl .no Fx.sn31 (.u rfl) ?_
          refine mv rfl .no (.u rfl) ?_
          refine .nil ?_
          refine .code ?_
          refine .block ?_
          refine Wk.lop (α := Nat × Value × List ByteArray) (fun gh => [(15, true, gh.2.1), (132, true, .int .i64 (gh.1 : Int))]) (fun gh => [rS 1 encT gh.2.1 9 gh.2.2])
            (fun gh Gl => (gh.1 ≤ L91.length) ∧ (gh.2.2 = US ++ (L91.take gh.1).map (·.user))) (fun gh => L91.length - gh.1) (0, vu, US) [(2, true, _), (5, true, _), (7, true, _), (9, true, _), (12, true, _), (13, true, _), (14, true, _), (16, true, _), (130, true, _), (131, true, _)] [_, _, _, _, _, _]
            (ESub.cons rfl rfl (ESub.cons rfl (by first | rfl | exact evi (by omega)) (ESub.cons rfl rfl (ESub.cons rfl rfl (ESub.cons rfl rfl (ESub.cons rfl rfl (ESub.cons rfl rfl (ESub.cons rfl rfl (ESub.cons rfl rfl (ESub.cons rfl rfl (ESub.cons rfl rfl (ESub.cons rfl rfl ESub.nil))))))))))))
            (MSub.cons (.there (.there (.there (.there (.there .here))))) rfl (MSub.cons .here rfl (MSub.cons .here rfl (MSub.cons .here rfl (MSub.cons .here rfl (MSub.cons .here rfl (MSub.cons .here rfl MSub.nil))))))) ?_ ?_
          · refine ⟨?_, ?_⟩
            · (try dsimp only) <;> (first | omega | rfl | assumption | (simp; done))
            · (try dsimp only) <;> (simp)
          intro gh N2 Gl2 hN2 hGl2 hF2
          obtain ⟨j, w, U2⟩ := gh; dsimp only at hF2 hN2 ⊢
          obtain ⟨hj, eU2⟩ := hF2
          have hs := hs.mono hGl2
          have hK := hK.mono hGl2
          have hbb4 := hbb4.mono hGl2
          have hbb5 := hbb5.mono hGl2
          have hbb7 := hbb7.mono hGl2
          have hs74 := hs74.mono hGl2
          have hsr := hsr.mono hGl2
          have hs91 := hs91.mono hGl2
          have hs94 := hs94.mono hGl2
          have hsR99 := hsR99.mono hGl2
          have hsRW := hsRW.mono hGl2
          have lU2 : U2.length ≤ 600 := by rw [eU2, List.length_append, List.length_map, List.length_take]; omega
          refine .seq ?_
          refine Wk.rg [0] rfl rfl ?_
          refine cp rfl .no (.u rfl) (.u rfl) rfl ?_
          refine .nil ?_
          refine .code ?_
          refine .seq ?_
          refine .cond rfl (fun c7 => ?_) (fun c7 => ?_)
          · have c7k := c7
            try simp only [decide_eq_true_eq, decide_eq_false_iff_not, Int.not_lt, Int.not_le, gt_iff_lt, ge_iff_le, Bool.or_eq_true, Bool.and_eq_true, Bool.or_eq_false_iff, Bool.and_eq_false_iff, Bool.not_eq_true', Bool.not_eq_false', Int.toNat_natCast, bne_iff_ne, beq_iff_eq, bne_eq_false_iff_eq, beq_eq_false_iff_ne, ne_eq] at c7
            refine .skip ?_
            refine .code ?_
            refine .seq ?_
            refine .block ?_
            refine .seq ?_
            refine Wk.rg [0, 1, 2, 3] rfl rfl ?_
            refine ih rfl .no Fx.se31 (.u rfl) (.u rfl) (fun _ => by omega) (fun _ => by omega) (fun _ => hs91.nn (k := j) (by first | omega | (simp only [Bool.and_eq_true, decide_eq_true_eq] at hc; omega) | (simp only [List.length_cons, List.length_nil]; omega))) ?_
            obtain ⟨z, ez⟩ := getx (k := j) (xs := L91) (by omega)
            refine lA rfl .no Fx.ag43 (.u rfl) (fun _ => (hs91.at (by omega) ez).rd) (fun _ => Ent.len _) ?_
            refine al rfl Fx.zq43 ?_; intro b23
            refine sw rfl (.u rfl) (.u rfl) rfl Fx.sz43 .here (by first | exact (key_len _ _).trans (key_len _ _).symm | exact key_len _ _ | exact ba_len _ _ | exact Ent.len _ | rfl) (Ent.one _) ?_
            refine .nil ?_
            refine .code ?_
            refine Wk.rg [0, 1, 2, 3, 4, 5] rfl rfl ?_
            refine mv rfl .no (.u rfl) ?_
            refine fz rfl .no Fx.fo43_0 (.u rfl) ?_
            refine ld rfl .no Fx.ag9 (.u rfl) (fun _ => Rd.own .here (by first | exact wap_f rfl | rfl)) ?_
            refine Go.Tan.b1 rfl Fx.se74 Fx.zv9 (.u rfl) rfl rfl (by decide) ?_; intro b139
            refine apS (xs := U2) (z.user) rfl Fx.se74 Fx.zv9 rfl (.u rfl) (.u rfl) (.there (.there .here)) .here (rfl) (one1 rfl) (by omega) (by unfold maxLen; omega) ?_; intro v140 ov140
            refine asg rfl .no (.u rfl) ?_
            refine .nil ?_
            refine .blk ?_
            refine .code ?_
            refine Wk.rg [0, 1] rfl rfl ?_
            refine arn (((j + 1) : Nat) : Int) rfl .no (.u rfl) (.u rfl) rfl (fun _ => by omega) (fun _ => wrap_i64 (by omega) (by omega)) ?_
            refine mv rfl .no (.u rfl) ?_
            refine .nil ?_
            refine We.lpo (j + 1, v140, U2 ++ [z.user]) ?_ ?_ ?_ ?_ ?_
            · exact (ESub.cons rfl rfl (ESub.cons rfl (by first | rfl | exact evi (by omega)) (ESub.cons rfl rfl (ESub.cons rfl rfl (ESub.cons rfl rfl (ESub.cons rfl rfl (ESub.cons rfl rfl (ESub.cons rfl rfl (ESub.cons rfl rfl (ESub.cons rfl rfl (ESub.cons rfl rfl (ESub.cons rfl rfl ESub.nil))))))))))))
            · exact (MSub.cons .here rfl (MSub.cons (.there (.there .here)) rfl (MSub.cons (.there (.there .here)) rfl (MSub.cons (.there (.there .here)) rfl (MSub.cons (.there (.there .here)) rfl (MSub.cons (.there (.there .here)) rfl (MSub.cons (.there (.there .here)) rfl MSub.nil)))))))
            · first | omega | (dsimp only; omega)
            · exact hGl2
            · refine ⟨?_, ?_⟩
              · (try dsimp only) <;> (first | omega | rfl | assumption | (simp; done))
              · (try dsimp only) <;> (rw [eU2, us_snoc ez])
          · have c7k := c7
            try simp only [decide_eq_true_eq, decide_eq_false_iff_not, Int.not_lt, Int.not_le, gt_iff_lt, ge_iff_le, Bool.or_eq_true, Bool.and_eq_true, Bool.or_eq_false_iff, Bool.and_eq_false_iff, Bool.not_eq_true', Bool.not_eq_false', Int.toNat_natCast, bne_iff_ne, beq_iff_eq, bne_eq_false_iff_eq, beq_eq_false_iff_ne, ne_eq] at c7
            refine .exit ?_
            refine .xcode ?_
            refine .xlp ?_
            refine .xblk ?_
            refine .code ?_
            refine .seq ?_
            refine Wk.rg [0, 1, 2, 3, 4, 5] rfl rfl ?_
            refine mv rfl .no (.u rfl) ?_
            refine nc rfl .no (.u rfl) ?_
            refine fz rfl .no Fx.fo73_2 (.u rfl) ?_
            refine ld rfl .no Fx.ag36 (.u rfl) (fun _ => Rd.own (.there (.there .here)) wrc_out) ?_
            refine lr rfl .no Fx.sn36 (.u rfl) (.there (.there (.there .here))) ?_
            refine cp rfl .no (.u rfl) (.u rfl) rfl ?_
            refine .nil ?_
            refine .code ?_
            refine .cond rfl (fun c8 => ?_) (fun c8 => ?_)
            · have c8k := c8
              first | exact absurd c8 (by decide) | (simp at c8; done) | (exfalso; simp only [decide_eq_true_eq, gt_iff_lt] at c8; omega)
            · have c8k := c8
              try simp only [decide_eq_true_eq, decide_eq_false_iff_not, Int.not_lt, Int.not_le, gt_iff_lt, ge_iff_le, Bool.or_eq_true, Bool.and_eq_true, Bool.or_eq_false_iff, Bool.and_eq_false_iff, Bool.not_eq_true', Bool.not_eq_false', Int.toNat_natCast, bne_iff_ne, beq_iff_eq, bne_eq_false_iff_eq, beq_eq_false_iff_ne, ne_eq] at c8
              refine .skip ?_
              refine .blk ?_
              refine .code ?_
              refine Wk.rg [0, 1, 2] rfl rfl ?_
              refine mv rfl .no (.u rfl) ?_
              refine arn (((k + 1) : Nat) : Int) rfl .no (.u rfl) (.u rfl) rfl (fun _ => by omega) (fun _ => wrap_i64 (by omega) (by omega)) ?_
              refine asg rfl .no (.u rfl) ?_
              refine .nil ?_
              have hX : X128 = (tabOf root h l blk every bits).prt k := tb_prt (t := (tabOf root h l blk every bits)) hLk (by rw [eX128, eL74, eL99]; rfl)
              refine We.lpo (k + 1, L94, h94, v129, L129, w, U2, vo128, O128, vl128, D128) ?_ ?_ ?_ ?_ ?_
              · exact (ESub.cons rfl rfl (ESub.cons rfl (by first | rfl | exact evi (by omega)) (ESub.cons rfl rfl (ESub.cons rfl rfl (ESub.cons rfl rfl (ESub.cons rfl rfl (ESub.cons rfl rfl (ESub.cons rfl rfl (ESub.cons rfl rfl ESub.nil)))))))))
              · exact (MSub.cons .here rfl (MSub.cons .here rfl (MSub.cons (.there (.there .here)) rfl (MSub.cons .here rfl (MSub.cons .here rfl (MSub.cons (.there .here) rfl MSub.nil))))))
              · first | omega | (dsimp only; omega)
              · exact ((((((hGl0).trans hG99).trans hleR99).trans hleRW).trans hG123).trans hG128).trans hGl2
              · refine ⟨?_, ?_, ?_, ?_, ?_, ?_, ?_⟩
                · (try dsimp only) <;> (first | omega | rfl | assumption | (simp; done))
                · (try dsimp only) <;> (exact hR94)
                · (try dsimp only) <;> (exact tb_out (t := (tabOf root h l blk every bits)) eO hX eO128)
                · (try dsimp only) <;> (exact tb_row (t := (tabOf root h l blk every bits)) eR hX eW128 (tb_bnd0 hLk hR94 (by omega) ex) eL123 eL129)
                · (try dsimp only) <;> (exact tb_lvs (t := (tabOf root h l blk every bits)) eD hX eD128)
                · (try dsimp only) <;> (rw [eU2, show j = L91.length by omega, List.take_length]; exact tb_usr (t := (tabOf root h l blk every bits)) hkc hLk eU)
                · (try dsimp only) <;> (exact hs94)
    · have c2k := c2
      try simp only [decide_eq_true_eq, decide_eq_false_iff_not, Int.not_lt, Int.not_le, gt_iff_lt, ge_iff_le, Bool.or_eq_true, Bool.and_eq_true, Bool.or_eq_false_iff, Bool.and_eq_false_iff, Bool.not_eq_true', Bool.not_eq_false', Int.toNat_natCast, bne_iff_ne, beq_iff_eq, bne_eq_false_iff_eq, beq_eq_false_iff_ne, ne_eq] at c2
      refine .exit ?_
      refine .xcode ?_
      refine .xlp ?_
      refine .xblk ?_
      refine .code ?_
      refine .seq ?_
      have hke := cuts_end hrest (List.eq_nil_of_length_eq_zero (by omega))
      obtain rfl : k = (cutsE blk l).length := by omega
      have eUS := tb_all (Nat.le_refl _) eU
      have lcm := cmp_len US
      refine Wk.mixp ⟨true, false⟩ Fx.mix (by kernel_rfl) ?_
      refine Wp.one 0 (by kernel_rfl) ?_
      refine mv rfl .no (.u rfl) ?_
      refine .nil ?_
      refine Wp.one 1 (by kernel_rfl) ?_
      refine mv rfl .no (.u rfl) ?_
      refine .nil ?_
      refine Wp.one 2 (by kernel_rfl) ?_
      refine mv rfl .no (.u rfl) ?_
      refine .nil ?_
      refine Wp.one 4 (by kernel_rfl) ?_
      refine fa rfl .no Fx.fo28_2 (.u rfl) ?_
      refine .nil ?_
      refine Wp.pr 5 (by kernel_rfl) ?_
      refine ld rfl .no Fx.ag3 (.u rfl) (fun _ => (hbb7.rd (by rfl)).rd) ?_
      refine .nil ⟨⟨rfl, rfl⟩, ?_⟩
      refine Wp.b1 3 (by kernel_rfl) ?_
      refine ka rfl (.inl rfl) Fx.go30 (Eva.cons (.u rfl) Eva.nil) (mtk1 .here) (compact_ok US vu _ (by omega)) ?_
      rintro _ G152 μ152 hG152 ⟨vu2, rfl, rfl⟩
      have hs := hs.mono hG152
      have hK := hK.mono hG152
      have hbb4 := hbb4.mono hG152
      have hbb5 := hbb5.mono hG152
      have hbb7 := hbb7.mono hG152
      have hs74 := hs74.mono hG152
      have hsr := hsr.mono hG152
      refine .nil ?_
      refine Wp.b1 6 (by kernel_rfl) ?_
      refine ka rfl (.inl rfl) Fx.go29 (Eva.cons (.u rfl) (Eva.cons (.u rfl) Eva.nil)) (mtk1 .here) (Ct.lendS (encT_len _) (fun hu G2 hle hv hs => by subst hv; exact make_ok hu (cmpU US) bits G2 hs (by omega) (by rw [eUS]; exact usr_sz hli))) ?_
      rintro v155 G155 μ155 hG155 ⟨_, rfl, L155, eL155, rfl⟩
      have lM : L155.length ≤ 2500 := by rw [eL155, makeB_len]; have h3 := perB_le bits; have h4 : (cmpU US).length * perB bits ≤ 300 * 64 := Nat.mul_le_mul (by omega) h3.2; omega
      have hs := hs.mono hG155
      have hK := hK.mono hG155
      have hbb4 := hbb4.mono hG155
      have hbb5 := hbb5.mono hG155
      have hbb7 := hbb7.mono hG155
      have hs74 := hs74.mono hG155
      have hsr := hsr.mono hG155
      refine .nil ?_
      refine Wp.b1 7 (by kernel_rfl) ?_
      refine ka rfl (.inl rfl) Fx.go28 (Eva.cons (.u rfl) (Eva.cons (.u rfl) (Eva.cons (.u rfl) Eva.nil))) (mtk4 (.there .here) (.there (.there (.there .here))) (.there (.there (.there .here))) (.there (.there .here))) (tPut_row (keyEnc root (headL h)) (keyMac root (headL h)) L74 h74 O D vo vl b78 1 L155 v155 _ hs74 hK (by rw [eL74, head_len]; decide) (by omega) (by omega) (by omega) (by omega)) ?_
      rintro _ G156 μ156 hG156 ⟨_, rfl, X156, O156, W156, D156, vo156, vl156, bb156, cap156, eX156, eO156, eD156, eW156, rfl, rfl⟩
      have lX156 : X156.length = L155.length + 16 := by rw [eX156, seal_len]
      have lO156 : O156.length = O.length + X156.length := by rw [eO156, List.length_append]
      have lD156 : D156.length = D.length + 1 := by rw [eD156, List.length_append]; rfl
      have hs := hs.mono hG156
      have hK := hK.mono hG156
      have hbb4 := hbb4.mono hG156
      have hbb5 := hbb5.mono hG156
      have hbb7 := hbb7.mono hG156
      have hs74 := hs74.mono hG156
      have hsr := hsr.mono hG156
      refine .nil ?_
      refine Wp.b1 8 (by kernel_rfl) ?_
      have lW156 := row_bd eW156 (by omega)
      refine apY rfl Fx.se36 Fx.zv5 (.u rfl) (.u rfl) (.there (.there (.there (.there (.there (.there .here)))))) (Sc.row (.there (.there (.there (.there .here))))) (by (try simp only [List.length_append, List.length_cons, List.length_nil, yl_len]); omega) ?_
      intro v157 L157 ov157 eL157
      have lL157 : L157.length = RW.length + W156.length := by rw [eL157, List.length_append]
      refine .nil ?_
      refine Wp.one 9 (by kernel_rfl) ?_
      refine asg rfl .no (.u rfl) ?_
      refine .nil ?_
      refine Wp.last (by kernel_rfl) ?_
      refine .code ?_
      refine .seq ?_
      refine Wk.rg [0, 1, 2, 3, 4, 5] rfl rfl ?_
      refine mv rfl .no (.u rfl) ?_
      refine nc rfl .no (.u rfl) ?_
      refine fz rfl .no Fx.fo73_2 (.u rfl) ?_
      refine ld rfl .no Fx.ag36 (.u rfl) (fun _ => Rd.own (.there (.there .here)) wrc_out) ?_
      refine lr rfl .no Fx.sn36 (.u rfl) (.there (.there (.there .here))) ?_
      refine asg rfl .no (.u rfl) ?_
      refine .nil ?_
      refine .code ?_
      refine .seq ?_
      refine wk_rv .here (by omega) ?_; intro bbRW capRW evRW lcRW; subst evRW
      refine Wk.rg [0, 1, 2, 3, 4, 5, 6] rfl rfl ?_
      refine mv rfl .no (.u rfl) ?_
      refine mv rfl .no (.u rfl) ?_
      refine ci rfl .no rfl Fx.cv3_24 (.u rfl) ?_
      refine kc rfl Fx.go31 (Eva.cons (.u rfl) (Eva.cons (.u rfl) Eva.nil)) (Ct.rowc (Num_ok [] ⟨none, 0⟩ _ SlR.nul _ (Nat.zero_le _))) ?_
      rintro v166 G166 μ166 hG166 ⟨L166, ov166, eL166, rfl⟩
      have hs := hs.mono hG166
      have hK := hK.mono hG166
      have hbb4 := hbb4.mono hG166
      have hbb5 := hbb5.mono hG166
      have hbb7 := hbb7.mono hG166
      have hs74 := hs74.mono hG166
      have hsr := hsr.mono hG166
      refine mv rfl .no (.u rfl) ?_
      have lL166 := nm0 eL166
      refine apY rfl Fx.se36 Fx.zv5 (.u rfl) (.u rfl) .here (Sc.row (.there .here)) (by (try simp only [List.length_append, List.length_cons, List.length_nil, yl_len]); omega) ?_
      intro v168 L168 ov168 eL168
      have lL168 : L168.length = L166.length + L157.length := by rw [eL168, List.length_append]
      refine ka rfl (.inr rfl) Fx.go28 (Eva.cons (.u rfl) (Eva.cons (.u rfl) (Eva.cons (.u rfl) Eva.nil))) (mtk4 .here (.there (.there .here)) (.there (.there .here)) (.there (.there .here))) (tPut_row (keyEnc root (headL h)) (keyMac root (headL h)) L74 h74 O156 D156 vo156 vl156 b78 0 L168 v168 _ hs74 hK (by rw [eL74, head_len]; decide) (by omega) (by omega) (by omega) (by omega)) ?_
      rintro _ G169 μ169 hG169 ⟨_, rfl, X169, O169, W169, D169, vo169, vl169, bb169, cap169, eX169, eO169, eD169, eW169, rfl, rfl⟩
      have lX169 : X169.length = L168.length + 16 := by rw [eX169, seal_len]
      have lO169 : O169.length = O156.length + X169.length := by rw [eO169, List.length_append]
      have lD169 : D169.length = D156.length + 1 := by rw [eD169, List.length_append]; rfl
      have hs := hs.mono hG169
      have hK := hK.mono hG169
      have hbb4 := hbb4.mono hG169
      have hbb5 := hbb5.mono hG169
      have hbb7 := hbb7.mono hG169
      have hs74 := hs74.mono hG169
      have hsr := hsr.mono hG169
      refine .nil ?_
      refine .code ?_
      refine .seq ?_
      refine wk_fb (.there (.there .here)) (by first | (intro b hb; cases hb; done) | simp [keys, Res.keys]) ?_; intro GfR76 hR76 hleR76 evR76 hsR76; subst evR76
      have hs := hs.mono hleR76
      have hK := hK.mono hleR76
      have hbb4 := hbb4.mono hleR76
      have hbb5 := hbb5.mono hleR76
      have hbb7 := hbb7.mono hleR76
      have hs74 := hs74.mono hleR76
      have hsr := hsr.mono hleR76
      refine Wk.mixp ⟨true, false⟩ Fx.mix (by kernel_rfl) ?_
      refine Wp.one 0 (by kernel_rfl) ?_
      refine mv rfl .no (.u rfl) ?_
      refine .nil ?_
      refine Wp.one 1 (by kernel_rfl) ?_
      refine nc rfl .no (.u rfl) ?_
      refine .nil ?_
      refine Wp.one 2 (by kernel_rfl) ?_
      refine fz rfl .no Fx.fo73_2 (.u rfl) ?_
      refine .nil ?_
      refine Wp.one 3 (by kernel_rfl) ?_
      refine ld rfl .no Fx.ag36 (.u rfl) (fun _ => Rd.own (.there .here) wrc_out) ?_
      refine .nil ?_
      refine Wp.one 4 (by kernel_rfl) ?_
      refine mv rfl .no (.u rfl) ?_
      refine .nil ?_
      refine Wp.one 5 (by kernel_rfl) ?_
      refine nc rfl .no (.u rfl) ?_
      refine .nil ?_
      refine Wp.one 6 (by kernel_rfl) ?_
      refine fz rfl .no Fx.fo73_2 (.u rfl) ?_
      refine .nil ?_
      refine Wp.one 7 (by kernel_rfl) ?_
      refine ld rfl .no Fx.ag36 (.u rfl) (fun _ => Rd.own (.there .here) wrc_out) ?_
      refine .nil ?_
      refine Wp.one 8 (by kernel_rfl) ?_
      refine ln rfl .no Fx.sn36 (.u rfl) ?_
      refine .nil ?_
      refine Wp.one 9 (by kernel_rfl) ?_
      refine mv rfl .no (.u rfl) ?_
      refine .nil ?_
      refine Wp.one 10 (by kernel_rfl) ?_
      refine ar rfl .no (.u rfl) (.u rfl) rfl (fun _ => wrap_i64 (by omega) (by omega)) ?_
      refine .nil ?_
      refine Wp.one 11 (by kernel_rfl) ?_
      refine ci rfl .no rfl Fx.cv3_24 (.u rfl) ?_
      refine .nil ?_
      refine Wp.b1 12 (by kernel_rfl) ?_
      refine kc rfl Fx.go32 (Eva.cons (.u rfl) (Eva.cons (.u rfl) (Eva.cons (.u rfl) Eva.nil))) (Ct.rowc (Fix_ok O169 hR76 _ 8 _ hsR76 (by omega) (by decide))) ?_
      rintro v182 G182 μ182 hG182 ⟨L182, ov182, eL182, rfl⟩
      have hs := hs.mono hG182
      have hK := hK.mono hG182
      have hbb4 := hbb4.mono hG182
      have hbb5 := hbb5.mono hG182
      have hbb7 := hbb7.mono hG182
      have hs74 := hs74.mono hG182
      have hsr := hsr.mono hG182
      have hsR76 := hsR76.mono hG182
      refine .nil ?_
      refine Wp.one 13 (by kernel_rfl) ?_
      refine asg rfl .no (.u rfl) ?_
      refine .nil ?_
      refine Wp.last (by kernel_rfl) ?_
      refine .code ?_
      refine .seq ?_
      refine .seq ?_
      have lL182 := fx2 eL182
      refine Wk.rg [0, 1, 2] rfl rfl ?_
      refine mv rfl .no (.u rfl) ?_
      refine lr rfl .no Fx.sn36 (.u rfl) .here ?_
      refine cp rfl .no (.u rfl) (.u rfl) rfl ?_
      refine .nil ?_
      refine .code ?_
      refine .cond rfl (fun c9 => ?_) (fun c9 => ?_)
      · have c9k := c9
        first | exact absurd c9 (by decide) | (simp at c9; done) | (exfalso; simp only [decide_eq_true_eq, gt_iff_lt] at c9; omega)
      · have c9k := c9
        try simp only [decide_eq_true_eq, decide_eq_false_iff_not, Int.not_lt, Int.not_le, gt_iff_lt, ge_iff_le, Bool.or_eq_true, Bool.and_eq_true, Bool.or_eq_false_iff, Bool.and_eq_false_iff, Bool.not_eq_true', Bool.not_eq_false', Int.toNat_natCast, bne_iff_ne, beq_iff_eq, bne_eq_false_iff_eq, beq_eq_false_iff_ne, ne_eq] at c9
        refine .skip ?_
        refine .code ?_
        refine .seq ?_
        refine wk_fs (.there (.there (.there .here))) (fun _ _ => rfl) (by intro b hb; cases hb) ?_; intro GfRD hRD hleRD evRD hsRD; subst evRD
        have hs := hs.mono hleRD
        have hK := hK.mono hleRD
        have hbb4 := hbb4.mono hleRD
        have hbb5 := hbb5.mono hleRD
        have hbb7 := hbb7.mono hleRD
        have hs74 := hs74.mono hleRD
        have hsr := hsr.mono hleRD
        have hsR76 := hsR76.mono hleRD
        refine wk_fz (.there (.there .here)) (by intro b hb; cases hb) ?_; intro Gfb78 hleb78 hbb78
        have hs := hs.mono hleb78
        have hK := hK.mono hleb78
        have hbb4 := hbb4.mono hleb78
        have hbb5 := hbb5.mono hleb78
        have hbb7 := hbb7.mono hleb78
        have hs74 := hs74.mono hleb78
        have hsr := hsr.mono hleb78
        have hsR76 := hsR76.mono hleb78
        have hsRD := hsRD.mono hleb78
        refine wk_fb .here (by first | (intro b hb; cases hb; done) | simp [keys, Res.keys]) ?_; intro GfR182 hR182 hleR182 evR182 hsR182; subst evR182
        have hs := hs.mono hleR182
        have hK := hK.mono hleR182
        have hbb4 := hbb4.mono hleR182
        have hbb5 := hbb5.mono hleR182
        have hbb7 := hbb7.mono hleR182
        have hs74 := hs74.mono hleR182
        have hsr := hsr.mono hleR182
        have hsR76 := hsR76.mono hleR182
        have hsRD := hsRD.mono hleR182
        have hbb78 := hbb78.mono hleR182
        refine Wk.mixp ⟨true, false⟩ Fx.mix (by kernel_rfl) ?_
        refine Wp.one 0 (by kernel_rfl) ?_
        refine mv rfl .no (.u rfl) ?_
        refine .nil ?_
        refine Wp.one 1 (by kernel_rfl) ?_
        refine fa rfl .no Fx.fo26_1 (.u rfl) ?_
        refine .nil ?_
        refine Wp.one 3 (by kernel_rfl) ?_
        refine fa rfl .no Fx.fo26_2 (.u rfl) ?_
        refine .nil ?_
        refine Wp.one 5 (by kernel_rfl) ?_
        refine fa rfl .no Fx.fo26_3 (.u rfl) ?_
        refine .nil ?_
        refine Wp.one 7 (by kernel_rfl) ?_
        refine fa rfl .no Fx.fo26_4 (.u rfl) ?_
        refine .nil ?_
        refine Wp.one 9 (by kernel_rfl) ?_
        refine mv rfl .no (.u rfl) ?_
        refine .nil ?_
        refine Wp.one 11 (by kernel_rfl) ?_
        refine mv rfl .no (.u rfl) ?_
        refine .nil ?_
        refine Wp.one 13 (by kernel_rfl) ?_
        refine mv rfl .no (.u rfl) ?_
        refine .nil ?_
        refine Wp.one 14 (by kernel_rfl) ?_
        obtain ⟨x, ex⟩ := getx (k := 0) (xs := l) (by omega)
        obtain ⟨y, ey⟩ := getx (k := l.length - 1) (xs := l) (by omega)
        refine ih rfl .no Fx.se31 (.u rfl) (.u rfl) (fun _ => by omega) (fun _ => by omega) (fun _ => hs.nn (k := 0) (by first | omega | (simp only [Bool.and_eq_true, decide_eq_true_eq] at hc; omega) | (simp only [List.length_cons, List.length_nil]; omega))) ?_
        refine .nil ?_
        refine Wp.one 15 (by kernel_rfl) ?_
        refine fa rfl .no Fx.fo43_0 (.u rfl) ?_
        refine .nil ?_
        refine Wp.one 17 (by kernel_rfl) ?_
        refine mv rfl .no (.u rfl) ?_
        refine .nil ?_
        refine Wp.one 18 (by kernel_rfl) ?_
        refine mv rfl .no (.u rfl) ?_
        refine .nil ?_
        refine Wp.one 24 (by kernel_rfl) ?_
        refine mv rfl .no (.u rfl) ?_
        refine .nil ?_
        refine Wp.one 25 (by kernel_rfl) ?_
        refine nc rfl .no (.u rfl) ?_
        refine .nil ?_
        refine Wp.one 26 (by kernel_rfl) ?_
        refine fa rfl .no Fx.fo73_3 (.u rfl) ?_
        refine .nil ?_
        refine Wp.one 27 (by kernel_rfl) ?_
        refine ld rfl .no Fx.ag61 (.u rfl) (fun _ => (hbb78.rd (wrc_lvs)).rd) ?_
        refine .nil ?_
        refine Wp.pr 2 (by kernel_rfl) ?_
        refine ld rfl .no Fx.ag5 (.u rfl) (fun _ => (hbb5.rd (by rfl)).rd) ?_
        refine .nil ⟨⟨rfl, rfl⟩, ?_⟩
        refine Wp.pr 4 (by kernel_rfl) ?_
        refine ld rfl .no Fx.ag24 (.u rfl) (fun _ => (hbb5.rd (by rfl)).rd) ?_
        refine .nil ⟨⟨rfl, rfl⟩, ?_⟩
        refine Wp.pr 6 (by kernel_rfl) ?_
        refine ld rfl .no Fx.ag24 (.u rfl) (fun _ => (hbb5.rd (by rfl)).rd) ?_
        refine .nil ⟨⟨rfl, rfl⟩, ?_⟩
        refine Wp.pr 8 (by kernel_rfl) ?_
        refine ld rfl .no Fx.ag24 (.u rfl) (fun _ => (hbb5.rd (by rfl)).rd) ?_
        refine .nil ⟨⟨rfl, rfl⟩, ?_⟩
        refine Wp.pr 10 (by kernel_rfl) ?_
        refine ln rfl .no Fx.sn36 (.u rfl) ?_
        refine .nil ⟨⟨rfl, rfl⟩, ?_⟩
        refine Wp.pr 12 (by kernel_rfl) ?_
        refine ln rfl .no Fx.sn31 (.u rfl) ?_
        refine .nil ⟨⟨rfl, rfl⟩, ?_⟩
        refine Wp.pr 16 (by kernel_rfl) ?_
        refine ld rfl .no Fx.ag9 (.u rfl) (fun _ => (hs.at (by decide) ex 0 _ rfl).rd) ?_
        refine .nil ⟨⟨rfl, rfl⟩, ?_⟩
        refine Wp.pr 19 (by kernel_rfl) ?_
        refine ln rfl .no Fx.sn31 (.u rfl) ?_
        refine .nil ⟨⟨rfl, rfl⟩, ?_⟩
        refine Wp.one 20 (by kernel_rfl) ?_
        refine ar rfl .no (.u rfl) (.u rfl) rfl (fun _ => wrap_i64 (by omega) (by omega)) ?_
        refine .nil ?_
        refine Wp.one 21 (by kernel_rfl) ?_
        refine ih rfl .no Fx.se31 (.u rfl) (.u rfl) (fun _ => by omega) (fun _ => by omega) (fun _ => hs.nn (k := ((((l.length : Nat) : Int) - (1 : Int))).toNat) (by first | omega | (simp only [Bool.and_eq_true, decide_eq_true_eq] at hc; omega) | (simp only [List.length_cons, List.length_nil]; omega))) ?_
        refine .nil ?_
        refine Wp.one 22 (by kernel_rfl) ?_
        refine fa rfl .no Fx.fo43_0 (.u rfl) ?_
        refine .nil ?_
        refine Wp.pr 23 (by kernel_rfl) ?_
        refine ld rfl .no Fx.ag9 (.u rfl) (fun _ => (hs.at (by omega) ey 0 _ rfl).rd) ?_
        refine .nil ⟨⟨rfl, rfl⟩, ?_⟩
        refine Wp.b1 28 (by kernel_rfl) ?_
        refine kv rfl .no Fx.go18 (Eva.cons (.u rfl) Eva.nil) (fun _ => root_ok D169 hRD _ hsRD hK (by omega)) ?_
        refine .nil ?_
        refine Wp.one 29 (by kernel_rfl) ?_
        refine bCe (([V h.level, uv .u64 h.gen, uv .u64 h.epoch, uv .u64 h.num, .int .i64 (L182.length : Int), .int .i64 (l.length : Int), .string x.user, .string y.user] ++ ba 32 (rootD D169))) rfl .no Fx.bp38_0_1_2_3_4_5_6_7_8 (.cons (.u rfl) rfl (.cons (.u rfl) rfl (.cons (.u rfl) rfl (.cons (.u rfl) rfl (.cons (.u rfl) rfl (.cons (.u rfl) rfl (.cons (.u rfl) rfl (.cons (.u rfl) rfl (.cons (.u rfl) rfl .nil))))))))) rfl (rfl) ?_
        refine .nil ?_
        refine Wp.one 30 (by kernel_rfl) ?_
        refine asg rfl .no (.u rfl) ?_
        refine .nil ?_
        refine Wp.b1 31 (by kernel_rfl) ?_
        refine sw rfl (.u rfl) (.u rfl) rfl Fx.sz38 (.there (.there (.there (.there (.there (.there .here)))))) rfl (mone rfl rfl rfl rfl rfl rfl rfl rfl) ?_
        refine .nil ?_
        refine Wp.one 32 (by kernel_rfl) ?_
        refine asg rfl .no (.u rfl) ?_
        refine .nil ?_
        refine Wp.last (by kernel_rfl) ?_
        refine .code ?_
        refine .ret ?_
        refine We.fin0 Tryd.results8 (.tmp rfl (.cell rfl (fun w hw => run_loadVarN Fx.ag38 (RdN.own .here) ((by first | exact mt_len | exact Meta.len _)) hw) (.tmp rfl .nil))) ?_
        have eF := tb_filt (root := root) (h := h) (blk := blk) (every := every) (X := X156) eUS eL155 (by rw [eX156, eL74] <;> rfl)
        have eI := tb_idx (root := root) (h := h) (every := every) (bits := bits) eR (by rw [eW156, eF]) eL166 (by omega) eL157 eL168
        have eS := tb_sidx (root := root) (h := h) (every := every) (bits := bits) (X := X169) eI (by rw [eX169, eL74] <;> rfl)
        have eB := tb_bytes (root := root) (h := h) (every := every) (bits := bits) eO eF eS eO156 eO169 (by omega) eL182
        refine ⟨hR182, L182, (tabOf root h l blk every bits).info, 0, .inr ⟨hnb, eB, rfl, rfl⟩, rfl, ?_, hsR182⟩
        have eM := tb_info eB eD eF eS eD156 eD169 ex ey
        exact congrArg (fun z => Value.tuple #[hR182.val L182.length, .agg (List.toArray z), .int .i64 0]) eM

end Go.Proofs.YtbdnclpopappeaaDoor

namespace Go.Proofs.YtbdnclpopappeaaDoor
set_option linter.unusedSimpArgs false
set_option linter.unusedVariables false
open Go.Tan Go.RowKit

namespace FxTbH
theorem go51 : goFn Tryd.prog 51 = true := by kernel_rfl
theorem go17 : goFn Tryd.prog 17 = true := by kernel_rfl
end FxTbH
namespace Fx
theorem fo91_0 : fOff Tryd.prog 91 0 = some 0 := by kernel_rfl
theorem fo91_1 : fOff Tryd.prog 91 1 = some 64 := by kernel_rfl
theorem go73 : goFn Tryd.prog 73 = true := by kernel_rfl
theorem go43 : goFn Tryd.prog 43 = true := by kernel_rfl
theorem fo91_2 : fOff Tryd.prog 91 2 = some 65 := by kernel_rfl
theorem ag89 : aggN Tryd.prog 89 = some none := by kernel_rfl
theorem se89 : slE Tryd.prog 89 = some (96, 34, 72) := by kernel_rfl
theorem ag96 : aggN Tryd.prog 96 = some (some 34) := by kernel_rfl
theorem zr96 : zrL Tryd.prog 96 = some ([.string ByteArray.empty, .slice none 0 0, .int .u8 0, .int .u8 0, .int .u8 0, .int .u8 0, .int .u8 0, .int .u8 0, .int .u8 0, .int .u8 0, .int .u8 0, .int .u8 0, .int .u8 0, .int .u8 0, .int .u8 0, .int .u8 0, .int .u8 0, .int .u8 0, .int .u8 0, .int .u8 0, .int .u8 0, .int .u8 0, .int .u8 0, .int .u8 0, .int .u8 0, .int .u8 0, .int .u8 0, .int .u8 0, .int .u8 0, .int .u8 0, .int .u8 0, .int .u8 0, .int .u8 0, .int .u8 0]) := by kernel_rfl
theorem sz96 : szT Tryd.prog 96 = some 34 := by kernel_rfl
theorem fo96_1 : fOff Tryd.prog 96 1 = some 1 := by kernel_rfl
theorem fo96_2 : fOff Tryd.prog 96 2 = some 2 := by kernel_rfl
theorem baT23 : baT Tryd.prog 23 32 = true := by kernel_rfl
theorem go56 : goFn Tryd.prog 56 = true := by kernel_rfl
theorem go36 : goFn Tryd.prog 36 = true := by kernel_rfl
theorem go63 : goFn Tryd.prog 63 = true := by kernel_rfl
end Fx
theorem need_ok (b : Bool) (hb : b = true) (G : PM) : Ct Tryd.prog 43 ([.bool b] : List Value).toArray G [] (fun _ μ' u => μ' = [] ∧ u = .tuple #[]) := by
  subst hb
  refine Ct.of Tryd.func43 rfl Tryd.ntmps43 rfl fun w0 hs0 => ?_
  refine .seq ?_
  refine Wk.rg [0, 1] rfl rfl ?_
  refine mv rfl .no (.u rfl) ?_
  refine nt rfl .no (.u rfl) ?_
  refine .nil ?_
  refine .code ?_
  refine .cond rfl (fun c1 => ?_) (fun c1 => ?_)
  · have c1k := c1
    exact absurd c1 (by decide)
  · have c1k := c1
    try simp only [decide_eq_true_eq, decide_eq_false_iff_not, Int.not_lt, Int.not_le, gt_iff_lt, ge_iff_le, Bool.or_eq_true, Bool.and_eq_true, Bool.or_eq_false_iff, Bool.not_eq_true', Bool.not_eq_false', Int.toNat_natCast, bne_iff_ne, beq_iff_eq, bne_eq_false_iff_eq, beq_eq_false_iff_ne, ne_eq] at c1
    refine .skip ?_
    refine .nil ?_
    refine We.fin0 Tryd.results43 .nil ?_
    exact ⟨rfl, rfl⟩

theorem tOpen_ok (root : Nat → Y) (h : Hd) (ha : Sh) (vr vi : Value) (b part : Nat) (xs L : List Y) (hx : Sh) (G : PM) (hsa : SlR G 1 encY ha (headL h)) (hsx : SlR G 1 encY hx xs) (hK : RdNP G 0 0 (wa 64 kW)) (hlx : xs.length ≤ 1000000) (hp : part ≤ 1000000000) (ho : openAt root h part xs = some L) : Ct Tryd.prog 56 ([.pointer (some ⟨b, 0, none⟩), .int .i64 (part : Int), hx.val xs.length] : List Value).toArray G [.blk b (cl (wrC (keyEnc root (headL h)) (keyMac root (headL h)) (ha.val (headL h).length) vr vi) 91)] (fun G' μ' u => ∃ h', μ' = [.blk b (cl (wrC (keyEnc root (headL h)) (keyMac root (headL h)) (ha.val (headL h).length) vr vi) 91)] ∧ u = Sh.val h' L.length ∧ SlR G' 1 encY h' L) := by
  refine Ct.of Tryd.func56 rfl Tryd.ntmps56 rfl fun w0 hs0 => ?_
  refine .seq ?_
  refine Wk.rg [0] rfl rfl ?_
  refine asg rfl .no (.u rfl) ?_
  refine .nil ?_
  refine .code ?_
  refine .seq ?_
  refine Wk.draw (mc := ⟨false, false⟩) [0, 1, 2, 3, 4, 5, 7, 8, 9, 10, 11, 6, 12, 13, 14, 15, 16, 17] Fx.mix (by kernel_rfl) ?_
  refine mv rfl .no (.u rfl) ?_
  refine nc rfl .no (.u rfl) ?_
  refine fz rfl .no Fx.fo91_0 (.u rfl) ?_
  refine lA rfl .no Fx.ag70 (.u rfl) (fun _ => RdN.part (n := 64) (cs' := ba 32 (keyEnc root (headL h)) ++ ba 32 (keyMac root (headL h))) .here (wrc_key)) (fun _ => (by first | exact (key_len _ _).trans (key_len _ _).symm | exact key_len _ _ | exact ba_len _ _ | rfl)) ?_
  refine mv rfl .no (.u rfl) ?_
  refine ci rfl .no rfl Fx.cv3_24 (.u rfl) ?_
  refine mv rfl .no (.u rfl) ?_
  refine nc rfl .no (.u rfl) ?_
  refine fz rfl .no Fx.fo91_1 (.u rfl) ?_
  refine ld rfl .no Fx.ag36 (.u rfl) (fun _ => Rd.own .here wrc_ad) ?_
  refine mv rfl .no (.u rfl) ?_
  refine kv rfl .no FxTbH.go51 (Eva.cons (.u rfl) Eva.nil) (fun _ => Nonce_ok _ _) ?_
  refine kc rfl Fx.go73 (Eva.cons (.u rfl) (Eva.cons (.u rfl) (Eva.cons (.u rfl) (Eva.cons (.u rfl) Eva.nil)))) (Open_ok (keyEnc root (headL h)) (keyMac root (headL h)) (nonceF (BitVec.ofInt 64 (part : Int))) (headL h) ha xs hx _ hsa hsx hK (by rw [head_len]; decide) (by omega)) ?_
  rintro _ G22 μ22 hG22 ⟨v22, L22, e22, hO22, rfl, rfl⟩
  obtain ⟨rfl, rfl⟩ : L22 = L ∧ e22 = 0 := OpenR.some (by rw [← ho]; exact hO22)
  have hsa := hsa.mono hG22
  have hsx := hsx.mono hG22
  have hK := hK.mono hG22
  refine mv rfl .no (.u rfl) ?_
  refine ex rfl .no (.u rfl) rfl ?_
  refine ex rfl .no (.u rfl) rfl ?_
  refine asg rfl .no (.u rfl) ?_
  refine asg rfl .no (.u rfl) ?_
  refine .nil ?_
  refine .code ?_
  refine .seq ?_
  refine Wk.rg [0, 1, 2] rfl rfl ?_
  refine mv rfl .no (.u rfl) ?_
  refine cp rfl .no (.u rfl) (.u rfl) rfl ?_
  refine kv rfl .no Fx.go43 (Eva.cons (.u rfl) Eva.nil) (fun _ => need_ok _ (rfl) _) ?_
  refine .nil ?_
  refine .code ?_
  refine .seq ?_
  refine Wk.rg [0, 1] rfl rfl ?_
  refine mv rfl .no (.u rfl) ?_
  refine asg rfl .no (.u rfl) ?_
  refine .nil ?_
  refine .code ?_
  refine .ret ?_
  refine we_fb .here (keys_k .here rfl (keys_0)) ?_; intro GfR22 hR22 hleR22 evR22 hsR22; subst evR22
  have hsa := hsa.mono hleR22
  have hsx := hsx.mono hleR22
  have hK := hK.mono hleR22
  refine We.fin Tryd.results56 (.tmp rfl .nil) (MSub.cons .here rfl MSub.nil) ?_
  exact ⟨hR22, rfl, rfl, hsR22⟩

theorem whole_ok (root : Nat → Y) (h : Hd) (ps : List (RowT × Sh)) (ix : List Y) (ha hr hi : Sh) (b : Nat) (G : PM) (hR : RdrR G h ps ix ha hr hi) (hK : RdNP G 0 0 (wa 64 kW)) (i part : Nat) (p : RowT × Sh) (L : List Y) (hp : ps[i]? = some p) (hpt : part ≤ 1000000000) (hw : wholeT root h p.1 part = some L) : Ct Tryd.prog 36 ([.pointer (some ⟨b, 0, none⟩), .int .i64 (i : Int), .int .i64 (part : Int)] : List Value).toArray G [.blk b (cl (wrC (keyEnc root (headL h)) (keyMac root (headL h)) (ha.val (headL h).length) (hr.val ps.length) (hi.val ix.length)) 91)] (fun G' μ' u => ∃ h', μ' = [.blk b (cl (wrC (keyEnc root (headL h)) (keyMac root (headL h)) (ha.val (headL h).length) (hr.val ps.length) (hi.val ix.length)) 91)] ∧ u = Sh.val h' L.length ∧ SlR G' 1 encY h' L) := by
  refine Ct.of Tryd.func36 rfl Tryd.ntmps36 rfl fun w0 hs0 => ?_
  have hpm := List.mem_of_getElem? hp
  have hpe := hR.each p hpm; have hsm := hR.sm p hpm
  have hil := (List.getElem?_eq_some_iff.1 hp).1; have hpl := hR.len
  refine .seq ?_
  refine Wk.rg [0] rfl rfl ?_
  refine asg rfl .no (.u rfl) ?_
  refine .nil ?_
  refine .code ?_
  refine .seq ?_
  refine Wk.rg [0, 1, 2, 3, 4, 5, 6, 7, 8] rfl rfl ?_
  refine mv rfl .no (.u rfl) ?_
  refine nc rfl .no (.u rfl) ?_
  refine fz rfl .no Fx.fo91_2 (.u rfl) ?_
  refine ld rfl .no Fx.ag89 (.u rfl) (fun _ => Rd.own .here wrc_out) ?_
  refine mv rfl .no (.u rfl) ?_
  refine ih rfl .no Fx.se89 (.u rfl) (.u rfl) (fun _ => by omega) (fun _ => by omega) (fun _ => hR.rows.nn (k := i) (by first | omega | (simp only [Bool.and_eq_true, decide_eq_true_eq] at hc; omega) | (simp only [List.length_cons, List.length_nil]; omega))) ?_
  refine lA rfl .no Fx.ag96 (.u rfl) (fun _ => (hR.rows.at (by omega) hp).rd) (fun _ => rowC_len) ?_
  refine al rfl Fx.zr96 ?_; intro b7
  refine sw rfl (.u rfl) (.u rfl) rfl Fx.sz96 .here rfl (rowC_one _) ?_
  refine .nil ?_
  refine .code ?_
  refine .seq ?_
  refine Wk.draw (mc := ⟨false, false⟩) [0, 1, 3, 4, 2, 5, 6] Fx.mix (by kernel_rfl) ?_
  refine fz rfl .no Fx.fo96_1 (.u rfl) ?_
  refine ld rfl .no Fx.ag36 (.u rfl) (fun _ => Rd.own .here (by first | exact wap_f rfl | rfl)) ?_
  refine fz rfl .no Fx.fo96_2 (.u rfl) ?_
  refine lA rfl .no Fx.ag23 (.u rfl) (fun _ => RdN.part (n := 32) (cs' := ba 32 p.1.leaf) .here (rowC_leaf)) (fun _ => (by first | exact rowC_len | exact ba_len _ _ | rfl)) ?_
  refine kv rfl .no FxTbH.go17 (Eva.cons (.u rfl) Eva.nil) (fun _ => leaf_ok p.1.bytes p.2 _ hpe hK (by omega)) ?_
  refine eqB rfl .no Fx.baT23 (.u rfl) (.u rfl) ?_
  refine kv rfl .no Fx.go43 (Eva.cons (.u rfl) Eva.nil) (fun _ => need_ok _ (wh_leaf hw) _) ?_
  refine .nil ?_
  refine .code ?_
  refine .seq ?_
  refine Wk.rg [0, 1, 2, 3, 4, 5] rfl rfl ?_
  refine mv rfl .no (.u rfl) ?_
  refine mv rfl .no (.u rfl) ?_
  refine fz rfl .no Fx.fo96_1 (.u rfl) ?_
  refine ld rfl .no Fx.ag36 (.u rfl) (fun _ => Rd.own .here (by first | exact wap_f rfl | rfl)) ?_
  refine ka rfl (.inr rfl) Fx.go56 (Eva.cons (.u rfl) (Eva.cons (.u rfl) (Eva.cons (.u rfl) Eva.nil))) (mtk1 (.there .here)) (tOpen_ok root h ha _ _ b part p.1.bytes L p.2 _ hR.ad hpe hK hsm hpt (wh_open hw)) ?_
  rintro _ G26 μ26 hG26 ⟨h26, rfl, rfl, hs26⟩
  have hR := hR.mono hG26
  have hK := hK.mono hG26
  have hpe := hpe.mono hG26
  refine asg rfl .no (.u rfl) ?_
  refine .nil ?_
  refine .code ?_
  refine .ret ?_
  refine We.fin Tryd.results36 (.tmp rfl .nil) (MSub.cons .here rfl MSub.nil) ?_
  exact ⟨h26, rfl, rfl, hs26⟩

theorem ents_ok (root : Nat → Y) (h : Hd) (ps : List (RowT × Sh)) (ix : List Y) (ha hr hi : Sh) (b : Nat) (G : PM) (hR : RdrR G h ps ix ha hr hi) (hK : RdNP G 0 0 (wa 64 kW)) (i : Nat) (p : RowT × Sh) (l : List Ent) (hp : ps[i]? = some p) (he : entsT root h (ps.map (·.1)) i = some l) : Ct Tryd.prog 39 ([.pointer (some ⟨b, 0, none⟩), .int .i64 (i : Int)] : List Value).toArray G [.blk b (cl (wrC (keyEnc root (headL h)) (keyMac root (headL h)) (ha.val (headL h).length) (hr.val ps.length) (hi.val ix.length)) 91)] (fun G' μ' u => ∃ h', μ' = [.blk b (cl (wrC (keyEnc root (headL h)) (keyMac root (headL h)) (ha.val (headL h).length) (hr.val ps.length) (hi.val ix.length)) 91)] ∧ u = Sh.val h' l.length ∧ SlR G' 4 Ent.cells h' l) := by
  refine Ct.of Tryd.func39 rfl Tryd.ntmps39 rfl fun w0 hs0 => ?_
  have hpm := List.mem_of_getElem? hp
  have hsm := hR.sm p hpm
  have hil := (List.getElem?_eq_some_iff.1 hp).1; have hpl := hR.len
  obtain ⟨y, hwy, hry⟩ := en_inv he
  rw [map_fst rfl hp] at hwy
  have hly := wh_len hwy
  refine .seq ?_
  refine Wk.rg [0] rfl rfl ?_
  refine asg rfl .no (.u rfl) ?_
  refine .nil ?_
  refine .code ?_
  refine .seq ?_
  refine Wk.rg [0, 1, 2, 3, 4, 5, 6, 7, 8, 9, 10] rfl rfl ?_
  refine mv rfl .no (.u rfl) ?_
  refine mv rfl .no (.u rfl) ?_
  refine mv rfl .no (.u rfl) ?_
  refine arn (((2 + i) : Nat) : Int) rfl .no (.u rfl) (.u rfl) rfl (fun _ => by omega) (fun _ => wrap_i64 (by omega) (by omega)) ?_
  refine ka rfl (.inr rfl) Fx.go36 (Eva.cons (.u rfl) (Eva.cons (.u rfl) (Eva.cons (.u rfl) Eva.nil))) (mtk1 .here) (whole_ok root h ps ix ha hr hi b _ hR hK i (2 + i) p y hp (by omega) hwy) ?_
  rintro _ G12 μ12 hG12 ⟨h12, rfl, rfl, hs12⟩
  have hR := hR.mono hG12
  have hK := hK.mono hG12
  refine kc rfl Fx.go63 (Eva.cons (.u rfl) Eva.nil) (bRead_ok y h12 _ hs12 (by omega)) ?_
  rintro _ G13 μ13 hG13 ⟨h13, l13, er13, hB13, rfl, rfl, hs13⟩
  rw [hry] at hB13
  simp only [Prod.mk.injEq] at hB13
  obtain ⟨rfl, rfl⟩ := hB13
  have hR := hR.mono hG13
  have hK := hK.mono hG13
  have hs12 := hs12.mono hG13
  refine mv rfl .no (.u rfl) ?_
  refine ex rfl .no (.u rfl) rfl ?_
  refine ex rfl .no (.u rfl) rfl ?_
  refine asg rfl .no (.u rfl) ?_
  refine asg rfl .no (.u rfl) ?_
  refine .nil ?_
  refine .code ?_
  refine .seq ?_
  refine Wk.rg [0, 1, 2] rfl rfl ?_
  refine mv rfl .no (.u rfl) ?_
  refine cp rfl .no (.u rfl) (.u rfl) rfl ?_
  refine kv rfl .no Fx.go43 (Eva.cons (.u rfl) Eva.nil) (fun _ => need_ok _ (rfl) _) ?_
  refine .nil ?_
  refine .code ?_
  refine .seq ?_
  refine Wk.rg [0, 1] rfl rfl ?_
  refine mv rfl .no (.u rfl) ?_
  refine asg rfl .no (.u rfl) ?_
  refine .nil ?_
  refine .code ?_
  refine .ret ?_
  refine We.fin Tryd.results39 (.tmp rfl .nil) (MSub.cons .here rfl MSub.nil) ?_
  exact ⟨h13, rfl, rfl, hs13⟩

end Go.Proofs.YtbdnclpopappeaaDoor
